import Derived.Test.YtgaghlbepnjhiaaGreatRg6
set_option maxRecDepth 100000
set_option linter.all false
open Bool renaming false->ae,true->ab
open Decidable renaming decide->ak
open Option renaming some->aa
open Sum renaming elim->cQ
noncomputable section
namespace Go.Proofs.YtgaghlbepnjhiaaGreat
open Go Go.RowKit Dp
namespace Rx
open Tryz
def Lw(F:(au)->(aw)->(Int)->Option (Bool))(a0:Int)(a1:au)(a2:aw):Option (Bool):=(F a1 a2 a0).bind λx1=>aa !x1
def C_(F:(au)->(aw)->(Int)->Option (Bool))(a0:List Int)(a1:au)(a2:aw):Int->Option (Int⊕Unit⊕Int):=λx1=>if ak (x1<len a0)=ab then(idx a0 x1).bind λx2=>(Lw F x2 a1 a2).bind λx3=>if x3=ab then aa (.inr (.inr x1))else aa (.inl (W (x1+1)))else aa (.inr (.inl ()))
def RR(F:(au)->(aw)->(Int)->Option (Bool))(a0:List Int)(a1:au)(a2:aw):Option (Int):=(aG (C_ F a0 a1 a2) 0).bind λx4=>cQ (λx5=>aa (-1)) (aa) x4
def R_(F:(au)->(aw)->(Int)->Option (Bool))(a0:List Int)(a1:au)(a2:aw):Option (Bool):=(RR F a0 a1 a2).bind λx1=>aa (ak (x1>=0))
def Sn(F:(au)->(aw)->(Int)->Option (Bool))(a0:au)(a1:aw)(a2:Int):Option (Bool):=(Jz a0 a1 a2).bind λx1=>(if(!x1.2)=ab then aa ab else(Fl a0 a1 x1.1).bind λx2=>if(!x2)=ab then aa ab else(tr a1 4 a2).bind λx3=>if x3=ab then aa ab else(idx a1.aT a2).bind λx4=>(idx a0.ay a2).bind λx5=>aa (ak (x4<x5.fa))).bind λx6=>if x6=ab then aa ae else(idx a0.ay a2).bind λx7=>(R_ F x7.ci a0 a1).bind λx8=>aa !x8
def wJ(n:Nat):(au)->(aw)->(Int)->Option (Bool):=Nat.rec (motive:=λ_=>(au)->(aw)->(Int)->Option (Bool)) (λ_ _ _=>none) (λ_ F=>Sn F) n
def aaZ(a0:au)(a1:aw)(a2:Int):Option (Bool):=wJ 64 a0 a1 a2
def E9(n:Nat):az D:=⟨93,z1,[.lf .bool],z4,[],z5,[],λh=>let g:=h.2.2.2.2.2.2;wJ n ⟨h.1,h.2.1,h.2.2.1,h.2.2.2.1,h.2.2.2.2.1,h.2.2.2.2.2.1⟩ ⟨g.1,g.2.1,g.2.2.1,g.2.2.2.1⟩ g.2.2.2.2⟩
def c93:az D:=E9 64
def ajz(n:Nat):az D:=⟨158,[qi,.el 3,.el 14],[.lf .bool],[aN,.one (.rp 1 3 [0]),.one (.rp 7 14 [0])],[],z5,[],λh=>Lw (wJ n) h.1 h.2.1 h.2.2⟩
def aiQ(n:Nat):az D:=⟨213,[aL,.el 3,.el 14],z8,[.one (bS),.one (.fn 158 [.rp 1 3 [0],.rp 7 14 [0]])],[],z5,[],λh=>RR (wJ n) h.1 h.2.1 h.2.2⟩
def ajA(n:Nat):az D:=⟨157,[aL,.el 3,.el 14],[.lf .bool],[.one (bS),.one (.fn 158 [.rp 1 3 [0],.rp 7 14 [0]])],[],z5,[],λh=>R_ (wJ n) h.1 h.2.1 h.2.2⟩
def aCC(n:Nat)(hH:gz prog T (E9 n)):gz prog T (ajz n):=fo [E9 n] [.tmp 4] .o ⟨hH,trivial⟩ func158
def aBY(n:Nat)(hH:gz prog T (E9 n)):gz prog T (aiQ n):=fo [ajz n] [.tmp 4] z3 ⟨aCC n hH,trivial⟩ func213
def aCD(n:Nat)(hH:gz prog T (E9 n)):gz prog T (ajA n):=fo [aiQ n] [.tmp 4] .o ⟨aBY n hH,trivial⟩ func157
def agf:∀n,gz prog T (E9 n)
 |0=>arF call93 rfl (λh=>rfl)
 |n+1=>fo [XO,XN,Fe,ajA n] [.tmp 6] (qn (qn (qm (qm (qt 43 3600) .o) .o))) ⟨ajD,ajC,Jh,aCD n (agf n),trivial⟩ func93
def azG:CK c93:=agf 64
def Gq(a0:fZ):Option (Bool):=(if ak (imax a0.X a0.Y<=5000)=ab then aa (ak (eD a0.X a0.Y>=(-5000)))else aa ae).bind aa
def XG:az D:=⟨214,z9,[.lf .bool],wo,[],z5,[],λh=>Gq ⟨h.1,h.2⟩⟩
def aiO:CK XG:=fo [] [.tmp 2] Cq trivial func214
def zp(a0:Int)(a1:Int):Option (Int):=(nJ a0 a1).bind λx1=>(lA a0 a1).bind λx2=>(if ak (x2<0)=ab then aa (W (x1-1))else aa x1).bind aa
def Pp:az D:=⟨264,z9,z8,fB,[],z5,[],λh=>zp h.1 h.2⟩
def Xx:CK Pp:=fo [] [.tmp 4] (qn (qw (qn (qp ⟨z8,pi,[],[],3216⟩ .o .o)) .o)) trivial func264
def X8(a0:Int)(a1:Int):Option (Int):=(zp (W (-a0)) a1).bind λx1=>aa (W (-x1))
def ahZ:az D:=⟨263,z9,z8,fB,[],z5,[],λh=>X8 h.1 h.2⟩
def aBc:CK ahZ:=fo [Pp] [.tmp 4] .o ⟨Xx,q0⟩ func263
def X7(a0:Int)(a1:Int):Option (Int×Int):=(if ak (a0<(-1000000000000000000))=ab then aa ab else if ak (a0>1000000000000000000)=ab then aa ab else if ak (a1<1)=ab then aa ab else aa (ak (a1>1000000000))).bind λx1=>if x1=ab then aa (0,1)else(X8 a0 a1).bind λx2=>aa (x2,0)
def ah2:az D:=⟨262,z9,z9,[aN,dE,.one (.fn 263 [])],[],fB,[],λh=>X7 h.1 h.2⟩
def aBd:CK ah2:=fo [ahZ] [.tmp 6,.tmp 7] Q3 ⟨aBc,q0⟩ func262
def PU(a0:Int)(a1:Int):Option (Int×Int):=(X7 a0 a1).bind aa
def aiN:az D:=⟨215,z9,z9,fB,[],fB,[],λh=>PU h.1 h.2⟩
def aBV:CK aiN:=fo [ah2] [.tmp 4,.tmp 5] .o ⟨aBd,q0⟩ func215
def Kx(a0:b9)(a1:fZ):Option (Int×Int):=((Aa a0).bind λx1=>if(!x1)=ab then aa ab else(Gq a1).bind λx2=>aa !x2).bind λx3=>if x3=ab then aa (0,1)else(PU (W (W (W (a1.X*a1.X)+W (a1.Y*a1.Y))*a0.fR)) 1000).bind aa
def ajy:az D:=⟨159,ZN,z9,[.agg [bB,bp,cf,dm,cr,kR],.agg [ep,ib]],[],fB,[],λh=>Kx ⟨h.1,h.2.1,h.2.2.1,h.2.2.2.1,h.2.2.2.2.1,h.2.2.2.2.2.1⟩ ⟨h.2.2.2.2.2.2.1,h.2.2.2.2.2.2.2⟩⟩
def aCB:CK ajy:=fo [Ji,XG,aiN] [.tmp 4,.tmp 5] (qw (qm (qt 13 2576) .o) .o) ⟨Pw,aiO,aBV,q0⟩ func159
def akH(a0:Int):Int×Int->Option (Int×Int⊕Int):=λx2=>if ak (x2.1<x2.2)=ab then(nJ (W (W (x2.1+x2.2)+1)) 2).bind λx3=>(if ak (W (x3*x3)<=a0)=ab then aa (x3,x2.2)else aa (x2.1,W (x3-1))).bind λx4=>aa (.inl x4)else aa (.inr x2.1)
def PV(a0:Int):Option (Int×Int):=(if ak (a0<0)=ab then aa ab else aa (ak (a0>1000000000000000000))).bind λx1=>if x1=ab then aa (0,1)else(aG (akH a0) (0,1000000000)).bind λx5=>aa (x5,0)
def ajx:az D:=⟨160,z8,z9,z5,[],fB,[],λh=>PV h⟩
def aCA:CK ajx:=fo [] [.tmp 2,.tmp 3] (qw (qm (qt 12 2320) .o) (qw (qm (.loop ⟨z9,[(4,aN),(5,dE)],[],[],2641⟩ ab [(.exit 0,⟨z8,sn,[],[],2641⟩)] (qw (qv (qp ⟨z9,[(4,aN),(5,dE)],[],[],4499⟩ .o .o)) .o)) .o) .o)) trivial func160
def Ky(a0:b9)(a1:Int):Option (Int):=(Kx a0 (fZ.mk a0.Max 0)).bind λx1=>(if(x1.2 !=0)=ab then aa ab else aa (ak (a1<0))).bind λx2=>if x2=ab then aa 0 else if ak (a1>=x1.1)=ab then aa a0.Max else(nJ (W (1000*a1)) a0.fR).bind λx3=>(PV x3).bind λx4=>aa x4.1
def c94:az D:=⟨94,QV,z8,QO,[],z5,[],λh=>Ky ⟨h.1,h.2.1,h.2.2.1,h.2.2.2.1,h.2.2.2.2.1,h.2.2.2.2.2.1⟩ h.2.2.2.2.2.2⟩
def azF:CK c94:=fo [ajy,ajx] [.tmp 4] (qn (qw (qm (qm (qt 17 3600) .o) .o) .o)) ⟨aCB,aCA,q0⟩ func94
def S3(a0:dG)(a1:au)(a2:aw):Int×List Int->Option (Int×List Int⊕List Int):=λx4=>if ak (x4.1<len a0.c_)=ab then(idx a0.c_ x4.1).bind λx5=>(KQ a1.ay x4.1).bind λx6=>(if ak (x6>=0)=ab then(aaZ a1 a2 x6).bind aa else aa ae).bind λx8=>(if x8=ab then(idx a2.aT x6).bind λx9=>(Ky x5 x9).bind λbb=>(idx x4.2 x4.1).bind λbi=>(idx x4.2 x4.1).bind λbF=>(dq x4.2 x4.1 bb).bind aa else aa x4.2).bind λcF=>aa (.inl (W (x4.1+1),cF))else aa (.inr x4.2)
def Mn(a0:dG)(a1:au)(a2:aw):Option (Int×List Int):=(u5 a0).bind λx1=>if(x1 !=0)=ab then aa (x1,[])else(pS a1 a2).bind λx2=>if(x2 !=0)=ab then aa (x2,[])else(mE 0 (len a0.c_)).bind λx3=>(aG (S3 a0 a1 a2) (0,x3)).bind λb7=>aa (0,b7)
def c43:az D:=⟨43,[qi,qi,jy,qi,db,dN,dz,qi,qi,cq,cN,aL,bh],kL,[.agg [bB,bp,bI],.agg [dm,ei,kR,jL,ib,tN],.agg [rm,Aj,.h 11 [0],.h 12 [0]]],[],[.one (.own 1000),aN],zP,λh=>let g:=h.2.2.2.2.2.2;Mn ⟨h.1,h.2.1,h.2.2.1⟩ ⟨h.2.2.2.1,h.2.2.2.2.1,h.2.2.2.2.2.1,g.1,g.2.1,g.2.2.1⟩ ⟨g.2.2.2.1,g.2.2.2.2.1,g.2.2.2.2.2.1,g.2.2.2.2.2.2⟩⟩
def aAm:CK c43:=fo [rU,I_,c91,c93,c94] [.tmp 6,.tmp 7] (qv (qn (qw (qw (.loop ⟨kL,[(32,aN)],[(4432,.sl 0 3 1 [])],[4432],5264⟩ ab [(.exit 0,⟨fm,[],[(4432,.sl 0 3 0 [])],[4432],5264⟩)] (qn (qw (qm (qn (qw (qr ⟨[.lf .bool],[(44,qa),(45,qa),(46,qa),(47,qa),(48,aN)],[],[],6994⟩) (qp ⟨fm,[],[(4432,.sl 0 3 0 [])],[4432],7059⟩ .o .o))) .o) .o))) .o) .o))) ⟨tq,Pc,azI,azG,azF,q0⟩ func43
def OY(a0:cH):Option (rc):=(GP a0.pU).bind λx1=>(GQ a0.rZ).bind λx2=>(GN a0.aw.aE).bind λx3=>(GO a0.aw.aj).bind λx4=>(u6 a0.aw.aT).bind λx5=>(zY a0.aw.aP).bind λx6=>aa (a0.Time,x3,x4,x5,x6,x1,x2)
def c44:az D:=⟨44,QS,QS,[.agg [bB,bR,bI,bU,ei,kR,jL]],[],[.agg [bB,.own 1000,.own 1001,.own 1002,.own 1003,.own 1004,.own 1005]],[(1000,.sl 1 4 1 []),(1001,.sl 9 163 2 []),(1002,.sl 0 3 3 []),(1003,.sl 10 80 4 []),(1004,.sl 11 117 5 []),(1005,.sl 12 202 6 [])],λh=>OY ⟨h.1,⟨h.2.1,h.2.2.1,h.2.2.2.1,h.2.2.2.2.1⟩,h.2.2.2.2.2.1,h.2.2.2.2.2.2⟩⟩
def aAl:CK c44:=fo [Ja,Xe,Xd,Xc,Xb,I9] [.cell 2 69] .o ⟨Xl,agd,agc,agb,aga,Pb,q0⟩ func44
def W8(a1:List Int):Int×List Int->Option (Int×List Int⊕List Int):=λx2=>if ak (x2.1<len a1)=ab then(idx a1 x2.1).bind λx3=>(if ak (x3>=0)=ab then aa (ak (x3<len x2.2))else aa ae).bind λx4=>(if x4=ab then(idx x2.2 x3).bind λx5=>(idx x2.2 x3).bind λx6=>(dq x2.2 x3 0).bind aa else aa x2.2).bind λx8=>aa (.inl (W (x2.1+1),x8))else aa (.inr x2.2)
def O8(a0:List Int)(a1:List Int):Option (List Int):=(u6 a0).bind λx1=>(aG (W8 a1) (0,x1)).bind aa
def c45:az D:=⟨45,[aL,aL],fm,Cp,[],iS,pg,λh=>O8 h.1 h.2⟩
def aAk:CK c45:=fo [I9] [.tmp 4] (qn (qw (qw (.loop ⟨kL,[(12,aN)],[(2264,.sl 0 3 1 [])],[2264],2960⟩ ab [(.exit 0,⟨fm,[],[(2264,.sl 0 3 0 [])],[2264],2960⟩)] (qn (qw (qm (qw (qr ⟨[.lf .bool],[(19,qa),(20,qa),(21,qa),(22,qa),(23,aN)],[],[],3538⟩) (qp ⟨fm,[],[(2264,.sl 0 3 0 [])],[2264],3603⟩ .o .o)) .o) .o))) .o) .o)) ⟨Pb,q0⟩ func45
def WM(a0:gK)(a1:cH)(x4:List Part):Int×List Int×Int×rc->Option (Int×List Int×Int×rc⊕List Int×Int×rc⊕aab):=λx5=>if ak (x5.1<len x4)=ab then((idx x4 x5.1).bind λx6=>(if(x6.Kind==5)=ab then(bD x5.2.1 [x6.Number]).bind aa else aa x5.2.1).bind λx8=>(if ak (x6.Kind>4)=ab then aa ab else(s_ a1.aw.aP x6).bind aa).bind λbb=>if bb=ab then aa (.inl (x8,x5.2.2))else(Mj a0.au (cH.mk x5.2.2.2.1 (aw.mk x5.2.2.2.2.1 x5.2.2.2.2.2.1 x5.2.2.2.2.2.2.1 x5.2.2.2.2.2.2.2.1) x5.2.2.2.2.2.2.2.2.1 x5.2.2.2.2.2.2.2.2.2) (Act.mk 8 x6.Number x6.Kind)).bind λbi=>if(bi.2.2.2.2.2.1 !=0)=ab then aa (.inr (.inr (.inr (0,bi.2.2.2.2.2.1,[],[],[],[],[],[],[]))))else aa (.inl (x8,x5.2.2.1,bi.1,bi.2.1,bi.2.2.1,bi.2.2.2.1,bi.2.2.2.2.1,bi.2.2.2.2.2.2.1,bi.2.2.2.2.2.2.2.1))).bind λbF=>cQ (λbY=>aa (.inl (W (x5.1+1),bY))) (aa) bF else aa (.inr (.inl x5.2))
def xu(a0:gK)(a1:cH)(a2:List Part)(a3:List Part):Option (aab):=(Mm a0.au a0.gL a1).bind λx1=>if(x1 !=0)=ab then aa (0,x1,[],[],[],[],[],[],[])else(vW a0.b_).bind λx2=>if(x2 !=0)=ab then aa (0,x2,[],[],[],[],[],[],[])else(GM [a2,a1.aw.aP,a3]).bind λx3=>(za a0.b_ x3).bind λx4=>(aG (WM a0 a1 x4) (0,[],0,a1.Time,a1.aw.aE,a1.aw.aj,a1.aw.aT,a1.aw.aP,a1.pU,a1.rZ)).bind λb7=>cQ (λcM=>(Mn a0.dG a0.au (aw.mk cM.2.2.2.1 cM.2.2.2.2.1 cM.2.2.2.2.2.1 cM.2.2.2.2.2.2.1)).bind λdx=>if(dx.1 !=0)=ab then aa (0,dx.1,[],[],[],[],[],[],[])else(OY (cH.mk cM.2.2.1 (aw.mk cM.2.2.2.1 cM.2.2.2.2.1 cM.2.2.2.2.2.1 cM.2.2.2.2.2.2.1) cM.2.2.2.2.2.2.2.1 cM.2.2.2.2.2.2.2.2)).bind λcZ=>(O8 dx.2 cM.1).bind λdQ=>aa (cZ.1,0,cZ.2.1,cZ.2.2.1,cZ.2.2.2.1,cZ.2.2.2.2.1,cZ.2.2.2.2.2.1,cZ.2.2.2.2.2.2,dQ)) (aa) b7
def NT:List Ht:=[aL,aL,aL,aL,aL,aL,aL,aL,aL,qi,qi,qi,qi,qi,qi,jy,qi,db,dN,dz,qi,qi,qi,qi,qi,bh,kQ,mW,Af,qi,qi,qi,qi,qi,qi,qi,qi,qi,qi,qi,qi,qi,.lf .str,qi,qi,qi,qi,qi,qi,Ae,qi,cq,cN,aL,bh,fN,gj,bh,bh]
def Px:az D:=⟨15,NT,[qi,qi,cq,cN,aL,bh,fN,gj,aL],[.agg [bS,bR,bI,bU,ei,kR,jL,km,mX,qj,kS,nK,mY,rn,yp,.h 15 [0],wP,.h 17 [0],.h 18 [0],.h 19 [0],As,Ar,Aq,Ap,Ao,.h 25 [0],.h 26 [0],.h 27 [0],.h 28 [0],Am,Al,Ak,.h 32 [],yo,.h 34 [],.h 35 [],.h 36 [],.h 37 [],.h 38 [],.h 39 [],.h 40 [],.h 41 [],.h 42 [],.h 43 [],.h 44 [],.h 45 [],.h 46 [],.h 47 [],.h 48 [],.h 49 [0]],.agg [.h 50 [],.h 51 [0],.h 52 [0],.h 53 [0],.h 54 [0],.h 55 [0],.h 56 [0]],.one (.h 57 [0]),.one (.h 58 [0])],[],[.agg [bB,.own 1000,.own 1001,.own 1002,.own 1003,.own 1004,.own 1005],.one (.own 1006),dE],[(1000,.sl 1 4 2 []),(1001,.sl 9 163 3 []),(1002,.sl 0 3 4 []),(1003,.sl 10 80 5 []),(1004,.sl 11 117 6 []),(1005,.sl 12 202 7 []),(1006,.sl 0 3 8 [])],λh=>let g:=h.2.2.2.2.2.2;let k:=g.2.2.2.2.2.2;let u:=k.2.2.2.2.2.2;let v:=u.2.2.2.2.2.2;let w:=v.2.2.2.2.2.2;let ha:=w.2.2.2.2.2.2;let hb:=ha.2.2.2.2.2.2;let hc:=hb.2.2.2.2.2.2;let hd:=hc.2.2.2.2.2.2;xu ⟨⟨⟨h.1,h.2.1,h.2.2.1⟩,⟨h.2.2.2.1,h.2.2.2.2.1,h.2.2.2.2.2.1⟩,⟨g.1,g.2.1,g.2.2.1⟩,g.2.2.2.1,g.2.2.2.2.1,g.2.2.2.2.2.1,k.1⟩,⟨k.2.1,k.2.2.1,k.2.2.2.1⟩,⟨k.2.2.2.2.1,k.2.2.2.2.2.1,u.1,u.2.1,u.2.2.1,u.2.2.2.1⟩,⟨u.2.2.2.2.1,u.2.2.2.2.2.1,v.1⟩,⟨v.2.1,v.2.2.1,v.2.2.2.1⟩,v.2.2.2.2.1,⟨v.2.2.2.2.2.1,w.1,w.2.1,w.2.2.1,w.2.2.2.1,w.2.2.2.2.1,w.2.2.2.2.2.1,ha.1,ha.2.1⟩,⟨⟨ha.2.2.1,ha.2.2.2.1⟩,ha.2.2.2.2.1⟩,ha.2.2.2.2.2.1,⟨hb.1,hb.2.1,⟨⟨hb.2.2.1,hb.2.2.2.1⟩,hb.2.2.2.2.1,hb.2.2.2.2.2.1⟩,hc.1⟩,⟨hc.2.1⟩⟩ ⟨hc.2.2.1,⟨hc.2.2.2.1,hc.2.2.2.2.1,hc.2.2.2.2.2.1,hd.1⟩,hd.2.1,hd.2.2.1⟩ hd.2.2.2.1 hd.2.2.2.2⟩
def XM:CK Px:=fo [Jg,BX,xx,c40,Xm,c42,c43,c44,c45] [.cell 8 69,.tmp 9,.tmp 10] (qv (qv (qn (qw (qw (.loop ⟨[qi,aL,qi,qi,cq,cN,aL,bh,fN,gj],[(15,.one (.own 6864)),(53,aN)],[(6864,.sl 0 3 1 []),(2256,.box [cf,.bH,.bH,.bH,.bH,.bH,.bH]),(6096,.box [dm,.h 4 [0,1],.h 5 [0,1],.h 6 [0,1],.h 7 [0,1],.h 8 [0,1],.h 9 [0,1]])],[2256,6096],6928⟩ ae [(.exit 0,⟨ZK,[(15,.one (.own 6864))],[(6864,.sl 0 3 0 []),(2256,.box [bp,.bH,.bH,.bH,.bH,.bH,.bH]),(6096,.box [cf,.h 3 [0,1],.h 4 [0,1],.h 5 [0,1],.h 6 [0,1],.h 7 [0,1],.h 8 [0,1]])],[2256,6096],6928⟩)] (qn (qw (.n (aa (ae,[(.normal,⟨ZK,[(15,.one (.own 7066)),(69,qa),(70,qa),(71,qa),(72,qa),(73,qa)],[(7066,.sl 0 3 0 []),(2256,.box [bp,.bH,.bH,.bH,.bH,.bH,.bH]),(6096,.box [cf,.h 3 [0,1],.h 4 [0,1],.h 5 [0,1],.h 6 [0,1],.h 7 [0,1],.h 8 [0,1]])],[2256,6096,6864],7130⟩)])) (qw (qn (qp ⟨fm,[(15,.one (.own 7962))],[(7962,.sl 0 3 0 [])],[6864],8026⟩ .o .o)) (qm (qm (qr ⟨[.lf .bool],[(69,qa),(70,qa),(71,qa),(72,qa),(73,qa),(74,aN)],[],[],8091⟩) .o) .o)) .o) .o))) .o) .o)))) ⟨Pt,Jb,BW,aAo,ag3,aAn,aAm,aAl,aAk,q0⟩ func15
def SY(a0:Int)(a1:List Int):Int->Option (Int⊕Unit⊕Bool):=λx1=>if ak (x1<len a1)=ab then(idx a1 x1).bind λx2=>(if ak (x2<W (-a0))=ab then aa ab else aa (ak (x2>a0))).bind λx3=>if x3=ab then aa (.inr (.inr ae))else aa (.inl (W (x1+1)))else aa (.inr (.inl ()))
def Mf(a0:Int)(a1:List Int):Option (Bool):=(aG (SY a0 a1) 0).bind λx4=>cQ (λx5=>aa ab) (aa) x4
def c72:az D:=⟨72,kL,[.lf .bool],[aN,.one (bR)],[],z5,[],λh=>Mf h.1 h.2⟩
def azZ:CK c72:=fo [] [.tmp 4] (qw (qw (.loop ⟨z8,uQ,[],[],2576⟩ ae [(.exit 0,⟨[],[],[],[],2576⟩)] (qn (qw (qm (qw (qr ⟨[.lf .bool],[(18,qa),(19,qa),(20,qa),(21,aN)],[],[],3153⟩) .o) .o) .o))) .o) .o) trivial func72
def I7(a0:ft):Option (Bool):=(Mf 1000000 [a0.ee,a0.gw,a0.ig]).bind aa
def Xu:az D:=⟨28,mw,[.lf .bool],tA,[],z5,[],λh=>I7 ⟨h.1,h.2.1,h.2.2⟩⟩
def ahA:CK Xu:=fo [c72] [.tmp 2] .o ⟨azZ,q0⟩ func28
def I8(a0:Int):Option (Int):=aa (W (-a0))
def ajv:az D:=⟨162,z8,z8,z5,[],z5,[],λh=>I8 h⟩
def aCy:CK ajv:=fo [] [.tmp 2] .o trivial func162
def W7(a0:ft):Option (gR):=(I8 a0.ee).bind λx1=>(I8 a0.gw).bind λx2=>(I8 a0.ig).bind λx3=>aa (x1,x2,x3)
def c29:az D:=⟨29,mw,mw,[.agg [bB,bp,cf],.one (.fn 162 [])],[],tA,[],λh=>W7 ⟨h.1,h.2.1,h.2.2⟩⟩
def aAJ:CK c29:=fo [ajv] [.cell 4 72] .o ⟨aCy,q0⟩ func29
def P2(a0:Int)(a1:Int)(a2:Int):Option (Bool):=(if ak (a0<a1)=ab then aa ab else aa (ak (a0>a2))).bind aa
def ahY:az D:=⟨265,[qi,.el 0,.el 0],[.lf .bool],[aN,.one (.rp 1 0 [0]),.one (.rp 2 0 [0])],[],z5,[],λh=>P2 h.1 h.2.1 h.2.2⟩
def aBb:CK ahY:=fo [] [.tmp 4] (qw (qt 4 2192) .o) trivial func265
def zX(a0:List Int)(a1:Int)(a2:Int):Int->Option (Int⊕Unit⊕Int):=λx1=>if ak (x1<len a0)=ab then(idx a0 x1).bind λx2=>(P2 x2 a1 a2).bind λx3=>if x3=ab then aa (.inr (.inr x1))else aa (.inl (W (x1+1)))else aa (.inr (.inl ()))
def KM(a0:List Int)(a1:Int)(a2:Int):Option (Int):=(aG (zX a0 a1 a2) 0).bind λx4=>cQ (λx5=>aa (-1)) (aa) x4
def aiP:az D:=⟨213,[aL,.el 0,.el 0],z8,[.one (bS),.one (.fn 265 [.rp 1 0 [0],.rp 2 0 [0]])],[],z5,[],λh=>KM h.1 h.2.1 h.2.2⟩
def aBX:CK aiP:=fo [ahY] [.tmp 4] z3 ⟨aBb,q0⟩ func213
def Lc(a0:List Int)(a1:Int)(a2:Int):Option (Bool):=(KM a0 a1 a2).bind λx1=>aa (ak (x1>=0))
def ajB:az D:=⟨157,[aL,.el 0,.el 0],[.lf .bool],[.one (bS),.one (.fn 265 [.rp 1 0 [0],.rp 2 0 [0]])],[],z5,[],λh=>Lc h.1 h.2.1 h.2.2⟩
def aCE:CK ajB:=fo [aiP] [.tmp 4] .o ⟨aBX,q0⟩ func157
def rV(a0:List Int)(a1:Int)(a2:Int):Option (Bool):=(Lc a0 a1 a2).bind λx1=>aa !x1
def Pq:az D:=⟨216,J7,[.lf .bool],[.one (bS),dE,lB],[],z5,[],λh=>rV h.1 h.2.1 h.2.2⟩
def XF:CK Pq:=fo [ajB] [.tmp 6] .o ⟨aCE,q0⟩ func216
def X9(a0:Int)(a1:Int):Option (Int):=(zp (W (W (2*a0)+a1)) (W (2*a1))).bind aa
def ahX:az D:=⟨266,z9,z8,fB,[],z5,[],λh=>X9 h.1 h.2⟩
def aBa:CK ahX:=fo [Pp] [.tmp 4] .o ⟨Xx,q0⟩ func266
def X6(a0:Int)(a1:Int):Option (Int×Int):=(if ak (a0<(-1000000000000000000))=ab then aa ab else if ak (a0>1000000000000000000)=ab then aa ab else if ak (a1<1)=ab then aa ab else aa (ak (a1>1000000000))).bind λx1=>if x1=ab then aa (0,1)else(X9 a0 a1).bind λx2=>aa (x2,0)
def ah1:az D:=⟨262,z9,z9,[aN,dE,.one (.fn 266 [])],[],fB,[],λh=>X6 h.1 h.2⟩
def aBf:CK ah1:=fo [ahX] [.tmp 6,.tmp 7] Q3 ⟨aBa,q0⟩ func262
def JF(a0:Int)(a1:Int):Option (Int×Int):=(X6 a0 a1).bind aa
def XE:az D:=⟨217,z9,z9,fB,[],fB,[],λh=>JF h.1 h.2⟩
def aiM:CK XE:=fo [ah1] [.tmp 4,.tmp 5] .o ⟨aBf,q0⟩ func217
def P4(a0:dG)(a1:ft):Option (Int×gR):=(u5 a0).bind λx1=>if(x1 !=0)=ab then(u5 a0).bind λx7=>aa (0,0,0,x7)else((rV [a1.ee,a1.gw] (-5000) 5000).bind λx2=>if(!x2)=ab then aa ab else(rV [a1.ig] (-500000) 500000).bind λx3=>aa !x3).bind λx4=>if x4=ab then aa (0,0,0,1)else(JF (W (a1.ig+W (a1.gw*a0.ix))) (W (a0.iO+a0.ix))).bind λx5=>(rV [x5.1,W (a1.gw-x5.1)] (-500000) 500000).bind λx6=>if(!x6)=ab then aa (0,0,0,1)else aa (a1.ee,x5.1,W (a1.gw-x5.1),0)
def ajw:az D:=⟨161,Zw,pj,[.agg [bB,bp,bI],.agg [dm,cr,bQ]],[],Ct,[],λh=>P4 ⟨h.1,h.2.1,h.2.2.1⟩ ⟨h.2.2.2.1,h.2.2.2.2.1,h.2.2.2.2.2⟩⟩
def aCz:CK ajw:=fo [I_,Pq,XE] [.cell 4 141,.tmp 5] (qw (qm (qn (qw (qt 15 3088) .o)) .o) .o) ⟨Pc,XF,aiM,q0⟩ func161
def W_(a0:dG)(a1:ft):Option (Int×gR):=(I7 a1).bind λx1=>if(!x1)=ab then aa (0,0,0,1)else(W7 a1).bind λx2=>(P4 a0 (ft.mk x2.1 x2.2.1 x2.2.2)).bind aa
def ako:az D:=⟨100,Zw,pj,[.agg [bB,bp,bI],.agg [dm,cr,bQ]],[],Ct,[],λh=>W_ ⟨h.1,h.2.1,h.2.2.1⟩ ⟨h.2.2.2.1,h.2.2.2.2.1,h.2.2.2.2.2⟩⟩
def aDk:CK ako:=fo [Xu,c29,ajw] [.cell 4 141,.tmp 5] .o ⟨ahA,aAJ,aCz,q0⟩ func100
def Sc(a0:List iP):Option (List iP):=bD [] a0
def ahu:az D:=⟨295,[sy],[sy],pf,[],iS,[(1000,.sl 17 305 0 [])],λh=>Sc h⟩
def aAP:CK ahu:=by
 refine⟨call295,rfl,rfl,rfl,rfl,λoo r0 mH fp eU has nP γ w vs hv _=>?_⟩;cases has;match vs,hv with
 |[],hv=>exact hv.elim
 |_::_::_,hv=>exact hv.2.elim
 |[v],hv=>
 obtain⟨xs,eJ⟩:∃xs:List (D 17),xs=oo:=⟨_,rfl⟩;obtain⟨r,jA⟩:∃r:List (D 17),r=r0:=⟨_,rfl⟩;have g0:Rv (In γ.o [0]) w v xs:=by rw[eJ];exact hv.1.1
 have hr:bD ([]:List (D 17)) xs=aa r:=by rw[eJ,jA];exact mH
 subst jA;have hT:=GC.2;refine enter (l:=[v]) func295 rfl ntmps295 rfl ?_;refine CW.sub (L':=[(0,v)]) ⟨rfl,trivial⟩ ?_;refine CW.sr λK1 ir=>?_;refine WL.p (.slice none 0 0) rfl rfl ?_;refine WL.nx ir ?_;refine CW.seq λK2 iL=>?_;refine CW.sr λK3 mc=>?_;refine WL.p v rfl rfl ?_;obtain⟨a,m,q,rfl,hn⟩:=Ab g0;refine WL.lW (OW.isNil GC.1 rfl) rfl ?_;refine WL.nx mc ?_;cases a with
 |none=>refine CW.cond (b:=ab) rfl (λ_=>?_) (λh=>nomatch h);refine CW.sr λK4 nW=>?_;refine WL.p (.slice none 0 0) rfl rfl ?_;refine WL.nx nW ?_;rw[hn rfl]at hr;obtain rfl:=B9 hr;exact CW.mA (vs:=[.slice none 0 0]) results295 ⟨rfl,trivial⟩ ⟨_,rfl,qQ (n:=17) (e:=305) (q:=1000) (K:=[]) (M:=[]) (N:=[]) rfl rfl rfl (by simp) (by simp) (bJ.refl _ _ γ.o w) (Ow.nil _ _ _ _ _) (λx hx=>by simp at hx<;>omega)⟩ (λ_ _ h=>h)
 |some a=>refine CW.cond (b:=ae) rfl (λh=>nomatch h) (λ_=>?_);refine CW.skip ?_;refine iL _ _ ?_;refine CW.sr λK5 lJ=>?_;refine WL.step (OW.buildSlice (o:=γ.o) (k:=1000) (K:=[]) (xs:=([]:List (D 17))) GC.1 hT rfl trivial rfl rfl) rfl ?_;rintro v1 w1 ⟨o1,kC,h1⟩;have g0:=g0.rQ kC rfl;refine WL.p (.slice (aa a) m q) rfl rfl ?_;refine WL.step (OW.append (K:=[]) GC.1 hT rfl rfl h1 (@fJ.flat (D 17) _ aye _ _ _ _ _ g0.dp) hr rfl) rfl ?_;rintro v2 w2 ⟨o2,mL,h2⟩;refine WL.p v2 rfl rfl ?_;refine WL.nx lJ ?_;exact CW.mA (vs:=[v2]) results295 ⟨rfl,trivial⟩ ⟨_,rfl,qQ (n:=17) (e:=305) (q:=1000) (K:=[]) (M:=[1000]) (N:=[1000]) rfl rfl rfl (by simp) (by simp) ((kC.weaken (by simp) (by simp)).trans mL) h2 (λx hx=>by simp at hx<;>omega)⟩ (λ_ _ h=>h)
def Rr(a0:b9)(a1:Int):Option (Kl):=(Sc a0.n_).bind λx1=>aa (a0.Kind,a0.tv,eD a0.Max (imax a1 0),a0.wa,a0.fR,x1)
def ahW:az D:=⟨267,QV,J9,QO,[],[.agg [bB,bp,cf,dm,cr,.own 1000]],[(1000,.sl 17 305 5 [])],λh=>Rr ⟨h.1,h.2.1,h.2.2.1,h.2.2.2.1,h.2.2.2.2.1,h.2.2.2.2.2.1⟩ h.2.2.2.2.2.2⟩
def aA':CK ahW:=fo [ahu] [.cell 4 109] .o ⟨aAP,q0⟩ func267
def Yc(a0:dG)(a1:List Int):Int×List fZ×List b9->Option (Int×List fZ×List b9⊕List fZ×List b9):=λx6=>if ak (x6.1<len a0.c_)=ab then(idx a0.c_ x6.1).bind λx7=>(idx a1 x6.1).bind λx8=>(Rr x7 x8).bind λx9=>(bD x6.2.2 [b9.mk x9.1 x9.2.1 x9.2.2.1 x9.2.2.2.1 x9.2.2.2.2.1 x9.2.2.2.2.2]).bind λbb=>aa (.inl (W (x6.1+1),x6.2.1,bb))else aa (.inr x6.2)
def Yb(a2:List fZ)(a3:List Int):Int->Option (Int⊕Unit⊕List fZ×Int×List Int×List b9):=λbF=>if ak (bF<len a2)=ab then(idx a2 bF).bind λbY=>(rV [bY.X,bY.Y] (-5000) 5000).bind λcF=>if(!cF)=ab then aa (.inr (.inr ([],1,a3,[])))else aa (.inl (W (bF+1)))else aa (.inr (.inl ()))
def P3(a0:dG)(a1:List Int)(a2:List fZ)(a3:List Int):Option (List fZ×Int×List Int×List b9):=(u5 a0).bind λx1=>if(x1 !=0)=ab then(u5 a0).bind λcZ=>aa ([],cZ,a3,[])else(if(len a1 !=len a0.c_)=ab then aa ab else if ak (len a2>0)=ab then if(len a2 !=len a0.c_)=ab then aa ab else aa (len a3 !=len a0.c_)else aa (len a3 !=len a0.c_)).bind λx2=>if x2=ab then aa ([],8,a3,[])else((rV a1 0 5000).bind λx3=>if(!x3)=ab then aa ab else(rV a3 (-5000) 5000).bind λx4=>aa !x4).bind λx5=>if x5=ab then aa ([],1,a3,[])else(aG (Yc a0 a1) (0,a2,[])).bind λbi=>(aG (Yb a2 a3) 0).bind λb7=>cQ (λcM=>aa (bi.1,0,a3,bi.2)) (aa) b7
def aiL:az D:=⟨218,[qi,qi,jy,aL,rl,aL],[rl,qi,aL,jy],[.agg [bB,bp,bI],.one (bU),.one (ei),.one (.own 1000)],[(1000,.sl 0 3 5 [])],[.agg [.own 1001,bS],dE],[(1000,.sl 0 3 2 []),(1001,.sl 16 109 3 [1])],λh=>P3 ⟨h.1,h.2.1,h.2.2.1⟩ h.2.2.2.1 h.2.2.2.2.1 h.2.2.2.2.2⟩
def aBU:CK aiL:=fo [I_,Pq,ahW] [.cell 8 275,.tmp 9] (qn (qw (qm (qn (qw (qt 26 3472) (qw (qt 49 3537) .o))) .o) (qw (qw (.loop ⟨[qi,rl,jy],[(64,aN)],[(3794,.box [.own 4562,bR]),(4562,.sl 16 109 2 [1])],[3794],4626⟩ ab [(.exit 1,⟨[rl,jy],[],[(3794,.box [.own 4562,bS]),(4562,.sl 16 109 1 [1])],[3794],4626⟩)] .o) .o) (qm (qw (.loop ⟨z8,[(83,aN)],[(2128,.box [.bH,.bH])],[2128],5076⟩ ae [(.exit 3,⟨[],[],[(2128,.box [.bH,.bH])],[2128],5076⟩)] .o) .o) .o)))) ⟨Pc,XF,aA',q0⟩ func218
def X'(a0:dG)(a1:List Int)(a2:List fZ)(a3:ml):Option (List fZ×Int×List b9):=(mE 0 (len a0.c_)).bind λx1=>(P3 a0 a1 a2 x1).bind λx2=>(if(x2.2.1==0)=ab then(rV [a3.ee,a3.iO,a3.ix] (-500000) 500000).bind λx3=>aa !x3 else aa ae).bind λx4=>(if x4=ab then aa 1 else aa x2.2.1).bind λx5=>aa (x2.1,x5,x2.2.2.2)
def aju:az D:=⟨163,ZJ,[rl,qi,jy],Zy,[],[.agg [.own 1000,bS],dE],[(1000,.sl 16 109 2 [1])],λh=>X' ⟨h.1,h.2.1,h.2.2.1⟩ h.2.2.2.1 h.2.2.2.2.1 ⟨h.2.2.2.2.2.1,h.2.2.2.2.2.2.1,h.2.2.2.2.2.2.2⟩⟩
def aCx:CK aju:=fo [Pq,aiL] [.cell 8 275,.tmp 9] (qn (qw (qm (qt 35 4368) (qp ⟨z8,[(11,aN)],[],[],4433⟩ .o .o)) .o)) ⟨XF,aBU,q0⟩ func163
def Ft(a0:Int)(a1:Int):Option (Bool):=(if ak (imax a0 a1<=1000000000)=ab then aa (ak (eD a0 a1>=(-1000000000)))else aa ae).bind aa
def Xp:az D:=⟨306,z9,[.lf .bool],fB,[],z5,[],λh=>Ft h.1 h.2⟩
def ahj:CK Xp:=fo [] [.tmp 4] (qw (qt 4 2192) .o) trivial func306
def Fv(a0:Int):Option (Int):=(v8 a0).bind λx1=>(if ak (x1>1800)=ab then aa (W (x1-1800),(-1))else aa (x1,1)).bind λx2=>(JF (W (40000*W (x2.1*W (1800-x2.1)))) (W (4050000-W (x2.1*W (1800-x2.1))))).bind λx3=>aa (W (x2.2*x3.1))
def Pm:az D:=⟨309,z8,z8,z5,[],z5,[],λh=>Fv h⟩
def Xn:CK Pm:=fo [XE,Fa] [.tmp 2] (qv (qw (qn (qp ⟨z9,[(0,aN),(3,dE)],[],[],2960⟩ .o .o)) .o)) ⟨aiM,Jc,q0⟩ func309
def JJ(a0:Int):Option (Int):=(v8 a0).bind λx1=>(Fv (W (x1+900))).bind aa
def Xo:az D:=⟨308,z8,z8,z5,[],z5,[],λh=>JJ h⟩
def ahh:CK Xo:=fo [Fa,Pm] [.tmp 2] .o ⟨Jc,Xn,q0⟩ func308
def JI(a0:Int)(a1:Int)(a2:Int):Option (Int):=(Ft a1 a2).bind λx1=>if(!x1)=ab then aa 0 else(JJ a0).bind λx2=>(Fv a0).bind λx3=>aa (W (W (x2*a2)-W (x3*a1)))
def ahi:az D:=⟨307,mw,z8,Cs,[],z5,[],λh=>JI h.1 h.2.1 h.2.2⟩
def aAE:CK ahi:=fo [Xp,Xo,Pm] [.tmp 6] .o ⟨ahj,ahh,Xn,q0⟩ func307
def PZ(a0:iP)(a1:Int)(a2:Int):Option (Bool):=((Fu a0).bind λx1=>if(!x1)=ab then aa ab else if(a1==0)=ab then if(a2==0)=ab then aa ab else(Ft a1 a2).bind λx3=>aa !x3 else(Ft a1 a2).bind λx2=>aa !x2).bind λx4=>if x4=ab then aa ae else(JI a0.cu a1 a2).bind λx5=>(if ak (x5>0)=ab then aa ab else(JJ a0.cu).bind λx6=>(Fv a0.cu).bind λx7=>aa (ak (W (W (x6*a1)+W (x7*a2))>0))).bind λx8=>(if ak (x5>=0)=ab then(JI a0.To a1 a2).bind λx9=>if ak (x9<=0)=ab then aa x8 else aa ae else aa ae).bind aa
def ahs:az D:=⟨297,pj,[.lf .bool],[.agg [bB,bp],lB,sC],[],z5,[],λh=>PZ ⟨h.1,h.2.1⟩ h.2.2.1 h.2.2.2⟩
def aAN:CK ahs:=fo [XH,Xp,ahi,Xo,Pm] [.tmp 6] (qw (qm (qt 25 2320) .o) (qw (qt 8 3153) (qm (qt 6 3218) .o))) ⟨aiS,ahj,aAE,ahh,Xn,q0⟩ func297
def SC(a0:iP)(a1:Int)(a2:Int):Option (Bool):=(PZ a0 a1 a2).bind aa
def aht:az D:=⟨296,[qi,qi,.el 0,.el 0],[.lf .bool],[.agg [bB,bp],.one (.rp 2 0 [0]),.one (.rp 3 0 [0])],[],z5,[],λh=>SC ⟨h.1,h.2.1⟩ h.2.2.1 h.2.2.2⟩
def aAO:CK aht:=fo [ahs] [.tmp 4] .o ⟨aAN,q0⟩ func296
