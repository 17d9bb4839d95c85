import Derived.Test.YtmngjhagbjgmfaaGreatRg6
set_option maxRecDepth 100000
set_option linter.all false
open Bool renaming false->ai,true->ab
open Decidable renaming decide->ak
open Option renaming some->aa
open Sum renaming elim->dk
noncomputable section
namespace Go.Proofs.YtmngjhagbjgmfaaGreat
open Go Go.RowKit Dp
namespace Rx
open Tryz
def KB(F:(au)->(aw)->(Int)->Option (Bool))(a0:Int)(a1:au)(a2:aw):Option (Bool):=(F a1 a2 a0).bind λx1=>aa !x1
def CF(F:(au)->(aw)->(Int)->Option (Bool))(a0:List Int)(a1:au)(a2:aw):Int->Option (Int⊕Unit⊕Int):=λx1=>if ak (x1<len a0)=ab then(idx a0 x1).bind λx2=>(KB F x2 a1 a2).bind λx3=>if x3=ab then aa (.inr (.inr x1))else aa (.inl (W (x1+1)))else aa (.inr (.inl ()))
def QY(F:(au)->(aw)->(Int)->Option (Bool))(a0:List Int)(a1:au)(a2:aw):Option (Int):=(aI (CF F a0 a1 a2) 0).bind λx4=>dk (λx5=>aa (-1)) (aa) x4
def Rb(F:(au)->(aw)->(Int)->Option (Bool))(a0:List Int)(a1:au)(a2:aw):Option (Bool):=(QY F a0 a1 a2).bind λx1=>aa (ak (x1>=0))
def Rq(F:(au)->(aw)->(Int)->Option (Bool))(a0:au)(a1:aw)(a2:Int):Option (Bool):=(IW a0 a1 a2).bind λx1=>(if(!x1.2)=ab then aa ab else(ER a0 a1 x1.1).bind λx2=>if(!x2)=ab then aa ab else(sY a1 4 a2).bind λx3=>if x3=ab then aa ab else(idx a1.aW a2).bind λx4=>(idx a0.ay a2).bind λx5=>aa (ak (x4<x5.eU))).bind λx6=>if x6=ab then aa ai else(idx a0.ay a2).bind λx7=>(Rb F x7.b_ a0 a1).bind λx8=>aa !x8
def wA(n:Nat):(au)->(aw)->(Int)->Option (Bool):=Nat.rec (motive:=λ_=>(au)->(aw)->(Int)->Option (Bool)) (λ_ _ _=>none) (λ_ F=>Rq F) n
def Z7(a0:au)(a1:aw)(a2:Int):Option (Bool):=wA 64 a0 a1 a2
def ED(n:Nat):az D:=⟨80,z1,[.lf .bool],z4,[],z5,[],λh=>let g:=h.2.2.2.2.2.2;wA n ⟨h.1,h.2.1,h.2.2.1,h.2.2.2.1,h.2.2.2.2.1,h.2.2.2.2.2.1⟩ ⟨g.1,g.2.1,g.2.2.1,g.2.2.2.1⟩ g.2.2.2.2⟩
def c80:az D:=ED 64
def aiA(n:Nat):az D:=⟨148,[qi,.el 3,.el 14],[.lf .bool],[aN,.one (.rp 1 3 [0]),.one (.rp 7 14 [0])],[],z5,[],λh=>KB (wA n) h.1 h.2.1 h.2.2⟩
def ahO(n:Nat):az D:=⟨205,[aL,.el 3,.el 14],z8,[.one (bZ),.one (.fn 148 [.rp 1 3 [0],.rp 7 14 [0]])],[],z5,[],λh=>QY (wA n) h.1 h.2.1 h.2.2⟩
def aiB(n:Nat):az D:=⟨147,[aL,.el 3,.el 14],[.lf .bool],[.one (bZ),.one (.fn 148 [.rp 1 3 [0],.rp 7 14 [0]])],[],z5,[],λh=>Rb (wA n) h.1 h.2.1 h.2.2⟩
def aBd(n:Nat)(hH:fK prog T (ED n)):fK prog T (aiA n):=fo [ED n] [.tmp 4] .o ⟨hH,trivial⟩ func148
def aAx(n:Nat)(hH:fK prog T (ED n)):fK prog T (ahO n):=fo [aiA n] [.tmp 4] z3 ⟨aBd n hH,trivial⟩ func205
def aBe(n:Nat)(hH:fK prog T (ED n)):fK prog T (aiB n):=fo [ahO n] [.tmp 4] .o ⟨aAx n hH,trivial⟩ func147
def afx:∀n,fK prog T (ED n)
 |0=>aqp call80 rfl (λh=>rfl)
 |n+1=>fo [WN,WM,EK,aiB n] [.tmp 6] (qn (qn (qm (qm (qt 43 3600) .o) .o))) ⟨aiE,aiD,IF,aBe n (afx n),trivial⟩ func80
def ayw:CK c80:=afx 64
def FP(a0:fS):Option (Bool):=(if ak (imax a0.X a0.Y<=5000)=ab then aa (ak (eu a0.X a0.Y>=(-5000)))else aa ai).bind aa
def WD:az D:=⟨206,z9,[.lf .bool],wg,[],z5,[],λh=>FP ⟨h.1,h.2⟩⟩
def ahM:CK WD:=fo [] [.tmp 2] B9 trivial func206
def y7(a0:Int)(a1:Int):Option (Int):=(mQ a0 a1).bind λx1=>(kL a0 a1).bind λx2=>(if ak (x2<0)=ab then aa (W (x1-1))else aa x1).bind aa
def Ov:az D:=⟨256,z9,z8,fu,[],z5,[],λh=>y7 h.1 h.2⟩
def Ww:CK Ov:=fo [] [.tmp 4] (qn (qw (qn (qp ⟨z8,pT,[],[],3216⟩ .o .o)) .o)) trivial func256
def Xf(a0:Int)(a1:Int):Option (Int):=(y7 (W (-a0)) a1).bind λx1=>aa (W (-x1))
def agX:az D:=⟨255,z9,z8,fu,[],z5,[],λh=>Xf h.1 h.2⟩
def azM:CK agX:=fo [Ov] [.tmp 4] .o ⟨Ww,q0⟩ func255
def Xe(a0:Int)(a1:Int):Option (Int×Int):=(if ak (a0<(-1000000000000000000))=ab then aa ab else if ak (a0>1000000000000000000)=ab then aa ab else if ak (a1<1)=ab then aa ab else aa (ak (a1>1000000000))).bind λx1=>if x1=ab then aa (0,1)else(Xf a0 a1).bind λx2=>aa (x2,0)
def ag0:az D:=⟨254,z9,z9,[aN,dq,.one (.fn 255 [])],[],fu,[],λh=>Xe h.1 h.2⟩
def azN:CK ag0:=fo [agX] [.tmp 6,.tmp 7] Qc ⟨azM,q0⟩ func254
def O2(a0:Int)(a1:Int):Option (Int×Int):=(Xe a0 a1).bind aa
def ahL:az D:=⟨207,z9,z9,fu,[],fu,[],λh=>O2 h.1 h.2⟩
def aAu:CK ahL:=fo [ag0] [.tmp 4,.tmp 5] .o ⟨azN,q0⟩ func207
def JP(a0:b8)(a1:fS):Option (Int×Int):=((zH a0).bind λx1=>if(!x1)=ab then aa ab else(FP a1).bind λx2=>aa !x2).bind λx3=>if x3=ab then aa (0,1)else(O2 (W (W (W (a1.X*a1.X)+W (a1.Y*a1.Y))*a0.fJ)) 1000).bind aa
def aiz:az D:=⟨149,YR,z9,[.agg [bD,bl,cf,dy,cB,kM],.agg [eE,gM]],[],fu,[],λh=>JP ⟨h.1,h.2.1,h.2.2.1,h.2.2.2.1,h.2.2.2.2.1,h.2.2.2.2.2.1⟩ ⟨h.2.2.2.2.2.2.1,h.2.2.2.2.2.2.2⟩⟩
def aBc:CK aiz:=fo [IG,WD,ahL] [.tmp 4,.tmp 5] (qw (qm (qt 13 2576) .o) .o) ⟨OD,ahM,aAu,q0⟩ func149
def ajx(a0:Int):Int×Int->Option (Int×Int⊕Int):=λx2=>if ak (x2.1<x2.2)=ab then(mQ (W (W (x2.1+x2.2)+1)) 2).bind λx3=>(if ak (W (x3*x3)<=a0)=ab then aa (x3,x2.2)else aa (x2.1,W (x3-1))).bind λx4=>aa (.inl x4)else aa (.inr x2.1)
def O3(a0:Int):Option (Int×Int):=(if ak (a0<0)=ab then aa ab else aa (ak (a0>1000000000000000000))).bind λx1=>if x1=ab then aa (0,1)else(aI (ajx a0) (0,1000000000)).bind λx5=>aa (x5,0)
def aix:az D:=⟨150,z8,z9,z5,[],fu,[],λh=>O3 h⟩
def aBa:CK aix:=fo [] [.tmp 2,.tmp 3] (qw (qm (qt 12 2320) .o) (qw (qm (.loop ⟨z9,[(4,aN),(5,dq)],[],[],2641⟩ ab [(.exit 0,⟨z8,rZ,[],[],2641⟩)] (qw (qv (qp ⟨z9,[(4,aN),(5,dq)],[],[],4499⟩ .o .o)) .o)) .o) .o)) trivial func150
def JQ(a0:b8)(a1:Int):Option (Int):=(JP a0 (fS.mk a0.Max 0)).bind λx1=>(if(x1.2 !=0)=ab then aa ab else aa (ak (a1<0))).bind λx2=>if x2=ab then aa 0 else if ak (a1>=x1.1)=ab then aa a0.Max else(mQ (W (1000*a1)) a0.fJ).bind λx3=>(O3 x3).bind λx4=>aa x4.1
def c81:az D:=⟨81,P7,z8,PW,[],z5,[],λh=>JQ ⟨h.1,h.2.1,h.2.2.1,h.2.2.2.1,h.2.2.2.2.1,h.2.2.2.2.2.1⟩ h.2.2.2.2.2.2⟩
def ayv:CK c81:=fo [aiz,aix] [.tmp 4] (qn (qw (qm (qm (qt 17 3600) .o) .o) .o)) ⟨aBc,aBa,q0⟩ func81
def R5(a0:di)(a1:au)(a2:aw):Int×List Int->Option (Int×List Int⊕List Int):=λx4=>if ak (x4.1<len a0.cQ)=ab then(idx a0.cQ x4.1).bind λx5=>(J8 a1.ay x4.1).bind λx6=>(if ak (x6>=0)=ab then(Z7 a1 a2 x6).bind aa else aa ai).bind λx8=>(if x8=ab then(idx a2.aW x6).bind λx9=>(JQ x5 x9).bind λbe=>(idx x4.2 x4.1).bind λbo=>(idx x4.2 x4.1).bind λbJ=>(df x4.2 x4.1 be).bind aa else aa x4.2).bind λcF=>aa (.inl (W (x4.1+1),cF))else aa (.inr x4.2)
def Lv(a0:di)(a1:au)(a2:aw):Option (Int×List Int):=(uT a0).bind λx1=>if(x1 !=0)=ab then aa (x1,[])else(pI a1 a2).bind λx2=>if(x2 !=0)=ab then aa (x2,[])else(mu 0 (len a0.cQ)).bind λx3=>(aI (R5 a0 a1 a2) (0,x3)).bind λcu=>aa (0,cu)
def c30:az D:=⟨30,[qi,qi,jn,qi,cV,dJ,dn,qi,qi,ck,cH,aL,bx],kG,[.agg [bD,bl,bK],.agg [dy,ed,kM,jA,gM,tM],.agg [rf,zQ,.h 11 [0],.h 12 [0]]],[],[.one (.own 1000),aN],zu,λh=>let g:=h.2.2.2.2.2.2;Lv ⟨h.1,h.2.1,h.2.2.1⟩ ⟨h.2.2.2.1,h.2.2.2.2.1,h.2.2.2.2.2.1,g.1,g.2.1,g.2.2.1⟩ ⟨g.2.2.2.1,g.2.2.2.2.1,g.2.2.2.2.2.1,g.2.2.2.2.2.2⟩⟩
def ay_:CK c30:=fo [rN,Ix,c78,c80,c81] [.tmp 6,.tmp 7] (qv (qn (qw (qw (.loop ⟨kG,[(32,aN)],[(4432,.sl 0 3 1 [])],[4432],5264⟩ ab [(.exit 0,⟨fi,[],[(4432,.sl 0 3 0 [])],[4432],5264⟩)] (qn (qw (qm (qn (qw (qr ⟨[.lf .bool],[(44,qa),(45,qa),(46,qa),(47,qa),(48,aN)],[],[],6994⟩) (qp ⟨fi,[],[(4432,.sl 0 3 0 [])],[4432],7059⟩ .o .o))) .o) .o))) .o) .o))) ⟨sX,Od,ayz,ayw,ayv,q0⟩ func30
def NX(a0:cN):Option (q8):=(Gc a0.pL).bind λx1=>(Ge a0.rT).bind λx2=>(Ga a0.aw.aF).bind λx3=>(Gb a0.aw.aj).bind λx4=>(uU a0.aw.aW).bind λx5=>(zF a0.aw.aR).bind λx6=>aa (a0.Time,x3,x4,x5,x6,x1,x2)
def c31:az D:=⟨31,P3,P3,[.agg [bD,bT,bK,bW,ed,kM,jA]],[],[.agg [bD,.own 1000,.own 1001,.own 1002,.own 1003,.own 1004,.own 1005]],[(1000,.sl 1 4 1 []),(1001,.sl 9 140 2 []),(1002,.sl 0 3 3 []),(1003,.sl 10 79 4 []),(1004,.sl 11 110 5 []),(1005,.sl 12 192 6 [])],λh=>NX ⟨h.1,⟨h.2.1,h.2.2.1,h.2.2.2.1,h.2.2.2.2.1⟩,h.2.2.2.2.2.1,h.2.2.2.2.2.2⟩⟩
def ay9:CK c31:=fo [Iy,Wa,V',V_,V9,Iw] [.cell 2 69] .o ⟨Wd,afv,afu,afs,afr,Oc,q0⟩ func31
def V5(a1:List Int):Int×List Int->Option (Int×List Int⊕List Int):=λx2=>if ak (x2.1<len a1)=ab then(idx a1 x2.1).bind λx3=>(if ak (x3>=0)=ab then aa (ak (x3<len x2.2))else aa ai).bind λx4=>(if x4=ab then(idx x2.2 x3).bind λx5=>(idx x2.2 x3).bind λx6=>(df x2.2 x3 0).bind aa else aa x2.2).bind λx8=>aa (.inl (W (x2.1+1),x8))else aa (.inr x2.2)
def N8(a0:List Int)(a1:List Int):Option (List Int):=(uU a0).bind λx1=>(aI (V5 a1) (0,x1)).bind aa
def c32:az D:=⟨32,[aL,aL],fi,B8,[],jk,oZ,λh=>N8 h.1 h.2⟩
def ay8:CK c32:=fo [Iw] [.tmp 4] (qn (qw (qw (.loop ⟨kG,[(12,aN)],[(2264,.sl 0 3 1 [])],[2264],2960⟩ ab [(.exit 0,⟨fi,[],[(2264,.sl 0 3 0 [])],[2264],2960⟩)] (qn (qw (qm (qw (qr ⟨[.lf .bool],[(19,qa),(20,qa),(21,qa),(22,qa),(23,aN)],[],[],3538⟩) (qp ⟨fi,[],[(2264,.sl 0 3 0 [])],[2264],3603⟩ .o .o)) .o) .o))) .o) .o)) ⟨Oc,q0⟩ func32
def VQ(a0:jJ)(a1:cN)(x4:List Part):Int×List Int×Int×q8->Option (Int×List Int×Int×q8⊕List Int×Int×q8⊕Zc):=λx5=>if ak (x5.1<len x4)=ab then((idx x4 x5.1).bind λx6=>(if(x6.Kind==5)=ab then(bF x5.2.1 [x6.Number]).bind aa else aa x5.2.1).bind λx8=>(if ak (x6.Kind>4)=ab then aa ab else(yN a1.aw.aR x6).bind aa).bind λbe=>if be=ab then aa (.inl (x8,x5.2.2))else(Lr a0.au (cN.mk x5.2.2.2.1 (aw.mk x5.2.2.2.2.1 x5.2.2.2.2.2.1 x5.2.2.2.2.2.2.1 x5.2.2.2.2.2.2.2.1) x5.2.2.2.2.2.2.2.2.1 x5.2.2.2.2.2.2.2.2.2) (Act.mk 8 x6.Number x6.Kind)).bind λbo=>if(bo.2.2.2.2.2.1 !=0)=ab then aa (.inr (.inr (.inr (0,bo.2.2.2.2.2.1,[],[],[],[],[],[],[]))))else aa (.inl (x8,x5.2.2.1,bo.1,bo.2.1,bo.2.2.1,bo.2.2.2.1,bo.2.2.2.2.1,bo.2.2.2.2.2.2.1,bo.2.2.2.2.2.2.2.1))).bind λbJ=>dk (λcp=>aa (.inl (W (x5.1+1),cp))) (aa) bJ else aa (.inr (.inl x5.2))
def yQ(a0:jJ)(a1:cN)(a2:List Part)(a3:List Part):Option (Zc):=(Lu a0.au a0.g9 a1).bind λx1=>if(x1 !=0)=ab then aa (0,x1,[],[],[],[],[],[],[])else(Et a0.dw).bind λx2=>if(x2 !=0)=ab then aa (0,x2,[],[],[],[],[],[],[])else(F' [a2,a1.aw.aR,a3]).bind λx3=>(Ih a0.dw x3).bind λx4=>(aI (VQ a0 a1 x4) (0,[],0,a1.Time,a1.aw.aF,a1.aw.aj,a1.aw.aW,a1.aw.aR,a1.pL,a1.rT)).bind λcu=>dk (λcM=>(Lv a0.di a0.au (aw.mk cM.2.2.2.1 cM.2.2.2.2.1 cM.2.2.2.2.2.1 cM.2.2.2.2.2.2.1)).bind λdD=>if(dD.1 !=0)=ab then aa (0,dD.1,[],[],[],[],[],[],[])else(NX (cN.mk cM.2.2.1 (aw.mk cM.2.2.2.1 cM.2.2.2.2.1 cM.2.2.2.2.2.1 cM.2.2.2.2.2.2.1) cM.2.2.2.2.2.2.2.1 cM.2.2.2.2.2.2.2.2)).bind λda=>(N8 dD.2 cM.1).bind λdN=>aa (da.1,0,da.2.1,da.2.2.1,da.2.2.2.1,da.2.2.2.2.1,da.2.2.2.2.2.1,da.2.2.2.2.2.2,dN)) (aa) cu
def oE:List Ht:=[aL,aL,aL,aL,aL,aL,aL,aL,aL,qi,qi,qi,qi,qi,qi,jn,qi,cV,dJ,dn,qi,qi,qi,qi,qi,bx,ol,pZ,zM,qi,qi,qi,qi,qi,qi,qi,qi,qi,qi,qi,qi,qi,.lf .str,qi,qi,qi,qi,qi,qi,zL,qi,ck,cH,aL,bx,fE,f_,bx,bx]
def BE:az D:=⟨10,oE,[qi,qi,ck,cH,aL,bx,fE,f_,aL],[.agg [bZ,bT,bK,bW,ed,kM,jA,j_,mR,p7,kN,nz,mS,rh,xU,.h 15 [0],wG,.h 17 [0],.h 18 [0],.h 19 [0],zY,zX,zW,zV,zU,.h 25 [0],.h 26 [0],.h 27 [0],.h 28 [0],zT,zS,zR,.h 32 [],xT,.h 34 [],.h 35 [],.h 36 [],.h 37 [],.h 38 [],.h 39 [],.h 40 [],.h 41 [],.h 42 [],.h 43 [],.h 44 [],.h 45 [],.h 46 [],.h 47 [],.h 48 [],.h 49 [0]],.agg [.h 50 [],.h 51 [0],.h 52 [0],.h 53 [0],.h 54 [0],.h 55 [0],.h 56 [0]],.one (.h 57 [0]),.one (.h 58 [0])],[],[.agg [bD,.own 1000,.own 1001,.own 1002,.own 1003,.own 1004,.own 1005],.one (.own 1006),dq],[(1000,.sl 1 4 2 []),(1001,.sl 9 140 3 []),(1002,.sl 0 3 4 []),(1003,.sl 10 79 5 []),(1004,.sl 11 110 6 []),(1005,.sl 12 192 7 []),(1006,.sl 0 3 8 [])],λh=>let g:=h.2.2.2.2.2.2;let k:=g.2.2.2.2.2.2;let u:=k.2.2.2.2.2.2;let v:=u.2.2.2.2.2.2;let w:=v.2.2.2.2.2.2;let ha:=w.2.2.2.2.2.2;let hb:=ha.2.2.2.2.2.2;let hc:=hb.2.2.2.2.2.2;let hd:=hc.2.2.2.2.2.2;yQ ⟨⟨⟨h.1,h.2.1,h.2.2.1⟩,⟨h.2.2.2.1,h.2.2.2.2.1,h.2.2.2.2.2.1⟩,⟨g.1,g.2.1,g.2.2.1⟩,g.2.2.2.1,g.2.2.2.2.1,g.2.2.2.2.2.1,k.1⟩,⟨k.2.1,k.2.2.1,k.2.2.2.1⟩,⟨k.2.2.2.2.1,k.2.2.2.2.2.1,u.1,u.2.1,u.2.2.1,u.2.2.2.1⟩,⟨u.2.2.2.2.1,u.2.2.2.2.2.1,v.1⟩,⟨v.2.1,v.2.2.1,v.2.2.2.1⟩,v.2.2.2.2.1,⟨v.2.2.2.2.2.1,w.1,w.2.1,w.2.2.1,w.2.2.2.1,w.2.2.2.2.1,w.2.2.2.2.2.1,ha.1,ha.2.1⟩,⟨⟨ha.2.2.1,ha.2.2.2.1⟩,ha.2.2.2.2.1⟩,ha.2.2.2.2.2.1,⟨hb.1,hb.2.1,⟨⟨hb.2.2.1,hb.2.2.2.1⟩,hb.2.2.2.2.1,hb.2.2.2.2.2.1⟩,hc.1⟩,⟨hc.2.1⟩⟩ ⟨hc.2.2.1,⟨hc.2.2.2.1,hc.2.2.2.2.1,hc.2.2.2.2.2.1,hd.1⟩,hd.2.1,hd.2.2.1⟩ hd.2.2.2.1 hd.2.2.2.2⟩
def WV:CK BE:=fo [c24,Ox,Wv,Ws,EH,c29,c30,c31,c32] [.cell 8 69,.tmp 9,.tmp 10] (qv (qv (qn (qw (qw (.loop ⟨[qi,aL,qi,qi,ck,cH,aL,bx,fE,f_],[(15,.one (.own 6864)),(53,aN)],[(6864,.sl 0 3 1 []),(2256,.box [cf,.bE,.bE,.bE,.bE,.bE,.bE]),(6096,.box [dy,.h 4 [0,1],.h 5 [0,1],.h 6 [0,1],.h 7 [0,1],.h 8 [0,1],.h 9 [0,1]])],[2256,6096],6928⟩ ai [(.exit 0,⟨YO,[(15,.one (.own 6864))],[(6864,.sl 0 3 0 []),(2256,.box [bl,.bE,.bE,.bE,.bE,.bE,.bE]),(6096,.box [cf,.h 3 [0,1],.h 4 [0,1],.h 5 [0,1],.h 6 [0,1],.h 7 [0,1],.h 8 [0,1]])],[2256,6096],6928⟩)] (qn (qw (.n (aa (ai,[(.normal,⟨YO,[(15,.one (.own 7066)),(69,qa),(70,qa),(71,qa),(72,qa),(73,qa)],[(7066,.sl 0 3 0 []),(2256,.box [bl,.bE,.bE,.bE,.bE,.bE,.bE]),(6096,.box [cf,.h 3 [0,1],.h 4 [0,1],.h 5 [0,1],.h 6 [0,1],.h 7 [0,1],.h 8 [0,1]])],[2256,6096,6864],7130⟩)])) (qw (qn (qp ⟨fi,[(15,.one (.own 7962))],[(7962,.sl 0 3 0 [])],[6864],8026⟩ .o .o)) (qm (qm (qr ⟨[.lf .bool],[(69,qa),(70,qa),(71,qa),(72,qa),(73,qa),(74,aN)],[],[],8091⟩) .o) .o)) .o) .o))) .o) .o)))) ⟨azV,agT,agH,agy,Oq,aze,ay_,ay9,ay8,q0⟩ func10
def R3(a0:Int)(a1:List Int):Int->Option (Int⊕Unit⊕Bool):=λx1=>if ak (x1<len a1)=ab then(idx a1 x1).bind λx2=>(if ak (x2<W (-a0))=ab then aa ab else aa (ak (x2>a0))).bind λx3=>if x3=ab then aa (.inr (.inr ai))else aa (.inl (W (x1+1)))else aa (.inr (.inl ()))
def Ln(a0:Int)(a1:List Int):Option (Bool):=(aI (R3 a0 a1) 0).bind λx4=>dk (λx5=>aa ab) (aa) x4
def c87:az D:=⟨87,kG,[.lf .bool],[aN,.one (bT)],[],z5,[],λh=>Ln h.1 h.2⟩
def ayu:CK c87:=fo [] [.tmp 4] (qw (qw (.loop ⟨z8,wb,[],[],2576⟩ ai [(.exit 0,⟨[],[],[],[],2576⟩)] (qn (qw (qm (qw (qr ⟨[.lf .bool],[(18,qa),(19,qa),(20,qa),(21,aN)],[],[],3153⟩) .o) .o) .o))) .o) .o) trivial func87
def EB(a0:fa):Option (Bool):=(Ln 1000000 [a0.dz,a0.fk,a0.fI]).bind aa
def On:az D:=⟨33,mK,[.lf .bool],tt,[],z5,[],λh=>EB ⟨h.1,h.2.1,h.2.2⟩⟩
def Wj:CK On:=fo [c87] [.tmp 2] .o ⟨ayu,q0⟩ func33
def Iv(a0:Int):Option (Int):=aa (W (-a0))
def aiu:az D:=⟨153,z8,z8,z5,[],z5,[],λh=>Iv h⟩
def aA9:CK aiu:=fo [] [.tmp 2] .o trivial func153
def V4(a0:fa):Option (mN):=(Iv a0.dz).bind λx1=>(Iv a0.fk).bind λx2=>(Iv a0.fI).bind λx3=>aa (x1,x2,x3)
def c88:az D:=⟨88,mK,mK,[.agg [bD,bl,cf],.one (.fn 153 [])],[],tt,[],λh=>V4 ⟨h.1,h.2.1,h.2.2⟩⟩
def ays:CK c88:=fo [aiu] [.cell 4 72] .o ⟨aA9,q0⟩ func88
def O8(a0:Int)(a1:Int)(a2:Int):Option (Bool):=(if ak (a0<a1)=ab then aa ab else aa (ak (a0>a2))).bind aa
def agW:az D:=⟨257,[qi,.el 0,.el 0],[.lf .bool],[aN,.one (.rp 1 0 [0]),.one (.rp 2 0 [0])],[],z5,[],λh=>O8 h.1 h.2.1 h.2.2⟩
def azL:CK agW:=fo [] [.tmp 4] (qw (qt 4 2192) .o) trivial func257
def zE(a0:List Int)(a1:Int)(a2:Int):Int->Option (Int⊕Unit⊕Int):=λx1=>if ak (x1<len a0)=ab then(idx a0 x1).bind λx2=>(O8 x2 a1 a2).bind λx3=>if x3=ab then aa (.inr (.inr x1))else aa (.inl (W (x1+1)))else aa (.inr (.inl ()))
def J4(a0:List Int)(a1:Int)(a2:Int):Option (Int):=(aI (zE a0 a1 a2) 0).bind λx4=>dk (λx5=>aa (-1)) (aa) x4
def ahN:az D:=⟨205,[aL,.el 0,.el 0],z8,[.one (bZ),.one (.fn 257 [.rp 1 0 [0],.rp 2 0 [0]])],[],z5,[],λh=>J4 h.1 h.2.1 h.2.2⟩
def aAw:CK ahN:=fo [agW] [.tmp 4] z3 ⟨azL,q0⟩ func205
def Kj(a0:List Int)(a1:Int)(a2:Int):Option (Bool):=(J4 a0 a1 a2).bind λx1=>aa (ak (x1>=0))
def aiC:az D:=⟨147,[aL,.el 0,.el 0],[.lf .bool],[.one (bZ),.one (.fn 257 [.rp 1 0 [0],.rp 2 0 [0]])],[],z5,[],λh=>Kj h.1 h.2.1 h.2.2⟩
def aBf:CK aiC:=fo [ahN] [.tmp 4] .o ⟨aAw,q0⟩ func147
def rP(a0:List Int)(a1:Int)(a2:Int):Option (Bool):=(Kj a0 a1 a2).bind λx1=>aa !x1
def Oy:az D:=⟨208,JB,[.lf .bool],[.one (bZ),dq,lm],[],z5,[],λh=>rP h.1 h.2.1 h.2.2⟩
def WC:CK Oy:=fo [aiC] [.tmp 6] .o ⟨aBf,q0⟩ func208
def Xg(a0:Int)(a1:Int):Option (Int):=(y7 (W (W (2*a0)+a1)) (W (2*a1))).bind aa
def agV:az D:=⟨258,z9,z8,fu,[],z5,[],λh=>Xg h.1 h.2⟩
def azK:CK agV:=fo [Ov] [.tmp 4] .o ⟨Ww,q0⟩ func258
def Xd(a0:Int)(a1:Int):Option (Int×Int):=(if ak (a0<(-1000000000000000000))=ab then aa ab else if ak (a0>1000000000000000000)=ab then aa ab else if ak (a1<1)=ab then aa ab else aa (ak (a1>1000000000))).bind λx1=>if x1=ab then aa (0,1)else(Xg a0 a1).bind λx2=>aa (x2,0)
def agZ:az D:=⟨254,z9,z9,[aN,dq,.one (.fn 258 [])],[],fu,[],λh=>Xd h.1 h.2⟩
def azP:CK agZ:=fo [agV] [.tmp 6,.tmp 7] Qc ⟨azK,q0⟩ func254
def I2(a0:Int)(a1:Int):Option (Int×Int):=(Xd a0 a1).bind aa
def WB:az D:=⟨209,z9,z9,fu,[],fu,[],λh=>I2 h.1 h.2⟩
def ahK:CK WB:=fo [agZ] [.tmp 4,.tmp 5] .o ⟨azP,q0⟩ func209
def O_(a0:di)(a1:fa):Option (Int×mN):=(uT a0).bind λx1=>if(x1 !=0)=ab then(uT a0).bind λx7=>aa (0,0,0,x7)else((rP [a1.dz,a1.fk] (-5000) 5000).bind λx2=>if(!x2)=ab then aa ab else(rP [a1.fI] (-500000) 500000).bind λx3=>aa !x3).bind λx4=>if x4=ab then aa (0,0,0,1)else(I2 (W (a1.fI+W (a1.fk*a0.g_))) (W (a0.iC+a0.g_))).bind λx5=>(rP [x5.1,W (a1.fk-x5.1)] (-500000) 500000).bind λx6=>if(!x6)=ab then aa (0,0,0,1)else aa (a1.dz,x5.1,W (a1.fk-x5.1),0)
def aiv:az D:=⟨152,YC,o7,[.agg [bD,bl,bK],.agg [dy,cB,bP]],[],Ca,[],λh=>O_ ⟨h.1,h.2.1,h.2.2.1⟩ ⟨h.2.2.2.1,h.2.2.2.2.1,h.2.2.2.2.2⟩⟩
def aA_:CK aiv:=fo [Ix,Oy,WB] [.cell 4 132,.tmp 5] (qw (qm (qn (qw (qt 15 3088) .o)) .o) .o) ⟨Od,WC,ahK,q0⟩ func152
def V7(a0:di)(a1:fa):Option (Int×mN):=(EB a1).bind λx1=>if(!x1)=ab then aa (0,0,0,1)else(V4 a1).bind λx2=>(O_ a0 (fa.mk x2.1 x2.2.1 x2.2.2)).bind aa
def c91:az D:=⟨91,YC,o7,[.agg [bD,bl,bK],.agg [dy,cB,bP]],[],Ca,[],λh=>V7 ⟨h.1,h.2.1,h.2.2.1⟩ ⟨h.2.2.2.1,h.2.2.2.2.1,h.2.2.2.2.2⟩⟩
def ayo:CK c91:=fo [On,c88,aiv] [.cell 4 132,.tmp 5] .o ⟨Wj,ays,aA_,q0⟩ func91
def Rg(a0:List iD):Option (List iD):=bF [] a0
def ags:az D:=⟨287,[so],[so],oY,[],jk,[(1000,.sl 17 288 0 [])],λh=>Rg h⟩
def azo:CK ags:=by
 refine⟨call287,rfl,rfl,rfl,rfl,λoc r0 mz fj eO has nF γ w vs hv _=>?_⟩;cases has;match vs,hv with
 |[],hv=>exact hv.elim
 |_::_::_,hv=>exact hv.2.elim
 |[v],hv=>
 obtain⟨xs,eF⟩:∃xs:List (D 17),xs=oc:=⟨_,rfl⟩;obtain⟨r,jo⟩:∃r:List (D 17),r=r0:=⟨_,rfl⟩;have g0:Rv (In γ.o [0]) w v xs:=by rw[eF];exact hv.1.1
 have hr:bF ([]:List (D 17)) xs=aa r:=by rw[eF,jo];exact mz
 subst jo;have hT:=F2.2;refine enter (l:=[v]) func287 rfl ntmps287 rfl ?_;refine CW.sub (L':=[(0,v)]) ⟨rfl,trivial⟩ ?_;refine CW.sr λK1 gY=>?_;refine WL.p (.slice none 0 0) rfl rfl ?_;refine WL.nx gY ?_;refine CW.seq λK2 ix=>?_;refine CW.sr λK3 l8=>?_;refine WL.p v rfl rfl ?_;obtain⟨a,m,q,rfl,hn⟩:=zI g0;refine WL.lT (OW.isNil F2.1 rfl) rfl ?_;refine WL.nx l8 ?_;cases a with
 |none=>refine CW.cond (b:=ab) rfl (λ_=>?_) (λh=>nomatch h);refine CW.sr λK4 nN=>?_;refine WL.p (.slice none 0 0) rfl rfl ?_;refine WL.nx nN ?_;rw[hn rfl]at hr;obtain rfl:=BL hr;exact CW.mn (vs:=[.slice none 0 0]) results287 ⟨rfl,trivial⟩ ⟨_,rfl,qF (n:=17) (e:=288) (q:=1000) (K:=[]) (M:=[]) (N:=[]) rfl rfl rfl (by simp) (by simp) (bO.refl _ _ γ.o w) (Ow.nil _ _ _ _ _) (λx hx=>by simp at hx<;>omega)⟩ (λ_ _ h=>h)
 |some a=>refine CW.cond (b:=ai) rfl (λh=>nomatch h) (λ_=>?_);refine CW.skip ?_;refine ix _ _ ?_;refine CW.sr λK5 lB=>?_;refine WL.step (OW.buildSlice (o:=γ.o) (k:=1000) (K:=[]) (xs:=([]:List (D 17))) F2.1 hT rfl trivial rfl rfl) rfl ?_;rintro v1 w1 ⟨o1,kq,h1⟩;have g0:=g0.Bn kq rfl;refine WL.p (.slice (aa a) m q) rfl rfl ?_;refine WL.step (OW.append (K:=[]) F2.1 hT rfl rfl h1 (@fB.flat (D 17) _ aw0 _ _ _ _ _ g0.de) hr rfl) rfl ?_;rintro v2 w2 ⟨o2,mF,h2⟩;refine WL.p v2 rfl rfl ?_;refine WL.nx lB ?_;exact CW.mn (vs:=[v2]) results287 ⟨rfl,trivial⟩ ⟨_,rfl,qF (n:=17) (e:=288) (q:=1000) (K:=[]) (M:=[1000]) (N:=[1000]) rfl rfl rfl (by simp) (by simp) ((kq.weaken (by simp) (by simp)).trans mF) h2 (λx hx=>by simp at hx<;>omega)⟩ (λ_ _ h=>h)
def QC(a0:b8)(a1:Int):Option (JG):=(Rg a0.nT).bind λx1=>aa (a0.Kind,a0.s_,eu a0.Max (imax a1 0),a0.vV,a0.fJ,x1)
def agU:az D:=⟨259,P7,Jt,PW,[],[.agg [bD,bl,cf,dy,cB,.own 1000]],[(1000,.sl 17 288 5 [])],λh=>QC ⟨h.1,h.2.1,h.2.2.1,h.2.2.2.1,h.2.2.2.2.1,h.2.2.2.2.2.1⟩ h.2.2.2.2.2.2⟩
def azJ:CK agU:=fo [ags] [.cell 4 102] .o ⟨azo,q0⟩ func259
def Xl(a0:di)(a1:List Int):Int×List fS×List b8->Option (Int×List fS×List b8⊕List fS×List b8):=λx6=>if ak (x6.1<len a0.cQ)=ab then(idx a0.cQ x6.1).bind λx7=>(idx a1 x6.1).bind λx8=>(QC x7 x8).bind λx9=>(bF x6.2.2 [b8.mk x9.1 x9.2.1 x9.2.2.1 x9.2.2.2.1 x9.2.2.2.2.1 x9.2.2.2.2.2]).bind λbe=>aa (.inl (W (x6.1+1),x6.2.1,be))else aa (.inr x6.2)
def Xk(a2:List fS)(a3:List Int):Int->Option (Int⊕Unit⊕List fS×Int×List Int×List b8):=λbJ=>if ak (bJ<len a2)=ab then(idx a2 bJ).bind λcp=>(rP [cp.X,cp.Y] (-5000) 5000).bind λcF=>if(!cF)=ab then aa (.inr (.inr ([],1,a3,[])))else aa (.inl (W (bJ+1)))else aa (.inr (.inl ()))
def O9(a0:di)(a1:List Int)(a2:List fS)(a3:List Int):Option (List fS×Int×List Int×List b8):=(uT a0).bind λx1=>if(x1 !=0)=ab then(uT a0).bind λda=>aa ([],da,a3,[])else(if(len a1 !=len a0.cQ)=ab then aa ab else if ak (len a2>0)=ab then if(len a2 !=len a0.cQ)=ab then aa ab else aa (len a3 !=len a0.cQ)else aa (len a3 !=len a0.cQ)).bind λx2=>if x2=ab then aa ([],8,a3,[])else((rP a1 0 5000).bind λx3=>if(!x3)=ab then aa ab else(rP a3 (-5000) 5000).bind λx4=>aa !x4).bind λx5=>if x5=ab then aa ([],1,a3,[])else(aI (Xl a0 a1) (0,a2,[])).bind λbo=>(aI (Xk a2 a3) 0).bind λcu=>dk (λcM=>aa (bo.1,0,a3,bo.2)) (aa) cu
def ahJ:az D:=⟨210,[qi,qi,jn,aL,re,aL],[re,qi,aL,jn],[.agg [bD,bl,bK],.one (bW),.one (ed),.one (.own 1000)],[(1000,.sl 0 3 5 [])],[.agg [.own 1001,bZ],dq],[(1000,.sl 0 3 2 []),(1001,.sl 16 102 3 [1])],λh=>O9 ⟨h.1,h.2.1,h.2.2.1⟩ h.2.2.2.1 h.2.2.2.2.1 h.2.2.2.2.2⟩
def aAt:CK ahJ:=fo [Ix,Oy,agU] [.cell 8 267,.tmp 9] (qn (qw (qm (qn (qw (qt 26 3472) (qw (qt 49 3537) .o))) .o) (qw (qw (.loop ⟨[qi,re,jn],[(64,aN)],[(3794,.box [.own 4562,bT]),(4562,.sl 16 102 2 [1])],[3794],4626⟩ ab [(.exit 1,⟨[re,jn],[],[(3794,.box [.own 4562,bZ]),(4562,.sl 16 102 1 [1])],[3794],4626⟩)] .o) .o) (qm (qw (.loop ⟨z8,[(83,aN)],[(2128,.box [.bE,.bE])],[2128],5076⟩ ai [(.exit 3,⟨[],[],[(2128,.box [.bE,.bE])],[2128],5076⟩)] .o) .o) .o)))) ⟨Od,WC,azJ,q0⟩ func210
def Xi(a0:di)(a1:List Int)(a2:List fS)(a3:mc):Option (List fS×Int×List b8):=(mu 0 (len a0.cQ)).bind λx1=>(O9 a0 a1 a2 x1).bind λx2=>(if(x2.2.1==0)=ab then(rP [a3.dz,a3.iC,a3.g_] (-500000) 500000).bind λx3=>aa !x3 else aa ai).bind λx4=>(if x4=ab then aa 1 else aa x2.2.1).bind λx5=>aa (x2.1,x5,x2.2.2.2)
def ait:az D:=⟨154,YN,[re,qi,jn],YE,[],[.agg [.own 1000,bZ],dq],[(1000,.sl 16 102 2 [1])],λh=>Xi ⟨h.1,h.2.1,h.2.2.1⟩ h.2.2.2.1 h.2.2.2.2.1 ⟨h.2.2.2.2.2.1,h.2.2.2.2.2.2.1,h.2.2.2.2.2.2.2⟩⟩
def aA8:CK ait:=fo [Oy,ahJ] [.cell 8 267,.tmp 9] (qn (qw (qm (qt 35 4368) (qp ⟨z8,[(11,aN)],[],[],4433⟩ .o .o)) .o)) ⟨WC,aAt,q0⟩ func154
def EX(a0:Int)(a1:Int):Option (Bool):=(if ak (imax a0 a1<=1000000000)=ab then aa (ak (eu a0 a1>=(-1000000000)))else aa ai).bind aa
def Wm:az D:=⟨298,z9,[.lf .bool],fu,[],z5,[],λh=>EX h.1 h.2⟩
def agh:CK Wm:=fo [] [.tmp 4] (qw (qt 4 2192) .o) trivial func298
def EZ(a0:Int):Option (Int):=(vQ a0).bind λx1=>(if ak (x1>1800)=ab then aa (W (x1-1800),(-1))else aa (x1,1)).bind λx2=>(I2 (W (40000*W (x2.1*W (1800-x2.1)))) (W (4050000-W (x2.1*W (1800-x2.1))))).bind λx3=>aa (W (x2.2*x3.1))
def Oo:az D:=⟨301,z8,z8,z5,[],z5,[],λh=>EZ h⟩
def Wk:CK Oo:=fo [WB,EG] [.tmp 2] (qv (qw (qn (qp ⟨z9,[(0,aN),(3,dq)],[],[],2960⟩ .o .o)) .o)) ⟨ahK,IA,q0⟩ func301
def I6(a0:Int):Option (Int):=(vQ a0).bind λx1=>(EZ (W (x1+900))).bind aa
def Wl:az D:=⟨300,z8,z8,z5,[],z5,[],λh=>I6 h⟩
def agd:CK Wl:=fo [EG,Oo] [.tmp 2] .o ⟨IA,Wk,q0⟩ func300
def I5(a0:Int)(a1:Int)(a2:Int):Option (Int):=(EX a1 a2).bind λx1=>if(!x1)=ab then aa 0 else(I6 a0).bind λx2=>(EZ a0).bind λx3=>aa (W (W (x2*a2)-W (x3*a1)))
def agf:az D:=⟨299,mK,z8,B',[],z5,[],λh=>I5 h.1 h.2.1 h.2.2⟩
def azf:CK agf:=fo [Wm,Wl,Oo] [.tmp 6] .o ⟨agh,agd,Wk,q0⟩ func299
def O7(a0:iD)(a1:Int)(a2:Int):Option (Bool):=((EY a0).bind λx1=>if(!x1)=ab then aa ab else if(a1==0)=ab then if(a2==0)=ab then aa ab else(EX a1 a2).bind λx3=>aa !x3 else(EX a1 a2).bind λx2=>aa !x2).bind λx4=>if x4=ab then aa ai else(I5 a0.fA a1 a2).bind λx5=>(if ak (x5>0)=ab then aa ab else(I6 a0.fA).bind λx6=>(EZ a0.fA).bind λx7=>aa (ak (W (W (x6*a1)+W (x7*a2))>0))).bind λx8=>(if ak (x5>=0)=ab then(I5 a0.To a1 a2).bind λx9=>if ak (x9<=0)=ab then aa x8 else aa ai else aa ai).bind aa
def agp:az D:=⟨289,o7,[.lf .bool],[.agg [bD,bl],lm,tL],[],z5,[],λh=>O7 ⟨h.1,h.2.1⟩ h.2.2.1 h.2.2.2⟩
def azm:CK agp:=fo [WE,Wm,agf,Wl,Oo] [.tmp 6] (qw (qm (qt 25 2320) .o) (qw (qt 8 3153) (qm (qt 6 3218) .o))) ⟨ahQ,agh,azf,agd,Wk,q0⟩ func289
def RG(a0:iD)(a1:Int)(a2:Int):Option (Bool):=(O7 a0 a1 a2).bind aa
def agq:az D:=⟨288,[qi,qi,.el 0,.el 0],[.lf .bool],[.agg [bD,bl],.one (.rp 2 0 [0]),.one (.rp 3 0 [0])],[],z5,[],λh=>RG ⟨h.1,h.2.1⟩ h.2.2.1 h.2.2.2⟩
def azn:CK agq:=fo [agp] [.tmp 4] .o ⟨azm,q0⟩ func288
