import Derived.Test.YtgaghlbepnjhiaaGreatRg11
set_option maxRecDepth 100000
set_option linter.all false
open Bool renaming false->ae,true->ab
open Decidable renaming decide->ak
open Option renaming some->aa
open Sum renaming elim->cQ
noncomputable section
namespace Go.Proofs.YtgaghlbepnjhiaaGreat
open Go Go.RowKit Dp
namespace Rx
open Tryz
def SZ(a0:Int)(a1:Int):Option (Int):=(Mg a0 a1).bind λx1=>(if ak (W (a0-W (x1*a1))>=W (a1-W (a0-W (x1*a1))))=ab then aa (W (x1+1))else aa x1).bind aa
def c31:az D:=⟨31,z9,z8,fB,[],z5,[],λh=>SZ h.1 h.2⟩
def aAx:CK c31:=fo [c73] [.tmp 4] (qn (qw (qv (qp ⟨z8,pi,[],[],4112⟩ .o .o)) .o)) ⟨azY,q0⟩ func31
def E7(a0:Int)(a1:Int):Option (Int):=(SZ (W (a0*a1)) 100).bind aa
def c30:az D:=⟨30,[qi,.el 0],z8,[aN,.one (.rp 1 0 [0])],[],z5,[],λh=>E7 h.1 h.2⟩
def aAD:CK c30:=fo [c31] [.tmp 3] .o ⟨aAx,q0⟩ func30
def W6(a0:ft)(a1:Int):Option (gR):=(E7 a0.ee a1).bind λx1=>(E7 a0.gw a1).bind λx2=>(E7 a0.ig a1).bind λx3=>aa (x1,x2,x3)
def ahp:az D:=⟨29,Q6,mw,[.agg [bB,bp,cf],.one (.fn 30 [.rp 3 0 [0]])],[],tA,[],λh=>W6 ⟨h.1,h.2.1,h.2.2.1⟩ h.2.2.2⟩
def aAK:CK ahp:=fo [c30] [.cell 4 72] .o ⟨aAD,q0⟩ func29
def O9(a0:ft)(a1:Int):Option (gR):=((I7 a0).bind λx1=>if(!x1)=ab then aa ab else if ak (a1<0)=ab then aa ab else aa (ak (a1>200))).bind λx2=>if x2=ab then aa (0,0,0)else(W6 a0 a1).bind aa
def c8:az D:=⟨8,pj,mw,Ct,[],tA,[],λh=>O9 ⟨h.1,h.2.1,h.2.2.1⟩ h.2.2.2⟩
def azJ:CK c8:=fo [Xu,ahp] [.cell 4 72] (qw (qm (qt 15 2448) .o) .o) ⟨ahA,aAK,q0⟩ func8
def Wv(a0:Part)(a1:List Part):Option (Bool):=(s_ a1 a0).bind aa
def c38:az D:=⟨38,[qi,qi,.el 27],[.lf .bool],[.agg [bB,bp],.one (.rp 2 27 [0])],[],z5,[],λh=>Wv ⟨h.1,h.2.1⟩ h.2.2⟩
def aAq:CK c38:=fo [xx] [.tmp 3] .o ⟨BW,q0⟩ func38
def RY(a0:List Part)(a1:List Part):Int->Option (Int⊕Unit⊕Int):=λx1=>if ak (x1<len a0)=ab then(idx a0 x1).bind λx2=>(Wv x2 a1).bind λx3=>if x3=ab then aa (.inr (.inr x1))else aa (.inl (W (x1+1)))else aa (.inr (.inl ()))
def RZ(a0:List Part)(a1:List Part):Option (Int):=(aG (RY a0 a1) 0).bind λx4=>cQ (λx5=>aa (-1)) (aa) x4
def agu:az D:=⟨79,[bh,.el 27],z8,[.one (bS),.one (.fn 38 [.rp 1 27 [0]])],[],z5,[],λh=>RZ h.1 h.2⟩
def azS:CK agu:=fo [c38] [.tmp 4] z3 ⟨aAq,q0⟩ func79
def Lj(a0:List Part)(a1:List Part):Option (Bool):=(RZ a0 a1).bind λx1=>aa (ak (x1>=0))
def ag6:az D:=⟨37,[bh,.el 27],[.lf .bool],[.one (bS),.one (.fn 38 [.rp 1 27 [0]])],[],z5,[],λh=>Lj h.1 h.2⟩
def aAs:CK ag6:=fo [agu] [.tmp 4] .o ⟨azS,q0⟩ func37
def IV(a0:Int)(a1:b_)(a2:List Part):Option (Bool):=(idx a1.gb a0).bind λx1=>(Lj x1.eI a2).bind aa
def c36:az D:=⟨36,[qi,.el 25,.el 27],[.lf .bool],[aN,.one (.rp 1 25 [0]),.one (.rp 4 27 [0])],[],z5,[],λh=>IV h.1 h.2.1 h.2.2⟩
def aAu:CK c36:=fo [ag6] [.tmp 4] .o ⟨aAs,q0⟩ func36
def Wu(a0:b_)(a1:Int)(a2:Int):Int×List Part->Option (Int×List Part⊕List Part):=λx3=>if ak (x3.1<len a0.eI)=ab then(idx a0.eI x3.1).bind λx4=>(za a0 [x4]).bind λx5=>((IV a1 a0 x5).bind λx6=>if x6=ab then(IV a2 a0 x5).bind aa else aa ae).bind λx8=>(if x8=ab then(bD x3.2 [x4]).bind aa else aa x3.2).bind λbb=>aa (.inl (W (x3.1+1),bb))else aa (.inr x3.2)
def OO(a0:b_)(a1:Int)(a2:Int):Option (List Part):=((vW a0).bind λx1=>if(x1 !=0)=ab then aa ab else if ak (a1<0)=ab then aa ab else if ak (a1>=len a0.gb)=ab then aa ab else if ak (a2<0)=ab then aa ab else if ak (a2>=len a0.gb)=ab then aa ab else aa (a1==a2)).bind λx2=>if x2=ab then aa []else(aG (Wu a0 a1 a2) (0,[])).bind aa
def c13:az D:=⟨13,[bh,kQ,mW,qi,qi],gF,[.agg [bS,bR,bI],sC,DF],[],iS,mu,λh=>OO ⟨h.1,h.2.1,h.2.2.1⟩ h.2.2.2.1 h.2.2.2.2⟩
def aCT:CK c13:=fo [Jg,BX,c36] [.tmp 6] (qw (qm (qt 41 2320) .o) (qw (qw (.loop ⟨wq,[(7,.one (.own 2961)),(45,aN)],[(2961,.sl 10 80 1 [])],[],3025⟩ ab [(.exit 0,⟨gF,[(7,.one (.own 2961))],[(2961,.sl 10 80 0 [])],[],3025⟩)] (qn (qw (qm (qv (qw (qr ⟨[.lf .bool],[(58,qa),(59,qa),(60,qa),(61,aN)],[],[],4755⟩) (qp ⟨gF,[(7,.one (.own 4756))],[(4756,.sl 10 80 0 [])],[2961],4820⟩ .o .o))) .o) .o))) .o) .o)) ⟨Pt,Jb,aAu,q0⟩ func13
def Od(a0:List Part)(a1:Part):Int->Option (Int⊕Unit⊕Bool):=λx1=>if ak (x1<len a0)=ab then(idx a0 x1).bind λx2=>if(x2.Kind==a1.Kind&&x2.Number==a1.Number)=ab then aa (.inr (.inr ab))else aa (.inl (W (x1+1)))else aa (.inr (.inl ()))
def Oe(a0:List Part)(a1:Part):Option (Bool):=(aG (Od a0 a1) 0).bind λx3=>cQ (λx4=>aa ae) (aa) x3
def c14:az D:=⟨14,xO,[.lf .bool],Ke,[],z5,[],λh=>Oe h.1 ⟨h.2.1,h.2.2⟩⟩
def aCI:CK c14:=fo [] [.tmp 4] (qw (qw (.loop ⟨z8,uQ,[],[],2704⟩ ae [(.exit 0,⟨[],[],[],[],2704⟩)] .o) .o) .o) trivial func14
def aaW:List iy×List iy->Option (List iy×List iy⊕List iy):=λx2=>List.rec (aa (.inr x2.1)) (λx3 x4 x5=>(bD x2.1 [x3]).bind λx6=>aa (.inl (x6,x4))) x2.2
def Se(a0:List iy)(a1:gK)(a2:cH)(a3:List Part)(a4:ft):Option (List iy):=(EY a1 a2 a3 a4).bind λx1=>(aG aaW (a0,x1)).bind aa
def akm:az D:=⟨102,[DE,.el 18,.el 8,.el 27,.el 23],[DE],[.one (.own 1000),.one (.fn 103 [.rp 1 18 [0],.rp 51 8 [0],.rp 58 27 [0],.rp 59 23 [0]])],[(1000,.sl 38 90 0 [])],wu,[(1001,.sl 38 90 0 [])],λh=>Se h.1 h.2.1 h.2.2.1 h.2.2.2.1 h.2.2.2.2⟩
def aDi:CK akm:=afl (mj:=[i103]) (Φ:=[]) (rs:=[.tmp 4]) (an:=(qw (qn (.loop ⟨[DE],[],[(2000,.box [.own 2384]),(2384,.sl 38 90 0 [])],[1000,2000],2448⟩ ab [(.exit 0,⟨[DE],[],[(2000,.box [.own 2384]),(2384,.sl 38 90 0 [])],[1000,2000],2448⟩)] (.n none .o .o))) .o)) sD rk (jI.mem (l:=[]) trivial) pK (λq hq=>(List.mem_singleton.1 hq)▸adr) call102 func102 rfl rfl (by kernel_rfl) (λh=>by kernel_rfl)
def Lr(a0:gK)(a1:cH)(a2:List Part)(a3:ft):Option (List iy):=(Se [] a0 a1 a2 a3).bind aa
def c47:az D:=⟨47,[.el 18,.el 8,.el 27,.el 23],[DE],[.one (.fn 103 [.rp 0 18 [0],.rp 50 8 [0],.rp 57 27 [0],.rp 58 23 [0]])],[],iS,[(1000,.sl 38 90 0 [])],λh=>Lr h.1 h.2.1 h.2.2.1 h.2.2.2⟩
def aAi:CK c47:=fo [akm] [.tmp 2] .o ⟨aDi,q0⟩ func47
def I2(a0:gK)(a1:cH)(a2:List Part)(a3:ft):Option (Int×List iy):=(xu a0 a1 a2 []).bind λx1=>if(x1.2.1 !=0)=ab then aa (x1.2.1,[])else(I0 a0 a1 a2 a3).bind λx2=>let CO:=x2.2.2.2.2.2;let CN:=CO.2.2.2.2.2;let CM:=CN.2.2.2.2.2;let CL:=CM.2.2.2.2.2;let CJ:=CL.2.2.2.2.2;let CI:=CJ.2.2.2.2.2;let CH:=CI.2.2.2.2.2;let CG:=CH.2.2.2.2.2;let CF:=CG.2.2.2.2.2;let tF:=CF.2.2.2.2.2;(Lr (gK.mk (dD.mk (gZ.mk x2.1 x2.2.1 x2.2.2.1) (gZ.mk x2.2.2.2.1 x2.2.2.2.2.1 CO.1) (gZ.mk CO.2.1 CO.2.2.1 CO.2.2.2.1) CO.2.2.2.2.1 CN.1 CN.2.1 CN.2.2.1) (dG.mk CN.2.2.2.1 CN.2.2.2.2.1 CM.1) (au.mk CM.2.1 CM.2.2.1 CM.2.2.2.1 CM.2.2.2.2.1 CL.1 CL.2.1) (gL.mk CL.2.2.1 CL.2.2.2.1 CL.2.2.2.2.1) (b_.mk CJ.1 CJ.2.1 CJ.2.2.1) CJ.2.2.2.1 (eM.mk CJ.2.2.2.2.1 CI.1 CI.2.1 CI.2.2.1 CI.2.2.2.1 CI.2.2.2.2.1 CH.1 CH.2.1 CH.2.2.1) (Target.mk (gM.mk CH.2.2.2.1 CH.2.2.2.2.1) CG.1) CG.2.1 (fy.mk CG.2.2.1 CG.2.2.2.1 (fA.mk (gM.mk CG.2.2.2.2.1 CF.1) CF.2.1 CF.2.2.1) CF.2.2.2.1) (mg.mk CF.2.2.2.2.1)) (cH.mk tF.1 (aw.mk tF.2.1 tF.2.2.1 tF.2.2.2.1 tF.2.2.2.2.1) tF.2.2.2.2.2.1 tF.2.2.2.2.2.2.1) tF.2.2.2.2.2.2.2.1 (ft.mk tF.2.2.2.2.2.2.2.2.1 tF.2.2.2.2.2.2.2.2.2.1 tF.2.2.2.2.2.2.2.2.2.2)).bind λx3=>aa (0,x3)
def VO:List Ht:=(aL::z0)
def c17:az D:=⟨17,VO,[qi,DE],z2,[],[.one (.own 1000),aN],[(1000,.sl 38 90 1 [])],λh=>let g:=h.2.2.2.2.2.2;let k:=g.2.2.2.2.2.2;let u:=k.2.2.2.2.2.2;let v:=u.2.2.2.2.2.2;let w:=v.2.2.2.2.2.2;let ha:=w.2.2.2.2.2.2;let hb:=ha.2.2.2.2.2.2;let hc:=hb.2.2.2.2.2.2;let hd:=hc.2.2.2.2.2.2;I2 ⟨⟨⟨h.1,h.2.1,h.2.2.1⟩,⟨h.2.2.2.1,h.2.2.2.2.1,h.2.2.2.2.2.1⟩,⟨g.1,g.2.1,g.2.2.1⟩,g.2.2.2.1,g.2.2.2.2.1,g.2.2.2.2.2.1,k.1⟩,⟨k.2.1,k.2.2.1,k.2.2.2.1⟩,⟨k.2.2.2.2.1,k.2.2.2.2.2.1,u.1,u.2.1,u.2.2.1,u.2.2.2.1⟩,⟨u.2.2.2.2.1,u.2.2.2.2.2.1,v.1⟩,⟨v.2.1,v.2.2.1,v.2.2.2.1⟩,v.2.2.2.2.1,⟨v.2.2.2.2.2.1,w.1,w.2.1,w.2.2.1,w.2.2.2.1,w.2.2.2.2.1,w.2.2.2.2.2.1,ha.1,ha.2.1⟩,⟨⟨ha.2.2.1,ha.2.2.2.1⟩,ha.2.2.2.2.1⟩,ha.2.2.2.2.2.1,⟨hb.1,hb.2.1,⟨⟨hb.2.2.1,hb.2.2.2.1⟩,hb.2.2.2.2.1,hb.2.2.2.2.2.1⟩,hc.1⟩,⟨hc.2.1⟩⟩ ⟨hc.2.2.1,⟨hc.2.2.2.1,hc.2.2.2.2.1,hc.2.2.2.2.2.1,hd.1⟩,hd.2.1,hd.2.2.1⟩ hd.2.2.2.1 ⟨hd.2.2.2.2.1,hd.2.2.2.2.2.1,hd.2.2.2.2.2.2⟩⟩
def aCo:CK c17:=fo [Px,c47,Pk] [.tmp 8,.tmp 9] .o ⟨XM,aAi,agW,q0⟩ func17
def OF(a0:b_):Int×List Part×List (gR)->Option (Int×List Part×List (gR)⊕List Part×List (gR)):=λx2=>if ak (x2.1<len a0.cw)=ab then(idx a0.cw x2.1).bind λx3=>((idx x2.2.1 0).bind λx4=>if(x3.To.Kind==x4.Kind&&x3.To.Number==x4.Number)=ab then aa !sG (λx5=>x5.1==x3.cu.Kind&&x5.2.1==x3.cu.Number) x2.2.2 else aa ae).bind λx6=>(if x6=ab then(idx x2.2.1 0).bind λx7=>(bD x2.2.1 [x3.cu]).bind λx8=>aa (x8,tP (λx9=>x9.1==x3.cu.Kind&&x9.2.1==x3.cu.Number) (x3.cu.Kind,x3.cu.Number,W (ry (λbb=>bb.1==x7.Kind&&bb.2.1==x7.Number) (λbi=>bi.2.2) 0 x2.2.2+1)) x2.2.2)else aa x2.2).bind λbF=>aa (.inl (W (x2.1+1),bF))else aa (.inr x2.2)
def afP(a0:b_):List Part×List (gR)->Option (List Part×List (gR)⊕List (gR)):=λx1=>if ak (len x1.1>0)=ab then(aG (OF a0) (0,x1)).bind λbY=>(dH bY.1 1 (len bY.1)).bind λcF=>aa (.inl (cF,bY.2))else aa (.inr x1.2)
def OG(a0:b_)(a1:Part):Option ((List (gR))):=(aG (afP a0) ([a1],tP (λb7=>b7.1==a1.Kind&&b7.2.1==a1.Number) (a1.Kind,a1.Number,0) [])).bind aa
def c52:az D:=⟨52,[bh,kQ,mW,qi,qi],[DD],[.agg [bS,bR,bI],.agg [dm,cr]],[],iS,[(1000,.mp 48 0)],λh=>OG ⟨h.1,h.2.1,h.2.2.1⟩ ⟨h.2.2.2.1,h.2.2.2.2⟩⟩
def aAg:CK c52:=fo [] [.tmp 4] (qn (qw (qw (.loop ⟨[bh,DD],[(6,.one (.own 3408))],[(3408,.sl 10 80 0 []),(2384,.mp 48 1)],[2384,3152],3472⟩ ab [(.exit 0,⟨[DD],[],[(2384,.mp 48 0)],[2384,3152],3472⟩)] (qw (qm (qw (.loop ⟨[qi,bh,DD],[(6,.one (.own 4370)),(24,aN)],[(4370,.sl 10 80 1 []),(2384,.mp 48 2)],[2384,3408],4434⟩ ab [(.exit 2,⟨[bh,DD],[(6,.one (.own 4370))],[(4370,.sl 10 80 0 []),(2384,.mp 48 1)],[2384,3408],4434⟩)] (qn (qw (qm (qn (qw (qr ⟨[.lf .bool],[(42,qa),(43,qa),(44,aN)],[],[],6293⟩) (qp ⟨[bh,DD],[(6,.one (.own 6294))],[(6294,.sl 10 80 0 []),(2384,.mp 48 1)],[2384,4370],6358⟩ .o .o))) .o) .o))) .o) .o) .o)) .o) .o)) trivial func52
def Ww(a0:b_)(x5:List (gR))(x6:Int×List Part×Int×Int):gR->Option (gR⊕Int×Int):=λx7=>if ak (x7.1<len a0.cw)=ab then(idx a0.cw x7.1).bind λx8=>(if(x8.cu.Kind==x7.2.1&&x8.cu.Number==x7.2.2)=ab then if sG (λbi=>bi.1==x8.To.Kind&&bi.2.1==x8.To.Number) x5=ab then aa (ry (λx9=>x9.1==x8.To.Kind&&x9.2.1==x8.To.Number) (λbb=>bb.2.2) 0 x5==W (x6.1-1))else aa ae else aa ae).bind λbF=>if bF=ab then aa (.inr (x8.To.Kind,x8.To.Number))else aa (.inl (W (x7.1+1),x7.2))else aa (.inr x7.2)
def afQ(a0:b_)(x5:List (gR)):Int×List Part×Int×Int->Option (Int×List Part×Int×Int⊕List Part):=λx6=>if ak (x6.1>0)=ab then(aG (Ww a0 x5 x6) (0,x6.2.2)).bind λbY=>(bD x6.2.1 [Part.mk bY.1 bY.2]).bind λcF=>aa (.inl (W (x6.1-1),cF,bY))else aa (.inr x6.2.1)
def OP(a0:b_)(a1:Part)(a2:Part):Option (Bool×List Part):=((vW a0).bind λx1=>if(x1 !=0)=ab then aa ab else(s_ a0.eI a1).bind λx2=>if(!x2)=ab then aa ab else(s_ a0.eI a2).bind λx3=>aa !x3).bind λx4=>if x4=ab then aa (ae,[])else(OG a0 a2).bind λx5=>if(!sG (λcZ=>cZ.1==a1.Kind&&cZ.2.1==a1.Number) x5)=ab then aa (ae,[])else(aG (afQ a0 x5) (ry (λb7=>b7.1==a1.Kind&&b7.2.1==a1.Number) (λcM=>cM.2.2) 0 x5,[a1],a1.Kind,a1.Number)).bind λdx=>aa (ab,dx)
def c19:az D:=⟨19,[bh,kQ,mW,qi,qi,qi,qi],[.lf .bool,bh],[.agg [bS,bR,bI],.agg [dm,cr],.agg [bQ,ep]],[],[.one (.own 1000),aN],Cv,λh=>OP ⟨h.1,h.2.1,h.2.2.1⟩ ⟨h.2.2.2.1,h.2.2.2.2.1⟩ ⟨h.2.2.2.2.2.1,h.2.2.2.2.2.2⟩⟩
def aCa:CK c19:=fo [BX,xx,c52] [.tmp 6,.tmp 7] (qw (qm (qt 33 2704) .o) (qv (qn (qw (qw (.loop ⟨[qi,bh,qi,qi],[(9,aN),(11,.one (.own 5265)),(12,.one (.ptr 5266 0))],[(5265,.sl 10 80 1 []),(5266,.box [cf,dm])],[4625,5009],5329⟩ ab [(.exit 0,⟨gF,[(11,.one (.own 5265))],[(5265,.sl 10 80 0 [])],[4625,5009],5329⟩)] (qw (qm (qm (qw (.loop ⟨mw,[(55,aN)],[(5266,.box [bp,cf])],[5266],6165⟩ ab [(.exit 2,⟨z9,[],[(5266,.box [bB,bp])],[5266],6165⟩)] (qn (qw (qm (qn (qw (qr ⟨[.lf .bool],[(71,qa),(74,qa),(75,qa),(76,qa),(77,qa),(78,aN)],[],[],8024⟩) .o)) .o) .o))) .o) .o) .o) .o)) .o) .o)))) ⟨Jb,BW,aAg,q0⟩ func19
def RP(a0:List fI)(a1:fI):Int->Option (Int⊕Unit⊕Int):=λx1=>if ak (x1<len a0)=ab then(idx a0 x1).bind λx2=>if(a1.cu.Kind==x2.cu.Kind&&(a1.cu.Number==x2.cu.Number&&(a1.To.Kind==x2.To.Kind&&a1.To.Number==x2.To.Number)))=ab then aa (.inr (.inr x1))else aa (.inl (W (x1+1)))else aa (.inr (.inl ()))
def RQ(a0:List fI)(a1:fI):Option (Int):=(aG (RP a0 a1) 0).bind λx3=>cQ (λx4=>aa (-1)) (aa) x3
def akj:az D:=⟨108,[kQ,qi,qi,qi,qi],z8,[.one (bS),.agg [bp,cf,dm,cr]],[],z5,[],λh=>RQ h.1 ⟨⟨h.2.1,h.2.2.1⟩,⟨h.2.2.2.1,h.2.2.2.2⟩⟩⟩
def aDf:CK akj:=fo [] [.tmp 4] QY trivial func108
def La(a0:List fI)(a1:fI):Option (Bool):=(RQ a0 a1).bind λx1=>aa (ak (x1>=0))
def c53:az D:=⟨53,[kQ,qi,qi,qi,qi],[.lf .bool],[.one (bS),.agg [bp,cf,dm,cr]],[],z5,[],λh=>La h.1 ⟨⟨h.2.1,h.2.2.1⟩,⟨h.2.2.2.1,h.2.2.2.2⟩⟩⟩
def aAf:CK c53:=fo [akj] [.tmp 4] .o ⟨aDf,q0⟩ func53
def OL(a0:b_)(a1:List Part):Int->Option (Int⊕Unit⊕Bool):=λx5=>if ak (x5<len a1)=ab then(idx a1 (W (x5-1))).bind λx6=>(idx a1 x5).bind λx7=>(La a0.cw (fI.mk x6 x7)).bind λx8=>if(!x8)=ab then aa (.inr (.inr ae))else aa (.inl (W (x5+1)))else aa (.inr (.inl ()))
def OM(a0:b_)(a1:List Part):Option (Bool):=((vW a0).bind λx1=>if(x1 !=0)=ab then aa ab else if(len a1==0)=ab then aa ab else(idx a1 0).bind λx2=>(s_ a0.eI x2).bind λx3=>aa !x3).bind λx4=>if x4=ab then aa ae else(aG (OL a0 a1) 1).bind λx9=>cQ (λbb=>aa ab) (aa) x9
def c20:az D:=⟨20,[bh,kQ,mW,bh],[.lf .bool],[.agg [bS,bR,bI],.one (bU)],[],z5,[],λh=>OM ⟨h.1,h.2.1,h.2.2.1⟩ h.2.2.2⟩
def aB0:CK c20:=fo [BX,xx,c53] [.tmp 4] (qw (qm (qt 22 2320) .o) (qm (qw (.loop ⟨z8,pi,[],[],2513⟩ ae [(.exit 0,⟨[],[],[],[],2513⟩)] .o) .o) .o)) ⟨Jb,BW,aAf,q0⟩ func20
