import Derived.Test.YtmngjhagbjgmfaaGreatRg6
set_option maxRecDepth 100000
set_option linter.all false
open Bool renaming false->ai,true->ab
open Decidable renaming decide->al
open Option renaming some->aa
open Sum renaming elim->dn
noncomputable section
namespace Go.Proofs.YtmngjhagbjgmfaaGreat
open Go Go.RowKit Dp
namespace Rx
open Tryz
def KF(F:(aw)->(ax)->(Int)->Option (Bool))(a0:Int)(a1:aw)(a2:ax):Option (Bool):=(F a1 a2 a0).bind λx1=>aa !x1
def CJ(F:(aw)->(ax)->(Int)->Option (Bool))(a0:List Int)(a1:aw)(a2:ax):Int->Option (Int⊕Unit⊕Int):=λx1=>if al (x1<len a0)=ab then(idx a0 x1).bind λx2=>(KF F x2 a1 a2).bind λx3=>if x3=ab then aa (.inr (.inr x1))else aa (.inl (W (x1+1)))else aa (.inr (.inl ()))
def Q2(F:(aw)->(ax)->(Int)->Option (Bool))(a0:List Int)(a1:aw)(a2:ax):Option (Int):=(aJ (CJ F a0 a1 a2) 0).bind λx4=>dn (λx5=>aa (-1)) (aa) x4
def Rh(F:(aw)->(ax)->(Int)->Option (Bool))(a0:List Int)(a1:aw)(a2:ax):Option (Bool):=(Q2 F a0 a1 a2).bind λx1=>aa (al (x1>=0))
def Ru(F:(aw)->(ax)->(Int)->Option (Bool))(a0:aw)(a1:ax)(a2:Int):Option (Bool):=(I0 a0 a1 a2).bind λx1=>(if(!x1.2)=ab then aa ab else(EV a0 a1 x1.1).bind λx2=>if(!x2)=ab then aa ab else(tf a1 4 a2).bind λx3=>if x3=ab then aa ab else(idx a1.aX a2).bind λx4=>(idx a0.az a2).bind λx5=>aa (al (x4<x5.eX))).bind λx6=>if x6=ab then aa ai else(idx a0.az a2).bind λx7=>(Rh F x7.cf a0 a1).bind λx8=>aa !x8
def wE(n:Nat):(aw)->(ax)->(Int)->Option (Bool):=Nat.rec (motive:=λ_=>(aw)->(ax)->(Int)->Option (Bool)) (λ_ _ _=>none) (λ_ F=>Ru F) n
def aaa(a0:aw)(a1:ax)(a2:Int):Option (Bool):=wE 64 a0 a1 a2
def EH(n:Nat):aA D:=⟨80,z1,[.lf .bool],z4,[],z5,[],λh=>let g:=h.2.2.2.2.2.2;wE n ⟨h.1,h.2.1,h.2.2.1,h.2.2.2.1,h.2.2.2.2.1,h.2.2.2.2.2.1⟩ ⟨g.1,g.2.1,g.2.2.1,g.2.2.2.1⟩ g.2.2.2.2⟩
def c80:aA D:=EH 64
def aiE(n:Nat):aA D:=⟨148,[qi,.el 3,.el 14],[.lf .bool],[aO,.one (.rp 1 3 [0]),.one (.rp 7 14 [0])],[],z5,[],λh=>KF (wE n) h.1 h.2.1 h.2.2⟩
def ahS(n:Nat):aA D:=⟨205,[aM,.el 3,.el 14],z8,[.one (b6),.one (.fn 148 [.rp 1 3 [0],.rp 7 14 [0]])],[],z5,[],λh=>Q2 (wE n) h.1 h.2.1 h.2.2⟩
def aiF(n:Nat):aA D:=⟨147,[aM,.el 3,.el 14],[.lf .bool],[.one (b6),.one (.fn 148 [.rp 1 3 [0],.rp 7 14 [0]])],[],z5,[],λh=>Rh (wE n) h.1 h.2.1 h.2.2⟩
def aBh(n:Nat)(hH:fM prog T (EH n)):fM prog T (aiE n):=fo [EH n] [.tmp 4] .o ⟨hH,trivial⟩ func148
def aAB(n:Nat)(hH:fM prog T (EH n)):fM prog T (ahS n):=fo [aiE n] [.tmp 4] z3 ⟨aBh n hH,trivial⟩ func205
def aBi(n:Nat)(hH:fM prog T (EH n)):fM prog T (aiF n):=fo [ahS n] [.tmp 4] .o ⟨aAB n hH,trivial⟩ func147
def afB:∀n,fM prog T (EH n)
 |0=>aqt call80 rfl (λh=>rfl)
 |n+1=>fo [WT,WS,EO,aiF n] [.tmp 6] (qn (qn (qm (qm (qt 43 3600) .o) .o))) ⟨aiI,aiH,IJ,aBi n (afB n),trivial⟩ func80
def ayA:CK c80:=afB 64
def FU(a0:fU):Option (Bool):=(if al (imax a0.X a0.Y<=5000)=ab then aa (al (eA a0.X a0.Y>=(-5000)))else aa ai).bind aa
def WI:aA D:=⟨206,z9,[.lf .bool],wk,[],z5,[],λh=>FU ⟨h.1,h.2⟩⟩
def ahQ:CK WI:=fo [] [.tmp 2] Cb trivial func206
def za(a0:Int)(a1:Int):Option (Int):=(mT a0 a1).bind λx1=>(kO a0 a1).bind λx2=>(if al (x2<0)=ab then aa (W (x1-1))else aa x1).bind aa
def OA:aA D:=⟨256,z9,z8,fx,[],z5,[],λh=>za h.1 h.2⟩
def WA:CK OA:=fo [] [.tmp 4] (qn (qw (qn (qp ⟨z8,pW,[],[],3216⟩ .o .o)) .o)) trivial func256
def Xj(a0:Int)(a1:Int):Option (Int):=(za (W (-a0)) a1).bind λx1=>aa (W (-x1))
def ag1:aA D:=⟨255,z9,z8,fx,[],z5,[],λh=>Xj h.1 h.2⟩
def azQ:CK ag1:=fo [OA] [.tmp 4] .o ⟨WA,q0⟩ func255
def Xi(a0:Int)(a1:Int):Option (Int×Int):=(if al (a0<(-1000000000000000000))=ab then aa ab else if al (a0>1000000000000000000)=ab then aa ab else if al (a1<1)=ab then aa ab else aa (al (a1>1000000000))).bind λx1=>if x1=ab then aa (0,1)else(Xj a0 a1).bind λx2=>aa (x2,0)
def ag4:aA D:=⟨254,z9,z9,[aO,du,.one (.fn 255 [])],[],fx,[],λh=>Xi h.1 h.2⟩
def azR:CK ag4:=fo [ag1] [.tmp 6,.tmp 7] Qg ⟨azQ,q0⟩ func254
def O6(a0:Int)(a1:Int):Option (Int×Int):=(Xi a0 a1).bind aa
def ahP:aA D:=⟨207,z9,z9,fx,[],fx,[],λh=>O6 h.1 h.2⟩
def aAy:CK ahP:=fo [ag4] [.tmp 4,.tmp 5] .o ⟨azR,q0⟩ func207
def JT(a0:b9)(a1:fU):Option (Int×Int):=((zL a0).bind λx1=>if(!x1)=ab then aa ab else(FU a1).bind λx2=>aa !x2).bind λx3=>if x3=ab then aa (0,1)else(O6 (W (W (W (a1.X*a1.X)+W (a1.Y*a1.Y))*a0.fL)) 1000).bind aa
def aiD:aA D:=⟨149,YV,z9,[.agg [bE,bn,cg,dA,cD,kP],.agg [eG,gQ]],[],fx,[],λh=>JT ⟨h.1,h.2.1,h.2.2.1,h.2.2.2.1,h.2.2.2.2.1,h.2.2.2.2.2.1⟩ ⟨h.2.2.2.2.2.2.1,h.2.2.2.2.2.2.2⟩⟩
def aBg:CK aiD:=fo [IK,WI,ahP] [.tmp 4,.tmp 5] (qw (qm (qt 13 2576) .o) .o) ⟨OH,ahQ,aAy,q0⟩ func149
def ajB(a0:Int):Int×Int->Option (Int×Int⊕Int):=λx2=>if al (x2.1<x2.2)=ab then(mT (W (W (x2.1+x2.2)+1)) 2).bind λx3=>(if al (W (x3*x3)<=a0)=ab then aa (x3,x2.2)else aa (x2.1,W (x3-1))).bind λx4=>aa (.inl x4)else aa (.inr x2.1)
def O7(a0:Int):Option (Int×Int):=(if al (a0<0)=ab then aa ab else aa (al (a0>1000000000000000000))).bind λx1=>if x1=ab then aa (0,1)else(aJ (ajB a0) (0,1000000000)).bind λx5=>aa (x5,0)
def aiB:aA D:=⟨150,z8,z9,z5,[],fx,[],λh=>O7 h⟩
def aBe:CK aiB:=fo [] [.tmp 2,.tmp 3] (qw (qm (qt 12 2320) .o) (qw (qm (.loop ⟨z9,[(4,aO),(5,du)],[],[],2641⟩ ab [(.exit 0,⟨z8,sh,[],[],2641⟩)] (qw (qv (qp ⟨z9,[(4,aO),(5,du)],[],[],4499⟩ .o .o)) .o)) .o) .o)) trivial func150
def JU(a0:b9)(a1:Int):Option (Int):=(JT a0 (fU.mk a0.Max 0)).bind λx1=>(if(x1.2 !=0)=ab then aa ab else aa (al (a1<0))).bind λx2=>if x2=ab then aa 0 else if al (a1>=x1.1)=ab then aa a0.Max else(mT (W (1000*a1)) a0.fL).bind λx3=>(O7 x3).bind λx4=>aa x4.1
def c81:aA D:=⟨81,P',z8,P2,[],z5,[],λh=>JU ⟨h.1,h.2.1,h.2.2.1,h.2.2.2.1,h.2.2.2.2.1,h.2.2.2.2.2.1⟩ h.2.2.2.2.2.2⟩
def ayz:CK c81:=fo [aiD,aiB] [.tmp 4] (qn (qw (qm (qm (qt 17 3600) .o) .o) .o)) ⟨aBg,aBe,q0⟩ func81
def R9(a0:dk)(a1:aw)(a2:ax):Int×List Int->Option (Int×List Int⊕List Int):=λx4=>if al (x4.1<len a0.cT)=ab then(idx a0.cT x4.1).bind λx5=>(Kc a1.az x4.1).bind λx6=>(if al (x6>=0)=ab then(aaa a1 a2 x6).bind aa else aa ai).bind λx8=>(if x8=ab then(idx a2.aX x6).bind λx9=>(JU x5 x9).bind λbf=>(idx x4.2 x4.1).bind λbp=>(idx x4.2 x4.1).bind λbK=>(di x4.2 x4.1 bf).bind aa else aa x4.2).bind λcG=>aa (.inl (W (x4.1+1),cG))else aa (.inr x4.2)
def LA(a0:dk)(a1:aw)(a2:ax):Option (Int×List Int):=(uX a0).bind λx1=>if(x1 !=0)=ab then aa (x1,[])else(pL a1 a2).bind λx2=>if(x2 !=0)=ab then aa (x2,[])else(mz 0 (len a0.cT)).bind λx3=>(aJ (R9 a0 a1 a2) (0,x3)).bind λcw=>aa (0,cw)
def c30:aA D:=⟨30,[qi,qi,jq,qi,cX,dL,dq,qi,qi,cm,cI,aM,bz],kJ,[.agg [bE,bn,bL],.agg [dA,ef,kP,jD,gQ,tQ],.agg [rk,zU,.h 11 [0],.h 12 [0]]],[],[.one (.own 1000),aO],zy,λh=>let g:=h.2.2.2.2.2.2;LA ⟨h.1,h.2.1,h.2.2.1⟩ ⟨h.2.2.2.1,h.2.2.2.2.1,h.2.2.2.2.2.1,g.1,g.2.1,g.2.2.1⟩ ⟨g.2.2.2.1,g.2.2.2.2.1,g.2.2.2.2.2.1,g.2.2.2.2.2.2⟩⟩
def azc:CK c30:=fo [rQ,IB,c78,c80,c81] [.tmp 6,.tmp 7] (qv (qn (qw (qw (.loop ⟨kJ,[(32,aO)],[(4432,.sl 0 3 1 [])],[4432],5264⟩ ab [(.exit 0,⟨fk,[],[(4432,.sl 0 3 0 [])],[4432],5264⟩)] (qn (qw (qm (qn (qw (qr ⟨[.lf .bool],[(44,qa),(45,qa),(46,qa),(47,qa),(48,aO)],[],[],6994⟩) (qp ⟨fk,[],[(4432,.sl 0 3 0 [])],[4432],7059⟩ .o .o))) .o) .o))) .o) .o))) ⟨td,Oh,ayD,ayA,ayz,q0⟩ func30
def N1(a0:cO):Option (ra):=(Gi a0.pO).bind λx1=>(Gj a0.rW).bind λx2=>(Gf a0.ax.aG).bind λx3=>(Gg a0.ax.aj).bind λx4=>(uY a0.ax.aX).bind λx5=>(zJ a0.ax.aS).bind λx6=>aa (a0.Time,x3,x4,x5,x6,x1,x2)
def c31:aA D:=⟨31,P7,P7,[.agg [bE,bU,bL,bX,ef,kP,jD]],[],[.agg [bE,.own 1000,.own 1001,.own 1002,.own 1003,.own 1004,.own 1005]],[(1000,.sl 1 4 1 []),(1001,.sl 9 140 2 []),(1002,.sl 0 3 3 []),(1003,.sl 10 79 4 []),(1004,.sl 11 110 5 []),(1005,.sl 12 192 6 [])],λh=>N1 ⟨h.1,⟨h.2.1,h.2.2.1,h.2.2.2.1,h.2.2.2.2.1⟩,h.2.2.2.2.2.1,h.2.2.2.2.2.2⟩⟩
def azb:CK c31:=fo [IC,We,Wd,Wc,Wb,IA] [.cell 2 69] .o ⟨Wh,afz,afy,afx,afw,Og,q0⟩ func31
def V9(a1:List Int):Int×List Int->Option (Int×List Int⊕List Int):=λx2=>if al (x2.1<len a1)=ab then(idx a1 x2.1).bind λx3=>(if al (x3>=0)=ab then aa (al (x3<len x2.2))else aa ai).bind λx4=>(if x4=ab then(idx x2.2 x3).bind λx5=>(idx x2.2 x3).bind λx6=>(di x2.2 x3 0).bind aa else aa x2.2).bind λx8=>aa (.inl (W (x2.1+1),x8))else aa (.inr x2.2)
def Ob(a0:List Int)(a1:List Int):Option (List Int):=(uY a0).bind λx1=>(aJ (V9 a1) (0,x1)).bind aa
def c32:aA D:=⟨32,[aM,aM],fk,Ca,[],jn,o9,λh=>Ob h.1 h.2⟩
def aza:CK c32:=fo [IA] [.tmp 4] (qn (qw (qw (.loop ⟨kJ,[(12,aO)],[(2264,.sl 0 3 1 [])],[2264],2960⟩ ab [(.exit 0,⟨fk,[],[(2264,.sl 0 3 0 [])],[2264],2960⟩)] (qn (qw (qm (qw (qr ⟨[.lf .bool],[(19,qa),(20,qa),(21,qa),(22,qa),(23,aO)],[],[],3538⟩) (qp ⟨fk,[],[(2264,.sl 0 3 0 [])],[2264],3603⟩ .o .o)) .o) .o))) .o) .o)) ⟨Og,q0⟩ func32
def VU(a0:jM)(a1:cO)(x4:List Part):Int×List Int×Int×ra->Option (Int×List Int×Int×ra⊕List Int×Int×ra⊕Zg):=λx5=>if al (x5.1<len x4)=ab then((idx x4 x5.1).bind λx6=>(if(x6.Kind==5)=ab then(bG x5.2.1 [x6.Number]).bind aa else aa x5.2.1).bind λx8=>(if al (x6.Kind>4)=ab then aa ab else(yR a1.ax.aS x6).bind aa).bind λbf=>if bf=ab then aa (.inl (x8,x5.2.2))else(Lv a0.aw (cO.mk x5.2.2.2.1 (ax.mk x5.2.2.2.2.1 x5.2.2.2.2.2.1 x5.2.2.2.2.2.2.1 x5.2.2.2.2.2.2.2.1) x5.2.2.2.2.2.2.2.2.1 x5.2.2.2.2.2.2.2.2.2) (Act.mk 8 x6.Number x6.Kind)).bind λbp=>if(bp.2.2.2.2.2.1 !=0)=ab then aa (.inr (.inr (.inr (0,bp.2.2.2.2.2.1,[],[],[],[],[],[],[]))))else aa (.inl (x8,x5.2.2.1,bp.1,bp.2.1,bp.2.2.1,bp.2.2.2.1,bp.2.2.2.2.1,bp.2.2.2.2.2.2.1,bp.2.2.2.2.2.2.2.1))).bind λbK=>dn (λcq=>aa (.inl (W (x5.1+1),cq))) (aa) bK else aa (.inr (.inl x5.2))
def yU(a0:jM)(a1:cO)(a2:List Part)(a3:List Part):Option (Zg):=(Lz a0.aw a0.ia a1).bind λx1=>if(x1 !=0)=ab then aa (0,x1,[],[],[],[],[],[],[])else(Ex a0.dy).bind λx2=>if(x2 !=0)=ab then aa (0,x2,[],[],[],[],[],[],[])else(Ge [a2,a1.ax.aS,a3]).bind λx3=>(Il a0.dy x3).bind λx4=>(aJ (VU a0 a1 x4) (0,[],0,a1.Time,a1.ax.aG,a1.ax.aj,a1.ax.aX,a1.ax.aS,a1.pO,a1.rW)).bind λcw=>dn (λcN=>(LA a0.dk a0.aw (ax.mk cN.2.2.2.1 cN.2.2.2.2.1 cN.2.2.2.2.2.1 cN.2.2.2.2.2.2.1)).bind λdG=>if(dG.1 !=0)=ab then aa (0,dG.1,[],[],[],[],[],[],[])else(N1 (cO.mk cN.2.2.1 (ax.mk cN.2.2.2.1 cN.2.2.2.2.1 cN.2.2.2.2.2.1 cN.2.2.2.2.2.2.1) cN.2.2.2.2.2.2.2.1 cN.2.2.2.2.2.2.2.2)).bind λde=>(Ob dG.2 cN.1).bind λdP=>aa (de.1,0,de.2.1,de.2.2.1,de.2.2.2.1,de.2.2.2.2.1,de.2.2.2.2.2.1,de.2.2.2.2.2.2,dP)) (aa) cw
def oH:List Ht:=[aM,aM,aM,aM,aM,aM,aM,aM,aM,qi,qi,qi,qi,qi,qi,jq,qi,cX,dL,dq,qi,qi,qi,qi,qi,bz,ot,p9,zQ,qi,qi,qi,qi,qi,qi,qi,qi,qi,qi,qi,qi,qi,.lf .str,qi,qi,qi,qi,qi,qi,zP,qi,cm,cI,aM,bz,fG,gf,bz,bz]
def BI:aA D:=⟨10,oH,[qi,qi,cm,cI,aM,bz,fG,gf,aM],[.agg [b6,bU,bL,bX,ef,kP,jD,kh,mU,p_,kQ,nC,mV,rl,xY,.h 15 [0],wK,.h 17 [0],.h 18 [0],.h 19 [0],Ab,Aa,z_,zZ,zY,.h 25 [0],.h 26 [0],.h 27 [0],.h 28 [0],zX,zW,zV,.h 32 [],xX,.h 34 [],.h 35 [],.h 36 [],.h 37 [],.h 38 [],.h 39 [],.h 40 [],.h 41 [],.h 42 [],.h 43 [],.h 44 [],.h 45 [],.h 46 [],.h 47 [],.h 48 [],.h 49 [0]],.agg [.h 50 [],.h 51 [0],.h 52 [0],.h 53 [0],.h 54 [0],.h 55 [0],.h 56 [0]],.one (.h 57 [0]),.one (.h 58 [0])],[],[.agg [bE,.own 1000,.own 1001,.own 1002,.own 1003,.own 1004,.own 1005],.one (.own 1006),du],[(1000,.sl 1 4 2 []),(1001,.sl 9 140 3 []),(1002,.sl 0 3 4 []),(1003,.sl 10 79 5 []),(1004,.sl 11 110 6 []),(1005,.sl 12 192 7 []),(1006,.sl 0 3 8 [])],λh=>let g:=h.2.2.2.2.2.2;let k:=g.2.2.2.2.2.2;let u:=k.2.2.2.2.2.2;let v:=u.2.2.2.2.2.2;let w:=v.2.2.2.2.2.2;let ha:=w.2.2.2.2.2.2;let hb:=ha.2.2.2.2.2.2;let hc:=hb.2.2.2.2.2.2;let hd:=hc.2.2.2.2.2.2;yU ⟨⟨⟨h.1,h.2.1,h.2.2.1⟩,⟨h.2.2.2.1,h.2.2.2.2.1,h.2.2.2.2.2.1⟩,⟨g.1,g.2.1,g.2.2.1⟩,g.2.2.2.1,g.2.2.2.2.1,g.2.2.2.2.2.1,k.1⟩,⟨k.2.1,k.2.2.1,k.2.2.2.1⟩,⟨k.2.2.2.2.1,k.2.2.2.2.2.1,u.1,u.2.1,u.2.2.1,u.2.2.2.1⟩,⟨u.2.2.2.2.1,u.2.2.2.2.2.1,v.1⟩,⟨v.2.1,v.2.2.1,v.2.2.2.1⟩,v.2.2.2.2.1,⟨v.2.2.2.2.2.1,w.1,w.2.1,w.2.2.1,w.2.2.2.1,w.2.2.2.2.1,w.2.2.2.2.2.1,ha.1,ha.2.1⟩,⟨⟨ha.2.2.1,ha.2.2.2.1⟩,ha.2.2.2.2.1⟩,ha.2.2.2.2.2.1,⟨hb.1,hb.2.1,⟨⟨hb.2.2.1,hb.2.2.2.1⟩,hb.2.2.2.2.1,hb.2.2.2.2.2.1⟩,hc.1⟩,⟨hc.2.1⟩⟩ ⟨hc.2.2.1,⟨hc.2.2.2.1,hc.2.2.2.2.1,hc.2.2.2.2.2.1,hd.1⟩,hd.2.1,hd.2.2.1⟩ hd.2.2.2.1 hd.2.2.2.2⟩
def W0:CK BI:=fo [c24,OC,Wz,Ww,EL,c29,c30,c31,c32] [.cell 8 69,.tmp 9,.tmp 10] (qv (qv (qn (qw (qw (.loop ⟨[qi,aM,qi,qi,cm,cI,aM,bz,fG,gf],[(15,.one (.own 6864)),(53,aO)],[(6864,.sl 0 3 1 []),(2256,.box [cg,.bF,.bF,.bF,.bF,.bF,.bF]),(6096,.box [dA,.h 4 [0,1],.h 5 [0,1],.h 6 [0,1],.h 7 [0,1],.h 8 [0,1],.h 9 [0,1]])],[2256,6096],6928⟩ ai [(.exit 0,⟨YS,[(15,.one (.own 6864))],[(6864,.sl 0 3 0 []),(2256,.box [bn,.bF,.bF,.bF,.bF,.bF,.bF]),(6096,.box [cg,.h 3 [0,1],.h 4 [0,1],.h 5 [0,1],.h 6 [0,1],.h 7 [0,1],.h 8 [0,1]])],[2256,6096],6928⟩)] (qn (qw (.n (aa (ai,[(.normal,⟨YS,[(15,.one (.own 7066)),(69,qa),(70,qa),(71,qa),(72,qa),(73,qa)],[(7066,.sl 0 3 0 []),(2256,.box [bn,.bF,.bF,.bF,.bF,.bF,.bF]),(6096,.box [cg,.h 3 [0,1],.h 4 [0,1],.h 5 [0,1],.h 6 [0,1],.h 7 [0,1],.h 8 [0,1]])],[2256,6096,6864],7130⟩)])) (qw (qn (qp ⟨fk,[(15,.one (.own 7962))],[(7962,.sl 0 3 0 [])],[6864],8026⟩ .o .o)) (qm (qm (qr ⟨[.lf .bool],[(69,qa),(70,qa),(71,qa),(72,qa),(73,qa),(74,aO)],[],[],8091⟩) .o) .o)) .o) .o))) .o) .o)))) ⟨azZ,agX,agL,agC,Ox,azi,azc,azb,aza,q0⟩ func10
def R7(a0:Int)(a1:List Int):Int->Option (Int⊕Unit⊕Bool):=λx1=>if al (x1<len a1)=ab then(idx a1 x1).bind λx2=>(if al (x2<W (-a0))=ab then aa ab else aa (al (x2>a0))).bind λx3=>if x3=ab then aa (.inr (.inr ai))else aa (.inl (W (x1+1)))else aa (.inr (.inl ()))
def Lr(a0:Int)(a1:List Int):Option (Bool):=(aJ (R7 a0 a1) 0).bind λx4=>dn (λx5=>aa ab) (aa) x4
def c87:aA D:=⟨87,kJ,[.lf .bool],[aO,.one (bU)],[],z5,[],λh=>Lr h.1 h.2⟩
def ayy:CK c87:=fo [] [.tmp 4] (qw (qw (.loop ⟨z8,wi,[],[],2576⟩ ai [(.exit 0,⟨[],[],[],[],2576⟩)] (qn (qw (qm (qw (qr ⟨[.lf .bool],[(18,qa),(19,qa),(20,qa),(21,aO)],[],[],3153⟩) .o) .o) .o))) .o) .o) trivial func87
def EF(a0:fc):Option (Bool):=(Lr 1000000 [a0.dC,a0.fp,a0.fK]).bind aa
def Ou:aA D:=⟨33,mN,[.lf .bool],tx,[],z5,[],λh=>EF ⟨h.1,h.2.1,h.2.2⟩⟩
def Wn:CK Ou:=fo [c87] [.tmp 2] .o ⟨ayy,q0⟩ func33
def Iz(a0:Int):Option (Int):=aa (W (-a0))
def aiy:aA D:=⟨153,z8,z8,z5,[],z5,[],λh=>Iz h⟩
def aBb:CK aiy:=fo [] [.tmp 2] .o trivial func153
def V8(a0:fc):Option (mR):=(Iz a0.dC).bind λx1=>(Iz a0.fp).bind λx2=>(Iz a0.fK).bind λx3=>aa (x1,x2,x3)
def c88:aA D:=⟨88,mN,mN,[.agg [bE,bn,cg],.one (.fn 153 [])],[],tx,[],λh=>V8 ⟨h.1,h.2.1,h.2.2⟩⟩
def ayw:CK c88:=fo [aiy] [.cell 4 72] .o ⟨aBb,q0⟩ func88
def Pa(a0:Int)(a1:Int)(a2:Int):Option (Bool):=(if al (a0<a1)=ab then aa ab else aa (al (a0>a2))).bind aa
def ag0:aA D:=⟨257,[qi,.el 0,.el 0],[.lf .bool],[aO,.one (.rp 1 0 [0]),.one (.rp 2 0 [0])],[],z5,[],λh=>Pa h.1 h.2.1 h.2.2⟩
def azP:CK ag0:=fo [] [.tmp 4] (qw (qt 4 2192) .o) trivial func257
def zI(a0:List Int)(a1:Int)(a2:Int):Int->Option (Int⊕Unit⊕Int):=λx1=>if al (x1<len a0)=ab then(idx a0 x1).bind λx2=>(Pa x2 a1 a2).bind λx3=>if x3=ab then aa (.inr (.inr x1))else aa (.inl (W (x1+1)))else aa (.inr (.inl ()))
def J8(a0:List Int)(a1:Int)(a2:Int):Option (Int):=(aJ (zI a0 a1 a2) 0).bind λx4=>dn (λx5=>aa (-1)) (aa) x4
def ahR:aA D:=⟨205,[aM,.el 0,.el 0],z8,[.one (b6),.one (.fn 257 [.rp 1 0 [0],.rp 2 0 [0]])],[],z5,[],λh=>J8 h.1 h.2.1 h.2.2⟩
def aAA:CK ahR:=fo [ag0] [.tmp 4] z3 ⟨azP,q0⟩ func205
def Ko(a0:List Int)(a1:Int)(a2:Int):Option (Bool):=(J8 a0 a1 a2).bind λx1=>aa (al (x1>=0))
def aiG:aA D:=⟨147,[aM,.el 0,.el 0],[.lf .bool],[.one (b6),.one (.fn 257 [.rp 1 0 [0],.rp 2 0 [0]])],[],z5,[],λh=>Ko h.1 h.2.1 h.2.2⟩
def aBj:CK aiG:=fo [ahR] [.tmp 4] .o ⟨aAA,q0⟩ func147
def rS(a0:List Int)(a1:Int)(a2:Int):Option (Bool):=(Ko a0 a1 a2).bind λx1=>aa !x1
def OD:aA D:=⟨208,JF,[.lf .bool],[.one (b6),du,lu],[],z5,[],λh=>rS h.1 h.2.1 h.2.2⟩
def WH:CK OD:=fo [aiG] [.tmp 6] .o ⟨aBj,q0⟩ func208
def Xk(a0:Int)(a1:Int):Option (Int):=(za (W (W (2*a0)+a1)) (W (2*a1))).bind aa
def agZ:aA D:=⟨258,z9,z8,fx,[],z5,[],λh=>Xk h.1 h.2⟩
def azO:CK agZ:=fo [OA] [.tmp 4] .o ⟨WA,q0⟩ func258
def Xh(a0:Int)(a1:Int):Option (Int×Int):=(if al (a0<(-1000000000000000000))=ab then aa ab else if al (a0>1000000000000000000)=ab then aa ab else if al (a1<1)=ab then aa ab else aa (al (a1>1000000000))).bind λx1=>if x1=ab then aa (0,1)else(Xk a0 a1).bind λx2=>aa (x2,0)
def ag3:aA D:=⟨254,z9,z9,[aO,du,.one (.fn 258 [])],[],fx,[],λh=>Xh h.1 h.2⟩
def azT:CK ag3:=fo [agZ] [.tmp 6,.tmp 7] Qg ⟨azO,q0⟩ func254
def I6(a0:Int)(a1:Int):Option (Int×Int):=(Xh a0 a1).bind aa
def WG:aA D:=⟨209,z9,z9,fx,[],fx,[],λh=>I6 h.1 h.2⟩
def ahO:CK WG:=fo [ag3] [.tmp 4,.tmp 5] .o ⟨azT,q0⟩ func209
def Pc(a0:dk)(a1:fc):Option (Int×mR):=(uX a0).bind λx1=>if(x1 !=0)=ab then(uX a0).bind λx7=>aa (0,0,0,x7)else((rS [a1.dC,a1.fp] (-5000) 5000).bind λx2=>if(!x2)=ab then aa ab else(rS [a1.fK] (-500000) 500000).bind λx3=>aa !x3).bind λx4=>if x4=ab then aa (0,0,0,1)else(I6 (W (a1.fK+W (a1.fp*a0.ib))) (W (a0.iF+a0.ib))).bind λx5=>(rS [x5.1,W (a1.fp-x5.1)] (-500000) 500000).bind λx6=>if(!x6)=ab then aa (0,0,0,1)else aa (a1.dC,x5.1,W (a1.fp-x5.1),0)
def aiz:aA D:=⟨152,YG,o_,[.agg [bE,bn,bL],.agg [dA,cD,bQ]],[],Ce,[],λh=>Pc ⟨h.1,h.2.1,h.2.2.1⟩ ⟨h.2.2.2.1,h.2.2.2.2.1,h.2.2.2.2.2⟩⟩
def aBc:CK aiz:=fo [IB,OD,WG] [.cell 4 132,.tmp 5] (qw (qm (qn (qw (qt 15 3088) .o)) .o) .o) ⟨Oh,WH,ahO,q0⟩ func152
def V'(a0:dk)(a1:fc):Option (Int×mR):=(EF a1).bind λx1=>if(!x1)=ab then aa (0,0,0,1)else(V8 a1).bind λx2=>(Pc a0 (fc.mk x2.1 x2.2.1 x2.2.2)).bind aa
def c91:aA D:=⟨91,YG,o_,[.agg [bE,bn,bL],.agg [dA,cD,bQ]],[],Ce,[],λh=>V' ⟨h.1,h.2.1,h.2.2.1⟩ ⟨h.2.2.2.1,h.2.2.2.2.1,h.2.2.2.2.2⟩⟩
def ays:CK c91:=fo [Ou,c88,aiz] [.cell 4 132,.tmp 5] .o ⟨Wn,ayw,aBc,q0⟩ func91
def Rk(a0:List iG):Option (List iG):=bG [] a0
def agw:aA D:=⟨287,[sv],[sv],o8,[],jn,[(1000,.sl 17 288 0 [])],λh=>Rk h⟩
def azs:CK agw:=by
 refine⟨call287,rfl,rfl,rfl,rfl,λoh r0 mD fm eQ has nI γ w vs hv _=>?_⟩;cases has;match vs,hv with
 |[],hv=>exact hv.elim
 |_::_::_,hv=>exact hv.2.elim
 |[v],hv=>
 obtain⟨xs,eH⟩:∃xs:List (D 17),xs=oh:=⟨_,rfl⟩;obtain⟨r,jr⟩:∃r:List (D 17),r=r0:=⟨_,rfl⟩;have g0:Rv (In γ.o [0]) w v xs:=by rw[eH];exact hv.1.1
 have hr:bG ([]:List (D 17)) xs=aa r:=by rw[eH,jr];exact mD
 subst jr;have hT:=F6.2;refine enter (l:=[v]) func287 rfl ntmps287 rfl ?_;refine CW.sub (L':=[(0,v)]) ⟨rfl,trivial⟩ ?_;refine CW.sr λK1 g_=>?_;refine WL.p (.slice none 0 0) rfl rfl ?_;refine WL.nx g_ ?_;refine CW.seq λK2 iD=>?_;refine CW.sr λK3 mb=>?_;refine WL.p v rfl rfl ?_;obtain⟨a,m,q,rfl,hn⟩:=zM g0;refine WL.lW (OW.isNil F6.1 rfl) rfl ?_;refine WL.nx mb ?_;cases a with
 |none=>refine CW.cond (b:=ab) rfl (λ_=>?_) (λh=>nomatch h);refine CW.sr λK4 nQ=>?_;refine WL.p (.slice none 0 0) rfl rfl ?_;refine WL.nx nQ ?_;rw[hn rfl]at hr;obtain rfl:=BP hr;exact CW.mr (vs:=[.slice none 0 0]) results287 ⟨rfl,trivial⟩ ⟨_,rfl,qJ (n:=17) (e:=288) (q:=1000) (K:=[]) (M:=[]) (N:=[]) rfl rfl rfl (by simp) (by simp) (bP.refl _ _ γ.o w) (Ow.nil _ _ _ _ _) (λx hx=>by simp at hx<;>omega)⟩ (λ_ _ h=>h)
 |some a=>refine CW.cond (b:=ai) rfl (λh=>nomatch h) (λ_=>?_);refine CW.skip ?_;refine iD _ _ ?_;refine CW.sr λK5 lE=>?_;refine WL.step (OW.buildSlice (o:=γ.o) (k:=1000) (K:=[]) (xs:=([]:List (D 17))) F6.1 hT rfl trivial rfl rfl) rfl ?_;rintro v1 w1 ⟨o1,kz,h1⟩;have g0:=g0.Br kz rfl;refine WL.p (.slice (aa a) m q) rfl rfl ?_;refine WL.step (OW.append (K:=[]) F6.1 hT rfl rfl h1 (@fD.flat (D 17) _ aw4 _ _ _ _ _ g0.dh) hr rfl) rfl ?_;rintro v2 w2 ⟨o2,mI,h2⟩;refine WL.p v2 rfl rfl ?_;refine WL.nx lE ?_;exact CW.mr (vs:=[v2]) results287 ⟨rfl,trivial⟩ ⟨_,rfl,qJ (n:=17) (e:=288) (q:=1000) (K:=[]) (M:=[1000]) (N:=[1000]) rfl rfl rfl (by simp) (by simp) ((kz.weaken (by simp) (by simp)).trans mI) h2 (λx hx=>by simp at hx<;>omega)⟩ (λ_ _ h=>h)
def QG(a0:b9)(a1:Int):Option (JK):=(Rk a0.nW).bind λx1=>aa (a0.Kind,a0.tq,eA a0.Max (imax a1 0),a0.vZ,a0.fL,x1)
def agY:aA D:=⟨259,P',Jy,P2,[],[.agg [bE,bn,cg,dA,cD,.own 1000]],[(1000,.sl 17 288 5 [])],λh=>QG ⟨h.1,h.2.1,h.2.2.1,h.2.2.2.1,h.2.2.2.2.1,h.2.2.2.2.2.1⟩ h.2.2.2.2.2.2⟩
def azN:CK agY:=fo [agw] [.cell 4 102] .o ⟨azs,q0⟩ func259
def Xp(a0:dk)(a1:List Int):Int×List fU×List b9->Option (Int×List fU×List b9⊕List fU×List b9):=λx6=>if al (x6.1<len a0.cT)=ab then(idx a0.cT x6.1).bind λx7=>(idx a1 x6.1).bind λx8=>(QG x7 x8).bind λx9=>(bG x6.2.2 [b9.mk x9.1 x9.2.1 x9.2.2.1 x9.2.2.2.1 x9.2.2.2.2.1 x9.2.2.2.2.2]).bind λbf=>aa (.inl (W (x6.1+1),x6.2.1,bf))else aa (.inr x6.2)
def Xo(a2:List fU)(a3:List Int):Int->Option (Int⊕Unit⊕List fU×Int×List Int×List b9):=λbK=>if al (bK<len a2)=ab then(idx a2 bK).bind λcq=>(rS [cq.X,cq.Y] (-5000) 5000).bind λcG=>if(!cG)=ab then aa (.inr (.inr ([],1,a3,[])))else aa (.inl (W (bK+1)))else aa (.inr (.inl ()))
def Pb(a0:dk)(a1:List Int)(a2:List fU)(a3:List Int):Option (List fU×Int×List Int×List b9):=(uX a0).bind λx1=>if(x1 !=0)=ab then(uX a0).bind λde=>aa ([],de,a3,[])else(if(len a1 !=len a0.cT)=ab then aa ab else if al (len a2>0)=ab then if(len a2 !=len a0.cT)=ab then aa ab else aa (len a3 !=len a0.cT)else aa (len a3 !=len a0.cT)).bind λx2=>if x2=ab then aa ([],8,a3,[])else((rS a1 0 5000).bind λx3=>if(!x3)=ab then aa ab else(rS a3 (-5000) 5000).bind λx4=>aa !x4).bind λx5=>if x5=ab then aa ([],1,a3,[])else(aJ (Xp a0 a1) (0,a2,[])).bind λbp=>(aJ (Xo a2 a3) 0).bind λcw=>dn (λcN=>aa (bp.1,0,a3,bp.2)) (aa) cw
def ahN:aA D:=⟨210,[qi,qi,jq,aM,rj,aM],[rj,qi,aM,jq],[.agg [bE,bn,bL],.one (bX),.one (ef),.one (.own 1000)],[(1000,.sl 0 3 5 [])],[.agg [.own 1001,b6],du],[(1000,.sl 0 3 2 []),(1001,.sl 16 102 3 [1])],λh=>Pb ⟨h.1,h.2.1,h.2.2.1⟩ h.2.2.2.1 h.2.2.2.2.1 h.2.2.2.2.2⟩
def aAx:CK ahN:=fo [IB,OD,agY] [.cell 8 267,.tmp 9] (qn (qw (qm (qn (qw (qt 26 3472) (qw (qt 49 3537) .o))) .o) (qw (qw (.loop ⟨[qi,rj,jq],[(64,aO)],[(3794,.box [.own 4562,bU]),(4562,.sl 16 102 2 [1])],[3794],4626⟩ ab [(.exit 1,⟨[rj,jq],[],[(3794,.box [.own 4562,b6]),(4562,.sl 16 102 1 [1])],[3794],4626⟩)] .o) .o) (qm (qw (.loop ⟨z8,[(83,aO)],[(2128,.box [.bF,.bF])],[2128],5076⟩ ai [(.exit 3,⟨[],[],[(2128,.box [.bF,.bF])],[2128],5076⟩)] .o) .o) .o)))) ⟨Oh,WH,azN,q0⟩ func210
def Xm(a0:dk)(a1:List Int)(a2:List fU)(a3:mh):Option (List fU×Int×List b9):=(mz 0 (len a0.cT)).bind λx1=>(Pb a0 a1 a2 x1).bind λx2=>(if(x2.2.1==0)=ab then(rS [a3.dC,a3.iF,a3.ib] (-500000) 500000).bind λx3=>aa !x3 else aa ai).bind λx4=>(if x4=ab then aa 1 else aa x2.2.1).bind λx5=>aa (x2.1,x5,x2.2.2.2)
def aix:aA D:=⟨154,YR,[rj,qi,jq],YI,[],[.agg [.own 1000,b6],du],[(1000,.sl 16 102 2 [1])],λh=>Xm ⟨h.1,h.2.1,h.2.2.1⟩ h.2.2.2.1 h.2.2.2.2.1 ⟨h.2.2.2.2.2.1,h.2.2.2.2.2.2.1,h.2.2.2.2.2.2.2⟩⟩
def aBa:CK aix:=fo [OD,ahN] [.cell 8 267,.tmp 9] (qn (qw (qm (qt 35 4368) (qp ⟨z8,[(11,aO)],[],[],4433⟩ .o .o)) .o)) ⟨WH,aAx,q0⟩ func154
def E1(a0:Int)(a1:Int):Option (Bool):=(if al (imax a0 a1<=1000000000)=ab then aa (al (eA a0 a1>=(-1000000000)))else aa ai).bind aa
def Wr:aA D:=⟨298,z9,[.lf .bool],fx,[],z5,[],λh=>E1 h.1 h.2⟩
def agl:CK Wr:=fo [] [.tmp 4] (qw (qt 4 2192) .o) trivial func298
def E4(a0:Int):Option (Int):=(vV a0).bind λx1=>(if al (x1>1800)=ab then aa (W (x1-1800),(-1))else aa (x1,1)).bind λx2=>(I6 (W (40000*W (x2.1*W (1800-x2.1)))) (W (4050000-W (x2.1*W (1800-x2.1))))).bind λx3=>aa (W (x2.2*x3.1))
def Ov:aA D:=⟨301,z8,z8,z5,[],z5,[],λh=>E4 h⟩
def Wo:CK Ov:=fo [WG,EK] [.tmp 2] (qv (qw (qn (qp ⟨z9,[(0,aO),(3,du)],[],[],2960⟩ .o .o)) .o)) ⟨ahO,IE,q0⟩ func301
def I_(a0:Int):Option (Int):=(vV a0).bind λx1=>(E4 (W (x1+900))).bind aa
def Wq:aA D:=⟨300,z8,z8,z5,[],z5,[],λh=>I_ h⟩
def agi:CK Wq:=fo [EK,Ov] [.tmp 2] .o ⟨IE,Wo,q0⟩ func300
def I9(a0:Int)(a1:Int)(a2:Int):Option (Int):=(E1 a1 a2).bind λx1=>if(!x1)=ab then aa 0 else(I_ a0).bind λx2=>(E4 a0).bind λx3=>aa (W (W (x2*a2)-W (x3*a1)))
def agk:aA D:=⟨299,mN,z8,Cd,[],z5,[],λh=>I9 h.1 h.2.1 h.2.2⟩
def azj:CK agk:=fo [Wr,Wq,Ov] [.tmp 6] .o ⟨agl,agi,Wo,q0⟩ func299
def O'(a0:iG)(a1:Int)(a2:Int):Option (Bool):=((E3 a0).bind λx1=>if(!x1)=ab then aa ab else if(a1==0)=ab then if(a2==0)=ab then aa ab else(E1 a1 a2).bind λx3=>aa !x3 else(E1 a1 a2).bind λx2=>aa !x2).bind λx4=>if x4=ab then aa ai else(I9 a0.fC a1 a2).bind λx5=>(if al (x5>0)=ab then aa ab else(I_ a0.fC).bind λx6=>(E4 a0.fC).bind λx7=>aa (al (W (W (x6*a1)+W (x7*a2))>0))).bind λx8=>(if al (x5>=0)=ab then(I9 a0.To a1 a2).bind λx9=>if al (x9<=0)=ab then aa x8 else aa ai else aa ai).bind aa
def agu:aA D:=⟨289,o_,[.lf .bool],[.agg [bE,bn],lu,tP],[],z5,[],λh=>O' ⟨h.1,h.2.1⟩ h.2.2.1 h.2.2.2⟩
def azq:CK agu:=fo [WJ,Wr,agk,Wq,Ov] [.tmp 6] (qw (qm (qt 25 2320) .o) (qw (qt 8 3153) (qm (qt 6 3218) .o))) ⟨ahU,agl,azj,agi,Wo,q0⟩ func289
def RK(a0:iG)(a1:Int)(a2:Int):Option (Bool):=(O' a0 a1 a2).bind aa
def agv:aA D:=⟨288,[qi,qi,.el 0,.el 0],[.lf .bool],[.agg [bE,bn],.one (.rp 2 0 [0]),.one (.rp 3 0 [0])],[],z5,[],λh=>RK ⟨h.1,h.2.1⟩ h.2.2.1 h.2.2.2⟩
def azr:CK agv:=fo [agu] [.tmp 4] .o ⟨azq,q0⟩ func288
