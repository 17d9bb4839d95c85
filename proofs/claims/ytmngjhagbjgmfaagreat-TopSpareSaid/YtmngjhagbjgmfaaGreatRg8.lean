import Derived.Test.YtmngjhagbjgmfaaGreatRg7
set_option maxRecDepth 100000
set_option linter.all false
open Bool renaming false->ai,true->ab
open Decidable renaming decide->al
open Option renaming some->aa
open Sum renaming elim->dn
noncomputable section
namespace Go.Proofs.YtmngjhagbjgmfaaGreat
open Go Go.RowKit Dp
namespace Rx
open Tryz
def Rc(a0:List iG)(a1:Int)(a2:Int):Int->Option (Int⊕Unit⊕Int):=λx1=>if al (x1<len a0)=ab then(idx a0 x1).bind λx2=>(RK x2 a1 a2).bind λx3=>if x3=ab then aa (.inr (.inr x1))else aa (.inl (W (x1+1)))else aa (.inr (.inl ()))
def Rf(a0:List iG)(a1:Int)(a2:Int):Option (Int):=(aJ (Rc a0 a1 a2) 0).bind λx4=>dn (λx5=>aa (-1)) (aa) x4
def ag7:aA D:=⟨251,[sv,.el 0,.el 0],z8,[.one (b6),.one (.fn 288 [.rp 1 0 [0],.rp 2 0 [0]])],[],z5,[],λh=>Rf h.1 h.2.1 h.2.2⟩
def azX:CK ag7:=fo [agv] [.tmp 4] z3 ⟨azr,q0⟩ func251
def Rj(a0:List iG)(a1:Int)(a2:Int):Option (Bool):=(Rf a0 a1 a2).bind λx1=>aa (al (x1>=0))
def ahW:aA D:=⟨201,[sv,.el 0,.el 0],[.lf .bool],[.one (b6),.one (.fn 288 [.rp 1 0 [0],.rp 2 0 [0]])],[],z5,[],λh=>Rj h.1 h.2.1 h.2.2⟩
def aAE:CK ahW:=fo [ag7] [.tmp 4] .o ⟨azX,q0⟩ func201
def Gt(a0:b9)(a1:Int)(a2:Int):Option (Bool):=(if al (imax a1 a2>a0.Max)=ab then aa ab else if al (eA a1 a2<W (-a0.Max))=ab then aa ab else if al (W (W (a1*a1)+W (a2*a2))>W (a0.Max*a0.Max))=ab then aa ab else if(a0.Kind==1)=ab then if(a1 !=0)=ab then aa ab else if(a0.Kind==2)=ab then aa (a2 !=0)else aa ai else if(a0.Kind==2)=ab then aa (a2 !=0)else aa ai).bind λx1=>if x1=ab then aa ai else(Rj a0.nW a1 a2).bind λx2=>aa !x2
def Wy:aA D:=⟨263,YV,[.lf .bool],[.agg [bE,bn,cg,dA,cD,kP],zS,.one (gQ)],[],z5,[],λh=>Gt ⟨h.1,h.2.1,h.2.2.1,h.2.2.2.1,h.2.2.2.2.1,h.2.2.2.2.2.1⟩ h.2.2.2.2.2.2.1 h.2.2.2.2.2.2.2⟩
def agS:CK Wy:=fo [ahW] [.tmp 6] (qw (qm (qt 54 2576) .o) .o) ⟨aAE,q0⟩ func263
def CZ(a0:Int)(a1:b9):Option (Bool):=(Gt a1 0 a0).bind aa
def agT:aA D:=⟨262,[qi,.el 16],[.lf .bool],[aO,.one (.rp 1 16 [0])],[],z5,[],λh=>CZ h.1 h.2⟩
def azJ:CK agT:=fo [Wy] [.tmp 3] .o ⟨agS,q0⟩ func262
def aaj(a0:b9):Int->Option (Int⊕Int):=λx2=>(CZ (W (x2-1)) a0).bind λx3=>if x3=ab then aa (.inl (W (x2-1)))else aa (.inr x2)
def aai(a0:b9):Int->Option (Int⊕Int):=λx5=>(CZ (W (x5+1)) a0).bind λx6=>if x6=ab then aa (.inl (W (x5+1)))else aa (.inr x5)
def RJ(a0:b9):Option (Int×Int):=(CZ 0 a0).bind λx1=>if(!x1)=ab then aa (0,0)else(aJ (aaj a0) 0).bind λx4=>(aJ (aai a0) 0).bind λx7=>aa (x4,x7)
def agV:aA D:=⟨261,[.el 16],z9,[.one (.fn 262 [.rp 0 16 [0]])],[],fx,[],λh=>RJ h⟩
def azK:CK agV:=fo [agT] [.tmp 2,.tmp 3] YB ⟨azJ,q0⟩ func261
def KQ(a0:b9):Option (Int×Int):=(zL a0).bind λx1=>if(!x1)=ab then aa (0,0)else(RJ a0).bind aa
def ahH:aA D:=⟨216,Jy,z9,Ql,[],fx,[],λh=>KQ ⟨h.1,h.2.1,h.2.2.1,h.2.2.2.1,h.2.2.2.2.1,h.2.2.2.2.2⟩⟩
def aAt:CK ahH:=fo [IK,agV] [.tmp 2,.tmp 3] .o ⟨OH,azK,q0⟩ func216
def ajL(a0:fU):Option (Int):=aa a0.Y
def ahE:aA D:=⟨218,z9,z8,wk,[],z5,[],λh=>ajL ⟨h.1,h.2⟩⟩
def aAq:CK ahE:=fo [] [.tmp 2] .o trivial func218
def RM(a0:Int)(a1:Int)(a2:Int)(a3:Int):Option (Int×Int):=(if al (imax (imax (imax a0 a1) a2) a3>1000000000)=ab then aa ab else if al (eA (eA a0 a1) a2<(-1000000000))=ab then aa ab else if al (a0>a1)=ab then aa ab else aa (al (a3<0))).bind λx1=>if x1=ab then aa (a0,a1)else if al (imax a0 (W (a2-a3))<=eA a1 (W (a2+a3)))=ab then aa (imax a0 (W (a2-a3)),eA a1 (W (a2+a3)))else if al (a2<a0)=ab then aa (a0,a0)else aa (a1,a1)
def Wx:aA D:=⟨264,o_,z9,[aO,du,lu,tP],[],fx,[],λh=>RM h.1 h.2.1 h.2.2.1 h.2.2.2⟩
def agR:CK Wx:=fo [] [.tmp 8,.tmp 9] (qw (qm (qt 33 2320) .o) .o) trivial func264
def SA(a0:pt)(a1:Int)(a2:Int)(a3:Int):Option (mR):=(idx a0.wy a1).bind λx1=>(if al (len a0.last>0)=ab then(idx a0.last a1).bind λx2=>(ajL x2).bind λx3=>(RM a2 a3 x3 x1.vZ).bind aa else aa (a2,a3)).bind λx5=>aa (x5.1,x5.2,x1.fL)
def ahG:aA D:=⟨217,[jq,rj,qi,qi,qi],mN,[.agg [b6,bU],lu,tP,GP,.one (.fn 218 [])],[],tx,[],λh=>SA ⟨h.1,h.2.1⟩ h.2.2.1 h.2.2.2.1 h.2.2.2.2⟩
def aAr:CK ahG:=fo [ahE,Wx] [.cell 10 331] YT ⟨aAq,agR,q0⟩ func217
def SB(a0:pt)(a1:Int):Int×List fw->Option (Int×List fw⊕List fw):=λx1=>if al (x1.1<len a0.wy)=ab then((idx a0.wy x1.1).bind λx2=>if(x2.tq !=a1)=ab then(bG x1.2 [fw.mk 0 0 x2.fL]).bind aa else(KQ x2).bind λx3=>(SA a0 x1.1 x3.1 x3.2).bind λx4=>(bG x1.2 [fw.mk x4.1 x4.2.1 x4.2.2]).bind aa).bind λx7=>aa (.inl (W (x1.1+1),x7))else aa (.inr x1.2)
def GU(a0:pt)(a1:Int):Option (List fw):=(aJ (SB a0 a1) (0,[])).bind aa
def aiv:aA D:=⟨156,[jq,rj,qi],[u_],[.agg [b6,bU],lu],[],jn,[(1000,.sl 37 331 0 [])],λh=>GU ⟨h.1,h.2.1⟩ h.2.2⟩
def aA_:CK aiv:=fo [ahH,ahG] [.tmp 4] (qn (qw (qw (.loop YO ab [(.exit 0,⟨[u_],[(5,.one (.own 2896))],[(2896,.sl 37 331 0 [])],[],2960⟩)] (qn (qw (qp ⟨[u_],[(5,.one (.own 3090))],[(3090,.sl 37 331 0 [])],[2896],3154⟩ .o .o) .o))) .o) .o)) ⟨aAt,aAr,q0⟩ func156
def Gq(a0:List fw):Int->Option (Int⊕Unit⊕Int):=λx1=>if al (x1<len a0)=ab then(idx a0 x1).bind λx2=>(if al (x2.jx<(-5000))=ab then aa ab else if al (x2.jx>x2.iS)=ab then aa ab else if al (x2.iS>5000)=ab then aa ab else if al (x2.fL<1)=ab then aa ab else aa (al (x2.fL>100))).bind λx3=>if x3=ab then aa (.inr (.inr 1))else aa (.inl (W (x1+1)))else aa (.inr (.inl ()))
def KJ(a0:List fw):Option (Int):=if al (len a0>8)=ab then aa 2 else(aJ (Gq a0) 0).bind λx4=>dn (λx5=>aa 0) (aa) x4
def agW:aA D:=⟨260,[u_],z8,o8,[],z5,[],λh=>KJ h⟩
def azM:CK agW:=fo [] [.tmp 2] (qn (qw (qw (.loop ⟨z8,[(10,aO)],[],[],2960⟩ ai [(.exit 0,⟨[],[],[],[],2960⟩)] (qn (qw (qm (qw (qr ⟨[.lf .bool],[(18,qa),(19,qa),(20,qa),(21,qa),(22,qa),(25,qa),(26,qa),(27,qa),(30,qa),(31,qa),(32,qa),(35,qa),(36,qa),(37,qa),(38,aO)],[],[],3665⟩) .o) .o) .o))) .o) .o)) trivial func260
def RA(a0:List fw):mR->Option (mR⊕Int×Int):=λx2=>if al (x2.2.2<len a0)=ab then(idx a0 x2.2.2).bind λx3=>aa (.inl (W (x2.1+x3.jx),W (x2.2.1+x3.iS),W (x2.2.2+1)))else aa (.inr (x2.1,x2.2.1))
def KK(a0:List fw):Option (mR):=(KJ a0).bind λx1=>if(x1 !=0)=ab then aa (0,0,x1)else(aJ (RA a0) (0,0,0)).bind λx4=>aa (x4.1,x4.2,0)
def ahM:aA D:=⟨211,[u_],mN,o8,[],Cd,[],λh=>KK h⟩
def aAw:CK ahM:=fo [agW] [.tmp 2,.tmp 3,.tmp 4] (qn (qw (qw (.loop ⟨mN,[(2,aO),(3,du),(15,lu)],[],[],3472⟩ ab [(.exit 0,⟨z9,[(2,aO),(3,du)],[],[],3472⟩)] .o) .o) .o)) ⟨azM,q0⟩ func211
def I7(a0:Int)(a1:Int)(a2:Int):Option (Int):=aa (imax a1 (eA a0 a2))
def WE:aA D:=⟨212,mN,z8,Cd,[],z5,[],λh=>I7 h.1 h.2.1 h.2.2⟩
def ahL:CK WE:=fo [] [.tmp 6] .o trivial func212
def O5(a0:Int)(a1:Int):Option (Int×Int):=(if al (a0<(-1000000000000000000))=ab then aa ab else if al (a0>1000000000000000000)=ab then aa ab else if al (a1<1)=ab then aa ab else aa (al (a1>1000000000))).bind λx1=>if x1=ab then aa (0,1)else(za a0 a1).bind λx2=>aa (x2,0)
def ag2:aA D:=⟨254,z9,z9,[aO,du,.one (.fn 256 [])],[],fx,[],λh=>O5 h.1 h.2⟩
def azS:CK ag2:=fo [OA] [.tmp 6,.tmp 7] Qg ⟨WA,q0⟩ func254
def BO(a0:Int)(a1:Int):Option (Int×Int):=(O5 a0 a1).bind aa
def WD:aA D:=⟨213,z9,z9,fx,[],fx,[],λh=>BO h.1 h.2⟩
def ahK:CK WD:=fo [ag2] [.tmp 4,.tmp 5] .o ⟨azS,q0⟩ func213
def Ry(a0:List fw)(a1:Int):sn->Option (sn⊕Int×List Int):=λx1=>if al (x1.2.1<len a0)=ab then(idx a0 x1.2.1).bind λx2=>(BO (W (a1+x2.fL)) (W (2*x2.fL))).bind λx3=>(I7 x3.1 x2.jx x2.iS).bind λx4=>(bG x1.2.2 [x4]).bind λx5=>aa (.inl (W (x1.1+x4),W (x1.2.1+1),x5))else aa (.inr (x1.1,x1.2.2))
def Gp(a0:List fw)(a1:Int):Option (Int×List Int):=(aJ (Ry a0 a1) (0,0,[])).bind aa
def ahJ:aA D:=⟨214,[u_,qi],kJ,zq,[],[.one (.own 1000),aO],zy,λh=>Gp h.1 h.2⟩
def aAv:CK ahJ:=fo [WE,WD] [.tmp 4,.tmp 5] (qw (qw (.loop ⟨Cc,[(4,.one (.own 2640)),(5,aO),(12,du)],[(2640,.sl 0 3 2 [])],[],2704⟩ ab [(.exit 0,⟨kJ,[(4,.one (.own 2640)),(5,aO)],[(2640,.sl 0 3 1 [])],[],2704⟩)] .o) .o) .o) ⟨ahL,ahK,q0⟩ func214
def Rz(a0:fw)(a1:Int):Option (Int):=aa (W (a0.fL*W (W (2*a1)+1)))
def ahI:aA D:=⟨215,o_,z8,Ce,[],z5,[],λh=>Rz ⟨h.1,h.2.1,h.2.2.1⟩ h.2.2.2⟩
def aAu:CK ahI:=fo [] [.tmp 4] .o trivial func215
def aab(a0:List fw)(x3:Int):Int×Int->Option (Int×Int⊕Int):=λx4=>if al (x4.1<x4.2)=ab then(BO (W (x4.1+x4.2)) 2).bind λx5=>(Gp a0 x5.1).bind λx6=>(if al (x6.1>=x3)=ab then aa (x4.1,x5.1)else aa (W (x5.1+1),x4.2)).bind λx7=>aa (.inl x7)else aa (.inr x4.1)
def RB(a0:List fw)(x3:Int)(x8:Int):sn->Option (sn⊕List Int):=λbf=>if al (bf.2.1<len a0)=ab then(idx a0 bf.2.1).bind λbp=>(if al (bf.1<x3)=ab then(idx bf.2.2 bf.2.1).bind λbK=>if al (bK<bp.iS)=ab then(idx bf.2.2 bf.2.1).bind λcq=>(Rz bp cq).bind λcG=>aa (cG==x8)else aa ai else aa ai).bind λcw=>(if cw=ab then(idx bf.2.2 bf.2.1).bind λcN=>(idx bf.2.2 bf.2.1).bind λdG=>(idx bf.2.2 bf.2.1).bind λde=>(di bf.2.2 bf.2.1 (W (cN+1))).bind λdP=>aa (W (bf.1+1),dP)else aa (bf.1,bf.2.2)).bind λfg=>aa (.inl (fg.1,W (bf.2.1+1),fg.2))else aa (.inr bf.2.2)
def CV(a0:List fw)(a1:Int):Option (sn):=(KK a0).bind λx1=>if(x1.2.2 !=0)=ab then aa (0,x1.2.2,[])else(if al (a1<(-500000))=ab then aa ab else aa (al (a1>500000))).bind λx2=>if x2=ab then aa (0,1,[])else(I7 a1 x1.1 x1.2.1).bind λx3=>(aJ (aab a0 x3) ((-1000200),1000200)).bind λx8=>(Gp a0 (W (x8-1))).bind λx9=>(aJ (RB a0 x3 x8) (x9.1,0,x9.2)).bind λgb=>aa (W (a1-x3),0,gb)
def aiw:aA D:=⟨155,[u_,qi],Cc,zq,[],[.one (.own 1000),aO,du],[(1000,.sl 0 3 2 [])],λh=>CV h.1 h.2⟩
def aA':CK aiw:=fo [ahM,WE,WD,ahJ,ahI] [.tmp 4,.tmp 5,.tmp 6] (qv (qw (qm (qt 35 3856) .o) (qn (qw (qm (.loop ⟨z9,[(11,aO),(12,du)],[],[],4817⟩ ab [(.exit 0,⟨z8,[(11,aO)],[],[],4817⟩)] (qw (qv (qn (qp ⟨z9,[(11,aO),(12,du)],[],[],7827⟩ .o .o))) .o)) .o) (qw (qw (.loop ⟨Cc,[(18,aO),(71,du)],[(5210,.sl 0 3 2 [])],[5210],6418⟩ ab [(.exit 2,⟨fk,[],[(5210,.sl 0 3 0 [])],[5210],6418⟩)] (qn (qw (qm (qw (qr ⟨[.lf .bool],[(80,qa),(81,qa),(82,qa),(83,qa),(84,qa),(85,qa),(86,qa),(89,qa),(90,qa),(91,qa),(92,qa),(93,qa),(94,qa),(95,qa),(96,qa),(97,aO)],[],[],7381⟩) (qp ⟨kJ,[(18,aO)],[(5210,.sl 0 3 1 [])],[5210],7446⟩ .o .o)) .o) .o))) .o) .o))))) ⟨aAw,ahL,ahK,aAv,aAu,q0⟩ func155
def CY(a0:Int)(a1:b9)(a2:Int):Option (Bool):=(Gt a1 a0 a2).bind aa
def agQ:aA D:=⟨265,[qi,.el 16,.el 0],[.lf .bool],[aO,.one (.rp 1 16 [0]),.one (.rp 7 0 [0])],[],z5,[],λh=>CY h.1 h.2.1 h.2.2⟩
def azI:CK agQ:=fo [Wy] [.tmp 4] .o ⟨agS,q0⟩ func265
def aah(a0:b9)(a1:Int):Int->Option (Int⊕Int):=λx2=>(CY (W (x2-1)) a0 a1).bind λx3=>if x3=ab then aa (.inl (W (x2-1)))else aa (.inr x2)
def aag(a0:b9)(a1:Int):Int->Option (Int⊕Int):=λx5=>(CY (W (x5+1)) a0 a1).bind λx6=>if x6=ab then aa (.inl (W (x5+1)))else aa (.inr x5)
def RI(a0:b9)(a1:Int):Option (Int×Int):=(CY 0 a0 a1).bind λx1=>if(!x1)=ab then aa (0,0)else(aJ (aah a0 a1) 0).bind λx4=>(aJ (aag a0 a1) 0).bind λx7=>aa (x4,x7)
def agU:aA D:=⟨261,[.el 16,.el 0],z9,[.one (.fn 265 [.rp 0 16 [0],.rp 6 0 [0]])],[],fx,[],λh=>RI h.1 h.2⟩
def azL:CK agU:=fo [agQ] [.tmp 2,.tmp 3] YB ⟨azI,q0⟩ func261
def KP(a0:b9)(a1:Int):Option (Int×Int):=(zL a0).bind λx1=>if(!x1)=ab then aa (0,0)else(RI a0 a1).bind aa
def ahD:aA D:=⟨219,P',z9,P2,[],fx,[],λh=>KP ⟨h.1,h.2.1,h.2.2.1,h.2.2.2.1,h.2.2.2.2.1,h.2.2.2.2.2.1⟩ h.2.2.2.2.2.2⟩
def aAp:CK ahD:=fo [IK,agU] [.tmp 4,.tmp 5] .o ⟨OH,azL,q0⟩ func219
def ajK(a0:fU):Option (Int):=aa a0.X
def ahA:aA D:=⟨220,z9,z8,wk,[],z5,[],λh=>ajK ⟨h.1,h.2⟩⟩
def aAn:CK ahA:=fo [] [.tmp 2] .o trivial func220
def Sz(a0:pt)(a1:Int)(a2:Int)(a3:Int):Option (mR):=(idx a0.wy a1).bind λx1=>(if al (len a0.last>0)=ab then(idx a0.last a1).bind λx2=>(ajK x2).bind λx3=>(RM a2 a3 x3 x1.vZ).bind aa else aa (a2,a3)).bind λx5=>aa (x5.1,x5.2,x1.fL)
def ahF:aA D:=⟨217,[jq,rj,qi,qi,qi],mN,[.agg [b6,bU],lu,tP,GP,.one (.fn 220 [])],[],tx,[],λh=>Sz ⟨h.1,h.2.1⟩ h.2.2.1 h.2.2.2.1 h.2.2.2.2⟩
def aAs:CK ahF:=fo [ahA,Wx] [.cell 10 331] YT ⟨aAn,agR,q0⟩ func217
def Sy(a0:pt)(a1:List Int):Int×List fw->Option (Int×List fw⊕List fw):=λx1=>if al (x1.1<len a0.wy)=ab then(idx a0.wy x1.1).bind λx2=>(idx a1 x1.1).bind λx3=>(KP x2 x3).bind λx4=>(Sz a0 x1.1 x4.1 x4.2).bind λx5=>(bG x1.2 [fw.mk x5.1 x5.2.1 x5.2.2]).bind λx6=>aa (.inl (W (x1.1+1),x6))else aa (.inr x1.2)
def LW(a0:pt)(a1:List Int):Option (List fw):=(aJ (Sy a0 a1) (0,[])).bind aa
def aiu:aA D:=⟨157,[jq,rj,aM],[u_],[.agg [b6,bU],.one (bL)],[],jn,[(1000,.sl 37 331 0 [])],λh=>LW ⟨h.1,h.2.1⟩ h.2.2⟩
def aA9:CK aiu:=fo [ahF,ahD] [.tmp 4] (qn (qw (qw (.loop YO ab [(.exit 0,⟨[u_],[(5,.one (.own 2896))],[(2896,.sl 37 331 0 [])],[],2960⟩)] .o) .o) .o)) ⟨aAs,aAp,q0⟩ func157
def QH(a0:dk)(a1:List fU):Int×Int×Int×Int×mR->Option (Int×Int×Int×Int×mR⊕Int×Int×Int×mR⊕Int×mR):=λx2=>if al (x2.1<len a1)=ab then(idx a1 x2.1).bind λx3=>(FU x3).bind λx4=>if(!x4)=ab then aa (.inr (.inr (0,0,0,1)))else(idx a0.cT x2.1).bind λx5=>(if(x5.tq==0)=ab then aa (W (x2.2.2.2.2.1+x3.X),W (x2.2.2.2.2.2.1+x3.Y),x2.2.2.2.2.2.2)else aa (W (x2.2.2.2.2.1+x3.X),x2.2.2.2.2.2.1,W (x2.2.2.2.2.2.2+x3.Y))).bind λx6=>aa (.inl (W (x2.1+1),x2.2.1,x2.2.2.1,x2.2.2.2.1,x6))else aa (.inr (.inl x2.2))
def JS(a0:dk)(a1:List fU):Option (Int×mR):=(uX a0).bind λx1=>if(x1 !=0)=ab then(uX a0).bind λbf=>aa (0,0,0,bf)else if(len a1 !=len a0.cT)=ab then aa (0,0,0,8)else(aJ (QH a0 a1) (0,0,0,0,0,0,0)).bind λx7=>dn (λx8=>aa (x8.2.2.2.1,x8.2.2.2.2.1,x8.2.2.2.2.2,0)) (aa) x7
def ait:aA D:=⟨158,[qi,qi,jq,rj],o_,[.agg [bE,bn,bL],.one (bX)],[],Ce,[],λh=>JS ⟨h.1,h.2.1,h.2.2.1⟩ h.2.2.2⟩
def aA8:CK ait:=fo [IB,WI] [.cell 4 132,.tmp 5] (qv (qw (qw (.loop ⟨[qi,qi,qi,qi,qi,qi,qi],[(26,aO)],[(2128,.box [bn,cg,dA]),(3792,.box [cD,bQ,eG])],[2128,3792],4368⟩ ai [(.exit 1,⟨YH,[],[(2128,.box [bE,bn,cg]),(3792,.box [dA,cD,bQ])],[2128,3792],4368⟩)] (qn (qw (qm (qv (qv (qp ⟨mN,[],[(3792,.box [bE,bn,cg])],[3792],7511⟩ .o .o))) .o) .o))) .o) .o)) ⟨Oh,ahQ,q0⟩ func158
def Xn(a0:mh)(a1:mh):Option (mR):=aa (W (a0.dC-a1.dC),W (a0.iF-a1.iF),W (a0.ib-a1.ib))
def ais:aA D:=⟨159,YH,mN,[.agg [bE,bn,cg],.agg [dA,cD,bQ]],[],tx,[],λh=>Xn ⟨h.1,h.2.1,h.2.2.1⟩ ⟨h.2.2.2.1,h.2.2.2.2.1,h.2.2.2.2.2⟩⟩
def aA7:CK ais:=fo [] [.cell 4 132] .o trivial func159
def Xr(x3:sn)(x5:sn):Int×List Int->Option (Int×List Int⊕List Int):=λx6=>if al (x6.1<len x5.2.2)=ab then(idx x6.2 x6.1).bind λx7=>(idx x3.2.2 x6.1).bind λx8=>(idx x6.2 x6.1).bind λx9=>(idx x6.2 x6.1).bind λbf=>(di x6.2 x6.1 (W (x7+x8))).bind λbp=>aa (.inl (W (x6.1+1),bp))else aa (.inr x6.2)
def Xq(bK:List Int)(cG:sn):Int×JM->Option (Int×JM⊕JM):=λcw=>if al (cw.1<len bK)=ab then(idx cG.2.2 cw.1).bind λcN=>(idx bK cw.1).bind λdG=>(bG cw.2.2.2.2.2.2.2 [fU.mk cN dG]).bind λde=>aa (.inl (W (cw.1+1),cw.2.1,cw.2.2.1,cw.2.2.2.1,cw.2.2.2.2.1,cw.2.2.2.2.2.1,cw.2.2.2.2.2.2.1,de))else aa (.inr cw.2)
def Pd(a0:dk)(a1:List Int)(a2:List fU)(a3:mh):Option (Int×JM):=(Xm a0 a1 a2 a3).bind λx1=>if(x1.2.1 !=0)=ab then aa (0,0,0,0,0,0,x1.2.1,[])else(GU (pt.mk x1.2.2 x1.1) 0).bind λx2=>(CV x2 a3.iF).bind λx3=>(GU (pt.mk x1.2.2 x1.1) 1).bind λx4=>(CV x4 a3.ib).bind λx5=>(aJ (Xr x3 x5) (0,x5.2.2)).bind λbK=>(LW (pt.mk x1.2.2 x1.1) bK).bind λcq=>(CV cq a3.dC).bind λcG=>(aJ (Xq bK cG) (0,0,0,0,0,0,0,[])).bind λdP=>(JS a0 dP.2.2.2.2.2.2).bind λfg=>(Xn a3 (mh.mk fg.1 fg.2.1 fg.2.2.1)).bind λgb=>aa (fg.1,fg.2.1,fg.2.2.1,gb.1,gb.2.1,gb.2.2,0,dP.2.2.2.2.2.2)
def c92:aA D:=⟨92,YR,YU,YI,[],[.agg [.own 1000,bE,bn,cg,dA,cD,bQ],zS],[(1000,.sl 33 264 7 [])],λh=>Pd ⟨h.1,h.2.1,h.2.2.1⟩ h.2.2.2.1 h.2.2.2.2.1 ⟨h.2.2.2.2.2.1,h.2.2.2.2.2.2.1,h.2.2.2.2.2.2.2⟩⟩
def ayr:CK c92:=fo [aix,aiw,aiv,aiu,ait,ais] [.cell 8 201,.tmp 9] (qv (qv (qw (qw (.loop ⟨kJ,[(56,aO)],[(6232,.sl 0 3 1 [])],[6232],7696⟩ ab [(.exit 0,⟨fk,[],[(6232,.sl 0 3 0 [])],[6232],7696⟩)] .o) .o) (qn (qw (qw (.loop ⟨YU,[(82,aO)],[(9361,.box [.own 9873,bn,cg,dA,cD,bQ,eG]),(9873,.sl 33 264 7 [])],[9361],9937⟩ ab [(.exit 2,⟨[qi,qi,qi,qi,qi,qi,rj],[],[(9361,.box [.own 9873,bE,bn,cg,dA,cD,bQ]),(9873,.sl 33 264 6 [])],[9361],9937⟩)] .o) .o) .o))))) ⟨aBa,aA',aA_,aA9,aA8,aA7,q0⟩ func92
def V_(a0:dk)(a1:List Int)(a2:fc):Option (Int×mR):=(V' a0 a2).bind λx1=>if(x1.2.2.2 !=0)=ab then aa (0,0,0,x1.2.2.2)else(Pd a0 a1 [] (mh.mk x1.1 x1.2.1 x1.2.2.1)).bind λx2=>if(x2.2.2.2.2.2.2.1 !=0)=ab then aa (0,0,0,x2.2.2.2.2.2.2.1)else aa (x2.2.2.2.1,x2.2.2.2.2.1,x2.2.2.2.2.2.1,0)
def c35:aA D:=⟨35,P9,o_,P3,[],Ce,[],λh=>V_ ⟨h.1,h.2.1,h.2.2.1⟩ h.2.2.2.1 ⟨h.2.2.2.2.1,h.2.2.2.2.2.1,h.2.2.2.2.2.2⟩⟩
def ay_:CK c35:=fo [c91,c92] [.cell 6 132,.tmp 7] .o ⟨ays,ayr,q0⟩ func35
def rP(a0:dk)(a1:List Int)(a2:fc):Option (Bool):=(V_ a0 a1 a2).bind λx1=>(if(x1.2.2.2==0)=ab then aa (x1.1==0&&(x1.2.1==0&&x1.2.2.1==0))else aa ai).bind aa
def OM:aA D:=⟨12,P9,[.lf .bool],P3,[],z5,[],λh=>rP ⟨h.1,h.2.1,h.2.2.1⟩ h.2.2.2.1 ⟨h.2.2.2.2.1,h.2.2.2.2.2.1,h.2.2.2.2.2.2⟩⟩
def WV:CK OM:=fo [c35] [.tmp 6] (qn (qw (qt 6 3728) .o)) ⟨ay_,q0⟩ func12
def NZ(a0:jM)(a1:cO)(a2:List Part)(a3:List Part)(a4:fc):Option (Bool):=(yU a0 a1 a2 a3).bind λx1=>(if(x1.2.1==0)=ab then(rP a0.dk x1.2.2.2.2.2.2.2.2 a4).bind aa else aa ai).bind aa
def h59:List Ht:=(aM::aM::[aM,aM,aM,aM,aM,aM,aM,qi,qi,qi,qi,qi,qi,jq,qi,cX,dL,dq,qi,qi,qi,qi,qi,bz,ot,p9,zQ,qi,qi,qi,qi,qi,qi,qi,qi,qi,qi,qi,qi,qi,.lf .str,qi,qi,qi,qi,qi,qi,zP,qi,cm,cI,aM,bz,fG,gf,bz,bz,qi,qi,qi])
def EI:aA D:=⟨59,h59,[.lf .bool],[.agg [b6,bU,bL,bX,ef,kP,jD,kh,mU,p_,kQ,nC,mV,rl,xY,.h 15 [0],wK,.h 17 [0],.h 18 [0],.h 19 [0],Ab,Aa,z_,zZ,zY,.h 25 [0],.h 26 [0],.h 27 [0],.h 28 [0],zX,zW,zV,.h 32 [],xX,.h 34 [],.h 35 [],.h 36 [],.h 37 [],.h 38 [],.h 39 [],.h 40 [],.h 41 [],.h 42 [],.h 43 [],.h 44 [],.h 45 [],.h 46 [],.h 47 [],.h 48 [],.h 49 [0]],.agg [.h 50 [],.h 51 [0],.h 52 [0],.h 53 [0],.h 54 [0],.h 55 [0],.h 56 [0]],.one (.h 57 [0]),.one (.h 58 [0]),.agg [.h 59 [],.h 60 [],.h 61 []]],[],z5,[],λh=>let g:=h.2.2.2.2.2.2;let k:=g.2.2.2.2.2.2;let u:=k.2.2.2.2.2.2;let v:=u.2.2.2.2.2.2;let w:=v.2.2.2.2.2.2;let ha:=w.2.2.2.2.2.2;let hb:=ha.2.2.2.2.2.2;let hc:=hb.2.2.2.2.2.2;let hd:=hc.2.2.2.2.2.2;NZ ⟨⟨⟨h.1,h.2.1,h.2.2.1⟩,⟨h.2.2.2.1,h.2.2.2.2.1,h.2.2.2.2.2.1⟩,⟨g.1,g.2.1,g.2.2.1⟩,g.2.2.2.1,g.2.2.2.2.1,g.2.2.2.2.2.1,k.1⟩,⟨k.2.1,k.2.2.1,k.2.2.2.1⟩,⟨k.2.2.2.2.1,k.2.2.2.2.2.1,u.1,u.2.1,u.2.2.1,u.2.2.2.1⟩,⟨u.2.2.2.2.1,u.2.2.2.2.2.1,v.1⟩,⟨v.2.1,v.2.2.1,v.2.2.2.1⟩,v.2.2.2.2.1,⟨v.2.2.2.2.2.1,w.1,w.2.1,w.2.2.1,w.2.2.2.1,w.2.2.2.2.1,w.2.2.2.2.2.1,ha.1,ha.2.1⟩,⟨⟨ha.2.2.1,ha.2.2.2.1⟩,ha.2.2.2.2.1⟩,ha.2.2.2.2.2.1,⟨hb.1,hb.2.1,⟨⟨hb.2.2.1,hb.2.2.2.1⟩,hb.2.2.2.2.1,hb.2.2.2.2.2.1⟩,hc.1⟩,⟨hc.2.1⟩⟩ ⟨hc.2.2.1,⟨hc.2.2.2.1,hc.2.2.2.2.1,hc.2.2.2.2.2.1,hd.1⟩,hd.2.1,hd.2.2.1⟩ hd.2.2.2.1 hd.2.2.2.2.1 ⟨hd.2.2.2.2.2.1,hd.2.2.2.2.2.2.1,hd.2.2.2.2.2.2.2⟩⟩
def afT:CK EI:=fo [BI,OM] [.tmp 10] (qn (qw (qt 10 4240) .o)) ⟨W0,WV,q0⟩ func59
def h40:List Ht:=(aM::z0)
def Oo:aA D:=tM T [EI] ⟨40,h40,[.lf .bool],z2,[],z5,[],λ_=>none⟩ [.tmp 8] (qN f40) .o
def ay6:CK Oo:=wF (Φ:=[EI]) qc pg (im.mem (⟨afT,q0⟩:im _ _ [EI])) nK call40 func40 rfl rfl (by kernel_rfl)
def VS(a0:jM)(a1:cO)(a2:List Part)(a3:fc):Option (List Int×List Int×List Int×List Int×List Int×List Int×List Int×List Int×List Int×Int×Int×Int×Int×Int×Int×List b9×Int×List cH×List Source×List Consumer×Int×Int×Int×Int×Int×List Part×List jN×List jk×List k_×Int×Int×Int×Int×Int×Int×Int×Int×Int×Int×Int×Int×Int×ByteArray×Int×Int×Int×Int×Int×Int×List ns×Int×List Bool×List bo×List Int×List Part×List eO×List Event×List Part×mR):=aa (a0.dJ.oP.dC,a0.dJ.oP.fp,a0.dJ.oP.fK,a0.dJ.oR.dC,a0.dJ.oR.fp,a0.dJ.oR.fK,a0.dJ.oQ.dC,a0.dJ.oQ.fp,a0.dJ.oQ.fK,a0.dJ.Fi,a0.dJ.Fk,a0.dJ.Ft,a0.dJ.Fc,a0.dk.iF,a0.dk.ib,a0.dk.cT,a0.aw.aB,a0.aw.ae,a0.aw.aj,a0.aw.az,a0.aw.bi,a0.aw.aZ,a0.ia.Start,a0.ia.Stop,a0.ia.nX,a0.dy.fj,a0.dy.ic,a0.dy.il,a0.PG,a0.fb.Fe,a0.fb.Sum,a0.fb.Calm,a0.fb.iQ,a0.fb.rX,a0.fb.E8,a0.fb.Fg,a0.fb.Fh,a0.fb.Ff,a0.Target.Place.X,a0.Target.Place.Y,a0.Target.Fm,a0.nX,a0.fX.Name,a0.fX.Fu,a0.fX.fZ.Place.X,a0.fX.fZ.Place.Y,a0.fX.fZ.zd,a0.fX.fZ.zh,a0.fX.rX,a0.nV.E9,a1.Time,a1.ax.aG,a1.ax.aj,a1.ax.aX,a1.ax.aS,a1.pO,a1.rW,a2,a3.dC,a3.fp,a3.fK)
def h23:List Ht:=(aM::z0)
def o23:List Ht:=(aM::z0)
def IF:aA D:=⟨23,h23,o23,z2,[],[.one (.fn 57 [.ptr 1000 0,.ptr 1001 0,.ptr 1002 0,.ptr 1003 0])],[(1000,.box [b6,bU,bL,bX,ef,kP,jD,kh,mU,p_,kQ,nC,mV,rl,xY,.h 15 [0],wK,.h 17 [0],.h 18 [0],.h 19 [0],Ab,Aa,z_,zZ,zY,.h 25 [0],.h 26 [0],.h 27 [0],.h 28 [0],zX,zW,zV,.h 32 [],xX,.h 34 [],.h 35 [],.h 36 [],.h 37 [],.h 38 [],.h 39 [],.h 40 [],.h 41 [],.h 42 [],.h 43 [],.h 44 [],.h 45 [],.h 46 [],.h 47 [],.h 48 [],.h 49 [0]]),(1001,.box [.h 50 [],.h 51 [0],.h 52 [0],.h 53 [0],.h 54 [0],.h 55 [0],.h 56 [0]]),(1002,.box [.h 57 [0]]),(1003,.box [.h 58 [],.h 59 [],.h 60 []])],λh=>let g:=h.2.2.2.2.2.2;let k:=g.2.2.2.2.2.2;let u:=k.2.2.2.2.2.2;let v:=u.2.2.2.2.2.2;let w:=v.2.2.2.2.2.2;let ha:=w.2.2.2.2.2.2;let hb:=ha.2.2.2.2.2.2;let hc:=hb.2.2.2.2.2.2;let hd:=hc.2.2.2.2.2.2;VS ⟨⟨⟨h.1,h.2.1,h.2.2.1⟩,⟨h.2.2.2.1,h.2.2.2.2.1,h.2.2.2.2.2.1⟩,⟨g.1,g.2.1,g.2.2.1⟩,g.2.2.2.1,g.2.2.2.2.1,g.2.2.2.2.2.1,k.1⟩,⟨k.2.1,k.2.2.1,k.2.2.2.1⟩,⟨k.2.2.2.2.1,k.2.2.2.2.2.1,u.1,u.2.1,u.2.2.1,u.2.2.2.1⟩,⟨u.2.2.2.2.1,u.2.2.2.2.2.1,v.1⟩,⟨v.2.1,v.2.2.1,v.2.2.2.1⟩,v.2.2.2.2.1,⟨v.2.2.2.2.2.1,w.1,w.2.1,w.2.2.1,w.2.2.2.1,w.2.2.2.2.1,w.2.2.2.2.2.1,ha.1,ha.2.1⟩,⟨⟨ha.2.2.1,ha.2.2.2.1⟩,ha.2.2.2.2.1⟩,ha.2.2.2.2.2.1,⟨hb.1,hb.2.1,⟨⟨hb.2.2.1,hb.2.2.2.1⟩,hb.2.2.2.2.1,hb.2.2.2.2.2.1⟩,hc.1⟩,⟨hc.2.1⟩⟩ ⟨hc.2.2.1,⟨hc.2.2.2.1,hc.2.2.2.2.1,hc.2.2.2.2.2.1,hd.1⟩,hd.2.1,hd.2.2.1⟩ hd.2.2.2.1 ⟨hd.2.2.2.2.1,hd.2.2.2.2.2.1,hd.2.2.2.2.2.2⟩⟩
def ahl:CK IF:=fo [] [.tmp 8] .o trivial func23
def VT(a0:dy)(a1:cO)(a2:List Part):Option (List Part):=(Ik a2 a1.ax.aS).bind λx1=>(Il a0 x1).bind aa
def Wk:aA D:=⟨58,[bz,ot,p9,qi,cm,cI,aM,bz,fG,gf,bz],ie,[.agg [b6,bU,bL],.agg [dA,ef,kP,jD,kh,mU,rk],.one (zU)],[],jn,mM,λh=>let g:=h.2.2.2.2.2.2;VT ⟨h.1,h.2.1,h.2.2.1⟩ ⟨h.2.2.2.1,⟨h.2.2.2.2.1,h.2.2.2.2.2.1,g.1,g.2.1⟩,g.2.2.1,g.2.2.2.1⟩ g.2.2.2.2⟩
def ayP:CK Wk:=fo [Wz,Ol] [.tmp 6] .o ⟨agL,afL,q0⟩ func58
