import Derived.Test.YtmngjhagbjgmfaaGreatRg7
set_option maxRecDepth 100000
set_option linter.all false
open Bool renaming false->ai,true->ab
open Decidable renaming decide->ak
open Option renaming some->aa
open Sum renaming elim->dk
noncomputable section
namespace Go.Proofs.YtmngjhagbjgmfaaGreat
open Go Go.RowKit Dp
namespace Rx
open Tryz
def Q9(a0:List iD)(a1:Int)(a2:Int):Int->Option (Int⊕Unit⊕Int):=λx1=>if ak (x1<len a0)=ab then(idx a0 x1).bind λx2=>(RG x2 a1 a2).bind λx3=>if x3=ab then aa (.inr (.inr x1))else aa (.inl (W (x1+1)))else aa (.inr (.inl ()))
def Q_(a0:List iD)(a1:Int)(a2:Int):Option (Int):=(aI (Q9 a0 a1 a2) 0).bind λx4=>dk (λx5=>aa (-1)) (aa) x4
def ag3:az D:=⟨251,[so,.el 0,.el 0],z8,[.one (bZ),.one (.fn 288 [.rp 1 0 [0],.rp 2 0 [0]])],[],z5,[],λh=>Q_ h.1 h.2.1 h.2.2⟩
def azT:CK ag3:=fo [agq] [.tmp 4] z3 ⟨azn,q0⟩ func251
def Rf(a0:List iD)(a1:Int)(a2:Int):Option (Bool):=(Q_ a0 a1 a2).bind λx1=>aa (ak (x1>=0))
def ahS:az D:=⟨201,[so,.el 0,.el 0],[.lf .bool],[.one (bZ),.one (.fn 288 [.rp 1 0 [0],.rp 2 0 [0]])],[],z5,[],λh=>Rf h.1 h.2.1 h.2.2⟩
def aAA:CK ahS:=fo [ag3] [.tmp 4] .o ⟨azT,q0⟩ func201
def Gp(a0:b8)(a1:Int)(a2:Int):Option (Bool):=(if ak (imax a1 a2>a0.Max)=ab then aa ab else if ak (eu a1 a2<W (-a0.Max))=ab then aa ab else if ak (W (W (a1*a1)+W (a2*a2))>W (a0.Max*a0.Max))=ab then aa ab else if(a0.Kind==1)=ab then if(a1 !=0)=ab then aa ab else if(a0.Kind==2)=ab then aa (a2 !=0)else aa ai else if(a0.Kind==2)=ab then aa (a2 !=0)else aa ai).bind λx1=>if x1=ab then aa ai else(Rf a0.nT a1 a2).bind λx2=>aa !x2
def Wu:az D:=⟨263,YR,[.lf .bool],[.agg [bD,bl,cf,dy,cB,kM],zO,.one (gM)],[],z5,[],λh=>Gp ⟨h.1,h.2.1,h.2.2.1,h.2.2.2.1,h.2.2.2.2.1,h.2.2.2.2.2.1⟩ h.2.2.2.2.2.2.1 h.2.2.2.2.2.2.2⟩
def agO:CK Wu:=fo [ahS] [.tmp 6] (qw (qm (qt 54 2576) .o) .o) ⟨aAA,q0⟩ func263
def CU(a0:Int)(a1:b8):Option (Bool):=(Gp a1 0 a0).bind aa
def agP:az D:=⟨262,[qi,.el 16],[.lf .bool],[aN,.one (.rp 1 16 [0])],[],z5,[],λh=>CU h.1 h.2⟩
def azF:CK agP:=fo [Wu] [.tmp 3] .o ⟨agO,q0⟩ func262
def aaf(a0:b8):Int->Option (Int⊕Int):=λx2=>(CU (W (x2-1)) a0).bind λx3=>if x3=ab then aa (.inl (W (x2-1)))else aa (.inr x2)
def aae(a0:b8):Int->Option (Int⊕Int):=λx5=>(CU (W (x5+1)) a0).bind λx6=>if x6=ab then aa (.inl (W (x5+1)))else aa (.inr x5)
def RF(a0:b8):Option (Int×Int):=(CU 0 a0).bind λx1=>if(!x1)=ab then aa (0,0)else(aI (aaf a0) 0).bind λx4=>(aI (aae a0) 0).bind λx7=>aa (x4,x7)
def agR:az D:=⟨261,[.el 16],z9,[.one (.fn 262 [.rp 0 16 [0]])],[],fu,[],λh=>RF h⟩
def azG:CK agR:=fo [agP] [.tmp 2,.tmp 3] Yx ⟨azF,q0⟩ func261
def KM(a0:b8):Option (Int×Int):=(zH a0).bind λx1=>if(!x1)=ab then aa (0,0)else(RF a0).bind aa
def ahD:az D:=⟨216,Jt,z9,Qh,[],fu,[],λh=>KM ⟨h.1,h.2.1,h.2.2.1,h.2.2.2.1,h.2.2.2.2.1,h.2.2.2.2.2⟩⟩
def aAp:CK ahD:=fo [IG,agR] [.tmp 2,.tmp 3] .o ⟨OD,azG,q0⟩ func216
def ajH(a0:fS):Option (Int):=aa a0.Y
def ahA:az D:=⟨218,z9,z8,wg,[],z5,[],λh=>ajH ⟨h.1,h.2⟩⟩
def aAm:CK ahA:=fo [] [.tmp 2] .o trivial func218
def RI(a0:Int)(a1:Int)(a2:Int)(a3:Int):Option (Int×Int):=(if ak (imax (imax (imax a0 a1) a2) a3>1000000000)=ab then aa ab else if ak (eu (eu a0 a1) a2<(-1000000000))=ab then aa ab else if ak (a0>a1)=ab then aa ab else aa (ak (a3<0))).bind λx1=>if x1=ab then aa (a0,a1)else if ak (imax a0 (W (a2-a3))<=eu a1 (W (a2+a3)))=ab then aa (imax a0 (W (a2-a3)),eu a1 (W (a2+a3)))else if ak (a2<a0)=ab then aa (a0,a0)else aa (a1,a1)
def Wt:az D:=⟨264,o7,z9,[aN,dq,lm,tL],[],fu,[],λh=>RI h.1 h.2.1 h.2.2.1 h.2.2.2⟩
def agN:CK Wt:=fo [] [.tmp 8,.tmp 9] (qw (qm (qt 33 2320) .o) .o) trivial func264
def Sw(a0:pi)(a1:Int)(a2:Int)(a3:Int):Option (mN):=(idx a0.wu a1).bind λx1=>(if ak (len a0.last>0)=ab then(idx a0.last a1).bind λx2=>(ajH x2).bind λx3=>(RI a2 a3 x3 x1.vV).bind aa else aa (a2,a3)).bind λx5=>aa (x5.1,x5.2,x1.fJ)
def ahC:az D:=⟨217,[jn,re,qi,qi,qi],mK,[.agg [bZ,bT],lm,tL,GL,.one (.fn 218 [])],[],tt,[],λh=>Sw ⟨h.1,h.2.1⟩ h.2.2.1 h.2.2.2.1 h.2.2.2.2⟩
def aAn:CK ahC:=fo [ahA,Wt] [.cell 10 331] YP ⟨aAm,agN,q0⟩ func217
def Sx(a0:pi)(a1:Int):Int×List ft->Option (Int×List ft⊕List ft):=λx1=>if ak (x1.1<len a0.wu)=ab then((idx a0.wu x1.1).bind λx2=>if(x2.s_ !=a1)=ab then(bF x1.2 [ft.mk 0 0 x2.fJ]).bind aa else(KM x2).bind λx3=>(Sw a0 x1.1 x3.1 x3.2).bind λx4=>(bF x1.2 [ft.mk x4.1 x4.2.1 x4.2.2]).bind aa).bind λx7=>aa (.inl (W (x1.1+1),x7))else aa (.inr x1.2)
def GP(a0:pi)(a1:Int):Option (List ft):=(aI (Sx a0 a1) (0,[])).bind aa
def air:az D:=⟨156,[jn,re,qi],[u5],[.agg [bZ,bT],lm],[],jk,[(1000,.sl 37 331 0 [])],λh=>GP ⟨h.1,h.2.1⟩ h.2.2⟩
def aA6:CK air:=fo [ahD,ahC] [.tmp 4] (qn (qw (qw (.loop YK ab [(.exit 0,⟨[u5],[(5,.one (.own 2896))],[(2896,.sl 37 331 0 [])],[],2960⟩)] (qn (qw (qp ⟨[u5],[(5,.one (.own 3090))],[(3090,.sl 37 331 0 [])],[2896],3154⟩ .o .o) .o))) .o) .o)) ⟨aAp,aAn,q0⟩ func156
def Gl(a0:List ft):Int->Option (Int⊕Unit⊕Int):=λx1=>if ak (x1<len a0)=ab then(idx a0 x1).bind λx2=>(if ak (x2.ju<(-5000))=ab then aa ab else if ak (x2.ju>x2.iP)=ab then aa ab else if ak (x2.iP>5000)=ab then aa ab else if ak (x2.fJ<1)=ab then aa ab else aa (ak (x2.fJ>100))).bind λx3=>if x3=ab then aa (.inr (.inr 1))else aa (.inl (W (x1+1)))else aa (.inr (.inl ()))
def KF(a0:List ft):Option (Int):=if ak (len a0>8)=ab then aa 2 else(aI (Gl a0) 0).bind λx4=>dk (λx5=>aa 0) (aa) x4
def agS:az D:=⟨260,[u5],z8,oY,[],z5,[],λh=>KF h⟩
def azI:CK agS:=fo [] [.tmp 2] (qn (qw (qw (.loop ⟨z8,[(10,aN)],[],[],2960⟩ ai [(.exit 0,⟨[],[],[],[],2960⟩)] (qn (qw (qm (qw (qr ⟨[.lf .bool],[(18,qa),(19,qa),(20,qa),(21,qa),(22,qa),(25,qa),(26,qa),(27,qa),(30,qa),(31,qa),(32,qa),(35,qa),(36,qa),(37,qa),(38,aN)],[],[],3665⟩) .o) .o) .o))) .o) .o)) trivial func260
def Ru(a0:List ft):mN->Option (mN⊕Int×Int):=λx2=>if ak (x2.2.2<len a0)=ab then(idx a0 x2.2.2).bind λx3=>aa (.inl (W (x2.1+x3.ju),W (x2.2.1+x3.iP),W (x2.2.2+1)))else aa (.inr (x2.1,x2.2.1))
def KG(a0:List ft):Option (mN):=(KF a0).bind λx1=>if(x1 !=0)=ab then aa (0,0,x1)else(aI (Ru a0) (0,0,0)).bind λx4=>aa (x4.1,x4.2,0)
def ahI:az D:=⟨211,[u5],mK,oY,[],B',[],λh=>KG h⟩
def aAs:CK ahI:=fo [agS] [.tmp 2,.tmp 3,.tmp 4] (qn (qw (qw (.loop ⟨mK,[(2,aN),(3,dq),(15,lm)],[],[],3472⟩ ab [(.exit 0,⟨z9,[(2,aN),(3,dq)],[],[],3472⟩)] .o) .o) .o)) ⟨azI,q0⟩ func211
def I3(a0:Int)(a1:Int)(a2:Int):Option (Int):=aa (imax a1 (eu a0 a2))
def WA:az D:=⟨212,mK,z8,B',[],z5,[],λh=>I3 h.1 h.2.1 h.2.2⟩
def ahH:CK WA:=fo [] [.tmp 6] .o trivial func212
def O1(a0:Int)(a1:Int):Option (Int×Int):=(if ak (a0<(-1000000000000000000))=ab then aa ab else if ak (a0>1000000000000000000)=ab then aa ab else if ak (a1<1)=ab then aa ab else aa (ak (a1>1000000000))).bind λx1=>if x1=ab then aa (0,1)else(y7 a0 a1).bind λx2=>aa (x2,0)
def agY:az D:=⟨254,z9,z9,[aN,dq,.one (.fn 256 [])],[],fu,[],λh=>O1 h.1 h.2⟩
def azO:CK agY:=fo [Ov] [.tmp 6,.tmp 7] Qc ⟨Ww,q0⟩ func254
def BK(a0:Int)(a1:Int):Option (Int×Int):=(O1 a0 a1).bind aa
def Wz:az D:=⟨213,z9,z9,fu,[],fu,[],λh=>BK h.1 h.2⟩
def ahG:CK Wz:=fo [agY] [.tmp 4,.tmp 5] .o ⟨azO,q0⟩ func213
def Rs(a0:List ft)(a1:Int):sh->Option (sh⊕Int×List Int):=λx1=>if ak (x1.2.1<len a0)=ab then(idx a0 x1.2.1).bind λx2=>(BK (W (a1+x2.fJ)) (W (2*x2.fJ))).bind λx3=>(I3 x3.1 x2.ju x2.iP).bind λx4=>(bF x1.2.2 [x4]).bind λx5=>aa (.inl (W (x1.1+x4),W (x1.2.1+1),x5))else aa (.inr (x1.1,x1.2.2))
def Gk(a0:List ft)(a1:Int):Option (Int×List Int):=(aI (Rs a0 a1) (0,0,[])).bind aa
def ahF:az D:=⟨214,[u5,qi],kG,zm,[],[.one (.own 1000),aN],zu,λh=>Gk h.1 h.2⟩
def aAr:CK ahF:=fo [WA,Wz] [.tmp 4,.tmp 5] (qw (qw (.loop ⟨B_,[(4,.one (.own 2640)),(5,aN),(12,dq)],[(2640,.sl 0 3 2 [])],[],2704⟩ ab [(.exit 0,⟨kG,[(4,.one (.own 2640)),(5,aN)],[(2640,.sl 0 3 1 [])],[],2704⟩)] .o) .o) .o) ⟨ahH,ahG,q0⟩ func214
def Rt(a0:ft)(a1:Int):Option (Int):=aa (W (a0.fJ*W (W (2*a1)+1)))
def ahE:az D:=⟨215,o7,z8,Ca,[],z5,[],λh=>Rt ⟨h.1,h.2.1,h.2.2.1⟩ h.2.2.2⟩
def aAq:CK ahE:=fo [] [.tmp 4] .o trivial func215
def Z8(a0:List ft)(x3:Int):Int×Int->Option (Int×Int⊕Int):=λx4=>if ak (x4.1<x4.2)=ab then(BK (W (x4.1+x4.2)) 2).bind λx5=>(Gk a0 x5.1).bind λx6=>(if ak (x6.1>=x3)=ab then aa (x4.1,x5.1)else aa (W (x5.1+1),x4.2)).bind λx7=>aa (.inl x7)else aa (.inr x4.1)
def Rw(a0:List ft)(x3:Int)(x8:Int):sh->Option (sh⊕List Int):=λbe=>if ak (be.2.1<len a0)=ab then(idx a0 be.2.1).bind λbo=>(if ak (be.1<x3)=ab then(idx be.2.2 be.2.1).bind λbJ=>if ak (bJ<bo.iP)=ab then(idx be.2.2 be.2.1).bind λcp=>(Rt bo cp).bind λcF=>aa (cF==x8)else aa ai else aa ai).bind λcu=>(if cu=ab then(idx be.2.2 be.2.1).bind λcM=>(idx be.2.2 be.2.1).bind λdD=>(idx be.2.2 be.2.1).bind λda=>(df be.2.2 be.2.1 (W (cM+1))).bind λdN=>aa (W (be.1+1),dN)else aa (be.1,be.2.2)).bind λfe=>aa (.inl (fe.1,W (be.2.1+1),fe.2))else aa (.inr be.2.2)
def CR(a0:List ft)(a1:Int):Option (sh):=(KG a0).bind λx1=>if(x1.2.2 !=0)=ab then aa (0,x1.2.2,[])else(if ak (a1<(-500000))=ab then aa ab else aa (ak (a1>500000))).bind λx2=>if x2=ab then aa (0,1,[])else(I3 a1 x1.1 x1.2.1).bind λx3=>(aI (Z8 a0 x3) ((-1000200),1000200)).bind λx8=>(Gk a0 (W (x8-1))).bind λx9=>(aI (Rw a0 x3 x8) (x9.1,0,x9.2)).bind λfZ=>aa (W (a1-x3),0,fZ)
def ais:az D:=⟨155,[u5,qi],B_,zm,[],[.one (.own 1000),aN,dq],[(1000,.sl 0 3 2 [])],λh=>CR h.1 h.2⟩
def aA7:CK ais:=fo [ahI,WA,Wz,ahF,ahE] [.tmp 4,.tmp 5,.tmp 6] (qv (qw (qm (qt 35 3856) .o) (qn (qw (qm (.loop ⟨z9,[(11,aN),(12,dq)],[],[],4817⟩ ab [(.exit 0,⟨z8,[(11,aN)],[],[],4817⟩)] (qw (qv (qn (qp ⟨z9,[(11,aN),(12,dq)],[],[],7827⟩ .o .o))) .o)) .o) (qw (qw (.loop ⟨B_,[(18,aN),(71,dq)],[(5210,.sl 0 3 2 [])],[5210],6418⟩ ab [(.exit 2,⟨fi,[],[(5210,.sl 0 3 0 [])],[5210],6418⟩)] (qn (qw (qm (qw (qr ⟨[.lf .bool],[(80,qa),(81,qa),(82,qa),(83,qa),(84,qa),(85,qa),(86,qa),(89,qa),(90,qa),(91,qa),(92,qa),(93,qa),(94,qa),(95,qa),(96,qa),(97,aN)],[],[],7381⟩) (qp ⟨kG,[(18,aN)],[(5210,.sl 0 3 1 [])],[5210],7446⟩ .o .o)) .o) .o))) .o) .o))))) ⟨aAs,ahH,ahG,aAr,aAq,q0⟩ func155
def CT(a0:Int)(a1:b8)(a2:Int):Option (Bool):=(Gp a1 a0 a2).bind aa
def agM:az D:=⟨265,[qi,.el 16,.el 0],[.lf .bool],[aN,.one (.rp 1 16 [0]),.one (.rp 7 0 [0])],[],z5,[],λh=>CT h.1 h.2.1 h.2.2⟩
def azE:CK agM:=fo [Wu] [.tmp 4] .o ⟨agO,q0⟩ func265
def aad(a0:b8)(a1:Int):Int->Option (Int⊕Int):=λx2=>(CT (W (x2-1)) a0 a1).bind λx3=>if x3=ab then aa (.inl (W (x2-1)))else aa (.inr x2)
def aac(a0:b8)(a1:Int):Int->Option (Int⊕Int):=λx5=>(CT (W (x5+1)) a0 a1).bind λx6=>if x6=ab then aa (.inl (W (x5+1)))else aa (.inr x5)
def RE(a0:b8)(a1:Int):Option (Int×Int):=(CT 0 a0 a1).bind λx1=>if(!x1)=ab then aa (0,0)else(aI (aad a0 a1) 0).bind λx4=>(aI (aac a0 a1) 0).bind λx7=>aa (x4,x7)
def agQ:az D:=⟨261,[.el 16,.el 0],z9,[.one (.fn 265 [.rp 0 16 [0],.rp 6 0 [0]])],[],fu,[],λh=>RE h.1 h.2⟩
def azH:CK agQ:=fo [agM] [.tmp 2,.tmp 3] Yx ⟨azE,q0⟩ func261
def KL(a0:b8)(a1:Int):Option (Int×Int):=(zH a0).bind λx1=>if(!x1)=ab then aa (0,0)else(RE a0 a1).bind aa
def ahz:az D:=⟨219,P7,z9,PW,[],fu,[],λh=>KL ⟨h.1,h.2.1,h.2.2.1,h.2.2.2.1,h.2.2.2.2.1,h.2.2.2.2.2.1⟩ h.2.2.2.2.2.2⟩
def aAl:CK ahz:=fo [IG,agQ] [.tmp 4,.tmp 5] .o ⟨OD,azH,q0⟩ func219
def ajG(a0:fS):Option (Int):=aa a0.X
def ahw:az D:=⟨220,z9,z8,wg,[],z5,[],λh=>ajG ⟨h.1,h.2⟩⟩
def aAj:CK ahw:=fo [] [.tmp 2] .o trivial func220
def Su(a0:pi)(a1:Int)(a2:Int)(a3:Int):Option (mN):=(idx a0.wu a1).bind λx1=>(if ak (len a0.last>0)=ab then(idx a0.last a1).bind λx2=>(ajG x2).bind λx3=>(RI a2 a3 x3 x1.vV).bind aa else aa (a2,a3)).bind λx5=>aa (x5.1,x5.2,x1.fJ)
def ahB:az D:=⟨217,[jn,re,qi,qi,qi],mK,[.agg [bZ,bT],lm,tL,GL,.one (.fn 220 [])],[],tt,[],λh=>Su ⟨h.1,h.2.1⟩ h.2.2.1 h.2.2.2.1 h.2.2.2.2⟩
def aAo:CK ahB:=fo [ahw,Wt] [.cell 10 331] YP ⟨aAj,agN,q0⟩ func217
def St(a0:pi)(a1:List Int):Int×List ft->Option (Int×List ft⊕List ft):=λx1=>if ak (x1.1<len a0.wu)=ab then(idx a0.wu x1.1).bind λx2=>(idx a1 x1.1).bind λx3=>(KL x2 x3).bind λx4=>(Su a0 x1.1 x4.1 x4.2).bind λx5=>(bF x1.2 [ft.mk x5.1 x5.2.1 x5.2.2]).bind λx6=>aa (.inl (W (x1.1+1),x6))else aa (.inr x1.2)
def LR(a0:pi)(a1:List Int):Option (List ft):=(aI (St a0 a1) (0,[])).bind aa
def aiq:az D:=⟨157,[jn,re,aL],[u5],[.agg [bZ,bT],.one (bK)],[],jk,[(1000,.sl 37 331 0 [])],λh=>LR ⟨h.1,h.2.1⟩ h.2.2⟩
def aA5:CK aiq:=fo [ahB,ahz] [.tmp 4] (qn (qw (qw (.loop YK ab [(.exit 0,⟨[u5],[(5,.one (.own 2896))],[(2896,.sl 37 331 0 [])],[],2960⟩)] .o) .o) .o)) ⟨aAo,aAl,q0⟩ func157
def QD(a0:di)(a1:List fS):Int×Int×Int×Int×mN->Option (Int×Int×Int×Int×mN⊕Int×Int×Int×mN⊕Int×mN):=λx2=>if ak (x2.1<len a1)=ab then(idx a1 x2.1).bind λx3=>(FP x3).bind λx4=>if(!x4)=ab then aa (.inr (.inr (0,0,0,1)))else(idx a0.cQ x2.1).bind λx5=>(if(x5.s_==0)=ab then aa (W (x2.2.2.2.2.1+x3.X),W (x2.2.2.2.2.2.1+x3.Y),x2.2.2.2.2.2.2)else aa (W (x2.2.2.2.2.1+x3.X),x2.2.2.2.2.2.1,W (x2.2.2.2.2.2.2+x3.Y))).bind λx6=>aa (.inl (W (x2.1+1),x2.2.1,x2.2.2.1,x2.2.2.2.1,x6))else aa (.inr (.inl x2.2))
def JO(a0:di)(a1:List fS):Option (Int×mN):=(uT a0).bind λx1=>if(x1 !=0)=ab then(uT a0).bind λbe=>aa (0,0,0,be)else if(len a1 !=len a0.cQ)=ab then aa (0,0,0,8)else(aI (QD a0 a1) (0,0,0,0,0,0,0)).bind λx7=>dk (λx8=>aa (x8.2.2.2.1,x8.2.2.2.2.1,x8.2.2.2.2.2,0)) (aa) x7
def aip:az D:=⟨158,[qi,qi,jn,re],o7,[.agg [bD,bl,bK],.one (bW)],[],Ca,[],λh=>JO ⟨h.1,h.2.1,h.2.2.1⟩ h.2.2.2⟩
def aA4:CK aip:=fo [Ix,WD] [.cell 4 132,.tmp 5] (qv (qw (qw (.loop ⟨[qi,qi,qi,qi,qi,qi,qi],[(26,aN)],[(2128,.box [bl,cf,dy]),(3792,.box [cB,bP,eE])],[2128,3792],4368⟩ ai [(.exit 1,⟨YD,[],[(2128,.box [bD,bl,cf]),(3792,.box [dy,cB,bP])],[2128,3792],4368⟩)] (qn (qw (qm (qv (qv (qp ⟨mK,[],[(3792,.box [bD,bl,cf])],[3792],7511⟩ .o .o))) .o) .o))) .o) .o)) ⟨Od,ahM,q0⟩ func158
def Xj(a0:mc)(a1:mc):Option (mN):=aa (W (a0.dz-a1.dz),W (a0.iC-a1.iC),W (a0.g_-a1.g_))
def aio:az D:=⟨159,YD,mK,[.agg [bD,bl,cf],.agg [dy,cB,bP]],[],tt,[],λh=>Xj ⟨h.1,h.2.1,h.2.2.1⟩ ⟨h.2.2.2.1,h.2.2.2.2.1,h.2.2.2.2.2⟩⟩
def aA3:CK aio:=fo [] [.cell 4 132] .o trivial func159
def Xn(x3:sh)(x5:sh):Int×List Int->Option (Int×List Int⊕List Int):=λx6=>if ak (x6.1<len x5.2.2)=ab then(idx x6.2 x6.1).bind λx7=>(idx x3.2.2 x6.1).bind λx8=>(idx x6.2 x6.1).bind λx9=>(idx x6.2 x6.1).bind λbe=>(df x6.2 x6.1 (W (x7+x8))).bind λbo=>aa (.inl (W (x6.1+1),bo))else aa (.inr x6.2)
def Xm(bJ:List Int)(cF:sh):Int×JI->Option (Int×JI⊕JI):=λcu=>if ak (cu.1<len bJ)=ab then(idx cF.2.2 cu.1).bind λcM=>(idx bJ cu.1).bind λdD=>(bF cu.2.2.2.2.2.2.2 [fS.mk cM dD]).bind λda=>aa (.inl (W (cu.1+1),cu.2.1,cu.2.2.1,cu.2.2.2.1,cu.2.2.2.2.1,cu.2.2.2.2.2.1,cu.2.2.2.2.2.2.1,da))else aa (.inr cu.2)
def O'(a0:di)(a1:List Int)(a2:List fS)(a3:mc):Option (Int×JI):=(Xi a0 a1 a2 a3).bind λx1=>if(x1.2.1 !=0)=ab then aa (0,0,0,0,0,0,x1.2.1,[])else(GP (pi.mk x1.2.2 x1.1) 0).bind λx2=>(CR x2 a3.iC).bind λx3=>(GP (pi.mk x1.2.2 x1.1) 1).bind λx4=>(CR x4 a3.g_).bind λx5=>(aI (Xn x3 x5) (0,x5.2.2)).bind λbJ=>(LR (pi.mk x1.2.2 x1.1) bJ).bind λcp=>(CR cp a3.dz).bind λcF=>(aI (Xm bJ cF) (0,0,0,0,0,0,0,[])).bind λdN=>(JO a0 dN.2.2.2.2.2.2).bind λfe=>(Xj a3 (mc.mk fe.1 fe.2.1 fe.2.2.1)).bind λfZ=>aa (fe.1,fe.2.1,fe.2.2.1,fZ.1,fZ.2.1,fZ.2.2,0,dN.2.2.2.2.2.2)
def c92:az D:=⟨92,YN,YQ,YE,[],[.agg [.own 1000,bD,bl,cf,dy,cB,bP],zO],[(1000,.sl 33 264 7 [])],λh=>O' ⟨h.1,h.2.1,h.2.2.1⟩ h.2.2.2.1 h.2.2.2.2.1 ⟨h.2.2.2.2.2.1,h.2.2.2.2.2.2.1,h.2.2.2.2.2.2.2⟩⟩
def ayn:CK c92:=fo [ait,ais,air,aiq,aip,aio] [.cell 8 201,.tmp 9] (qv (qv (qw (qw (.loop ⟨kG,[(56,aN)],[(6232,.sl 0 3 1 [])],[6232],7696⟩ ab [(.exit 0,⟨fi,[],[(6232,.sl 0 3 0 [])],[6232],7696⟩)] .o) .o) (qn (qw (qw (.loop ⟨YQ,[(82,aN)],[(9361,.box [.own 9873,bl,cf,dy,cB,bP,eE]),(9873,.sl 33 264 7 [])],[9361],9937⟩ ab [(.exit 2,⟨[qi,qi,qi,qi,qi,qi,re],[],[(9361,.box [.own 9873,bD,bl,cf,dy,cB,bP]),(9873,.sl 33 264 6 [])],[9361],9937⟩)] .o) .o) .o))))) ⟨aA8,aA7,aA6,aA5,aA4,aA3,q0⟩ func92
def V6(a0:di)(a1:List Int)(a2:fa):Option (Int×mN):=(V7 a0 a2).bind λx1=>if(x1.2.2.2 !=0)=ab then aa (0,0,0,x1.2.2.2)else(O' a0 a1 [] (mc.mk x1.1 x1.2.1 x1.2.2.1)).bind λx2=>if(x2.2.2.2.2.2.2.1 !=0)=ab then aa (0,0,0,x2.2.2.2.2.2.2.1)else aa (x2.2.2.2.1,x2.2.2.2.2.1,x2.2.2.2.2.2.1,0)
def c35:az D:=⟨35,P5,o7,PX,[],Ca,[],λh=>V6 ⟨h.1,h.2.1,h.2.2.1⟩ h.2.2.2.1 ⟨h.2.2.2.2.1,h.2.2.2.2.2.1,h.2.2.2.2.2.2⟩⟩
def ay6:CK c35:=fo [c91,c92] [.cell 6 132,.tmp 7] .o ⟨ayo,ayn,q0⟩ func35
def rM(a0:di)(a1:List Int)(a2:fa):Option (Bool):=(V6 a0 a1 a2).bind λx1=>(if(x1.2.2.2==0)=ab then aa (x1.1==0&&(x1.2.1==0&&x1.2.2.1==0))else aa ai).bind aa
def OI:az D:=⟨12,P5,[.lf .bool],PX,[],z5,[],λh=>rM ⟨h.1,h.2.1,h.2.2.1⟩ h.2.2.2.1 ⟨h.2.2.2.2.1,h.2.2.2.2.2.1,h.2.2.2.2.2.2⟩⟩
def WQ:CK OI:=fo [c35] [.tmp 6] (qn (qw (qt 6 3728) .o)) ⟨ay6,q0⟩ func12
def NV(a0:jJ)(a1:cN)(a2:List Part)(a3:List Part)(a4:fa):Option (Bool):=(yQ a0 a1 a2 a3).bind λx1=>(if(x1.2.1==0)=ab then(rM a0.di x1.2.2.2.2.2.2.2.2 a4).bind aa else aa ai).bind aa
def h59:List Ht:=(aL::aL::[aL,aL,aL,aL,aL,aL,aL,qi,qi,qi,qi,qi,qi,jn,qi,cV,dJ,dn,qi,qi,qi,qi,qi,bx,ol,pZ,zM,qi,qi,qi,qi,qi,qi,qi,qi,qi,qi,qi,qi,qi,.lf .str,qi,qi,qi,qi,qi,qi,zL,qi,ck,cH,aL,bx,fE,f_,bx,bx,qi,qi,qi])
def EE:az D:=⟨59,h59,[.lf .bool],[.agg [bZ,bT,bK,bW,ed,kM,jA,j_,mR,p7,kN,nz,mS,rh,xU,.h 15 [0],wG,.h 17 [0],.h 18 [0],.h 19 [0],zY,zX,zW,zV,zU,.h 25 [0],.h 26 [0],.h 27 [0],.h 28 [0],zT,zS,zR,.h 32 [],xT,.h 34 [],.h 35 [],.h 36 [],.h 37 [],.h 38 [],.h 39 [],.h 40 [],.h 41 [],.h 42 [],.h 43 [],.h 44 [],.h 45 [],.h 46 [],.h 47 [],.h 48 [],.h 49 [0]],.agg [.h 50 [],.h 51 [0],.h 52 [0],.h 53 [0],.h 54 [0],.h 55 [0],.h 56 [0]],.one (.h 57 [0]),.one (.h 58 [0]),.agg [.h 59 [],.h 60 [],.h 61 []]],[],z5,[],λh=>let g:=h.2.2.2.2.2.2;let k:=g.2.2.2.2.2.2;let u:=k.2.2.2.2.2.2;let v:=u.2.2.2.2.2.2;let w:=v.2.2.2.2.2.2;let ha:=w.2.2.2.2.2.2;let hb:=ha.2.2.2.2.2.2;let hc:=hb.2.2.2.2.2.2;let hd:=hc.2.2.2.2.2.2;NV ⟨⟨⟨h.1,h.2.1,h.2.2.1⟩,⟨h.2.2.2.1,h.2.2.2.2.1,h.2.2.2.2.2.1⟩,⟨g.1,g.2.1,g.2.2.1⟩,g.2.2.2.1,g.2.2.2.2.1,g.2.2.2.2.2.1,k.1⟩,⟨k.2.1,k.2.2.1,k.2.2.2.1⟩,⟨k.2.2.2.2.1,k.2.2.2.2.2.1,u.1,u.2.1,u.2.2.1,u.2.2.2.1⟩,⟨u.2.2.2.2.1,u.2.2.2.2.2.1,v.1⟩,⟨v.2.1,v.2.2.1,v.2.2.2.1⟩,v.2.2.2.2.1,⟨v.2.2.2.2.2.1,w.1,w.2.1,w.2.2.1,w.2.2.2.1,w.2.2.2.2.1,w.2.2.2.2.2.1,ha.1,ha.2.1⟩,⟨⟨ha.2.2.1,ha.2.2.2.1⟩,ha.2.2.2.2.1⟩,ha.2.2.2.2.2.1,⟨hb.1,hb.2.1,⟨⟨hb.2.2.1,hb.2.2.2.1⟩,hb.2.2.2.2.1,hb.2.2.2.2.2.1⟩,hc.1⟩,⟨hc.2.1⟩⟩ ⟨hc.2.2.1,⟨hc.2.2.2.1,hc.2.2.2.2.1,hc.2.2.2.2.2.1,hd.1⟩,hd.2.1,hd.2.2.1⟩ hd.2.2.2.1 hd.2.2.2.2.1 ⟨hd.2.2.2.2.2.1,hd.2.2.2.2.2.2.1,hd.2.2.2.2.2.2.2⟩⟩
def afP:CK EE:=fo [BE,OI] [.tmp 10] (qn (qw (qt 10 4240) .o)) ⟨WV,WQ,q0⟩ func59
def h40:List Ht:=(aL::z0)
def Oj:az D:=tI T [EE] ⟨40,h40,[.lf .bool],z2,[],z5,[],λ_=>none⟩ [.tmp 8] (qK f40) .o
def ay2:CK Oj:=wB (Φ:=[EE]) p8 pb (ij.mem (⟨afP,q0⟩:ij _ _ [EE])) nH call40 func40 rfl rfl (by kernel_rfl)
def VN(a0:jJ)(a1:cN)(a2:List Part)(a3:fa):Option (List Int×List Int×List Int×List Int×List Int×List Int×List Int×List Int×List Int×Int×Int×Int×Int×Int×Int×List b8×Int×List cG×List Source×List Consumer×Int×Int×Int×Int×Int×List Part×List jK×List jh×List kX×Int×Int×Int×Int×Int×Int×Int×Int×Int×Int×Int×Int×Int×ByteArray×Int×Int×Int×Int×Int×Int×List np×Int×List Bool×List bn×List Int×List Part×List eM×List Event×List Part×mN):=aa (a0.dH.oM.dz,a0.dH.oM.fk,a0.dH.oM.fI,a0.dH.oO.dz,a0.dH.oO.fk,a0.dH.oO.fI,a0.dH.oN.dz,a0.dH.oN.fk,a0.dH.oN.fI,a0.dH.Fe,a0.dH.Fg,a0.dH.Fo,a0.dH.E9,a0.di.iC,a0.di.g_,a0.di.cQ,a0.au.aA,a0.au.ae,a0.au.aj,a0.au.ay,a0.au.bh,a0.au.aY,a0.g9.Start,a0.g9.Stop,a0.g9.nU,a0.dw.fh,a0.dw.h_,a0.dw.ii,a0.PB,a0.e_.E_,a0.e_.Sum,a0.e_.Calm,a0.e_.iN,a0.e_.rU,a0.e_.E4,a0.e_.Fb,a0.e_.Fc,a0.e_.Fa,a0.Target.Place.X,a0.Target.Place.Y,a0.Target.Fi,a0.nU,a0.fV.Name,a0.fV.Fp,a0.fV.fX.Place.X,a0.fV.fX.Place.Y,a0.fV.fX.y9,a0.fV.fX.zd,a0.fV.rU,a0.nS.E5,a1.Time,a1.aw.aF,a1.aw.aj,a1.aw.aW,a1.aw.aR,a1.pL,a1.rT,a2,a3.dz,a3.fk,a3.fI)
def h23:List Ht:=(aL::z0)
def o23:List Ht:=(aL::z0)
def IB:az D:=⟨23,h23,o23,z2,[],[.one (.fn 57 [.ptr 1000 0,.ptr 1001 0,.ptr 1002 0,.ptr 1003 0])],[(1000,.box [bZ,bT,bK,bW,ed,kM,jA,j_,mR,p7,kN,nz,mS,rh,xU,.h 15 [0],wG,.h 17 [0],.h 18 [0],.h 19 [0],zY,zX,zW,zV,zU,.h 25 [0],.h 26 [0],.h 27 [0],.h 28 [0],zT,zS,zR,.h 32 [],xT,.h 34 [],.h 35 [],.h 36 [],.h 37 [],.h 38 [],.h 39 [],.h 40 [],.h 41 [],.h 42 [],.h 43 [],.h 44 [],.h 45 [],.h 46 [],.h 47 [],.h 48 [],.h 49 [0]]),(1001,.box [.h 50 [],.h 51 [0],.h 52 [0],.h 53 [0],.h 54 [0],.h 55 [0],.h 56 [0]]),(1002,.box [.h 57 [0]]),(1003,.box [.h 58 [],.h 59 [],.h 60 []])],λh=>let g:=h.2.2.2.2.2.2;let k:=g.2.2.2.2.2.2;let u:=k.2.2.2.2.2.2;let v:=u.2.2.2.2.2.2;let w:=v.2.2.2.2.2.2;let ha:=w.2.2.2.2.2.2;let hb:=ha.2.2.2.2.2.2;let hc:=hb.2.2.2.2.2.2;let hd:=hc.2.2.2.2.2.2;VN ⟨⟨⟨h.1,h.2.1,h.2.2.1⟩,⟨h.2.2.2.1,h.2.2.2.2.1,h.2.2.2.2.2.1⟩,⟨g.1,g.2.1,g.2.2.1⟩,g.2.2.2.1,g.2.2.2.2.1,g.2.2.2.2.2.1,k.1⟩,⟨k.2.1,k.2.2.1,k.2.2.2.1⟩,⟨k.2.2.2.2.1,k.2.2.2.2.2.1,u.1,u.2.1,u.2.2.1,u.2.2.2.1⟩,⟨u.2.2.2.2.1,u.2.2.2.2.2.1,v.1⟩,⟨v.2.1,v.2.2.1,v.2.2.2.1⟩,v.2.2.2.2.1,⟨v.2.2.2.2.2.1,w.1,w.2.1,w.2.2.1,w.2.2.2.1,w.2.2.2.2.1,w.2.2.2.2.2.1,ha.1,ha.2.1⟩,⟨⟨ha.2.2.1,ha.2.2.2.1⟩,ha.2.2.2.2.1⟩,ha.2.2.2.2.2.1,⟨hb.1,hb.2.1,⟨⟨hb.2.2.1,hb.2.2.2.1⟩,hb.2.2.2.2.1,hb.2.2.2.2.2.1⟩,hc.1⟩,⟨hc.2.1⟩⟩ ⟨hc.2.2.1,⟨hc.2.2.2.1,hc.2.2.2.2.1,hc.2.2.2.2.2.1,hd.1⟩,hd.2.1,hd.2.2.1⟩ hd.2.2.2.1 ⟨hd.2.2.2.2.1,hd.2.2.2.2.2.1,hd.2.2.2.2.2.2⟩⟩
def ahh:CK IB:=fo [] [.tmp 8] .o trivial func23
def VO(a0:dw)(a1:cN)(a2:List Part):Option (List Part):=(Ig a2 a1.aw.aR).bind λx1=>(Ih a0 x1).bind aa
def Wg:az D:=⟨58,[bx,ol,pZ,qi,ck,cH,aL,bx,fE,f_,bx],ia,[.agg [bZ,bT,bK],.agg [dy,ed,kM,jA,j_,mR,rf],.one (zQ)],[],jk,mJ,λh=>let g:=h.2.2.2.2.2.2;VO ⟨h.1,h.2.1,h.2.2.1⟩ ⟨h.2.2.2.1,⟨h.2.2.2.2.1,h.2.2.2.2.2.1,g.1,g.2.1⟩,g.2.2.1,g.2.2.2.1⟩ g.2.2.2.2⟩
def ayL:CK Wg:=fo [Wv,Og] [.tmp 6] .o ⟨agH,afH,q0⟩ func58
