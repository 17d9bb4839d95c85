import Derived.Test.YtgaghlbepnjhiaaGreatRg7
set_option maxRecDepth 100000
set_option linter.all false
open Bool renaming false->ae,true->ab
open Decidable renaming decide->ak
open Option renaming some->aa
open Sum renaming elim->cQ
noncomputable section
namespace Go.Proofs.YtgaghlbepnjhiaaGreat
open Go Go.RowKit Dp
namespace Rx
open Tryz
def R7(a0:List iP)(a1:Int)(a2:Int):Int->Option (Int⊕Unit⊕Int):=λx1=>if ak (x1<len a0)=ab then(idx a0 x1).bind λx2=>(SC x2 a1 a2).bind λx3=>if x3=ab then aa (.inr (.inr x1))else aa (.inl (W (x1+1)))else aa (.inr (.inl ()))
def R8(a0:List iP)(a1:Int)(a2:Int):Option (Int):=(aG (R7 a0 a1 a2) 0).bind λx4=>cQ (λx5=>aa (-1)) (aa) x4
def ah6:az D:=⟨259,[sy,.el 0,.el 0],z8,[.one (bS),.one (.fn 296 [.rp 1 0 [0],.rp 2 0 [0]])],[],z5,[],λh=>R8 h.1 h.2.1 h.2.2⟩
def aBj:CK ah6:=fo [aht] [.tmp 4] z3 ⟨aAO,q0⟩ func259
def Sb(a0:List iP)(a1:Int)(a2:Int):Option (Bool):=(R8 a0 a1 a2).bind λx1=>aa (ak (x1>=0))
def aiU:az D:=⟨209,[sy,.el 0,.el 0],[.lf .bool],[.one (bS),.one (.fn 296 [.rp 1 0 [0],.rp 2 0 [0]])],[],z5,[],λh=>Sb h.1 h.2.1 h.2.2⟩
def aB2:CK aiU:=fo [ah6] [.tmp 4] .o ⟨aBj,q0⟩ func209
def G0(a0:b9)(a1:Int)(a2:Int):Option (Bool):=(if ak (imax a1 a2>a0.Max)=ab then aa ab else if ak (eD a1 a2<W (-a0.Max))=ab then aa ab else if ak (W (W (a1*a1)+W (a2*a2))>W (a0.Max*a0.Max))=ab then aa ab else if(a0.Kind==1)=ab then if(a1 !=0)=ab then aa ab else if(a0.Kind==2)=ab then aa (a2 !=0)else aa ae else if(a0.Kind==2)=ab then aa (a2 !=0)else aa ae).bind λx1=>if x1=ab then aa ae else(Sb a0.n_ a1 a2).bind λx2=>aa !x2
def Xw:az D:=⟨271,ZN,[.lf .bool],[.agg [bB,bp,cf,dm,cr,kR],Ah,.one (ib)],[],z5,[],λh=>G0 ⟨h.1,h.2.1,h.2.2.1,h.2.2.2.1,h.2.2.2.2.1,h.2.2.2.2.2.1⟩ h.2.2.2.2.2.2.1 h.2.2.2.2.2.2.2⟩
def ahR:CK Xw:=fo [aiU] [.tmp 6] (qw (qm (qt 54 2576) .o) .o) ⟨aB2,q0⟩ func271
def Dq(a0:Int)(a1:b9):Option (Bool):=(G0 a1 0 a0).bind aa
def ahS:az D:=⟨270,[qi,.el 16],[.lf .bool],[aN,.one (.rp 1 16 [0])],[],z5,[],λh=>Dq h.1 h.2⟩
def aA7:CK ahS:=fo [Xw] [.tmp 3] .o ⟨ahR,q0⟩ func270
def aa8(a0:b9):Int->Option (Int⊕Int):=λx2=>(Dq (W (x2-1)) a0).bind λx3=>if x3=ab then aa (.inl (W (x2-1)))else aa (.inr x2)
def aa7(a0:b9):Int->Option (Int⊕Int):=λx5=>(Dq (W (x5+1)) a0).bind λx6=>if x6=ab then aa (.inl (W (x5+1)))else aa (.inr x5)
def SB(a0:b9):Option (Int×Int):=(Dq 0 a0).bind λx1=>if(!x1)=ab then aa (0,0)else(aG (aa8 a0) 0).bind λx4=>(aG (aa7 a0) 0).bind λx7=>aa (x4,x7)
def ahU:az D:=⟨269,[.el 16],z9,[.one (.fn 270 [.rp 0 16 [0]])],[],fB,[],λh=>SB h⟩
def aA8:CK ahU:=fo [ahS] [.tmp 2,.tmp 3] Zr ⟨aA7,q0⟩ func269
def LJ(a0:b9):Option (Int×Int):=(Aa a0).bind λx1=>if(!x1)=ab then aa (0,0)else(SB a0).bind aa
def aiE:az D:=⟨224,J9,z9,Q8,[],fB,[],λh=>LJ ⟨h.1,h.2.1,h.2.2.1,h.2.2.2.1,h.2.2.2.2.1,h.2.2.2.2.2⟩⟩
def aBP:CK aiE:=fo [Ji,ahU] [.tmp 2,.tmp 3] .o ⟨Pw,aA8,q0⟩ func224
def akR(a0:fZ):Option (Int):=aa a0.Y
def aiB:az D:=⟨226,z9,z8,wo,[],z5,[],λh=>akR ⟨h.1,h.2⟩⟩
def aBM:CK aiB:=fo [] [.tmp 2] .o trivial func226
def SE(a0:Int)(a1:Int)(a2:Int)(a3:Int):Option (Int×Int):=(if ak (imax (imax (imax a0 a1) a2) a3>1000000000)=ab then aa ab else if ak (eD (eD a0 a1) a2<(-1000000000))=ab then aa ab else if ak (a0>a1)=ab then aa ab else aa (ak (a3<0))).bind λx1=>if x1=ab then aa (a0,a1)else if ak (imax a0 (W (a2-a3))<=eD a1 (W (a2+a3)))=ab then aa (imax a0 (W (a2-a3)),eD a1 (W (a2+a3)))else if ak (a2<a0)=ab then aa (a0,a0)else aa (a1,a1)
def Xv:az D:=⟨272,pj,z9,[aN,dE,lB,sC],[],fB,[],λh=>SE h.1 h.2.1 h.2.2.1 h.2.2.2⟩
def ahQ:CK Xv:=fo [] [.tmp 8,.tmp 9] (qw (qm (qt 33 2320) .o) .o) trivial func272
def Tq(a0:pB)(a1:Int)(a2:Int)(a3:Int):Option (gR):=(idx a0.wE a1).bind λx1=>(if ak (len a0.last>0)=ab then(idx a0.last a1).bind λx2=>(akR x2).bind λx3=>(SE a2 a3 x3 x1.wa).bind aa else aa (a2,a3)).bind λx5=>aa (x5.1,x5.2,x1.fR)
def aiD:az D:=⟨225,[jy,rl,qi,qi,qi],mw,[.agg [bS,bR],lB,sC,DF,.one (.fn 226 [])],[],tA,[],λh=>Tq ⟨h.1,h.2.1⟩ h.2.2.1 h.2.2.2.1 h.2.2.2.2⟩
def aBN:CK aiD:=fo [aiB,Xv] [.cell 10 338] ZL ⟨aBM,ahQ,q0⟩ func225
def Ts(a0:pB)(a1:Int):Int×List fx->Option (Int×List fx⊕List fx):=λx1=>if ak (x1.1<len a0.wE)=ab then((idx a0.wE x1.1).bind λx2=>if(x2.tv !=a1)=ab then(bD x1.2 [fx.mk 0 0 x2.fR]).bind aa else(LJ x2).bind λx3=>(Tq a0 x1.1 x3.1 x3.2).bind λx4=>(bD x1.2 [fx.mk x4.1 x4.2.1 x4.2.2]).bind aa).bind λx7=>aa (.inl (W (x1.1+1),x7))else aa (.inr x1.2)
def Hm(a0:pB)(a1:Int):Option (List fx):=(aG (Ts a0 a1) (0,[])).bind aa
def ajs:az D:=⟨165,[jy,rl,qi],[vj],[.agg [bS,bR],lB],[],iS,[(1000,.sl 37 338 0 [])],λh=>Hm ⟨h.1,h.2.1⟩ h.2.2⟩
def aCv:CK ajs:=fo [aiE,aiD] [.tmp 4] (qn (qw (qw (.loop ZG ab [(.exit 0,⟨[vj],[(5,.one (.own 2896))],[(2896,.sl 37 338 0 [])],[],2960⟩)] (qn (qw (qp ⟨[vj],[(5,.one (.own 3090))],[(3090,.sl 37 338 0 [])],[2896],3154⟩ .o .o) .o))) .o) .o)) ⟨aBP,aBN,q0⟩ func165
def GX(a0:List fx):Int->Option (Int⊕Unit⊕Int):=λx1=>if ak (x1<len a0)=ab then(idx a0 x1).bind λx2=>(if ak (x2.jH<(-5000))=ab then aa ab else if ak (x2.jH>x2.i_)=ab then aa ab else if ak (x2.i_>5000)=ab then aa ab else if ak (x2.fR<1)=ab then aa ab else aa (ak (x2.fR>100))).bind λx3=>if x3=ab then aa (.inr (.inr 1))else aa (.inl (W (x1+1)))else aa (.inr (.inl ()))
def LB(a0:List fx):Option (Int):=if ak (len a0>8)=ab then aa 2 else(aG (GX a0) 0).bind λx4=>cQ (λx5=>aa 0) (aa) x4
def ahV:az D:=⟨268,[vj],z8,pf,[],z5,[],λh=>LB h⟩
def aA_:CK ahV:=fo [] [.tmp 2] (qn (qw (qw (.loop ⟨z8,zO,[],[],2960⟩ ae [(.exit 0,⟨[],[],[],[],2960⟩)] (qn (qw (qm (qw (qr ⟨[.lf .bool],[(18,qa),(19,qa),(20,qa),(21,qa),(22,qa),(25,qa),(26,qa),(27,qa),(30,qa),(31,qa),(32,qa),(35,qa),(36,qa),(37,qa),(38,aN)],[],[],3665⟩) .o) .o) .o))) .o) .o)) trivial func268
def Ss(a0:List fx):gR->Option (gR⊕Int×Int):=λx2=>if ak (x2.2.2<len a0)=ab then(idx a0 x2.2.2).bind λx3=>aa (.inl (W (x2.1+x3.jH),W (x2.2.1+x3.i_),W (x2.2.2+1)))else aa (.inr (x2.1,x2.2.1))
def LC(a0:List fx):Option (gR):=(LB a0).bind λx1=>if(x1 !=0)=ab then aa (0,0,x1)else(aG (Ss a0) (0,0,0)).bind λx4=>aa (x4.1,x4.2,0)
def aiK:az D:=⟨219,[vj],mw,pf,[],Cs,[],λh=>LC h⟩
def aBT:CK aiK:=fo [ahV] [.tmp 2,.tmp 3,.tmp 4] (qn (qw (qw (.loop ⟨mw,[(2,aN),(3,dE),(15,lB)],[],[],3472⟩ ab [(.exit 0,⟨z9,[(2,aN),(3,dE)],[],[],3472⟩)] .o) .o) .o)) ⟨aA_,q0⟩ func219
def JG(a0:Int)(a1:Int)(a2:Int):Option (Int):=aa (imax a1 (eD a0 a2))
def XD:az D:=⟨220,mw,z8,Cs,[],z5,[],λh=>JG h.1 h.2.1 h.2.2⟩
def aiI:CK XD:=fo [] [.tmp 6] .o trivial func220
def PT(a0:Int)(a1:Int):Option (Int×Int):=(if ak (a0<(-1000000000000000000))=ab then aa ab else if ak (a0>1000000000000000000)=ab then aa ab else if ak (a1<1)=ab then aa ab else aa (ak (a1>1000000000))).bind λx1=>if x1=ab then aa (0,1)else(zp a0 a1).bind λx2=>aa (x2,0)
def ah0:az D:=⟨262,z9,z9,[aN,dE,.one (.fn 264 [])],[],fB,[],λh=>PT h.1 h.2⟩
def aBe:CK ah0:=fo [Pp] [.tmp 6,.tmp 7] Q3 ⟨Xx,q0⟩ func262
def B8(a0:Int)(a1:Int):Option (Int×Int):=(PT a0 a1).bind aa
def XC:az D:=⟨221,z9,z9,fB,[],fB,[],λh=>B8 h.1 h.2⟩
def aiH:CK XC:=fo [ah0] [.tmp 4,.tmp 5] .o ⟨aBe,q0⟩ func221
def Sp(a0:List fx)(a1:Int):sq->Option (sq⊕Int×List Int):=λx1=>if ak (x1.2.1<len a0)=ab then(idx a0 x1.2.1).bind λx2=>(B8 (W (a1+x2.fR)) (W (2*x2.fR))).bind λx3=>(JG x3.1 x2.jH x2.i_).bind λx4=>(bD x1.2.2 [x4]).bind λx5=>aa (.inl (W (x1.1+x4),W (x1.2.1+1),x5))else aa (.inr (x1.1,x1.2.2))
def GW(a0:List fx)(a1:Int):Option (Int×List Int):=(aG (Sp a0 a1) (0,0,[])).bind aa
def aiG:az D:=⟨222,[vj,qi],kL,zI,[],[.one (.own 1000),aN],zP,λh=>GW h.1 h.2⟩
def aBR:CK aiG:=fo [XD,XC] [.tmp 4,.tmp 5] (qw (qw (.loop ⟨Cr,[(4,.one (.own 2640)),(5,aN),(12,dE)],[(2640,.sl 0 3 2 [])],[],2704⟩ ab [(.exit 0,⟨kL,[(4,.one (.own 2640)),(5,aN)],[(2640,.sl 0 3 1 [])],[],2704⟩)] .o) .o) .o) ⟨aiI,aiH,q0⟩ func222
def Sq(a0:fx)(a1:Int):Option (Int):=aa (W (a0.fR*W (W (2*a1)+1)))
def aiF:az D:=⟨223,pj,z8,Ct,[],z5,[],λh=>Sq ⟨h.1,h.2.1,h.2.2.1⟩ h.2.2.2⟩
def aBQ:CK aiF:=fo [] [.tmp 4] .o trivial func223
def aa0(a0:List fx)(x3:Int):Int×Int->Option (Int×Int⊕Int):=λx4=>if ak (x4.1<x4.2)=ab then(B8 (W (x4.1+x4.2)) 2).bind λx5=>(GW a0 x5.1).bind λx6=>(if ak (x6.1>=x3)=ab then aa (x4.1,x5.1)else aa (W (x5.1+1),x4.2)).bind λx7=>aa (.inl x7)else aa (.inr x4.1)
def St(a0:List fx)(x3:Int)(x8:Int):sq->Option (sq⊕List Int):=λbb=>if ak (bb.2.1<len a0)=ab then(idx a0 bb.2.1).bind λbi=>(if ak (bb.1<x3)=ab then(idx bb.2.2 bb.2.1).bind λbF=>if ak (bF<bi.i_)=ab then(idx bb.2.2 bb.2.1).bind λbY=>(Sq bi bY).bind λcF=>aa (cF==x8)else aa ae else aa ae).bind λb7=>(if b7=ab then(idx bb.2.2 bb.2.1).bind λcM=>(idx bb.2.2 bb.2.1).bind λdx=>(idx bb.2.2 bb.2.1).bind λcZ=>(dq bb.2.2 bb.2.1 (W (cM+1))).bind λdQ=>aa (W (bb.1+1),dQ)else aa (bb.1,bb.2.2)).bind λfh=>aa (.inl (fh.1,W (bb.2.1+1),fh.2))else aa (.inr bb.2.2)
def Dk(a0:List fx)(a1:Int):Option (sq):=(LC a0).bind λx1=>if(x1.2.2 !=0)=ab then aa (0,x1.2.2,[])else(if ak (a1<(-500000))=ab then aa ab else aa (ak (a1>500000))).bind λx2=>if x2=ab then aa (0,1,[])else(JG a1 x1.1 x1.2.1).bind λx3=>(aG (aa0 a0 x3) ((-1000200),1000200)).bind λx8=>(GW a0 (W (x8-1))).bind λx9=>(aG (St a0 x3 x8) (x9.1,0,x9.2)).bind λfL=>aa (W (a1-x3),0,fL)
def ajt:az D:=⟨164,[vj,qi],Cr,zI,[],[.one (.own 1000),aN,dE],[(1000,.sl 0 3 2 [])],λh=>Dk h.1 h.2⟩
def aCw:CK ajt:=fo [aiK,XD,XC,aiG,aiF] [.tmp 4,.tmp 5,.tmp 6] (qv (qw (qm (qt 35 3856) .o) (qn (qw (qm (.loop ⟨z9,[(11,aN),(12,dE)],[],[],4817⟩ ab [(.exit 0,⟨z8,[(11,aN)],[],[],4817⟩)] (qw (qv (qn (qp ⟨z9,[(11,aN),(12,dE)],[],[],7827⟩ .o .o))) .o)) .o) (qw (qw (.loop ⟨Cr,[(18,aN),(71,dE)],[(5210,.sl 0 3 2 [])],[5210],6418⟩ ab [(.exit 2,⟨fm,[],[(5210,.sl 0 3 0 [])],[5210],6418⟩)] (qn (qw (qm (qw (qr ⟨[.lf .bool],[(80,qa),(81,qa),(82,qa),(83,qa),(84,qa),(85,qa),(86,qa),(89,qa),(90,qa),(91,qa),(92,qa),(93,qa),(94,qa),(95,qa),(96,qa),(97,aN)],[],[],7381⟩) (qp ⟨kL,[(18,aN)],[(5210,.sl 0 3 1 [])],[5210],7446⟩ .o .o)) .o) .o))) .o) .o))))) ⟨aBT,aiI,aiH,aBR,aBQ,q0⟩ func164
def Dm(a0:Int)(a1:b9)(a2:Int):Option (Bool):=(G0 a1 a0 a2).bind aa
def ahP:az D:=⟨273,[qi,.el 16,.el 0],[.lf .bool],[aN,.one (.rp 1 16 [0]),.one (.rp 7 0 [0])],[],z5,[],λh=>Dm h.1 h.2.1 h.2.2⟩
def aA6:CK ahP:=fo [Xw] [.tmp 4] .o ⟨ahR,q0⟩ func273
def aa6(a0:b9)(a1:Int):Int->Option (Int⊕Int):=λx2=>(Dm (W (x2-1)) a0 a1).bind λx3=>if x3=ab then aa (.inl (W (x2-1)))else aa (.inr x2)
def aa5(a0:b9)(a1:Int):Int->Option (Int⊕Int):=λx5=>(Dm (W (x5+1)) a0 a1).bind λx6=>if x6=ab then aa (.inl (W (x5+1)))else aa (.inr x5)
def SA(a0:b9)(a1:Int):Option (Int×Int):=(Dm 0 a0 a1).bind λx1=>if(!x1)=ab then aa (0,0)else(aG (aa6 a0 a1) 0).bind λx4=>(aG (aa5 a0 a1) 0).bind λx7=>aa (x4,x7)
def ahT:az D:=⟨269,[.el 16,.el 0],z9,[.one (.fn 273 [.rp 0 16 [0],.rp 6 0 [0]])],[],fB,[],λh=>SA h.1 h.2⟩
def aA9:CK ahT:=fo [ahP] [.tmp 2,.tmp 3] Zr ⟨aA6,q0⟩ func269
def LI(a0:b9)(a1:Int):Option (Int×Int):=(Aa a0).bind λx1=>if(!x1)=ab then aa (0,0)else(SA a0 a1).bind aa
def aiA:az D:=⟨227,QV,z9,QO,[],fB,[],λh=>LI ⟨h.1,h.2.1,h.2.2.1,h.2.2.2.1,h.2.2.2.2.1,h.2.2.2.2.2.1⟩ h.2.2.2.2.2.2⟩
def aBL:CK aiA:=fo [Ji,ahT] [.tmp 4,.tmp 5] .o ⟨Pw,aA9,q0⟩ func227
def akQ(a0:fZ):Option (Int):=aa a0.X
def aiz:az D:=⟨228,z9,z8,wo,[],z5,[],λh=>akQ ⟨h.1,h.2⟩⟩
def aBK:CK aiz:=fo [] [.tmp 2] .o trivial func228
def Tp(a0:pB)(a1:Int)(a2:Int)(a3:Int):Option (gR):=(idx a0.wE a1).bind λx1=>(if ak (len a0.last>0)=ab then(idx a0.last a1).bind λx2=>(akQ x2).bind λx3=>(SE a2 a3 x3 x1.wa).bind aa else aa (a2,a3)).bind λx5=>aa (x5.1,x5.2,x1.fR)
def aiC:az D:=⟨225,[jy,rl,qi,qi,qi],mw,[.agg [bS,bR],lB,sC,DF,.one (.fn 228 [])],[],tA,[],λh=>Tp ⟨h.1,h.2.1⟩ h.2.2.1 h.2.2.2.1 h.2.2.2.2⟩
def aBO:CK aiC:=fo [aiz,Xv] [.cell 10 338] ZL ⟨aBK,ahQ,q0⟩ func225
def Tn(a0:pB)(a1:List Int):Int×List fx->Option (Int×List fx⊕List fx):=λx1=>if ak (x1.1<len a0.wE)=ab then(idx a0.wE x1.1).bind λx2=>(idx a1 x1.1).bind λx3=>(LI x2 x3).bind λx4=>(Tp a0 x1.1 x4.1 x4.2).bind λx5=>(bD x1.2 [fx.mk x5.1 x5.2.1 x5.2.2]).bind λx6=>aa (.inl (W (x1.1+1),x6))else aa (.inr x1.2)
def MH(a0:pB)(a1:List Int):Option (List fx):=(aG (Tn a0 a1) (0,[])).bind aa
def ajr:az D:=⟨166,[jy,rl,aL],[vj],[.agg [bS,bR],.one (bI)],[],iS,[(1000,.sl 37 338 0 [])],λh=>MH ⟨h.1,h.2.1⟩ h.2.2⟩
def aCu:CK ajr:=fo [aiC,aiA] [.tmp 4] (qn (qw (qw (.loop ZG ab [(.exit 0,⟨[vj],[(5,.one (.own 2896))],[(2896,.sl 37 338 0 [])],[],2960⟩)] .o) .o) .o)) ⟨aBO,aBL,q0⟩ func166
def Rs(a0:dG)(a1:List fZ):Int×Int×Int×Int×gR->Option (Int×Int×Int×Int×gR⊕Int×Int×Int×gR⊕Int×gR):=λx2=>if ak (x2.1<len a1)=ab then(idx a1 x2.1).bind λx3=>(Gq x3).bind λx4=>if(!x4)=ab then aa (.inr (.inr (0,0,0,1)))else(idx a0.c_ x2.1).bind λx5=>(if(x5.tv==0)=ab then aa (W (x2.2.2.2.2.1+x3.X),W (x2.2.2.2.2.2.1+x3.Y),x2.2.2.2.2.2.2)else aa (W (x2.2.2.2.2.1+x3.X),x2.2.2.2.2.2.1,W (x2.2.2.2.2.2.2+x3.Y))).bind λx6=>aa (.inl (W (x2.1+1),x2.2.1,x2.2.2.1,x2.2.2.2.1,x6))else aa (.inr (.inl x2.2))
def Kw(a0:dG)(a1:List fZ):Option (Int×gR):=(u5 a0).bind λx1=>if(x1 !=0)=ab then(u5 a0).bind λbb=>aa (0,0,0,bb)else if(len a1 !=len a0.c_)=ab then aa (0,0,0,8)else(aG (Rs a0 a1) (0,0,0,0,0,0,0)).bind λx7=>cQ (λx8=>aa (x8.2.2.2.1,x8.2.2.2.2.1,x8.2.2.2.2.2,0)) (aa) x7
def ajq:az D:=⟨167,[qi,qi,jy,rl],pj,[.agg [bB,bp,bI],.one (bU)],[],Ct,[],λh=>Kw ⟨h.1,h.2.1,h.2.2.1⟩ h.2.2.2⟩
def aCt:CK ajq:=fo [I_,XG] [.cell 4 141,.tmp 5] (qv (qw (qw (.loop ⟨[qi,qi,qi,qi,qi,qi,qi],[(26,aN)],[(2128,.box [bp,cf,dm]),(3792,.box [cr,bQ,ep])],[2128,3792],4368⟩ ae [(.exit 1,⟨Zx,[],[(2128,.box [bB,bp,cf]),(3792,.box [dm,cr,bQ])],[2128,3792],4368⟩)] (qn (qw (qm (qv (qv (qp ⟨mw,[],[(3792,.box [bB,bp,cf])],[3792],7511⟩ .o .o))) .o) .o))) .o) .o)) ⟨Pc,aiO,q0⟩ func167
def Ya(a0:ml)(a1:ml):Option (gR):=aa (W (a0.ee-a1.ee),W (a0.iO-a1.iO),W (a0.ix-a1.ix))
def ajp:az D:=⟨168,Zx,mw,[.agg [bB,bp,cf],.agg [dm,cr,bQ]],[],tA,[],λh=>Ya ⟨h.1,h.2.1,h.2.2.1⟩ ⟨h.2.2.2.1,h.2.2.2.2.1,h.2.2.2.2.2⟩⟩
def aCs:CK ajp:=fo [] [.cell 4 141] .o trivial func168
def Ye(x3:sq)(x5:sq):Int×List Int->Option (Int×List Int⊕List Int):=λx6=>if ak (x6.1<len x5.2.2)=ab then(idx x6.2 x6.1).bind λx7=>(idx x3.2.2 x6.1).bind λx8=>(idx x6.2 x6.1).bind λx9=>(idx x6.2 x6.1).bind λbb=>(dq x6.2 x6.1 (W (x7+x8))).bind λbi=>aa (.inl (W (x6.1+1),bi))else aa (.inr x6.2)
def Yd(bF:List Int)(cF:sq):Int×Ko->Option (Int×Ko⊕Ko):=λb7=>if ak (b7.1<len bF)=ab then(idx cF.2.2 b7.1).bind λcM=>(idx bF b7.1).bind λdx=>(bD b7.2.2.2.2.2.2.2 [fZ.mk cM dx]).bind λcZ=>aa (.inl (W (b7.1+1),b7.2.1,b7.2.2.1,b7.2.2.2.1,b7.2.2.2.2.1,b7.2.2.2.2.2.1,b7.2.2.2.2.2.2.1,cZ))else aa (.inr b7.2)
def P5(a0:dG)(a1:List Int)(a2:List fZ)(a3:ml):Option (Int×Ko):=(X' a0 a1 a2 a3).bind λx1=>if(x1.2.1 !=0)=ab then aa (0,0,0,0,0,0,x1.2.1,[])else(Hm (pB.mk x1.2.2 x1.1) 0).bind λx2=>(Dk x2 a3.iO).bind λx3=>(Hm (pB.mk x1.2.2 x1.1) 1).bind λx4=>(Dk x4 a3.ix).bind λx5=>(aG (Ye x3 x5) (0,x5.2.2)).bind λbF=>(MH (pB.mk x1.2.2 x1.1) bF).bind λbY=>(Dk bY a3.ee).bind λcF=>(aG (Yd bF cF) (0,0,0,0,0,0,0,[])).bind λdQ=>(Kw a0 dQ.2.2.2.2.2.2).bind λfh=>(Ya a3 (ml.mk fh.1 fh.2.1 fh.2.2.1)).bind λfL=>aa (fh.1,fh.2.1,fh.2.2.1,fL.1,fL.2.1,fL.2.2,0,dQ.2.2.2.2.2.2)
def akn:az D:=⟨101,ZJ,ZM,Zy,[],[.agg [.own 1000,bB,bp,cf,dm,cr,bQ],Ah],[(1000,.sl 33 272 7 [])],λh=>P5 ⟨h.1,h.2.1,h.2.2.1⟩ h.2.2.2.1 h.2.2.2.2.1 ⟨h.2.2.2.2.2.1,h.2.2.2.2.2.2.1,h.2.2.2.2.2.2.2⟩⟩
def aDj:CK akn:=fo [aju,ajt,ajs,ajr,ajq,ajp] [.cell 8 209,.tmp 9] (qv (qv (qw (qw (.loop ⟨kL,[(56,aN)],[(6232,.sl 0 3 1 [])],[6232],7696⟩ ab [(.exit 0,⟨fm,[],[(6232,.sl 0 3 0 [])],[6232],7696⟩)] .o) .o) (qn (qw (qw (.loop ⟨ZM,[(82,aN)],[(9361,.box [.own 9873,bp,cf,dm,cr,bQ,ep]),(9873,.sl 33 272 7 [])],[9361],9937⟩ ab [(.exit 2,⟨[qi,qi,qi,qi,qi,qi,rl],[],[(9361,.box [.own 9873,bB,bp,cf,dm,cr,bQ]),(9873,.sl 33 272 6 [])],[9361],9937⟩)] .o) .o) .o))))) ⟨aCx,aCw,aCv,aCu,aCt,aCs,q0⟩ func101
def W9(a0:dG)(a1:List Int)(a2:ft):Option (Int×gR):=(W_ a0 a2).bind λx1=>if(x1.2.2.2 !=0)=ab then aa (0,0,0,x1.2.2.2)else(P5 a0 a1 [] (ml.mk x1.1 x1.2.1 x1.2.2.1)).bind λx2=>if(x2.2.2.2.2.2.2.1 !=0)=ab then aa (0,0,0,x2.2.2.2.2.2.2.1)else aa (x2.2.2.2.1,x2.2.2.2.2.1,x2.2.2.2.2.2.1,0)
def c46:az D:=⟨46,ZC,pj,[.agg [bB,bp,bI],.one (bU),.agg [cr,bQ,ep]],[],Ct,[],λh=>W9 ⟨h.1,h.2.1,h.2.2.1⟩ h.2.2.2.1 ⟨h.2.2.2.2.1,h.2.2.2.2.2.1,h.2.2.2.2.2.2⟩⟩
def aAj:CK c46:=fo [ako,akn] [.cell 6 141,.tmp 7] .o ⟨aDk,aDj,q0⟩ func46
def E8(a0:dG)(a1:List Int)(a2:ft):Option (Bool):=(W9 a0 a1 a2).bind λx1=>(if(x1.2.2.2==0)=ab then aa (x1.1==0&&(x1.2.1==0&&x1.2.2.1==0))else aa ae).bind aa
def XL:az D:=⟨16,ZC,[.lf .bool],[.agg [bB,bp,bI],.one (bU),.agg [cr,bQ,ep]],[],z5,[],λh=>E8 ⟨h.1,h.2.1,h.2.2.1⟩ h.2.2.2.1 ⟨h.2.2.2.2.1,h.2.2.2.2.2.1,h.2.2.2.2.2.2⟩⟩
def ajn:CK XL:=fo [c46] [.tmp 6] (qn (qw (qt 6 3728) .o)) ⟨aAj,q0⟩ func16
def EX(a0:gK)(a1:cH)(a2:List Part)(a3:List Part)(a4:ft):Option (Bool):=(xu a0 a1 a2 a3).bind λx1=>(if(x1.2.1==0)=ab then(E8 a0.dG x1.2.2.2.2.2.2.2.2 a4).bind aa else aa ae).bind aa
def h74:List Ht:=(aL::aL::[aL,aL,aL,aL,aL,aL,aL,qi,qi,qi,qi,qi,qi,jy,qi,db,dN,dz,qi,qi,qi,qi,qi,bh,kQ,mW,Af,qi,qi,qi,qi,qi,qi,qi,qi,qi,qi,qi,qi,qi,.lf .str,qi,qi,qi,qi,qi,qi,Ae,qi,cq,cN,aL,bh,fN,gj,bh,bh,qi,qi,qi])
def Pe:az D:=⟨74,h74,[.lf .bool],[.agg [bS,bR,bI,bU,ei,kR,jL,km,mX,qj,kS,nK,mY,rn,yp,.h 15 [0],wP,.h 17 [0],.h 18 [0],.h 19 [0],As,Ar,Aq,Ap,Ao,.h 25 [0],.h 26 [0],.h 27 [0],.h 28 [0],Am,Al,Ak,.h 32 [],yo,.h 34 [],.h 35 [],.h 36 [],.h 37 [],.h 38 [],.h 39 [],.h 40 [],.h 41 [],.h 42 [],.h 43 [],.h 44 [],.h 45 [],.h 46 [],.h 47 [],.h 48 [],.h 49 [0]],.agg [.h 50 [],.h 51 [0],.h 52 [0],.h 53 [0],.h 54 [0],.h 55 [0],.h 56 [0]],.one (.h 57 [0]),.one (.h 58 [0]),.agg [.h 59 [],.h 60 [],.h 61 []]],[],z5,[],λh=>let g:=h.2.2.2.2.2.2;let k:=g.2.2.2.2.2.2;let u:=k.2.2.2.2.2.2;let v:=u.2.2.2.2.2.2;let w:=v.2.2.2.2.2.2;let ha:=w.2.2.2.2.2.2;let hb:=ha.2.2.2.2.2.2;let hc:=hb.2.2.2.2.2.2;let hd:=hc.2.2.2.2.2.2;EX ⟨⟨⟨h.1,h.2.1,h.2.2.1⟩,⟨h.2.2.2.1,h.2.2.2.2.1,h.2.2.2.2.2.1⟩,⟨g.1,g.2.1,g.2.2.1⟩,g.2.2.2.1,g.2.2.2.2.1,g.2.2.2.2.2.1,k.1⟩,⟨k.2.1,k.2.2.1,k.2.2.2.1⟩,⟨k.2.2.2.2.1,k.2.2.2.2.2.1,u.1,u.2.1,u.2.2.1,u.2.2.2.1⟩,⟨u.2.2.2.2.1,u.2.2.2.2.2.1,v.1⟩,⟨v.2.1,v.2.2.1,v.2.2.2.1⟩,v.2.2.2.2.1,⟨v.2.2.2.2.2.1,w.1,w.2.1,w.2.2.1,w.2.2.2.1,w.2.2.2.2.1,w.2.2.2.2.2.1,ha.1,ha.2.1⟩,⟨⟨ha.2.2.1,ha.2.2.2.1⟩,ha.2.2.2.2.1⟩,ha.2.2.2.2.2.1,⟨hb.1,hb.2.1,⟨⟨hb.2.2.1,hb.2.2.2.1⟩,hb.2.2.2.2.1,hb.2.2.2.2.2.1⟩,hc.1⟩,⟨hc.2.1⟩⟩ ⟨hc.2.2.1,⟨hc.2.2.2.1,hc.2.2.2.2.1,hc.2.2.2.2.2.1,hd.1⟩,hd.2.1,hd.2.2.1⟩ hd.2.2.2.1 hd.2.2.2.2.1 ⟨hd.2.2.2.2.2.1,hd.2.2.2.2.2.2.1,hd.2.2.2.2.2.2.2⟩⟩
def agB:CK Pe:=fo [Px,XL] [.tmp 10] (qn (qw (qt 10 4240) .o)) ⟨XM,ajn,q0⟩ func74
def WK(a0:gK)(a1:cH)(a2:List Part)(a3:ft):Option (Bool):=(EX a0 a1 a2 [] a3).bind aa
def h32:List Ht:=(aL::z0)
def c32:az D:=⟨32,h32,[.lf .bool],z2,[],z5,[],λh=>let g:=h.2.2.2.2.2.2;let k:=g.2.2.2.2.2.2;let u:=k.2.2.2.2.2.2;let v:=u.2.2.2.2.2.2;let w:=v.2.2.2.2.2.2;let ha:=w.2.2.2.2.2.2;let hb:=ha.2.2.2.2.2.2;let hc:=hb.2.2.2.2.2.2;let hd:=hc.2.2.2.2.2.2;WK ⟨⟨⟨h.1,h.2.1,h.2.2.1⟩,⟨h.2.2.2.1,h.2.2.2.2.1,h.2.2.2.2.2.1⟩,⟨g.1,g.2.1,g.2.2.1⟩,g.2.2.2.1,g.2.2.2.2.1,g.2.2.2.2.2.1,k.1⟩,⟨k.2.1,k.2.2.1,k.2.2.2.1⟩,⟨k.2.2.2.2.1,k.2.2.2.2.2.1,u.1,u.2.1,u.2.2.1,u.2.2.2.1⟩,⟨u.2.2.2.2.1,u.2.2.2.2.2.1,v.1⟩,⟨v.2.1,v.2.2.1,v.2.2.2.1⟩,v.2.2.2.2.1,⟨v.2.2.2.2.2.1,w.1,w.2.1,w.2.2.1,w.2.2.2.1,w.2.2.2.2.1,w.2.2.2.2.2.1,ha.1,ha.2.1⟩,⟨⟨ha.2.2.1,ha.2.2.2.1⟩,ha.2.2.2.2.1⟩,ha.2.2.2.2.2.1,⟨hb.1,hb.2.1,⟨⟨hb.2.2.1,hb.2.2.2.1⟩,hb.2.2.2.2.1,hb.2.2.2.2.2.1⟩,hc.1⟩,⟨hc.2.1⟩⟩ ⟨hc.2.2.1,⟨hc.2.2.2.1,hc.2.2.2.2.1,hc.2.2.2.2.2.1,hd.1⟩,hd.2.1,hd.2.2.1⟩ hd.2.2.2.1 ⟨hd.2.2.2.2.1,hd.2.2.2.2.2.1,hd.2.2.2.2.2.2⟩⟩
def aAw:CK c32:=fo [Pe] [.tmp 8] .o ⟨agB,q0⟩ func32
