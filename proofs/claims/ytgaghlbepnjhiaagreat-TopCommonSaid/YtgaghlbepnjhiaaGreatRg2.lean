import Derived.Test.YtgaghlbepnjhiaaGreatRg1
set_option maxRecDepth 100000
set_option linter.all false
open Bool renaming false->ae,true->ab
open Decidable renaming decide->ak
open Option renaming some->aa
open Sum renaming elim->cQ
noncomputable section
namespace Go.Proofs.YtgaghlbepnjhiaaGreat
open Go Go.RowKit Dp
namespace Rx
open Tryz
def KZ:Int×Int×List bz->Option (Int×Int×List bz⊕Int×List bz):=λx2=>if ak (x2.2.1<len x2.2.2)=ab then(idx x2.2.2 x2.2.1).bind λx3=>(Jy x3).bind λx4=>(if(!x4)=ab then(idx x2.2.2 x2.1).bind λx5=>(idx x2.2.2 x2.1).bind λx6=>(dq x2.2.2 x2.1 x3).bind λx7=>aa (W (x2.1+1),x7)else aa (x2.1,x2.2.2)).bind λx8=>aa (.inl (x8.1,W (x2.2.1+1),x8.2))else aa (.inr (x2.1,x2.2.2))
def K_(a0:List bz):Option (List bz):=(R4 a0).bind λx1=>if(x1==(-1))=ab then aa a0 else(aG KZ (x1,W (x1+1),a0)).bind λx9=>(dH x9.2 x9.1 (len x9.2)).bind λbb=>(dH (rT (bz.mk [] [] []) x9.2 x9.1) 0 x9.1).bind aa
def ai8:az D:=⟨197,so,so,[.one (.own 1000),.one (.fn 198 [])],[(1000,.sl 24 248 0 [0])],wu,[(1001,.sl 24 248 0 [0])],λh=>K_ h⟩
def aCc:CK ai8:=fo [XI,air] [.tmp 4] (qv (qw (qw (.loop ⟨[qi,qi,.lf (.sl 24)],[(5,aN),(6,dE)],[(1000,.sl 24 248 2 [0])],[1000],3344⟩ ab [(.exit 0,⟨Co,pi,[(1000,.sl 24 248 1 [0])],[1000],3344⟩)] (qw (qm (qv (qp ⟨Co,pi,[(1000,.sl 24 248 1 [0])],[1000],5203⟩ .o .o)) .o) .o)) .o) .o)) ⟨ai7,aBC,q0⟩ func197
def Jx(x2:List Int):Int×List bz->Option (Int×List bz⊕List bz):=λx4=>if ak (x4.1<len x2)=ab then(idx x2 x4.1).bind λx5=>(idx x4.2 x5).bind λx6=>(idx x4.2 x5).bind λx7=>(idx x4.2 x5).bind λx8=>(bD x8.aA [x4.1]).bind λx9=>(dq x4.2 x5 (bz.mk x9 x8.aj x8.ay)).bind λbb=>(idx bb x5).bind λbi=>(y7 x5 x5).bind λbF=>aa (.inl (W (x4.1+1),bb))else aa (.inr x4.2)
def Jw(a0:au)(a1:aw)(x2:List Int):Int×List bz->Option (Int×List bz⊕List bz):=λcF=>if ak (cF.1<len a0.aj)=ab then(Js a0 a1 cF.1).bind λb7=>(if b7.2=ab then(idx x2 b7.1).bind λcM=>(idx x2 b7.1).bind λdx=>(idx cF.2 dx).bind λcZ=>(idx cF.2 dx).bind λdQ=>(idx cF.2 dx).bind λfh=>(bD fh.aj [cF.1]).bind λfL=>(dq cF.2 dx (bz.mk fh.aA fL fh.ay)).bind λiU=>(idx iU cM).bind λkN=>(y7 cM dx).bind λfC=>aa iU else aa cF.2).bind λlV=>aa (.inl (W (cF.1+1),lV))else aa (.inr cF.2)
def Ju(a0:au)(a1:aw)(x2:List Int):Int×List bz->Option (Int×List bz⊕List bz):=λg_=>if ak (g_.1<len a0.ay)=ab then(Jr a0 a1 g_.1).bind λiT=>(if iT.2=ab then(idx x2 iT.1).bind λkh=>(idx x2 iT.1).bind λlm=>(idx g_.2 lm).bind λmx=>(idx g_.2 lm).bind λot=>(idx g_.2 lm).bind λra=>(bD ra.ay [g_.1]).bind λqe=>(dq g_.2 lm (bz.mk ra.aA ra.aj qe)).bind λqd=>(idx qd kh).bind λqc=>(y7 kh lm).bind λGj=>aa qd else aa g_.2).bind λwB=>aa (.inl (W (g_.1+1),wB))else aa (.inr g_.2)
def zn(a0:au)(a1:aw):Option (List bz):=(pS a0 a1).bind λx1=>if(x1 !=0)=ab then aa []else(PG a0 a1).bind λx2=>(mE (bz.mk [] [] []) a0.aA).bind λx3=>(aG (Jx x2) (0,x3)).bind λbY=>(aG (Jw a0 a1 x2) (0,bY)).bind λkj=>(aG (Ju a0 a1 x2) (0,kj)).bind λCY=>(K_ CY).bind aa
def Py:az D:=⟨135,tB,so,uS,[],iS,[(1000,.sl 24 248 0 [1])],λh=>let g:=h.2.2.2.2.2.2;zn (qb h) ⟨g.1,g.2.1,g.2.2.1,g.2.2.2⟩⟩
def XQ:CK Py:=fo [rU,ai',XK,XJ,ai8] [.tmp 4] (qv (qn (qw (qw (.loop ⟨Co,[(27,aN)],[(3664,.df 24 248 3 0 1)],[3664],4368⟩ ab [(.exit 0,⟨so,[],[(3664,.df 24 248 3 0 0)],[3664],4368⟩)] .o) .o) (qm (qw (.loop ⟨Co,[(48,aN)],[(3664,.df 24 248 3 0 1)],[3664],4945⟩ ab [(.exit 2,⟨so,[],[(3664,.df 24 248 3 0 0)],[3664],4945⟩)] (qn (qw (qm (qv (qn (qp ⟨so,[],[(3664,.df 24 248 3 0 0)],[3664],6675⟩ .o .o))) .o) .o))) .o) (qm (qw (.loop ⟨Co,[(81,aN)],[(3664,.df 24 248 3 0 1)],[3664],5522⟩ ab [(.exit 4,⟨so,[],[(3664,.df 24 248 3 0 0)],[3664],5522⟩)] (qn (qw (qm (qv (qn (qp ⟨so,[],[(3664,.df 24 248 3 0 0)],[3664],7252⟩ .o .o))) .o) .o))) .o) (qm (.r none (.xW 1 [3664] .nil)) .o)))))) ⟨tq,aCd,ai_,ai9,aCc,q0⟩ func135
def Gr(a1:List Int)(a2:bu):Int×List bu->Option (Int×List bu⊕List bu):=λx1=>if ak (x1.1<len a1)=ab then(idx a1 x1.1).bind λx2=>(idx x1.2 x2).bind λx3=>(idx x1.2 x2).bind λx4=>(dq x1.2 x2 (bu.mk x4.State x4.gX a2.a_ x4.bn)).bind λx5=>(idx x5 x2).bind λx6=>(idx x5 x2).bind λx7=>(dq x5 x2 (bu.mk x7.State x7.gX x7.a_ a2.bn)).bind λx8=>aa (.inl (W (x1.1+1),x8))else aa (.inr x1.2)
def Gs(a0:aw)(a1:List Int)(a2:bu):Option (List bu):=(aG (Gr a1 a2) (0,a0.aj)).bind aa
def XP:az D:=⟨136,[cq,cN,aL,bh,aL,qi,qi,qi,qi],nG,[.agg [bS,.own 1000,bI,bU],.one (ei),.agg [bQ,ep,ib,tN]],[(1000,.sl 9 163 1 [])],[],[(1000,.sl 9 163 0 [])],λh=>Gs ⟨h.1,h.2.1,h.2.2.1,h.2.2.2.1⟩ h.2.2.2.2.1 ⟨h.2.2.2.2.2.1,h.2.2.2.2.2.2.1,h.2.2.2.2.2.2.2.1,h.2.2.2.2.2.2.2.2⟩⟩
def ajV:CK XP:=fo [] [] (qn (qw (.loop ⟨zH,zO,[(1000,.sl 9 163 1 [])],[1000],2704⟩ ab [(.exit 0,⟨nG,[],[(1000,.sl 9 163 0 [])],[1000],2704⟩)] .o) .o)) trivial func136
def KA(a1:aw)(x2:ov)(x3:List bz):Int×List bu->Option (Int×List bu⊕List bu):=λx4=>if ak (x4.1<len x3)=ab then(idx x3 x4.1).bind λx5=>(if ak (len x5.aj>0)=ab then(idx x5.aj 0).bind λx6=>(idx a1.aj x6).bind λx7=>(Gs (aw.mk x2.1 x4.2 x2.2.2.1 x2.2.2.2) x5.aj x7).bind aa else aa x4.2).bind λx9=>aa (.inl (W (x4.1+1),x9))else aa (.inr x4.2)
def zU(a0:au)(a1:aw):Option (Int×ov):=(pS a0 a1).bind λx1=>if(x1 !=0)=ab then aa (x1,[],[],[],[])else(rh a1).bind λx2=>(zn a0 a1).bind λx3=>(aG (KA a1 x2 x3) (0,x2.2.1)).bind λbb=>aa (0,x2.1,bb,x2.2.2)
def Pd:az D:=⟨81,tB,zL,uS,[],zK,zN,λh=>let g:=h.2.2.2.2.2.2;zU (qb h) ⟨g.1,g.2.1,g.2.2.1,g.2.2.2⟩⟩
def Xg:CK Pd:=fo [rU,v5,Py,XP] [.cell 4 65,.tmp 5] (qv (qw (qw (.loop ⟨zH,[(23,aN)],[(3417,.sl 9 163 1 [])],[3417],4496⟩ ab [(.exit 0,⟨nG,[],[(3417,.sl 9 163 0 [])],[3417],4496⟩)] Y_) .o) .o)) ⟨tq,xy,XQ,ajV,q0⟩ func81
def De(a0:List Bool)(a1:List Bool):Int->Option (Int⊕Unit⊕Bool):=λx1=>if ak (x1<len a0)=ab then(idx a0 x1).bind λx2=>(idx a1 x1).bind λx3=>if(!x2==x3)=ab then aa (.inr (.inr ae))else aa (.inl (W (x1+1)))else aa (.inr (.inl ()))
def KT(a0:List Bool)(a1:List Bool):Option (Bool):=if(len a0 !=len a1)=ab then aa ae else(aG (De a0 a1) 0).bind λx4=>cQ (λx5=>aa ab) (aa) x4
def ajU:az D:=⟨137,[cq,cq],[.lf .bool],Cp,[],z5,[],λh=>KT h.1 h.2⟩
def aCW:CK ajU:=fo [] [.tmp 4] J_ trivial func137
def Df(a0:List bu)(a1:List bu):Int->Option (Int⊕Unit⊕Bool):=λx1=>if ak (x1<len a0)=ab then(idx a0 x1).bind λx2=>(idx a1 x1).bind λx3=>if(!(x2.State==x3.State&&(x2.gX==x3.gX&&(x2.a_==x3.a_&&x2.bn==x3.bn))))=ab then aa (.inr (.inr ae))else aa (.inl (W (x1+1)))else aa (.inr (.inl ()))
def KU(a0:List bu)(a1:List bu):Option (Bool):=if(len a0 !=len a1)=ab then aa ae else(aG (Df a0 a1) 0).bind λx4=>cQ (λx5=>aa ab) (aa) x4
def ajT:az D:=⟨138,[cN,cN],[.lf .bool],Cp,[],z5,[],λh=>KU h.1 h.2⟩
def aCV:CK ajT:=fo [] [.tmp 4] J_ trivial func138
def Dd(a0:List Int)(a1:List Int):Int->Option (Int⊕Unit⊕Bool):=λx1=>if ak (x1<len a0)=ab then(idx a0 x1).bind λx2=>(idx a1 x1).bind λx3=>if(x2 !=x3)=ab then aa (.inr (.inr ae))else aa (.inl (W (x1+1)))else aa (.inr (.inl ()))
def KS(a0:List Int)(a1:List Int):Option (Bool):=if(len a0 !=len a1)=ab then aa ae else(aG (Dd a0 a1) 0).bind λx4=>cQ (λx5=>aa ab) (aa) x4
def ajS:az D:=⟨139,[aL,aL],[.lf .bool],Cp,[],z5,[],λh=>KS h.1 h.2⟩
def aCU:CK ajS:=fo [] [.tmp 4] J_ trivial func139
def Dg(a0:List Part)(a1:List Part):Int->Option (Int⊕Unit⊕Bool):=λx1=>if ak (x1<len a0)=ab then(idx a0 x1).bind λx2=>(idx a1 x1).bind λx3=>if(!(x2.Kind==x3.Kind&&x2.Number==x3.Number))=ab then aa (.inr (.inr ae))else aa (.inl (W (x1+1)))else aa (.inr (.inl ()))
def KV(a0:List Part)(a1:List Part):Option (Bool):=if(len a0 !=len a1)=ab then aa ae else(aG (Dg a0 a1) 0).bind λx4=>cQ (λx5=>aa ab) (aa) x4
def ajQ:az D:=⟨140,[bh,bh],[.lf .bool],Cp,[],z5,[],λh=>KV h.1 h.2⟩
def aCS:CK ajQ:=fo [] [.tmp 4] J_ trivial func140
def Gu(a0:aw)(a1:aw):Option (Bool):=((KT a0.aE a1.aE).bind λx1=>if x1=ab then(KU a0.aj a1.aj).bind λx2=>if x2=ab then(KS a0.aT a1.aT).bind λx3=>if x3=ab then(KV a0.aP a1.aP).bind aa else aa ae else aa ae else aa ae).bind aa
def Xf:az D:=⟨83,[cq,cN,aL,bh,cq,cN,aL,bh],[.lf .bool],[.agg [bS,bR,bI,bU],.agg [ei,kR,jL,km]],[],z5,[],λh=>Gu ⟨h.1,h.2.1,h.2.2.1,h.2.2.2.1⟩ ⟨h.2.2.2.2.1,h.2.2.2.2.2.1,h.2.2.2.2.2.2.1,h.2.2.2.2.2.2.2⟩⟩
def agp:CK Xf:=fo [ajU,ajT,ajS,ajQ] [.tmp 4] (qw (qt 4 2448) .o) ⟨aCW,aCV,aCU,aCS,q0⟩ func83
def Ml(a0:Int)(a1:Int)(a2:List Bool)(a3:List bu)(a4:List Int)(a5:List Part)(a6:List eH)(a7:List Event):Option (Bool×rc):=(if ak (a0>=(-1))=ab then aa (ak (a0<=a1))else aa ae).bind λx1=>aa (x1,a1,a2,a3,a4,a5,a6,a7)
def c82:az D:=⟨82,QU,Ge,[aN,.one (.ptr 1000 0)],[(1000,.box [bp,bI,bU,ei,kR,jL,km])],z5,[(1000,.box [bp,bI,bU,ei,kR,jL,km])],λh=>Ml h.1 h.2.1 h.2.2.1 h.2.2.2.1 h.2.2.2.2.1 h.2.2.2.2.2.1 h.2.2.2.2.2.2.1 h.2.2.2.2.2.2.2⟩
def azP:CK c82:=fo [] [.tmp 3] (qw (qt 3 2192) .o) trivial func82
def Mk(a0:eH)(a1:Int)(a2:List Bool)(a3:List bu)(a4:List Int)(a5:List Part)(a6:List eH)(a7:List Event):Option (Bool×rc):=((Ml a0.i_ a1 a2 a3 a4 a5 a6 a7).bind λx1=>if(!x1.1)=ab then aa (ab,x1.2)else(Ml a0.jH x1.2.1 x1.2.2.1 x1.2.2.2.1 x1.2.2.2.2.1 x1.2.2.2.2.2.1 x1.2.2.2.2.2.2.1 x1.2.2.2.2.2.2.2).bind λx2=>aa (!x2.1,x2.2)).bind aa
def c85:az D:=⟨85,[qi,qi,qi,cq,cN,aL,bh,fN,gj],Ge,[.agg [bB,bp],.one (.ptr 1000 0)],[(1000,.box [.fn 82 [.ptr 1001 0]]),(1001,.box [cf,bU,ei,kR,jL,km,mX])],z5,Cu,λh=>Mk ⟨h.1,h.2.1⟩ h.2.2.1 h.2.2.2.1 h.2.2.2.2.1 h.2.2.2.2.2.1 h.2.2.2.2.2.2.1 h.2.2.2.2.2.2.2.1 h.2.2.2.2.2.2.2.2⟩
def azN:CK c85:=fo [c82] [.tmp 3] (qw (qr ⟨Ge,[(3,aN)],[(1001,.box [bp,bI,bU,ei,kR,jL,km])],[1001],2320⟩) .o) ⟨azP,q0⟩ func85
def GJ(a0:List eH):Int×rc->Option (Int×rc⊕rc⊕Int×rc):=λx1=>if ak (x1.1<len a0)=ab then(idx a0 x1.1).bind λx2=>(Mk x2 x1.2.1 x1.2.2.1 x1.2.2.2.1 x1.2.2.2.2.1 x1.2.2.2.2.2.1 x1.2.2.2.2.2.2.1 x1.2.2.2.2.2.2.2).bind λx3=>if x3.1=ab then aa (.inr (.inr (x1.1,x3.2)))else aa (.inl (W (x1.1+1),x3.2))else aa (.inr (.inl x1.2))
def RX(a0:List eH)(a1:Int)(a2:List Bool)(a3:List bu)(a4:List Int)(a5:List Part)(a6:List eH)(a7:List Event):Option (Int×rc):=(aG (GJ a0) (0,a1,a2,a3,a4,a5,a6,a7)).bind λx4=>cQ (λx5=>aa ((-1),x5)) (aa) x4
def ajP:az D:=⟨141,ZD,QU,[.one (bS),.one (.fn 85 [.ptr 1000 0])],Cu,z5,Cu,λh=>RX h.1 h.2.1 h.2.2.1 h.2.2.2.1 h.2.2.2.2.1 h.2.2.2.2.2.1 h.2.2.2.2.2.2.1 h.2.2.2.2.2.2.2⟩
def aCR:CK ajP:=fo [c85] [.tmp 4] (qw (qw (.loop ⟨QU,xP,Cu,[1000,1001],2576⟩ ae [(.exit 0,⟨QS,[],[(1000,.box [.fn 82 [.ptr 1001 0]]),(1001,.box [bB,bR,bI,bU,ei,kR,jL])],[1000,1001],2576⟩)] .o) .o) .o) ⟨azN,q0⟩ func141
def Li(a0:List eH)(a1:Int)(a2:List Bool)(a3:List bu)(a4:List Int)(a5:List Part)(a6:List eH)(a7:List Event):Option (Bool×rc):=(RX a0 a1 a2 a3 a4 a5 a6 a7).bind λx1=>aa (ak (x1.1>=0),x1.2)
def c84:az D:=⟨84,ZD,Ge,[.one (bS),.one (.fn 85 [.ptr 1000 0])],Cu,z5,Cu,λh=>Li h.1 h.2.1 h.2.2.1 h.2.2.2.1 h.2.2.2.2.1 h.2.2.2.2.2.1 h.2.2.2.2.2.2.1 h.2.2.2.2.2.2.2⟩
def azO:CK c84:=fo [ajP] [.tmp 4] .o ⟨aCR,q0⟩ func84
def Mm(a0:au)(a1:gL)(a2:cH):Option (Int):=(zU a0 a2.aw).bind λx1=>if(x1.1 !=0)=ab then aa x1.1 else((LR a1).bind λx2=>if(!x2)=ab then aa ab else if ak (a2.Time<0)=ab then aa ab else aa (ak (a2.Time>2147483648))).bind λx3=>if x3=ab then aa 1 else if(len a2.pU !=a0.aA)=ab then aa 8 else((Gu a2.aw (aw.mk x1.2.1 x1.2.2.1 x1.2.2.2.1 x1.2.2.2.2)).bind λx4=>if(!x4)=ab then aa (ab,a2.Time,a2.aw.aE,a2.aw.aj,a2.aw.aT,a2.aw.aP,a2.pU,a2.rZ)else(Li a2.pU a2.Time a2.aw.aE a2.aw.aj a2.aw.aT a2.aw.aP a2.pU a2.rZ).bind aa).bind λx6=>if x6.1=ab then aa 11 else aa 0
def c40:az D:=⟨40,[qi,db,dN,dz,qi,qi,qi,qi,qi,qi,cq,cN,aL,bh,fN,gj],z8,[.agg [bB,bR,bI,bU,cr,bQ],.agg [ep,ib,tN],.agg [qj,Aj,.h 11 [0],.h 12 [0],.h 13 [0],.h 14 [0],.h 15 [0]]],[],z5,[],λh=>let g:=h.2.2.2.2.2.2;let k:=g.2.2.2.2.2.2;Mm (qb h) ⟨g.1,g.2.1,g.2.2.1⟩ ⟨g.2.2.2.1,⟨g.2.2.2.2.1,g.2.2.2.2.2.1,k.1,k.2.1⟩,k.2.2.1,k.2.2.2⟩⟩
def aAo:CK c40:=fo [I',Pd,Xf,c84] [.tmp 6] (qv (qw (qm (qn (qw (qt 22 4624) (qv (qw (qr ⟨Ge,[(43,aN)],[(2256,.box [bp,bI,bU,ei,kR,jL,km]),(3920,.box [.fn 82 [.ptr 2256 0]])],[2256,3920],5585⟩) .o)))) .o) .o)) ⟨agS,Xg,agp,azO,q0⟩ func40
def Ws(a0:Part):Option (Bool):=(if ak (a0.Kind>=1)=ab then if ak (a0.Kind<=9)=ab then if ak (a0.Number>=0)=ab then aa (ak (a0.Number<=63))else aa ae else aa ae else aa ae).bind aa
def aj6:az D:=⟨125,z9,[.lf .bool],wo,[],z5,[],λh=>Ws ⟨h.1,h.2⟩⟩
def aC4:CK aj6:=fo [] [.tmp 2] Cq trivial func125
def OJ(a0:Part):Option (Bool):=(Ws a0).bind λx1=>aa !x1
def aj7:az D:=⟨124,z9,[.lf .bool],wo,[],z5,[],λh=>OJ ⟨h.1,h.2⟩⟩
def aC5:CK aj7:=fo [aj6] [.tmp 2] .o ⟨aC4,q0⟩ func124
def KO(a0:List Part):Int->Option (Int⊕Unit⊕Int):=λx1=>if ak (x1<len a0)=ab then(idx a0 x1).bind λx2=>(OJ x2).bind λx3=>if x3=ab then aa (.inr (.inr x1))else aa (.inl (W (x1+1)))else aa (.inr (.inl ()))
def R3(a0:List Part):Option (Int):=(aG (KO a0) 0).bind λx4=>cQ (λx5=>aa (-1)) (aa) x4
def c79:az D:=⟨79,gF,z8,[.one (bS),.one (.fn 124 [])],[],z5,[],λh=>R3 h⟩
def azR:CK c79:=fo [aj7] [.tmp 4] z3 ⟨aC5,q0⟩ func79
def Sa(a0:List Part):Option (Bool):=(R3 a0).bind λx1=>aa (ak (x1>=0))
def c37:az D:=⟨37,gF,[.lf .bool],[.one (bS),.one (.fn 124 [])],[],z5,[],λh=>Sa h⟩
def aAr:CK c37:=fo [c79] [.tmp 4] .o ⟨azR,q0⟩ func37
def BQ(a0:Part)(a1:Part):Option (Int):=(vZ a0.Kind a1.Kind).bind λx1=>(vZ a0.Number a1.Number).bind λx2=>(E0 [x1,x2]).bind aa
def Ph:az D:=⟨51,pj,z8,J8,[],z5,[],λh=>BQ ⟨h.1,h.2.1⟩ ⟨h.2.2.1,h.2.2.2⟩⟩
def Xk:CK Ph:=fo [PD,PB] [.tmp 4] .o ⟨XU,XT,q0⟩ func51
def OH(a0:List Part):Int->Option (Int⊕Unit⊕Bool):=λx1=>if ak (x1<len a0)=ab then(idx a0 (W (x1-1))).bind λx2=>(idx a0 x1).bind λx3=>(BQ x2 x3).bind λx4=>if ak (x4>=0)=ab then aa (.inr (.inr ae))else aa (.inl (W (x1+1)))else aa (.inr (.inl ()))
def IT(a0:List Part):Option (Bool):=(aG (OH a0) 1).bind λx5=>cQ (λx6=>aa ab) (aa) x5
def XR:az D:=⟨126,gF,[.lf .bool],[.one (bS),.one (.fn 51 [])],[],z5,[],λh=>IT h⟩
def aj5:CK XR:=fo [Ph] [.tmp 4] Y8 ⟨Xk,q0⟩ func126
def OK(a0:List Part):Option (Bool):=((Sa a0).bind λx1=>if(!x1)=ab then(IT a0).bind aa else aa ae).bind aa
def c76:az D:=⟨76,gF,[.lf .bool],pf,[],z5,[],λh=>OK h⟩
def azW:CK c76:=fo [c37,XR] [.tmp 2] (qw (qt 2 2192) .o) ⟨aAr,aj5,q0⟩ func76
def wH(a0:List Part)(a1:Part):Int->Option (Int⊕Unit⊕Int):=λx1=>if ak (x1<len a0)=ab then(idx a0 x1).bind λx2=>if(a1.Kind==x2.Kind&&a1.Number==x2.Number)=ab then aa (.inr (.inr x1))else aa (.inl (W (x1+1)))else aa (.inr (.inl ()))
def KL(a0:List Part)(a1:Part):Option (Int):=(aG (wH a0 a1) 0).bind λx3=>cQ (λx4=>aa (-1)) (aa) x3
def ajW:az D:=⟨133,xO,z8,Ke,[],z5,[],λh=>KL h.1 ⟨h.2.1,h.2.2⟩⟩
def aCX:CK ajW:=fo [] [.tmp 4] QY trivial func133
def GL(a0:List Part)(a1:Part):Option (Bool):=(KL a0 a1).bind λx1=>aa (ak (x1>=0))
def Xh:az D:=⟨80,xO,[.lf .bool],Ke,[],z5,[],λh=>GL h.1 ⟨h.2.1,h.2.2⟩⟩
def ags:CK Xh:=fo [ajW] [.tmp 4] .o ⟨aCX,q0⟩ func80
def s_(a0:List Part)(a1:Part):Option (Bool):=(GL a0 a1).bind aa
def xx:az D:=⟨39,xO,[.lf .bool],Ke,[],z5,[],λh=>s_ h.1 ⟨h.2.1,h.2.2⟩⟩
def BW:CK xx:=fo [Xh] [.tmp 4] .o ⟨ags,q0⟩ func39
def OA(a0:fI)(a1:fI):Option (Int):=(BQ a0.cu a1.cu).bind λx1=>(BQ a0.To a1.To).bind λx2=>(E0 [x1,x2]).bind aa
def aj3:az D:=⟨128,[qi,qi,qi,qi,qi,qi,qi,qi],z8,[.agg [bB,bp,cf,dm],.agg [cr,bQ,ep,ib]],[],z5,[],λh=>OA ⟨⟨h.1,h.2.1⟩,⟨h.2.2.1,h.2.2.2.1⟩⟩ ⟨⟨h.2.2.2.2.1,h.2.2.2.2.2.1⟩,⟨h.2.2.2.2.2.2.1,h.2.2.2.2.2.2.2⟩⟩⟩
def aC2:CK aj3:=fo [Ph,PD] [.tmp 4] .o ⟨Xk,XU,q0⟩ func128
def OI(a0:List fI):Int->Option (Int⊕Unit⊕Bool):=λx1=>if ak (x1<len a0)=ab then(idx a0 (W (x1-1))).bind λx2=>(idx a0 x1).bind λx3=>(OA x2 x3).bind λx4=>if ak (x4>=0)=ab then aa (.inr (.inr ae))else aa (.inl (W (x1+1)))else aa (.inr (.inl ()))
def Wr(a0:List fI):Option (Bool):=(aG (OI a0) 1).bind λx5=>cQ (λx6=>aa ab) (aa) x5
def aj4:az D:=⟨127,[kQ],[.lf .bool],[.one (bS),.one (.fn 128 [])],[],z5,[],λh=>Wr h⟩
def aC3:CK aj4:=fo [aj3] [.tmp 4] Y8 ⟨aC2,q0⟩ func127
def Oz(a0:b_):Int->Option (Int⊕Unit⊕Bool):=λx1=>if ak (x1<len a0.cw)=ab then(idx a0.cw x1).bind λx2=>((s_ a0.eI x2.cu).bind λx3=>if(!x3)=ab then aa ab else(s_ a0.eI x2.To).bind λx4=>if(!x4)=ab then aa ab else aa (x2.cu.Kind==x2.To.Kind&&x2.cu.Number==x2.To.Number)).bind λx5=>if x5=ab then aa (.inr (.inr ae))else aa (.inl (W (x1+1)))else aa (.inr (.inl ()))
def OC(a0:b_):Option (Bool):=(aG (Oz a0) 0).bind λx6=>cQ (λx7=>(Wr a0.cw).bind aa) (aa) x6
def c77:az D:=⟨77,[bh,kQ,mW],[.lf .bool],Kc,[],z5,[],λh=>OC ⟨h.1,h.2.1,h.2.2⟩⟩
def azV:CK c77:=fo [xx,aj4] [.tmp 2] (qw (qw (.loop ⟨z8,xP,[],[],2832⟩ ae [(.exit 0,Cy)] (qn (qw (qm (qw (qr ⟨[.lf .bool],[(19,qa),(20,qa),(21,qa),(22,qa),(23,qa),(24,qa),(27,qa),(28,qa),(29,qa),(30,qa),(31,qa),(32,aN)],[],[],3537⟩) .o) .o) .o))) .o) .o) ⟨BW,aC3,q0⟩ func77
def ay0(x3:List U8):Int->Option (Int⊕Unit⊕Bool):=λx4=>if ak (x4<len x3)=ab then(idx x3 x4).bind λx5=>(if ak (x5.n>=97)=ab then aa (ak (x5.n<=122))else aa ae).bind λx6=>(if(!x6)=ab then if(x4==0)=ab then aa ab else if(x5.n !=45)=ab then if ak (x5.n<48)=ab then aa ab else aa (ak (x5.n>57))else aa ae else aa ae).bind λx7=>if x7=ab then aa (.inr (.inr ae))else aa (.inl (W (x4+1)))else aa (.inr (.inl ()))
def EV(a0:ByteArray):Option (Bool):=(if ak (rj a0<1)=ab then aa ab else aa (ak (rj a0>12))).bind λx1=>if x1=ab then aa ae else(LL (λx2=>U8.mk x2) a0).bind λx3=>(aG (ay0 x3) 0).bind λx8=>cQ (λx9=>aa ab) (aa) x8
def ajY:az D:=⟨131,[.lf .str],[.lf .bool],z5,[],z5,[],λh=>EV h⟩
def aCZ:CK ajY:=fo [] [.tmp 2] (qw (qm (qt 13 2192) .o) (qm (qw (.loop ⟨z8,[(17,aN)],[],[],2769⟩ ae [(.exit 0,⟨[],[],[],[],2769⟩)] (qn (qw (qm (qw (qr ⟨[.lf .bool],[(5,aN),(25,qa),(26,qa)],[],[],3602⟩) (qm (qr ⟨[.lf .bool],[(31,qa),(32,qa),(33,qa),(34,qa),(35,qa),(36,qa),(37,qa),(38,qa),(39,qa),(40,qa),(41,qa),(42,qa),(43,qa),(44,qa),(45,aN)],[],[],3667⟩) .o)) .o) .o))) .o) .o)) trivial func131
def Wq(a0:jt)(a1:jt):Option (Bool):=aa (a0.Name==a1.Name)
def aj2:az D:=⟨129,[.lf .str,bh,.el 20],[.lf .bool],[.agg [bB,bR],.one (.rp 2 20 [0])],[],z5,[],λh=>Wq ⟨h.1,h.2.1⟩ h.2.2⟩
def aC1:CK aj2:=fo [] [.tmp 3] .o trivial func129
def KP(a0:List jt)(a1:jt):Int->Option (Int⊕Unit⊕Int):=λx1=>if ak (x1<len a0)=ab then(idx a0 x1).bind λx2=>(Wq x2 a1).bind λx3=>if x3=ab then aa (.inr (.inr x1))else aa (.inl (W (x1+1)))else aa (.inr (.inl ()))
def R5(a0:List jt)(a1:jt):Option (Int):=(aG (KP a0 a1) 0).bind λx4=>cQ (λx5=>aa (-1)) (aa) x4
def aja:az D:=⟨193,[mW,.el 20],z8,[.one (bS),.one (.fn 129 [.rp 1 20 [0]])],[],z5,[],λh=>R5 h.1 h.2⟩
def aCe:CK aja:=fo [aj2] [.tmp 4] z3 ⟨aC1,q0⟩ func193
def Ll(a0:List jt)(a1:jt):Option (Bool):=(R5 a0 a1).bind λx1=>aa (ak (x1>=0))
def ajX:az D:=⟨132,[mW,.el 20],[.lf .bool],[.one (bS),.one (.fn 129 [.rp 1 20 [0]])],[],z5,[],λh=>Ll h.1 h.2⟩
def aCY:CK ajX:=fo [aja] [.tmp 4] .o ⟨aCe,q0⟩ func132
def Wo(a0:Part)(a1:b_):Option (Bool):=(s_ a1.eI a0).bind λx1=>aa !x1
def ajZ:az D:=⟨130,[qi,qi,.el 25],[.lf .bool],[.agg [bB,bp],.one (.rp 2 25 [0])],[],z5,[],λh=>Wo ⟨h.1,h.2.1⟩ h.2.2⟩
def aC0:CK ajZ:=fo [xx] [.tmp 3] .o ⟨BW,q0⟩ func130
def KN(a0:List Part)(a1:b_):Int->Option (Int⊕Unit⊕Int):=λx1=>if ak (x1<len a0)=ab then(idx a0 x1).bind λx2=>(Wo x2 a1).bind λx3=>if x3=ab then aa (.inr (.inr x1))else aa (.inl (W (x1+1)))else aa (.inr (.inl ()))
def R2(a0:List Part)(a1:b_):Option (Int):=(aG (KN a0 a1) 0).bind λx4=>cQ (λx5=>aa (-1)) (aa) x4
def agv:az D:=⟨79,[bh,.el 25],z8,[.one (bS),.one (.fn 130 [.rp 1 25 [0]])],[],z5,[],λh=>R2 h.1 h.2⟩
def azT:CK agv:=fo [ajZ] [.tmp 4] z3 ⟨aC0,q0⟩ func79
def Lk(a0:List Part)(a1:b_):Option (Bool):=(R2 a0 a1).bind λx1=>aa (ak (x1>=0))
def ag7:az D:=⟨37,[bh,.el 25],[.lf .bool],[.one (bS),.one (.fn 130 [.rp 1 25 [0]])],[],z5,[],λh=>Lk h.1 h.2⟩
def aAt:CK ag7:=fo [agv] [.tmp 4] .o ⟨azT,q0⟩ func37
def OD(a0:b_):Int->Option (Int⊕Unit⊕Bool):=λx1=>if ak (x1<len a0.gb)=ab then(idx a0.gb x1).bind λx2=>((EV x2.Name).bind λx3=>if(!x3)=ab then aa ab else(dH a0.gb 0 x1).bind λx4=>(Ll x4 x2).bind λx5=>if x5=ab then aa ab else if(len x2.eI==0)=ab then aa ab else(Lk x2.eI a0).bind λx6=>if x6=ab then aa ab else(IT x2.eI).bind λx7=>aa !x7).bind λx8=>if x8=ab then aa (.inr (.inr ae))else aa (.inl (W (x1+1)))else aa (.inr (.inl ()))
def OE(a0:b_):Option (Bool):=(aG (OD a0) 0).bind λx9=>cQ (λbb=>aa ab) (aa) x9
def c78:az D:=⟨78,[bh,kQ,mW],[.lf .bool],Kc,[],z5,[],λh=>OE ⟨h.1,h.2.1,h.2.2⟩⟩
def azU:CK c78:=fo [ag7,XR,ajY,ajX] [.tmp 2] (qw (qw (.loop ⟨z8,zO,[],[],2832⟩ ae [(.exit 0,Cy)] (qn (qw (qm (qv (qw (qr ⟨[.lf .bool],[(22,qa),(23,qa),(24,qa),(25,qa),(26,qa),(27,qa),(30,qa),(31,qa),(32,qa),(33,qa),(36,qa),(37,qa),(38,qa),(39,qa),(42,qa),(43,qa),(44,qa),(45,qa),(46,aN)],[],[],4305⟩) .o)) .o) .o))) .o) .o) ⟨aAt,aj5,aCZ,aCY,q0⟩ func78
def vW(a0:b_):Option (Int):=(if ak (len a0.eI>40)=ab then aa ab else if ak (len a0.cw>60)=ab then aa ab else aa (ak (len a0.gb>6))).bind λx1=>if x1=ab then aa 2 else((OK a0.eI).bind λx2=>if(!x2)=ab then aa ab else(OC a0).bind λx3=>if(!x3)=ab then aa ab else(OE a0).bind λx4=>aa !x4).bind λx5=>if x5=ab then aa 63 else aa 0
def BX:az D:=⟨35,[bh,kQ,mW],z8,Kc,[],z5,[],λh=>vW ⟨h.1,h.2.1,h.2.2⟩⟩
def Jb:CK BX:=fo [c76,c77,c78] [.tmp 2] (qw (qm (qt 18 2320) .o) (qm (qm (qt 32 2385) .o) .o)) ⟨azW,azV,azU,q0⟩ func35
def KR(a0:Int):Option (List Part):=if ak (a0<0)=ab then none else(if ak (W (a0-W (0-0))>0)=ab then(dH ([]:List Unit) 0 0).bind λx1=>(Az (Part.mk 0 0) (W (a0-W (0-0)))).bind λx2=>(dH x2 0 0).bind aa else aa []).bind aa
def c86:az D:=⟨86,z8,gF,[.one (.bH),aN],[],iS,mu,λh=>KR h⟩
def azM:CK c86:=fo [] [.tmp 4] (qn (qw (qv (qp ⟨gF,[(0,.one (.own 3664))],[(3664,.sl 10 80 0 [])],[],3728⟩ .o .o)) .o)) trivial func86
def Lo(a0:List (List Part)):Int×Int->Option (Int×Int⊕Int):=λx1=>if ak (x1.2<len a0)=ab then(idx a0 x1.2).bind λx2=>if ak (W (x1.1+len x2)<0)=ab then none else aa (.inl (W (x1.1+len x2),W (x1.2+1)))else aa (.inr x1.1)
def Ln(a0:List (List Part)):Int×List Part->Option (Int×List Part⊕List Part):=λx5=>if ak (x5.1<len a0)=ab then(idx a0 x5.1).bind λx6=>(bD x5.2 x6).bind λx7=>aa (.inl (W (x5.1+1),x7))else aa (.inr x5.2)
def GM(a0:(List (List Part))):Option (List Part):=(aG (Lo a0) (0,0)).bind λx3=>(KR x3).bind λx4=>(aG (Ln a0) (0,x4)).bind aa
def Xm:az D:=⟨41,[.lf (.sl 27)],gF,pf,[],iS,mu,λh=>GM h⟩
def ag3:CK Xm:=fo [c86] [.tmp 2] (qn (qw (qw (.loop ⟨z9,[(3,aN),(11,dE)],[],[],2704⟩ ab [(.exit 0,⟨z8,[(3,aN)],[],[],2704⟩)] .o) .o) (qw (qw (.loop ⟨wq,[(6,.one (.own 3473)),(27,aN)],[(3473,.sl 10 80 1 [])],[2841],3537⟩ ab [(.exit 2,⟨gF,[(6,.one (.own 3473))],[(3473,.sl 10 80 0 [])],[2841],3537⟩)] .o) .o) .o))) ⟨azM,q0⟩ func41
def aky(a0:Int):Option (Int):=(if ak (a0>=4294967296)=ab then(wI 64 a0 32).bind λx1=>aa (x1,32)else aa (a0,0)).bind λx2=>(if ak (x2.1>=65536)=ab then(wI 64 x2.1 16).bind λx3=>aa (x3,W (x2.2+16))else aa x2).bind λx4=>(if ak (x4.1>=256)=ab then(wI 64 x4.1 8).bind λx5=>aa (x5,W (x4.2+8))else aa x4).bind λx6=>(LK (ed [0,1,2,2,3,3,3,3,4,4,4,4,4,4,4,4,5,5,5,5,5,5,5,5,5,5,5,5,5,5,5,5,6,6,6,6,6,6,6,6,6,6,6,6,6,6,6,6,6,6,6,6,6,6,6,6,6,6,6,6,6,6,6,6,7,7,7,7,7,7,7,7,7,7,7,7,7,7,7,7,7,7,7,7,7,7,7,7,7,7,7,7,7,7,7,7,7,7,7,7,7,7,7,7,7,7,7,7,7,7,7,7,7,7,7,7,7,7,7,7,7,7,7,7,7,7,7,7,8,8,8,8,8,8,8,8,8,8,8,8,8,8,8,8,8,8,8,8,8,8,8,8,8,8,8,8,8,8,8,8,8,8,8,8,8,8,8,8,8,8,8,8,8,8,8,8,8,8,8,8,8,8,8,8,8,8,8,8,8,8,8,8,8,8,8,8,8,8,8,8,8,8,8,8,8,8,8,8,8,8,8,8,8,8,8,8,8,8,8,8,8,8,8,8,8,8,8,8,8,8,8,8,8,8,8,8,8,8,8,8,8,8,8,8,8,8,8,8,8,8,8,8,8,8,8,8]) (rA IntKind.u8 x6.1)).bind λx7=>aa (W (x6.2+W x7))
def ajl:az D:=⟨178,[.lf (.int .u64)],z8,z5,[],z5,[],λh=>aky h⟩
def aCq:CK ajl:=fo [] [.tmp 2] (qw (qn (qp ⟨[.lf (.int .u64),qi],[(0,aN),(2,dE)],[],[],2448⟩ .o .o)) (qm (qn (qp ⟨[.lf (.int .u64),qi],[(0,aN),(2,dE)],[],[],2770⟩ .o .o)) (qm (qn (qp ⟨[.lf (.int .u64),qi],[(0,aN),(2,dE)],[],[],3092⟩ .o .o)) .o))) trivial func178
def PN(a0:Int):Option (Int):=(aky a0).bind aa
def akk:az D:=⟨105,[.lf (.int .u64)],z8,z5,[],z5,[],λh=>PN h⟩
def aDg:CK akk:=fo [ajl] [.tmp 2] .o ⟨aCq,q0⟩ func105
