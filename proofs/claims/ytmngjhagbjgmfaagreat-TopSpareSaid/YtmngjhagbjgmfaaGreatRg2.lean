import Derived.Test.YtmngjhagbjgmfaaGreatRg1
set_option maxRecDepth 100000
set_option linter.all false
open Bool renaming false->ai,true->ab
open Decidable renaming decide->ak
open Option renaming some->aa
open Sum renaming elim->dk
noncomputable section
namespace Go.Proofs.YtmngjhagbjgmfaaGreat
open Go Go.RowKit Dp
namespace Rx
open Tryz
def Kh:Int×Int×List bt->Option (Int×Int×List bt⊕Int×List bt):=λx2=>if ak (x2.2.1<len x2.2.2)=ab then(idx x2.2.2 x2.2.1).bind λx3=>(IV x3).bind λx4=>(if(!x4)=ab then(idx x2.2.2 x2.1).bind λx5=>(idx x2.2.2 x2.1).bind λx6=>(df x2.2.2 x2.1 x3).bind λx7=>aa (W (x2.1+1),x7)else aa (x2.1,x2.2.2)).bind λx8=>aa (.inl (x8.1,W (x2.2.1+1),x8.2))else aa (.inr (x2.1,x2.2.2))
def Ki(a0:List bt):Option (List bt):=(Q6 a0).bind λx1=>if(x1==(-1))=ab then aa a0 else(aI Kh (x1,W (x1+1),a0)).bind λx9=>(dI x9.2 x9.1 (len x9.2)).bind λbe=>(dI (rL (bt.mk [] [] []) x9.2 x9.1) 0 x9.1).bind aa
def aib:az D:=⟨176,r_,r_,[.one (.own 1000),.one (.fn 177 [])],[(1000,.sl 24 227 0 [0])],wh,[(1001,.sl 24 227 0 [0])],λh=>Ki h⟩
def aAR:CK aib:=fo [WI,aho] [.tmp 4] (qv (qw (qw (.loop ⟨[qi,qi,.lf (.sl 24)],[(5,aN),(6,dq)],[(1000,.sl 24 227 2 [0])],[1000],3344⟩ ab [(.exit 0,⟨B7,pT,[(1000,.sl 24 227 1 [0])],[1000],3344⟩)] (qw (qm (qv (qp ⟨B7,pT,[(1000,.sl 24 227 1 [0])],[1000],5203⟩ .o .o)) .o) .o)) .o) .o)) ⟨aia,aAc,q0⟩ func176
def IU(x2:List Int):Int×List bt->Option (Int×List bt⊕List bt):=λx4=>if ak (x4.1<len x2)=ab then(idx x2 x4.1).bind λx5=>(idx x4.2 x5).bind λx6=>(idx x4.2 x5).bind λx7=>(idx x4.2 x5).bind λx8=>(bF x8.aA [x4.1]).bind λx9=>(df x4.2 x5 (bt.mk x9 x8.aj x8.ay)).bind λbe=>(idx be x5).bind λbo=>(yJ x5 x5).bind λbJ=>aa (.inl (W (x4.1+1),be))else aa (.inr x4.2)
def IT(a0:au)(a1:aw)(x2:List Int):Int×List bt->Option (Int×List bt⊕List bt):=λcF=>if ak (cF.1<len a0.aj)=ab then(IQ a0 a1 cF.1).bind λcu=>(if cu.2=ab then(idx x2 cu.1).bind λcM=>(idx x2 cu.1).bind λdD=>(idx cF.2 dD).bind λda=>(idx cF.2 dD).bind λdN=>(idx cF.2 dD).bind λfe=>(bF fe.aj [cF.1]).bind λfZ=>(df cF.2 dD (bt.mk fe.aA fZ fe.ay)).bind λiS=>(idx iS cM).bind λkI=>(yJ cM dD).bind λfL=>aa iS else aa cF.2).bind λmj=>aa (.inl (W (cF.1+1),mj))else aa (.inr cF.2)
def IS(a0:au)(a1:aw)(x2:List Int):Int×List bt->Option (Int×List bt⊕List bt):=λib=>if ak (ib.1<len a0.ay)=ab then(IP a0 a1 ib.1).bind λiR=>(if iR.2=ab then(idx x2 iR.1).bind λnv=>(idx x2 iR.1).bind λnu=>(idx ib.2 nu).bind λpV=>(idx ib.2 nu).bind λtC=>(idx ib.2 nu).bind λwo=>(bF wo.ay [ib.1]).bind λsf=>(df ib.2 nu (bt.mk wo.aA wo.aj sf)).bind λtB=>(idx tB nv).bind λsd=>(yJ nv nu).bind λQj=>aa tB else aa ib.2).bind λzx=>aa (.inl (W (ib.1+1),zx))else aa (.inr ib.2)
def y5(a0:au)(a1:aw):Option (List bt):=(pI a0 a1).bind λx1=>if(x1 !=0)=ab then aa []else(ON a0 a1).bind λx2=>(mu (bt.mk [] [] []) a0.aA).bind λx3=>(aI (IU x2) (0,x3)).bind λcp=>(aI (IT a0 a1 x2) (0,cp)).bind λj9=>(aI (IS a0 a1 x2) (0,j9)).bind λFK=>(Ki FK).bind aa
def OK:az D:=⟨109,tu,r_,uL,[],jk,[(1000,.sl 24 227 0 [1])],λh=>let g:=h.2.2.2.2.2.2;y5 (qb h) ⟨g.1,g.2.1,g.2.2.1,g.2.2.2⟩⟩
def WW:CK OK:=fo [rN,aie,WK,WJ,aib] [.tmp 4] (qv (qn (qw (qw (.loop ⟨B7,[(27,aN)],[(3664,.cX 24 227 3 0 1)],[3664],4368⟩ ab [(.exit 0,⟨r_,[],[(3664,.cX 24 227 3 0 0)],[3664],4368⟩)] .o) .o) (qm (qw (.loop ⟨B7,[(48,aN)],[(3664,.cX 24 227 3 0 1)],[3664],4945⟩ ab [(.exit 2,⟨r_,[],[(3664,.cX 24 227 3 0 0)],[3664],4945⟩)] (qn (qw (qm (qv (qn (qp ⟨r_,[],[(3664,.cX 24 227 3 0 0)],[3664],6675⟩ .o .o))) .o) .o))) .o) (qm (qw (.loop ⟨B7,[(81,aN)],[(3664,.cX 24 227 3 0 1)],[3664],5522⟩ ab [(.exit 4,⟨r_,[],[(3664,.cX 24 227 3 0 0)],[3664],5522⟩)] (qn (qw (qm (qv (qn (qp ⟨r_,[],[(3664,.cX 24 227 3 0 0)],[3664],7252⟩ .o .o))) .o) .o))) .o) (qm (.r none (.xC 1 [3664] .nil)) .o)))))) ⟨sX,aAS,aid,aic,aAR,q0⟩ func109
def FQ(a1:List Int)(a2:bn):Int×List bn->Option (Int×List bn⊕List bn):=λx1=>if ak (x1.1<len a1)=ab then(idx a1 x1.1).bind λx2=>(idx x1.2 x2).bind λx3=>(idx x1.2 x2).bind λx4=>(df x1.2 x2 (bn.mk x4.State x4.gG a2.aY x4.bh)).bind λx5=>(idx x5 x2).bind λx6=>(idx x5 x2).bind λx7=>(df x5 x2 (bn.mk x7.State x7.gG x7.aY a2.bh)).bind λx8=>aa (.inl (W (x1.1+1),x8))else aa (.inr x1.2)
def FR(a0:aw)(a1:List Int)(a2:bn):Option (List bn):=(aI (FQ a1 a2) (0,a0.aj)).bind aa
def WU:az D:=⟨110,[ck,cH,aL,bx,aL,qi,qi,qi,qi],ns,[.agg [bZ,.own 1000,bK,bW],.one (ed),.agg [bP,eE,gM,tM]],[(1000,.sl 9 140 1 [])],[],[(1000,.sl 9 140 0 [])],λh=>FR ⟨h.1,h.2.1,h.2.2.1,h.2.2.2.1⟩ h.2.2.2.2.1 ⟨h.2.2.2.2.2.1,h.2.2.2.2.2.2.1,h.2.2.2.2.2.2.2.1,h.2.2.2.2.2.2.2.2⟩⟩
def ai_:CK WU:=fo [] [] (qn (qw (.loop ⟨zl,[(10,aN)],[(1000,.sl 9 140 1 [])],[1000],2704⟩ ab [(.exit 0,⟨ns,[],[(1000,.sl 9 140 0 [])],[1000],2704⟩)] .o) .o)) trivial func110
def JS(a1:aw)(x2:oe)(x3:List bt):Int×List bn->Option (Int×List bn⊕List bn):=λx4=>if ak (x4.1<len x3)=ab then(idx x3 x4.1).bind λx5=>(if ak (len x5.aj>0)=ab then(idx x5.aj 0).bind λx6=>(idx a1.aj x6).bind λx7=>(FR (aw.mk x2.1 x4.2 x2.2.2.1 x2.2.2.2) x5.aj x7).bind aa else aa x4.2).bind λx9=>aa (.inl (W (x4.1+1),x9))else aa (.inr x4.2)
def zB(a0:au)(a1:aw):Option (Int×oe):=(pI a0 a1).bind λx1=>if(x1 !=0)=ab then aa (x1,[],[],[],[])else(ra a1).bind λx2=>(y5 a0 a1).bind λx3=>(aI (JS a1 x2 x3) (0,x2.2.1)).bind λbe=>aa (0,x2.1,be,x2.2.2)
def Oh:az D:=⟨60,tu,zq,uL,[],zp,zt,λh=>let g:=h.2.2.2.2.2.2;zB (qb h) ⟨g.1,g.2.1,g.2.2.1,g.2.2.2⟩⟩
def Wf:CK Oh:=fo [rN,vO,OK,WU] [.cell 4 65,.tmp 5] (qv (qw (qw (.loop ⟨zl,[(23,aN)],[(3417,.sl 9 140 1 [])],[3417],4496⟩ ab [(.exit 0,⟨ns,[],[(3417,.sl 9 140 0 [])],[3417],4496⟩)] Yh) .o) .o)) ⟨sX,xk,WW,ai_,q0⟩ func60
def CL(a0:List Bool)(a1:List Bool):Int->Option (Int⊕Unit⊕Bool):=λx1=>if ak (x1<len a0)=ab then(idx a0 x1).bind λx2=>(idx a1 x1).bind λx3=>if(!x2==x3)=ab then aa (.inr (.inr ai))else aa (.inl (W (x1+1)))else aa (.inr (.inl ()))
def J'(a0:List Bool)(a1:List Bool):Option (Bool):=if(len a0 !=len a1)=ab then aa ai else(aI (CL a0 a1) 0).bind λx4=>dk (λx5=>aa ab) (aa) x4
def ai9:az D:=⟨111,[ck,ck],[.lf .bool],B8,[],z5,[],λh=>J' h.1 h.2⟩
def aBL:CK ai9:=fo [] [.tmp 4] Ju trivial func111
def CM(a0:List bn)(a1:List bn):Int->Option (Int⊕Unit⊕Bool):=λx1=>if ak (x1<len a0)=ab then(idx a0 x1).bind λx2=>(idx a1 x1).bind λx3=>if(!(x2.State==x3.State&&(x2.gG==x3.gG&&(x2.aY==x3.aY&&x2.bh==x3.bh))))=ab then aa (.inr (.inr ai))else aa (.inl (W (x1+1)))else aa (.inr (.inl ()))
def Kc(a0:List bn)(a1:List bn):Option (Bool):=if(len a0 !=len a1)=ab then aa ai else(aI (CM a0 a1) 0).bind λx4=>dk (λx5=>aa ab) (aa) x4
def ai8:az D:=⟨112,[cH,cH],[.lf .bool],B8,[],z5,[],λh=>Kc h.1 h.2⟩
def aBK:CK ai8:=fo [] [.tmp 4] Ju trivial func112
def CJ(a0:List Int)(a1:List Int):Int->Option (Int⊕Unit⊕Bool):=λx1=>if ak (x1<len a0)=ab then(idx a0 x1).bind λx2=>(idx a1 x1).bind λx3=>if(x2 !=x3)=ab then aa (.inr (.inr ai))else aa (.inl (W (x1+1)))else aa (.inr (.inl ()))
def J_(a0:List Int)(a1:List Int):Option (Bool):=if(len a0 !=len a1)=ab then aa ai else(aI (CJ a0 a1) 0).bind λx4=>dk (λx5=>aa ab) (aa) x4
def ai7:az D:=⟨113,[aL,aL],[.lf .bool],B8,[],z5,[],λh=>J_ h.1 h.2⟩
def aBJ:CK ai7:=fo [] [.tmp 4] Ju trivial func113
def CN(a0:List Part)(a1:List Part):Int->Option (Int⊕Unit⊕Bool):=λx1=>if ak (x1<len a0)=ab then(idx a0 x1).bind λx2=>(idx a1 x1).bind λx3=>if(!(x2.Kind==x3.Kind&&x2.Number==x3.Number))=ab then aa (.inr (.inr ai))else aa (.inl (W (x1+1)))else aa (.inr (.inl ()))
def Kd(a0:List Part)(a1:List Part):Option (Bool):=if(len a0 !=len a1)=ab then aa ai else(aI (CN a0 a1) 0).bind λx4=>dk (λx5=>aa ab) (aa) x4
def ai6:az D:=⟨114,[bx,bx],[.lf .bool],B8,[],z5,[],λh=>Kd h.1 h.2⟩
def aBI:CK ai6:=fo [] [.tmp 4] Ju trivial func114
def FU(a0:aw)(a1:aw):Option (Bool):=((J' a0.aF a1.aF).bind λx1=>if x1=ab then(Kc a0.aj a1.aj).bind λx2=>if x2=ab then(J_ a0.aW a1.aW).bind λx3=>if x3=ab then(Kd a0.aR a1.aR).bind aa else aa ai else aa ai else aa ai).bind aa
def We:az D:=⟨62,[ck,cH,aL,bx,ck,cH,aL,bx],[.lf .bool],[.agg [bZ,bT,bK,bW],.agg [ed,kM,jA,j_]],[],z5,[],λh=>FU ⟨h.1,h.2.1,h.2.2.1,h.2.2.2.1⟩ ⟨h.2.2.2.2.1,h.2.2.2.2.2.1,h.2.2.2.2.2.2.1,h.2.2.2.2.2.2.2⟩⟩
def afN:CK We:=fo [ai9,ai8,ai7,ai6] [.tmp 4] (qw (qt 4 2448) .o) ⟨aBL,aBK,aBJ,aBI,q0⟩ func62
def Lt(a0:Int)(a1:Int)(a2:List Bool)(a3:List bn)(a4:List Int)(a5:List Part)(a6:List eM)(a7:List Event):Option (Bool×q8):=(if ak (a0>=(-1))=ab then aa (ak (a0<=a1))else aa ai).bind λx1=>aa (x1,a1,a2,a3,a4,a5,a6,a7)
def c61:az D:=⟨61,P6,FF,[aN,.one (.ptr 1000 0)],[(1000,.box [bl,bK,bW,ed,kM,jA,j_])],z5,[(1000,.box [bl,bK,bW,ed,kM,jA,j_])],λh=>Lt h.1 h.2.1 h.2.2.1 h.2.2.2.1 h.2.2.2.2.1 h.2.2.2.2.2.1 h.2.2.2.2.2.2.1 h.2.2.2.2.2.2.2⟩
def ayJ:CK c61:=fo [] [.tmp 3] (qw (qt 3 2192) .o) trivial func61
def Ls(a0:eM)(a1:Int)(a2:List Bool)(a3:List bn)(a4:List Int)(a5:List Part)(a6:List eM)(a7:List Event):Option (Bool×q8):=((Lt a0.iP a1 a2 a3 a4 a5 a6 a7).bind λx1=>if(!x1.1)=ab then aa (ab,x1.2)else(Lt a0.ju x1.2.1 x1.2.2.1 x1.2.2.2.1 x1.2.2.2.2.1 x1.2.2.2.2.2.1 x1.2.2.2.2.2.2.1 x1.2.2.2.2.2.2.2).bind λx2=>aa (!x2.1,x2.2)).bind aa
def c64:az D:=⟨64,[qi,qi,qi,ck,cH,aL,bx,fE,f_],FF,[.agg [bD,bl],.one (.ptr 1000 0)],[(1000,.box [.fn 61 [.ptr 1001 0]]),(1001,.box [cf,bW,ed,kM,jA,j_,mR])],z5,Cb,λh=>Ls ⟨h.1,h.2.1⟩ h.2.2.1 h.2.2.2.1 h.2.2.2.2.1 h.2.2.2.2.2.1 h.2.2.2.2.2.2.1 h.2.2.2.2.2.2.2.1 h.2.2.2.2.2.2.2.2⟩
def ayH:CK c64:=fo [c61] [.tmp 3] (qw (qr ⟨FF,[(3,aN)],[(1001,.box [bl,bK,bW,ed,kM,jA,j_])],[1001],2320⟩) .o) ⟨ayJ,q0⟩ func64
def F8(a0:List eM):Int×q8->Option (Int×q8⊕q8⊕Int×q8):=λx1=>if ak (x1.1<len a0)=ab then(idx a0 x1.1).bind λx2=>(Ls x2 x1.2.1 x1.2.2.1 x1.2.2.2.1 x1.2.2.2.2.1 x1.2.2.2.2.2.1 x1.2.2.2.2.2.2.1 x1.2.2.2.2.2.2.2).bind λx3=>if x3.1=ab then aa (.inr (.inr (x1.1,x3.2)))else aa (.inl (W (x1.1+1),x3.2))else aa (.inr (.inl x1.2))
def Q3(a0:List eM)(a1:Int)(a2:List Bool)(a3:List bn)(a4:List Int)(a5:List Part)(a6:List eM)(a7:List Event):Option (Int×q8):=(aI (F8 a0) (0,a1,a2,a3,a4,a5,a6,a7)).bind λx4=>dk (λx5=>aa ((-1),x5)) (aa) x4
def ai5:az D:=⟨115,YH,P6,[.one (bZ),.one (.fn 64 [.ptr 1000 0])],Cb,z5,Cb,λh=>Q3 h.1 h.2.1 h.2.2.1 h.2.2.2.1 h.2.2.2.2.1 h.2.2.2.2.2.1 h.2.2.2.2.2.2.1 h.2.2.2.2.2.2.2⟩
def aBH:CK ai5:=fo [c64] [.tmp 4] (qw (qw (.loop ⟨P6,wc,Cb,[1000,1001],2576⟩ ai [(.exit 0,⟨P3,[],[(1000,.box [.fn 61 [.ptr 1001 0]]),(1001,.box [bD,bT,bK,bW,ed,kM,jA])],[1000,1001],2576⟩)] .o) .o) .o) ⟨ayH,q0⟩ func115
def Ko(a0:List eM)(a1:Int)(a2:List Bool)(a3:List bn)(a4:List Int)(a5:List Part)(a6:List eM)(a7:List Event):Option (Bool×q8):=(Q3 a0 a1 a2 a3 a4 a5 a6 a7).bind λx1=>aa (ak (x1.1>=0),x1.2)
def c63:az D:=⟨63,YH,FF,[.one (bZ),.one (.fn 64 [.ptr 1000 0])],Cb,z5,Cb,λh=>Ko h.1 h.2.1 h.2.2.1 h.2.2.2.1 h.2.2.2.2.1 h.2.2.2.2.2.1 h.2.2.2.2.2.2.1 h.2.2.2.2.2.2.2⟩
def ayI:CK c63:=fo [ai5] [.tmp 4] .o ⟨aBH,q0⟩ func63
def Lu(a0:au)(a1:g9)(a2:cN):Option (Int):=(zB a0 a2.aw).bind λx1=>if(x1.1 !=0)=ab then aa x1.1 else((KU a1).bind λx2=>if(!x2)=ab then aa ab else if ak (a2.Time<0)=ab then aa ab else aa (ak (a2.Time>2147483648))).bind λx3=>if x3=ab then aa 1 else if(len a2.pL !=a0.aA)=ab then aa 8 else((FU a2.aw (aw.mk x1.2.1 x1.2.2.1 x1.2.2.2.1 x1.2.2.2.2)).bind λx4=>if(!x4)=ab then aa (ab,a2.Time,a2.aw.aF,a2.aw.aj,a2.aw.aW,a2.aw.aR,a2.pL,a2.rT)else(Ko a2.pL a2.Time a2.aw.aF a2.aw.aj a2.aw.aW a2.aw.aR a2.pL a2.rT).bind aa).bind λx6=>if x6.1=ab then aa 11 else aa 0
def c24:az D:=⟨24,[qi,cV,dJ,dn,qi,qi,qi,qi,qi,qi,ck,cH,aL,bx,fE,f_],z8,[.agg [bD,bT,bK,bW,cB,bP],.agg [eE,gM,tM],.agg [p7,zQ,.h 11 [0],.h 12 [0],.h 13 [0],.h 14 [0],.h 15 [0]]],[],z5,[],λh=>let g:=h.2.2.2.2.2.2;let k:=g.2.2.2.2.2.2;Lu (qb h) ⟨g.1,g.2.1,g.2.2.1⟩ ⟨g.2.2.2.1,⟨g.2.2.2.2.1,g.2.2.2.2.2.1,k.1,k.2.1⟩,k.2.2.1,k.2.2.2⟩⟩
def azV:CK c24:=fo [Iz,Oh,We,c63] [.tmp 6] (qv (qw (qm (qn (qw (qt 22 4624) (qv (qw (qr ⟨FF,[(43,aN)],[(2256,.box [bl,bK,bW,ed,kM,jA,j_]),(3920,.box [.fn 61 [.ptr 2256 0]])],[2256,3920],5585⟩) .o)))) .o) .o)) ⟨af5,Wf,afN,ayI,q0⟩ func24
def VA(a0:Part):Option (Bool):=(if ak (a0.Kind>=1)=ab then if ak (a0.Kind<=9)=ab then if ak (a0.Number>=0)=ab then aa (ak (a0.Number<=63))else aa ai else aa ai else aa ai).bind aa
def ai1:az D:=⟨118,z9,[.lf .bool],wg,[],z5,[],λh=>VA ⟨h.1,h.2⟩⟩
def aBD:CK ai1:=fo [] [.tmp 2] B9 trivial func118
def NN(a0:Part):Option (Bool):=(VA a0).bind λx1=>aa !x1
def ai2:az D:=⟨117,z9,[.lf .bool],wg,[],z5,[],λh=>NN ⟨h.1,h.2⟩⟩
def aBE:CK ai2:=fo [ai1] [.tmp 2] .o ⟨aBD,q0⟩ func117
def J6(a0:List Part):Int->Option (Int⊕Unit⊕Int):=λx1=>if ak (x1<len a0)=ab then(idx a0 x1).bind λx2=>(NN x2).bind λx3=>if x3=ab then aa (.inr (.inr x1))else aa (.inl (W (x1+1)))else aa (.inr (.inl ()))
def Q5(a0:List Part):Option (Int):=(aI (J6 a0) 0).bind λx4=>dk (λx5=>aa (-1)) (aa) x4
def ah':az D:=⟨178,ia,z8,[.one (bZ),.one (.fn 117 [])],[],z5,[],λh=>Q5 h⟩
def aAP:CK ah':=fo [ai2] [.tmp 4] z3 ⟨aBE,q0⟩ func178
def Rc(a0:List Part):Option (Bool):=(Q5 a0).bind λx1=>aa (ak (x1>=0))
def ai4:az D:=⟨116,ia,[.lf .bool],[.one (bZ),.one (.fn 117 [])],[],z5,[],λh=>Rc h⟩
def aBF:CK ai4:=fo [ah'] [.tmp 4] .o ⟨aAP,q0⟩ func116
def Bu(a0:Part)(a1:Part):Option (Int):=(vN a0.Kind a1.Kind).bind λx1=>(vN a0.Number a1.Number).bind λx2=>(Ew [x1,x2]).bind aa
def Oe:az D:=⟨71,o7,z8,Js,[],z5,[],λh=>Bu ⟨h.1,h.2.1⟩ ⟨h.2.2.1,h.2.2.2⟩⟩
def Wc:CK Oe:=fo [OH,OF] [.tmp 4] .o ⟨WS,WO,q0⟩ func71
def NL(a0:List Part):Int->Option (Int⊕Unit⊕Bool):=λx1=>if ak (x1<len a0)=ab then(idx a0 (W (x1-1))).bind λx2=>(idx a0 x1).bind λx3=>(Bu x2 x3).bind λx4=>if ak (x4>=0)=ab then aa (.inr (.inr ai))else aa (.inl (W (x1+1)))else aa (.inr (.inl ()))
def If(a0:List Part):Option (Bool):=(aI (NL a0) 1).bind λx5=>dk (λx6=>aa ab) (aa) x5
def WT:az D:=⟨119,ia,[.lf .bool],[.one (bZ),.one (.fn 71 [])],[],z5,[],λh=>If h⟩
def ai0:CK WT:=fo [Oe] [.tmp 4] YT ⟨Wc,q0⟩ func119
def NO(a0:List Part):Option (Bool):=((Rc a0).bind λx1=>if(!x1)=ab then(If a0).bind aa else aa ai).bind aa
def c65:az D:=⟨65,ia,[.lf .bool],oY,[],z5,[],λh=>NO h⟩
def ayG:CK c65:=fo [ai4,WT] [.tmp 2] (qw (qt 2 2192) .o) ⟨aBF,ai0,q0⟩ func65
def wx(a0:List Part)(a1:Part):Int->Option (Int⊕Unit⊕Int):=λx1=>if ak (x1<len a0)=ab then(idx a0 x1).bind λx2=>if(a1.Kind==x2.Kind&&a1.Number==x2.Number)=ab then aa (.inr (.inr x1))else aa (.inl (W (x1+1)))else aa (.inr (.inl ()))
def J3(a0:List Part)(a1:Part):Option (Int):=(aI (wx a0 a1) 0).bind λx3=>dk (λx4=>aa (-1)) (aa) x3
def aiQ:az D:=⟨131,zn,z8,[.one (bZ),.agg [bl,cf]],[],z5,[],λh=>J3 h.1 ⟨h.2.1,h.2.2⟩⟩
def aBs:CK aiQ:=fo [] [.tmp 4] Yf trivial func131
def F_(a0:List Part)(a1:Part):Option (Bool):=(J3 a0 a1).bind λx1=>aa (ak (x1>=0))
def Wb:az D:=⟨73,zn,[.lf .bool],[.one (bZ),.agg [bl,cf]],[],z5,[],λh=>F_ h.1 ⟨h.2.1,h.2.2⟩⟩
def afE:CK Wb:=fo [aiQ] [.tmp 4] .o ⟨aBs,q0⟩ func73
def yN(a0:List Part)(a1:Part):Option (Bool):=(F_ a0 a1).bind aa
def EH:az D:=⟨28,zn,[.lf .bool],[.one (bZ),.agg [bl,cf]],[],z5,[],λh=>yN h.1 ⟨h.2.1,h.2.2⟩⟩
def Oq:CK EH:=fo [Wb] [.tmp 4] .o ⟨afE,q0⟩ func28
def NG(a0:jK)(a1:jK):Option (Int):=(Bu a0.fA a1.fA).bind λx1=>(Bu a0.To a1.To).bind λx2=>(Ew [x1,x2]).bind aa
def aiY:az D:=⟨121,[qi,qi,qi,qi,qi,qi,qi,qi],z8,[.agg [bD,bl,cf,dy],.agg [cB,bP,eE,gM]],[],z5,[],λh=>NG ⟨⟨h.1,h.2.1⟩,⟨h.2.2.1,h.2.2.2.1⟩⟩ ⟨⟨h.2.2.2.2.1,h.2.2.2.2.2.1⟩,⟨h.2.2.2.2.2.2.1,h.2.2.2.2.2.2.2⟩⟩⟩
def aBA:CK aiY:=fo [Oe,OH] [.tmp 4] .o ⟨Wc,WS,q0⟩ func121
def NM(a0:List jK):Int->Option (Int⊕Unit⊕Bool):=λx1=>if ak (x1<len a0)=ab then(idx a0 (W (x1-1))).bind λx2=>(idx a0 x1).bind λx3=>(NG x2 x3).bind λx4=>if ak (x4>=0)=ab then aa (.inr (.inr ai))else aa (.inl (W (x1+1)))else aa (.inr (.inl ()))
def Vz(a0:List jK):Option (Bool):=(aI (NM a0) 1).bind λx5=>dk (λx6=>aa ab) (aa) x5
def aiZ:az D:=⟨120,[ol],[.lf .bool],[.one (bZ),.one (.fn 121 [])],[],z5,[],λh=>Vz h⟩
def aBB:CK aiZ:=fo [aiY] [.tmp 4] YT ⟨aBA,q0⟩ func120
def NF(a0:dw):Int->Option (Int⊕Unit⊕Bool):=λx1=>if ak (x1<len a0.h_)=ab then(idx a0.h_ x1).bind λx2=>((yN a0.fh x2.fA).bind λx3=>if(!x3)=ab then aa ab else(yN a0.fh x2.To).bind λx4=>if(!x4)=ab then aa ab else aa (x2.fA.Kind==x2.To.Kind&&x2.fA.Number==x2.To.Number)).bind λx5=>if x5=ab then aa (.inr (.inr ai))else aa (.inl (W (x1+1)))else aa (.inr (.inl ()))
def NH(a0:dw):Option (Bool):=(aI (NF a0) 0).bind λx6=>dk (λx7=>(Vz a0.h_).bind aa) (aa) x6
def c66:az D:=⟨66,[bx,ol,pZ],[.lf .bool],Jx,[],z5,[],λh=>NH ⟨h.1,h.2.1,h.2.2⟩⟩
def ayF:CK c66:=fo [EH,aiZ] [.tmp 2] (qw (qw (.loop ⟨z8,wc,[],[],2832⟩ ai [(.exit 0,Cd)] (qn (qw (qm (qw (qr ⟨[.lf .bool],[(19,qa),(20,qa),(21,qa),(22,qa),(23,qa),(24,qa),(27,qa),(28,qa),(29,qa),(30,qa),(31,qa),(32,aN)],[],[],3537⟩) .o) .o) .o))) .o) .o) ⟨Oq,aBB,q0⟩ func66
def axI(x3:List U8):Int->Option (Int⊕Unit⊕Bool):=λx4=>if ak (x4<len x3)=ab then(idx x3 x4).bind λx5=>(if ak (x5.n>=97)=ab then aa (ak (x5.n<=122))else aa ai).bind λx6=>(if(!x6)=ab then if(x4==0)=ab then aa ab else if(x5.n !=45)=ab then if ak (x5.n<48)=ab then aa ab else aa (ak (x5.n>57))else aa ai else aa ai).bind λx7=>if x7=ab then aa (.inr (.inr ai))else aa (.inl (W (x4+1)))else aa (.inr (.inl ()))
def Es(a0:ByteArray):Option (Bool):=(if ak (rc a0<1)=ab then aa ab else aa (ak (rc a0>12))).bind λx1=>if x1=ab then aa ai else(KO (λx2=>U8.mk x2) a0).bind λx3=>(aI (axI x3) 0).bind λx8=>dk (λx9=>aa ab) (aa) x8
def aiV:az D:=⟨125,[.lf .str],[.lf .bool],z5,[],z5,[],λh=>Es h⟩
def aBx:CK aiV:=fo [] [.tmp 2] (qw (qm (qt 13 2192) .o) (qm (qw (.loop ⟨z8,[(17,aN)],[],[],2769⟩ ai [(.exit 0,⟨[],[],[],[],2769⟩)] (qn (qw (qm (qw (qr ⟨[.lf .bool],[(5,aN),(25,qa),(26,qa)],[],[],3602⟩) (qm (qr ⟨[.lf .bool],[(31,qa),(32,qa),(33,qa),(34,qa),(35,qa),(36,qa),(37,qa),(38,qa),(39,qa),(40,qa),(41,qa),(42,qa),(43,qa),(44,qa),(45,aN)],[],[],3667⟩) .o)) .o) .o))) .o) .o)) trivial func125
def Vy(a0:jh)(a1:jh):Option (Bool):=aa (a0.Name==a1.Name)
def aiX:az D:=⟨123,[.lf .str,bx,.el 20],[.lf .bool],[.agg [bD,bT],.one (.rp 2 20 [0])],[],z5,[],λh=>Vy ⟨h.1,h.2.1⟩ h.2.2⟩
def aBz:CK aiX:=fo [] [.tmp 3] .o trivial func123
def J7(a0:List jh)(a1:jh):Int->Option (Int⊕Unit⊕Int):=λx1=>if ak (x1<len a0)=ab then(idx a0 x1).bind λx2=>(Vy x2 a1).bind λx3=>if x3=ab then aa (.inr (.inr x1))else aa (.inl (W (x1+1)))else aa (.inr (.inl ()))
def Q7(a0:List jh)(a1:jh):Option (Int):=(aI (J7 a0 a1) 0).bind λx4=>dk (λx5=>aa (-1)) (aa) x4
def ah9:az D:=⟨179,[pZ,.el 20],z8,[.one (bZ),.one (.fn 123 [.rp 1 20 [0]])],[],z5,[],λh=>Q7 h.1 h.2⟩
def aAO:CK ah9:=fo [aiX] [.tmp 4] z3 ⟨aBz,q0⟩ func179
def Kr(a0:List jh)(a1:jh):Option (Bool):=(Q7 a0 a1).bind λx1=>aa (ak (x1>=0))
def aiU:az D:=⟨126,[pZ,.el 20],[.lf .bool],[.one (bZ),.one (.fn 123 [.rp 1 20 [0]])],[],z5,[],λh=>Kr h.1 h.2⟩
def aBw:CK aiU:=fo [ah9] [.tmp 4] .o ⟨aAO,q0⟩ func126
def Vx(a0:Part)(a1:dw):Option (Bool):=(yN a1.fh a0).bind λx1=>aa !x1
def aiW:az D:=⟨124,[qi,qi,.el 25],[.lf .bool],[.agg [bD,bl],.one (.rp 2 25 [0])],[],z5,[],λh=>Vx ⟨h.1,h.2.1⟩ h.2.2⟩
def aBy:CK aiW:=fo [EH] [.tmp 3] .o ⟨Oq,q0⟩ func124
def J5(a0:List Part)(a1:dw):Int->Option (Int⊕Unit⊕Int):=λx1=>if ak (x1<len a0)=ab then(idx a0 x1).bind λx2=>(Vx x2 a1).bind λx3=>if x3=ab then aa (.inr (.inr x1))else aa (.inl (W (x1+1)))else aa (.inr (.inl ()))
def Q4(a0:List Part)(a1:dw):Option (Int):=(aI (J5 a0 a1) 0).bind λx4=>dk (λx5=>aa (-1)) (aa) x4
def ah_:az D:=⟨178,[bx,.el 25],z8,[.one (bZ),.one (.fn 124 [.rp 1 25 [0]])],[],z5,[],λh=>Q4 h.1 h.2⟩
def aAQ:CK ah_:=fo [aiW] [.tmp 4] z3 ⟨aBy,q0⟩ func178
def Kq(a0:List Part)(a1:dw):Option (Bool):=(Q4 a0 a1).bind λx1=>aa (ak (x1>=0))
def ai3:az D:=⟨116,[bx,.el 25],[.lf .bool],[.one (bZ),.one (.fn 124 [.rp 1 25 [0]])],[],z5,[],λh=>Kq h.1 h.2⟩
def aBG:CK ai3:=fo [ah_] [.tmp 4] .o ⟨aAQ,q0⟩ func116
def NI(a0:dw):Int->Option (Int⊕Unit⊕Bool):=λx1=>if ak (x1<len a0.ii)=ab then(idx a0.ii x1).bind λx2=>((Es x2.Name).bind λx3=>if(!x3)=ab then aa ab else(dI a0.ii 0 x1).bind λx4=>(Kr x4 x2).bind λx5=>if x5=ab then aa ab else if(len x2.fh==0)=ab then aa ab else(Kq x2.fh a0).bind λx6=>if x6=ab then aa ab else(If x2.fh).bind λx7=>aa !x7).bind λx8=>if x8=ab then aa (.inr (.inr ai))else aa (.inl (W (x1+1)))else aa (.inr (.inl ()))
def NJ(a0:dw):Option (Bool):=(aI (NI a0) 0).bind λx9=>dk (λbe=>aa ab) (aa) x9
def c67:az D:=⟨67,[bx,ol,pZ],[.lf .bool],Jx,[],z5,[],λh=>NJ ⟨h.1,h.2.1,h.2.2⟩⟩
def ayE:CK c67:=fo [ai3,WT,aiV,aiU] [.tmp 2] (qw (qw (.loop ⟨z8,[(10,aN)],[],[],2832⟩ ai [(.exit 0,Cd)] (qn (qw (qm (qv (qw (qr ⟨[.lf .bool],[(22,qa),(23,qa),(24,qa),(25,qa),(26,qa),(27,qa),(30,qa),(31,qa),(32,qa),(33,qa),(36,qa),(37,qa),(38,qa),(39,qa),(42,qa),(43,qa),(44,qa),(45,qa),(46,aN)],[],[],4305⟩) .o)) .o) .o))) .o) .o) ⟨aBG,ai0,aBx,aBw,q0⟩ func67
def Et(a0:dw):Option (Int):=(if ak (len a0.fh>40)=ab then aa ab else if ak (len a0.h_>60)=ab then aa ab else aa (ak (len a0.ii>6))).bind λx1=>if x1=ab then aa 2 else((NO a0.fh).bind λx2=>if(!x2)=ab then aa ab else(NH a0).bind λx3=>if(!x3)=ab then aa ab else(NJ a0).bind λx4=>aa !x4).bind λx5=>if x5=ab then aa 63 else aa 0
def Ox:az D:=⟨25,[bx,ol,pZ],z8,Jx,[],z5,[],λh=>Et ⟨h.1,h.2.1,h.2.2⟩⟩
def agT:CK Ox:=fo [c65,c66,c67] [.tmp 2] (qw (qm (qt 18 2320) .o) (qm (qm (qt 32 2385) .o) .o)) ⟨ayG,ayF,ayE,q0⟩ func25
def J9(a0:Int):Option (List Part):=if ak (a0<0)=ab then none else(if ak (W (a0-W (0-0))>0)=ab then(dI ([]:List Unit) 0 0).bind λx1=>(Ad (Part.mk 0 0) (W (a0-W (0-0)))).bind λx2=>(dI x2 0 0).bind aa else aa []).bind aa
def c72:az D:=⟨72,z8,ia,[.one (.bE),aN],[],jk,mJ,λh=>J9 h⟩
def ayC:CK c72:=fo [] [.tmp 4] (qn (qw (qv (qp ⟨ia,[(0,.one (.own 3664))],[(3664,.sl 10 79 0 [])],[],3728⟩ .o .o)) .o)) trivial func72
def Ku(a0:List (List Part)):Int×Int->Option (Int×Int⊕Int):=λx1=>if ak (x1.2<len a0)=ab then(idx a0 x1.2).bind λx2=>if ak (W (x1.1+len x2)<0)=ab then none else aa (.inl (W (x1.1+len x2),W (x1.2+1)))else aa (.inr x1.1)
def Kt(a0:List (List Part)):Int×List Part->Option (Int×List Part⊕List Part):=λx5=>if ak (x5.1<len a0)=ab then(idx a0 x5.1).bind λx6=>(bF x5.2 x6).bind λx7=>aa (.inl (W (x5.1+1),x7))else aa (.inr x5.2)
def F'(a0:(List (List Part))):Option (List Part):=(aI (Ku a0) (0,0)).bind λx3=>(J9 x3).bind λx4=>(aI (Kt a0) (0,x4)).bind aa
def Ws:az D:=⟨27,[.lf (.sl 27)],ia,oY,[],jk,mJ,λh=>F' h⟩
def agy:CK Ws:=fo [c72] [.tmp 2] (qn (qw (qw (.loop ⟨z9,[(3,aN),(11,dq)],[],[],2704⟩ ab [(.exit 0,⟨z8,[(3,aN)],[],[],2704⟩)] .o) .o) (qw (qw (.loop ⟨xx,[(6,.one (.own 3473)),(27,aN)],[(3473,.sl 10 79 1 [])],[2841],3537⟩ ab [(.exit 2,⟨ia,[(6,.one (.own 3473))],[(3473,.sl 10 79 0 [])],[2841],3537⟩)] .o) .o) .o))) ⟨ayC,q0⟩ func27
def ajo(a0:Int):Option (Int):=(if ak (a0>=4294967296)=ab then(wy 64 a0 32).bind λx1=>aa (x1,32)else aa (a0,0)).bind λx2=>(if ak (x2.1>=65536)=ab then(wy 64 x2.1 16).bind λx3=>aa (x3,W (x2.2+16))else aa x2).bind λx4=>(if ak (x4.1>=256)=ab then(wy 64 x4.1 8).bind λx5=>aa (x5,W (x4.2+8))else aa x4).bind λx6=>(KN (dY [0,1,2,2,3,3,3,3,4,4,4,4,4,4,4,4,5,5,5,5,5,5,5,5,5,5,5,5,5,5,5,5,6,6,6,6,6,6,6,6,6,6,6,6,6,6,6,6,6,6,6,6,6,6,6,6,6,6,6,6,6,6,6,6,7,7,7,7,7,7,7,7,7,7,7,7,7,7,7,7,7,7,7,7,7,7,7,7,7,7,7,7,7,7,7,7,7,7,7,7,7,7,7,7,7,7,7,7,7,7,7,7,7,7,7,7,7,7,7,7,7,7,7,7,7,7,7,7,8,8,8,8,8,8,8,8,8,8,8,8,8,8,8,8,8,8,8,8,8,8,8,8,8,8,8,8,8,8,8,8,8,8,8,8,8,8,8,8,8,8,8,8,8,8,8,8,8,8,8,8,8,8,8,8,8,8,8,8,8,8,8,8,8,8,8,8,8,8,8,8,8,8,8,8,8,8,8,8,8,8,8,8,8,8,8,8,8,8,8,8,8,8,8,8,8,8,8,8,8,8,8,8,8,8,8,8,8,8,8,8,8,8,8,8,8,8,8,8,8,8,8,8,8,8,8,8]) (rm IntKind.u8 x6.1)).bind λx7=>aa (W (x6.2+W x7))
def ah7:az D:=⟨189,[.lf (.int .u64)],z8,z5,[],z5,[],λh=>ajo h⟩
def aAM:CK ah7:=fo [] [.tmp 2] (qw (qn (qp ⟨[.lf (.int .u64),qi],[(0,aN),(2,dq)],[],[],2448⟩ .o .o)) (qm (qn (qp ⟨[.lf (.int .u64),qi],[(0,aN),(2,dq)],[],[],2770⟩ .o .o)) (qm (qn (qp ⟨[.lf (.int .u64),qi],[(0,aN),(2,dq)],[],[],3092⟩ .o .o)) .o))) trivial func189
def OV(a0:Int):Option (Int):=(ajo a0).bind aa
def aiR:az D:=⟨129,[.lf (.int .u64)],z8,z5,[],z5,[],λh=>OV h⟩
def aBt:CK aiR:=fo [ah7] [.tmp 2] .o ⟨aAM,q0⟩ func129
