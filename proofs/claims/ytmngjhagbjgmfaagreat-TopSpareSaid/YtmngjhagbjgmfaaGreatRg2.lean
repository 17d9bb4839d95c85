import Derived.Test.YtmngjhagbjgmfaaGreatRg1
set_option maxRecDepth 100000
set_option linter.all false
open Bool renaming false->ai,true->ab
open Decidable renaming decide->al
open Option renaming some->aa
open Sum renaming elim->dn
noncomputable section
namespace Go.Proofs.YtmngjhagbjgmfaaGreat
open Go Go.RowKit Dp
namespace Rx
open Tryz
def Kl:Int×Int×List bu->Option (Int×Int×List bu⊕Int×List bu):=λx2=>if al (x2.2.1<len x2.2.2)=ab then(idx x2.2.2 x2.2.1).bind λx3=>(IZ x3).bind λx4=>(if(!x4)=ab then(idx x2.2.2 x2.1).bind λx5=>(idx x2.2.2 x2.1).bind λx6=>(di x2.2.2 x2.1 x3).bind λx7=>aa (W (x2.1+1),x7)else aa (x2.1,x2.2.2)).bind λx8=>aa (.inl (x8.1,W (x2.2.1+1),x8.2))else aa (.inr (x2.1,x2.2.2))
def Km(a0:List bu):Option (List bu):=(Q_ a0).bind λx1=>if(x1==(-1))=ab then aa a0 else(aJ Kl (x1,W (x1+1),a0)).bind λx9=>(dK x9.2 x9.1 (len x9.2)).bind λbf=>(dK (rO (bu.mk [] [] []) x9.2 x9.1) 0 x9.1).bind aa
def aif:aA D:=⟨176,si,si,[.one (.own 1000),.one (.fn 177 [])],[(1000,.sl 24 227 0 [0])],wl,[(1001,.sl 24 227 0 [0])],λh=>Km h⟩
def aAV:CK aif:=fo [WN,ahs] [.tmp 4] (qv (qw (qw (.loop ⟨[qi,qi,.lf (.sl 24)],[(5,aO),(6,du)],[(1000,.sl 24 227 2 [0])],[1000],3344⟩ ab [(.exit 0,⟨B',pW,[(1000,.sl 24 227 1 [0])],[1000],3344⟩)] (qw (qm (qv (qp ⟨B',pW,[(1000,.sl 24 227 1 [0])],[1000],5203⟩ .o .o)) .o) .o)) .o) .o)) ⟨aie,aAg,q0⟩ func176
def IY(x2:List Int):Int×List bu->Option (Int×List bu⊕List bu):=λx4=>if al (x4.1<len x2)=ab then(idx x2 x4.1).bind λx5=>(idx x4.2 x5).bind λx6=>(idx x4.2 x5).bind λx7=>(idx x4.2 x5).bind λx8=>(bG x8.aB [x4.1]).bind λx9=>(di x4.2 x5 (bu.mk x9 x8.aj x8.az)).bind λbf=>(idx bf x5).bind λbp=>(yN x5 x5).bind λbK=>aa (.inl (W (x4.1+1),bf))else aa (.inr x4.2)
def IX(a0:aw)(a1:ax)(x2:List Int):Int×List bu->Option (Int×List bu⊕List bu):=λcG=>if al (cG.1<len a0.aj)=ab then(IU a0 a1 cG.1).bind λcw=>(if cw.2=ab then(idx x2 cw.1).bind λcN=>(idx x2 cw.1).bind λdG=>(idx cG.2 dG).bind λde=>(idx cG.2 dG).bind λdP=>(idx cG.2 dG).bind λfg=>(bG fg.aj [cG.1]).bind λgb=>(di cG.2 dG (bu.mk fg.aB gb fg.az)).bind λiV=>(idx iV cN).bind λkL=>(yN cN dG).bind λfN=>aa iV else aa cG.2).bind λmo=>aa (.inl (W (cG.1+1),mo))else aa (.inr cG.2)
def IW(a0:aw)(a1:ax)(x2:List Int):Int×List bu->Option (Int×List bu⊕List bu):=λig=>if al (ig.1<len a0.az)=ab then(IT a0 a1 ig.1).bind λiU=>(if iU.2=ab then(idx x2 iU.1).bind λnA=>(idx x2 iU.1).bind λnz=>(idx ig.2 nz).bind λpY=>(idx ig.2 nz).bind λtG=>(idx ig.2 nz).bind λww=>(bG ww.az [ig.1]).bind λsk=>(di ig.2 nz (bu.mk ww.aB ww.aj sk)).bind λtF=>(idx tF nA).bind λsj=>(yN nA nz).bind λQn=>aa tF else aa ig.2).bind λzB=>aa (.inl (W (ig.1+1),zB))else aa (.inr ig.2)
def y9(a0:aw)(a1:ax):Option (List bu):=(pL a0 a1).bind λx1=>if(x1 !=0)=ab then aa []else(OS a0 a1).bind λx2=>(mz (bu.mk [] [] []) a0.aB).bind λx3=>(aJ (IY x2) (0,x3)).bind λcq=>(aJ (IX a0 a1 x2) (0,cq)).bind λke=>(aJ (IW a0 a1 x2) (0,ke)).bind λFO=>(Km FO).bind aa
def OO:aA D:=⟨109,tz,si,uP,[],jn,[(1000,.sl 24 227 0 [1])],λh=>let g:=h.2.2.2.2.2.2;y9 (qb h) ⟨g.1,g.2.1,g.2.2.1,g.2.2.2⟩⟩
def W3:CK OO:=fo [rQ,aij,WQ,WO,aif] [.tmp 4] (qv (qn (qw (qw (.loop ⟨B',[(27,aO)],[(3664,.cZ 24 227 3 0 1)],[3664],4368⟩ ab [(.exit 0,⟨si,[],[(3664,.cZ 24 227 3 0 0)],[3664],4368⟩)] .o) .o) (qm (qw (.loop ⟨B',[(48,aO)],[(3664,.cZ 24 227 3 0 1)],[3664],4945⟩ ab [(.exit 2,⟨si,[],[(3664,.cZ 24 227 3 0 0)],[3664],4945⟩)] (qn (qw (qm (qv (qn (qp ⟨si,[],[(3664,.cZ 24 227 3 0 0)],[3664],6675⟩ .o .o))) .o) .o))) .o) (qm (qw (.loop ⟨B',[(81,aO)],[(3664,.cZ 24 227 3 0 1)],[3664],5522⟩ ab [(.exit 4,⟨si,[],[(3664,.cZ 24 227 3 0 0)],[3664],5522⟩)] (qn (qw (qm (qv (qn (qp ⟨si,[],[(3664,.cZ 24 227 3 0 0)],[3664],7252⟩ .o .o))) .o) .o))) .o) (qm (.r none (.xG 1 [3664] .nil)) .o)))))) ⟨td,aAW,aii,aih,aAV,q0⟩ func109
def FV(a1:List Int)(a2:bo):Int×List bo->Option (Int×List bo⊕List bo):=λx1=>if al (x1.1<len a1)=ab then(idx a1 x1.1).bind λx2=>(idx x1.2 x2).bind λx3=>(idx x1.2 x2).bind λx4=>(di x1.2 x2 (bo.mk x4.State x4.gJ a2.aZ x4.bi)).bind λx5=>(idx x5 x2).bind λx6=>(idx x5 x2).bind λx7=>(di x5 x2 (bo.mk x7.State x7.gJ x7.aZ a2.bi)).bind λx8=>aa (.inl (W (x1.1+1),x8))else aa (.inr x1.2)
def FW(a0:ax)(a1:List Int)(a2:bo):Option (List bo):=(aJ (FV a1 a2) (0,a0.aj)).bind aa
def WY:aA D:=⟨110,[cm,cI,aM,bz,aM,qi,qi,qi,qi],nv,[.agg [b6,.own 1000,bL,bX],.one (ef),.agg [bQ,eG,gQ,tQ]],[(1000,.sl 9 140 1 [])],[],[(1000,.sl 9 140 0 [])],λh=>FW ⟨h.1,h.2.1,h.2.2.1,h.2.2.2.1⟩ h.2.2.2.2.1 ⟨h.2.2.2.2.2.1,h.2.2.2.2.2.2.1,h.2.2.2.2.2.2.2.1,h.2.2.2.2.2.2.2.2⟩⟩
def ajc:CK WY:=fo [] [] (qn (qw (.loop ⟨zp,[(10,aO)],[(1000,.sl 9 140 1 [])],[1000],2704⟩ ab [(.exit 0,⟨nv,[],[(1000,.sl 9 140 0 [])],[1000],2704⟩)] .o) .o)) trivial func110
def JW(a1:ax)(x2:oj)(x3:List bu):Int×List bo->Option (Int×List bo⊕List bo):=λx4=>if al (x4.1<len x3)=ab then(idx x3 x4.1).bind λx5=>(if al (len x5.aj>0)=ab then(idx x5.aj 0).bind λx6=>(idx a1.aj x6).bind λx7=>(FW (ax.mk x2.1 x4.2 x2.2.2.1 x2.2.2.2) x5.aj x7).bind aa else aa x4.2).bind λx9=>aa (.inl (W (x4.1+1),x9))else aa (.inr x4.2)
def zF(a0:aw)(a1:ax):Option (Int×oj):=(pL a0 a1).bind λx1=>if(x1 !=0)=ab then aa (x1,[],[],[],[])else(rf a1).bind λx2=>(y9 a0 a1).bind λx3=>(aJ (JW a1 x2 x3) (0,x2.2.1)).bind λbf=>aa (0,x2.1,bf,x2.2.2)
def Om:aA D:=⟨60,tz,zv,uP,[],zu,zx,λh=>let g:=h.2.2.2.2.2.2;zF (qb h) ⟨g.1,g.2.1,g.2.2.1,g.2.2.2⟩⟩
def Wj:CK Om:=fo [rQ,vS,OO,WY] [.cell 4 65,.tmp 5] (qv (qw (qw (.loop ⟨zp,[(23,aO)],[(3417,.sl 9 140 1 [])],[3417],4496⟩ ab [(.exit 0,⟨nv,[],[(3417,.sl 9 140 0 [])],[3417],4496⟩)] Yl) .o) .o)) ⟨td,xo,W3,ajc,q0⟩ func60
def CP(a0:List Bool)(a1:List Bool):Int->Option (Int⊕Unit⊕Bool):=λx1=>if al (x1<len a0)=ab then(idx a0 x1).bind λx2=>(idx a1 x1).bind λx3=>if(!x2==x3)=ab then aa (.inr (.inr ai))else aa (.inl (W (x1+1)))else aa (.inr (.inl ()))
def Kf(a0:List Bool)(a1:List Bool):Option (Bool):=if(len a0 !=len a1)=ab then aa ai else(aJ (CP a0 a1) 0).bind λx4=>dn (λx5=>aa ab) (aa) x4
def ajb:aA D:=⟨111,[cm,cm],[.lf .bool],Ca,[],z5,[],λh=>Kf h.1 h.2⟩
def aBP:CK ajb:=fo [] [.tmp 4] Jz trivial func111
def CQ(a0:List bo)(a1:List bo):Int->Option (Int⊕Unit⊕Bool):=λx1=>if al (x1<len a0)=ab then(idx a0 x1).bind λx2=>(idx a1 x1).bind λx3=>if(!(x2.State==x3.State&&(x2.gJ==x3.gJ&&(x2.aZ==x3.aZ&&x2.bi==x3.bi))))=ab then aa (.inr (.inr ai))else aa (.inl (W (x1+1)))else aa (.inr (.inl ()))
def Kg(a0:List bo)(a1:List bo):Option (Bool):=if(len a0 !=len a1)=ab then aa ai else(aJ (CQ a0 a1) 0).bind λx4=>dn (λx5=>aa ab) (aa) x4
def aja:aA D:=⟨112,[cI,cI],[.lf .bool],Ca,[],z5,[],λh=>Kg h.1 h.2⟩
def aBO:CK aja:=fo [] [.tmp 4] Jz trivial func112
def CO(a0:List Int)(a1:List Int):Int->Option (Int⊕Unit⊕Bool):=λx1=>if al (x1<len a0)=ab then(idx a0 x1).bind λx2=>(idx a1 x1).bind λx3=>if(x2 !=x3)=ab then aa (.inr (.inr ai))else aa (.inl (W (x1+1)))else aa (.inr (.inl ()))
def Ke(a0:List Int)(a1:List Int):Option (Bool):=if(len a0 !=len a1)=ab then aa ai else(aJ (CO a0 a1) 0).bind λx4=>dn (λx5=>aa ab) (aa) x4
def ai':aA D:=⟨113,[aM,aM],[.lf .bool],Ca,[],z5,[],λh=>Ke h.1 h.2⟩
def aBN:CK ai':=fo [] [.tmp 4] Jz trivial func113
def CR(a0:List Part)(a1:List Part):Int->Option (Int⊕Unit⊕Bool):=λx1=>if al (x1<len a0)=ab then(idx a0 x1).bind λx2=>(idx a1 x1).bind λx3=>if(!(x2.Kind==x3.Kind&&x2.Number==x3.Number))=ab then aa (.inr (.inr ai))else aa (.inl (W (x1+1)))else aa (.inr (.inl ()))
def Kh(a0:List Part)(a1:List Part):Option (Bool):=if(len a0 !=len a1)=ab then aa ai else(aJ (CR a0 a1) 0).bind λx4=>dn (λx5=>aa ab) (aa) x4
def ai_:aA D:=⟨114,[bz,bz],[.lf .bool],Ca,[],z5,[],λh=>Kh h.1 h.2⟩
def aBM:CK ai_:=fo [] [.tmp 4] Jz trivial func114
def FY(a0:ax)(a1:ax):Option (Bool):=((Kf a0.aG a1.aG).bind λx1=>if x1=ab then(Kg a0.aj a1.aj).bind λx2=>if x2=ab then(Ke a0.aX a1.aX).bind λx3=>if x3=ab then(Kh a0.aS a1.aS).bind aa else aa ai else aa ai else aa ai).bind aa
def Wi:aA D:=⟨62,[cm,cI,aM,bz,cm,cI,aM,bz],[.lf .bool],[.agg [b6,bU,bL,bX],.agg [ef,kP,jD,kh]],[],z5,[],λh=>FY ⟨h.1,h.2.1,h.2.2.1,h.2.2.2.1⟩ ⟨h.2.2.2.2.1,h.2.2.2.2.2.1,h.2.2.2.2.2.2.1,h.2.2.2.2.2.2.2⟩⟩
def afR:CK Wi:=fo [ajb,aja,ai',ai_] [.tmp 4] (qw (qt 4 2448) .o) ⟨aBP,aBO,aBN,aBM,q0⟩ func62
def Ly(a0:Int)(a1:Int)(a2:List Bool)(a3:List bo)(a4:List Int)(a5:List Part)(a6:List eO)(a7:List Event):Option (Bool×ra):=(if al (a0>=(-1))=ab then aa (al (a0<=a1))else aa ai).bind λx1=>aa (x1,a1,a2,a3,a4,a5,a6,a7)
def c61:aA D:=⟨61,P_,FK,[aO,.one (.ptr 1000 0)],[(1000,.box [bn,bL,bX,ef,kP,jD,kh])],z5,[(1000,.box [bn,bL,bX,ef,kP,jD,kh])],λh=>Ly h.1 h.2.1 h.2.2.1 h.2.2.2.1 h.2.2.2.2.1 h.2.2.2.2.2.1 h.2.2.2.2.2.2.1 h.2.2.2.2.2.2.2⟩
def ayN:CK c61:=fo [] [.tmp 3] (qw (qt 3 2192) .o) trivial func61
def Lw(a0:eO)(a1:Int)(a2:List Bool)(a3:List bo)(a4:List Int)(a5:List Part)(a6:List eO)(a7:List Event):Option (Bool×ra):=((Ly a0.iS a1 a2 a3 a4 a5 a6 a7).bind λx1=>if(!x1.1)=ab then aa (ab,x1.2)else(Ly a0.jx x1.2.1 x1.2.2.1 x1.2.2.2.1 x1.2.2.2.2.1 x1.2.2.2.2.2.1 x1.2.2.2.2.2.2.1 x1.2.2.2.2.2.2.2).bind λx2=>aa (!x2.1,x2.2)).bind aa
def c64:aA D:=⟨64,[qi,qi,qi,cm,cI,aM,bz,fG,gf],FK,[.agg [bE,bn],.one (.ptr 1000 0)],[(1000,.box [.fn 61 [.ptr 1001 0]]),(1001,.box [cg,bX,ef,kP,jD,kh,mU])],z5,Cf,λh=>Lw ⟨h.1,h.2.1⟩ h.2.2.1 h.2.2.2.1 h.2.2.2.2.1 h.2.2.2.2.2.1 h.2.2.2.2.2.2.1 h.2.2.2.2.2.2.2.1 h.2.2.2.2.2.2.2.2⟩
def ayL:CK c64:=fo [c61] [.tmp 3] (qw (qr ⟨FK,[(3,aO)],[(1001,.box [bn,bL,bX,ef,kP,jD,kh])],[1001],2320⟩) .o) ⟨ayN,q0⟩ func64
def Ga(a0:List eO):Int×ra->Option (Int×ra⊕ra⊕Int×ra):=λx1=>if al (x1.1<len a0)=ab then(idx a0 x1.1).bind λx2=>(Lw x2 x1.2.1 x1.2.2.1 x1.2.2.2.1 x1.2.2.2.2.1 x1.2.2.2.2.2.1 x1.2.2.2.2.2.2.1 x1.2.2.2.2.2.2.2).bind λx3=>if x3.1=ab then aa (.inr (.inr (x1.1,x3.2)))else aa (.inl (W (x1.1+1),x3.2))else aa (.inr (.inl x1.2))
def Q7(a0:List eO)(a1:Int)(a2:List Bool)(a3:List bo)(a4:List Int)(a5:List Part)(a6:List eO)(a7:List Event):Option (Int×ra):=(aJ (Ga a0) (0,a1,a2,a3,a4,a5,a6,a7)).bind λx4=>dn (λx5=>aa ((-1),x5)) (aa) x4
def ai9:aA D:=⟨115,YL,P_,[.one (b6),.one (.fn 64 [.ptr 1000 0])],Cf,z5,Cf,λh=>Q7 h.1 h.2.1 h.2.2.1 h.2.2.2.1 h.2.2.2.2.1 h.2.2.2.2.2.1 h.2.2.2.2.2.2.1 h.2.2.2.2.2.2.2⟩
def aBL:CK ai9:=fo [c64] [.tmp 4] (qw (qw (.loop ⟨P_,wj,Cf,[1000,1001],2576⟩ ai [(.exit 0,⟨P7,[],[(1000,.box [.fn 61 [.ptr 1001 0]]),(1001,.box [bE,bU,bL,bX,ef,kP,jD])],[1000,1001],2576⟩)] .o) .o) .o) ⟨ayL,q0⟩ func115
def Kt(a0:List eO)(a1:Int)(a2:List Bool)(a3:List bo)(a4:List Int)(a5:List Part)(a6:List eO)(a7:List Event):Option (Bool×ra):=(Q7 a0 a1 a2 a3 a4 a5 a6 a7).bind λx1=>aa (al (x1.1>=0),x1.2)
def c63:aA D:=⟨63,YL,FK,[.one (b6),.one (.fn 64 [.ptr 1000 0])],Cf,z5,Cf,λh=>Kt h.1 h.2.1 h.2.2.1 h.2.2.2.1 h.2.2.2.2.1 h.2.2.2.2.2.1 h.2.2.2.2.2.2.1 h.2.2.2.2.2.2.2⟩
def ayM:CK c63:=fo [ai9] [.tmp 4] .o ⟨aBL,q0⟩ func63
def Lz(a0:aw)(a1:ia)(a2:cO):Option (Int):=(zF a0 a2.ax).bind λx1=>if(x1.1 !=0)=ab then aa x1.1 else((KY a1).bind λx2=>if(!x2)=ab then aa ab else if al (a2.Time<0)=ab then aa ab else aa (al (a2.Time>2147483648))).bind λx3=>if x3=ab then aa 1 else if(len a2.pO !=a0.aB)=ab then aa 8 else((FY a2.ax (ax.mk x1.2.1 x1.2.2.1 x1.2.2.2.1 x1.2.2.2.2)).bind λx4=>if(!x4)=ab then aa (ab,a2.Time,a2.ax.aG,a2.ax.aj,a2.ax.aX,a2.ax.aS,a2.pO,a2.rW)else(Kt a2.pO a2.Time a2.ax.aG a2.ax.aj a2.ax.aX a2.ax.aS a2.pO a2.rW).bind aa).bind λx6=>if x6.1=ab then aa 11 else aa 0
def c24:aA D:=⟨24,[qi,cX,dL,dq,qi,qi,qi,qi,qi,qi,cm,cI,aM,bz,fG,gf],z8,[.agg [bE,bU,bL,bX,cD,bQ],.agg [eG,gQ,tQ],.agg [p_,zU,.h 11 [0],.h 12 [0],.h 13 [0],.h 14 [0],.h 15 [0]]],[],z5,[],λh=>let g:=h.2.2.2.2.2.2;let k:=g.2.2.2.2.2.2;Lz (qb h) ⟨g.1,g.2.1,g.2.2.1⟩ ⟨g.2.2.2.1,⟨g.2.2.2.2.1,g.2.2.2.2.2.1,k.1,k.2.1⟩,k.2.2.1,k.2.2.2⟩⟩
def azZ:CK c24:=fo [ID,Om,Wi,c63] [.tmp 6] (qv (qw (qm (qn (qw (qt 22 4624) (qv (qw (qr ⟨FK,[(43,aO)],[(2256,.box [bn,bL,bX,ef,kP,jD,kh]),(3920,.box [.fn 61 [.ptr 2256 0]])],[2256,3920],5585⟩) .o)))) .o) .o)) ⟨af9,Wj,afR,ayM,q0⟩ func24
def VE(a0:Part):Option (Bool):=(if al (a0.Kind>=1)=ab then if al (a0.Kind<=9)=ab then if al (a0.Number>=0)=ab then aa (al (a0.Number<=63))else aa ai else aa ai else aa ai).bind aa
def ai5:aA D:=⟨118,z9,[.lf .bool],wk,[],z5,[],λh=>VE ⟨h.1,h.2⟩⟩
def aBH:CK ai5:=fo [] [.tmp 2] Cb trivial func118
def NR(a0:Part):Option (Bool):=(VE a0).bind λx1=>aa !x1
def ai6:aA D:=⟨117,z9,[.lf .bool],wk,[],z5,[],λh=>NR ⟨h.1,h.2⟩⟩
def aBI:CK ai6:=fo [ai5] [.tmp 2] .o ⟨aBH,q0⟩ func117
def J_(a0:List Part):Int->Option (Int⊕Unit⊕Int):=λx1=>if al (x1<len a0)=ab then(idx a0 x1).bind λx2=>(NR x2).bind λx3=>if x3=ab then aa (.inr (.inr x1))else aa (.inl (W (x1+1)))else aa (.inr (.inl ()))
def Q9(a0:List Part):Option (Int):=(aJ (J_ a0) 0).bind λx4=>dn (λx5=>aa (-1)) (aa) x4
def aid:aA D:=⟨178,ie,z8,[.one (b6),.one (.fn 117 [])],[],z5,[],λh=>Q9 h⟩
def aAT:CK aid:=fo [ai6] [.tmp 4] z3 ⟨aBI,q0⟩ func178
def Ri(a0:List Part):Option (Bool):=(Q9 a0).bind λx1=>aa (al (x1>=0))
def ai8:aA D:=⟨116,ie,[.lf .bool],[.one (b6),.one (.fn 117 [])],[],z5,[],λh=>Ri h⟩
def aBJ:CK ai8:=fo [aid] [.tmp 4] .o ⟨aAT,q0⟩ func116
def Bz(a0:Part)(a1:Part):Option (Int):=(vR a0.Kind a1.Kind).bind λx1=>(vR a0.Number a1.Number).bind λx2=>(EA [x1,x2]).bind aa
def Oi:aA D:=⟨71,o_,z8,Jx,[],z5,[],λh=>Bz ⟨h.1,h.2.1⟩ ⟨h.2.2.1,h.2.2.2⟩⟩
def Wg:CK Oi:=fo [OL,OJ] [.tmp 4] .o ⟨WW,WU,q0⟩ func71
def NP(a0:List Part):Int->Option (Int⊕Unit⊕Bool):=λx1=>if al (x1<len a0)=ab then(idx a0 (W (x1-1))).bind λx2=>(idx a0 x1).bind λx3=>(Bz x2 x3).bind λx4=>if al (x4>=0)=ab then aa (.inr (.inr ai))else aa (.inl (W (x1+1)))else aa (.inr (.inl ()))
def Ij(a0:List Part):Option (Bool):=(aJ (NP a0) 1).bind λx5=>dn (λx6=>aa ab) (aa) x5
def WX:aA D:=⟨119,ie,[.lf .bool],[.one (b6),.one (.fn 71 [])],[],z5,[],λh=>Ij h⟩
def ai4:CK WX:=fo [Oi] [.tmp 4] YX ⟨Wg,q0⟩ func119
def NS(a0:List Part):Option (Bool):=((Ri a0).bind λx1=>if(!x1)=ab then(Ij a0).bind aa else aa ai).bind aa
def c65:aA D:=⟨65,ie,[.lf .bool],o8,[],z5,[],λh=>NS h⟩
def ayK:CK c65:=fo [ai8,WX] [.tmp 2] (qw (qt 2 2192) .o) ⟨aBJ,ai4,q0⟩ func65
def wC(a0:List Part)(a1:Part):Int->Option (Int⊕Unit⊕Int):=λx1=>if al (x1<len a0)=ab then(idx a0 x1).bind λx2=>if(a1.Kind==x2.Kind&&a1.Number==x2.Number)=ab then aa (.inr (.inr x1))else aa (.inl (W (x1+1)))else aa (.inr (.inl ()))
def J7(a0:List Part)(a1:Part):Option (Int):=(aJ (wC a0 a1) 0).bind λx3=>dn (λx4=>aa (-1)) (aa) x3
def aiU:aA D:=⟨131,zr,z8,[.one (b6),.agg [bn,cg]],[],z5,[],λh=>J7 h.1 ⟨h.2.1,h.2.2⟩⟩
def aBw:CK aiU:=fo [] [.tmp 4] Yj trivial func131
def Gc(a0:List Part)(a1:Part):Option (Bool):=(J7 a0 a1).bind λx1=>aa (al (x1>=0))
def Wf:aA D:=⟨73,zr,[.lf .bool],[.one (b6),.agg [bn,cg]],[],z5,[],λh=>Gc h.1 ⟨h.2.1,h.2.2⟩⟩
def afI:CK Wf:=fo [aiU] [.tmp 4] .o ⟨aBw,q0⟩ func73
def yR(a0:List Part)(a1:Part):Option (Bool):=(Gc a0 a1).bind aa
def EL:aA D:=⟨28,zr,[.lf .bool],[.one (b6),.agg [bn,cg]],[],z5,[],λh=>yR h.1 ⟨h.2.1,h.2.2⟩⟩
def Ox:CK EL:=fo [Wf] [.tmp 4] .o ⟨afI,q0⟩ func28
def NL(a0:jN)(a1:jN):Option (Int):=(Bz a0.fC a1.fC).bind λx1=>(Bz a0.To a1.To).bind λx2=>(EA [x1,x2]).bind aa
def ai2:aA D:=⟨121,[qi,qi,qi,qi,qi,qi,qi,qi],z8,[.agg [bE,bn,cg,dA],.agg [cD,bQ,eG,gQ]],[],z5,[],λh=>NL ⟨⟨h.1,h.2.1⟩,⟨h.2.2.1,h.2.2.2.1⟩⟩ ⟨⟨h.2.2.2.2.1,h.2.2.2.2.2.1⟩,⟨h.2.2.2.2.2.2.1,h.2.2.2.2.2.2.2⟩⟩⟩
def aBE:CK ai2:=fo [Oi,OL] [.tmp 4] .o ⟨Wg,WW,q0⟩ func121
def NQ(a0:List jN):Int->Option (Int⊕Unit⊕Bool):=λx1=>if al (x1<len a0)=ab then(idx a0 (W (x1-1))).bind λx2=>(idx a0 x1).bind λx3=>(NL x2 x3).bind λx4=>if al (x4>=0)=ab then aa (.inr (.inr ai))else aa (.inl (W (x1+1)))else aa (.inr (.inl ()))
def VD(a0:List jN):Option (Bool):=(aJ (NQ a0) 1).bind λx5=>dn (λx6=>aa ab) (aa) x5
def ai3:aA D:=⟨120,[ot],[.lf .bool],[.one (b6),.one (.fn 121 [])],[],z5,[],λh=>VD h⟩
def aBF:CK ai3:=fo [ai2] [.tmp 4] YX ⟨aBE,q0⟩ func120
def NJ(a0:dy):Int->Option (Int⊕Unit⊕Bool):=λx1=>if al (x1<len a0.ic)=ab then(idx a0.ic x1).bind λx2=>((yR a0.fj x2.fC).bind λx3=>if(!x3)=ab then aa ab else(yR a0.fj x2.To).bind λx4=>if(!x4)=ab then aa ab else aa (x2.fC.Kind==x2.To.Kind&&x2.fC.Number==x2.To.Number)).bind λx5=>if x5=ab then aa (.inr (.inr ai))else aa (.inl (W (x1+1)))else aa (.inr (.inl ()))
def NM(a0:dy):Option (Bool):=(aJ (NJ a0) 0).bind λx6=>dn (λx7=>(VD a0.ic).bind aa) (aa) x6
def c66:aA D:=⟨66,[bz,ot,p9],[.lf .bool],JB,[],z5,[],λh=>NM ⟨h.1,h.2.1,h.2.2⟩⟩
def ayJ:CK c66:=fo [EL,ai3] [.tmp 2] (qw (qw (.loop ⟨z8,wj,[],[],2832⟩ ai [(.exit 0,Ch)] (qn (qw (qm (qw (qr ⟨[.lf .bool],[(19,qa),(20,qa),(21,qa),(22,qa),(23,qa),(24,qa),(27,qa),(28,qa),(29,qa),(30,qa),(31,qa),(32,aO)],[],[],3537⟩) .o) .o) .o))) .o) .o) ⟨Ox,aBF,q0⟩ func66
def axM(x3:List U8):Int->Option (Int⊕Unit⊕Bool):=λx4=>if al (x4<len x3)=ab then(idx x3 x4).bind λx5=>(if al (x5.n>=97)=ab then aa (al (x5.n<=122))else aa ai).bind λx6=>(if(!x6)=ab then if(x4==0)=ab then aa ab else if(x5.n !=45)=ab then if al (x5.n<48)=ab then aa ab else aa (al (x5.n>57))else aa ai else aa ai).bind λx7=>if x7=ab then aa (.inr (.inr ai))else aa (.inl (W (x4+1)))else aa (.inr (.inl ()))
def Ew(a0:ByteArray):Option (Bool):=(if al (rh a0<1)=ab then aa ab else aa (al (rh a0>12))).bind λx1=>if x1=ab then aa ai else(KS (λx2=>U8.mk x2) a0).bind λx3=>(aJ (axM x3) 0).bind λx8=>dn (λx9=>aa ab) (aa) x8
def aiZ:aA D:=⟨125,[.lf .str],[.lf .bool],z5,[],z5,[],λh=>Ew h⟩
def aBB:CK aiZ:=fo [] [.tmp 2] (qw (qm (qt 13 2192) .o) (qm (qw (.loop ⟨z8,[(17,aO)],[],[],2769⟩ ai [(.exit 0,⟨[],[],[],[],2769⟩)] (qn (qw (qm (qw (qr ⟨[.lf .bool],[(5,aO),(25,qa),(26,qa)],[],[],3602⟩) (qm (qr ⟨[.lf .bool],[(31,qa),(32,qa),(33,qa),(34,qa),(35,qa),(36,qa),(37,qa),(38,qa),(39,qa),(40,qa),(41,qa),(42,qa),(43,qa),(44,qa),(45,aO)],[],[],3667⟩) .o)) .o) .o))) .o) .o)) trivial func125
def VC(a0:jk)(a1:jk):Option (Bool):=aa (a0.Name==a1.Name)
def ai1:aA D:=⟨123,[.lf .str,bz,.el 20],[.lf .bool],[.agg [bE,bU],.one (.rp 2 20 [0])],[],z5,[],λh=>VC ⟨h.1,h.2.1⟩ h.2.2⟩
def aBD:CK ai1:=fo [] [.tmp 3] .o trivial func123
def J'(a0:List jk)(a1:jk):Int->Option (Int⊕Unit⊕Int):=λx1=>if al (x1<len a0)=ab then(idx a0 x1).bind λx2=>(VC x2 a1).bind λx3=>if x3=ab then aa (.inr (.inr x1))else aa (.inl (W (x1+1)))else aa (.inr (.inl ()))
def Ra(a0:List jk)(a1:jk):Option (Int):=(aJ (J' a0 a1) 0).bind λx4=>dn (λx5=>aa (-1)) (aa) x4
def aib:aA D:=⟨179,[p9,.el 20],z8,[.one (b6),.one (.fn 123 [.rp 1 20 [0]])],[],z5,[],λh=>Ra h.1 h.2⟩
def aAS:CK aib:=fo [ai1] [.tmp 4] z3 ⟨aBD,q0⟩ func179
def Kv(a0:List jk)(a1:jk):Option (Bool):=(Ra a0 a1).bind λx1=>aa (al (x1>=0))
def aiY:aA D:=⟨126,[p9,.el 20],[.lf .bool],[.one (b6),.one (.fn 123 [.rp 1 20 [0]])],[],z5,[],λh=>Kv h.1 h.2⟩
def aBA:CK aiY:=fo [aib] [.tmp 4] .o ⟨aAS,q0⟩ func126
def VB(a0:Part)(a1:dy):Option (Bool):=(yR a1.fj a0).bind λx1=>aa !x1
def ai0:aA D:=⟨124,[qi,qi,.el 25],[.lf .bool],[.agg [bE,bn],.one (.rp 2 25 [0])],[],z5,[],λh=>VB ⟨h.1,h.2.1⟩ h.2.2⟩
def aBC:CK ai0:=fo [EL] [.tmp 3] .o ⟨Ox,q0⟩ func124
def J9(a0:List Part)(a1:dy):Int->Option (Int⊕Unit⊕Int):=λx1=>if al (x1<len a0)=ab then(idx a0 x1).bind λx2=>(VB x2 a1).bind λx3=>if x3=ab then aa (.inr (.inr x1))else aa (.inl (W (x1+1)))else aa (.inr (.inl ()))
def Q8(a0:List Part)(a1:dy):Option (Int):=(aJ (J9 a0 a1) 0).bind λx4=>dn (λx5=>aa (-1)) (aa) x4
def aic:aA D:=⟨178,[bz,.el 25],z8,[.one (b6),.one (.fn 124 [.rp 1 25 [0]])],[],z5,[],λh=>Q8 h.1 h.2⟩
def aAU:CK aic:=fo [ai0] [.tmp 4] z3 ⟨aBC,q0⟩ func178
def Ku(a0:List Part)(a1:dy):Option (Bool):=(Q8 a0 a1).bind λx1=>aa (al (x1>=0))
def ai7:aA D:=⟨116,[bz,.el 25],[.lf .bool],[.one (b6),.one (.fn 124 [.rp 1 25 [0]])],[],z5,[],λh=>Ku h.1 h.2⟩
def aBK:CK ai7:=fo [aic] [.tmp 4] .o ⟨aAU,q0⟩ func116
def NN(a0:dy):Int->Option (Int⊕Unit⊕Bool):=λx1=>if al (x1<len a0.il)=ab then(idx a0.il x1).bind λx2=>((Ew x2.Name).bind λx3=>if(!x3)=ab then aa ab else(dK a0.il 0 x1).bind λx4=>(Kv x4 x2).bind λx5=>if x5=ab then aa ab else if(len x2.fj==0)=ab then aa ab else(Ku x2.fj a0).bind λx6=>if x6=ab then aa ab else(Ij x2.fj).bind λx7=>aa !x7).bind λx8=>if x8=ab then aa (.inr (.inr ai))else aa (.inl (W (x1+1)))else aa (.inr (.inl ()))
def NO(a0:dy):Option (Bool):=(aJ (NN a0) 0).bind λx9=>dn (λbf=>aa ab) (aa) x9
def c67:aA D:=⟨67,[bz,ot,p9],[.lf .bool],JB,[],z5,[],λh=>NO ⟨h.1,h.2.1,h.2.2⟩⟩
def ayI:CK c67:=fo [ai7,WX,aiZ,aiY] [.tmp 2] (qw (qw (.loop ⟨z8,[(10,aO)],[],[],2832⟩ ai [(.exit 0,Ch)] (qn (qw (qm (qv (qw (qr ⟨[.lf .bool],[(22,qa),(23,qa),(24,qa),(25,qa),(26,qa),(27,qa),(30,qa),(31,qa),(32,qa),(33,qa),(36,qa),(37,qa),(38,qa),(39,qa),(42,qa),(43,qa),(44,qa),(45,qa),(46,aO)],[],[],4305⟩) .o)) .o) .o))) .o) .o) ⟨aBK,ai4,aBB,aBA,q0⟩ func67
def Ex(a0:dy):Option (Int):=(if al (len a0.fj>40)=ab then aa ab else if al (len a0.ic>60)=ab then aa ab else aa (al (len a0.il>6))).bind λx1=>if x1=ab then aa 2 else((NS a0.fj).bind λx2=>if(!x2)=ab then aa ab else(NM a0).bind λx3=>if(!x3)=ab then aa ab else(NO a0).bind λx4=>aa !x4).bind λx5=>if x5=ab then aa 63 else aa 0
def OC:aA D:=⟨25,[bz,ot,p9],z8,JB,[],z5,[],λh=>Ex ⟨h.1,h.2.1,h.2.2⟩⟩
def agX:CK OC:=fo [c65,c66,c67] [.tmp 2] (qw (qm (qt 18 2320) .o) (qm (qm (qt 32 2385) .o) .o)) ⟨ayK,ayJ,ayI,q0⟩ func25
def Kd(a0:Int):Option (List Part):=if al (a0<0)=ab then none else(if al (W (a0-W (0-0))>0)=ab then(dK ([]:List Unit) 0 0).bind λx1=>(Ah (Part.mk 0 0) (W (a0-W (0-0)))).bind λx2=>(dK x2 0 0).bind aa else aa []).bind aa
def c72:aA D:=⟨72,z8,ie,[.one (.bF),aO],[],jn,mM,λh=>Kd h⟩
def ayG:CK c72:=fo [] [.tmp 4] (qn (qw (qv (qp ⟨ie,[(0,.one (.own 3664))],[(3664,.sl 10 79 0 [])],[],3728⟩ .o .o)) .o)) trivial func72
def Ky(a0:List (List Part)):Int×Int->Option (Int×Int⊕Int):=λx1=>if al (x1.2<len a0)=ab then(idx a0 x1.2).bind λx2=>if al (W (x1.1+len x2)<0)=ab then none else aa (.inl (W (x1.1+len x2),W (x1.2+1)))else aa (.inr x1.1)
def Kx(a0:List (List Part)):Int×List Part->Option (Int×List Part⊕List Part):=λx5=>if al (x5.1<len a0)=ab then(idx a0 x5.1).bind λx6=>(bG x5.2 x6).bind λx7=>aa (.inl (W (x5.1+1),x7))else aa (.inr x5.2)
def Ge(a0:(List (List Part))):Option (List Part):=(aJ (Ky a0) (0,0)).bind λx3=>(Kd x3).bind λx4=>(aJ (Kx a0) (0,x4)).bind aa
def Ww:aA D:=⟨27,[.lf (.sl 27)],ie,o8,[],jn,mM,λh=>Ge h⟩
def agC:CK Ww:=fo [c72] [.tmp 2] (qn (qw (qw (.loop ⟨z9,[(3,aO),(11,du)],[],[],2704⟩ ab [(.exit 0,⟨z8,[(3,aO)],[],[],2704⟩)] .o) .o) (qw (qw (.loop ⟨xB,[(6,.one (.own 3473)),(27,aO)],[(3473,.sl 10 79 1 [])],[2841],3537⟩ ab [(.exit 2,⟨ie,[(6,.one (.own 3473))],[(3473,.sl 10 79 0 [])],[2841],3537⟩)] .o) .o) .o))) ⟨ayG,q0⟩ func27
def ajs(a0:Int):Option (Int):=(if al (a0>=4294967296)=ab then(wD 64 a0 32).bind λx1=>aa (x1,32)else aa (a0,0)).bind λx2=>(if al (x2.1>=65536)=ab then(wD 64 x2.1 16).bind λx3=>aa (x3,W (x2.2+16))else aa x2).bind λx4=>(if al (x4.1>=256)=ab then(wD 64 x4.1 8).bind λx5=>aa (x5,W (x4.2+8))else aa x4).bind λx6=>(KR (d_ [0,1,2,2,3,3,3,3,4,4,4,4,4,4,4,4,5,5,5,5,5,5,5,5,5,5,5,5,5,5,5,5,6,6,6,6,6,6,6,6,6,6,6,6,6,6,6,6,6,6,6,6,6,6,6,6,6,6,6,6,6,6,6,6,7,7,7,7,7,7,7,7,7,7,7,7,7,7,7,7,7,7,7,7,7,7,7,7,7,7,7,7,7,7,7,7,7,7,7,7,7,7,7,7,7,7,7,7,7,7,7,7,7,7,7,7,7,7,7,7,7,7,7,7,7,7,7,7,8,8,8,8,8,8,8,8,8,8,8,8,8,8,8,8,8,8,8,8,8,8,8,8,8,8,8,8,8,8,8,8,8,8,8,8,8,8,8,8,8,8,8,8,8,8,8,8,8,8,8,8,8,8,8,8,8,8,8,8,8,8,8,8,8,8,8,8,8,8,8,8,8,8,8,8,8,8,8,8,8,8,8,8,8,8,8,8,8,8,8,8,8,8,8,8,8,8,8,8,8,8,8,8,8,8,8,8,8,8,8,8,8,8,8,8,8,8,8,8,8,8,8,8,8,8,8,8]) (ru IntKind.u8 x6.1)).bind λx7=>aa (W (x6.2+W x7))
def ah':aA D:=⟨189,[.lf (.int .u64)],z8,z5,[],z5,[],λh=>ajs h⟩
def aAQ:CK ah':=fo [] [.tmp 2] (qw (qn (qp ⟨[.lf (.int .u64),qi],[(0,aO),(2,du)],[],[],2448⟩ .o .o)) (qm (qn (qp ⟨[.lf (.int .u64),qi],[(0,aO),(2,du)],[],[],2770⟩ .o .o)) (qm (qn (qp ⟨[.lf (.int .u64),qi],[(0,aO),(2,du)],[],[],3092⟩ .o .o)) .o))) trivial func189
def O0(a0:Int):Option (Int):=(ajs a0).bind aa
def aiV:aA D:=⟨129,[.lf (.int .u64)],z8,z5,[],z5,[],λh=>O0 h⟩
def aBx:CK aiV:=fo [ah'] [.tmp 2] .o ⟨aAQ,q0⟩ func129
