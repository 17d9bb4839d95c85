import Derived.Test.YtgaghlbepnjhiaaGreatRn
import Derived.Test.YtgaghlbepnjhiaaGreatRg2
set_option maxRecDepth 100000
set_option linter.all false
open Bool renaming false->ae,true->ab
open Decidable renaming decide->ak
open Option renaming some->aa
open Sum renaming elim->cQ
noncomputable section
namespace Go.Proofs.YtgaghlbepnjhiaaGreat
open Go Go.RowKit Dp
namespace Rx
open Tryz
def GF(a1:Int):Int×List Part->Option (Int×List Part⊕List Part):=λx2=>(if ak (x2.1>a1)=ab then(idx x2.2 x2.1).bind λx3=>(idx x2.2 (W (x2.1-1))).bind λx4=>(BQ x3 x4).bind λx5=>aa (ak (x5<0))else aa ae).bind λx6=>if x6=ab then(idx x2.2 (W (x2.1-1))).bind λx7=>(idx x2.2 x2.1).bind λx8=>(idx x2.2 x2.1).bind λx9=>(idx x2.2 x2.1).bind λbb=>(dq x2.2 x2.1 x7).bind λbi=>(idx bi (W (x2.1-1))).bind λbF=>(idx bi (W (x2.1-1))).bind λbY=>(dq bi (W (x2.1-1)) x8).bind λcF=>aa (.inl (W (x2.1-1),cF))else aa (.inr x2.2)
def C8(a1:Int)(a2:Int):Int×List Part->Option (Int×List Part⊕List Part):=λx1=>if ak (x1.1<a2)=ab then(aG (GF a1) x1).bind λb7=>aa (.inl (W (x1.1+1),b7))else aa (.inr x1.2)
def KH(a0:List Part)(a1:Int)(a2:Int):Option (List Part):=(aG (C8 a1 a2) (W (a1+1),a0)).bind aa
def ajo:az D:=⟨169,xO,gF,[.one (.own 1000),dE,lB,.one (.fn 51 [])],mu,[],mu,λh=>KH h.1 h.2.1 h.2.2⟩
def aCr:CK ajo:=fo [Ph] [] (qw (.loop ⟨wq,xP,Cv,[1000],2448⟩ ab [(.exit 0,⟨gF,[],mu,[1000],2448⟩)] (qw (qm (qw (.loop ⟨wq,uQ,Cv,[1000],3154⟩ ab [(.exit 2,⟨gF,Zj,mu,[1000],3154⟩)] Zq) .o) .o) .o)) .o) ⟨Xk,q0⟩ func169
def RN:Int×Int×Int×Bool×Bool×List Part->Option (Int×Int×Int×Bool×Bool×List Part⊕List Part):=λx1=>(if ak (W (x1.2.1-x1.1)<=12)=ab then(KH x1.2.2.2.2.2 x1.1 x1.2.1).bind λkN=>aa (.inr (.inr kN))else if(x1.2.2.1==0)=ab then none else(if(!x1.2.2.2.1)=ab then none else aa x1.2.2.1).bind λx3=>none).bind λfC=>cQ (λ(lV:Int×Int×Int×Bool×Bool×List Part)=>aa (.inl lV)) (aa) fC
def RO(a0:List Part)(a1:Int)(a2:Int)(a3:Int):Option (List Part):=(aG RN (a1,a2,a3,ab,ab,a0)).bind aa
def akl:az D:=⟨104,[bh,qi,qi,qi],gF,[.one (.own 1000),dE,lB,sC,.one (.fn 51 [])],mu,[],mu,λh=>RO h.1 h.2.1 h.2.2.1 h.2.2.2⟩
def aDh:CK akl:=fo [ajo] [] (qn (qw (.loop ⟨[qi,qi,qi,.lf .bool,.lf .bool,bh],[(1,aN),(2,dE),(3,lB),(10,sC),(11,DF)],[(1000,.sl 10 80 5 [])],[1000],2320⟩ ae [] (.n (aa (ae,[(.normal,⟨[qi,qi,qi,.lf .bool,.lf .bool,bh],[(1,aN),(2,dE),(3,lB),(10,sC),(11,DF),(70,qa),(73,qa),(74,qa),(84,qa),(85,qa),(86,qa),(87,qa),(88,qa),(89,qa),(90,qa),(91,qa),(92,qa),(93,qa),(94,qa),(95,qa),(96,qa)],[(1000,.sl 10 80 5 [])],[1000],2390⟩)])) (qv (qw (qn (qp ⟨z8,[(3,aN)],[],[],3670⟩ .o .o)) (qw (qn (qp ⟨z9,[(13,aN),(14,dE)],[],[],5271⟩ .o .o)) (qm (qm (qr ⟨[.lf .bool],[(70,qa),(73,qa),(74,qa),(75,aN)],[],[],5337⟩) (.n (aa (ae,[(.normal,⟨[],[],[],[],5402⟩)])) .o .o)) (qm (qm (qr ⟨[.lf .bool],[(84,qa),(85,qa),(86,qa),(87,qa),(88,qa),(89,qa),(90,qa),(91,qa),(92,qa),(93,qa),(94,qa),(95,qa),(96,qa),(97,aN)],[],[],5466⟩) .o) (qv (qv (qn (qp ⟨[qi,qi,.lf .bool,bh],[(1,aN),(2,dE),(10,lB)],[(1000,.sl 10 80 3 [])],[1000],8987⟩ .o .o))))))))) .o)) .o)) ⟨aCr,q0⟩ func104
def GG(a0:List Part):Option (List Part):=(PN (rA IntKind.u64 (len a0))).bind λx1=>(RO a0 0 (len a0) x1).bind aa
def Pj:az D:=⟨50,gF,gF,[.one (.own 1000),.one (.fn 51 [])],mu,[],mu,λh=>GG h⟩
def agV:CK Pj:=fo [akl,akk] [] .o ⟨aDh,aDg,q0⟩ func50
def apD(x1:Int×List Part):Int×Int×List Part->Option (Int×Int×List Part⊕Int×List Part):=λx5=>if ak (x5.2.1<len x5.2.2-x1.1)=ab then(idx (uz x5.2.2 x1.1) x5.2.1).bind λx6=>(idx (uz x5.2.2 x1.1) (W (x5.2.1-1))).bind λx7=>(if(!(x6.Kind==x7.Kind&&x6.Number==x7.Number))=ab then(idx (uz x5.2.2 x1.1) x5.2.1).bind λx8=>(idx x5.2.2 x5.1).bind λx9=>(idx x5.2.2 x5.1).bind λbb=>(dq x5.2.2 x5.1 x8).bind λbi=>aa (W (x5.1+1),bi)else aa (x5.1,x5.2.2)).bind λbF=>aa (.inl (bF.1,W (x5.2.1+1),bF.2))else aa (.inr (x5.1,x5.2.2))
def Lp:Int×List Part->Option (Int×List Part⊕List Part⊕List Part):=λx1=>if ak (x1.1<len x1.2)=ab then(idx x1.2 x1.1).bind λx2=>(idx x1.2 (W (x1.1-1))).bind λx3=>if(x2.Kind==x3.Kind&&x2.Number==x3.Number)=ab then(dH x1.2 x1.1 (len x1.2)).bind λx4=>(aG (apD x1) (x1.1,1,x1.2)).bind λbY=>(dH bY.2 bY.1 (len bY.2)).bind λcF=>(dH (rT (Part.mk 0 0) bY.2 bY.1) 0 bY.1).bind λb7=>aa (.inr (.inr b7))else aa (.inl (W (x1.1+1),x1.2))else aa (.inr (.inl x1.2))
def Lq(a0:List Part):Option (List Part):=if ak (len a0<2)=ab then aa a0 else(aG Lp (1,a0)).bind λcM=>cQ (aa) (aa) cM
def c75:az D:=⟨75,gF,gF,iS,mu,wu,[(1001,.sl 10 80 0 [])],λh=>Lq h⟩
def azX:CK c75:=fo [] [.tmp 2] (qn (qw (qw (.loop ⟨wq,[(3,aN)],Cv,[1000],2704⟩ ae [(.exit 0,⟨gF,[],mu,[1000],2704⟩)] (qw (qm (qw (qw (qw (.loop ⟨[qi,qi,bh],[(3,aN),(5,dE)],[(1000,.sl 10 80 2 [])],[1000],5202⟩ ab [(.exit 2,⟨wq,[(3,aN)],Cv,[1000],5202⟩)] (qw (qm (qn (qp ⟨wq,[(3,aN)],Cv,[1000],7061⟩ .o .o)) .o) .o)) .o) .o) .o) .o) .o)) .o) .o)) trivial func75
def IU(a0:List Part)(a1:List Part):Option (List Part):=(GM [a0,a1]).bind λx1=>(GG x1).bind λx2=>(Lq x2).bind aa
def Pl:az D:=⟨34,[bh,bh],gF,Cp,[],iS,mu,λh=>IU h.1 h.2⟩
def ag_:CK Pl:=fo [Xm,Pj,c75] [.tmp 4] .o ⟨ag3,agV,azX,q0⟩ func34
def ON(a0:b_)(x4:Part):Int×List Part->Option (Int×List Part⊕List Part):=λx6=>if ak (x6.1<len a0.cw)=ab then(idx a0.cw x6.1).bind λx7=>(if(x7.cu.Kind==x4.Kind&&x7.cu.Number==x4.Number)=ab then(bD x6.2 [x7.To]).bind aa else aa x6.2).bind λx9=>aa (.inl (W (x6.1+1),x9))else aa (.inr x6.2)
def Wt(a0:b_):List Part×List (xU)->Option (List Part×List (xU)⊕List (xU)):=λx3=>if ak (len x3.1>0)=ab then((idx x3.1 0).bind λx4=>(dH x3.1 1 (len x3.1)).bind λx5=>if ry (λbF=>bF.1==x4.Kind&&bF.2.1==x4.Number) (λbY=>bY.2.2) ae x3.2=ab then aa (x5,x3.2)else(aG (ON a0 x4) (0,x5)).bind λbb=>aa (bb,tP (λbi=>bi.1==x4.Kind&&bi.2.1==x4.Number) (x4.Kind,x4.Number,ab) x3.2)).bind λcF=>aa (.inl cF)else aa (.inr x3.2)
def za(a0:b_)(a1:List Part):Option (List Part):=(vW a0).bind λx1=>if(x1 !=0)=ab then(IU a1 []).bind aa else(zY a1).bind λx2=>(aG (Wt a0) (x2,[])).bind λb7=>B_ b7 λcM=>(sV (λdx cZ=>(bD dx [Part.mk cZ.1 cZ.2.1]).bind aa) [] cM).bind λfh=>(GG fh).bind aa
def Jg:az D:=⟨18,[bh,kQ,mW,bh],gF,[.agg [bS,bR,bI],.one (bU)],[],iS,mu,λh=>za ⟨h.1,h.2.1,h.2.2.1⟩ h.2.2.2⟩
def Pt:CK Jg:=axz (Φ:=[Pl,BX,Ja,Pj]) (rs:=[.tmp 4]) (sp:=(spA (uC f18) 0 [.o,.o,.o,.o,(qm (.loop ⟨[bh,.lf (.sl 28)],[(6,.one (.own 3280))],[(3280,.sl 10 80 0 []),(2640,.mp 28 1)],[2640,3032],3344⟩ ab [(.exit 0,⟨[.lf (.sl 28)],[],[(2640,.mp 28 0)],[2640,3032],3344⟩)] (qn (qp ⟨[bh,.lf (.sl 28)],[(6,.one (.own 3730))],[(3730,.sl 10 80 0 []),(2640,.mp 28 1)],[2640,3280],3794⟩ (qv (qv (qw (.loop ⟨wq,[(6,.one (.own 6034)),(36,aN)],[(6034,.sl 10 80 1 [])],[4498],6098⟩ ab [(.exit 2,⟨gF,[(6,.one (.own 6034))],[(6034,.sl 10 80 0 [])],[4498],6098⟩)] (qn (qw (qm (qv (qp ⟨gF,[(6,.one (.own 7252))],[(7252,.sl 10 80 0 [])],[6034],7316⟩ .o .o)) .o) .o))) .o))) .o))) .o),.o])) (m:=(ar5 (spL (KF 6 (uC f18))))) (j:=⟨gF,[(10,.one (.own 3473))],[(3473,.sl 10 80 0 [])],[],3537⟩) (an:= .o) (me:= .o) (b:=(KF 7 (uC f18))) sD rk (jI.mem (⟨ag_,Jb,Xl,agV,q0⟩:jI _ _ [Pl,BX,Ja,Pj])) pK call18 func18 (by kernel_rfl) rfl (by kernel_rfl) (λh=>by kernel_rfl)
def GP(a0:List eH):Option (List eH):=bD [] a0
def Xe:az D:=⟨95,[fN],[fN],pf,[],iS,[(1000,.sl 11 117 0 [])],λh=>GP h⟩
def agd:CK Xe:=by
 refine⟨call95,rfl,rfl,rfl,rfl,λoo r0 mH fp eU has nP γ w vs hv _=>?_⟩;cases has;match vs,hv with
 |[],hv=>exact hv.elim
 |_::_::_,hv=>exact hv.2.elim
 |[v],hv=>
 obtain⟨xs,eJ⟩:∃xs:List (D 11),xs=oo:=⟨_,rfl⟩;obtain⟨r,jA⟩:∃r:List (D 11),r=r0:=⟨_,rfl⟩;have g0:Rv (In γ.o [0]) w v xs:=by rw[eJ];exact hv.1.1
 have hr:bD ([]:List (D 11)) xs=aa r:=by rw[eJ,jA];exact mH
 subst jA;have hT:=Gy.2;refine enter (l:=[v]) func95 rfl ntmps95 rfl ?_;refine CW.sub (L':=[(0,v)]) ⟨rfl,trivial⟩ ?_;refine CW.sr λK1 ir=>?_;refine WL.p (.slice none 0 0) rfl rfl ?_;refine WL.nx ir ?_;refine CW.seq λK2 iL=>?_;refine CW.sr λK3 mc=>?_;refine WL.p v rfl rfl ?_;obtain⟨a,m,q,rfl,hn⟩:=Ab g0;refine WL.lW (OW.isNil Gy.1 rfl) rfl ?_;refine WL.nx mc ?_;cases a with
 |none=>refine CW.cond (b:=ab) rfl (λ_=>?_) (λh=>nomatch h);refine CW.sr λK4 nW=>?_;refine WL.p (.slice none 0 0) rfl rfl ?_;refine WL.nx nW ?_;rw[hn rfl]at hr;obtain rfl:=B9 hr;exact CW.mA (vs:=[.slice none 0 0]) results95 ⟨rfl,trivial⟩ ⟨_,rfl,qQ (n:=11) (e:=117) (q:=1000) (K:=[]) (M:=[]) (N:=[]) rfl rfl rfl (by simp) (by simp) (bJ.refl _ _ γ.o w) (Ow.nil _ _ _ _ _) (λx hx=>by simp at hx<;>omega)⟩ (λ_ _ h=>h)
 |some a=>refine CW.cond (b:=ae) rfl (λh=>nomatch h) (λ_=>?_);refine CW.skip ?_;refine iL _ _ ?_;refine CW.sr λK5 lJ=>?_;refine WL.step (OW.buildSlice (o:=γ.o) (k:=1000) (K:=[]) (xs:=([]:List (D 11))) Gy.1 hT rfl trivial rfl rfl) rfl ?_;rintro v1 w1 ⟨o1,kC,h1⟩;have g0:=g0.rQ kC rfl;refine WL.p (.slice (aa a) m q) rfl rfl ?_;refine WL.step (OW.append (K:=[]) Gy.1 hT rfl rfl h1 (@fJ.flat (D 11) _ ayg _ _ _ _ _ g0.dp) hr rfl) rfl ?_;rintro v2 w2 ⟨o2,mL,h2⟩;refine WL.p v2 rfl rfl ?_;refine WL.nx lJ ?_;exact CW.mA (vs:=[v2]) results95 ⟨rfl,trivial⟩ ⟨_,rfl,qQ (n:=11) (e:=117) (q:=1000) (K:=[]) (M:=[1000]) (N:=[1000]) rfl rfl rfl (by simp) (by simp) ((kC.weaken (by simp) (by simp)).trans mL) h2 (λx hx=>by simp at hx<;>omega)⟩ (λ_ _ h=>h)
def GQ(a0:List Event):Option (List Event):=bD [] a0
def Xd:az D:=⟨96,[gj],[gj],pf,[],iS,[(1000,.sl 12 202 0 [])],λh=>GQ h⟩
def agc:CK Xd:=by
 refine⟨call96,rfl,rfl,rfl,rfl,λoo r0 mH fp eU has nP γ w vs hv _=>?_⟩;cases has;match vs,hv with
 |[],hv=>exact hv.elim
 |_::_::_,hv=>exact hv.2.elim
 |[v],hv=>
 obtain⟨xs,eJ⟩:∃xs:List (D 12),xs=oo:=⟨_,rfl⟩;obtain⟨r,jA⟩:∃r:List (D 12),r=r0:=⟨_,rfl⟩;have g0:Rv (In γ.o [0]) w v xs:=by rw[eJ];exact hv.1.1
 have hr:bD ([]:List (D 12)) xs=aa r:=by rw[eJ,jA];exact mH
 subst jA;have hT:=Gx.2;refine enter (l:=[v]) func96 rfl ntmps96 rfl ?_;refine CW.sub (L':=[(0,v)]) ⟨rfl,trivial⟩ ?_;refine CW.sr λK1 ir=>?_;refine WL.p (.slice none 0 0) rfl rfl ?_;refine WL.nx ir ?_;refine CW.seq λK2 iL=>?_;refine CW.sr λK3 mc=>?_;refine WL.p v rfl rfl ?_;obtain⟨a,m,q,rfl,hn⟩:=Ab g0;refine WL.lW (OW.isNil Gx.1 rfl) rfl ?_;refine WL.nx mc ?_;cases a with
 |none=>refine CW.cond (b:=ab) rfl (λ_=>?_) (λh=>nomatch h);refine CW.sr λK4 nW=>?_;refine WL.p (.slice none 0 0) rfl rfl ?_;refine WL.nx nW ?_;rw[hn rfl]at hr;obtain rfl:=B9 hr;exact CW.mA (vs:=[.slice none 0 0]) results96 ⟨rfl,trivial⟩ ⟨_,rfl,qQ (n:=12) (e:=202) (q:=1000) (K:=[]) (M:=[]) (N:=[]) rfl rfl rfl (by simp) (by simp) (bJ.refl _ _ γ.o w) (Ow.nil _ _ _ _ _) (λx hx=>by simp at hx<;>omega)⟩ (λ_ _ h=>h)
 |some a=>refine CW.cond (b:=ae) rfl (λh=>nomatch h) (λ_=>?_);refine CW.skip ?_;refine iL _ _ ?_;refine CW.sr λK5 lJ=>?_;refine WL.step (OW.buildSlice (o:=γ.o) (k:=1000) (K:=[]) (xs:=([]:List (D 12))) Gx.1 hT rfl trivial rfl rfl) rfl ?_;rintro v1 w1 ⟨o1,kC,h1⟩;have g0:=g0.rQ kC rfl;refine WL.p (.slice (aa a) m q) rfl rfl ?_;refine WL.step (OW.append (K:=[]) Gx.1 hT rfl rfl h1 (@fJ.flat (D 12) _ ayf _ _ _ _ _ g0.dp) hr rfl) rfl ?_;rintro v2 w2 ⟨o2,mL,h2⟩;refine WL.p v2 rfl rfl ?_;refine WL.nx lJ ?_;exact CW.mA (vs:=[v2]) results96 ⟨rfl,trivial⟩ ⟨_,rfl,qQ (n:=12) (e:=202) (q:=1000) (K:=[]) (M:=[1000]) (N:=[1000]) rfl rfl rfl (by simp) (by simp) ((kC.weaken (by simp) (by simp)).trans mL) h2 (λx hx=>by simp at hx<;>omega)⟩ (λ_ _ h=>h)
def Mi(a0:au)(a1:cH):Option (Int×Int×List cL×List Source×List Consumer×Int×rc):=(rh a1.aw).bind λx1=>(GP a1.pU).bind λx2=>(GQ a1.rZ).bind λx3=>aa (a1.Time,a0.aA,a0.ah,a0.aj,a0.ay,a0.bn,a0.a_,x1.1,x1.2.1,x1.2.2.1,x1.2.2.2,x2,x3)
def c88:az D:=⟨88,[qi,db,dN,dz,qi,qi,qi,cq,cN,aL,bh,fN,gj],[qi,qi,db,dN,dz,qi,qi,cq,cN,aL,bh,fN,gj],[.agg [bB,bR,bI,bU,cr,bQ],.agg [ep,km,mX,rm,Aj,.h 11 [0],.h 12 [0]]],[],kK,[(1000,.box [bB,.own 1001,.own 1002,.own 1003,.own 1004,.own 1005,.own 1006,bp,bI,bU,ei,bQ,ep,.bH,.bH]),(1001,.sl 1 4 7 []),(1002,.sl 9 163 8 []),(1003,.sl 0 3 9 []),(1004,.sl 10 80 10 []),(1005,.sl 11 117 11 []),(1006,.sl 12 202 12 [])],λh=>let g:=h.2.2.2.2.2.2;Mi (qb h) ⟨g.1,⟨g.2.1,g.2.2.1,g.2.2.2.1,g.2.2.2.2.1⟩,g.2.2.2.2.2.1,g.2.2.2.2.2.2⟩⟩
def azL:CK c88:=fo [Xe,Xd,v5] [.tmp 4] .o ⟨agd,agc,xy,q0⟩ func88
def wL(a0:au)(a1:Int)(a2:Int):Option (Bool):=(if(a1==1)=ab then aa (len a0.aj)else(if(a1==2)=ab then aa (len a0.ah)else(if(a1==3)=ab then aa a0.aA else(if(a1==4)=ab then aa (len a0.ay)else aa 0).bind aa).bind aa).bind aa).bind λx4=>(if ak (a2>=0)=ab then aa (ak (a2<x4))else aa ae).bind aa
def aiq:az D:=⟨242,QX,[.lf .bool],[.agg [bB,bR,bI,bU,cr,bQ],Ah,.one (ib)],[],z5,[],λh=>wL (qb h) h.2.2.2.2.2.2.1 h.2.2.2.2.2.2.2⟩
def aBB:CK aiq:=fo [] [.tmp 6] (qn (qw (qw (qn (qp ⟨z8,uP,[],[],2832⟩ .o (qn (qp ⟨z8,uP,[],[],3088⟩ .o (qn (qp ⟨z8,uP,[],[],3344⟩ .o (qn (qp ⟨z8,uP,[],[],3600⟩ .o .o)))))))) .o) (qm (qt 6 2897) .o))) trivial func242
def LS(a0:au)(a1:Act):Option (Bool):=(if(a1.Kind==1)=ab then aa (a1.Kind==1)else aa (a1.Kind==2)).bind λx1=>if x1=ab then(wL a0 2 a1.Unit).bind aa else(if(a1.Kind==3)=ab then aa (a1.Kind==3)else aa (a1.Kind==4)).bind λx2=>if x2=ab then(wL a0 1 a1.Unit).bind aa else if(a1.Kind==5)=ab then(wL a0 4 a1.Unit).bind aa else if(a1.Kind==6)=ab then((wL a0 1 a1.Unit).bind λx5=>if x5=ab then(wL a0 3 a1.Value).bind aa else aa ae).bind aa else(if(a1.Kind==8)=ab then aa (a1.Kind==8)else aa (a1.Kind==9)).bind λx3=>if x3=ab then(wL a0 a1.Value a1.Unit).bind aa else aa ab
def ai3:az D:=⟨201,Y9,[.lf .bool],Zv,[],z5,[],λh=>LS (qb h) ⟨h.2.2.2.2.2.2.1,h.2.2.2.2.2.2.2.1,h.2.2.2.2.2.2.2.2⟩⟩
def aB_:CK ai3:=fo [aiq] [.tmp 4] (qw (qw (qm (qn (qu 7 2960 .o .o)) (qw (qn (qu 14 3281 .o .o)) (qv (qn (qw (qm (qt 4 3858) .o) (qm (qn (qu 39 4114 .o .o)) .o)))))) .o) .o) ⟨aBB,q0⟩ func201
def tr(a0:aw)(a1:Int)(a2:Int):Option (Bool):=(GL a0.aP (Part.mk a1 a2)).bind aa
def Fe:az D:=⟨156,[cq,cN,aL,bh,qi,qi],[.lf .bool],[.agg [bS,bR,bI,bU],DF,.one (bQ)],[],z5,[],λh=>tr ⟨h.1,h.2.1,h.2.2.1,h.2.2.2.1⟩ h.2.2.2.2.1 h.2.2.2.2.2⟩
def Jh:CK Fe:=fo [Xh] [.tmp 6] .o ⟨ags,q0⟩ func156
def Jz(a0:au)(a1:aw)(a2:Int):Option (Int×Bool):=(pS a0 a1).bind λx1=>if(x1 !=0)=ab then aa (0,ae)else(Jr a0 a1 a2).bind aa
def XO:az D:=⟨154,z1,uR,z4,[],fB,[],λh=>let g:=h.2.2.2.2.2.2;Jz (qb h) ⟨g.1,g.2.1,g.2.2.1,g.2.2.2.1⟩ g.2.2.2.2⟩
def ajD:CK XO:=fo [rU,XJ] [.tmp 6,.tmp 7] .o ⟨tq,ai9,q0⟩ func154
def aav(a0:au)(a1:aw)(a2:Int):Option (Bool):=(idx a0.ah a2).bind λx1=>((idx a1.aE a2).bind λx2=>if x2=ab then aa ab else(tr a1 2 a2).bind λx3=>if x3=ab then aa ab else(tr a1 3 x1.A).bind aa).bind λx5=>if x5=ab then aa ae else if(x1.Kind==1)=ab then(tr a1 3 x1.B).bind λbF=>aa !bF else if(x1.Kind==2)=ab then((tr a1 1 x1.B).bind λx9=>if(!x9)=ab then(idx a1.aj x1.B).bind λbb=>aa (bb.State==2)else aa ae).bind aa else(Jz a0 a1 x1.B).bind λx6=>((tr a1 4 x1.B).bind λx7=>if(!x7)=ab then aa !x6.2 else aa ae).bind aa
def ahr:az D:=⟨298,z1,[.lf .bool],z4,[],z5,[],λh=>let g:=h.2.2.2.2.2.2;aav (qb h) ⟨g.1,g.2.1,g.2.2.1,g.2.2.2.1⟩ g.2.2.2.2⟩
def aAM:CK ahr:=fo [XO,Fe] [.tmp 6] (qn (qw (qm (qt 30 3344) .o) (qm (qw (qv (qw (qm (qt 6 4177) .o) .o)) .o) (qw (qt 6 5457) .o)))) ⟨ajD,Jh,q0⟩ func298
def zm(a2:Int)(x1:List bz):Int->Option (Int⊕Unit⊕Km):=λx2=>if ak (x2<len x1)=ab then(idx x1 x2).bind λx3=>(yc x3.aA a2).bind λx4=>if x4=ab then aa (.inr (.inr (x3.aA,x3.aj,x3.ay,ab)))else aa (.inl (W (x2+1)))else aa (.inr (.inl ()))
def xB(a0:au)(a1:aw)(a2:Int):Option (Km):=(zn a0 a1).bind λx1=>(aG (zm a2 x1) 0).bind λx5=>cQ (λx6=>aa ([],[],[],ae)) (aa) x5
def BZ:az D:=⟨212,z1,[aL,aL,aL,.lf .bool],z4,[],[.agg [.h 0 [1],.h 1 [1],.h 2 [1]],sC],[],λh=>let g:=h.2.2.2.2.2.2;xB (qb h) ⟨g.1,g.2.1,g.2.2.1,g.2.2.2.1⟩ g.2.2.2.2⟩
def Fb:CK BZ:=fo [Py,Jf] [.cell 6 248,.tmp 7] (qw (qw (.loop ⟨z8,[(14,aN)],[(2256,.box [.bH,.bH,.bH])],[2256],3216⟩ ae [(.exit 0,⟨[],[],[(2256,.box [.bH,.bH,.bH])],[2256],3216⟩)] .o) .o) .o) ⟨XQ,Pv,q0⟩ func212
def Kz(a0:au)(a1:aw)(a2:Int):Option (Int×Bool):=(xB a0 a1 a2).bind λx1=>if(len x1.2.1==0)=ab then aa (0,ae)else(idx x1.2.1 0).bind λx2=>aa (x2,ab)
def Xt:az D:=⟨280,z1,uR,z4,[],fB,[],λh=>let g:=h.2.2.2.2.2.2;Kz (qb h) ⟨g.1,g.2.1,g.2.2.1,g.2.2.2.1⟩ g.2.2.2.2⟩
def ahI:CK Xt:=fo [BZ] [.tmp 6,.tmp 7] .o ⟨Fb,q0⟩ func280
def v8(a0:Int):Option (Int):=(lA a0 3600).bind λx1=>(if ak (x1<0)=ab then aa (W (x1+3600))else aa x1).bind aa
def Fa:az D:=⟨294,z8,z8,z5,[],z5,[],λh=>v8 h⟩
def Jc:CK Fa:=fo [] [.tmp 2] (qn (qw (qn (qp ⟨z8,[(0,aN)],[],[],2832⟩ .o .o)) .o)) trivial func294
def akL(a0:Int)(a1:Int):Option (Int):=(v8 a1).bind λx1=>(v8 a0).bind λx2=>(v8 (W (x1-x2))).bind λx3=>(if ak (x3>1800)=ab then aa (W (x3-3600))else aa x3).bind aa
def ahb:az D:=⟨316,z9,z8,fB,[],z5,[],λh=>akL h.1 h.2⟩
def aAy:CK ahb:=fo [Fa] [.tmp 4] (qn (qw (qn (qp ⟨z8,pi,[],[],3344⟩ .o .o)) .o)) ⟨Jc,q0⟩ func316
def Rw(a0:au)(a1:bu)(a2:bu):Option (Bool):=(if ak (eD a1.a_ a2.a_<0)=ab then aa ab else aa (ak (imax a1.a_ a2.a_>6000))).bind λx1=>if x1=ab then aa ae else(akL a1.bn a2.bn).bind λx2=>(if ak (imax (W (a1.a_-a2.a_)) (W (a2.a_-a1.a_))<=a0.a_)=ab then aa (ak (imax x2 (W (-x2))<=a0.bn))else aa ae).bind aa
def ahf:az D:=⟨310,[qi,db,dN,dz,qi,qi,qi,qi,qi,qi,qi,qi,qi,qi],[.lf .bool],[.agg [bB,bR,bI,bU,cr,bQ],.agg [ep,ib,tN,qj],.agg [kS,nK,mY,rn]],[],z5,[],λh=>let g:=h.2.2.2.2.2.2;Rw (qb h) ⟨g.1,g.2.1,g.2.2.1,g.2.2.2.1⟩ ⟨g.2.2.2.2.1,g.2.2.2.2.2.1,g.2.2.2.2.2.2.1,g.2.2.2.2.2.2.2⟩⟩
def aAC:CK ahf:=fo [ahb] [.tmp 6] (qw (qm (qt 22 2576) .o) (qn (qw (qt 6 4945) .o))) ⟨aAy,q0⟩ func310
def aau(a0:au)(a1:aw)(a2:cL):Option (Bool):=(Kz a0 a1 a2.A).bind λx1=>if(!x1.2)=ab then aa ab else if(a2.Kind==1)=ab then(Kz a0 a1 a2.B).bind λx5=>(if(!x5.2)=ab then aa ab else(idx a1.aj x1.1).bind λx6=>(idx a1.aj x5.1).bind λx7=>(Rw a0 x6 x7).bind aa).bind aa else if(a2.Kind==2)=ab then(idx a1.aj x1.1).bind λx2=>(idx a1.aj a2.B).bind λx3=>(Rw a0 x2 x3).bind aa else aa ab
def ahq:az D:=⟨299,Ze,[.lf .bool],[.agg [bB,bR,bI,bU,cr,bQ],.agg [jL,km,mX,rm],.agg [kS,nK,mY]],[],z5,[],λh=>let g:=h.2.2.2.2.2.2;aau (qb h) ⟨g.1,g.2.1,g.2.2.1,g.2.2.2.1⟩ ⟨g.2.2.2.2.1,g.2.2.2.2.2.1,g.2.2.2.2.2.2⟩⟩
def aAL:CK ahq:=fo [Xt,ahf] [.tmp 6] (qv (qw (qw (qw (qw (qt 6 5904) .o) .o) .o) .o)) ⟨ahI,aAC,q0⟩ func299
def aay(a0:au)(a1:aw)(a2:Int):Option (Int):=(pS a0 a1).bind λx1=>if(x1 !=0)=ab then aa x1 else(if ak (a2<0)=ab then aa ab else aa (ak (a2>=len a0.ah))).bind λx2=>if x2=ab then aa 10 else(aav a0 a1 a2).bind λx3=>if(!x3)=ab then aa 11 else(idx a0.ah a2).bind λx4=>(xB a0 a1 x4.A).bind λx5=>(if(x4.Kind==1)=ab then(yc x5.1 x4.B).bind aa else aa ae).bind λx7=>(if(!x7)=ab then(aau a0 a1 x4).bind λx8=>aa !x8 else aa ae).bind λx9=>if x9=ab then aa 12 else aa 0
def ahK:az D:=⟨279,z1,z8,z4,[],z5,[],λh=>let g:=h.2.2.2.2.2.2;aay (qb h) ⟨g.1,g.2.1,g.2.2.1,g.2.2.2.1⟩ g.2.2.2.2⟩
def aA1:CK ahK:=fo [rU,Jf,BZ,ahr,ahq] [.tmp 6] (qw (qw (qn (qw (qt 19 3344) .o)) .o) (qn (qw (qt 11 6481) (qm (qm (qt 66 6546) .o) .o)))) ⟨tq,Pv,Fb,aAM,aAL,q0⟩ func279
def aaA(a0:au)(a1:aw)(a2:Int):Option (Int×ov):=(aay a0 a1 a2).bind λx1=>if(x1 !=0)=ab then aa (x1,[],[],[],[])else(rh a1).bind λx2=>(idx x2.1 a2).bind λx3=>(idx x2.1 a2).bind λx4=>(dq x2.1 a2 ab).bind λx5=>(zU a0 (aw.mk x5 x2.2.1 x2.2.2.1 x2.2.2.2)).bind aa
def aip:az D:=⟨243,z1,zL,z4,[],zK,zN,λh=>let g:=h.2.2.2.2.2.2;aaA (qb h) ⟨g.1,g.2.1,g.2.2.1,g.2.2.2.1⟩ g.2.2.2.2⟩
def aBA:CK aip:=fo [Pd,v5,ahK] [.cell 6 65,.tmp 7] .o ⟨Xg,xy,aA1,q0⟩ func243
def aax(a0:au)(a1:aw)(a2:Int):Option (Int×ov):=(pS a0 a1).bind λx1=>if(x1 !=0)=ab then aa (x1,[],[],[],[])else(if ak (a2<0)=ab then aa ab else aa (ak (a2>=len a0.ah))).bind λx2=>if x2=ab then aa (10,[],[],[],[])else((idx a1.aE a2).bind λx3=>if(!x3)=ab then aa ab else(tr a1 2 a2).bind aa).bind λx5=>if x5=ab then aa (11,[],[],[],[])else(rh a1).bind λx6=>(idx x6.1 a2).bind λx7=>(idx x6.1 a2).bind λx8=>(dq x6.1 a2 ae).bind λx9=>aa (0,x9,x6.2)
def aio:az D:=⟨244,z1,zL,z4,[],zK,zN,λh=>let g:=h.2.2.2.2.2.2;aax (qb h) ⟨g.1,g.2.1,g.2.2.1,g.2.2.2.1⟩ g.2.2.2.2⟩
def aBz:CK aio:=fo [rU,v5,Fe] [.cell 6 65,.tmp 7] (qw (qw (qn (qw (qt 18 3472) (qw (qt 29 3537) .o))) .o) .o) ⟨tq,xy,Jh,q0⟩ func244
def akx(a0:au)(a1:aw)(a2:Int):Option (Int×Bool):=(pS a0 a1).bind λx1=>if(x1 !=0)=ab then aa (0,ae)else(Js a0 a1 a2).bind aa
def ahH:az D:=⟨281,z1,uR,z4,[],fB,[],λh=>let g:=h.2.2.2.2.2.2;akx (qb h) ⟨g.1,g.2.1,g.2.2.1,g.2.2.2.1⟩ g.2.2.2.2⟩
def aAZ:CK ahH:=fo [rU,XK] [.tmp 6,.tmp 7] .o ⟨tq,ai_,q0⟩ func281
def aaz(a0:au)(a1:aw)(a2:Int)(a3:Int):Option (Int×ov):=(pS a0 a1).bind λx1=>if(x1 !=0)=ab then aa (x1,[],[],[],[])else(if ak (a2<0)=ab then aa ab else if ak (a2>=len a0.aj)=ab then aa ab else if ak (a3<0)=ab then aa ab else aa (ak (a3>=a0.aA))).bind λx2=>if x2=ab then aa (10,[],[],[],[])else(Kz a0 a1 a3).bind λx3=>(if(!x3.2)=ab then aa ab else(idx a1.aj a2).bind λx4=>aa (x4.State !=2)).bind λx5=>if x5=ab then aa (11,[],[],[],[])else(rh a1).bind λx6=>(akx a0 a1 a2).bind λx7=>(if x7.2=ab then(xB a0 a1 x7.1).bind λx8=>aa x8.2.1 else aa [a2]).bind λx9=>(idx a1.aj x3.1).bind λbb=>(Gs (aw.mk x6.1 x6.2.1 x6.2.2.1 x6.2.2.2) x9 bb).bind λbi=>aa (0,x6.1,bi,x6.2.2)
def ain:az D:=⟨245,J',zL,Y',[],zK,zN,λh=>let g:=h.2.2.2.2.2.2;aaz (qb h) ⟨g.1,g.2.1,g.2.2.1,g.2.2.2.1⟩ g.2.2.2.2.1 g.2.2.2.2.2⟩
def aBy:CK ain:=fo [rU,v5,XP,BZ,Xt,ahH] [.cell 8 65,.tmp 9] (qn (qw (qm (qt 44 3344) .o) (qw (qm (qt 63 4561) .o) (qn (qw (qv (qp ⟨fm,[(14,.one (.h 0 [1]))],[],[5202],6802⟩ .o .o)) .o))))) ⟨tq,xy,ajV,Fb,ahI,aAZ,q0⟩ func245
def abo(a0:cL)(a1:Int):Option (Bool):=(if(a0.Kind==2)=ab then aa (a0.B==a1)else aa ae).bind aa
def ahd:az D:=⟨312,Q6,[.lf .bool],[.agg [bB,bp,cf],.one (.rp 3 0 [0])],[],z5,[],λh=>abo ⟨h.1,h.2.1,h.2.2.1⟩ h.2.2.2⟩
def aAA:CK ahd:=fo [] [.tmp 3] (qw (qt 3 2320) .o) trivial func312
def apC(a0:List cL)(a1:Int):Int->Option (Int⊕Unit⊕Int):=λx1=>if ak (x1<len a0)=ab then(idx a0 x1).bind λx2=>(abo x2 a1).bind λx3=>if x3=ab then aa (.inr (.inr x1))else aa (.inl (W (x1+1)))else aa (.inr (.inl ()))
def aaV(a0:List cL)(a1:Int):Option (Int):=(aG (apC a0 a1) 0).bind λx4=>cQ (λx5=>aa (-1)) (aa) x4
def ahe:az D:=⟨311,[db,.el 0],z8,[.one (bS),.one (.fn 312 [.rp 1 0 [0]])],[],z5,[],λh=>aaV h.1 h.2⟩
def aAB:CK ahe:=fo [ahd] [.tmp 4] z3 ⟨aAA,q0⟩ func311
def abp(a0:au)(a1:Int):Option (Int):=(aaV a0.ah a1).bind aa
def ahn:az D:=⟨300,Zz,z8,[.agg [bB,bR,bI,bU,cr,bQ],Ah],[],z5,[],λh=>abp (qb h) h.2.2.2.2.2.2⟩
def aAI:CK ahn:=fo [ahe] [.tmp 4] .o ⟨aAB,q0⟩ func300
def Gk(a0:ou)(a1:Int):Option (Bool):=(abp a0.aR a1).bind λx1=>(idx a0.bl.aE x1).bind λx2=>aa !x2
def Po:az D:=⟨282,[.el 31,qi],[.lf .bool],[.one (.rp 0 31 [0]),Ai],[],z5,[],λh=>Gk h.1 h.2⟩
def Xs:CK Po:=fo [ahn] [.tmp 4] .o ⟨aAI,q0⟩ func282
def aoE(a1:aw):Int×List bu->Option (Int×List bu⊕List bu):=λx3=>if ak (x3.1<len a1.aj)=ab then(idx a1.aj x3.1).bind λx4=>(if(x4.State==2)=ab then(v8 (W (x4.bn+W (36*W (x4.a_-5000))))).bind λx5=>(idx x3.2 x3.1).bind λx6=>(idx x3.2 x3.1).bind λx7=>(dq x3.2 x3.1 (bu.mk x7.State x7.gX x7.a_ x5)).bind aa else aa x3.2).bind λx9=>aa (.inl (W (x3.1+1),x9))else aa (.inr x3.2)
def aaw(a0:au)(a1:aw):Option (Int×ov):=(pS a0 a1).bind λx1=>if(x1 !=0)=ab then aa (x1,[],[],[],[])else(rh a1).bind λx2=>(aG (aoE a1) (0,x2.2.1)).bind λbb=>aa (0,x2.1,bb,x2.2.2)
def ahG:az D:=⟨283,tB,zL,uS,[],zK,zN,λh=>let g:=h.2.2.2.2.2.2;aaw (qb h) ⟨g.1,g.2.1,g.2.2.1,g.2.2.2⟩⟩
def aAY:CK ahG:=fo [rU,v5,Fa] [.cell 4 65,.tmp 5] (qv (qw (qw (.loop ⟨zH,[(22,aN)],[(3417,.sl 9 163 1 [])],[3417],4368⟩ ab [(.exit 0,⟨nG,[],[(3417,.sl 9 163 0 [])],[3417],4368⟩)] Y_) .o) .o)) ⟨tq,xy,Jc,q0⟩ func283
def G5(a0:Part)(a1:Part):Option (Int):=if(a0.Kind !=a1.Kind)=ab then aa (W (a0.Kind-a1.Kind))else aa (W (a0.Number-a1.Number))
def ahE:az D:=⟨285,pj,z8,J8,[],z5,[],λh=>G5 ⟨h.1,h.2.1⟩ ⟨h.2.2.1,h.2.2.2⟩⟩
def aAW:CK ahE:=fo [] [.tmp 4] .o trivial func285
def Sd(a0:List Part)(a1:Part):Int×Int->Option (Int×Int⊕Int):=λx1=>if ak (x1.1<x1.2)=ab then(wI 64 (rA IntKind.u64 (W (x1.1+x1.2))) 1).bind λx2=>(idx a0 (W x2)).bind λx3=>(G5 x3 a1).bind λx4=>(if ak (x4<0)=ab then aa (W (W x2+1),x1.2)else aa (x1.1,W x2)).bind λx5=>aa (.inl x5)else aa (.inr x1.1)
def Ls(a0:List Part)(a1:Part):Option (Int×Bool):=(aG (Sd a0 a1) (0,len a0)).bind λx6=>(if ak (x6<len a0)=ab then(idx a0 x6).bind λx7=>(G5 x7 a1).bind λx8=>aa (x6,x8==0)else aa (x6,ae)).bind aa
def ahF:az D:=⟨284,xO,uR,[.one (bS),.agg [bp,cf],.one (.fn 285 [])],[],fB,[],λh=>Ls h.1 ⟨h.2.1,h.2.2⟩⟩
def aAX:CK ahF:=fo [ahE] [.tmp 6,.tmp 7] (qv (qw (qm (.loop ⟨z9,[(9,aN),(10,dE)],[],[],3216⟩ ab [(.exit 0,⟨z8,uQ,[],[],3216⟩)] (qw (qv (qp ⟨z9,[(9,aN),(10,dE)],[],[],5586⟩ .o .o)) .o)) .o) (qm (qr ⟨uR,[(6,aN),(7,dE)],[],[],3281⟩) .o))) ⟨aAW,q0⟩ func284
