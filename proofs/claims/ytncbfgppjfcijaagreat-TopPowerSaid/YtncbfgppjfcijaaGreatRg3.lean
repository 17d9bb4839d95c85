import Derived.Test.YtncbfgppjfcijaaGreatRt
import Derived.Test.YtncbfgppjfcijaaGreatHc
import Derived.Test.YtncbfgppjfcijaaGreatRg2
set_option linter.unusedVariables false
set_option maxRecDepth 100000
open Sum renaming elim→aqU
noncomputable section
namespace Go.Proofs.YtncbfgppjfcijaaGreat
open Go Go.RowKit Dp
namespace Rx
def JL(a0:List Bool):Option (List Bool):=bq [] a0
def YF:ar D:=⟨158,mB,mB,lE,[],jc,[(1000,.sl 1 4 0 [])],fun h=>JL h⟩
theorem anZ:CK YF:=by
 refine⟨Tryz.call158,rfl,rfl,rfl,rfl,fun ko r0 jm dA di has j_ γ w vs hv _=> ?_⟩
 cases has
 match vs,hv with
 |[],hv=>exact hv.elim
 |_::_::_,hv=>exact hv.2.elim
 |[v],hv=>
 obtain⟨xs,dj⟩:∃xs:List (D 1),xs=ko:=⟨_,rfl⟩
 obtain⟨r,fR⟩:∃r:List (D 1),r=r0:=⟨_,rfl⟩
 have g0:Rv (In γ.o [0]) w v xs:=by rw[dj];exact hv.1.1
 have hr:bq ([]:List (D 1)) xs=some r:=by rw[dj,fR];exact jm
 subst fR
 have hT:=zR.2
 refine enter (l:=[v]) Tryz.func158 rfl Tryz.ntmps158 rfl ?_
 refine CW.sub (L':=[(0,v)]) ⟨rfl,trivial⟩ ?_
 refine CW.sr fun K1 fc=> ?_
 refine WL.p (.slice none 0 0) rfl rfl ?_
 refine WL.nx fc ?_
 refine CW.seq fun K2 fU=> ?_
 refine CW.sr fun K3 iX=> ?_
 refine WL.p v rfl rfl ?_
 obtain⟨a,m,q,rfl,hn⟩:=ui g0
 refine WL.gC (OW.isNil zR.1 rfl) rfl ?_
 refine WL.nx iX ?_
 cases a with
 |none=>
  refine CW.cond (b:=true) rfl (fun _=> ?_) (fun h=>nomatch h)
  refine CW.sr fun K4 jJ=> ?_
  refine WL.p (.slice none 0 0) rfl rfl ?_
  refine WL.nx jJ ?_
  rw[hn rfl] at hr
  obtain rfl:=vX hr
  exact CW.jg (vs:=[.slice none 0 0]) Tryz.results158 ⟨rfl,trivial⟩ ⟨_,rfl,mc (n:=1) (e:=4) (q:=1000) (K:=[]) (M:=[]) (N:=[]) rfl rfl rfl (by simp) (by simp) (ba.refl _ _ γ.o w) (Ow.nil _ _ _ _ _) (fun x hx=>by simp at hx<;>omega)⟩ (fun _ _ h=>h)
 |some a=>
  refine CW.cond (b:=false) rfl (fun h=>nomatch h) (fun _=> ?_)
  refine CW.skip ?_
  refine fU _ _ ?_
  refine CW.sr fun K5 ki=> ?_
  refine WL.step (OW.buildSlice (o:=γ.o) (k:=1000) (K:=[]) (xs:=([]:List (D 1))) zR.1 hT rfl trivial rfl rfl) rfl ?_
  rintro v1 w1 ⟨o1,g9,h1⟩
  have g0:=g0.m9 g9 rfl
  refine WL.p (.slice (some a) m q) rfl rfl ?_
  refine WL.step (OW.append (K:=[]) zR.1 hT rfl rfl h1 (@dM.flat (D 1) _ akr _ _ _ _ _ g0.bS) hr rfl) rfl ?_
  rintro v2 w2 ⟨o2,da,h2⟩
  refine WL.p v2 rfl rfl ?_
  refine WL.nx ki ?_
  exact CW.jg (vs:=[v2]) Tryz.results158 ⟨rfl,trivial⟩ ⟨_,rfl,mc (n:=1) (e:=4) (q:=1000) (K:=[]) (M:=[1000]) (N:=[1000]) rfl rfl rfl (by simp) (by simp) ((g9.weaken (by simp) (by simp)).trans da) h2 (fun x hx=>by simp at hx<;>omega)⟩ (fun _ _ h=>h)
def JM(a0:List aC):Option (List aC):=bq [] a0
def YE:ar D:=⟨159,kn,kn,lE,[],jc,[(1000,.sl 10 148 0 [])],fun h=>JM h⟩
theorem anY:CK YE:=by
 refine⟨Tryz.call159,rfl,rfl,rfl,rfl,fun ko r0 jm dA di has j_ γ w vs hv _=> ?_⟩
 cases has
 match vs,hv with
 |[],hv=>exact hv.elim
 |_::_::_,hv=>exact hv.2.elim
 |[v],hv=>
 obtain⟨xs,dj⟩:∃xs:List (D 10),xs=ko:=⟨_,rfl⟩
 obtain⟨r,fR⟩:∃r:List (D 10),r=r0:=⟨_,rfl⟩
 have g0:Rv (In γ.o [0]) w v xs:=by rw[dj];exact hv.1.1
 have hr:bq ([]:List (D 10)) xs=some r:=by rw[dj,fR];exact jm
 subst fR
 have hT:=zQ.2
 refine enter (l:=[v]) Tryz.func159 rfl Tryz.ntmps159 rfl ?_
 refine CW.sub (L':=[(0,v)]) ⟨rfl,trivial⟩ ?_
 refine CW.sr fun K1 fc=> ?_
 refine WL.p (.slice none 0 0) rfl rfl ?_
 refine WL.nx fc ?_
 refine CW.seq fun K2 fU=> ?_
 refine CW.sr fun K3 iX=> ?_
 refine WL.p v rfl rfl ?_
 obtain⟨a,m,q,rfl,hn⟩:=ui g0
 refine WL.gC (OW.isNil zQ.1 rfl) rfl ?_
 refine WL.nx iX ?_
 cases a with
 |none=>
  refine CW.cond (b:=true) rfl (fun _=> ?_) (fun h=>nomatch h)
  refine CW.sr fun K4 jJ=> ?_
  refine WL.p (.slice none 0 0) rfl rfl ?_
  refine WL.nx jJ ?_
  rw[hn rfl] at hr
  obtain rfl:=vX hr
  exact CW.jg (vs:=[.slice none 0 0]) Tryz.results159 ⟨rfl,trivial⟩ ⟨_,rfl,mc (n:=10) (e:=148) (q:=1000) (K:=[]) (M:=[]) (N:=[]) rfl rfl rfl (by simp) (by simp) (ba.refl _ _ γ.o w) (Ow.nil _ _ _ _ _) (fun x hx=>by simp at hx<;>omega)⟩ (fun _ _ h=>h)
 |some a=>
  refine CW.cond (b:=false) rfl (fun h=>nomatch h) (fun _=> ?_)
  refine CW.skip ?_
  refine fU _ _ ?_
  refine CW.sr fun K5 ki=> ?_
  refine WL.step (OW.buildSlice (o:=γ.o) (k:=1000) (K:=[]) (xs:=([]:List (D 10))) zQ.1 hT rfl trivial rfl rfl) rfl ?_
  rintro v1 w1 ⟨o1,g9,h1⟩
  have g0:=g0.m9 g9 rfl
  refine WL.p (.slice (some a) m q) rfl rfl ?_
  refine WL.step (OW.append (K:=[]) zQ.1 hT rfl rfl h1 (@dM.flat (D 10) _ akq _ _ _ _ _ g0.bS) hr rfl) rfl ?_
  rintro v2 w2 ⟨o2,da,h2⟩
  refine WL.p v2 rfl rfl ?_
  refine WL.nx ki ?_
  exact CW.jg (vs:=[v2]) Tryz.results159 ⟨rfl,trivial⟩ ⟨_,rfl,mc (n:=10) (e:=148) (q:=1000) (K:=[]) (M:=[1000]) (N:=[1000]) rfl rfl rfl (by simp) (by simp) ((g9.weaken (by simp) (by simp)).trans da) h2 (fun x hx=>by simp at hx<;>omega)⟩ (fun _ _ h=>h)
def wP(a0:List Int):Option (List Int):=bq [] a0
def OL:ar D:=⟨160,dC,dC,lE,[],jc,mz,fun h=>wP h⟩
theorem YB:CK OL:=by
 refine⟨Tryz.call160,rfl,rfl,rfl,rfl,fun ko r0 jm dA di has j_ γ w vs hv _=> ?_⟩
 cases has
 match vs,hv with
 |[],hv=>exact hv.elim
 |_::_::_,hv=>exact hv.2.elim
 |[v],hv=>
 obtain⟨xs,dj⟩:∃xs:List (D 0),xs=ko:=⟨_,rfl⟩
 obtain⟨r,fR⟩:∃r:List (D 0),r=r0:=⟨_,rfl⟩
 have g0:Rv (In γ.o [0]) w v xs:=by rw[dj];exact hv.1.1
 have hr:bq ([]:List (D 0)) xs=some r:=by rw[dj,fR];exact jm
 subst fR
 have hT:=zS.2
 refine enter (l:=[v]) Tryz.func160 rfl Tryz.ntmps160 rfl ?_
 refine CW.sub (L':=[(0,v)]) ⟨rfl,trivial⟩ ?_
 refine CW.sr fun K1 fc=> ?_
 refine WL.p (.slice none 0 0) rfl rfl ?_
 refine WL.nx fc ?_
 refine CW.seq fun K2 fU=> ?_
 refine CW.sr fun K3 iX=> ?_
 refine WL.p v rfl rfl ?_
 obtain⟨a,m,q,rfl,hn⟩:=ui g0
 refine WL.gC (OW.isNil zS.1 rfl) rfl ?_
 refine WL.nx iX ?_
 cases a with
 |none=>
  refine CW.cond (b:=true) rfl (fun _=> ?_) (fun h=>nomatch h)
  refine CW.sr fun K4 jJ=> ?_
  refine WL.p (.slice none 0 0) rfl rfl ?_
  refine WL.nx jJ ?_
  rw[hn rfl] at hr
  obtain rfl:=vX hr
  exact CW.jg (vs:=[.slice none 0 0]) Tryz.results160 ⟨rfl,trivial⟩ ⟨_,rfl,mc (n:=0) (e:=3) (q:=1000) (K:=[]) (M:=[]) (N:=[]) rfl rfl rfl (by simp) (by simp) (ba.refl _ _ γ.o w) (Ow.nil _ _ _ _ _) (fun x hx=>by simp at hx<;>omega)⟩ (fun _ _ h=>h)
 |some a=>
  refine CW.cond (b:=false) rfl (fun h=>nomatch h) (fun _=> ?_)
  refine CW.skip ?_
  refine fU _ _ ?_
  refine CW.sr fun K5 ki=> ?_
  refine WL.step (OW.buildSlice (o:=γ.o) (k:=1000) (K:=[]) (xs:=([]:List (D 0))) zS.1 hT rfl trivial rfl rfl) rfl ?_
  rintro v1 w1 ⟨o1,g9,h1⟩
  have g0:=g0.m9 g9 rfl
  refine WL.p (.slice (some a) m q) rfl rfl ?_
  refine WL.step (OW.append (K:=[]) zS.1 hT rfl rfl h1 (@dM.flat (D 0) _ aks _ _ _ _ _ g0.bS) hr rfl) rfl ?_
  rintro v2 w2 ⟨o2,da,h2⟩
  refine WL.p v2 rfl rfl ?_
  refine WL.nx ki ?_
  exact CW.jg (vs:=[v2]) Tryz.results160 ⟨rfl,trivial⟩ ⟨_,rfl,mc (n:=0) (e:=3) (q:=1000) (K:=[]) (M:=[1000]) (N:=[1000]) rfl rfl rfl (by simp) (by simp) ((g9.weaken (by simp) (by simp)).trans da) h2 (fun x hx=>by simp at hx<;>omega)⟩ (fun _ _ h=>h)
def JO(a0:List Part):Option (List Part):=bq [] a0
def YA:ar D:=⟨161,[.lf (.sl 11)],[.lf (.sl 11)],lE,[],jc,[(1000,.sl 11 177 0 [])],fun h=>JO h⟩
theorem anX:CK YA:=by
 refine⟨Tryz.call161,rfl,rfl,rfl,rfl,fun ko r0 jm dA di has j_ γ w vs hv _=> ?_⟩
 cases has
 match vs,hv with
 |[],hv=>exact hv.elim
 |_::_::_,hv=>exact hv.2.elim
 |[v],hv=>
 obtain⟨xs,dj⟩:∃xs:List (D 11),xs=ko:=⟨_,rfl⟩
 obtain⟨r,fR⟩:∃r:List (D 11),r=r0:=⟨_,rfl⟩
 have g0:Rv (In γ.o [0]) w v xs:=by rw[dj];exact hv.1.1
 have hr:bq ([]:List (D 11)) xs=some r:=by rw[dj,fR];exact jm
 subst fR
 have hT:=qz.2
 refine enter (l:=[v]) Tryz.func161 rfl Tryz.ntmps161 rfl ?_
 refine CW.sub (L':=[(0,v)]) ⟨rfl,trivial⟩ ?_
 refine CW.sr fun K1 fc=> ?_
 refine WL.p (.slice none 0 0) rfl rfl ?_
 refine WL.nx fc ?_
 refine CW.seq fun K2 fU=> ?_
 refine CW.sr fun K3 iX=> ?_
 refine WL.p v rfl rfl ?_
 obtain⟨a,m,q,rfl,hn⟩:=ui g0
 refine WL.gC (OW.isNil qz.1 rfl) rfl ?_
 refine WL.nx iX ?_
 cases a with
 |none=>
  refine CW.cond (b:=true) rfl (fun _=> ?_) (fun h=>nomatch h)
  refine CW.sr fun K4 jJ=> ?_
  refine WL.p (.slice none 0 0) rfl rfl ?_
  refine WL.nx jJ ?_
  rw[hn rfl] at hr
  obtain rfl:=vX hr
  exact CW.jg (vs:=[.slice none 0 0]) Tryz.results161 ⟨rfl,trivial⟩ ⟨_,rfl,mc (n:=11) (e:=177) (q:=1000) (K:=[]) (M:=[]) (N:=[]) rfl rfl rfl (by simp) (by simp) (ba.refl _ _ γ.o w) (Ow.nil _ _ _ _ _) (fun x hx=>by simp at hx<;>omega)⟩ (fun _ _ h=>h)
 |some a=>
  refine CW.cond (b:=false) rfl (fun h=>nomatch h) (fun _=> ?_)
  refine CW.skip ?_
  refine fU _ _ ?_
  refine CW.sr fun K5 ki=> ?_
  refine WL.step (OW.buildSlice (o:=γ.o) (k:=1000) (K:=[]) (xs:=([]:List (D 11))) qz.1 hT rfl trivial rfl rfl) rfl ?_
  rintro v1 w1 ⟨o1,g9,h1⟩
  have g0:=g0.m9 g9 rfl
  refine WL.p (.slice (some a) m q) rfl rfl ?_
  refine WL.step (OW.append (K:=[]) qz.1 hT rfl rfl h1 (@dM.flat (D 11) _ Nz _ _ _ _ _ g0.bS) hr rfl) rfl ?_
  rintro v2 w2 ⟨o2,da,h2⟩
  refine WL.p v2 rfl rfl ?_
  refine WL.nx ki ?_
  exact CW.jg (vs:=[v2]) Tryz.results161 ⟨rfl,trivial⟩ ⟨_,rfl,mc (n:=11) (e:=177) (q:=1000) (K:=[]) (M:=[1000]) (N:=[1000]) rfl rfl rfl (by simp) (by simp) ((g9.weaken (by simp) (by simp)).trans da) h2 (fun x hx=>by simp at hx<;>omega)⟩ (fun _ _ h=>h)
def lJ(a0:ae):Option (List Bool×List aC×List Int×List Part):=(JL a0.aq).bind fun x1=>(JM a0.aa).bind fun x2=>(wP a0.aE).bind fun x3=>(JO a0.aA).bind fun x4=>some (x1,x2,x3,x4)
def jM:ar D:=⟨100,zp,zp,[.agg [.h 0 [0],.h 1 [0],.h 2 [0],.h 3 [0]]],[],I1,II,fun h=>lJ ⟨h.1,h.2.1,h.2.2.1,h.2.2.2⟩⟩
theorem nh:CK jM:=fo [YF,YE,OL,YA] [.cell 2 38] .o ⟨anZ,anY,YB,anX,trivial⟩ Tryz.call100 Tryz.func100 rfl rfl
def CD(x1:List Int):Int×List Int→Option (Int×List Int⊕List Int):=fun x2=>if decide (x2.1<len x1)=true then(idx x2.2 x2.1).bind fun x3=>(idx x2.2 x2.1).bind fun x4=>(cm x2.2 x2.1 x2.1).bind fun x5=>some (.inl (W (x2.1+1),x5)) else some (.inr x2.2)
def CB(a0:aj)(a1:ae):Int×List Int→Option (Int×List Int⊕List Int):=fun x8=>if decide (x8.1<len a0.ad)=true then(idx a0.ad x8.1).bind fun x9=>(if(x9.Kind==1)=true then(idx a1.aq x8.1).bind some else some false).bind fun aN=>(if aN=true then(idx x8.2 x9.A).bind fun aM=>(idx x8.2 x9.B).bind fun aY=>(idx x8.2 x9.A).bind fun bO=>(idx x8.2 x9.A).bind fun aS=>(cm x8.2 x9.A (dx aM aY)).bind fun bj=>(idx bj x9.B).bind fun bw=>(idx bj x9.B).bind fun cK=>(cm bj x9.B (dx aM aY)).bind some else some x8.2).bind fun cu=>some (.inl (W (x8.1+1),cu)) else some (.inr x8.2)
def CC(a0:aj)(a1:ae)(x6:List Int):Int×List Int→Option (Int×List Int⊕List Int):=fun x7=>if decide (x7.1<len x6)=true then(ay (CB a0 a1) (0,x7.2)).bind fun e_=>some (.inl (W (x7.1+1),e_)) else some (.inr x7.2)
def HJ(a0:aj)(a1:ae):Option (List Int):=(jC 0 a0.ak).bind fun x1=>(ay (CD x1) (0,x1)).bind fun x6=>(ay (CC a0 a1 x6) (0,x6)).bind some
def Yw:ar D:=⟨169,z4,dC,z9,[],jc,mz,fun h=>let g:=h.2.2.2.2.2.2;HJ ⟨h.1,h.2.1,h.2.2.1,h.2.2.2.1,h.2.2.2.2.1,h.2.2.2.2.2.1⟩ ⟨g.1,g.2.1,g.2.2.1,g.2.2.2⟩⟩
theorem anT:CK Yw:=fo [] [.tmp 4] (.n none .o (.n none .o (.n none (.n none .o (.n none (.loop ⟨iu,[(15,.one (.h 0 []))],[(2320,.sl 0 3 1 [])],[2320],2704⟩ true [(.exit 0,⟨dC,[],[(2320,.sl 0 3 0 [])],[2320],2704⟩)] .o) .o)) (.n none (.n none .o (.n none (.loop ⟨iu,[(25,.one (.h 0 []))],[(2320,.sl 0 3 1 [])],[2320],2961⟩ true [(.exit 2,⟨dC,[],[(2320,.sl 0 3 0 [])],[2320],2961⟩)] (.n none .o (.n none .o (.n none (.n none (.n none .o (.n none (.loop ⟨iu,[(30,.one (.h 0 []))],[(2320,.sl 0 3 1 [])],[2320],3347⟩ true [(.exit 4,⟨dC,[],[(2320,.sl 0 3 0 [])],[2320],3347⟩)] (.n none .o (.n none .o (.n none (.n none (.n none .o (.n none (.r (some (true,[(.normal,⟨[.lf .bool],[(39,.one (.any)),(40,.one (.any)),(41,.one (.any)),(42,.one (.any)),(43,.one (.any)),(44,.one (.h 0 []))],[],[],3861⟩)])) .nil) (.n (some (true,[(.normal,⟨dC,[],[(2320,.sl 0 3 0 [])],[2320],3926⟩)])) .o .o))) .o) .o)))) .o)) .o) .o)))) .o)) .o)))) trivial Tryz.call169 Tryz.func169 rfl rfl
def yX(a0:aj)(a1:ae)(a2:Int)(a3:Int):Int→Option (Int⊕Unit⊕Int×Bool):=fun x1=>if decide (x1<len a0.ad)=true then(idx a0.ad x1).bind fun x2=>(if(x2.Kind==a2)=true then if(x2.B==a3)=true then(idx a1.aq x1).bind some else some false else some false).bind fun x4=>if x4=true then some (.inr (.inr (x2.A,true))) else some (.inl (W (x1+1))) else some (.inr (.inl ()))
def CA(a0:aj)(a1:ae)(a2:Int)(a3:Int):Option (Int×Bool):=(ay (yX a0 a1 a2 a3) 0).bind fun x5=>aqU (fun x6=>some (0,false)) (some) x5
def OQ:ar D:=⟨141,zw,kR,IS,[],dD,[],fun h=>let g:=h.2.2.2.2.2.2;CA ⟨h.1,h.2.1,h.2.2.1,h.2.2.2.1,h.2.2.2.2.1,h.2.2.2.2.2.1⟩ ⟨g.1,g.2.1,g.2.2.1,g.2.2.2.1⟩ g.2.2.2.2.1 g.2.2.2.2.2⟩
theorem YR:CK OQ:=fo [] [.tmp 8,.tmp 9] (.n none .o (.n none (.n none .o (.n none (.loop ⟨z8,[(15,.one (.h 0 []))],[],[],2576⟩ false [(.exit 0,⟨[],[],[],[],2576⟩)] (.n none .o (.n none .o (.n none (.n none (.n none .o (.n none (.r (some (true,[(.normal,⟨[.lf .bool],[(25,.one (.any)),(26,.one (.any)),(27,.one (.any)),(28,.one (.any)),(31,.one (.any)),(32,.one (.any)),(33,.one (.any)),(34,.one (.any)),(35,.one (.any)),(36,.one (.h 0 []))],[],[],3089⟩)])) .nil) .o)) .o) .o)))) .o)) .o)) trivial Tryz.call141 Tryz.func141 rfl rfl
def CF(a0:aj)(a1:ae)(a2:Int):Option (Int×Bool):=((gp a2 0 (W (len a1.aa-1))).bind fun x1=>if(!x1)=true then some true else(idx a1.aa a2).bind fun x2=>some (x2.State !=2)).bind fun x3=>if x3=true then some (0,false) else(CA a0 a1 2 a2).bind fun x4=>some (x4.1,x4.2)
def OK:ar D:=⟨170,z0,kR,z2,[],dD,[],fun h=>let g:=h.2.2.2.2.2.2;CF ⟨h.1,h.2.1,h.2.2.1,h.2.2.2.1,h.2.2.2.2.1,h.2.2.2.2.2.1⟩ ⟨g.1,g.2.1,g.2.2.1,g.2.2.2.1⟩ g.2.2.2.2⟩
theorem Yv:CK OK:=fo [rk,OQ] [.tmp 6,.tmp 7] (.n none .o (.n none (.n none (.r (some (true,[(.normal,⟨[.lf .bool],[(23,.one (.h 0 []))],[],[],2320⟩)])) .nil) .o) .o)) ⟨s8,YR,trivial⟩ Tryz.call170 Tryz.func170 rfl rfl
def CE(a0:aj)(a1:ae)(a2:Int):Option (Int×Bool):=(CA a0 a1 3 a2).bind fun x1=>some (x1.1,x1.2)
def Og:ar D:=⟨87,z0,kR,z2,[],dD,[],fun h=>let g:=h.2.2.2.2.2.2;CE ⟨h.1,h.2.1,h.2.2.1,h.2.2.2.1,h.2.2.2.2.1,h.2.2.2.2.2.1⟩ ⟨g.1,g.2.1,g.2.2.1,g.2.2.2.1⟩ g.2.2.2.2⟩
theorem Wc:CK Og:=fo [OQ] [.tmp 6,.tmp 7] .o ⟨YR,trivial⟩ Tryz.call87 Tryz.func87 rfl rfl
def CL(a0:aR):Option (Bool):=some (len a0.ak==0)
def OJ:ar D:=⟨172,[.lf (.sl 0),.lf (.sl 0),.lf (.sl 0)],[.lf .bool],[.agg [.h 0 [0],.h 1 [0],.h 2 [0]]],[],z7,[],fun h=>CL ⟨h.1,h.2.1,h.2.2⟩⟩
theorem Yt:CK OJ:=fo [] [.tmp 2] .o trivial Tryz.call172 Tryz.func172 rfl rfl
def wI(a0:List aR):Int→Option (Int⊕Unit⊕Int):=fun x1=>if decide (x1<len a0)=true then(idx a0 x1).bind fun x2=>(CL x2).bind fun x3=>if x3=true then some (.inr (.inr x1)) else some (.inl (W (x1+1))) else some (.inr (.inl ()))
def JC(a0:List aR):Option (Int):=(ay (wI a0) 0).bind fun x4=>aqU (fun x5=>some (-1)) (some) x4
def Yx:ar D:=⟨168,lH,z8,[.one (.h 0 [0]),.one (.fn 172 [])],[],z7,[],fun h=>JC h⟩
theorem anU:CK Yx:=fo [OJ] [.tmp 4] z3 ⟨Yt,trivial⟩ Tryz.call168 Tryz.func168 rfl rfl
def D1:Int×Int×List aR→Option (Int×Int×List aR⊕Int×List aR):=fun x2=>if decide (x2.2.1<len x2.2.2)=true then(idx x2.2.2 x2.2.1).bind fun x3=>(CL x3).bind fun x4=>(if(!x4)=true then(idx x2.2.2 x2.1).bind fun x5=>(idx x2.2.2 x2.1).bind fun x6=>(cm x2.2.2 x2.1 x3).bind fun x7=>some (W (x2.1+1),x7) else some (x2.1,x2.2.2)).bind fun x8=>some (.inl (x8.1,W (x2.2.1+1),x8.2)) else some (.inr (x2.1,x2.2.2))
def D2(a0:List aR):Option (List aR):=(JC a0).bind fun x1=>if(x1==(-1))=true then some a0 else(ay D1 (x1,W (x1+1),a0)).bind fun x9=>(dV x9.2 x9.1 (len x9.2)).bind fun aH=>(dV (nS (aR.mk [] [] []) x9.2 x9.1) 0 x9.1).bind some
def Yu:ar D:=⟨171,lH,lH,[.one (.own 1000),.one (.fn 172 [])],[(1000,.sl 15 172 0 [0])],[.one (.own 1001)],[(1001,.sl 15 172 0 [0])],fun h=>D2 h⟩
theorem anR:CK Yu:=fo [Yx,OJ] [.tmp 4] (.n none .o (.n none .o (.n none .o (.n none (.n none .o (.n none (.loop ⟨[.lf (.int .i64),.lf (.int .i64),.lf (.sl 15)],[(5,.one (.h 0 [])),(6,.one (.h 1 []))],[(1000,.sl 15 172 2 [0])],[1000],2704⟩ true [(.exit 0,⟨wk,rC,[(1000,.sl 15 172 1 [0])],[1000],2704⟩)] (.n none .o (.n none (.n none (.n none .o (.n none .o (.n (some (true,[(.normal,⟨wk,rC,[(1000,.sl 15 172 1 [0])],[1000],3667⟩)])) .o .o))) .o) .o))) .o)) .o)))) ⟨anU,Yt,trivial⟩ Tryz.call171 Tryz.func171 rfl rfl
def CJ(x2:List Int):Int×List aR→Option (Int×List aR⊕List aR):=fun x4=>if decide (x4.1<len x2)=true then(idx x2 x4.1).bind fun x5=>(idx x4.2 x5).bind fun x6=>(idx x4.2 x5).bind fun x7=>(idx x4.2 x5).bind fun x8=>(bq x8.ak [x4.1]).bind fun x9=>(cm x4.2 x5 (aR.mk x9 x8.aa x8.ai)).bind fun aH=>(idx aH x5).bind fun aN=>(sR x5 x5).bind fun aM=>some (.inl (W (x4.1+1),aH)) else some (.inr x4.2)
def CI(a0:aj)(a1:ae)(x2:List Int):Int×List aR→Option (Int×List aR⊕List aR):=fun bO=>if decide (bO.1<len a0.aa)=true then(CF a0 a1 bO.1).bind fun aS=>(if aS.2=true then(idx x2 aS.1).bind fun bj=>(idx x2 aS.1).bind fun bw=>(idx bO.2 bw).bind fun cK=>(idx bO.2 bw).bind fun db=>(idx bO.2 bw).bind fun cu=>(bq cu.aa [bO.1]).bind fun e_=>(cm bO.2 bw (aR.mk cu.ak e_ cu.ai)).bind fun gT=>(idx gT bj).bind fun iw=>(sR bj bw).bind fun dI=>some gT else some bO.2).bind fun jv=>some (.inl (W (bO.1+1),jv)) else some (.inr bO.2)
def CH(a0:aj)(a1:ae)(x2:List Int):Int×List aR→Option (Int×List aR⊕List aR):=fun ga=>if decide (ga.1<len a0.ai)=true then(CE a0 a1 ga.1).bind fun hG=>(if hG.2=true then(idx x2 hG.1).bind fun jd=>(idx x2 hG.1).bind fun jV=>(idx ga.2 jV).bind fun kS=>(idx ga.2 jV).bind fun n_=>(idx ga.2 jV).bind fun qq=>(bq qq.ai [ga.1]).bind fun nr=>(cm ga.2 jV (aR.mk qq.ak qq.aa nr)).bind fun mE=>(idx mE jd).bind fun mD=>(sR jd jV).bind fun Dh=>some mE else some ga.2).bind fun tZ=>some (.inl (W (ga.1+1),tZ)) else some (.inr ga.2)
def rm(a0:aj)(a1:ae):Option (List aR):=(lB a0 a1).bind fun x1=>if(x1 !=0)=true then some [] else(HJ a0 a1).bind fun x2=>(jC (aR.mk [] [] []) a0.ak).bind fun x3=>(ay (CJ x2) (0,x3)).bind fun aY=>(ay (CI a0 a1 x2) (0,aY)).bind fun jW=>(ay (CH a0 a1 x2) (0,jW)).bind fun zC=>(D2 zC).bind some
def tq:ar D:=⟨108,z4,lH,z9,[],jc,[(1000,.sl 15 172 0 [1])],fun h=>let g:=h.2.2.2.2.2.2;rm ⟨h.1,h.2.1,h.2.2.1,h.2.2.2.1,h.2.2.2.2.1,h.2.2.2.2.2.1⟩ ⟨g.1,g.2.1,g.2.2.1,g.2.2.2⟩⟩
theorem Cu:CK tq:=fo [gn,Og,Yw,OK,Yu] [.tmp 4] (.n none .o (.n none .o (.n none .o (.n none .o (.n none (.n none .o (.n none (.loop ⟨wk,[(27,.one (.h 0 []))],[(2832,.bU 15 172 3 0 1)],[2832],3216⟩ true [(.exit 0,⟨lH,[],[(2832,.bU 15 172 3 0 0)],[2832],3216⟩)] .o) .o)) (.n none (.n none .o (.n none (.loop ⟨wk,[(48,.one (.h 0 []))],[(2832,.bU 15 172 3 0 1)],[2832],3537⟩ true [(.exit 2,⟨lH,[],[(2832,.bU 15 172 3 0 0)],[2832],3537⟩)] (.n none .o (.n none .o (.n none (.n none (.n none .o (.n none .o (.n none .o (.n (some (true,[(.normal,⟨lH,[],[(2832,.bU 15 172 3 0 0)],[2832],4435⟩)])) .o .o)))) .o) .o)))) .o)) (.n none (.n none .o (.n none (.loop ⟨wk,[(81,.one (.h 0 []))],[(2832,.bU 15 172 3 0 1)],[2832],3858⟩ true [(.exit 4,⟨lH,[],[(2832,.bU 15 172 3 0 0)],[2832],3858⟩)] (.n none .o (.n none .o (.n none (.n none (.n none .o (.n none .o (.n none .o (.n (some (true,[(.normal,⟨lH,[],[(2832,.bU 15 172 3 0 0)],[2832],4756⟩)])) .o .o)))) .o) .o)))) .o)) (.n none (.r none (.rF 1 [2832] .nil)) .o)))))))) ⟨kK,Wc,anT,Yv,anR,trivial⟩ Tryz.call108 Tryz.func108 rfl rfl
def zH(a1:List Int)(a2:aC):Int×List aC→Option (Int×List aC⊕List aC):=fun x1=>if decide (x1.1<len a1)=true then(idx a1 x1.1).bind fun x2=>(idx x1.2 x2).bind fun x3=>(idx x1.2 x2).bind fun x4=>(cm x1.2 x2 (aC.mk x4.State x4.ew a2.aB x4.aG)).bind fun x5=>(idx x5 x2).bind fun x6=>(idx x5 x2).bind fun x7=>(cm x5 x2 (aC.mk x7.State x7.ew x7.aB a2.aG)).bind fun x8=>some (.inl (W (x1.1+1),x8)) else some (.inr x1.2)
def wx(a0:ae)(a1:List Int)(a2:aC):Option (List aC):=(ay (zH a1 a2) (0,a0.aa)).bind some
def OI:ar D:=⟨179,[.lf (.sl 1),.lf (.sl 10),.lf (.sl 0),.lf (.sl 11),.lf (.sl 0),.lf (.int .i64),.lf (.int .i64),.lf (.int .i64),.lf (.int .i64)],kn,[.agg [.h 0 [0],.own 1000,.h 2 [0],.h 3 [0]],.one (.h 4 [0]),.agg [.h 5 [],.h 6 [],.h 7 [],.h 8 []]],[(1000,.sl 10 148 1 [])],[],[(1000,.sl 10 148 0 [])],fun h=>wx ⟨h.1,h.2.1,h.2.2.1,h.2.2.2.1⟩ h.2.2.2.2.1 ⟨h.2.2.2.2.2.1,h.2.2.2.2.2.2.1,h.2.2.2.2.2.2.2.1,h.2.2.2.2.2.2.2.2⟩⟩
theorem Yo:CK OI:=fo [] [] (.n none .o (.n none .o (.n none (.loop ⟨tL,tT,[(1000,.sl 10 148 1 [])],[1000],2384⟩ true [(.exit 0,⟨kn,[],[(1000,.sl 10 148 0 [])],[1000],2384⟩)] .o) .o))) trivial Tryz.call179 Tryz.func179 rfl rfl
def DF(a1:ae)(x2:List Bool×List aC×List Int×List Part)(x3:List aR):Int×List aC→Option (Int×List aC⊕List aC):=fun x4=>if decide (x4.1<len x3)=true then(idx x3 x4.1).bind fun x5=>(if decide (len x5.aa>0)=true then(idx x5.aa 0).bind fun x6=>(idx a1.aa x6).bind fun x7=>(wx (ae.mk x2.1 x4.2 x2.2.2.1 x2.2.2.2) x5.aa x7).bind some else some x4.2).bind fun x9=>some (.inl (W (x4.1+1),x9)) else some (.inr x4.2)
def rH(a0:aj)(a1:ae):Option (Int×List Bool×List aC×List Int×List Part):=(lB a0 a1).bind fun x1=>if(x1 !=0)=true then some (x1,[],[],[],[]) else(lJ a1).bind fun x2=>(rm a0 a1).bind fun x3=>(ay (DF a1 x2 x3) (0,x2.2.1)).bind fun aH=>some (0,x2.1,aH,x2.2.2.1,x2.2.2.2)
def Hv:ar D:=⟨113,z4,rA,z9,[],tO,tQ,fun h=>let g:=h.2.2.2.2.2.2;rH ⟨h.1,h.2.1,h.2.2.1,h.2.2.2.1,h.2.2.2.2.1,h.2.2.2.2.2.1⟩ ⟨g.1,g.2.1,g.2.2.1,g.2.2.2⟩⟩
theorem OX:CK Hv:=fo [gn,jM,tq,OI] [.cell 4 38,.tmp 5] (.n none .o (.n none .o (.n none .o (.n none (.n none .o (.n none (.loop ⟨tL,[(23,.one (.h 0 []))],[(2713,.sl 10 148 1 [])],[2713],3280⟩ true [(.exit 0,⟨kn,[],[(2713,.sl 10 148 0 [])],[2713],3280⟩)] PV) .o)) .o)))) ⟨kK,nh,Cu,Yo,trivial⟩ Tryz.call113 Tryz.func113 rfl rfl
def uk(a0:fL):Option (Bool):=(if decide (a0.Stop≥1)=true then if decide (a0.Stop≤99)=true then if decide (a0.Start>a0.Stop)=true then if decide (a0.Start≤100)=true then if decide (a0.pb≥0)=true then some (decide (a0.pb≤600)) else some false else some false else some false else some false else some false).bind some
def rj:ar D:=⟨91,mA,[.lf .bool],rz,[],z7,[],fun h=>uk ⟨h.1,h.2.1,h.2.2⟩⟩
theorem Cj:CK rj:=fo [] [.tmp 2] zv trivial Tryz.call91 Tryz.func91 rfl rfl
def wM(a0:List Bool)(a1:List Bool):Int→Option (Int⊕Unit⊕Bool):=fun x1=>if decide (x1<len a0)=true then(idx a0 x1).bind fun x2=>(idx a1 x1).bind fun x3=>if(!x2==x3)=true then some (.inr (.inr false)) else some (.inl (W (x1+1))) else some (.inr (.inl ()))
def DU(a0:List Bool)(a1:List Bool):Option (Bool):=if(len a0 !=len a1)=true then some false else(ay (wM a0 a1) 0).bind fun x4=>aqU (fun x5=>some true) (some) x4
def YJ:ar D:=⟨150,[.lf (.sl 1),.lf (.sl 1)],[.lf .bool],[.one (.h 0 [0]),.one (.h 1 [0])],[],z7,[],fun h=>DU h.1 h.2⟩
theorem an4:CK YJ:=fo [] [.tmp 4] De trivial Tryz.call150 Tryz.func150 rfl rfl
def wN(a0:List aC)(a1:List aC):Int→Option (Int⊕Unit⊕Bool):=fun x1=>if decide (x1<len a0)=true then(idx a0 x1).bind fun x2=>(idx a1 x1).bind fun x3=>if(!(x2.State==x3.State&&(x2.ew==x3.ew&&(x2.aB==x3.aB&&x2.aG==x3.aG))))=true then some (.inr (.inr false)) else some (.inl (W (x1+1))) else some (.inr (.inl ()))
def DW(a0:List aC)(a1:List aC):Option (Bool):=if(len a0 !=len a1)=true then some false else(ay (wN a0 a1) 0).bind fun x4=>aqU (fun x5=>some true) (some) x4
def YI:ar D:=⟨151,[.lf (.sl 10),.lf (.sl 10)],[.lf .bool],[.one (.h 0 [0]),.one (.h 1 [0])],[],z7,[],fun h=>DW h.1 h.2⟩
theorem an3:CK YI:=fo [] [.tmp 4] De trivial Tryz.call151 Tryz.func151 rfl rfl
def wL(a0:List Int)(a1:List Int):Int→Option (Int⊕Unit⊕Bool):=fun x1=>if decide (x1<len a0)=true then(idx a0 x1).bind fun x2=>(idx a1 x1).bind fun x3=>if(x2 !=x3)=true then some (.inr (.inr false)) else some (.inl (W (x1+1))) else some (.inr (.inl ()))
def DT(a0:List Int)(a1:List Int):Option (Bool):=if(len a0 !=len a1)=true then some false else(ay (wL a0 a1) 0).bind fun x4=>aqU (fun x5=>some true) (some) x4
def YH:ar D:=⟨152,[.lf (.sl 0),.lf (.sl 0)],[.lf .bool],[.one (.h 0 [0]),.one (.h 1 [0])],[],z7,[],fun h=>DT h.1 h.2⟩
theorem an2:CK YH:=fo [] [.tmp 4] De trivial Tryz.call152 Tryz.func152 rfl rfl
def wO(a0:List Part)(a1:List Part):Int→Option (Int⊕Unit⊕Bool):=fun x1=>if decide (x1<len a0)=true then(idx a0 x1).bind fun x2=>(idx a1 x1).bind fun x3=>if(!(x2.Kind==x3.Kind&&x2.Number==x3.Number))=true then some (.inr (.inr false)) else some (.inl (W (x1+1))) else some (.inr (.inl ()))
def DX(a0:List Part)(a1:List Part):Option (Bool):=if(len a0 !=len a1)=true then some false else(ay (wO a0 a1) 0).bind fun x4=>aqU (fun x5=>some true) (some) x4
def YG:ar D:=⟨153,[.lf (.sl 11),.lf (.sl 11)],[.lf .bool],[.one (.h 0 [0]),.one (.h 1 [0])],[],z7,[],fun h=>DX h.1 h.2⟩
theorem an1:CK YG:=fo [] [.tmp 4] De trivial Tryz.call153 Tryz.func153 rfl rfl
def zM(a0:ae)(a1:ae):Option (Bool):=((DU a0.aq a1.aq).bind fun x1=>if x1=true then(DW a0.aa a1.aa).bind fun x2=>if x2=true then(DT a0.aE a1.aE).bind fun x3=>if x3=true then(DX a0.aA a1.aA).bind some else some false else some false else some false).bind some
def yJ:ar D:=⟨95,[.lf (.sl 1),.lf (.sl 10),.lf (.sl 0),.lf (.sl 11),.lf (.sl 1),.lf (.sl 10),.lf (.sl 0),.lf (.sl 11)],[.lf .bool],[.agg [.h 0 [0],.h 1 [0],.h 2 [0],.h 3 [0]],.agg [.h 4 [0],.h 5 [0],.h 6 [0],.h 7 [0]]],[],z7,[],fun h=>zM ⟨h.1,h.2.1,h.2.2.1,h.2.2.2.1⟩ ⟨h.2.2.2.2.1,h.2.2.2.2.2.1,h.2.2.2.2.2.2.1,h.2.2.2.2.2.2.2⟩⟩
theorem Of:CK yJ:=fo [YJ,YI,YH,YG] [.tmp 4] IJ ⟨an4,an3,an2,an1,trivial⟩ Tryz.call95 Tryz.func95 rfl rfl
def ES(a0:Int)(a1:Int)(a2:List Bool)(a3:List aC)(a4:List Int)(a5:List Part)(a6:List bf)(a7:List Event):Option (Bool×Int×List Bool×List aC×List Int×List Part×List bf×List Event):=(if decide (a0≥(-1))=true then some (decide (a0≤a1)) else some false).bind fun x1=>some (x1,a1,a2,a3,a4,a5,a6,a7)
def Zk:ar D:=⟨114,IP,zu,[.one (.h 0 []),.one (.ptr 1000 0)],[(1000,.box [.h 1 [],.h 2 [0],.h 3 [0],.h 4 [0],.h 5 [0],.h 6 [0],.h 7 [0]])],z7,[(1000,.box [.h 1 [],.h 2 [0],.h 3 [0],.h 4 [0],.h 5 [0],.h 6 [0],.h 7 [0]])],fun h=>ES h.1 h.2.1 h.2.2.1 h.2.2.2.1 h.2.2.2.2.1 h.2.2.2.2.2.1 h.2.2.2.2.2.2.1 h.2.2.2.2.2.2.2⟩
theorem aoB:CK Zk:=fo [] [.tmp 3] Qj trivial Tryz.call114 Tryz.func114 rfl rfl
def ER(a0:bf)(a1:Int)(a2:List Bool)(a3:List aC)(a4:List Int)(a5:List Part)(a6:List bf)(a7:List Event):Option (Bool×Int×List Bool×List aC×List Int×List Part×List bf×List Event):=((ES a0.eD a1 a2 a3 a4 a5 a6 a7).bind fun x1=>if(!x1.1)=true then some (true,x1.2.1,x1.2.2.1,x1.2.2.2.1,x1.2.2.2.2.1,x1.2.2.2.2.2.1,x1.2.2.2.2.2.2.1,x1.2.2.2.2.2.2.2) else(ES a0.eY x1.2.1 x1.2.2.1 x1.2.2.2.1 x1.2.2.2.2.1 x1.2.2.2.2.2.1 x1.2.2.2.2.2.2.1 x1.2.2.2.2.2.2.2).bind fun x2=>some (!x2.1,x2.2.1,x2.2.2.1,x2.2.2.2.1,x2.2.2.2.2.1,x2.2.2.2.2.2.1,x2.2.2.2.2.2.2.1,x2.2.2.2.2.2.2.2)).bind fun x3=>some (x3.1,x3.2.1,x3.2.2.1,x3.2.2.2.1,x3.2.2.2.2.1,x3.2.2.2.2.2.1,x3.2.2.2.2.2.2.1,x3.2.2.2.2.2.2.2)
def Zi:ar D:=⟨116,[.lf (.int .i64),.lf (.int .i64),.lf (.int .i64),.lf (.sl 1),.lf (.sl 10),.lf (.sl 0),.lf (.sl 11),.lf (.sl 12),.lf (.sl 13)],zu,[.agg [.h 0 [],.h 1 []],.one (.ptr 1000 0)],[(1000,.box [.fn 114 [.ptr 1001 0]]),(1001,.box [.h 2 [],.h 3 [0],.h 4 [0],.h 5 [0],.h 6 [0],.h 7 [0],.h 8 [0]])],z7,wh,fun h=>ER ⟨h.1,h.2.1⟩ h.2.2.1 h.2.2.2.1 h.2.2.2.2.1 h.2.2.2.2.2.1 h.2.2.2.2.2.2.1 h.2.2.2.2.2.2.2.1 h.2.2.2.2.2.2.2.2⟩
theorem aoz:CK Zi:=fo [Zk] [.tmp 3] (.n none .o (.n none (.r (some (true,[(.normal,⟨zu,[(3,.one (.h 0 []))],[(1001,.box [.h 1 [],.h 2 [0],.h 3 [0],.h 4 [0],.h 5 [0],.h 6 [0],.h 7 [0]])],[1001],2192⟩)])) .nil) .o)) ⟨aoB,trivial⟩ Tryz.call116 Tryz.func116 rfl rfl
def zX(a0:List bf):Int×Int×List Bool×List aC×List Int×List Part×List bf×List Event→Option (Int×Int×List Bool×List aC×List Int×List Part×List bf×List Event⊕Int×List Bool×List aC×List Int×List Part×List bf×List Event⊕Int×Int×List Bool×List aC×List Int×List Part×List bf×List Event):=fun x1=>if decide (x1.1<len a0)=true then(idx a0 x1.1).bind fun x2=>(ER x2 x1.2.1 x1.2.2.1 x1.2.2.2.1 x1.2.2.2.2.1 x1.2.2.2.2.2.1 x1.2.2.2.2.2.2.1 x1.2.2.2.2.2.2.2).bind fun x3=>if x3.1=true then some (.inr (.inr (x1.1,x3.2.1,x3.2.2.1,x3.2.2.2.1,x3.2.2.2.2.1,x3.2.2.2.2.2.1,x3.2.2.2.2.2.2.1,x3.2.2.2.2.2.2.2))) else some (.inl (W (x1.1+1),x3.2.1,x3.2.2.1,x3.2.2.2.1,x3.2.2.2.2.1,x3.2.2.2.2.2.1,x3.2.2.2.2.2.2.1,x3.2.2.2.2.2.2.2)) else some (.inr (.inl (x1.2.1,x1.2.2.1,x1.2.2.2.1,x1.2.2.2.2.1,x1.2.2.2.2.2.1,x1.2.2.2.2.2.2.1,x1.2.2.2.2.2.2.2)))
def JB(a0:List bf)(a1:Int)(a2:List Bool)(a3:List aC)(a4:List Int)(a5:List Part)(a6:List bf)(a7:List Event):Option (Int×Int×List Bool×List aC×List Int×List Part×List bf×List Event):=(ay (zX a0) (0,a1,a2,a3,a4,a5,a6,a7)).bind fun x4=>aqU (fun x5=>some ((-1),x5.1,x5.2.1,x5.2.2.1,x5.2.2.2.1,x5.2.2.2.2.1,x5.2.2.2.2.2.1,x5.2.2.2.2.2.2)) (some) x4
def Yn:ar D:=⟨180,Qh,IP,[.one (.h 0 [0]),.one (.fn 116 [.ptr 1000 0])],wh,z7,wh,fun h=>JB h.1 h.2.1 h.2.2.1 h.2.2.2.1 h.2.2.2.2.1 h.2.2.2.2.2.1 h.2.2.2.2.2.2.1 h.2.2.2.2.2.2.2⟩
theorem anM:CK Yn:=fo [Zi] [.tmp 4] (.n none .o (.n none (.n none .o (.n none (.loop ⟨IP,n9,wh,[1000,1001],2320⟩ false [(.exit 0,⟨[.lf (.int .i64),.lf (.sl 1),.lf (.sl 10),.lf (.sl 0),.lf (.sl 11),.lf (.sl 12),.lf (.sl 13)],[],[(1000,.box [.fn 114 [.ptr 1001 0]]),(1001,.box [.h 0 [],.h 1 [0],.h 2 [0],.h 3 [0],.h 4 [0],.h 5 [0],.h 6 [0]])],[1000,1001],2320⟩)] .o) .o)) .o)) ⟨aoz,trivial⟩ Tryz.call180 Tryz.func180 rfl rfl
def D7(a0:List bf)(a1:Int)(a2:List Bool)(a3:List aC)(a4:List Int)(a5:List Part)(a6:List bf)(a7:List Event):Option (Bool×Int×List Bool×List aC×List Int×List Part×List bf×List Event):=(JB a0 a1 a2 a3 a4 a5 a6 a7).bind fun x1=>some (decide (x1.1≥0),x1.2.1,x1.2.2.1,x1.2.2.2.1,x1.2.2.2.2.1,x1.2.2.2.2.2.1,x1.2.2.2.2.2.2.1,x1.2.2.2.2.2.2.2)
def Zj:ar D:=⟨115,Qh,zu,[.one (.h 0 [0]),.one (.fn 116 [.ptr 1000 0])],wh,z7,wh,fun h=>D7 h.1 h.2.1 h.2.2.1 h.2.2.2.1 h.2.2.2.2.1 h.2.2.2.2.2.1 h.2.2.2.2.2.2.1 h.2.2.2.2.2.2.2⟩
theorem aoA:CK Zj:=fo [Yn] [.tmp 4] .o ⟨anM,trivial⟩ Tryz.call115 Tryz.func115 rfl rfl
def ET(a0:aj)(a1:fL)(a2:bE):Option (Int):=(rH a0 a2.ae).bind fun x1=>if(x1.1 !=0)=true then some x1.1 else((uk a1).bind fun x2=>if(!x2)=true then some true else if decide (a2.Time<0)=true then some true else some (decide (a2.Time>2147483648))).bind fun x3=>if x3=true then some 1 else if(len a2.kN !=a0.ak)=true then some 8 else((zM a2.ae (ae.mk x1.2.1 x1.2.2.1 x1.2.2.2.1 x1.2.2.2.2)).bind fun x4=>if(!x4)=true then some (true,a2.Time,a2.ae.aq,a2.ae.aa,a2.ae.aE,a2.ae.aA,a2.kN,a2.np) else(D7 a2.kN a2.Time a2.ae.aq a2.ae.aa a2.ae.aE a2.ae.aA a2.kN a2.np).bind fun x5=>some (x5.1,x5.2.1,x5.2.2.1,x5.2.2.2.1,x5.2.2.2.2.1,x5.2.2.2.2.2.1,x5.2.2.2.2.2.2.1,x5.2.2.2.2.2.2.2)).bind fun x6=>if x6.1=true then some 11 else some 0
def WU:ar D:=⟨50,[.lf (.int .i64),.lf (.sl 5),.lf (.sl 6),.lf (.sl 7),.lf (.int .i64),.lf (.int .i64),.lf (.int .i64),.lf (.int .i64),.lf (.int .i64),.lf (.int .i64),.lf (.sl 1),.lf (.sl 10),.lf (.sl 0),.lf (.sl 11),.lf (.sl 12),.lf (.sl 13)],z8,[.agg [.h 0 [],.h 1 [0],.h 2 [0],.h 3 [0],.h 4 [],.h 5 []],.agg [.h 6 [],.h 7 [],.h 8 []],.agg [.h 9 [],.h 10 [0],.h 11 [0],.h 12 [0],.h 13 [0],.h 14 [0],.h 15 [0]]],[],z7,[],fun h=>let g:=h.2.2.2.2.2.2;let k:=g.2.2.2.2.2.2;ET ⟨h.1,h.2.1,h.2.2.1,h.2.2.2.1,h.2.2.2.2.1,h.2.2.2.2.2.1⟩ ⟨g.1,g.2.1,g.2.2.1⟩ ⟨g.2.2.2.1,⟨g.2.2.2.2.1,g.2.2.2.2.2.1,k.1,k.2.1⟩,k.2.2.1,k.2.2.2⟩⟩
theorem amg:CK WU:=fo [rj,yJ,Hv,Zj] [.tmp 6] (.n none .o (.n none .o (.n none .o (.n none (.n none (.n none .o (.n none .o (.n none (.r (some (true,[(.normal,⟨[.lf .bool],[(22,.one (.h 0 []))],[],[],3344⟩)])) .nil) (.n none .o (.n none .o (.n none .o (.n none (.r (some (true,[(.normal,⟨zu,[(43,.one (.h 0 []))],[(2128,.box [.h 1 [],.h 2 [0],.h 3 [0],.h 4 [0],.h 5 [0],.h 6 [0],.h 7 [0]]),(2960,.box [.fn 114 [.ptr 2128 0]])],[2128,2960],3857⟩)])) .nil) .o))))))) .o) .o)))) ⟨Cj,Of,OX,aoA,trivial⟩ Tryz.call50 Tryz.func50 rfl rfl
def JN(a0:List bf):Option (List bf):=bq [] a0
def Zh:ar D:=⟨117,[.lf (.sl 12)],[.lf (.sl 12)],lE,[],jc,[(1000,.sl 12 86 0 [])],fun h=>JN h⟩
theorem aoy:CK Zh:=by
 refine⟨Tryz.call117,rfl,rfl,rfl,rfl,fun ko r0 jm dA di has j_ γ w vs hv _=> ?_⟩
 cases has
 match vs,hv with
 |[],hv=>exact hv.elim
 |_::_::_,hv=>exact hv.2.elim
 |[v],hv=>
 obtain⟨xs,dj⟩:∃xs:List (D 12),xs=ko:=⟨_,rfl⟩
 obtain⟨r,fR⟩:∃r:List (D 12),r=r0:=⟨_,rfl⟩
 have g0:Rv (In γ.o [0]) w v xs:=by rw[dj];exact hv.1.1
 have hr:bq ([]:List (D 12)) xs=some r:=by rw[dj,fR];exact jm
 subst fR
 have hT:=zP.2
 refine enter (l:=[v]) Tryz.func117 rfl Tryz.ntmps117 rfl ?_
 refine CW.sub (L':=[(0,v)]) ⟨rfl,trivial⟩ ?_
 refine CW.sr fun K1 fc=> ?_
 refine WL.p (.slice none 0 0) rfl rfl ?_
 refine WL.nx fc ?_
 refine CW.seq fun K2 fU=> ?_
 refine CW.sr fun K3 iX=> ?_
 refine WL.p v rfl rfl ?_
 obtain⟨a,m,q,rfl,hn⟩:=ui g0
 refine WL.gC (OW.isNil zP.1 rfl) rfl ?_
 refine WL.nx iX ?_
 cases a with
 |none=>
  refine CW.cond (b:=true) rfl (fun _=> ?_) (fun h=>nomatch h)
  refine CW.sr fun K4 jJ=> ?_
  refine WL.p (.slice none 0 0) rfl rfl ?_
  refine WL.nx jJ ?_
  rw[hn rfl] at hr
  obtain rfl:=vX hr
  exact CW.jg (vs:=[.slice none 0 0]) Tryz.results117 ⟨rfl,trivial⟩ ⟨_,rfl,mc (n:=12) (e:=86) (q:=1000) (K:=[]) (M:=[]) (N:=[]) rfl rfl rfl (by simp) (by simp) (ba.refl _ _ γ.o w) (Ow.nil _ _ _ _ _) (fun x hx=>by simp at hx<;>omega)⟩ (fun _ _ h=>h)
 |some a=>
  refine CW.cond (b:=false) rfl (fun h=>nomatch h) (fun _=> ?_)
  refine CW.skip ?_
  refine fU _ _ ?_
  refine CW.sr fun K5 ki=> ?_
  refine WL.step (OW.buildSlice (o:=γ.o) (k:=1000) (K:=[]) (xs:=([]:List (D 12))) zP.1 hT rfl trivial rfl rfl) rfl ?_
  rintro v1 w1 ⟨o1,g9,h1⟩
  have g0:=g0.m9 g9 rfl
  refine WL.p (.slice (some a) m q) rfl rfl ?_
  refine WL.step (OW.append (K:=[]) zP.1 hT rfl rfl h1 (@dM.flat (D 12) _ akp _ _ _ _ _ g0.bS) hr rfl) rfl ?_
  rintro v2 w2 ⟨o2,da,h2⟩
  refine WL.p v2 rfl rfl ?_
  refine WL.nx ki ?_
  exact CW.jg (vs:=[v2]) Tryz.results117 ⟨rfl,trivial⟩ ⟨_,rfl,mc (n:=12) (e:=86) (q:=1000) (K:=[]) (M:=[1000]) (N:=[1000]) rfl rfl rfl (by simp) (by simp) ((g9.weaken (by simp) (by simp)).trans da) h2 (fun x hx=>by simp at hx<;>omega)⟩ (fun _ _ h=>h)
def z_(a0:List Event):Option (List Event):=bq [] a0
def Oo:ar D:=⟨56,[.lf (.sl 13)],[.lf (.sl 13)],lE,[],jc,[(1000,.sl 13 139 0 [])],fun h=>z_ h⟩
theorem WK:CK Oo:=by
 refine⟨Tryz.call56,rfl,rfl,rfl,rfl,fun ko r0 jm dA di has j_ γ w vs hv _=> ?_⟩
 cases has
 match vs,hv with
 |[],hv=>exact hv.elim
 |_::_::_,hv=>exact hv.2.elim
 |[v],hv=>
 obtain⟨xs,dj⟩:∃xs:List (D 13),xs=ko:=⟨_,rfl⟩
 obtain⟨r,fR⟩:∃r:List (D 13),r=r0:=⟨_,rfl⟩
 have g0:Rv (In γ.o [0]) w v xs:=by rw[dj];exact hv.1.1
 have hr:bq ([]:List (D 13)) xs=some r:=by rw[dj,fR];exact jm
 subst fR
 have hT:=zO.2
 refine enter (l:=[v]) Tryz.func56 rfl Tryz.ntmps56 rfl ?_
 refine CW.sub (L':=[(0,v)]) ⟨rfl,trivial⟩ ?_
 refine CW.sr fun K1 fc=> ?_
 refine WL.p (.slice none 0 0) rfl rfl ?_
 refine WL.nx fc ?_
 refine CW.seq fun K2 fU=> ?_
 refine CW.sr fun K3 iX=> ?_
 refine WL.p v rfl rfl ?_
 obtain⟨a,m,q,rfl,hn⟩:=ui g0
 refine WL.gC (OW.isNil zO.1 rfl) rfl ?_
 refine WL.nx iX ?_
 cases a with
 |none=>
  refine CW.cond (b:=true) rfl (fun _=> ?_) (fun h=>nomatch h)
  refine CW.sr fun K4 jJ=> ?_
  refine WL.p (.slice none 0 0) rfl rfl ?_
  refine WL.nx jJ ?_
  rw[hn rfl] at hr
  obtain rfl:=vX hr
  exact CW.jg (vs:=[.slice none 0 0]) Tryz.results56 ⟨rfl,trivial⟩ ⟨_,rfl,mc (n:=13) (e:=139) (q:=1000) (K:=[]) (M:=[]) (N:=[]) rfl rfl rfl (by simp) (by simp) (ba.refl _ _ γ.o w) (Ow.nil _ _ _ _ _) (fun x hx=>by simp at hx<;>omega)⟩ (fun _ _ h=>h)
 |some a=>
  refine CW.cond (b:=false) rfl (fun h=>nomatch h) (fun _=> ?_)
  refine CW.skip ?_
  refine fU _ _ ?_
  refine CW.sr fun K5 ki=> ?_
  refine WL.step (OW.buildSlice (o:=γ.o) (k:=1000) (K:=[]) (xs:=([]:List (D 13))) zO.1 hT rfl trivial rfl rfl) rfl ?_
  rintro v1 w1 ⟨o1,g9,h1⟩
  have g0:=g0.m9 g9 rfl
  refine WL.p (.slice (some a) m q) rfl rfl ?_
  refine WL.step (OW.append (K:=[]) zO.1 hT rfl rfl h1 (@dM.flat (D 13) _ ako _ _ _ _ _ g0.bS) hr rfl) rfl ?_
  rintro v2 w2 ⟨o2,da,h2⟩
  refine WL.p v2 rfl rfl ?_
  refine WL.nx ki ?_
  exact CW.jg (vs:=[v2]) Tryz.results56 ⟨rfl,trivial⟩ ⟨_,rfl,mc (n:=13) (e:=139) (q:=1000) (K:=[]) (M:=[1000]) (N:=[1000]) rfl rfl rfl (by simp) (by simp) ((g9.weaken (by simp) (by simp)).trans da) h2 (fun x hx=>by simp at hx<;>omega)⟩ (fun _ _ h=>h)
end Rx
end Go.Proofs.YtncbfgppjfcijaaGreat
