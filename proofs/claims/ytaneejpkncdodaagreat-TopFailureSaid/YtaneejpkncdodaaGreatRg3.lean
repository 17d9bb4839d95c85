import Derived.Test.YtaneejpkncdodaaGreatRt
import Derived.Test.YtaneejpkncdodaaGreatHc
import Derived.Test.YtaneejpkncdodaaGreatRg2
set_option linter.unusedVariables false
set_option maxRecDepth 100000
noncomputable section
namespace Go.Proofs.YtaneejpkncdodaaGreat
open Go Go.RowKit Dp
namespace Rx
def IV(a0:List Bool):Option (List Bool):=bD [] a0
def WU:au D:=⟨120,mr,mr,o7,[],j_,[(1000,.sl 1 4 0 [])],fun h=>IV h⟩
theorem aky:CK WU:=by
 refine⟨Tryz.call120,rfl,rfl,rfl,rfl,fun lH r0 jU dC dm has kB γ w vs hv _=> ?_⟩
 cases has
 match vs,hv with
 |[],hv=>exact hv.elim
 |_::_::_,hv=>exact hv.2.elim
 |[v],hv=>
 obtain⟨xs,dx⟩:∃xs:List (D 1),xs=lH:=⟨_,rfl⟩
 obtain⟨r,gV⟩:∃r:List (D 1),r=r0:=⟨_,rfl⟩
 have g0:Rv (In γ.o [0]) w v xs:=by rw[dx];exact hv.1.1
 have hr:bD ([]:List (D 1)) xs=some r:=by rw[dx,gV];exact jU
 subst gV
 have hT:=zx.2
 refine enter (l:=[v]) Tryz.func120 rfl Tryz.ntmps120 rfl ?_
 refine CW.sub (L':=[(0,v)]) ⟨rfl,trivial⟩ ?_
 refine CW.sr fun K1 fv=> ?_
 refine WL.p (.slice none 0 0) rfl rfl ?_
 refine WL.nx fv ?_
 refine CW.seq fun K2 gy=> ?_
 refine CW.sr fun K3 jy=> ?_
 refine WL.p v rfl rfl ?_
 obtain⟨a,m,q,rfl,hn⟩:=wB g0
 refine WL.gP (OW.isNil zx.1 rfl) rfl ?_
 refine WL.nx jy ?_
 cases a with
 |none=>
  refine CW.cond (b:=true) rfl (fun _=> ?_) (fun h=>nomatch h)
  refine CW.sr fun K4 kF=> ?_
  refine WL.p (.slice none 0 0) rfl rfl ?_
  refine WL.nx kF ?_
  rw[hn rfl] at hr
  obtain rfl:=yK hr
  exact CW.jM (vs:=[.slice none 0 0]) Tryz.results120 ⟨rfl,trivial⟩ ⟨_,rfl,nH (n:=1) (e:=4) (q:=1000) (K:=[]) (M:=[]) (N:=[]) rfl rfl rfl (by simp) (by simp) (ba.refl _ _ γ.o w) (Ow.nil _ _ _ _ _) (fun x hx=>by simp at hx<;>omega)⟩ (fun _ _ h=>h)
 |some a=>
  refine CW.cond (b:=false) rfl (fun h=>nomatch h) (fun _=> ?_)
  refine CW.skip ?_
  refine gy _ _ ?_
  refine CW.sr fun K5 lp=> ?_
  refine WL.step (OW.buildSlice (o:=γ.o) (k:=1000) (K:=[]) (xs:=([]:List (D 1))) zx.1 hT rfl trivial rfl rfl) rfl ?_
  rintro v1 w1 ⟨o1,iT,h1⟩
  have g0:=g0.nF iT rfl
  refine WL.p (.slice (some a) m q) rfl rfl ?_
  refine WL.step (OW.append (K:=[]) zx.1 hT rfl rfl h1 (@dM.flat (D 1) _ ahw _ _ _ _ _ g0.bV) hr rfl) rfl ?_
  rintro v2 w2 ⟨o2,di,h2⟩
  refine WL.p v2 rfl rfl ?_
  refine WL.nx lp ?_
  exact CW.jM (vs:=[v2]) Tryz.results120 ⟨rfl,trivial⟩ ⟨_,rfl,nH (n:=1) (e:=4) (q:=1000) (K:=[]) (M:=[1000]) (N:=[1000]) rfl rfl rfl (by simp) (by simp) ((iT.weaken (by simp) (by simp)).trans di) h2 (fun x hx=>by simp at hx<;>omega)⟩ (fun _ _ h=>h)
def IW(a0:List az):Option (List az):=bD [] a0
def WT:au D:=⟨121,j9,j9,o7,[],j_,[(1000,.sl 10 127 0 [])],fun h=>IW h⟩
theorem akx:CK WT:=by
 refine⟨Tryz.call121,rfl,rfl,rfl,rfl,fun lH r0 jU dC dm has kB γ w vs hv _=> ?_⟩
 cases has
 match vs,hv with
 |[],hv=>exact hv.elim
 |_::_::_,hv=>exact hv.2.elim
 |[v],hv=>
 obtain⟨xs,dx⟩:∃xs:List (D 10),xs=lH:=⟨_,rfl⟩
 obtain⟨r,gV⟩:∃r:List (D 10),r=r0:=⟨_,rfl⟩
 have g0:Rv (In γ.o [0]) w v xs:=by rw[dx];exact hv.1.1
 have hr:bD ([]:List (D 10)) xs=some r:=by rw[dx,gV];exact jU
 subst gV
 have hT:=zw.2
 refine enter (l:=[v]) Tryz.func121 rfl Tryz.ntmps121 rfl ?_
 refine CW.sub (L':=[(0,v)]) ⟨rfl,trivial⟩ ?_
 refine CW.sr fun K1 fv=> ?_
 refine WL.p (.slice none 0 0) rfl rfl ?_
 refine WL.nx fv ?_
 refine CW.seq fun K2 gy=> ?_
 refine CW.sr fun K3 jy=> ?_
 refine WL.p v rfl rfl ?_
 obtain⟨a,m,q,rfl,hn⟩:=wB g0
 refine WL.gP (OW.isNil zw.1 rfl) rfl ?_
 refine WL.nx jy ?_
 cases a with
 |none=>
  refine CW.cond (b:=true) rfl (fun _=> ?_) (fun h=>nomatch h)
  refine CW.sr fun K4 kF=> ?_
  refine WL.p (.slice none 0 0) rfl rfl ?_
  refine WL.nx kF ?_
  rw[hn rfl] at hr
  obtain rfl:=yK hr
  exact CW.jM (vs:=[.slice none 0 0]) Tryz.results121 ⟨rfl,trivial⟩ ⟨_,rfl,nH (n:=10) (e:=127) (q:=1000) (K:=[]) (M:=[]) (N:=[]) rfl rfl rfl (by simp) (by simp) (ba.refl _ _ γ.o w) (Ow.nil _ _ _ _ _) (fun x hx=>by simp at hx<;>omega)⟩ (fun _ _ h=>h)
 |some a=>
  refine CW.cond (b:=false) rfl (fun h=>nomatch h) (fun _=> ?_)
  refine CW.skip ?_
  refine gy _ _ ?_
  refine CW.sr fun K5 lp=> ?_
  refine WL.step (OW.buildSlice (o:=γ.o) (k:=1000) (K:=[]) (xs:=([]:List (D 10))) zw.1 hT rfl trivial rfl rfl) rfl ?_
  rintro v1 w1 ⟨o1,iT,h1⟩
  have g0:=g0.nF iT rfl
  refine WL.p (.slice (some a) m q) rfl rfl ?_
  refine WL.step (OW.append (K:=[]) zw.1 hT rfl rfl h1 (@dM.flat (D 10) _ ahv _ _ _ _ _ g0.bV) hr rfl) rfl ?_
  rintro v2 w2 ⟨o2,di,h2⟩
  refine WL.p v2 rfl rfl ?_
  refine WL.nx lp ?_
  exact CW.jM (vs:=[v2]) Tryz.results121 ⟨rfl,trivial⟩ ⟨_,rfl,nH (n:=10) (e:=127) (q:=1000) (K:=[]) (M:=[1000]) (N:=[1000]) rfl rfl rfl (by simp) (by simp) ((iT.weaken (by simp) (by simp)).trans di) h2 (fun x hx=>by simp at hx<;>omega)⟩ (fun _ _ h=>h)
def tG(a0:List Int):Option (List Int):=bD [] a0
def GX:au D:=⟨36,dX,dX,o7,[],j_,lE,fun h=>tG h⟩
theorem Nn:CK GX:=by
 refine⟨Tryz.call36,rfl,rfl,rfl,rfl,fun lH r0 jU dC dm has kB γ w vs hv _=> ?_⟩
 cases has
 match vs,hv with
 |[],hv=>exact hv.elim
 |_::_::_,hv=>exact hv.2.elim
 |[v],hv=>
 obtain⟨xs,dx⟩:∃xs:List (D 0),xs=lH:=⟨_,rfl⟩
 obtain⟨r,gV⟩:∃r:List (D 0),r=r0:=⟨_,rfl⟩
 have g0:Rv (In γ.o [0]) w v xs:=by rw[dx];exact hv.1.1
 have hr:bD ([]:List (D 0)) xs=some r:=by rw[dx,gV];exact jU
 subst gV
 have hT:=zy.2
 refine enter (l:=[v]) Tryz.func36 rfl Tryz.ntmps36 rfl ?_
 refine CW.sub (L':=[(0,v)]) ⟨rfl,trivial⟩ ?_
 refine CW.sr fun K1 fv=> ?_
 refine WL.p (.slice none 0 0) rfl rfl ?_
 refine WL.nx fv ?_
 refine CW.seq fun K2 gy=> ?_
 refine CW.sr fun K3 jy=> ?_
 refine WL.p v rfl rfl ?_
 obtain⟨a,m,q,rfl,hn⟩:=wB g0
 refine WL.gP (OW.isNil zy.1 rfl) rfl ?_
 refine WL.nx jy ?_
 cases a with
 |none=>
  refine CW.cond (b:=true) rfl (fun _=> ?_) (fun h=>nomatch h)
  refine CW.sr fun K4 kF=> ?_
  refine WL.p (.slice none 0 0) rfl rfl ?_
  refine WL.nx kF ?_
  rw[hn rfl] at hr
  obtain rfl:=yK hr
  exact CW.jM (vs:=[.slice none 0 0]) Tryz.results36 ⟨rfl,trivial⟩ ⟨_,rfl,nH (n:=0) (e:=3) (q:=1000) (K:=[]) (M:=[]) (N:=[]) rfl rfl rfl (by simp) (by simp) (ba.refl _ _ γ.o w) (Ow.nil _ _ _ _ _) (fun x hx=>by simp at hx<;>omega)⟩ (fun _ _ h=>h)
 |some a=>
  refine CW.cond (b:=false) rfl (fun h=>nomatch h) (fun _=> ?_)
  refine CW.skip ?_
  refine gy _ _ ?_
  refine CW.sr fun K5 lp=> ?_
  refine WL.step (OW.buildSlice (o:=γ.o) (k:=1000) (K:=[]) (xs:=([]:List (D 0))) zy.1 hT rfl trivial rfl rfl) rfl ?_
  rintro v1 w1 ⟨o1,iT,h1⟩
  have g0:=g0.nF iT rfl
  refine WL.p (.slice (some a) m q) rfl rfl ?_
  refine WL.step (OW.append (K:=[]) zy.1 hT rfl rfl h1 (@dM.flat (D 0) _ ahx _ _ _ _ _ g0.bV) hr rfl) rfl ?_
  rintro v2 w2 ⟨o2,di,h2⟩
  refine WL.p v2 rfl rfl ?_
  refine WL.nx lp ?_
  exact CW.jM (vs:=[v2]) Tryz.results36 ⟨rfl,trivial⟩ ⟨_,rfl,nH (n:=0) (e:=3) (q:=1000) (K:=[]) (M:=[1000]) (N:=[1000]) rfl rfl rfl (by simp) (by simp) ((iT.weaken (by simp) (by simp)).trans di) h2 (fun x hx=>by simp at hx<;>omega)⟩ (fun _ _ h=>h)
def IY(a0:List Part):Option (List Part):=bD [] a0
def WS:au D:=⟨122,[.lf (.sl 11)],[.lf (.sl 11)],o7,[],j_,[(1000,.sl 11 112 0 [])],fun h=>IY h⟩
theorem akw:CK WS:=by
 refine⟨Tryz.call122,rfl,rfl,rfl,rfl,fun lH r0 jU dC dm has kB γ w vs hv _=> ?_⟩
 cases has
 match vs,hv with
 |[],hv=>exact hv.elim
 |_::_::_,hv=>exact hv.2.elim
 |[v],hv=>
 obtain⟨xs,dx⟩:∃xs:List (D 11),xs=lH:=⟨_,rfl⟩
 obtain⟨r,gV⟩:∃r:List (D 11),r=r0:=⟨_,rfl⟩
 have g0:Rv (In γ.o [0]) w v xs:=by rw[dx];exact hv.1.1
 have hr:bD ([]:List (D 11)) xs=some r:=by rw[dx,gV];exact jU
 subst gV
 have hT:=qt.2
 refine enter (l:=[v]) Tryz.func122 rfl Tryz.ntmps122 rfl ?_
 refine CW.sub (L':=[(0,v)]) ⟨rfl,trivial⟩ ?_
 refine CW.sr fun K1 fv=> ?_
 refine WL.p (.slice none 0 0) rfl rfl ?_
 refine WL.nx fv ?_
 refine CW.seq fun K2 gy=> ?_
 refine CW.sr fun K3 jy=> ?_
 refine WL.p v rfl rfl ?_
 obtain⟨a,m,q,rfl,hn⟩:=wB g0
 refine WL.gP (OW.isNil qt.1 rfl) rfl ?_
 refine WL.nx jy ?_
 cases a with
 |none=>
  refine CW.cond (b:=true) rfl (fun _=> ?_) (fun h=>nomatch h)
  refine CW.sr fun K4 kF=> ?_
  refine WL.p (.slice none 0 0) rfl rfl ?_
  refine WL.nx kF ?_
  rw[hn rfl] at hr
  obtain rfl:=yK hr
  exact CW.jM (vs:=[.slice none 0 0]) Tryz.results122 ⟨rfl,trivial⟩ ⟨_,rfl,nH (n:=11) (e:=112) (q:=1000) (K:=[]) (M:=[]) (N:=[]) rfl rfl rfl (by simp) (by simp) (ba.refl _ _ γ.o w) (Ow.nil _ _ _ _ _) (fun x hx=>by simp at hx<;>omega)⟩ (fun _ _ h=>h)
 |some a=>
  refine CW.cond (b:=false) rfl (fun h=>nomatch h) (fun _=> ?_)
  refine CW.skip ?_
  refine gy _ _ ?_
  refine CW.sr fun K5 lp=> ?_
  refine WL.step (OW.buildSlice (o:=γ.o) (k:=1000) (K:=[]) (xs:=([]:List (D 11))) qt.1 hT rfl trivial rfl rfl) rfl ?_
  rintro v1 w1 ⟨o1,iT,h1⟩
  have g0:=g0.nF iT rfl
  refine WL.p (.slice (some a) m q) rfl rfl ?_
  refine WL.step (OW.append (K:=[]) qt.1 hT rfl rfl h1 (@dM.flat (D 11) _ Mo _ _ _ _ _ g0.bV) hr rfl) rfl ?_
  rintro v2 w2 ⟨o2,di,h2⟩
  refine WL.p v2 rfl rfl ?_
  refine WL.nx lp ?_
  exact CW.jM (vs:=[v2]) Tryz.results122 ⟨rfl,trivial⟩ ⟨_,rfl,nH (n:=11) (e:=112) (q:=1000) (K:=[]) (M:=[1000]) (N:=[1000]) rfl rfl rfl (by simp) (by simp) ((iT.weaken (by simp) (by simp)).trans di) h2 (fun x hx=>by simp at hx<;>omega)⟩ (fun _ _ h=>h)
def kQ(a0:ah):Option (List Bool×List az×List Int×List Part):=(IV a0.al).bind fun x1=>(IW a0.aa).bind fun x2=>(tG a0.ar).bind fun x3=>(IY a0.ax).bind fun x4=>some (x1,x2,x3,x4)
def jk:au D:=⟨67,yX,yX,[.agg [.h 0 [0],.h 1 [0],.h 2 [0],.h 3 [0]]],[],Ii,H2,fun h=>kQ ⟨h.1,h.2.1,h.2.2.1,h.2.2.2⟩⟩
theorem me:CK jk:=fo [GX,WU,WT,WS] [.cell 2 38] .o ⟨Nn,aky,akx,akw,trivial⟩ Tryz.call67 Tryz.func67 rfl rfl
def Cg(x1:List Int):Int×List Int→Option (Int×List Int⊕List Int):=fun x2=>if decide (x2.1<len x1)=true then(idx x2.2 x2.1).bind fun x3=>(idx x2.2 x2.1).bind fun x4=>(cG x2.2 x2.1 x2.1).bind fun x5=>some (.inl (W (x2.1+1),x5)) else some (.inr x2.2)
def Ce(a0:ak)(a1:ah):Int×List Int→Option (Int×List Int⊕List Int):=fun x8=>if decide (x8.1<len a0.ab)=true then(idx a0.ab x8.1).bind fun x9=>(if(x9.Kind==1)=true then(idx a1.al x8.1).bind some else some false).bind fun aL=>(if aL=true then(idx x8.2 x9.A).bind fun aR=>(idx x8.2 x9.B).bind fun aM=>(idx x8.2 x9.A).bind fun cw=>(idx x8.2 x9.A).bind fun bg=>(cG x8.2 x9.A (kq aR aM)).bind fun bw=>(idx bw x9.B).bind fun bu=>(idx bw x9.B).bind fun dh=>(cG bw x9.B (kq aR aM)).bind some else some x8.2).bind fun db=>some (.inl (W (x8.1+1),db)) else some (.inr x8.2)
def Cf(a0:ak)(a1:ah)(x6:List Int):Int×List Int→Option (Int×List Int⊕List Int):=fun x7=>if decide (x7.1<len x6)=true then(aC (Ce a0 a1) (0,x7.2)).bind fun eR=>some (.inl (W (x7.1+1),eR)) else some (.inr x7.2)
def Hg(a0:ak)(a1:ah):Option (List Int):=(ki 0 a0.ai).bind fun x1=>(aC (Cg x1) (0,x1)).bind fun x6=>(aC (Cf a0 a1 x6) (0,x6)).bind some
def Vs:au D:=⟨47,z1,dX,z7,[],j_,lE,fun h=>Hg ⟨h.1,h.2.1,h.2.2.1,h.2.2.2.1,h.2.2.2.2.1,h.2.2.2.2.2.1⟩ ⟨h.2.2.2.2.2.2.1,h.2.2.2.2.2.2.2.1,h.2.2.2.2.2.2.2.2.1,h.2.2.2.2.2.2.2.2.2⟩⟩
theorem ajd:CK Vs:=fo [] [.tmp 4] (.n none .o (.n none .o (.n none (.n none .o (.n none (.loop ⟨mq,[(15,.one (.h 0 []))],[(2320,.sl 0 3 1 [])],[2320],2704⟩ true [(.exit 0,⟨dX,[],[(2320,.sl 0 3 0 [])],[2320],2704⟩)] .o) .o)) (.n none (.n none .o (.n none (.loop ⟨mq,[(25,.one (.h 0 []))],[(2320,.sl 0 3 1 [])],[2320],2961⟩ true [(.exit 2,⟨dX,[],[(2320,.sl 0 3 0 [])],[2320],2961⟩)] (.n none .o (.n none .o (.n none (.n none (.n none .o (.n none (.loop ⟨mq,[(30,.one (.h 0 []))],[(2320,.sl 0 3 1 [])],[2320],3347⟩ true [(.exit 4,⟨dX,[],[(2320,.sl 0 3 0 [])],[2320],3347⟩)] (.n none .o (.n none .o (.n none (.n none (.n none .o (.n none (.r (some (true,[(.normal,⟨[.lf .bool],[(39,.one (.any)),(40,.one (.any)),(41,.one (.any)),(42,.one (.any)),(43,.one (.any)),(44,.one (.h 0 []))],[],[],3861⟩)])) .nil) (.n (some (true,[(.normal,⟨dX,[],[(2320,.sl 0 3 0 [])],[2320],3926⟩)])) .o .o))) .o) .o)))) .o)) .o) .o)))) .o)) .o)))) trivial Tryz.call47 Tryz.func47 rfl rfl
def yC(a0:ak)(a1:ah)(a2:Int)(a3:Int):Int→Option (Int⊕Unit⊕Int×Bool):=fun x1=>if decide (x1<len a0.ab)=true then(idx a0.ab x1).bind fun x2=>(if(x2.Kind==a2)=true then if(x2.B==a3)=true then(idx a1.al x1).bind some else some false else some false).bind fun x4=>if x4=true then some (.inr (.inr (x2.A,true))) else some (.inl (W (x1+1))) else some (.inr (.inl ()))
def Cd(a0:ak)(a1:ah)(a2:Int)(a3:Int):Option (Int×Bool):=(aC (yC a0 a1 a2 a3) 0).bind fun x5=>Sum.elim (fun x6=>some (0,false)) (some) x5
def NG:au D:=⟨104,y8,kN,H9,[],iX,[],fun h=>Cd ⟨h.1,h.2.1,h.2.2.1,h.2.2.2.1,h.2.2.2.2.1,h.2.2.2.2.2.1⟩ ⟨h.2.2.2.2.2.2.1,h.2.2.2.2.2.2.2.1,h.2.2.2.2.2.2.2.2.1,h.2.2.2.2.2.2.2.2.2.1⟩ h.2.2.2.2.2.2.2.2.2.2.1 h.2.2.2.2.2.2.2.2.2.2.2⟩
theorem W_:CK NG:=fo [] [.tmp 8,.tmp 9] (.n none .o (.n none (.n none .o (.n none (.loop ⟨bq,[(15,.one (.h 0 []))],[],[],2576⟩ false [(.exit 0,⟨[],[],[],[],2576⟩)] (.n none .o (.n none .o (.n none (.n none (.n none .o (.n none (.r (some (true,[(.normal,⟨[.lf .bool],[(25,.one (.any)),(26,.one (.any)),(27,.one (.any)),(28,.one (.any)),(31,.one (.any)),(32,.one (.any)),(33,.one (.any)),(34,.one (.any)),(35,.one (.any)),(36,.one (.h 0 []))],[],[],3089⟩)])) .nil) .o)) .o) .o)))) .o)) .o)) trivial Tryz.call104 Tryz.func104 rfl rfl
def Ci(a0:ak)(a1:ah)(a2:Int):Option (Int×Bool):=((gl a2 0 (W (len a1.aa-1))).bind fun x1=>if(!x1)=true then some true else(idx a1.aa a2).bind fun x2=>some (x2.State !=2)).bind fun x3=>if x3=true then some (0,false) else(Cd a0 a1 2 a2).bind fun x4=>some (x4.1,x4.2)
def Nj:au D:=⟨48,z0,kN,z3,[],iX,[],fun h=>Ci ⟨h.1,h.2.1,h.2.2.1,h.2.2.2.1,h.2.2.2.2.1,h.2.2.2.2.2.1⟩ ⟨h.2.2.2.2.2.2.1,h.2.2.2.2.2.2.2.1,h.2.2.2.2.2.2.2.2.1,h.2.2.2.2.2.2.2.2.2.1⟩ h.2.2.2.2.2.2.2.2.2.2⟩
theorem Vr:CK Nj:=fo [q8,NG] [.tmp 6,.tmp 7] (.n none .o (.n none (.n none (.r (some (true,[(.normal,⟨[.lf .bool],[(23,.one (.h 0 []))],[],[],2320⟩)])) .nil) .o) .o)) ⟨sN,W_,trivial⟩ Tryz.call48 Tryz.func48 rfl rfl
def Ch(a0:ak)(a1:ah)(a2:Int):Option (Int×Bool):=(Cd a0 a1 3 a2).bind fun x1=>some (x1.1,x1.2)
def Ni:au D:=⟨49,z0,kN,z3,[],iX,[],fun h=>Ch ⟨h.1,h.2.1,h.2.2.1,h.2.2.2.1,h.2.2.2.2.1,h.2.2.2.2.2.1⟩ ⟨h.2.2.2.2.2.2.1,h.2.2.2.2.2.2.2.1,h.2.2.2.2.2.2.2.2.1,h.2.2.2.2.2.2.2.2.2.1⟩ h.2.2.2.2.2.2.2.2.2.2⟩
theorem Vq:CK Ni:=fo [NG] [.tmp 6,.tmp 7] .o ⟨W_,trivial⟩ Tryz.call49 Tryz.func49 rfl rfl
def Cn(a0:aP):Option (Bool):=some (len a0.ai==0)
def Nh:au D:=⟨51,[.lf (.sl 0),.lf (.sl 0),.lf (.sl 0)],[.lf .bool],[.agg [.h 0 [0],.h 1 [0],.h 2 [0]]],[],aW,[],fun h=>Cn ⟨h.1,h.2.1,h.2.2⟩⟩
theorem Vo:CK Nh:=fo [] [.tmp 2] .o trivial Tryz.call51 Tryz.func51 rfl rfl
def v_(a0:List aP):Int→Option (Int⊕Unit⊕Int):=fun x1=>if decide (x1<len a0)=true then(idx a0 x1).bind fun x2=>(Cn x2).bind fun x3=>if x3=true then some (.inr (.inr x1)) else some (.inl (W (x1+1))) else some (.inr (.inl ()))
def IS(a0:List aP):Option (Int):=(aC (v_ a0) 0).bind fun x4=>Sum.elim (fun x5=>some (-1)) (some) x4
def W9:au D:=⟨105,lG,bq,[.one (.h 0 [0]),.one (.fn 51 [])],[],aW,[],fun h=>IS h⟩
theorem akL:CK W9:=fo [Nh] [.tmp 4] z8 ⟨Vo,trivial⟩ Tryz.call105 Tryz.func105 rfl rfl
def DA:Int×Int×List aP→Option (Int×Int×List aP⊕Int×List aP):=fun x2=>if decide (x2.2.1<len x2.2.2)=true then(idx x2.2.2 x2.2.1).bind fun x3=>(Cn x3).bind fun x4=>(if(!x4)=true then(idx x2.2.2 x2.1).bind fun x5=>(idx x2.2.2 x2.1).bind fun x6=>(cG x2.2.2 x2.1 x3).bind fun x7=>some (W (x2.1+1),x7) else some (x2.1,x2.2.2)).bind fun x8=>some (.inl (x8.1,W (x2.2.1+1),x8.2)) else some (.inr (x2.1,x2.2.2))
def DB(a0:List aP):Option (List aP):=(IS a0).bind fun x1=>if(x1==(-1))=true then some a0 else(aC DA (x1,W (x1+1),a0)).bind fun x9=>(dw x9.2 x9.1 (len x9.2)).bind fun aN=>(dw (mU (aP.mk [] [] []) x9.2 x9.1) 0 x9.1).bind some
def Vp:au D:=⟨50,lG,lG,[.one (.own 1000),.one (.fn 51 [])],[(1000,.sl 15 64 0 [0])],[.one (.own 1001)],[(1001,.sl 15 64 0 [0])],fun h=>DB h⟩
theorem ajb:CK Vp:=fo [Nh,W9] [.tmp 4] (.n none .o (.n none .o (.n none .o (.n none (.n none .o (.n none (.loop ⟨[.lf (.int .i64),.lf (.int .i64),.lf (.sl 15)],[(5,.one (.h 0 [])),(6,.one (.h 1 []))],[(1000,.sl 15 64 2 [0])],[1000],2704⟩ true [(.exit 0,⟨vI,[(5,.one (.h 0 []))],[(1000,.sl 15 64 1 [0])],[1000],2704⟩)] (.n none .o (.n none (.n none (.n none .o (.n none .o (.n (some (true,[(.normal,⟨vI,[(5,.one (.h 0 []))],[(1000,.sl 15 64 1 [0])],[1000],3667⟩)])) .o .o))) .o) .o))) .o)) .o)))) ⟨Vo,akL,trivial⟩ Tryz.call50 Tryz.func50 rfl rfl
def Cm(x2:List Int):Int×List aP→Option (Int×List aP⊕List aP):=fun x4=>if decide (x4.1<len x2)=true then(idx x2 x4.1).bind fun x5=>(idx x4.2 x5).bind fun x6=>(idx x4.2 x5).bind fun x7=>(idx x4.2 x5).bind fun x8=>(bD x8.ai [x4.1]).bind fun x9=>(cG x4.2 x5 (aP.mk x9 x8.aa x8.ae)).bind fun aN=>(idx aN x5).bind fun aL=>(sF x5 x5).bind fun aR=>some (.inl (W (x4.1+1),aN)) else some (.inr x4.2)
def Cl(a0:ak)(a1:ah)(x2:List Int):Int×List aP→Option (Int×List aP⊕List aP):=fun cw=>if decide (cw.1<len a0.aa)=true then(Ci a0 a1 cw.1).bind fun bg=>(if bg.2=true then(idx x2 bg.1).bind fun bw=>(idx x2 bg.1).bind fun bu=>(idx cw.2 bu).bind fun dh=>(idx cw.2 bu).bind fun dk=>(idx cw.2 bu).bind fun db=>(bD db.aa [cw.1]).bind fun eR=>(cG cw.2 bu (aP.mk db.ai eR db.ae)).bind fun gM=>(idx gM bw).bind fun g_=>(sF bw bu).bind fun du=>some gM else some cw.2).bind fun jo=>some (.inl (W (cw.1+1),jo)) else some (.inr cw.2)
def Ck(a0:ak)(a1:ah)(x2:List Int):Int×List aP→Option (Int×List aP⊕List aP):=fun fA=>if decide (fA.1<len a0.ae)=true then(Ch a0 a1 fA.1).bind fun gn=>(if gn.2=true then(idx x2 gn.1).bind fun iH=>(idx x2 gn.1).bind fun jL=>(idx fA.2 jL).bind fun kO=>(idx fA.2 jL).bind fun mw=>(idx fA.2 jL).bind fun qm=>(bD qm.ae [fA.1]).bind fun nc=>(cG fA.2 jL (aP.mk qm.ai qm.aa nc)).bind fun mu=>(idx mu iH).bind fun ms=>(sF iH jL).bind fun CX=>some mu else some fA.2).bind fun tw=>some (.inl (W (fA.1+1),tw)) else some (.inr fA.2)
def oR(a0:ak)(a1:ah):Option (List aP):=(jY a0 a1).bind fun x1=>if(x1 !=0)=true then some [] else(Hg a0 a1).bind fun x2=>(ki (aP.mk [] [] []) a0.ai).bind fun x3=>(aC (Cm x2) (0,x3)).bind fun aM=>(aC (Cl a0 a1 x2) (0,aM)).bind fun jn=>(aC (Ck a0 a1 x2) (0,jn)).bind fun zg=>(DB zg).bind some
def p7:au D:=⟨16,z1,lG,z7,[],j_,[(1000,.sl 15 64 0 [1])],fun h=>oR ⟨h.1,h.2.1,h.2.2.1,h.2.2.2.1,h.2.2.2.2.1,h.2.2.2.2.2.1⟩ ⟨h.2.2.2.2.2.2.1,h.2.2.2.2.2.2.2.1,h.2.2.2.2.2.2.2.2.1,h.2.2.2.2.2.2.2.2.2⟩⟩
theorem vn:CK p7:=fo [fJ,Vs,Nj,Ni,Vp] [.tmp 4] (.n none .o (.n none .o (.n none .o (.n none .o (.n none (.n none .o (.n none (.loop ⟨vI,[(27,.one (.h 0 []))],[(2832,.bY 15 64 3 0 1)],[2832],3216⟩ true [(.exit 0,⟨lG,[],[(2832,.bY 15 64 3 0 0)],[2832],3216⟩)] .o) .o)) (.n none (.n none .o (.n none (.loop ⟨vI,[(48,.one (.h 0 []))],[(2832,.bY 15 64 3 0 1)],[2832],3537⟩ true [(.exit 2,⟨lG,[],[(2832,.bY 15 64 3 0 0)],[2832],3537⟩)] (.n none .o (.n none .o (.n none (.n none (.n none .o (.n none .o (.n none .o (.n (some (true,[(.normal,⟨lG,[],[(2832,.bY 15 64 3 0 0)],[2832],4435⟩)])) .o .o)))) .o) .o)))) .o)) (.n none (.n none .o (.n none (.loop ⟨vI,[(81,.one (.h 0 []))],[(2832,.bY 15 64 3 0 1)],[2832],3858⟩ true [(.exit 4,⟨lG,[],[(2832,.bY 15 64 3 0 0)],[2832],3858⟩)] (.n none .o (.n none .o (.n none (.n none (.n none .o (.n none .o (.n none .o (.n (some (true,[(.normal,⟨lG,[],[(2832,.bY 15 64 3 0 0)],[2832],4756⟩)])) .o .o)))) .o) .o)))) .o)) (.n none (.r none (.rk 1 [2832] .nil)) .o)))))))) ⟨jC,ajd,Vr,Vq,ajb,trivial⟩ Tryz.call16 Tryz.func16 rfl rfl
def zn(a1:List Int)(a2:az):Int×List az→Option (Int×List az⊕List az):=fun x1=>if decide (x1.1<len a1)=true then(idx a1 x1.1).bind fun x2=>(idx x1.2 x2).bind fun x3=>(idx x1.2 x2).bind fun x4=>(cG x1.2 x2 (az.mk x4.State x4.eD a2.aB x4.aG)).bind fun x5=>(idx x5 x2).bind fun x6=>(idx x5 x2).bind fun x7=>(cG x5 x2 (az.mk x7.State x7.eD x7.aB a2.aG)).bind fun x8=>some (.inl (W (x1.1+1),x8)) else some (.inr x1.2)
def vS(a0:ah)(a1:List Int)(a2:az):Option (List az):=(aC (zn a1 a2) (0,a0.aa)).bind some
def M7:au D:=⟨99,[.lf (.sl 1),.lf (.sl 10),.lf (.sl 0),.lf (.sl 11),.lf (.sl 0),.lf (.int .i64),.lf (.int .i64),.lf (.int .i64),.lf (.int .i64)],j9,[.agg [.h 0 [0],.own 1000,.h 2 [0],.h 3 [0]],.one (.h 4 [0]),.agg [.h 5 [],.h 6 [],.h 7 [],.h 8 []]],[(1000,.sl 10 127 1 [])],[],[(1000,.sl 10 127 0 [])],fun h=>vS ⟨h.1,h.2.1,h.2.2.1,h.2.2.2.1⟩ h.2.2.2.2.1 ⟨h.2.2.2.2.2.1,h.2.2.2.2.2.2.1,h.2.2.2.2.2.2.2.1,h.2.2.2.2.2.2.2.2⟩⟩
theorem UL:CK M7:=fo [] [] (.n none .o (.n none .o (.n none (.loop ⟨s9,[(10,.one (.h 0 []))],[(1000,.sl 10 127 1 [])],[1000],2384⟩ true [(.exit 0,⟨j9,[],[(1000,.sl 10 127 0 [])],[1000],2384⟩)] .o) .o))) trivial Tryz.call99 Tryz.func99 rfl rfl
def Dd(a1:ah)(x2:List Bool×List az×List Int×List Part)(x3:List aP):Int×List az→Option (Int×List az⊕List az):=fun x4=>if decide (x4.1<len x3)=true then(idx x3 x4.1).bind fun x5=>(if decide (len x5.aa>0)=true then(idx x5.aa 0).bind fun x6=>(idx a1.aa x6).bind fun x7=>(vS (ah.mk x2.1 x4.2 x2.2.2.1 x2.2.2.2) x5.aa x7).bind some else some x4.2).bind fun x9=>some (.inl (W (x4.1+1),x9)) else some (.inr x4.2)
def rm(a0:ak)(a1:ah):Option (Int×List Bool×List az×List Int×List Part):=(jY a0 a1).bind fun x1=>if(x1 !=0)=true then some (x1,[],[],[],[]) else(kQ a1).bind fun x2=>(oR a0 a1).bind fun x3=>(aC (Dd a1 x2 x3) (0,x2.2.1)).bind fun aN=>some (0,x2.1,aN,x2.2.2.1,x2.2.2.2)
def GW:au D:=⟨40,z1,rh,z7,[],td,tp,fun h=>rm ⟨h.1,h.2.1,h.2.2.1,h.2.2.2.1,h.2.2.2.2.1,h.2.2.2.2.2.1⟩ ⟨h.2.2.2.2.2.2.1,h.2.2.2.2.2.2.2.1,h.2.2.2.2.2.2.2.2.1,h.2.2.2.2.2.2.2.2.2⟩⟩
theorem Nl:CK GW:=fo [p7,fJ,jk,M7] [.cell 4 38,.tmp 5] (.n none .o (.n none .o (.n none .o (.n none (.n none .o (.n none (.loop ⟨s9,[(23,.one (.h 0 []))],[(2713,.sl 10 127 1 [])],[2713],3280⟩ true [(.exit 0,⟨j9,[],[(2713,.sl 10 127 0 [])],[2713],3280⟩)] Oq) .o)) .o)))) ⟨vn,jC,me,UL,trivial⟩ Tryz.call40 Tryz.func40 rfl rfl
def tL(a0:e_):Option (Bool):=(if decide (a0.Stop≥1)=true then if decide (a0.Stop≤99)=true then if decide (a0.Start>a0.Stop)=true then if decide (a0.Start≤100)=true then if decide (a0.lC≥0)=true then some (decide (a0.lC≤600)) else some false else some false else some false else some false else some false).bind some
def ra:au D:=⟨42,CM,[.lf .bool],[.agg [.h 0 [],.h 1 [],.h 2 []]],[],aW,[],fun h=>tL ⟨h.1,h.2.1,h.2.2⟩⟩
theorem B5:CK ra:=fo [] [.tmp 2] H7 trivial Tryz.call42 Tryz.func42 rfl rfl
def we(a0:List Bool)(a1:List Bool):Int→Option (Int⊕Unit⊕Bool):=fun x1=>if decide (x1<len a0)=true then(idx a0 x1).bind fun x2=>(idx a1 x1).bind fun x3=>if(!x2==x3)=true then some (.inr (.inr false)) else some (.inl (W (x1+1))) else some (.inr (.inl ()))
def Dx(a0:List Bool)(a1:List Bool):Option (Bool):=if(len a0 !=len a1)=true then some false else(aC (we a0 a1) 0).bind fun x4=>Sum.elim (fun x5=>some true) (some) x4
def Xd:au D:=⟨100,[.lf (.sl 1),.lf (.sl 1)],[.lf .bool],[.one (.h 0 [0]),.one (.h 1 [0])],[],aW,[],fun h=>Dx h.1 h.2⟩
theorem akQ:CK Xd:=fo [] [.tmp 4] CU trivial Tryz.call100 Tryz.func100 rfl rfl
def wg(a0:List az)(a1:List az):Int→Option (Int⊕Unit⊕Bool):=fun x1=>if decide (x1<len a0)=true then(idx a0 x1).bind fun x2=>(idx a1 x1).bind fun x3=>if(!(x2.State==x3.State&&(x2.eD==x3.eD&&(x2.aB==x3.aB&&x2.aG==x3.aG))))=true then some (.inr (.inr false)) else some (.inl (W (x1+1))) else some (.inr (.inl ()))
def zB(a0:List az)(a1:List az):Option (Bool):=if(len a0 !=len a1)=true then some false else(aC (wg a0 a1) 0).bind fun x4=>Sum.elim (fun x5=>some true) (some) x4
def Nb:au D:=⟨87,[.lf (.sl 10),.lf (.sl 10)],[.lf .bool],[.one (.h 0 [0]),.one (.h 1 [0])],[],aW,[],fun h=>zB h.1 h.2⟩
theorem U3:CK Nb:=fo [] [.tmp 4] CU trivial Tryz.call87 Tryz.func87 rfl rfl
def wc(a0:List Int)(a1:List Int):Int→Option (Int⊕Unit⊕Bool):=fun x1=>if decide (x1<len a0)=true then(idx a0 x1).bind fun x2=>(idx a1 x1).bind fun x3=>if(x2 !=x3)=true then some (.inr (.inr false)) else some (.inl (W (x1+1))) else some (.inr (.inl ()))
def Dw(a0:List Int)(a1:List Int):Option (Bool):=if(len a0 !=len a1)=true then some false else(aC (wc a0 a1) 0).bind fun x4=>Sum.elim (fun x5=>some true) (some) x4
def Xc:au D:=⟨101,[.lf (.sl 0),.lf (.sl 0)],[.lf .bool],[.one (.h 0 [0]),.one (.h 1 [0])],[],aW,[],fun h=>Dw h.1 h.2⟩
theorem akP:CK Xc:=fo [] [.tmp 4] CU trivial Tryz.call101 Tryz.func101 rfl rfl
def wh(a0:List Part)(a1:List Part):Int→Option (Int⊕Unit⊕Bool):=fun x1=>if decide (x1<len a0)=true then(idx a0 x1).bind fun x2=>(idx a1 x1).bind fun x3=>if(!(x2.Kind==x3.Kind&&x2.Number==x3.Number))=true then some (.inr (.inr false)) else some (.inl (W (x1+1))) else some (.inr (.inl ()))
def zC(a0:List Part)(a1:List Part):Option (Bool):=if(len a0 !=len a1)=true then some false else(aC (wh a0 a1) 0).bind fun x4=>Sum.elim (fun x5=>some true) (some) x4
def Na:au D:=⟨88,[.lf (.sl 11),.lf (.sl 11)],[.lf .bool],[.one (.h 0 [0]),.one (.h 1 [0])],[],aW,[],fun h=>zC h.1 h.2⟩
theorem UZ:CK Na:=fo [] [.tmp 4] CU trivial Tryz.call88 Tryz.func88 rfl rfl
def zt(a0:ah)(a1:ah):Option (Bool):=((Dx a0.al a1.al).bind fun x1=>if x1=true then(zB a0.aa a1.aa).bind fun x2=>if x2=true then(Dw a0.ar a1.ar).bind fun x3=>if x3=true then(zC a0.ax a1.ax).bind some else some false else some false else some false).bind some
def yp:au D:=⟨43,OO,[.lf .bool],[.agg [.h 0 [0],.h 1 [0],.h 2 [0],.h 3 [0]],.agg [.h 4 [0],.h 5 [0],.h 6 [0],.h 7 [0]]],[],aW,[],fun h=>zt ⟨h.1,h.2.1,h.2.2.1,h.2.2.2.1⟩ ⟨h.2.2.2.2.1,h.2.2.2.2.2.1,h.2.2.2.2.2.2.1,h.2.2.2.2.2.2.2⟩⟩
theorem Nk:CK yp:=fo [Nb,Na,Xd,Xc] [.tmp 4] H3 ⟨U3,UZ,akQ,akP,trivial⟩ Tryz.call43 Tryz.func43 rfl rfl
def En(a0:Int)(a1:Int)(a2:List Bool)(a3:List az)(a4:List Int)(a5:List Part)(a6:List bi)(a7:List Event):Option (Bool×Int×List Bool×List az×List Int×List Part×List bi×List Event):=(if decide (a0≥(-1))=true then some (decide (a0≤a1)) else some false).bind fun x1=>some (x1,a1,a2,a3,a4,a5,a6,a7)
def Vw:au D:=⟨41,H6,y7,[.one (.h 0 []),.one (.ptr 1000 0)],[(1000,.box [.h 1 [],.h 2 [0],.h 3 [0],.h 4 [0],.h 5 [0],.h 6 [0],.h 7 [0]])],aW,[(1000,.box [.h 1 [],.h 2 [0],.h 3 [0],.h 4 [0],.h 5 [0],.h 6 [0],.h 7 [0]])],fun h=>En h.1 h.2.1 h.2.2.1 h.2.2.2.1 h.2.2.2.2.1 h.2.2.2.2.2.1 h.2.2.2.2.2.2.1 h.2.2.2.2.2.2.2⟩
theorem ajh:CK Vw:=fo [] [.tmp 3] OS trivial Tryz.call41 Tryz.func41 rfl rfl
def Em(a0:bi)(a1:Int)(a2:List Bool)(a3:List az)(a4:List Int)(a5:List Part)(a6:List bi)(a7:List Event):Option (Bool×Int×List Bool×List az×List Int×List Part×List bi×List Event):=((En a0.nO a1 a2 a3 a4 a5 a6 a7).bind fun x1=>if(!x1.1)=true then some (true,x1.2.1,x1.2.2.1,x1.2.2.2.1,x1.2.2.2.2.1,x1.2.2.2.2.2.1,x1.2.2.2.2.2.2.1,x1.2.2.2.2.2.2.2) else(En a0.nN x1.2.1 x1.2.2.1 x1.2.2.2.1 x1.2.2.2.2.1 x1.2.2.2.2.2.1 x1.2.2.2.2.2.2.1 x1.2.2.2.2.2.2.2).bind fun x2=>some (!x2.1,x2.2.1,x2.2.2.1,x2.2.2.2.1,x2.2.2.2.2.1,x2.2.2.2.2.2.1,x2.2.2.2.2.2.2.1,x2.2.2.2.2.2.2.2)).bind fun x3=>some (x3.1,x3.2.1,x3.2.2.1,x3.2.2.2.1,x3.2.2.2.2.1,x3.2.2.2.2.2.1,x3.2.2.2.2.2.2.1,x3.2.2.2.2.2.2.2)
def Vu:au D:=⟨45,[.lf (.int .i64),.lf (.int .i64),.lf (.int .i64),.lf (.sl 1),.lf (.sl 10),.lf (.sl 0),.lf (.sl 11),.lf (.sl 12),.lf (.sl 13)],y7,[.agg [.h 0 [],.h 1 []],.one (.ptr 1000 0)],[(1000,.box [.fn 41 [.ptr 1001 0]]),(1001,.box [.h 2 [],.h 3 [0],.h 4 [0],.h 5 [0],.h 6 [0],.h 7 [0],.h 8 [0]])],aW,vJ,fun h=>Em ⟨h.1,h.2.1⟩ h.2.2.1 h.2.2.2.1 h.2.2.2.2.1 h.2.2.2.2.2.1 h.2.2.2.2.2.2.1 h.2.2.2.2.2.2.2.1 h.2.2.2.2.2.2.2.2⟩
theorem ajf:CK Vu:=fo [Vw] [.tmp 3] (.n none .o (.n none (.r (some (true,[(.normal,⟨y7,[(3,.one (.h 0 []))],[(1001,.box [.h 1 [],.h 2 [0],.h 3 [0],.h 4 [0],.h 5 [0],.h 6 [0],.h 7 [0]])],[1001],2192⟩)])) .nil) .o)) ⟨ajh,trivial⟩ Tryz.call45 Tryz.func45 rfl rfl
def zA(a0:List bi):Int×Int×List Bool×List az×List Int×List Part×List bi×List Event→Option (Int×Int×List Bool×List az×List Int×List Part×List bi×List Event⊕Int×List Bool×List az×List Int×List Part×List bi×List Event⊕Int×Int×List Bool×List az×List Int×List Part×List bi×List Event):=fun x1=>if decide (x1.1<len a0)=true then(idx a0 x1.1).bind fun x2=>(Em x2 x1.2.1 x1.2.2.1 x1.2.2.2.1 x1.2.2.2.2.1 x1.2.2.2.2.2.1 x1.2.2.2.2.2.2.1 x1.2.2.2.2.2.2.2).bind fun x3=>if x3.1=true then some (.inr (.inr (x1.1,x3.2.1,x3.2.2.1,x3.2.2.2.1,x3.2.2.2.2.1,x3.2.2.2.2.2.1,x3.2.2.2.2.2.2.1,x3.2.2.2.2.2.2.2))) else some (.inl (W (x1.1+1),x3.2.1,x3.2.2.1,x3.2.2.2.1,x3.2.2.2.2.1,x3.2.2.2.2.2.1,x3.2.2.2.2.2.2.1,x3.2.2.2.2.2.2.2)) else some (.inr (.inl (x1.2.1,x1.2.2.1,x1.2.2.2.1,x1.2.2.2.2.1,x1.2.2.2.2.2.1,x1.2.2.2.2.2.2.1,x1.2.2.2.2.2.2.2)))
def IR(a0:List bi)(a1:Int)(a2:List Bool)(a3:List az)(a4:List Int)(a5:List Part)(a6:List bi)(a7:List Event):Option (Int×Int×List Bool×List az×List Int×List Part×List bi×List Event):=(aC (zA a0) (0,a1,a2,a3,a4,a5,a6,a7)).bind fun x4=>Sum.elim (fun x5=>some ((-1),x5.1,x5.2.1,x5.2.2.1,x5.2.2.2.1,x5.2.2.2.2.1,x5.2.2.2.2.2.1,x5.2.2.2.2.2.2)) (some) x4
def Xb:au D:=⟨102,OP,H6,[.one (.h 0 [0]),.one (.fn 45 [.ptr 1000 0])],vJ,aW,vJ,fun h=>IR h.1 h.2.1 h.2.2.1 h.2.2.2.1 h.2.2.2.2.1 h.2.2.2.2.2.1 h.2.2.2.2.2.2.1 h.2.2.2.2.2.2.2⟩
theorem akO:CK Xb:=fo [Vu] [.tmp 4] (.n none .o (.n none (.n none .o (.n none (.loop ⟨H6,qj,vJ,[1000,1001],2320⟩ false [(.exit 0,⟨[.lf (.int .i64),.lf (.sl 1),.lf (.sl 10),.lf (.sl 0),.lf (.sl 11),.lf (.sl 12),.lf (.sl 13)],[],[(1000,.box [.fn 41 [.ptr 1001 0]]),(1001,.box [.h 0 [],.h 1 [0],.h 2 [0],.h 3 [0],.h 4 [0],.h 5 [0],.h 6 [0]])],[1000,1001],2320⟩)] .o) .o)) .o)) ⟨ajf,trivial⟩ Tryz.call102 Tryz.func102 rfl rfl
def DG(a0:List bi)(a1:Int)(a2:List Bool)(a3:List az)(a4:List Int)(a5:List Part)(a6:List bi)(a7:List Event):Option (Bool×Int×List Bool×List az×List Int×List Part×List bi×List Event):=(IR a0 a1 a2 a3 a4 a5 a6 a7).bind fun x1=>some (decide (x1.1≥0),x1.2.1,x1.2.2.1,x1.2.2.2.1,x1.2.2.2.2.1,x1.2.2.2.2.2.1,x1.2.2.2.2.2.2.1,x1.2.2.2.2.2.2.2)
def Vv:au D:=⟨44,OP,y7,[.one (.h 0 [0]),.one (.fn 45 [.ptr 1000 0])],vJ,aW,vJ,fun h=>DG h.1 h.2.1 h.2.2.1 h.2.2.2.1 h.2.2.2.2.1 h.2.2.2.2.2.1 h.2.2.2.2.2.2.1 h.2.2.2.2.2.2.2⟩
theorem ajg:CK Vv:=fo [Xb] [.tmp 4] .o ⟨akO,trivial⟩ Tryz.call44 Tryz.func44 rfl rfl
def Ap(a0:ak)(a1:e_)(a2:bt):Option (Int):=(rm a0 a2.ah).bind fun x1=>if(x1.1 !=0)=true then some x1.1 else((tL a1).bind fun x2=>if(!x2)=true then some true else if decide (a2.Time<0)=true then some true else some (decide (a2.Time>2147483648))).bind fun x3=>if x3=true then some 1 else if(len a2.lA !=a0.ai)=true then some 8 else((zt a2.ah (ah.mk x1.2.1 x1.2.2.1 x1.2.2.2.1 x1.2.2.2.2)).bind fun x4=>if(!x4)=true then some (true,a2.Time,a2.ah.al,a2.ah.aa,a2.ah.ar,a2.ah.ax,a2.lA,a2.lB) else(DG a2.lA a2.Time a2.ah.al a2.ah.aa a2.ah.ar a2.ah.ax a2.lA a2.lB).bind fun x5=>some (x5.1,x5.2.1,x5.2.2.1,x5.2.2.2.1,x5.2.2.2.2.1,x5.2.2.2.2.2.1,x5.2.2.2.2.2.2.1,x5.2.2.2.2.2.2.2)).bind fun x6=>if x6.1=true then some 11 else some 0
def NB:au D:=⟨14,[.lf (.int .i64),.lf (.sl 5),.lf (.sl 6),.lf (.sl 7),.lf (.int .i64),.lf (.int .i64),.lf (.int .i64),.lf (.int .i64),.lf (.int .i64),.lf (.int .i64),.lf (.sl 1),.lf (.sl 10),.lf (.sl 0),.lf (.sl 11),.lf (.sl 12),.lf (.sl 13)],bq,[.agg [.h 0 [],.h 1 [0],.h 2 [0],.h 3 [0],.h 4 [],.h 5 []],.agg [.h 6 [],.h 7 [],.h 8 []],.agg [.h 9 [],.h 10 [0],.h 11 [0],.h 12 [0],.h 13 [0],.h 14 [0],.h 15 [0]]],[],aW,[],fun h=>Ap ⟨h.1,h.2.1,h.2.2.1,h.2.2.2.1,h.2.2.2.2.1,h.2.2.2.2.2.1⟩ ⟨h.2.2.2.2.2.2.1,h.2.2.2.2.2.2.2.1,h.2.2.2.2.2.2.2.2.1⟩ ⟨h.2.2.2.2.2.2.2.2.2.1,⟨h.2.2.2.2.2.2.2.2.2.2.1,h.2.2.2.2.2.2.2.2.2.2.2.1,h.2.2.2.2.2.2.2.2.2.2.2.2.1,h.2.2.2.2.2.2.2.2.2.2.2.2.2.1⟩,h.2.2.2.2.2.2.2.2.2.2.2.2.2.2.1,h.2.2.2.2.2.2.2.2.2.2.2.2.2.2.2⟩⟩
theorem Ws:CK NB:=fo [GW,ra,yp,Vv] [.tmp 6] (.n none .o (.n none .o (.n none .o (.n none (.n none (.n none .o (.n none .o (.n none (.r (some (true,[(.normal,⟨[.lf .bool],[(22,.one (.h 0 []))],[],[],3344⟩)])) .nil) (.n none .o (.n none .o (.n none .o (.n none (.r (some (true,[(.normal,⟨y7,[(43,.one (.h 0 []))],[(2128,.box [.h 1 [],.h 2 [0],.h 3 [0],.h 4 [0],.h 5 [0],.h 6 [0],.h 7 [0]]),(2960,.box [.fn 41 [.ptr 2128 0]])],[2128,2960],3857⟩)])) .nil) .o))))))) .o) .o)))) ⟨Nl,B5,Nk,ajg,trivial⟩ Tryz.call14 Tryz.func14 rfl rfl
def IX(a0:List bi):Option (List bi):=bD [] a0
def Vb:au D:=⟨68,[.lf (.sl 12)],[.lf (.sl 12)],o7,[],j_,[(1000,.sl 12 80 0 [])],fun h=>IX h⟩
theorem ai0:CK Vb:=by
 refine⟨Tryz.call68,rfl,rfl,rfl,rfl,fun lH r0 jU dC dm has kB γ w vs hv _=> ?_⟩
 cases has
 match vs,hv with
 |[],hv=>exact hv.elim
 |_::_::_,hv=>exact hv.2.elim
 |[v],hv=>
 obtain⟨xs,dx⟩:∃xs:List (D 12),xs=lH:=⟨_,rfl⟩
 obtain⟨r,gV⟩:∃r:List (D 12),r=r0:=⟨_,rfl⟩
 have g0:Rv (In γ.o [0]) w v xs:=by rw[dx];exact hv.1.1
 have hr:bD ([]:List (D 12)) xs=some r:=by rw[dx,gV];exact jU
 subst gV
 have hT:=zv.2
 refine enter (l:=[v]) Tryz.func68 rfl Tryz.ntmps68 rfl ?_
 refine CW.sub (L':=[(0,v)]) ⟨rfl,trivial⟩ ?_
 refine CW.sr fun K1 fv=> ?_
 refine WL.p (.slice none 0 0) rfl rfl ?_
 refine WL.nx fv ?_
 refine CW.seq fun K2 gy=> ?_
 refine CW.sr fun K3 jy=> ?_
 refine WL.p v rfl rfl ?_
 obtain⟨a,m,q,rfl,hn⟩:=wB g0
 refine WL.gP (OW.isNil zv.1 rfl) rfl ?_
 refine WL.nx jy ?_
 cases a with
 |none=>
  refine CW.cond (b:=true) rfl (fun _=> ?_) (fun h=>nomatch h)
  refine CW.sr fun K4 kF=> ?_
  refine WL.p (.slice none 0 0) rfl rfl ?_
  refine WL.nx kF ?_
  rw[hn rfl] at hr
  obtain rfl:=yK hr
  exact CW.jM (vs:=[.slice none 0 0]) Tryz.results68 ⟨rfl,trivial⟩ ⟨_,rfl,nH (n:=12) (e:=80) (q:=1000) (K:=[]) (M:=[]) (N:=[]) rfl rfl rfl (by simp) (by simp) (ba.refl _ _ γ.o w) (Ow.nil _ _ _ _ _) (fun x hx=>by simp at hx<;>omega)⟩ (fun _ _ h=>h)
 |some a=>
  refine CW.cond (b:=false) rfl (fun h=>nomatch h) (fun _=> ?_)
  refine CW.skip ?_
  refine gy _ _ ?_
  refine CW.sr fun K5 lp=> ?_
  refine WL.step (OW.buildSlice (o:=γ.o) (k:=1000) (K:=[]) (xs:=([]:List (D 12))) zv.1 hT rfl trivial rfl rfl) rfl ?_
  rintro v1 w1 ⟨o1,iT,h1⟩
  have g0:=g0.nF iT rfl
  refine WL.p (.slice (some a) m q) rfl rfl ?_
  refine WL.step (OW.append (K:=[]) zv.1 hT rfl rfl h1 (@dM.flat (D 12) _ ahu _ _ _ _ _ g0.bV) hr rfl) rfl ?_
  rintro v2 w2 ⟨o2,di,h2⟩
  refine WL.p v2 rfl rfl ?_
  refine WL.nx lp ?_
  exact CW.jM (vs:=[v2]) Tryz.results68 ⟨rfl,trivial⟩ ⟨_,rfl,nH (n:=12) (e:=80) (q:=1000) (K:=[]) (M:=[1000]) (N:=[1000]) rfl rfl rfl (by simp) (by simp) ((iT.weaken (by simp) (by simp)).trans di) h2 (fun x hx=>by simp at hx<;>omega)⟩ (fun _ _ h=>h)
def zG(a0:List Event):Option (List Event):=bD [] a0
def Nf:au D:=⟨59,[.lf (.sl 13)],[.lf (.sl 13)],o7,[],j_,[(1000,.sl 13 56 0 [])],fun h=>zG h⟩
theorem Vh:CK Nf:=by
 refine⟨Tryz.call59,rfl,rfl,rfl,rfl,fun lH r0 jU dC dm has kB γ w vs hv _=> ?_⟩
 cases has
 match vs,hv with
 |[],hv=>exact hv.elim
 |_::_::_,hv=>exact hv.2.elim
 |[v],hv=>
 obtain⟨xs,dx⟩:∃xs:List (D 13),xs=lH:=⟨_,rfl⟩
 obtain⟨r,gV⟩:∃r:List (D 13),r=r0:=⟨_,rfl⟩
 have g0:Rv (In γ.o [0]) w v xs:=by rw[dx];exact hv.1.1
 have hr:bD ([]:List (D 13)) xs=some r:=by rw[dx,gV];exact jU
 subst gV
 have hT:=zu.2
 refine enter (l:=[v]) Tryz.func59 rfl Tryz.ntmps59 rfl ?_
 refine CW.sub (L':=[(0,v)]) ⟨rfl,trivial⟩ ?_
 refine CW.sr fun K1 fv=> ?_
 refine WL.p (.slice none 0 0) rfl rfl ?_
 refine WL.nx fv ?_
 refine CW.seq fun K2 gy=> ?_
 refine CW.sr fun K3 jy=> ?_
 refine WL.p v rfl rfl ?_
 obtain⟨a,m,q,rfl,hn⟩:=wB g0
 refine WL.gP (OW.isNil zu.1 rfl) rfl ?_
 refine WL.nx jy ?_
 cases a with
 |none=>
  refine CW.cond (b:=true) rfl (fun _=> ?_) (fun h=>nomatch h)
  refine CW.sr fun K4 kF=> ?_
  refine WL.p (.slice none 0 0) rfl rfl ?_
  refine WL.nx kF ?_
  rw[hn rfl] at hr
  obtain rfl:=yK hr
  exact CW.jM (vs:=[.slice none 0 0]) Tryz.results59 ⟨rfl,trivial⟩ ⟨_,rfl,nH (n:=13) (e:=56) (q:=1000) (K:=[]) (M:=[]) (N:=[]) rfl rfl rfl (by simp) (by simp) (ba.refl _ _ γ.o w) (Ow.nil _ _ _ _ _) (fun x hx=>by simp at hx<;>omega)⟩ (fun _ _ h=>h)
 |some a=>
  refine CW.cond (b:=false) rfl (fun h=>nomatch h) (fun _=> ?_)
  refine CW.skip ?_
  refine gy _ _ ?_
  refine CW.sr fun K5 lp=> ?_
  refine WL.step (OW.buildSlice (o:=γ.o) (k:=1000) (K:=[]) (xs:=([]:List (D 13))) zu.1 hT rfl trivial rfl rfl) rfl ?_
  rintro v1 w1 ⟨o1,iT,h1⟩
  have g0:=g0.nF iT rfl
  refine WL.p (.slice (some a) m q) rfl rfl ?_
  refine WL.step (OW.append (K:=[]) zu.1 hT rfl rfl h1 (@dM.flat (D 13) _ aht _ _ _ _ _ g0.bV) hr rfl) rfl ?_
  rintro v2 w2 ⟨o2,di,h2⟩
  refine WL.p v2 rfl rfl ?_
  refine WL.nx lp ?_
  exact CW.jM (vs:=[v2]) Tryz.results59 ⟨rfl,trivial⟩ ⟨_,rfl,nH (n:=13) (e:=56) (q:=1000) (K:=[]) (M:=[1000]) (N:=[1000]) rfl rfl rfl (by simp) (by simp) ((iT.weaken (by simp) (by simp)).trans di) h2 (fun x hx=>by simp at hx<;>omega)⟩ (fun _ _ h=>h)
def qu(a0:ak)(a1:Int)(a2:Int):Option (Bool):=(if(a1==1)=true then some (len a0.aa) else(if(a1==2)=true then some (len a0.ab) else(if(a1==3)=true then some a0.ai else(if(a1==4)=true then some (len a0.ae) else some 0).bind some).bind some).bind some).bind fun x4=>(if decide (a2≥0)=true then some (decide (a2<x4)) else some false).bind some
def Wq:au D:=⟨152,H8,[.lf .bool],[.agg [.h 0 [],.h 1 [0],.h 2 [0],.h 3 [0],.h 4 [],.h 5 []],.one (.h 6 []),.one (.h 7 [])],[],aW,[],fun h=>qu ⟨h.1,h.2.1,h.2.2.1,h.2.2.2.1,h.2.2.2.2.1,h.2.2.2.2.2.1⟩ h.2.2.2.2.2.2.1 h.2.2.2.2.2.2.2⟩
theorem aj9:CK Wq:=fo [] [.tmp 6] (.n none .o (.n none .o (.n none (.n none .o (.n none (.n none .o (.n (some (true,[(.normal,⟨bq,nR,[],[],2448⟩)])) .o (.n none .o (.n (some (true,[(.normal,⟨bq,nR,[],[],2576⟩)])) .o (.n none .o (.n (some (true,[(.normal,⟨bq,nR,[],[],2704⟩)])) .o (.n none .o (.n (some (true,[(.normal,⟨bq,nR,[],[],2832⟩)])) .o .o)))))))) .o)) (.n none (.r (some (true,[(.normal,⟨[.lf .bool],mo,[],[],2513⟩)])) .nil) .o)))) trivial Tryz.call152 Tryz.func152 rfl rfl
end Rx
end Go.Proofs.YtaneejpkncdodaaGreat
