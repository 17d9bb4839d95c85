/- TopSpare. -/
import Derived.Test.YtmngjhagbjgmfaaGreatMe
set_option linter.all false
namespace Go.Proofs.YtmngjhagbjgmfaaGreat
open Go Go.RowKit Dp
namespace Rx
def aCj:Vu=some true:=by kernel_rfl
def arP(t:List Int):Vw t=some true:=by
 unfold Vw;rw[aCj];refine Qp.1 (Wp.ite (λ_=>au.2 rfl) λ_=>(ale t).bind λr hr=>?_);refine(ak_ hr).bind λx2 h2=>?_;obtain⟨hs,hg,hv,m9,hd,hP⟩:=h2;refine(alb hs hg).bind λr hr=>?_;obtain⟨tm,l,a,q,R,rfl,hs,g,ht,hR,hn⟩:=hr;refine(alp hs).bind λx4 h4=>?_;have t0:0<=tm:=by omega
 refine Wp.bind (alz (q:=q) (tm:=tm) (R:=R) ⟨hg,hv,m9,hd,hP⟩ g hn t0 ht.2 hR h4) λx5 h5=>?_;rw[h5.1];refine Wp.ite (λh=>by cases h) λ_=>?_;have h6:=h5.2.1;refine Wp.bind (Q:=λr=>r= .inl ()) ?_ λr hr=>by rw[hr];exact au.2 rfl
 refine dV x5.2.length (λk s=>s=(k:Int)) rfl ?_ ?_
 ·rintro k s hk rfl;unfold Vv;simp only[bb hk,aI,aP hk,Option.bind_some];obtain⟨r,n,e1,e2,e3,e4,e5⟩:=h5.2.2 _ (dx hk);refine Wp.pM e1 ?_;rw[e2];refine Wp.ite (λh=>by cases h) λ_=>?_;refine Wp.pM e4 ?_;refine Wp.bind (Q:=λc=>c=false) ?_ λc hc=>?_
  ·refine Wp.ite (λhh=>?_) λ_=>?_
   ·rw[e5 (jA hh)]at e3⊢;refine Wp.ite (λh=>by cases h) λ_=>?_;refine Wp.pM e3 (au.2 rfl)
   ·refine Wp.pM e3 (au.2 ?_);cases(gt x5.2 k).xu<;>rfl
  ·rw[hc];exact au.2 (by rw[ba (by omega)])
 ·rintro s rfl;unfold Vv;simp only[bJ,Bool.false_eq_true,aD];exact au.2 rfl
