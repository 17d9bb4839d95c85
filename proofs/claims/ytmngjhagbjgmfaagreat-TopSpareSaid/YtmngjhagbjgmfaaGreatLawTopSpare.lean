/- TopSpare. -/
import Derived.Test.YtmngjhagbjgmfaaGreatMe
set_option linter.all false
namespace Go.Proofs.YtmngjhagbjgmfaaGreat
open Go Go.RowKit Dp
namespace Rx
def aCf:Vq=some true:=by kernel_rfl
def arL(t:List Int):Vs t=some true:=by
 unfold Vs;rw[aCf];refine Ql.1 (Wp.ite (λ_=>ar.2 rfl) λ_=>(ala t).bind λr hr=>?_);refine(ak6 hr).bind λx2 h2=>?_;obtain⟨hs,hg,hv,mX,hd,hP⟩:=h2;refine(ak9 hs hg).bind λr hr=>?_;obtain⟨tm,l,a,q,R,rfl,hs,g,ht,hR,hn⟩:=hr;refine(alk hs).bind λx4 h4=>?_;have t0:0<=tm:=by omega
 refine Wp.bind (alv (q:=q) (tm:=tm) (R:=R) ⟨hg,hv,mX,hd,hP⟩ g hn t0 ht.2 hR h4) λx5 h5=>?_;rw[h5.1];refine Wp.ite (λh=>by cases h) λ_=>?_;have h6:=h5.2.1;refine Wp.bind (Q:=λr=>r= .inl ()) ?_ λr hr=>by rw[hr];exact ar.2 rfl
 refine dS x5.2.length (λk s=>s=(k:Int)) rfl ?_ ?_
 ·rintro k s hk rfl;unfold Vr;simp only[ba hk,aH,aO hk,Option.bind_some];obtain⟨r,n,e1,e2,e3,e4,e5⟩:=h5.2.2 _ (du hk);refine Wp.pJ e1 ?_;rw[e2];refine Wp.ite (λh=>by cases h) λ_=>?_;refine Wp.pJ e4 ?_;refine Wp.bind (Q:=λc=>c=false) ?_ λc hc=>?_
  ·refine Wp.ite (λhh=>?_) λ_=>?_
   ·rw[e5 (jw hh)]at e3⊢;refine Wp.ite (λh=>by cases h) λ_=>?_;refine Wp.pJ e3 (ar.2 rfl)
   ·refine Wp.pJ e3 (ar.2 ?_);cases(gt x5.2 k).xp<;>rfl
  ·rw[hc];exact ar.2 (by rw[a_ (by omega)])
 ·rintro s rfl;unfold Vr;simp only[bI,Bool.false_eq_true,aC];exact ar.2 rfl
