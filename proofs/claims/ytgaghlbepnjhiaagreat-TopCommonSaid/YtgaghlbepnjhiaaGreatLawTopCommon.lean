/- TopCommon. -/
import Derived.Test.YtgaghlbepnjhiaaGreatMe
set_option linter.all false
open Bool renaming false_eq_true->aC,true->ab
open List renaming mem_singleton->cY
open Option renaming bind->pW,bind_some->al,some->aa
namespace Go.Proofs.YtgaghlbepnjhiaaGreat
open Go Go.RowKit Dp
namespace Rx
def aDK:Wg=aa ab:=by kernel_rfl
abbrev tH(x2:wC)(x3:Gm):gK:=gK.mk (dD.mk (gZ.mk x2.2.2.2.2.2.2.2.2.2.2.2.2.2.2.2.2.2.2.2.2.2.2.2.2.2.2.2.2.2.2.2.2.2.2.1 x2.2.2.2.2.2.2.2.2.2.2.2.2.2.2.2.2.2.2.2.2.2.2.2.2.2.2.2.2.2.2.2.2.2.2.2.1 x2.2.2.2.2.2.2.2.2.2.2.2.2.2.2.2.2.2.2.2.2.2.2.2.2.2.2.2.2.2.2.2.2.2.2.2.2.1) (gZ.mk x2.2.2.2.2.2.2.2.2.2.2.2.2.2.2.2.2.2.2.2.2.2.2.2.2.2.2.2.2.2.2.2.2.2.2.2.2.2.1 x2.2.2.2.2.2.2.2.2.2.2.2.2.2.2.2.2.2.2.2.2.2.2.2.2.2.2.2.2.2.2.2.2.2.2.2.2.2.2.1 x2.2.2.2.2.2.2.2.2.2.2.2.2.2.2.2.2.2.2.2.2.2.2.2.2.2.2.2.2.2.2.2.2.2.2.2.2.2.2.2.1) (gZ.mk x2.2.2.2.2.2.2.2.2.2.2.2.2.2.2.2.2.2.2.2.2.2.2.2.2.2.2.2.2.2.2.2.2.2.2.2.2.2.2.2.2.1 x2.2.2.2.2.2.2.2.2.2.2.2.2.2.2.2.2.2.2.2.2.2.2.2.2.2.2.2.2.2.2.2.2.2.2.2.2.2.2.2.2.2.1 x2.2.2.2.2.2.2.2.2.2.2.2.2.2.2.2.2.2.2.2.2.2.2.2.2.2.2.2.2.2.2.2.2.2.2.2.2.2.2.2.2.2.2.1) x2.1 x2.2.1 x2.2.2.1 x2.2.2.2.1) (dG.mk x2.2.2.2.2.1 x2.2.2.2.2.2.1 x2.2.2.2.2.2.2.2.2.2.2.2.2.2.2.2.2.2.2.2.2.2.2.2.2.2.2.2.2.2.2.2.2.2.2.2.2.2.2.2.2.2.2.2.1) (au.mk x2.2.2.2.2.2.2.1 x3.2.2.2.1 x3.2.2.2.2.1 x3.2.2.2.2.2.1 x2.2.2.2.2.2.2.2.1 x2.2.2.2.2.2.2.2.2.1) (gL.mk x2.2.2.2.2.2.2.2.2.2.1 x2.2.2.2.2.2.2.2.2.2.2.1 x2.2.2.2.2.2.2.2.2.2.2.2.1) (b_.mk x2.2.2.2.2.2.2.2.2.2.2.2.2.2.2.2.2.2.2.2.2.2.2.2.2.2.2.2.2.2.2.2.2.2.2.2.2.2.2.2.2.2.2.2.2.2.2.2.1 x2.2.2.2.2.2.2.2.2.2.2.2.2.2.2.2.2.2.2.2.2.2.2.2.2.2.2.2.2.2.2.2.2.2.2.2.2.2.2.2.2.2.2.2.2.2.2.2.2.1 x2.2.2.2.2.2.2.2.2.2.2.2.2.2.2.2.2.2.2.2.2.2.2.2.2.2.2.2.2.2.2.2.2.2.2.2.2.2.2.2.2.2.2.2.2.2.2.2.2.2.1) x2.2.2.2.2.2.2.2.2.2.2.2.2.2.2.2.2.2.2.2.2.2.2.2.2.2.2.2.2.2.2.2.2.2.2.2.2.2.2.2.2.2.2.2.2.2.2.2.2.2.2.1 (eM.mk x2.2.2.2.2.2.2.2.2.2.2.2.2.1 x2.2.2.2.2.2.2.2.2.2.2.2.2.2.1 x2.2.2.2.2.2.2.2.2.2.2.2.2.2.2.1 x2.2.2.2.2.2.2.2.2.2.2.2.2.2.2.2.1 x2.2.2.2.2.2.2.2.2.2.2.2.2.2.2.2.2.1 x2.2.2.2.2.2.2.2.2.2.2.2.2.2.2.2.2.2.1 x2.2.2.2.2.2.2.2.2.2.2.2.2.2.2.2.2.2.2.1 x2.2.2.2.2.2.2.2.2.2.2.2.2.2.2.2.2.2.2.2.1 x2.2.2.2.2.2.2.2.2.2.2.2.2.2.2.2.2.2.2.2.2.1) (Target.mk (gM.mk x2.2.2.2.2.2.2.2.2.2.2.2.2.2.2.2.2.2.2.2.2.2.1 x2.2.2.2.2.2.2.2.2.2.2.2.2.2.2.2.2.2.2.2.2.2.2.1) x2.2.2.2.2.2.2.2.2.2.2.2.2.2.2.2.2.2.2.2.2.2.2.2.1) x2.2.2.2.2.2.2.2.2.2.2.2.2.2.2.2.2.2.2.2.2.2.2.2.2.1 (fy.mk x2.2.2.2.2.2.2.2.2.2.2.2.2.2.2.2.2.2.2.2.2.2.2.2.2.2.1 x2.2.2.2.2.2.2.2.2.2.2.2.2.2.2.2.2.2.2.2.2.2.2.2.2.2.2.1 (fA.mk (gM.mk x2.2.2.2.2.2.2.2.2.2.2.2.2.2.2.2.2.2.2.2.2.2.2.2.2.2.2.2.1 x2.2.2.2.2.2.2.2.2.2.2.2.2.2.2.2.2.2.2.2.2.2.2.2.2.2.2.2.2.1) x2.2.2.2.2.2.2.2.2.2.2.2.2.2.2.2.2.2.2.2.2.2.2.2.2.2.2.2.2.2.1 x2.2.2.2.2.2.2.2.2.2.2.2.2.2.2.2.2.2.2.2.2.2.2.2.2.2.2.2.2.2.2.1) x2.2.2.2.2.2.2.2.2.2.2.2.2.2.2.2.2.2.2.2.2.2.2.2.2.2.2.2.2.2.2.2.1) (mg.mk x2.2.2.2.2.2.2.2.2.2.2.2.2.2.2.2.2.2.2.2.2.2.2.2.2.2.2.2.2.2.2.2.2.2.2.2.2.2.2.2.2.2.2.2.2.2.2.2.2.2.2.2)
def Rch(d:b_)(x y:Part):Prop:=∀G:Part->Prop,G x->(∀k∈d.cw,G k.cu->G k.To)->G y
variable {l:List Int} {a tm:Int} {q:aw} {R:List eH} {x2:wC} {br:List cL} {ss:List Source} {cs:List Consumer} {f:gR}
def azj(h:tx (tH x2 (tm,l,a,br,ss,cs,q.aE,q.aj,q.aT,q.aP,R)) q tm R){N C:List Part}(hN:N.length<=12){s:Bool}(hs:s=ab->∀y∈qP,y∉N->zz (tH x2 (tm,l,a,br,ss,cs,q.aE,q.aj,q.aT,q.aP,R)) ⟨tm,q,R,[]⟩ ⟨f.1,f.2.1,f.2.2⟩ y ab)(hC:C.length<=6∧∀x∈C,x∈qP):aG (Oa x2 (tm,l,a,br,ss,cs,q.aE,q.aj,q.aT,q.aP,R) f s N C) 0=aa (.inl ()):=by
 refine xT.1 (dy C.length (λk u=>u=(k:Int)) rfl ?_ ?_ (by have:=hC.1;omega))
 ·rintro k u hk rfl;have hl:=hC.1;unfold Oa;simp only[aZ hk,aH,aM hk,al,awk (show N.length<=1000 by omega)];refine Wp.bind (Q:=λr=>r= .inl ()) ?_ λr hr=>by rw[hr];exact aq.2 (by rw[aY (by omega)])
  refine Wp.ite (λ_=>aq.2 rfl) λhh=>?_;have hy:=hC.2 _ (cX hk);have hn:gt C k∉N:=λe=>by rw[fG e]at hh;cases hh
  have key:zz (tH x2 (tm,l,a,br,ss,cs,q.aE,q.aj,q.aT,q.aP,R)) ⟨tm,q,R,[]⟩ ⟨f.1,f.2.1,f.2.2⟩ (gt C k) ab∨(s=false∧∃r,xu (tH x2 (tm,l,a,br,ss,cs,q.aE,q.aj,q.aT,q.aP,R)) ⟨tm,q,R,[]⟩ [] [gt C k]=aa r∧r.2.1=0):=by
   cases s with
   |true=>exact .inl (hs rfl _ hy hn)
   |false=>obtain⟨r,e1,e2,_⟩:=Kh (l:=[gt C k]) h.vo h.g h.n h.t0 h.t1 h.r (by simp) (λy gp=>by rw[cY.1 gp];exact hy);exact .inr ⟨rfl,r,e1,e2⟩
  rcases key with⟨r,e1,e2,e3⟩|⟨rfl,r,e1,e2⟩
  ·refine Wp.nZ e1 ?_;refine Wp.bind (Q:=λc=>c=false) ?_ λc hc=>by rw[hc];exact aq.2 rfl
   rw[e2];refine Wp.ite (λe=>by cases e) λ_=>?_;exact Wp.ite (λ_=>Wp.nZ e3 (aq.2 rfl)) λ_=>aq.2 rfl
  ·refine Wp.nZ e1 ?_;refine Wp.bind (Q:=λc=>c=false) ?_ λc hc=>by rw[hc];exact aq.2 rfl
   rw[e2];refine Wp.ite (λe=>by cases e) λ_=>?_;exact Wp.ite (λe=>by cases e) λ_=>aq.2 rfl
 ·rintro u rfl;unfold Oa;simp only[bC,aC,aB];exact aq.2 rfl
def abQ{v:gK}(h:tx v q tm R):∀x∈qP,x∈q.aP++qP:=λx hx=>List.mem_append.2 (.inr hx)
def azk(h:tx (tH x2 (tm,l,a,br,ss,cs,q.aE,q.aj,q.aT,q.aP,R)) q tm R){N:List Part}(hN:N.length<=12){s:Bool}(hs:s=ab->∀y∈qP,y∉N->zz (tH x2 (tm,l,a,br,ss,cs,q.aE,q.aj,q.aT,q.aP,R)) ⟨tm,q,R,[]⟩ ⟨f.1,f.2.1,f.2.2⟩ y ab):aG (Wi x2 (tm,l,a,br,ss,cs,q.aE,q.aj,q.aT,q.aP,R) f s N) 0=aa (.inl ()):=by
 have hd:=h.vo.zb;obtain⟨n,n3,hg,_⟩:=hd.VS;simp only at hg;refine xT.1 (pn (λu=>(3-u).toNat) (λu=>0<=u∧u<=3) (λu hu=>?_) ⟨by omega,by omega⟩ (by omega));unfold Wi;refine Wp.ite (λhh=>?_) λ_=>aq.2 rfl;have hh:=jJ hh;unfold len at hh;have e2:aG (Wh x2 (tm,l,a,br,ss,cs,q.aE,q.aj,q.aT,q.aP,R) f s N u) 0=aa (.inl ()):=by refine xT.1 (pn (λw=>(3-w).toNat) (λw=>0<=w∧w<=3) (λw hw=>?_) ⟨by omega,by omega⟩ (by omega));unfold Wh;refine Wp.ite (λhh2=>?_) λ_=>aq.2 rfl;have hh2:=jJ hh2;refine(amC hd h.vo.vn (Kt _ h.vo h.g.1.2 h.n) (abQ h) u w).bind λC hC=>?_;rw[azj h hN hs hC];refine aq.2 ?_;rw[bX (by omega) (by omega)];omega
 rw[e2];refine aq.2 ?_;rw[bX (by omega) (by omega)];omega
def azh(h:tx (tH x2 (tm,l,a,br,ss,cs,q.aE,q.aj,q.aT,q.aP,R)) q tm R){x:iy}(hx:x.Part∈qP){F:List Part}(hF:F.length<=12∧∀y∈F,y∈q.aP++qP∧y∈qP∧Rch (tH x2 (tm,l,a,br,ss,cs,q.aE,q.aj,q.aT,q.aP,R)).b_ x.Part y):aG (N9 x2 x F) 0=aa (.inl ()):=by
 refine xT.1 (dy F.length (λk u=>u=(k:Int)) rfl ?_ ?_ (by have:=hF.1;omega))
 ·rintro k u hk rfl;have hl:=hF.1;unfold N9;simp only[aZ hk,aH,aM hk,al];obtain⟨_,hq,hr⟩:=hF.2 _ (cX hk);refine(amE h.vo.zb h.vo.vn hx hq hr).bind λr hr=>?_;rw[hr.1];refine Wp.bind (Q:=λc=>c=false) ?_ λc hc=>by rw[hc];exact aq.2 (by rw[aY (by omega)])
  exact Wp.ite (λe=>by cases e) λ_=>Wp.nZ hr.2 (aq.2 rfl)
 ·rintro u rfl;unfold N9;simp only[bC,aC,aB];exact aq.2 rfl
def azi(h:tx (tH x2 (tm,l,a,br,ss,cs,q.aE,q.aj,q.aT,q.aP,R)) q tm R){r:Int×List iy}(hr:r.2.length<=6∧∀x∈r.2,x.Part∈qP):aG (N_ x2 r) 0=aa (.inl ()):=by
 have hd:=h.vo.zb;have hP:=h.vo.vn;refine xT.1 (dy r.2.length (λk u=>u=(k:Int)) rfl ?_ ?_ (by have:=hr.1;omega))
 ·rintro k u hk rfl;have hl:=hr.1;unfold N_;simp only[aZ hk,aH,aM hk,al];have hx:=hr.2 _ (cX hk);refine(Z3 (E4 hd) (Kt _ h.vo h.g.1.2 h.n) (G:=λy=>y∈qP∧Rch (tH x2 (tm,l,a,br,ss,cs,q.aE,q.aj,q.aT,q.aP,R)).b_ (gt r.2 k).Part y) (λj hj hg=>⟨?_,λG g0 g1=>g1 j hj (hg.2 G g0 g1)⟩) (l:=[(gt r.2 k).Part]) (by simp) λy hy=>?_).bind λF hF=>?_
  ·have:=(hd.TJ.1 j hj).1.2;rwa[hP]at this
  ·rw[cY.1 hy];exact⟨abQ h _ hx,hx,λG g0 _=>g0⟩
  ·rw[azh h hx hF];exact aq.2 (by rw[aY (by omega)])
 ·rintro u rfl;unfold N_;simp only[bC,aC,aB];exact aq.2 rfl
def amx(hs:Sr l a):Wp (Qm ⟨l,a⟩) λr=>Sr r.2.2.2.1 r.2.2.2.2:=by unfold Qm;refine(qf hs (by omega) (by omega) (by omega) (by omega)).bind λx1 h1=>?_;refine(qf h1.2 (by omega) (by omega) (by omega) (by omega)).bind λx2 h2=>?_;exact(qf h2.2 (by omega) (by omega) (by omega) (by omega)).bind λx3 h3=>aq.2 h3.2
def al5{v:gK}(h:tx v q tm R){f:ft}{β:Type}{Q:β->Prop}{K:Bool->List Part->Option β}(hK:∀s N,vY v.b_ ⟨tm,q,R,[]⟩ []=aa N->N.length<=12->(s=ab->∀y∈qP,y∉N->zz v ⟨tm,q,R,[]⟩ f y ab)->Wp (K s N) Q):Wp (pW (I1 v ⟨tm,q,R,[]⟩ [] f) λs=>pW (vY v.b_ ⟨tm,q,R,[]⟩ []) λN=>K s N) Q:=by obtain⟨N,hN,hl⟩:=amm h;refine Wp.bind (amb (f:=f) h hN hl) λs hs=>?_;rw[hN];exact hK s N hN hl hs
def as3(t:List Int):Wj t=aa ab:=by
 unfold Wj;rw[aDK];refine xT.1 (Wp.ite (λ_=>aq.2 rfl) λ_=>(amn t).bind λr hr=>?_);refine(amg hr).bind λx2 h2=>?_;obtain⟨hs,hg,hv,nh,hd,hP⟩:=h2;refine(amj hs hg).bind λr hr=>?_;obtain⟨tm,l,a,q,R,rfl,hs,g,ht,hR,hn⟩:=hr;refine(amx hs).bind λx4 h4=>?_;refine(dU h4 (by simp) (by simp)).bind λx5 _=>?_;refine(ard _ _).bind λx6 _=>?_;have t0:0<=tm:=by omega
 have h:tx (tH x2 (tm,l,a,_,_,_,q.aE,q.aj,q.aT,q.aP,R)) q tm R:=⟨⟨hg,hv,nh,hd,hP⟩,g,hn,t0,ht.2,hR⟩;refine al5 h λs N hN uq hS=>?_;refine Wp.nZ (azk h uq hS) ?_;rw[Sum.elim_inl];refine Wp.bind (amJ h hN uq) λr hr=>?_;rw[hr.1];refine Wp.ite (λe=>by cases e) λ_=>?_;refine Wp.nZ (azi h hr.2) ?_;exact aq.2 rfl
