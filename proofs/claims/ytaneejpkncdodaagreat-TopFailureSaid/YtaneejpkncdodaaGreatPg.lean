import Derived.Test.YtaneejpkncdodaaGreatRa
set_option linter.unusedVariables false
set_option linter.unusedSimpArgs false
noncomputable section
namespace Go.Proofs.YtaneejpkncdodaaGreat
open Go Go.RowKit Dp
namespace Rx
def Wp{α:Type}(m:Option α)(Q:α→Prop):Prop:=∃r,m=some r∧Q r
section
variable {α β γ:Type} {m:Option α} {f:α→Option β} {Q:α→Prop} {R:β→Prop} {x:α}
theorem ay:Wp (some x) Q↔Q x:=⟨fun⟨_,h,hq⟩=>by cases h;exact hq,fun h=>⟨_,rfl,h⟩⟩
theorem wp_bind:Wp (rI m f) R↔Wp m fun y=>Wp (f y) R:=by
 constructor
 · rintro⟨r,h,hr⟩
   obtain⟨y,h1,h2⟩:=Option.bind_eq_some_iff.1 h
   exact⟨y,h1,r,h2,hr⟩
 · rintro⟨y,h1,r,h2,hr⟩
   exact⟨r,by rw[h1];exact h2,hr⟩
theorem Ye{c:Bool}{a b:Option α}:Wp (pZ c a b) Q↔(c=true→Wp a Q)∧(c=false→Wp b Q):=by
 cases c<;>simp[show pZ true a b=a from rfl,show pZ false a b=b from rfl]
theorem Wp.mono{Q':α→Prop}(h:Wp m Q)(hq:∀x,Q x→Q' x):Wp m Q':=by
 obtain⟨r,h1,h2⟩:=h
 exact⟨r,h1,hq r h2⟩
theorem Wp.bind{f:α→Option β}(h:Wp m Q)(hf:∀y,Q y→Wp (f y) R):Wp (rI m f) R:=wp_bind.2 (h.mono hf)
theorem Wp.p_{f:α→Option β}(h:m=some x)(hf:Wp (f x) R):Wp (rI m f) R:=by rw[h];exact hf
theorem Wp.pZ{c:Bool}{a b:Option α}(ha:c=true→Wp a Q)(hb:c=false→Wp b Q):Wp (pZ c a b) Q:=Ye.2 ⟨ha,hb⟩
theorem Im:Wp m (fun y=>y=x)↔m=some x:=⟨fun⟨_,h,hq⟩=>by rw[h,hq],fun h=>⟨x,h,rfl⟩⟩
theorem Wp.of(h:m=some x)(hq:Q x):Wp m Q:=⟨x,h,hq⟩
theorem Wp.get(h:Wp m Q):∃r,m=some r∧Q r:=h
theorem Wp.and{Q':α→Prop}(h:Wp m Q)(h':Wp m Q'):Wp m fun x=>Q x∧Q' x:=by
 obtain⟨r,h1,h2⟩:=h
 obtain⟨r',h3,h4⟩:=h'
 rw[h1] at h3
 cases h3
 exact⟨r,h1,h2,h4⟩
end
def Sm{α:Type}(l:List α):Prop:=l.length≤1000000000
section
variable {σ ρ:Type} {step:σ→Option (σ⊕ρ)} {s:σ} {r:ρ}
theorem acP{k:Nat}{s:σ}(h:jI step k s r):∀{n:Nat},k<n→kW step n s=some r:=by
 induction h with
 |done e=>
  intro n hn
  cases n with
  |zero=>omega
  |succ n=>
   show(match step _ with|some (.inl s')=>kW step n s'|some (.inr r)=>some r|none=>none)=_
   rw[e]
 |more e _ ih=>
  intro n hn
  cases n with
  |zero=>omega
  |succ n=>
   show(match step _ with|some (.inl s')=>kW step n s'|some (.inr r)=>some r|none=>none)=_
   rw[e]
   exact ih (by omega)
theorem mB{k:Nat}(h:jI step k s r)(hk:k≤1000000000000000000):aC step s=some r:=acP h (by omega)
theorem O3(μ:σ→Nat)(inv:σ→Prop){Q:ρ→Prop}(h:∀s,inv s→Wp (step s) fun x=>match x with| .inl s'=>inv s'∧μ s'<μ s| .inr r=>Q r){s:σ}(h0:inv s)(hm:μ s≤1000000000000000000):Wp (aC step s) Q:=by
 have key:∀(m:Nat) (s:σ),μ s≤m→inv s→∃k r,k≤m∧jI step k s r∧Q r:=by
  intro m
  induction m with
  |zero=>
   intro s hs hi
   obtain⟨x,h1,h2⟩:=h s hi
   cases x with
   |inl s'=>have:=h2.2;omega
   |inr r=>exact⟨0,r,Nat.le_refl _,.done h1,h2⟩
  |succ m ih=>
   intro s hs hi
   obtain⟨x,h1,h2⟩:=h s hi
   cases x with
   |inl s'=>
    obtain⟨k,r,h3,h4,h5⟩:=ih s' (by have:=h2.2;omega) h2.1
    exact⟨k+1,r,by omega,.more h1 h4,h5⟩
   |inr r=>exact⟨0,r,Nat.zero_le _,.done h1,h2⟩
 obtain⟨k,r,h1,h2,h3⟩:=key (μ s) s (Nat.le_refl _) h0
 exact⟨r,mB h2 (by omega),h3⟩
theorem hG(n:Nat)(inv:Nat→σ→Prop){Q:ρ→Prop}{s:σ}(h0:inv 0 s)(next:∀k s,k<n→inv k s→Wp (step s) fun x=>match x with| .inl s'=>inv (k+1) s'| .inr r=>Q r)(stop:∀s,inv n s→Wp (step s) fun x=>match x with| .inl _=>False| .inr r=>Q r)(hn:n≤1000000000000000000:=by first|omega|(simp only[Sm] at*;omega)):Wp (aC step s) Q:=by
 have key:∀(m k:Nat) (s:σ),m+k=n→inv k s→∃j r,j≤m∧jI step j s r∧Q r:=by
  intro m
  induction m with
  |zero=>
   intro k s hk hi
   obtain⟨x,h1,h2⟩:=stop s (by rw[show n=k from by omega];exact hi)
   cases x with
   |inl s'=>exact h2.elim
   |inr r=>exact⟨0,r,Nat.le_refl _,.done h1,h2⟩
  |succ m ih=>
   intro k s hk hi
   obtain⟨x,h1,h2⟩:=next k s (by omega) hi
   cases x with
   |inl s'=>
    obtain⟨j,r,h3,h4,h5⟩:=ih (k+1) s' (by omega) h2
    exact⟨j+1,r,by omega,.more h1 h4,h5⟩
   |inr r=>exact⟨0,r,Nat.zero_le _,.done h1,h2⟩
 obtain⟨k,r,h1,h2,h3⟩:=key n 0 s (by omega) h0
 exact⟨r,mB h2 (by omega),h3⟩
theorem dP(f:Nat→σ)(n:Nat){r:ρ}(next:∀k,k<n→step (f k)=some (.inl (f (k+1))))(stop:step (f n)=some (.inr r))(hn:n≤1000000000000000000:=by first|omega|(simp only[Sm] at*;omega)):aC step (f 0)=some r:=by
 have key:∀(m k:Nat),m+k=n→jI step m (f k) r:=by
  intro m
  induction m with
  |zero=>intro k hk;rw[show k=n from by omega];exact .done stop
  |succ m ih=>intro k hk;exact .more (next k (by omega)) (ih (k+1) (by omega))
 exact mB (key n 0 (by omega)) hn
theorem km(f:Nat→σ)(n:Nat)(p:Nat→Bool){R:Nat→ρ}{e:ρ}(next:∀k,k<n→p k=false→step (f k)=some (.inl (f (k+1))))(hit:∀k,k<n→p k=true→step (f k)=some (.inr (R k)))(stop:step (f n)=some (.inr e))(hn:n≤1000000000000000000:=by first|omega|(simp only[Sm] at*;omega)):
  aC step (f 0)=some (match(List.range n).find? p with|some k=>R k|none=>e):=by
 cases hf:(List.range n).find? p with
 |none=>
  refine dP f n (fun k hk=>next k hk ?_) stop hn
  have:=List.find?_eq_none.1 hf k (List.mem_range.2 hk)
  simpa using this
 |some k=>
  obtain⟨h1,as,bs,h2,h3⟩:=List.find?_eq_some_iff_append.1 hf
  have hk:k<n:=List.mem_range.1 (List.mem_of_find?_eq_some hf)
  have hlen:as.length=k:=by
   have h4:(List.range n)[as.length]? =some k:=by rw[h2];simp
   rw[List.getElem?_range (by
    have:=congrArg List.length h2
    simp at this
    omega)] at h4
   exact Option.some.inj h4
  refine dP f k (fun j hj=>next j (by omega) ?_) (hit k hk h1) (by omega)
  have fh:j∈as:=by
   have h4:(List.range n)[j]? =some j:=List.getElem?_range (by omega)
   rw[h2,List.getElem?_append_left (by omega)] at h4
   exact List.mem_of_getElem? h4
  simpa using h3 j fh
end
section
open Classical
def dB(p:Prop):Bool:=decide p
theorem Un{p:Prop}:dB p=true↔p:=by simp[dB]
theorem er{p:Prop}(h:p):dB p=true:=Un.2 h
theorem dj{p:Prop}(h:¬p):dB p=false:=by cases hb:dB p with|true=>exact(h (Un.1 hb)).elim|false=>rfl
theorem ah3{p:Prop}{b:Bool}(h:b=true↔p):b=dB p:=by
 cases b with
 |true=>exact(er (h.1 rfl)).symm
 |false=>exact(dj fun hp=>by have:=h.2 hp;cases this).symm
theorem Gp{p q:Prop}(h:p↔q):dB p=dB q:=by rw[propext h]
end
theorem bO{x:Int}(h1: -1000000000000000000≤x)(h2:x≤1000000000000000000):W x=x:=yM (by omega) (by omega)
theorem adN{α:Type}(xs:List α)(j:Nat):idx xs (j:Int)=xs[j]? :=by simp[idx]
theorem fM{α:Type}{xs:List α}{j:Nat}(h:j<xs.length)(y:α):cG xs (j:Int) y=some (xs.set j y):=by
 unfold cG
 rw[if_pos ⟨by omega,by omega⟩]
 simp
theorem PN{α:Type}{xs:List α}{j:Int}(h0:0≤j)(h:j<xs.length)(y:α):cG xs j y=some (xs.set j.toNat y):=by unfold cG;rw[if_pos ⟨h0,h⟩]
theorem c_{α:Type}{xs ys:List α}(h:xs.length+ys.length≤1073741824):bD xs ys=some (xs++ys):=by unfold bD;rw[if_pos h]
theorem zH{α:Type}{xs:List α}{n:Nat}(h:n≤xs.length):dw xs 0 (n:Int)=some (xs.take n):=by
 unfold dw
 rw[if_pos ⟨by omega,by omega,by omega⟩]
 simp
theorem PI{α:Type}{xs:List α}{n:Nat}(h:n≤xs.length):dw xs (n:Int) (len xs)=some (xs.drop n):=by
 unfold dw len
 rw[if_pos ⟨by omega,by omega,by omega⟩]
 simp
theorem Qp{a b:Int}(ha:0≤a)(hb:0<b)(h:a≤1000000000000000000):tO a b=some (a/b):=by
 unfold tO
 have h1:a.tdiv b=a/b:=Int.tdiv_eq_ediv_of_nonneg ha
 have h2:0≤a/b:=Int.ediv_nonneg ha (by omega)
 have h3:a/b≤a:=Int.ediv_le_self _ ha
 rw[if_neg (by omega),h1,bO (by omega) (by omega)]
theorem P8{a b:Int}(ha:0≤a)(hb:0<b):iJ a b=some (a% b):=by
 unfold iJ
 rw[if_neg (by omega),Int.tmod_eq_emod_of_nonneg ha]
theorem Aw{α:Type}{z:α}{n:Nat}(h:n≤1073741824):ki z (n:Int)=some (List.replicate n z):=by
 unfold ki;rw[if_pos ⟨by omega,by omega⟩];simp
theorem dT{c:Prop}[Decidable c](h:c):decide c=true:=decide_eq_true h
theorem dF{c:Prop}[Decidable c](h:¬c):decide c=false:=decide_eq_false h
theorem dU{a b:Int}(h:a=b):(a==b)=true:=by simp[h]
theorem bW{a b:Int}(h:a≠b):(a==b)=false:=by simp[h]
theorem Cr{a b:Int}(h:a≠b):(a !=b)=true:=by simp[h]
theorem Ho{a b:Int}(h:a=b):(a !=b)=false:=by simp[h]
end Rx
end Go.Proofs.YtaneejpkncdodaaGreat
namespace Go.Proofs.YtaneejpkncdodaaGreat
open Go Go.RowKit Dp
namespace Rx
theorem aX{k:Nat}(h:k<1000000000000000000):W ((k:Int)+1)=((k+1:Nat):Int):=by rw[bO (by omega) (by omega)];omega
theorem qc{k:Nat}(h:k<1000000000000000000)(h0:0<k):W ((k:Int)-1)=((k-1:Nat):Int):=by rw[bO (by omega) (by omega)];omega
section
variable {α:Type} [ad α]
def gt(l:List α)(k:Nat):α:=l.getD k ad.zero
theorem ep{l:List α}{k:Nat}(h:k<l.length):gt l k=l[k]:=by simp[gt,List.getD,h]
theorem aD{l:List α}{k:Nat}(h:k<l.length):idx l (k:Int)=some (gt l k):=by rw[adN,ep h];simp[h]
theorem eU{l:List α}{j:Int}(h0:0≤j)(h:j<l.length):idx l j=some (gt l j.toNat):=by
 obtain⟨k,rfl⟩:=Int.eq_ofNat_of_zero_le h0
 rw[aD (by omega)]
 simp
theorem cr{l:List α}{k:Nat}(h:k<l.length):gt l k∈l:=by rw[ep h];exact List.getElem_mem _
theorem jO{l:List α}{x:α}(h:x∈l):∃k,k<l.length∧gt l k=x:=by
 obtain⟨k,hk,e⟩:=List.getElem_of_mem h
 exact⟨k,hk,by rw[ep hk,e]⟩
theorem dI{l:List α}{i k:Nat}{x:α}(h:i<l.length):gt (l.set i x) k=if k=i then x else gt l k:=by
 unfold gt
 simp only[List.getD_eq_getElem?_getD,List.getElem?_set]
 by_cases hk:i=k
 · subst hk;simp[h]
 · rw[if_neg hk,if_neg (fun e=>hk e.symm)]
theorem FV{l m:List α}{k:Nat}(h:k<l.length):gt (l++m) k=gt l k:=by
 unfold gt;simp[List.getD_eq_getElem?_getD,List.getElem?_append_left h]
theorem Bz{l:List α}{x:α}:gt (l++[x]) l.length=x:=by
 unfold gt;simp[List.getD_eq_getElem?_getD]
theorem fi{l m:List α}(h:l.length=m.length)(he:∀k,k<l.length→gt l k=gt m k):l=m:=by
 apply List.ext_getElem h
 intro k h1 h2
 have:=he k h1
 rwa[ep h1,ep h2] at this
theorem gN{l:List α}{k:Nat}(h:k<l.length):l.take (k+1)=l.take k++[gt l k]:=by
 rw[List.take_add_one,List.getElem?_eq_getElem h,ep h];rfl
theorem By{n k:Nat}{z:α}(h:k<n):gt (List.replicate n z) k=z:=by
 rw[ep (by simpa using h)];simp
theorem EH{l:List α}{x:α}:x∈l↔∃k,k<l.length∧gt l k=x:=
 ⟨jO,fun⟨_,hk,e⟩=>e▸cr hk⟩
theorem fU{n j:Nat}(f:Nat→α)(h:j<n):gt ((List.range n).map f) j=f j:=by
 rw[ep (by simpa using h)];simp
theorem sC{l:List α}{x:α}{k:Nat}(h:k<l.length+1):gt (l++[x]) k=if k<l.length then gt l k else x:=by
 by_cases hk:k<l.length
 · rw[if_pos hk,FV hk]
 · rw[if_neg hk,show k=l.length from by omega,Bz]
end
theorem ww{α:Type}{l:List α}{j:Int}{x:α}(h0:0≤j)(h:j<l.length):cG l j x=some (l.set j.toNat x):=by
 unfold cG;rw[if_pos ⟨h0,h⟩]
theorem a_(a:Int):sF a a=some ():=if_pos rfl
theorem Rm{α:Type}(l:List α):len l=(l.length:Int):=rfl
theorem Mq{n:Nat}{p:Nat→Bool}(h:∀k,k<n→p k=false):(List.range n).find? p=none:=by
 rw[List.find?_eq_none]
 intro k hk
 rw[h k (List.mem_range.1 hk)]
 simp
section
open Classical
theorem kn{σ ρ:Type}{step:σ→Option (σ⊕ρ)}(f:Nat→σ)(n:Nat)(P:Nat→Prop){r e:ρ}(next:∀k,k<n→¬P k→step (f k)=some (.inl (f (k+1))))(hit:∀k,k<n→P k→step (f k)=some (.inr r))(stop:step (f n)=some (.inr e))(hn:n≤1000000000000000000:=by first|omega|(simp only[Sm] at*;omega)):
  aC step (f 0)=some (if ∃k,k<n∧P k then r else e):=by
 rw[km (R:=fun _=>r) (e:=e) f n (fun k=>decide (P k)) (fun k hk h=>next k hk (by simpa using h)) (fun k hk h=>hit k hk (by simpa using h)) stop hn]
 by_cases h:∃k,k<n∧P k
 · rw[if_pos h]
   obtain⟨k,hk,hp⟩:=h
   cases hf:(List.range n).find? (fun k=>decide (P k)) with
   |some j=>rfl
   |none=>
    have:=List.find?_eq_none.1 hf k (List.mem_range.2 hk)
    simp[hp] at this
 · rw[if_neg h,Mq (fun k hk=>by
    have:¬P k:=fun hp=>h ⟨k,hk,hp⟩
    simp[this])]
theorem pt{σ ρ:Type}{step:σ→Option (σ⊕ρ)}(f:Nat→σ)(n:Nat)(P:Nat→Prop){r e:ρ}(next:∀k,k<n→¬P k→step (f k)=some (.inl (f (k+1))))(hit:∀k,k<n→P k→step (f k)=some (.inr r))(stop:step (f n)=some (.inr e))(hn:n≤1000000000000000000:=by first|omega|(simp only[Sm] at*;omega)):
  aC step (f 0)=some (cond (dB (∃k,k<n∧P k)) r e):=by
 rw[kn f n P next hit stop hn]
 by_cases h:∃k,k<n∧P k
 · rw[if_pos h,er h];rfl
 · rw[if_neg h,dj h];rfl
end
theorem aU{α:Type}{l:List α}{k:Nat}(h:k<l.length):decide ((k:Int)<len l)=true:=dT (by unfold len;omega)
theorem bA{α:Type}{l:List α}:decide ((l.length:Int)<len l)=false:=dF (by unfold len;omega)
theorem cN{α:Type}{l:List α}(hl:Sm l){k:Nat}(h:k<l.length):k<1000000000000000000:=by unfold Sm at hl;omega
theorem Pz{α:Type}{l:List α}(hl:Sm l):l.length≤1000000000000000000:=by unfold Sm at hl;omega
end Rx
end Go.Proofs.YtaneejpkncdodaaGreat
