/- Scripts of faults: the last kind of a part, what is broken at a time, leaving out what changes nothing, merging. Plain laws, no program in sight. -/
import Derived.Test.YtkgfdplcjdidhaaF1
set_option linter.unusedVariables false
set_option linter.unusedSimpArgs false
namespace Go.Proofs.Ytkgfdplcjdidhaa
open Go Go.RowKit Dp
namespace Rx

theorem snoc_ind {α : Type} {P : List α → Prop} (h0 : P []) (h1 : ∀ l x, P l → P (l ++ [x])) (l : List α) : P l := by
  have : ∀ r : List α, P r.reverse := by
    intro r
    induction r with
    | nil => exact h0
    | cons x r ih => rw [List.reverse_cons]; exact h1 _ _ ih
  have := this l.reverse
  rwa [List.reverse_reverse] at this

def eqP (a b : Part) : Bool := a.Kind == b.Kind && a.Number == b.Number
theorem eqP_iff {a b : Part} : eqP a b = true ↔ a = b := by
  unfold eqP
  cases a; cases b
  simp
theorem eqP_F {a b : Part} (h : a ≠ b) : eqP a b = false := by
  cases e : eqP a b with
  | true => exact (h (eqP_iff.1 e)).elim
  | false => rfl
theorem eqP_self (a : Part) : eqP a a = true := eqP_iff.2 rfl
structure VP (p : Part) : Prop where
  k0 : 1 ≤ p.Kind
  k1 : p.Kind ≤ 9
  n0 : 0 ≤ p.Number
  n1 : p.Number ≤ 63
def pk (p : Part) : Int := p.Kind * 64 + p.Number
def fk (f : Fault) : Int := f.Time * 1024 + pk f.Part
structure VF (f : Fault) : Prop where
  t0 : 0 ≤ f.Time
  t1 : f.Time ≤ 2147483648
  k : f.Kind = 1 ∨ f.Kind = 2
  p : VP f.Part
theorem VP.bd {p : Part} (h : VP p) : 64 ≤ pk p ∧ pk p < 1024 := by
  obtain ⟨h1, h2, h3, h4⟩ := h
  unfold pk
  omega
theorem part_ext {p q : Part} (h1 : p.Kind = q.Kind) (h2 : p.Number = q.Number) : p = q := by
  cases p; cases q; simp at h1 h2; rw [h1, h2]
theorem fault_ext {f g : Fault} (h1 : f.Time = g.Time) (h2 : f.Kind = g.Kind) (h3 : f.Part = g.Part) : f = g := by
  cases f; cases g; simp at h1 h2 h3; rw [h1, h2, h3]
theorem pk_inj {p q : Part} (hp : VP p) (hq : VP q) (h : pk p = pk q) : p = q := by
  obtain ⟨h1, h2, h3, h4⟩ := hp
  obtain ⟨g1, g2, g3, g4⟩ := hq
  unfold pk at h
  exact part_ext (by omega) (by omega)
theorem fk_inj {f g : Fault} (hf : VP f.Part) (hg : VP g.Part) (h : fk f = fk g) : f.Time = g.Time ∧ f.Part = g.Part := by
  have h1 := hf.bd
  have h2 := hg.bd
  unfold fk at h
  have : f.Time = g.Time := by omega
  exact ⟨this, pk_inj hf hg (by omega)⟩

/-- the last kind of a part: it is whole at the beginning -/
def lst (l : List Fault) (p : Part) : Int := l.foldl (fun k f => if eqP f.Part p = true then f.Kind else k) 2
theorem lst_nil (p : Part) : lst [] p = 2 := rfl
theorem lst_snoc (l : List Fault) (f : Fault) (p : Part) : lst (l ++ [f]) p = if eqP f.Part p = true then f.Kind else lst l p := by simp [lst]
theorem lst_filter (l : List Fault) (p : Part) : lst (l.filter fun f => eqP f.Part p) p = lst l p := by
  induction l using snoc_ind with
  | h0 => rfl
  | h1 l f ih =>
    rw [List.filter_append, lst_snoc]
    by_cases h : eqP f.Part p = true
    · rw [List.filter_cons, if_pos h, List.filter_nil, lst_snoc, if_pos h, if_pos h]
    · rw [List.filter_cons, if_neg h, List.filter_nil, List.append_nil, if_neg h, ih]
theorem lst_congr {l m : List Fault} {p : Part} (h : (l.filter fun f => eqP f.Part p) = m.filter fun f => eqP f.Part p) : lst l p = lst m p := by
  rw [← lst_filter l, h, lst_filter]
theorem lst_none {l : List Fault} {p : Part} (h : ∀ f ∈ l, f.Part ≠ p) : lst l p = 2 := by
  rw [← lst_filter, List.filter_eq_nil_iff.2 fun f hf => by rw [eqP_F (h f hf)]; simp]
  rfl
theorem lst_char (l : List Fault) (p : Part) : (lst l p = 2 ∧ ∀ f ∈ l, f.Part ≠ p) ∨ ∃ a f b, l = a ++ f :: b ∧ f.Part = p ∧ lst l p = f.Kind ∧ ∀ g ∈ b, g.Part ≠ p := by
  induction l using snoc_ind with
  | h0 => exact .inl ⟨rfl, fun f hf => by cases hf⟩
  | h1 l f ih =>
    rw [lst_snoc]
    by_cases h : eqP f.Part p = true
    · rw [if_pos h]
      exact .inr ⟨l, f, [], rfl, eqP_iff.1 h, rfl, fun g hg => by cases hg⟩
    · rw [if_neg h]
      have hne : f.Part ≠ p := fun e => h (eqP_iff.2 e)
      rcases ih with ⟨h1, h2⟩ | ⟨a, g, b, rfl, h2, h3, h4⟩
      · refine .inl ⟨h1, fun g hg => ?_⟩
        rcases List.mem_append.1 hg with hg | hg
        · exact h2 g hg
        · rw [List.mem_singleton.1 hg]; exact hne
      · refine .inr ⟨a, g, b ++ [f], by simp, h2, h3, fun z hz => ?_⟩
        rcases List.mem_append.1 hz with hz | hz
        · exact h4 z hz
        · rw [List.mem_singleton.1 hz]; exact hne
theorem lst_rng {l : List Fault} (h : ∀ f ∈ l, VF f) (p : Part) : lst l p = 1 ∨ lst l p = 2 := by
  rcases lst_char l p with ⟨h1, _⟩ | ⟨a, f, b, rfl, _, h3, _⟩
  · exact .inr h1
  · rw [h3]; exact (h f (by simp)).k

/-- the faults up to a time -/
def Up (l : List Fault) (t : Int) : List Fault := l.filter fun f => decide (f.Time ≤ t)
theorem Up_mem {l : List Fault} {t : Int} {f : Fault} : f ∈ Up l t ↔ f ∈ l ∧ f.Time ≤ t := by unfold Up; rw [List.mem_filter]; simp
theorem Up_app (l m : List Fault) (t : Int) : Up (l ++ m) t = Up l t ++ Up m t := by unfold Up; rw [List.filter_append]
theorem Up_all {l : List Fault} {t : Int} (h : ∀ f ∈ l, f.Time ≤ t) : Up l t = l := List.filter_eq_self.2 fun f hf => by simpa using h f hf
theorem Up_none {l : List Fault} {t : Int} (h : ∀ f ∈ l, ¬ f.Time ≤ t) : Up l t = [] := List.filter_eq_nil_iff.2 fun f hf => by simpa using h f hf
/-- right and ascending -/
structure Vs (l : List Fault) : Prop where
  vf : ∀ f ∈ l, VF f
  asc : Asc fk l
/-- right, ascending, each turns its part -/
structure Vl (l : List Fault) : Prop extends Vs l where
  alt : ∀ f ∈ l, f.Kind = 3 - lst (Up l (f.Time - 1)) f.Part
theorem Vs.nil : Vs [] := ⟨(fun f hf => by cases hf), List.Pairwise.nil⟩
theorem Vl.nil : Vl [] := ⟨Vs.nil, fun f hf => by cases hf⟩
theorem Vs.sub {l m : List Fault} (h : Vs l) (hs : List.Sublist m l) : Vs m := ⟨fun f hf => h.vf f (hs.subset hf), h.asc.sub hs⟩
theorem Vs.inj {l : List Fault} (h : Vs l) {f g : Fault} (hf : f ∈ l) (hg : g ∈ l) (h1 : f.Time = g.Time) (h2 : f.Part = g.Part) : f = g :=
  h.asc.inj hf hg (by unfold fk; rw [h1, h2])
theorem Up_congr {l m : List Fault} {t u : Int} {p : Part} (h : ∀ f ∈ l, f.Part = p → (f.Time ≤ t ↔ f.Time ≤ u)) : lst (Up l t) p = lst (Up l u) p := by
  apply lst_congr
  unfold Up
  rw [List.filter_filter, List.filter_filter]
  apply List.filter_congr
  intro f hf
  by_cases hp : f.Part = p
  · have := h f hf hp
    by_cases h1 : f.Time ≤ t
    · rw [dT h1, dT (this.1 h1)]
    · have h2 : ¬ f.Time ≤ u := fun h2 => h1 (this.2 h2)
      rw [dF h1, dF h2]
  · simp [eqP_F hp]
theorem lst_last {l : List Fault} (h : Vs l) (t : Int) (p : Part) : (lst (Up l t) p = 2 ∧ ∀ f ∈ l, f.Part = p → ¬ f.Time ≤ t) ∨ ∃ f ∈ l, f.Part = p ∧ f.Time ≤ t ∧ lst (Up l t) p = f.Kind ∧ ∀ g ∈ l, g.Part = p → g.Time ≤ t → g.Time ≤ f.Time := by
  rcases lst_char (Up l t) p with ⟨h1, h2⟩ | ⟨a, f, b, he, h2, h3, h4⟩
  · exact .inl ⟨h1, fun f hf hp ht => h2 f (Up_mem.2 ⟨hf, ht⟩) hp⟩
  · have hf : f ∈ Up l t := by rw [he]; simp
    have hf' := Up_mem.1 hf
    refine .inr ⟨f, hf'.1, h2, hf'.2, h3, fun g hg hp ht => ?_⟩
    have hg' : g ∈ Up l t := Up_mem.2 ⟨hg, ht⟩
    rw [he] at hg'
    have hasc : Asc fk (a ++ f :: b) := he ▸ h.asc.filter _
    rcases List.mem_append.1 hg' with hg' | hg'
    · have := (List.pairwise_append.1 hasc).2.2 g hg' f List.mem_cons_self
      unfold fk at this
      rw [hp, h2] at this
      omega
    · rcases List.mem_cons.1 hg' with e | hg'
      · rw [e]; exact Int.le_refl _
      · exact (h4 g hg' hp).elim
theorem lst_at {l : List Fault} (h : Vs l) {f : Fault} (hf : f ∈ l) : lst (Up l f.Time) f.Part = f.Kind := by
  rcases lst_last h f.Time f.Part with ⟨_, h2⟩ | ⟨g, hg, h1, h2, h3, h4⟩
  · exact (h2 f hf rfl (Int.le_refl _)).elim
  · have := h4 f hf rfl (Int.le_refl _)
    rw [h3, h.inj hg hf (by omega) h1]
theorem lst_before {l a b : List Fault} {f : Fault} (h : Vs l) (he : l = a ++ f :: b) : lst a f.Part = lst (Up l (f.Time - 1)) f.Part := by
  apply lst_congr
  subst he
  have hp := List.pairwise_append.1 h.asc
  rw [Up_app, List.filter_append]
  have e1 : (Up (f :: b) (f.Time - 1)).filter (fun g => eqP g.Part f.Part) = [] := by
    refine List.filter_eq_nil_iff.2 fun g hg => ?_
    have hg := Up_mem.1 hg
    intro he
    have he := eqP_iff.1 he
    rcases List.mem_cons.1 hg.1 with e | hm
    · rw [e] at hg; omega
    · have h3 := (List.pairwise_cons.1 hp.2.1).1 g hm
      unfold fk at h3
      rw [he] at h3
      omega
  rw [e1, List.append_nil]
  unfold Up
  rw [List.filter_filter]
  apply List.filter_congr
  intro g hg
  by_cases hq : g.Part = f.Part
  · have h3 := hp.2.2 g hg f List.mem_cons_self
    unfold fk at h3
    rw [hq] at h3
    simp [show g.Time ≤ f.Time - 1 from by omega]
  · simp [eqP_F hq]
theorem Vl.of {l : List Fault} (h : Vs l) (ha : ∀ a f b, l = a ++ f :: b → f.Kind = 3 - lst a f.Part) : Vl l :=
  ⟨h, fun f hf => by
    obtain ⟨a, b, he⟩ := List.append_of_mem hf
    rw [← lst_before h he]
    exact ha a f b he⟩
theorem Vl.at {l : List Fault} (h : Vl l) {a b : List Fault} {f : Fault} (he : l = a ++ f :: b) : f.Kind = 3 - lst a f.Part := by
  rw [lst_before h.toVs he]
  exact h.alt f (by rw [he]; simp)

/-- without what changes nothing -/
def trn (l : List Fault) : List Fault := l.foldl (fun out f => if f.Kind = 3 - lst out f.Part then out ++ [f] else out) []
theorem trn_snoc (l : List Fault) (f : Fault) : trn (l ++ [f]) = if f.Kind = 3 - lst (trn l) f.Part then trn l ++ [f] else trn l := by
  unfold trn
  rw [List.foldl_append]
  rfl
theorem trn_sub (l : List Fault) : List.Sublist (trn l) l := by
  induction l using snoc_ind with
  | h0 => exact List.Sublist.refl _
  | h1 l f ih =>
    rw [trn_snoc]
    split
    · exact ih.append (List.Sublist.refl _)
    · exact ih.trans (List.sublist_append_left _ _)
theorem trn_lst {l : List Fault} (h : ∀ f ∈ l, VF f) (p : Part) : lst (trn l) p = lst l p := by
  induction l using snoc_ind generalizing p with
  | h0 => rfl
  | h1 l f ih =>
    have ih := fun p => ih (fun g hg => h g (List.mem_append_left _ hg)) p
    have hf := (h f (by simp)).k
    have hr := lst_rng (l := l) (fun g hg => h g (List.mem_append_left _ hg)) f.Part
    rw [trn_snoc, lst_snoc]
    split
    · rw [lst_snoc, ih]
    · rename_i hne
      rw [ih] at hne ⊢
      split
      · rename_i hp
        rw [← eqP_iff.1 hp]
        omega
      · rfl
theorem trn_alt (l : List Fault) : ∀ a f b, trn l = a ++ f :: b → f.Kind = 3 - lst a f.Part := by
  induction l using snoc_ind with
  | h0 => intro a f b h; simp [trn] at h
  | h1 l g ih =>
    intro a f b h
    rw [trn_snoc] at h
    split at h
    · rename_i hg
      rcases List.eq_nil_or_concat b with rfl | ⟨b', y, rfl⟩
      · obtain ⟨e1, e2⟩ := List.append_inj' h rfl
        simp at e2
        rw [← e1, ← e2]
        exact hg
      · have h : trn l ++ [g] = (a ++ f :: b') ++ [y] := by rw [h]; simp
        obtain ⟨e1, _⟩ := List.append_inj' h rfl
        exact ih a f b' e1
    · exact ih a f b h
theorem trn_id {l : List Fault} (h : ∀ a f b, l = a ++ f :: b → f.Kind = 3 - lst a f.Part) : trn l = l := by
  induction l using snoc_ind with
  | h0 => rfl
  | h1 l f ih =>
    have e := ih fun a g b he => h a g (b ++ [f]) (by rw [he]; simp)
    rw [trn_snoc, e, if_pos (h l f [] rfl)]
theorem Vl.trn {l : List Fault} (h : Vl l) : trn l = l := trn_id fun a f b he => h.at he
theorem trn_vl {l : List Fault} (h : Vs l) : Vl (trn l) := Vl.of (h.sub (trn_sub l)) (trn_alt l)
theorem trn_up {l : List Fault} (h : Vs l) (t : Int) : Up (trn l) t = trn (Up l t) := by
  induction l using snoc_ind with
  | h0 => rfl
  | h1 l f ih =>
    have ih := ih (h.sub (List.sublist_append_left _ _))
    by_cases ht : f.Time ≤ t
    · have hall : ∀ g ∈ l ++ [f], g.Time ≤ t := fun g hg => by
        rcases List.mem_append.1 hg with hg | hg
        · have h3 := (List.pairwise_append.1 h.asc).2.2 g hg f (by simp)
          have b1 := (h.vf g (List.mem_append_left _ hg)).p.bd
          have b2 := (h.vf f (by simp)).p.bd
          unfold fk at h3
          omega
        · rw [List.mem_singleton.1 hg]; exact ht
      rw [Up_all hall, Up_all fun g hg => hall g ((trn_sub _).subset hg)]
    · have e : Up (l ++ [f]) t = Up l t := by rw [Up_app, Up_none (l := [f]) (fun g hg => by rw [List.mem_singleton.1 hg]; exact ht), List.append_nil]
      rw [e, trn_snoc, ← ih]
      split
      · rw [Up_app, Up_none (l := [f]) (fun g hg => by rw [List.mem_singleton.1 hg]; exact ht), List.append_nil]
      · rfl
theorem trn_br {l : List Fault} (h : Vs l) (t : Int) (p : Part) : lst (Up (trn l) t) p = lst (Up l t) p := by
  rw [trn_up h, trn_lst fun f hf => h.vf f (Up_mem.1 hf).1]

/-! merging -/
open Classical in
noncomputable def mK (a b : List Fault) (t : Int) (p : Part) : Int := if lst (Up a t) p = 1 ∨ lst (Up b t) p = 1 then 1 else 2
theorem mK_comm (a b : List Fault) (t : Int) (p : Part) : mK a b t p = mK b a t p := by
  unfold mK
  by_cases h1 : lst (Up a t) p = 1 <;> by_cases h2 : lst (Up b t) p = 1 <;> simp [h1, h2]
theorem mK_one {a b : List Fault} {t : Int} {p : Part} : mK a b t p = 1 ↔ lst (Up a t) p = 1 ∨ lst (Up b t) p = 1 := by
  unfold mK
  split
  · rename_i h; simp [h]
  · rename_i h; simp [h]
noncomputable def mAll (a b : List Fault) : List Fault := (a ++ b).map fun f => ⟨f.Time, mK a b f.Time f.Part, f.Part⟩
theorem mAll_mem {a b : List Fault} {x : Fault} : x ∈ mAll a b ↔ ∃ f, (f ∈ a ∨ f ∈ b) ∧ x = ⟨f.Time, mK a b f.Time f.Part, f.Part⟩ := by
  unfold mAll
  rw [List.mem_map]
  simp only [List.mem_append]
  exact ⟨fun ⟨f, h, e⟩ => ⟨f, h, e.symm⟩, fun ⟨f, h, e⟩ => ⟨f, h, e.symm⟩⟩
theorem mAll_vf {a b : List Fault} (ha : ∀ f ∈ a, VF f) (hb : ∀ f ∈ b, VF f) : ∀ x ∈ mAll a b, VF x := by
  intro x hx
  obtain ⟨f, hf, rfl⟩ := mAll_mem.1 hx
  have h : VF f := hf.elim (ha f) (hb f)
  refine ⟨h.t0, h.t1, ?_, h.p⟩
  show mK a b f.Time f.Part = 1 ∨ mK a b f.Time f.Part = 2
  unfold mK
  split
  · exact .inl rfl
  · exact .inr rfl
theorem mAll_inj {a b : List Fault} (ha : ∀ f ∈ a, VF f) (hb : ∀ f ∈ b, VF f) : ∀ x ∈ mAll a b, ∀ y ∈ mAll a b, fk x = fk y → x = y := by
  intro x hx y hy he
  have hi := fk_inj (mAll_vf ha hb x hx).p (mAll_vf ha hb y hy).p he
  obtain ⟨f, _, rfl⟩ := mAll_mem.1 hx
  obtain ⟨g, _, rfl⟩ := mAll_mem.1 hy
  simp only at hi
  rw [hi.1, hi.2]
theorem col_vs {xs C : List Fault} (h : Col fk xs C) (hx : ∀ f ∈ xs, VF f) : Vs C := ⟨fun f hf => hx f (h.sub f hf), h.asc⟩
theorem merge_br {a b C : List Fault} (ha : Vs a) (hb : Vs b) (hC : Col fk (mAll a b) C) (t : Int) {p : Part} : lst (Up C t) p = 1 ↔ lst (Up a t) p = 1 ∨ lst (Up b t) p = 1 := by
  have hv := col_vs hC (mAll_vf ha.vf hb.vf)
  -- each fault of both has its time and part in C
  have key : ∀ f, f ∈ a ∨ f ∈ b → ∃ g ∈ C, g.Time = f.Time ∧ g.Part = f.Part := fun f hf => by
    obtain ⟨g, hg, he⟩ := hC.all _ (mAll_mem.2 ⟨f, hf, rfl⟩)
    have := fk_inj (hv.vf g hg).p (hf.elim (ha.vf f) (hb.vf f)).p he
    exact ⟨g, hg, this⟩
  rcases lst_last hv t p with ⟨h1, h2⟩ | ⟨f, hf, h1, h2, h3, h4⟩
  · have e : ∀ l : List Fault, (∀ f ∈ l, f ∈ a ∨ f ∈ b) → lst (Up l t) p = 2 := fun l hl => lst_none fun f hf hp => by
      have hf := Up_mem.1 hf
      obtain ⟨g, hg, g1, g2⟩ := key f (hl f hf.1)
      exact h2 g hg (g2.trans hp) (by omega)
    rw [h1, e a fun f hf => .inl hf, e b fun f hf => .inr hf]
    simp
  · have e : ∀ l : List Fault, (∀ f ∈ l, f ∈ a ∨ f ∈ b) → lst (Up l f.Time) p = lst (Up l t) p := fun l hl => Up_congr (m := l) fun g hg hp => by
      refine ⟨fun h => by omega, fun h => ?_⟩
      obtain ⟨z, hz, z1, z2⟩ := key g (hl g hg)
      have := h4 z hz (z2.trans hp) (by omega)
      omega
    rw [h3, ← e a fun f hf => .inl hf, ← e b fun f hf => .inr hf, ← mK_one]
    obtain ⟨g, _, rfl⟩ := mAll_mem.1 (hC.sub f hf)
    simp only at h1 ⊢
    rw [h1]
theorem merge_comm {a b C C' : List Fault} (ha : Vs a) (hb : Vs b) (hC : Col fk (mAll a b) C) (hC' : Col fk (mAll b a) C') : C = C' := by
  refine asc_ext hC.asc hC'.asc fun x => ?_
  rw [hC.mem (mAll_inj ha.vf hb.vf), hC'.mem (mAll_inj hb.vf ha.vf), mAll_mem, mAll_mem]
  refine ⟨fun ⟨f, h, e⟩ => ⟨f, h.symm, by rw [e, mK_comm]⟩, fun ⟨f, h, e⟩ => ⟨f, h.symm, by rw [e, mK_comm]⟩⟩
theorem merge_self {a C : List Fault} (ha : Vs a) (hC : Col fk (mAll a a) C) : C = a := by
  refine asc_ext hC.asc ha.asc fun x => ?_
  rw [hC.mem (mAll_inj ha.vf ha.vf), mAll_mem]
  have e : ∀ f ∈ a, (⟨f.Time, mK a a f.Time f.Part, f.Part⟩ : Fault) = f := fun f hf => by
    have h := lst_at ha hf
    have hk := (ha.vf f hf).k
    refine fault_ext rfl ?_ rfl
    show mK a a f.Time f.Part = f.Kind
    unfold mK
    rw [h]
    rcases hk with hk | hk <;> simp [hk]
  constructor
  · rintro ⟨f, hf, rfl⟩
    have hf : f ∈ a := hf.elim id id
    rw [e f hf]; exact hf
  · intro hx
    exact ⟨x, .inl hx, (e x hx).symm⟩
end Rx
end Go.Proofs.Ytkgfdplcjdidhaa
