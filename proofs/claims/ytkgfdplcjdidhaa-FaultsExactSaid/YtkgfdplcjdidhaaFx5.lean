/- Scripts of faults: the reference's lists and its normal scripts, drawn scripts. Plain laws. -/
import Derived.Test.YtkgfdplcjdidhaaFx4
set_option linter.unusedVariables false
set_option linter.unusedSimpArgs false
namespace Go.Proofs.Ytkgfdplcjdidhaa
open Go Go.RowKit Dp
namespace Rx

theorem take_Z {α : Type} (l : List α) (k : Nat) : takI l (k : Int) = l.take k := by simp [takI]
theorem drop_Z {α : Type} (l : List α) (k : Nat) : drpI l (k : Int) = l.drop k := by simp [drpI]
theorem ins_at {α : Type} [Rep α] {key : α → Int} {l : List α} (h : Asc key l) {k : Nat} {x : α} (hk : k ≤ l.length) (h1 : ∀ i, i < k → key (gt l i) < key x) (h2 : k < l.length → key x < key (gt l k)) : Asc key (l.take k ++ x :: l.drop k) := by
  have h3 : ∀ i, k ≤ i → i < l.length → key x < key (gt l i) := fun i hi hil => by
    rcases Nat.lt_or_eq_of_le hi with hlt | rfl
    · have := asc_gt h hlt hil
      have := h2 (by omega)
      omega
    · exact h2 hil
  refine List.pairwise_append.2 ⟨h.sub (List.take_sublist _ _), List.pairwise_cons.2 ⟨fun y hy => ?_, h.sub (List.drop_sublist _ _)⟩, fun y hy z hz => ?_⟩
  · obtain ⟨i, hi, rfl⟩ := List.mem_iff_getElem.1 hy
    rw [List.getElem_drop, ← gt_get]
    simp only [List.length_drop] at hi
    exact h3 _ (by omega) (by omega)
  · obtain ⟨i, hi, rfl⟩ := List.mem_iff_getElem.1 hy
    simp only [List.length_take] at hi
    rw [List.getElem_take, ← gt_get]
    have := h1 i (by omega)
    rcases List.mem_cons.1 hz with rfl | hz
    · exact this
    · obtain ⟨j, hj, rfl⟩ := List.mem_iff_getElem.1 hz
      rw [List.getElem_drop, ← gt_get]
      simp only [List.length_drop] at hj
      have := h3 (k + j) (by omega) (by omega)
      omega
theorem less_eq {a b : Part} (ha : VP a) (hb : VP b) : dynposref26_Less a b = some (dB (pk a < pk b)) := by
  obtain ⟨h1, h2, h3, h4⟩ := ha
  obtain ⟨g1, g2, g3, g4⟩ := hb
  unfold dynposref26_Less
  by_cases c1 : a.Kind < b.Kind
  · rw [dT c1, dB_T (by unfold pk; omega)]; rfl
  · rw [dF c1]
    simp only [Bool.false_eq_true, if_false]
    by_cases c2 : a.Kind = b.Kind
    · rw [beqT c2]
      simp only [if_true, Option.bind_some]
      congr 1
      refine dB_eq ?_
      unfold pk
      simp only [decide_eq_true_eq]
      omega
    · rw [beqF c2, dB_F (by unfold pk; omega)]; rfl
theorem wpWith {d : List Part} {P : Part → Prop} {p : Part} (h : PL d P) (hp : VP p) (hl : d.length ≤ 1000000) : ∃ d', dynposref26_With d p = some d' ∧ PL d' (fun q => P q ∨ q = p) ∧ d'.length ≤ d.length + 1 := by
  have hloop : Wp (loopO (dynposref26_With_L1 d p) 0) fun r => ∃ k : Nat, r = (k : Int) ∧ k ≤ d.length ∧ (∀ i, i < k → pk (gt d i) < pk p) ∧ (k < d.length → ¬ pk (gt d k) < pk p) := by
    refine wp_upto (s := (0 : Int)) d.length (fun k s => s = (k : Int) ∧ ∀ i, i < k → pk (gt d i) < pk p) ⟨rfl, fun j hj => by omega⟩ (fun k s hkl hi => ?_) (fun s hi => ?_) (by omega)
    · obtain ⟨rfl, hi⟩ := hi
      unfold dynposref26_With_L1
      simp only [lt_len hkl, if_true, idx_gt hkl, Option.bind_some, less_eq (h.vp _ (gt_mem hkl)) hp]
      by_cases he : pk (gt d k) < pk p
      · simp only [dB_T he, if_true]
        rw [W_succ (by omega)]
        exact wp_some.2 ⟨rfl, fun j hj => by
          by_cases hjk : j = k
          · rw [hjk]; exact he
          · exact hi j (by omega)⟩
      · simp only [dB_F he, Bool.false_eq_true, if_false]
        exact wp_some.2 ⟨k, rfl, by omega, hi, fun _ => he⟩
    · obtain ⟨rfl, hi⟩ := hi
      unfold dynposref26_With_L1
      simp only [nlt_len, Bool.false_eq_true, if_false, Option.bind_some]
      exact wp_some.2 ⟨d.length, rfl, Nat.le_refl _, hi, fun h => by omega⟩
  obtain ⟨r, hr, k, rfl, hk, h1, h2⟩ := hloop
  unfold dynposref26_With
  rw [hr]
  simp only [Option.bind_some]
  have new : (k < d.length → gt d k ≠ p) → ∃ d', (Option.bind (slc d 0 (k : Int)) fun x8 => Option.bind (slc d (k : Int) (len d)) fun x9 => Option.bind (app [p] (drpI d (k : Int))) fun x10 => Option.bind (app (takI d (k : Int)) x10) fun x11 => some x11) = some d' ∧ PL d' (fun q => P q ∨ q = p) ∧ d'.length ≤ d.length + 1 := fun hne => by
    rw [slc_take hk, slc_drop hk, drop_Z, take_Z]
    simp only [Option.bind_some]
    rw [app_sm (by simp; omega)]
    simp only [Option.bind_some]
    rw [app_sm (by simp; omega)]
    refine ⟨_, rfl, ⟨ins_at h.asc hk h1 (fun hkl => ?_), fun q hq => ?_, fun q => ?_⟩, by simp; omega⟩
    · have := h2 hkl
      have hne := hne hkl
      have : pk (gt d k) ≠ pk p := fun e => hne (pk_inj (h.vp _ (gt_mem hkl)) hp e)
      omega
    · rcases List.mem_append.1 hq with hq | hq
      · exact h.vp q (List.mem_of_mem_take hq)
      · rcases List.mem_cons.1 hq with rfl | hq
        · exact hp
        · exact h.vp q (List.mem_of_mem_drop hq)
    · have : q ∈ d ↔ q ∈ d.take k ∨ q ∈ d.drop k := by rw [← List.mem_append, List.take_append_drop]
      rw [← h.mem, this]
      simp only [List.mem_append, List.mem_cons, List.singleton_append]
      constructor
      · rintro (h | h | h)
        · exact .inl (.inl h)
        · exact .inr h
        · exact .inl (.inr h)
      · rintro ((h | h) | h)
        · exact .inl h
        · exact .inr (.inr h)
        · exact .inr (.inl h)
  by_cases hkl : k < d.length
  · simp only [lt_len hkl, if_true, idx_gt hkl, Option.bind_some]
    by_cases hq : gt d k = p
    · rw [show ((gt d k).Kind == p.Kind && (gt d k).Number == p.Number) = true from eqP_iff.2 hq]
      simp only [if_true]
      refine ⟨d, rfl, h.congr fun q => ⟨.inl, fun hh => hh.elim id fun e => ?_⟩, by omega⟩
      rw [e, ← hq]
      exact (h.mem _).1 (gt_mem hkl)
    · rw [show ((gt d k).Kind == p.Kind && (gt d k).Number == p.Number) = false from eqP_F hq]
      simp only [Bool.false_eq_true, if_false]
      exact new fun _ => hq
  · rw [dF (c := (k : Int) < len d) (by unfold len; omega)]
    simp only [Bool.false_eq_true, if_false, Option.bind_some]
    exact new fun h => (hkl h).elim
theorem rhas_eq {l : List Part} (hl : l.length ≤ 1000000) (p : Part) : dynposref26_Has l p = some (dB (p ∈ l)) := by
  have h : Wp (loopO (dynposref26_Has_L1 l p) 0) fun r => (p ∈ l ∧ r = .inr true) ∨ (p ∉ l ∧ r = .inl ()) := by
    refine wp_upto l.length (fun k s => s = (k : Int) ∧ ∀ i, i < k → gt l i ≠ p) ⟨rfl, fun i hi => by omega⟩ (fun k s hk hv => ?_) (fun s hv => ?_) (by omega)
    · obtain ⟨rfl, hv⟩ := hv
      unfold dynposref26_Has_L1
      simp only [lt_len hk, if_true, idx_gt hk, Option.bind_some]
      by_cases hq : gt l k = p
      · rw [show ((gt l k).Kind == p.Kind && (gt l k).Number == p.Number) = true from eqP_iff.2 hq]
        simp only [if_true]
        exact wp_some.2 (.inl ⟨by rw [← hq]; exact gt_mem hk, rfl⟩)
      · rw [show ((gt l k).Kind == p.Kind && (gt l k).Number == p.Number) = false from eqP_F hq]
        simp only [Bool.false_eq_true, if_false]
        rw [W_succ (by omega)]
        refine wp_some.2 ⟨rfl, fun i hi => ?_⟩
        by_cases hik : i = k
        · rw [hik]; exact hq
        · exact hv i (by omega)
    · obtain ⟨rfl, hv⟩ := hv
      unfold dynposref26_Has_L1
      simp only [nlt_len, Bool.false_eq_true, if_false]
      refine wp_some.2 (.inr ⟨fun hp => ?_, rfl⟩)
      obtain ⟨i, hi, he⟩ := mem_gt hp
      exact hv i hi he
  obtain ⟨r, hr, h⟩ := h
  unfold dynposref26_Has
  rw [hr]
  rcases h with ⟨hp, rfl⟩ | ⟨hp, rfl⟩
  · rw [dB_T hp]; rfl
  · rw [dB_F hp]; rfl
theorem same26_T {l : List Part} (hl : l.length ≤ 1000000) : dynposref26_Same l l = some true := by
  have e := loop_run (step := dynposref26_Same_L1 l l) (r := .inl ()) (fun k => (k : Int)) l.length (fun k hk => by
    unfold dynposref26_Same_L1
    simp only [lt_len hk, if_true, idx_gt hk, Option.bind_some]
    rw [show ((gt l k).Kind == (gt l k).Kind && (gt l k).Number == (gt l k).Number) = true from eqP_self _]
    simp only [Bool.not_true, Bool.false_eq_true, if_false]
    rw [W_succ (by omega)]) (by
    unfold dynposref26_Same_L1
    simp only [nlt_len, Bool.false_eq_true, if_false])
  simp only [show ((0 : Nat) : Int) = 0 from rfl] at e
  unfold dynposref26_Same
  rw [e]
  simp
theorem same34_T {l : List Fault} (hl : l.length ≤ 1000000) : dynposref34_Same l l = some true := by
  have e := loop_run (step := dynposref34_Same_L1 l l) (r := .inl ()) (fun k => (k : Int)) l.length (fun k hk => by
    unfold dynposref34_Same_L1
    simp only [lt_len hk, if_true, idx_gt hk, Option.bind_some, beq_self_eq_true, Bool.and_self, Bool.not_true, Bool.false_eq_true, if_false]
    rw [W_succ (by omega)]) (by
    unfold dynposref34_Same_L1
    simp only [nlt_len, Bool.false_eq_true, if_false])
  simp only [show ((0 : Nat) : Int) = 0 from rfl] at e
  unfold dynposref34_Same
  rw [e]
  simp
theorem union_eq {a b : List Part} (ha : a.length ≤ 1000) (hb : b.length ≤ 1000) (va : ∀ p ∈ a, VP p) (vb : ∀ p ∈ b, VP p) : ∃ d, dynposref26_Union a b = some d ∧ (PL d fun p => p ∈ a ∨ p ∈ b) ∧ d.length ≤ a.length + b.length := by
  have one : ∀ {l d : List Part} {P : Part → Prop}, PL d P → (∀ p ∈ l, VP p) → l.length ≤ 1000 → d.length ≤ 1000 → Wp (loopO (dynposref26_Union_L2 l) (0, d)) fun r => (PL r fun p => P p ∨ p ∈ l) ∧ r.length ≤ d.length + l.length := fun {l d P} h hv hl hd => by
    refine wp_upto l.length (fun k s => s.1 = (k : Int) ∧ (PL s.2 fun p => P p ∨ p ∈ l.take k) ∧ s.2.length ≤ d.length + k) ⟨rfl, h.congr fun p => by simp, by simp⟩ (fun k s hk hv' => ?_) (fun s hv' => ?_) (by omega)
    · obtain ⟨z, e⟩ := s
      obtain ⟨h1, h2, h3⟩ := hv'
      simp only at h1 h2 h3
      subst h1
      unfold dynposref26_Union_L2
      simp only [lt_len hk, if_true, idx_gt hk, Option.bind_some]
      obtain ⟨d', e1, e2, e3⟩ := wpWith h2 (hv _ (gt_mem hk)) (by omega)
      rw [e1]
      simp only [Option.bind_some]
      rw [W_succ (by omega)]
      refine wp_some.2 ⟨rfl, e2.congr fun p => ?_, by simp only; omega⟩
      rw [take_gt hk, List.mem_append, List.mem_singleton, or_assoc]
    · obtain ⟨z, e⟩ := s
      obtain ⟨h1, h2, h3⟩ := hv'
      simp only at h1 h2 h3
      subst h1
      unfold dynposref26_Union_L2
      simp only [nlt_len, Bool.false_eq_true, if_false]
      rw [List.take_length] at h2
      exact wp_some.2 ⟨h2, h3⟩
  obtain ⟨d1, e1, p1, l1⟩ := one PL.nil va ha (by simp)
  obtain ⟨d2, e2, p2, l2⟩ := one p1 vb hb (by simp at l1; omega)
  simp only [List.length_nil] at l1
  have e := loop_run (step := dynposref26_Union_L1 a b) (r := d2) (fun k => match k with | 0 => (0, []) | 1 => (1, d1) | _ => (2, d2)) 2 (fun k hk => by
    unfold dynposref26_Union_L1
    rcases k with _ | _ | k
    · simp [idx, e1, W_sm]
    · simp [idx, e2, W_sm]
    · omega) (by
    unfold dynposref26_Union_L1
    simp) (by omega)
  unfold dynposref26_Union
  have e' : loopO (dynposref26_Union_L1 a b) (0, []) = some d2 := e
  rw [e']
  exact ⟨d2, rfl, p2.congr fun p => by simp, by omega⟩
theorem without_eq {d : List Part} {P : Part → Prop} (h : PL d P) (hl : d.length ≤ 1000000) (p : Part) : dynposref34_without d p = some (d.filter fun q => !eqP q p) := by
  have e := loop_each (l := d) (step := dynposref34_without_L1 d p) (fun pre => pre.filter fun q => !eqP q p) (fun k hk => by
    unfold dynposref34_without_L1
    simp only [lt_len hk, if_true, idx_gt hk, Option.bind_some]
    rw [List.filter_append]
    have hle := List.length_filter_le (fun q => !eqP q p) (d.take k)
    rw [show ((gt d k).Kind == p.Kind && (gt d k).Number == p.Number) = eqP (gt d k) p from rfl]
    cases hq : eqP (gt d k) p with
    | true => simp [hq]
    | false =>
      simp only [Bool.not_false, if_true]
      rw [app_sm (by simp at hle ⊢; omega)]
      simp [hq]) (by
    unfold dynposref34_without_L1
    simp only [nlt_len, Bool.false_eq_true, if_false]
    all_goals rfl) (by omega)
  unfold dynposref34_without
  simp only [List.filter_nil] at e
  rw [e]
  rfl
theorem pl_without {d : List Part} {P : Part → Prop} (h : PL d P) (p : Part) : PL (d.filter fun q => !eqP q p) fun q => P q ∧ q ≠ p :=
  ⟨h.asc.filter _, fun q hq => h.vp q (List.mem_filter.1 hq).1, fun q => by
    rw [List.mem_filter, h.mem]
    refine and_congr_right fun _ => ?_
    by_cases e : q = p
    · subst e; simp [eqP_self]
    · simp [eqP_F e, e]⟩
theorem rright_T {f : Fault} (h : VF f) : dynposref34_Right f = some true := by
  obtain ⟨h1, h2, h3, h4, h5, h6, h7⟩ := h
  unfold dynposref34_Right dynposref26_Valid
  rw [dT (c := f.Time ≥ 0) h1, dT h2, dT (c := f.Part.Kind ≥ 1) h4, dT h5, dT (c := f.Part.Number ≥ 0) h6, dT h7]
  rcases h3 with h3 | h3 <;> simp [h3]
theorem times_eq {x : List Fault} (hx : x.length ≤ 1000) : ∃ T, dynposref34_times x = some T ∧ Asc id T ∧ T.length ≤ x.length := by
  have hloop : Wp (loopO (dynposref34_times_L1 x) (0, [])) fun T => Asc id T ∧ T.length ≤ x.length := by
    refine wp_upto x.length (fun k s => s.1 = (k : Int) ∧ Asc id s.2 ∧ s.2.length ≤ k) ⟨rfl, (show Asc id ([] : List Int) from List.Pairwise.nil), Nat.le_refl _⟩ (fun k s hk hv => ?_) (fun s hv => ?_) (by omega)
    · obtain ⟨z, T⟩ := s
      obtain ⟨h1, h2, h3⟩ := hv
      simp only at h1 h2 h3
      subst h1
      have hin : Wp (loopO (dynposref34_times_L2 ((k : Int), T) (gt x k)) 0) fun r => ∃ k' : Nat, r = (k' : Int) ∧ k' ≤ T.length ∧ (∀ i, i < k' → gt T i < (gt x k).Time) ∧ (k' < T.length → ¬ gt T k' < (gt x k).Time) := by
        refine wp_upto (s := (0 : Int)) T.length (fun k' s => s = (k' : Int) ∧ ∀ i, i < k' → gt T i < (gt x k).Time) ⟨rfl, fun j hj => by omega⟩ (fun k' s hkl hi => ?_) (fun s hi => ?_) (by omega)
        · obtain ⟨rfl, hi⟩ := hi
          unfold dynposref34_times_L2
          simp only [lt_len hkl, if_true, idx_gt hkl, Option.bind_some]
          by_cases he : gt T k' < (gt x k).Time
          · simp only [dT he, if_true]
            rw [W_succ (by omega)]
            exact wp_some.2 ⟨rfl, fun j hj => by
              by_cases hjk : j = k'
              · rw [hjk]; exact he
              · exact hi j (by omega)⟩
          · simp only [dF he, Bool.false_eq_true, if_false]
            exact wp_some.2 ⟨k', rfl, by omega, hi, fun _ => he⟩
        · obtain ⟨rfl, hi⟩ := hi
          unfold dynposref34_times_L2
          simp only [nlt_len, Bool.false_eq_true, if_false, Option.bind_some]
          exact wp_some.2 ⟨T.length, rfl, Nat.le_refl _, hi, fun h => by omega⟩
      obtain ⟨r, hr, q, rfl, q1, q2, q3⟩ := hin
      unfold dynposref34_times_L1
      simp only [lt_len hk, if_true, idx_gt hk, Option.bind_some, hr]
      have new : (q < T.length → gt T q ≠ (gt x k).Time) → ∃ T', (Option.bind (slc T 0 (q : Int)) fun x9 => Option.bind (slc T (q : Int) (len T)) fun x10 => Option.bind (app [(gt x k).Time] (drpI T (q : Int))) fun x11 => Option.bind (app (takI T (q : Int)) x11) fun x12 => some x12) = some T' ∧ Asc id T' ∧ T'.length ≤ k + 1 := fun hne => by
        rw [slc_take q1, slc_drop q1, drop_Z, take_Z]
        simp only [Option.bind_some]
        rw [app_sm (by simp; omega)]
        simp only [Option.bind_some]
        rw [app_sm (by simp; omega)]
        refine ⟨_, rfl, ins_at h2 q1 q2 (fun hkl => ?_), by simp; omega⟩
        have := q3 hkl
        have := hne hkl
        simp only [id]
        omega
      by_cases hq : q < T.length
      · rw [beqF (a := (q : Int)) (b := len T) (by unfold len; omega)]
        simp only [Bool.false_eq_true, if_false, idx_gt hq, Option.bind_some]
        by_cases he : gt T q = (gt x k).Time
        · simp only [bneF he, Bool.false_eq_true, if_false, Option.bind_some]
          rw [W_succ (by omega)]
          exact wp_some.2 ⟨rfl, h2, by simp only; omega⟩
        · obtain ⟨T', n1, n2, n3⟩ := new fun _ => he
          simp only [bneT he, if_true, n1, Option.bind_some]
          rw [W_succ (by omega)]
          exact wp_some.2 ⟨rfl, n2, n3⟩
      · obtain ⟨T', n1, n2, n3⟩ := new fun h => (hq h).elim
        rw [beqT (a := (q : Int)) (b := len T) (by unfold len; omega)]
        simp only [if_true, Option.bind_some, n1]
        rw [W_succ (by omega)]
        exact wp_some.2 ⟨rfl, n2, n3⟩
    · obtain ⟨z, T⟩ := s
      obtain ⟨h1, h2, h3⟩ := hv
      simp only at h1 h2 h3
      subst h1
      unfold dynposref34_times_L1
      simp only [nlt_len, Bool.false_eq_true, if_false]
      exact wp_some.2 ⟨h2, h3⟩
  obtain ⟨T, hT, h1, h2⟩ := hloop
  unfold dynposref34_times
  rw [hT]
  exact ⟨T, rfl, h1, h2⟩
theorem rparts_eq {x : List Fault} (hx : x.length ≤ 1000) (hv : ∀ f ∈ x, VF f) : ∃ d, dynposref34_parts x = some d ∧ (PL d fun p => ∃ f ∈ x, f.Part = p) ∧ d.length ≤ x.length := by
  have hloop : Wp (loopO (dynposref34_parts_L1 x) (0, [])) fun d => (PL d fun p => ∃ f ∈ x, f.Part = p) ∧ d.length ≤ x.length := by
    refine wp_upto x.length (fun k s => s.1 = (k : Int) ∧ (PL s.2 fun p => ∃ f ∈ x.take k, f.Part = p) ∧ s.2.length ≤ k) ⟨rfl, PL.nil.congr fun p => by simp, Nat.le_refl _⟩ (fun k s hk hv' => ?_) (fun s hv' => ?_) (by omega)
    · obtain ⟨z, d⟩ := s
      obtain ⟨h1, h2, h3⟩ := hv'
      simp only at h1 h2 h3
      subst h1
      unfold dynposref34_parts_L1
      simp only [lt_len hk, if_true, idx_gt hk, Option.bind_some]
      obtain ⟨d', e1, e2, e3⟩ := wpWith h2 (hv _ (gt_mem hk)).p (by omega)
      rw [e1]
      simp only [Option.bind_some]
      rw [W_succ (by omega)]
      refine wp_some.2 ⟨rfl, e2.congr fun p => ?_, by simp only; omega⟩
      rw [take_gt hk]
      constructor
      · rintro (⟨f, hf, e⟩ | e)
        · exact ⟨f, List.mem_append_left _ hf, e⟩
        · exact ⟨gt x k, by simp, e.symm⟩
      · rintro ⟨f, hf, e⟩
        rcases List.mem_append.1 hf with hf | hf
        · exact .inl ⟨f, hf, e⟩
        · rw [List.mem_singleton.1 hf] at e
          exact .inr e.symm
    · obtain ⟨z, d⟩ := s
      obtain ⟨h1, h2, h3⟩ := hv'
      simp only at h1 h2 h3
      subst h1
      unfold dynposref34_parts_L1
      simp only [nlt_len, Bool.false_eq_true, if_false]
      rw [List.take_length] at h2
      exact wp_some.2 ⟨h2, h3⟩
  obtain ⟨d, hd, h1, h2⟩ := hloop
  unfold dynposref34_parts
  rw [hd]
  exact ⟨d, rfl, h1, h2⟩
/-- what the reference has so far -/
structure Nv (x out : List Fault) (broken : List Part) : Prop where
  vs : Vs out
  alt : ∀ a f b, out = a ++ f :: b → f.Kind = 3 - lst a f.Part
  pl : PL broken fun p => lst out p = 1
  src : ∀ f ∈ out, ∃ y ∈ x, y.Time = f.Time ∧ y.Part = f.Part
theorem Nv.len {x out : List Fault} {broken : List Part} (h : Nv x out broken) : out.length ≤ x.length := by
  have := nodup_le (l := out.map fk) (m := x.map fk) (h.vs.asc.map fk (fun a b hab => by omega)) (fun k hk => by
    obtain ⟨f, hf, rfl⟩ := List.mem_map.1 hk
    obtain ⟨y, hy, h1, h2⟩ := h.src f hf
    exact List.mem_map.2 ⟨y, hy, by unfold fk; rw [h1, h2]⟩)
  simpa using this
theorem Nv.blen {x out : List Fault} {broken : List Part} (h : Nv x out broken) : broken.length ≤ out.length := by
  have := h.pl.len (l := out.map Fault.Part) fun p hp => by
    rcases lst_char out p with ⟨h2, _⟩ | ⟨a, f, b, he, h2, _, _⟩
    · omega
    · exact List.mem_map.2 ⟨f, by rw [he]; simp, h2⟩
  simpa using this
theorem Nv.add {x out : List Fault} {broken br' : List Part} {f : Fault} (h : Nv x out broken) (hf : VF f) (hk : ∀ g ∈ out, fk g < fk f) (ha : f.Kind = 3 - lst out f.Part) (hs : ∃ y ∈ x, y.Time = f.Time ∧ y.Part = f.Part) (hb : PL br' fun p => lst (out ++ [f]) p = 1) : Nv x (out ++ [f]) br' := by
  refine ⟨⟨fun g hg => ?_, List.pairwise_append.2 ⟨h.vs.asc, List.pairwise_singleton _ _, fun g hg z hz => ?_⟩⟩, fun a g b he => ?_, hb, fun g hg => ?_⟩
  · rcases List.mem_append.1 hg with hg | hg
    · exact h.vs.vf g hg
    · rw [List.mem_singleton.1 hg]; exact hf
  · rw [List.mem_singleton.1 hz]; exact hk g hg
  · rcases List.eq_nil_or_concat b with rfl | ⟨b', y, rfl⟩
    · obtain ⟨e1, e2⟩ := List.append_inj' he rfl
      simp at e2
      rw [← e1, ← e2]
      exact ha
    · have he : out ++ [f] = (a ++ g :: b') ++ [y] := by rw [he]; simp
      obtain ⟨e1, _⟩ := List.append_inj' he rfl
      exact h.alt a g b' e1
  · rcases List.mem_append.1 hg with hg | hg
    · exact h.src g hg
    · rw [List.mem_singleton.1 hg]; exact hs
theorem normal4_eq {x : List Fault} (hx : x.length ≤ 1000) (t : Int) (p : Part) : Wp (loopO (dynposref34_Normal_L4 x t p) (0, 0)) fun r => r = 0 ∨ ∃ y ∈ x, y.Time = t ∧ y.Part = p ∧ r = y.Kind := by
  refine wp_upto x.length (fun k s => s.2 = (k : Int) ∧ (s.1 = 0 ∨ ∃ y ∈ x, y.Time = t ∧ y.Part = p ∧ s.1 = y.Kind)) ⟨rfl, .inl rfl⟩ (fun k s hk hv => ?_) (fun s hv => ?_) (by omega)
  · obtain ⟨c, z⟩ := s
    obtain ⟨h1, h2⟩ := hv
    simp only at h1 h2
    subst h1
    unfold dynposref34_Normal_L4
    simp only [lt_len hk, if_true, idx_gt hk, Option.bind_some]
    rw [show ((gt x k).Part.Kind == p.Kind && (gt x k).Part.Number == p.Number) = eqP (gt x k).Part p from rfl]
    by_cases ht : (gt x k).Time = t
    · rw [beqT ht]
      simp only [if_true, Option.bind_some]
      by_cases hp : (gt x k).Part = p
      · rw [eqP_iff.2 hp]
        simp only [if_true, Option.bind_some]
        rw [W_succ (by omega)]
        exact wp_some.2 ⟨rfl, .inr ⟨_, gt_mem hk, ht, hp, rfl⟩⟩
      · rw [eqP_F hp]
        simp only [Bool.false_eq_true, if_false, Option.bind_some]
        rw [W_succ (by omega)]
        exact wp_some.2 ⟨rfl, h2⟩
    · rw [beqF ht]
      simp only [Bool.false_eq_true, if_false, Option.bind_some]
      rw [W_succ (by omega)]
      exact wp_some.2 ⟨rfl, h2⟩
  · obtain ⟨c, z⟩ := s
    obtain ⟨h1, h2⟩ := hv
    simp only at h1 h2
    subst h1
    unfold dynposref34_Normal_L4
    simp only [nlt_len, Bool.false_eq_true, if_false]
    exact wp_some.2 h2
theorem normal3_eq {x out : List Fault} {broken ps : List Part} {t : Int} (hx : x.length ≤ 1000) (hv : ∀ f ∈ x, VF f) (h : Nv x out broken) (hps : Asc pk ps) (hpl : ps.length ≤ 1000) (hvp : ∀ p ∈ ps, VP p) (ht : ∀ f ∈ out, f.Time < t) : Wp (loopO (dynposref34_Normal_L3 x t ps) (0, out, broken)) fun r => Nv x r.1 r.2 ∧ ∀ f ∈ r.1, f.Time ≤ t := by
  refine wp_upto ps.length (fun k s => s.1 = (k : Int) ∧ Nv x s.2.1 s.2.2 ∧ (∀ f ∈ s.2.1, f.Time ≤ t) ∧ ∀ j, k ≤ j → j < ps.length → ∀ f ∈ s.2.1, fk f < t * 1024 + pk (gt ps j)) ⟨rfl, h, (fun f hf => by have := ht f hf; omega), fun j _ hj f hf => ?_⟩ (fun k s hk hi => ?_) (fun s hi => ?_) (by omega)
  · have h1 := ht f hf
    have b1 := (h.vs.vf f hf).p.bd
    have b2 := (hvp _ (gt_mem hj)).bd
    unfold fk
    omega
  · obtain ⟨z, o, br⟩ := s
    obtain ⟨h1, h2, h3, h4⟩ := hi
    simp only at h1 h2 h3 h4
    subst h1
    have hol := h2.len
    have hbl := h2.blen
    unfold dynposref34_Normal_L3
    simp only [lt_len hk, if_true, idx_gt hk, Option.bind_some]
    obtain ⟨c, hc, hc2⟩ := normal4_eq hx t (gt ps k)
    rw [hc]
    simp only [Option.bind_some]
    have next : ∀ j, k + 1 ≤ j → j < ps.length → ∀ f ∈ o, fk f < t * 1024 + pk (gt ps j) := fun j hj hjl f hf => h4 j (by omega) hjl f hf
    have hfl : ∀ f ∈ o, fk f < t * 1024 + pk (gt ps k) := h4 k (Nat.le_refl _) hk
    have hpv := hvp _ (gt_mem hk)
    by_cases hc0 : c = 0
    · rw [beqT hc0]
      simp only [if_true, Option.bind_some]
      rw [W_succ (by omega)]
      exact wp_some.2 ⟨rfl, h2, h3, next⟩
    rw [beqF hc0]
    simp only [Bool.false_eq_true, if_false, rhas_eq (show br.length ≤ 1000000 by omega), Option.bind_some]
    rcases hc2 with hc2 | ⟨y, hy, y1, y2, y3⟩
    · exact (hc0 hc2).elim
    have hyk := (hv y hy).k
    have hyv := hv y hy
    have hr := lst_rng h2.vs.vf (gt ps k)
    have hfv : VF (Fault.mk t c (gt ps k)) := ⟨by have := hyv.t0; simp only; omega, by have := hyv.t1; simp only; omega, by simp only; omega, hpv⟩
    have hkf : ∀ g ∈ o, fk g < fk (Fault.mk t c (gt ps k)) := hfl
    have later : ∀ j, k + 1 ≤ j → j < ps.length → ∀ f ∈ o ++ [Fault.mk t c (gt ps k)], fk f < t * 1024 + pk (gt ps j) := fun j hj hjl f hf => by
      rcases List.mem_append.1 hf with hf | hf
      · exact next j hj hjl f hf
      · rw [List.mem_singleton.1 hf]
        have := asc_gt hps (show k < j by omega) hjl
        unfold fk
        simp only
        omega
    have times : ∀ f ∈ o ++ [Fault.mk t c (gt ps k)], f.Time ≤ t := fun f hf => by
      rcases List.mem_append.1 hf with hf | hf
      · exact h3 f hf
      · rw [List.mem_singleton.1 hf]
        exact Int.le_refl _
    have hsrc : ∃ y ∈ x, y.Time = (Fault.mk t c (gt ps k)).Time ∧ y.Part = (Fault.mk t c (gt ps k)).Part := ⟨y, hy, y1, y2⟩
    by_cases hb : gt ps k ∈ br
    · have hl1 := (h2.pl.mem _).1 hb
      rw [dB_T hb]
      by_cases hc1 : c = 1
      · rw [beqT hc1]
        simp only [beq_self_eq_true, if_true, Option.bind_some]
        rw [W_succ (by omega)]
        exact wp_some.2 ⟨rfl, h2, h3, next⟩
      · rw [beqF hc1]
        simp only [show (false == true) = false from rfl, Bool.false_eq_true, if_false]
        rw [app_sm (by simp; omega)]
        simp only [Option.bind_some]
        rw [without_eq h2.pl (by omega)]
        simp only [Option.bind_some]
        rw [W_succ (by omega)]
        refine wp_some.2 ⟨rfl, h2.add hfv hkf (by simp only; omega) hsrc ((pl_without h2.pl (gt ps k)).congr fun q => ?_), times, later⟩
        rw [lst_snoc]
        simp only
        by_cases hq : gt ps k = q
        · rw [if_pos (eqP_iff.2 hq)]
          constructor
          · rintro ⟨_, h⟩; exact (h hq.symm).elim
          · intro h; omega
        · rw [if_neg (by rw [eqP_F hq]; simp)]
          exact ⟨fun h => h.1, fun h => ⟨h, fun e => hq e.symm⟩⟩
    · have hl2 : lst o (gt ps k) = 2 := hr.resolve_left fun h => hb ((h2.pl.mem _).2 h)
      rw [dB_F hb]
      by_cases hc1 : c = 1
      · obtain ⟨d', w1, w2, w3⟩ := wpWith h2.pl hpv (show br.length ≤ 1000000 by omega)
        rw [beqT hc1]
        simp only [show (true == false) = false from rfl, Bool.false_eq_true, if_false]
        rw [app_sm (by simp; omega)]
        simp only [Option.bind_some, if_true, w1]
        rw [W_succ (by omega)]
        refine wp_some.2 ⟨rfl, h2.add hfv hkf (by simp only; omega) hsrc (w2.congr fun q => ?_), times, later⟩
        rw [lst_snoc]
        simp only
        by_cases hq : gt ps k = q
        · rw [if_pos (eqP_iff.2 hq)]
          exact ⟨fun _ => hc1, fun _ => .inr hq.symm⟩
        · rw [if_neg (by rw [eqP_F hq]; simp)]
          exact ⟨fun h => h.resolve_right fun e => hq e.symm, .inl⟩
      · rw [beqF hc1]
        simp only [beq_self_eq_true, if_true, Option.bind_some]
        rw [W_succ (by omega)]
        exact wp_some.2 ⟨rfl, h2, h3, next⟩
  · obtain ⟨z, o, br⟩ := s
    obtain ⟨h1, h2, h3, h4⟩ := hi
    simp only at h1 h2 h3 h4
    subst h1
    unfold dynposref34_Normal_L3
    simp only [nlt_len, Bool.false_eq_true, if_false]
    exact wp_some.2 ⟨h2, h3⟩
theorem rnormal_eq {x : List Fault} (hx : x.length ≤ 20) (hv : ∀ f ∈ x, VF f) : ∃ l, dynposref34_Normal x = some (0, l) ∧ Vl l ∧ l.length ≤ x.length ∧ ∀ f ∈ l, ∃ y ∈ x, y.Time = f.Time := by
  have e1 : loopO (dynposref34_Normal_L1 x) 0 = some (.inl ()) := by
    have e := loop_run (step := dynposref34_Normal_L1 x) (r := .inl ()) (fun k => (k : Int)) x.length (fun k hk => by
      unfold dynposref34_Normal_L1
      simp only [lt_len hk, if_true, idx_gt hk, Option.bind_some, rright_T (hv _ (gt_mem hk)), Bool.not_true, Bool.false_eq_true, if_false]
      rw [W_succ (by omega)]) (by
      unfold dynposref34_Normal_L1
      simp only [nlt_len, Bool.false_eq_true, if_false])
    simpa using e
  obtain ⟨T, hT, t1, t2⟩ := times_eq (x := x) (by omega)
  obtain ⟨ps, hps, p1, p2⟩ := rparts_eq (x := x) (by omega) hv
  have hloop : Wp (loopO (dynposref34_Normal_L2 x T) (0, [], [])) fun r => ∃ br, Nv x r br := by
    refine wp_upto T.length (fun k s => s.1 = (k : Int) ∧ Nv x s.2.1 s.2.2 ∧ ∀ j, k ≤ j → j < T.length → ∀ f ∈ s.2.1, f.Time < gt T j) ⟨rfl, (show Nv x [] [] from ⟨Vs.nil, (fun a f b h => by simp at h), PL.nil.congr (fun p => by simp [lst_nil]), (fun f hf => by cases hf)⟩), (fun j _ _ f hf => by cases hf)⟩ (fun k s hk hi => ?_) (fun s hi => ?_) (by omega)
    · obtain ⟨z, o, br⟩ := s
      obtain ⟨h1, h2, h3⟩ := hi
      simp only at h1 h2 h3
      subst h1
      unfold dynposref34_Normal_L2
      simp only [lt_len hk, if_true, idx_gt hk, Option.bind_some, hps]
      refine (normal3_eq (by omega) hv h2 p1.asc (by omega) p1.vp (h3 k (Nat.le_refl _) hk)).bind fun r hr => ?_
      rw [W_succ (by omega)]
      refine wp_some.2 ⟨rfl, hr.1, fun j hj hjl f hf => ?_⟩
      have := hr.2 f hf
      have := asc_gt t1 (show k < j by omega) hjl
      simp only [id] at this
      omega
    · obtain ⟨z, o, br⟩ := s
      obtain ⟨h1, h2, h3⟩ := hi
      simp only at h1 h2 h3
      subst h1
      unfold dynposref34_Normal_L2
      simp only [nlt_len, Bool.false_eq_true, if_false]
      exact wp_some.2 ⟨br, h2⟩
  obtain ⟨l, hl, br, hn⟩ := hloop
  have hlen := hn.len
  unfold dynposref34_Normal
  rw [e1]
  simp only [Option.bind_some, Sum.elim_inl]
  rw [dF (c := len x > 60) (by unfold len; omega)]
  simp only [Bool.false_eq_true, if_false, hT, hl, Option.bind_some]
  rw [dF (c := len l > 24) (by unfold len; omega)]
  refine ⟨l, rfl, Vl.of hn.vs hn.alt, hlen, fun f hf => ?_⟩
  obtain ⟨y, hy, h1, _⟩ := hn.src f hf
  exact ⟨y, hy, h1⟩

/-! drawn scripts -/
theorem wpPart {sl : List Int} {sa : Int} (hs : Sr sl sa) : Wp (Src_Part ⟨sl, sa⟩) fun r => VP ⟨r.1, r.2.1⟩ ∧ Sr r.2.2.1 r.2.2.2 := by
  unfold Src_Part
  refine (wpRange hs (lo := 1) (hi := 9) (by omega) (by omega) (by omega) (by omega)).bind fun y hy => ?_
  obtain ⟨y, l1, a1⟩ := y
  simp only at hy ⊢
  refine (wpN hy.2 (n := 4) (by omega) (by omega)).bind fun z hz => ?_
  obtain ⟨z, l2, a2⟩ := z
  simp only at hz ⊢
  exact wp_some.2 ⟨⟨hy.1.1, hy.1.2, hz.1.1, by simp only; omega⟩, hz.2⟩
theorem wpAny {sl : List Int} {sa c : Int} (hs : Sr sl sa) (c0 : 0 ≤ c) (c1 : c ≤ 20) : Wp (Src_AnyFaults ⟨sl, sa⟩ c) fun r => Sr r.1 r.2.1 ∧ (r.2.2.length : Int) ≤ c ∧ ∀ f ∈ r.2.2, VF f ∧ f.Time ≤ 7 := by
  unfold Src_AnyFaults
  rw [W_sm (x := c + 1) (by omega) (by omega)]
  refine (wpN hs (n := c + 1) (by omega) (by omega)).bind fun y hy => ?_
  obtain ⟨y, l1, a1⟩ := y
  simp only at hy ⊢
  obtain ⟨⟨y0, y1⟩, hs1⟩ := hy
  have hloop : Wp (loopO Src_AnyFaults_L1 (y, [], l1, a1)) fun r => Sr r.2.1 r.2.2 ∧ (r.1.length : Int) ≤ c ∧ ∀ f ∈ r.1, VF f ∧ f.Time ≤ 7 := by
    refine wp_while (fun s => s.1.toNat) (fun s => 0 ≤ s.1 ∧ (s.2.1.length : Int) + s.1 ≤ c ∧ (∀ f ∈ s.2.1, VF f ∧ f.Time ≤ 7) ∧ Sr s.2.2.1 s.2.2.2) (fun s hi => ?_) ⟨y0, by simp only [List.length_nil]; omega, (fun f hf => by cases hf), hs1⟩ (by simp only; omega)
    obtain ⟨k, l, sl, sa⟩ := s
    simp only at hi
    obtain ⟨i1, i2, i3, i4⟩ := hi
    unfold Src_AnyFaults_L1
    simp only
    refine Wp.ite (fun hk => ?_) (fun hk => ?_)
    · have hk := of_decide_eq_true hk
      refine (wpN i4 (n := 8) (by omega) (by omega)).bind fun d hd => ?_
      obtain ⟨d, l2, a2⟩ := d
      simp only at hd ⊢
      refine (wpRange hd.2 (lo := 1) (hi := 2) (by omega) (by omega) (by omega) (by omega)).bind fun q hq => ?_
      obtain ⟨q, l3, a3⟩ := q
      simp only at hq ⊢
      refine (wpPart hq.2).bind fun p hp => ?_
      obtain ⟨pk', pn, l4, a4⟩ := p
      simp only at hp ⊢
      rw [app_sm (by simp; omega)]
      simp only [Option.bind_some]
      rw [W_sm (x := k - 1) (by omega) (by omega)]
      refine wp_some.2 ⟨⟨by simp only; omega, by simp; omega, fun f hf => ?_, hp.2⟩, by simp only; omega⟩
      rcases List.mem_append.1 hf with hf | hf
      · exact i3 f hf
      · rw [List.mem_singleton.1 hf]
        exact ⟨⟨hd.1.1, by simp only; omega, by simp only; omega, hp.1⟩, by simp only; omega⟩
    · have hk := of_decide_eq_false hk
      exact wp_some.2 ⟨i4, by simp only; omega, i3⟩
  refine hloop.bind fun r hr => ?_
  exact wp_some.2 ⟨hr.1, hr.2.1, hr.2.2⟩
theorem wpFaults {sl : List Int} {sa c : Int} (hs : Sr sl sa) (c0 : 0 ≤ c) (c1 : c ≤ 20) : Wp (Src_Faults ⟨sl, sa⟩ c) fun r => Sr r.1 r.2.1 ∧ Vl r.2.2 ∧ (r.2.2.length : Int) ≤ c ∧ ∀ f ∈ r.2.2, f.Time ≤ 7 := by
  unfold Src_Faults
  refine (wpAny hs c0 c1).bind fun x hx => ?_
  obtain ⟨l1, a1, x⟩ := x
  simp only at hx ⊢
  obtain ⟨h1, h2, h3⟩ := hx
  obtain ⟨l, hl, v1, v2, v3⟩ := rnormal_eq (x := x) (by omega) fun f hf => (h3 f hf).1
  rw [hl]
  simp only [Option.bind_some]
  refine wp_some.2 ⟨h1, v1, by simp only; omega, fun f hf => ?_⟩
  obtain ⟨y, hy, he⟩ := v3 f hf
  have := (h3 y hy).2
  omega
theorem sane_T : dynposlaw34_sane = some true := by kernel_rfl
end Rx
end Go.Proofs.Ytkgfdplcjdidhaa
