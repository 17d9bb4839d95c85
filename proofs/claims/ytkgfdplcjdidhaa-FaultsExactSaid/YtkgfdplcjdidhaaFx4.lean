/- Scripts of faults: what the program's functions compute. Plain laws. -/
import Derived.Test.YtkgfdplcjdidhaaFn
set_option linter.unusedVariables false
set_option linter.unusedSimpArgs false
namespace Go.Proofs.Ytkgfdplcjdidhaa
open Go Go.RowKit Dp
namespace Rx

theorem loop_each {α β γ : Type} [Rep α] {l : List α} {step : Int × β → Option ((Int × β) ⊕ γ)} {r : γ} (g : List α → β) (next : ∀ k, k < l.length → step ((k : Int), g (l.take k)) = some (.inl (W ((k : Int) + 1), g (l.take k ++ [gt l k])))) (stop : step ((l.length : Int), g l) = some (.inr r)) (hn : l.length ≤ 100000000000) : loopO step (0, g []) = some r := by
  have h := loop_run (step := step) (r := r) (fun k => ((k : Int), g (l.take k))) l.length (fun k hk => by
    show step ((k : Int), g (l.take k)) = _
    rw [next k hk, W_succ (by omega), take_gt hk]) (by
    show step ((l.length : Int), g (l.take l.length)) = _
    rw [List.take_length]; exact stop) (by omega)
  exact h
/-- a list of parts in order, those of which P holds -/
structure PL (d : List Part) (P : Part → Prop) : Prop where
  asc : Asc pk d
  vp : ∀ p ∈ d, VP p
  mem : ∀ p, p ∈ d ↔ P p
theorem PL.eq {d d' : List Part} {P P' : Part → Prop} (h : PL d P) (h' : PL d' P') (he : ∀ p, P p ↔ P' p) : d = d' :=
  asc_ext h.asc h'.asc fun p => by rw [h.mem, h'.mem, he]
theorem PL.congr {d : List Part} {P P' : Part → Prop} (h : PL d P) (he : ∀ p, P p ↔ P' p) : PL d P' := ⟨h.asc, h.vp, fun p => by rw [h.mem, he]⟩
theorem PL.nil : PL [] fun _ => False := ⟨List.Pairwise.nil, (fun p hp => by cases hp), fun p => ⟨(fun hp => by cases hp), False.elim⟩⟩
theorem pl_of {l : List Part} (h : ∀ p ∈ l, VP p) : PL (dd pk (srt pk l)) fun p => p ∈ l := by
  have hc := col_srt (key := pk) l
  exact ⟨hc.asc, fun p hp => h p (hc.sub p hp), fun p => hc.mem (fun x hx y hy he => pk_inj (h x hx) (h y hy) he) p⟩
theorem PL.len {l d : List Part} {P : Part → Prop} (h : PL d P) (hm : ∀ p, P p → p ∈ l) : d.length ≤ l.length := nodup_le h.asc.nodup fun p hp => hm p ((h.mem p).1 hp)

theorem lst_app_none {a b : List Fault} {p : Part} (h : ∀ g ∈ b, g.Part ≠ p) : lst (a ++ b) p = lst a p := by
  apply lst_congr
  have e : (b.filter fun g => eqP g.Part p) = [] := List.filter_eq_nil_iff.2 fun g hg => by rw [eqP_F (h g hg)]; simp
  rw [List.filter_append, e, List.append_nil]
theorem last_eq {l : List Fault} (hl : l.length ≤ 1000000) (p : Part) : faults_last l p = some (lst l p) := by
  unfold faults_last slices_Backward_Fault_Fault
  simp only [Option.bind_some]
  have h : Wp (loopO (faults_last_L1 p l) (len l - 1, 0)) fun r => (r = .inl 0 ∧ lst l p = 2) ∨ r = .inr (lst l p) := by
    refine wp_while (fun s => (s.1 + 1).toNat) (fun s => ∃ j : Nat, j ≤ l.length ∧ s = ((j : Int) - 1, 0) ∧ ∀ g ∈ l.drop j, g.Part ≠ p) (fun s hs => ?_) ⟨l.length, Nat.le_refl _, rfl, by simp⟩ (by simp only [len]; omega)
    obtain ⟨j, hj, rfl, hd⟩ := hs
    unfold faults_last_L1
    simp only
    rcases Nat.eq_zero_or_pos j with rfl | hp
    · rw [dT (by omega)]
      simp only [if_true]
      exact wp_some.2 (.inl ⟨rfl, lst_none hd⟩)
    · have e : ((j : Int) - 1) = ((j - 1 : Nat) : Int) := by omega
      have hlt : j - 1 < l.length := by omega
      rw [dF (by omega)]
      simp only [Bool.false_eq_true, if_false, e, idx_gt hlt, Option.bind_some]
      have hsp : l = l.take (j - 1) ++ gt l (j - 1) :: l.drop j := by
        have := List.drop_eq_getElem_cons hlt
        rw [← gt_get hlt, show j - 1 + 1 = j by omega] at this
        rw [← this, List.take_append_drop]
      by_cases hq : eqP (gt l (j - 1)).Part p = true
      · rw [show ((gt l (j - 1)).Part.Kind == p.Kind && (gt l (j - 1)).Part.Number == p.Number) = true from hq]
        simp only [if_true]
        refine wp_some.2 (.inr ?_)
        rw [show lst l p = (gt l (j - 1)).Kind from ?_]
        have e2 : lst l p = lst ((l.take (j - 1) ++ [gt l (j - 1)]) ++ l.drop j) p := by
          conv => lhs; rw [hsp]
          simp
        rw [e2, lst_app_none hd, lst_snoc, if_pos hq]
      · have hq' : eqP (gt l (j - 1)).Part p = false := by simpa using hq
        rw [show ((gt l (j - 1)).Part.Kind == p.Kind && (gt l (j - 1)).Part.Number == p.Number) = false from hq']
        simp only [Bool.false_eq_true, if_false]
        refine wp_some.2 ⟨⟨j - 1, by omega, by simp, fun g hg => ?_⟩, by simp only; omega⟩
        have := List.drop_eq_getElem_cons hlt
        rw [← gt_get hlt, show j - 1 + 1 = j by omega] at this
        rw [this] at hg
        rcases List.mem_cons.1 hg with rfl | hg
        · intro he; exact hq (eqP_iff.2 he)
        · exact hd g hg
  obtain ⟨r, hr, h⟩ := h
  rw [hr]
  rcases h with ⟨rfl, h⟩ | rfl
  · rw [h]; rfl
  · rfl
theorem other_eq {k : Int} (h : k = 1 ∨ k = 2) : faults_other k = some (3 - k) := by
  unfold faults_other
  rw [W_sm (by omega) (by omega)]
theorem valid_T {p : Part} (h : VP p) : design_Valid p = some true := by
  obtain ⟨h1, h2, h3, h4⟩ := h
  unfold design_Valid
  rw [dT (c := p.Kind ≥ 1) h1, dT h2, dT (c := p.Number ≥ 0) h3, dT h4]
  rfl
theorem right_T {f : Fault} (h : VF f) : faults_right f = some true := by
  obtain ⟨h1, h2, h3, h4⟩ := h
  unfold faults_right
  rw [valid_T h4, dT (c := f.Time ≥ 0) h1, dT h2]
  rcases h3 with h3 | h3 <;> simp [h3]
theorem wrong_F {l : List Fault} (hl : l.length ≤ 1000000) (h : ∀ f ∈ l, VF f) : faults_wrong l = some false := by
  have e := loop_run (step := slices_IndexFunc_Fault_Fault_L1 l) (r := .inl ()) (fun k => (k : Int)) l.length (fun k hk => by
    unfold slices_IndexFunc_Fault_Fault_L1 faults_wrong_1
    simp only [lt_len hk, if_true, idx_gt hk, Option.bind_some, right_T (h _ (gt_mem hk)), Bool.not_true, Bool.false_eq_true, if_false]
    rw [W_succ (by omega)]) (by
    unfold slices_IndexFunc_Fault_Fault_L1
    simp only [nlt_len, Bool.false_eq_true, if_false])
  simp only [show ((0 : Nat) : Int) = 0 from rfl] at e
  unfold faults_wrong slices_ContainsFunc_Fault_Fault slices_IndexFunc_Fault_Fault
  rw [e]
  rfl
theorem asc_gt {α : Type} [Rep α] {key : α → Int} {l : List α} (h : Asc key l) {i j : Nat} (hij : i < j) (hj : j < l.length) : key (gt l i) < key (gt l j) := by
  have := List.pairwise_iff_getElem.1 h i j (by omega) hj hij
  rwa [gt_get (by omega), gt_get hj]
theorem split_gt {α : Type} [Rep α] {l : List α} {k : Nat} (hk : k < l.length) : l = l.take k ++ gt l k :: l.drop (k + 1) := by
  have := List.drop_eq_getElem_cons hk
  rw [gt_get hk, ← this, List.take_append_drop]
theorem check_ok {l : List Fault} (h : Vl l) (hl : l.length ≤ 24) : faults_Check l = some 0 := by
  unfold faults_Check
  rw [dF (c := len l > 24) (by unfold len; omega), wrong_F (by omega) h.vf]
  simp only [Bool.false_eq_true, if_false, Option.bind_some]
  have e1 : loopO (faults_Check_L1 l) 1 = some (.inl ()) := by
    have e := loop_run (step := faults_Check_L1 l) (r := .inl ()) (fun k => ((k + 1 : Nat) : Int)) (l.length - 1) (fun k hk => by
      have hk1 : k + 1 < l.length := by omega
      obtain ⟨c, hc, c1, c2⟩ := fcmp_eq (h.vf _ (gt_mem (show k < l.length by omega))).p (h.vf _ (gt_mem hk1)).p
      have := asc_gt h.asc (Nat.lt_succ_self k) hk1
      unfold faults_Check_L1
      simp only [lt_len hk1, if_true, W_pred (k := k + 1) (by omega) (by omega), Nat.add_sub_cancel, idx_gt hk1, idx_gt (show k < l.length by omega), Option.bind_some, hc, dF (c := c ≥ 0) (by have := c1.2 this; omega), Bool.false_eq_true, if_false]
      rw [W_succ (by omega)]) (by
      unfold faults_Check_L1
      rw [dF (c := ((l.length - 1 + 1 : Nat) : Int) < len l) (by unfold len; omega)]
      simp only [Bool.false_eq_true, if_false]) (by omega)
    exact e
  have e2 : loopO (faults_Check_L2 l) 0 = some (.inl ()) := by
    have e := loop_run (step := faults_Check_L2 l) (r := .inl ()) (fun k => (k : Int)) l.length (fun k hk => by
      unfold faults_Check_L2
      simp only [lt_len hk, if_true, idx_gt hk, Option.bind_some]
      rw [slc_take (by omega)]
      simp only [Option.bind_some]
      rw [last_eq (by simp; omega)]
      simp only [Option.bind_some]
      rw [other_eq (lst_rng (fun f hf => h.vf f (List.mem_of_mem_take hf)) _)]
      simp only [Option.bind_some]
      rw [bneF (h.at (split_gt hk))]
      simp only [Bool.false_eq_true, if_false]
      rw [W_succ (by omega)]) (by
      unfold faults_Check_L2
      simp only [nlt_len, Bool.false_eq_true, if_false])
    simpa using e
  rw [e1]
  simp only [Option.bind_some, Sum.elim_inl]
  rw [e2]
  rfl
theorem time_le {l : List Fault} (h : Vs l) {i j : Nat} (hij : i ≤ j) (hj : j < l.length) : (gt l i).Time ≤ (gt l j).Time := by
  rcases Nat.lt_or_eq_of_le hij with hlt | rfl
  · have h1 := asc_gt h.asc hlt hj
    have b1 := (h.vf _ (gt_mem (show i < l.length by omega))).p.bd
    have b2 := (h.vf _ (gt_mem hj)).p.bd
    unfold fk at h1
    omega
  · exact Int.le_refl _
theorem Up_take {l : List Fault} {t : Int} {k : Nat} (hk : k ≤ l.length) (h1 : ∀ i, i < k → (gt l i).Time ≤ t) (h2 : ∀ i, k ≤ i → i < l.length → t < (gt l i).Time) : Up l t = l.take k := by
  have e : l = l.take k ++ l.drop k := (List.take_append_drop k l).symm
  rw [e, Up_app, Up_all, Up_none, List.append_nil, ← e]
  · intro f hf
    obtain ⟨i, hi, rfl⟩ := List.mem_iff_getElem.1 hf
    rw [List.getElem_drop, ← gt_get]
    simp only [List.length_drop] at hi
    have := h2 (k + i) (by omega) (by omega)
    omega
  · intro f hf
    obtain ⟨i, hi, rfl⟩ := List.mem_iff_getElem.1 hf
    rw [List.getElem_take, ← gt_get]
    simp only [List.length_take] at hi
    exact h1 i (by omega)
theorem until1_eq (f : Fault) (t : Int) : faults_until_1 f t = some (if f.Time > t then 1 else -1) := by
  unfold faults_until_1
  by_cases h : f.Time > t <;> simp [h]
theorem until_eq {l : List Fault} (h : Vs l) (hl : l.length ≤ 1000) (t : Int) : faults_until l t = some (Up l t) := by
  have hloop : Wp (loopO (slices_BinarySearchFunc_Fault_Fault_int_L1 l t) (0, len l)) fun r => ∃ k : Nat, r = (k : Int) ∧ k ≤ l.length ∧ (∀ i, i < k → (gt l i).Time ≤ t) ∧ ∀ i, k ≤ i → i < l.length → t < (gt l i).Time := by
    refine wp_while (fun s => (s.2 - s.1).toNat) (fun s => ∃ i j : Nat, s = ((i : Int), (j : Int)) ∧ i ≤ j ∧ j ≤ l.length ∧ (∀ p, p < i → (gt l p).Time ≤ t) ∧ ∀ p, j ≤ p → p < l.length → t < (gt l p).Time) (fun s hs => ?_) ⟨0, l.length, rfl, Nat.zero_le _, Nat.le_refl _, fun p hp => by omega, fun p h1 h2 => by omega⟩ (by simp only [len]; omega)
    obtain ⟨i, j, rfl, hij, hj, h1, h2⟩ := hs
    unfold slices_BinarySearchFunc_Fault_Fault_int_L1
    simp only
    by_cases hlt : i < j
    · obtain ⟨q, hq⟩ : ∃ q : Nat, ((i : Int) + (j : Int)) / 2 = (q : Int) := ⟨(i + j) / 2, by omega⟩
      have hq1 : i ≤ q ∧ q < j := by omega
      have hWq : W (q : Int) = q := W_sm (by omega) (by omega)
      simp only [dT (c := (i : Int) < (j : Int)) (by omega), if_true]
      rw [half_eq (by omega) (by omega), hq]
      simp only [Option.bind_some, hWq, idx_gt (show q < l.length by omega), until1_eq]
      by_cases hc : (gt l q).Time > t
      · rw [if_pos hc]
        simp only [dF (c := (1 : Int) < 0) (by omega), Bool.false_eq_true, if_false, Option.bind_some]
        refine wp_some.2 ⟨⟨i, q, rfl, by omega, by omega, h1, fun p hp hpl => ?_⟩, by simp only; omega⟩
        have := time_le h hp hpl
        omega
      · rw [if_neg hc]
        simp only [dT (c := (-1 : Int) < 0) (by omega), if_true, Option.bind_some]
        rw [W_succ (by omega)]
        refine wp_some.2 ⟨⟨q + 1, j, rfl, by omega, hj, fun p hp => ?_, h2⟩, by simp only; omega⟩
        have := time_le h (show p ≤ q by omega) (show q < l.length by omega)
        omega
    · have hje : j = i := by omega
      subst hje
      simp only [dF (c := (j : Int) < (j : Int)) (by omega), Bool.false_eq_true, if_false]
      exact wp_some.2 ⟨j, rfl, hj, h1, h2⟩
  obtain ⟨r, hr, k, rfl, hk, h1, h2⟩ := hloop
  unfold faults_until slices_BinarySearchFunc_Fault_Fault_int
  have hU := Up_take hk h1 h2
  simp only [hr, Option.bind_some]
  by_cases hkl : k < l.length
  · simp only [lt_len hkl, if_true, idx_gt hkl, until1_eq, Option.bind_some]
    rw [slc_take hk, hU]
    rfl
  · rw [dF (c := (k : Int) < len l) (by unfold len; omega)]
    simp only [Bool.false_eq_true, if_false, Option.bind_some]
    rw [slc_take hk, hU]
    rfl
theorem parts_eq {l m : List Fault} (hl : l.length ≤ 900) (hm : m.length ≤ 1000000) (hv : ∀ f ∈ l, VF f) : faults_parts l m = some (dd pk (srt pk ((l.filter fun f => lst m f.Part == 1).map Fault.Part))) := by
  have e := loop_each (l := l) (step := faults_collect_Fault_Part_L1 l) (fun pre => ((pre.filter fun f => lst m f.Part == 1).map Fault.Part, m)) (fun k hk => by
    unfold faults_collect_Fault_Part_L1 faults_parts_1 faults_active_1
    simp only [lt_len hk, if_true, idx_gt hk, Option.bind_some, last_eq hm]
    rw [List.filter_append, List.map_append]
    by_cases hc : (lst m (gt l k).Part == 1) = true
    · simp only [hc, if_true]
      have := List.length_filter_le (fun f => lst m f.Part == 1) (l.take k)
      rw [app_sm (by simp at this ⊢; omega)]
      simp [hc]
    · have hc' : (lst m (gt l k).Part == 1) = false := by simpa using hc
      simp [hc']) (by
    unfold faults_collect_Fault_Part_L1
    simp only [nlt_len, Bool.false_eq_true, if_false]
    all_goals rfl) (by omega)
  simp only [List.filter_nil, List.map_nil] at e
  have hlen := List.length_filter_le (fun f => lst m f.Part == 1) l
  have hvp : ∀ p ∈ (l.filter fun f => lst m f.Part == 1).map Fault.Part, VP p := fun p hp => by
    obtain ⟨f, hf, rfl⟩ := List.mem_map.1 hp
    exact (hv f (List.mem_filter.1 hf).1).p
  unfold faults_parts faults_collect_Fault_Part
  rw [e]
  simp only [Option.bind_some]
  rw [sortPart_eq (by simp; omega) hvp]
  simp only [Option.bind_some]
  rw [compactPart_eq (by rw [srt_len]; simp; omega) (fun p hp => hvp p (srt_mem.1 hp))]
  rfl
theorem active_eq {l : List Fault} (h : Vs l) (hl : l.length ≤ 900) (t : Int) : ∃ d, faults_active l t = some d ∧ PL d fun p => lst (Up l t) p = 1 := by
  have hul : (Up l t).length ≤ l.length := List.length_filter_le _ _
  have hv : ∀ f ∈ Up l t, VF f := fun f hf => h.vf f (Up_mem.1 hf).1
  unfold faults_active
  rw [until_eq h (by omega)]
  simp only [Option.bind_some]
  rw [parts_eq (by omega) (by omega) hv]
  refine ⟨_, rfl, (pl_of fun p hp => ?_).congr fun p => ?_⟩
  · obtain ⟨f, hf, rfl⟩ := List.mem_map.1 hp
    exact (hv f (List.mem_filter.1 hf).1).p
  · rw [List.mem_map]
    constructor
    · rintro ⟨f, hf, rfl⟩
      simpa using (List.mem_filter.1 hf).2
    · intro h1
      rcases lst_char (Up l t) p with ⟨h2, _⟩ | ⟨a, f, b, he, h2, _, _⟩
      · omega
      · exact ⟨f, List.mem_filter.2 ⟨by rw [he]; simp, by rw [h2]; simpa using h1⟩, h2⟩
theorem Active_eq {l : List Fault} (h : Vl l) (hl : l.length ≤ 24) (t : Int) : ∃ d, faults_Active l t = some d ∧ PL d fun p => lst (Up l t) p = 1 := by
  unfold faults_Active
  rw [check_ok h (by omega)]
  exact (active_eq h.toVs (by omega) t).elim fun d ⟨h1, h2⟩ => ⟨d, by simp [h1], h2⟩
theorem parts1_eq {l : List Fault} (hl : l.length ≤ 900) (hv : ∀ f ∈ l, VF f) (t c : Int) : ∃ d, faults_Now_1 c l t = some d ∧ PL d fun p => ∃ f ∈ l, f.Time = t ∧ f.Kind = c ∧ f.Part = p := by
  have e := loop_each (l := l) (step := faults_collect_Fault_Part_v1_L1 l) (fun pre => ((pre.filter fun f => f.Time == t && f.Kind == c).map Fault.Part, t, c)) (fun k hk => by
    unfold faults_collect_Fault_Part_v1_L1 faults_parts_1_v1 faults_Now_1_1
    simp only [lt_len hk, if_true, idx_gt hk, Option.bind_some]
    rw [List.filter_append, List.map_append]
    have hlen := List.length_filter_le (fun f => f.Time == t && f.Kind == c) (l.take k)
    by_cases h1 : (gt l k).Time = t
    · by_cases h2 : (gt l k).Kind = c
      · simp only [beqT h1, beqT h2, if_true, Option.bind_some]
        rw [app_sm (by simp at hlen ⊢; omega)]
        simp [h1, h2]
      · simp [h1, h2]
    · simp [h1]) (by
    unfold faults_collect_Fault_Part_v1_L1
    simp only [nlt_len, Bool.false_eq_true, if_false]
    all_goals rfl) (by omega)
  simp only [List.filter_nil, List.map_nil] at e
  have hlen := List.length_filter_le (fun f => f.Time == t && f.Kind == c) l
  have hvp : ∀ p ∈ (l.filter fun f => f.Time == t && f.Kind == c).map Fault.Part, VP p := fun p hp => by
    obtain ⟨f, hf, rfl⟩ := List.mem_map.1 hp
    exact (hv f (List.mem_filter.1 hf).1).p
  unfold faults_Now_1 faults_parts_v1 faults_collect_Fault_Part_v1
  rw [e]
  simp only [Option.bind_some]
  rw [sortPart_eq (by simp; omega) hvp]
  simp only [Option.bind_some]
  rw [compactPart_eq (by rw [srt_len]; simp; omega) (fun p hp => hvp p (srt_mem.1 hp))]
  refine ⟨_, rfl, (pl_of hvp).congr fun p => ?_⟩
  rw [List.mem_map]
  constructor
  · rintro ⟨f, hf, rfl⟩
    obtain ⟨h1, h2⟩ := List.mem_filter.1 hf
    simp at h2
    exact ⟨f, h1, h2.1, h2.2, rfl⟩
  · rintro ⟨f, hf, h1, h2, rfl⟩
    exact ⟨f, List.mem_filter.2 ⟨hf, by simp [h1, h2]⟩, rfl⟩
theorem Now_eq {l : List Fault} (h : Vl l) (hl : l.length ≤ 24) (t : Int) : ∃ a b, faults_Now l t = some (a, b) ∧ (PL a fun p => ∃ f ∈ l, f.Time = t ∧ f.Kind = 1 ∧ f.Part = p) ∧ (PL b fun p => ∃ f ∈ l, f.Time = t ∧ f.Kind = 2 ∧ f.Part = p) := by
  obtain ⟨a, ha, ha'⟩ := parts1_eq (by omega) h.vf t 1
  obtain ⟨b, hb, hb'⟩ := parts1_eq (by omega) h.vf t 2
  unfold faults_Now
  rw [check_ok h (by omega)]
  exact ⟨a, b, by simp [ha, hb], ha', hb'⟩
theorem Parts_eq {l : List Fault} (h : Vl l) (hl : l.length ≤ 24) : ∃ d, faults_Parts l = some d ∧ PL d fun p => ∃ f ∈ l, f.Part = p := by
  have e := loop_each (l := l) (step := faults_collect_Fault_Part_v2_L1 l) (fun pre => pre.map Fault.Part) (fun k hk => by
    unfold faults_collect_Fault_Part_v2_L1 faults_parts_1_v2 faults_Parts_1
    simp only [lt_len hk, if_true, idx_gt hk, Option.bind_some]
    rw [app_sm (by simp; omega)]
    simp) (by
    unfold faults_collect_Fault_Part_v2_L1
    simp only [nlt_len, Bool.false_eq_true, if_false]
    all_goals rfl) (by omega)
  simp only [List.map_nil] at e
  have hvp : ∀ p ∈ l.map Fault.Part, VP p := fun p hp => by
    obtain ⟨f, hf, rfl⟩ := List.mem_map.1 hp
    exact (h.vf f hf).p
  unfold faults_Parts
  rw [check_ok h (by omega)]
  unfold faults_parts_v2 faults_collect_Fault_Part_v2
  rw [e]
  simp only [Option.bind_some]
  rw [sortPart_eq (by simp; omega) hvp]
  simp only [Option.bind_some]
  rw [compactPart_eq (by rw [srt_len]; simp; omega) (fun p hp => hvp p (srt_mem.1 hp))]
  refine ⟨_, rfl, (pl_of hvp).congr fun p => ?_⟩
  rw [List.mem_map]
theorem collect_eq {l : List Fault} (hl : l.length ≤ 900) (hv : ∀ f ∈ l, VF f) : faults_collect_Fault_Fault l = some (dd fk (srt fk l)) := by
  have e := loop_each (l := l) (step := faults_collect_Fault_Fault_L1 l) (fun pre => pre) (fun k hk => by
    unfold faults_collect_Fault_Fault_L1 faults_Merge_1
    simp only [lt_len hk, if_true, idx_gt hk, Option.bind_some]
    rw [app_sm (by simp; omega)]
    rfl) (by
    unfold faults_collect_Fault_Fault_L1
    simp only [nlt_len, Bool.false_eq_true, if_false]
    all_goals rfl) (by omega)
  unfold faults_collect_Fault_Fault
  rw [e]
  simp only [Option.bind_some]
  rw [sortFault_eq hl fun f hf => (hv f hf).p]
  simp only [Option.bind_some]
  rw [compactFault_eq (by rw [srt_len]; omega) (fun f hf => (hv f (srt_mem.1 hf)).p)]
  rfl
theorem collect1_eq {l : List Fault} (hl : l.length ≤ 900) (hv : ∀ f ∈ l, VF f) : faults_collect_Fault_Fault_v1 l = some (dd fk (srt fk l)) := by
  have e := loop_each (l := l) (step := faults_collect_Fault_Fault_v1_L1 l) (fun pre => pre) (fun k hk => by
    unfold faults_collect_Fault_Fault_v1_L1 faults_Normal_1
    simp only [lt_len hk, if_true, idx_gt hk, Option.bind_some]
    rw [app_sm (by simp; omega)]
    rfl) (by
    unfold faults_collect_Fault_Fault_v1_L1
    simp only [nlt_len, Bool.false_eq_true, if_false]
    all_goals rfl) (by omega)
  unfold faults_collect_Fault_Fault_v1
  rw [e]
  simp only [Option.bind_some]
  rw [sortFault_eq hl fun f hf => (hv f hf).p]
  simp only [Option.bind_some]
  rw [compactFault_eq (by rw [srt_len]; omega) (fun f hf => (hv f (srt_mem.1 hf)).p)]
  rfl
theorem turns_eq {l : List Fault} (hl : l.length ≤ 1000) (hv : ∀ f ∈ l, VF f) : faults_turns l = some (trn l) := by
  have e := loop_each (l := l) (step := faults_turns_L1 l) (fun pre => trn pre) (fun k hk => by
    have hs := trn_sub (l.take k)
    have hsl := hs.length_le
    simp only [List.length_take] at hsl
    have hr := lst_rng (l := trn (l.take k)) (fun f hf => hv f (List.mem_of_mem_take (hs.subset hf))) (gt l k).Part
    unfold faults_turns_L1
    simp only [lt_len hk, if_true, idx_gt hk, Option.bind_some]
    rw [last_eq (by omega)]
    simp only [Option.bind_some, other_eq hr, trn_snoc]
    by_cases hc : (gt l k).Kind = 3 - lst (trn (l.take k)) (gt l k).Part
    · rw [beqT hc, if_pos rfl, if_pos hc, app_sm (by simp; omega)]
      rfl
    · rw [beqF hc, if_neg hc]
      rfl) (by
    unfold faults_turns_L1
    simp only [nlt_len, Bool.false_eq_true, if_false]
    all_goals rfl) (by omega)
  unfold faults_turns
  rw [show ([] : List Fault) = trn [] from rfl, e]
  rfl
theorem has_eq {l : List Part} (hl : l.length ≤ 1000000) (p : Part) : design_Has l p = some (dB (p ∈ l)) := by
  have h : Wp (loopO (slices_Index_Part_Part_L1 l p) 0) fun r => (p ∈ l ∧ ∃ k : Nat, r = .inr (k : Int)) ∨ (p ∉ l ∧ r = .inl ()) := by
    refine wp_upto l.length (fun k s => s = (k : Int) ∧ ∀ i, i < k → gt l i ≠ p) ⟨rfl, fun i hi => by omega⟩ (fun k s hk hv => ?_) (fun s hv => ?_) (by omega)
    · obtain ⟨rfl, hv⟩ := hv
      unfold slices_Index_Part_Part_L1
      simp only [lt_len hk, if_true, idx_gt hk, Option.bind_some]
      by_cases hq : p = gt l k
      · rw [show (p.Kind == (gt l k).Kind && p.Number == (gt l k).Number) = true from eqP_iff.2 hq]
        simp only [if_true]
        exact wp_some.2 (.inl ⟨by rw [hq]; exact gt_mem hk, k, rfl⟩)
      · rw [show (p.Kind == (gt l k).Kind && p.Number == (gt l k).Number) = false from eqP_F hq]
        simp only [Bool.false_eq_true, if_false]
        rw [W_succ (by omega)]
        refine wp_some.2 ⟨rfl, fun i hi => ?_⟩
        by_cases hik : i = k
        · rw [hik]; exact fun he => hq he.symm
        · exact hv i (by omega)
    · obtain ⟨rfl, hv⟩ := hv
      unfold slices_Index_Part_Part_L1
      simp only [nlt_len, Bool.false_eq_true, if_false]
      refine wp_some.2 (.inr ⟨fun hp => ?_, rfl⟩)
      obtain ⟨i, hi, he⟩ := mem_gt hp
      exact hv i hi he
  obtain ⟨r, hr, h⟩ := h
  unfold design_Has slices_Contains_Part_Part slices_Index_Part_Part
  rw [hr]
  rcases h with ⟨hp, k, rfl⟩ | ⟨hp, rfl⟩
  · rw [dB_T hp]
    simp only [Option.bind_some, Sum.elim_inr, dT (c := (k : Int) ≥ 0) (by omega)]
  · rw [dB_F hp]
    rfl
theorem concat_eq {a b : List Fault} (ha : a.length ≤ 1000) (hb : b.length ≤ 1000) : slices_Concat_Fault_Fault_v1 [a, b] = some ([a, b], a ++ b) := by
  have e1 : loopO (slices_Concat_Fault_Fault_v1_L1 [a, b]) (0, 0) = some (len a + len b) := by
    have e := loop_run (step := slices_Concat_Fault_Fault_v1_L1 [a, b]) (r := len a + len b) (fun k => match k with | 0 => (0, 0) | 1 => (len a, 1) | _ => (len a + len b, 2)) 2 (fun k hk => by
      unfold slices_Concat_Fault_Fault_v1_L1
      rcases k with _ | _ | k
      · have : W (a.length : Int) = a.length := W_sm (by omega) (by omega)
        simp [len, idx, this, W_sm]
      · have : W ((a.length : Int) + (b.length : Int)) = a.length + b.length := W_sm (by omega) (by omega)
        simp [len, idx, this, W_sm]
        omega
      · omega) (by
      unfold slices_Concat_Fault_Fault_v1_L1
      simp [len]) (by omega)
    exact e
  have e2 : slices_Grow_Fault_Fault (len a + len b) = some [] := by
    have h0 : W (len a + len b - W (0 - 0)) = len a + len b := by
      rw [show W (0 - 0) = 0 from W_sm (by omega) (by omega), Int.sub_zero]
      exact W_sm (by unfold len; omega) (by unfold len; omega)
    unfold slices_Grow_Fault_Fault
    rw [dF (c := len a + len b < 0) (by unfold len; omega), h0]
    simp only [Bool.false_eq_true, if_false]
    by_cases hp : len a + len b > 0
    · rw [dT hp]
      simp only [if_true]
      rw [show slc ([] : List Unit) 0 0 = some [] from rfl]
      simp only [Option.bind_some]
      rw [show mkP (Fault.mk 0 0 (Part.mk 0 0)) (len a + len b) = some (List.replicate (len a + len b).toNat (Fault.mk 0 0 (Part.mk 0 0))) from by unfold mkP; rw [if_pos ⟨by omega, by unfold len; omega⟩]]
      simp only [Option.bind_some]
      rw [show slc (List.replicate (len a + len b).toNat (Fault.mk 0 0 (Part.mk 0 0))) 0 0 = some [] from by unfold slc; rw [if_pos ⟨by omega, by omega, by omega⟩]; simp]
      rfl
    · rw [dF hp]
      rfl
  have e3 : loopO (slices_Concat_Fault_Fault_v1_L2 [a, b]) (0, []) = some (a ++ b) := by
    have e := loop_run (step := slices_Concat_Fault_Fault_v1_L2 [a, b]) (r := a ++ b) (fun k => match k with | 0 => (0, []) | 1 => (1, a) | _ => (2, a ++ b)) 2 (fun k hk => by
      unfold slices_Concat_Fault_Fault_v1_L2
      rcases k with _ | _ | k
      · have := app_sm (xs := ([] : List Fault)) (ys := a) (by simp; omega)
        simp [len, idx, this, W_sm]
      · have := app_sm (xs := a) (ys := b) (by omega)
        simp [len, idx, this, W_sm]
      · omega) (by
      unfold slices_Concat_Fault_Fault_v1_L2
      simp [len]) (by omega)
    exact e
  unfold slices_Concat_Fault_Fault_v1
  simp only [e1, e2, e3, Option.bind_some]
theorem or0_eq : cmp_Or_Errno [0, 0] = some 0 := by
  have e := loop_run (step := cmp_Or_Errno_L1 [0, 0]) (r := .inl ()) (fun k => (k : Int)) 2 (fun k hk => by
    unfold cmp_Or_Errno_L1
    rcases k with _ | _ | k
    · simp [len, idx, W_sm]
    · simp [len, idx, W_sm]
    · omega) (by unfold cmp_Or_Errno_L1; simp [len])
  simp only [show ((0 : Nat) : Int) = 0 from rfl] at e
  unfold cmp_Or_Errno
  rw [e]
  rfl
end Rx
end Go.Proofs.Ytkgfdplcjdidhaa
