/- Lists of alarms: valid lists, the search, the reference's changes, drawn lists. Plain laws. -/
import Derived.Test.YtdfokgnmemlmgaaMs0
set_option linter.unusedVariables false
set_option linter.unusedSimpArgs false
namespace Go.Proofs.Ytdfokgnmemlmgaa
open Go Go.RowKit Dp
namespace Rx

/-- a valid alarm with a number of at most m, at a time -/
structure Ar (m t : Int) (a : Alarm) : Prop where
  n0 : 0 ≤ a.Number
  n1 : a.Number ≤ m
  u0 : 1 ≤ a.Urgency
  u1 : a.Urgency ≤ 9
  s0 : 1 ≤ a.State
  s1 : a.State ≤ 3
  t0 : 0 ≤ a.Since
  t1 : a.Since ≤ t
/-- a valid list -/
structure Va (m t : Int) (l : List Alarm) : Prop where
  len : l.length ≤ 32
  rng : ∀ k, k < l.length → Ar m t (gt l k)
  srt : ∀ i j, i < j → j < l.length → (gt l i).Number < (gt l j).Number
theorem Ar.later {m t t' : Int} {a : Alarm} (h : Ar m t a) (ht : t ≤ t') : Ar m t' a := { h with t1 := by have := h.t1; omega }
theorem Va.later {m t t' : Int} {l : List Alarm} (h : Va m t l) (ht : t ≤ t') : Va m t' l := ⟨h.len, fun k hk => (h.rng k hk).later ht, h.srt⟩
theorem Va.nil (m t : Int) : Va m t [] := ⟨by simp, fun k hk => by simp at hk, fun i j _ hj => by simp at hj⟩
theorem Va.inj {m t : Int} {l : List Alarm} (h : Va m t l) {i j : Nat} (hi : i < l.length) (hj : j < l.length) (he : (gt l i).Number = (gt l j).Number) : i = j := by
  rcases Nat.lt_trichotomy i j with hlt | rfl | hlt
  · have := h.srt i j hlt hj; omega
  · rfl
  · have := h.srt j i hlt hi; omega
theorem Va.few {m t : Int} {l : List Alarm} (h : Va m t l) (hm : -1 ≤ m) : (l.length : Int) ≤ m + 1 := by
  have key : ∀ k, k < l.length → (k : Int) ≤ (gt l k).Number := by
    intro k
    induction k with
    | zero => intro hk; have := (h.rng 0 hk).n0; omega
    | succ k ih =>
      intro hk
      have h1 := ih (by omega)
      have h2 := h.srt k (k + 1) (by omega) hk
      omega
  rcases Nat.eq_zero_or_pos l.length with h0 | hp
  · omega
  · have h1 := key (l.length - 1) (by omega)
    have h2 := (h.rng (l.length - 1) (by omega)).n1
    omega

theorem in_T {a b c : Int} (h1 : b ≤ a) (h2 : a ≤ c) : dynposref35_in a b c = some true := by
  unfold dynposref35_in
  simp [h1, h2]
theorem among_T {a b c : Int} (h1 : b ≤ a) (h2 : a ≤ c) : alarm_among a b c = some true := by
  unfold alarm_among
  simp [h1, h2]

theorem refcheck_ok {m t : Int} {l : List Alarm} (h : Va m t l) (hm : m ≤ 999) (h0 : 0 ≤ t) (h1 : t ≤ 2147483648) : dynposref35_Check l t = some 0 := by
  unfold dynposref35_Check
  have hl := h.len
  have e := loop_run (step := dynposref35_Check_L1 l t) (r := .inl ()) (fun k => (k : Int)) l.length (fun k hk => by
    have ha := h.rng k hk
    unfold dynposref35_Check_L1
    simp only [lt_len hk, if_true, idx_gt hk, Option.bind_some, in_T ha.n0 (Int.le_trans ha.n1 hm), in_T ha.u0 ha.u1, in_T ha.s0 ha.s1, in_T ha.t0 ha.t1, Bool.not_true, Bool.false_eq_true, if_false]
    by_cases hk0 : 0 < k
    · rw [dT (c := (k : Int) > 0) (by omega), W_pred (by omega) hk0, idx_gt (by omega)]
      have hs := h.srt (k - 1) k (by omega) hk
      simp only [if_true, Option.bind_some, dF (c := (gt l k).Number ≤ (gt l (k - 1)).Number) (by omega), Bool.false_eq_true, if_false]
      rw [W_succ (by omega)]
    · rw [dF (c := (k : Int) > 0) (by omega)]
      simp only [Bool.false_eq_true, if_false, Option.bind_some]
      rw [W_succ (by omega)]) (by
    unfold dynposref35_Check_L1
    simp only [nlt_len, Bool.false_eq_true, if_false])
  simp only [in_T h0 h1, Option.bind_some, Bool.not_true, Bool.false_eq_true, if_false, dF (c := len l > 32) (by unfold len; omega), show ((0 : Nat) : Int) = 0 from rfl] at e ⊢
  rw [e]
  rfl
theorem check_ok {m t : Int} {l : List Alarm} (h : Va m t l) (hm : m ≤ 999) (h0 : 0 ≤ t) (h1 : t ≤ 2147483648) : alarm_Check l t = some 0 := by
  unfold alarm_Check
  have hl := h.len
  have e := loop_run (step := alarm_Check_L1 l t) (r := .inl ()) (fun k => (k : Int)) l.length (fun k hk => by
    have ha := h.rng k hk
    unfold alarm_Check_L1 alarm_number alarm_urgent
    simp only [lt_len hk, if_true, idx_gt hk, Option.bind_some, among_T ha.n0 (Int.le_trans ha.n1 hm), among_T ha.u0 ha.u1, among_T ha.s0 ha.s1, among_T ha.t0 ha.t1, Bool.not_true, Bool.false_eq_true, if_false]
    by_cases hk0 : 0 < k
    · rw [dT (c := (k : Int) > 0) (by omega), W_pred (by omega) hk0, idx_gt (by omega)]
      have hs := h.srt (k - 1) k (by omega) hk
      simp only [if_true, Option.bind_some, dF (c := (gt l (k - 1)).Number ≥ (gt l k).Number) (by omega), Bool.false_eq_true, if_false]
      rw [W_succ (by omega)]
    · rw [dF (c := (k : Int) > 0) (by omega)]
      simp only [Bool.false_eq_true, if_false, Option.bind_some]
      rw [W_succ (by omega)]) (by
    unfold alarm_Check_L1
    simp only [nlt_len, Bool.false_eq_true, if_false])
  simp only [among_T h0 h1, Option.bind_some, Bool.not_true, Bool.false_eq_true, if_false, dF (c := len l > 32) (by unfold len; omega), show ((0 : Nat) : Int) = 0 from rfl] at e ⊢
  rw [e]
  rfl

/-- the place of an alarm, or -1 -/
theorem wpFind {l : List Alarm} (hl : l.length ≤ 1000000) (n : Int) : Wp (dynposref35_Find l n) fun r => (r = -1 ∧ ∀ k, k < l.length → (gt l k).Number ≠ n) ∨ (∃ k : Nat, r = k ∧ k < l.length ∧ (gt l k).Number = n) := by
  unfold dynposref35_Find
  have h := wp_upto (step := dynposref35_Find_L1 l n) (s := (0 : Int)) l.length (fun k s => s = (k : Int) ∧ ∀ j, j < k → (gt l j).Number ≠ n) (Q := fun r => (r = .inl () ∧ ∀ k, k < l.length → (gt l k).Number ≠ n) ∨ (∃ k : Nat, r = .inr (k : Int) ∧ k < l.length ∧ (gt l k).Number = n)) ⟨rfl, fun j hj => by omega⟩ (fun k s hk hi => by
    obtain ⟨rfl, hi⟩ := hi
    unfold dynposref35_Find_L1
    simp only [lt_len hk, if_true, idx_gt hk, Option.bind_some]
    by_cases he : (gt l k).Number = n
    · rw [beqT he]
      exact wp_some.2 (.inr ⟨k, rfl, hk, he⟩)
    · rw [beqF he]
      simp only [Bool.false_eq_true, if_false]
      rw [W_succ (by omega)]
      exact wp_some.2 ⟨rfl, fun j hj => by
        by_cases hjk : j = k
        · rw [hjk]; exact he
        · exact hi j (by omega)⟩) (fun s hi => by
    obtain ⟨rfl, hi⟩ := hi
    unfold dynposref35_Find_L1
    simp only [nlt_len, Bool.false_eq_true, if_false]
    exact wp_some.2 (.inl ⟨rfl, hi⟩)) (by omega)
  refine h.bind fun y hy => ?_
  rcases hy with ⟨rfl, hy⟩ | ⟨k, rfl, hy⟩
  · exact wp_some.2 (.inl ⟨rfl, hy⟩)
  · exact wp_some.2 (.inr ⟨k, rfl, hy⟩)

/-! changes of a valid list -/
theorem gt_take {l : List Alarm} {n k : Nat} (h : k < n) (hn : n ≤ l.length) : gt (l.take n) k = gt l k := by
  rw [gt_get (by simp; omega), gt_get (by omega)]
  simp
theorem gt_drop {l : List Alarm} {n k : Nat} (h : n + k < l.length) : gt (l.drop n) k = gt l (n + k) := by
  rw [gt_get (by simp; omega), gt_get h]
  simp
theorem gt_app_right {l m : List Alarm} {k : Nat} (h1 : l.length ≤ k) (h2 : k < l.length + m.length) : gt (l ++ m) k = gt m (k - l.length) := by
  rw [gt_get (by simp; omega), gt_get (by omega), List.getElem_append_right h1]
theorem Va.set {m t : Int} {l : List Alarm} (h : Va m t l) {k : Nat} (hk : k < l.length) {x : Alarm} (hx : Ar m t x) (hn : x.Number = (gt l k).Number) : Va m t (l.set k x) := by
  refine ⟨by rw [List.length_set]; exact h.len, fun i hi => ?_, fun i j hij hj => ?_⟩
  · rw [List.length_set] at hi
    rw [gt_set hk]
    split
    · exact hx
    · exact h.rng i hi
  · rw [List.length_set] at hj
    have := h.srt i j hij hj
    rw [gt_set hk, gt_set hk]
    split <;> split <;> (try subst_vars) <;> omega
theorem gt_del {l : List Alarm} {k i : Nat} (hk : k < l.length) (hi : i < l.length - 1) : gt (l.take k ++ l.drop (k + 1)) i = gt l (if i < k then i else i + 1) := by
  have hl : (l.take k).length = k := by simp; omega
  by_cases h : i < k
  · rw [if_pos h, gt_app_left (by omega), gt_take h (by omega)]
  · rw [if_neg h, gt_app_right (by omega) (by simp; omega), hl, gt_drop (by omega)]
    congr 1
    omega
theorem Va.del {m t : Int} {l : List Alarm} (h : Va m t l) {k : Nat} (hk : k < l.length) : Va m t (l.take k ++ l.drop (k + 1)) := by
  have hl : (l.take k ++ l.drop (k + 1)).length = l.length - 1 := by simp; omega
  have h32 := h.len
  refine ⟨by omega, fun i hi => ?_, fun i j hij hj => ?_⟩
  · rw [hl] at hi
    rw [gt_del hk hi]
    exact h.rng _ (by split <;> omega)
  · rw [hl] at hj
    rw [gt_del hk hj, gt_del hk (by omega)]
    exact h.srt _ _ (by split <;> split <;> omega) (by split <;> omega)
theorem gt_ins {l : List Alarm} {k i : Nat} {x : Alarm} (hk : k ≤ l.length) (hi : i < l.length + 1) : gt (l.take k ++ [x] ++ l.drop k) i = if i < k then gt l i else if i = k then x else gt l (i - 1) := by
  have hl : (l.take k).length = k := by simp; omega
  have hl2 : (l.take k ++ [x]).length = k + 1 := by simp; omega
  by_cases h : i < k
  · rw [if_pos h, List.append_assoc, gt_app_left (by omega), gt_take h hk]
  · rw [if_neg h]
    by_cases he : i = k
    · subst he
      rw [if_pos rfl, gt_app_left (by omega), gt_app_right (by omega) (by simp; omega), hl, Nat.sub_self]
      rfl
    · rw [if_neg he, gt_app_right (by omega) (by rw [List.length_drop]; omega), hl2, gt_drop (by omega)]
      congr 1
      omega
theorem Va.ins {m t : Int} {l : List Alarm} (h : Va m t l) {k : Nat} {x : Alarm} (hk : k ≤ l.length) (hx : Ar m t x) (h32 : l.length ≠ 32) (h1 : ∀ i, i < k → (gt l i).Number < x.Number) (h2 : ∀ i, k ≤ i → i < l.length → x.Number < (gt l i).Number) : Va m t (l.take k ++ [x] ++ l.drop k) := by
  have hl : (l.take k ++ [x] ++ l.drop k).length = l.length + 1 := by simp; omega
  have hl32 := h.len
  refine ⟨by omega, fun i hi => ?_, fun i j hij hj => ?_⟩
  · rw [hl] at hi
    rw [gt_ins hk hi]
    split
    · exact h.rng _ (by omega)
    · split
      · exact hx
      · exact h.rng _ (by omega)
  · rw [hl] at hj
    rw [gt_ins hk hj, gt_ins hk (by omega)]
    by_cases hik : i < k
    · rw [if_pos hik]
      by_cases hjk : j < k
      · rw [if_pos hjk]; exact h.srt _ _ hij (by omega)
      · rw [if_neg hjk]
        split
        · exact h1 i hik
        · exact h.srt _ _ (by omega) (by omega)
    · rw [if_neg hik, if_neg (show ¬ j < k by omega), if_neg (show ¬ j = k by omega)]
      split
      · exact h2 _ (by omega) (by omega)
      · exact h.srt _ _ (by omega) (by omega)
theorem sane_T : dynposlaw35_sane = some true := by kernel_rfl
end Rx
end Go.Proofs.Ytdfokgnmemlmgaa
