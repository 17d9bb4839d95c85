/- Lists of alarms: the program's search and its Raise. Plain laws. -/
import Derived.Test.YtdfokgnmemlmgaaA2
set_option linter.unusedVariables false
set_option linter.unusedSimpArgs false
namespace Go.Proofs.Ytdfokgnmemlmgaa
open Go Go.RowKit Dp
namespace Rx

theorem half_eq {x : Int} (h0 : 0 ≤ x) (h1 : x ≤ 1000000000) : shrO 64 (iwrap IntKind.u64 (W x)) 1 = some (x / 2) := by
  have e1 : W x = x := W_sm (by omega) (by omega)
  have e2 : IntKind.u64.wrap x = x := by
    have hb : IntKind.u64.bits = 64 := rfl
    simp [IntKind.wrap, hb, IntKind.signed]
    omega
  show (if (1 : Int) < 0 then none else some ((IntKind.u64.wrap (W x)).fdiv (2 ^ min (1 : Int).toNat 64))) = _
  rw [e1, e2, if_neg (by omega)]
  congr 1
  show x.fdiv (2 ^ 1) = x / 2
  rw [Int.fdiv_eq_ediv_of_nonneg _ (by decide)]
  rfl
def cmpI (a b : Int) : Int := if a < b then -1 else if a > b then 1 else 0
theorem cmp_eq (a b : Int) : cmp_Compare_int a b = some (cmpI a b) := by
  unfold cmp_Compare_int cmp_isNaN_int cmpI
  simp only [Option.bind_some, bne_self_eq_false, Bool.false_eq_true, if_false]
  by_cases h : a < b
  · simp [h]
  · by_cases h2 : a > b
    · simp [h, h2]
    · simp [h, h2]
theorem cmpI_tri (x y : Int) : (x < y ∧ cmpI x y = -1) ∨ (x = y ∧ cmpI x y = 0) ∨ (x > y ∧ cmpI x y = 1) := by
  unfold cmpI
  by_cases h1 : x < y
  · exact .inl ⟨h1, if_pos h1⟩
  · rw [if_neg h1]
    by_cases h2 : x > y
    · exact .inr (.inr ⟨h2, if_pos h2⟩)
    · exact .inr (.inl ⟨by omega, if_neg h2⟩)
theorem or_eq (l : List Int) (hl : l.length ≤ 1000) : ∃ r, cmp_Or_int l = some r ∧ ((r = 0 ∧ ∀ x ∈ l, x = 0) ∨ ∃ k, k < l.length ∧ r = gt l k ∧ r ≠ 0 ∧ ∀ j, j < k → gt l j = 0) := by
  have h := wp_upto (step := cmp_Or_int_L1 l) (s := (0 : Int)) l.length (fun k s => s = (k : Int) ∧ ∀ j, j < k → gt l j = 0) (Q := fun r => (r = .inl () ∧ ∀ j, j < l.length → gt l j = 0) ∨ ∃ k, k < l.length ∧ r = .inr (gt l k) ∧ gt l k ≠ 0 ∧ ∀ j, j < k → gt l j = 0) ⟨rfl, fun j hj => by omega⟩ (fun k s hk hi => by
    obtain ⟨rfl, hi⟩ := hi
    unfold cmp_Or_int_L1
    simp only [lt_len hk, if_true, idx_gt hk, Option.bind_some]
    by_cases he : gt l k = 0
    · simp only [bneF he, Bool.false_eq_true, if_false]
      rw [W_succ (by omega)]
      exact wp_some.2 ⟨rfl, fun j hj => by
        by_cases hjk : j = k
        · rw [hjk]; exact he
        · exact hi j (by omega)⟩
    · simp only [bneT he, if_true]
      exact wp_some.2 (.inr ⟨k, hk, rfl, he, hi⟩)) (fun s hi => by
    obtain ⟨rfl, hi⟩ := hi
    unfold cmp_Or_int_L1
    simp only [nlt_len, Bool.false_eq_true, if_false]
    exact wp_some.2 (.inl ⟨rfl, hi⟩)) (by omega)
  obtain ⟨r, h1, h2⟩ := h
  unfold cmp_Or_int
  rw [h1]
  rcases h2 with ⟨rfl, h2⟩ | ⟨k, hk, rfl, h3, h4⟩
  · refine ⟨0, rfl, .inl ⟨rfl, fun x hx => ?_⟩⟩
    obtain ⟨j, hj, rfl⟩ := mem_gt hx
    exact h2 j hj
  · exact ⟨_, rfl, .inr ⟨k, hk, rfl, h3, h4⟩⟩
theorem find1_eq (a : Alarm) (n : Int) : alarm_list__find_1 a n = some (cmpI a.Number n) := by
  unfold alarm_list__find_1
  rw [cmp_eq]
  rfl
/-- the place of a number in a sorted list -/
theorem wpLFind {m t : Int} {l : List Alarm} (h : Va m t l) (x n : Int) : ∃ k : Nat, k ≤ l.length ∧ (∀ i, i < k → (gt l i).Number < n) ∧ (∀ i, k ≤ i → i < l.length → n ≤ (gt l i).Number) ∧ list_find ⟨l, x⟩ n = some ((k : Int), dB (k < l.length ∧ (gt l k).Number = n)) := by
  have hl := h.len
  have hloop : Wp (loopO (slices_BinarySearchFunc_Alarm_Alarm_int_L1 l n) (0, len l)) fun r => ∃ k : Nat, r = (k : Int) ∧ k ≤ l.length ∧ (∀ i, i < k → (gt l i).Number < n) ∧ ∀ i, k ≤ i → i < l.length → n ≤ (gt l i).Number := by
    refine wp_while (fun s => (s.2 - s.1).toNat) (fun s => ∃ i j : Nat, s = ((i : Int), (j : Int)) ∧ i ≤ j ∧ j ≤ l.length ∧ (∀ p, p < i → (gt l p).Number < n) ∧ ∀ p, j ≤ p → p < l.length → n ≤ (gt l p).Number) (fun s hs => ?_) ⟨0, l.length, rfl, Nat.zero_le _, Nat.le_refl _, fun p hp => by omega, fun p h1 h2 => by omega⟩ (by simp only [len]; omega)
    obtain ⟨i, j, rfl, hij, hj, h1, h2⟩ := hs
    unfold slices_BinarySearchFunc_Alarm_Alarm_int_L1
    simp only
    by_cases hlt : i < j
    · obtain ⟨q, hq⟩ : ∃ q : Nat, ((i : Int) + (j : Int)) / 2 = (q : Int) := ⟨(i + j) / 2, by omega⟩
      have hq1 : i ≤ q ∧ q < j := by omega
      have hWq : W (q : Int) = q := W_sm (by omega) (by omega)
      simp only [dT (c := (i : Int) < (j : Int)) (by omega), if_true]
      rw [half_eq (by omega) (by omega), hq]
      simp only [Option.bind_some, hWq, idx_gt (show q < l.length by omega), find1_eq]
      rcases cmpI_tri (gt l q).Number n with ⟨c1, c2⟩ | ⟨c1, c2⟩ | ⟨c1, c2⟩
      · simp only [c2, dT (c := (-1 : Int) < 0) (by omega), if_true, Option.bind_some]
        rw [W_succ (by omega)]
        refine wp_some.2 ⟨⟨q + 1, j, rfl, by omega, hj, fun p hp => ?_, h2⟩, by simp only; omega⟩
        by_cases hpq : p = q
        · rw [hpq]; exact c1
        · have := h.srt p q (by omega) (by omega); omega
      · simp only [c2, dF (c := (0 : Int) < 0) (by omega), Bool.false_eq_true, if_false, Option.bind_some]
        refine wp_some.2 ⟨⟨i, q, rfl, by omega, by omega, h1, fun p hp hpl => ?_⟩, by simp only; omega⟩
        by_cases hpq : p = q
        · rw [hpq]; omega
        · have := h.srt q p (by omega) hpl; omega
      · simp only [c2, dF (c := (1 : Int) < 0) (by omega), Bool.false_eq_true, if_false, Option.bind_some]
        refine wp_some.2 ⟨⟨i, q, rfl, by omega, by omega, h1, fun p hp hpl => ?_⟩, by simp only; omega⟩
        by_cases hpq : p = q
        · rw [hpq]; omega
        · have := h.srt q p (by omega) hpl; omega
    · have hje : j = i := by omega
      subst hje
      simp only [dF (c := (j : Int) < (j : Int)) (by omega), Bool.false_eq_true, if_false]
      exact wp_some.2 ⟨j, rfl, hj, h1, h2⟩
  obtain ⟨r, hr, k, rfl, hk, h1, h2⟩ := hloop
  refine ⟨k, hk, h1, h2, ?_⟩
  unfold list_find slices_BinarySearchFunc_Alarm_Alarm_int
  simp only [hr, Option.bind_some]
  by_cases hkl : k < l.length
  · simp only [lt_len hkl, if_true, idx_gt hkl, find1_eq, Option.bind_some]
    congr 2
    refine dB_eq ?_
    rcases cmpI_tri (gt l k).Number n with ⟨c1, c2⟩ | ⟨c1, c2⟩ | ⟨c1, c2⟩
    · rw [c2]
      refine ⟨fun hh => by simp at hh, fun hh => by omega⟩
    · rw [c2]
      exact ⟨fun _ => ⟨hkl, c1⟩, fun _ => rfl⟩
    · rw [c2]
      refine ⟨fun hh => by simp at hh, fun hh => by omega⟩
  · rw [dF (c := (k : Int) < len l) (by unfold len; omega)]
    simp only [Bool.false_eq_true, if_false, Option.bind_some]
    rw [dB_F (fun hh => hkl hh.1)]

theorem number_T {n : Int} (h0 : 0 ≤ n) (h1 : n ≤ 999) : alarm_number n = some true := by unfold alarm_number; rw [among_T h0 h1]; rfl
theorem urgent_T {n : Int} (h0 : 1 ≤ n) (h1 : n ≤ 9) : alarm_urgent n = some true := by unfold alarm_urgent; rw [among_T h0 h1]; rfl
/-- what is raised on a valid list -/
theorem lraise {m t x n u : Int} {l : List Alarm} (h : Va m t l) (n0 : 0 ≤ n) (n1 : n ≤ 999) (u0 : 1 ≤ u) (u1 : u ≤ 9) : ∃ r, list_raise ⟨l, x⟩ n u = some r ∧ r.2.1 = x ∧
    ((∃ k, k < l.length ∧ (gt l k).Number = n ∧ r.1 = 0 ∧ r.2.2 = if (gt l k).State = 3 then l.set k (Alarm.mk n u 1 x) else l) ∨
     ((∀ k, k < l.length → (gt l k).Number ≠ n) ∧ l.length = 32 ∧ r.1 = 2 ∧ r.2.2 = l) ∨
     (∃ k, k ≤ l.length ∧ l.length ≠ 32 ∧ (∀ i, i < k → (gt l i).Number < n) ∧ (∀ i, k ≤ i → i < l.length → n < (gt l i).Number) ∧ r.1 = 0 ∧ r.2.2 = l.take k ++ [Alarm.mk n u 1 x] ++ l.drop k)) := by
  have hl := h.len
  obtain ⟨k, hk, h1, h2, hf⟩ := wpLFind h x n
  unfold list_raise
  simp only [number_T n0 n1, urgent_T u0 u1, Option.bind_some, Bool.not_true, Bool.false_eq_true, if_false, hf]
  by_cases hb : k < l.length ∧ (gt l k).Number = n
  · rw [dB_T hb]
    obtain ⟨hkl, he⟩ := hb
    simp only [if_true, idx_gt hkl, Option.bind_some]
    by_cases hs : (gt l k).State = 3
    · simp only [beqT hs, if_true, setO_nat hkl, Option.bind_some, Sum.elim_inl]
      exact ⟨_, rfl, rfl, .inl ⟨k, hkl, he, rfl, by rw [if_pos hs]⟩⟩
    · simp only [beqF hs, Bool.false_eq_true, if_false, if_true, Option.bind_some, Sum.elim_inl]
      exact ⟨_, rfl, rfl, .inl ⟨k, hkl, he, rfl, by rw [if_neg hs]⟩⟩
  · rw [dB_F hb]
    simp only [Bool.false_eq_true, if_false, Option.bind_some]
    have hno : ∀ i, i < l.length → (gt l i).Number ≠ n := fun i hi he => by
      rcases Nat.lt_trichotomy i k with hik | hik | hik
      · have := h1 i hik; omega
      · exact hb ⟨hik ▸ hi, hik ▸ he⟩
      · have := h2 k (Nat.le_refl _) (by omega)
        have := h.srt k i hik hi
        omega
    by_cases h32 : l.length = 32
    · rw [show (len l == 32) = true from beqT (by unfold len; omega)]
      simp only [if_true, Option.bind_some, Sum.elim_inr]
      exact ⟨_, rfl, rfl, .inr (.inl ⟨hno, h32, rfl, rfl⟩)⟩
    · rw [show (len l == 32) = false from beqF (by unfold len; omega)]
      have hins : slices_Insert_Alarm_Alarm l (k : Int) [Alarm.mk n u 1 x] = some (l.take k ++ [Alarm.mk n u 1 x] ++ l.drop k) := by
        unfold slices_Insert_Alarm_Alarm insO
        rw [app_sm (by simp; omega)]
        simp [len, hk]
      simp only [Bool.false_eq_true, if_false, hins, Option.bind_some, Sum.elim_inl]
      refine ⟨_, rfl, rfl, .inr (.inr ⟨k, hk, h32, h1, fun i hki hi => ?_, rfl, rfl⟩)⟩
      have := h2 i hki hi
      have := hno i hi
      omega
theorem open_ok {m t t' : Int} {l : List Alarm} (h : Va m t l) (ht : t ≤ t') (hm : m ≤ 999) (h0 : 0 ≤ t') (h1 : t' ≤ 2147483648) : alarm_open l t' = some (0, t', l) := by
  have hl := h.len
  unfold alarm_open slices_Clone_Alarm_Alarm
  simp only [check_ok (h.later ht) hm h0 h1, Option.bind_some, bne_self_eq_false, Bool.false_eq_true, if_false]
  rw [show app ([] : List Alarm) l = some l from app_sm (by simp; omega)]
  rfl
theorem raise_ok {m t t' n u : Int} {l : List Alarm} (h : Va m t l) (ht : t ≤ t') (hm : m ≤ 999) (h0 : 0 ≤ t') (h1 : t' ≤ 2147483648) (n0 : 0 ≤ n) (n1 : n ≤ 999) (u0 : 1 ≤ u) (u1 : u ≤ 9) : ∃ r, alarm_Raise l n u t' = some r ∧
    ((∃ k, k < l.length ∧ (gt l k).Number = n ∧ r.1 = 0 ∧ r.2 = if (gt l k).State = 3 then l.set k (Alarm.mk n u 1 t') else l) ∨
     ((∀ k, k < l.length → (gt l k).Number ≠ n) ∧ l.length = 32 ∧ r.1 = 2) ∨
     (∃ k, k ≤ l.length ∧ l.length ≠ 32 ∧ (∀ i, i < k → (gt l i).Number < n) ∧ (∀ i, k ≤ i → i < l.length → n < (gt l i).Number) ∧ r.1 = 0 ∧ r.2 = l.take k ++ [Alarm.mk n u 1 t'] ++ l.drop k)) := by
  obtain ⟨r, hr, _, hc⟩ := lraise (x := t') h n0 n1 u0 u1
  obtain ⟨e, x', l'⟩ := r
  simp only at hc
  unfold alarm_Raise
  simp only [open_ok h ht hm h0 h1, Option.bind_some, bne_self_eq_false, Bool.false_eq_true, if_false, hr]
  rcases hc with ⟨k, a1, a2, rfl, a4⟩ | ⟨a1, a2, rfl, a4⟩ | ⟨k, a1, a2, a3, a4, rfl, a6⟩
  · exact ⟨_, rfl, .inl ⟨k, a1, a2, rfl, a4⟩⟩
  · exact ⟨_, rfl, .inr (.inl ⟨a1, a2, rfl⟩)⟩
  · exact ⟨_, rfl, .inr (.inr ⟨k, a1, a2, a3, a4, rfl, a6⟩)⟩
theorem same_self {l : List Alarm} (hl : l.length ≤ 1000000) : dynposref35_Same l l = some true := by
  unfold dynposref35_Same
  have e := loop_run (step := dynposref35_Same_L1 l l) (r := .inl ()) (fun k => (k : Int)) l.length (fun k hk => by
    unfold dynposref35_Same_L1
    simp only [lt_len hk, if_true, idx_gt hk, Option.bind_some, beq_self_eq_true, Bool.and_self, Bool.not_true, Bool.false_eq_true, if_false]
    rw [W_succ (by omega)]) (by
    unfold dynposref35_Same_L1
    simp only [nlt_len, Bool.false_eq_true, if_false])
  simp only [show ((0 : Nat) : Int) = 0 from rfl] at e
  simp only [bne_self_eq_false, Bool.false_eq_true, if_false, e, Option.bind_some, Sum.elim_inl]
end Rx
end Go.Proofs.Ytdfokgnmemlmgaa
