/- The source of numbers. Plain laws. -/
import Derived.Test.YtdfkfohpgakihaaLb1
set_option linter.unusedVariables false
set_option linter.unusedSimpArgs false
namespace Go.Proofs.Ytdfkfohpgakihaa
open Go Go.RowKit Dp

theorem wpN (st : List Int) {n : Int} (h1 : 1 ≤ n) (h2 : n ≤ 1000000000000) : Wp (Src_N st n) fun r => 0 ≤ r.1 ∧ r.1 < n := by
  cases st with
  | nil => exact ⟨(0, []), rfl, by simp, by simp; omega⟩
  | cons x r =>
    have hm1 : -n < x.tmod n := by
      have := Int.lt_tmod_of_pos x (b := n) (by omega)
      omega
    have hm2 : x.tmod n < n := Int.tmod_lt_of_pos x (by omega)
    refine ⟨((x.tmod n + n) % n, r), ?_, Int.emod_nonneg _ (by omega), Int.emod_lt_of_pos _ (by omega)⟩
    show (modO x n).bind (fun y => some (y, r)) = _
    unfold modO
    rw [if_neg (by omega)]
    have e1 : remO x n = some (x.tmod n) := by unfold remO; rw [if_neg (by omega)]
    rw [e1]
    simp only [Option.bind_some]
    rw [W_sm (by omega) (by omega), remO_nn (by omega) (by omega)]
    rfl
/-- a number below n; 0 where n is less than 1 -/
theorem wpN0 (st : List Int) {n : Int} (h1 : 0 ≤ n) (h2 : n ≤ 1000000000000) : Wp (Src_N st n) fun r => 0 ≤ r.1 ∧ (r.1 < n ∨ r.1 = 0) := by
  by_cases h : 1 ≤ n
  · exact (wpN st h h2).mono fun r hr => ⟨hr.1, .inl hr.2⟩
  · cases st with
    | nil => exact ⟨(0, []), rfl, by simp, .inr rfl⟩
    | cons x r => exact ⟨(0, r), by simp [Src_N, modO, show n < 1 by omega], by simp, .inr rfl⟩
theorem wpRange (st : List Int) {lo hi : Int} (h : lo ≤ hi) (h1 : -1000000000000 ≤ lo) (h2 : hi ≤ 100000000000) (h3 : hi - lo + 1 ≤ 1000000000000) : Wp (Src_Range st lo hi) fun r => lo ≤ r.1 ∧ r.1 ≤ hi := by
  unfold Src_Range
  have e1 : W (hi - lo) = hi - lo := W_sm (by omega) (by omega)
  have e2 : W (hi - lo + 1) = hi - lo + 1 := W_sm (by omega) (by omega)
  simp only [e1, e2]
  refine (wpN st (n := hi - lo + 1) (by omega) (by omega)).bind fun y hy => ?_
  obtain ⟨y, st'⟩ := y
  simp only at hy ⊢
  rw [W_sm (by omega) (by omega)]
  exact wp_some.2 ⟨by simp; omega, by simp; omega⟩
theorem new_run' (t : List Int) : ∃ st, dynposmake_New t = some st := by
  unfold dynposmake_New
  have : slc t 0 (if 600 < len t then 600 else len t) = some (t.take (if 600 < len t then 600 else len t).toNat) := by
    unfold slc len
    rw [if_pos (by split <;> omega)]
    simp
  exact ⟨_, this⟩
end Go.Proofs.Ytdfkfohpgakihaa
