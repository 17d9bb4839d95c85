/- The source of numbers, where the board is not reached. Plain laws. -/
import Derived.Test.YtkgfdplcjdidhaaRz
import Derived.Test.YtkgfdplcjdidhaaPg
set_option linter.unusedVariables false
set_option linter.unusedSimpArgs false
namespace Go.Proofs.Ytkgfdplcjdidhaa
open Go Go.RowKit Dp
namespace Rx

theorem Wp.ite {α : Type} {c : Bool} {a b : Option α} {Q : α → Prop} (ha : c = true → Wp a Q) (hb : c = false → Wp b Q) : Wp (if c = true then a else b) Q := by
  cases c with
  | true => exact ha rfl
  | false => exact hb rfl
/-- a source's list and place -/
def Sr (l : List Int) (a : Int) : Prop := 0 ≤ a ∧ l.length ≤ 1000000 ∧ a ≤ l.length
theorem mod_eq {x n : Int} (h1 : 1 ≤ n) (h2 : n ≤ 1000000000000) : dynposmake_Mod x n = some ((x.tmod n + n) % n) := by
  have hm1 : -n < x.tmod n := by
    have := Int.lt_tmod_of_pos x (b := n) (by omega)
    omega
  have hm2 : x.tmod n < n := Int.tmod_lt_of_pos x (by omega)
  unfold dynposmake_Mod
  have e1 : remO x n = some (x.tmod n) := by unfold remO; rw [if_neg (by omega)]
  rw [dF (c := n < 1) (by omega)]
  simp only [Bool.false_eq_true, if_false, e1, Option.bind_some, Option.bind_fun_some]
  rw [W_sm (by omega) (by omega), remO_nn (by omega) (by omega)]
theorem wpN {l : List Int} {a n : Int} (hs : Sr l a) (h1 : 1 ≤ n) (h2 : n ≤ 1000000000000) : Wp (Src_N ⟨l, a⟩ n) fun r => (0 ≤ r.1 ∧ r.1 < n) ∧ Sr r.2.1 r.2.2 := by
  obtain ⟨s1, s2, s3⟩ := hs
  unfold Src_N
  simp only
  refine Wp.ite (fun h => wp_some.2 ⟨⟨Int.le_refl _, by simp only; omega⟩, s1, s2, s3⟩) fun h => ?_
  have h' : a < l.length := by have := of_decide_eq_false h; unfold len at this; omega
  have e1 : W (W (a + 1) - 1) = a := by rw [W_sm (x := a + 1) (by omega) (by omega), W_sm (by omega) (by omega)]; omega
  rw [e1, idx_gtZ s1 h']
  simp only [Option.bind_some, mod_eq h1 h2, W_sm (x := a + 1) (by omega) (by omega)]
  exact wp_some.2 ⟨⟨Int.emod_nonneg _ (by omega), Int.emod_lt_of_pos _ (by omega)⟩, by simp only; omega, s2, by simp only; omega⟩
theorem wpRange {l : List Int} {a lo hi : Int} (hs : Sr l a) (h : lo ≤ hi) (h1 : -1000000000000 ≤ lo) (h2 : hi ≤ 100000000000) (h3 : hi - lo + 1 ≤ 1000000000000) : Wp (Src_Range ⟨l, a⟩ lo hi) fun r => (lo ≤ r.1 ∧ r.1 ≤ hi) ∧ Sr r.2.1 r.2.2 := by
  unfold Src_Range
  have e1 : W (hi - lo) = hi - lo := W_sm (by omega) (by omega)
  have e2 : W (hi - lo + 1) = hi - lo + 1 := W_sm (by omega) (by omega)
  simp only [e1, e2]
  refine (wpN hs (n := hi - lo + 1) (by omega) (by omega)).bind fun y hy => ?_
  obtain ⟨y, l', a'⟩ := y
  simp only at hy ⊢
  rw [W_sm (by omega) (by omega)]
  exact wp_some.2 ⟨⟨by simp only; omega, by simp only; omega⟩, hy.2⟩
theorem wpNew (t : List Int) : Wp (dynposmake_New t) fun r => Sr r.1 r.2 := by
  unfold dynposmake_New
  have e : slc t 0 (imin (len t) 600) = some (t.take (imin (len t) 600).toNat) := by
    unfold slc imin len
    rw [if_pos (by split <;> omega)]
    simp
  rw [e]
  refine wp_some.2 ⟨Int.le_refl _, ?_, by simp only; omega⟩
  simp only [List.length_take]
  unfold imin
  split <;> omega
end Rx
end Go.Proofs.Ytkgfdplcjdidhaa
