/- Laws of the plain operations. Nothing here names a program. -/
import Derived.Test.YtdfkfohpgakihaaDr
set_option linter.unusedVariables false
set_option linter.unusedSimpArgs false
namespace Go.Proofs.Ytdfkfohpgakihaa
open Go Go.RowKit

namespace Dp

theorem W_sm {x : Int} (h1 : -1000000000000000000 ≤ x) (h2 : x ≤ 1000000000000000000) : W x = x := W_in (by omega) (by omega)
theorem idx_nat {α : Type} (xs : List α) (j : Nat) : idx xs (j : Int) = xs[j]? := by simp [idx]
theorem idx_get {α : Type} {xs : List α} {j : Nat} (h : j < xs.length) : idx xs (j : Int) = some xs[j] := by simp [idx, h]
theorem idx_getD {α : Type} {xs : List α} {j : Nat} (h : j < xs.length) (d : α) : idx xs (j : Int) = some (xs.getD j d) := by simp [idx, h, List.getD]
theorem setO_nat {α : Type} {xs : List α} {j : Nat} (h : j < xs.length) (y : α) : setO xs (j : Int) y = some (xs.set j y) := by
  unfold setO
  rw [if_pos ⟨by omega, by omega⟩]
  simp
theorem app_sm {α : Type} {xs ys : List α} (h : xs.length + ys.length ≤ 1073741824) : app xs ys = some (xs ++ ys) := by unfold app; rw [if_pos h]
theorem mkL_int {n : Nat} (h : n ≤ 1073741824) : mkL Int (n : Int) = some (List.replicate n 0) := by
  unfold mkL
  rw [if_pos ⟨by omega, by omega⟩]
  rfl
theorem slc_take {α : Type} {xs : List α} {n : Nat} (h : n ≤ xs.length) : slc xs 0 (n : Int) = some (xs.take n) := by
  unfold slc
  rw [if_pos ⟨by omega, by omega, by omega⟩]
  simp
theorem quoO_nn {a b : Int} (ha : 0 ≤ a) (hb : 0 < b) (h : a ≤ 1000000000000000000) : quoO a b = some (a / b) := by
  unfold quoO
  have h1 : a.tdiv b = a / b := Int.tdiv_eq_ediv_of_nonneg ha
  have h2 : 0 ≤ a / b := Int.ediv_nonneg ha (by omega)
  have h3 : a / b ≤ a := Int.ediv_le_self _ ha
  rw [if_neg (by omega), h1, W_sm (by omega) (by omega)]
theorem remO_nn {a b : Int} (ha : 0 ≤ a) (hb : 0 < b) : remO a b = some (a % b) := by
  unfold remO
  rw [if_neg (by omega), Int.tmod_eq_emod_of_nonneg ha]

section
variable {σ ρ : Type} {step : σ → Option (σ ⊕ ρ)} {s s' : σ} {r : ρ}
theorem loopR_next (h : step s = some (.inl s')) : loopR step s = loopR step s' := by rw [loopR_unfold, h]
theorem loopR_done (h : step s = some (.inr r)) : loopR step s = some r := by rw [loopR_unfold, h]
end
end Dp
end Go.Proofs.Ytdfkfohpgakihaa
