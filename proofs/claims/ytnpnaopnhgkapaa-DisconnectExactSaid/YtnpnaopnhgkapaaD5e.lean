/- Bounds of ends. Plain laws. -/
import Derived.Test.YtnpnaopnhgkapaaD4e
set_option linter.unusedVariables false
set_option linter.unusedSimpArgs false
namespace Go.Proofs.Ytnpnaopnhgkapaa
open Go Go.RowKit Dp
namespace Rx

theorem en_bd {xs : List Stage} {ws : List Work} {T K : Int} {es : List Int} (he : EN xs ws T es) (k0 : 0 ≤ K) (k1 : K ≤ 10000) (nd : ∀ i, i < xs.length → ∀ j, j < (gt xs i).Needs.length → 0 ≤ gt (gt xs i).Needs j ∧ gt (gt xs i).Needs j < (i : Int))
    (tk : ∀ i, i < xs.length → (gt xs i).Ticks ≤ K) (sn : ∀ i, i < xs.length → (gt ws i).State = 1 → (gt ws i).Since + (gt xs i).Ticks - T ≤ K) : ∀ i, i < xs.length → gt es i ≤ K * ((i : Int) + 1) := by
  intro i
  induction i using Nat.strongRecOn with
  | _ i ih =>
    intro hi
    have t := tk i hi
    have hKi : 0 ≤ K * (i : Int) := Int.mul_nonneg k0 (by omega)
    have hKe : K * ((i : Int) + 1) = K * (i : Int) + K := by rw [Int.mul_add, Int.mul_one]
    rw [he.eq i hi, hKe]
    by_cases h1 : (gt ws i).State = 1
    · rw [ef1 h1]
      have := sn i hi h1
      omega
    · by_cases h0 : (gt ws i).State = 0
      · rw [ef0 h0]
        have : mx (gt xs i).Needs es ≤ K * (i : Int) := by
          rcases mx_at (gt xs i).Needs es with e | ⟨j, hj, e⟩
          · omega
          · have n := nd i hi j hj
            have a := ih (gt (gt xs i).Needs j).toNat (by omega) (by omega)
            have b : K * (((gt (gt xs i).Needs j).toNat : Int) + 1) ≤ K * (i : Int) := Int.mul_le_mul_of_nonneg_left (by omega) k0
            omega
        omega
      · rw [ef2 h0 h1]; omega
theorem top_bd {xs : List Stage} {ws : List Work} {T K L : Int} {es : List Int} (n2 : xs.length ≤ 12) (he : EN xs ws T es) (ht : Top es L) (k0 : 0 ≤ K) (k1 : K ≤ 10000) (h : ∀ i, i < xs.length → gt es i ≤ K * ((i : Int) + 1)) : L ≤ 120000 := by
  obtain ⟨_, i, hi, rfl⟩ := ht
  have := he.ln
  have a := h i (by omega)
  have b : K * ((i : Int) + 1) ≤ 10000 * 12 := Int.mul_le_mul k1 (by omega) (by omega) (by omega)
  omega
theorem left_bd {xs : List Stage} (hs : VS xs) {T : Int} {ws : List Work} (hv : VP xs T ws) {es : List Int} {L : Int} (he : EN xs ws T es) (ht : Top es L) : L ≤ 120000 :=
  top_bd (K := 600) hs.n2 he ht (by omega) (by omega) (en_bd he (by omega) (by omega) hs.nd (fun i hi => (hs.tk i hi).2) fun i hi h1 => by
    have tk := hs.tk i hi
    rcases hv.wk i hi with h | ⟨_, _, h⟩ | h | h <;> omega)
end Rx
end Go.Proofs.Ytnpnaopnhgkapaa
