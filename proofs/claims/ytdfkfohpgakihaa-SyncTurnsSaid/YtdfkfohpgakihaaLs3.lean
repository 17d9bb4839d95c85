/- The example of chapter 16, evaluated. -/
import Derived.Test.YtdfkfohpgakihaaLs2
set_option linter.unusedVariables false
set_option linter.unusedSimpArgs false
namespace Go.Proofs.Ytdfkfohpgakihaa
open Go Go.RowKit Dp

def prB : Board := ⟨2, [⟨1, 0, 1⟩, ⟨2, 0, 0⟩, ⟨2, 1, 1⟩], [⟨100, 0, 0⟩, ⟨100, 0, 0⟩], [], 50, 0⟩
def prP (c : Bool) (f x g y : Int) : Power := ⟨[c, true, true], [⟨2, 0, f, x⟩, ⟨2, 0, g, y⟩], [], []⟩
theorem lt3 {P : Nat → Prop} (h0 : P 0) (h1 : P 1) (h2 : P 2) : ∀ k, k < 3 → P k
  | 0, _ => h0
  | 1, _ => h1
  | 2, _ => h2
  | k + 3, h => by omega
theorem prB_good : Lim prB ∧ BGood prB := by
  refine ⟨⟨by decide, by decide, by decide, by decide⟩, ⟨?_, ?_, ?_⟩, by decide, by decide, ?_, ?_⟩
  · refine lt3 ?_ ?_ ?_ <;> (unfold OkAt; decide +kernel)
  · intro j hj
    have hj' : j < 2 := hj
    match j, hj' with
    | 0, _ => exact ⟨1, by decide, by unfold isS; decide +kernel⟩
    | 1, _ => exact ⟨2, by decide, by unfold isS; decide +kernel⟩
  · intro j hj
    exact absurd hj (by show ¬ j < 0; omega)
  · intro j hj
    have hj' : j < 2 := hj
    match j, hj' with
    | 0, _ => unfold SrcOk; decide +kernel
    | 1, _ => unfold SrcOk; decide +kernel
  · intro j hj
    exact absurd hj (by show ¬ j < 0; omega)
theorem prB_sm : SmB prB := ⟨by unfold Sm; decide, by unfold Sm; decide, by unfold Sm; decide, fun x hx => by cases hx⟩
section
variable {c : Bool} {f x g y : Int}
theorem pr_stt (hf : 0 ≤ f ∧ f ≤ 6000) (hg : 0 ≤ g ∧ g ≤ 6000) (hx : 0 ≤ x ∧ x ≤ 3599) (hy : 0 ≤ y ∧ y ≤ 3599) : stt prB (prP c f x g y) = 0 := by
  refine stt_zero.2 ⟨prB_good, ⟨rfl, rfl, rfl⟩, ⟨?_, by show 0 ≤ 32; omega⟩, ?_, ?_⟩
  · intro k hk
    exact absurd hk (by show ¬ k < 0; omega)
  · intro j hj
    have hj' : j < 2 := hj
    match j, hj' with
    | 0, _ => exact ⟨show (0 : Int) ≤ 2 ∧ (2 : Int) ≤ 3 from by decide, show (0 : Int) ≤ 0 ∧ (0 : Int) ≤ 2147483648 from by decide, hf, hx⟩
    | 1, _ => exact ⟨show (0 : Int) ≤ 2 ∧ (2 : Int) ≤ 3 from by decide, show (0 : Int) ≤ 0 ∧ (0 : Int) ≤ 2147483648 from by decide, hg, hy⟩
  · intro j hj
    exact absurd hj (by show ¬ j < 0; omega)
theorem pr_sm : SmP (prP c f x g y) := ⟨by unfold Sm prP; simp, by unfold Sm prP; simp, by unfold Sm prP; simp, by unfold Sm prP; simp⟩
theorem pr_turned : turned (prP c f x g y) = prP c f ((x + 36 * (f - 5000)) % 3600) g ((y + 36 * (g - 5000)) % 3600) := rfl
end
theorem pr_pair : dynposlaw16_pair = some (prB, prP false 5000 10 5000 100) := rfl

/-! the law -/
theorem mulk (D : Int) (k : Nat) : D * ((k + 1 : Nat) : Int) = D * k + D := by
  rw [Int.natCast_succ, Int.mul_add, Int.mul_one]
theorem turns_loop (u : U8) (hu0 : 0 ≤ u.n) (hu1 : u.n < 256) {f g : Int} (hf : 4900 ≤ f ∧ f ≤ 5100) (hg : 4900 ≤ g ∧ g ≤ 5100) :
    loopR (dynposlaw16_SyncTurns_L1 u prB) ((0 : Int), [false, true, true], [⟨2, 0, f, 10⟩, ⟨2, 0, g, 100⟩], ([] : List Int), ([] : List Part))
      = some (.inl ([false, true, true], [⟨2, 0, f, (10 + 36 * (f - 5000) * (u.n % 50)) % 3600⟩, ⟨2, 0, g, (100 + 36 * (g - 5000) * (u.n % 50)) % 3600⟩], [], [])) := by
  obtain ⟨n, hn⟩ := Int.eq_ofNat_of_zero_le (Int.emod_nonneg u.n (show (50 : Int) ≠ 0 by decide))
  have hn : u.n % 50 = (n : Int) := hn
  have hr : remO u.n 50 = some (n : Int) := by rw [remO_nn hu0 (by omega), hn]
  have hn50 : n < 50 := by omega
  have h := loop_run (step := dynposlaw16_SyncTurns_L1 u prB) (fun k => ((k : Int), [false, true, true], [⟨2, 0, f, (10 + 36 * (f - 5000) * (k : Int)) % 3600⟩, ⟨2, 0, g, (100 + 36 * (g - 5000) * (k : Int)) % 3600⟩], ([] : List Int), ([] : List Part))) n (r := .inl ([false, true, true], [⟨2, 0, f, (10 + 36 * (f - 5000) * (n : Int)) % 3600⟩, ⟨2, 0, g, (100 + 36 * (g - 5000) * (n : Int)) % 3600⟩], [], [])) (fun k hk => by
    have ht := turn_eq prB_sm (pr_sm (c := false) (f := f) (g := g) (x := (10 + 36 * (f - 5000) * (k : Int)) % 3600) (y := (100 + 36 * (g - 5000) * (k : Int)) % 3600)) (pr_stt (by omega) (by omega) (by omega) (by omega))
    rw [pr_turned] at ht
    unfold prP at ht
    have e1 : ((10 + 36 * (f - 5000) * (k : Int)) % 3600 + 36 * (f - 5000)) % 3600 = (10 + 36 * (f - 5000) * ((k + 1 : Nat) : Int)) % 3600 := by
      rw [mulk]; generalize 36 * (f - 5000) * (k : Int) = z; omega
    have e2 : ((100 + 36 * (g - 5000) * (k : Int)) % 3600 + 36 * (g - 5000)) % 3600 = (100 + 36 * (g - 5000) * ((k + 1 : Nat) : Int)) % 3600 := by
      rw [mulk]; generalize 36 * (g - 5000) * (k : Int) = z; omega
    rw [e1, e2] at ht
    have ew : W (n : Int) = (n : Int) := W_sm (by omega) (by omega)
    simp only [dynposlaw16_SyncTurns_L1, hr, Option.bind_some, ew, dT (show (k : Int) < (n : Int) by omega), if_true, ht, W_succ (show k < 1000000000000000000 by omega)]
    rfl) (by
    have ew : W (n : Int) = (n : Int) := W_sm (by omega) (by omega)
    simp only [dynposlaw16_SyncTurns_L1, hr, Option.bind_some, ew, dF (show ¬ (n : Int) < (n : Int) by omega), Bool.false_eq_true, if_false])
  rw [hn]
  have e0 : (10 + 36 * (f - 5000) * ((0 : Nat) : Int)) % 3600 = 10 := by simp
  have e0' : (100 + 36 * (g - 5000) * ((0 : Nat) : Int)) % 3600 = 100 := by simp
  simp only [e0, e0'] at h
  exact h
end Go.Proofs.Ytdfkfohpgakihaa
