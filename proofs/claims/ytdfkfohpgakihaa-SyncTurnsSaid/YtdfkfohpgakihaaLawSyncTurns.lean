/- The law SyncTurns, plainly. -/
import Derived.Test.YtdfkfohpgakihaaLs4
import Derived.Test.YtdfkfohpgakihaaLsr
set_option linter.unusedVariables false
set_option linter.unusedSimpArgs false
namespace Go.Proofs.Ytdfkfohpgakihaa
open Go Go.RowKit Dp

theorem want_eq {f n c : Int} (hf : 4900 ≤ f ∧ f ≤ 5100) (h0 : 0 ≤ n) (h1 : n < 50) (hc : 0 ≤ c ∧ c ≤ 100) : dynposref02_Norm (W (c + W (W (36 * W (f - 5000)) * W n))) = some ((c + 36 * (f - 5000) * n) % 3600) := by
  have b1 : 36 * (f - 5000) * n ≤ 3600 * n := Int.mul_le_mul_of_nonneg_right (by omega) h0
  have b2 : -3600 * n ≤ 36 * (f - 5000) * n := Int.mul_le_mul_of_nonneg_right (by omega) h0
  rw [W_sm (x := f - 5000) (by omega) (by omega), W_sm (x := 36 * (f - 5000)) (by omega) (by omega), W_sm (x := n) (by omega) (by omega)]
  generalize 36 * (f - 5000) * n = z at *
  rw [W_sm (x := z) (by omega) (by omega), W_sm (by omega) (by omega), rnorm_eq (by omega) (by omega)]
theorem dynposlaw16_SyncTurns_law (t : List Int) (u : U8) (hu0 : 0 ≤ u.n) (hu1 : u.n < 256) : dynposlaw16_SyncTurns t u = some true := by
  obtain ⟨st, h0⟩ := new_run' t
  obtain ⟨⟨f, st1⟩, h1, hf⟩ := wpRange st (lo := 4900) (hi := 5100) (by omega) (by omega) (by omega) (by omega)
  simp only at hf
  obtain ⟨⟨g, st2⟩, h2, hg⟩ := wpRange st1 (lo := 4900) (hi := 5100) (by omega) (by omega) (by omega) (by omega)
  simp only at hg
  have hm0 := Int.emod_nonneg u.n (show (50 : Int) ≠ 0 by decide)
  have hm1 := Int.emod_lt_of_pos u.n (show (0 : Int) < 50 by decide)
  have hr : remO u.n 50 = some (u.n % 50) := remO_nn hu0 (by omega)
  have e0 : dynposlaw16_pair = some (prB, P1) := rfl
  have e1 : idx P1.Sources 0 = some ⟨2, 0, 5000, 10⟩ := rfl
  have e2 : setO P1.Sources 0 (⟨2, 0, f, 10⟩ : Running) = some [⟨2, 0, f, 10⟩, ⟨2, 0, 5000, 100⟩] := rfl
  have e3 : idx ([⟨2, 0, f, 10⟩, ⟨2, 0, 5000, 100⟩] : List Running) 1 = some ⟨2, 0, 5000, 100⟩ := rfl
  have e4 : setO ([⟨2, 0, f, 10⟩, ⟨2, 0, 5000, 100⟩] : List Running) 1 (⟨2, 0, g, 100⟩ : Running) = some [⟨2, 0, f, 10⟩, ⟨2, 0, g, 100⟩] := rfl
  have el := turns_loop u hu0 hu1 hf hg
  have w1 := want_eq (c := 10) hf hm0 hm1 (by omega)
  have w2 := want_eq (c := 100) hg hm0 hm1 (by omega)
  have i1 : ∀ a b : Running, idx [a, b] 0 = some a := fun _ _ => rfl
  have i2 : ∀ a b : Running, idx [a, b] 1 = some b := fun _ _ => rfl
  have el' : loopR (dynposlaw16_SyncTurns_L1 u prB) ((0 : Int), P1.Closed, [⟨2, 0, f, 10⟩, ⟨2, 0, g, 100⟩], P1.Limits, P1.Broken) = _ := el
  unfold dynposlaw16_SyncTurns
  simp only [e0, Option.bind_some, h0, h1, h2, e1, e2, e3, e4, el', Sum.elim_inl, hr, w1, w2, i1, i2, beq_self_eq_true, if_true, sane16_run]

end Go.Proofs.Ytdfkfohpgakihaa
