/- Board: what the source of states gives is valid. Plain laws. -/
import Derived.Test.YtdfkfohpgakihaaLb3
set_option linter.unusedVariables false
set_option linter.unusedSimpArgs false
namespace Go.Proofs.Ytdfkfohpgakihaa
open Go Go.RowKit Dp
open Classical

theorem clo_congr {b : Board} {p q : Power} {j : Int} {n : Nat} (h : ∀ i, i < n → (gt b.Breakers i).Kind = 3 → (gt b.Breakers i).B = j → gt p.Closed i = gt q.Closed i) : clo b p j n = clo b q j n := by
  induction n with
  | zero => rfl
  | succ n ih =>
    unfold clo
    rw [ih fun i hi => h i (by omega)]
    congr 1
    by_cases h1 : (gt b.Breakers n).Kind = 3
    · by_cases h2 : (gt b.Breakers n).B = j
      · rw [h n (by omega) h1 h2]
      · simp [h2]
    · simp [h1]
abbrev pc (cl : List Bool) : Power := ⟨cl, [], [], []⟩

/-- what is known of a state that was drawn -/
structure GenP (b : Board) (p : Power) : Prop where
  shape : Shape b p
  good : PGood b p
  brok : p.Broken.length ≤ 4
  freq : ∀ x ∈ p.Sources, 4950 ≤ x.Frequency ∧ x.Frequency ≤ 5005
theorem GenP.sm {b : Board} {p : Power} (hb : Gen b) (h : GenP b p) : SmP p := by
  obtain ⟨h1, h2, h3⟩ := h.shape
  have := hb.brk
  have := hb.src
  have := hb.con
  have := h.brok
  exact ⟨by unfold Sm; omega, by unfold Sm; omega, by unfold Sm; omega, by unfold Sm; omega⟩
theorem GenP.stt {b : Board} {p : Power} (hb : Gen b) (h : GenP b p) : stt b p = 0 := by
  unfold Go.Proofs.Ytdfkfohpgakihaa.stt
  rw [if_pos hb.chk, if_pos h.shape, if_pos h.good]

end Go.Proofs.Ytdfkfohpgakihaa
