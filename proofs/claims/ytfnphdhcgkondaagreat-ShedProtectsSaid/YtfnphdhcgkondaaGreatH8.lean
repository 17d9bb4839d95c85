/- The reference's clearing; what clearing leaves. -/
import Derived.Test.YtfnphdhcgkondaaGreatH7
set_option linter.unusedVariables false
set_option linter.unusedSimpArgs false
namespace Go.Proofs.YtfnphdhcgkondaaGreat
open Go Go.RowKit Dp
namespace Rx
section
variable {b : Board} {p : Power}
theorem opn_id {C : List Bool} {P : Nat → Bool} (h : ∀ i, i < C.length → gt C i = true → P i = false) : opn C P = C := by
  refine ext_gt (opn_len _ _) fun i hi => ?_
  rw [opn_len] at hi
  rw [opn_gt hi]
  cases hc : gt C i with
  | false => rfl
  | true => rw [h i hi hc]; rfl
theorem fnd_nil {C : List Bool} {P : Nat → Bool} (h : ∀ i, i < C.length → gt C i = true → P i = false) : fnd C P = [] := by
  refine List.length_eq_zero_iff.1 (rangeF_len0.2 fun i hi => ?_)
  cases hc : gt C i with
  | false => rfl
  | true => rw [h i hi hc]; rfl
theorem dng_same {q : Power} (hb : q.Broken = p.Broken) (hs : ∀ j, j < p.Sources.length → (gt q.Sources j).State = (gt p.Sources j).State) {x : Breaker} (hx : x.Kind = 2 → 0 ≤ x.B ∧ x.B < p.Sources.length) : dng q x = dng p x := by
  unfold dng brk
  rw [hb]
  by_cases h2 : x.Kind = 2
  · have := hx h2
    rw [hs x.B.toNat (by omega)]
  · by_cases h1 : x.Kind = 1
    · rw [if_pos h1, if_pos h1]
    · rw [if_neg h1, if_neg h2, if_neg h1, if_neg h2]
theorem clrP_at (h : stt b p = 0) {i : Nat} (hi : i < b.Breakers.length) : gt (clrP b p).Closed i = (gt p.Closed i && !dng p (gt b.Breakers i) && !dead b (clr1 b p) (gt b.Breakers i)) := by
  obtain ⟨s1, _⟩ := brk_lens h
  show gt (opn (opn p.Closed _) _) i = _
  rw [opn_gt (by rw [opn_len]; omega), opn_gt (by omega)]
theorem same_clrP (h : stt b p = 0) : SameT b (clr1 b p) (clrP b p) := (same_clr2 h).trans (same_fol (stt_clr2 h))
theorem stt_clrP (h : stt b p = 0) : stt b (clrP b p) = 0 := stt_fol (stt_clr2 h)
theorem sm_clrP (hp : SmP p) : SmP (clrP b p) := sm_fol (sm_clr2 hp)
end
end Rx
end Go.Proofs.YtfnphdhcgkondaaGreat
