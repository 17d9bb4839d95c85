/- Protecting: clear, then shed; what was protected is left as it is. The program's check. -/
import Derived.Test.YtfnphdhcgkondaaGreatH9
set_option linter.unusedVariables false
set_option linter.unusedSimpArgs false
namespace Go.Proofs.YtfnphdhcgkondaaGreat
open Go Go.RowKit Dp
namespace Rx
section
variable {b : Board} {p q : Power} {L T : List Int} {x : Island}
/-! clean states -/
/-- there is nothing to clear -/
structure Clean (b : Board) (p : Power) : Prop where
  dng : ∀ i, i < b.Breakers.length → gt p.Closed i = true → dng p (gt b.Breakers i) = false
  dead : ∀ i, i < b.Breakers.length → gt p.Closed i = true → dead b p (gt b.Breakers i) = false
  fol : folL b p = p.Sources
/-! protecting -/
noncomputable def protP (b : Board) (p : Power) : Power := shdP b (clrP b p)
noncomputable def protA (b : Board) (p : Power) : List Act := clrA b p ++ (shAll b (clrP b p)).2.2
theorem clrA_len (h : stt b p = 0) : (clrA b p).length ≤ 48 := by
  obtain ⟨s1, _, s3, _⟩ := brk_lens h
  have h1 := fnd_len p.Closed fun i => Rx.dng p (gt b.Breakers i)
  have h2 := fnd_len (clr1 b p).Closed fun i => Rx.dead b (clr1 b p) (gt b.Breakers i)
  have h3 : (clr1 b p).Closed.length = p.Closed.length := opn_len _ _
  unfold clrA
  simp only [List.length_append, List.length_map]
  omega
theorem stt_prot (h : stt b p = 0) : stt b (protP b p) = 0 := stt_shd (stt_clrP h)
theorem sm_prot (hp : SmP p) (h : stt b p = 0) : SmP (protP b p) := sm_shd (sm_clrP hp) (stt_clrP h)
theorem protect_eq (hb : SmB b) (hp : SmP p) (h : stt b p = 0) : shed_Protect b p = some (0, (protP b p).Closed, (protP b p).Sources, (protP b p).Limits, (protP b p).Broken, protA b p) := by
  unfold shed_Protect shed_relieve_v2 shed_Protect_1_v1
  rw [state_eq hb hp, h]
  simp only [Option.bind_some, bne_self_eq_false, Bool.false_eq_true, if_false, clone_eq hp]
  rw [show (⟨b, ⟨p.Closed, p.Sources, p.Limits, p.Broken⟩, []⟩ : relief) = ⟨b, p, []⟩ from rfl, clear_run hb hp h]
  simp only [Option.bind_some]
  have e := shed_run hb (sm_clrP (b := b) hp) (stt_clrP h) (a := clrA b p) (by have := clrA_len h; omega)
  rw [show (⟨⟨b.Buses, b.Breakers, b.Sources, b.Consumers, b.Phase, b.Frequency⟩, ⟨(clrP b p).Closed, (clrP b p).Sources, (clrP b p).Limits, (clrP b p).Broken⟩, clrA b p⟩ : relief) = ⟨b, clrP b p, clrA b p⟩ from rfl, e]
  rfl
/-! acts -/
end
end Rx
end Go.Proofs.YtfnphdhcgkondaaGreat
