/- What may be closed, opened, matched: all answers. -/
import Derived.Test.YtkcjbcmpnoaghaaS5
set_option linter.unusedVariables false
set_option linter.unusedSimpArgs false
namespace Go.Proofs.Ytkcjbcmpnoaghaa
open Go Go.RowKit Dp
namespace Rx
open Classical
section
variable {b : Board} {p : Power}
theorem dB_true : dB True = true := dB_T trivial
theorem dB_false : dB False = false := dB_F id
theorem dB_not (P : Prop) : (!dB P) = dB (¬ P) := by
  by_cases h : P
  · rw [dB_T h, dB_F (fun hn => hn h)]; rfl
  · rw [dB_F h, dB_T h]; rfl
/-- a leader is a generator -/
theorem lead_in (h : stt b p = 0) {k : Int} (hk : (lead b p k).2 = true) : ∃ j : Nat, (lead b p k).1 = (j : Int) ∧ j < p.Sources.length := by
  obtain ⟨⟨hl, hg⟩, ⟨s1, s2, s3⟩, g1, g2, g3⟩ := stt_zero.1 h
  unfold lead at hk ⊢
  by_cases h1 : (ofB b p k).1.Sources = []
  · rw [if_pos h1] at hk; cases hk
  · rw [if_neg h1]
    unfold ofB at h1 ⊢
    by_cases h2 : stt b p = 0 ∧ 0 ≤ k ∧ k < b.Buses
    · rw [if_pos h2] at h1 ⊢
      obtain ⟨j, e, hj, _⟩ := isl_src (isleOf_in (p := p) hg.1 h2.2.1 h2.2.2).1 (gt_mem (List.length_pos_iff.2 h1))
      exact ⟨j, e, by omega⟩
    · rw [if_neg h2] at h1; exact (h1 rfl).elim
/-- nothing forbids to close breaker i -/
def SndB (b : Board) (p : Power) (i : Nat) : Prop := gt p.Closed i = false ∧ ¬ (⟨2, (i : Int)⟩ : Part) ∈ p.Broken ∧ ¬ (⟨3, (gt b.Breakers i).A⟩ : Part) ∈ p.Broken ∧
  (if (gt b.Breakers i).Kind = 1 then ¬ (⟨3, (gt b.Breakers i).B⟩ : Part) ∈ p.Broken else if (gt b.Breakers i).Kind = 2 then ¬ (⟨1, (gt b.Breakers i).B⟩ : Part) ∈ p.Broken ∧ (gt p.Sources (gt b.Breakers i).B.toNat).State = 2
    else ¬ (⟨4, (gt b.Breakers i).B⟩ : Part) ∈ p.Broken ∧ (led b p 3 (gt b.Breakers i).B).2 = false)
theorem brk_B (hb : BrkOk b) {i : Nat} (hi : i < b.Breakers.length) : (0 ≤ (gt b.Breakers i).A ∧ (gt b.Breakers i).A ≤ b.Buses - 1) ∧ ((gt b.Breakers i).Kind = 1 → (gt b.Breakers i).A + 1 ≤ (gt b.Breakers i).B ∧ (gt b.Breakers i).B ≤ b.Buses - 1) ∧
    ((gt b.Breakers i).Kind = 2 → 0 ≤ (gt b.Breakers i).B ∧ (gt b.Breakers i).B ≤ (b.Sources.length : Int) - 1) ∧ ((gt b.Breakers i).Kind = 3 → 0 ≤ (gt b.Breakers i).B ∧ (gt b.Breakers i).B ≤ (b.Consumers.length : Int) - 1) ∧ ((gt b.Breakers i).Kind = 1 ∨ (gt b.Breakers i).Kind = 2 ∨ (gt b.Breakers i).Kind = 3) := by
  obtain ⟨h1, h2⟩ := hb.1 i hi
  refine ⟨h1, ?_⟩
  rcases h2 with h | h | h
  · exact ⟨fun _ => h.2, fun k => by have := h.1; omega, fun k => by have := h.1; omega, .inl h.1⟩
  · exact ⟨fun k => by have := h.1; omega, fun _ => h.2.1, fun k => by have := h.1; omega, .inr (.inl h.1)⟩
  · exact ⟨fun k => by have := h.1; omega, fun k => by have := h.1; omega, fun _ => h.2.1, .inr (.inr h.1)⟩
/-- what breaker i would connect agrees -/
def SynB (b : Board) (p : Power) (i : Nat) : Prop := (lead b p (gt b.Breakers i).A).2 = true →
  (if (gt b.Breakers i).Kind = 1 then (lead b p (gt b.Breakers i).B).2 = true → agr b (gt p.Sources (lead b p (gt b.Breakers i).A).1.toNat) (gt p.Sources (lead b p (gt b.Breakers i).B).1.toNat)
    else if (gt b.Breakers i).Kind = 2 then agr b (gt p.Sources (lead b p (gt b.Breakers i).A).1.toNat) (gt p.Sources (gt b.Breakers i).B.toNat) else True)
theorem dB_d' (P : Prop) [Decidable P] : decide P = dB P := by
  by_cases h : P
  · rw [dT h, dB_T h]
  · rw [dF h, dB_F h]
/-- breaker i is a tie within an island -/
def InB (b : Board) (p : Power) (i : Nat) : Prop := (gt b.Breakers i).Kind = 1 ∧ (gt b.Breakers i).B ∈ (ofB b p (gt b.Breakers i).A).1.Buses
noncomputable def mayV (b : Board) (p : Power) (i : Int) : Int := if stt b p ≠ 0 then stt b p else if i < 0 ∨ (b.Breakers.length : Int) ≤ i then 10 else if ¬ SndB b p i.toNat then 11 else if ¬ InB b p i.toNat ∧ ¬ SynB b p i.toNat then 12 else 0
theorem sm_buses (hl : Lim b) (k : Int) : Sm (ofB b p k).1.Buses := by
  unfold ofB
  split
  · have h4 : (isleOf b p k).Buses.length ≤ b.Buses.toNat := (isle_len (b := b) (p := p) (gt (grp b p) k.toNat).toNat).1
    have := hl.bus
    unfold Sm; simp only; omega
  · unfold Sm; simp
theorem range_ne {i n : Int} (h1 : ¬ i < 0) (h2 : ¬ n ≤ i) : ∃ k : Nat, i = (k : Int) ∧ (k : Int) < n := ⟨i.toNat, by omega, by omega⟩
theorem may_zero {i : Int} (hp : mayV b p i = 0) : stt b p = 0 ∧ ∃ k : Nat, i = (k : Int) ∧ k < b.Breakers.length ∧ SndB b p k ∧ (InB b p k ∨ SynB b p k) := by
  unfold mayV at hp
  by_cases h : stt b p = 0
  case neg => rw [if_pos h] at hp; exact (h hp).elim
  rw [if_neg (show ¬ (stt b p ≠ 0) from fun hn => hn h)] at hp
  by_cases h1 : i < 0 ∨ (b.Breakers.length : Int) ≤ i
  · rw [if_pos h1] at hp; cases hp
  rw [if_neg h1] at hp
  by_cases h2 : SndB b p i.toNat
  case neg => rw [if_pos h2] at hp; cases hp
  rw [if_neg (fun hn => hn h2)] at hp
  by_cases h3 : ¬ InB b p i.toNat ∧ ¬ SynB b p i.toNat
  · rw [if_pos h3] at hp; cases hp
  refine ⟨h, i.toNat, by omega, by omega, h2, ?_⟩
  by_cases h4 : InB b p i.toNat
  · exact .inl h4
  · exact .inr (Classical.byContradiction fun h5 => h3 ⟨h4, h5⟩)
theorem snd_led {k : Nat} (h : SndB b p k) : (gt b.Breakers k).Kind ≠ 1 → (gt b.Breakers k).Kind ≠ 2 → (led b p 3 (gt b.Breakers k).B).2 = false := fun k1 k2 => by
  have := h.2.2.2
  rw [if_neg k1, if_neg k2] at this
  exact this.2
end
end Rx
end Go.Proofs.Ytkcjbcmpnoaghaa
