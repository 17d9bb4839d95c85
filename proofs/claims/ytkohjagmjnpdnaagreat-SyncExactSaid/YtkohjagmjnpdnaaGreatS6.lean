/- What may be closed, opened, matched: all answers. -/
import Derived.Test.YtkohjagmjnpdnaaGreatS5
set_option linter.unusedVariables false
set_option linter.unusedSimpArgs false
namespace Go.Proofs.YtkohjagmjnpdnaaGreat
open Go Go.RowKit Dp
namespace Rx
open Classical
section
variable {b : Board} {p : Power}
theorem dB_true : dB True = true := dB_T trivial
theorem dB_false : dB False = false := dB_F id
theorem dB_not (P : Prop) : (!dB P) = dB (¬ P) := by
  by_cases h : P
  · rw [dB_T h, dB_F (fun hn => hn h)]; rfl
  · rw [dB_F h, dB_T h]; rfl
/-- a leader is a generator -/
theorem lead_in (h : stt b p = 0) {k : Int} (hk : (lead b p k).2 = true) : ∃ j : Nat, (lead b p k).1 = (j : Int) ∧ j < p.Sources.length := by
  obtain ⟨⟨hl, hg⟩, ⟨s1, s2, s3⟩, g1, g2, g3⟩ := stt_zero.1 h
  unfold lead at hk ⊢
  by_cases h1 : (ofB b p k).1.Sources = []
  · rw [if_pos h1] at hk; cases hk
  · rw [if_neg h1]
    unfold ofB at h1 ⊢
    by_cases h2 : stt b p = 0 ∧ 0 ≤ k ∧ k < b.Buses
    · rw [if_pos h2] at h1 ⊢
      obtain ⟨j, e, hj, _⟩ := isl_src (isleOf_in (p := p) hg.1 h2.2.1 h2.2.2).1 (gt_mem (List.length_pos_iff.2 h1))
      exact ⟨j, e, by omega⟩
    · rw [if_neg h2] at h1; exact (h1 rfl).elim
/-- nothing forbids to close breaker i -/
def SndB (b : Board) (p : Power) (i : Nat) : Prop := gt p.Closed i = false ∧ ¬ (⟨2, (i : Int)⟩ : Part) ∈ p.Broken ∧ ¬ (⟨3, (gt b.Breakers i).A⟩ : Part) ∈ p.Broken ∧
  (if (gt b.Breakers i).Kind = 1 then ¬ (⟨3, (gt b.Breakers i).B⟩ : Part) ∈ p.Broken else if (gt b.Breakers i).Kind = 2 then ¬ (⟨1, (gt b.Breakers i).B⟩ : Part) ∈ p.Broken ∧ (gt p.Sources (gt b.Breakers i).B.toNat).State = 2
    else ¬ (⟨4, (gt b.Breakers i).B⟩ : Part) ∈ p.Broken ∧ (led b p 3 (gt b.Breakers i).B).2 = false)
theorem brk_B (hb : BrkOk b) {i : Nat} (hi : i < b.Breakers.length) : (0 ≤ (gt b.Breakers i).A ∧ (gt b.Breakers i).A ≤ b.Buses - 1) ∧ ((gt b.Breakers i).Kind = 1 → (gt b.Breakers i).A + 1 ≤ (gt b.Breakers i).B ∧ (gt b.Breakers i).B ≤ b.Buses - 1) ∧
    ((gt b.Breakers i).Kind = 2 → 0 ≤ (gt b.Breakers i).B ∧ (gt b.Breakers i).B ≤ (b.Sources.length : Int) - 1) ∧ ((gt b.Breakers i).Kind = 3 → 0 ≤ (gt b.Breakers i).B ∧ (gt b.Breakers i).B ≤ (b.Consumers.length : Int) - 1) ∧ ((gt b.Breakers i).Kind = 1 ∨ (gt b.Breakers i).Kind = 2 ∨ (gt b.Breakers i).Kind = 3) := by
  obtain ⟨h1, h2⟩ := hb.1 i hi
  refine ⟨h1, ?_⟩
  rcases h2 with h | h | h
  · exact ⟨fun _ => h.2, fun k => by have := h.1; omega, fun k => by have := h.1; omega, .inl h.1⟩
  · exact ⟨fun k => by have := h.1; omega, fun _ => h.2.1, fun k => by have := h.1; omega, .inr (.inl h.1)⟩
  · exact ⟨fun k => by have := h.1; omega, fun k => by have := h.1; omega, fun _ => h.2.1, .inr (.inr h.1)⟩
theorem sound_eq (hb : SmB b) (hp : SmP p) (h : stt b p = 0) {i : Nat} (hi : i < b.Breakers.length) : sync_sound b p (i : Int) = some (dB (SndB b p i)) := by
  obtain ⟨⟨hl, hg⟩, ⟨s1, s2, s3⟩, _⟩ := stt_zero.1 h
  obtain ⟨hA, _, hB2, hB3, _⟩ := brk_B hg.1 hi
  have hfed : ∀ j, fedB b p j = led b p 3 j := fun j => by unfold fedB; rw [if_pos h]
  unfold sync_sound SndB
  simp only [idx_gt hi, idx_gt (show i < p.Closed.length by omega), Option.bind_some, Option.bind_fun_some, brkB_eq hp, fedB_eq hb hp, hfed]
  cases hc : gt p.Closed i with
  | true =>
    simp only [if_true, Option.bind_some]
    rw [dB_F (fun h => by cases h.1)]
  | false =>
    simp only [Bool.false_eq_true, if_false, Option.bind_some]
    by_cases h2 : (⟨2, (i : Int)⟩ : Part) ∈ p.Broken
    · simp only [dT h2, if_true, Option.bind_some]
      rw [dB_F (fun h => h.2.1 h2)]
    simp only [dF h2, Bool.false_eq_true, if_false, Option.bind_some]
    by_cases h3 : (⟨3, (gt b.Breakers i).A⟩ : Part) ∈ p.Broken
    · simp only [dT h3, if_true, Option.bind_some]
      rw [dB_F (fun h => h.2.2.1 h3)]
    simp only [dF h3, Bool.false_eq_true, if_false, Option.bind_some]
    by_cases k1 : (gt b.Breakers i).Kind = 1
    · simp only [beqT k1, if_true, if_pos k1]
      congr 1
      refine dB_eq ?_
      simp [h2, h3]
    by_cases k2 : (gt b.Breakers i).Kind = 2
    · obtain ⟨b1, b2⟩ := hB2 k2
      simp only [beqF k1, beqT k2, if_true, Bool.false_eq_true, if_false, if_neg k1, if_pos k2, idx_gtZ b1 (show (gt b.Breakers i).B < (p.Sources.length : Int) by omega), Option.bind_some]
      by_cases h4 : (⟨1, (gt b.Breakers i).B⟩ : Part) ∈ p.Broken
      · simp only [dT h4, Bool.not_true, Bool.false_eq_true, if_false]
        rw [dB_F (fun h => h.2.2.2.1 h4)]
      · simp only [dF h4, Bool.not_false, if_true]
        congr 1
        refine dB_eq ?_
        simp [h2, h3, h4]
    · simp only [beqF k1, beqF k2, Bool.false_eq_true, if_false, if_neg k1, if_neg k2]
      by_cases h4 : (⟨4, (gt b.Breakers i).B⟩ : Part) ∈ p.Broken
      · simp only [dT h4, Bool.not_true, Bool.false_eq_true, if_false]
        rw [dB_F (fun h => h.2.2.2.1 h4)]
      · simp only [dF h4, Bool.not_false, if_true]
        congr 1
        refine dB_eq ?_
        simp [h2, h3, h4]
/-- what breaker i would connect agrees -/
def SynB (b : Board) (p : Power) (i : Nat) : Prop := (lead b p (gt b.Breakers i).A).2 = true →
  (if (gt b.Breakers i).Kind = 1 then (lead b p (gt b.Breakers i).B).2 = true → agr b (gt p.Sources (lead b p (gt b.Breakers i).A).1.toNat) (gt p.Sources (lead b p (gt b.Breakers i).B).1.toNat)
    else if (gt b.Breakers i).Kind = 2 then agr b (gt p.Sources (lead b p (gt b.Breakers i).A).1.toNat) (gt p.Sources (gt b.Breakers i).B.toNat) else True)
theorem dB_d' (P : Prop) [Decidable P] : decide P = dB P := by
  by_cases h : P
  · rw [dT h, dB_T h]
  · rw [dF h, dB_F h]
theorem syn_eq (hb : SmB b) (hp : SmP p) (h : stt b p = 0) {i : Nat} (hi : i < b.Breakers.length) : sync_synchronous b p (gt b.Breakers i) = some (dB (SynB b p i)) := by
  obtain ⟨⟨hl, hg⟩, ⟨s1, s2, s3⟩, g1, g2, g3⟩ := stt_zero.1 h
  obtain ⟨hA, _, hB2, hB3, _⟩ := brk_B hg.1 hi
  unfold sync_synchronous SynB
  simp only [lead_eq hb hp, Option.bind_some, Option.bind_fun_some]
  cases hv : (lead b p (gt b.Breakers i).A).2 with
  | false =>
    simp only [Bool.not_false, if_true]
    rw [dB_T (fun h => by cases h)]
  | true =>
    obtain ⟨j, e1, hj⟩ := lead_in h hv
    simp only [Bool.not_true, Bool.false_eq_true, if_false, e1, Int.toNat_natCast, idx_gt hj, Option.bind_some]
    by_cases k1 : (gt b.Breakers i).Kind = 1
    · simp only [beqT k1, if_true, if_pos k1]
      cases hv2 : (lead b p (gt b.Breakers i).B).2 with
      | false =>
        simp only [Bool.not_false, if_true]
        rw [dB_T (fun _ h => by cases h)]
      | true =>
        obtain ⟨j2, e2, hj2⟩ := lead_in h hv2
        simp only [Bool.not_true, Bool.false_eq_true, if_false, e2, Int.toNat_natCast, idx_gt hj2, Option.bind_some, agree_eq (SmR.of (g2 j hj)) (SmR.of (g2 j2 hj2))]
        congr 1
        refine dB_eq ?_
        simp
    by_cases k2 : (gt b.Breakers i).Kind = 2
    · obtain ⟨b1, b2⟩ := hB2 k2
      have hB : (gt b.Breakers i).B < (p.Sources.length : Int) := by omega
      simp only [beqF k1, beqT k2, if_true, Bool.false_eq_true, if_false, if_neg k1, if_pos k2, idx_gtZ b1 hB, Option.bind_some, agree_eq (SmR.of (g2 j hj)) (SmR.of (g2 _ (show (gt b.Breakers i).B.toNat < p.Sources.length by omega)))]
      congr 1
      refine dB_eq ?_
      simp
    · simp only [beqF k1, beqF k2, Bool.false_eq_true, if_false, if_neg k1, if_neg k2]
      rw [dB_T (fun _ => trivial)]
/-- breaker i is a tie within an island -/
def InB (b : Board) (p : Power) (i : Nat) : Prop := (gt b.Breakers i).Kind = 1 ∧ (gt b.Breakers i).B ∈ (ofB b p (gt b.Breakers i).A).1.Buses
noncomputable def mayV (b : Board) (p : Power) (i : Int) : Int := if stt b p ≠ 0 then stt b p else if i < 0 ∨ (b.Breakers.length : Int) ≤ i then 10 else if ¬ SndB b p i.toNat then 11 else if ¬ InB b p i.toNat ∧ ¬ SynB b p i.toNat then 12 else 0
theorem sm_buses (hl : Lim b) (k : Int) : Sm (ofB b p k).1.Buses := by
  unfold ofB
  split
  · have h4 : (isleOf b p k).Buses.length ≤ b.Buses.toNat := (isle_len (b := b) (p := p) (gt (grp b p) k.toNat).toNat).1
    have := hl.bus
    unfold Sm; simp only; omega
  · unfold Sm; simp
theorem range_ne {i n : Int} (h1 : ¬ i < 0) (h2 : ¬ n ≤ i) : ∃ k : Nat, i = (k : Int) ∧ (k : Int) < n := ⟨i.toNat, by omega, by omega⟩
theorem may_eq (hb : SmB b) (hp : SmP p) (i : Int) : sync_May b p i = some (mayV b p i) := by
  unfold sync_May mayV
  simp only [state_eq hb hp, Option.bind_some]
  by_cases h : stt b p = 0
  case neg => rw [if_pos (bneT h), if_pos h]
  rw [if_neg (show ¬ ((stt b p != 0) = true) by rw [h]; simp), if_neg (show ¬ (stt b p ≠ 0) from fun hn => hn h)]
  obtain ⟨⟨hl, hg⟩, ⟨s1, s2, s3⟩, g1, g2, g3⟩ := stt_zero.1 h
  by_cases h1 : i < 0
  · simp only [dT h1, if_true, Option.bind_some]
    rw [if_pos (.inl h1)]
  by_cases h2 : (b.Breakers.length : Int) ≤ i
  · simp only [dF h1, Bool.false_eq_true, if_false, dT (show i ≥ len b.Breakers from h2), if_true, Option.bind_some]
    rw [if_pos (.inr h2)]
  obtain ⟨k, rfl, hk⟩ := range_ne h1 h2
  have hk : k < b.Breakers.length := by omega
  rw [if_neg (show ¬ ((k : Int) < 0 ∨ (b.Breakers.length : Int) ≤ (k : Int)) by omega)]
  simp only [dF h1, Bool.false_eq_true, if_false, dF (show ¬ (k : Int) ≥ len b.Breakers from h2), Option.bind_some, sound_eq hb hp h hk, Int.toNat_natCast, idx_gt hk, of_eq hb hp, Option.bind_fun_some]
  by_cases hs : SndB b p k
  case neg => rw [dB_F hs, if_pos (show ¬ SndB b p k from hs)]; rfl
  rw [dB_T hs, if_neg (show ¬ ¬ SndB b p k from fun hn => hn hs)]
  simp only [Bool.not_true, Bool.false_eq_true, if_false]
  have hw : (if ((gt b.Breakers k).Kind == 1) = true then slices_Contains_int_int (ofT b p (gt b.Breakers k).A).1 (gt b.Breakers k).B else some false) = some (dB (InB b p k)) := by
    by_cases k1 : (gt b.Breakers k).Kind = 1
    · rw [if_pos (beqT k1)]
      show slices_Contains_int_int (ofB b p (gt b.Breakers k).A).1.Buses _ = _
      rw [contains_eq (sm_buses hl _)]
      congr 1
      refine dB_eq ?_
      simp only [decide_eq_true_eq]
      exact ⟨fun hm => ⟨k1, hm⟩, fun hm => hm.2⟩
    · rw [beqF k1, dB_F (fun hm => k1 hm.1)]; rfl
  rw [hw]
  simp only [Option.bind_some, syn_eq hb hp h hk, dB_not]
  by_cases hi : InB b p k
  · rw [dB_F (fun hn => hn hi), if_neg (show ¬ (¬ InB b p k ∧ ¬ SynB b p k) from fun hn => hn.1 hi)]; rfl
  · rw [dB_T hi]
    by_cases hy : SynB b p k
    · rw [dB_F (fun hn => hn hy), if_neg (show ¬ (¬ InB b p k ∧ ¬ SynB b p k) from fun hn => hn.2 hy)]; rfl
    · rw [dB_T hy, if_pos (show ¬ InB b p k ∧ ¬ SynB b p k from ⟨hi, hy⟩)]; rfl
theorem may_zero {i : Int} (hp : mayV b p i = 0) : stt b p = 0 ∧ ∃ k : Nat, i = (k : Int) ∧ k < b.Breakers.length ∧ SndB b p k ∧ (InB b p k ∨ SynB b p k) := by
  unfold mayV at hp
  by_cases h : stt b p = 0
  case neg => rw [if_pos h] at hp; exact (h hp).elim
  rw [if_neg (show ¬ (stt b p ≠ 0) from fun hn => hn h)] at hp
  by_cases h1 : i < 0 ∨ (b.Breakers.length : Int) ≤ i
  · rw [if_pos h1] at hp; cases hp
  rw [if_neg h1] at hp
  by_cases h2 : SndB b p i.toNat
  case neg => rw [if_pos h2] at hp; cases hp
  rw [if_neg (fun hn => hn h2)] at hp
  by_cases h3 : ¬ InB b p i.toNat ∧ ¬ SynB b p i.toNat
  · rw [if_pos h3] at hp; cases hp
  refine ⟨h, i.toNat, by omega, by omega, h2, ?_⟩
  by_cases h4 : InB b p i.toNat
  · exact .inl h4
  · exact .inr (Classical.byContradiction fun h5 => h3 ⟨h4, h5⟩)
theorem snd_led {k : Nat} (h : SndB b p k) : (gt b.Breakers k).Kind ≠ 1 → (gt b.Breakers k).Kind ≠ 2 → (led b p 3 (gt b.Breakers k).B).2 = false := fun k1 k2 => by
  have := h.2.2.2
  rw [if_neg k1, if_neg k2] at this
  exact this.2
/-- closing, all answers -/
theorem closeA_eq (hb : SmB b) (hp : SmP p) (i : Int) : sync_Close b p i = some (if mayV b p i ≠ 0 then (mayV b p i, [], [], [], []) else (0, p.Closed.set i.toNat true, folL b (clP p i.toNat), p.Limits, p.Broken)) := by
  by_cases h : mayV b p i = 0
  · obtain ⟨h0, k, rfl, hk, hs, _⟩ := may_zero h
    rw [if_neg (show ¬ (mayV b p (k : Int) ≠ 0) from fun hn => hn h)]
    have := may_eq hb hp (k : Int)
    rw [h] at this
    exact close_eq hb hp h0 hk this (stt_close h0 hk hs.1 (snd_led hs))
  · rw [if_pos h]
    exact close_bad (may_eq hb hp i) h
/-- opening, all answers -/
theorem openA_eq (hb : SmB b) (hp : SmP p) (i : Int) : sync_Open b p i = some (if stt b p ≠ 0 then (stt b p, [], [], [], []) else if i < 0 ∨ (b.Breakers.length : Int) ≤ i then (10, [], [], [], []) else if gt p.Closed i.toNat = false ∨ (⟨2, i⟩ : Part) ∈ p.Broken then (11, [], [], [], []) else (0, p.Closed.set i.toNat false, p.Sources, p.Limits, p.Broken)) := by
  by_cases h : stt b p = 0
  case neg =>
    unfold sync_Open
    simp only [state_eq hb hp, Option.bind_some]
    rw [if_pos (bneT h), if_pos h]
  rw [if_neg (show ¬ (stt b p ≠ 0) from fun hn => hn h)]
  obtain ⟨_, ⟨s1, s2, s3⟩, _⟩ := stt_zero.1 h
  have e : (stt b p != 0) = false := by rw [h]; rfl
  by_cases h1 : i < 0
  · rw [if_pos (.inl h1)]
    unfold sync_Open
    simp only [state_eq hb hp, Option.bind_some, e, Bool.false_eq_true, if_false, dT h1, if_true]
  by_cases h2 : (b.Breakers.length : Int) ≤ i
  · rw [if_pos (.inr h2)]
    unfold sync_Open
    simp only [state_eq hb hp, Option.bind_some, e, Bool.false_eq_true, if_false, dF h1, dT (show i ≥ len b.Breakers from h2), if_true]
  obtain ⟨k, rfl, hk⟩ := range_ne h1 h2
  have hk : k < b.Breakers.length := by omega
  have hic : k < p.Closed.length := by omega
  rw [if_neg (show ¬ ((k : Int) < 0 ∨ (b.Breakers.length : Int) ≤ (k : Int)) by omega), Int.toNat_natCast]
  by_cases h3 : gt p.Closed k = false ∨ (⟨2, (k : Int)⟩ : Part) ∈ p.Broken
  · rw [if_pos h3]
    unfold sync_Open
    simp only [state_eq hb hp, Option.bind_some, e, Bool.false_eq_true, if_false, dF h1, dF (show ¬ (k : Int) ≥ len b.Breakers from h2), idx_gt hic, brkB_eq hp, Option.bind_fun_some]
    cases hc : gt p.Closed k with
    | false => rfl
    | true =>
      rw [dT (show (⟨2, (k : Int)⟩ : Part) ∈ p.Broken from h3.resolve_left (by rw [hc]; simp))]
      rfl
  · rw [if_neg h3]
    exact open_eq hb hp h hk (by
      cases hc : gt p.Closed k with
      | true => rfl
      | false => exact (h3 (.inl hc)).elim) (fun hm => h3 (.inr hm))
end
end Rx
end Go.Proofs.YtkohjagmjnpdnaaGreat
