/- The reference's check of a board and of a state answer as the board's. Plain laws. -/
import Derived.Test.YtfnphdhcgkondaaGreatN1
set_option linter.unusedVariables false
set_option linter.unusedSimpArgs false
namespace Go.Proofs.YtfnphdhcgkondaaGreat
open Go Go.RowKit Dp
namespace Rx
open Classical

theorem refsrc_eq {b : Board} (hl : Lim b) : dynposref15_sources b = some (decide (∀ k, k < b.Sources.length → SrcOk (gt b.Sources k))) := by
  have hsr := hl.src
  have h : loopO (dynposref15_sources_L1 b) 0 = some (if ∃ k, k < b.Sources.length ∧ ¬ SrcOk (gt b.Sources k) then .inr false else .inl ()) := by
    refine Eq.trans (loop_any (r := .inr false) (e := .inl ()) (step := dynposref15_sources_L1 b) (fun k => (k : Int)) b.Sources.length (fun k => ¬ SrcOk (gt b.Sources k)) (fun k hk hp => ?_) (fun k hk hp => ?_) (by simp only [dynposref15_sources_L1, nlt_len, Bool.false_eq_true, if_false])) (by congr)
    · obtain ⟨h1, h2, h3⟩ := Classical.not_not.1 hp
      simp only [dynposref15_sources_L1, lt_len hk, if_true, idx_gt hk, Option.bind_some, within_eq, dT h1, dT h2, dT h3, Bool.not_true, Bool.false_eq_true, if_false, W_succ (show k < 1000000000000000000 by omega)]
    · simp only [dynposref15_sources_L1, lt_len hk, if_true, idx_gt hk, Option.bind_some, within_eq]
      by_cases h1 : 1 ≤ (gt b.Sources k).Rating ∧ (gt b.Sources k).Rating ≤ 50000
      case neg => simp [h1]
      by_cases h2 : 0 ≤ (gt b.Sources k).Least ∧ (gt b.Sources k).Least ≤ (gt b.Sources k).Rating
      case neg => simp [h1, h2]
      have h3 : ¬ (0 ≤ (gt b.Sources k).Start ∧ (gt b.Sources k).Start ≤ 600) := fun h => hp ⟨h1, h2, h⟩
      simp [h1, h2, h3]
  unfold dynposref15_sources
  rw [h, Option.bind_some]
  by_cases g : ∃ k, k < b.Sources.length ∧ ¬ SrcOk (gt b.Sources k)
  · rw [if_pos g, dF (c := ∀ k, k < b.Sources.length → SrcOk (gt b.Sources k)) (fun h => by obtain ⟨k, hk, hn⟩ := g; exact hn (h k hk))]; rfl
  · rw [if_neg g, dT (c := ∀ k, k < b.Sources.length → SrcOk (gt b.Sources k)) (fun k hk => Classical.byContradiction fun h => g ⟨k, hk, h⟩)]; rfl
theorem refcon_eq {b : Board} (hl : Lim b) (hs : SmB b) : dynposref15_consumers b = some (decide (∀ k, k < b.Consumers.length → CsOk (gt b.Consumers k) k)) := by
  have hco := hl.con
  have hin : ∀ k, k < b.Consumers.length → loopO (dynposref15_consumers_L2 (k : Int) (gt b.Consumers k)) 0 = some (if ∃ i, i < (gt b.Consumers k).Needs.length ∧ ¬ ((0 ≤ gt (gt b.Consumers k).Needs i ∧ gt (gt b.Consumers k).Needs i ≤ (k : Int) - 1) ∧ (0 < i → gt (gt b.Consumers k).Needs (i - 1) < gt (gt b.Consumers k).Needs i)) then .inr (.inr (.inr false)) else .inl ()) := by
    intro k hk
    generalize hx : gt b.Consumers k = x
    have hl : Sm x.Needs := hx ▸ hs.2.2.2 _ (gt_mem hk)
    have e0 : W ((k : Int) - 1) = (k : Int) - 1 := W_sm (by omega) (by omega)
    refine Eq.trans (loop_any (step := dynposref15_consumers_L2 (k : Int) x) (fun i => (i : Int)) x.Needs.length (fun i => ¬ ((0 ≤ gt x.Needs i ∧ gt x.Needs i ≤ (k : Int) - 1) ∧ (0 < i → gt x.Needs (i - 1) < gt x.Needs i))) (r := .inr (.inr (.inr false))) (e := .inl ()) (fun i hi hp => ?_) (fun i hi hp => ?_) (by simp only [dynposref15_consumers_L2, nlt_len, Bool.false_eq_true, if_false])) (by congr)
    · obtain ⟨h1, h2⟩ := Classical.not_not.1 hp
      simp only [dynposref15_consumers_L2, lt_len hi, if_true, idx_gt hi, Option.bind_some, within_eq, e0, dT h1, Bool.not_true, Bool.false_eq_true, if_false]
      by_cases hi0 : 0 < i
      · have h3 := h2 hi0
        rw [dT (c := (i : Int) > 0) (by omega)]
        simp only [if_true, W_pred (sm_lt hl hi) hi0, idx_gt (show i - 1 < x.Needs.length by omega), Option.bind_some, dF (c := gt x.Needs (i - 1) ≥ gt x.Needs i) (by omega), Bool.false_eq_true, if_false, W_succ (sm_lt hl hi)]
      · rw [dF (c := (i : Int) > 0) (by omega)]
        simp only [Bool.false_eq_true, if_false, Option.bind_some, W_succ (sm_lt hl hi)]
    · simp only [dynposref15_consumers_L2, lt_len hi, if_true, idx_gt hi, Option.bind_some, within_eq, e0]
      by_cases h1 : 0 ≤ gt x.Needs i ∧ gt x.Needs i ≤ (k : Int) - 1
      · have h2 : 0 < i ∧ gt x.Needs i ≤ gt x.Needs (i - 1) := by
          by_cases hi0 : 0 < i
          · refine ⟨hi0, Int.not_lt.1 fun h => hp ⟨h1, fun _ => h⟩⟩
          · exact (hp ⟨h1, fun h => (hi0 h).elim⟩).elim
        rw [dT h1, dT (c := (i : Int) > 0) (by omega)]
        simp only [Bool.not_true, Bool.false_eq_true, if_false, if_true, W_pred (sm_lt hl hi) h2.1, idx_gt (show i - 1 < x.Needs.length by omega), Option.bind_some, dT (c := gt x.Needs (i - 1) ≥ gt x.Needs i) (by omega)]
      · rw [dF h1]
        simp only [Bool.not_false, if_true, Option.bind_some]
  have hst : ∀ x : Consumer, (Option.bind (some (decide (0 ≤ x.Load ∧ x.Load ≤ 50000))) fun x3 => if (!x3) = true then some true else Option.bind (some (decide (0 ≤ x.Least ∧ x.Least ≤ x.Load))) fun x4 => if (!x4) = true then some true else Option.bind (some (decide (0 ≤ x.Preference ∧ x.Preference ≤ 15))) fun x5 => if (!x5) = true then some true else Option.bind (some (decide (-1 ≤ x.Thruster ∧ x.Thruster ≤ 7))) fun x6 => if (!x6) = true then some true else some (decide (len x.Needs > 4))) = some (decide (¬ ((0 ≤ x.Load ∧ x.Load ≤ 50000) ∧ (0 ≤ x.Least ∧ x.Least ≤ x.Load) ∧ (0 ≤ x.Preference ∧ x.Preference ≤ 15) ∧ (-1 ≤ x.Thruster ∧ x.Thruster ≤ 7) ∧ x.Needs.length ≤ 4))) := by
    intro x
    have e5 : decide (len x.Needs > 4) = decide (¬ x.Needs.length ≤ 4) := by rw [decide_eq_decide]; unfold len; omega
    rw [e5]
    simp only [Option.bind_some]
    by_cases h1 : 0 ≤ x.Load ∧ x.Load ≤ 50000
    case neg => rw [dF h1, dT (c := ¬ (_ ∧ _)) (fun h => h1 h.1)]; rfl
    by_cases h2 : 0 ≤ x.Least ∧ x.Least ≤ x.Load
    case neg => rw [dT h1, dF h2, dT (c := ¬ (_ ∧ _)) (fun h => h2 h.2.1)]; rfl
    by_cases h3 : 0 ≤ x.Preference ∧ x.Preference ≤ 15
    case neg => rw [dT h1, dT h2, dF h3, dT (c := ¬ (_ ∧ _)) (fun h => h3 h.2.2.1)]; rfl
    by_cases h4 : -1 ≤ x.Thruster ∧ x.Thruster ≤ 7
    case neg => rw [dT h1, dT h2, dT h3, dF h4, dT (c := ¬ (_ ∧ _)) (fun h => h4 h.2.2.2.1)]; rfl
    rw [dT h1, dT h2, dT h3, dT h4]
    by_cases h5 : x.Needs.length ≤ 4
    · rw [dF (c := ¬ x.Needs.length ≤ 4) (fun h => h h5), dF (c := ¬ (_ ∧ _)) (fun h => h ⟨h1, h2, h3, h4, h5⟩)]; rfl
    · rw [dT (c := ¬ x.Needs.length ≤ 4) h5, dT (c := ¬ (_ ∧ _)) (fun h => h5 h.2.2.2.2)]; rfl
  have hiff : ∀ k, NeedsOk (gt b.Consumers k).Needs k ↔ ¬ ∃ i, i < (gt b.Consumers k).Needs.length ∧ ¬ ((0 ≤ gt (gt b.Consumers k).Needs i ∧ gt (gt b.Consumers k).Needs i ≤ (k : Int) - 1) ∧ (0 < i → gt (gt b.Consumers k).Needs (i - 1) < gt (gt b.Consumers k).Needs i)) :=
    fun k => ⟨fun h ⟨i, hi, hn⟩ => hn (h i hi), fun h i hi => Classical.byContradiction fun hn => h ⟨i, hi, hn⟩⟩
  have h : loopO (dynposref15_consumers_L1 b) 0 = some (if ∃ k, k < b.Consumers.length ∧ ¬ CsOk (gt b.Consumers k) k then .inr false else .inl ()) := by
    refine Eq.trans (loop_any (r := .inr false) (e := .inl ()) (step := dynposref15_consumers_L1 b) (fun k => (k : Int)) b.Consumers.length (fun k => ¬ CsOk (gt b.Consumers k) k) (fun k hk hp => ?_) (fun k hk hp => ?_) (by simp only [dynposref15_consumers_L1, nlt_len, Bool.false_eq_true, if_false])) (by congr)
    · obtain ⟨h1, h2⟩ := Classical.not_not.1 hp
      simp only [dynposref15_consumers_L1, lt_len hk, if_true, idx_gt hk, Option.bind_some, within_eq]
      have := hst (gt b.Consumers k)
      simp only [Option.bind_some] at this
      rw [this, dF (c := ¬ (_ ∧ _)) (fun h => h h2)]
      simp only [Option.bind_some, Bool.false_eq_true, if_false]
      rw [hin k hk, if_neg ((hiff k).1 h1)]
      simp only [Option.bind_some, Sum.elim_inl, W_succ (show k < 1000000000000000000 by omega)]
    · simp only [dynposref15_consumers_L1, lt_len hk, if_true, idx_gt hk, Option.bind_some, within_eq]
      have := hst (gt b.Consumers k)
      simp only [Option.bind_some] at this
      rw [this]
      by_cases h2 : (0 ≤ (gt b.Consumers k).Load ∧ (gt b.Consumers k).Load ≤ 50000) ∧ (0 ≤ (gt b.Consumers k).Least ∧ (gt b.Consumers k).Least ≤ (gt b.Consumers k).Load) ∧ (0 ≤ (gt b.Consumers k).Preference ∧ (gt b.Consumers k).Preference ≤ 15) ∧ (-1 ≤ (gt b.Consumers k).Thruster ∧ (gt b.Consumers k).Thruster ≤ 7) ∧ (gt b.Consumers k).Needs.length ≤ 4
      · rw [dF (c := ¬ (_ ∧ _)) (fun h => h h2)]
        simp only [Option.bind_some, Bool.false_eq_true, if_false]
        rw [hin k hk, if_pos (Classical.byContradiction fun hn => hp ⟨(hiff k).2 hn, h2⟩)]
        rfl
      · rw [dT (c := ¬ (_ ∧ _)) h2]
        rfl
  unfold dynposref15_consumers
  rw [h, Option.bind_some]
  by_cases g : ∃ k, k < b.Consumers.length ∧ ¬ CsOk (gt b.Consumers k) k
  · rw [if_pos g, dF (c := ∀ k, k < b.Consumers.length → CsOk (gt b.Consumers k) k) (fun h => by obtain ⟨k, hk, hn⟩ := g; exact hn (h k hk))]; rfl
  · rw [if_neg g, dT (c := ∀ k, k < b.Consumers.length → CsOk (gt b.Consumers k) k) (fun k hk => Classical.byContradiction fun h => g ⟨k, hk, h⟩)]; rfl
theorem refcheck_eq {b : Board} (hs : SmB b) : dynposref15_Check b = some (chk b) := by
  unfold dynposref15_Check chk
  by_cases h1 : 1 ≤ b.Buses ∧ b.Buses ≤ 6
  case neg =>
    have hn : ¬ Lim b := fun h => h1 h.bus
    by_cases h1a : b.Buses < 1
    · simp [h1a, hn]
    · have h1b : b.Buses > 6 := by omega
      simp [h1a, h1b, hn]
  have a1 : decide (b.Buses < 1) = false := dF (by omega)
  have a2 : decide (b.Buses > 6) = false := dF (by omega)
  by_cases h2 : b.Breakers.length ≤ 24
  case neg =>
    have : ¬ Lim b := fun h => h2 h.brk
    have e : decide (len b.Breakers > 24) = true := dT (by unfold len; omega)
    simp [a1, a2, this, e]
  have a3 : decide (len b.Breakers > 24) = false := dF (by unfold len; omega)
  by_cases h3 : b.Sources.length ≤ 8
  case neg =>
    have : ¬ Lim b := fun h => h3 h.src
    have e : decide (len b.Sources > 8) = true := dT (by unfold len; omega)
    simp [a1, a2, a3, this, e]
  have a4 : decide (len b.Sources > 8) = false := dF (by unfold len; omega)
  by_cases h4 : b.Consumers.length ≤ 16
  case neg =>
    have : ¬ Lim b := fun h => h4 h.con
    have e : decide (len b.Consumers > 16) = true := dT (by unfold len; omega)
    simp [a1, a2, a3, a4, this, e]
  have a5 : decide (len b.Consumers > 16) = false := dF (by unfold len; omega)
  have hl : Lim b := ⟨h1, h2, h3, h4⟩
  simp only [a1, a2, a3, a4, a5, Bool.false_eq_true, if_false, Option.bind_some, refbrk_eq hl, refsrc_eq hl, refcon_eq hl hs, if_pos hl]
  by_cases g1 : BrkOk b
  case neg => rw [dF g1, if_neg (fun h : BGood b => g1 h.1)]; rfl
  by_cases g2 : ∀ k, k < b.Sources.length → SrcOk (gt b.Sources k)
  case neg => rw [dT g1, dF g2, if_neg (fun h : BGood b => g2 h.2.2.2.1)]; rfl
  by_cases g3 : ∀ k, k < b.Consumers.length → CsOk (gt b.Consumers k) k
  case neg => rw [dT g1, dT g2, dF g3, if_neg (fun h : BGood b => g3 h.2.2.2.2)]; rfl
  rw [dT g1, dT g2, dT g3]
  simp only [Bool.not_true, Bool.false_eq_true, if_false]
  by_cases g4 : b.Phase < 0
  · rw [dT g4, if_neg (fun h : BGood b => by have := h.2.1; omega)]; rfl
  by_cases g5 : b.Phase > 1800
  · rw [dF g4, dT g5, if_neg (fun h : BGood b => by have := h.2.1; omega)]; rfl
  by_cases g6 : b.Frequency < 0
  · rw [dF g4, dF g5, dT g6, if_neg (fun h : BGood b => by have := h.2.2.1; omega)]; rfl
  by_cases g7 : b.Frequency > 6000
  · rw [dF g4, dF g5, dF g6, dT g7, if_neg (fun h : BGood b => by have := h.2.2.1; omega)]; rfl
  rw [dF g4, dF g5, dF g6, dF g7, if_pos (show BGood b from ⟨g1, by omega, by omega, g2, g3⟩)]
  rfl
end Rx
end Go.Proofs.YtfnphdhcgkondaaGreat
