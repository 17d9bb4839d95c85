/- The reference's check of a board answers as the board's. Plain laws. -/
import Derived.Test.YtfnphdhcgkondaaGreatM6
set_option linter.unusedVariables false
set_option linter.unusedSimpArgs false
namespace Go.Proofs.YtfnphdhcgkondaaGreat
open Go Go.RowKit Dp
namespace Rx
open Classical

theorem refof_eq {b : Board} (hs : Sm b.Breakers) (kind j : Int) : dynposref15_of b kind j = some (rangeF (findP b kind j) b.Breakers.length) := by
  have h1 := loop_run (step := dynposref15_of_L1 b kind j) (fun k => ((k : Int), rangeF (findP b kind j) k)) b.Breakers.length (r := rangeF (findP b kind j) b.Breakers.length)
    (fun k hk => by
      have hrl := rangeF_len (findP b kind j) k
      have hkk := sm_lt hs hk
      have hap : app (rangeF (findP b kind j) k) [(k : Int)] = some (rangeF (findP b kind j) k ++ [(k : Int)]) := app_sm (by unfold Sm at hs; simp; omega)
      simp only [dynposref15_of_L1, lt_len hk, if_true, idx_gt hk, Option.bind_some, W_succ hkk, rangeF_succ, hap]
      unfold findP
      cases e1 : (gt b.Breakers k).Kind == kind <;> cases e2 : (gt b.Breakers k).B == j <;> cases e3 : kind == 1 <;> cases e4 : (gt b.Breakers k).A == j <;> simp)
    (by simp only [dynposref15_of_L1, nlt_len, Bool.false_eq_true, if_false])
  have h1' : loopO (dynposref15_of_L1 b kind j) (0, []) = _ := h1
  unfold dynposref15_of
  rw [h1']
  rfl
theorem rangeF_len_succ (P : Nat → Bool) (k : Nat) : (rangeF P (k + 1)).length = (rangeF P k).length + if P k = true then 1 else 0 := by
  rw [rangeF_succ, List.length_append]
  split <;> rfl
theorem rangeF_len0 {P : Nat → Bool} {n : Nat} : (rangeF P n).length = 0 ↔ ∀ k, k < n → P k = false := by
  induction n with
  | zero => simp [rangeF]
  | succ n ih =>
    rw [rangeF_len_succ]
    constructor
    · intro h k hk
      by_cases hp : P n = true
      · rw [if_pos hp] at h; omega
      · by_cases hkn : k = n
        · subst hkn; simpa using hp
        · exact ih.1 (by omega) k (by omega)
    · intro h
      rw [ih.2 fun k hk => h k (by omega), h n (by omega)]
      rfl
theorem rangeF_len1 {P : Nat → Bool} {n : Nat} : (rangeF P n).length = 1 ↔ (∃ k, k < n ∧ P k = true) ∧ ∀ i j, i < j → j < n → P i = true → P j = true → False := by
  induction n with
  | zero => simp [rangeF]
  | succ n ih =>
    rw [rangeF_len_succ]
    constructor
    · intro h
      by_cases hp : P n = true
      · rw [if_pos hp] at h
        have h0 := rangeF_len0.1 (show (rangeF P n).length = 0 by omega)
        refine ⟨⟨n, by omega, hp⟩, fun i j hij hj hi _ => ?_⟩
        rw [h0 i (by omega)] at hi
        cases hi
      · rw [if_neg hp] at h
        obtain ⟨⟨k, hk, hpk⟩, hu⟩ := ih.1 (by omega)
        refine ⟨⟨k, by omega, hpk⟩, fun i j hij hj hi hpj => ?_⟩
        by_cases hjn : j = n
        · subst hjn; exact hp hpj
        · exact hu i j hij (by omega) hi hpj
    · rintro ⟨⟨k, hk, hpk⟩, hu⟩
      by_cases hp : P n = true
      · rw [if_pos hp, rangeF_len0.2 fun i hi => by
          cases hpi : P i with
          | false => rfl
          | true => exact (hu i n hi (by omega) hpi hp).elim]
      · rw [if_neg hp]
        have hkn : k ≠ n := fun e => hp (e ▸ hpk)
        exact ih.2 ⟨⟨k, by omega, hpk⟩, fun i j hij hj => hu i j hij (by omega)⟩
theorem findP2 {b : Board} {j k : Nat} : findP b 2 (j : Int) k = true ↔ isS (gt b.Breakers k) j := by
  unfold findP isS
  by_cases h1 : (gt b.Breakers k).Kind = 2 <;> by_cases h2 : (gt b.Breakers k).B = (j : Int) <;> simp [h1, h2]
theorem findP3 {b : Board} {j k : Nat} : findP b 3 (j : Int) k = true ↔ isC (gt b.Breakers k) j := by
  unfold findP isC
  by_cases h1 : (gt b.Breakers k).Kind = 3 <;> by_cases h2 : (gt b.Breakers k).B = (j : Int) <;> simp [h1, h2]

/-- one breaker, by the reference -/
def RefAt (b : Board) (k : Nat) : Prop :=
  (0 ≤ (gt b.Breakers k).A ∧ (gt b.Breakers k).A ≤ b.Buses - 1) ∧
  (((gt b.Breakers k).Kind = 1 ∧ (gt b.Breakers k).A + 1 ≤ (gt b.Breakers k).B ∧ (gt b.Breakers k).B ≤ b.Buses - 1) ∨
   ((gt b.Breakers k).Kind = 2 ∧ (0 ≤ (gt b.Breakers k).B ∧ (gt b.Breakers k).B ≤ (b.Sources.length : Int) - 1)) ∨
   ((gt b.Breakers k).Kind = 3 ∧ (0 ≤ (gt b.Breakers k).B ∧ (gt b.Breakers k).B ≤ (b.Consumers.length : Int) - 1) ∧ ∀ i, i < k → ¬ ((gt b.Breakers i).Kind = (gt b.Breakers k).Kind ∧ (gt b.Breakers i).A = (gt b.Breakers k).A ∧ (gt b.Breakers i).B = (gt b.Breakers k).B)))
theorem refBrk_iff {b : Board} : BrkOk b ↔ (∀ k, k < b.Breakers.length → RefAt b k) ∧ (∀ j, j < b.Sources.length → (rangeF (findP b 2 (j : Int)) b.Breakers.length).length = 1) ∧ ∀ j, j < b.Consumers.length → (rangeF (findP b 3 (j : Int)) b.Breakers.length).length ≠ 0 := by
  constructor
  · rintro ⟨h1, h2, h3⟩
    refine ⟨fun k hk => ?_, fun j hj => rangeF_len1.2 ⟨?_, fun i k hik hk hi hp => ?_⟩, fun j hj h0 => ?_⟩
    · obtain ⟨hA, hB⟩ := h1 k hk
      refine ⟨hA, ?_⟩
      rcases hB with h | ⟨h4, h5, _⟩ | ⟨h4, h5, h6⟩
      · exact .inl h
      · exact .inr (.inl ⟨h4, h5⟩)
      · exact .inr (.inr ⟨h4, h5, fun i hi hh => h6 i hi ⟨by rw [hh.1]; exact h4, hh.2.2, hh.2.1⟩⟩)
    · obtain ⟨k, hk, hs⟩ := h2 j hj
      exact ⟨k, hk, findP2.2 hs⟩
    · have hi' := findP2.1 hi
      have hp' := findP2.1 hp
      rcases (h1 k hk).2 with h | ⟨h4, h5, h6⟩ | ⟨h4, _⟩
      · have := h.1; have := hp'.1; omega
      · exact h6 i hik ⟨hi'.1, by rw [hi'.2, hp'.2]⟩
      · have := hp'.1; omega
    · obtain ⟨k, hk, hs⟩ := h3 j hj
      have := rangeF_len0.1 h0 k hk
      rw [findP3.2 hs] at this
      cases this
  · rintro ⟨h1, h2, h3⟩
    refine ⟨fun k hk => ?_, fun j hj => ?_, fun j hj => ?_⟩
    · obtain ⟨hA, hB⟩ := h1 k hk
      refine ⟨hA, ?_⟩
      rcases hB with h | ⟨h4, h5⟩ | ⟨h4, h5, h6⟩
      · exact .inl h
      · refine .inr (.inl ⟨h4, h5, fun i hi hh => ?_⟩)
        have hj : (gt b.Breakers k).B = ((gt b.Breakers k).B.toNat : Int) := by omega
        obtain ⟨_, hu⟩ := rangeF_len1.1 (h2 (gt b.Breakers k).B.toNat (by omega))
        exact hu i k hi hk (findP2.2 ⟨hh.1, by rw [hh.2]; exact hj⟩) (findP2.2 ⟨h4, hj⟩)
      · exact .inr (.inr ⟨h4, h5, fun i hi hh => h6 i hi ⟨by rw [hh.1, h4], hh.2.2, hh.2.1⟩⟩)
    · obtain ⟨⟨k, hk, hp⟩, _⟩ := rangeF_len1.1 (h2 j hj)
      exact ⟨k, hk, findP2.1 hp⟩
    · apply Classical.byContradiction
      intro hn
      refine h3 j hj (rangeF_len0.2 fun k hk => ?_)
      cases hp : findP b 3 (j : Int) k with
      | false => rfl
      | true => exact (hn ⟨k, hk, findP3.1 hp⟩).elim
theorem refbrk_eq {b : Board} (hl : Lim b) : dynposref15_breakers b = some (decide (BrkOk b)) := by
  have hb := hl.bus
  have hbr := hl.brk
  have hsr := hl.src
  have hco := hl.con
  have hsm : Sm b.Breakers := by unfold Sm; omega
  have eB : W (b.Buses - 1) = b.Buses - 1 := W_sm (by omega) (by omega)
  have eS : W (len b.Sources - 1) = (b.Sources.length : Int) - 1 := by unfold len; exact W_sm (by omega) (by omega)
  have eC : W (len b.Consumers - 1) = (b.Consumers.length : Int) - 1 := by unfold len; exact W_sm (by omega) (by omega)
  have hin : ∀ k, k < b.Breakers.length → loopO (dynposref15_breakers_L2 (gt b.Breakers k) (b.Breakers.take k)) 0 = some (if ∃ i, i < k ∧ ((gt b.Breakers i).Kind = (gt b.Breakers k).Kind ∧ (gt b.Breakers i).A = (gt b.Breakers k).A ∧ (gt b.Breakers i).B = (gt b.Breakers k).B) then .inr (.inr (.inr (.inr (.inr false)))) else .inl ()) := by
    intro k hk
    have hlen : (b.Breakers.take k).length = k := by simp; omega
    have hg : ∀ i, i < k → gt (b.Breakers.take k) i = gt b.Breakers i := fun i hi => by
      rw [gt_get (by omega), gt_get (by omega)]; simp
    refine Eq.trans (loop_any (step := dynposref15_breakers_L2 (gt b.Breakers k) (b.Breakers.take k)) (fun i => (i : Int)) k (fun i => (gt b.Breakers i).Kind = (gt b.Breakers k).Kind ∧ (gt b.Breakers i).A = (gt b.Breakers k).A ∧ (gt b.Breakers i).B = (gt b.Breakers k).B) (r := .inr (.inr (.inr (.inr (.inr false))))) (e := .inl ())
      (fun i hi hp => by
        have e : ((gt b.Breakers i).Kind == (gt b.Breakers k).Kind && ((gt b.Breakers i).A == (gt b.Breakers k).A && (gt b.Breakers i).B == (gt b.Breakers k).B)) = false := by
          by_cases h1 : (gt b.Breakers i).Kind = (gt b.Breakers k).Kind
          · by_cases h2 : (gt b.Breakers i).A = (gt b.Breakers k).A
            · rw [beqT h1, beqT h2, beqF (fun h3 => hp ⟨h1, h2, h3⟩)]; rfl
            · rw [beqT h1, beqF h2]; rfl
          · rw [beqF h1]; rfl
        simp only [dynposref15_breakers_L2, lt_len (show i < (b.Breakers.take k).length by omega), if_true, idx_gt (show i < (b.Breakers.take k).length by omega), hg i hi, Option.bind_some, e, Bool.false_eq_true, if_false, W_succ (show i < 1000000000000000000 by omega)])
      (fun i hi hp => by
        simp only [dynposref15_breakers_L2, lt_len (show i < (b.Breakers.take k).length by omega), if_true, idx_gt (show i < (b.Breakers.take k).length by omega), hg i hi, Option.bind_some, beqT hp.1, beqT hp.2.1, beqT hp.2.2, Bool.and_self])
      (by
        have e1 : decide ((k : Int) < len (b.Breakers.take k)) = false := dF (by unfold len; omega)
        simp only [dynposref15_breakers_L2, e1, Bool.false_eq_true, if_false])) (by congr)
  have l1 : loopO (dynposref15_breakers_L1 b) 0 = some (if ∃ k, k < b.Breakers.length ∧ ¬ RefAt b k then .inr false else .inl ()) := by
    refine Eq.trans (loop_any (r := .inr false) (e := .inl ()) (step := dynposref15_breakers_L1 b) (fun k => (k : Int)) b.Breakers.length (fun k => ¬ RefAt b k) (fun k hk hp => ?_) (fun k hk hp => ?_) (by simp only [dynposref15_breakers_L1, nlt_len, Bool.false_eq_true, if_false])) (by congr)
    · obtain ⟨hA, hB⟩ := Classical.not_not.1 hp
      have eA1 : W ((gt b.Breakers k).A + 1) = (gt b.Breakers k).A + 1 := W_sm (by omega) (by omega)
      simp only [dynposref15_breakers_L1, lt_len hk, if_true, idx_gt hk, Option.bind_some, within_eq, eB, eS, eC, eA1, dT hA, Bool.not_true, Bool.false_eq_true, if_false]
      rcases hB with ⟨h1, h2⟩ | ⟨h1, h2⟩ | ⟨h1, h2, h3⟩
      · simp only [beqT h1, if_true, dT h2, Bool.not_true, Bool.false_eq_true, if_false, Option.bind_some, Sum.elim_inl, W_succ (show k < 1000000000000000000 by omega)]
      · simp only [beqF (show (gt b.Breakers k).Kind ≠ 1 by omega), beqT h1, if_true, dT h2, Bool.not_true, Bool.false_eq_true, if_false, Option.bind_some, Sum.elim_inl, W_succ (show k < 1000000000000000000 by omega)]
      · have hno : ¬ ∃ i, i < k ∧ ((gt b.Breakers i).Kind = (gt b.Breakers k).Kind ∧ (gt b.Breakers i).A = (gt b.Breakers k).A ∧ (gt b.Breakers i).B = (gt b.Breakers k).B) := fun ⟨i, hi, hh⟩ => h3 i hi hh
        simp only [beqF (show (gt b.Breakers k).Kind ≠ 1 by omega), beqF (show (gt b.Breakers k).Kind ≠ 2 by omega), beqT h1, if_true, dT h2, Bool.not_true, Bool.false_eq_true, if_false, slc_take (show k ≤ b.Breakers.length by omega), Option.bind_some, hin k hk, if_neg hno, Sum.elim_inl, W_succ (show k < 1000000000000000000 by omega)]
    · by_cases hA : 0 ≤ (gt b.Breakers k).A ∧ (gt b.Breakers k).A ≤ b.Buses - 1
      case neg => simp only [dynposref15_breakers_L1, lt_len hk, if_true, idx_gt hk, Option.bind_some, within_eq, eB, dF hA, Bool.not_false]
      have eA1 : W ((gt b.Breakers k).A + 1) = (gt b.Breakers k).A + 1 := W_sm (by omega) (by omega)
      simp only [dynposref15_breakers_L1, lt_len hk, if_true, idx_gt hk, Option.bind_some, within_eq, eB, eS, eC, eA1, dT hA, Bool.not_true, Bool.false_eq_true, if_false]
      by_cases h1 : (gt b.Breakers k).Kind = 1
      · have h2 : ¬ ((gt b.Breakers k).A + 1 ≤ (gt b.Breakers k).B ∧ (gt b.Breakers k).B ≤ b.Buses - 1) := fun h => hp ⟨hA, .inl ⟨h1, h⟩⟩
        simp only [beqT h1, if_true, dF h2, Bool.not_false, Option.bind_some, Sum.elim_inr]
      by_cases h2 : (gt b.Breakers k).Kind = 2
      · have h3 : ¬ (0 ≤ (gt b.Breakers k).B ∧ (gt b.Breakers k).B ≤ (b.Sources.length : Int) - 1) := fun h => hp ⟨hA, .inr (.inl ⟨h2, h⟩)⟩
        simp only [beqF h1, beqT h2, if_true, dF h3, Bool.not_false, Bool.false_eq_true, if_false, Option.bind_some, Sum.elim_inr]
      by_cases h3 : (gt b.Breakers k).Kind = 3
      case neg => simp only [beqF h1, beqF h2, beqF h3, Bool.false_eq_true, if_false, Option.bind_some, Sum.elim_inr]
      by_cases h4 : 0 ≤ (gt b.Breakers k).B ∧ (gt b.Breakers k).B ≤ (b.Consumers.length : Int) - 1
      case neg => simp only [beqF h1, beqF h2, beqT h3, if_true, dF h4, Bool.not_false, Bool.false_eq_true, if_false, Option.bind_some, Sum.elim_inr]
      have hyes : ∃ i, i < k ∧ ((gt b.Breakers i).Kind = (gt b.Breakers k).Kind ∧ (gt b.Breakers i).A = (gt b.Breakers k).A ∧ (gt b.Breakers i).B = (gt b.Breakers k).B) := by
        apply Classical.byContradiction
        intro hn
        exact hp ⟨hA, .inr (.inr ⟨h3, h4, fun i hi hh => hn ⟨i, hi, hh⟩⟩)⟩
      simp only [beqF h1, beqF h2, beqT h3, if_true, dT h4, Bool.not_true, Bool.false_eq_true, if_false, slc_take (show k ≤ b.Breakers.length by omega), Option.bind_some, hin k hk, if_pos hyes, Sum.elim_inr]
  have l3 : loopO (dynposref15_breakers_L3 b) 0 = some (if ∃ j, j < b.Sources.length ∧ ¬ (rangeF (findP b 2 (j : Int)) b.Breakers.length).length = 1 then .inr false else .inl ()) := by
    refine Eq.trans (loop_any (r := .inr false) (e := .inl ()) (step := dynposref15_breakers_L3 b) (fun k => (k : Int)) b.Sources.length (fun j => ¬ (rangeF (findP b 2 (j : Int)) b.Breakers.length).length = 1) (fun j hj hp => ?_) (fun j hj hp => ?_) (by simp only [dynposref15_breakers_L3, nlt_len, Bool.false_eq_true, if_false])) (by congr)
    · have e : (len (rangeF (findP b 2 (j : Int)) b.Breakers.length) != 1) = false := by have := Classical.not_not.1 hp; simp [len, this]
      simp only [dynposref15_breakers_L3, lt_len hj, if_true, refof_eq hsm, Option.bind_some, e, Bool.false_eq_true, if_false, W_succ (show j < 1000000000000000000 by omega)]
    · have e : (len (rangeF (findP b 2 (j : Int)) b.Breakers.length) != 1) = true := by simp [len]; omega
      simp only [dynposref15_breakers_L3, lt_len hj, if_true, refof_eq hsm, Option.bind_some, e]
  have l4 : loopO (dynposref15_breakers_L4 b) 0 = some (if ∃ j, j < b.Consumers.length ∧ (rangeF (findP b 3 (j : Int)) b.Breakers.length).length = 0 then .inr false else .inl ()) := by
    refine Eq.trans (loop_any (r := .inr false) (e := .inl ()) (step := dynposref15_breakers_L4 b) (fun k => (k : Int)) b.Consumers.length (fun j => (rangeF (findP b 3 (j : Int)) b.Breakers.length).length = 0) (fun j hj hp => ?_) (fun j hj hp => ?_) (by simp only [dynposref15_breakers_L4, nlt_len, Bool.false_eq_true, if_false])) (by congr)
    · have e : decide (len (rangeF (findP b 3 (j : Int)) b.Breakers.length) < 1) = false := dF (by unfold len; omega)
      simp only [dynposref15_breakers_L4, lt_len hj, if_true, refof_eq hsm, Option.bind_some, e, Bool.false_eq_true, if_false, W_succ (show j < 1000000000000000000 by omega)]
    · have e : decide (len (rangeF (findP b 3 (j : Int)) b.Breakers.length) < 1) = true := dT (by unfold len; omega)
      simp only [dynposref15_breakers_L4, lt_len hj, if_true, refof_eq hsm, Option.bind_some, e]
  unfold dynposref15_breakers
  rw [l1, Option.bind_some]
  by_cases g1 : ∃ k, k < b.Breakers.length ∧ ¬ RefAt b k
  · rw [if_pos g1, dF (fun h : BrkOk b => by obtain ⟨k, hk, hn⟩ := g1; exact hn ((refBrk_iff.1 h).1 k hk))]
    rfl
  rw [if_neg g1, Sum.elim_inl, l3, Option.bind_some]
  by_cases g2 : ∃ j, j < b.Sources.length ∧ ¬ (rangeF (findP b 2 (j : Int)) b.Breakers.length).length = 1
  · rw [if_pos g2, dF (fun h : BrkOk b => by obtain ⟨k, hk, hn⟩ := g2; exact hn ((refBrk_iff.1 h).2.1 k hk))]
    rfl
  rw [if_neg g2, Sum.elim_inl, l4, Option.bind_some]
  by_cases g3 : ∃ j, j < b.Consumers.length ∧ (rangeF (findP b 3 (j : Int)) b.Breakers.length).length = 0
  · rw [if_pos g3, dF (fun h : BrkOk b => by obtain ⟨k, hk, hn⟩ := g3; exact (refBrk_iff.1 h).2.2 k hk hn)]
    rfl
  rw [if_neg g3, dT (refBrk_iff.2 ⟨fun k hk => Classical.byContradiction fun h => g1 ⟨k, hk, h⟩, fun k hk => Classical.byContradiction fun h => g2 ⟨k, hk, h⟩, fun k hk h => g3 ⟨k, hk, h⟩⟩)]
  rfl
end Rx
end Go.Proofs.YtfnphdhcgkondaaGreat
