/- The reference's check of a state answers as the board's. Plain laws. -/
import Derived.Test.YtfnphdhcgkondaaGreatN2
set_option linter.unusedVariables false
set_option linter.unusedSimpArgs false
namespace Go.Proofs.YtfnphdhcgkondaaGreat
open Go Go.RowKit Dp
namespace Rx
open Classical

theorem refbefore_eq (x y : Part) : dynposref15_Before x y = some (decide (before x y)) := by
  unfold dynposref15_Before before
  by_cases h1 : x.Kind < y.Kind
  · simp [h1]
  · by_cases h2 : x.Kind = y.Kind
    · by_cases h3 : x.Number < y.Number <;> simp [h1, h2, h3]
    · simp [h1, h2]
def cntL (p : Power) (l : List Int) : Nat := (l.filter fun k => gt p.Closed k.toNat).length
theorem cntL_app (p : Power) (l m : List Int) : cntL p (l ++ m) = cntL p l + cntL p m := by unfold cntL; rw [List.filter_append, List.length_append]
theorem cntL_le (p : Power) (l : List Int) : cntL p l ≤ l.length := List.length_filter_le _ _
theorem cntL_clo (b : Board) (p : Power) (j : Nat) (n : Nat) : cntL p (rangeF (findP b 3 (j : Int)) n) = clo b p (j : Int) n := by
  induction n with
  | zero => rfl
  | succ n ih =>
    rw [rangeF_succ, cntL_app, ih]
    show clo b p (j : Int) n + _ = clo b p (j : Int) n + _
    congr 1
    by_cases h : findP b 3 (j : Int) n = true
    · obtain ⟨h1, h2⟩ := findP3.1 h
      rw [if_pos h]
      cases h3 : gt p.Closed n <;> simp [cntL, h1, h2, h3]
    · rw [if_neg h, if_neg (fun hh => h (findP3.2 ⟨hh.1, hh.2.1⟩))]
      rfl
theorem refcnt_eq {b : Board} {p : Power} (hc : p.Closed.length = b.Breakers.length) (hs : Sm b.Breakers) (j : Nat) : loopO (dynposref15_State_L5 p (rangeF (findP b 3 (j : Int)) b.Breakers.length)) (0, 0) = some (clo b p (j : Int) b.Breakers.length : Int) := by
  generalize hl : rangeF (findP b 3 (j : Int)) b.Breakers.length = l
  have hll : l.length ≤ b.Breakers.length := hl ▸ rangeF_len _ _
  have hmem : ∀ k, k < l.length → ∃ i : Nat, gt l k = (i : Int) ∧ i < p.Closed.length := fun k hk => by
    have h1 : gt l k ∈ rangeF (findP b 3 (j : Int)) b.Breakers.length := by rw [hl]; exact gt_mem hk
    obtain ⟨i, hi, _, e⟩ := mem_rangeF.1 h1
    exact ⟨i, e, by omega⟩
  have hsm : Sm l := by unfold Sm at hs ⊢; omega
  have h := loop_run (step := dynposref15_State_L5 p l) (fun k => ((cntL p (l.take k) : Int), (k : Int))) l.length (r := (cntL p l : Int))
    (fun k hk => by
      obtain ⟨i, e, hi⟩ := hmem k hk
      have hle := cntL_le p (l.take k)
      have hle2 : (l.take k).length ≤ k := by simp; omega
      simp only [dynposref15_State_L5, lt_len hk, if_true, idx_gt hk, e, idx_gt hi, Option.bind_some, W_succ (sm_lt hsm hk), take_gt hk, cntL_app]
      cases h3 : gt p.Closed i with
      | true =>
        have : cntL p [(i : Int)] = 1 := by simp [cntL, h3]
        simp only [if_true, Option.bind_some, this]
        rw [W_succ (show cntL p (l.take k) < 1000000000000000000 by have := sm_lt hsm hk; omega)]
      | false =>
        have : cntL p [(i : Int)] = 0 := by simp [cntL, h3]
        simp only [Bool.false_eq_true, if_false, Option.bind_some, this, Nat.add_zero])
    (by simp only [dynposref15_State_L5, nlt_len, Bool.false_eq_true, if_false, List.take_length])
  have h' : loopO (dynposref15_State_L5 p l) (0, 0) = _ := h
  rw [h', ← hl, cntL_clo]
theorem refstate_eq {b : Board} {p : Power} (hb : SmB b) (hp : SmP p) : dynposref15_State b p = some (stt b p) := by
  unfold dynposref15_State stt
  rw [refcheck_eq hb]
  simp only [Option.bind_some]
  by_cases h0 : chk b = 0
  case neg => simp [h0]
  have hL := (chk_zero.1 h0).1
  have h3 := hL.con
  have e0 : (chk b != 0) = false := by simp [h0]
  simp only [e0, Bool.false_eq_true, if_false, if_pos h0]
  by_cases h1 : p.Closed.length = b.Breakers.length
  case neg =>
    have : ¬ Shape b p := fun h => h1 h.1
    have e : (len p.Closed != len b.Breakers) = true := by simp [len]; omega
    simp [e, this]
  by_cases h2 : p.Sources.length = b.Sources.length
  case neg =>
    have : ¬ Shape b p := fun h => h2 h.2.1
    have e1 : (len p.Closed != len b.Breakers) = false := by simp [len, h1]
    have e : (len p.Sources != len b.Sources) = true := by simp [len]; omega
    simp [e, e1, this]
  by_cases h4 : p.Limits.length = b.Consumers.length
  case neg =>
    have : ¬ Shape b p := fun h => h4 h.2.2
    have e1 : (len p.Closed != len b.Breakers) = false := by simp [len, h1]
    have e2 : (len p.Sources != len b.Sources) = false := by simp [len, h2]
    have e : (len p.Limits != len b.Consumers) = true := by simp [len]; omega
    simp [e, e1, e2, this]
  have hsh : Shape b p := ⟨h1, h2, h4⟩
  have e1 : (len p.Closed != len b.Breakers) = false := by simp [len, h1]
  have e2 : (len p.Sources != len b.Sources) = false := by simp [len, h2]
  have e3 : (len p.Limits != len b.Consumers) = false := by simp [len, h4]
  have l1 : loopO (dynposref15_State_L1 p) 0 = some (if ∃ k, k < p.Sources.length ∧ ¬ RunOk (gt p.Sources k) then .inr 11 else .inl ()) := by
    have hsm := hp.2.1
    refine Eq.trans (loop_any (r := .inr 11) (e := .inl ()) (step := dynposref15_State_L1 p) (fun k => (k : Int)) p.Sources.length (fun k => ¬ RunOk (gt p.Sources k)) (fun k hk hq => ?_) (fun k hk hq => ?_) (by simp only [dynposref15_State_L1, nlt_len, Bool.false_eq_true, if_false])) (by congr)
    · obtain ⟨q1, q2, q3, q4⟩ := Classical.not_not.1 hq
      simp only [dynposref15_State_L1, lt_len hk, if_true, idx_gt hk, Option.bind_some, within_eq, dT q1, dT q2, dT q3, dT q4, Bool.not_true, Bool.false_eq_true, if_false, W_succ (sm_lt hsm hk)]
    · simp only [dynposref15_State_L1, lt_len hk, if_true, idx_gt hk, Option.bind_some, within_eq]
      by_cases q1 : 0 ≤ (gt p.Sources k).State ∧ (gt p.Sources k).State ≤ 3
      case neg => simp [q1]
      by_cases q2 : 0 ≤ (gt p.Sources k).Since ∧ (gt p.Sources k).Since ≤ 2147483648
      case neg => simp [q1, q2]
      by_cases q3 : 0 ≤ (gt p.Sources k).Frequency ∧ (gt p.Sources k).Frequency ≤ 6000
      case neg => simp [q1, q2, q3]
      have q4 : ¬ (0 ≤ (gt p.Sources k).Phase ∧ (gt p.Sources k).Phase ≤ 3599) := fun h => hq ⟨q1, q2, q3, h⟩
      simp [q1, q2, q3, q4]
  have l2 : loopO (dynposref15_State_L2 b p) 0 = some (if ∃ k, k < p.Limits.length ∧ ¬ (0 ≤ gt p.Limits k ∧ gt p.Limits k ≤ (gt b.Consumers k).Load) then .inr 11 else .inl ()) := by
    have hsm := hp.2.2.1
    refine Eq.trans (loop_any (r := .inr 11) (e := .inl ()) (step := dynposref15_State_L2 b p) (fun k => (k : Int)) p.Limits.length (fun k => ¬ (0 ≤ gt p.Limits k ∧ gt p.Limits k ≤ (gt b.Consumers k).Load)) (fun k hk hq => ?_) (fun k hk hq => ?_) (by simp only [dynposref15_State_L2, nlt_len, Bool.false_eq_true, if_false])) (by congr)
    · simp only [dynposref15_State_L2, lt_len hk, if_true, idx_gt hk, idx_gt (show k < b.Consumers.length by omega), Option.bind_some, within_eq, dT (Classical.not_not.1 hq), Bool.not_true, Bool.false_eq_true, if_false, W_succ (sm_lt hsm hk)]
    · simp only [dynposref15_State_L2, lt_len hk, if_true, idx_gt hk, idx_gt (show k < b.Consumers.length by omega), Option.bind_some, within_eq, dF hq, Bool.not_false]
  have l3 : loopO (dynposref15_State_L3 b p) 0 = some (if ∃ k, k < p.Broken.length ∧ ¬ BrokenAt b p.Broken k then .inr 11 else .inl ()) := by
    have hsm := hp.2.2.2
    refine Eq.trans (loop_any (r := .inr 11) (e := .inl ()) (step := dynposref15_State_L3 b p) (fun k => (k : Int)) p.Broken.length (fun k => ¬ BrokenAt b p.Broken k) (fun k hk hq => ?_) (fun k hk hq => ?_) (by simp only [dynposref15_State_L3, nlt_len, Bool.false_eq_true, if_false])) (by congr)
    · obtain ⟨q1, q2⟩ := Classical.not_not.1 hq
      simp only [dynposref15_State_L3, lt_len hk, if_true, idx_gt hk, Option.bind_some, exists_eq hL, dT q1, Bool.not_true, Bool.false_eq_true, if_false]
      by_cases hk0 : 0 < k
      · rw [dT (c := (k : Int) > 0) (by omega)]
        simp only [if_true, W_pred (sm_lt hsm hk) hk0, idx_gt (show k - 1 < p.Broken.length by omega), Option.bind_some, refbefore_eq, dT (q2 hk0), Bool.not_true, Bool.false_eq_true, if_false, W_succ (sm_lt hsm hk)]
      · rw [dF (c := (k : Int) > 0) (by omega)]
        simp only [Bool.false_eq_true, if_false, Option.bind_some, W_succ (sm_lt hsm hk)]
    · simp only [dynposref15_State_L3, lt_len hk, if_true, idx_gt hk, Option.bind_some, exists_eq hL]
      by_cases q1 : 0 ≤ (gt p.Broken k).Number ∧ (gt p.Broken k).Number ≤ bsize b (gt p.Broken k).Kind - 1
      · have q2 : 0 < k ∧ ¬ before (gt p.Broken (k - 1)) (gt p.Broken k) := by
          by_cases hk0 : 0 < k
          · exact ⟨hk0, fun h => hq ⟨q1, fun _ => h⟩⟩
          · exact (hq ⟨q1, fun h => (hk0 h).elim⟩).elim
        rw [dT q1, dT (c := (k : Int) > 0) (by omega)]
        simp only [Bool.not_true, Bool.false_eq_true, if_false, if_true, W_pred (sm_lt hsm hk) q2.1, idx_gt (show k - 1 < p.Broken.length by omega), Option.bind_some, refbefore_eq, dF q2.2, Bool.not_false]
      · rw [dF q1]
        simp only [Bool.not_false, if_true, Option.bind_some]
  have l4 : loopO (dynposref15_State_L4 b p) 0 = some (if ∃ k, k < b.Consumers.length ∧ ¬ clo b p (k : Int) b.Breakers.length ≤ 1 then .inr 11 else .inl ()) := by
    refine Eq.trans (loop_any (r := .inr 11) (e := .inl ()) (step := dynposref15_State_L4 b p) (fun k => (k : Int)) b.Consumers.length (fun k => ¬ clo b p (k : Int) b.Breakers.length ≤ 1) (fun k hk hq => ?_) (fun k hk hq => ?_) (by simp only [dynposref15_State_L4, nlt_len, Bool.false_eq_true, if_false])) (by congr)
    · simp only [dynposref15_State_L4, lt_len hk, if_true, refof_eq hb.1, Option.bind_some, refcnt_eq h1 hb.1, dF (c := (clo b p (k : Int) b.Breakers.length : Int) > 1) (by omega), Bool.false_eq_true, if_false, W_succ (show k < 1000000000000000000 by omega)]
    · simp only [dynposref15_State_L4, lt_len hk, if_true, refof_eq hb.1, Option.bind_some, refcnt_eq h1 hb.1, dT (c := (clo b p (k : Int) b.Breakers.length : Int) > 1) (by omega)]
  simp only [e1, e2, e3, Bool.false_eq_true, if_false, Option.bind_some, if_pos hsh, l1, l2, l3, l4]
  by_cases g1 : ∃ k, k < p.Sources.length ∧ ¬ RunOk (gt p.Sources k)
  · rw [if_pos g1, if_neg (fun h : PGood b p => by obtain ⟨k, hk, hn⟩ := g1; exact hn (h.2.1 k hk))]; rfl
  rw [if_neg g1, Sum.elim_inl]
  by_cases g2 : ∃ k, k < p.Limits.length ∧ ¬ (0 ≤ gt p.Limits k ∧ gt p.Limits k ≤ (gt b.Consumers k).Load)
  · rw [if_pos g2, if_neg (fun h : PGood b p => by obtain ⟨k, hk, hn⟩ := g2; exact hn (h.2.2 k hk).1)]; rfl
  rw [if_neg g2, Sum.elim_inl]
  by_cases g3 : p.Broken.length ≤ 32
  case neg => rw [dT (c := len p.Broken > 32) (by unfold len; omega), if_neg (fun h : PGood b p => g3 h.1.2)]; rfl
  rw [dF (c := len p.Broken > 32) (by unfold len; omega)]
  simp only [Bool.false_eq_true, if_false]
  by_cases g4 : ∃ k, k < p.Broken.length ∧ ¬ BrokenAt b p.Broken k
  · rw [if_pos g4, if_neg (fun h : PGood b p => by obtain ⟨k, hk, hn⟩ := g4; exact hn (h.1.1 k hk))]; rfl
  rw [if_neg g4, Sum.elim_inl]
  by_cases g5 : ∃ k, k < b.Consumers.length ∧ ¬ clo b p (k : Int) b.Breakers.length ≤ 1
  · rw [if_pos g5, if_neg (fun h : PGood b p => by obtain ⟨k, hk, hn⟩ := g5; exact hn (h.2.2 k (by omega)).2)]; rfl
  rw [if_neg g5, Sum.elim_inl, if_pos (show PGood b p from ⟨⟨fun k hk => Classical.byContradiction fun h => g4 ⟨k, hk, h⟩, g3⟩, fun k hk => Classical.byContradiction fun h => g1 ⟨k, hk, h⟩, fun k hk => ⟨Classical.byContradiction fun h => g2 ⟨k, hk, h⟩, Classical.byContradiction fun h => g5 ⟨k, by omega, h⟩⟩⟩)]
end Rx
end Go.Proofs.YtfnphdhcgkondaaGreat
