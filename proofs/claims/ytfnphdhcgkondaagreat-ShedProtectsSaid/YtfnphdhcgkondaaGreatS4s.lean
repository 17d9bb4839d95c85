/- States compared; generators that agree with themselves. Plain laws. -/
import Derived.Test.YtfnphdhcgkondaaGreatS3s
set_option linter.unusedVariables false
set_option linter.unusedSimpArgs false
namespace Go.Proofs.YtfnphdhcgkondaaGreat
open Go Go.RowKit Dp
namespace Rx
open Classical

theorem bools_eq {a b : List Bool} (ha : Sm a) : dynposref01_Bools a b = some (decide (a = b)) := by
  unfold dynposref01_Bools
  by_cases hl : a.length = b.length
  · have e1 : (len a != len b) = false := by simp [len, hl]
    have h := loop_any (step := dynposref01_Bools_L1 a b) (fun k => (k : Int)) a.length (fun k => gt a k ≠ gt b k) (r := .inr false) (e := .inl ())
      (fun k hk hp => by
        have e2 : (!(gt a k == gt b k)) = false := by rw [Classical.not_not.1 hp]; simp
        simp only [dynposref01_Bools_L1, lt_len hk, if_true, idx_gt hk, idx_gt (show k < b.length by omega), Option.bind_some, e2, Bool.false_eq_true, if_false, W_succ (sm_lt ha hk)])
      (fun k hk hp => by
        have e2 : (!(gt a k == gt b k)) = true := by simpa using hp
        simp only [dynposref01_Bools_L1, lt_len hk, if_true, idx_gt hk, idx_gt (show k < b.length by omega), Option.bind_some, e2])
      (by simp only [dynposref01_Bools_L1, nlt_len, Bool.false_eq_true, if_false])
    have h' : loopO (dynposref01_Bools_L1 a b) 0 = _ := h
    simp only [e1, Bool.false_eq_true, if_false, h', Option.bind_some]
    by_cases he : a = b
    · subst he
      rw [if_neg (by simp)]
      simp
    · have : ∃ k, k < a.length ∧ gt a k ≠ gt b k := by
        apply Classical.byContradiction
        intro hn
        exact he (ext_gt hl fun k hk => Classical.byContradiction fun h => hn ⟨k, hk, h⟩)
      rw [if_pos this]
      simp [he]
  · have e1 : (len a != len b) = true := by simp [len]; omega
    have he : a ≠ b := fun e => hl (e ▸ rfl)
    simp [e1, he]
theorem runB (x y : Running) : (x.State == y.State && (x.Since == y.Since && (x.Frequency == y.Frequency && x.Phase == y.Phase))) = true ↔ x = y := by
  obtain ⟨a, b, c, d⟩ := x
  obtain ⟨a', b', c', d'⟩ := y
  simp
theorem partB (x y : Part) : (x.Kind == y.Kind && x.Number == y.Number) = true ↔ x = y := by
  obtain ⟨a, b⟩ := x
  obtain ⟨a', b'⟩ := y
  simp
theorem same_eq {p q : Power} (hp : SmP p) : dynposref15_Same p q = some (decide (p = q)) := by
  obtain ⟨h1, h2, h3, h4⟩ := hp
  unfold dynposref15_Same
  simp only [bools_eq h1, ints_eq h3, Option.bind_some]
  by_cases g1 : p.Closed = q.Closed
  case neg => rw [dF g1, dF (c := p = q) (fun h => g1 (h ▸ rfl))]; rfl
  by_cases g2 : p.Limits = q.Limits
  case neg => rw [dT g1, dF g2, dF (c := p = q) (fun h => g2 (h ▸ rfl))]; rfl
  rw [dT g1, dT g2]
  by_cases g3 : p.Sources.length = q.Sources.length
  case neg =>
    have e : (len p.Sources != len q.Sources) = true := by simp [len]; omega
    rw [e, dF (c := p = q) (fun h => g3 (h ▸ rfl))]; rfl
  have e3 : (len p.Sources != len q.Sources) = false := by simp [len, g3]
  by_cases g4 : p.Broken.length = q.Broken.length
  case neg =>
    have e : (len p.Broken != len q.Broken) = true := by simp [len]; omega
    rw [e3, e, dF (c := p = q) (fun h => g4 (h ▸ rfl))]; rfl
  have e4 : (len p.Broken != len q.Broken) = false := by simp [len, g4]
  have l1 : loopO (dynposref15_Same_L1 p q) 0 = some (if ∃ k, k < p.Sources.length ∧ gt p.Sources k ≠ gt q.Sources k then .inr false else .inl ()) := by
    refine Eq.trans (loop_any (r := .inr false) (e := .inl ()) (step := dynposref15_Same_L1 p q) (fun k => (k : Int)) p.Sources.length (fun k => gt p.Sources k ≠ gt q.Sources k) (fun k hk hn => ?_) (fun k hk hn => ?_) (by simp only [dynposref15_Same_L1, nlt_len, Bool.false_eq_true, if_false])) (by congr)
    · have := (runB (gt p.Sources k) (gt q.Sources k)).2 (Classical.not_not.1 hn)
      simp only [dynposref15_Same_L1, lt_len hk, if_true, idx_gt hk, idx_gt (show k < q.Sources.length by omega), Option.bind_some, this, Bool.not_true, Bool.false_eq_true, if_false, W_succ (sm_lt h2 hk)]
    · have : ((gt p.Sources k).State == (gt q.Sources k).State && ((gt p.Sources k).Since == (gt q.Sources k).Since && ((gt p.Sources k).Frequency == (gt q.Sources k).Frequency && (gt p.Sources k).Phase == (gt q.Sources k).Phase))) = false := by
        cases hb : ((gt p.Sources k).State == (gt q.Sources k).State && ((gt p.Sources k).Since == (gt q.Sources k).Since && ((gt p.Sources k).Frequency == (gt q.Sources k).Frequency && (gt p.Sources k).Phase == (gt q.Sources k).Phase))) with
        | false => rfl
        | true => exact (hn ((runB _ _).1 hb)).elim
      simp only [dynposref15_Same_L1, lt_len hk, if_true, idx_gt hk, idx_gt (show k < q.Sources.length by omega), Option.bind_some, this, Bool.not_false]
  have l2 : loopO (dynposref15_Same_L2 p q) 0 = some (if ∃ k, k < p.Broken.length ∧ gt p.Broken k ≠ gt q.Broken k then .inr false else .inl ()) := by
    refine Eq.trans (loop_any (r := .inr false) (e := .inl ()) (step := dynposref15_Same_L2 p q) (fun k => (k : Int)) p.Broken.length (fun k => gt p.Broken k ≠ gt q.Broken k) (fun k hk hn => ?_) (fun k hk hn => ?_) (by simp only [dynposref15_Same_L2, nlt_len, Bool.false_eq_true, if_false])) (by congr)
    · have := (partB (gt p.Broken k) (gt q.Broken k)).2 (Classical.not_not.1 hn)
      simp only [dynposref15_Same_L2, lt_len hk, if_true, idx_gt hk, idx_gt (show k < q.Broken.length by omega), Option.bind_some, this, Bool.not_true, Bool.false_eq_true, if_false, W_succ (sm_lt h4 hk)]
    · have : ((gt p.Broken k).Kind == (gt q.Broken k).Kind && (gt p.Broken k).Number == (gt q.Broken k).Number) = false := by
        cases hb : ((gt p.Broken k).Kind == (gt q.Broken k).Kind && (gt p.Broken k).Number == (gt q.Broken k).Number) with
        | false => rfl
        | true => exact (hn ((partB _ _).1 hb)).elim
      simp only [dynposref15_Same_L2, lt_len hk, if_true, idx_gt hk, idx_gt (show k < q.Broken.length by omega), Option.bind_some, this, Bool.not_false]
  simp only [e3, e4, Bool.not_true, Bool.false_eq_true, if_false, Option.bind_some, l1]
  by_cases g5 : p.Sources = q.Sources
  case neg =>
    have : ∃ k, k < p.Sources.length ∧ gt p.Sources k ≠ gt q.Sources k := by
      apply Classical.byContradiction
      intro hn
      exact g5 (ext_gt g3 fun k hk => Classical.byContradiction fun h => hn ⟨k, hk, h⟩)
    rw [if_pos this, dF (c := p = q) (fun h => g5 (h ▸ rfl))]; rfl
  rw [if_neg (by rintro ⟨k, _, h⟩; exact h (by rw [g5])), Sum.elim_inl, l2, Option.bind_some]
  by_cases g6 : p.Broken = q.Broken
  case neg =>
    have : ∃ k, k < p.Broken.length ∧ gt p.Broken k ≠ gt q.Broken k := by
      apply Classical.byContradiction
      intro hn
      exact g6 (ext_gt g4 fun k hk => Classical.byContradiction fun h => hn ⟨k, hk, h⟩)
    rw [if_pos this, dF (c := p = q) (fun h => g6 (h ▸ rfl))]; rfl
  rw [if_neg (by rintro ⟨k, _, h⟩; exact h (by rw [g6]))]
  have : p = q := by
    obtain ⟨a, b, c, d⟩ := p
    obtain ⟨a', b', c', d'⟩ := q
    simp only at g1 g2 g5 g6
    rw [g1, g2, g5, g6]
  rw [dT this]
  rfl
theorem same_refl {p : Power} (hp : SmP p) : dynposref15_Same p p = some true := by rw [same_eq hp, dT rfl]
section
variable {b : Board} {p : Power}
end
theorem sm_fol {b : Board} {p : Power} (h : SmP p) : SmP (folP b p) := ⟨h.1, by show Sm (folL b p); unfold Sm; rw [folL_len]; exact h.2.1, h.2.2.1, h.2.2.2⟩
end Rx
end Go.Proofs.YtfnphdhcgkondaaGreat
