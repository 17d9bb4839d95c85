/- Division: the program's and the reference's are the same, for whatever numbers. Plain laws. -/
import Derived.Test.YtjkdckacgdkbbaaB3
import Derived.Test.YtjkdckacgdkbbaaN5
set_option linter.unusedVariables false
set_option linter.unusedSimpArgs false
namespace Go.Proofs.Ytjkdckacgdkbbaa
open Go Go.RowKit Dp
namespace Rx

theorem before_eq (t : Int) (r : List Int) : dynposref17_before t r = balance_check t r := by
  have : dynposref17_before_L1 r = balance_check_L1 r := rfl
  unfold dynposref17_before balance_check
  rw [this]
theorem check_wp (t : Int) (r : List Int) : ∃ s e, balance_check t r = some (s, e) ∧ (e = 0 → Rat r ∧ 0 ≤ t ∧ t ≤ 800000 ∧ (r = [] → t = 0) ∧ s = sumL r) := by
  by_cases h8 : r.length ≤ 8
  · by_cases hr : ∀ x ∈ r, 1 ≤ x ∧ x ≤ 50000
    · by_cases ht : 0 ≤ t ∧ t ≤ 800000 ∧ (r = [] → t = 0)
      · exact ⟨sumL r, 0, check_run ⟨h8, hr⟩ ht.2.2 ht.1 ht.2.1, fun _ => ⟨⟨h8, hr⟩, ht.1, ht.2.1, ht.2.2, rfl⟩⟩
      · have hl : Wp (loopO (balance_check_L1 r) (0, 0)) fun x => ∃ s, x = .inl s := by
          refine wp_upto r.length (fun k s => s.2 = (k : Int)) rfl (fun k s hk hs => ?_) (fun s hs => ?_) (by omega)
          · obtain ⟨a, z⟩ := s
            simp only at hs
            subst hs
            have hx := hr _ (gt_mem hk)
            unfold balance_check_L1
            simp only [lt_len hk, if_true, idx_gt hk, Option.bind_some, dF (c := gt r k < 1) (by omega), dF (c := gt r k > 50000) (by omega), Bool.false_eq_true, if_false]
            rw [W_succ (by omega)]
            exact wp_some.2 rfl
          · obtain ⟨a, z⟩ := s
            simp only at hs
            subst hs
            unfold balance_check_L1
            simp only [nlt_len, Bool.false_eq_true, if_false]
            exact wp_some.2 ⟨_, rfl⟩
        obtain ⟨x, hx, s, rfl⟩ := hl
        unfold balance_check
        rw [dF (c := len r > 8) (by unfold len; omega), hx]
        simp only [Bool.false_eq_true, if_false, Option.bind_some, Sum.elim_inl]
        by_cases h1 : t < 0
        · exact ⟨0, 1, by simp [h1], fun h => by cases h⟩
        · by_cases h2 : t > 800000
          · exact ⟨0, 1, by simp [h1, h2], fun h => by cases h⟩
          · have h3 : r = [] ∧ t ≠ 0 := by
              apply Classical.byContradiction
              intro hn
              exact ht ⟨by omega, by omega, fun he => Classical.byContradiction fun h0 => hn ⟨he, h0⟩⟩
            refine ⟨0, 9, ?_, fun h => by cases h⟩
            rw [h3.1]
            simp [h1, h2, h3.2, len]
    · obtain ⟨x, hx, hbad⟩ : ∃ x ∈ r, ¬ (1 ≤ x ∧ x ≤ 50000) := Classical.byContradiction fun hn => hr fun x hx => Classical.byContradiction fun hb => hn ⟨x, hx, hb⟩
      obtain ⟨i, hi, rfl⟩ := mem_gt hx
      have hl : Wp (loopO (balance_check_L1 r) (0, 0)) fun x => x = .inr (0, 1) := by
        refine wp_upto r.length (fun k s => s.2 = (k : Int) ∧ k ≤ i) ⟨rfl, Nat.zero_le _⟩ (fun k s hk hs => ?_) (fun s hs => ?_) (by omega)
        · obtain ⟨a, z⟩ := s
          obtain ⟨hs, hki⟩ := hs
          simp only at hs
          subst hs
          unfold balance_check_L1
          simp only [lt_len hk, if_true, idx_gt hk, Option.bind_some]
          by_cases h1 : gt r k < 1
          · simp only [dT h1, if_true, Option.bind_some]
            exact wp_some.2 rfl
          · by_cases h2 : gt r k > 50000
            · simp only [dF h1, dT h2, Bool.false_eq_true, if_false, Option.bind_some, if_true]
              exact wp_some.2 rfl
            · simp only [dF h1, dF h2, Bool.false_eq_true, if_false, Option.bind_some]
              rw [W_succ (by omega)]
              refine wp_some.2 ⟨rfl, ?_⟩
              rcases Nat.lt_or_eq_of_le hki with h3 | rfl
              · omega
              · exact (hbad ⟨by omega, by omega⟩).elim
        · have := hs.2; omega
      obtain ⟨x, hx, rfl⟩ := hl
      refine ⟨0, 1, ?_, fun h => by cases h⟩
      unfold balance_check
      rw [dF (c := len r > 8) (by unfold len; omega), hx]
      simp
  · refine ⟨0, 2, ?_, fun h => by cases h⟩
    unfold balance_check
    rw [dT (c := len r > 8) (by unfold len; omega)]
    rfl
section
variable {r : List Int} {total : Int}
theorem incs_snoc (o l : List Int) (j : Int) : incs o (l ++ [j]) = (incs o l).set j.toNat ((incs o l).getD j.toNat 0 + 1) := by
  unfold incs
  rw [List.foldl_append]
  rfl
theorem gt_getD (o : List Int) (i : Nat) : gt o i = o.getD i 0 := rfl
/-- the greatest rest that is left -/
theorem best_run {R : List Int} {b : Nat} (hR : R.length ≤ 1000) (hb : b < R.length) (hm : ∀ i, i < R.length → gt R i ≤ gt R b ∧ (i < b → gt R i < gt R b)) (x : Int) (o : List Int) : loopO (dynposref17_Split_L3 (x, o, R)) (0, 0) = some (b : Int) := by
  have h : Wp (loopO (dynposref17_Split_L3 (x, o, R)) (0, 0)) fun y => y = (b : Int) := by
    refine wp_upto R.length (fun k s => s.2 = (k : Int) ∧ ∃ c : Nat, s.1 = (c : Int) ∧ c < R.length ∧ (c < k ∨ c = 0) ∧ ∀ i, i < k → gt R i ≤ gt R c ∧ (i < c → gt R i < gt R c)) ⟨rfl, 0, rfl, by omega, .inr rfl, fun i hi => by omega⟩ (fun k s hk hs => ?_) (fun s hs => ?_) (by omega)
    · obtain ⟨z, k'⟩ := s
      obtain ⟨h1, c, h2, h3, h4, h5⟩ := hs
      simp only at h1 h2
      subst h1 h2
      unfold dynposref17_Split_L3
      simp only [lt_len hk, if_true, idx_gt hk, idx_gt h3, Option.bind_some]
      by_cases hgt : gt R k > gt R c
      · simp only [dT hgt, if_true, Option.bind_some]
        rw [W_succ (by omega)]
        refine wp_some.2 ⟨rfl, k, rfl, hk, .inl (by omega), fun i hi => ?_⟩
        by_cases hik : i = k
        · subst hik; exact ⟨Int.le_refl _, fun h => by omega⟩
        · have := (h5 i (by omega)).1
          exact ⟨by omega, fun _ => by omega⟩
      · simp only [dF hgt, Bool.false_eq_true, if_false, Option.bind_some]
        rw [W_succ (by omega)]
        refine wp_some.2 ⟨rfl, c, rfl, h3, by omega, fun i hi => ?_⟩
        by_cases hik : i = k
        · subst hik
          refine ⟨by omega, fun h => ?_⟩
          rcases h4 with h4 | h4 <;> omega
        · exact h5 i (by omega)
    · obtain ⟨z, k'⟩ := s
      obtain ⟨h1, c, h2, h3, h4, h5⟩ := hs
      simp only at h1 h2
      subst h1 h2
      unfold dynposref17_Split_L3
      simp only [nlt_len, Bool.false_eq_true, if_false]
      refine wp_some.2 ?_
      have e1 := h5 b hb
      have e2 := hm c h3
      have : c = b := by
        rcases Nat.lt_trichotomy c b with h | h | h
        · have := e2.2 h; omega
        · exact h
        · have := e1.2 h; omega
      rw [this]
  obtain ⟨y, hy, rfl⟩ := h
  exact hy
theorem refsplit_run (h : Rat r) (hne : r ≠ []) (h0 : 0 ≤ total) (h1 : total ≤ 800000) : dynposref17_Split total r = some (0, splitP total r (sumL r)) := by
  have hs := sum_pos h hne h0
  have hlen := h.1
  have hlf := left_ok hs h0
  have e1 : loopO (dynposref17_Split_L1 total r (sumL r, 0)) (total, 0, [], []) = some (total - sumL (floors total r (sumL r)), floors total r (sumL r), RL total r (sumL r) []) := by
    have e := loop_run (step := dynposref17_Split_L1 total r (sumL r, 0)) (r := (total - sumL (floors total r (sumL r)), floors total r (sumL r), r.map fun x => total * x % sumL r)) (fun k => (total - sumL (floors total (r.take k) (sumL r)), (k : Int), floors total (r.take k) (sumL r), (r.take k).map fun x => total * x % sumL r)) r.length (fun k hk => by
      have hx := h.2 _ (gt_mem hk)
      obtain ⟨f1, f2, f3, f4⟩ := floor_bd (s := sumL r) h0 h1 hs hx
      have hW : W (total * gt r k) = total * gt r k := W_sm (by omega) (by omega)
      have hfm := sum_bd (l := floors total (r.take k) (sumL r)) (B := 40000000000) (fun y hy => by
        have := floors_mem (r := r) h h0 h1 hs
        unfold floors at this hy
        obtain ⟨z, hz, rfl⟩ := List.mem_map.1 hy
        exact this _ (List.mem_map.2 ⟨z, List.mem_of_mem_take hz, rfl⟩))
      have hfl : (floors total (r.take k) (sumL r)).length ≤ 8 := by rw [floors_len]; simp; omega
      have hsn : sumL (floors total (r.take k ++ [gt r k]) (sumL r)) = sumL (floors total (r.take k) (sumL r)) + total * gt r k / sumL r := by
        unfold floors
        rw [List.map_append, sumL_append]
        simp [sumL]
      unfold dynposref17_Split_L1
      simp only [lt_len hk, if_true, idx_gt hk, Option.bind_some, hW]
      rw [quoO_nn f1 hs (by omega), remO_nn f1 hs]
      simp only [Option.bind_some]
      rw [app_sm (by simp; omega)]
      simp only [Option.bind_some]
      rw [app_sm (by simp; omega)]
      simp only [Option.bind_some]
      rw [W_succ (by omega), take_gt hk, hsn, W_sm (by omega) (by omega)]
      congr 3
      · omega
      · simp [floors]) (by
      unfold dynposref17_Split_L1
      simp only [nlt_len, Bool.false_eq_true, if_false, List.take_length]) (by omega)
    have e' : loopO (dynposref17_Split_L1 total r (sumL r, 0)) (total - sumL (floors total (r.take 0) (sumL r)), ((0 : Nat) : Int), floors total (r.take 0) (sumL r), (r.take 0).map fun x => total * x % sumL r) = _ := e
    have hz : (total - sumL (floors total (r.take 0) (sumL r)), ((0 : Nat) : Int), floors total (r.take 0) (sumL r), (r.take 0).map fun x => total * x % sumL r) = ((total, 0, [], []) : Int × Int × List Int × List Int) := by simp [floors, sumL]
    rw [hz] at e'
    rw [e']
    congr 3
    refine ext_gt (by simp [RL_len]) fun i hi => ?_
    simp only [List.length_map] at hi
    rw [(RL_gt hi).2 (by simp)]
    unfold rest
    rw [gt_get (by simpa using hi), List.getElem_map, Int.toNat_natCast]
    simp [List.getD, hi]
  have hol := order_len h hne h0
  obtain ⟨m, hm⟩ : ∃ m : Nat, total - sumL (floors total r (sumL r)) = (m : Int) := ⟨(total - sumL (floors total r (sumL r))).toNat, by omega⟩
  have hml : m ≤ r.length := by omega
  have e2 : loopO dynposref17_Split_L2 ((m : Int), floors total r (sumL r), RL total r (sumL r) []) = some (splitP total r (sumL r), RL total r (sumL r) ((order total r (sumL r)).take m)) := by
    have e := loop_run (step := dynposref17_Split_L2) (r := (splitP total r (sumL r), RL total r (sumL r) ((order total r (sumL r)).take m))) (fun k => (((m - k : Nat) : Int), incs (floors total r (sumL r)) ((order total r (sumL r)).take k), RL total r (sumL r) ((order total r (sumL r)).take k))) m (fun k hk => by
      obtain ⟨b0, b1, b2⟩ := best_is h hne h0 (k := k) (by omega)
      obtain ⟨b, hb⟩ : ∃ b : Nat, gt (order total r (sumL r)) k = (b : Int) := ⟨(gt (order total r (sumL r)) k).toNat, by omega⟩
      rw [hb] at b1 b2
      rw [Int.toNat_natCast] at b2
      have hbl : b < r.length := by omega
      have hbest := best_run (R := RL total r (sumL r) ((order total r (sumL r)).take k)) (b := b) (by rw [RL_len]; omega) (by rw [RL_len]; omega) (fun i hi => b2 i (by rwa [RL_len] at hi)) ((m - k : Nat) : Int) (incs (floors total r (sumL r)) ((order total r (sumL r)).take k))
      have hil : (incs (floors total r (sumL r)) ((order total r (sumL r)).take k)).length = r.length := by rw [incs_len, floors_len]
      have hRl := RL_len total r (sumL r) ((order total r (sumL r)).take k)
      have hnd := (order_nodup h hne h0).sublist (List.take_sublist k (order total r (sumL r)))
      have hval := incs_get ((order total r (sumL r)).take k) (floors total r (sumL r)) hnd (fun x hx => ((order_mem h hne h0).1 (List.mem_of_mem_take hx)).1) b (by rw [floors_len]; exact hbl)
      have hfb := floors_mem h h0 h1 hs _ (gt_mem (l := floors total r (sumL r)) (k := b) (by rw [floors_len]; exact hbl))
      rw [gt_getD] at hfb
      have hWv : W (gt (incs (floors total r (sumL r)) ((order total r (sumL r)).take k)) b + 1) = gt (incs (floors total r (sumL r)) ((order total r (sumL r)).take k)) b + 1 := by
        rw [gt_getD, hval]
        split <;> exact W_sm (by omega) (by omega)
      unfold dynposref17_Split_L2
      simp only [dT (c := ((m - k : Nat) : Int) > 0) (by omega), if_true, hbest, Option.bind_some, idx_gt (show b < (incs (floors total r (sumL r)) ((order total r (sumL r)).take k)).length by omega), idx_gt (show b < (RL total r (sumL r) ((order total r (sumL r)).take k)).length by omega), hWv]
      rw [setO_nat (by omega)]
      simp only [Option.bind_some]
      rw [setO_nat (by omega)]
      simp only [Option.bind_some]
      have hmk := RL_mark (total := total) (r := r) (s := sumL r) (T := (order total r (sumL r)).take k) (j := (b : Int)) (by omega) (by omega)
      rw [Int.toNat_natCast] at hmk
      have hin := incs_snoc (floors total r (sumL r)) ((order total r (sumL r)).take k) (b : Int)
      rw [Int.toNat_natCast, ← gt_getD] at hin
      rw [hmk, ← hin, take_gt (show k < (order total r (sumL r)).length by omega), hb, W_pred (k := m - k) (by omega) (by omega), show m - k - 1 = m - (k + 1) by omega]) (by
      unfold dynposref17_Split_L2
      simp only [Nat.sub_self, dF (c := ((0 : Nat) : Int) > 0) (by omega), Bool.false_eq_true, if_false]
      unfold splitP
      rw [hm, Int.toNat_natCast]) (by omega)
    have e' : loopO dynposref17_Split_L2 (((m - 0 : Nat) : Int), incs (floors total r (sumL r)) ((order total r (sumL r)).take 0), RL total r (sumL r) ((order total r (sumL r)).take 0)) = _ := e
    simpa [incs] using e'
  unfold dynposref17_Split
  rw [before_eq, check_run h (fun he => (hne he).elim) h0 h1]
  simp only [Option.bind_some, bne_self_eq_false, Bool.false_eq_true, if_false, e1, hm, e2]
end
/-- both divide alike -/
theorem split_same (t : Int) (r : List Int) : ∃ e l, balance_Split t r = some (e, l) ∧ dynposref17_Split t r = some (e, l) ∧ l.length ≤ 8 := by
  obtain ⟨s, e, h1, h2⟩ := check_wp t r
  by_cases he : e = 0
  · obtain ⟨hr, t0, t1, hz, rfl⟩ := h2 he
    by_cases hne : r = []
    · subst hne
      have := hz rfl
      subst this
      exact ⟨0, [], split_empty, by kernel_rfl, by simp⟩
    · exact ⟨0, _, split_run hr hne t0 t1, refsplit_run hr hne t0 t1, by rw [split_len hr hne t0]; exact hr.1⟩
  · have hb : (e != 0) = true := by simpa using he
    refine ⟨e, [], ?_, ?_, by simp⟩
    · unfold balance_Split
      simp only [h1, Option.bind_some, hb, if_true]
    · unfold dynposref17_Split
      simp only [before_eq, h1, Option.bind_some, hb, if_true]
/-- both look alike whether a list is a division -/
theorem check_same (t : Int) (r l : List Int) (hl : l.length ≤ 1000000) : ∃ v, balance_Check t r l = some v ∧ dynposref17_Check t r l = some v := by
  obtain ⟨s, e, h1, h2⟩ := check_wp t r
  by_cases he : e = 0
  case neg =>
    have hb : (e != 0) = true := by simpa using he
    refine ⟨false, ?_, ?_⟩
    · unfold balance_Check
      simp only [h1, Option.bind_some, hb, if_true]
    · unfold dynposref17_Check
      simp only [before_eq, h1, Option.bind_some, hb, if_true]
  obtain ⟨hr, t0, t1, hz, rfl⟩ := h2 he
  subst he
  by_cases hll : l.length = r.length
  case neg =>
    have hb : (len l != len r) = true := bneT (by unfold len; omega)
    refine ⟨false, ?_, ?_⟩
    · unfold balance_Check
      simp only [h1, Option.bind_some, bne_self_eq_false, Bool.false_eq_true, if_false, hb, if_true]
    · unfold dynposref17_Check
      simp only [before_eq, h1, Option.bind_some, bne_self_eq_false, Bool.false_eq_true, if_false, hb, if_true]
  have hb : (len l != len r) = false := bneF (by unfold len; omega)
  have hpos : r ≠ [] → 0 < sumL r := fun hne => sum_pos hr hne t0
  have hlen := hr.1
  by_cases hall : ∀ i, i < r.length → (gt l i = t * gt r i / sumL r ∨ (gt l i = t * gt r i / sumL r + 1 ∧ t * gt r i % sumL r ≠ 0))
  · -- a division, or a wrong sum
    have bd : ∀ i, i < r.length → 0 ≤ t * gt r i ∧ t * gt r i ≤ 40000000000 ∧ 0 ≤ t * gt r i / sumL r ∧ t * gt r i / sumL r ≤ 40000000000 ∧ 0 < sumL r ∧ sumL r ≤ 400000 := fun i hi => by
      have hp := hpos (fun e => by rw [e] at hi; simp at hi)
      have hb2 := (sumL_take_bd hr r.length).2
      rw [List.take_length] at hb2
      obtain ⟨f1, f2, f3, f4⟩ := floor_bd (s := sumL r) t0 t1 hp (hr.2 _ (gt_mem hi))
      exact ⟨f1, f2, f3, f4, hp, hb2⟩
    have hsum : ∀ k, k ≤ r.length → 0 ≤ sumL (l.take k) ∧ sumL (l.take k) ≤ 50000000000 * k := by
      intro k
      induction k with
      | zero => intro _; simp [sumL]
      | succ k ih =>
        intro hk
        have := ih (by omega)
        have hb3 := bd k (by omega)
        have ha := hall k (by omega)
        rw [take_gt (show k < l.length by omega), sumL_append]
        have e1 : sumL [gt l k] = gt l k := by simp [sumL]
        rw [e1]
        omega
    refine ⟨sumL l == t, ?_, ?_⟩
    · have e := loop_run (step := balance_Check_L1 t r l (sumL r, 0)) (r := .inl (sumL l)) (fun k => (sumL (l.take k), (k : Int))) r.length (fun k hk => by
        have hb3 := bd k hk
        have ha := hall k hk
        have hf := (fine_iff (y := gt l k) hb3.1 hb3.2.2.2.2.1).2 ha
        have hs1 := hsum k (by omega)
        have hW : W (t * gt r k) = t * gt r k := W_sm (by omega) (by omega)
        have hW2 : W (t * gt r k + sumL r) = t * gt r k + sumL r := W_sm (by omega) (by omega)
        have hW3 : W (t * gt r k + sumL r - 1) = t * gt r k + sumL r - 1 := W_sm (by omega) (by omega)
        unfold balance_Check_L1
        simp only [lt_len (show k < l.length by omega), if_true, idx_gt (show k < l.length by omega), idx_gt hk, Option.bind_some, hW, hW2, hW3]
        rw [quoO_nn hb3.1 hb3.2.2.2.2.1 (by omega), quoO_nn (a := t * gt r k + sumL r - 1) (by omega) hb3.2.2.2.2.1 (by omega)]
        simp only [Option.bind_some, dF (c := gt l k < t * gt r k / sumL r) (by omega), dF (c := gt l k > (t * gt r k + sumL r - 1) / sumL r) (by omega), Bool.false_eq_true, if_false]
        rw [W_succ (by omega), take_gt (show k < l.length by omega), sumL_append, show sumL [gt l k] = gt l k by simp [sumL], W_sm (by omega) (by omega)]) (by
        unfold balance_Check_L1
        rw [← hll]
        simp only [nlt_len, Bool.false_eq_true, if_false, List.take_length]) (by omega)
      have e' : loopO (balance_Check_L1 t r l (sumL r, 0)) (0, 0) = _ := e
      unfold balance_Check
      simp only [h1, Option.bind_some, bne_self_eq_false, Bool.false_eq_true, if_false, hb, e', Sum.elim_inl]
    · have e := loop_run (step := dynposref17_Check_L1 t r l (sumL r, 0)) (r := .inl (sumL l)) (fun k => (sumL (l.take k), (k : Int))) r.length (fun k hk => by
        have hb3 := bd k hk
        have ha := hall k hk
        have hs1 := hsum k (by omega)
        have hW : W (t * gt r k) = t * gt r k := W_sm (by omega) (by omega)
        have hW2 : W (t * gt r k / sumL r + 1) = t * gt r k / sumL r + 1 := W_sm (by omega) (by omega)
        unfold dynposref17_Check_L1
        simp only [lt_len hk, if_true, idx_gt (show k < l.length by omega), idx_gt hk, Option.bind_some, hW]
        rw [quoO_nn hb3.1 hb3.2.2.2.2.1 (by omega), remO_nn hb3.1 hb3.2.2.2.2.1]
        simp only [Option.bind_some, hW2]
        have hc : (if (gt l k != t * gt r k / sumL r) = true then if (gt l k != t * gt r k / sumL r + 1) = true then some true else some (t * gt r k % sumL r == 0) else some false) = some false := by
          rcases ha with ha | ⟨ha, hb4⟩
          · rw [bneF ha]; rfl
          · rw [bneT (by omega), bneF ha, beqF hb4]; rfl
        rw [hc]
        simp only [Option.bind_some, Bool.false_eq_true, if_false]
        rw [W_succ (by omega), take_gt (show k < l.length by omega), sumL_append, show sumL [gt l k] = gt l k by simp [sumL], W_sm (by omega) (by omega)]) (by
        unfold dynposref17_Check_L1
        simp only [nlt_len, Bool.false_eq_true, if_false]
        rw [← hll, List.take_length]) (by omega)
      have e' : loopO (dynposref17_Check_L1 t r l (sumL r, 0)) (0, 0) = _ := e
      unfold dynposref17_Check
      simp only [before_eq, h1, Option.bind_some, bne_self_eq_false, Bool.false_eq_true, if_false, hb, e', Sum.elim_inl]
  · -- some share is wrong
    obtain ⟨i, hi, hbad⟩ : ∃ i, i < r.length ∧ ¬ (gt l i = t * gt r i / sumL r ∨ (gt l i = t * gt r i / sumL r + 1 ∧ t * gt r i % sumL r ≠ 0)) := Classical.byContradiction fun hn => hall fun i hi => Classical.byContradiction fun hb => hn ⟨i, hi, hb⟩
    have hp : 0 < sumL r := hpos (fun e => by rw [e] at hi; simp at hi)
    have hsb : sumL r ≤ 400000 := by
      have hb2 := (sumL_take_bd hr r.length).2
      rwa [List.take_length] at hb2
    refine ⟨false, ?_, ?_⟩
    · have hw : Wp (loopO (balance_Check_L1 t r l (sumL r, 0)) (0, 0)) fun x => x = .inr false := by
        refine wp_upto r.length (fun k s => s.2 = (k : Int) ∧ k ≤ i) ⟨rfl, Nat.zero_le _⟩ (fun k s hk hv => ?_) (fun s hv => ?_) (by omega)
        · obtain ⟨a, z⟩ := s
          obtain ⟨hv, hki⟩ := hv
          simp only at hv
          subst hv
          obtain ⟨f1, f2, f3, f4⟩ := floor_bd (s := sumL r) t0 t1 hp (hr.2 _ (gt_mem hk))
          have hW : W (t * gt r k) = t * gt r k := W_sm (by omega) (by omega)
          have hW2 : W (t * gt r k + sumL r) = t * gt r k + sumL r := W_sm (by omega) (by omega)
          have hW3 : W (t * gt r k + sumL r - 1) = t * gt r k + sumL r - 1 := W_sm (by omega) (by omega)
          unfold balance_Check_L1
          simp only [lt_len (show k < l.length by omega), if_true, idx_gt (show k < l.length by omega), idx_gt hk, Option.bind_some, hW, hW2, hW3]
          rw [quoO_nn f1 hp (by omega), quoO_nn (a := t * gt r k + sumL r - 1) (by omega) hp (by omega)]
          simp only [Option.bind_some]
          by_cases c1 : gt l k < t * gt r k / sumL r
          · simp only [dT c1, if_true, Option.bind_some]
            exact wp_some.2 rfl
          · by_cases c2 : gt l k > (t * gt r k + sumL r - 1) / sumL r
            · simp only [dF c1, dT c2, Bool.false_eq_true, if_false, Option.bind_some, if_true]
              exact wp_some.2 rfl
            · simp only [dF c1, dF c2, Bool.false_eq_true, if_false, Option.bind_some]
              rw [W_succ (by omega)]
              refine wp_some.2 ⟨rfl, ?_⟩
              rcases Nat.lt_or_eq_of_le hki with h3 | rfl
              · omega
              · exact (hbad ((fine_iff f1 hp).1 ⟨by omega, by omega⟩)).elim
        · have := hv.2; omega
      obtain ⟨x, hx, rfl⟩ := hw
      unfold balance_Check
      simp only [h1, Option.bind_some, bne_self_eq_false, Bool.false_eq_true, if_false, hb, hx, Sum.elim_inr]
    · have hw : Wp (loopO (dynposref17_Check_L1 t r l (sumL r, 0)) (0, 0)) fun x => x = .inr false := by
        refine wp_upto r.length (fun k s => s.2 = (k : Int) ∧ k ≤ i) ⟨rfl, Nat.zero_le _⟩ (fun k s hk hv => ?_) (fun s hv => ?_) (by omega)
        · obtain ⟨a, z⟩ := s
          obtain ⟨hv, hki⟩ := hv
          simp only at hv
          subst hv
          obtain ⟨f1, f2, f3, f4⟩ := floor_bd (s := sumL r) t0 t1 hp (hr.2 _ (gt_mem hk))
          have hW : W (t * gt r k) = t * gt r k := W_sm (by omega) (by omega)
          have hW2 : W (t * gt r k / sumL r + 1) = t * gt r k / sumL r + 1 := W_sm (by omega) (by omega)
          unfold dynposref17_Check_L1
          simp only [lt_len hk, if_true, idx_gt (show k < l.length by omega), idx_gt hk, Option.bind_some, hW]
          rw [quoO_nn f1 hp (by omega), remO_nn f1 hp]
          simp only [Option.bind_some, hW2]
          by_cases c1 : gt l k = t * gt r k / sumL r
          · rw [bneF c1]
            simp only [Bool.false_eq_true, if_false, Option.bind_some]
            rw [W_succ (by omega)]
            refine wp_some.2 ⟨rfl, ?_⟩
            rcases Nat.lt_or_eq_of_le hki with h3 | rfl
            · omega
            · exact (hbad (.inl c1)).elim
          · rw [bneT c1]
            simp only [if_true]
            by_cases c2 : gt l k = t * gt r k / sumL r + 1
            · rw [bneF c2]
              simp only [Bool.false_eq_true, if_false]
              by_cases c3 : t * gt r k % sumL r = 0
              · rw [beqT c3]
                simp only [Option.bind_some, if_true]
                exact wp_some.2 rfl
              · rw [beqF c3]
                simp only [Option.bind_some, Bool.false_eq_true, if_false]
                rw [W_succ (by omega)]
                refine wp_some.2 ⟨rfl, ?_⟩
                rcases Nat.lt_or_eq_of_le hki with h3 | rfl
                · omega
                · exact (hbad (.inr ⟨c2, c3⟩)).elim
            · rw [bneT c2]
              simp only [if_true, Option.bind_some]
              exact wp_some.2 rfl
        · have := hv.2; omega
      obtain ⟨x, hx, rfl⟩ := hw
      unfold dynposref17_Check
      simp only [before_eq, h1, Option.bind_some, bne_self_eq_false, Bool.false_eq_true, if_false, hb, hx, Sum.elim_inr]
end Rx
end Go.Proofs.Ytjkdckacgdkbbaa
