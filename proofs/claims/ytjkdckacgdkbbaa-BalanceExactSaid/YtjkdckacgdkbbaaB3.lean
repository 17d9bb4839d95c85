/- Division: the reference takes the greatest rest again and again; the order of the sort tells which. Plain laws. -/
import Derived.Test.YtjkdckacgdkbbaaB2
set_option linter.unusedVariables false
set_option linter.unusedSimpArgs false
namespace Go.Proofs.Ytjkdckacgdkbbaa
open Go Go.RowKit Dp
namespace Rx

open Classical in
/-- the rests, those that were taken marked -/
noncomputable def RL (total : Int) (r : List Int) (s : Int) (T : List Int) : List Int := (List.range r.length).map fun i : Nat => if (i : Int) ∈ T then -1 else rest total r s (i : Int)
theorem RL_len (total : Int) (r : List Int) (s : Int) (T : List Int) : (RL total r s T).length = r.length := by simp [RL]
theorem RL_gt {total : Int} {r : List Int} {s : Int} {T : List Int} {i : Nat} (hi : i < r.length) : ((i : Int) ∈ T → gt (RL total r s T) i = -1) ∧ ((i : Int) ∉ T → gt (RL total r s T) i = rest total r s (i : Int)) := by
  unfold RL
  rw [gt_map_range _ hi]
  exact ⟨fun h => if_pos h, fun h => if_neg h⟩
theorem RL_mark {total : Int} {r : List Int} {s : Int} {T : List Int} {j : Int} (h0 : 0 ≤ j) (h1 : j < r.length) : (RL total r s T).set j.toNat (-1) = RL total r s (T ++ [j]) := by
  refine ext_gt (by simp [RL_len]) fun i hi => ?_
  simp only [List.length_set, RL_len] at hi
  rw [gt_set (by rw [RL_len]; omega)]
  have hr := RL_gt (total := total) (r := r) (s := s) (T := T) hi
  have hr' := RL_gt (total := total) (r := r) (s := s) (T := T ++ [j]) hi
  by_cases hij : i = j.toNat
  · rw [if_pos hij, hr'.1 (by simp; omega)]
  · rw [if_neg hij]
    by_cases hm : (i : Int) ∈ T
    · rw [hr.1 hm, hr'.1 (by simp [hm])]
    · rw [hr.2 hm, hr'.2 (by simp only [List.mem_append, List.mem_singleton]; rintro (h | h); exact hm h; omega)]
/-- the next one of the order is the first one with the greatest rest of those that are left -/
theorem best_is {r : List Int} (h : Rat r) (hne : r ≠ []) {total : Int} (h0 : 0 ≤ total) {k : Nat} (hk : k < r.length) : 0 ≤ gt (order total r (sumL r)) k ∧ gt (order total r (sumL r)) k < r.length ∧
    ∀ i, i < r.length → gt (RL total r (sumL r) ((order total r (sumL r)).take k)) i ≤ gt (RL total r (sumL r) ((order total r (sumL r)).take k)) (gt (order total r (sumL r)) k).toNat ∧ (i < (gt (order total r (sumL r)) k).toNat → gt (RL total r (sumL r) ((order total r (sumL r)).take k)) i < gt (RL total r (sumL r) ((order total r (sumL r)).take k)) (gt (order total r (sumL r)) k).toNat) := by
  have hol := order_len h hne h0
  have hs := sum_pos h hne h0
  have hkl : k < (order total r (sumL r)).length := by omega
  have hb := (order_mem h hne h0).1 (gt_mem hkl)
  have hsp := (order_spec total r (sumL r) hne).1
  have hnd := order_nodup h hne h0
  refine ⟨hb.1, hb.2, fun i hi => ?_⟩
  have hsplit : order total r (sumL r) = (order total r (sumL r)).take k ++ gt (order total r (sumL r)) k :: (order total r (sumL r)).drop (k + 1) := by
    have := List.drop_eq_getElem_cons hkl
    rw [← gt_get hkl] at this
    rw [← this, List.take_append_drop]
  have hbT : gt (order total r (sumL r)) k ∉ (order total r (sumL r)).take k := fun hm => by
    rw [hsplit] at hnd
    exact (List.nodup_append.1 hnd).2.2 _ hm _ List.mem_cons_self rfl
  have eb : (((gt (order total r (sumL r)) k).toNat : Nat) : Int) = gt (order total r (sumL r)) k := by omega
  have hvb := (RL_gt (total := total) (r := r) (s := sumL r) (T := (order total r (sumL r)).take k) (i := (gt (order total r (sumL r)) k).toNat) (by omega)).2 (by rw [eb]; exact hbT)
  rw [hvb, eb]
  have hbd := rest_bd total r hs (gt (order total r (sumL r)) k)
  by_cases hm : (i : Int) ∈ (order total r (sumL r)).take k
  · rw [(RL_gt hi).1 hm]
    omega
  · rw [(RL_gt hi).2 hm]
    by_cases hib : (i : Int) = gt (order total r (sumL r)) k
    · rw [hib]
      exact ⟨Int.le_refl _, fun h => by omega⟩
    · have him : (i : Int) ∈ order total r (sumL r) := (order_mem h hne h0).2 ⟨by omega, by omega⟩
      rw [hsplit] at him hsp
      have hd : (i : Int) ∈ (order total r (sumL r)).drop (k + 1) := by
        rcases List.mem_append.1 him with h1 | h1
        · exact (hm h1).elim
        · rcases List.mem_cons.1 h1 with h1 | h1
          · exact (hib h1).elim
          · exact h1
      have hbh := (List.pairwise_cons.1 (List.pairwise_append.1 hsp).2.1).1 _ hd
      rcases hbh with h1 | ⟨h1, h2⟩
      · exact ⟨by omega, fun _ => h1⟩
      · exact ⟨by omega, fun h3 => by omega⟩
theorem fine_iff {a s y : Int} (ha : 0 ≤ a) (hs : 0 < s) : (a / s ≤ y ∧ y ≤ (a + s - 1) / s) ↔ (y = a / s ∨ (y = a / s + 1 ∧ a % s ≠ 0)) := by
  obtain ⟨h1, h2, h3⟩ := ceil_bd ha hs
  have hm := Int.emod_nonneg a (show s ≠ 0 by omega)
  have h4 : a % s = 0 → (a + s - 1) / s ≤ a / s := fun h0 => by
    have e := Int.mul_ediv_add_emod a s
    have : (a + s - 1) / s < a / s + 1 := by
      rw [Int.ediv_lt_iff_lt_mul hs, Int.add_mul, Int.one_mul, Int.mul_comm (a / s) s]
      omega
    omega
  constructor
  · rintro ⟨h5, h6⟩
    by_cases h0 : a % s = 0
    · have := h4 h0
      exact .inl (by omega)
    · by_cases hy : y = a / s
      · exact .inl hy
      · exact .inr ⟨by omega, h0⟩
  · rintro (h5 | ⟨h5, h6⟩)
    · omega
    · have := h2 (by omega)
      omega
end Rx
end Go.Proofs.Ytjkdckacgdkbbaa
