/- Ports: what is accepted, whatever the number; messages delivered. Plain laws. -/
import Derived.Test.YthgnnjdjdmdfoaaLawNetworkArrives
set_option linter.unusedVariables false
set_option linter.unusedSimpArgs false
namespace Go.Proofs.Ythgnnjdjdmdfoaa
open Go Go.RowKit Dp
namespace Rx

/-- the place of a number that is not there -/
theorem search_at {l : List Int} (hl : l.length ≤ 1000) (hs : l.Pairwise (· < ·)) {n : Int} (hno : n ∉ l) : ∃ k : Nat, k ≤ l.length ∧ (∀ i, i < k → gt l i < n) ∧ (∀ i, k ≤ i → i < l.length → n < gt l i) ∧ ∃ b, slices_BinarySearch_int_int l n = some ((k : Int), b) := by
  have hloop : Wp (loopO (slices_BinarySearch_int_int_L1 l n) (0, len l)) fun r => ∃ k : Nat, r = (k : Int) ∧ k ≤ l.length ∧ (∀ i, i < k → gt l i < n) ∧ ∀ i, k ≤ i → i < l.length → n < gt l i := by
    refine wp_while (fun s => (s.2 - s.1).toNat) (fun s => ∃ i j : Nat, s = ((i : Int), (j : Int)) ∧ i ≤ j ∧ j ≤ l.length ∧ (∀ p, p < i → gt l p < n) ∧ ∀ p, j ≤ p → p < l.length → n < gt l p) (fun s hv => ?_) ⟨0, l.length, rfl, Nat.zero_le _, Nat.le_refl _, fun p hp => by omega, fun p h1 h2 => by omega⟩ (by simp only [len]; omega)
    obtain ⟨i, j, rfl, hij, hj, h1, h2⟩ := hv
    unfold slices_BinarySearch_int_int_L1
    simp only
    by_cases hlt : i < j
    · obtain ⟨q, hq⟩ : ∃ q : Nat, ((i : Int) + (j : Int)) / 2 = (q : Int) := ⟨(i + j) / 2, by omega⟩
      have hq1 : i ≤ q ∧ q < j := by omega
      have hWq : W (q : Int) = q := W_sm (by omega) (by omega)
      have hne : gt l q ≠ n := fun e => hno (e ▸ gt_mem (by omega))
      have hless : cmp_Less_int (gt l q) n = some (decide (gt l q < n)) := by
        unfold cmp_Less_int cmp_isNaN_int
        simp
      simp only [dT (c := (i : Int) < (j : Int)) (by omega), if_true]
      rw [half_eq (by omega) (by omega), hq]
      simp only [Option.bind_some, hWq, idx_gt (show q < l.length by omega), hless]
      by_cases hc : gt l q < n
      · simp only [dT hc, if_true, Option.bind_some]
        rw [W_succ (by omega)]
        refine wp_some.2 ⟨⟨q + 1, j, rfl, by omega, hj, fun p hp => ?_, h2⟩, by simp only; omega⟩
        by_cases hpq : p = q
        · rw [hpq]; exact hc
        · have := pw_gt hs (i := p) (j := q) (by omega) (by omega); omega
      · simp only [dF hc, Bool.false_eq_true, if_false, Option.bind_some]
        refine wp_some.2 ⟨⟨i, q, rfl, by omega, by omega, h1, fun p hp hpl => ?_⟩, by simp only; omega⟩
        by_cases hpq : p = q
        · rw [hpq]; omega
        · have := pw_gt hs (i := q) (j := p) (by omega) hpl; omega
    · have : j = i := by omega
      subst this
      simp only [dF (c := (j : Int) < (j : Int)) (by omega), Bool.false_eq_true, if_false]
      exact wp_some.2 ⟨j, rfl, hj, h1, h2⟩
  obtain ⟨r, hr, k, rfl, hk, h1, h2⟩ := hloop
  refine ⟨k, hk, h1, h2, ?_⟩
  unfold slices_BinarySearch_int_int
  simp only [hr, Option.bind_some]
  by_cases hkl : k < l.length
  · have hne : gt l k ≠ n := fun e => hno (e ▸ gt_mem hkl)
    simp only [lt_len hkl, if_true, idx_gt hkl, Option.bind_some, beqF hne, Bool.false_eq_true, if_false]
    unfold slices_isNaN_int
    simp only [Option.bind_some, bne_self_eq_false, Bool.false_eq_true, if_false]
    exact ⟨_, rfl⟩
  · rw [dF (c := (k : Int) < len l) (by unfold len; omega)]
    simp only [Bool.false_eq_true, if_false, Option.bind_some]
    exact ⟨_, rfl⟩
/-- numbers that a port does not accept any more -/
def Na (p : Port) (x : Int) : Prop := x = p.High ∨ x ≤ p.High - 32 ∨ x ∈ p.Below
/-- the highest number behind an acceptance -/
def hi2 (h n : Int) : Int := if h < n then n else h
theorem accept_no {p : Port} (h : Pv p) {n : Int} (n0 : 1 ≤ n) (n1 : n ≤ 100000) (hn : Na p n) : network_Accept p n = some (p.High, false, p.Below) := by
  have h0 := h.h0
  have h1 := h.h1
  have hl := h.len
  unfold network_Accept
  simp only [copy_ok h, port_ok h, Option.bind_some, Bool.not_true, Bool.false_eq_true, if_false, dF (c := n < 1) (by omega), dF (c := n > 2147483648) (by omega), W_sm (x := p.High - 32) (by omega) (by omega), has_eq (show p.Below.length ≤ 1000 by omega)]
  by_cases e1 : n = p.High
  · rw [beqT e1]; rfl
  · rw [beqF e1]
    by_cases e2 : n ≤ p.High - 32
    · rw [dT e2]; rfl
    · rw [dF e2]
      have e3 : n ∈ p.Below := by
        rcases hn with g | g | g
        · exact (e1 g).elim
        · exact (e2 g).elim
        · exact g
      rw [dB_T e3]
      rfl
theorem accept_yes {p : Port} (h : Pv p) {n : Int} (n0 : 1 ≤ n) (n1 : n ≤ 100000) (hn : ¬ Na p n) : ∃ B, network_Accept p n = some (hi2 p.High n, true, B) ∧ Pv ⟨hi2 p.High n, B⟩ ∧ ∀ x, 1 ≤ x → (Na ⟨hi2 p.High n, B⟩ x ↔ x = n ∨ Na p x ∨ x ≤ hi2 p.High n - 32) := by
  have h0 := h.h0
  have h1 := h.h1
  have hl := h.len
  have e1 : n ≠ p.High := fun e => hn (.inl e)
  have e2 : ¬ n ≤ p.High - 32 := fun e => hn (.inr (.inl e))
  have e3 : ¬ n ∈ p.Below := fun e => hn (.inr (.inr e))
  by_cases hlt : p.High < n
  · have eh : hi2 p.High n = n := if_pos hlt
    rw [eh]
    obtain ⟨C, hC⟩ : ∃ C, C = if p.High > 0 then p.Below ++ [p.High] else p.Below := ⟨_, rfl⟩
    have hmem : ∀ x, 1 ≤ x → (x ∈ C ↔ x ∈ p.Below ∨ x = p.High) := fun x hx => by
      rw [hC]
      split
      · simp
      · exact ⟨.inl, fun g => by
          rcases g with g | g
          · exact g
          · omega⟩
    have hmid : (if decide (p.High > 0) = true then
              Option.bind (slices_BinarySearch_int_int p.Below p.High) fun x6 =>
                Option.bind (slices_Insert_int_int p.Below x6.1 [p.High]) fun x7 => some (n, x7)
            else some (n, p.Below)) = some (n, C) := by
      rw [hC]
      by_cases hp : p.High > 0
      · rw [if_pos (dT hp), if_pos hp, search_end (by omega) (fun x hx => (h.rng x hx).2.2)]
        simp only [Option.bind_some]
        have hins : slices_Insert_int_int p.Below (p.Below.length : Int) [p.High] = some (p.Below ++ [p.High]) := by
          unfold slices_Insert_int_int insO
          rw [app_sm (by simp; omega)]
          simp [len]
        rw [hins]
        rfl
      · rw [if_neg (by rw [dF hp]; simp), if_neg hp]
    have hCl : C.length ≤ 32 := by
      rw [hC]
      split
      · rw [List.length_append]; simp only [List.length_singleton]; omega
      · omega
    have hacc : network_Accept p n = some (n, true, C.filter (kp n)) := by
      unfold network_Accept
      simp only [copy_ok h, port_ok h, Option.bind_some, Bool.not_true, Bool.false_eq_true, if_false, dF (c := n < 1) (by omega), dF (c := n > 2147483648) (by omega), beqF e1, W_sm (x := p.High - 32) (by omega) (by omega), dF e2, has_eq (show p.Below.length ≤ 1000 by omega), dB_F e3, dT (c := n > p.High) (by omega), if_true]
      rw [hmid]
      simp only [Option.bind_some]
      rw [delete_eq (by omega) (by omega) (by omega)]
      rfl
    obtain ⟨B, hB, hPB⟩ := accept_up h hlt n1
    rw [hacc] at hB
    have hBe : B = C.filter (kp n) := by
      have := Option.some.inj hB
      exact (congrArg (fun x => x.2.2) this).symm
    subst hBe
    refine ⟨_, hacc, hPB, fun x hx => ?_⟩
    unfold Na
    simp only [List.mem_filter, kp, decide_eq_true_eq, hmem x hx]
    constructor
    · rintro (g | g | ⟨g | g, _⟩)
      · exact .inl g
      · exact .inr (.inr g)
      · exact .inr (.inl (.inr (.inr g)))
      · exact .inr (.inl (.inl g))
    · rintro (g | (g | g | g) | g)
      · exact .inl g
      · by_cases hk : n - 32 < x
        · exact .inr (.inr ⟨.inr g, hk⟩)
        · exact .inr (.inl (by omega))
      · exact .inr (.inl (by omega))
      · by_cases hk : n - 32 < x
        · exact .inr (.inr ⟨.inl g, hk⟩)
        · exact .inr (.inl (by omega))
      · exact .inr (.inl g)
  · have eh : hi2 p.High n = p.High := if_neg hlt
    rw [eh]
    obtain ⟨k, hk, k1, k2, b, hb⟩ := search_at (show p.Below.length ≤ 1000 by omega) h.srt e3
    have hins : slices_Insert_int_int p.Below (k : Int) [n] = some (p.Below.take k ++ [n] ++ p.Below.drop k) := by
      unfold slices_Insert_int_int insO
      rw [app_sm (by simp; omega)]
      simp [len, hk]
    obtain ⟨C, hC⟩ : ∃ C, C = p.Below.take k ++ [n] ++ p.Below.drop k := ⟨_, rfl⟩
    have hmem : ∀ x, x ∈ C ↔ x ∈ p.Below ∨ x = n := fun x => by
      rw [hC]
      simp only [List.mem_append, List.mem_singleton]
      constructor
      · rintro ((g | g) | g)
        · exact .inl (List.mem_of_mem_take g)
        · exact .inr g
        · exact .inl (List.mem_of_mem_drop g)
      · rintro (g | g)
        · have : x ∈ p.Below.take k ++ p.Below.drop k := by rw [List.take_append_drop]; exact g
          rcases List.mem_append.1 this with g | g
          · exact .inl (.inl g)
          · exact .inr g
        · exact .inl (.inr g)
    have hsrt : C.Pairwise (· < ·) := by
      rw [hC, List.append_assoc, List.pairwise_append]
      refine ⟨h.srt.sublist (List.take_sublist _ _), ?_, fun x hx y hy => ?_⟩
      · rw [List.singleton_append, List.pairwise_cons]
        refine ⟨fun y hy => ?_, h.srt.sublist (List.drop_sublist _ _)⟩
        obtain ⟨j, hj, rfl⟩ := mem_gt hy
        have hj' : k + j < p.Below.length := by simp at hj; omega
        have : gt (p.Below.drop k) j = gt p.Below (k + j) := by rw [gt_get hj, gt_get hj']; simp
        rw [this]
        exact k2 _ (by omega) hj'
      · obtain ⟨j, hj, rfl⟩ := mem_gt hx
        have hj' : j < k := by simp at hj; omega
        have : gt (p.Below.take k) j = gt p.Below j := by rw [gt_get hj, gt_get (by omega)]; simp
        rw [this]
        have h3 := k1 j hj'
        rw [List.singleton_append] at hy
        rcases List.mem_cons.1 hy with rfl | hy
        · exact h3
        · obtain ⟨q, hq, rfl⟩ := mem_gt hy
          have hq' : k + q < p.Below.length := by simp at hq; omega
          have : gt (p.Below.drop k) q = gt p.Below (k + q) := by rw [gt_get hq, gt_get hq']; simp
          rw [this]
          have := k2 _ (by omega) hq'
          omega
    have hkp : ∀ x ∈ C, kp p.High x = true := fun x hx => by
      rcases (hmem x).1 hx with g | g
      · have := (h.rng x g).2.1
        exact dT (by omega)
      · subst g
        exact dT (by omega)
    have hCl : C.length = p.Below.length + 1 := by rw [hC]; simp; omega
    have hacc : network_Accept p n = some (p.High, true, C) := by
      unfold network_Accept
      simp only [copy_ok h, port_ok h, Option.bind_some, Bool.not_true, Bool.false_eq_true, if_false, dF (c := n < 1) (by omega), dF (c := n > 2147483648) (by omega), beqF e1, W_sm (x := p.High - 32) (by omega) (by omega), dF e2, has_eq (show p.Below.length ≤ 1000 by omega), dB_F e3, dF (c := n > p.High) (by omega), dT (c := n > 0) (by omega), if_true, hb, hins]
      rw [← hC, delete_eq (by omega) (by omega) (by omega), List.filter_eq_self.2 hkp]
      rfl
    have hrng : ∀ x ∈ C, 1 ≤ x ∧ p.High - 31 ≤ x ∧ x < p.High := fun x hx => by
      rcases (hmem x).1 hx with g | g
      · exact h.rng x g
      · omega
    refine ⟨C, hacc, ⟨h0, h1, ?_, hrng, hsrt⟩, fun x hx => ?_⟩
    · have := pw_few (l := C) (lo := p.High - 31) (hi := p.High) hsrt (fun x hx => (hrng x hx).2) (by omega)
      show C.length < 32
      omega
    · unfold Na
      simp only [hmem]
      constructor
      · rintro (g | g | g | g)
        · exact .inr (.inl (.inl g))
        · exact .inr (.inr g)
        · exact .inr (.inl (.inr (.inr g)))
        · exact .inl g
      · rintro (g | (g | g | g) | g)
        · exact .inr (.inr (.inr g))
        · exact .inl g
        · exact .inr (.inl g)
        · exact .inr (.inr (.inl g))
        · exact .inr (.inl g)
end Rx
end Go.Proofs.Ythgnnjdjdmdfoaa
