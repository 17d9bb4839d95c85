/- Ports: what is accepted where numbers ascend. Plain laws. -/
import Derived.Test.YthgnnjdjdmdfoaaLawNetworkReaches
set_option linter.unusedVariables false
set_option linter.unusedSimpArgs false
namespace Go.Proofs.Ythgnnjdjdmdfoaa
open Go Go.RowKit Dp
namespace Rx

theorem half_eq {x : Int} (h0 : 0 ≤ x) (h1 : x ≤ 1000000000) : shrO 64 (iwrap IntKind.u64 (W x)) 1 = some (x / 2) := by
  have e1 : W x = x := W_sm (by omega) (by omega)
  have e2 : IntKind.u64.wrap x = x := by
    have hb : IntKind.u64.bits = 64 := rfl
    simp [IntKind.wrap, hb, IntKind.signed]
    omega
  show (if (1 : Int) < 0 then none else some ((IntKind.u64.wrap (W x)).fdiv (2 ^ min (1 : Int).toNat 64))) = _
  rw [e1, e2, if_neg (by omega)]
  congr 1
  show x.fdiv (2 ^ 1) = x / 2
  rw [Int.fdiv_eq_ediv_of_nonneg _ (by decide)]
  rfl
/-- a valid port -/
structure Pv (p : Port) : Prop where
  h0 : 0 ≤ p.High
  h1 : p.High ≤ 100000
  len : p.Below.length < 32
  rng : ∀ x ∈ p.Below, 1 ≤ x ∧ p.High - 31 ≤ x ∧ x < p.High
  srt : p.Below.Pairwise (· < ·)
theorem pw_gt {l : List Int} (h : l.Pairwise (· < ·)) {i j : Nat} (hij : i < j) (hj : j < l.length) : gt l i < gt l j := by
  rw [gt_get (by omega), gt_get hj]
  exact List.pairwise_iff_getElem.1 h i j (by omega) hj hij
theorem port_ok {p : Port} (h : Pv p) : network_Port p = some true := by
  have hl := h.len
  have h0 := h.h0
  have h1 := h.h1
  have e := loop_run (step := slices_IndexFunc_int_int_v1_L1 p.Below p) (r := .inl ()) (fun k => (k : Int)) p.Below.length (fun k hk => by
    obtain ⟨r1, r2, r3⟩ := h.rng _ (gt_mem hk)
    have hm : imax 1 (W (W (p.High - 32) + 1)) ≤ gt p.Below k := by
      rw [W_sm (x := p.High - 32) (by omega) (by omega), W_sm (by omega) (by omega)]
      unfold imax
      split <;> omega
    unfold slices_IndexFunc_int_int_v1_L1 network_Port_1
    simp only [lt_len hk, if_true, idx_gt hk, Option.bind_some, dF (c := gt p.Below k < imax 1 (W (W (p.High - 32) + 1))) (by omega), dF (c := gt p.Below k ≥ p.High) (by omega), Bool.false_eq_true, if_false]
    rw [W_succ (by omega)]) (by
    unfold slices_IndexFunc_int_int_v1_L1
    simp only [nlt_len, Bool.false_eq_true, if_false])
  simp only [show ((0 : Nat) : Int) = 0 from rfl] at e
  unfold network_Port
  simp only [dF (c := p.High < 0) (by omega), dF (c := p.High > 2147483648) (by omega), dF (c := len p.Below ≥ 32) (by unfold len; omega), asc_ok (show p.Below.length ≤ 1000 by omega) (fun k k0 hk => pw_gt h.srt (by omega) hk), Bool.false_eq_true, if_false, Option.bind_some, Bool.not_true]
  unfold slices_ContainsFunc_int_int_v1 slices_IndexFunc_int_int_v1
  rw [e]
  rfl
theorem search_end {l : List Int} (hl : l.length ≤ 1000) {n : Int} (h : ∀ x ∈ l, x < n) : slices_BinarySearch_int_int l n = some ((l.length : Int), false) := by
  have hloop : Wp (loopO (slices_BinarySearch_int_int_L1 l n) (0, len l)) fun r => r = (l.length : Int) := by
    refine wp_while (fun s => (s.2 - s.1).toNat) (fun s => ∃ i : Nat, s = ((i : Int), (l.length : Int)) ∧ i ≤ l.length) (fun s hs => ?_) ⟨0, rfl, Nat.zero_le _⟩ (by simp only [len]; omega)
    obtain ⟨i, rfl, hi⟩ := hs
    unfold slices_BinarySearch_int_int_L1
    simp only
    by_cases hlt : i < l.length
    · obtain ⟨q, hq⟩ : ∃ q : Nat, ((i : Int) + (l.length : Int)) / 2 = (q : Int) := ⟨(i + l.length) / 2, by omega⟩
      have hq1 : i ≤ q ∧ q < l.length := by omega
      have hWq : W (q : Int) = q := W_sm (by omega) (by omega)
      have hless : cmp_Less_int (gt l q) n = some true := by
        unfold cmp_Less_int cmp_isNaN_int
        simp [h _ (gt_mem hq1.2)]
      simp only [dT (c := (i : Int) < (l.length : Int)) (by omega), if_true]
      rw [half_eq (by omega) (by omega), hq]
      simp only [Option.bind_some, hWq, idx_gt hq1.2, hless, if_true]
      rw [W_succ (by omega)]
      exact wp_some.2 ⟨⟨q + 1, rfl, by omega⟩, by simp only; omega⟩
    · have : i = l.length := by omega
      subst this
      simp only [dF (c := (l.length : Int) < (l.length : Int)) (by omega), Bool.false_eq_true, if_false]
      exact wp_some.2 rfl
  obtain ⟨r, hr, rfl⟩ := hloop
  unfold slices_BinarySearch_int_int
  simp only [hr, Option.bind_some, nlt_len, Bool.false_eq_true, if_false]
/-- numbers that stay -/
def kp (h x : Int) : Bool := decide (h - 32 < x)
theorem acc1_eq {h x : Int} (h0 : -1000000 ≤ h) (h1 : h ≤ 1000000) : network_Accept_1 x h = some (!kp h x, h) := by
  unfold network_Accept_1 kp
  rw [W_sm (x := h - 32) (by omega) (by omega)]
  by_cases hx : h - 32 < x
  · rw [dF (c := x ≤ h - 32) (by omega), dT hx]; rfl
  · rw [dT (c := x ≤ h - 32) (by omega), dF hx]; rfl
theorem take_set_snoc {l : List Int} {i : Nat} {x : Int} (h : i < l.length) : (l.set i x).take (i + 1) = l.take i ++ [x] := by
  rw [take_gt (by simpa using h), gt_set h, if_pos rfl]
  congr 1
  refine ext_gt (by simp) fun k hk => ?_
  have hk' : k < i := by simp at hk; omega
  rw [gt_get (by simp; omega), gt_get (by simp; omega)]
  simp [List.getElem_set]
  omega
theorem delete_eq {l : List Int} (hl : l.length ≤ 1000) {h : Int} (h0 : -1000000 ≤ h) (h1 : h ≤ 1000000) : slices_DeleteFunc_int_int l h = some (h, l.filter (kp h)) := by
  have hidx : Wp (slices_IndexFunc_int_int_v2 l h) fun r => r.2 = h ∧ ((r.1 = -1 ∧ ∀ j, j < l.length → kp h (gt l j) = true) ∨ ∃ k : Nat, k < l.length ∧ r.1 = (k : Int) ∧ kp h (gt l k) = false ∧ ∀ j, j < k → kp h (gt l j) = true) := by
    unfold slices_IndexFunc_int_int_v2
    have hloop : Wp (loopO (slices_IndexFunc_int_int_v2_L1 l) (0, h)) fun r => (r = .inl h ∧ ∀ j, j < l.length → kp h (gt l j) = true) ∨ ∃ k : Nat, k < l.length ∧ r = .inr ((k : Int), h) ∧ kp h (gt l k) = false ∧ ∀ j, j < k → kp h (gt l j) = true := by
      refine wp_upto l.length (fun i s => s = ((i : Int), h) ∧ ∀ j, j < i → kp h (gt l j) = true) ⟨rfl, fun j hj => by omega⟩ (fun i s hi hv => ?_) (fun s hv => ?_) (by omega)
      · obtain ⟨rfl, hv⟩ := hv
        unfold slices_IndexFunc_int_int_v2_L1
        simp only [lt_len hi, if_true, idx_gt hi, Option.bind_some, acc1_eq h0 h1]
        cases hk : kp h (gt l i) with
        | true =>
          simp only [Bool.not_true, Bool.false_eq_true, if_false]
          rw [W_succ (by omega)]
          exact wp_some.2 ⟨rfl, fun j hj => by
            by_cases hji : j = i
            · rw [hji]; exact hk
            · exact hv j (by omega)⟩
        | false =>
          simp only [Bool.not_false, if_true]
          exact wp_some.2 (.inr ⟨i, hi, rfl, hk, hv⟩)
      · obtain ⟨rfl, hv⟩ := hv
        unfold slices_IndexFunc_int_int_v2_L1
        simp only [nlt_len, Bool.false_eq_true, if_false]
        exact wp_some.2 (.inl ⟨rfl, hv⟩)
    refine hloop.bind fun r hr => ?_
    rcases hr with ⟨rfl, hr⟩ | ⟨k, hk, rfl, hr⟩
    · exact wp_some.2 ⟨rfl, .inl ⟨rfl, hr⟩⟩
    · exact wp_some.2 ⟨rfl, .inr ⟨k, hk, rfl, hr⟩⟩
  obtain ⟨r, hr, hr2, hc⟩ := hidx
  obtain ⟨z, h'⟩ := r
  simp only at hr2 hc
  subst hr2
  unfold slices_DeleteFunc_int_int
  simp only [hr, Option.bind_some]
  rcases hc with ⟨rfl, hall⟩ | ⟨k, hk, rfl, hkk, hb⟩
  · rw [if_pos (beqT rfl)]
    congr 2
    refine (List.filter_eq_self.2 fun x hx => ?_).symm
    obtain ⟨j, hj, rfl⟩ := mem_gt hx
    exact hall j hj
  · rw [if_neg (by rw [beqF (by omega)]; simp)]
    rw [W_succ (by omega)]
    have hpre : ∀ j, j ≤ k → (l.take j).filter (kp h') = l.take j := fun j hj => List.filter_eq_self.2 fun x hx => by
      obtain ⟨q, hq, rfl⟩ := mem_gt hx
      have hq' : q < j := by simp at hq; omega
      have : gt (l.take j) q = gt l q := by rw [gt_get hq, gt_get (by omega)]; simp
      rw [this]
      exact hb q (by omega)
    have hloop : Wp (loopO slices_DeleteFunc_int_int_L1 ((k : Int), ((k + 1 : Nat) : Int), l, h')) fun r => ∃ i : Nat, r.1 = (i : Int) ∧ i ≤ r.2.1.length ∧ r.2.1.length = l.length ∧ r.2.1.take i = l.filter (kp h') ∧ r.2.2 = h' := by
      refine wp_upto (l.length - (k + 1)) (fun p s => ∃ i : Nat, s.1 = (i : Int) ∧ s.2.1 = ((k + 1 + p : Nat) : Int) ∧ i < k + 1 + p ∧ s.2.2.1.length = l.length ∧ s.2.2.1.take i = (l.take (k + 1 + p)).filter (kp h') ∧ (∀ q, k + 1 + p ≤ q → q < l.length → gt s.2.2.1 q = gt l q) ∧ s.2.2.2 = h') ⟨k, rfl, rfl, by omega, rfl, ?_, fun _ _ _ => rfl, rfl⟩ (fun p s hp hv => ?_) (fun s hv => ?_) (by omega)
      · rw [Nat.add_zero, take_gt hk, List.filter_append, hpre k (Nat.le_refl _)]
        simp [hkk]
      · obtain ⟨z, j, d, hh⟩ := s
        obtain ⟨i, e1, e2, e3, e4, e5, e6, e7⟩ := hv
        simp only at e1 e2 e4 e5 e6 e7
        subst e1 e2 e7
        have hj : k + 1 + p < l.length := by omega
        have hjd : k + 1 + p < d.length := by omega
        unfold slices_DeleteFunc_int_int_L1
        simp only [lt_len hjd, if_true, idx_gt hjd, Option.bind_some, acc1_eq h0 h1, e6 _ (Nat.le_refl _) hj, Bool.not_not]
        cases hkp : kp hh (gt l (k + 1 + p)) with
        | true =>
          simp only [if_true, idx_gt (show i < d.length by omega), Option.bind_some]
          rw [setO_nat (by omega)]
          simp only [Option.bind_some]
          rw [W_succ (k := i) (by omega), W_succ (k := k + 1 + p) (by omega)]
          refine wp_some.2 ⟨i + 1, rfl, rfl, by omega, by simp only [List.length_set]; omega, ?_, fun q hq hql => ?_, rfl⟩
          · simp only
            rw [take_set_snoc (by omega), e5, show k + 1 + (p + 1) = k + 1 + p + 1 by omega, take_gt hj, List.filter_append]
            simp [hkp]
          · simp only
            rw [gt_set (by omega), if_neg (by omega)]
            exact e6 q (by omega) hql
        | false =>
          simp only [Bool.false_eq_true, if_false, Option.bind_some]
          rw [W_succ (k := k + 1 + p) (by omega)]
          refine wp_some.2 ⟨i, rfl, rfl, by omega, e4, ?_, fun q hq hql => e6 q (by omega) hql, rfl⟩
          simp only
          rw [e5, show k + 1 + (p + 1) = k + 1 + p + 1 by omega, take_gt hj, List.filter_append]
          simp [hkp]
      · obtain ⟨z, j, d, hh⟩ := s
        obtain ⟨i, e1, e2, e3, e4, e5, e6, e7⟩ := hv
        simp only at e1 e2 e4 e5 e6 e7
        subst e1 e2 e7
        have hjl : k + 1 + (l.length - (k + 1)) = l.length := by omega
        unfold slices_DeleteFunc_int_int_L1
        simp only [dF (c := ((k + 1 + (l.length - (k + 1)) : Nat) : Int) < len d) (by unfold len; omega), Bool.false_eq_true, if_false]
        rw [hjl, List.take_length] at e5
        exact wp_some.2 ⟨i, rfl, by simp only; omega, e4, e5, rfl⟩
    obtain ⟨r, hr', i, f1, f2, f3, f4, f5⟩ := hloop
    obtain ⟨z, d, hh⟩ := r
    simp only at f1 f2 f3 f4 f5
    subst f1 f5
    rw [hr']
    simp only [Option.bind_some]
    rw [slc_drop f2]
    simp only [Option.bind_some]
    have hcl : (clrT 0 d (i : Int)).length = d.length := by simp [clrT]; omega
    rw [slc_take (by rw [hcl]; exact f2)]
    have ht : (clrT (0 : Int) d (i : Int)).take i = d.take i := by
      unfold clrT
      rw [Int.toNat_natCast, List.take_append_of_le_length (by simp; omega), List.take_take, Nat.min_self]
    simp only [Option.bind_some, ht, f4]
theorem pw_few : ∀ {l : List Int} {lo hi : Int}, l.Pairwise (· < ·) → (∀ x ∈ l, lo ≤ x ∧ x < hi) → lo ≤ hi → (l.length : Int) ≤ hi - lo
  | [], lo, hi, _, _, h => by simp; omega
  | a :: r, lo, hi, hp, hr, h => by
    have ha := hr a (by simp)
    have hp' := List.pairwise_cons.1 hp
    have := pw_few (lo := a + 1) (hi := hi) hp'.2 (fun x hx => ⟨by have := hp'.1 x hx; omega, (hr x (by simp [hx])).2⟩) (by omega)
    simp only [List.length_cons]
    omega
theorem copy_ok {p : Port} (h : Pv p) : network_copyPort p = some (p.High, p.Below) := by
  have := h.len
  unfold network_copyPort slices_Clone_int_int
  rw [show app ([] : List Int) p.Below = some p.Below from app_sm (by simp; omega)]
  rfl
theorem accept_same {p : Port} (h : Pv p) : network_Accept p p.High = some (p.High, false, p.Below) := by
  unfold network_Accept
  simp only [copy_ok h, port_ok h, Option.bind_some, Bool.not_true, Bool.false_eq_true, if_false, beq_self_eq_true, if_true]
  have h1 := h.h1
  rw [dF (c := p.High > 2147483648) (by omega)]
  by_cases hh : p.High < 1
  · rw [dT hh]; rfl
  · rw [dF hh]; rfl
theorem accept_up {p : Port} (h : Pv p) {n : Int} (hn : p.High < n) (hm : n ≤ 100000) : ∃ B, network_Accept p n = some (n, true, B) ∧ Pv ⟨n, B⟩ := by
  have h0 := h.h0
  have h1 := h.h1
  have hl := h.len
  have hno : ¬ n ∈ p.Below := fun hx => by have := (h.rng n hx).2.2; omega
  obtain ⟨C, hC⟩ : ∃ C, C = if p.High > 0 then p.Below ++ [p.High] else p.Below := ⟨_, rfl⟩
  have hCl : C.length ≤ 32 := by
    rw [hC]
    split
    · rw [List.length_append]; simp only [List.length_singleton]; omega
    · omega
  have hCr : ∀ x ∈ C, 1 ≤ x ∧ x < n := fun x hx => by
    rw [hC] at hx
    split at hx
    · rcases List.mem_append.1 hx with hx | hx
      · have := h.rng x hx; omega
      · have : x = p.High := by simpa using hx
        omega
    · have := h.rng x hx; omega
  have hCp : C.Pairwise (· < ·) := by
    rw [hC]
    split
    · refine List.pairwise_append.2 ⟨h.srt, by simp, fun x hx y hy => ?_⟩
      have : y = p.High := by simpa using hy
      have := (h.rng x hx).2.2
      omega
    · exact h.srt
  have hmid : (if decide (p.High > 0) = true then
              Option.bind (slices_BinarySearch_int_int p.Below p.High) fun x6 =>
                Option.bind (slices_Insert_int_int p.Below x6.1 [p.High]) fun x7 => some (n, x7)
            else some (n, p.Below)) = some (n, C) := by
    rw [hC]
    by_cases hp : p.High > 0
    · rw [if_pos (dT hp), if_pos hp, search_end (by omega) (fun x hx => (h.rng x hx).2.2)]
      simp only [Option.bind_some]
      have hins : slices_Insert_int_int p.Below (p.Below.length : Int) [p.High] = some (p.Below ++ [p.High]) := by
        unfold slices_Insert_int_int insO
        rw [app_sm (by simp; omega)]
        simp [len]
      rw [hins]
      rfl
    · rw [if_neg (by rw [dF hp]; simp), if_neg hp]
  refine ⟨C.filter (kp n), ?_, ⟨by show (0 : Int) ≤ n; omega, hm, ?_, fun x hx => ?_, hCp.filter _⟩⟩
  · unfold network_Accept
    simp only [copy_ok h, port_ok h, Option.bind_some, Bool.not_true, Bool.false_eq_true, if_false, dF (c := n < 1) (by omega), dF (c := n > 2147483648) (by omega), beqF (show n ≠ p.High by omega), W_sm (x := p.High - 32) (by omega) (by omega), dF (c := n ≤ p.High - 32) (by omega), has_eq (show p.Below.length ≤ 1000 by omega), dB_F hno, dT (c := n > p.High) (by omega), if_true]
    rw [hmid]
    simp only [Option.bind_some]
    rw [delete_eq (by omega) (by omega) (by omega)]
    rfl
  · have := pw_few (l := C.filter (kp n)) (lo := n - 31) (hi := n) (hCp.filter _) (fun x hx => by
      obtain ⟨hx1, hx2⟩ := List.mem_filter.1 hx
      have := (hCr x hx1).2
      have := of_decide_eq_true hx2
      omega) (by omega)
    show (C.filter (kp n)).length < 32
    omega
  · obtain ⟨hx1, hx2⟩ := List.mem_filter.1 hx
    have := hCr x hx1
    have := of_decide_eq_true hx2
    show 1 ≤ x ∧ n - 31 ≤ x ∧ x < n
    omega
end Rx
end Go.Proofs.Ythgnnjdjdmdfoaa
