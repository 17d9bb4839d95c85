/- Nets: cuts, ports and messages: the reference's functions and the program's are equal, for all arguments. Plain laws. -/
import Derived.Test.YtmgflnbgkpcbdaaNx2
set_option linter.unusedVariables false
set_option linter.unusedSimpArgs false
namespace Go.Proofs.Ytmgflnbgkpcbdaa
open Go Go.RowKit Dp
namespace Rx

theorem has_eq {l : List Int} (hl : l.length ≤ 1000) (x : Int) : slices_Contains_int_int l x = some (dB (x ∈ l)) := by
  unfold slices_Contains_int_int slices_Index_int_int
  have h := wp_upto (step := slices_Index_int_int_L1 l x) (s := (0 : Int)) l.length (fun k s => s = (k : Int) ∧ ∀ j, j < k → gt l j ≠ x) (Q := fun r => (r = .inl () ∧ ∀ j, j < l.length → gt l j ≠ x) ∨ ∃ k : Nat, k < l.length ∧ r = .inr (k : Int) ∧ gt l k = x) ⟨rfl, fun j hj => by omega⟩ (fun k s hk hi => by
    obtain ⟨rfl, hi⟩ := hi
    unfold slices_Index_int_int_L1
    simp only [lt_len hk, if_true, idx_gt hk, Option.bind_some]
    by_cases he : gt l k = x
    · simp only [beqT he.symm, if_true]
      exact wp_some.2 (.inr ⟨k, hk, rfl, he⟩)
    · simp only [beqF (Ne.symm he), Bool.false_eq_true, if_false]
      rw [W_succ (by omega)]
      exact wp_some.2 ⟨rfl, fun j hj => by
        by_cases hjk : j = k
        · rw [hjk]; exact he
        · exact hi j (by omega)⟩) (fun s hi => by
    obtain ⟨rfl, hi⟩ := hi
    unfold slices_Index_int_int_L1
    simp only [nlt_len, Bool.false_eq_true, if_false]
    exact wp_some.2 (.inl ⟨rfl, hi⟩)) (by omega)
  obtain ⟨r, h1, h2⟩ := h
  rw [h1]
  rcases h2 with ⟨rfl, h2⟩ | ⟨k, hk, rfl, h3⟩
  · rw [dB_F (fun hc => by
      obtain ⟨j, hj, he⟩ := mem_gt hc
      exact h2 j hj he)]
    rfl
  · rw [dB_T (h3 ▸ gt_mem hk)]
    simp only [Option.bind_some, Sum.elim_inr, dT (c := (k : Int) ≥ 0) (by omega)]
/-- a cable leads out of a side -/
def Outw (l : List Int) (c : Cable) : Prop := ¬ (c.A ∈ l ↔ c.B ∈ l)
theorem cut1_eq {l : List Int} (hl : l.length ≤ 1000) (c : Cable) : network_Cut_1 c l = some (dB (Outw l c)) := by
  unfold network_Cut_1
  simp only [has_eq hl, Option.bind_some]
  congr 1
  refine dB_eq ?_
  unfold Outw
  by_cases ha : c.A ∈ l <;> by_cases hb : c.B ∈ l
  · rw [dB_T ha, dB_T hb]; simp [ha, hb]
  · rw [dB_T ha, dB_F hb]; simp [ha, hb]
  · rw [dB_F ha, dB_T hb]; simp [ha, hb]
  · rw [dB_F ha, dB_F hb]; simp [ha, hb]
theorem outc_eq {w : List Cable} (hw : w.length ≤ 1000) {l : List Int} (hl : l.length ≤ 1000) : slices_ContainsFunc_Cable_Cable w l = some (dB (∃ c ∈ w, Outw l c)) := by
  unfold slices_ContainsFunc_Cable_Cable slices_IndexFunc_Cable_Cable
  have h := wp_upto (step := slices_IndexFunc_Cable_Cable_L1 w l) (s := (0 : Int)) w.length (fun k s => s = (k : Int) ∧ ∀ j, j < k → ¬ Outw l (gt w j)) (Q := fun r => (r = .inl () ∧ ∀ j, j < w.length → ¬ Outw l (gt w j)) ∨ ∃ k : Nat, k < w.length ∧ r = .inr (k : Int) ∧ Outw l (gt w k)) ⟨rfl, fun j hj => by omega⟩ (fun k s hk hi => by
    obtain ⟨rfl, hi⟩ := hi
    unfold slices_IndexFunc_Cable_Cable_L1
    simp only [lt_len hk, if_true, idx_gt hk, Option.bind_some, cut1_eq hl]
    by_cases he : Outw l (gt w k)
    · simp only [dB_T he, if_true]
      exact wp_some.2 (.inr ⟨k, hk, rfl, he⟩)
    · simp only [dB_F he, Bool.false_eq_true, if_false]
      rw [W_succ (by omega)]
      exact wp_some.2 ⟨rfl, fun j hj => by
        by_cases hjk : j = k
        · rw [hjk]; exact he
        · exact hi j (by omega)⟩) (fun s hi => by
    obtain ⟨rfl, hi⟩ := hi
    unfold slices_IndexFunc_Cable_Cable_L1
    simp only [nlt_len, Bool.false_eq_true, if_false]
    exact wp_some.2 (.inl ⟨rfl, hi⟩)) (by omega)
  obtain ⟨r, h1, h2⟩ := h
  rw [h1]
  rcases h2 with ⟨rfl, h2⟩ | ⟨k, hk, rfl, h3⟩
  · rw [dB_F (fun ⟨c, hc, he⟩ => by
      obtain ⟨j, hj, rfl⟩ := mem_gt hc
      exact h2 j hj he)]
    rfl
  · rw [dB_T ⟨_, gt_mem hk, h3⟩]
    simp only [Option.bind_some, Sum.elim_inr, dT (c := (k : Int) ≥ 0) (by omega)]
theorem half_eq {x : Int} (h0 : 0 ≤ x) (h1 : x ≤ 1000000000) : shrO 64 (iwrap IntKind.u64 (W x)) 1 = some (x / 2) := by
  have e1 : W x = x := W_sm (by omega) (by omega)
  have e2 : IntKind.u64.wrap x = x := by
    have hb : IntKind.u64.bits = 64 := rfl
    simp [IntKind.wrap, hb, IntKind.signed]
    omega
  show (if (1 : Int) < 0 then none else some ((IntKind.u64.wrap (W x)).fdiv (2 ^ min (1 : Int).toNat 64))) = _
  rw [e1, e2, if_neg (by omega)]
  congr 1
  show x.fdiv (2 ^ 1) = x / 2
  rw [Int.fdiv_eq_ediv_of_nonneg _ (by decide)]
  rfl
theorem pw_gt {l : List Int} (h : l.Pairwise (· < ·)) {i j : Nat} (hij : i < j) (hj : j < l.length) : gt l i < gt l j := by
  rw [gt_get (by omega), gt_get hj]
  exact List.pairwise_iff_getElem.1 h i j (by omega) hj hij
/-- numbers that stay -/
def kp (h x : Int) : Bool := decide (h - 32 < x)
theorem acc1_eq {h x : Int} (h0 : -1000000000000 ≤ h) (h1 : h ≤ 1000000000000) : network_Accept_1 x h = some (!kp h x, h) := by
  unfold network_Accept_1 kp
  rw [W_sm (x := h - 32) (by omega) (by omega)]
  by_cases hx : h - 32 < x
  · rw [dF (c := x ≤ h - 32) (by omega), dT hx]; rfl
  · rw [dT (c := x ≤ h - 32) (by omega), dF hx]; rfl
theorem take_set_snoc {l : List Int} {i : Nat} {x : Int} (h : i < l.length) : (l.set i x).take (i + 1) = l.take i ++ [x] := by
  rw [take_gt (by simpa using h), gt_set h, if_pos rfl]
  congr 1
  refine ext_gt (by simp) fun k hk => ?_
  have hk' : k < i := by simp at hk; omega
  rw [gt_get (by simp; omega), gt_get (by simp; omega)]
  simp [List.getElem_set]
  omega
theorem delete_eq {l : List Int} (hl : l.length ≤ 1000) {h : Int} (h0 : -1000000000000 ≤ h) (h1 : h ≤ 1000000000000) : slices_DeleteFunc_int_int l h = some (h, l.filter (kp h)) := by
  have hidx : Wp (slices_IndexFunc_int_int_v2 l h) fun r => r.2 = h ∧ ((r.1 = -1 ∧ ∀ j, j < l.length → kp h (gt l j) = true) ∨ ∃ k : Nat, k < l.length ∧ r.1 = (k : Int) ∧ kp h (gt l k) = false ∧ ∀ j, j < k → kp h (gt l j) = true) := by
    unfold slices_IndexFunc_int_int_v2
    have hloop : Wp (loopO (slices_IndexFunc_int_int_v2_L1 l) (0, h)) fun r => (r = .inl h ∧ ∀ j, j < l.length → kp h (gt l j) = true) ∨ ∃ k : Nat, k < l.length ∧ r = .inr ((k : Int), h) ∧ kp h (gt l k) = false ∧ ∀ j, j < k → kp h (gt l j) = true := by
      refine wp_upto l.length (fun i s => s = ((i : Int), h) ∧ ∀ j, j < i → kp h (gt l j) = true) ⟨rfl, fun j hj => by omega⟩ (fun i s hi hv => ?_) (fun s hv => ?_) (by omega)
      · obtain ⟨rfl, hv⟩ := hv
        unfold slices_IndexFunc_int_int_v2_L1
        simp only [lt_len hi, if_true, idx_gt hi, Option.bind_some, acc1_eq h0 h1]
        cases hk : kp h (gt l i) with
        | true =>
          simp only [Bool.not_true, Bool.false_eq_true, if_false]
          rw [W_succ (by omega)]
          exact wp_some.2 ⟨rfl, fun j hj => by
            by_cases hji : j = i
            · rw [hji]; exact hk
            · exact hv j (by omega)⟩
        | false =>
          simp only [Bool.not_false, if_true]
          exact wp_some.2 (.inr ⟨i, hi, rfl, hk, hv⟩)
      · obtain ⟨rfl, hv⟩ := hv
        unfold slices_IndexFunc_int_int_v2_L1
        simp only [nlt_len, Bool.false_eq_true, if_false]
        exact wp_some.2 (.inl ⟨rfl, hv⟩)
    refine hloop.bind fun r hr => ?_
    rcases hr with ⟨rfl, hr⟩ | ⟨k, hk, rfl, hr⟩
    · exact wp_some.2 ⟨rfl, .inl ⟨rfl, hr⟩⟩
    · exact wp_some.2 ⟨rfl, .inr ⟨k, hk, rfl, hr⟩⟩
  obtain ⟨r, hr, hr2, hc⟩ := hidx
  obtain ⟨z, h'⟩ := r
  simp only at hr2 hc
  subst hr2
  unfold slices_DeleteFunc_int_int
  simp only [hr, Option.bind_some]
  rcases hc with ⟨rfl, hall⟩ | ⟨k, hk, rfl, hkk, hb⟩
  · rw [if_pos (beqT rfl)]
    congr 2
    refine (List.filter_eq_self.2 fun x hx => ?_).symm
    obtain ⟨j, hj, rfl⟩ := mem_gt hx
    exact hall j hj
  · rw [if_neg (by rw [beqF (by omega)]; simp)]
    rw [W_succ (by omega)]
    have hpre : ∀ j, j ≤ k → (l.take j).filter (kp h') = l.take j := fun j hj => List.filter_eq_self.2 fun x hx => by
      obtain ⟨q, hq, rfl⟩ := mem_gt hx
      have hq' : q < j := by simp at hq; omega
      have : gt (l.take j) q = gt l q := by rw [gt_get hq, gt_get (by omega)]; simp
      rw [this]
      exact hb q (by omega)
    have hloop : Wp (loopO slices_DeleteFunc_int_int_L1 ((k : Int), ((k + 1 : Nat) : Int), l, h')) fun r => ∃ i : Nat, r.1 = (i : Int) ∧ i ≤ r.2.1.length ∧ r.2.1.length = l.length ∧ r.2.1.take i = l.filter (kp h') ∧ r.2.2 = h' := by
      refine wp_upto (l.length - (k + 1)) (fun p s => ∃ i : Nat, s.1 = (i : Int) ∧ s.2.1 = ((k + 1 + p : Nat) : Int) ∧ i < k + 1 + p ∧ s.2.2.1.length = l.length ∧ s.2.2.1.take i = (l.take (k + 1 + p)).filter (kp h') ∧ (∀ q, k + 1 + p ≤ q → q < l.length → gt s.2.2.1 q = gt l q) ∧ s.2.2.2 = h') ⟨k, rfl, rfl, by omega, rfl, ?_, fun _ _ _ => rfl, rfl⟩ (fun p s hp hv => ?_) (fun s hv => ?_) (by omega)
      · rw [Nat.add_zero, take_gt hk, List.filter_append, hpre k (Nat.le_refl _)]
        simp [hkk]
      · obtain ⟨z, j, d, hh⟩ := s
        obtain ⟨i, e1, e2, e3, e4, e5, e6, e7⟩ := hv
        simp only at e1 e2 e4 e5 e6 e7
        subst e1 e2 e7
        have hj : k + 1 + p < l.length := by omega
        have hjd : k + 1 + p < d.length := by omega
        unfold slices_DeleteFunc_int_int_L1
        simp only [lt_len hjd, if_true, idx_gt hjd, Option.bind_some, acc1_eq h0 h1, e6 _ (Nat.le_refl _) hj, Bool.not_not]
        cases hkp : kp hh (gt l (k + 1 + p)) with
        | true =>
          simp only [if_true, idx_gt (show i < d.length by omega), Option.bind_some]
          rw [setO_nat (by omega)]
          simp only [Option.bind_some]
          rw [W_succ (k := i) (by omega), W_succ (k := k + 1 + p) (by omega)]
          refine wp_some.2 ⟨i + 1, rfl, rfl, by omega, by simp only [List.length_set]; omega, ?_, fun q hq hql => ?_, rfl⟩
          · simp only
            rw [take_set_snoc (by omega), e5, show k + 1 + (p + 1) = k + 1 + p + 1 by omega, take_gt hj, List.filter_append]
            simp [hkp]
          · simp only
            rw [gt_set (by omega), if_neg (by omega)]
            exact e6 q (by omega) hql
        | false =>
          simp only [Bool.false_eq_true, if_false, Option.bind_some]
          rw [W_succ (k := k + 1 + p) (by omega)]
          refine wp_some.2 ⟨i, rfl, rfl, by omega, e4, ?_, fun q hq hql => e6 q (by omega) hql, rfl⟩
          simp only
          rw [e5, show k + 1 + (p + 1) = k + 1 + p + 1 by omega, take_gt hj, List.filter_append]
          simp [hkp]
      · obtain ⟨z, j, d, hh⟩ := s
        obtain ⟨i, e1, e2, e3, e4, e5, e6, e7⟩ := hv
        simp only at e1 e2 e4 e5 e6 e7
        subst e1 e2 e7
        have hjl : k + 1 + (l.length - (k + 1)) = l.length := by omega
        unfold slices_DeleteFunc_int_int_L1
        simp only [dF (c := ((k + 1 + (l.length - (k + 1)) : Nat) : Int) < len d) (by unfold len; omega), Bool.false_eq_true, if_false]
        rw [hjl, List.take_length] at e5
        exact wp_some.2 ⟨i, rfl, by simp only; omega, e4, e5, rfl⟩
    obtain ⟨r, hr', i, f1, f2, f3, f4, f5⟩ := hloop
    obtain ⟨z, d, hh⟩ := r
    simp only at f1 f2 f3 f4 f5
    subst f1 f5
    rw [hr']
    simp only [Option.bind_some]
    rw [slc_drop f2]
    simp only [Option.bind_some]
    have hcl : (clrT 0 d (i : Int)).length = d.length := by simp [clrT]; omega
    rw [slc_take (by rw [hcl]; exact f2)]
    have ht : (clrT (0 : Int) d (i : Int)).take i = d.take i := by
      unfold clrT
      rw [Int.toNat_natCast, List.take_append_of_le_length (by simp; omega), List.take_take, Nat.min_self]
    simp only [Option.bind_some, ht, f4]
theorem pw_few : ∀ {l : List Int} {lo hi : Int}, l.Pairwise (· < ·) → (∀ x ∈ l, lo ≤ x ∧ x < hi) → lo ≤ hi → (l.length : Int) ≤ hi - lo
  | [], lo, hi, _, _, h => by simp; omega
  | a :: r, lo, hi, hp, hr, h => by
    have ha := hr a (by simp)
    have hp' := List.pairwise_cons.1 hp
    have := pw_few (lo := a + 1) (hi := hi) hp'.2 (fun x hx => ⟨by have := hp'.1 x hx; omega, (hr x (by simp [hx])).2⟩) (by omega)
    simp only [List.length_cons]
    omega
/-- the place of a number that is not there -/
theorem search_at {l : List Int} (hl : l.length ≤ 1000) (hs : l.Pairwise (· < ·)) {n : Int} (hno : n ∉ l) : ∃ k : Nat, k ≤ l.length ∧ (∀ i, i < k → gt l i < n) ∧ (∀ i, k ≤ i → i < l.length → n < gt l i) ∧ ∃ b, slices_BinarySearch_int_int l n = some ((k : Int), b) := by
  have hloop : Wp (loopO (slices_BinarySearch_int_int_L1 l n) (0, len l)) fun r => ∃ k : Nat, r = (k : Int) ∧ k ≤ l.length ∧ (∀ i, i < k → gt l i < n) ∧ ∀ i, k ≤ i → i < l.length → n < gt l i := by
    refine wp_while (fun s => (s.2 - s.1).toNat) (fun s => ∃ i j : Nat, s = ((i : Int), (j : Int)) ∧ i ≤ j ∧ j ≤ l.length ∧ (∀ p, p < i → gt l p < n) ∧ ∀ p, j ≤ p → p < l.length → n < gt l p) (fun s hv => ?_) ⟨0, l.length, rfl, Nat.zero_le _, Nat.le_refl _, fun p hp => by omega, fun p h1 h2 => by omega⟩ (by simp only [len]; omega)
    obtain ⟨i, j, rfl, hij, hj, h1, h2⟩ := hv
    unfold slices_BinarySearch_int_int_L1
    simp only
    by_cases hlt : i < j
    · obtain ⟨q, hq⟩ : ∃ q : Nat, ((i : Int) + (j : Int)) / 2 = (q : Int) := ⟨(i + j) / 2, by omega⟩
      have hq1 : i ≤ q ∧ q < j := by omega
      have hWq : W (q : Int) = q := W_sm (by omega) (by omega)
      have hne : gt l q ≠ n := fun e => hno (e ▸ gt_mem (by omega))
      have hless : cmp_Less_int (gt l q) n = some (decide (gt l q < n)) := by
        unfold cmp_Less_int cmp_isNaN_int
        simp
      simp only [dT (c := (i : Int) < (j : Int)) (by omega), if_true]
      rw [half_eq (by omega) (by omega), hq]
      simp only [Option.bind_some, hWq, idx_gt (show q < l.length by omega), hless]
      by_cases hc : gt l q < n
      · simp only [dT hc, if_true, Option.bind_some]
        rw [W_succ (by omega)]
        refine wp_some.2 ⟨⟨q + 1, j, rfl, by omega, hj, fun p hp => ?_, h2⟩, by simp only; omega⟩
        by_cases hpq : p = q
        · rw [hpq]; exact hc
        · have := pw_gt hs (i := p) (j := q) (by omega) (by omega); omega
      · simp only [dF hc, Bool.false_eq_true, if_false, Option.bind_some]
        refine wp_some.2 ⟨⟨i, q, rfl, by omega, by omega, h1, fun p hp hpl => ?_⟩, by simp only; omega⟩
        by_cases hpq : p = q
        · rw [hpq]; omega
        · have := pw_gt hs (i := q) (j := p) (by omega) hpl; omega
    · have : j = i := by omega
      subst this
      simp only [dF (c := (j : Int) < (j : Int)) (by omega), Bool.false_eq_true, if_false]
      exact wp_some.2 ⟨j, rfl, hj, h1, h2⟩
  obtain ⟨r, hr, k, rfl, hk, h1, h2⟩ := hloop
  refine ⟨k, hk, h1, h2, ?_⟩
  unfold slices_BinarySearch_int_int
  simp only [hr, Option.bind_some]
  by_cases hkl : k < l.length
  · have hne : gt l k ≠ n := fun e => hno (e ▸ gt_mem hkl)
    simp only [lt_len hkl, if_true, idx_gt hkl, Option.bind_some, beqF hne, Bool.false_eq_true, if_false]
    unfold slices_isNaN_int
    simp only [Option.bind_some, bne_self_eq_false, Bool.false_eq_true, if_false]
    exact ⟨_, rfl⟩
  · rw [dF (c := (k : Int) < len l) (by unfold len; omega)]
    simp only [Bool.false_eq_true, if_false, Option.bind_some]
    exact ⟨_, rfl⟩
/-- the highest number behind an acceptance -/
def hi2 (h n : Int) : Int := if h < n then n else h
/-! lists that ascend -/
def Asn (l : List Int) : Prop := ∀ k, 0 < k → k < l.length → gt l (k - 1) < gt l k
theorem asn_pw {l : List Int} (h : Asn l) : l.Pairwise (· < ·) := by
  have key : ∀ d i, i + d + 1 < l.length → gt l i < gt l (i + d + 1) := by
    intro d
    induction d with
    | zero => intro i hi; have := h (i + 1) (by omega) (by omega); simpa using this
    | succ d ih =>
      intro i hi
      have h1 := ih i (by omega)
      have h2 := h (i + (d + 1) + 1) (by omega) hi
      rw [show i + (d + 1) + 1 - 1 = i + d + 1 by omega] at h2
      omega
  refine List.pairwise_iff_getElem.2 fun i j hi hj hij => ?_
  have := key (j - i - 1) i (by omega)
  rw [show i + (j - i - 1) + 1 = j by omega, gt_get hi, gt_get hj] at this
  exact this
theorem asc_all {l : List Int} (hl : l.length ≤ 1000000) : network_ascending l = some (dB (Asn l)) := by
  unfold network_ascending
  have h := loop_anyB (step := network_ascending_L1 l) (fun k => ((k + 1 : Nat) : Int)) (l.length - 1) (fun k => ¬ gt l k < gt l (k + 1)) (r := .inr false) (e := .inl ()) (fun k hk hp => by
    have hp : gt l k < gt l (k + 1) := Classical.byContradiction hp
    unfold network_ascending_L1
    simp only [lt_len (show k + 1 < l.length by omega), if_true, W_pred (k := k + 1) (by omega) (by omega), show k + 1 - 1 = k by omega, idx_gt (show k < l.length by omega), idx_gt (show k + 1 < l.length by omega), Option.bind_some, dF (c := gt l k ≥ gt l (k + 1)) (by omega), Bool.false_eq_true, if_false]
    rw [W_succ (by omega)]) (fun k hk hp => by
    unfold network_ascending_L1
    simp only [lt_len (show k + 1 < l.length by omega), if_true, W_pred (k := k + 1) (by omega) (by omega), show k + 1 - 1 = k by omega, idx_gt (show k < l.length by omega), idx_gt (show k + 1 < l.length by omega), Option.bind_some, dT (c := gt l k ≥ gt l (k + 1)) (by omega)]) (by
    unfold network_ascending_L1
    simp only [dF (c := ((l.length - 1 + 1 : Nat) : Int) < len l) (by unfold len; omega), Bool.false_eq_true, if_false]) (by omega)
  have h1 : loopO (network_ascending_L1 l) 1 = _ := h
  rw [h1]
  by_cases hb : ∃ k, k < l.length - 1 ∧ ¬ gt l k < gt l (k + 1)
  · rw [dB_T hb, dB_F (p := Asn l) (fun ha => by
      obtain ⟨k, hk, hno⟩ := hb
      have := ha (k + 1) (by omega) (by omega)
      rw [show k + 1 - 1 = k by omega] at this
      exact hno this)]
    rfl
  · rw [dB_F hb, dB_T (p := Asn l) (fun k h0 hk => Classical.byContradiction fun hno => hb ⟨k - 1, by omega, by rw [show k - 1 + 1 = k by omega]; exact hno⟩)]
    rfl
theorem refhas_eq {l : List Int} (hl : l.length ≤ 1000) (x : Int) : dynposref32_has l x = some (dB (x ∈ l)) := by
  unfold dynposref32_has
  rw [search_all (step := dynposref32_has_L1 l x) l (by omega) (fun j => gt l j = x) (r := .inr true) (e := .inl ()) (fun j hj hp => ?_) (fun j hj hp => ?_) (by unfold dynposref32_has_L1; simp only [nlt_len, Bool.false_eq_true, if_false])]
  · by_cases hb : x ∈ l
    · rw [dB_T (p := ∃ j, j < l.length ∧ _) (mem_gt hb), dB_T hb]; rfl
    · rw [dB_F (p := ∃ j, j < l.length ∧ _) (fun ⟨j, hj, h⟩ => hb (h ▸ gt_mem hj)), dB_F hb]; rfl
  · unfold dynposref32_has_L1
    simp only [lt_len hj, if_true, idx_gt hj, Option.bind_some, beqF hp, Bool.false_eq_true, if_false]
  · unfold dynposref32_has_L1
    simp only [lt_len hj, if_true, idx_gt hj, Option.bind_some, beqT hp]
/-! cuts -/
def CutP (n : Net) (br : List Part) (net : Int) (l : List Int) : Prop := Vn n ∧ (0 ≤ net ∧ net < 2) ∧ (∀ x ∈ l, 0 ≤ x ∧ x < n.Nodes) ∧ Asn l ∧ l.length ≠ 0 ∧ (l.length : Int) < n.Nodes ∧ ¬ ∃ c, Whole n br net c ∧ Outw l c
theorem pcut_eq (n : Net) {br : List Part} (hb : br.length ≤ 1000) (net : Int) {l : List Int} (hl : l.length ≤ 1000) : network_Cut n br net l = some (dB (CutP n br net l)) := by
  unfold network_Cut
  rw [right_all n net hl, asc_all (by omega)]
  simp only [Option.bind_some]
  by_cases h : Vn n ∧ 0 ≤ net ∧ net < 2 ∧ ¬ ∃ x ∈ l, x < 0 ∨ n.Nodes ≤ x
  · rw [dB_T h]
    obtain ⟨hv, n0, n1, hx⟩ := h
    have hr : ∀ x ∈ l, 0 ≤ x ∧ x < n.Nodes := fun x hxl => Classical.byContradiction fun hh => hx ⟨x, hxl, by omega⟩
    simp only [Bool.not_true, Bool.false_eq_true, if_false]
    by_cases ha : Asn l
    · have hfew := pw_few (asn_pw ha) (fun x hxl => hr x hxl) (by have := hv.n0; omega)
      rw [dB_T ha]
      simp only [Bool.not_true, Bool.false_eq_true, if_false]
      by_cases h0 : l.length = 0
      · rw [show (len l == 0) = true from beqT (by unfold len; omega), dB_F (fun hc => hc.2.2.2.2.1 h0)]; rfl
      · rw [show (len l == 0) = false from beqF (by unfold len; omega)]
        simp only [Bool.false_eq_true, if_false, Option.bind_some]
        by_cases h1 : (l.length : Int) = n.Nodes
        · rw [show (len l == n.Nodes) = true from beqT (by unfold len; omega), dB_F (fun hc => by have := hc.2.2.2.2.2.1; omega)]; rfl
        · rw [show (len l == n.Nodes) = false from beqF (by unfold len; omega)]
          simp only [Bool.false_eq_true, if_false]
          obtain ⟨w, hw, hwl, hwm⟩ := wpWhole hv hb net
          rw [hw]
          simp only [Option.bind_some]
          rw [outc_eq (by omega) hl]
          simp only [Option.bind_some]
          congr 1
          by_cases hc : ∃ c ∈ w, Outw l c
          · rw [dB_T hc, dB_F (fun hh => hh.2.2.2.2.2.2 (by obtain ⟨c, hc1, hc2⟩ := hc; exact ⟨c, (hwm c).1 hc1, hc2⟩))]; rfl
          · rw [dB_F hc, dB_T ⟨hv, ⟨n0, n1⟩, hr, ha, h0, by omega, fun ⟨c, hc1, hc2⟩ => hc ⟨c, (hwm c).2 hc1, hc2⟩⟩]; rfl
    · rw [dB_F ha, dB_F (fun hc => ha hc.2.2.2.1)]; rfl
  · rw [dB_F h, dB_F (p := CutP n br net l) (fun hc => h ⟨hc.1, hc.2.1.1, hc.2.1.2, fun ⟨x, hx, hh⟩ => by have := hc.2.2.1 x hx; omega⟩)]; rfl
theorem rcut_eq (n : Net) {br : List Part} (hb : br.length ≤ 1000) (net : Int) {l : List Int} (hl : l.length ≤ 1000) : dynposref32_Cut n br net l = some (dB (CutP n br net l)) := by
  unfold dynposref32_Cut
  rw [refcheck_eq]
  simp only [in_eq, Option.bind_some]
  by_cases hv : Vn n
  · have hv0 := hv.n0
    have hv1 := hv.n1
    have hW : W (n.Nodes - 1) = n.Nodes - 1 := W_sm (by omega) (by omega)
    rw [vE_T hv]
    simp only [bne_self_eq_false, Bool.false_eq_true, if_false]
    by_cases hn : 0 ≤ net ∧ net ≤ 1
    · rw [dT hn]
      simp only [Bool.not_true, Bool.false_eq_true, if_false]
      by_cases h0 : l.length = 0
      · rw [show (len l == 0) = true from beqT (by unfold len; omega), dB_F (fun hc => hc.2.2.2.2.1 h0)]; rfl
      · rw [show (len l == 0) = false from beqF (by unfold len; omega)]
        simp only [Bool.false_eq_true, if_false, Option.bind_some]
        by_cases h1 : (l.length : Int) < n.Nodes
        · rw [dF (c := len l ≥ n.Nodes) (by unfold len; omega)]
          simp only [Bool.false_eq_true, if_false]
          have e1 := search_all (step := dynposref32_Cut_L1 n l) l (by omega) (fun j => ¬ (0 ≤ gt l j ∧ gt l j ≤ n.Nodes - 1) ∨ (0 < j ∧ ¬ gt l (j - 1) < gt l j)) (r := .inr false) (e := .inl ()) (fun j hj hp => by
            have hp1 : 0 ≤ gt l j ∧ gt l j ≤ n.Nodes - 1 := Classical.byContradiction fun hh => hp (.inl hh)
            unfold dynposref32_Cut_L1
            simp only [lt_len hj, if_true, idx_gt hj, Option.bind_some, in_eq, hW, dT hp1, Bool.not_true, Bool.false_eq_true, if_false]
            by_cases hj0 : 0 < j
            · have : gt l (j - 1) < gt l j := Classical.byContradiction fun hh => hp (.inr ⟨hj0, hh⟩)
              simp only [dT (c := (j : Int) > 0) (by omega), if_true, W_pred (k := j) (by omega) hj0, idx_gt (show j - 1 < l.length by omega), Option.bind_some, dF (c := gt l j ≤ gt l (j - 1)) (by omega), Bool.false_eq_true, if_false]
            · simp only [dF (c := (j : Int) > 0) (by omega), Bool.false_eq_true, if_false, Option.bind_some]) (fun j hj hp => by
            unfold dynposref32_Cut_L1
            simp only [lt_len hj, if_true, idx_gt hj, Option.bind_some, in_eq, hW]
            by_cases hp1 : 0 ≤ gt l j ∧ gt l j ≤ n.Nodes - 1
            · obtain ⟨hj0, hp2⟩ := hp.resolve_left (fun hh => hh hp1)
              simp only [dT hp1, Bool.not_true, Bool.false_eq_true, if_false, dT (c := (j : Int) > 0) (by omega), if_true, W_pred (k := j) (by omega) hj0, idx_gt (show j - 1 < l.length by omega), Option.bind_some, dT (c := gt l j ≤ gt l (j - 1)) (by omega)]
            · simp only [dF hp1, Bool.not_false, if_true, Option.bind_some]) (by
            unfold dynposref32_Cut_L1
            simp only [nlt_len, Bool.false_eq_true, if_false])
          rw [e1]
          simp only [Option.bind_some]
          by_cases hbad : ∃ j, j < l.length ∧ (¬ (0 ≤ gt l j ∧ gt l j ≤ n.Nodes - 1) ∨ (0 < j ∧ ¬ gt l (j - 1) < gt l j))
          · rw [dB_T hbad, dB_F (fun hc => by
              obtain ⟨j, hj, hh | ⟨hj0, hh⟩⟩ := hbad
              · have := hc.2.2.1 _ (gt_mem hj); omega
              · exact hh (hc.2.2.2.1 j hj0 hj))]
            rfl
          · rw [dB_F hbad]
            simp only [cond_false, Sum.elim_inl]
            have hr : ∀ x ∈ l, 0 ≤ x ∧ x < n.Nodes := fun x hx => by
              obtain ⟨j, hj, rfl⟩ := mem_gt hx
              exact Classical.byContradiction fun hh => hbad ⟨j, hj, .inl (by omega)⟩
            have ha : Asn l := fun j hj0 hj => Classical.byContradiction fun hh => hbad ⟨j, hj, .inr ⟨hj0, hh⟩⟩
            have hcl := hv.len
            have e2 := search_all (step := dynposref32_Cut_L2 n br net l) n.Cables (by omega) (fun j => Cnt n br net j ∧ Outw l (gt n.Cables j)) (r := .inr false) (e := .inl ()) (fun j hj hp => by
              unfold dynposref32_Cut_L2
              simp only [lt_len hj, if_true, idx_gt hj, Option.bind_some, rwhole_eq hb, refhas_eq hl]
              by_cases h2 : (gt n.Cables j).Net = net
              · by_cases h3 : ∃ p ∈ br, p.Kind = 8 ∧ p.Number = (j : Int)
                · simp only [beqT h2, if_true, dB_F (fun hh : ¬ _ => hh h3), Bool.false_eq_true, if_false, Option.bind_some]
                · have h4 : (gt n.Cables j).A ∈ l ↔ (gt n.Cables j).B ∈ l := Classical.byContradiction fun hh => hp ⟨⟨h2, h3⟩, hh⟩
                  have hq : (!dB ((gt n.Cables j).A ∈ l) == dB ((gt n.Cables j).B ∈ l)) = false := by rw [dB_congr h4]; cases dB ((gt n.Cables j).B ∈ l) <;> rfl
                  simp only [beqT h2, if_true, dB_T h3, hq, Bool.false_eq_true, if_false, Option.bind_some]
              · simp only [beqF h2, Bool.false_eq_true, if_false, Option.bind_some]) (fun j hj hp => by
              obtain ⟨⟨h2, h3⟩, h4⟩ := hp
              have hq : (!dB ((gt n.Cables j).A ∈ l) == dB ((gt n.Cables j).B ∈ l)) = true := by
                unfold Outw at h4
                by_cases ha' : (gt n.Cables j).A ∈ l <;> by_cases hb' : (gt n.Cables j).B ∈ l
                · exact (h4 ⟨fun _ => hb', fun _ => ha'⟩).elim
                · rw [dB_T ha', dB_F hb']; rfl
                · rw [dB_F ha', dB_T hb']; rfl
                · exact (h4 ⟨fun h => (ha' h).elim, fun h => (hb' h).elim⟩).elim
              unfold dynposref32_Cut_L2
              simp only [lt_len hj, if_true, idx_gt hj, Option.bind_some, rwhole_eq hb, refhas_eq hl, beqT h2, dB_T h3, hq]) (by
              unfold dynposref32_Cut_L2
              simp only [nlt_len, Bool.false_eq_true, if_false])
            rw [e2]
            by_cases hout : ∃ j, j < n.Cables.length ∧ Cnt n br net j ∧ Outw l (gt n.Cables j)
            · rw [dB_T hout, dB_F (fun hc => hc.2.2.2.2.2.2 (by
                obtain ⟨j, hj, ⟨h2, h3⟩, h4⟩ := hout
                exact ⟨_, ⟨j, hj, rfl, h2, h3⟩, h4⟩))]
              rfl
            · rw [dB_F hout, dB_T ⟨hv, by omega, hr, ha, h0, h1, fun ⟨c, ⟨j, hj, e, h2, h3⟩, h4⟩ => hout ⟨j, hj, ⟨by rw [e]; exact h2, h3⟩, by rw [e]; exact h4⟩⟩]
              rfl
        · rw [dT (c := len l ≥ n.Nodes) (by unfold len; omega), dB_F (fun hc => h1 hc.2.2.2.2.2.1)]; rfl
    · rw [dF hn, dB_F (fun hc => hn (by have := hc.2.1; omega))]; rfl
  · rw [vE_F hv, dB_F (fun hc => hv hc.1)]; rfl
/-! ports -/
structure PV (p : Port) : Prop where
  h0 : 0 ≤ p.High
  h1 : p.High ≤ 2147483648
  len : p.Below.length ≤ 31
  asn : Asn p.Below
  rng : ∀ x ∈ p.Below, 1 ≤ x ∧ p.High - 31 ≤ x ∧ x < p.High
theorem imax1 {x y : Int} : imax 1 y ≤ x ↔ 1 ≤ x ∧ y ≤ x := by unfold imax; split <;> omega
theorem pport_eq {p : Port} (hl : p.Below.length ≤ 1000) : network_Port p = some (dB (PV p)) := by
  unfold network_Port
  rw [asc_all (by omega)]
  simp only [Option.bind_some, ifor]
  by_cases hg : (0 ≤ p.High ∧ p.High ≤ 2147483648) ∧ p.Below.length ≤ 31 ∧ Asn p.Below
  · obtain ⟨⟨h0, h1⟩, h2, h3⟩ := hg
    have hW : W (W (p.High - 32) + 1) = p.High - 31 := by rw [W_sm (x := p.High - 32) (by omega) (by omega), W_sm (by omega) (by omega)]; omega
    simp only [dF (c := p.High < 0) (by omega), dF (c := p.High > 2147483648) (by omega), dF (c := len p.Below ≥ 32) (by unfold len; omega), dB_T h3, Bool.not_true, Bool.or_false, Bool.false_eq_true, if_false]
    unfold slices_ContainsFunc_int_int_v1 slices_IndexFunc_int_int_v1
    have h := wp_upto (step := slices_IndexFunc_int_int_v1_L1 p.Below p) (s := (0 : Int)) p.Below.length (fun k s => s = (k : Int) ∧ ∀ j, j < k → 1 ≤ gt p.Below j ∧ p.High - 31 ≤ gt p.Below j ∧ gt p.Below j < p.High) (Q := fun r => (r = .inl () ∧ ∀ j, j < p.Below.length → 1 ≤ gt p.Below j ∧ p.High - 31 ≤ gt p.Below j ∧ gt p.Below j < p.High) ∨ ∃ k : Nat, k < p.Below.length ∧ r = .inr (k : Int) ∧ ¬ (1 ≤ gt p.Below k ∧ p.High - 31 ≤ gt p.Below k ∧ gt p.Below k < p.High)) ⟨rfl, fun j hj => by omega⟩ (fun k s hk hi => by
      obtain ⟨rfl, hi⟩ := hi
      unfold slices_IndexFunc_int_int_v1_L1 network_Port_1
      simp only [lt_len hk, if_true, idx_gt hk, Option.bind_some, ifor, hW]
      by_cases he : 1 ≤ gt p.Below k ∧ p.High - 31 ≤ gt p.Below k ∧ gt p.Below k < p.High
      · have hm : imax 1 (p.High - 31) ≤ gt p.Below k := imax1.2 ⟨he.1, he.2.1⟩
        simp only [dF (c := gt p.Below k < imax 1 (p.High - 31)) (by omega), dF (c := gt p.Below k ≥ p.High) (by omega), Bool.or_false, Bool.false_eq_true, if_false]
        rw [W_succ (by omega)]
        exact wp_some.2 ⟨rfl, fun j hj => by
          by_cases hjk : j = k
          · rw [hjk]; exact he
          · exact hi j (by omega)⟩
      · have hb : (decide (gt p.Below k < imax 1 (p.High - 31)) || decide (gt p.Below k ≥ p.High)) = true := by
          simp only [Bool.or_eq_true, decide_eq_true_eq]
          apply Classical.byContradiction
          intro hh
          have := imax1 (x := gt p.Below k) (y := p.High - 31)
          exact he (by
            have h1 := this.1 (by omega)
            omega)
        simp only [hb, if_true]
        exact wp_some.2 (.inr ⟨k, hk, rfl, he⟩)) (fun s hi => by
      obtain ⟨rfl, hi⟩ := hi
      unfold slices_IndexFunc_int_int_v1_L1
      simp only [nlt_len, Bool.false_eq_true, if_false]
      exact wp_some.2 (.inl ⟨rfl, hi⟩)) (by omega)
    obtain ⟨r, hr, hc⟩ := h
    rw [hr]
    rcases hc with ⟨rfl, hc⟩ | ⟨k, hk, rfl, hc⟩
    · rw [dB_T ⟨h0, h1, h2, h3, fun x hx => by
        obtain ⟨j, hj, rfl⟩ := mem_gt hx
        exact hc j hj⟩]
      rfl
    · rw [dB_F (fun hv => hc (hv.rng _ (gt_mem hk)))]
      simp only [Option.bind_some, Sum.elim_inr, dT (c := (k : Int) ≥ 0) (by omega)]
      rfl
  · have hb : (decide (p.High < 0) || (decide (p.High > 2147483648) || (decide (len p.Below ≥ 32) || !dB (Asn p.Below)))) = true := by
      by_cases ha : Asn p.Below
      · simp only [Bool.or_eq_true, decide_eq_true_eq, dB_T ha, Bool.not_true, Bool.false_eq_true, or_false]
        unfold len
        apply Classical.byContradiction
        intro hh
        exact hg ⟨by omega, by omega, ha⟩
      · simp [dB_F ha]
    rw [hb, dB_F (fun hv => hg ⟨⟨hv.h0, hv.h1⟩, hv.len, hv.asn⟩)]
    rfl
theorem rport_eq {p : Port} (hl : p.Below.length ≤ 1000) : dynposref32_Port p = some (dB (PV p)) := by
  unfold dynposref32_Port
  simp only [in_eq, Option.bind_some, ifor]
  by_cases hg : (0 ≤ p.High ∧ p.High ≤ 2147483648) ∧ p.Below.length ≤ 31
  · obtain ⟨⟨h0, h1⟩, h2⟩ := hg
    have hW : W (W (p.High - 32) + 1) = p.High - 31 := by rw [W_sm (x := p.High - 32) (by omega) (by omega), W_sm (by omega) (by omega)]; omega
    have hW1 : W (p.High - 1) = p.High - 1 := W_sm (by omega) (by omega)
    simp only [dT (c := 0 ≤ p.High ∧ p.High ≤ 2147483648) ⟨h0, h1⟩, dF (c := len p.Below > 31) (by unfold len; omega), Bool.not_true, Bool.or_false, Bool.false_eq_true, if_false]
    have e1 := search_all (step := dynposref32_Port_L1 p) p.Below (by omega) (fun j => ¬ (imax 1 (p.High - 31) ≤ gt p.Below j ∧ gt p.Below j ≤ p.High - 1) ∨ (0 < j ∧ ¬ gt p.Below (j - 1) < gt p.Below j)) (r := .inr false) (e := .inl ()) (fun j hj hp => by
      have hp1 : imax 1 (p.High - 31) ≤ gt p.Below j ∧ gt p.Below j ≤ p.High - 1 := Classical.byContradiction fun hh => hp (.inl hh)
      unfold dynposref32_Port_L1
      simp only [lt_len hj, if_true, idx_gt hj, Option.bind_some, in_eq, hW, hW1, dT hp1, Bool.not_true, Bool.false_eq_true, if_false]
      by_cases hj0 : 0 < j
      · have : gt p.Below (j - 1) < gt p.Below j := Classical.byContradiction fun hh => hp (.inr ⟨hj0, hh⟩)
        simp only [dT (c := (j : Int) > 0) (by omega), if_true, W_pred (k := j) (by omega) hj0, idx_gt (show j - 1 < p.Below.length by omega), Option.bind_some, dF (c := gt p.Below j ≤ gt p.Below (j - 1)) (by omega), Bool.false_eq_true, if_false]
      · simp only [dF (c := (j : Int) > 0) (by omega), Bool.false_eq_true, if_false, Option.bind_some]) (fun j hj hp => by
      unfold dynposref32_Port_L1
      simp only [lt_len hj, if_true, idx_gt hj, Option.bind_some, in_eq, hW, hW1]
      by_cases hp1 : imax 1 (p.High - 31) ≤ gt p.Below j ∧ gt p.Below j ≤ p.High - 1
      · obtain ⟨hj0, hp2⟩ := hp.resolve_left (fun hh => hh hp1)
        simp only [dT hp1, Bool.not_true, Bool.false_eq_true, if_false, dT (c := (j : Int) > 0) (by omega), if_true, W_pred (k := j) (by omega) hj0, idx_gt (show j - 1 < p.Below.length by omega), Option.bind_some, dT (c := gt p.Below j ≤ gt p.Below (j - 1)) (by omega)]
      · simp only [dF hp1, Bool.not_false, if_true, Option.bind_some]) (by
      unfold dynposref32_Port_L1
      simp only [nlt_len, Bool.false_eq_true, if_false])
    rw [e1]
    by_cases hbad : ∃ j, j < p.Below.length ∧ (¬ (imax 1 (p.High - 31) ≤ gt p.Below j ∧ gt p.Below j ≤ p.High - 1) ∨ (0 < j ∧ ¬ gt p.Below (j - 1) < gt p.Below j))
    · rw [dB_T hbad, dB_F (fun hv => by
        obtain ⟨j, hj, hh | ⟨hj0, hh⟩⟩ := hbad
        · have := hv.rng _ (gt_mem hj)
          exact hh ⟨imax1.2 ⟨this.1, this.2.1⟩, by omega⟩
        · exact hh (hv.asn j hj0 hj))]
      rfl
    · rw [dB_F hbad, dB_T ⟨h0, h1, h2, fun j hj0 hj => Classical.byContradiction fun hh => hbad ⟨j, hj, .inr ⟨hj0, hh⟩⟩, fun x hx => by
        obtain ⟨j, hj, rfl⟩ := mem_gt hx
        have hh : imax 1 (p.High - 31) ≤ gt p.Below j ∧ gt p.Below j ≤ p.High - 1 := Classical.byContradiction fun hh => hbad ⟨j, hj, .inl hh⟩
        have := imax1.1 hh.1
        omega⟩]
      rfl
  · have hb : (!decide (0 ≤ p.High ∧ p.High ≤ 2147483648) || decide (len p.Below > 31)) = true := by
      simp only [Bool.or_eq_true, decide_eq_true_eq, Bool.not_eq_true', decide_eq_false_iff_not]
      unfold len
      omega
    rw [hb, dB_F (fun hv => hg ⟨⟨hv.h0, hv.h1⟩, hv.len⟩)]
    rfl
theorem pw_ext : ∀ {l m : List Int}, l.Pairwise (· < ·) → m.Pairwise (· < ·) → (∀ x, x ∈ l ↔ x ∈ m) → l = m := by
  intro l
  induction l with
  | nil =>
    intro m _ _ he
    cases m with
    | nil => rfl
    | cons b m => exact (List.not_mem_nil ((he b).2 List.mem_cons_self)).elim
  | cons a l ih =>
    intro m hl hm he
    cases m with
    | nil => exact (List.not_mem_nil ((he a).1 List.mem_cons_self)).elim
    | cons b m =>
      have hl' := List.pairwise_cons.1 hl
      have hm' := List.pairwise_cons.1 hm
      have hab : a = b := by
        rcases List.mem_cons.1 ((he a).1 List.mem_cons_self) with h | h
        · exact h
        · rcases List.mem_cons.1 ((he b).2 List.mem_cons_self) with h2 | h2
          · exact h2.symm
          · have h3 := hm'.1 _ h
            have h4 := hl'.1 _ h2
            omega
      subst hab
      congr 1
      refine ih hl'.2 hm'.2 fun x => ⟨fun hx => ?_, fun hx => ?_⟩
      · rcases List.mem_cons.1 ((he x).1 (List.mem_cons_of_mem _ hx)) with h | h
        · subst h; have := hl'.1 _ hx; omega
        · exact h
      · rcases List.mem_cons.1 ((he x).2 (List.mem_cons_of_mem _ hx)) with h | h
        · subst h; have := hm'.1 _ hx; omega
        · exact h
theorem ins_at {l : List Int} (hl : l.length ≤ 1000) (hs : l.Pairwise (· < ·)) {x : Int} (hno : x ∉ l) : ∃ (k : Int) (b : Bool) (C : List Int), slices_BinarySearch_int_int l x = some (k, b) ∧ slices_Insert_int_int l k [x] = some C ∧ C.Pairwise (· < ·) ∧ (∀ y, y ∈ C ↔ y ∈ l ∨ y = x) ∧ C.length = l.length + 1 := by
  obtain ⟨k, hk, k1, k2, b, hb⟩ := search_at hl hs hno
  refine ⟨k, b, l.take k ++ [x] ++ l.drop k, hb, ?_, ?_, fun y => ?_, ?_⟩
  · unfold slices_Insert_int_int insO
    rw [app_sm (by simp; omega)]
    simp [len, hk]
  · rw [List.append_assoc, List.pairwise_append]
    refine ⟨hs.sublist (List.take_sublist _ _), ?_, fun u hu y hy => ?_⟩
    · rw [List.singleton_append, List.pairwise_cons]
      refine ⟨fun y hy => ?_, hs.sublist (List.drop_sublist _ _)⟩
      obtain ⟨j, hj, rfl⟩ := mem_gt hy
      have hj' : k + j < l.length := by simp at hj; omega
      have : gt (l.drop k) j = gt l (k + j) := by rw [gt_get hj, gt_get hj']; simp
      rw [this]
      exact k2 _ (by omega) hj'
    · obtain ⟨j, hj, rfl⟩ := mem_gt hu
      have hj' : j < k := by simp at hj; omega
      have : gt (l.take k) j = gt l j := by rw [gt_get hj, gt_get (by omega)]; simp
      rw [this]
      have h3 := k1 j hj'
      rw [List.singleton_append] at hy
      rcases List.mem_cons.1 hy with rfl | hy
      · exact h3
      · obtain ⟨q, hq, rfl⟩ := mem_gt hy
        have hq' : k + q < l.length := by simp at hq; omega
        have : gt (l.drop k) q = gt l (k + q) := by rw [gt_get hq, gt_get hq']; simp
        rw [this]
        have := k2 _ (by omega) hq'
        omega
  · simp only [List.mem_append, List.mem_singleton]
    constructor
    · rintro ((g | g) | g)
      · exact .inl (List.mem_of_mem_take g)
      · exact .inr g
      · exact .inl (List.mem_of_mem_drop g)
    · rintro (g | g)
      · have : y ∈ l.take k ++ l.drop k := by rw [List.take_append_drop]; exact g
        rcases List.mem_append.1 this with g | g
        · exact .inl (.inl g)
        · exact .inr g
      · exact .inl (.inr g)
  · simp; omega
theorem copy_all {p : Port} (hl : p.Below.length ≤ 1000) : network_copyPort p = some (p.High, p.Below) := by
  unfold network_copyPort slices_Clone_int_int
  rw [show app ([] : List Int) p.Below = some p.Below from app_sm (by simp; omega)]
  rfl
/-- a number is accepted -/
def Acc (p : Port) (n : Int) : Prop := PV p ∧ (1 ≤ n ∧ n ≤ 2147483648) ∧ n ≠ p.High ∧ ¬ n ≤ p.High - 32 ∧ n ∉ p.Below
theorem accept_F {p : Port} (hl : p.Below.length ≤ 1000) {n : Int} (h : ¬ Acc p n) : network_Accept p n = some (p.High, false, p.Below) ∧ dynposref32_Accept p n = some (p.High, p.Below, false) := by
  unfold network_Accept dynposref32_Accept
  rw [copy_all hl, pport_eq hl, rport_eq hl]
  simp only [in_eq, has_eq hl, refhas_eq hl, Option.bind_some]
  by_cases hv : PV p
  · have h0 := hv.h0
    have h1 := hv.h1
    rw [dB_T hv]
    simp only [Bool.not_true, Bool.false_eq_true, if_false, W_sm (x := p.High - 32) (by omega) (by omega)]
    by_cases hn : 1 ≤ n ∧ n ≤ 2147483648
    · simp only [dF (c := n < 1) (by omega), dF (c := n > 2147483648) (by omega), dT hn, Bool.not_true, Bool.false_eq_true, if_false]
      by_cases h2 : n = p.High
      · simp only [beqT h2, if_true, Option.bind_some]
        exact ⟨trivial, trivial⟩
      · simp only [beqF h2, Bool.false_eq_true, if_false]
        by_cases h3 : n ∈ p.Below
        · simp only [dB_T h3, if_true, Option.bind_some]
          by_cases h4 : n ≤ p.High - 32
          · simp only [dT h4, if_true, Option.bind_some]
            exact ⟨trivial, trivial⟩
          · simp only [dF h4, Bool.false_eq_true, if_false, Option.bind_some, if_true]
            exact ⟨trivial, trivial⟩
        · have h4 : n ≤ p.High - 32 := Classical.byContradiction fun h4 => h ⟨hv, hn, h2, h4, h3⟩
          simp only [dB_F h3, dT h4, if_true, Option.bind_some, Bool.false_eq_true, if_false]
          exact ⟨trivial, trivial⟩
    · constructor
      · by_cases h2 : n < 1
        · simp only [dT h2, if_true, Option.bind_some]
        · simp only [dF h2, dT (c := n > 2147483648) (by omega), if_true, Bool.false_eq_true, if_false, Option.bind_some]
      · simp only [dF hn, Bool.not_false, if_true, Option.bind_some]
  · rw [dB_F hv]
    exact ⟨rfl, rfl⟩
theorem accept_T {p : Port} {n : Int} (h : Acc p n) : ∃ B, B.length ≤ 31 ∧ network_Accept p n = some (hi2 p.High n, true, B) ∧ dynposref32_Accept p n = some (hi2 p.High n, B, true) := by
  obtain ⟨hv, hn, h2, h4, h3⟩ := h
  have h0 := hv.h0
  have h1 := hv.h1
  have hl := hv.len
  have hpw := asn_pw hv.asn
  have hH : p.High ∉ p.Below := fun hx => by have := (hv.rng _ hx).2.2; omega
  have him : imax p.High n = hi2 p.High n := rfl
  obtain ⟨hi, hhi⟩ : ∃ hi, hi2 p.High n = hi := ⟨_, rfl⟩
  have hib : p.High ≤ hi ∧ n ≤ hi ∧ 1 ≤ hi ∧ hi ≤ 2147483648 ∧ (hi = p.High ∨ hi = n) := by
    rw [← hhi]; unfold hi2; split <;> omega
  obtain ⟨b1, b2, b3, b4, b5⟩ := hib
  -- what is under the highest number
  obtain ⟨lw, hlw⟩ : ∃ lw, lw = if n > p.High then p.High else n := ⟨_, rfl⟩
  have hlwno : lw ∉ p.Below := by rw [hlw]; split <;> assumption
  have hlw2 : 0 ≤ lw ∧ lw < hi ∧ (lw = p.High ∧ hi = n ∨ lw = n ∧ hi = p.High) := by
    rw [hlw, ← hhi]; unfold hi2; split <;> omega
  obtain ⟨C, hCe, hCp, hCm, hCl⟩ : ∃ C, (if decide (lw > 0) = true then
              Option.bind (slices_BinarySearch_int_int p.Below lw) fun x6 =>
                Option.bind (slices_Insert_int_int p.Below x6.1 [lw]) fun x7 => some (hi, x7)
            else some (hi, p.Below)) = some (hi, C) ∧ C.Pairwise (· < ·) ∧ (∀ y, 1 ≤ y → (y ∈ C ↔ y ∈ p.Below ∨ y = lw)) ∧ C.length ≤ 32 := by
    by_cases hp : lw > 0
    · obtain ⟨k, b, C, c1, c2, c3, c4, c5⟩ := ins_at (show p.Below.length ≤ 1000 by omega) hpw hlwno
      refine ⟨C, ?_, c3, fun y _ => c4 y, by omega⟩
      rw [if_pos (dT hp), c1]
      simp only [Option.bind_some, c2]
    · refine ⟨p.Below, by rw [if_neg (by rw [dF hp]; simp)], hpw, fun y hy => ⟨.inl, fun g => ?_⟩, by omega⟩
      rcases g with g | g
      · exact g
      · omega
  have hCge : ∀ y ∈ C, 1 ≤ y := by
    intro y hy
    by_cases hp : lw > 0
    · obtain ⟨k, b, C', c1, c2, c3, c4, c5⟩ := ins_at (show p.Below.length ≤ 1000 by omega) hpw hlwno
      have hCe' := hCe
      rw [if_pos (dT hp), c1] at hCe'
      simp only [Option.bind_some, c2] at hCe'
      have e : C' = C := by simpa using hCe'
      subst e
      rcases (c4 y).1 hy with g | g
      · exact (hv.rng y g).1
      · omega
    · rw [if_neg (by rw [dF hp]; simp)] at hCe
      have e : p.Below = C := by simpa using hCe
      rw [← e] at hy
      exact (hv.rng y hy).1
  have hprog : network_Accept p n = some (hi, true, C.filter (kp hi)) := by
    unfold network_Accept
    rw [copy_all (by omega), pport_eq (by omega), dB_T hv]
    simp only [has_eq (show p.Below.length ≤ 1000 by omega), Option.bind_some, Bool.not_true, Bool.false_eq_true, if_false, dF (c := n < 1) (by omega), dF (c := n > 2147483648) (by omega), beqF h2, W_sm (x := p.High - 32) (by omega) (by omega), dF h4, dB_F h3]
    have e5 : (if decide (n > p.High) = true then some (p.High, n) else some (n, p.High)) = some (lw, hi) := by
      rw [hlw, ← hhi]
      unfold hi2
      by_cases hp : n > p.High
      · rw [if_pos (dT hp), if_pos hp, if_pos (by omega)]
      · rw [if_neg (by rw [dF hp]; simp), if_neg hp, if_neg (by omega)]
    rw [e5]
    simp only [Option.bind_some]
    rw [hCe]
    simp only [Option.bind_some]
    rw [delete_eq (by omega) (by omega) (by omega)]
    rfl
  have hfm : ∀ x, x ∈ C.filter (kp hi) ↔ (1 ≤ x ∧ hi - 31 ≤ x ∧ x < hi) ∧ (x ∈ p.Below ∨ x = p.High ∨ x = n) := by
    intro x
    rw [List.mem_filter]
    unfold kp
    simp only [decide_eq_true_eq]
    constructor
    · rintro ⟨hx, hk⟩
      have hx1 := hCge x hx
      rcases (hCm x hx1).1 hx with g | g
      · have := hv.rng x g
        exact ⟨by omega, .inl g⟩
      · exact ⟨by omega, by omega⟩
    · rintro ⟨hr, hx⟩
      refine ⟨(hCm x hr.1).2 ?_, by omega⟩
      rcases hx with g | g | g
      · exact .inl g
      · exact .inr (by omega)
      · exact .inr (by omega)
  have hlen : (C.filter (kp hi)).length ≤ 31 := by
    have := pw_few (l := C.filter (kp hi)) (lo := hi - 31) (hi := hi) (hCp.filter _) (fun x hx => by have := ((hfm x).1 hx).1; omega) (by omega)
    omega
  refine ⟨C.filter (kp hi), hlen, by rw [hhi]; exact hprog, ?_⟩
  unfold dynposref32_Accept
  rw [rport_eq (by omega), dB_T hv]
  simp only [in_eq, refhas_eq (show p.Below.length ≤ 1000 by omega), Option.bind_some, Bool.not_true, Bool.false_eq_true, if_false, dT hn, beqF h2, dB_F h3, W_sm (x := p.High - 32) (by omega) (by omega), dF h4, him, hhi]
  have hW : W (W (hi - 32) + 1) = hi - 31 := by rw [W_sm (x := hi - 32) (by omega) (by omega), W_sm (by omega) (by omega)]; omega
  rw [hW]
  obtain ⟨lo, hlo⟩ : ∃ lo, imax 1 (hi - 31) = lo := ⟨_, rfl⟩
  have hlo2 : 1 ≤ lo ∧ hi - 31 ≤ lo ∧ lo ≤ hi ∧ ∀ x : Int, lo ≤ x ↔ 1 ≤ x ∧ hi - 31 ≤ x := by
    rw [← hlo]
    have := imax1 (x := hi) (y := hi - 31)
    refine ⟨?_, ?_, this.2 (by omega), fun x => imax1⟩ <;> (unfold imax; split <;> omega)
  obtain ⟨g1, g2, g3, g4⟩ := hlo2
  rw [hlo]
  have hloop : Wp (loopO (dynposref32_Accept_L1 p n) (lo, [])) fun r => r.Pairwise (· < ·) ∧ ∀ x, x ∈ r ↔ (lo ≤ x ∧ x < hi) ∧ (x ∈ p.Below ∨ x = p.High ∨ x = n) := by
    refine wp_upto (hi - lo).toNat (fun k s => s.1 = lo + k ∧ s.2.length ≤ k ∧ s.2.Pairwise (· < ·) ∧ ∀ x, x ∈ s.2 ↔ (lo ≤ x ∧ x < lo + k) ∧ (x ∈ p.Below ∨ x = p.High ∨ x = n)) ⟨by simp, Nat.le_refl _, List.Pairwise.nil, fun x => ⟨fun h => by simp at h, fun h => by have := h.1; omega⟩⟩ (fun k s hk hv' => ?_) (fun s hv' => ?_) (by omega)
    · obtain ⟨z, o⟩ := s
      simp only at hv'
      obtain ⟨rfl, v1, v2, v3⟩ := hv'
      unfold dynposref32_Accept_L1
      simp only [him, hhi, dT (c := lo + (k : Int) < hi) (by omega), if_true, refhas_eq (show p.Below.length ≤ 1000 by omega), Option.bind_some, ifor]
      have hWs : W (lo + (k : Int) + 1) = lo + ((k + 1 : Nat) : Int) := by rw [W_sm (by omega) (by omega)]; omega
      by_cases hx : lo + (k : Int) ∈ p.Below ∨ lo + (k : Int) = p.High ∨ lo + (k : Int) = n
      · have hb : (dB (lo + (k : Int) ∈ p.Below) || ((lo + (k : Int) == p.High) || (lo + (k : Int) == n))) = true := by
          rcases hx with g | g | g
          · simp [dB_T g]
          · simp [g]
          · simp [g]
        simp only [hb, if_true]
        rw [app_sm (by simp; omega)]
        simp only [Option.bind_some, hWs]
        refine wp_some.2 ⟨rfl, by simp; omega, ?_, fun x => ?_⟩
        · refine List.pairwise_append.2 ⟨v2, by simp, fun u hu y hy => ?_⟩
          have : y = lo + (k : Int) := by simpa using hy
          have := ((v3 u).1 hu).1
          omega
        · simp only [List.mem_append, List.mem_singleton, v3]
          constructor
          · rintro (⟨g, g'⟩ | rfl)
            · exact ⟨by omega, g'⟩
            · exact ⟨by omega, hx⟩
          · rintro ⟨g, g'⟩
            by_cases e : x = lo + (k : Int)
            · exact .inr e
            · exact .inl ⟨by omega, g'⟩
      · have hb : (dB (lo + (k : Int) ∈ p.Below) || ((lo + (k : Int) == p.High) || (lo + (k : Int) == n))) = false := by
          rw [dB_F (fun g => hx (.inl g)), beqF (fun g => hx (.inr (.inl g))), beqF (fun g => hx (.inr (.inr g)))]; rfl
        simp only [hb, Bool.false_eq_true, if_false, Option.bind_some, hWs]
        refine wp_some.2 ⟨rfl, by simp only; omega, v2, fun x => ?_⟩
        simp only [v3]
        constructor
        · rintro ⟨g, g'⟩
          exact ⟨by omega, g'⟩
        · rintro ⟨g, g'⟩
          by_cases e : x = lo + (k : Int)
          · subst e; exact (hx g').elim
          · exact ⟨by omega, g'⟩
    · obtain ⟨z, o⟩ := s
      simp only at hv'
      obtain ⟨rfl, v1, v2, v3⟩ := hv'
      unfold dynposref32_Accept_L1
      simp only [him, hhi, dF (c := lo + ((hi - lo).toNat : Int) < hi) (by omega), Bool.false_eq_true, if_false]
      refine wp_some.2 ⟨v2, fun x => ?_⟩
      rw [v3]
      rw [show lo + ((hi - lo).toNat : Int) = hi by omega]
  obtain ⟨r, hr, hr1, hr2⟩ := hloop
  rw [hr]
  have e : r = C.filter (kp hi) := pw_ext hr1 (hCp.filter _) fun x => by
    rw [hr2, hfm, g4]
    constructor
    · rintro ⟨⟨⟨a, b⟩, c⟩, d⟩; exact ⟨⟨a, b, c⟩, d⟩
    · rintro ⟨⟨a, b, c⟩, d⟩; exact ⟨⟨⟨a, b⟩, c⟩, d⟩
  rw [e]
  rfl
theorem acc_both {p : Port} (hl : p.Below.length ≤ 1000) (n : Int) : ∃ (h : Int) (ok : Bool) (B : List Int), B.length ≤ 1000 ∧ network_Accept p n = some (h, ok, B) ∧ dynposref32_Accept p n = some (h, B, ok) := by
  by_cases h : Acc p n
  · obtain ⟨B, h1, h2, h3⟩ := accept_T h
    exact ⟨_, _, B, by omega, h2, h3⟩
  · obtain ⟨h2, h3⟩ := accept_F hl h
    exact ⟨_, _, p.Below, hl, h2, h3⟩

end Rx
end Go.Proofs.Ytmgflnbgkpcbdaa
