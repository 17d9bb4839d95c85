/- Scripts of faults: what is broken, shifted, left out: the reference's functions and the program's are equal, for all lists. Plain laws. -/
import Derived.Test.YtkgfdplcjdidhaaFx6
set_option linter.unusedVariables false
set_option linter.unusedSimpArgs false
namespace Go.Proofs.Ytkgfdplcjdidhaa
open Go Go.RowKit Dp
namespace Rx

def ot (p : Part) (l : List Fault) : List Fault := l.filter fun f => !eqP f.Part p
theorem ot_mem {p : Part} {l : List Fault} {f : Fault} : f ∈ ot p l ↔ f ∈ l ∧ f.Part ≠ p := by
  unfold ot
  rw [List.mem_filter]
  refine and_congr_right fun _ => ?_
  by_cases e : f.Part = p
  · rw [eqP_iff.2 e]; simp [e]
  · rw [eqP_F e]; simp [e]
theorem del_eq {l : List Fault} (hl : l.length ≤ 1000) (p : Part) : slices_DeleteFunc_Fault_Fault_v2 l p = some (ot p l) := by
  have hw : ∀ f : Fault, faults_Without_1 f p = some (eqP f.Part p) := fun f => rfl
  have hfind : Wp (loopO (slices_IndexFunc_Fault_Fault_v1_L1 l p) 0) fun r => (r = .inl () ∧ ∀ i, i < l.length → eqP (gt l i).Part p = false) ∨ ∃ k : Nat, r = .inr (k : Int) ∧ k < l.length ∧ eqP (gt l k).Part p = true ∧ ∀ i, i < k → eqP (gt l i).Part p = false := by
    refine wp_upto (s := (0 : Int)) l.length (fun k s => s = (k : Int) ∧ ∀ i, i < k → eqP (gt l i).Part p = false) ⟨rfl, fun i hi => by omega⟩ (fun k s hk hv => ?_) (fun s hv => ?_) (by omega)
    · obtain ⟨rfl, hv⟩ := hv
      unfold slices_IndexFunc_Fault_Fault_v1_L1
      simp only [lt_len hk, if_true, idx_gt hk, Option.bind_some, hw]
      cases hq : eqP (gt l k).Part p with
      | true => exact wp_some.2 (.inr ⟨k, rfl, hk, hq, hv⟩)
      | false =>
        simp only [Bool.false_eq_true, if_false]
        rw [W_succ (by omega)]
        refine wp_some.2 ⟨rfl, fun i hi => ?_⟩
        by_cases hik : i = k
        · rw [hik]; exact hq
        · exact hv i (by omega)
    · obtain ⟨rfl, hv⟩ := hv
      unfold slices_IndexFunc_Fault_Fault_v1_L1
      simp only [nlt_len, Bool.false_eq_true, if_false]
      exact wp_some.2 (.inl ⟨rfl, hv⟩)
  have take_ot : ∀ k, k ≤ l.length → (∀ i, i < k → eqP (gt l i).Part p = false) → ot p (l.take k) = l.take k := fun k hk h => List.filter_eq_self.2 fun f hf => by
    obtain ⟨i, hi, rfl⟩ := List.mem_iff_getElem.1 hf
    simp only [List.length_take] at hi
    rw [List.getElem_take, ← gt_get, h i (by omega)]
    rfl
  obtain ⟨r, hr, hr2⟩ := hfind
  unfold slices_DeleteFunc_Fault_Fault_v2 slices_IndexFunc_Fault_Fault_v1
  rw [hr]
  rcases hr2 with ⟨rfl, h⟩ | ⟨k, rfl, hk, h1, h2⟩
  · have := take_ot l.length (Nat.le_refl _) h
    rw [List.take_length] at this
    rw [this]
    rfl
  · simp only [Option.bind_some, Sum.elim_inr]
    rw [beqF (a := (k : Int)) (b := -1) (by omega)]
    simp only [Bool.false_eq_true, if_false]
    have hloop : Wp (loopO (slices_DeleteFunc_Fault_Fault_v2_L1 p) ((k : Int), W ((k : Int) + 1), l)) fun r => ∃ (i : Nat) (d : List Fault), r = ((i : Int), d) ∧ i ≤ d.length ∧ d.length = l.length ∧ d.take i = ot p l := by
      rw [W_succ (by omega)]
      refine wp_while (fun s => l.length - s.2.1.toNat) (fun s => ∃ (i j : Nat) (d : List Fault), s = ((i : Int), (j : Int), d) ∧ i < j ∧ j ≤ l.length ∧ d.length = l.length ∧ d.take i = ot p (l.take j) ∧ ∀ q, j ≤ q → q < l.length → gt d q = gt l q) (fun s hs => ?_) ⟨k, k + 1, l, rfl, by omega, by omega, rfl, ?_, fun q _ _ => rfl⟩ (by omega)
      · obtain ⟨i, j, d, rfl, j1, j2, j3, j4, j5⟩ := hs
        unfold slices_DeleteFunc_Fault_Fault_v2_L1
        simp only
        by_cases hj : j < l.length
        · have ea := j5 j (Nat.le_refl _) hj
          have eo : ot p (l.take (j + 1)) = ot p (l.take j) ++ if eqP (gt l j).Part p = true then [] else [gt l j] := by
            rw [take_gt hj]
            unfold ot
            rw [List.filter_append]
            cases hq : eqP (gt l j).Part p <;> simp [hq]
          simp only [lt_len (show j < d.length by omega), if_true, idx_gt (show j < d.length by omega), Option.bind_some, ea, hw]
          cases hq : eqP (gt l j).Part p with
          | true =>
            rw [hq, if_pos rfl, List.append_nil] at eo
            simp only [Bool.not_true, Bool.false_eq_true, if_false, Option.bind_some]
            rw [W_succ (by omega)]
            exact wp_some.2 ⟨⟨i, j + 1, d, rfl, by omega, by omega, j3, by rw [j4, eo], fun q h1 h2 => j5 q (by omega) h2⟩, by simp only; omega⟩
          | false =>
            rw [hq] at eo
            simp only [Bool.false_eq_true, if_false] at eo
            simp only [Bool.not_false, if_true, idx_gt (show i < d.length by omega), Option.bind_some]
            rw [setO_nat (show i < d.length by omega)]
            simp only [Option.bind_some]
            rw [W_succ (by omega), W_succ (by omega)]
            refine wp_some.2 ⟨⟨i + 1, j + 1, d.set i (gt l j), rfl, by omega, by omega, by simp [j3], ?_, fun q h1 h2 => ?_⟩, by simp only; omega⟩
            · rw [eo, ← j4, take_gt (by simp; omega), gt_set (by omega), if_pos rfl, List.take_set_of_le (Nat.le_refl _)]
            · rw [gt_set (by omega), if_neg (by omega)]
              exact j5 q (by omega) h2
        · have hj : j = l.length := by omega
          rw [dF (c := (j : Int) < len d) (by unfold len; omega)]
          simp only [Bool.false_eq_true, if_false]
          rw [hj, List.take_length] at j4
          exact wp_some.2 ⟨i, d, rfl, by omega, j3, j4⟩
      · rw [take_gt hk]
        have := take_ot k (by omega) h2
        unfold ot at this ⊢
        rw [List.filter_append, this]
        simp [h1]
    obtain ⟨r, hr, i, d, rfl, i1, i2, i3⟩ := hloop
    rw [hr]
    simp only [Option.bind_some]
    rw [slc_drop i1]
    simp only [Option.bind_some]
    rw [slc_take (by simp [clrT]; omega)]
    have ht : (clrT (Fault.mk 0 0 (Part.mk 0 0)) d (i : Int)).take i = d.take i := by
      unfold clrT
      rw [Int.toNat_natCast, List.take_append_of_le_length (by simp; omega), List.take_take, Nat.min_self]
    simp only [Option.bind_some, ht, i3]
def sh (k : Int) (f : Fault) : Fault := ⟨f.Time + k, f.Kind, f.Part⟩
theorem reverse_eq {l : List Fault} (hl : l.length ≤ 1000) : slices_Reverse_Fault_Fault l = some l.reverse := by
  have hloop : Wp (loopO slices_Reverse_Fault_Fault_L1 (0, W (len l - 1), l)) fun r => r = l.reverse := by
    have e0 : W (len l - 1) = len l - 1 := W_sm (by unfold len; omega) (by unfold len; omega)
    rw [e0]
    refine wp_while (fun s => (s.2.1 + 1).toNat) (fun s => ∃ i : Nat, 2 * i ≤ l.length + 1 ∧ s.1 = (i : Int) ∧ s.2.1 = len l - 1 - i ∧ s.2.2.length = l.length ∧ ∀ q, q < l.length → gt s.2.2 q = if q < i ∨ l.length - i ≤ q then gt l (l.length - 1 - q) else gt l q) (fun s hs => ?_) ⟨0, by omega, rfl, by simp only; omega, rfl, fun q hq => by rw [if_neg (by omega)]⟩ (by simp only [len]; omega)
    obtain ⟨x, y, d⟩ := s
    obtain ⟨i, i1, i2, i3, i4, i5⟩ := hs
    simp only at i2 i3 i4 i5
    subst i2
    unfold slices_Reverse_Fault_Fault_L1
    simp only
    by_cases hlt : 2 * i + 1 < l.length
    · have hy : y = ((l.length - 1 - i : Nat) : Int) := by rw [i3]; unfold len; omega
      subst hy
      rw [dT (c := (i : Int) < ((l.length - 1 - i : Nat) : Int)) (by omega)]
      simp only [if_true, idx_gt (show l.length - 1 - i < d.length by omega), idx_gt (show i < d.length by omega), Option.bind_some]
      rw [setO_nat (show i < d.length by omega)]
      simp only [Option.bind_some]
      rw [idx_gt (show l.length - 1 - i < (d.set i (gt d (l.length - 1 - i))).length by simp; omega)]
      simp only [Option.bind_some]
      rw [setO_nat (by simp; omega)]
      simp only [Option.bind_some]
      rw [W_succ (by omega), W_pred (k := l.length - 1 - i) (by omega) (by omega)]
      refine wp_some.2 ⟨⟨i + 1, by omega, rfl, by simp only [len]; omega, by simp [i4], fun q hq => ?_⟩, by simp only; omega⟩
      simp only
      rw [gt_set (by simp; omega), gt_set (by omega)]
      by_cases h1 : q = l.length - 1 - i
      · rw [if_pos h1, if_pos (by omega), i5 i (by omega), if_neg (by omega)]
        congr 1
        omega
      · rw [if_neg h1]
        by_cases h2 : q = i
        · rw [if_pos h2, if_pos (by omega), i5 _ (by omega), if_neg (by omega)]
          congr 1
          omega
        · rw [if_neg h2, i5 q hq]
          by_cases h3 : q < i ∨ l.length - i ≤ q
          · rw [if_pos h3, if_pos (by omega)]
          · rw [if_neg h3, if_neg (by omega)]
    · rw [dF (c := (i : Int) < y) (by rw [i3]; unfold len; omega)]
      simp only [Bool.false_eq_true, if_false]
      refine wp_some.2 (ext_gt (by simp [i4]) fun q hq => ?_)
      rw [i4] at hq
      have er : gt l.reverse q = gt l (l.length - 1 - q) := by rw [gt_get (by simpa using hq), gt_get (by omega), List.getElem_reverse]
      rw [er, i5 q hq]
      split
      · rfl
      · congr 1
        omega
  obtain ⟨r, hr, rfl⟩ := hloop
  unfold slices_Reverse_Fault_Fault
  rw [hr]
  rfl
theorem parts_both (l : List Fault) : ∃ d, faults_Parts l = some d ∧ dynposref34_Parts l = some d ∧ d.length ≤ 24 ∧ (chk l = 0 → PL d fun p => ∃ f ∈ l, f.Part = p) := by
  by_cases h : chk l = 0
  · obtain ⟨hl, hv⟩ := chk_vl h
    obtain ⟨d, h1, h2⟩ := Parts_eq hv hl
    obtain ⟨d', e1, e2, e3⟩ := rparts_eq (x := l) (by omega) hv.vf
    have hd : d = d' := h2.eq e2 fun p => Iff.rfl
    subst hd
    refine ⟨d, h1, ?_, by omega, fun _ => h2⟩
    unfold dynposref34_Parts
    rw [rcheck_eq, h]
    simp only [Option.bind_some, bne_self_eq_false, Bool.false_eq_true, if_false, e1]
  · refine ⟨[], ?_, ?_, by simp, fun hh => (h hh).elim⟩
    · unfold faults_Parts
      rw [check_eq]
      simp only [Option.bind_some, bneT h, if_true]
    · unfold dynposref34_Parts
      rw [rcheck_eq]
      simp only [Option.bind_some, bneT h, if_true]
theorem ract2_eq {l : List Fault} (hl : l.length ≤ 1000) (t : Int) (p : Part) : loopO (dynposref34_Active_L2 l t p) (false, 0) = some (lst (Up l t) p == 1) := by
  have h : Wp (loopO (dynposref34_Active_L2 l t p) (false, 0)) fun r => r = (lst (Up l t) p == 1) := by
    refine wp_upto l.length (fun k s => s.2 = (k : Int) ∧ s.1 = (lst (Up (l.take k) t) p == 1)) ⟨rfl, rfl⟩ (fun k s hk hv => ?_) (fun s hv => ?_) (by omega)
    · obtain ⟨c, z⟩ := s
      simp only at hv
      obtain ⟨rfl, rfl⟩ := hv
      unfold dynposref34_Active_L2
      simp only [lt_len hk, if_true, idx_gt hk, Option.bind_some]
      rw [show ((gt l k).Part.Kind == p.Kind && (gt l k).Part.Number == p.Number) = eqP (gt l k).Part p from rfl, ifand]
      simp only [Option.bind_some, ifb]
      rw [W_succ (by omega)]
      refine wp_some.2 ⟨rfl, ?_⟩
      simp only
      rw [take_gt hk, Up_app]
      by_cases ht : (gt l k).Time ≤ t
      · rw [Up_all (l := [gt l k]) (fun f hf => by rw [List.mem_singleton.1 hf]; exact ht), lst_snoc, dT ht, Bool.and_true]
        split <;> rfl
      · rw [Up_none (l := [gt l k]) (fun f hf => by rw [List.mem_singleton.1 hf]; exact ht), List.append_nil, dF ht, Bool.and_false]
        rfl
    · obtain ⟨c, z⟩ := s
      simp only at hv
      obtain ⟨rfl, rfl⟩ := hv
      unfold dynposref34_Active_L2
      simp only [nlt_len, Bool.false_eq_true, if_false]
      rw [List.take_length]
      exact wp_some.2 rfl
  exact wp_eq.1 h
theorem act_both (l : List Fault) (t : Int) : ∃ d, faults_Active l t = some d ∧ dynposref34_Active l t = some d ∧ d.length ≤ 24 ∧ (chk l = 0 → PL d fun p => lst (Up l t) p = 1) := by
  by_cases h : chk l = 0
  · obtain ⟨hl, hv⟩ := chk_vl h
    obtain ⟨d, h1, h2⟩ := Active_eq hv hl t
    obtain ⟨ps, _, e1, e2, e3⟩ := parts_both l
    have e3 := e3 h
    have hloop := loop_each (l := ps) (step := dynposref34_Active_L1 l t ps) (fun pre => pre.filter fun p => lst (Up l t) p == 1) (fun k hk => by
      unfold dynposref34_Active_L1
      simp only [lt_len hk, if_true, idx_gt hk, Option.bind_some]
      rw [ract2_eq (by omega)]
      simp only [Option.bind_some]
      rw [List.filter_append]
      have hle := List.length_filter_le (fun p => lst (Up l t) p == 1) (ps.take k)
      cases hq : lst (Up l t) (gt ps k) == 1 with
      | true =>
        simp only [if_true]
        rw [app_sm (by simp at hle ⊢; omega)]
        simp [hq]
      | false => simp [hq]) (by
      unfold dynposref34_Active_L1
      simp only [nlt_len, Bool.false_eq_true, if_false]
      all_goals rfl) (by omega)
    have hpl : PL (ps.filter fun p => lst (Up l t) p == 1) fun p => lst (Up l t) p = 1 := ⟨e3.asc.filter _, fun q hq => e3.vp q (List.mem_filter.1 hq).1, fun q => by
      rw [List.mem_filter, e3.mem]
      constructor
      · intro hh; simpa using hh.2
      · intro hh
        refine ⟨?_, by simpa using hh⟩
        rcases lst_char (Up l t) q with ⟨h2, _⟩ | ⟨a, f, b, he, h2, _, _⟩
        · omega
        · exact ⟨f, (Up_mem.1 (show f ∈ Up l t by rw [he]; simp)).1, h2⟩⟩
    have hd : d = ps.filter fun p => lst (Up l t) p == 1 := h2.eq hpl fun p => Iff.rfl
    have hle := List.length_filter_le (fun p => lst (Up l t) p == 1) ps
    refine ⟨d, h1, ?_, by rw [hd]; omega, fun _ => h2⟩
    unfold dynposref34_Active
    rw [rcheck_eq, h]
    simp only [Option.bind_some, bne_self_eq_false, Bool.false_eq_true, if_false, e1]
    simp only [List.filter_nil] at hloop
    rw [hloop, hd]
    rfl
  · refine ⟨[], ?_, ?_, by simp, fun hh => (h hh).elim⟩
    · unfold faults_Active
      rw [check_eq]
      simp only [Option.bind_some, bneT h, if_true]
    · unfold dynposref34_Active
      rw [rcheck_eq]
      simp only [Option.bind_some, bneT h, if_true]
theorem pl_at {l : List Fault} (hv : Vs l) (t : Int) (q : Fault → Bool) (hq : ∀ f ∈ l, q f = true → f.Time = t) : PL ((l.filter q).map Fault.Part) fun p => ∃ f ∈ l, q f = true ∧ f.Part = p := by
  refine ⟨?_, fun p hp => ?_, fun p => ?_⟩
  · refine List.pairwise_map.2 ?_
    refine List.Pairwise.imp_of_mem (fun {a b} ha hb hab => ?_) (hv.asc.filter q)
    have h1 := hq a (List.mem_filter.1 ha).1 (List.mem_filter.1 ha).2
    have h2 := hq b (List.mem_filter.1 hb).1 (List.mem_filter.1 hb).2
    unfold fk at hab
    omega
  · obtain ⟨f, hf, rfl⟩ := List.mem_map.1 hp
    exact (hv.vf f (List.mem_filter.1 hf).1).p
  · rw [List.mem_map]
    constructor
    · rintro ⟨f, hf, e⟩
      exact ⟨f, (List.mem_filter.1 hf).1, (List.mem_filter.1 hf).2, e⟩
    · rintro ⟨f, hf, h1, e⟩
      exact ⟨f, List.mem_filter.2 ⟨hf, h1⟩, e⟩
theorem now_both (l : List Fault) (t : Int) : ∃ a b, faults_Now l t = some (a, b) ∧ dynposref34_Now l t = some (a, b) ∧ a.length ≤ 24 ∧ b.length ≤ 24 := by
  by_cases h : chk l = 0
  · obtain ⟨hl, hv⟩ := chk_vl h
    obtain ⟨a, b, h1, ha, hb⟩ := Now_eq hv hl t
    obtain ⟨q1, hq1⟩ : ∃ q1 : Fault → Bool, q1 = fun f => f.Time == t && f.Kind == 1 := ⟨_, rfl⟩
    obtain ⟨q2, hq2⟩ : ∃ q2 : Fault → Bool, q2 = fun f => f.Time == t && !(f.Kind == 1) := ⟨_, rfl⟩
    have hloop : Wp (loopO (dynposref34_Now_L1 l t) (0, [], [])) fun r => r = ((l.filter q1).map Fault.Part, (l.filter q2).map Fault.Part) := by
      refine wp_upto l.length (fun k s => s.1 = (k : Int) ∧ s.2.1 = ((l.take k).filter q1).map Fault.Part ∧ s.2.2 = ((l.take k).filter q2).map Fault.Part) ⟨rfl, rfl, rfl⟩ (fun k s hk hi => ?_) (fun s hi => ?_) (by omega)
      · obtain ⟨z, u, w⟩ := s
        simp only at hi
        obtain ⟨rfl, rfl, rfl⟩ := hi
        have l1 := List.length_filter_le q1 (l.take k)
        have l2 := List.length_filter_le q2 (l.take k)
        unfold dynposref34_Now_L1
        simp only [lt_len hk, if_true, idx_gt hk, Option.bind_some]
        rw [take_gt hk, List.filter_append, List.filter_append, List.map_append, List.map_append]
        by_cases ht : (gt l k).Time = t
        · simp only [bneF ht, Bool.false_eq_true, if_false]
          by_cases hk1 : (gt l k).Kind = 1
          · have c1 : q1 (gt l k) = true := by rw [hq1]; simp [ht, hk1]
            have c2 : q2 (gt l k) = false := by rw [hq2]; simp [ht, hk1]
            simp only [beqT hk1, if_true]
            rw [app_sm (by simp at l1 ⊢; omega)]
            simp only [Option.bind_some]
            rw [W_succ (by omega)]
            exact wp_some.2 ⟨rfl, by simp [c1], by simp [c2]⟩
          · have c1 : q1 (gt l k) = false := by rw [hq1]; simp [ht, hk1]
            have c2 : q2 (gt l k) = true := by rw [hq2]; simp [ht, hk1]
            simp only [beqF hk1, Bool.false_eq_true, if_false]
            rw [app_sm (by simp at l2 ⊢; omega)]
            simp only [Option.bind_some]
            rw [W_succ (by omega)]
            exact wp_some.2 ⟨rfl, by simp [c1], by simp [c2]⟩
        · have c1 : q1 (gt l k) = false := by rw [hq1]; simp [ht]
          have c2 : q2 (gt l k) = false := by rw [hq2]; simp [ht]
          simp only [bneT ht, if_true, Option.bind_some]
          rw [W_succ (by omega)]
          exact wp_some.2 ⟨rfl, by simp [c1], by simp [c2]⟩
      · obtain ⟨z, u, w⟩ := s
        simp only at hi
        obtain ⟨rfl, rfl, rfl⟩ := hi
        unfold dynposref34_Now_L1
        simp only [nlt_len, Bool.false_eq_true, if_false]
        rw [List.take_length]
        exact wp_some.2 rfl
    have p1 := pl_at hv.toVs t q1 (fun f _ hf => by rw [hq1] at hf; simp at hf; exact hf.1)
    have p2 := pl_at hv.toVs t q2 (fun f _ hf => by rw [hq2] at hf; simp at hf; exact hf.1)
    have ea : a = (l.filter q1).map Fault.Part := ha.eq p1 fun p => by
      rw [hq1]
      simp [and_assoc]
    have eb : b = (l.filter q2).map Fault.Part := hb.eq p2 fun p => by
      rw [hq2]
      simp only [Bool.and_eq_true, beq_iff_eq, Bool.not_eq_true', beq_eq_false_iff_ne]
      constructor
      · rintro ⟨f, hf, g1, g2, g3⟩
        exact ⟨f, hf, ⟨g1, by omega⟩, g3⟩
      · rintro ⟨f, hf, ⟨g1, g2⟩, g3⟩
        have := (hv.vf f hf).k
        exact ⟨f, hf, g1, by omega, g3⟩
    have l1 := List.length_filter_le q1 l
    have l2 := List.length_filter_le q2 l
    refine ⟨a, b, h1, ?_, by rw [ea]; simp; omega, by rw [eb]; simp; omega⟩
    unfold dynposref34_Now
    rw [rcheck_eq, h]
    simp only [Option.bind_some, bne_self_eq_false, Bool.false_eq_true, if_false]
    rw [wp_eq.1 hloop, ea, eb]
    rfl
  · refine ⟨[], [], ?_, ?_, by simp, by simp⟩
    · unfold faults_Now
      rw [check_eq]
      simp only [Option.bind_some, bneT h, if_true]
    · unfold dynposref34_Now
      rw [rcheck_eq]
      simp only [Option.bind_some, bneT h, if_true]
/-- a fault can be shifted -/
def Shok (k : Int) (f : Fault) : Prop := 0 ≤ f.Time + k ∧ f.Time + k ≤ 2147483648
theorem shift_both (l : List Fault) (k : Int) : ∃ r, faults_Shift l k = some r ∧ dynposref34_Shift l k = some r ∧ r.2.length ≤ 24 := by
  by_cases h : chk l = 0
  · obtain ⟨hl, hv⟩ := chk_vl h
    have c1 : ∀ f ∈ l, Option.bind (if decide (k > 2147483648) = true then some true else if decide (k < (-2147483648)) = true then some true else if decide (W (f.Time + k) < 0) = true then some true else some (decide (W (f.Time + k) > 2147483648))) some = some (!dB (Shok k f)) := fun f hf => by
      have t0 := (hv.vf f hf).t0
      have t1 := (hv.vf f hf).t1
      simp only [ifor, Option.bind_some]
      congr 1
      by_cases q1 : k > 2147483648
      · rw [dT q1, dB_F (fun hh => by unfold Shok at hh; omega)]; rfl
      by_cases q2 : k < -2147483648
      · rw [dF q1, dT q2, dB_F (fun hh => by unfold Shok at hh; omega)]; rfl
      rw [dF q1, dF q2, W_sm (by omega) (by omega)]
      by_cases q3 : f.Time + k < 0
      · rw [dT q3, dB_F (fun hh => by unfold Shok at hh; omega)]; rfl
      by_cases q4 : f.Time + k > 2147483648
      · rw [dF q3, dT q4, dB_F (fun hh => by unfold Shok at hh; omega)]; rfl
      · rw [dF q3, dF q4, dB_T (show Shok k f by unfold Shok; omega)]; rfl
    have c2 : ∀ f ∈ l, Option.bind (if decide (k < W (-f.Time)) = true then some true else some (decide (k > W (2147483648 - f.Time)))) some = some (!dB (Shok k f)) := fun f hf => by
      have t0 := (hv.vf f hf).t0
      have t1 := (hv.vf f hf).t1
      simp only [ifor, Option.bind_some]
      congr 1
      rw [W_sm (x := -f.Time) (by omega) (by omega), W_sm (x := 2147483648 - f.Time) (by omega) (by omega)]
      by_cases q3 : k < -f.Time
      · rw [dT q3, dB_F (fun hh => by unfold Shok at hh; omega)]; rfl
      by_cases q4 : k > 2147483648 - f.Time
      · rw [dF q3, dT q4, dB_F (fun hh => by unfold Shok at hh; omega)]; rfl
      · rw [dF q3, dF q4, dB_T (show Shok k f by unfold Shok; omega)]; rfl
    simp only [Option.bind_fun_some] at c1 c2
    have a1 : Wp (loopO (faults_Shift_L1 l k) (0, l)) fun r => (r = .inl (l.map (sh k)) ∧ ∀ j, j < l.length → Shok k (gt l j)) ∨ (r = .inr (1, []) ∧ ∃ j, j < l.length ∧ ¬ Shok k (gt l j)) := by
      refine wp_upto l.length (fun j s => s.1 = (j : Int) ∧ s.2 = (l.take j).map (sh k) ++ l.drop j ∧ ∀ i, i < j → Shok k (gt l i)) ⟨rfl, rfl, fun i hi => by omega⟩ (fun j s hj hi => ?_) (fun s hi => ?_) (by omega)
      · obtain ⟨z, o⟩ := s
        simp only at hi
        obtain ⟨rfl, rfl, hi⟩ := hi
        unfold faults_Shift_L1
        simp only [lt_len hj, if_true, idx_gt hj, Option.bind_some, c1 _ (gt_mem hj)]
        by_cases hok : Shok k (gt l j)
        · have hdr : l.drop j = gt l j :: l.drop (j + 1) := by rw [List.drop_eq_getElem_cons hj, gt_get hj]
          have e1 : idx ((l.take j).map (sh k) ++ l.drop j) (j : Int) = some (gt l j) := by rw [hdr]; exact idx_mid _ _ _ (by simp; omega)
          have e2 : setO ((l.take j).map (sh k) ++ l.drop j) (j : Int) (sh k (gt l j)) = some ((l.take j).map (sh k) ++ sh k (gt l j) :: l.drop (j + 1)) := by rw [hdr]; exact setO_mid _ _ _ _ (by simp; omega)
          have eW : W ((gt l j).Time + k) = (gt l j).Time + k := W_sm (by unfold Shok at hok; omega) (by unfold Shok at hok; omega)
          simp only [dB_T hok, Bool.not_true, Bool.false_eq_true, if_false, e1, Option.bind_some, eW]
          rw [show (Fault.mk ((gt l j).Time + k) (gt l j).Kind (gt l j).Part) = sh k (gt l j) from rfl, e2]
          simp only [Option.bind_some]
          rw [W_succ (by omega)]
          refine wp_some.2 ⟨rfl, by simp only; rw [take_gt hj]; simp, fun i hij => ?_⟩
          by_cases e : i = j
          · rw [e]; exact hok
          · exact hi i (by omega)
        · simp only [dB_F hok, Bool.not_false, if_true]
          exact wp_some.2 (.inr ⟨rfl, j, hj, hok⟩)
      · obtain ⟨z, o⟩ := s
        simp only at hi
        obtain ⟨rfl, rfl, hi⟩ := hi
        unfold faults_Shift_L1
        simp only [nlt_len, Bool.false_eq_true, if_false]
        exact wp_some.2 (.inl ⟨by simp, hi⟩)
    have a2 : Wp (loopO (dynposref34_Shift_L1 l k) (0, [])) fun r => (r = .inl (l.map (sh k)) ∧ ∀ j, j < l.length → Shok k (gt l j)) ∨ (r = .inr (1, []) ∧ ∃ j, j < l.length ∧ ¬ Shok k (gt l j)) := by
      refine wp_upto l.length (fun j s => s.1 = (j : Int) ∧ s.2 = (l.take j).map (sh k) ∧ ∀ i, i < j → Shok k (gt l i)) ⟨rfl, rfl, fun i hi => by omega⟩ (fun j s hj hi => ?_) (fun s hi => ?_) (by omega)
      · obtain ⟨z, o⟩ := s
        simp only at hi
        obtain ⟨rfl, rfl, hi⟩ := hi
        unfold dynposref34_Shift_L1
        simp only [lt_len hj, if_true, idx_gt hj, Option.bind_some, c2 _ (gt_mem hj)]
        by_cases hok : Shok k (gt l j)
        · have eW : W ((gt l j).Time + k) = (gt l j).Time + k := W_sm (by unfold Shok at hok; omega) (by unfold Shok at hok; omega)
          simp only [dB_T hok, Bool.not_true, Bool.false_eq_true, if_false, eW]
          rw [show (Fault.mk ((gt l j).Time + k) (gt l j).Kind (gt l j).Part) = sh k (gt l j) from rfl, app_sm (by simp; omega)]
          simp only [Option.bind_some]
          rw [W_succ (by omega)]
          refine wp_some.2 ⟨rfl, by simp only; rw [take_gt hj]; simp, fun i hij => ?_⟩
          by_cases e : i = j
          · rw [e]; exact hok
          · exact hi i (by omega)
        · simp only [dB_F hok, Bool.not_false, if_true]
          exact wp_some.2 (.inr ⟨rfl, j, hj, hok⟩)
      · obtain ⟨z, o⟩ := s
        simp only at hi
        obtain ⟨rfl, rfl, hi⟩ := hi
        unfold dynposref34_Shift_L1
        simp only [nlt_len, Bool.false_eq_true, if_false]
        exact wp_some.2 (.inl ⟨by simp, hi⟩)
    obtain ⟨r1, hr1, d1⟩ := a1
    obtain ⟨r2, hr2, d2⟩ := a2
    have hp : faults_Shift l k = Sum.elim (fun x => some (0, x)) (fun x => some x) r1 := by
      unfold faults_Shift slices_Clone_Fault_Fault
      rw [check_eq, h, app_sm (by simp; omega)]
      simp only [Option.bind_some, bne_self_eq_false, Bool.false_eq_true, if_false, List.nil_append, hr1]
    have hq : dynposref34_Shift l k = Sum.elim (fun x => some (0, x)) (fun x => some x) r2 := by
      unfold dynposref34_Shift
      rw [rcheck_eq, h]
      simp only [Option.bind_some, bne_self_eq_false, Bool.false_eq_true, if_false, hr2]
    rw [hp, hq]
    rcases d1 with ⟨rfl, d1⟩ | ⟨rfl, j, hj, d1⟩ <;> rcases d2 with ⟨rfl, d2⟩ | ⟨rfl, i, hi, d2⟩
    · exact ⟨_, rfl, rfl, by simp; omega⟩
    · exact (d2 (d1 i hi)).elim
    · exact (d1 (d2 j hj)).elim
    · exact ⟨_, rfl, rfl, by simp⟩
  · refine ⟨(chk l, []), ?_, ?_, by simp⟩
    · unfold faults_Shift
      rw [check_eq]
      simp only [Option.bind_some, bneT h, if_true]
    · unfold dynposref34_Shift
      rw [rcheck_eq]
      simp only [Option.bind_some, bneT h, if_true]
theorem without_both (l : List Fault) (p : Part) : ∃ r, faults_Without l p = some r ∧ dynposref34_Without l p = some r ∧ r.2.length ≤ 24 := by
  by_cases h : chk l = 0
  · obtain ⟨hl, hv⟩ := chk_vl h
    have hle : (ot p l).length ≤ l.length := List.length_filter_le _ _
    refine ⟨(0, ot p l), ?_, ?_, by simp only; omega⟩
    · unfold faults_Without slices_Clone_Fault_Fault
      rw [check_eq, h, app_sm (by simp; omega)]
      simp only [Option.bind_some, bne_self_eq_false, Bool.false_eq_true, if_false, List.nil_append]
      rw [del_eq (by omega)]
      rfl
    · have e := loop_each (l := l) (step := dynposref34_Without_L1 l p) (fun pre => pre.filter fun f => !eqP f.Part p) (fun k hk => by
        unfold dynposref34_Without_L1
        simp only [lt_len hk, if_true, idx_gt hk, Option.bind_some]
        rw [List.filter_append]
        have hle := List.length_filter_le (fun f : Fault => !eqP f.Part p) (l.take k)
        rw [show ((gt l k).Part.Kind == p.Kind && (gt l k).Part.Number == p.Number) = eqP (gt l k).Part p from rfl]
        cases hq : eqP (gt l k).Part p with
        | true => simp [hq]
        | false =>
          simp only [Bool.not_false, if_true]
          rw [app_sm (by simp at hle ⊢; omega)]
          simp [hq]) (by
        unfold dynposref34_Without_L1
        simp only [nlt_len, Bool.false_eq_true, if_false]
        all_goals rfl) (by omega)
      simp only [List.filter_nil] at e
      unfold dynposref34_Without
      rw [rcheck_eq, h]
      simp only [Option.bind_some, bne_self_eq_false, Bool.false_eq_true, if_false]
      rw [e]
      rfl
  · refine ⟨(chk l, []), ?_, ?_, by simp⟩
    · unfold faults_Without
      rw [check_eq]
      simp only [Option.bind_some, bneT h, if_true]
    · unfold dynposref34_Without
      rw [rcheck_eq]
      simp only [Option.bind_some, bneT h, if_true]

end Rx
end Go.Proofs.Ytkgfdplcjdidhaa
