/- FaultsWithout: a script without the faults of a part breaks all other parts as before, and this one never. Plain law. -/
import Derived.Test.YtmjcndmphjdjgaaLawFaultsMerge
set_option linter.unusedVariables false
set_option linter.unusedSimpArgs false
namespace Go.Proofs.Ytmjcndmphjdjgaa
open Go Go.RowKit Dp
namespace Rx

def ot (p : Part) (l : List Fault) : List Fault := l.filter fun f => !eqP f.Part p
theorem ot_mem {p : Part} {l : List Fault} {f : Fault} : f ∈ ot p l ↔ f ∈ l ∧ f.Part ≠ p := by
  unfold ot
  rw [List.mem_filter]
  refine and_congr_right fun _ => ?_
  by_cases e : f.Part = p
  · rw [eqP_iff.2 e]; simp [e]
  · rw [eqP_F e]; simp [e]
theorem ot_br {p q : Part} (l : List Fault) (t : Int) (h : q ≠ p) : lst (Up (ot p l) t) q = lst (Up l t) q := by
  apply lst_congr
  unfold Up ot
  rw [List.filter_filter, List.filter_filter, List.filter_filter]
  apply List.filter_congr
  intro f _
  by_cases e : f.Part = q
  · rw [eqP_iff.2 e, eqP_F (show f.Part ≠ p from fun e2 => h (e ▸ e2))]
    simp
  · rw [eqP_F e]
    simp
theorem ot_vl {p : Part} {l : List Fault} (h : Vl l) : Vl (ot p l) :=
  ⟨h.toVs.sub List.filter_sublist, fun f hf => by
    obtain ⟨h1, h2⟩ := ot_mem.1 hf
    rw [ot_br l _ h2]
    exact h.alt f h1⟩
theorem del_eq {l : List Fault} (hl : l.length ≤ 1000) (p : Part) : slices_DeleteFunc_Fault_Fault_v2 l p = some (ot p l) := by
  have hw : ∀ f : Fault, faults_Without_1 f p = some (eqP f.Part p) := fun f => rfl
  have hfind : Wp (loopO (slices_IndexFunc_Fault_Fault_v1_L1 l p) 0) fun r => (r = .inl () ∧ ∀ i, i < l.length → eqP (gt l i).Part p = false) ∨ ∃ k : Nat, r = .inr (k : Int) ∧ k < l.length ∧ eqP (gt l k).Part p = true ∧ ∀ i, i < k → eqP (gt l i).Part p = false := by
    refine wp_upto (s := (0 : Int)) l.length (fun k s => s = (k : Int) ∧ ∀ i, i < k → eqP (gt l i).Part p = false) ⟨rfl, fun i hi => by omega⟩ (fun k s hk hv => ?_) (fun s hv => ?_) (by omega)
    · obtain ⟨rfl, hv⟩ := hv
      unfold slices_IndexFunc_Fault_Fault_v1_L1
      simp only [lt_len hk, if_true, idx_gt hk, Option.bind_some, hw]
      cases hq : eqP (gt l k).Part p with
      | true => exact wp_some.2 (.inr ⟨k, rfl, hk, hq, hv⟩)
      | false =>
        simp only [Bool.false_eq_true, if_false]
        rw [W_succ (by omega)]
        refine wp_some.2 ⟨rfl, fun i hi => ?_⟩
        by_cases hik : i = k
        · rw [hik]; exact hq
        · exact hv i (by omega)
    · obtain ⟨rfl, hv⟩ := hv
      unfold slices_IndexFunc_Fault_Fault_v1_L1
      simp only [nlt_len, Bool.false_eq_true, if_false]
      exact wp_some.2 (.inl ⟨rfl, hv⟩)
  have take_ot : ∀ k, k ≤ l.length → (∀ i, i < k → eqP (gt l i).Part p = false) → ot p (l.take k) = l.take k := fun k hk h => List.filter_eq_self.2 fun f hf => by
    obtain ⟨i, hi, rfl⟩ := List.mem_iff_getElem.1 hf
    simp only [List.length_take] at hi
    rw [List.getElem_take, ← gt_get, h i (by omega)]
    rfl
  obtain ⟨r, hr, hr2⟩ := hfind
  unfold slices_DeleteFunc_Fault_Fault_v2 slices_IndexFunc_Fault_Fault_v1
  rw [hr]
  rcases hr2 with ⟨rfl, h⟩ | ⟨k, rfl, hk, h1, h2⟩
  · have := take_ot l.length (Nat.le_refl _) h
    rw [List.take_length] at this
    rw [this]
    rfl
  · simp only [Option.bind_some, Sum.elim_inr]
    rw [beqF (a := (k : Int)) (b := -1) (by omega)]
    simp only [Bool.false_eq_true, if_false]
    have hloop : Wp (loopO (slices_DeleteFunc_Fault_Fault_v2_L1 p) ((k : Int), W ((k : Int) + 1), l)) fun r => ∃ (i : Nat) (d : List Fault), r = ((i : Int), d) ∧ i ≤ d.length ∧ d.length = l.length ∧ d.take i = ot p l := by
      rw [W_succ (by omega)]
      refine wp_while (fun s => l.length - s.2.1.toNat) (fun s => ∃ (i j : Nat) (d : List Fault), s = ((i : Int), (j : Int), d) ∧ i < j ∧ j ≤ l.length ∧ d.length = l.length ∧ d.take i = ot p (l.take j) ∧ ∀ q, j ≤ q → q < l.length → gt d q = gt l q) (fun s hs => ?_) ⟨k, k + 1, l, rfl, by omega, by omega, rfl, ?_, fun q _ _ => rfl⟩ (by omega)
      · obtain ⟨i, j, d, rfl, j1, j2, j3, j4, j5⟩ := hs
        unfold slices_DeleteFunc_Fault_Fault_v2_L1
        simp only
        by_cases hj : j < l.length
        · have ea := j5 j (Nat.le_refl _) hj
          have eo : ot p (l.take (j + 1)) = ot p (l.take j) ++ if eqP (gt l j).Part p = true then [] else [gt l j] := by
            rw [take_gt hj]
            unfold ot
            rw [List.filter_append]
            cases hq : eqP (gt l j).Part p <;> simp [hq]
          simp only [lt_len (show j < d.length by omega), if_true, idx_gt (show j < d.length by omega), Option.bind_some, ea, hw]
          cases hq : eqP (gt l j).Part p with
          | true =>
            rw [hq, if_pos rfl, List.append_nil] at eo
            simp only [Bool.not_true, Bool.false_eq_true, if_false, Option.bind_some]
            rw [W_succ (by omega)]
            exact wp_some.2 ⟨⟨i, j + 1, d, rfl, by omega, by omega, j3, by rw [j4, eo], fun q h1 h2 => j5 q (by omega) h2⟩, by simp only; omega⟩
          | false =>
            rw [hq] at eo
            simp only [Bool.false_eq_true, if_false] at eo
            simp only [Bool.not_false, if_true, idx_gt (show i < d.length by omega), Option.bind_some]
            rw [setO_nat (show i < d.length by omega)]
            simp only [Option.bind_some]
            rw [W_succ (by omega), W_succ (by omega)]
            refine wp_some.2 ⟨⟨i + 1, j + 1, d.set i (gt l j), rfl, by omega, by omega, by simp [j3], ?_, fun q h1 h2 => ?_⟩, by simp only; omega⟩
            · rw [eo, ← j4, take_gt (by simp; omega), gt_set (by omega), if_pos rfl, List.take_set_of_le (Nat.le_refl _)]
            · rw [gt_set (by omega), if_neg (by omega)]
              exact j5 q (by omega) h2
        · have hj : j = l.length := by omega
          rw [dF (c := (j : Int) < len d) (by unfold len; omega)]
          simp only [Bool.false_eq_true, if_false]
          rw [hj, List.take_length] at j4
          exact wp_some.2 ⟨i, d, rfl, by omega, j3, j4⟩
      · rw [take_gt hk]
        have := take_ot k (by omega) h2
        unfold ot at this ⊢
        rw [List.filter_append, this]
        simp [h1]
    obtain ⟨r, hr, i, d, rfl, i1, i2, i3⟩ := hloop
    rw [hr]
    simp only [Option.bind_some]
    rw [slc_drop i1]
    simp only [Option.bind_some]
    rw [slc_take (by simp [clrT]; omega)]
    have ht : (clrT (Fault.mk 0 0 (Part.mk 0 0)) d (i : Int)).take i = d.take i := by
      unfold clrT
      rw [Int.toNat_natCast, List.take_append_of_le_length (by simp; omega), List.take_take, Nat.min_self]
    simp only [Option.bind_some, ht, i3]
theorem Without_eq {l : List Fault} (h : Vl l) (hl : l.length ≤ 24) (p : Part) : faults_Without l p = some (0, ot p l) := by
  unfold faults_Without slices_Clone_Fault_Fault
  rw [check_ok h hl]
  simp only [Option.bind_some, bne_self_eq_false, Bool.false_eq_true, if_false]
  rw [app_sm (by simp; omega)]
  simp only [Option.bind_some, List.nil_append]
  rw [del_eq (by omega)]
  rfl
theorem lwithout_eq {d : List Part} (hl : d.length ≤ 1000000) (p : Part) : dynposlaw34_without d p = some (d.filter fun q => !eqP q p) := by
  have e := loop_each (l := d) (step := dynposlaw34_without_L1 d p) (fun pre => pre.filter fun q => !eqP q p) (fun k hk => by
    unfold dynposlaw34_without_L1
    simp only [lt_len hk, if_true, idx_gt hk, Option.bind_some]
    rw [List.filter_append]
    have hle := List.length_filter_le (fun q => !eqP q p) (d.take k)
    rw [show ((gt d k).Kind == p.Kind && (gt d k).Number == p.Number) = eqP (gt d k) p from rfl]
    cases hq : eqP (gt d k) p with
    | true => simp [hq]
    | false =>
      simp only [Bool.not_false, if_true]
      rw [app_sm (by simp at hle ⊢; omega)]
      simp [hq]) (by
    unfold dynposlaw34_without_L1
    simp only [nlt_len, Bool.false_eq_true, if_false]
    all_goals rfl) (by omega)
  unfold dynposlaw34_without
  simp only [List.filter_nil] at e
  rw [e]
  rfl
theorem law_FaultsWithout (t : List Int) : dynposlaw34_FaultsWithout t = some true := by
  refine Wp.true' ?_
  unfold dynposlaw34_FaultsWithout
  simp only [sane_T, Option.bind_some]
  refine Wp.ite (fun _ => wp_some.2 rfl) fun _ => ?_
  refine (wpNew t).bind fun s hs => ?_
  obtain ⟨l0, a0⟩ := s
  refine (wpFaults hs (c := 10) (by omega) (by omega)).bind fun x2 h2 => ?_
  obtain ⟨l1, a1, l⟩ := x2
  simp only at h2 ⊢
  obtain ⟨hs1, vl, ll, _⟩ := h2
  refine (wpPart hs1).bind fun x3 h3 => ?_
  obtain ⟨pk', pn, l2, a2⟩ := x3
  simp only at h3 ⊢
  obtain ⟨ps, hps, pp⟩ := Parts_eq vl (by omega)
  have hpl : ps.length ≤ l.length := by
    have := pp.len (l := l.map Fault.Part) fun p ⟨f, hf, e⟩ => List.mem_map.2 ⟨f, hf, e⟩
    simpa using this
  simp only [hps, Option.bind_some]
  have hmid : Wp (if decide (len ps > 0) = true then Option.bind (Src_N (Src.mk l2 a2) (len ps)) fun x5 => Option.bind (idx ps x5.1) fun x6 => some (x5.2.1, x5.2.2, x6.Kind, x6.Number) else some (l2, a2, pk', pn)) fun r => VP ⟨r.2.2.1, r.2.2.2⟩ := by
    refine Wp.ite (fun h => ?_) fun h => wp_some.2 h3.1
    have h := of_decide_eq_true h
    refine (wpN h3.2 (n := len ps) (by omega) (by unfold len; omega)).bind fun y hy => ?_
    obtain ⟨y, l3, a3⟩ := y
    simp only at hy ⊢
    have hy1 : y < ps.length := by have := hy.1.2; unfold len at this; omega
    rw [idx_gtZ hy.1.1 hy1]
    simp only [Option.bind_some]
    exact wp_some.2 (pp.vp _ (gt_mem (by omega)))
  refine hmid.bind fun x7 h7 => ?_
  obtain ⟨l4, a4, qk, qn⟩ := x7
  simp only at h7 ⊢
  generalize hq : Part.mk qk qn = p at *
  have vm := ot_vl (p := p) vl
  have lm : (ot p l).length ≤ l.length := List.length_filter_le _ _
  obtain ⟨pm, hpm, ppm⟩ := Parts_eq vm (by omega)
  have hpml : pm.length ≤ 1000 := by
    have := ppm.len (l := (ot p l).map Fault.Part) fun p ⟨f, hf, e⟩ => List.mem_map.2 ⟨f, hf, e⟩
    simp at this
    omega
  have hnp : p ∉ pm := fun h => by
    obtain ⟨f, hf, e⟩ := (ppm.mem p).1 h
    exact (ot_mem.1 hf).2 e
  simp only [Without_eq vl (by omega), check_ok vm (by omega), hpm, rhas_eq (l := pm) (by omega), dB_F hnp, Option.bind_some, bne_self_eq_false, Bool.false_eq_true, if_false]
  have hloop := loop_run (step := dynposlaw34_FaultsWithout_L1 (l1, a1, l) (l4, a4, qk, qn) (0, ot p l)) (r := .inl ()) (fun k => (k : Int)) 9 (fun k hk => by
    obtain ⟨d, hd, pd⟩ := Active_eq vm (by omega) (k : Int)
    obtain ⟨d1, hd1, pd1⟩ := Active_eq vl (by omega) (k : Int)
    have n0 := act_len pd
    have n1 := act_len pd1
    obtain ⟨u, hu, pu, lu⟩ := union_eq (a := d) (b := []) (by omega) (by simp) pd.vp (fun p hp => by cases hp)
    have he : u = d1.filter fun q => !eqP q p := pu.eq (pl_without pd1 p) fun q => by
      rw [pd.mem]
      simp only [List.not_mem_nil, or_false]
      by_cases hqp : q = p
      · subst hqp
        have : lst (Up (ot q l) (k : Int)) q = 2 := lst_none fun f hf => (ot_mem.1 (Up_mem.1 hf).1).2
        rw [this]
        simp
      · rw [ot_br l _ hqp]
        exact ⟨fun h => ⟨h, hqp⟩, fun h => h.1⟩
    unfold dynposlaw34_FaultsWithout_L1
    simp only [dT (c := (k : Int) < 9) (by omega), if_true, hd, hd1, hu, hq, lwithout_eq (d := d1) (by omega), Option.bind_some]
    rw [← he, same26_T (by simp at lu; omega)]
    simp only [Option.bind_some, Bool.not_true, Bool.false_eq_true, if_false]
    rw [W_succ (by omega)]) (by
    unfold dynposlaw34_FaultsWithout_L1
    simp only [dF (c := ((9 : Nat) : Int) < 9) (by omega), Bool.false_eq_true, if_false])
  simp only [show ((0 : Nat) : Int) = 0 from rfl] at hloop
  rw [hloop]
  exact wp_some.2 rfl
end Rx
end Go.Proofs.Ytmjcndmphjdjgaa
