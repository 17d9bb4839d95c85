/- FaultsShift: a shifted script breaks the same parts later, and shifting back gives the script. Plain law. -/
import Derived.Test.YtmjcndmphjdjgaaLawFaultsMerge
set_option linter.unusedVariables false
set_option linter.unusedSimpArgs false
namespace Go.Proofs.Ytmjcndmphjdjgaa
open Go Go.RowKit Dp
namespace Rx

def sh (k : Int) (f : Fault) : Fault := ⟨f.Time + k, f.Kind, f.Part⟩
theorem sh_sh (k : Int) (f : Fault) : sh (-k) (sh k f) = f := fault_ext (by show f.Time + k + -k = _; omega) rfl rfl
theorem sh_lst (l : List Fault) (k : Int) (p : Part) : lst (l.map (sh k)) p = lst l p := by
  unfold lst
  rw [List.foldl_map]
  rfl
theorem sh_up (l : List Fault) (k t : Int) : Up (l.map (sh k)) (t + k) = (Up l t).map (sh k) := by
  unfold Up
  rw [List.filter_map]
  congr 1
  apply List.filter_congr
  intro f _
  show decide (f.Time + k ≤ t + k) = _
  by_cases h : f.Time ≤ t
  · rw [dT h, dT (by omega)]
  · rw [dF h, dF (by omega)]
theorem sh_br (l : List Fault) (k t : Int) (p : Part) : lst (Up (l.map (sh k)) (t + k)) p = lst (Up l t) p := by rw [sh_up, sh_lst]
theorem sh_vl {l : List Fault} {k : Int} (h : Vl l) (hk : ∀ f ∈ l, 0 ≤ f.Time + k ∧ f.Time + k ≤ 2147483648) : Vl (l.map (sh k)) := by
  refine ⟨⟨fun f hf => ?_, ?_⟩, fun f hf => ?_⟩
  · obtain ⟨g, hg, rfl⟩ := List.mem_map.1 hf
    exact ⟨(hk g hg).1, (hk g hg).2, (h.vf g hg).k, (h.vf g hg).p⟩
  · exact h.asc.map (sh k) (fun a b hab => by unfold fk sh at *; simp only; omega)
  · obtain ⟨g, hg, rfl⟩ := List.mem_map.1 hf
    have := h.alt g hg
    show g.Kind = 3 - lst (Up (l.map (sh k)) (g.Time + k - 1)) g.Part
    rw [show g.Time + k - 1 = (g.Time - 1) + k by omega, sh_br]
    exact this
theorem Shift_eq {l : List Fault} {k : Int} (h : Vl l) (hl : l.length ≤ 24) (k0 : -1000000 ≤ k) (k1 : k ≤ 1000000) (hk : ∀ f ∈ l, 0 ≤ f.Time + k ∧ f.Time + k ≤ 2147483648) : faults_Shift l k = some (0, l.map (sh k)) := by
  have e := loop_run (step := faults_Shift_L1 l k) (r := .inl (l.map (sh k))) (fun i => ((i : Int), (l.take i).map (sh k) ++ l.drop i)) l.length (fun i hi => by
    have hg := hk _ (gt_mem hi)
    have hW : W ((gt l i).Time + k) = (gt l i).Time + k := W_sm (by omega) (by omega)
    have ed : l.drop i = gt l i :: l.drop (i + 1) := by
      have := List.drop_eq_getElem_cons hi
      rwa [← gt_get hi] at this
    have hln : ((l.take i).map (sh k)).length = i := by simp; omega
    have hix : idx ((l.take i).map (sh k) ++ l.drop i) (i : Int) = some (gt l i) := by
      rw [ed]
      have := at0 ((l.take i).map (sh k)) (gt l i) (l.drop (i + 1))
      rwa [hln] at this
    have hset : setO ((l.take i).map (sh k) ++ l.drop i) (i : Int) (sh k (gt l i)) = some ((l.take (i + 1)).map (sh k) ++ l.drop (i + 1)) := by
      rw [setO_nat (by simp; omega), ed]
      have := set0 ((l.take i).map (sh k)) (gt l i) (sh k (gt l i)) (l.drop (i + 1))
      rw [hln] at this
      rw [this, take_gt hi, List.map_append]
      simp
    unfold faults_Shift_L1
    simp only [lt_len hi, if_true, idx_gt hi, Option.bind_some, dF (c := k > 2147483648) (by omega), dF (c := k < -2147483648) (by omega), hW, dF (c := (gt l i).Time + k < 0) (by omega), dF (c := (gt l i).Time + k > 2147483648) (by omega), Bool.false_eq_true, if_false, hix]
    rw [show Fault.mk ((gt l i).Time + k) (gt l i).Kind (gt l i).Part = sh k (gt l i) from rfl, hset]
    simp only [Option.bind_some]
    rw [W_succ (by omega)]) (by
    unfold faults_Shift_L1
    simp only [nlt_len, Bool.false_eq_true, if_false]
    simp) (by omega)
  unfold faults_Shift slices_Clone_Fault_Fault
  rw [check_ok h hl]
  simp only [Option.bind_some, bne_self_eq_false, Bool.false_eq_true, if_false]
  rw [app_sm (by simp; omega)]
  simp only [Option.bind_some, List.nil_append]
  simp only [List.take_zero, List.map_nil, List.nil_append, List.drop_zero, show ((0 : Nat) : Int) = 0 from rfl] at e
  rw [e]
  rfl
theorem law_FaultsShift (t : List Int) (n : Int) (n0 : 0 ≤ n) (n1 : n ≤ 65535) : dynposlaw34_FaultsShift t n = some true := by
  refine Wp.true' ?_
  unfold dynposlaw34_FaultsShift
  simp only [sane_T, Option.bind_some]
  refine Wp.ite (fun _ => wp_some.2 rfl) fun _ => ?_
  refine (wpNew t).bind fun s hs => ?_
  obtain ⟨l0, a0⟩ := s
  refine (wpFaults hs (c := 10) (by omega) (by omega)).bind fun x2 h2 => ?_
  obtain ⟨l1, a1, a⟩ := x2
  simp only at h2 ⊢
  obtain ⟨hs1, va, la, ta⟩ := h2
  have hn : W n = n := W_sm (by omega) (by omega)
  have hm : W (-n) = -n := W_sm (by omega) (by omega)
  have hra : ∀ f ∈ a, 0 ≤ f.Time + n ∧ f.Time + n ≤ 2147483648 := fun f hf => by
    have := ta f hf
    have := (va.vf f hf).t0
    omega
  have vb := sh_vl va hra
  have e1 := Shift_eq va (by omega) (by omega) (by omega) hra
  have e2 := Shift_eq (k := -n) vb (by simp; omega) (by omega) (by omega) (fun f hf => by
    obtain ⟨g, hg, rfl⟩ := List.mem_map.1 hf
    have := ta g hg
    have := (va.vf g hg).t0
    show 0 ≤ g.Time + n + -n ∧ g.Time + n + -n ≤ 2147483648
    omega)
  have e3 : (a.map (sh n)).map (sh (-n)) = a := by
    rw [List.map_map]
    conv => rhs; rw [← List.map_id a]
    apply List.map_congr_left
    intro f _
    exact sh_sh n f
  rw [e3] at e2
  simp only [hn, hm, e1, e2, Option.bind_some, bne_self_eq_false, Bool.false_eq_true, if_false, same34_T (l := a) (by omega), Bool.not_true]
  have hloop := loop_run (step := dynposlaw34_FaultsShift_L1 n (l1, a1, a) (0, a.map (sh n))) (r := .inl ()) (fun k => (k : Int)) 9 (fun k hk => by
    obtain ⟨d, hd, pd⟩ := Active_eq vb (by simp; omega) ((k : Int) + n)
    obtain ⟨d1, hd1, pd1⟩ := Active_eq va (by omega) (k : Int)
    have n1 := act_len pd1
    have he : d = d1 := pd.eq pd1 fun p => by rw [sh_br]
    subst he
    unfold dynposlaw34_FaultsShift_L1
    simp only [dT (c := (k : Int) < 9) (by omega), if_true, hn, W_sm (x := (k : Int) + n) (by omega) (by omega), hd, hd1, Option.bind_some, same26_T (l := d) (by omega), Bool.not_true, Bool.false_eq_true, if_false]
    rw [W_succ (by omega)]) (by
    unfold dynposlaw34_FaultsShift_L1
    simp only [dF (c := ((9 : Nat) : Int) < 9) (by omega), Bool.false_eq_true, if_false])
  simp only [show ((0 : Nat) : Int) = 0 from rfl] at hloop
  rw [hloop]
  simp only [Option.bind_some, Sum.elim_inl, W_sm (x := n - 1) (by omega) (by omega)]
  obtain ⟨d, hd, pd⟩ := Active_eq vb (by simp; omega) (n - 1)
  have hd0 : d = [] := by
    refine pd.eq PL.nil fun p => ?_
    rw [Up_none (l := a.map (sh n)) fun f hf => ?_]
    · simp [lst_nil]
    · obtain ⟨g, hg, rfl⟩ := List.mem_map.1 hf
      have := (va.vf g hg).t0
      show ¬ g.Time + n ≤ n - 1
      omega
  subst hd0
  simp only [hd, Option.bind_some]
  exact wp_some.2 rfl
end Rx
end Go.Proofs.Ytmjcndmphjdjgaa
