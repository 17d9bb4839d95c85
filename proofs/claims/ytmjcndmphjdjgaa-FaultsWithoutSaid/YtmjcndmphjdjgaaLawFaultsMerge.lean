/- FaultsMerge: at each time those parts are broken by the merged script that are broken by one of both; the order of both does not matter. Plain law. -/
import Derived.Test.YtmjcndmphjdjgaaF5
set_option linter.unusedVariables false
set_option linter.unusedSimpArgs false
namespace Go.Proofs.Ytmjcndmphjdjgaa
open Go Go.RowKit Dp
namespace Rx

theorem act_len {l : List Fault} {d : List Part} {t : Int} (h : PL d fun p => lst (Up l t) p = 1) : d.length ≤ l.length := by
  have := h.len (l := l.map Fault.Part) fun p hp => by
    rcases lst_char (Up l t) p with ⟨h2, _⟩ | ⟨a, f, b, he, h2, _, _⟩
    · omega
    · exact List.mem_map.2 ⟨f, (Up_mem.1 (show f ∈ Up l t by rw [he]; simp)).1, h2⟩
  simpa using this
theorem law_FaultsMerge (t : List Int) : dynposlaw34_FaultsMerge t = some true := by
  refine Wp.true' ?_
  unfold dynposlaw34_FaultsMerge
  simp only [sane_T, Option.bind_some]
  refine Wp.ite (fun _ => wp_some.2 rfl) fun _ => ?_
  refine (wpNew t).bind fun s hs => ?_
  obtain ⟨l0, a0⟩ := s
  refine (wpFaults hs (c := 8) (by omega) (by omega)).bind fun x2 h2 => ?_
  obtain ⟨l1, a1, a⟩ := x2
  simp only at h2 ⊢
  obtain ⟨hs1, va, la, _⟩ := h2
  refine (wpFaults hs1 (c := 8) (by omega) (by omega)).bind fun x3 h3 => ?_
  obtain ⟨l2, a2, b⟩ := x3
  simp only at h3 ⊢
  obtain ⟨_, vb, lb, _⟩ := h3
  obtain ⟨C, hC, lC, e1⟩ := Merge_eq va vb (by omega)
  obtain ⟨C', hC', lC', e2⟩ := Merge_eq vb va (by omega)
  obtain ⟨C2, hC2, lC2, e3⟩ := Merge_eq va va (by omega)
  have hcc := merge_comm va.toVs vb.toVs hC hC'
  subst hcc
  have hcs := merge_self va.toVs hC2
  subst hcs
  have vC := col_vs hC (mAll_vf va.vf vb.vf)
  have vt := trn_vl vC
  have lt := (trn_sub C).length_le
  have ec := check_ok vt (by omega)
  simp only [e1, e2, e3, Option.bind_some, bne_self_eq_false, Bool.false_eq_true, if_false, same34_T (l := trn C) (by omega), Bool.not_true, ec]
  have hloop := loop_run (step := dynposlaw34_FaultsMerge_L1 (l1, a1, C2) (l2, a2, b) (0, trn C)) (r := .inl ()) (fun k => (k : Int)) 9 (fun k hk => by
    obtain ⟨d, hd, pd⟩ := Active_eq vt (by omega) (k : Int)
    obtain ⟨d1, hd1, pd1⟩ := Active_eq va (by omega) (k : Int)
    obtain ⟨d2, hd2, pd2⟩ := Active_eq vb (by omega) (k : Int)
    have n0 := act_len pd
    have n1 := act_len pd1
    have n2 := act_len pd2
    obtain ⟨u, hu, pu, lu⟩ := union_eq (by omega) (by omega) pd1.vp pd2.vp
    have he : d = u := pd.eq pu fun p => by rw [pd1.mem, pd2.mem, trn_br vC, merge_br va.toVs vb.toVs hC]
    subst he
    unfold dynposlaw34_FaultsMerge_L1
    simp only [dT (c := (k : Int) < 9) (by omega), if_true, hd, hd1, hd2, hu, Option.bind_some, same26_T (l := d) (by omega), Bool.not_true, Bool.false_eq_true, if_false]
    rw [W_succ (by omega)]) (by
    unfold dynposlaw34_FaultsMerge_L1
    simp only [dF (c := ((9 : Nat) : Int) < 9) (by omega), Bool.false_eq_true, if_false])
  simp only [show ((0 : Nat) : Int) = 0 from rfl] at hloop
  rw [hloop]
  simp only [Option.bind_some, Sum.elim_inl, beq_self_eq_true, if_true, va.trn, same34_T (l := C2) (by omega)]
  exact wp_some.2 rfl
end Rx
end Go.Proofs.Ytmjcndmphjdjgaa
