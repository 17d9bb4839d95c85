/- FaultsExact: all functions for any faults, times and parts are those of the reference. Plain law. -/
import Derived.Test.YtkgfdplcjdidhaaFx8
set_option linter.unusedVariables false
set_option linter.unusedSimpArgs false
namespace Go.Proofs.Ytkgfdplcjdidhaa
open Go Go.RowKit Dp
namespace Rx

theorem bne_same (b : Int) : (b != b) = false := by simp
theorem exL2 (l : List Fault) (a3 : Int) (x29 : Int × List Int × Int) : loopO (dynposlaw34_FaultsExact_L2 a3 l x29) 0 = some (.inl ()) := by
  refine loop_run (fun k => (k : Int)) 2 (fun k hk => ?_) (by
    unfold dynposlaw34_FaultsExact_L2
    simp only [dF (c := ((2 : Nat) : Int) < 2) (by omega), Bool.false_eq_true, if_false]) (by omega)
  obtain ⟨y, _, hy⟩ := idx_ex (xs := [a3, x29.1]) (k := k) (by simpa using hk)
  obtain ⟨a, b, h1, h2, h3, h4⟩ := now_both l y
  obtain ⟨d, e1, e2, e3, _⟩ := act_both l y
  unfold dynposlaw34_FaultsExact_L2
  simp only [dT (c := (k : Int) < 2) (by omega), if_true, hy, Option.bind_some, h1, h2, e1, e2, same26_T (show d.length ≤ 1000000 by omega), same26_T (show a.length ≤ 1000000 by omega), same26_T (show b.length ≤ 1000000 by omega), Bool.not_true, Bool.false_eq_true, if_false]
  rw [W_succ (by omega)]
theorem exL3 (l a2 : List Fault) (x4 : List Int × Int × List Fault) : loopO (dynposlaw34_FaultsExact_L3 a2 x4 l) 0 = some (.inl ()) := by
  refine loop_run (fun k => (k : Int)) 2 (fun k hk => ?_) (by
    unfold dynposlaw34_FaultsExact_L3
    simp only [dF (c := ((2 : Nat) : Int) < 2) (by omega), Bool.false_eq_true, if_false]) (by omega)
  obtain ⟨y, _, hy⟩ := idx_ex (xs := [x4.2.2, a2]) (k := k) (by simpa using hk)
  obtain ⟨r, h1, h2, h3⟩ := merge_both l y
  unfold dynposlaw34_FaultsExact_L3
  simp only [dT (c := (k : Int) < 2) (by omega), if_true, hy, Option.bind_some, h1, h2, bne_same, same34_T (show r.2.length ≤ 1000000 by omega), Bool.not_true, Bool.false_eq_true, if_false]
  rw [W_succ (by omega)]
theorem exL4 (l : List Fault) (a4 : Int) (x50 : Int × List Int × Int) : loopO (dynposlaw34_FaultsExact_L4 a4 l x50) 0 = some (.inl ()) := by
  refine loop_run (fun k => (k : Int)) 2 (fun k hk => ?_) (by
    unfold dynposlaw34_FaultsExact_L4
    simp only [dF (c := ((2 : Nat) : Int) < 2) (by omega), Bool.false_eq_true, if_false]) (by omega)
  obtain ⟨y, _, hy⟩ := idx_ex (xs := [a4, x50.1]) (k := k) (by simpa using hk)
  obtain ⟨r, h1, h2, h3⟩ := shift_both l y
  unfold dynposlaw34_FaultsExact_L4
  simp only [dT (c := (k : Int) < 2) (by omega), if_true, hy, Option.bind_some, h1, h2, bne_same, same34_T (show r.2.length ≤ 1000000 by omega), Bool.not_true, Bool.false_eq_true, if_false]
  rw [W_succ (by omega)]
theorem exL5 (l : List Fault) (a5 : Part) (x59 : Int × Int × List Int × Int) : loopO (dynposlaw34_FaultsExact_L5 a5 l x59) 0 = some (.inl ()) := by
  refine loop_run (fun k => (k : Int)) 2 (fun k hk => ?_) (by
    unfold dynposlaw34_FaultsExact_L5
    simp only [dF (c := ((2 : Nat) : Int) < 2) (by omega), Bool.false_eq_true, if_false]) (by omega)
  obtain ⟨y, _, hy⟩ := idx_ex (xs := [a5, Part.mk x59.1 x59.2.1]) (k := k) (by simpa using hk)
  obtain ⟨r, h1, h2, h3⟩ := without_both l y
  unfold dynposlaw34_FaultsExact_L5
  simp only [dT (c := (k : Int) < 2) (by omega), if_true, hy, Option.bind_some, h1, h2, bne_same, same34_T (show r.2.length ≤ 1000000 by omega), Bool.not_true, Bool.false_eq_true, if_false]
  rw [W_succ (by omega)]
theorem exL1 {a1 a2 : List Fault} (h1 : a1.length ≤ 1000) (h2 : a2.length ≤ 1000) (a3 a4 : Int) (a5 : Part) {x3 x4 x15 x16 : List Int × Int × List Fault} (h3 : x3.2.2.length ≤ 1000) (h15 : x15.2.2.length ≤ 1000) (h16 : x16.2.2.length ≤ 1000) {sl : List Int} {sa : Int} (hs : Sr sl sa) :
    Wp (loopO (dynposlaw34_FaultsExact_L1 a1 a2 a3 a4 a5 x3 x4 x15 x16) (0, sl, sa)) fun r => ∃ l a, r = .inl (l, a) := by
  refine wp_upto 5 (fun k s => s.1 = (k : Int) ∧ Sr s.2.1 s.2.2) ⟨rfl, hs⟩ (fun k s hk hv => ?_) (fun s hv => ?_) (by omega)
  · obtain ⟨z, l, a⟩ := s
    simp only at hv
    obtain ⟨rfl, hs⟩ := hv
    obtain ⟨y, hym, hy⟩ := idx_ex (xs := [x3.2.2, x15.2.2, x16.2.2, a1, a2]) (k := k) (by simpa using hk)
    have hyl : y.length ≤ 1000 := by
      simp only [List.mem_cons, List.not_mem_nil, or_false] at hym
      rcases hym with rfl | rfl | rfl | rfl | rfl <;> assumption
    obtain ⟨d, e1, e2, e3, _⟩ := parts_both y
    obtain ⟨r, q1, q2, q3⟩ := normal_both hyl
    unfold dynposlaw34_FaultsExact_L1
    simp only [dT (c := (k : Int) < 5) (by omega), if_true, hy, Option.bind_some, check_eq, rcheck_eq, bne_same, Bool.false_eq_true, if_false, e1, e2, same26_T (show d.length ≤ 1000000 by omega), Bool.not_true, q1, q2, same34_T (show r.2.length ≤ 1000000 by omega)]
    refine (wpN hs (n := 10) (by omega) (by omega)).bind fun u1 hu1 => ?_
    rw [exL2]
    simp only [Option.bind_some, Sum.elim_inl]
    rw [exL3]
    simp only [Option.bind_some, Sum.elim_inl]
    refine (wpRange hu1.2 (lo := -9) (hi := 9) (by omega) (by omega) (by omega) (by omega)).bind fun u2 hu2 => ?_
    rw [exL4]
    simp only [Option.bind_some, Sum.elim_inl]
    refine (wpPart hu2.2).bind fun u3 hu3 => ?_
    rw [exL5]
    simp only [Option.bind_some, Sum.elim_inl]
    rw [W_succ (by omega)]
    exact wp_some.2 ⟨rfl, hu3.2⟩
  · obtain ⟨z, l, a⟩ := s
    simp only at hv
    obtain ⟨rfl, hs⟩ := hv
    unfold dynposlaw34_FaultsExact_L1
    simp only [dF (c := ((5 : Nat) : Int) < 5) (by omega), Bool.false_eq_true, if_false]
    exact wp_some.2 ⟨l, a, rfl⟩
theorem law_FaultsExact (a0 : List Int) (a1 a2 : List Fault) (a3 a4 : Int) (a5 : Part) : dynposlaw34_FaultsExact a0 a1 a2 a3 a4 a5 = some true := by
  unfold dynposlaw34_FaultsExact
  simp only [ifor, Option.bind_some, sane_T]
  refine Wp.true' (Wp.ite (fun _ => wp_some.2 rfl) fun hg => ?_)
  simp only [Bool.or_eq_false_iff, decide_eq_false_iff_not] at hg
  unfold len at hg
  obtain ⟨g0, g1, g2⟩ := hg
  refine (wpNew a0).bind fun x2 h2 => ?_
  refine (wpFaults h2 (c := 10) (by omega) (by omega)).bind fun x3 h3 => ?_
  obtain ⟨hs3, _, l3, _⟩ := h3
  refine (wpFaults hs3 (c := 10) (by omega) (by omega)).bind fun x4 h4 => ?_
  obtain ⟨hs4, _, l4, _⟩ := h4
  rw [show app ([] : List Fault) x3.2.2 = some x3.2.2 from app_sm (by simp; omega)]
  simp only [Option.bind_some]
  have hbent : Wp (if decide (len x3.2.2 > 1) = true then
                  Option.bind (Src_N (Src.mk x4.1 x4.2.1) (W (len x3.2.2 - 1))) fun x6 =>
                    Option.bind (idx x3.2.2 (W (x6.1 + 1))) fun x7 =>
                      Option.bind (idx x3.2.2 x6.1) fun x8 =>
                        Option.bind (idx x3.2.2 x6.1) fun x9 =>
                          Option.bind (idx x3.2.2 x6.1) fun x10 =>
                            Option.bind (setO x3.2.2 x6.1 x7) fun x11 =>
                              Option.bind (idx x11 (W (x6.1 + 1))) fun x12 =>
                                Option.bind (idx x11 (W (x6.1 + 1))) fun x13 =>
                                  Option.bind (setO x11 (W (x6.1 + 1)) x8) fun x14 =>
                                    some (x6.2.1, x6.2.2, x14)
                else some (x4.1, x4.2.1, x3.2.2)) fun r => Sr r.1 r.2.1 ∧ r.2.2.length ≤ 10 := by
    refine Wp.ite (fun hl => ?_) fun _ => wp_some.2 ⟨hs4, by simp only; omega⟩
    have hl := of_decide_eq_true hl
    unfold len at hl
    unfold len
    rw [W_sm (x := (x3.2.2.length : Int) - 1) (by omega) (by omega)]
    refine (wpN hs4 (n := (x3.2.2.length : Int) - 1) (by omega) (by omega)).bind fun x6 h6 => ?_
    obtain ⟨⟨k0, k1⟩, hs6⟩ := h6
    rw [W_sm (x := x6.1 + 1) (by omega) (by omega), idx_gtZ (j := x6.1 + 1) (by omega) (by omega), idx_gtZ (j := x6.1) k0 (by omega)]
    simp only [Option.bind_some]
    rw [setO_gt k0 (by omega)]
    simp only [Option.bind_some]
    rw [idx_gtZ (j := x6.1 + 1) (by omega) (by simp; omega)]
    simp only [Option.bind_some]
    rw [setO_gt (by omega) (by simp; omega)]
    exact wp_some.2 ⟨hs6, by simp; omega⟩
  refine hbent.bind fun x15 h15 => ?_
  refine (wpAny h15.1 (c := 8) (by omega) (by omega)).bind fun x16 h16 => ?_
  refine (exL1 (a1 := a1) (a2 := a2) (by omega) (by omega) a3 a4 a5 (x3 := x3) (x4 := x4) (x15 := x15) (x16 := x16) (by omega) (by omega) (by omega) h16.1).bind fun x72 h72 => ?_
  obtain ⟨l, a, rfl⟩ := h72
  exact wp_some.2 rfl
end Rx
end Go.Proofs.Ytkgfdplcjdidhaa
