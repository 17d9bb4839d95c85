/- Plain functions, walks. Written by a program (wip/gen). -/
import Derived.Test.YtkgfdplcjdidhaaRt
import Derived.Test.YtkgfdplcjdidhaaHc
import Derived.Test.YtkgfdplcjdidhaaRg1
import Derived.Test.YtkgfdplcjdidhaaRg2
set_option linter.unusedVariables false
set_option maxRecDepth 100000
namespace Go.Proofs.Ytkgfdplcjdidhaa
open Go Go.RowKit Dp
namespace Rx

noncomputable def dynposref34_Parts (a0 : (List Fault)) : Option ((List Part)) :=
  Option.bind (dynposref34_Check a0) fun x1 =>
    if (x1 != 0) = true then some [] else Option.bind (dynposref34_parts a0) fun x2 => some x2
noncomputable def c13 : Con D := ⟨13, [.lf (.sl 3)], [.lf (.sl 4)], [.one (.h 0 [0])], [], [.one (.own 1000)], [(1000, .sl 4 25 0 [])], fun h => dynposref34_Parts h⟩
theorem c13_ok : ConOk Try.prog T c13 := fn_ok (Φ := [c10, c38]) (rs := [.tmp 2]) (an := .o) pOk repOk (AllC.mem (⟨c10_ok, c38_ok, trivial⟩ : AllC _ _ [c10, c38])) hmix Try.call13 Try.func13 rfl rfl (by kernel_rfl) (fun h => by kernel_rfl)

noncomputable def dynposref26_Same_L1 (a0 : List
  Part) (a1 : List
  Part) : Int →
  Option
    (Int ⊕
      Unit ⊕
        Bool) := fun x1 =>
  if decide (x1 < len a0) = true then
    Option.bind (idx a0 x1) fun x2 =>
      Option.bind (idx a1 x1) fun x3 =>
        if (!(x2.Kind == x3.Kind && x2.Number == x3.Number)) = true then some (.inr (.inr false))
        else some (.inl (W (x1 + 1)))
  else some (.inr (.inl ()))
noncomputable def dynposref26_Same (a0 : (List Part)) (a1 : (List Part)) : Option (Bool) :=
  if (len a0 != len a1) = true then some false
  else
    Option.bind (loopO (dynposref26_Same_L1 a0 a1) 0) fun x4 =>
      Sum.elim (fun x5 => some true) (fun x6 => some x6) x4
noncomputable def c11 : Con D := ⟨11, [.lf (.sl 4), .lf (.sl 4)], [.lf .bool], [.one (.h 0 [0]), .one (.h 1 [0])], [], [.one (.h 0 [])], [], fun h => dynposref26_Same h.1 h.2⟩
theorem c11_ok : ConOk Try.prog T c11 := fn_ok (Φ := []) (rs := [.tmp 4]) (an := (.n none .o (.n none .o (.n none (.n none .o (.n none (.loop ⟨[.lf (.int .i64)], [(13, .one (.h 0 []))], [], [], 2640⟩ false [(.exit 0, ⟨[], [], [], [], 2640⟩)] .o) .o)) .o)))) pOk repOk (AllC.mem (l := []) trivial) hmix Try.call11 Try.func11 rfl rfl (by kernel_rfl) (fun h => by kernel_rfl)

noncomputable def slices_Clone_Fault_Fault (a0 : (List Fault)) : Option ((List Fault)) := app [] a0
noncomputable def c39 : Con D := ⟨39, [.lf (.sl 3)], [.lf (.sl 3)], [.one (.h 0 [0])], [], [.one (.own 1000)], [(1000, .sl 3 32 0 [])], fun h => slices_Clone_Fault_Fault h⟩
theorem c39_ok : ConOk Try.prog T c39 := by
  refine ⟨Try.call39, rfl, rfl, rfl, rfl, fun xs0 r0 hr0 avs obs has hobs γ w vs hv _ => ?_⟩
  cases has
  match vs, hv with
  | [], hv => exact hv.elim
  | _ :: _ :: _, hv => exact hv.2.elim
  | [v], hv =>
  obtain ⟨xs, hxs⟩ : ∃ xs : List (D 3), xs = xs0 := ⟨_, rfl⟩
  obtain ⟨r, hrr⟩ : ∃ r : List (D 3), r = r0 := ⟨_, rfl⟩
  have g0 : Rv (In γ.o [0]) w v xs := by rw [hxs]; exact hv.1.1
  have hr : app ([] : List (D 3)) xs = some r := by rw [hxs, hrr]; exact hr0
  subst hrr
  have hT := slr23.2
  refine enter (l := [v]) Try.func39 rfl Try.ntmps39 rfl ?_
  refine CW.sub (L' := [(0, v)]) ⟨rfl, trivial⟩ ?_
  refine CW.sr fun K1 hK1 => ?_
  refine WL.p (.slice none 0 0) rfl rfl ?_
  refine WL.nx hK1 ?_
  refine CW.seq fun K2 hK2 => ?_
  refine CW.sr fun K3 hK3 => ?_
  refine WL.p v rfl rfl ?_
  obtain ⟨a, m, q, rfl, hn⟩ := rvSlice g0
  refine WL.stepE (OW.isNil slr23.1 rfl) rfl ?_
  refine WL.nx hK3 ?_
  cases a with
  | none =>
    refine CW.cond (b := true) rfl (fun _ => ?_) (fun h => nomatch h)
    refine CW.sr fun K4 hK4 => ?_
    refine WL.p (.slice none 0 0) rfl rfl ?_
    refine WL.nx hK4 ?_
    rw [hn rfl] at hr
    obtain rfl := app_nil hr
    exact CW.rets (vs := [.slice none 0 0]) Try.results39 ⟨rfl, trivial⟩ ⟨_, rfl, end_own (n := 3) (e := 32) (q := 1000) (K := []) (M := []) (N := []) rfl rfl rfl (by simp) (by simp) (Evo.refl _ _ γ.o w) (Ow.nil _ _ _ _ _) (fun x hx => by simp at hx <;> omega)⟩ (fun _ _ h => h)
  | some a =>
    refine CW.cond (b := false) rfl (fun h => nomatch h) (fun _ => ?_)
    refine CW.skip ?_
    refine hK2 _ _ ?_
    refine CW.sr fun K5 hK5 => ?_
    refine WL.step (OW.buildSlice (o := γ.o) (k := 1000) (K := []) (xs := ([] : List (D 3))) slr23.1 hT rfl trivial rfl rfl) rfl ?_
    rintro v1 w1 ⟨o1, ev1, h1⟩
    have g0 := g0.evo ev1 rfl
    refine WL.p (.slice (some a) m q) rfl rfl ?_
    refine WL.step (OW.append (K := []) slr23.1 hT rfl rfl h1 (@Els.flat (D 3) _ flat3 _ _ _ _ _ g0.els) hr rfl) rfl ?_
    rintro v2 w2 ⟨o2, ev2, h2⟩
    refine WL.p v2 rfl rfl ?_
    refine WL.nx hK5 ?_
    exact CW.rets (vs := [v2]) Try.results39 ⟨rfl, trivial⟩ ⟨_, rfl, end_own (n := 3) (e := 32) (q := 1000) (K := []) (M := [1000]) (N := [1000]) rfl rfl rfl (by simp) (by simp) ((ev1.weaken (by simp) (by simp)).trans ev2) h2 (fun x hx => by simp at hx <;> omega)⟩ (fun _ _ h => h)

noncomputable def slices_Reverse_Fault_Fault_L1 : Int × Int × List Fault →
  Option
    (Int × Int × List Fault ⊕
      List
        Fault) := fun x1 =>
  if decide (x1.1 < x1.2.1) = true then
    Option.bind (idx x1.2.2 x1.2.1) fun x2 =>
      Option.bind (idx x1.2.2 x1.1) fun x3 =>
        Option.bind (idx x1.2.2 x1.1) fun x4 =>
          Option.bind (idx x1.2.2 x1.1) fun x5 =>
            Option.bind (setO x1.2.2 x1.1 x2) fun x6 =>
              Option.bind (idx x6 x1.2.1) fun x7 =>
                Option.bind (idx x6 x1.2.1) fun x8 =>
                  Option.bind (setO x6 x1.2.1 x3) fun x9 =>
                    some (.inl (W (x1.1 + 1), W (x1.2.1 - 1), x9))
  else some (.inr x1.2.2)
noncomputable def slices_Reverse_Fault_Fault (a0 : (List Fault)) : Option ((List Fault)) :=
  Option.bind (loopO slices_Reverse_Fault_Fault_L1 (0, W (len a0 - 1), a0)) fun x10 => some x10
noncomputable def c40 : Con D := ⟨40, [.lf (.sl 3)], [.lf (.sl 3)], [.one (.own 1000)], [(1000, .sl 3 32 0 [0])], [], [(1000, .sl 3 32 0 [0])], fun h => slices_Reverse_Fault_Fault h⟩
theorem c40_ok : ConOk Try.prog T c40 := fn_ok (Φ := []) (rs := []) (an := (.n none .o (.n none (.loop ⟨[.lf (.int .i64), .lf (.int .i64), .lf (.sl 3)], [(2, .one (.h 0 [])), (3, .one (.h 1 []))], [(1000, .sl 3 32 2 [0])], [1000], 2384⟩ true [(.exit 0, ⟨[.lf (.sl 3)], [], [(1000, .sl 3 32 0 [0])], [1000], 2384⟩)] .o) .o))) pOk repOk (AllC.mem (l := []) trivial) hmix Try.call40 Try.func40 rfl rfl (by kernel_rfl) (fun h => by kernel_rfl)

noncomputable def faults_Normal_1 (a0 : Fault) : Option (Int × Int × Int × Int × Bool) := some (a0.Time, a0.Kind, a0.Part.Kind, a0.Part.Number, true)
noncomputable def c43 : Con D := ⟨43, [.lf (.int .i64), .lf (.int .i64), .lf (.int .i64), .lf (.int .i64)], [.lf (.int .i64), .lf (.int .i64), .lf (.int .i64), .lf (.int .i64), .lf .bool], [.agg [.h 0 [], .h 1 [], .h 2 [], .h 3 []]], [], [.agg [.h 0 [], .h 1 [], .h 2 [], .h 3 []], .one (.h 4 [])], [], fun h => faults_Normal_1 ⟨h.1, h.2.1, ⟨h.2.2.1, h.2.2.2⟩⟩⟩
theorem c43_ok : ConOk Try.prog T c43 := fn_ok (Φ := []) (rs := [.cell 2 32, .tmp 3]) (an := .o) pOk repOk (AllC.mem (l := []) trivial) hmix Try.call43 Try.func43 rfl rfl (by kernel_rfl) (fun h => by kernel_rfl)

noncomputable def faults_collect_Fault_Fault_v1_L1 (a0 : List
  Fault) : Int × List Fault →
  Option
    (Int × List Fault ⊕
      List
        Fault) := fun x1 =>
  if decide (x1.1 < len a0) = true then
    Option.bind (idx a0 x1.1) fun x2 =>
      Option.bind (faults_Normal_1 x2) fun x3 =>
        Option.bind
          (if x3.2.2.2.2 = true then
            Option.bind (app x1.2 [Fault.mk x3.1 x3.2.1 (Part.mk x3.2.2.1 x3.2.2.2.1)]) fun x4 =>
              some x4
          else some x1.2)
          fun x5 => some (.inl (W (x1.1 + 1), x5))
  else some (.inr x1.2)
noncomputable def faults_collect_Fault_Fault_v1 (a0 : (List Fault)) : Option ((List Fault)) :=
  Option.bind (loopO (faults_collect_Fault_Fault_v1_L1 a0) (0, [])) fun x6 =>
    Option.bind (slices_SortStableFunc_Fault_Fault x6) fun x7 =>
      Option.bind (slices_CompactFunc_Fault_Fault x7) fun x8 => some x8
noncomputable def c42_1 : Con D := ⟨42, [.lf (.sl 3)], [.lf (.sl 3)], [.one (.h 0 [0]), .one (.fn 43 []), .one (.fn 31 [])], [], [.one (.own 1000)], [(1000, .sl 3 32 0 [])], fun h => faults_collect_Fault_Fault_v1 h⟩
theorem c42_1_ok : ConOk Try.prog T c42_1 := fn_ok (Φ := [c43, c68, c69]) (rs := [.tmp 6]) (an := (.n none .o (.n none .o (.n none (.n none .o (.n none (.loop ⟨[.lf (.int .i64), .lf (.sl 3)], [(7, .one (.own 2384)), (14, .one (.h 0 []))], [(2384, .sl 3 32 1 [])], [], 2448⟩ true [(.exit 0, ⟨[.lf (.sl 3)], [(7, .one (.own 2384))], [(2384, .sl 3 32 0 [])], [], 2448⟩)] (.n none .o (.n none .o (.n none (.n none (.n none .o (.n none .o (.n none .o (.n (some (true, [(.normal, ⟨[.lf (.sl 3)], [(7, .one (.own 3410))], [(3410, .sl 3 32 0 [])], [2384], 3474⟩)])) .o .o)))) .o) .o)))) .o)) .o)))) pOk repOk (AllC.mem (⟨c43_ok, c68_ok, c69_ok, trivial⟩ : AllC _ _ [c43, c68, c69])) hmix Try.call42 Try.func42 rfl rfl (by kernel_rfl) (fun h => by kernel_rfl)

noncomputable def faults_Normal (a0 : (List Fault)) : Option (Int × (List Fault)) :=
  Option.bind (faults_wrong a0) fun x1 =>
    if x1 = true then some (1, [])
    else
      if decide (len a0 > 60) = true then some (2, [])
      else
        Option.bind (slices_Clone_Fault_Fault a0) fun x2 =>
          Option.bind (slices_Reverse_Fault_Fault x2) fun x3 =>
            Option.bind (faults_collect_Fault_Fault_v1 x3) fun x4 =>
              Option.bind (faults_turns x4) fun x5 =>
                if decide (len x5 > 24) = true then some (2, []) else some (0, x5)
noncomputable def c14 : Con D := ⟨14, [.lf (.sl 3)], [.lf (.int .i64), .lf (.sl 3)], [.one (.h 0 [0])], [], [.one (.own 1000), .one (.h 0 [])], [(1000, .sl 3 32 1 [])], fun h => faults_Normal h⟩
theorem c14_ok : ConOk Try.prog T c14 := fn_ok (Φ := [c30, c39, c40, c41, c42_1]) (rs := [.tmp 2, .tmp 3]) (an := .o) pOk repOk (AllC.mem (⟨c30_ok, c39_ok, c40_ok, c41_ok, c42_1_ok, trivial⟩ : AllC _ _ [c30, c39, c40, c41, c42_1])) hmix Try.call14 Try.func14 rfl rfl (by kernel_rfl) (fun h => by kernel_rfl)

noncomputable def faults_Now_1_1 (a0 : Fault) (a1 : Int) (a2 : Int) : Option (Bool) := Option.bind (if (a0.Time == a1) = true then some (a0.Kind == a2) else some false) fun x1 => some x1
noncomputable def c49 : Con D := ⟨49, [.lf (.int .i64), .lf (.int .i64), .lf (.int .i64), .lf (.int .i64), .el 0, .el 0], [.lf .bool], [.agg [.h 0 [], .h 1 [], .h 2 [], .h 3 []], .one (.rp 4 0 [0]), .one (.rp 5 0 [0])], [], [.one (.h 0 [])], [], fun h => faults_Now_1_1 ⟨h.1, h.2.1, ⟨h.2.2.1, h.2.2.2.1⟩⟩ h.2.2.2.2.1 h.2.2.2.2.2⟩
theorem c49_ok : ConOk Try.prog T c49 := fn_ok (Φ := []) (rs := [.tmp 4]) (an := (.n none .o (.n none (.r (some (true, [(.normal, ⟨[.lf .bool], [(4, .one (.h 0 []))], [], [], 2192⟩)])) .nil) .o))) pOk repOk (AllC.mem (l := []) trivial) hmix Try.call49 Try.func49 rfl rfl (by kernel_rfl) (fun h => by kernel_rfl)

noncomputable def faults_parts_1_v1 (a0 : Fault) (a1 : Int) (a2 : Int) : Option (Int × Int × Bool × Int × Int) := Option.bind (faults_Now_1_1 a0 a1 a2) fun x1 => some (a0.Part.Kind, a0.Part.Number, x1, a1, a2)
noncomputable def c67_2 : Con D := ⟨67, [.lf (.int .i64), .lf (.int .i64), .lf (.int .i64), .lf (.int .i64), .el 0, .el 0], [.lf (.int .i64), .lf (.int .i64), .lf .bool, .el 0, .el 0], [.agg [.h 0 [], .h 1 [], .h 2 [], .h 3 []], .one (.ptr 1000 0)], [(1000, .box [.fn 49 [.rp 4 0 [0], .rp 5 0 [0]]])], [.agg [.h 0 [], .h 1 []], .one (.h 2 [])], [(1000, .box [.fn 49 [.rp 3 0 [0], .rp 4 0 [0]]])], fun h => faults_parts_1_v1 ⟨h.1, h.2.1, ⟨h.2.2.1, h.2.2.2.1⟩⟩ h.2.2.2.2.1 h.2.2.2.2.2⟩
theorem c67_2_ok : ConOk Try.prog T c67_2 := fn_ok (Φ := [c49]) (rs := [.cell 3 25, .tmp 4]) (an := .o) pOk repOk (AllC.mem (⟨c49_ok, trivial⟩ : AllC _ _ [c49])) hmix Try.call67 Try.func67 rfl rfl (by kernel_rfl) (fun h => by kernel_rfl)

noncomputable def faults_collect_Fault_Part_v1_L1 (a0 : List
  Fault) : Int × List Part × Int × Int →
  Option
    (Int × List Part × Int × Int ⊕
      List Part ×
        Int ×
          Int) := fun x1 =>
  if decide (x1.1 < len a0) = true then
    Option.bind (idx a0 x1.1) fun x2 =>
      Option.bind (faults_parts_1_v1 x2 x1.2.2.1 x1.2.2.2) fun x3 =>
        Option.bind
          (if x3.2.2.1 = true then Option.bind (app x1.2.1 [Part.mk x3.1 x3.2.1]) fun x4 => some x4
          else some x1.2.1)
          fun x5 => some (.inl (W (x1.1 + 1), x5, x3.2.2.2.1, x3.2.2.2.2))
  else some (.inr (x1.2.1, x1.2.2.1, x1.2.2.2))
noncomputable def faults_collect_Fault_Part_v1 (a0 : (List Fault)) (a1 : Int) (a2 : Int) : Option (Int × Int × (List Part)) :=
  Option.bind (loopO (faults_collect_Fault_Part_v1_L1 a0) (0, [], a1, a2)) fun x6 =>
    Option.bind (slices_SortStableFunc_Part_Part x6.1) fun x7 =>
      Option.bind (slices_CompactFunc_Part_Part x7) fun x8 => some (x6.2.1, x6.2.2, x8)
noncomputable def c66_2 : Con D := ⟨66, [.lf (.sl 3), .el 0, .el 0], [.el 0, .el 0, .lf (.sl 4)], [.one (.h 0 [0]), .one (.fn 67 [.ptr 1000 0]), .one (.fn 63 [])], [(1000, .box [.fn 49 [.rp 1 0 [0], .rp 2 0 [0]]])], [.one (.own 1001)], [(1000, .box [.fn 49 [.rp 0 0 [0], .rp 1 0 [0]]]), (1001, .sl 4 25 2 [])], fun h => faults_collect_Fault_Part_v1 h.1 h.2.1 h.2.2⟩
theorem c66_2_ok : ConOk Try.prog T c66_2 := fn_ok (Φ := [c67_2, c79, c80]) (rs := [.tmp 6]) (an := (.n none .o (.n none .o (.n none (.n none .o (.n none (.loop ⟨[.lf (.int .i64), .lf (.sl 4), .el 0, .el 0], [(7, .one (.own 2384)), (14, .one (.h 0 []))], [(2384, .sl 4 25 1 []), (1000, .box [.fn 49 [.rp 2 0 [0], .rp 3 0 [0]]])], [1000], 2448⟩ true [(.exit 0, ⟨[.lf (.sl 4), .el 0, .el 0], [(7, .one (.own 2384))], [(2384, .sl 4 25 0 []), (1000, .box [.fn 49 [.rp 1 0 [0], .rp 2 0 [0]]])], [1000], 2448⟩)] (.n none .o (.n none .o (.n none (.n none (.n none .o (.n none .o (.n none .o (.n (some (true, [(.normal, ⟨[.lf (.sl 4)], [(7, .one (.own 3412))], [(3412, .sl 4 25 0 [])], [2384], 3476⟩)])) .o .o)))) .o) .o)))) .o)) .o)))) pOk repOk (AllC.mem (⟨c67_2_ok, c79_ok, c80_ok, trivial⟩ : AllC _ _ [c67_2, c79, c80])) hmix Try.call66 Try.func66 rfl rfl (by kernel_rfl) (fun h => by kernel_rfl)

noncomputable def faults_parts_v1 (a0 : (List Fault)) (a1 : Int) (a2 : Int) : Option ((List Part)) := Option.bind (faults_collect_Fault_Part_v1 a0 a1 a2) fun x1 => some x1.2.2
noncomputable def c36_2 : Con D := ⟨36, [.lf (.sl 3), .el 0, .el 0], [.lf (.sl 4)], [.one (.h 0 [0]), .one (.fn 49 [.rp 1 0 [0], .rp 2 0 [0]])], [], [.one (.own 1000)], [(1000, .sl 4 25 0 [])], fun h => faults_parts_v1 h.1 h.2.1 h.2.2⟩
theorem c36_2_ok : ConOk Try.prog T c36_2 := fn_ok (Φ := [c66_2]) (rs := [.tmp 4]) (an := .o) pOk repOk (AllC.mem (⟨c66_2_ok, trivial⟩ : AllC _ _ [c66_2])) hmix Try.call36 Try.func36 rfl rfl (by kernel_rfl) (fun h => by kernel_rfl)

noncomputable def faults_Now_1 (a0 : Int) (a1 : (List Fault)) (a2 : Int) : Option ((List Part)) := Option.bind (faults_parts_v1 a1 a2 a0) fun x1 => some x1
noncomputable def c48 : Con D := ⟨48, [.lf (.int .i64), .el 5, .el 0], [.lf (.sl 4)], [.one (.h 0 []), .one (.rp 1 5 [0]), .one (.rp 2 0 [0])], [], [.one (.own 1000)], [(1000, .sl 4 25 0 [])], fun h => faults_Now_1 h.1 h.2.1 h.2.2⟩
theorem c48_ok : ConOk Try.prog T c48 := fn_ok (Φ := [c36_2]) (rs := [.tmp 4]) (an := .o) pOk repOk (AllC.mem (⟨c36_2_ok, trivial⟩ : AllC _ _ [c36_2])) hmix Try.call48 Try.func48 rfl rfl (by kernel_rfl) (fun h => by kernel_rfl)

noncomputable def faults_Now (a0 : (List Fault)) (a1 : Int) : Option ((List Part) × (List Part)) :=
  Option.bind (faults_Check a0) fun x1 =>
    if (x1 != 0) = true then some ([], [])
    else
      Option.bind (faults_Now_1 1 a0 a1) fun x2 =>
        Option.bind (faults_Now_1 2 a0 a1) fun x3 => some (x2, x3)
noncomputable def c17 : Con D := ⟨17, [.lf (.sl 3), .lf (.int .i64)], [.lf (.sl 4), .lf (.sl 4)], [.one (.h 0 [0]), .one (.h 1 [])], [], [.one (.own 1000), .one (.own 1001)], [(1000, .sl 4 25 0 []), (1001, .sl 4 25 1 [])], fun h => faults_Now h.1 h.2⟩
theorem c17_ok : ConOk Try.prog T c17 := fn_ok (Φ := [c9, c48]) (rs := [.tmp 4, .tmp 5]) (an := .o) pOk repOk (AllC.mem (⟨c9_ok, c48_ok, trivial⟩ : AllC _ _ [c9, c48])) hmix Try.call17 Try.func17 rfl rfl (by kernel_rfl) (fun h => by kernel_rfl)

noncomputable def dynposref34_Now_L1 (a0 : List
  Fault) (a1 : Int) : Int × List Part × List Part →
  Option
    (Int × List Part × List Part ⊕
      List Part ×
        List
          Part) := fun x2 =>
  if decide (x2.1 < len a0) = true then
    Option.bind
      (Option.bind (idx a0 x2.1) fun x3 =>
        if (x3.Time != a1) = true then some (x2.2.1, x2.2.2)
        else
          Option.bind
            (if (x3.Kind == 1) = true then
              Option.bind (app x2.2.1 [x3.Part]) fun x5 => some (x5, x2.2.2)
            else Option.bind (app x2.2.2 [x3.Part]) fun x4 => some (x2.2.1, x4))
            fun x6 => some (x6.1, x6.2))
      fun x7 => some (.inl (W (x2.1 + 1), x7.1, x7.2))
  else some (.inr (x2.2.1, x2.2.2))
noncomputable def dynposref34_Now (a0 : (List Fault)) (a1 : Int) : Option ((List Part) × (List Part)) :=
  Option.bind (dynposref34_Check a0) fun x1 =>
    if (x1 != 0) = true then some ([], [])
    else Option.bind (loopO (dynposref34_Now_L1 a0 a1) (0, [], [])) fun x8 => some (x8.1, x8.2)
noncomputable def c18 : Con D := ⟨18, [.lf (.sl 3), .lf (.int .i64)], [.lf (.sl 4), .lf (.sl 4)], [.one (.h 0 [0]), .one (.h 1 [])], [], [.one (.own 1000), .one (.own 1001)], [(1000, .sl 4 25 0 []), (1001, .sl 4 25 1 [])], fun h => dynposref34_Now h.1 h.2⟩
theorem c18_ok : ConOk Try.prog T c18 := fn_ok (Φ := [c10]) (rs := [.tmp 4, .tmp 5]) (an := (.n none .o (.n none .o (.n none .o (.n none (.n none .o (.n none (.loop ⟨[.lf (.int .i64), .lf (.sl 4), .lf (.sl 4)], [(6, .one (.own 2640)), (7, .one (.own 2641)), (15, .one (.h 0 []))], [(2640, .sl 4 25 1 []), (2641, .sl 4 25 2 [])], [], 2704⟩ true [(.exit 0, ⟨[.lf (.sl 4), .lf (.sl 4)], [(6, .one (.own 2640)), (7, .one (.own 2641))], [(2640, .sl 4 25 0 []), (2641, .sl 4 25 1 [])], [], 2704⟩)] (.n none .o (.n none .o (.n none (.n (some (true, [(.normal, ⟨[.lf (.sl 4), .lf (.sl 4)], [(6, .one (.own 2771)), (7, .one (.own 2772))], [(2771, .sl 4 25 0 []), (2772, .sl 4 25 1 [])], [2640, 2641], 2835⟩)])) (.n none .o (.n none .o (.n none .o (.n (some (true, [(.normal, ⟨[.lf (.sl 4), .lf (.sl 4)], [(6, .one (.own 3475)), (7, .one (.own 3476))], [(3475, .sl 4 25 0 []), (3476, .sl 4 25 1 [])], [2640, 2641], 3539⟩)])) .o .o)))) .o) .o)))) .o)) .o))))) pOk repOk (AllC.mem (⟨c10_ok, trivial⟩ : AllC _ _ [c10])) hmix Try.call18 Try.func18 rfl rfl (by kernel_rfl) (fun h => by kernel_rfl)

noncomputable def dynposref34_Active_L2 (a0 : List
  Fault) (a1 : Int) (x4 : Part) : Bool × Int →
  Option
    (Bool × Int ⊕
      Bool) := fun x5 =>
  if decide (x5.2 < len a0) = true then
    Option.bind (idx a0 x5.2) fun x6 =>
      Option.bind
        (if (x6.Part.Kind == x4.Kind && x6.Part.Number == x4.Number) = true then some (decide (x6.Time ≤ a1))
        else some false)
        fun x7 =>
        Option.bind (if x7 = true then some (x6.Kind == 1) else some x5.1) fun x8 =>
          some (.inl (x8, W (x5.2 + 1)))
  else some (.inr x5.1)
noncomputable def dynposref34_Active_L1 (a0 : List
  Fault) (a1 : Int) (x2 : List
  Part) : Int × List Part →
  Option
    (Int × List Part ⊕
      List
        Part) := fun x3 =>
  if decide (x3.1 < len x2) = true then
    Option.bind (idx x2 x3.1) fun x4 =>
      Option.bind (loopO (dynposref34_Active_L2 a0 a1 x4) (false, 0)) fun x9 =>
        Option.bind (if x9 = true then Option.bind (app x3.2 [x4]) fun x10 => some x10 else some x3.2) fun x11 =>
          some (.inl (W (x3.1 + 1), x11))
  else some (.inr x3.2)
noncomputable def dynposref34_Active (a0 : (List Fault)) (a1 : Int) : Option ((List Part)) :=
  Option.bind (dynposref34_Check a0) fun x1 =>
    if (x1 != 0) = true then some []
    else
      Option.bind (dynposref34_Parts a0) fun x2 =>
        Option.bind (loopO (dynposref34_Active_L1 a0 a1 x2) (0, [])) fun x12 => some x12
noncomputable def c20 : Con D := ⟨20, [.lf (.sl 3), .lf (.int .i64)], [.lf (.sl 4)], [.one (.h 0 [0]), .one (.h 1 [])], [], [.one (.own 1000)], [(1000, .sl 4 25 0 [])], fun h => dynposref34_Active h.1 h.2⟩
theorem c20_ok : ConOk Try.prog T c20 := fn_ok (Φ := [c10, c13]) (rs := [.tmp 4]) (an := (.n none .o (.n none .o (.n none .o (.n none (.n none .o (.n none (.loop ⟨[.lf (.int .i64), .lf (.sl 4)], [(5, .one (.own 2576)), (17, .one (.h 0 []))], [(2576, .sl 4 25 1 [])], [], 2640⟩ true [(.exit 0, ⟨[.lf (.sl 4)], [(5, .one (.own 2576))], [(2576, .sl 4 25 0 [])], [], 2640⟩)] (.n none .o (.n none .o (.n none (.n none (.n none .o (.n none .o (.n none (.n none .o (.n none (.loop ⟨[.lf .bool, .lf (.int .i64)], [(8, .one (.h 0 [])), (23, .one (.h 1 []))], [], [], 3282⟩ true [(.exit 2, ⟨[.lf .bool], [(8, .one (.h 0 []))], [], [], 3282⟩)] (.n none .o (.n none .o (.n none (.n none (.n none .o (.n none (.r (some (true, [(.normal, ⟨[.lf .bool], [(32, .one (.any)), (33, .one (.any)), (34, .one (.any)), (35, .one (.any)), (36, .one (.h 0 []))], [], [], 3668⟩)])) .nil) (.n (some (true, [(.normal, ⟨[.lf .bool], [(8, .one (.h 0 []))], [], [], 3733⟩)])) .o .o))) .o) .o)))) .o)) (.n none .o (.n (some (true, [(.normal, ⟨[.lf (.sl 4)], [(5, .one (.own 3347))], [(3347, .sl 4 25 0 [])], [2576], 3411⟩)])) .o .o))))) .o) .o)))) .o)) .o))))) pOk repOk (AllC.mem (⟨c10_ok, c13_ok, trivial⟩ : AllC _ _ [c10, c13])) hmix Try.call20 Try.func20 rfl rfl (by kernel_rfl) (fun h => by kernel_rfl)

noncomputable def dynposref26_Union_L2 (x2 : List
  Part) : Int × List Part →
  Option
    (Int × List Part ⊕
      List
        Part) := fun x3 =>
  if decide (x3.1 < len x2) = true then
    Option.bind (idx x2 x3.1) fun x4 =>
      Option.bind (dynposref26_With x3.2 x4) fun x5 => some (.inl (W (x3.1 + 1), x5))
  else some (.inr x3.2)
noncomputable def dynposref26_Union_L1 (a0 : List
  Part) (a1 : List
  Part) : Int × List Part →
  Option
    (Int × List Part ⊕
      List
        Part) := fun x1 =>
  if decide (x1.1 < 2) = true then
    Option.bind (idx [a0, a1] x1.1) fun x2 =>
      Option.bind (loopO (dynposref26_Union_L2 x2) (0, x1.2)) fun x6 =>
        some (.inl (W (x1.1 + 1), x6))
  else some (.inr x1.2)
noncomputable def dynposref26_Union (a0 : (List Part)) (a1 : (List Part)) : Option ((List Part)) := Option.bind (loopO (dynposref26_Union_L1 a0 a1) (0, [])) fun x7 => some x7
noncomputable def c55 : Con D := ⟨55, [.lf (.sl 4), .lf (.sl 4)], [.lf (.sl 4)], [.one (.h 0 [0]), .one (.h 1 [0])], [], [.one (.own 1000)], [(1000, .sl 4 25 0 [])], fun h => dynposref26_Union h.1 h.2⟩
theorem c55_ok : ConOk Try.prog T c55 := fn_ok (Φ := [c46]) (rs := [.tmp 4]) (an := (.n none .o (.n none .o (.n none (.n none .o (.n none (.loop ⟨[.lf (.int .i64), .lf (.sl 4)], [(5, .one (.own 2384)), (13, .one (.h 0 []))], [(2384, .sl 4 25 1 [])], [], 2448⟩ true [(.exit 0, ⟨[.lf (.sl 4)], [(5, .one (.own 2384))], [(2384, .sl 4 25 0 [])], [], 2448⟩)] (.n none .o (.n none .o (.n none (.n none (.n none .o (.n none .o (.n none (.loop ⟨[.lf (.int .i64), .lf (.sl 4)], [(5, .one (.own 2834)), (18, .one (.h 0 []))], [(2834, .sl 4 25 1 [])], [2384], 2898⟩ true [(.exit 2, ⟨[.lf (.sl 4)], [(5, .one (.own 2834))], [(2834, .sl 4 25 0 [])], [2384], 2898⟩)] .o) .o))) .o) .o)))) .o)) .o)))) pOk repOk (AllC.mem (⟨c46_ok, trivial⟩ : AllC _ _ [c46])) hmix Try.call55 Try.func55 rfl rfl (by kernel_rfl) (fun h => by kernel_rfl)

noncomputable def dynposref34_Merge_L2 (x6 : Int ×
  List Fault ×
    List
      Part) (x7 : Int) (x10 : List
  Part) (x11 : List
  Part) : Int × List Fault →
  Option
    (Int × List Fault ⊕
      List
        Fault) := fun x12 =>
  if decide (x12.1 < len x11) = true then
    Option.bind (idx x11 x12.1) fun x13 =>
      Option.bind (dynposref26_Has x10 x13) fun x14 =>
        Option.bind (dynposref26_Has x6.2.2 x13) fun x15 =>
          Option.bind
            (if (!x14 == x15) = true then
              Option.bind
                (if x14 = true then some (x7, 1, x13.Kind, x13.Number)
                else some (x7, 2, x13.Kind, x13.Number))
                fun x16 =>
                Option.bind (app x12.2 [Fault.mk x16.1 x16.2.1 (Part.mk x16.2.2.1 x16.2.2.2)])
                  fun x17 => some x17
            else some x12.2)
            fun x18 => some (.inl (W (x12.1 + 1), x18))
  else some (.inr x12.2)
noncomputable def dynposref34_Merge_L1 (a0 : List
  Fault) (a1 : List
  Fault) (x4 : List
  Fault) (x5 : List
  Int) : Int × List Fault × List Part →
  Option
    (Int × List Fault × List Part ⊕
      List
        Fault) := fun x6 =>
  if decide (x6.1 < len x5) = true then
    Option.bind (idx x5 x6.1) fun x7 =>
      Option.bind (dynposref34_Active a0 x7) fun x8 =>
        Option.bind (dynposref34_Active a1 x7) fun x9 =>
          Option.bind (dynposref26_Union x8 x9) fun x10 =>
            Option.bind (dynposref34_parts x4) fun x11 =>
              Option.bind (loopO (dynposref34_Merge_L2 x6 x7 x10 x11) (0, x6.2.1)) fun x19 =>
                some (.inl (W (x6.1 + 1), x19, x10))
  else some (.inr x6.2.1)
noncomputable def dynposref34_Merge (a0 : (List Fault)) (a1 : (List Fault)) : Option (Int × (List Fault)) :=
  Option.bind (dynposref34_Check a0) fun x1 =>
    if (x1 != 0) = true then some (x1, [])
    else
      Option.bind (dynposref34_Check a1) fun x2 =>
        if (x2 != 0) = true then some (x2, [])
        else
          Option.bind (app [] a0) fun x3 =>
            Option.bind (app x3 a1) fun x4 =>
              Option.bind (dynposref34_times x4) fun x5 =>
                Option.bind (loopO (dynposref34_Merge_L1 a0 a1 x4 x5) (0, [], [])) fun x20 =>
                  if decide (len x20 > 24) = true then some (2, []) else some (0, x20)
noncomputable def c22 : Con D := ⟨22, [.lf (.sl 3), .lf (.sl 3)], [.lf (.int .i64), .lf (.sl 3)], [.one (.h 0 [0]), .one (.h 1 [0])], [], [.one (.own 1000), .one (.h 0 [])], [(1000, .sl 3 32 1 [])], fun h => dynposref34_Merge h.1 h.2⟩
theorem c22_ok : ConOk Try.prog T c22 := fn_ok (Φ := [c10, c20, c38, c44, c45, c55]) (rs := [.tmp 4, .tmp 5]) (an := (.n none .o (.n none .o (.n none .o (.n none .o (.n none .o (.n none .o (.n none (.n none .o (.n none (.loop ⟨[.lf (.int .i64), .lf (.sl 3), .lf (.sl 4)], [(9, .one (.own 3472)), (10, .one (.own 3473)), (35, .one (.h 0 []))], [(3472, .sl 3 32 1 []), (3473, .sl 4 25 2 [])], [], 3536⟩ true [(.exit 0, ⟨[.lf (.sl 3)], [(9, .one (.own 3472))], [(3472, .sl 3 32 0 [])], [], 3536⟩)] (.n none .o (.n none .o (.n none (.n none (.n none .o (.n none .o (.n none (.n none .o (.n none (.loop ⟨[.lf (.int .i64), .lf (.sl 3)], [(9, .one (.own 4563)), (49, .one (.h 0 []))], [(4563, .sl 3 32 1 [])], [3472], 4627⟩ true [(.exit 2, ⟨[.lf (.sl 3)], [(9, .one (.own 4563))], [(4563, .sl 3 32 0 [])], [3472], 4627⟩)] (.n none .o (.n none .o (.n none (.n none (.n none .o (.n none .o (.n none .o (.n (some (true, [(.normal, ⟨[.lf (.sl 3)], [(9, .one (.own 5525))], [(5525, .sl 3 32 0 [])], [4563], 5589⟩)])) (.n none .o (.n none (.n none .o (.n (some (true, [(.normal, ⟨[.lf (.int .i64), .lf (.int .i64), .lf (.int .i64), .lf (.int .i64)], [], [(5717, .box [.h 0 [], .h 1 [], .h 2 [], .h 3 []])], [5717], 5973⟩)])) .o .o)) .o)) .o)))) .o) .o)))) .o)) .o))) .o) .o)))) .o)) .o)))))))) pOk repOk (AllC.mem (⟨c10_ok, c20_ok, c38_ok, c44_ok, c45_ok, c55_ok, trivial⟩ : AllC _ _ [c10, c20, c38, c44, c45, c55])) hmix Try.call22 Try.func22 rfl rfl (by kernel_rfl) (fun h => by kernel_rfl)

noncomputable def faults_Shift_L1 (a0 : List
  Fault) (a1 : Int) : Int × List Fault →
  Option
    (Int × List Fault ⊕
      List Fault ⊕
        Int ×
          List
            Fault) := fun x3 =>
  if decide (x3.1 < len a0) = true then
    Option.bind (idx a0 x3.1) fun x4 =>
      Option.bind
        (if decide (a1 > 2147483648) = true then some true
        else
          if decide (a1 < (-2147483648)) = true then some true
          else
            if decide (W (x4.Time + a1) < 0) = true then some true
            else some (decide (W (x4.Time + a1) > 2147483648)))
        fun x5 =>
        if x5 = true then some (.inr (.inr (1, [])))
        else
          Option.bind (idx x3.2 x3.1) fun x6 =>
            Option.bind (idx x3.2 x3.1) fun x7 =>
              Option.bind (idx x3.2 x3.1) fun x8 =>
                Option.bind (setO x3.2 x3.1 (Fault.mk (W (x6.Time + a1)) x8.Kind x8.Part)) fun x9 =>
                  some (.inl (W (x3.1 + 1), x9))
  else some (.inr (.inl x3.2))
noncomputable def faults_Shift (a0 : (List Fault)) (a1 : Int) : Option (Int × (List Fault)) :=
  Option.bind (faults_Check a0) fun x1 =>
    if (x1 != 0) = true then some (x1, [])
    else
      Option.bind (slices_Clone_Fault_Fault a0) fun x2 =>
        Option.bind (loopO (faults_Shift_L1 a0 a1) (0, x2)) fun x10 =>
          Sum.elim (fun x11 => some (0, x11)) (fun x12 => some x12) x10
noncomputable def c24 : Con D := ⟨24, [.lf (.sl 3), .lf (.int .i64)], [.lf (.int .i64), .lf (.sl 3)], [.one (.h 0 [0]), .one (.h 1 [])], [], [.one (.own 1000), .one (.h 0 [])], [(1000, .sl 3 32 1 [])], fun h => faults_Shift h.1 h.2⟩
theorem c24_ok : ConOk Try.prog T c24 := fn_ok (Φ := [c9, c39]) (rs := [.tmp 4, .tmp 5]) (an := (.n none .o (.n none .o (.n none .o (.n none (.n none .o (.n none (.loop ⟨[.lf (.int .i64), .lf (.sl 3)], [(19, .one (.h 0 []))], [(2520, .sl 3 32 1 [])], [2520], 2896⟩ false [(.exit 0, ⟨[.lf (.sl 3)], [], [(2520, .sl 3 32 0 [])], [2520], 2896⟩)] (.n none .o (.n none .o (.n none (.n none (.n none .o (.n none (.n none (.r (some (true, [(.normal, ⟨[.lf .bool], [(27, .one (.any)), (28, .one (.any)), (31, .one (.any)), (32, .one (.any)), (33, .one (.any)), (34, .one (.any)), (35, .one (.any)), (38, .one (.any)), (39, .one (.any)), (40, .one (.any)), (41, .one (.any)), (42, .one (.any)), (43, .one (.h 0 []))], [], [], 3410⟩)])) .nil) .o) .o)) .o) .o)))) .o)) .o))))) pOk repOk (AllC.mem (⟨c9_ok, c39_ok, trivial⟩ : AllC _ _ [c9, c39])) hmix Try.call24 Try.func24 rfl rfl (by kernel_rfl) (fun h => by kernel_rfl)

noncomputable def dynposref34_Shift_L1 (a0 : List
  Fault) (a1 : Int) : Int × List Fault →
  Option
    (Int × List Fault ⊕
      List Fault ⊕
        Int ×
          List
            Fault) := fun x2 =>
  if decide (x2.1 < len a0) = true then
    Option.bind (idx a0 x2.1) fun x3 =>
      Option.bind
        (if decide (a1 < W (-x3.Time)) = true then some true
        else some (decide (a1 > W (2147483648 - x3.Time))))
        fun x4 =>
        if x4 = true then some (.inr (.inr (1, [])))
        else
          Option.bind (app x2.2 [Fault.mk (W (x3.Time + a1)) x3.Kind x3.Part]) fun x5 =>
            some (.inl (W (x2.1 + 1), x5))
  else some (.inr (.inl x2.2))
noncomputable def dynposref34_Shift (a0 : (List Fault)) (a1 : Int) : Option (Int × (List Fault)) :=
  Option.bind (dynposref34_Check a0) fun x1 =>
    if (x1 != 0) = true then some (x1, [])
    else
      Option.bind (loopO (dynposref34_Shift_L1 a0 a1) (0, [])) fun x6 =>
        Sum.elim (fun x7 => some (0, x7)) (fun x8 => some x8) x6
noncomputable def c25 : Con D := ⟨25, [.lf (.sl 3), .lf (.int .i64)], [.lf (.int .i64), .lf (.sl 3)], [.one (.h 0 [0]), .one (.h 1 [])], [], [.one (.own 1000), .one (.h 0 [])], [(1000, .sl 3 32 1 [])], fun h => dynposref34_Shift h.1 h.2⟩
theorem c25_ok : ConOk Try.prog T c25 := fn_ok (Φ := [c10]) (rs := [.tmp 4, .tmp 5]) (an := (.n none .o (.n none .o (.n none .o (.n none (.n none .o (.n none (.loop ⟨[.lf (.int .i64), .lf (.sl 3)], [(7, .one (.own 2704)), (17, .one (.h 0 []))], [(2704, .sl 3 32 1 [])], [], 2768⟩ false [(.exit 0, ⟨[.lf (.sl 3)], [(7, .one (.own 2704))], [(2704, .sl 3 32 0 [])], [], 2768⟩)] (.n none .o (.n none .o (.n none (.n none (.n none .o (.n none (.n none (.r (some (true, [(.normal, ⟨[.lf .bool], [(27, .one (.any)), (28, .one (.any)), (29, .one (.any)), (30, .one (.any)), (31, .one (.any)), (32, .one (.h 0 []))], [], [], 3154⟩)])) .nil) .o) .o)) .o) .o)))) .o)) .o))))) pOk repOk (AllC.mem (⟨c10_ok, trivial⟩ : AllC _ _ [c10])) hmix Try.call25 Try.func25 rfl rfl (by kernel_rfl) (fun h => by kernel_rfl)

noncomputable def faults_Without_1 (a0 : Fault) (a1 : Part) : Option (Bool) := some (a0.Part.Kind == a1.Kind && a0.Part.Number == a1.Number)
noncomputable def c57 : Con D := ⟨57, [.lf (.int .i64), .lf (.int .i64), .lf (.int .i64), .lf (.int .i64), .el 4], [.lf .bool], [.agg [.h 0 [], .h 1 [], .h 2 [], .h 3 []], .one (.rp 4 4 [0])], [], [.one (.h 0 [])], [], fun h => faults_Without_1 ⟨h.1, h.2.1, ⟨h.2.2.1, h.2.2.2.1⟩⟩ h.2.2.2.2⟩
theorem c57_ok : ConOk Try.prog T c57 := fn_ok (Φ := []) (rs := [.tmp 3]) (an := .o) pOk repOk (AllC.mem (l := []) trivial) hmix Try.call57 Try.func57 rfl rfl (by kernel_rfl) (fun h => by kernel_rfl)

noncomputable def slices_IndexFunc_Fault_Fault_v1_L1 (a0 : List
  Fault) (a1 : Part) : Int →
  Option
    (Int ⊕
      Unit ⊕
        Int) := fun x1 =>
  if decide (x1 < len a0) = true then
    Option.bind (idx a0 x1) fun x2 =>
      Option.bind (faults_Without_1 x2 a1) fun x3 =>
        if x3 = true then some (.inr (.inr x1)) else some (.inl (W (x1 + 1)))
  else some (.inr (.inl ()))
noncomputable def slices_IndexFunc_Fault_Fault_v1 (a0 : (List Fault)) (a1 : Part) : Option (Int) :=
  Option.bind (loopO (slices_IndexFunc_Fault_Fault_v1_L1 a0 a1) 0) fun x4 =>
    Sum.elim (fun x5 => some (-1)) (fun x6 => some x6) x4
noncomputable def c75_1 : Con D := ⟨75, [.lf (.sl 3), .el 4], [.lf (.int .i64)], [.one (.h 0 [0]), .one (.fn 57 [.rp 1 4 [0]])], [], [.one (.h 0 [])], [], fun h => slices_IndexFunc_Fault_Fault_v1 h.1 h.2⟩
theorem c75_1_ok : ConOk Try.prog T c75_1 := fn_ok (Φ := [c57]) (rs := [.tmp 4]) (an := (.n none .o (.n none (.n none .o (.n none (.loop ⟨[.lf (.int .i64)], [(8, .one (.h 0 []))], [], [], 2320⟩ false [(.exit 0, ⟨[], [], [], [], 2320⟩)] .o) .o)) .o))) pOk repOk (AllC.mem (⟨c57_ok, trivial⟩ : AllC _ _ [c57])) hmix Try.call75 Try.func75 rfl rfl (by kernel_rfl) (fun h => by kernel_rfl)

noncomputable def slices_DeleteFunc_Fault_Fault_v2_L1 (a1 : Part) : Int × Int × List Fault →
  Option
    (Int × Int × List Fault ⊕
      Int ×
        List
          Fault) := fun x2 =>
  if decide (x2.2.1 < len x2.2.2) = true then
    Option.bind (idx x2.2.2 x2.2.1) fun x3 =>
      Option.bind (faults_Without_1 x3 a1) fun x4 =>
        Option.bind
          (if (!x4) = true then
            Option.bind (idx x2.2.2 x2.1) fun x5 =>
              Option.bind (idx x2.2.2 x2.1) fun x6 =>
                Option.bind (setO x2.2.2 x2.1 x3) fun x7 => some (W (x2.1 + 1), x7)
          else some (x2.1, x2.2.2))
          fun x8 => some (.inl (x8.1, W (x2.2.1 + 1), x8.2))
  else some (.inr (x2.1, x2.2.2))
noncomputable def slices_DeleteFunc_Fault_Fault_v2 (a0 : (List Fault)) (a1 : Part) : Option ((List Fault)) :=
  Option.bind (slices_IndexFunc_Fault_Fault_v1 a0 a1) fun x1 =>
    if (x1 == (-1)) = true then some a0
    else
      Option.bind (loopO (slices_DeleteFunc_Fault_Fault_v2_L1 a1) (x1, W (x1 + 1), a0)) fun x9 =>
        Option.bind (slc x9.2 x9.1 (len x9.2)) fun x10 =>
          Option.bind
            (slc (clrT (Fault.mk 0 0 (Part.mk 0 0)) x9.2 x9.1)
              0 x9.1)
            fun x11 => some x11
noncomputable def c56_2 : Con D := ⟨56, [.lf (.sl 3), .el 4], [.lf (.sl 3)], [.one (.own 1000), .one (.fn 57 [.rp 1 4 [0]])], [(1000, .sl 3 32 0 [])], [.one (.own 1001)], [(1001, .sl 3 32 0 [])], fun h => slices_DeleteFunc_Fault_Fault_v2 h.1 h.2⟩
theorem c56_2_ok : ConOk Try.prog T c56_2 := fn_ok (Φ := [c57, c75_1]) (rs := [.tmp 4]) (an := (.n none .o (.n none .o (.n none .o (.n none (.n none .o (.n none (.loop ⟨[.lf (.int .i64), .lf (.int .i64), .lf (.sl 3)], [(5, .one (.h 0 [])), (6, .one (.h 1 []))], [(1000, .sl 3 32 2 [])], [1000], 2704⟩ true [(.exit 0, ⟨[.lf (.int .i64), .lf (.sl 3)], [(5, .one (.h 0 []))], [(1000, .sl 3 32 1 [])], [1000], 2704⟩)] (.n none .o (.n none (.n none (.n none .o (.n none .o (.n (some (true, [(.normal, ⟨[.lf (.int .i64), .lf (.sl 3)], [(5, .one (.h 0 []))], [(1000, .sl 3 32 1 [])], [1000], 3667⟩)])) .o .o))) .o) .o))) .o)) .o))))) pOk repOk (AllC.mem (⟨c57_ok, c75_1_ok, trivial⟩ : AllC _ _ [c57, c75_1])) hmix Try.call56 Try.func56 rfl rfl (by kernel_rfl) (fun h => by kernel_rfl)

noncomputable def faults_Without (a0 : (List Fault)) (a1 : Part) : Option (Int × (List Fault)) :=
  Option.bind (faults_Check a0) fun x1 =>
    if (x1 != 0) = true then some (x1, [])
    else
      Option.bind (slices_Clone_Fault_Fault a0) fun x2 =>
        Option.bind (slices_DeleteFunc_Fault_Fault_v2 x2 a1) fun x3 => some (0, x3)
noncomputable def c27 : Con D := ⟨27, [.lf (.sl 3), .lf (.int .i64), .lf (.int .i64)], [.lf (.int .i64), .lf (.sl 3)], [.one (.h 0 [0]), .agg [.h 1 [], .h 2 []]], [], [.one (.own 1000), .one (.h 0 [])], [(1000, .sl 3 32 1 [])], fun h => faults_Without h.1 ⟨h.2.1, h.2.2⟩⟩
theorem c27_ok : ConOk Try.prog T c27 := fn_ok (Φ := [c9, c39, c56_2]) (rs := [.tmp 4, .tmp 5]) (an := .o) pOk repOk (AllC.mem (⟨c9_ok, c39_ok, c56_2_ok, trivial⟩ : AllC _ _ [c9, c39, c56_2])) hmix Try.call27 Try.func27 rfl rfl (by kernel_rfl) (fun h => by kernel_rfl)

noncomputable def dynposref34_Without_L1 (a0 : List
  Fault) (a1 : Part) : Int × List Fault →
  Option
    (Int × List Fault ⊕
      List
        Fault) := fun x2 =>
  if decide (x2.1 < len a0) = true then
    Option.bind (idx a0 x2.1) fun x3 =>
      Option.bind
        (if (!(x3.Part.Kind == a1.Kind && x3.Part.Number == a1.Number)) = true then
          Option.bind (app x2.2 [x3]) fun x4 => some x4
        else some x2.2)
        fun x5 => some (.inl (W (x2.1 + 1), x5))
  else some (.inr x2.2)
noncomputable def dynposref34_Without (a0 : (List Fault)) (a1 : Part) : Option (Int × (List Fault)) :=
  Option.bind (dynposref34_Check a0) fun x1 =>
    if (x1 != 0) = true then some (x1, [])
    else Option.bind (loopO (dynposref34_Without_L1 a0 a1) (0, [])) fun x6 => some (0, x6)
noncomputable def c28 : Con D := ⟨28, [.lf (.sl 3), .lf (.int .i64), .lf (.int .i64)], [.lf (.int .i64), .lf (.sl 3)], [.one (.h 0 [0]), .agg [.h 1 [], .h 2 []]], [], [.one (.own 1000), .one (.h 0 [])], [(1000, .sl 3 32 1 [])], fun h => dynposref34_Without h.1 ⟨h.2.1, h.2.2⟩⟩
theorem c28_ok : ConOk Try.prog T c28 := fn_ok (Φ := [c10]) (rs := [.tmp 4, .tmp 5]) (an := (.n none .o (.n none .o (.n none .o (.n none (.n none .o (.n none (.loop ⟨[.lf (.int .i64), .lf (.sl 3)], [(7, .one (.own 2768)), (17, .one (.h 0 []))], [(2768, .sl 3 32 1 [])], [], 2832⟩ true [(.exit 0, ⟨[.lf (.sl 3)], [(7, .one (.own 2768))], [(2768, .sl 3 32 0 [])], [], 2832⟩)] (.n none .o (.n none .o (.n none (.n none (.n none .o (.n none .o (.n (some (true, [(.normal, ⟨[.lf (.sl 3)], [(7, .one (.own 3410))], [(3410, .sl 3 32 0 [])], [2768], 3474⟩)])) .o .o))) .o) .o)))) .o)) .o))))) pOk repOk (AllC.mem (⟨c10_ok, trivial⟩ : AllC _ _ [c10])) hmix Try.call28 Try.func28 rfl rfl (by kernel_rfl) (fun h => by kernel_rfl)

noncomputable def dynposlaw34_FaultsExact_L2 (a3 : Int) (x18 : List
  Fault) (x29 : Int ×
  List Int ×
    Int) : Int →
  Option
    (Int ⊕
      Unit ⊕
        Int × List Int × Int ⊕
          List Int × Int ⊕
            Bool) := fun x30 =>
  if decide (x30 < 2) = true then
    Option.bind (idx [a3, x29.1] x30) fun x31 =>
      Option.bind (faults_Now x18 x31) fun x32 =>
        Option.bind (dynposref34_Now x18 x31) fun x33 =>
          Option.bind
            (Option.bind (faults_Active x18 x31) fun x34 =>
              Option.bind (dynposref34_Active x18 x31) fun x35 =>
                Option.bind (dynposref26_Same x34 x35) fun x36 =>
                  if (!x36) = true then some true
                  else
                    Option.bind (dynposref26_Same x32.1 x33.1) fun x37 =>
                      if (!x37) = true then some true
                      else Option.bind (dynposref26_Same x32.2 x33.2) fun x38 => some !x38)
            fun x39 =>
            if x39 = true then some (.inr (.inr (.inr (.inr false))))
            else some (.inl (W (x30 + 1)))
  else some (.inr (.inl ()))
noncomputable def dynposlaw34_FaultsExact_L3 (a2 : List
  Fault) (x4 : List Int ×
  Int ×
    List
      Fault) (x18 : List
  Fault) : Int →
  Option
    (Int ⊕
      Unit ⊕
        Int × List Int × Int ⊕
          List Int × Int ⊕
            Bool) := fun x42 =>
  if decide (x42 < 2) = true then
    Option.bind (idx [x4.2.2, a2] x42) fun x43 =>
      Option.bind (faults_Merge x18 x43) fun x44 =>
        Option.bind (dynposref34_Merge x18 x43) fun x45 =>
          Option.bind
            (if (x44.1 != x45.1) = true then some true
            else Option.bind (dynposref34_Same x44.2 x45.2) fun x46 => some !x46)
            fun x47 =>
            if x47 = true then some (.inr (.inr (.inr (.inr false))))
            else some (.inl (W (x42 + 1)))
  else some (.inr (.inl ()))
noncomputable def dynposlaw34_FaultsExact_L4 (a4 : Int) (x18 : List
  Fault) (x50 : Int ×
  List Int ×
    Int) : Int →
  Option
    (Int ⊕
      Unit ⊕
        Int × List Int × Int ⊕
          List Int × Int ⊕
            Bool) := fun x51 =>
  if decide (x51 < 2) = true then
    Option.bind (idx [a4, x50.1] x51) fun x52 =>
      Option.bind (faults_Shift x18 x52) fun x53 =>
        Option.bind (dynposref34_Shift x18 x52) fun x54 =>
          Option.bind
            (if (x53.1 != x54.1) = true then some true
            else Option.bind (dynposref34_Same x53.2 x54.2) fun x55 => some !x55)
            fun x56 =>
            if x56 = true then some (.inr (.inr (.inr (.inr false))))
            else some (.inl (W (x51 + 1)))
  else some (.inr (.inl ()))
noncomputable def dynposlaw34_FaultsExact_L5 (a5 : Part) (x18 : List
  Fault) (x59 : Int ×
  Int ×
    List Int ×
      Int) : Int →
  Option
    (Int ⊕
      Unit ⊕
        Int × List Int × Int ⊕
          List Int × Int ⊕
            Bool) := fun x60 =>
  if decide (x60 < 2) = true then
    Option.bind (idx [a5, Part.mk x59.1 x59.2.1] x60) fun x61 =>
      Option.bind (faults_Without x18 x61) fun x62 =>
        Option.bind (dynposref34_Without x18 x61) fun x63 =>
          Option.bind
            (if (x62.1 != x63.1) = true then some true
            else Option.bind (dynposref34_Same x62.2 x63.2) fun x64 => some !x64)
            fun x65 =>
            if x65 = true then some (.inr (.inr (.inr (.inr false))))
            else some (.inl (W (x60 + 1)))
  else some (.inr (.inl ()))
noncomputable def dynposlaw34_FaultsExact_L1 (a1 : List
  Fault) (a2 : List
  Fault) (a3 : Int) (a4 : Int) (a5 : Part) (x3 : List Int ×
  Int ×
    List
      Fault) (x4 : List Int ×
  Int ×
    List
      Fault) (x15 : List Int ×
  Int ×
    List
      Fault) (x16 : List Int ×
  Int ×
    List
      Fault) : Int × List Int × Int →
  Option
    (Int × List Int × Int ⊕
      List Int × Int ⊕
        Bool) := fun x17 =>
  if decide (x17.1 < 5) = true then
    Option.bind (idx [x3.2.2, x15.2.2, x16.2.2, a1, a2] x17.1) fun x18 =>
      Option.bind
        (Option.bind (faults_Check x18) fun x19 =>
          Option.bind (dynposref34_Check x18) fun x20 =>
            if (x19 != x20) = true then some true
            else
              Option.bind (faults_Parts x18) fun x21 =>
                Option.bind (dynposref34_Parts x18) fun x22 =>
                  Option.bind (dynposref26_Same x21 x22) fun x23 => some !x23)
        fun x24 =>
        if x24 = true then some (.inr (.inr false))
        else
          Option.bind (faults_Normal x18) fun x25 =>
            Option.bind (dynposref34_Normal x18) fun x26 =>
              Option.bind
                (if (x25.1 != x26.1) = true then some true
                else Option.bind (dynposref34_Same x25.2 x26.2) fun x27 => some !x27)
                fun x28 =>
                if x28 = true then some (.inr (.inr false))
                else
                  Option.bind (Src_N (Src.mk x17.2.1 x17.2.2) 10) fun x29 =>
                    Option.bind (loopO (dynposlaw34_FaultsExact_L2 a3 x18 x29) 0) fun x40 =>
                      Sum.elim
                        (fun x41 =>
                          Option.bind (loopO (dynposlaw34_FaultsExact_L3 a2 x4 x18) 0) fun x48 =>
                            Sum.elim
                              (fun x49 =>
                                Option.bind (Src_Range (Src.mk x29.2.1 x29.2.2) (-9) 9)
                                  fun x50 =>
                                  Option.bind (loopO (dynposlaw34_FaultsExact_L4 a4 x18 x50) 0) fun x57 =>
                                    Sum.elim
                                      (fun x58 =>
                                        Option.bind (Src_Part (Src.mk x50.2.1 x50.2.2)) fun x59 =>
                                          Option.bind (loopO (dynposlaw34_FaultsExact_L5 a5 x18 x59) 0)
                                            fun x66 =>
                                            Sum.elim
                                              (fun x67 =>
                                                some
                                                  (.inl
                                                    (W (x17.1 + 1), x59.2.2.1, x59.2.2.2)))
                                              (fun x68 => some x68) x66)
                                      (fun x69 => some x69) x57)
                              (fun x70 => some x70) x48)
                        (fun x71 => some x71) x40
  else some (.inr (.inl (x17.2.1, x17.2.2)))
noncomputable def dynposlaw34_FaultsExact (a0 : (List Int)) (a1 : (List Fault)) (a2 : (List Fault)) (a3 : Int) (a4 : Int) (a5 : Part) : Option (Bool) :=
  Option.bind
    (if decide (len a0 > 600) = true then some true
    else if decide (len a1 > 70) = true then some true else some (decide (len a2 > 30)))
    fun x1 =>
    if x1 = true then Option.bind dynposlaw34_sane fun x76 => some x76
    else
      Option.bind (dynposmake_New a0) fun x2 =>
        Option.bind (Src_Faults (Src.mk x2.1 x2.2) 10) fun x3 =>
          Option.bind (Src_Faults (Src.mk x3.1 x3.2.1) 10) fun x4 =>
            Option.bind (app [] x3.2.2) fun x5 =>
              Option.bind
                (if decide (len x5 > 1) = true then
                  Option.bind (Src_N (Src.mk x4.1 x4.2.1) (W (len x5 - 1))) fun x6 =>
                    Option.bind (idx x5 (W (x6.1 + 1))) fun x7 =>
                      Option.bind (idx x5 x6.1) fun x8 =>
                        Option.bind (idx x5 x6.1) fun x9 =>
                          Option.bind (idx x5 x6.1) fun x10 =>
                            Option.bind (setO x5 x6.1 x7) fun x11 =>
                              Option.bind (idx x11 (W (x6.1 + 1))) fun x12 =>
                                Option.bind (idx x11 (W (x6.1 + 1))) fun x13 =>
                                  Option.bind (setO x11 (W (x6.1 + 1)) x8) fun x14 =>
                                    some (x6.2.1, x6.2.2, x14)
                else some (x4.1, x4.2.1, x5))
                fun x15 =>
                Option.bind (Src_AnyFaults (Src.mk x15.1 x15.2.1) 8) fun x16 =>
                  Option.bind
                    (loopO (dynposlaw34_FaultsExact_L1 a1 a2 a3 a4 a5 x3 x4 x15 x16)
                      (0, x16.1, x16.2.1))
                    fun x72 =>
                    Sum.elim (fun x73 => Option.bind dynposlaw34_sane fun x74 => some x74) (fun x75 => some x75) x72
noncomputable def c3 : Con D := ⟨3, [.lf (.sl 0), .lf (.sl 3), .lf (.sl 3), .lf (.int .i64), .lf (.int .i64), .lf (.int .i64), .lf (.int .i64)], [.lf .bool], [.one (.h 0 [0]), .one (.h 1 [0]), .one (.h 2 [0]), .one (.h 3 []), .one (.h 4 []), .agg [.h 5 [], .h 6 []]], [], [.one (.h 0 [])], [], fun h => dynposlaw34_FaultsExact h.1 h.2.1 h.2.2.1 h.2.2.2.1 h.2.2.2.2.1 ⟨h.2.2.2.2.2.1, h.2.2.2.2.2.2⟩⟩
theorem c3_ok : ConOk Try.prog T c3 := fn_ok (Φ := [c4, c5, c6, c7, c8, c9, c10, c11, c12, c13, c14, c15, c16, c17, c18, c19, c20, c21, c22, c23, c24, c25, c26, c27, c28]) (rs := [.tmp 12]) (an := (.n none .o (.n none (.n none (.r (some (true, [(.normal, ⟨[.lf .bool], [(60, .one (.h 0 []))], [], [], 2192⟩)])) .nil) .o) (.n none .o (.n none .o (.n none .o (.n none (.n none .o (.n (some (true, [(.normal, ⟨[.lf (.sl 0), .lf (.int .i64), .lf (.sl 3)], [], [(2265, .box [.h 0 [0], .h 1 []]), (2833, .sl 3 32 2 [])], [2265, 2833], 3217⟩)])) .o .o)) (.n none (.n none .o (.n none (.f [2585] (.loop ⟨[.lf (.int .i64), .lf (.sl 0), .lf (.int .i64)], [(101, .one (.h 0 []))], [(2265, .box [.h 1 [0], .h 2 []])], [2265], 3796⟩ false [(.exit 0, ⟨[.lf (.sl 0), .lf (.int .i64)], [], [(2265, .box [.h 0 [0], .h 1 []])], [2265], 3796⟩)] (.n none .o (.n none .o (.n none (.n none (.n none .o (.n none (.n none (.r (some (true, [(.normal, ⟨[.lf .bool], [(110, .one (.any)), (111, .one (.any)), (112, .one (.any)), (113, .one (.any)), (114, .one (.any)), (115, .one (.any)), (116, .one (.h 0 []))], [], [], 4055⟩)])) .nil) .o) (.n none .o (.n none .o (.n none (.n none (.r (some (true, [(.normal, ⟨[.lf .bool], [(131, .one (.any)), (132, .one (.any)), (133, .one (.any)), (134, .one (.any)), (135, .one (.h 0 []))], [], [], 5016⟩)])) .nil) .o) (.n none (.n none .o (.n none (.loop ⟨[.lf (.int .i64)], [(140, .one (.h 0 []))], [], [], 5401⟩ false [(.exit 2, ⟨[], [], [], [], 5401⟩)] (.n none .o (.n none .o (.n none (.n none (.n none .o (.n none .o (.n none .o (.n none (.r (some (true, [(.normal, ⟨[.lf .bool], [(164, .one (.any)), (165, .one (.any)), (166, .one (.any)), (167, .one (.any)), (170, .one (.any)), (171, .one (.any)), (172, .one (.any)), (173, .one (.any)), (174, .one (.h 0 []))], [], [], 6682⟩)])) .nil) .o)))) .o) .o)))) .o)) (.n none (.n none .o (.n none (.loop ⟨[.lf (.int .i64)], [(179, .one (.h 0 []))], [], [], 5721⟩ false [(.exit 4, ⟨[], [], [], [], 5721⟩)] (.n none .o (.n none .o (.n none (.n none (.n none .o (.n none .o (.n none .o (.n none (.r (some (true, [(.normal, ⟨[.lf .bool], [(198, .one (.any)), (199, .one (.any)), (200, .one (.any)), (201, .one (.any)), (202, .one (.h 0 []))], [], [], 7002⟩)])) .nil) .o)))) .o) .o)))) .o)) (.n none (.n none .o (.n none (.loop ⟨[.lf (.int .i64)], [(208, .one (.h 0 []))], [], [], 6105⟩ false [(.exit 6, ⟨[], [], [], [], 6105⟩)] (.n none .o (.n none .o (.n none (.n none (.n none .o (.n none .o (.n none .o (.n none (.r (some (true, [(.normal, ⟨[.lf .bool], [(227, .one (.any)), (228, .one (.any)), (229, .one (.any)), (230, .one (.any)), (231, .one (.h 0 []))], [], [], 7386⟩)])) .nil) .o)))) .o) .o)))) .o)) (.n none .o (.n none (.loop ⟨[.lf (.int .i64)], [(237, .one (.h 0 []))], [], [], 6489⟩ false [(.exit 8, ⟨[], [], [], [], 6489⟩)] (.n none .o (.n none .o (.n none (.n none (.n none .o (.n none .o (.n none .o (.n none (.r (some (true, [(.normal, ⟨[.lf .bool], [(256, .one (.any)), (257, .one (.any)), (258, .one (.any)), (259, .one (.any)), (260, .one (.h 0 []))], [], [], 7834⟩)])) .nil) .o)))) .o) .o)))) .o)))))))))) .o) .o))))) .o)) .o)))))))) pOk repOk (AllC.mem (⟨c4_ok, c5_ok, c6_ok, c7_ok, c8_ok, c9_ok, c10_ok, c11_ok, c12_ok, c13_ok, c14_ok, c15_ok, c16_ok, c17_ok, c18_ok, c19_ok, c20_ok, c21_ok, c22_ok, c23_ok, c24_ok, c25_ok, c26_ok, c27_ok, c28_ok, trivial⟩ : AllC _ _ [c4, c5, c6, c7, c8, c9, c10, c11, c12, c13, c14, c15, c16, c17, c18, c19, c20, c21, c22, c23, c24, c25, c26, c27, c28])) hmix Try.call3 Try.func3 rfl rfl (by kernel_rfl) (fun h => by kernel_rfl)

end Rx
end Go.Proofs.Ytkgfdplcjdidhaa
