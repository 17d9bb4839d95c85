/- Plain functions, walks. Written by a program (wip/gen). -/
import Derived.Test.YtmjcndmphjdjgaaRt
import Derived.Test.YtmjcndmphjdjgaaRg1
import Derived.Test.YtmjcndmphjdjgaaRg2
set_option linter.unusedVariables false
set_option maxRecDepth 100000
namespace Go.Proofs.Ytmjcndmphjdjgaa
open Go Go.RowKit Dp
namespace Rx

noncomputable def dynposlaw34_FaultsNormal_L4 (x2 : List Int ×
  Int ×
    List
      Fault) (x12 : Part) (x13 : Bool ×
  Int) : Bool × Int →
  Option
    (Bool × Int ⊕
      Bool) := fun x14 =>
  if decide (x14.2 < len x2.2.2) = true then
    Option.bind (idx x2.2.2 x14.2) fun x15 =>
      Option.bind
        (if (x15.Time == x13.2) = true then some (x15.Part.Kind == x12.Kind && x15.Part.Number == x12.Number)
        else some false)
        fun x16 =>
        Option.bind (if x16 = true then some (x15.Kind == 1) else some x14.1) fun x17 =>
          some (.inl (x17, W (x14.2 + 1)))
  else some (.inr x14.1)
noncomputable def dynposlaw34_FaultsNormal_L3 (x2 : List Int ×
  Int ×
    List
      Fault) (x9 : Int) (x12 : Part) : Bool × Int →
  Option
    (Bool × Int ⊕
      Bool) := fun x13 =>
  if decide (x13.2 ≤ x9) = true then
    Option.bind (loopO (dynposlaw34_FaultsNormal_L4 x2 x12 x13) (x13.1, 0)) fun x18 =>
      some (.inl (x18, W (x13.2 + 1)))
  else some (.inr x13.1)
noncomputable def dynposlaw34_FaultsNormal_L2 (x2 : List Int ×
  Int ×
    List
      Fault) (x3 : Int ×
  List
    Fault) (x9 : Int) (x10 : List
  Part) : Int →
  Option
    (Int ⊕
      Unit ⊕
        Int ⊕
          Unit ⊕
            Bool) := fun x11 =>
  if decide (x11 < len x10) = true then
    Option.bind (idx x10 x11) fun x12 =>
      Option.bind (loopO (dynposlaw34_FaultsNormal_L3 x2 x9 x12) (false, 0)) fun x19 =>
        Option.bind (faults_Active x3.2 x9) fun x20 =>
          Option.bind (dynposref26_Has x20 x12) fun x21 =>
            if (!x21 == x19) = true then some (.inr (.inr (.inr (.inr false))))
            else some (.inl (W (x11 + 1)))
  else some (.inr (.inl ()))
noncomputable def dynposlaw34_FaultsNormal_L1 (x2 : List Int ×
  Int ×
    List
      Fault) (x3 : Int ×
  List
    Fault) : Int →
  Option
    (Int ⊕
      Unit ⊕
        Bool) := fun x9 =>
  if decide (x9 < 9) = true then
    Option.bind (faults_Parts x3.2) fun x10 =>
      Option.bind (loopO (dynposlaw34_FaultsNormal_L2 x2 x3 x9 x10) 0) fun x22 =>
        Sum.elim (fun x23 => some (.inl (W (x9 + 1)))) (fun x24 => some x24) x22
  else some (.inr (.inl ()))
noncomputable def dynposlaw34_FaultsNormal (a0 : (List Int)) : Option (Bool) :=
  if decide (len a0 > 600) = true then Option.bind dynposlaw34_sane fun x29 => some x29
  else
    Option.bind (dynposmake_New a0) fun x1 =>
      Option.bind (Src_AnyFaults (Src.mk x1.1 x1.2) 12) fun x2 =>
        Option.bind (faults_Normal x2.2.2) fun x3 =>
          Option.bind
            (if (x3.1 != 0) = true then some true
            else Option.bind (faults_Check x3.2) fun x4 => some (x4 != 0))
            fun x5 =>
            if x5 = true then some false
            else
              Option.bind (faults_Normal x3.2) fun x6 =>
                Option.bind
                  (if (x6.1 != 0) = true then some true
                  else Option.bind (dynposref34_Same x6.2 x3.2) fun x7 => some !x7)
                  fun x8 =>
                  if x8 = true then some false
                  else
                    Option.bind (loopO (dynposlaw34_FaultsNormal_L1 x2 x3) 0) fun x25 =>
                      Sum.elim (fun x26 => Option.bind dynposlaw34_sane fun x27 => some x27) (fun x28 => some x28) x25
noncomputable def c6 : Con D := ⟨6, [.lf (.sl 0)], [.lf .bool], [.one (.h 0 [0])], [], [.one (.h 0 [])], [], fun h => dynposlaw34_FaultsNormal h⟩
theorem c6_ok : ConOk Try.prog T c6 := fn_ok (Φ := [c9, c10, c13, c14, c16, c19, c22, c23, c24]) (rs := [.tmp 2]) (an := (.n none .o (.n none .o (.n none .o (.n none .o (.n none .o (.n none (.n none (.r (some (true, [(.normal, ⟨[.lf .bool], [(35, .one (.h 0 []))], [], [], 3152⟩)])) .nil) .o) (.n none .o (.n none (.n none (.r (some (true, [(.normal, ⟨[.lf .bool], [(48, .one (.h 0 []))], [], [], 3665⟩)])) .nil) .o) (.n none (.n none .o (.n none (.loop ⟨[.lf (.int .i64)], [(9, .one (.h 0 []))], [], [], 3794⟩ false [(.exit 0, ⟨[], [], [], [], 3794⟩)] (.n none .o (.n none (.n none (.n none .o (.n none (.loop ⟨[.lf (.int .i64)], [(56, .one (.h 0 []))], [], [], 4243⟩ false [(.exit 2, ⟨[], [], [], [], 4243⟩)] (.n none .o (.n none .o (.n none (.n none (.n none .o (.n none .o (.n none (.n none .o (.n none (.loop ⟨[.lf .bool, .lf (.int .i64)], [(12, .one (.h 0 [])), (13, .one (.h 1 []))], [], [], 4756⟩ true [(.exit 4, ⟨[.lf .bool], [(12, .one (.h 0 []))], [], [], 4756⟩)] (.n none .o (.n none (.n none (.n none .o (.n none (.loop ⟨[.lf .bool, .lf (.int .i64)], [(12, .one (.h 0 [])), (67, .one (.h 1 []))], [], [], 5206⟩ true [(.exit 6, ⟨[.lf .bool], [(12, .one (.h 0 []))], [], [], 5206⟩)] (.n none .o (.n none .o (.n none (.n none (.n none .o (.n none (.r (some (true, [(.normal, ⟨[.lf .bool], [(76, .one (.any)), (77, .one (.any)), (78, .one (.any)), (79, .one (.any)), (80, .one (.h 0 []))], [], [], 5592⟩)])) .nil) (.n (some (true, [(.normal, ⟨[.lf .bool], [(12, .one (.h 0 []))], [], [], 5657⟩)])) .o .o))) .o) .o)))) .o)) .o) .o))) .o)) .o))) .o) .o)))) .o)) .o) .o))) .o)) .o)))))))))) pOk repOk (AllC.mem (⟨c9_ok, c10_ok, c13_ok, c14_ok, c16_ok, c19_ok, c22_ok, c23_ok, c24_ok, trivial⟩ : AllC _ _ [c9, c10, c13, c14, c16, c19, c22, c23, c24])) hmix Try.call6 Try.func6 rfl rfl (by kernel_rfl) (fun h => by kernel_rfl)

noncomputable def faults_Without_1 (a0 : Fault) (a1 : Part) : Option (Bool) := some (a0.Part.Kind == a1.Kind && a0.Part.Number == a1.Number)
noncomputable def c59 : Con D := ⟨59, [.lf (.int .i64), .lf (.int .i64), .lf (.int .i64), .lf (.int .i64), .el 3], [.lf .bool], [.agg [.h 0 [], .h 1 [], .h 2 [], .h 3 []], .one (.rp 4 3 [0])], [], [.one (.h 0 [])], [], fun h => faults_Without_1 ⟨h.1, h.2.1, ⟨h.2.2.1, h.2.2.2.1⟩⟩ h.2.2.2.2⟩
theorem c59_ok : ConOk Try.prog T c59 := fn_ok (Φ := []) (rs := [.tmp 3]) (an := .o) pOk repOk (AllC.mem (l := []) trivial) hmix Try.call59 Try.func59 rfl rfl (by kernel_rfl) (fun h => by kernel_rfl)

noncomputable def slices_IndexFunc_Fault_Fault_v1_L1 (a0 : List
  Fault) (a1 : Part) : Int →
  Option
    (Int ⊕
      Unit ⊕
        Int) := fun x1 =>
  if decide (x1 < len a0) = true then
    Option.bind (idx a0 x1) fun x2 =>
      Option.bind (faults_Without_1 x2 a1) fun x3 =>
        if x3 = true then some (.inr (.inr x1)) else some (.inl (W (x1 + 1)))
  else some (.inr (.inl ()))
noncomputable def slices_IndexFunc_Fault_Fault_v1 (a0 : (List Fault)) (a1 : Part) : Option (Int) :=
  Option.bind (loopO (slices_IndexFunc_Fault_Fault_v1_L1 a0 a1) 0) fun x4 =>
    Sum.elim (fun x5 => some (-1)) (fun x6 => some x6) x4
noncomputable def c80_1 : Con D := ⟨80, [.lf (.sl 4), .el 3], [.lf (.int .i64)], [.one (.h 0 [0]), .one (.fn 59 [.rp 1 3 [0]])], [], [.one (.h 0 [])], [], fun h => slices_IndexFunc_Fault_Fault_v1 h.1 h.2⟩
theorem c80_1_ok : ConOk Try.prog T c80_1 := fn_ok (Φ := [c59]) (rs := [.tmp 4]) (an := (.n none .o (.n none (.n none .o (.n none (.loop ⟨[.lf (.int .i64)], [(8, .one (.h 0 []))], [], [], 2320⟩ false [(.exit 0, ⟨[], [], [], [], 2320⟩)] .o) .o)) .o))) pOk repOk (AllC.mem (⟨c59_ok, trivial⟩ : AllC _ _ [c59])) hmix Try.call80 Try.func80 rfl rfl (by kernel_rfl) (fun h => by kernel_rfl)

noncomputable def slices_DeleteFunc_Fault_Fault_v2_L1 (a1 : Part) : Int × Int × List Fault →
  Option
    (Int × Int × List Fault ⊕
      Int ×
        List
          Fault) := fun x2 =>
  if decide (x2.2.1 < len x2.2.2) = true then
    Option.bind (idx x2.2.2 x2.2.1) fun x3 =>
      Option.bind (faults_Without_1 x3 a1) fun x4 =>
        Option.bind
          (if (!x4) = true then
            Option.bind (idx x2.2.2 x2.1) fun x5 =>
              Option.bind (idx x2.2.2 x2.1) fun x6 =>
                Option.bind (setO x2.2.2 x2.1 x3) fun x7 => some (W (x2.1 + 1), x7)
          else some (x2.1, x2.2.2))
          fun x8 => some (.inl (x8.1, W (x2.2.1 + 1), x8.2))
  else some (.inr (x2.1, x2.2.2))
noncomputable def slices_DeleteFunc_Fault_Fault_v2 (a0 : (List Fault)) (a1 : Part) : Option ((List Fault)) :=
  Option.bind (slices_IndexFunc_Fault_Fault_v1 a0 a1) fun x1 =>
    if (x1 == (-1)) = true then some a0
    else
      Option.bind (loopO (slices_DeleteFunc_Fault_Fault_v2_L1 a1) (x1, W (x1 + 1), a0)) fun x9 =>
        Option.bind (slc x9.2 x9.1 (len x9.2)) fun x10 =>
          Option.bind
            (slc (clrT (Fault.mk 0 0 (Part.mk 0 0)) x9.2 x9.1)
              0 x9.1)
            fun x11 => some x11
noncomputable def c58_2 : Con D := ⟨58, [.lf (.sl 4), .el 3], [.lf (.sl 4)], [.one (.own 1000), .one (.fn 59 [.rp 1 3 [0]])], [(1000, .sl 4 50 0 [])], [.one (.own 1001)], [(1001, .sl 4 50 0 [])], fun h => slices_DeleteFunc_Fault_Fault_v2 h.1 h.2⟩
theorem c58_2_ok : ConOk Try.prog T c58_2 := fn_ok (Φ := [c59, c80_1]) (rs := [.tmp 4]) (an := (.n none .o (.n none .o (.n none .o (.n none (.n none .o (.n none (.loop ⟨[.lf (.int .i64), .lf (.int .i64), .lf (.sl 4)], [(5, .one (.h 0 [])), (6, .one (.h 1 []))], [(1000, .sl 4 50 2 [])], [1000], 2704⟩ true [(.exit 0, ⟨[.lf (.int .i64), .lf (.sl 4)], [(5, .one (.h 0 []))], [(1000, .sl 4 50 1 [])], [1000], 2704⟩)] (.n none .o (.n none (.n none (.n none .o (.n none .o (.n (some (true, [(.normal, ⟨[.lf (.int .i64), .lf (.sl 4)], [(5, .one (.h 0 []))], [(1000, .sl 4 50 1 [])], [1000], 3667⟩)])) .o .o))) .o) .o))) .o)) .o))))) pOk repOk (AllC.mem (⟨c59_ok, c80_1_ok, trivial⟩ : AllC _ _ [c59, c80_1])) hmix Try.call58 Try.func58 rfl rfl (by kernel_rfl) (fun h => by kernel_rfl)

noncomputable def faults_Without (a0 : (List Fault)) (a1 : Part) : Option (Int × (List Fault)) :=
  Option.bind (faults_Check a0) fun x1 =>
    if (x1 != 0) = true then some (x1, [])
    else
      Option.bind (slices_Clone_Fault_Fault a0) fun x2 =>
        Option.bind (slices_DeleteFunc_Fault_Fault_v2 x2 a1) fun x3 => some (0, x3)
noncomputable def c27 : Con D := ⟨27, [.lf (.sl 4), .lf (.int .i64), .lf (.int .i64)], [.lf (.int .i64), .lf (.sl 4)], [.one (.h 0 [0]), .agg [.h 1 [], .h 2 []]], [], [.one (.own 1000), .one (.h 0 [])], [(1000, .sl 4 50 1 [])], fun h => faults_Without h.1 ⟨h.2.1, h.2.2⟩⟩
theorem c27_ok : ConOk Try.prog T c27 := fn_ok (Φ := [c14, c53, c58_2]) (rs := [.tmp 4, .tmp 5]) (an := .o) pOk repOk (AllC.mem (⟨c14_ok, c53_ok, c58_2_ok, trivial⟩ : AllC _ _ [c14, c53, c58_2])) hmix Try.call27 Try.func27 rfl rfl (by kernel_rfl) (fun h => by kernel_rfl)

noncomputable def dynposlaw34_without_L1 (a0 : List
  Part) (a1 : Part) : Int × List Part →
  Option
    (Int × List Part ⊕
      List
        Part) := fun x1 =>
  if decide (x1.1 < len a0) = true then
    Option.bind (idx a0 x1.1) fun x2 =>
      Option.bind
        (if (!(x2.Kind == a1.Kind && x2.Number == a1.Number)) = true then
          Option.bind (app x1.2 [x2]) fun x3 => some x3
        else some x1.2)
        fun x4 => some (.inl (W (x1.1 + 1), x4))
  else some (.inr x1.2)
noncomputable def dynposlaw34_without (a0 : (List Part)) (a1 : Part) : Option ((List Part)) := Option.bind (loopO (dynposlaw34_without_L1 a0 a1) (0, [])) fun x5 => some x5
noncomputable def c28 : Con D := ⟨28, [.lf (.sl 3), .lf (.int .i64), .lf (.int .i64)], [.lf (.sl 3)], [.one (.h 0 [0]), .agg [.h 1 [], .h 2 []]], [], [.one (.own 1000)], [(1000, .sl 3 41 0 [])], fun h => dynposlaw34_without h.1 ⟨h.2.1, h.2.2⟩⟩
theorem c28_ok : ConOk Try.prog T c28 := fn_ok (Φ := []) (rs := [.tmp 4]) (an := (.n none .o (.n none .o (.n none (.n none .o (.n none (.loop ⟨[.lf (.int .i64), .lf (.sl 3)], [(5, .one (.own 2384)), (10, .one (.h 0 []))], [(2384, .sl 3 41 1 [])], [], 2448⟩ true [(.exit 0, ⟨[.lf (.sl 3)], [(5, .one (.own 2384))], [(2384, .sl 3 41 0 [])], [], 2448⟩)] (.n none .o (.n none .o (.n none (.n none (.n none .o (.n none .o (.n (some (true, [(.normal, ⟨[.lf (.sl 3)], [(5, .one (.own 2962))], [(2962, .sl 3 41 0 [])], [2384], 3026⟩)])) .o .o))) .o) .o)))) .o)) .o)))) pOk repOk (AllC.mem (l := []) trivial) hmix Try.call28 Try.func28 rfl rfl (by kernel_rfl) (fun h => by kernel_rfl)

noncomputable def dynposlaw34_FaultsWithout_L1 (x2 : List Int ×
  Int ×
    List
      Fault) (x7 : List Int ×
  Int ×
    Int ×
      Int) (x8 : Int ×
  List
    Fault) : Int →
  Option
    (Int ⊕
      Unit ⊕
        Bool) := fun x13 =>
  if decide (x13 < 9) = true then
    Option.bind (faults_Active x8.2 x13) fun x14 =>
      Option.bind (dynposref26_Union x14 []) fun x15 =>
        Option.bind (faults_Active x2.2.2 x13) fun x16 =>
          Option.bind (dynposlaw34_without x16 (Part.mk x7.2.2.1 x7.2.2.2)) fun x17 =>
            Option.bind (dynposref26_Same x15 x17) fun x18 =>
              if (!x18) = true then some (.inr (.inr false)) else some (.inl (W (x13 + 1)))
  else some (.inr (.inl ()))
noncomputable def dynposlaw34_FaultsWithout (a0 : (List Int)) : Option (Bool) :=
  if decide (len a0 > 600) = true then Option.bind dynposlaw34_sane fun x23 => some x23
  else
    Option.bind (dynposmake_New a0) fun x1 =>
      Option.bind (Src_Faults (Src.mk x1.1 x1.2) 10) fun x2 =>
        Option.bind (Src_Part (Src.mk x2.1 x2.2.1)) fun x3 =>
          Option.bind (faults_Parts x2.2.2) fun x4 =>
            Option.bind
              (if decide (len x4 > 0) = true then
                Option.bind (Src_N (Src.mk x3.2.2.1 x3.2.2.2) (len x4)) fun x5 =>
                  Option.bind (idx x4 x5.1) fun x6 => some (x5.2.1, x5.2.2, x6.Kind, x6.Number)
              else some (x3.2.2.1, x3.2.2.2, x3.1, x3.2.1))
              fun x7 =>
              Option.bind (faults_Without x2.2.2 (Part.mk x7.2.2.1 x7.2.2.2)) fun x8 =>
                Option.bind
                  (if (x8.1 != 0) = true then some true
                  else
                    Option.bind (faults_Check x8.2) fun x9 =>
                      if (x9 != 0) = true then some true
                      else
                        Option.bind (faults_Parts x8.2) fun x10 =>
                          Option.bind (dynposref26_Has x10 (Part.mk x7.2.2.1 x7.2.2.2)) fun x11 => some x11)
                  fun x12 =>
                  if x12 = true then some false
                  else
                    Option.bind (loopO (dynposlaw34_FaultsWithout_L1 x2 x7 x8) 0) fun x19 =>
                      Sum.elim (fun x20 => Option.bind dynposlaw34_sane fun x21 => some x21) (fun x22 => some x22) x19
noncomputable def c7 : Con D := ⟨7, [.lf (.sl 0)], [.lf .bool], [.one (.h 0 [0])], [], [.one (.h 0 [])], [], fun h => dynposlaw34_FaultsWithout h⟩
theorem c7_ok : ConOk Try.prog T c7 := fn_ok (Φ := [c9, c10, c11, c14, c15, c16, c17, c19, c24, c25, c26, c27, c28]) (rs := [.tmp 2]) (an := (.n none .o (.n none .o (.n none .o (.n none .o (.n none .o (.n none (.n none .o (.n none .o (.n (some (true, [(.normal, ⟨[.lf (.sl 0), .lf (.int .i64), .lf (.int .i64), .lf (.int .i64)], [], [(2328, .box [.h 0 [0], .h 1 []]), (2768, .box [.h 2 [], .h 3 []])], [2328, 2768], 3344⟩)])) .o .o))) (.n none .o (.n none (.n none (.r (some (true, [(.normal, ⟨[.lf .bool], [(50, .one (.h 0 []))], [], [], 3924⟩)])) .nil) .o) (.n none (.n none .o (.n none (.loop ⟨[.lf (.int .i64)], [(9, .one (.h 0 []))], [], [], 4053⟩ false [(.exit 0, ⟨[], [], [], [], 4053⟩)] .o) .o)) .o)))))))))) pOk repOk (AllC.mem (⟨c9_ok, c10_ok, c11_ok, c14_ok, c15_ok, c16_ok, c17_ok, c19_ok, c24_ok, c25_ok, c26_ok, c27_ok, c28_ok, trivial⟩ : AllC _ _ [c9, c10, c11, c14, c15, c16, c17, c19, c24, c25, c26, c27, c28])) hmix Try.call7 Try.func7 rfl rfl (by kernel_rfl) (fun h => by kernel_rfl)

end Rx
end Go.Proofs.Ytmjcndmphjdjgaa
