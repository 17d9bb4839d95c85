/- Plain functions, walks. Written by a program (wip/gen). -/
import Derived.Test.YtdfokgnmemlmgaaRt
import Derived.Test.YtdfokgnmemlmgaaRg1
set_option linter.unusedVariables false
set_option maxRecDepth 100000
namespace Go.Proofs.Ytdfokgnmemlmgaa
open Go Go.RowKit Dp
namespace Rx

noncomputable def alarm_Update_1 (a0 : Alarm) (a1 : Alarm) : Option (Bool) := some (a0.Number == a1.Number)
noncomputable def c33 : Con D := ⟨33, [.lf (.int .i64), .lf (.int .i64), .lf (.int .i64), .lf (.int .i64), .el 3], [.lf .bool], [.agg [.h 0 [], .h 1 [], .h 2 [], .h 3 []], .one (.rp 4 3 [0])], [], [.one (.h 0 [])], [], fun h => alarm_Update_1 ⟨h.1, h.2.1, h.2.2.1, h.2.2.2.1⟩ h.2.2.2.2⟩
theorem c33_ok : ConOk Try.prog T c33 := fn_ok (Φ := []) (rs := [.tmp 3]) (an := .o) pOk repOk (AllC.mem (l := []) trivial) hmix Try.call33 Try.func33 rfl rfl (by kernel_rfl) (fun h => by kernel_rfl)

noncomputable def slices_IndexFunc_Alarm_Alarm_L1 (a0 : List
  Alarm) (a1 : Alarm) : Int →
  Option
    (Int ⊕
      Unit ⊕
        Int) := fun x1 =>
  if decide (x1 < len a0) = true then
    Option.bind (idx a0 x1) fun x2 =>
      Option.bind (alarm_Update_1 x2 a1) fun x3 =>
        if x3 = true then some (.inr (.inr x1)) else some (.inl (W (x1 + 1)))
  else some (.inr (.inl ()))
noncomputable def slices_IndexFunc_Alarm_Alarm (a0 : (List Alarm)) (a1 : Alarm) : Option (Int) :=
  Option.bind (loopO (slices_IndexFunc_Alarm_Alarm_L1 a0 a1) 0) fun x4 =>
    Sum.elim (fun x5 => some (-1)) (fun x6 => some x6) x4
noncomputable def c50 : Con D := ⟨50, [.lf (.sl 3), .el 3], [.lf (.int .i64)], [.one (.h 0 [0]), .one (.fn 33 [.rp 1 3 [0]])], [], [.one (.h 0 [])], [], fun h => slices_IndexFunc_Alarm_Alarm h.1 h.2⟩
theorem c50_ok : ConOk Try.prog T c50 := fn_ok (Φ := [c33]) (rs := [.tmp 4]) (an := (.n none .o (.n none (.n none .o (.n none (.loop ⟨[.lf (.int .i64)], [(8, .one (.h 0 []))], [], [], 2320⟩ false [(.exit 0, ⟨[], [], [], [], 2320⟩)] .o) .o)) .o))) pOk repOk (AllC.mem (⟨c33_ok, trivial⟩ : AllC _ _ [c33])) hmix Try.call50 Try.func50 rfl rfl (by kernel_rfl) (fun h => by kernel_rfl)

noncomputable def slices_ContainsFunc_Alarm_Alarm (a0 : (List Alarm)) (a1 : Alarm) : Option (Bool) := Option.bind (slices_IndexFunc_Alarm_Alarm a0 a1) fun x1 => some (decide (x1 ≥ 0))
noncomputable def c32 : Con D := ⟨32, [.lf (.sl 3), .el 3], [.lf .bool], [.one (.h 0 [0]), .one (.fn 33 [.rp 1 3 [0]])], [], [.one (.h 0 [])], [], fun h => slices_ContainsFunc_Alarm_Alarm h.1 h.2⟩
theorem c32_ok : ConOk Try.prog T c32 := fn_ok (Φ := [c50]) (rs := [.tmp 4]) (an := .o) pOk repOk (AllC.mem (⟨c50_ok, trivial⟩ : AllC _ _ [c50])) hmix Try.call32 Try.func32 rfl rfl (by kernel_rfl) (fun h => by kernel_rfl)

noncomputable def alarm_Update_L1 (a1 : List
  Alarm) : Int × Int × List Alarm →
  Option
    (Int × Int × List Alarm ⊕
      Int × List Alarm ⊕
        Int ×
          List
            Alarm) := fun x2 =>
  if decide (x2.1 < len a1) = true then
    Option.bind (idx a1 x2.1) fun x3 =>
      Option.bind (list_raise (list.mk x2.2.2 x2.2.1) x3.Number x3.Urgency) fun x4 =>
        if (x4.1 != 0) = true then some (.inr (.inr (x4.1, [])))
        else some (.inl (W (x2.1 + 1), x4.2.1, x4.2.2))
  else some (.inr (.inl (x2.2.1, x2.2.2)))
noncomputable def alarm_Update_L2 (a1 : List
  Alarm) (x7 : List
  Alarm) : Int × Int × List Alarm →
  Option
    (Int × Int × List Alarm ⊕
      Int ×
        List
          Alarm) := fun x8 =>
  if decide (x8.1 < len x7) = true then
    Option.bind (idx x7 x8.1) fun x9 =>
      Option.bind (slices_ContainsFunc_Alarm_Alarm a1 x9) fun x10 =>
        Option.bind
          (if (!x10) = true then
            Option.bind (list_clear (list.mk x8.2.2 x8.2.1) x9.Number) fun x11 => some (x11.1, x11.2)
          else some (x8.2.1, x8.2.2))
          fun x12 => some (.inl (W (x8.1 + 1), x12.1, x12.2))
  else some (.inr (x8.2.1, x8.2.2))
noncomputable def alarm_Update (a0 : (List Alarm)) (a1 : (List Alarm)) (a2 : Int) : Option (Int × (List Alarm)) :=
  Option.bind (alarm_open a0 a2) fun x1 =>
    if (x1.1 != 0) = true then some (x1.1, [])
    else
      Option.bind (loopO (alarm_Update_L1 a1) (0, x1.2.1, x1.2.2)) fun x5 =>
        Sum.elim
          (fun x6 =>
            Option.bind (slices_Clone_Alarm_Alarm x6.2) fun x7 =>
              Option.bind (loopO (alarm_Update_L2 a1 x7) (0, x6.1, x6.2)) fun x13 =>
                some (0, x13.2))
          (fun x14 => some x14) x5
noncomputable def c15 : Con D := ⟨15, [.lf (.sl 3), .lf (.sl 3), .lf (.int .i64)], [.lf (.int .i64), .lf (.sl 3)], [.one (.h 0 [0]), .one (.h 1 [0]), .one (.h 2 [])], [], [.one (.own 1000), .one (.h 0 [])], [(1000, .sl 3 32 1 [])], fun h => alarm_Update h.1 h.2.1 h.2.2⟩
theorem c15_ok : ConOk Try.prog T c15 := fn_ok (Φ := [c28, c29, c30, c31, c32]) (rs := [.tmp 6, .tmp 7]) (an := (.n none .o (.n none .o (.n none .o (.n none (.n none .o (.n none (.loop ⟨[.lf (.int .i64), .lf (.int .i64), .lf (.sl 3)], [(27, .one (.h 0 []))], [(2264, .box [.own 2960, .h 1 []]), (2960, .sl 3 32 2 [])], [2264, 2265], 3024⟩ false [(.exit 0, ⟨[.lf (.int .i64), .lf (.sl 3)], [], [(2264, .box [.own 2960, .h 0 []]), (2960, .sl 3 32 1 [])], [2264, 2265], 3024⟩)] .o) .o)) (.n none .o (.n none (.n none .o (.n none (.loop ⟨[.lf (.int .i64), .lf (.int .i64), .lf (.sl 3)], [(49, .one (.h 0 []))], [(2264, .box [.own 3666, .h 1 []]), (3666, .sl 3 32 2 [])], [2264, 2960], 3730⟩ true [(.exit 2, ⟨[.lf (.int .i64), .lf (.sl 3)], [], [(2264, .box [.own 3666, .h 0 []]), (3666, .sl 3 32 1 [])], [2264, 2960], 3730⟩)] (.n none .o (.n none .o (.n none (.n none (.n none .o (.n none .o (.n (some (true, [(.normal, ⟨[.lf (.int .i64), .lf (.sl 3)], [], [(2264, .box [.own 4309, .h 0 []]), (4309, .sl 3 32 1 [])], [2264, 3666], 4373⟩)])) .o .o))) .o) .o)))) .o)) .o))))))) pOk repOk (AllC.mem (⟨c28_ok, c29_ok, c30_ok, c31_ok, c32_ok, trivial⟩ : AllC _ _ [c28, c29, c30, c31, c32])) hmix Try.call15 Try.func15 rfl rfl (by kernel_rfl) (fun h => by kernel_rfl)

noncomputable def dynposref35_Find_L1 (a0 : List
  Alarm) (a1 : Int) : Int →
  Option
    (Int ⊕
      Unit ⊕
        Int) := fun x1 =>
  if decide (x1 < len a0) = true then
    Option.bind (idx a0 x1) fun x2 =>
      if (x2.Number == a1) = true then some (.inr (.inr x1)) else some (.inl (W (x1 + 1)))
  else some (.inr (.inl ()))
noncomputable def dynposref35_Find (a0 : (List Alarm)) (a1 : Int) : Option (Int) :=
  Option.bind (loopO (dynposref35_Find_L1 a0 a1) 0) fun x3 =>
    Sum.elim (fun x4 => some (-1)) (fun x5 => some x5) x3
noncomputable def c12 : Con D := ⟨12, [.lf (.sl 3), .lf (.int .i64)], [.lf (.int .i64)], [.one (.h 0 [0]), .one (.h 1 [])], [], [.one (.h 0 [])], [], fun h => dynposref35_Find h.1 h.2⟩
theorem c12_ok : ConOk Try.prog T c12 := fn_ok (Φ := []) (rs := [.tmp 4]) (an := (.n none .o (.n none (.n none .o (.n none (.loop ⟨[.lf (.int .i64)], [(9, .one (.h 0 []))], [], [], 2320⟩ false [(.exit 0, ⟨[], [], [], [], 2320⟩)] .o) .o)) .o))) pOk repOk (AllC.mem (l := []) trivial) hmix Try.call12 Try.func12 rfl rfl (by kernel_rfl) (fun h => by kernel_rfl)

noncomputable def dynposlaw35_AlarmKeeps_L2 (x2 : Int ×
  List Alarm ×
    List Int ×
      Int ×
        List
          (Int ×
            Bool)) (x10 : List Alarm ×
  List
    (Int ×
      Bool)) : Int →
  Option
    (Int ⊕
      Unit ⊕
        Int × List Alarm × List Int × Int × List (Int × Bool) ⊕
          List Int × Int × List (Int × Bool) ⊕
            Bool) := fun x11 =>
  if decide (x11 < len x2.2.1) = true then
    Option.bind (idx x2.2.1 x11) fun x12 =>
      Option.bind
        (Option.bind (dynposref35_Find x10.1 x12.Number) fun x13 =>
          if decide (x13 < 0) = true then
            some !mget (fun x14 => x14.1 == x12.Number) (fun x15 => x15.2) false x10.2
          else some false)
        fun x16 =>
        if x16 = true then some (.inr (.inr (.inr (.inr false))))
        else some (.inl (W (x11 + 1)))
  else some (.inr (.inl ()))
noncomputable def dynposlaw35_AlarmKeeps_L3 (x2 : Int ×
  List Alarm ×
    List Int ×
      Int ×
        List
          (Int ×
            Bool)) (x10 : List Alarm ×
  List
    (Int ×
      Bool)) : Int × List (Int × Bool) →
  Option
    (Int × List (Int × Bool) ⊕
      List
        (Int ×
          Bool)) := fun x19 =>
  if decide (x19.1 < len x10.1) = true then
    Option.bind (idx x10.1 x19.1) fun x20 =>
      Option.bind (dynposref35_Find x2.2.1 x20.Number) fun x21 =>
        Option.bind
          (if decide (x21 < 0) = true then
            some (mput (fun x22 => x22.1 == x20.Number) (x20.Number, x20.State == 2) x19.2)
          else some x19.2)
          fun x23 => some (.inl (W (x19.1 + 1), x23))
  else some (.inr x19.2)
noncomputable def dynposlaw35_AlarmKeeps_L1 : Int × List Alarm × List Int × Int × List (Int × Bool) →
  Option
    (Int × List Alarm × List Int × Int × List (Int × Bool) ⊕
      List Int × Int × List (Int × Bool) ⊕
        Bool) := fun x2 =>
  if decide (x2.1 < 16) = true then
    Option.bind (dynposlaw35_causes (Src.mk x2.2.2.1 x2.2.2.2.1)) fun x3 =>
      Option.bind (alarm_Update x2.2.1 x3.2.2 x2.1) fun x4 =>
        Option.bind
          (if (x4.1 != 0) = true then some true
          else Option.bind (alarm_Check x4.2 x2.1) fun x5 => some (x5 != 0))
          fun x6 =>
          if x6 = true then some (.inr (.inr false))
          else
            Option.bind (Src_N (Src.mk x3.1 x3.2.1) 9) fun x7 =>
              Option.bind (alarm_See x4.2 x7.1 x2.1) fun x8 =>
                Option.bind
                  (if (x8.1 == 0) = true then
                    some (x8.2, mput (fun x9 => x9.1 == x7.1) (x7.1, true) x2.2.2.2.2)
                  else some (x4.2, x2.2.2.2.2))
                  fun x10 =>
                  Option.bind (loopO (dynposlaw35_AlarmKeeps_L2 x2 x10) 0) fun x17 =>
                    Sum.elim
                      (fun x18 =>
                        Option.bind (loopO (dynposlaw35_AlarmKeeps_L3 x2 x10) (0, x10.2)) fun x24 =>
                          some (.inl (W (x2.1 + 1), x10.1, x7.2.1, x7.2.2, x24)))
                      (fun x25 => some x25) x17
  else some (.inr (.inl (x2.2.2.1, x2.2.2.2.1, x2.2.2.2.2)))
noncomputable def dynposlaw35_AlarmKeeps (a0 : (List Int)) : Option (Bool) :=
  if decide (len a0 > 600) = true then Option.bind dynposlaw35_sane fun x30 => some x30
  else
    Option.bind (dynposmake_New a0) fun x1 =>
      Option.bind (loopO dynposlaw35_AlarmKeeps_L1 (0, [], x1.1, x1.2, [])) fun x26 =>
        Sum.elim (fun x27 => Option.bind dynposlaw35_sane fun x28 => some x28) (fun x29 => some x29) x26
noncomputable def c5 : Con D := ⟨5, [.lf (.sl 0)], [.lf .bool], [.one (.h 0 [0])], [], [.one (.h 0 [])], [], fun h => dynposlaw35_AlarmKeeps h⟩
theorem c5_ok : ConOk Try.prog T c5 := fn_ok (Φ := [c8, c9, c12, c15, c16, c17, c18, c19]) (rs := [.tmp 2]) (an := (.n none .o (.n none .o (.n none .o (.n none .o (.n none .o (.n none (.n none .o (.n none (.loop ⟨[.lf (.int .i64), .lf (.sl 3), .lf (.sl 0), .lf (.int .i64), .lf (.sl 6)], [(4, .one (.own 2704)), (6, .one (.h 0 []))], [(2704, .sl 3 32 1 []), (2328, .box [.h 2 [0], .h 3 []]), (2512, .mp 6 4)], [2328, 2512], 2768⟩ false [(.exit 0, ⟨[.lf (.sl 0), .lf (.int .i64), .lf (.sl 6)], [], [(2328, .box [.h 0 [0], .h 1 []]), (2512, .mp 6 2)], [2328, 2512], 2768⟩)] (.n none .o (.n none (.n none (.n none .o (.n none (.n none (.r (some (true, [(.normal, ⟨[.lf .bool], [(38, .one (.any)), (39, .one (.any)), (40, .one (.any)), (41, .one (.any)), (42, .one (.h 0 []))], [], [], 3605⟩)])) .nil) .o) (.n none .o (.n none (.n none .o (.n none .o (.n (some (true, [(.normal, ⟨[.lf (.sl 3), .lf (.sl 6)], [(7, .one (.own 4502))], [(4502, .sl 3 32 0 []), (2512, .mp 6 1)], [2512, 3165, 3998], 4566⟩)])) .o .o))) (.n none (.n none .o (.n none (.loop ⟨[.lf (.int .i64)], [(59, .one (.h 0 []))], [], [], 4824⟩ false [(.exit 2, ⟨[], [], [], [], 4824⟩)] (.n none .o (.n none .o (.n none (.n none (.n none .o (.n none (.r (some (true, [(.normal, ⟨[.lf .bool], [(69, .one (.any)), (70, .one (.any)), (71, .one (.any)), (72, .one (.any)), (73, .one (.any)), (74, .one (.h 0 []))], [], [], 5209⟩)])) .nil) .o)) .o) .o)))) .o)) (.n none (.n none .o (.n none (.loop ⟨[.lf (.int .i64), .lf (.sl 6)], [(78, .one (.h 0 []))], [(2512, .mp 6 1)], [2512], 5080⟩ true [(.exit 4, ⟨[.lf (.sl 6)], [], [(2512, .mp 6 0)], [2512], 5080⟩)] (.n none .o (.n none .o (.n none (.n none (.n none .o (.n none .o (.n (some (true, [(.normal, ⟨[.lf (.sl 6)], [], [(2512, .mp 6 0)], [2512], 5786⟩)])) .o .o))) .o) .o)))) .o)) .o)))))) .o) .o))) .o)) .o))))))) pOk repOk (AllC.mem (⟨c8_ok, c9_ok, c12_ok, c15_ok, c16_ok, c17_ok, c18_ok, c19_ok, trivial⟩ : AllC _ _ [c8, c9, c12, c15, c16, c17, c18, c19])) hmix Try.call5 Try.func5 rfl rfl (by kernel_rfl) (fun h => by kernel_rfl)

noncomputable def Src_Range (a0 : Src) (a1 : Int) (a2 : Int) : Option (Int × (List Int) × Int) :=
  Option.bind (Src_N a0 (W (W (a2 - a1) + 1))) fun x1 => some (W (a1 + x1.1), x1.2.1, x1.2.2)
noncomputable def c23 : Con D := ⟨23, [.lf (.sl 0), .lf (.int .i64), .lf (.int .i64), .lf (.int .i64)], [.lf (.int .i64), .lf (.sl 0), .lf (.int .i64)], [.one (.ptr 1000 0), .one (.h 2 []), .one (.h 3 [])], [(1000, .box [.h 0 [0], .h 1 []])], [.one (.h 0 [])], [(1000, .box [.h 1 [0], .h 2 []])], fun h => Src_Range ⟨h.1, h.2.1⟩ h.2.2.1 h.2.2.2⟩
theorem c23_ok : ConOk Try.prog T c23 := fn_ok (Φ := [c18]) (rs := [.tmp 6]) (an := .o) pOk repOk (AllC.mem (⟨c18_ok, trivial⟩ : AllC _ _ [c18])) hmix Try.call23 Try.func23 rfl rfl (by kernel_rfl) (fun h => by kernel_rfl)

noncomputable def dynposref35_in (a0 : Int) (a1 : Int) (a2 : Int) : Option (Bool) := Option.bind (if decide (a0 ≥ a1) = true then some (decide (a0 ≤ a2)) else some false) fun x1 => some x1
noncomputable def c44 : Con D := ⟨44, [.lf (.int .i64), .lf (.int .i64), .lf (.int .i64)], [.lf .bool], [.one (.h 0 []), .one (.h 1 []), .one (.h 2 [])], [], [.one (.h 0 [])], [], fun h => dynposref35_in h.1 h.2.1 h.2.2⟩
theorem c44_ok : ConOk Try.prog T c44 := fn_ok (Φ := []) (rs := [.tmp 6]) (an := (.n none .o (.n none (.r (some (true, [(.normal, ⟨[.lf .bool], [(6, .one (.h 0 []))], [], [], 2128⟩)])) .nil) .o))) pOk repOk (AllC.mem (l := []) trivial) hmix Try.call44 Try.func44 rfl rfl (by kernel_rfl) (fun h => by kernel_rfl)

noncomputable def dynposref35_Check_L1 (a0 : List
  Alarm) (a1 : Int) : Int →
  Option
    (Int ⊕
      Unit ⊕
        Int) := fun x2 =>
  if decide (x2 < len a0) = true then
    Option.bind (idx a0 x2) fun x3 =>
      Option.bind
        (Option.bind (dynposref35_in x3.Number 0 999) fun x4 =>
          if (!x4) = true then some true
          else
            Option.bind (dynposref35_in x3.Urgency 1 9) fun x5 =>
              if (!x5) = true then some true
              else
                Option.bind (dynposref35_in x3.State 1 3) fun x6 =>
                  if (!x6) = true then some true
                  else
                    Option.bind (dynposref35_in x3.Since 0 a1) fun x7 =>
                      if (!x7) = true then some true
                      else
                        if decide (x2 > 0) = true then
                          Option.bind (idx a0 (W (x2 - 1))) fun x8 => some (decide (x3.Number ≤ x8.Number))
                        else some false)
        fun x9 => if x9 = true then some (.inr (.inr 71)) else some (.inl (W (x2 + 1)))
  else some (.inr (.inl ()))
noncomputable def dynposref35_Check (a0 : (List Alarm)) (a1 : Int) : Option (Int) :=
  Option.bind (dynposref35_in a1 0 2147483648) fun x1 =>
    if (!x1) = true then some 1
    else
      if decide (len a0 > 32) = true then some 2
      else
        Option.bind (loopO (dynposref35_Check_L1 a0 a1) 0) fun x10 =>
          Sum.elim (fun x11 => some 0) (fun x12 => some x12) x10
noncomputable def c43 : Con D := ⟨43, [.lf (.sl 3), .lf (.int .i64)], [.lf (.int .i64)], [.one (.h 0 [0]), .one (.h 1 [])], [], [.one (.h 0 [])], [], fun h => dynposref35_Check h.1 h.2⟩
theorem c43_ok : ConOk Try.prog T c43 := fn_ok (Φ := [c44]) (rs := [.tmp 4]) (an := (.n none .o (.n none .o (.n none .o (.n none (.n none .o (.n none (.loop ⟨[.lf (.int .i64)], [(15, .one (.h 0 []))], [], [], 2704⟩ false [(.exit 0, ⟨[], [], [], [], 2704⟩)] (.n none .o (.n none .o (.n none (.n none (.n none .o (.n none (.r (some (true, [(.normal, ⟨[.lf .bool], [(25, .one (.any)), (26, .one (.any)), (27, .one (.any)), (28, .one (.any)), (31, .one (.any)), (32, .one (.any)), (33, .one (.any)), (34, .one (.any)), (37, .one (.any)), (38, .one (.any)), (39, .one (.any)), (40, .one (.any)), (41, .one (.any)), (44, .one (.any)), (45, .one (.any)), (46, .one (.any)), (47, .one (.any)), (48, .one (.any)), (49, .one (.any)), (50, .one (.any)), (51, .one (.any)), (52, .one (.any)), (53, .one (.any)), (54, .one (.any)), (55, .one (.any)), (56, .one (.any)), (57, .one (.h 0 []))], [], [], 3217⟩)])) .nil) .o)) .o) .o)))) .o)) .o))))) pOk repOk (AllC.mem (⟨c44_ok, trivial⟩ : AllC _ _ [c44])) hmix Try.call43 Try.func43 rfl rfl (by kernel_rfl) (fun h => by kernel_rfl)

noncomputable def dynposref35_Raise_L1 (a1 : Int) (x5 : List
  Alarm) : Int →
  Option
    (Int ⊕
      Int) := fun x7 =>
  Option.bind
    (if decide (x7 < len x5) = true then Option.bind (idx x5 x7) fun x8 => some (decide (x8.Number < a1))
    else some false)
    fun x9 => if x9 = true then some (.inl (W (x7 + 1))) else some (.inr x7)
noncomputable def dynposref35_Raise (a0 : (List Alarm)) (a1 : Int) (a2 : Int) (a3 : Int) : Option (Int × (List Alarm) × (List Alarm)) :=
  Option.bind (dynposref35_Check a0 a3) fun x1 =>
    if (x1 != 0) = true then some (x1, a0, [])
    else
      Option.bind
        (Option.bind (dynposref35_in a1 0 999) fun x2 =>
          if (!x2) = true then some true
          else Option.bind (dynposref35_in a2 1 9) fun x3 => some !x3)
        fun x4 =>
        if x4 = true then some (1, a0, [])
        else
          Option.bind (app [] a0) fun x5 =>
            Option.bind (dynposref35_Find a0 a1) fun x6 =>
              if decide (x6 ≥ 0) = true then
                Option.bind (idx a0 x6) fun x15 =>
                  Option.bind
                    (if (x15.State == 3) = true then
                      Option.bind (idx x5 x6) fun x16 =>
                        Option.bind (idx x5 x6) fun x17 =>
                          Option.bind (setO x5 x6 (Alarm.mk a1 a2 1 a3)) fun x18 => some x18
                    else some x5)
                    fun x19 => some (0, a0, x19)
              else
                if (len a0 == 32) = true then some (2, a0, [])
                else
                  Option.bind (loopO (dynposref35_Raise_L1 a1 x5) 0) fun x10 =>
                    Option.bind (slc x5 0 x10) fun x11 =>
                      Option.bind (slc x5 x10 (len x5)) fun x12 =>
                        Option.bind (app [Alarm.mk a1 a2 1 a3] (drpI x5 x10)) fun x13 =>
                          Option.bind (app (takI x5 x10) x13) fun x14 => some (0, a0, x14)
noncomputable def c22 : Con D := ⟨22, [.lf (.sl 3), .lf (.int .i64), .lf (.int .i64), .lf (.int .i64)], [.lf (.int .i64), .lf (.sl 3), .lf (.sl 3)], [.one (.own 1000), .one (.h 1 []), .one (.h 2 []), .one (.h 3 [])], [(1000, .sl 3 32 0 [0])], [.one (.own 1001), .one (.h 0 [])], [(1000, .sl 3 32 1 [0]), (1001, .sl 3 32 2 [0])], fun h => dynposref35_Raise h.1 h.2.1 h.2.2.1 h.2.2.2⟩
theorem c22_ok : ConOk Try.prog T c22 := fn_ok (Φ := [c12, c43, c44]) (rs := [.tmp 8, .tmp 9]) (an := (.n none .o (.n none .o (.n none (.n none (.r (some (true, [(.normal, ⟨[.lf .bool], [(28, .one (.h 0 []))], [], [], 2576⟩)])) .nil) .o) (.n none .o (.n none .o (.n none (.n none .o (.n none .o (.n none (.n none (.n none .o (.n (some (true, [(.normal, ⟨[.lf (.sl 3)], [], [(2641, .sl 3 32 0 [0])], [2641], 3985⟩)])) .o .o)) .o) .o))) (.n none .o (.n none .o (.n none (.n none (.loop ⟨[.lf (.int .i64)], [(14, .one (.h 0 []))], [], [], 3857⟩ true [(.exit 0, ⟨[.lf (.int .i64)], [(14, .one (.h 0 []))], [], [], 3857⟩)] (.n none (.n none (.r (some (true, [(.normal, ⟨[.lf .bool], [(59, .one (.any)), (60, .one (.any)), (61, .one (.any)), (62, .one (.any)), (63, .one (.any)), (64, .one (.any)), (65, .one (.any)), (66, .one (.h 0 []))], [], [], 3922⟩)])) .nil) .o) .o)) .o) .o)))))))))) pOk repOk (AllC.mem (⟨c12_ok, c43_ok, c44_ok, trivial⟩ : AllC _ _ [c12, c43, c44])) hmix Try.call22 Try.func22 rfl rfl (by kernel_rfl) (fun h => by kernel_rfl)

noncomputable def dynposref35_without (a0 : (List Alarm)) (a1 : Int) : Option ((List Alarm) × (List Alarm)) :=
  Option.bind (slc a0 0 a1) fun x1 =>
    Option.bind (app [] (takI a0 a1)) fun x2 =>
      Option.bind (slc a0 (W (a1 + 1)) (len a0)) fun x3 =>
        Option.bind (app x2 (drpI a0 (W (a1 + 1)))) fun x4 => some (a0, x4)
noncomputable def c45 : Con D := ⟨45, [.lf (.sl 3), .lf (.int .i64)], [.lf (.sl 3), .lf (.sl 3)], [.one (.own 1000), .one (.h 1 [])], [(1000, .sl 3 32 0 [0])], [.one (.own 1001)], [(1000, .sl 3 32 0 [0]), (1001, .sl 3 32 1 [0])], fun h => dynposref35_without h.1 h.2⟩
theorem c45_ok : ConOk Try.prog T c45 := fn_ok (Φ := []) (rs := [.tmp 4]) (an := .o) pOk repOk (AllC.mem (l := []) trivial) hmix Try.call45 Try.func45 rfl rfl (by kernel_rfl) (fun h => by kernel_rfl)

noncomputable def dynposref35_Clear (a0 : (List Alarm)) (a1 : Int) (a2 : Int) : Option (Int × (List Alarm) × (List Alarm)) :=
  Option.bind (dynposref35_Check a0 a2) fun x1 =>
    if (x1 != 0) = true then some (x1, a0, [])
    else
      Option.bind (dynposref35_Find a0 a1) fun x2 =>
        Option.bind
          (if decide (x2 ≥ 0) = true then Option.bind (idx a0 x2) fun x3 => some (x3.State == 2)
          else some false)
          fun x4 =>
          if x4 = true then Option.bind (dynposref35_without a0 x2) fun x10 => some (0, x10.1, x10.2)
          else
            Option.bind (app [] a0) fun x5 =>
              Option.bind
                (if decide (x2 ≥ 0) = true then
                  Option.bind (idx x5 x2) fun x6 =>
                    Option.bind (idx x5 x2) fun x7 =>
                      Option.bind (setO x5 x2 (Alarm.mk x7.Number x7.Urgency 3 x7.Since)) fun x8 => some x8
                else some x5)
                fun x9 => some (0, a0, x9)
noncomputable def c24 : Con D := ⟨24, [.lf (.sl 3), .lf (.int .i64), .lf (.int .i64)], [.lf (.int .i64), .lf (.sl 3), .lf (.sl 3)], [.one (.own 1000), .one (.h 1 []), .one (.h 2 [])], [(1000, .sl 3 32 0 [0])], [.one (.own 1001), .one (.h 0 [])], [(1000, .sl 3 32 1 [0]), (1001, .sl 3 32 2 [0])], fun h => dynposref35_Clear h.1 h.2.1 h.2.2⟩
theorem c24_ok : ConOk Try.prog T c24 := fn_ok (Φ := [c12, c43, c45]) (rs := [.tmp 6, .tmp 7]) (an := (.n none .o (.n none .o (.n none .o (.n none (.n none (.r (some (true, [(.normal, ⟨[.lf .bool], [(29, .one (.h 0 []))], [], [], 2832⟩)])) .nil) .o) (.n none .o (.n none (.n none .o (.n (some (true, [(.normal, ⟨[.lf (.sl 3)], [], [(2897, .sl 3 32 0 [0])], [2897], 3217⟩)])) .o .o)) .o))))))) pOk repOk (AllC.mem (⟨c12_ok, c43_ok, c45_ok, trivial⟩ : AllC _ _ [c12, c43, c45])) hmix Try.call24 Try.func24 rfl rfl (by kernel_rfl) (fun h => by kernel_rfl)

noncomputable def dynposref35_See (a0 : (List Alarm)) (a1 : Int) (a2 : Int) : Option (Int × (List Alarm) × (List Alarm)) :=
  Option.bind (dynposref35_Check a0 a2) fun x1 =>
    if (x1 != 0) = true then some (x1, a0, [])
    else
      Option.bind (dynposref35_Find a0 a1) fun x2 =>
        Option.bind
          (if decide (x2 < 0) = true then some true
          else Option.bind (idx a0 x2) fun x3 => some (x3.State == 2))
          fun x4 =>
          if x4 = true then some (71, a0, [])
          else
            Option.bind (idx a0 x2) fun x5 =>
              if (x5.State == 3) = true then
                Option.bind (dynposref35_without a0 x2) fun x10 => some (0, x10.1, x10.2)
              else
                Option.bind (app [] a0) fun x6 =>
                  Option.bind (idx x6 x2) fun x7 =>
                    Option.bind (idx x6 x2) fun x8 =>
                      Option.bind (setO x6 x2 (Alarm.mk x8.Number x8.Urgency 2 x8.Since)) fun x9 =>
                        some (0, a0, x9)
noncomputable def c25 : Con D := ⟨25, [.lf (.sl 3), .lf (.int .i64), .lf (.int .i64)], [.lf (.int .i64), .lf (.sl 3), .lf (.sl 3)], [.one (.own 1000), .one (.h 1 []), .one (.h 2 [])], [(1000, .sl 3 32 0 [0])], [.one (.own 1001), .one (.h 0 [])], [(1000, .sl 3 32 1 [0]), (1001, .sl 3 32 2 [0])], fun h => dynposref35_See h.1 h.2.1 h.2.2⟩
theorem c25_ok : ConOk Try.prog T c25 := fn_ok (Φ := [c12, c43, c45]) (rs := [.tmp 6, .tmp 7]) (an := (.n none .o (.n none .o (.n none .o (.n none (.n none (.r (some (true, [(.normal, ⟨[.lf .bool], [(29, .one (.h 0 []))], [], [], 2832⟩)])) .nil) .o) .o))))) pOk repOk (AllC.mem (⟨c12_ok, c43_ok, c45_ok, trivial⟩ : AllC _ _ [c12, c43, c45])) hmix Try.call25 Try.func25 rfl rfl (by kernel_rfl) (fun h => by kernel_rfl)

noncomputable def Src_Alarms_L1 : Int × Int × List Alarm × List Int × Int →
  Option
    (Int × Int × List Alarm × List Int × Int ⊕
      Int ×
        List Alarm ×
          List Int ×
            Int) := fun x2 =>
  if decide (x2.2.1 > 0) = true then
    Option.bind (Src_N (Src.mk x2.2.2.2.1 x2.2.2.2.2) 3) fun x3 =>
      Option.bind (Src_N (Src.mk x3.2.1 x3.2.2) 4) fun x4 =>
        Option.bind
          (if (x4.1 == 0) = true then some (x4.1 == 0) else some (x4.1 == 1))
          fun x5 =>
          Option.bind
            (if x5 = true then
              Option.bind (Src_N (Src.mk x4.2.1 x4.2.2) 6) fun x11 =>
                Option.bind (Src_Range (Src.mk x11.2.1 x11.2.2) 1 3) fun x12 =>
                  Option.bind (dynposref35_Raise x2.2.2.1 x11.1 x12.1 (W (x2.1 + x3.1))) fun x13 =>
                    some (x13.1, x13.2.2, x12.2.1, x12.2.2, x13.2.1)
            else
              Option.bind
                (if (x4.1 == 2) = true then
                  Option.bind (Src_N (Src.mk x4.2.1 x4.2.2) 6) fun x8 =>
                    Option.bind (dynposref35_Clear x2.2.2.1 x8.1 (W (x2.1 + x3.1))) fun x9 =>
                      some (x9.1, x9.2.2, x8.2.1, x8.2.2, x9.2.1)
                else
                  Option.bind (Src_N (Src.mk x4.2.1 x4.2.2) 6) fun x6 =>
                    Option.bind (dynposref35_See x2.2.2.1 x6.1 (W (x2.1 + x3.1))) fun x7 =>
                      some (x7.1, x7.2.2, x6.2.1, x6.2.2, x7.2.1))
                fun x10 => some (x10.1, x10.2.1, x10.2.2.1, x10.2.2.2.1, x10.2.2.2.2))
            fun x14 =>
            Option.bind (if (x14.1 == 0) = true then some x14.2.1 else some x14.2.2.2.2)
              fun x15 =>
              some
                (.inl (W (x2.1 + x3.1), W (x2.2.1 - 1), x15, x14.2.2.1, x14.2.2.2.1))
  else some (.inr (x2.1, x2.2.2.1, x2.2.2.2.1, x2.2.2.2.2))
noncomputable def Src_Alarms (a0 : Src) (a1 : Int) : Option (Int × (List Int) × Int × (List Alarm)) :=
  Option.bind (Src_N a0 (W (a1 + 1))) fun x1 =>
    Option.bind (loopO Src_Alarms_L1 (0, x1.1, [], x1.2.1, x1.2.2)) fun x16 =>
      some (x16.1, x16.2.2.1, x16.2.2.2, x16.2.1)
noncomputable def c10 : Con D := ⟨10, [.lf (.sl 0), .lf (.int .i64), .lf (.int .i64)], [.lf (.int .i64), .lf (.sl 0), .lf (.int .i64), .lf (.sl 3)], [.one (.ptr 1000 0), .one (.h 2 [])], [(1000, .box [.h 0 [0], .h 1 []])], [.one (.own 1001), .one (.h 0 [])], [(1000, .box [.h 1 [0], .h 2 []]), (1001, .sl 3 32 3 [])], fun h => Src_Alarms ⟨h.1, h.2.1⟩ h.2.2⟩
theorem c10_ok : ConOk Try.prog T c10 := fn_ok (Φ := [c18, c22, c23, c24, c25]) (rs := [.tmp 4, .tmp 5]) (an := (.n none .o (.n none .o (.n none .o (.n none (.n none .o (.n none (.loop ⟨[.lf (.int .i64), .lf (.int .i64), .lf (.sl 3), .lf (.sl 0), .lf (.int .i64)], [(6, .one (.own 2576)), (7, .one (.h 0 [])), (8, .one (.h 1 []))], [(2576, .sl 3 32 2 []), (1000, .box [.h 3 [0], .h 4 []])], [1000], 2640⟩ true [(.exit 0, ⟨[.lf (.int .i64), .lf (.sl 3), .lf (.sl 0), .lf (.int .i64)], [(6, .one (.own 2576)), (7, .one (.h 0 []))], [(2576, .sl 3 32 1 []), (1000, .box [.h 2 [0], .h 3 []])], [1000], 2640⟩)] (.n none .o (.n none (.n none (.n none .o (.n none .o (.n none (.n none .o (.n none (.n none (.n none .o (.n (some (true, [(.normal, ⟨[.lf .bool], [(34, .one (.h 0 []))], [], [], 3605⟩)])) .o .o)) (.n (some (true, [(.normal, ⟨[.lf (.int .i64), .lf (.sl 3), .lf (.sl 0), .lf (.int .i64), .lf (.sl 3)], [(9, .one (.own 3606)), (10, .one (.h 0 []))], [(3606, .sl 3 32 1 []), (1000, .box [.h 2 [0], .h 3 []]), (2576, .sl 3 32 4 [])], [1000, 2576], 3670⟩)])) .o (.n none .o (.n (some (true, [(.normal, ⟨[.lf (.int .i64), .lf (.sl 3), .lf (.sl 0), .lf (.int .i64), .lf (.sl 3)], [(9, .one (.own 3734)), (10, .one (.h 0 []))], [(3734, .sl 3 32 1 []), (1000, .box [.h 2 [0], .h 3 []]), (2576, .sl 3 32 4 [])], [1000, 2576], 3798⟩)])) .o .o)))) .o)) (.n none .o (.n (some (true, [(.normal, ⟨[.lf (.sl 3)], [(6, .one (.own 3803))], [(3803, .sl 3 32 0 [])], [2576, 3606], 3867⟩)])) .o .o))))) .o) .o))) .o)) .o))))) pOk repOk (AllC.mem (⟨c18_ok, c22_ok, c23_ok, c24_ok, c25_ok, trivial⟩ : AllC _ _ [c18, c22, c23, c24, c25])) hmix Try.call10 Try.func10 rfl rfl (by kernel_rfl) (fun h => by kernel_rfl)

noncomputable def dynposlaw35_AlarmTells_L1 (x3 : List Int ×
  Int ×
    List
      Alarm) (x4 : Int ×
  List
    Alarm) : Int →
  Option
    (Int ⊕
      Unit ⊕
        Bool) := fun x8 =>
  if decide (x8 < len x3.2.2) = true then
    Option.bind (idx x3.2.2 x8) fun x9 =>
      Option.bind (dynposref35_Find x4.2 x9.Number) fun x10 =>
        Option.bind
          (if decide (x10 < 0) = true then some true
          else Option.bind (idx x4.2 x10) fun x11 => some (x11.State == 3))
          fun x12 => if x12 = true then some (.inr (.inr false)) else some (.inl (W (x8 + 1)))
  else some (.inr (.inl ()))
noncomputable def dynposlaw35_AlarmTells_L2 (x3 : List Int ×
  Int ×
    List
      Alarm) (x4 : Int ×
  List
    Alarm) : Int →
  Option
    (Int ⊕
      Unit ⊕
        Bool) := fun x15 =>
  if decide (x15 < len x4.2) = true then
    Option.bind (idx x4.2 x15) fun x16 =>
      Option.bind (dynposref35_Find x3.2.2 x16.Number) fun x17 =>
        if (!(x16.State == 3) == decide (x17 < 0)) = true then some (.inr (.inr false))
        else some (.inl (W (x15 + 1)))
  else some (.inr (.inl ()))
noncomputable def dynposlaw35_AlarmTells (a0 : (List Int)) : Option (Bool) :=
  if decide (len a0 > 600) = true then Option.bind dynposlaw35_sane fun x23 => some x23
  else
    Option.bind (dynposmake_New a0) fun x1 =>
      Option.bind (Src_Alarms (Src.mk x1.1 x1.2) 16) fun x2 =>
        Option.bind (dynposlaw35_causes (Src.mk x2.2.1 x2.2.2.1)) fun x3 =>
          Option.bind (alarm_Update x2.2.2.2 x3.2.2 x2.1) fun x4 =>
            Option.bind (alarm_Update x4.2 x3.2.2 x2.1) fun x5 =>
              Option.bind
                (if (x4.1 != 0) = true then some true
                else
                  if (x5.1 != 0) = true then some true
                  else Option.bind (dynposref35_Same x4.2 x5.2) fun x6 => some !x6)
                fun x7 =>
                if x7 = true then some false
                else
                  Option.bind (loopO (dynposlaw35_AlarmTells_L1 x3 x4) 0) fun x13 =>
                    Sum.elim
                      (fun x14 =>
                        Option.bind (loopO (dynposlaw35_AlarmTells_L2 x3 x4) 0) fun x18 =>
                          Sum.elim (fun x19 => Option.bind dynposlaw35_sane fun x20 => some x20) (fun x21 => some x21)
                            x18)
                      (fun x22 => some x22) x13
noncomputable def c6 : Con D := ⟨6, [.lf (.sl 0)], [.lf .bool], [.one (.h 0 [0])], [], [.one (.h 0 [])], [], fun h => dynposlaw35_AlarmTells h⟩
theorem c6_ok : ConOk Try.prog T c6 := fn_ok (Φ := [c8, c9, c10, c12, c14, c15, c16]) (rs := [.tmp 2]) (an := (.n none .o (.n none .o (.n none .o (.n none .o (.n none .o (.n none .o (.n none .o (.n none (.n none (.r (some (true, [(.normal, ⟨[.lf .bool], [(54, .one (.h 0 []))], [], [], 4304⟩)])) .nil) .o) (.n none (.n none .o (.n none (.loop ⟨[.lf (.int .i64)], [(57, .one (.h 0 []))], [], [], 4561⟩ false [(.exit 0, ⟨[], [], [], [], 4561⟩)] (.n none .o (.n none .o (.n none (.n none (.n none .o (.n none .o (.n none (.r (some (true, [(.normal, ⟨[.lf .bool], [(68, .one (.any)), (69, .one (.any)), (70, .one (.any)), (71, .one (.any)), (72, .one (.any)), (73, .one (.any)), (74, .one (.h 0 []))], [], [], 5266⟩)])) .nil) .o))) .o) .o)))) .o)) (.n none (.n none .o (.n none (.loop ⟨[.lf (.int .i64)], [(78, .one (.h 0 []))], [], [], 4817⟩ false [(.exit 2, ⟨[], [], [], [], 4817⟩)] .o) .o)) .o))))))))))) pOk repOk (AllC.mem (⟨c8_ok, c9_ok, c10_ok, c12_ok, c14_ok, c15_ok, c16_ok, trivial⟩ : AllC _ _ [c8, c9, c10, c12, c14, c15, c16])) hmix Try.call6 Try.func6 rfl rfl (by kernel_rfl) (fun h => by kernel_rfl)

end Rx
end Go.Proofs.Ytdfokgnmemlmgaa
