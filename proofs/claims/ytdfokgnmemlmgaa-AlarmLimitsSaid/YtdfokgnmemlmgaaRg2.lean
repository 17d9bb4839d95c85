/- Plain functions, walks. Written by a program (wip/gen). -/
import Derived.Test.YtdfokgnmemlmgaaRt
import Derived.Test.YtdfokgnmemlmgaaRg1
set_option linter.unusedVariables false
set_option maxRecDepth 100000
namespace Go.Proofs.Ytdfokgnmemlmgaa
open Go Go.RowKit Dp
namespace Rx

noncomputable def dynposref35_Check_L1 (a0 : List
  Alarm) (a1 : Int) : Int →
  Option
    (Int ⊕
      Unit ⊕
        Int) := fun x2 =>
  if decide (x2 < len a0) = true then
    Option.bind (idx a0 x2) fun x3 =>
      Option.bind
        (Option.bind (dynposref35_in x3.Number 0 999) fun x4 =>
          if (!x4) = true then some true
          else
            Option.bind (dynposref35_in x3.Urgency 1 9) fun x5 =>
              if (!x5) = true then some true
              else
                Option.bind (dynposref35_in x3.State 1 3) fun x6 =>
                  if (!x6) = true then some true
                  else
                    Option.bind (dynposref35_in x3.Since 0 a1) fun x7 =>
                      if (!x7) = true then some true
                      else
                        if decide (x2 > 0) = true then
                          Option.bind (idx a0 (W (x2 - 1))) fun x8 => some (decide (x3.Number ≤ x8.Number))
                        else some false)
        fun x9 => if x9 = true then some (.inr (.inr 71)) else some (.inl (W (x2 + 1)))
  else some (.inr (.inl ()))
noncomputable def dynposref35_Check (a0 : (List Alarm)) (a1 : Int) : Option (Int) :=
  Option.bind (dynposref35_in a1 0 2147483648) fun x1 =>
    if (!x1) = true then some 1
    else
      if decide (len a0 > 32) = true then some 2
      else
        Option.bind (loopO (dynposref35_Check_L1 a0 a1) 0) fun x10 =>
          Sum.elim (fun x11 => some 0) (fun x12 => some x12) x10
noncomputable def c43 : Con D := ⟨43, [.lf (.sl 3), .lf (.int .i64)], [.lf (.int .i64)], [.one (.h 0 [0]), .one (.h 1 [])], [], [.one (.h 0 [])], [], fun h => dynposref35_Check h.1 h.2⟩
theorem c43_ok : ConOk Try.prog T c43 := fn_ok (Φ := [c44]) (rs := [.tmp 4]) (an := (.n none .o (.n none .o (.n none .o (.n none (.n none .o (.n none (.loop ⟨[.lf (.int .i64)], [(15, .one (.h 0 []))], [], [], 2704⟩ false [(.exit 0, ⟨[], [], [], [], 2704⟩)] (.n none .o (.n none .o (.n none (.n none (.n none .o (.n none (.r (some (true, [(.normal, ⟨[.lf .bool], [(25, .one (.any)), (26, .one (.any)), (27, .one (.any)), (28, .one (.any)), (31, .one (.any)), (32, .one (.any)), (33, .one (.any)), (34, .one (.any)), (37, .one (.any)), (38, .one (.any)), (39, .one (.any)), (40, .one (.any)), (41, .one (.any)), (44, .one (.any)), (45, .one (.any)), (46, .one (.any)), (47, .one (.any)), (48, .one (.any)), (49, .one (.any)), (50, .one (.any)), (51, .one (.any)), (52, .one (.any)), (53, .one (.any)), (54, .one (.any)), (55, .one (.any)), (56, .one (.any)), (57, .one (.h 0 []))], [], [], 3217⟩)])) .nil) .o)) .o) .o)))) .o)) .o))))) pOk repOk (AllC.mem (⟨c44_ok, trivial⟩ : AllC _ _ [c44])) hmix Try.call43 Try.func43 rfl rfl (by kernel_rfl) (fun h => by kernel_rfl)

noncomputable def dynposref35_Find_L1 (a0 : List
  Alarm) (a1 : Int) : Int →
  Option
    (Int ⊕
      Unit ⊕
        Int) := fun x1 =>
  if decide (x1 < len a0) = true then
    Option.bind (idx a0 x1) fun x2 =>
      if (x2.Number == a1) = true then some (.inr (.inr x1)) else some (.inl (W (x1 + 1)))
  else some (.inr (.inl ()))
noncomputable def dynposref35_Find (a0 : (List Alarm)) (a1 : Int) : Option (Int) :=
  Option.bind (loopO (dynposref35_Find_L1 a0 a1) 0) fun x3 =>
    Sum.elim (fun x4 => some (-1)) (fun x5 => some x5) x3
noncomputable def c12 : Con D := ⟨12, [.lf (.sl 3), .lf (.int .i64)], [.lf (.int .i64)], [.one (.h 0 [0]), .one (.h 1 [])], [], [.one (.h 0 [])], [], fun h => dynposref35_Find h.1 h.2⟩
theorem c12_ok : ConOk Try.prog T c12 := fn_ok (Φ := []) (rs := [.tmp 4]) (an := (.n none .o (.n none (.n none .o (.n none (.loop ⟨[.lf (.int .i64)], [(9, .one (.h 0 []))], [], [], 2320⟩ false [(.exit 0, ⟨[], [], [], [], 2320⟩)] .o) .o)) .o))) pOk repOk (AllC.mem (l := []) trivial) hmix Try.call12 Try.func12 rfl rfl (by kernel_rfl) (fun h => by kernel_rfl)

noncomputable def dynposref35_Raise_L1 (a1 : Int) (x5 : List
  Alarm) : Int →
  Option
    (Int ⊕
      Int) := fun x7 =>
  Option.bind
    (if decide (x7 < len x5) = true then Option.bind (idx x5 x7) fun x8 => some (decide (x8.Number < a1))
    else some false)
    fun x9 => if x9 = true then some (.inl (W (x7 + 1))) else some (.inr x7)
noncomputable def dynposref35_Raise (a0 : (List Alarm)) (a1 : Int) (a2 : Int) (a3 : Int) : Option (Int × (List Alarm) × (List Alarm)) :=
  Option.bind (dynposref35_Check a0 a3) fun x1 =>
    if (x1 != 0) = true then some (x1, a0, [])
    else
      Option.bind
        (Option.bind (dynposref35_in a1 0 999) fun x2 =>
          if (!x2) = true then some true
          else Option.bind (dynposref35_in a2 1 9) fun x3 => some !x3)
        fun x4 =>
        if x4 = true then some (1, a0, [])
        else
          Option.bind (app [] a0) fun x5 =>
            Option.bind (dynposref35_Find a0 a1) fun x6 =>
              if decide (x6 ≥ 0) = true then
                Option.bind (idx a0 x6) fun x15 =>
                  Option.bind
                    (if (x15.State == 3) = true then
                      Option.bind (idx x5 x6) fun x16 =>
                        Option.bind (idx x5 x6) fun x17 =>
                          Option.bind (setO x5 x6 (Alarm.mk a1 a2 1 a3)) fun x18 => some x18
                    else some x5)
                    fun x19 => some (0, a0, x19)
              else
                if (len a0 == 32) = true then some (2, a0, [])
                else
                  Option.bind (loopO (dynposref35_Raise_L1 a1 x5) 0) fun x10 =>
                    Option.bind (slc x5 0 x10) fun x11 =>
                      Option.bind (slc x5 x10 (len x5)) fun x12 =>
                        Option.bind (app [Alarm.mk a1 a2 1 a3] (drpI x5 x10)) fun x13 =>
                          Option.bind (app (takI x5 x10) x13) fun x14 => some (0, a0, x14)
noncomputable def c22 : Con D := ⟨22, [.lf (.sl 3), .lf (.int .i64), .lf (.int .i64), .lf (.int .i64)], [.lf (.int .i64), .lf (.sl 3), .lf (.sl 3)], [.one (.own 1000), .one (.h 1 []), .one (.h 2 []), .one (.h 3 [])], [(1000, .sl 3 32 0 [0])], [.one (.own 1001), .one (.h 0 [])], [(1000, .sl 3 32 1 [0]), (1001, .sl 3 32 2 [0])], fun h => dynposref35_Raise h.1 h.2.1 h.2.2.1 h.2.2.2⟩
theorem c22_ok : ConOk Try.prog T c22 := fn_ok (Φ := [c12, c43, c44]) (rs := [.tmp 8, .tmp 9]) (an := (.n none .o (.n none .o (.n none (.n none (.r (some (true, [(.normal, ⟨[.lf .bool], [(28, .one (.h 0 []))], [], [], 2576⟩)])) .nil) .o) (.n none .o (.n none .o (.n none (.n none .o (.n none .o (.n none (.n none (.n none .o (.n (some (true, [(.normal, ⟨[.lf (.sl 3)], [], [(2641, .sl 3 32 0 [0])], [2641], 3985⟩)])) .o .o)) .o) .o))) (.n none .o (.n none .o (.n none (.n none (.loop ⟨[.lf (.int .i64)], [(14, .one (.h 0 []))], [], [], 3857⟩ true [(.exit 0, ⟨[.lf (.int .i64)], [(14, .one (.h 0 []))], [], [], 3857⟩)] (.n none (.n none (.r (some (true, [(.normal, ⟨[.lf .bool], [(59, .one (.any)), (60, .one (.any)), (61, .one (.any)), (62, .one (.any)), (63, .one (.any)), (64, .one (.any)), (65, .one (.any)), (66, .one (.h 0 []))], [], [], 3922⟩)])) .nil) .o) .o)) .o) .o)))))))))) pOk repOk (AllC.mem (⟨c12_ok, c43_ok, c44_ok, trivial⟩ : AllC _ _ [c12, c43, c44])) hmix Try.call22 Try.func22 rfl rfl (by kernel_rfl) (fun h => by kernel_rfl)

noncomputable def dynposref35_without (a0 : (List Alarm)) (a1 : Int) : Option ((List Alarm) × (List Alarm)) :=
  Option.bind (slc a0 0 a1) fun x1 =>
    Option.bind (app [] (takI a0 a1)) fun x2 =>
      Option.bind (slc a0 (W (a1 + 1)) (len a0)) fun x3 =>
        Option.bind (app x2 (drpI a0 (W (a1 + 1)))) fun x4 => some (a0, x4)
noncomputable def c45 : Con D := ⟨45, [.lf (.sl 3), .lf (.int .i64)], [.lf (.sl 3), .lf (.sl 3)], [.one (.own 1000), .one (.h 1 [])], [(1000, .sl 3 32 0 [0])], [.one (.own 1001)], [(1000, .sl 3 32 0 [0]), (1001, .sl 3 32 1 [0])], fun h => dynposref35_without h.1 h.2⟩
theorem c45_ok : ConOk Try.prog T c45 := fn_ok (Φ := []) (rs := [.tmp 4]) (an := .o) pOk repOk (AllC.mem (l := []) trivial) hmix Try.call45 Try.func45 rfl rfl (by kernel_rfl) (fun h => by kernel_rfl)

noncomputable def dynposref35_Clear (a0 : (List Alarm)) (a1 : Int) (a2 : Int) : Option (Int × (List Alarm) × (List Alarm)) :=
  Option.bind (dynposref35_Check a0 a2) fun x1 =>
    if (x1 != 0) = true then some (x1, a0, [])
    else
      Option.bind (dynposref35_Find a0 a1) fun x2 =>
        Option.bind
          (if decide (x2 ≥ 0) = true then Option.bind (idx a0 x2) fun x3 => some (x3.State == 2)
          else some false)
          fun x4 =>
          if x4 = true then Option.bind (dynposref35_without a0 x2) fun x10 => some (0, x10.1, x10.2)
          else
            Option.bind (app [] a0) fun x5 =>
              Option.bind
                (if decide (x2 ≥ 0) = true then
                  Option.bind (idx x5 x2) fun x6 =>
                    Option.bind (idx x5 x2) fun x7 =>
                      Option.bind (setO x5 x2 (Alarm.mk x7.Number x7.Urgency 3 x7.Since)) fun x8 => some x8
                else some x5)
                fun x9 => some (0, a0, x9)
noncomputable def c24 : Con D := ⟨24, [.lf (.sl 3), .lf (.int .i64), .lf (.int .i64)], [.lf (.int .i64), .lf (.sl 3), .lf (.sl 3)], [.one (.own 1000), .one (.h 1 []), .one (.h 2 [])], [(1000, .sl 3 32 0 [0])], [.one (.own 1001), .one (.h 0 [])], [(1000, .sl 3 32 1 [0]), (1001, .sl 3 32 2 [0])], fun h => dynposref35_Clear h.1 h.2.1 h.2.2⟩
theorem c24_ok : ConOk Try.prog T c24 := fn_ok (Φ := [c12, c43, c45]) (rs := [.tmp 6, .tmp 7]) (an := (.n none .o (.n none .o (.n none .o (.n none (.n none (.r (some (true, [(.normal, ⟨[.lf .bool], [(29, .one (.h 0 []))], [], [], 2832⟩)])) .nil) .o) (.n none .o (.n none (.n none .o (.n (some (true, [(.normal, ⟨[.lf (.sl 3)], [], [(2897, .sl 3 32 0 [0])], [2897], 3217⟩)])) .o .o)) .o))))))) pOk repOk (AllC.mem (⟨c12_ok, c43_ok, c45_ok, trivial⟩ : AllC _ _ [c12, c43, c45])) hmix Try.call24 Try.func24 rfl rfl (by kernel_rfl) (fun h => by kernel_rfl)

noncomputable def dynposref35_See (a0 : (List Alarm)) (a1 : Int) (a2 : Int) : Option (Int × (List Alarm) × (List Alarm)) :=
  Option.bind (dynposref35_Check a0 a2) fun x1 =>
    if (x1 != 0) = true then some (x1, a0, [])
    else
      Option.bind (dynposref35_Find a0 a1) fun x2 =>
        Option.bind
          (if decide (x2 < 0) = true then some true
          else Option.bind (idx a0 x2) fun x3 => some (x3.State == 2))
          fun x4 =>
          if x4 = true then some (71, a0, [])
          else
            Option.bind (idx a0 x2) fun x5 =>
              if (x5.State == 3) = true then
                Option.bind (dynposref35_without a0 x2) fun x10 => some (0, x10.1, x10.2)
              else
                Option.bind (app [] a0) fun x6 =>
                  Option.bind (idx x6 x2) fun x7 =>
                    Option.bind (idx x6 x2) fun x8 =>
                      Option.bind (setO x6 x2 (Alarm.mk x8.Number x8.Urgency 2 x8.Since)) fun x9 =>
                        some (0, a0, x9)
noncomputable def c25 : Con D := ⟨25, [.lf (.sl 3), .lf (.int .i64), .lf (.int .i64)], [.lf (.int .i64), .lf (.sl 3), .lf (.sl 3)], [.one (.own 1000), .one (.h 1 []), .one (.h 2 [])], [(1000, .sl 3 32 0 [0])], [.one (.own 1001), .one (.h 0 [])], [(1000, .sl 3 32 1 [0]), (1001, .sl 3 32 2 [0])], fun h => dynposref35_See h.1 h.2.1 h.2.2⟩
theorem c25_ok : ConOk Try.prog T c25 := fn_ok (Φ := [c12, c43, c45]) (rs := [.tmp 6, .tmp 7]) (an := (.n none .o (.n none .o (.n none .o (.n none (.n none (.r (some (true, [(.normal, ⟨[.lf .bool], [(29, .one (.h 0 []))], [], [], 2832⟩)])) .nil) .o) .o))))) pOk repOk (AllC.mem (⟨c12_ok, c43_ok, c45_ok, trivial⟩ : AllC _ _ [c12, c43, c45])) hmix Try.call25 Try.func25 rfl rfl (by kernel_rfl) (fun h => by kernel_rfl)

noncomputable def Src_Alarms_L1 : Int × Int × List Alarm × List Int × Int →
  Option
    (Int × Int × List Alarm × List Int × Int ⊕
      Int ×
        List Alarm ×
          List Int ×
            Int) := fun x2 =>
  if decide (x2.2.1 > 0) = true then
    Option.bind (Src_N (Src.mk x2.2.2.2.1 x2.2.2.2.2) 3) fun x3 =>
      Option.bind (Src_N (Src.mk x3.2.1 x3.2.2) 4) fun x4 =>
        Option.bind
          (if (x4.1 == 0) = true then some (x4.1 == 0) else some (x4.1 == 1))
          fun x5 =>
          Option.bind
            (if x5 = true then
              Option.bind (Src_N (Src.mk x4.2.1 x4.2.2) 6) fun x11 =>
                Option.bind (Src_Range (Src.mk x11.2.1 x11.2.2) 1 3) fun x12 =>
                  Option.bind (dynposref35_Raise x2.2.2.1 x11.1 x12.1 (W (x2.1 + x3.1))) fun x13 =>
                    some (x13.1, x13.2.2, x12.2.1, x12.2.2, x13.2.1)
            else
              Option.bind
                (if (x4.1 == 2) = true then
                  Option.bind (Src_N (Src.mk x4.2.1 x4.2.2) 6) fun x8 =>
                    Option.bind (dynposref35_Clear x2.2.2.1 x8.1 (W (x2.1 + x3.1))) fun x9 =>
                      some (x9.1, x9.2.2, x8.2.1, x8.2.2, x9.2.1)
                else
                  Option.bind (Src_N (Src.mk x4.2.1 x4.2.2) 6) fun x6 =>
                    Option.bind (dynposref35_See x2.2.2.1 x6.1 (W (x2.1 + x3.1))) fun x7 =>
                      some (x7.1, x7.2.2, x6.2.1, x6.2.2, x7.2.1))
                fun x10 => some (x10.1, x10.2.1, x10.2.2.1, x10.2.2.2.1, x10.2.2.2.2))
            fun x14 =>
            Option.bind (if (x14.1 == 0) = true then some x14.2.1 else some x14.2.2.2.2)
              fun x15 =>
              some
                (.inl (W (x2.1 + x3.1), W (x2.2.1 - 1), x15, x14.2.2.1, x14.2.2.2.1))
  else some (.inr (x2.1, x2.2.2.1, x2.2.2.2.1, x2.2.2.2.2))
noncomputable def Src_Alarms (a0 : Src) (a1 : Int) : Option (Int × (List Int) × Int × (List Alarm)) :=
  Option.bind (Src_N a0 (W (a1 + 1))) fun x1 =>
    Option.bind (loopO Src_Alarms_L1 (0, x1.1, [], x1.2.1, x1.2.2)) fun x16 =>
      some (x16.1, x16.2.2.1, x16.2.2.2, x16.2.1)
noncomputable def c10 : Con D := ⟨10, [.lf (.sl 0), .lf (.int .i64), .lf (.int .i64)], [.lf (.int .i64), .lf (.sl 0), .lf (.int .i64), .lf (.sl 3)], [.one (.ptr 1000 0), .one (.h 2 [])], [(1000, .box [.h 0 [0], .h 1 []])], [.one (.own 1001), .one (.h 0 [])], [(1000, .box [.h 1 [0], .h 2 []]), (1001, .sl 3 32 3 [])], fun h => Src_Alarms ⟨h.1, h.2.1⟩ h.2.2⟩
theorem c10_ok : ConOk Try.prog T c10 := fn_ok (Φ := [c18, c22, c23, c24, c25]) (rs := [.tmp 4, .tmp 5]) (an := (.n none .o (.n none .o (.n none .o (.n none (.n none .o (.n none (.loop ⟨[.lf (.int .i64), .lf (.int .i64), .lf (.sl 3), .lf (.sl 0), .lf (.int .i64)], [(6, .one (.own 2576)), (7, .one (.h 0 [])), (8, .one (.h 1 []))], [(2576, .sl 3 32 2 []), (1000, .box [.h 3 [0], .h 4 []])], [1000], 2640⟩ true [(.exit 0, ⟨[.lf (.int .i64), .lf (.sl 3), .lf (.sl 0), .lf (.int .i64)], [(6, .one (.own 2576)), (7, .one (.h 0 []))], [(2576, .sl 3 32 1 []), (1000, .box [.h 2 [0], .h 3 []])], [1000], 2640⟩)] (.n none .o (.n none (.n none (.n none .o (.n none .o (.n none (.n none .o (.n none (.n none (.n none .o (.n (some (true, [(.normal, ⟨[.lf .bool], [(34, .one (.h 0 []))], [], [], 3605⟩)])) .o .o)) (.n (some (true, [(.normal, ⟨[.lf (.int .i64), .lf (.sl 3), .lf (.sl 0), .lf (.int .i64), .lf (.sl 3)], [(9, .one (.own 3606)), (10, .one (.h 0 []))], [(3606, .sl 3 32 1 []), (1000, .box [.h 2 [0], .h 3 []]), (2576, .sl 3 32 4 [])], [1000, 2576], 3670⟩)])) .o (.n none .o (.n (some (true, [(.normal, ⟨[.lf (.int .i64), .lf (.sl 3), .lf (.sl 0), .lf (.int .i64), .lf (.sl 3)], [(9, .one (.own 3734)), (10, .one (.h 0 []))], [(3734, .sl 3 32 1 []), (1000, .box [.h 2 [0], .h 3 []]), (2576, .sl 3 32 4 [])], [1000, 2576], 3798⟩)])) .o .o)))) .o)) (.n none .o (.n (some (true, [(.normal, ⟨[.lf (.sl 3)], [(6, .one (.own 3803))], [(3803, .sl 3 32 0 [])], [2576, 3606], 3867⟩)])) .o .o))))) .o) .o))) .o)) .o))))) pOk repOk (AllC.mem (⟨c18_ok, c22_ok, c23_ok, c24_ok, c25_ok, trivial⟩ : AllC _ _ [c18, c22, c23, c24, c25])) hmix Try.call10 Try.func10 rfl rfl (by kernel_rfl) (fun h => by kernel_rfl)

noncomputable def dynposlaw35_AlarmFirst_L1 (x2 : Int ×
  List Int ×
    Int ×
      List
        Alarm) (x3 : Int ×
  Bool) : Bool × Int →
  Option
    (Bool × Int ⊕
      Bool ⊕
        Bool) := fun x4 =>
  if decide (x4.2 < len x2.2.2.2) = true then
    Option.bind
      (Option.bind (idx x2.2.2.2 x4.2) fun x5 =>
        if (x5.State == 3) = true then some (.inl x4.1)
        else
          Option.bind (dynposref35_Find x2.2.2.2 x3.1) fun x6 =>
            Option.bind
              (if (!x3.2) = true then some true
              else
                if decide (x6 < 0) = true then some true
                else
                  Option.bind (idx x2.2.2.2 x6) fun x7 =>
                    if (x7.State == 3) = true then some true
                    else
                      Option.bind (idx x2.2.2.2 x6) fun x8 =>
                        if decide (x8.Since > x5.Since) = true then some true
                        else
                          Option.bind (idx x2.2.2.2 x6) fun x9 =>
                            if (x9.Since == x5.Since) = true then some (decide (x3.1 > x5.Number)) else some false)
              fun x10 => if x10 = true then some (.inr (.inr (.inr false))) else some (.inl true))
      fun x11 => Sum.elim (fun x12 => some (.inl (x12, W (x4.2 + 1)))) (fun x13 => some x13) x11
  else some (.inr (.inl x4.1))
noncomputable def dynposlaw35_AlarmFirst (a0 : (List Int)) : Option (Bool) :=
  if decide (len a0 > 600) = true then Option.bind dynposlaw35_sane fun x19 => some x19
  else
    Option.bind (dynposmake_New a0) fun x1 =>
      Option.bind (Src_Alarms (Src.mk x1.1 x1.2) 20) fun x2 =>
        Option.bind (alarm_First x2.2.2.2) fun x3 =>
          Option.bind (loopO (dynposlaw35_AlarmFirst_L1 x2 x3) (false, 0)) fun x14 =>
            Sum.elim
              (fun x15 =>
                Option.bind
                  (if (x3.2 == x15) = true then Option.bind dynposlaw35_sane fun x16 => some x16 else some false)
                  fun x17 => some x17)
              (fun x18 => some x18) x14
noncomputable def c3 : Con D := ⟨3, [.lf (.sl 0)], [.lf .bool], [.one (.h 0 [0])], [], [.one (.h 0 [])], [], fun h => dynposlaw35_AlarmFirst h⟩
theorem c3_ok : ConOk Try.prog T c3 := fn_ok (Φ := [c8, c9, c10, c11, c12]) (rs := [.tmp 2]) (an := (.n none .o (.n none .o (.n none .o (.n none .o (.n none .o (.n none .o (.n none (.n none .o (.n none (.loop ⟨[.lf .bool, .lf (.int .i64)], [(8, .one (.h 0 [])), (30, .one (.h 1 []))], [], [], 3664⟩ false [(.exit 0, ⟨[.lf .bool], [(8, .one (.h 0 []))], [], [], 3664⟩)] (.n none .o (.n none .o (.n none (.n (some (false, [(.normal, ⟨[.lf .bool], [(8, .one (.h 0 []))], [], [], 3794⟩)])) (.n none .o (.n none .o (.n none .o (.n none .o (.n none (.r (some (true, [(.normal, ⟨[.lf .bool], [(43, .one (.any)), (44, .one (.any)), (47, .one (.any)), (48, .one (.any)), (49, .one (.any)), (50, .one (.any)), (51, .one (.any)), (52, .one (.any)), (55, .one (.any)), (56, .one (.any)), (57, .one (.any)), (58, .one (.any)), (59, .one (.any)), (60, .one (.any)), (61, .one (.any)), (62, .one (.any)), (65, .one (.any)), (66, .one (.any)), (67, .one (.any)), (68, .one (.any)), (69, .one (.any)), (70, .one (.any)), (71, .one (.any)), (72, .one (.any)), (73, .one (.any)), (74, .one (.any)), (75, .one (.any)), (76, .one (.any)), (77, .one (.any)), (78, .one (.any)), (79, .one (.h 0 []))], [], [], 4562⟩)])) .nil) .o))))) .o) .o)))) .o)) (.n none (.r (some (true, [(.normal, ⟨[.lf .bool], [(2, .one (.h 0 []))], [], [], 3729⟩)])) .nil) .o))))))))) pOk repOk (AllC.mem (⟨c8_ok, c9_ok, c10_ok, c11_ok, c12_ok, trivial⟩ : AllC _ _ [c8, c9, c10, c11, c12])) hmix Try.call3 Try.func3 rfl rfl (by kernel_rfl) (fun h => by kernel_rfl)

noncomputable def dynposlaw35_AlarmLimits_L1 (x1 : Int) : Int × List Alarm →
  Option
    (Int × List Alarm ⊕
      List Alarm ⊕
        Bool) := fun x2 =>
  if decide (x2.1 < x1) = true then
    Option.bind (remO x2.1 9) fun x3 =>
      Option.bind (alarm_Raise x2.2 (W (7 * x2.1)) (W (1 + x3)) x2.1) fun x4 =>
        Option.bind
          (if (!(x4.1 == 0) == decide (x2.1 < 32)) = true then some true
          else if (x4.1 != 0) = true then some (x4.1 != 2) else some false)
          fun x5 =>
          if x5 = true then some (.inr (.inr false))
          else
            Option.bind (if (x4.1 == 0) = true then some x4.2 else some x2.2) fun x6 =>
              some (.inl (W (x2.1 + 1), x6))
  else some (.inr (.inl x2.2))
noncomputable def dynposlaw35_AlarmLimits (a0 : Int) : Option (Bool) :=
  Option.bind (remO (W a0) 40) fun x1 =>
    Option.bind (loopO (dynposlaw35_AlarmLimits_L1 x1) (0, [])) fun x7 =>
      Sum.elim
        (fun x8 =>
          if (len x8 != imin x1 32) = true then some false
          else
            if decide (x1 > 0) = true then
              Option.bind (alarm_Raise x8 0 1 100) fun x10 =>
                Option.bind
                  (if (x10.1 == 0) = true then
                    Option.bind (dynposref35_Same x10.2 x8) fun x11 =>
                      if x11 = true then Option.bind dynposlaw35_sane fun x12 => some x12 else some false
                  else some false)
                  fun x13 => some x13
            else Option.bind dynposlaw35_sane fun x9 => some x9)
        (fun x14 => some x14) x7
noncomputable def c4 : Con D := ⟨4, [.lf (.int .u8)], [.lf .bool], [.one (.h 0 [])], [], [.one (.h 0 [])], [], fun h => dynposlaw35_AlarmLimits h⟩
theorem c4_ok : ConOk Try.prog T c4 := fn_ok (Φ := [c8, c13, c14]) (rs := [.tmp 2]) (an := (.n none .o (.n none .o (.n none .o (.n none (.n none .o (.n none (.loop ⟨[.lf (.int .i64), .lf (.sl 3)], [(3, .one (.own 2448)), (5, .one (.h 0 []))], [(2448, .sl 3 32 1 [])], [], 2512⟩ false [(.exit 0, ⟨[.lf (.sl 3)], [(3, .one (.own 2448))], [(2448, .sl 3 32 0 [])], [], 2512⟩)] (.n none .o (.n none (.n none (.n none .o (.n none (.n none (.r (some (true, [(.normal, ⟨[.lf .bool], [(35, .one (.any)), (36, .one (.any)), (37, .one (.any)), (38, .one (.any)), (39, .one (.any)), (40, .one (.any)), (41, .one (.h 0 []))], [], [], 3602⟩)])) .nil) .o) (.n none .o (.n (some (true, [(.normal, ⟨[.lf (.sl 3)], [(3, .one (.own 3731))], [(3731, .sl 3 32 0 [])], [2448, 3162], 3795⟩)])) .o .o)))) .o) .o))) .o)) (.n none .o (.n none (.n none .o (.n none (.n none .o (.n none (.r (some (true, [(.normal, ⟨[.lf .bool], [(2, .one (.h 0 []))], [], [], 3473⟩)])) .nil) .o)) .o)) .o))))))) pOk repOk (AllC.mem (⟨c8_ok, c13_ok, c14_ok, trivial⟩ : AllC _ _ [c8, c13, c14])) hmix Try.call4 Try.func4 rfl rfl (by kernel_rfl) (fun h => by kernel_rfl)

noncomputable def alarm_seen (a0 : Alarm) : Option (Int) :=
  Option.bind (if (a0.State == 1) = true then some true else some (a0.State == 3)) fun x1 =>
    if x1 = true then some 0 else some 1
noncomputable def c42 : Con D := ⟨42, [.lf (.int .i64), .lf (.int .i64), .lf (.int .i64), .lf (.int .i64)], [.lf (.int .i64)], [.agg [.h 0 [], .h 1 [], .h 2 [], .h 3 []]], [], [.one (.h 0 [])], [], fun h => alarm_seen ⟨h.1, h.2.1, h.2.2.1, h.2.2.2⟩⟩
theorem c42_ok : ConOk Try.prog T c42 := fn_ok (Φ := []) (rs := [.tmp 2]) (an := (.n none .o (.n none (.n none (.r (some (true, [(.normal, ⟨[.lf .bool], [(10, .one (.h 0 []))], [], [], 2192⟩)])) .nil) .o) .o))) pOk repOk (AllC.mem (l := []) trivial) hmix Try.call42 Try.func42 rfl rfl (by kernel_rfl) (fun h => by kernel_rfl)

noncomputable def alarm_Order_1 (a0 : Alarm) (a1 : Alarm) : Option (Int) :=
  Option.bind (alarm_seen a0) fun x1 =>
    Option.bind (alarm_seen a1) fun x2 =>
      Option.bind (cmp_Compare_int x1 x2) fun x3 =>
        Option.bind (cmp_Compare_int a0.Urgency a1.Urgency) fun x4 =>
          Option.bind (cmp_Compare_int a0.Since a1.Since) fun x5 =>
            Option.bind (cmp_Compare_int a0.Number a1.Number) fun x6 =>
              Option.bind (cmp_Or_int [x3, x4, x5, x6]) fun x7 => some x7
noncomputable def c41 : Con D := ⟨41, [.lf (.int .i64), .lf (.int .i64), .lf (.int .i64), .lf (.int .i64), .lf (.int .i64), .lf (.int .i64), .lf (.int .i64), .lf (.int .i64)], [.lf (.int .i64)], [.agg [.h 0 [], .h 1 [], .h 2 [], .h 3 []], .agg [.h 4 [], .h 5 [], .h 6 [], .h 7 []]], [], [.one (.h 0 [])], [], fun h => alarm_Order_1 ⟨h.1, h.2.1, h.2.2.1, h.2.2.2.1⟩ ⟨h.2.2.2.2.1, h.2.2.2.2.2.1, h.2.2.2.2.2.2.1, h.2.2.2.2.2.2.2⟩⟩
theorem c41_ok : ConOk Try.prog T c41 := fn_ok (Φ := [c26, c27, c42]) (rs := [.tmp 4]) (an := .o) pOk repOk (AllC.mem (⟨c26_ok, c27_ok, c42_ok, trivial⟩ : AllC _ _ [c26, c27, c42])) hmix Try.call41 Try.func41 rfl rfl (by kernel_rfl) (fun h => by kernel_rfl)

noncomputable def slices_insertionSortCmpFunc_Alarm_L2 (a1 : Int) : Int × List Alarm →
  Option
    (Int × List Alarm ⊕
      List
        Alarm) := fun x2 =>
  Option.bind
    (if decide (x2.1 > a1) = true then
      Option.bind (idx x2.2 x2.1) fun x3 =>
        Option.bind (idx x2.2 (W (x2.1 - 1))) fun x4 =>
          Option.bind (alarm_Order_1 x3 x4) fun x5 => some (decide (x5 < 0))
    else some false)
    fun x6 =>
    if x6 = true then
      Option.bind (idx x2.2 (W (x2.1 - 1))) fun x7 =>
        Option.bind (idx x2.2 x2.1) fun x8 =>
          Option.bind (idx x2.2 x2.1) fun x9 =>
            Option.bind (idx x2.2 x2.1) fun x10 =>
              Option.bind (setO x2.2 x2.1 x7) fun x11 =>
                Option.bind (idx x11 (W (x2.1 - 1))) fun x12 =>
                  Option.bind (idx x11 (W (x2.1 - 1))) fun x13 =>
                    Option.bind (setO x11 (W (x2.1 - 1)) x8) fun x14 =>
                      some (.inl (W (x2.1 - 1), x14))
    else some (.inr x2.2)
noncomputable def slices_insertionSortCmpFunc_Alarm_L1 (a1 : Int) (a2 : Int) : Int × List Alarm →
  Option
    (Int × List Alarm ⊕
      List
        Alarm) := fun x1 =>
  if decide (x1.1 < a2) = true then
    Option.bind (loopO (slices_insertionSortCmpFunc_Alarm_L2 a1) (x1.1, x1.2)) fun x15 =>
      some (.inl (W (x1.1 + 1), x15))
  else some (.inr x1.2)
noncomputable def slices_insertionSortCmpFunc_Alarm (a0 : (List Alarm)) (a1 : Int) (a2 : Int) : Option ((List Alarm)) :=
  Option.bind (loopO (slices_insertionSortCmpFunc_Alarm_L1 a1 a2) (W (a1 + 1), a0)) fun x16 => some x16
noncomputable def c56 : Con D := ⟨56, [.lf (.sl 3), .lf (.int .i64), .lf (.int .i64)], [.lf (.sl 3)], [.one (.own 1000), .one (.h 1 []), .one (.h 2 []), .one (.fn 41 [])], [(1000, .sl 3 32 0 [0])], [], [(1000, .sl 3 32 0 [0])], fun h => slices_insertionSortCmpFunc_Alarm h.1 h.2.1 h.2.2⟩
theorem c56_ok : ConOk Try.prog T c56 := fn_ok (Φ := [c41]) (rs := []) (an := (.n none .o (.n none (.loop ⟨[.lf (.int .i64), .lf (.sl 3)], [(8, .one (.h 0 []))], [(1000, .sl 3 32 1 [0])], [1000], 2256⟩ true [(.exit 0, ⟨[.lf (.sl 3)], [], [(1000, .sl 3 32 0 [0])], [1000], 2256⟩)] (.n none .o (.n none (.n none (.n none .o (.n none (.loop ⟨[.lf (.int .i64), .lf (.sl 3)], [(9, .one (.h 0 []))], [(1000, .sl 3 32 1 [0])], [1000], 2642⟩ true [(.exit 2, ⟨[.lf (.sl 3)], [(22, .one (.any)), (23, .one (.any)), (24, .one (.any)), (25, .one (.any)), (26, .one (.any)), (27, .one (.any)), (28, .one (.any)), (29, .one (.any)), (30, .one (.any)), (31, .one (.any)), (32, .one (.any)), (33, .one (.any))], [(1000, .sl 3 32 0 [0])], [1000], 2642⟩)] (.n none (.n none (.r (some (true, [(.normal, ⟨[.lf .bool], [(22, .one (.any)), (23, .one (.any)), (24, .one (.any)), (25, .one (.any)), (26, .one (.any)), (27, .one (.any)), (28, .one (.any)), (29, .one (.any)), (30, .one (.any)), (31, .one (.any)), (32, .one (.any)), (33, .one (.any)), (34, .one (.h 0 []))], [], [], 2708⟩)])) .nil) .o) .o)) .o)) .o) .o))) .o))) pOk repOk (AllC.mem (⟨c41_ok, trivial⟩ : AllC _ _ [c41])) hmix Try.call56 Try.func56 rfl rfl (by kernel_rfl) (fun h => by kernel_rfl)

def c57 : Con D := ⟨57, [.lf (.sl 3), .lf (.int .i64), .lf (.int .i64), .lf (.int .i64)], [], [.one (.h 0 [0]), .one (.h 1 []), .one (.h 2 []), .one (.h 3 []), .one (.fn 41 [])], [], [], [], fun h => none⟩
theorem c57_ok : ConOk Try.prog T c57 := none_ok Try.call57 rfl (fun h => rfl)

noncomputable def slices_stableCmpFunc_Alarm_L1 (a1 : Int) : Int × Int × List Alarm →
  Option
    (Int × Int × List Alarm ⊕
      Int ×
        List
          Alarm) := fun x1 =>
  if decide (x1.2.1 ≤ a1) = true then
    Option.bind (slices_insertionSortCmpFunc_Alarm x1.2.2 x1.1 x1.2.1) fun x2 =>
      some (.inl (x1.2.1, W (x1.2.1 + 20), x2))
  else some (.inr (x1.1, x1.2.2))
noncomputable def slices_stableCmpFunc_Alarm_L3 (a1 : Int) : Int × Int →
  Option (Int × Int ⊕ Int) := fun x6 => if decide (x6.2 ≤ a1) = true then none else some (.inr x6.1)
noncomputable def slices_stableCmpFunc_Alarm_L2 (a1 : Int) : Int →
  Option
    (Int ⊕
      Unit) := fun x5 =>
  if decide (x5 < a1) = true then
    Option.bind (loopO (slices_stableCmpFunc_Alarm_L3 a1) (0, W (2 * x5))) fun x8 =>
      Option.bind (if decide (W (x8 + x5) < a1) = true then none else some ()) fun x10 =>
        some (.inl (W (x5 * 2)))
  else some (.inr ())
noncomputable def slices_stableCmpFunc_Alarm (a0 : (List Alarm)) (a1 : Int) : Option ((List Alarm)) :=
  Option.bind (loopO (slices_stableCmpFunc_Alarm_L1 a1) (0, 20, a0)) fun x3 =>
    Option.bind (slices_insertionSortCmpFunc_Alarm x3.2 x3.1 a1) fun x4 =>
      Option.bind (loopO (slices_stableCmpFunc_Alarm_L2 a1) 20) fun x11 => some x4
noncomputable def c51 : Con D := ⟨51, [.lf (.sl 3), .lf (.int .i64)], [.lf (.sl 3)], [.one (.own 1000), .one (.h 1 []), .one (.fn 41 [])], [(1000, .sl 3 32 0 [0])], [], [(1000, .sl 3 32 0 [0])], fun h => slices_stableCmpFunc_Alarm h.1 h.2⟩
theorem c51_ok : ConOk Try.prog T c51 := fn_ok (Φ := [c56, c57]) (rs := []) (an := (.n none .o (.n none .o (.n none (.n none (.loop ⟨[.lf (.int .i64), .lf (.int .i64), .lf (.sl 3)], [(7, .one (.h 0 [])), (8, .one (.h 1 []))], [(1000, .sl 3 32 2 [0])], [1000], 2320⟩ true [(.exit 0, ⟨[.lf (.int .i64), .lf (.sl 3)], [(7, .one (.h 0 []))], [(1000, .sl 3 32 1 [0])], [1000], 2320⟩)] .o) .o) (.n none .o (.n none (.loop ⟨[.lf (.int .i64)], [(6, .one (.h 0 []))], [], [], 2706⟩ true [(.exit 2, ⟨[], [], [], [], 2706⟩)] (.n none .o (.n none (.n none .o (.n none (.n none (.loop ⟨[.lf (.int .i64), .lf (.int .i64)], [(7, .one (.h 0 [])), (8, .one (.h 1 []))], [], [], 3219⟩ true [(.exit 4, ⟨[.lf (.int .i64)], [(7, .one (.h 0 []))], [], [], 3219⟩)] .o) .o) (.n none (.n none .o (.n none .o (.n (some (true, [(.normal, ⟨[], [], [], [], 3732⟩)])) .o .o))) .o))) .o))) .o)))))) pOk repOk (AllC.mem (⟨c56_ok, c57_ok, trivial⟩ : AllC _ _ [c56, c57])) hmix Try.call51 Try.func51 rfl rfl (by kernel_rfl) (fun h => by kernel_rfl)

noncomputable def slices_SortStableFunc_Alarm_Alarm (a0 : (List Alarm)) : Option ((List Alarm)) := Option.bind (slices_stableCmpFunc_Alarm a0 (len a0)) fun x1 => some x1
noncomputable def c40 : Con D := ⟨40, [.lf (.sl 3)], [.lf (.sl 3)], [.one (.own 1000), .one (.fn 41 [])], [(1000, .sl 3 32 0 [0])], [], [(1000, .sl 3 32 0 [0])], fun h => slices_SortStableFunc_Alarm_Alarm h⟩
theorem c40_ok : ConOk Try.prog T c40 := fn_ok (Φ := [c51]) (rs := []) (an := .o) pOk repOk (AllC.mem (⟨c51_ok, trivial⟩ : AllC _ _ [c51])) hmix Try.call40 Try.func40 rfl rfl (by kernel_rfl) (fun h => by kernel_rfl)

noncomputable def alarm_Order_L1 (x2 : List
  Alarm) : Int × List Int →
  Option
    (Int × List Int ⊕
      List
        Int) := fun x3 =>
  if decide (x3.1 < len x2) = true then
    Option.bind (idx x2 x3.1) fun x4 =>
      Option.bind (app x3.2 [x4.Number]) fun x5 => some (.inl (W (x3.1 + 1), x5))
  else some (.inr x3.2)
noncomputable def alarm_Order (a0 : (List Alarm)) : Option ((List Int)) :=
  Option.bind (slices_Clone_Alarm_Alarm a0) fun x1 =>
    Option.bind (slices_SortStableFunc_Alarm_Alarm x1) fun x2 =>
      Option.bind (loopO (alarm_Order_L1 x2) (0, [])) fun x6 => some x6
noncomputable def c20 : Con D := ⟨20, [.lf (.sl 3)], [.lf (.sl 0)], [.one (.h 0 [0])], [], [.one (.own 1000)], [(1000, .sl 0 3 0 [])], fun h => alarm_Order h⟩
theorem c20_ok : ConOk Try.prog T c20 := fn_ok (Φ := [c31, c40]) (rs := [.tmp 2]) (an := (.n none .o (.n none .o (.n none .o (.n none .o (.n none (.n none .o (.n none (.loop ⟨[.lf (.int .i64), .lf (.sl 0)], [(4, .one (.own 2640)), (13, .one (.h 0 []))], [(2640, .sl 0 3 1 [])], [], 2704⟩ true [(.exit 0, ⟨[.lf (.sl 0)], [(4, .one (.own 2640))], [(2640, .sl 0 3 0 [])], [], 2704⟩)] .o) .o)) .o)))))) pOk repOk (AllC.mem (⟨c31_ok, c40_ok, trivial⟩ : AllC _ _ [c31, c40])) hmix Try.call20 Try.func20 rfl rfl (by kernel_rfl) (fun h => by kernel_rfl)

noncomputable def dynposlaw35_AlarmOrders_L1 (x2 : Int ×
  List Int ×
    Int ×
      List
        Alarm) (x3 : List
  Int) : Int →
  Option
    (Int ⊕
      Unit ⊕
        Bool) := fun x4 =>
  if decide (x4 < len x3) = true then
    Option.bind
      (Option.bind (idx x3 x4) fun x5 =>
        Option.bind (dynposref35_Find x2.2.2.2 x5) fun x6 =>
          if decide (x6 < 0) = true then some (.inr (.inr (.inr false)))
          else
            if (x4 == 0) = true then some (.inl ())
            else
              Option.bind (idx x3 (W (x4 - 1))) fun x7 =>
                Option.bind (dynposref35_Find x2.2.2.2 x7) fun x8 =>
                  Option.bind (idx x2.2.2.2 x8) fun x9 =>
                    Option.bind (idx x2.2.2.2 x6) fun x10 =>
                      Option.bind
                        (if (x9.State == 2) = true then some (x10.State != 2) else some false)
                        fun x11 =>
                        if x11 = true then some (.inr (.inr (.inr false)))
                        else
                          Option.bind
                            (if ((x9.State == 2) == (x10.State == 2)) = true then
                              if decide (x9.Urgency > x10.Urgency) = true then some true
                              else
                                if (x9.Urgency == x10.Urgency) = true then
                                  if decide (x9.Since > x10.Since) = true then some true
                                  else
                                    if (x9.Since == x10.Since) = true then some (decide (x9.Number ≥ x10.Number))
                                    else some false
                                else some false
                            else some false)
                            fun x12 =>
                            if x12 = true then some (.inr (.inr (.inr false))) else some (.inl ()))
      fun x13 => Sum.elim (fun x14 => some (.inl (W (x4 + 1)))) (fun x15 => some x15) x13
  else some (.inr (.inl ()))
noncomputable def dynposlaw35_AlarmOrders (a0 : (List Int)) : Option (Bool) :=
  if decide (len a0 > 600) = true then Option.bind dynposlaw35_sane fun x20 => some x20
  else
    Option.bind (dynposmake_New a0) fun x1 =>
      Option.bind (Src_Alarms (Src.mk x1.1 x1.2) 20) fun x2 =>
        Option.bind (alarm_Order x2.2.2.2) fun x3 =>
          if (len x3 != len x2.2.2.2) = true then some false
          else
            Option.bind (loopO (dynposlaw35_AlarmOrders_L1 x2 x3) 0) fun x16 =>
              Sum.elim (fun x17 => Option.bind dynposlaw35_sane fun x18 => some x18) (fun x19 => some x19) x16
noncomputable def c7 : Con D := ⟨7, [.lf (.sl 0)], [.lf .bool], [.one (.h 0 [0])], [], [.one (.h 0 [])], [], fun h => dynposlaw35_AlarmOrders h⟩
theorem c7_ok : ConOk Try.prog T c7 := fn_ok (Φ := [c8, c9, c10, c12, c20]) (rs := [.tmp 2]) (an := (.n none .o (.n none .o (.n none .o (.n none .o (.n none .o (.n none .o (.n none (.n none .o (.n none (.loop ⟨[.lf (.int .i64)], [(32, .one (.h 0 []))], [], [], 3664⟩ false [(.exit 0, ⟨[], [], [], [], 3664⟩)] (.n none .o (.n none .o (.n none (.n (some (false, [(.normal, ⟨[], [], [], [], 3793⟩)])) (.n none .o (.n none .o (.n none .o (.n none .o (.n none .o (.n none (.n none (.r (some (true, [(.normal, ⟨[.lf .bool], [(62, .one (.any)), (63, .one (.any)), (64, .one (.any)), (65, .one (.h 0 []))], [], [], 5777⟩)])) .nil) .o) (.n none (.r (some (true, [(.normal, ⟨[.lf .bool], [(74, .one (.any)), (75, .one (.any)), (76, .one (.any)), (77, .one (.any)), (78, .one (.any)), (79, .one (.any)), (80, .one (.any)), (81, .one (.any)), (82, .one (.any)), (83, .one (.any)), (84, .one (.any)), (85, .one (.any)), (86, .one (.any)), (87, .one (.any)), (88, .one (.any)), (89, .one (.any)), (90, .one (.any)), (91, .one (.any)), (92, .one (.any)), (93, .one (.any)), (94, .one (.any)), (95, .one (.any)), (96, .one (.any)), (97, .one (.any)), (98, .one (.any)), (99, .one (.any)), (100, .one (.any)), (101, .one (.any)), (102, .one (.any)), (103, .one (.any)), (104, .one (.any)), (105, .one (.any)), (106, .one (.any)), (107, .one (.h 0 []))], [], [], 5842⟩)])) .nil) .o))))))) .o) .o)))) .o)) .o)))))))) pOk repOk (AllC.mem (⟨c8_ok, c9_ok, c10_ok, c12_ok, c20_ok, trivial⟩ : AllC _ _ [c8, c9, c10, c12, c20])) hmix Try.call7 Try.func7 rfl rfl (by kernel_rfl) (fun h => by kernel_rfl)

end Rx
end Go.Proofs.Ytdfokgnmemlmgaa
