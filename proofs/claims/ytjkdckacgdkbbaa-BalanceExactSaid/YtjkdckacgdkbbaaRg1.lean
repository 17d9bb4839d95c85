/- Plain functions, walks. Written by a program (wip/gen). -/
import Derived.Test.YtjkdckacgdkbbaaRt
set_option linter.unusedVariables false
set_option maxRecDepth 100000
namespace Go.Proofs.Ytjkdckacgdkbbaa
open Go Go.RowKit Dp
namespace Rx

noncomputable def dynposmake_Small_L1 (a0 : Board) : Int →
  Option
    (Int ⊕
      Unit ⊕
        Bool) := fun x1 =>
  if decide (x1 < len a0.Consumers) = true then
    Option.bind (idx a0.Consumers x1) fun x2 =>
      if decide (len x2.Needs > 8) = true then some (.inr (.inr false))
      else some (.inl (W (x1 + 1)))
  else some (.inr (.inl ()))
noncomputable def dynposmake_Small (a0 : Board) (a1 : Power) : Option (Bool) :=
  Option.bind (loopO (dynposmake_Small_L1 a0) 0) fun x3 =>
    Sum.elim
      (fun x4 =>
        Option.bind
          (if decide (len a0.Breakers ≤ 14) = true then
            if decide (len a0.Sources ≤ 10) = true then
              if decide (len a0.Consumers ≤ 8) = true then
                if decide (len a1.Closed ≤ 14) = true then
                  if decide (len a1.Sources ≤ 10) = true then
                    if decide (len a1.Limits ≤ 10) = true then some (decide (len a1.Broken ≤ 10))
                    else some false
                  else some false
                else some false
              else some false
            else some false
          else some false)
          fun x5 => some x5)
      (fun x6 => some x6) x3
noncomputable def c4 : Con D := ⟨4, [.lf (.int .i64), .lf (.sl 4), .lf (.sl 5), .lf (.sl 6), .lf (.int .i64), .lf (.int .i64), .lf (.sl 1), .lf (.sl 8), .lf (.sl 0), .lf (.sl 9)], [.lf .bool], [.agg [.h 0 [], .h 1 [0], .h 2 [0], .h 3 [0], .h 4 [], .h 5 []], .agg [.h 6 [0], .h 7 [0], .h 8 [0], .h 9 [0]]], [], [.one (.h 0 [])], [], fun h => dynposmake_Small ⟨h.1, h.2.1, h.2.2.1, h.2.2.2.1, h.2.2.2.2.1, h.2.2.2.2.2.1⟩ ⟨h.2.2.2.2.2.2.1, h.2.2.2.2.2.2.2.1, h.2.2.2.2.2.2.2.2.1, h.2.2.2.2.2.2.2.2.2⟩⟩
theorem c4_ok : ConOk Try.prog T c4 := fn_ok (Φ := []) (rs := [.tmp 4]) (an := (.n none .o (.n none (.n none .o (.n none (.loop ⟨[.lf (.int .i64)], [(10, .one (.h 0 []))], [], [], 2512⟩ false [(.exit 0, ⟨[], [], [], [], 2512⟩)] .o) .o)) (.n none (.r (some (true, [(.normal, ⟨[.lf .bool], [(4, .one (.h 0 []))], [], [], 2576⟩)])) .nil) .o)))) pOk repOk (AllC.mem (l := []) trivial) hmix Try.call4 Try.func4 rfl rfl (by kernel_rfl) (fun h => by kernel_rfl)

noncomputable def balance_check_L1 (a1 : List
  Int) : Int × Int →
  Option
    (Int × Int ⊕
      Int ⊕
        Int ×
          Int) := fun x1 =>
  if decide (x1.2 < len a1) = true then
    Option.bind (idx a1 x1.2) fun x2 =>
      Option.bind (if decide (x2 < 1) = true then some true else some (decide (x2 > 50000)))
        fun x3 =>
        if x3 = true then some (.inr (.inr (0, 1)))
        else some (.inl (W (x1.1 + x2), W (x1.2 + 1)))
  else some (.inr (.inl x1.1))
noncomputable def balance_check (a0 : Int) (a1 : (List Int)) : Option (Int × Int) :=
  if decide (len a1 > 8) = true then some (0, 2)
  else
    Option.bind (loopO (balance_check_L1 a1) (0, 0)) fun x4 =>
      Sum.elim
        (fun x5 =>
          Option.bind (if decide (a0 < 0) = true then some true else some (decide (a0 > 800000)))
            fun x6 =>
            if x6 = true then some (0, 1)
            else
              Option.bind (if (len a1 == 0) = true then some (a0 != 0) else some false) fun x7 =>
                if x7 = true then some (0, 9) else some (x5, 0))
        (fun x8 => some x8) x4
noncomputable def c30 : Con D := ⟨30, [.lf (.int .i64), .lf (.sl 0)], [.lf (.int .i64), .lf (.int .i64)], [.one (.h 0 []), .one (.h 1 [0])], [], [.one (.h 0 []), .one (.h 1 [])], [], fun h => balance_check h.1 h.2⟩
theorem c30_ok : ConOk Try.prog T c30 := fn_ok (Φ := []) (rs := [.tmp 4, .tmp 5]) (an := (.n none .o (.n none .o (.n none .o (.n none (.n none .o (.n none (.loop ⟨[.lf (.int .i64), .lf (.int .i64)], [(6, .one (.h 0 [])), (14, .one (.h 1 []))], [], [], 2640⟩ false [(.exit 0, ⟨[.lf (.int .i64)], [(6, .one (.h 0 []))], [], [], 2640⟩)] (.n none .o (.n none .o (.n none (.n none (.n none .o (.n none (.n none (.r (some (true, [(.normal, ⟨[.lf .bool], [(21, .one (.any)), (22, .one (.any)), (23, .one (.h 0 []))], [], [], 2962⟩)])) .nil) .o) .o)) .o) .o)))) .o)) (.n none (.n none (.n none (.r (some (true, [(.normal, ⟨[.lf .bool], [(28, .one (.h 0 []))], [], [], 2705⟩)])) .nil) (.n none .o (.n none (.r (some (true, [(.normal, ⟨[.lf .bool], [(35, .one (.h 0 []))], [], [], 2770⟩)])) .nil) .o))) .o) .o)))))) pOk repOk (AllC.mem (l := []) trivial) hmix Try.call30 Try.func30 rfl rfl (by kernel_rfl) (fun h => by kernel_rfl)

noncomputable def balance_Split_1 (a0 : Int) (a1 : Int) (a2 : (List Int)) (a3 : Int) : Option (Int × Int × (List Int) × Int) := Option.bind (idx a2 a0) fun x1 => Option.bind (remO (W (a1 * x1)) a3) fun x2 => some (x2, a1, a2, a3)
noncomputable def c31 : Con D := ⟨31, [.lf (.int .i64), .lf (.int .i64), .lf (.sl 0), .lf (.int .i64)], [.lf (.int .i64), .lf (.int .i64), .lf (.sl 0), .lf (.int .i64)], [.one (.h 0 []), .one (.ptr 1000 0), .one (.ptr 1001 0), .one (.ptr 1002 0)], [(1000, .box [.h 1 []]), (1001, .box [.h 2 [0]]), (1002, .box [.h 3 []])], [.one (.h 0 [])], [(1000, .box [.h 1 []]), (1001, .box [.h 2 [0]]), (1002, .box [.h 3 []])], fun h => balance_Split_1 h.1 h.2.1 h.2.2.1 h.2.2.2⟩
theorem c31_ok : ConOk Try.prog T c31 := fn_ok (Φ := []) (rs := [.tmp 5]) (an := .o) pOk repOk (AllC.mem (l := []) trivial) hmix Try.call31 Try.func31 rfl rfl (by kernel_rfl) (fun h => by kernel_rfl)

noncomputable def balance_Split_2 (a0 : Int) (a1 : Int) (a2 : Int) (a3 : (List Int)) (a4 : Int) : Option (Int × Int × (List Int) × Int) :=
  Option.bind (balance_Split_1 a1 a2 a3 a4) fun x1 =>
    Option.bind (balance_Split_1 a0 x1.2.1 x1.2.2.1 x1.2.2.2) fun x2 =>
      some (W (x1.1 - x2.1), x2.2.1, x2.2.2.1, x2.2.2.2)
noncomputable def c33 : Con D := ⟨33, [.lf (.int .i64), .lf (.int .i64), .lf (.int .i64), .lf (.sl 0), .lf (.int .i64)], [.lf (.int .i64), .lf (.int .i64), .lf (.sl 0), .lf (.int .i64)], [.one (.h 0 []), .one (.h 1 []), .one (.ptr 1000 0)], [(1000, .box [.fn 31 [.ptr 1001 0, .ptr 1002 0, .ptr 1003 0]]), (1001, .box [.h 2 []]), (1002, .box [.h 3 [0]]), (1003, .box [.h 4 []])], [.one (.h 0 [])], [(1000, .box [.fn 31 [.ptr 1001 0, .ptr 1002 0, .ptr 1003 0]]), (1001, .box [.h 1 []]), (1002, .box [.h 2 [0]]), (1003, .box [.h 3 []])], fun h => balance_Split_2 h.1 h.2.1 h.2.2.1 h.2.2.2.1 h.2.2.2.2⟩
theorem c33_ok : ConOk Try.prog T c33 := fn_ok (Φ := [c31]) (rs := [.tmp 5]) (an := .o) pOk repOk (AllC.mem (⟨c31_ok, trivial⟩ : AllC _ _ [c31])) hmix Try.call33 Try.func33 rfl rfl (by kernel_rfl) (fun h => by kernel_rfl)

noncomputable def slices_insertionSortCmpFunc_int_L2 (a1 : Int) : Int × List Int × Int × List Int × Int →
  Option
    (Int × List Int × Int × List Int × Int ⊕
      List Int ×
        Int ×
          List Int ×
            Int) := fun x2 =>
  Option.bind
    (if decide (x2.1 > a1) = true then
      Option.bind (idx x2.2.1 x2.1) fun x3 =>
        Option.bind (idx x2.2.1 (W (x2.1 - 1))) fun x4 =>
          Option.bind (balance_Split_2 x3 x4 x2.2.2.1 x2.2.2.2.1 x2.2.2.2.2) fun x5 =>
            some (decide (x5.1 < 0), x5.2.1, x5.2.2.1, x5.2.2.2)
    else some (false, x2.2.2.1, x2.2.2.2.1, x2.2.2.2.2))
    fun x6 =>
    if x6.1 = true then
      Option.bind (idx x2.2.1 (W (x2.1 - 1))) fun x7 =>
        Option.bind (idx x2.2.1 x2.1) fun x8 =>
          Option.bind (idx x2.2.1 x2.1) fun x9 =>
            Option.bind (idx x2.2.1 x2.1) fun x10 =>
              Option.bind (setO x2.2.1 x2.1 x7) fun x11 =>
                Option.bind (idx x11 (W (x2.1 - 1))) fun x12 =>
                  Option.bind (idx x11 (W (x2.1 - 1))) fun x13 =>
                    Option.bind (setO x11 (W (x2.1 - 1)) x8) fun x14 =>
                      some (.inl (W (x2.1 - 1), x14, x6.2.1, x6.2.2.1, x6.2.2.2))
    else some (.inr (x2.2.1, x6.2.1, x6.2.2.1, x6.2.2.2))
noncomputable def slices_insertionSortCmpFunc_int_L1 (a1 : Int) (a2 : Int) : Int × List Int × Int × List Int × Int →
  Option
    (Int × List Int × Int × List Int × Int ⊕
      List Int ×
        Int ×
          List Int ×
            Int) := fun x1 =>
  if decide (x1.1 < a2) = true then
    Option.bind
      (loopO (slices_insertionSortCmpFunc_int_L2 a1)
        (x1.1, x1.2.1, x1.2.2.1, x1.2.2.2.1, x1.2.2.2.2))
      fun x15 => some (.inl (W (x1.1 + 1), x15.1, x15.2.1, x15.2.2.1, x15.2.2.2))
  else some (.inr (x1.2.1, x1.2.2.1, x1.2.2.2.1, x1.2.2.2.2))
noncomputable def slices_insertionSortCmpFunc_int (a0 : (List Int)) (a1 : Int) (a2 : Int) (a3 : Int) (a4 : (List Int)) (a5 : Int) : Option ((List Int) × Int × (List Int) × Int) :=
  Option.bind (loopO (slices_insertionSortCmpFunc_int_L1 a1 a2) (W (a1 + 1), a0, a3, a4, a5)) fun x16 =>
    some (x16.1, x16.2.1, x16.2.2.1, x16.2.2.2)
noncomputable def c64 : Con D := ⟨64, [.lf (.sl 0), .lf (.int .i64), .lf (.int .i64), .lf (.int .i64), .lf (.sl 0), .lf (.int .i64)], [.lf (.sl 0), .lf (.int .i64), .lf (.sl 0), .lf (.int .i64)], [.one (.own 1000), .one (.h 1 []), .one (.h 2 []), .one (.fn 33 [.ptr 1001 0])], [(1000, .sl 0 3 0 [0]), (1001, .box [.fn 31 [.ptr 1002 0, .ptr 1003 0, .ptr 1004 0]]), (1002, .box [.h 3 []]), (1003, .box [.h 4 [0]]), (1004, .box [.h 5 []])], [], [(1000, .sl 0 3 0 [0]), (1001, .box [.fn 31 [.ptr 1002 0, .ptr 1003 0, .ptr 1004 0]]), (1002, .box [.h 1 []]), (1003, .box [.h 2 [0]]), (1004, .box [.h 3 []])], fun h => slices_insertionSortCmpFunc_int h.1 h.2.1 h.2.2.1 h.2.2.2.1 h.2.2.2.2.1 h.2.2.2.2.2⟩
theorem c64_ok : ConOk Try.prog T c64 := fn_ok (Φ := [c33]) (rs := []) (an := (.n none .o (.n none (.loop ⟨[.lf (.int .i64), .lf (.sl 0), .lf (.int .i64), .lf (.sl 0), .lf (.int .i64)], [(8, .one (.h 0 []))], [(1000, .sl 0 3 1 [0]), (1001, .box [.fn 31 [.ptr 1002 0, .ptr 1003 0, .ptr 1004 0]]), (1002, .box [.h 2 []]), (1003, .box [.h 3 [0]]), (1004, .box [.h 4 []])], [1000, 1001, 1002, 1003, 1004], 2256⟩ true [(.exit 0, ⟨[.lf (.sl 0), .lf (.int .i64), .lf (.sl 0), .lf (.int .i64)], [], [(1000, .sl 0 3 0 [0]), (1001, .box [.fn 31 [.ptr 1002 0, .ptr 1003 0, .ptr 1004 0]]), (1002, .box [.h 1 []]), (1003, .box [.h 2 [0]]), (1004, .box [.h 3 []])], [1000, 1001, 1002, 1003, 1004], 2256⟩)] (.n none .o (.n none (.n none (.n none .o (.n none (.loop ⟨[.lf (.int .i64), .lf (.sl 0), .lf (.int .i64), .lf (.sl 0), .lf (.int .i64)], [(9, .one (.h 0 []))], [(1000, .sl 0 3 1 [0]), (1001, .box [.fn 31 [.ptr 1002 0, .ptr 1003 0, .ptr 1004 0]]), (1002, .box [.h 2 []]), (1003, .box [.h 3 [0]]), (1004, .box [.h 4 []])], [1000, 1001, 1002, 1003, 1004], 2645⟩ true [(.exit 2, ⟨[.lf (.sl 0), .lf (.int .i64), .lf (.sl 0), .lf (.int .i64)], [(22, .one (.any)), (23, .one (.any)), (24, .one (.any)), (25, .one (.any)), (26, .one (.any)), (27, .one (.any)), (28, .one (.any)), (29, .one (.any)), (30, .one (.any)), (31, .one (.any)), (32, .one (.any)), (33, .one (.any))], [(1000, .sl 0 3 0 [0]), (1001, .box [.fn 31 [.ptr 1002 0, .ptr 1003 0, .ptr 1004 0]]), (1002, .box [.h 1 []]), (1003, .box [.h 2 [0]]), (1004, .box [.h 3 []])], [1000, 1001, 1002, 1003, 1004], 2645⟩)] (.n none (.n none (.r (some (true, [(.normal, ⟨[.lf .bool, .lf (.int .i64), .lf (.sl 0), .lf (.int .i64)], [(22, .one (.any)), (23, .one (.any)), (24, .one (.any)), (25, .one (.any)), (26, .one (.any)), (27, .one (.any)), (28, .one (.any)), (29, .one (.any)), (30, .one (.any)), (31, .one (.any)), (32, .one (.any)), (33, .one (.any)), (34, .one (.h 0 []))], [(1001, .box [.fn 31 [.ptr 1002 0, .ptr 1003 0, .ptr 1004 0]]), (1002, .box [.h 1 []]), (1003, .box [.h 2 [0]]), (1004, .box [.h 3 []])], [1001, 1002, 1003, 1004], 2714⟩)])) .nil) .o) .o)) .o)) .o) .o))) .o))) pOk repOk (AllC.mem (⟨c33_ok, trivial⟩ : AllC _ _ [c33])) hmix Try.call64 Try.func64 rfl rfl (by kernel_rfl) (fun h => by kernel_rfl)

def c65 : Con D := ⟨65, [.lf (.sl 0), .lf (.int .i64), .lf (.int .i64), .lf (.int .i64), .lf (.int .i64), .lf (.sl 0), .lf (.int .i64)], [.lf (.sl 0), .lf (.int .i64), .lf (.sl 0), .lf (.int .i64)], [.one (.own 1000), .one (.h 1 []), .one (.h 2 []), .one (.h 3 []), .one (.fn 33 [.ptr 1001 0])], [(1000, .sl 0 3 0 [0]), (1001, .box [.fn 31 [.ptr 1002 0, .ptr 1003 0, .ptr 1004 0]]), (1002, .box [.h 4 []]), (1003, .box [.h 5 [0]]), (1004, .box [.h 6 []])], [], [(1000, .sl 0 3 0 [0]), (1001, .box [.fn 31 [.ptr 1002 0, .ptr 1003 0, .ptr 1004 0]]), (1002, .box [.h 1 []]), (1003, .box [.h 2 [0]]), (1004, .box [.h 3 []])], fun h => none⟩
theorem c65_ok : ConOk Try.prog T c65 := none_ok Try.call65 rfl (fun h => rfl)

noncomputable def slices_stableCmpFunc_int_L1 (a1 : Int) : Int × Int × List Int × Int × List Int × Int →
  Option
    (Int × Int × List Int × Int × List Int × Int ⊕
      Int ×
        List Int ×
          Int ×
            List Int ×
              Int) := fun x1 =>
  if decide (x1.2.1 ≤ a1) = true then
    Option.bind
      (slices_insertionSortCmpFunc_int x1.2.2.1 x1.1 x1.2.1 x1.2.2.2.1 x1.2.2.2.2.1
        x1.2.2.2.2.2)
      fun x2 =>
      some (.inl (x1.2.1, W (x1.2.1 + 20), x2.1, x2.2.1, x2.2.2.1, x2.2.2.2))
  else some (.inr (x1.1, x1.2.2.1, x1.2.2.2.1, x1.2.2.2.2.1, x1.2.2.2.2.2))
noncomputable def slices_stableCmpFunc_int_L3 (a1 : Int) : Int × Int × List Int × Int × List Int × Int →
  Option
    (Int × Int × List Int × Int × List Int × Int ⊕
      Int ×
        List Int ×
          Int ×
            List Int ×
              Int) := fun x6 =>
  if decide (x6.2.1 ≤ a1) = true then none
  else some (.inr (x6.1, x6.2.2.1, x6.2.2.2.1, x6.2.2.2.2.1, x6.2.2.2.2.2))
noncomputable def slices_stableCmpFunc_int_L2 (a1 : Int) : Int × List Int × Int × List Int × Int →
  Option
    (Int × List Int × Int × List Int × Int ⊕
      List Int ×
        Int ×
          List Int ×
            Int) := fun x5 =>
  if decide (x5.1 < a1) = true then
    Option.bind
      (loopO (slices_stableCmpFunc_int_L3 a1)
        (0, W (2 * x5.1), x5.2.1, x5.2.2.1, x5.2.2.2.1, x5.2.2.2.2))
      fun x8 =>
      Option.bind
        (if decide (W (x8.1 + x5.1) < a1) = true then none
        else some (x8.2.1, x8.2.2.1, x8.2.2.2.1, x8.2.2.2.2))
        fun x10 => some (.inl (W (x5.1 * 2), x10.1, x10.2.1, x10.2.2.1, x10.2.2.2))
  else some (.inr (x5.2.1, x5.2.2.1, x5.2.2.2.1, x5.2.2.2.2))
noncomputable def slices_stableCmpFunc_int (a0 : (List Int)) (a1 : Int) (a2 : Int) (a3 : (List Int)) (a4 : Int) : Option ((List Int) × Int × (List Int) × Int) :=
  Option.bind (loopO (slices_stableCmpFunc_int_L1 a1) (0, 20, a0, a2, a3, a4)) fun x3 =>
    Option.bind
      (slices_insertionSortCmpFunc_int x3.2.1 x3.1 a1 x3.2.2.1 x3.2.2.2.1 x3.2.2.2.2)
      fun x4 =>
      Option.bind
        (loopO (slices_stableCmpFunc_int_L2 a1) (20, x4.1, x4.2.1, x4.2.2.1, x4.2.2.2))
        fun x11 => some (x11.1, x11.2.1, x11.2.2.1, x11.2.2.2)
noncomputable def c43 : Con D := ⟨43, [.lf (.sl 0), .lf (.int .i64), .lf (.int .i64), .lf (.sl 0), .lf (.int .i64)], [.lf (.sl 0), .lf (.int .i64), .lf (.sl 0), .lf (.int .i64)], [.one (.own 1000), .one (.h 1 []), .one (.fn 33 [.ptr 1001 0])], [(1000, .sl 0 3 0 [0]), (1001, .box [.fn 31 [.ptr 1002 0, .ptr 1003 0, .ptr 1004 0]]), (1002, .box [.h 2 []]), (1003, .box [.h 3 [0]]), (1004, .box [.h 4 []])], [], [(1000, .sl 0 3 0 [0]), (1001, .box [.fn 31 [.ptr 1002 0, .ptr 1003 0, .ptr 1004 0]]), (1002, .box [.h 1 []]), (1003, .box [.h 2 [0]]), (1004, .box [.h 3 []])], fun h => slices_stableCmpFunc_int h.1 h.2.1 h.2.2.1 h.2.2.2.1 h.2.2.2.2⟩
theorem c43_ok : ConOk Try.prog T c43 := fn_ok (Φ := [c64, c65]) (rs := []) (an := (.n none .o (.n none .o (.n none (.n none (.loop ⟨[.lf (.int .i64), .lf (.int .i64), .lf (.sl 0), .lf (.int .i64), .lf (.sl 0), .lf (.int .i64)], [(7, .one (.h 0 [])), (8, .one (.h 1 []))], [(1000, .sl 0 3 2 [0]), (1001, .box [.fn 31 [.ptr 1002 0, .ptr 1003 0, .ptr 1004 0]]), (1002, .box [.h 3 []]), (1003, .box [.h 4 [0]]), (1004, .box [.h 5 []])], [1000, 1001, 1002, 1003, 1004], 2320⟩ true [(.exit 0, ⟨[.lf (.int .i64), .lf (.sl 0), .lf (.int .i64), .lf (.sl 0), .lf (.int .i64)], [(7, .one (.h 0 []))], [(1000, .sl 0 3 1 [0]), (1001, .box [.fn 31 [.ptr 1002 0, .ptr 1003 0, .ptr 1004 0]]), (1002, .box [.h 2 []]), (1003, .box [.h 3 [0]]), (1004, .box [.h 4 []])], [1000, 1001, 1002, 1003, 1004], 2320⟩)] .o) .o) (.n none .o (.n none (.loop ⟨[.lf (.int .i64), .lf (.sl 0), .lf (.int .i64), .lf (.sl 0), .lf (.int .i64)], [(6, .one (.h 0 []))], [(1000, .sl 0 3 1 [0]), (1001, .box [.fn 31 [.ptr 1002 0, .ptr 1003 0, .ptr 1004 0]]), (1002, .box [.h 2 []]), (1003, .box [.h 3 [0]]), (1004, .box [.h 4 []])], [1000, 1001, 1002, 1003, 1004], 2709⟩ true [(.exit 2, ⟨[.lf (.sl 0), .lf (.int .i64), .lf (.sl 0), .lf (.int .i64)], [], [(1000, .sl 0 3 0 [0]), (1001, .box [.fn 31 [.ptr 1002 0, .ptr 1003 0, .ptr 1004 0]]), (1002, .box [.h 1 []]), (1003, .box [.h 2 [0]]), (1004, .box [.h 3 []])], [1000, 1001, 1002, 1003, 1004], 2709⟩)] (.n none .o (.n none (.n none .o (.n none (.n none (.loop ⟨[.lf (.int .i64), .lf (.int .i64), .lf (.sl 0), .lf (.int .i64), .lf (.sl 0), .lf (.int .i64)], [(7, .one (.h 0 [])), (8, .one (.h 1 []))], [(1000, .sl 0 3 2 [0]), (1001, .box [.fn 31 [.ptr 1002 0, .ptr 1003 0, .ptr 1004 0]]), (1002, .box [.h 3 []]), (1003, .box [.h 4 [0]]), (1004, .box [.h 5 []])], [1000, 1001, 1002, 1003, 1004], 3226⟩ true [(.exit 4, ⟨[.lf (.int .i64), .lf (.sl 0), .lf (.int .i64), .lf (.sl 0), .lf (.int .i64)], [(7, .one (.h 0 []))], [(1000, .sl 0 3 1 [0]), (1001, .box [.fn 31 [.ptr 1002 0, .ptr 1003 0, .ptr 1004 0]]), (1002, .box [.h 2 []]), (1003, .box [.h 3 [0]]), (1004, .box [.h 4 []])], [1000, 1001, 1002, 1003, 1004], 3226⟩)] .o) .o) (.n none (.n none .o (.n none .o (.n (some (true, [(.normal, ⟨[.lf (.sl 0), .lf (.int .i64), .lf (.sl 0), .lf (.int .i64)], [], [(1000, .sl 0 3 0 [0]), (1001, .box [.fn 31 [.ptr 1002 0, .ptr 1003 0, .ptr 1004 0]]), (1002, .box [.h 1 []]), (1003, .box [.h 2 [0]]), (1004, .box [.h 3 []])], [1000, 1001, 1002, 1003, 1004], 3743⟩)])) .o .o))) .o))) .o))) .o)))))) pOk repOk (AllC.mem (⟨c64_ok, c65_ok, trivial⟩ : AllC _ _ [c64, c65])) hmix Try.call43 Try.func43 rfl rfl (by kernel_rfl) (fun h => by kernel_rfl)

noncomputable def slices_SortStableFunc_int_int (a0 : (List Int)) (a1 : Int) (a2 : (List Int)) (a3 : Int) : Option ((List Int) × Int × (List Int) × Int) :=
  Option.bind (slices_stableCmpFunc_int a0 (len a0) a1 a2 a3) fun x1 =>
    some (x1.1, x1.2.1, x1.2.2.1, x1.2.2.2)
noncomputable def c32 : Con D := ⟨32, [.lf (.sl 0), .lf (.int .i64), .lf (.sl 0), .lf (.int .i64)], [.lf (.sl 0), .lf (.int .i64), .lf (.sl 0), .lf (.int .i64)], [.one (.own 1000), .one (.fn 33 [.ptr 1001 0])], [(1000, .sl 0 3 0 [0]), (1001, .box [.fn 31 [.ptr 1002 0, .ptr 1003 0, .ptr 1004 0]]), (1002, .box [.h 1 []]), (1003, .box [.h 2 [0]]), (1004, .box [.h 3 []])], [], [(1000, .sl 0 3 0 [0]), (1001, .box [.fn 31 [.ptr 1002 0, .ptr 1003 0, .ptr 1004 0]]), (1002, .box [.h 1 []]), (1003, .box [.h 2 [0]]), (1004, .box [.h 3 []])], fun h => slices_SortStableFunc_int_int h.1 h.2.1 h.2.2.1 h.2.2.2⟩
theorem c32_ok : ConOk Try.prog T c32 := fn_ok (Φ := [c43]) (rs := []) (an := .o) pOk repOk (AllC.mem (⟨c43_ok, trivial⟩ : AllC _ _ [c43])) hmix Try.call32 Try.func32 rfl rfl (by kernel_rfl) (fun h => by kernel_rfl)

noncomputable def balance_Split_L1 (a0 : Int) (a1 : List
  Int) (x1 : Int ×
  Int) : Int × Int × List Int × List Int →
  Option
    (Int × Int × List Int × List Int ⊕
      Int ×
        List Int ×
          List
            Int) := fun x4 =>
  if decide (x4.2.1 < len a1) = true then
    Option.bind (idx a1 x4.2.1) fun x5 =>
      Option.bind (quoO (W (a0 * x5)) x1.1) fun x6 =>
        Option.bind (idx x4.2.2.1 x4.2.1) fun x7 =>
          Option.bind (idx x4.2.2.1 x4.2.1) fun x8 =>
            Option.bind (setO x4.2.2.1 x4.2.1 x6) fun x9 =>
              Option.bind (idx x4.2.2.2 x4.2.1) fun x10 =>
                Option.bind (idx x4.2.2.2 x4.2.1) fun x11 =>
                  Option.bind (setO x4.2.2.2 x4.2.1 x4.2.1) fun x12 =>
                    Option.bind (idx x9 x4.2.1) fun x13 =>
                      some (.inl (W (x4.1 - x13), W (x4.2.1 + 1), x9, x12))
  else some (.inr (x4.1, x4.2.2.1, x4.2.2.2))
noncomputable def balance_Split_L2 (x16 : List
  Int) : Int × List Int →
  Option
    (Int × List Int ⊕
      List
        Int) := fun x17 =>
  if decide (x17.1 < len x16) = true then
    Option.bind (idx x16 x17.1) fun x18 =>
      Option.bind (idx x17.2 x18) fun x19 =>
        Option.bind (idx x17.2 x18) fun x20 =>
          Option.bind (idx x17.2 x18) fun x21 =>
            Option.bind (setO x17.2 x18 (W (x19 + 1))) fun x22 =>
              some (.inl (W (x17.1 + 1), x22))
  else some (.inr x17.2)
noncomputable def balance_Split (a0 : Int) (a1 : (List Int)) : Option (Int × (List Int)) :=
  Option.bind (balance_check a0 a1) fun x1 =>
    if (x1.2 != 0) = true then some (x1.2, [])
    else
      Option.bind (mkZ 0 (len a1)) fun x2 =>
        Option.bind (mkZ 0 (len a1)) fun x3 =>
          Option.bind (loopO (balance_Split_L1 a0 a1 x1) (a0, 0, x2, x3)) fun x14 =>
            Option.bind (slices_SortStableFunc_int_int x14.2.2 a0 a1 x1.1) fun x15 =>
              Option.bind (slc x15.1 0 x14.1) fun x16 =>
                Option.bind (loopO (balance_Split_L2 x16) (0, x14.2.1)) fun x23 => some (0, x23)
noncomputable def c12 : Con D := ⟨12, [.lf (.int .i64), .lf (.sl 0)], [.lf (.int .i64), .lf (.sl 0)], [.one (.h 0 []), .one (.h 1 [0])], [], [.one (.own 1000), .one (.h 0 [])], [(1000, .sl 0 3 1 [])], fun h => balance_Split h.1 h.2⟩
theorem c12_ok : ConOk Try.prog T c12 := fn_ok (Φ := [c30, c32]) (rs := [.tmp 4, .tmp 5]) (an := (.n none .o (.n none .o (.n none .o (.n none .o (.n none .o (.n none (.n none .o (.n none (.loop ⟨[.lf (.int .i64), .lf (.int .i64), .lf (.sl 0), .lf (.sl 0)], [(10, .one (.h 0 [])), (34, .one (.h 1 []))], [(3088, .sl 0 3 2 []), (3280, .sl 0 3 3 [])], [3088, 3280], 3856⟩ true [(.exit 0, ⟨[.lf (.int .i64), .lf (.sl 0), .lf (.sl 0)], [(10, .one (.h 0 []))], [(3088, .sl 0 3 1 []), (3280, .sl 0 3 2 [])], [3088, 3280], 3856⟩)] .o) .o)) (.n none .o (.n none .o (.n none (.n none .o (.n none (.loop ⟨[.lf (.int .i64), .lf (.sl 0)], [(66, .one (.h 0 []))], [(3088, .sl 0 3 1 [])], [3088], 4627⟩ true [(.exit 2, ⟨[.lf (.sl 0)], [], [(3088, .sl 0 3 0 [])], [3088], 4627⟩)] .o) .o)) .o)))))))))) pOk repOk (AllC.mem (⟨c30_ok, c32_ok, trivial⟩ : AllC _ _ [c30, c32])) hmix Try.call12 Try.func12 rfl rfl (by kernel_rfl) (fun h => by kernel_rfl)

noncomputable def dynposref01_Ints_L1 (a0 : List
  Int) (a1 : List
  Int) : Int →
  Option
    (Int ⊕
      Unit ⊕
        Bool) := fun x1 =>
  if decide (x1 < len a0) = true then
    Option.bind (idx a0 x1) fun x2 =>
      Option.bind (idx a1 x1) fun x3 =>
        if (x2 != x3) = true then some (.inr (.inr false)) else some (.inl (W (x1 + 1)))
  else some (.inr (.inl ()))
noncomputable def dynposref01_Ints (a0 : (List Int)) (a1 : (List Int)) : Option (Bool) :=
  if (len a0 != len a1) = true then some false
  else
    Option.bind (loopO (dynposref01_Ints_L1 a0 a1) 0) fun x4 =>
      Sum.elim (fun x5 => some true) (fun x6 => some x6) x4
noncomputable def c14 : Con D := ⟨14, [.lf (.sl 0), .lf (.sl 0)], [.lf .bool], [.one (.h 0 [0]), .one (.h 1 [0])], [], [.one (.h 0 [])], [], fun h => dynposref01_Ints h.1 h.2⟩
theorem c14_ok : ConOk Try.prog T c14 := fn_ok (Φ := []) (rs := [.tmp 4]) (an := (.n none .o (.n none .o (.n none (.n none .o (.n none (.loop ⟨[.lf (.int .i64)], [(13, .one (.h 0 []))], [], [], 2640⟩ false [(.exit 0, ⟨[], [], [], [], 2640⟩)] .o) .o)) .o)))) pOk repOk (AllC.mem (l := []) trivial) hmix Try.call14 Try.func14 rfl rfl (by kernel_rfl) (fun h => by kernel_rfl)

noncomputable def balance_Check_L1 (a0 : Int) (a1 : List
  Int) (a2 : List
  Int) (x1 : Int ×
  Int) : Int × Int →
  Option
    (Int × Int ⊕
      Int ⊕
        Bool) := fun x3 =>
  if decide (x3.2 < len a2) = true then
    Option.bind (idx a2 x3.2) fun x4 =>
      Option.bind (idx a1 x3.2) fun x5 =>
        Option.bind
          (Option.bind (quoO (W (a0 * x5)) x1.1) fun x6 =>
            if decide (x4 < x6) = true then some true
            else
              Option.bind (quoO (W (W (W (a0 * x5) + x1.1) - 1)) x1.1) fun x7 => some (decide (x4 > x7)))
          fun x8 =>
          if x8 = true then some (.inr (.inr false))
          else some (.inl (W (x3.1 + x4), W (x3.2 + 1)))
  else some (.inr (.inl x3.1))
noncomputable def balance_Check (a0 : Int) (a1 : (List Int)) (a2 : (List Int)) : Option (Bool) :=
  Option.bind (balance_check a0 a1) fun x1 =>
    Option.bind (if (x1.2 != 0) = true then some true else some (len a2 != len a1)) fun x2 =>
      if x2 = true then some false
      else
        Option.bind (loopO (balance_Check_L1 a0 a1 a2 x1) (0, 0)) fun x9 =>
          Sum.elim (fun x10 => some (x10 == a0)) (fun x11 => some x11) x9
noncomputable def c15 : Con D := ⟨15, [.lf (.int .i64), .lf (.sl 0), .lf (.sl 0)], [.lf .bool], [.one (.h 0 []), .one (.h 1 [0]), .one (.h 2 [0])], [], [.one (.h 0 [])], [], fun h => balance_Check h.1 h.2.1 h.2.2⟩
theorem c15_ok : ConOk Try.prog T c15 := fn_ok (Φ := [c30]) (rs := [.tmp 6]) (an := (.n none .o (.n none .o (.n none (.n none (.r (some (true, [(.normal, ⟨[.lf .bool], [(27, .one (.h 0 []))], [], [], 2640⟩)])) .nil) .o) (.n none .o (.n none (.n none .o (.n none (.loop ⟨[.lf (.int .i64), .lf (.int .i64)], [(9, .one (.h 0 [])), (30, .one (.h 1 []))], [], [], 2961⟩ false [(.exit 0, ⟨[.lf (.int .i64)], [(9, .one (.h 0 []))], [], [], 2961⟩)] (.n none .o (.n none .o (.n none (.n none (.n none .o (.n none .o (.n none (.n none (.r (some (true, [(.normal, ⟨[.lf .bool], [(47, .one (.any)), (48, .one (.any)), (49, .one (.any)), (50, .one (.any)), (51, .one (.any)), (52, .one (.any)), (53, .one (.any)), (54, .one (.any)), (55, .one (.h 0 []))], [], [], 3859⟩)])) .nil) .o) .o))) .o) .o)))) .o)) .o)))))) pOk repOk (AllC.mem (⟨c30_ok, trivial⟩ : AllC _ _ [c30])) hmix Try.call15 Try.func15 rfl rfl (by kernel_rfl) (fun h => by kernel_rfl)

noncomputable def dynposlaw17_sane : Option (Bool) := Option.bind (balance_Split 10 [2, 2, 2]) fun x1 =>
  Option.bind
    (if (x1.1 == 0) = true then
      Option.bind (dynposref01_Ints x1.2 [4, 3, 3]) fun x2 =>
        if x2 = true then
          Option.bind (balance_Check 10 [2, 2, 2] x1.2) fun x3 => some x3
        else some false
    else some false)
    fun x4 => some x4
noncomputable def c5 : Con D := ⟨5, [], [.lf .bool], [], [], [.one (.h 0 [])], [], fun h => dynposlaw17_sane⟩
theorem c5_ok : ConOk Try.prog T c5 := fn_ok (Φ := [c12, c14, c15]) (rs := [.tmp 0]) (an := (.n none .o (.n none .o (.n none (.r (some (true, [(.normal, ⟨[.lf .bool], [(0, .one (.h 0 []))], [], [], 2576⟩)])) .nil) .o)))) pOk repOk (AllC.mem (⟨c12_ok, c14_ok, c15_ok, trivial⟩ : AllC _ _ [c12, c14, c15])) hmix Try.call5 Try.func5 rfl rfl (by kernel_rfl) (fun h => by kernel_rfl)

noncomputable def dynposmake_New (a0 : (List Int)) : Option ((List Int) × Int) := Option.bind (slc a0 0 (imin (len a0) 600)) fun x1 => some (x1, 0)
noncomputable def c6 : Con D := ⟨6, [.lf (.sl 0)], [.lf (.sl 0), .lf (.int .i64)], [.one (.h 0 [0])], [], [.one (.ptr 1000 0)], [(1000, .box [.h 0 [0], .h 1 []])], fun h => dynposmake_New h⟩
theorem c6_ok : ConOk Try.prog T c6 := fn_ok (Φ := []) (rs := [.tmp 2]) (an := .o) pOk repOk (AllC.mem (l := []) trivial) hmix Try.call6 Try.func6 rfl rfl (by kernel_rfl) (fun h => by kernel_rfl)

noncomputable def dynposmake_Mod (a0 : Int) (a1 : Int) : Option (Int) :=
  if decide (a1 < 1) = true then some 0
  else Option.bind (remO a0 a1) fun x1 => Option.bind (remO (W (x1 + a1)) a1) fun x2 => some x2
noncomputable def c29 : Con D := ⟨29, [.lf (.int .i64), .lf (.int .i64)], [.lf (.int .i64)], [.one (.h 0 []), .one (.h 1 [])], [], [.one (.h 0 [])], [], fun h => dynposmake_Mod h.1 h.2⟩
theorem c29_ok : ConOk Try.prog T c29 := fn_ok (Φ := []) (rs := [.tmp 4]) (an := .o) pOk repOk (AllC.mem (l := []) trivial) hmix Try.call29 Try.func29 rfl rfl (by kernel_rfl) (fun h => by kernel_rfl)

noncomputable def Src_N (a0 : Src) (a1 : Int) : Option (Int × (List Int) × Int) :=
  if decide (a0.At ≥ len a0.L) = true then some (0, a0.L, a0.At)
  else
    Option.bind (idx a0.L (W (W (a0.At + 1) - 1))) fun x1 =>
      Option.bind (dynposmake_Mod x1 a1) fun x2 => some (x2, a0.L, W (a0.At + 1))
noncomputable def c10 : Con D := ⟨10, [.lf (.sl 0), .lf (.int .i64), .lf (.int .i64)], [.lf (.int .i64), .lf (.sl 0), .lf (.int .i64)], [.one (.ptr 1000 0), .one (.h 2 [])], [(1000, .box [.h 0 [0], .h 1 []])], [.one (.h 0 [])], [(1000, .box [.h 1 [0], .h 2 []])], fun h => Src_N ⟨h.1, h.2.1⟩ h.2.2⟩
theorem c10_ok : ConOk Try.prog T c10 := fn_ok (Φ := [c29]) (rs := [.tmp 4]) (an := .o) pOk repOk (AllC.mem (⟨c29_ok, trivial⟩ : AllC _ _ [c29])) hmix Try.call10 Try.func10 rfl rfl (by kernel_rfl) (fun h => by kernel_rfl)

noncomputable def Src_Range (a0 : Src) (a1 : Int) (a2 : Int) : Option (Int × (List Int) × Int) :=
  Option.bind (Src_N a0 (W (W (a2 - a1) + 1))) fun x1 => some (W (a1 + x1.1), x1.2.1, x1.2.2)
noncomputable def c26 : Con D := ⟨26, [.lf (.sl 0), .lf (.int .i64), .lf (.int .i64), .lf (.int .i64)], [.lf (.int .i64), .lf (.sl 0), .lf (.int .i64)], [.one (.ptr 1000 0), .one (.h 2 []), .one (.h 3 [])], [(1000, .box [.h 0 [0], .h 1 []])], [.one (.h 0 [])], [(1000, .box [.h 1 [0], .h 2 []])], fun h => Src_Range ⟨h.1, h.2.1⟩ h.2.2.1 h.2.2.2⟩
theorem c26_ok : ConOk Try.prog T c26 := fn_ok (Φ := [c10]) (rs := [.tmp 6]) (an := .o) pOk repOk (AllC.mem (⟨c10_ok, trivial⟩ : AllC _ _ [c10])) hmix Try.call26 Try.func26 rfl rfl (by kernel_rfl) (fun h => by kernel_rfl)

noncomputable def Src_Pick (a0 : Src) (a1 : (List Int)) : Option (Int × (List Int) × Int × (List Int)) :=
  Option.bind (Src_N a0 (len a1)) fun x1 => Option.bind (idx a1 x1.1) fun x2 => some (x2, x1.2.1, x1.2.2, a1)
noncomputable def c27 : Con D := ⟨27, [.lf (.sl 0), .lf (.int .i64), .lf (.sl 0)], [.lf (.int .i64), .lf (.sl 0), .lf (.int .i64), .lf (.sl 0)], [.one (.ptr 1000 0), .one (.own 1001)], [(1000, .box [.h 0 [0], .h 1 []]), (1001, .sl 0 3 2 [0])], [.one (.h 0 [])], [(1000, .box [.h 1 [0], .h 2 []]), (1001, .sl 0 3 3 [0])], fun h => Src_Pick ⟨h.1, h.2.1⟩ h.2.2⟩
theorem c27_ok : ConOk Try.prog T c27 := fn_ok (Φ := [c10]) (rs := [.tmp 4]) (an := .o) pOk repOk (AllC.mem (⟨c10_ok, trivial⟩ : AllC _ _ [c10])) hmix Try.call27 Try.func27 rfl rfl (by kernel_rfl) (fun h => by kernel_rfl)

noncomputable def Src_Board_L1 : Int × List Int × Int × Int × Int × Int × List Breaker →
  Option
    (Int × List Int × Int × Int × Int × Int × List Breaker ⊕
      List Int ×
        Int ×
          Int ×
            Int ×
              Int ×
                List
                  Breaker) := fun x4 =>
  if decide (x4.1 < x4.2.2.2.1) = true then
    Option.bind (Src_N (Src.mk x4.2.1 x4.2.2.1) 6) fun x5 =>
      Option.bind
        (if decide (x5.1 < 5) = true then
          Option.bind (Src_N (Src.mk x5.2.1 x5.2.2) x4.1) fun x6 =>
            Option.bind (app x4.2.2.2.2.2.2 [Breaker.mk 1 x6.1 x4.1]) fun x7 =>
              some (x6.2.1, x6.2.2, x4.2.2.2.1, x4.2.2.2.2.1, x4.2.2.2.2.2.1, x7)
        else
          some
            (x5.2.1, x5.2.2, x4.2.2.2.1, x4.2.2.2.2.1, x4.2.2.2.2.2.1,
              x4.2.2.2.2.2.2))
        fun x8 =>
        some
          (.inl
            (W (x4.1 + 1), x8.1, x8.2.1, x8.2.2.1, x8.2.2.2.1, x8.2.2.2.2.1,
              x8.2.2.2.2.2))
  else
    some
      (.inr
        (x4.2.1, x4.2.2.1, x4.2.2.2.1, x4.2.2.2.2.1, x4.2.2.2.2.2.1,
          x4.2.2.2.2.2.2))
noncomputable def Src_Board_L2 : Int × List Int × Int × Int × Int × Int × List Breaker × List Source →
  Option
    (Int × List Int × Int × Int × Int × Int × List Breaker × List Source ⊕
      List Int ×
        Int ×
          Int ×
            Int ×
              Int ×
                List Breaker ×
                  List
                    Source) := fun x15 =>
  if decide (x15.1 > 0) = true then
    Option.bind (Src_N (Src.mk x15.2.1 x15.2.2.1) x15.2.2.2.1) fun x16 =>
      Option.bind
        (app x15.2.2.2.2.2.2.1 [Breaker.mk 2 x16.1 (len x15.2.2.2.2.2.2.2)])
        fun x17 =>
        Option.bind (Src_Pick (Src.mk x16.2.1 x16.2.2) [10, 50, 100]) fun x18 =>
          Option.bind (Src_Pick (Src.mk x18.2.1 x18.2.2.1) [0, 5, x18.1]) fun x19 =>
            Option.bind (Src_Pick (Src.mk x19.2.1 x19.2.2.1) [0, 1, 3])
              fun x20 =>
              Option.bind (app x15.2.2.2.2.2.2.2 [Source.mk x18.1 x19.1 x20.1]) fun x21 =>
                some
                  (.inl
                    (W (x15.1 - 1), x20.2.1, x20.2.2.1, x15.2.2.2.1,
                      x15.2.2.2.2.1, x15.2.2.2.2.2.1, x17, x21))
  else
    some
      (.inr
        (x15.2.1, x15.2.2.1, x15.2.2.2.1, x15.2.2.2.2.1, x15.2.2.2.2.2.1,
          x15.2.2.2.2.2.2.1, x15.2.2.2.2.2.2.2))
noncomputable def Src_Board_L3 : Int × List Int × Int × Int × Int × Int × List Breaker × List Consumer →
  Option
    (Int × List Int × Int × Int × Int × Int × List Breaker × List Consumer ⊕
      List Int ×
        Int ×
          Int ×
            Int ×
              Int ×
                List Breaker ×
                  List
                    Consumer) := fun x24 =>
  if decide (x24.1 > 0) = true then
    Option.bind (Src_N (Src.mk x24.2.1 x24.2.2.1) x24.2.2.2.1) fun x25 =>
      Option.bind
        (app x24.2.2.2.2.2.2.1 [Breaker.mk 3 x25.1 (len x24.2.2.2.2.2.2.2)])
        fun x26 =>
        Option.bind
          (if decide (x24.2.2.2.1 > 1) = true then
            Option.bind (Src_N (Src.mk x25.2.1 x25.2.2) 4) fun x27 =>
              some (x27.1 == 3, x27.2.1, x27.2.2)
          else some (false, x25.2.1, x25.2.2))
          fun x28 =>
          Option.bind
            (if x28.1 = true then
              Option.bind (remO (W (x25.1 + 1)) x24.2.2.2.1) fun x29 =>
                Option.bind (app x26 [Breaker.mk 3 x29 (len x24.2.2.2.2.2.2.2)]) fun x30 =>
                  some (x24.2.2.2.1, x24.2.2.2.2.1, x24.2.2.2.2.2.1, x30)
            else some (x24.2.2.2.1, x24.2.2.2.2.1, x24.2.2.2.2.2.1, x26))
            fun x31 =>
            Option.bind
              (Src_Pick (Src.mk x28.2.1 x28.2.2) [0, 5, 20, 40])
              fun x32 =>
              Option.bind (quoO x32.1 2) fun x33 =>
                Option.bind (Src_Pick (Src.mk x32.2.1 x32.2.2.1) [0, x33, x32.1]) fun x34 =>
                  Option.bind (Src_N (Src.mk x34.2.1 x34.2.2.1) 3) fun x35 =>
                    Option.bind (Src_Range (Src.mk x35.2.1 x35.2.2) (-1) 2) fun x36 =>
                      Option.bind
                        (if decide (len x24.2.2.2.2.2.2.2 > 0) = true then
                          Option.bind (Src_N (Src.mk x36.2.1 x36.2.2) 4) fun x37 =>
                            some (x37.1 == 3, x37.2.1, x37.2.2)
                        else some (false, x36.2.1, x36.2.2))
                        fun x38 =>
                        Option.bind
                          (if x38.1 = true then
                            Option.bind (Src_N (Src.mk x38.2.1 x38.2.2) (len x24.2.2.2.2.2.2.2))
                              fun x39 => some (x39.2.1, x39.2.2, x32.1, x34.1, x35.1, x36.1, [x39.1])
                          else some (x38.2.1, x38.2.2, x32.1, x34.1, x35.1, x36.1, []))
                          fun x40 =>
                          Option.bind
                            (app x24.2.2.2.2.2.2.2
                              [Consumer.mk x40.2.2.1 x40.2.2.2.1 x40.2.2.2.2.1
                                  x40.2.2.2.2.2.1 x40.2.2.2.2.2.2])
                            fun x41 =>
                            some
                              (.inl
                                (W (x24.1 - 1), x40.1, x40.2.1, x31.1, x31.2.1, x31.2.2.1,
                                  x31.2.2.2, x41))
  else
    some
      (.inr
        (x24.2.1, x24.2.2.1, x24.2.2.2.1, x24.2.2.2.2.1, x24.2.2.2.2.2.1,
          x24.2.2.2.2.2.2.1, x24.2.2.2.2.2.2.2))
noncomputable def Src_Board (a0 : Src) : Option (Int × Int × Int × (List Int) × Int × (List Breaker) × (List Source) × (List Consumer)) :=
  Option.bind (Src_Range a0 1 4) fun x1 =>
    Option.bind (Src_Pick (Src.mk x1.2.1 x1.2.2) [0, 50, 200, 1800])
      fun x2 =>
      Option.bind (Src_Pick (Src.mk x2.2.1 x2.2.2.1) [0, 10, 50]) fun x3 =>
        Option.bind (loopO Src_Board_L1 (1, x3.2.1, x3.2.2.1, x1.1, x2.1, x3.1, [])) fun x9 =>
          Option.bind
            (if decide (x9.2.2.1 > 2) = true then
              Option.bind (Src_N (Src.mk x9.1 x9.2.1) 2) fun x10 =>
                some (x10.1 == 1, x10.2.1, x10.2.2)
            else some (false, x9.1, x9.2.1))
            fun x11 =>
            Option.bind
              (if x11.1 = true then
                Option.bind
                  (app x9.2.2.2.2.2
                    [Breaker.mk 1 0 (W (x9.2.2.1 - 1))])
                  fun x12 => some (x9.2.2.1, x9.2.2.2.1, x9.2.2.2.2.1, x12)
              else some (x9.2.2.1, x9.2.2.2.1, x9.2.2.2.2.1, x9.2.2.2.2.2))
              fun x13 =>
              Option.bind (Src_N (Src.mk x11.2.1 x11.2.2) 5) fun x14 =>
                Option.bind
                  (loopO Src_Board_L2
                    (x14.1, x14.2.1, x14.2.2, x13.1, x13.2.1, x13.2.2.1, x13.2.2.2, []))
                  fun x22 =>
                  Option.bind (Src_N (Src.mk x22.1 x22.2.1) 6) fun x23 =>
                    Option.bind
                      (loopO Src_Board_L3
                        (x23.1, x23.2.1, x23.2.2, x22.2.2.1, x22.2.2.2.1,
                          x22.2.2.2.2.1, x22.2.2.2.2.2.1, []))
                      fun x42 =>
                      some
                        (x42.2.2.1, x42.2.2.2.1, x42.2.2.2.2.1, x42.1, x42.2.1,
                          x42.2.2.2.2.2.1, x22.2.2.2.2.2.2, x42.2.2.2.2.2.2)
noncomputable def c7 : Con D := ⟨7, [.lf (.sl 0), .lf (.int .i64)], [.lf (.int .i64), .lf (.int .i64), .lf (.int .i64), .lf (.sl 0), .lf (.int .i64), .lf (.sl 4), .lf (.sl 5), .lf (.sl 6)], [.one (.ptr 1000 0)], [(1000, .box [.h 0 [0], .h 1 []])], [.agg [.h 0 [], .own 1001, .own 1002, .own 1003, .h 1 [], .h 2 []]], [(1000, .box [.h 3 [0], .h 4 []]), (1001, .sl 4 63 5 []), (1002, .sl 5 65 6 []), (1003, .sl 6 57 7 [1])], fun h => Src_Board ⟨h.1, h.2⟩⟩
theorem c7_ok : ConOk Try.prog T c7 := fn_ok (Φ := [c10, c26, c27]) (rs := [.cell 2 27]) (an := (.n none .o (.n none .o (.n none (.n none .o (.n none (.loop ⟨[.lf (.int .i64), .lf (.sl 0), .lf (.int .i64), .lf (.int .i64), .lf (.int .i64), .lf (.int .i64), .lf (.sl 4)], [(4, .one (.h 0 []))], [(1000, .box [.h 1 [0], .h 2 []]), (2640, .box [.h 3 [], .own 2832, .nils, .nils, .h 4 [], .h 5 []]), (2832, .sl 4 63 6 [])], [1000, 2640], 2896⟩ true [(.exit 0, ⟨[.lf (.sl 0), .lf (.int .i64), .lf (.int .i64), .lf (.int .i64), .lf (.int .i64), .lf (.sl 4)], [], [(1000, .box [.h 0 [0], .h 1 []]), (2640, .box [.h 2 [], .own 2832, .nils, .nils, .h 3 [], .h 4 []]), (2832, .sl 4 63 5 [])], [1000, 2640], 2896⟩)] (.n none .o (.n none (.n none (.n none .o (.n (some (true, [(.normal, ⟨[.lf (.sl 0), .lf (.int .i64), .lf (.int .i64), .lf (.int .i64), .lf (.int .i64), .lf (.sl 4)], [], [(1000, .box [.h 0 [0], .h 1 []]), (2640, .box [.h 2 [], .own 3351, .nils, .nils, .h 3 [], .h 4 []]), (3351, .sl 4 63 5 [])], [1000, 2640, 2832], 3415⟩)])) .o .o)) .o) .o))) .o)) (.n none (.n none (.r (some (true, [(.normal, ⟨[.lf .bool, .lf (.sl 0), .lf (.int .i64)], [(47, .one (.h 0 []))], [(1000, .box [.h 1 [0], .h 2 []])], [1000], 2966⟩)])) .nil) (.n (some (true, [(.normal, ⟨[.lf (.int .i64), .lf (.int .i64), .lf (.int .i64), .lf (.sl 4)], [], [(2640, .box [.h 0 [], .own 2969, .nils, .nils, .h 1 [], .h 2 []]), (2969, .sl 4 63 3 [])], [2640, 2832], 3033⟩)])) .o .o)) (.n none (.n none .o (.n none (.loop ⟨[.lf (.int .i64), .lf (.sl 0), .lf (.int .i64), .lf (.int .i64), .lf (.int .i64), .lf (.int .i64), .lf (.sl 4), .lf (.sl 5)], [(5, .one (.h 0 []))], [(1000, .box [.h 1 [0], .h 2 []]), (2640, .box [.h 3 [], .own 3229, .own 3230, .nils, .h 4 [], .h 5 []]), (3229, .sl 4 63 6 []), (3230, .sl 5 65 7 [])], [1000, 2640, 2969], 3293⟩ true [(.exit 2, ⟨[.lf (.sl 0), .lf (.int .i64), .lf (.int .i64), .lf (.int .i64), .lf (.int .i64), .lf (.sl 4), .lf (.sl 5)], [], [(1000, .box [.h 0 [0], .h 1 []]), (2640, .box [.h 2 [], .own 3229, .own 3230, .nils, .h 3 [], .h 4 []]), (3229, .sl 4 63 5 []), (3230, .sl 5 65 6 [])], [1000, 2640, 2969], 3293⟩)] .o) .o)) (.n none (.n none .o (.n none (.loop ⟨[.lf (.int .i64), .lf (.sl 0), .lf (.int .i64), .lf (.int .i64), .lf (.int .i64), .lf (.int .i64), .lf (.sl 4), .lf (.sl 6)], [(7, .one (.h 0 []))], [(1000, .box [.h 1 [0], .h 2 []]), (2640, .box [.h 3 [], .own 3492, .own 3230, .own 3493, .h 4 [], .h 5 []]), (3492, .sl 4 63 6 []), (3493, .sl 6 57 7 [1])], [1000, 2640, 3229], 3556⟩ true [(.exit 4, ⟨[.lf (.sl 0), .lf (.int .i64), .lf (.int .i64), .lf (.int .i64), .lf (.int .i64), .lf (.sl 4), .lf (.sl 6)], [], [(1000, .box [.h 0 [0], .h 1 []]), (2640, .box [.h 2 [], .own 3492, .own 3230, .own 3493, .h 3 [], .h 4 []]), (3492, .sl 4 63 5 []), (3493, .sl 6 57 6 [1])], [1000, 2640, 3229], 3556⟩)] (.n none .o (.n none (.n none (.n none .o (.n none .o (.n none .o (.n none (.n none (.r (some (true, [(.normal, ⟨[.lf .bool, .lf (.sl 0), .lf (.int .i64)], [(118, .one (.any)), (119, .one (.any)), (120, .one (.any)), (121, .one (.h 0 []))], [(1000, .box [.h 1 [0], .h 2 []])], [1000], 4908⟩)])) .nil) (.n (some (true, [(.normal, ⟨[.lf (.int .i64), .lf (.int .i64), .lf (.int .i64), .lf (.sl 4)], [], [(2640, .box [.h 0 [], .own 4911, .own 3230, .own 3493, .h 1 [], .h 2 []]), (4911, .sl 4 63 3 [])], [2640, 4652], 4975⟩)])) .o .o)) (.n none .o (.n none .o (.n none (.n none (.r (some (true, [(.normal, ⟨[.lf .bool, .lf (.sl 0), .lf (.int .i64)], [(152, .one (.any)), (153, .one (.any)), (154, .one (.any)), (155, .one (.h 0 []))], [(1000, .box [.h 1 [0], .h 2 []])], [1000], 6195⟩)])) .nil) (.n (some (true, [(.normal, ⟨[.lf (.sl 0), .lf (.int .i64), .lf (.int .i64), .lf (.int .i64), .lf (.int .i64), .lf (.int .i64), .lf (.sl 0)], [], [(1000, .box [.h 0 [0], .h 1 []]), (6003, .box [.h 2 [], .h 3 [], .h 4 [], .h 5 [], .own 6198]), (6198, .sl 0 3 6 [])], [1000, 6003], 6262⟩)])) .o .o)) .o))))))) .o) .o))) .o)) .o))))))) pOk repOk (AllC.mem (⟨c10_ok, c26_ok, c27_ok, trivial⟩ : AllC _ _ [c10, c26, c27])) hmix Try.call7 Try.func7 rfl rfl (by kernel_rfl) (fun h => by kernel_rfl)

noncomputable def dynposref15_within (a0 : Int) (a1 : Int) (a2 : Int) : Option (Bool) := Option.bind (if decide (a0 ≥ a1) = true then some (decide (a0 ≤ a2)) else some false) fun x1 => some x1
noncomputable def c42 : Con D := ⟨42, [.lf (.int .i64), .lf (.int .i64), .lf (.int .i64)], [.lf .bool], [.one (.h 0 []), .one (.h 1 []), .one (.h 2 [])], [], [.one (.h 0 [])], [], fun h => dynposref15_within h.1 h.2.1 h.2.2⟩
theorem c42_ok : ConOk Try.prog T c42 := fn_ok (Φ := []) (rs := [.tmp 6]) (an := (.n none .o (.n none (.r (some (true, [(.normal, ⟨[.lf .bool], [(6, .one (.h 0 []))], [], [], 2128⟩)])) .nil) .o))) pOk repOk (AllC.mem (l := []) trivial) hmix Try.call42 Try.func42 rfl rfl (by kernel_rfl) (fun h => by kernel_rfl)

noncomputable def dynposref15_Exists (a0 : Board) (a1 : Part) : Option (Bool) :=
  if (a1.Kind == 1) = true then
    Option.bind (dynposref15_within a1.Number 0 (W (len a0.Sources - 1))) fun x4 => some x4
  else
    if (a1.Kind == 2) = true then
      Option.bind (dynposref15_within a1.Number 0 (W (len a0.Breakers - 1))) fun x3 => some x3
    else
      if (a1.Kind == 3) = true then
        Option.bind (dynposref15_within a1.Number 0 (W (a0.Buses - 1))) fun x2 => some x2
      else
        if (a1.Kind == 4) = true then
          Option.bind (dynposref15_within a1.Number 0 (W (len a0.Consumers - 1))) fun x1 =>
            some x1
        else some false
noncomputable def c28 : Con D := ⟨28, [.lf (.int .i64), .lf (.sl 4), .lf (.sl 5), .lf (.sl 6), .lf (.int .i64), .lf (.int .i64), .lf (.int .i64), .lf (.int .i64)], [.lf .bool], [.agg [.h 0 [], .h 1 [0], .h 2 [0], .h 3 [0], .h 4 [], .h 5 []], .agg [.h 6 [], .h 7 []]], [], [.one (.h 0 [])], [], fun h => dynposref15_Exists ⟨h.1, h.2.1, h.2.2.1, h.2.2.2.1, h.2.2.2.2.1, h.2.2.2.2.2.1⟩ ⟨h.2.2.2.2.2.2.1, h.2.2.2.2.2.2.2⟩⟩
theorem c28_ok : ConOk Try.prog T c28 := fn_ok (Φ := [c42]) (rs := [.tmp 4]) (an := .o) pOk repOk (AllC.mem (⟨c42_ok, trivial⟩ : AllC _ _ [c42])) hmix Try.call28 Try.func28 rfl rfl (by kernel_rfl) (fun h => by kernel_rfl)

noncomputable def Src_Power_L1 (a1 : Board) : Int × List Int × Int × List Bool →
  Option
    (Int × List Int × Int × List Bool ⊕
      List Int ×
        Int ×
          List
            Bool) := fun x1 =>
  if decide (x1.1 < len a1.Breakers) = true then
    Option.bind (Src_N (Src.mk x1.2.1 x1.2.2.1) 2) fun x2 =>
      Option.bind (app x1.2.2.2 [x2.1 == 1]) fun x3 =>
        some (.inl (W (x1.1 + 1), x2.2.1, x2.2.2, x3))
  else some (.inr (x1.2.1, x1.2.2.1, x1.2.2.2))
noncomputable def Src_Power_L3 (a1 : Board) (x5 : Int ×
  List
    Bool) : Bool × Int × List Bool →
  Option
    (Bool × Int × List Bool ⊕
      List
        Bool) := fun x6 =>
  if decide (x6.2.1 < len a1.Breakers) = true then
    Option.bind (idx a1.Breakers x6.2.1) fun x7 =>
      Option.bind
        (if (x7.Kind == 3) = true then
          if (x7.B == x5.1) = true then Option.bind (idx x6.2.2 x6.2.1) fun x8 => some x8 else some false
        else some false)
        fun x9 =>
        Option.bind
          (if x9 = true then
            Option.bind (idx x6.2.2 x6.2.1) fun x10 =>
              Option.bind (idx x6.2.2 x6.2.1) fun x11 =>
                Option.bind (setO x6.2.2 x6.2.1 x6.1) fun x12 => some (false, x12)
          else some (x6.1, x6.2.2))
          fun x13 => some (.inl (x13.1, W (x6.2.1 + 1), x13.2))
  else some (.inr x6.2.2)
noncomputable def Src_Power_L2 (a1 : Board) : Int × List Bool →
  Option
    (Int × List Bool ⊕
      List
        Bool) := fun x5 =>
  if decide (x5.1 < len a1.Consumers) = true then
    Option.bind (loopO (Src_Power_L3 a1 x5) (true, 0, x5.2)) fun x14 =>
      some (.inl (W (x5.1 + 1), x14))
  else some (.inr x5.2)
noncomputable def Src_Power_L4 (a1 : Board) : Int × List Int × Int × List Running →
  Option
    (Int × List Int × Int × List Running ⊕
      List Int ×
        Int ×
          List
            Running) := fun x16 =>
  if decide (x16.1 < len a1.Sources) = true then
    Option.bind
      (Src_Pick (Src.mk x16.2.1 x16.2.2.1)
        [0, 1, 2, 2, 2, 3])
      fun x17 =>
      Option.bind (Src_N (Src.mk x17.2.1 x17.2.2.1) 5) fun x18 =>
        Option.bind
          (Src_Pick (Src.mk x18.2.1 x18.2.2) [5000, 5000, 5005, 4950])
          fun x19 =>
          Option.bind
            (Src_Pick (Src.mk x19.2.1 x19.2.2.1)
              [0, 0, 40, 1800, 3590])
            fun x20 =>
            Option.bind (app x16.2.2.2 [Running.mk x17.1 x18.1 x19.1 x20.1]) fun x21 =>
              some (.inl (W (x16.1 + 1), x20.2.1, x20.2.2.1, x21))
  else some (.inr (x16.2.1, x16.2.2.1, x16.2.2.2))
noncomputable def Src_Power_L5 (a1 : Board) : Int × List Int × Int × List Int →
  Option
    (Int × List Int × Int × List Int ⊕
      List Int ×
        Int ×
          List
            Int) := fun x23 =>
  if decide (x23.1 < len a1.Consumers) = true then
    Option.bind (idx a1.Consumers x23.1) fun x24 =>
      Option.bind (quoO x24.Load 3) fun x25 =>
        Option.bind (Src_Pick (Src.mk x23.2.1 x23.2.2.1) [x24.Load, x24.Load, x24.Least, x25]) fun x26 =>
          Option.bind (app x23.2.2.2 [x26.1]) fun x27 =>
            some (.inl (W (x23.1 + 1), x26.2.1, x26.2.2.1, x27))
  else some (.inr (x23.2.1, x23.2.2.1, x23.2.2.2))
noncomputable def Src_Power_L6 (a1 : Board) : Int × List Int × Int × List Part →
  Option
    (Int × List Int × Int × List Part ⊕
      List Int ×
        Int ×
          List
            Part) := fun x29 =>
  if decide (x29.1 ≤ 4) = true then
    Option.bind (Src_N (Src.mk x29.2.1 x29.2.2.1) 5) fun x30 =>
      Option.bind
        (if (x30.1 == 4) = true then
          Option.bind (Src_N (Src.mk x30.2.1 x30.2.2) 4) fun x31 =>
            Option.bind (dynposref15_Exists a1 (Part.mk x29.1 x31.1)) fun x32 =>
              Option.bind
                (if x32 = true then Option.bind (app x29.2.2.2 [Part.mk x29.1 x31.1]) fun x33 => some x33
                else some x29.2.2.2)
                fun x34 => some (x31.2.1, x31.2.2, x34)
        else some (x30.2.1, x30.2.2, x29.2.2.2))
        fun x35 => some (.inl (W (x29.1 + 1), x35.1, x35.2.1, x35.2.2))
  else some (.inr (x29.2.1, x29.2.2.1, x29.2.2.2))
noncomputable def Src_Power (a0 : Src) (a1 : Board) : Option ((List Int) × Int × (List Breaker) × (List Source) × (List Consumer) × (List Bool) × (List Running) × (List Int) × (List Part)) :=
  Option.bind (loopO (Src_Power_L1 a1) (0, a0.L, a0.At, [])) fun x4 =>
    Option.bind (loopO (Src_Power_L2 a1) (0, x4.2.2)) fun x15 =>
      Option.bind (loopO (Src_Power_L4 a1) (0, x4.1, x4.2.1, [])) fun x22 =>
        Option.bind (loopO (Src_Power_L5 a1) (0, x22.1, x22.2.1, [])) fun x28 =>
          Option.bind (loopO (Src_Power_L6 a1) (1, x28.1, x28.2.1, [])) fun x36 =>
            some
              (x36.1, x36.2.1, a1.Breakers, a1.Sources, a1.Consumers, x15, x22.2.2, x28.2.2, x36.2.2)
noncomputable def c8 : Con D := ⟨8, [.lf (.sl 0), .lf (.int .i64), .lf (.int .i64), .lf (.sl 4), .lf (.sl 5), .lf (.sl 6), .lf (.int .i64), .lf (.int .i64)], [.lf (.sl 0), .lf (.int .i64), .lf (.sl 4), .lf (.sl 5), .lf (.sl 6), .lf (.sl 1), .lf (.sl 8), .lf (.sl 0), .lf (.sl 9)], [.one (.ptr 1000 0), .agg [.h 2 [], .own 1001, .own 1002, .own 1003, .h 6 [], .h 7 []]], [(1000, .box [.h 0 [0], .h 1 []]), (1001, .sl 4 63 3 [0]), (1002, .sl 5 65 4 [0]), (1003, .sl 6 57 5 [0])], [.agg [.own 1004, .own 1005, .own 1006, .own 1007]], [(1000, .box [.h 0 [0], .h 1 []]), (1001, .sl 4 63 2 [0]), (1002, .sl 5 65 3 [0]), (1003, .sl 6 57 4 [0]), (1004, .sl 1 4 5 []), (1005, .sl 8 67 6 []), (1006, .sl 0 3 7 []), (1007, .sl 9 69 8 [])], fun h => Src_Power ⟨h.1, h.2.1⟩ ⟨h.2.2.1, h.2.2.2.1, h.2.2.2.2.1, h.2.2.2.2.2.1, h.2.2.2.2.2.2.1, h.2.2.2.2.2.2.2⟩⟩
theorem c8_ok : ConOk Try.prog T c8 := fn_ok (Φ := [c10, c27, c28]) (rs := [.cell 4 32]) (an := (.n none .o (.n none .o (.n none (.n none .o (.n none (.loop ⟨[.lf (.int .i64), .lf (.sl 0), .lf (.int .i64), .lf (.sl 1)], [(17, .one (.h 0 []))], [(1000, .box [.h 1 [0], .h 2 []]), (2128, .box [.own 2448, .nils, .nils, .nils]), (2448, .sl 1 4 3 [])], [1000, 2128], 2512⟩ true [(.exit 0, ⟨[.lf (.sl 0), .lf (.int .i64), .lf (.sl 1)], [], [(1000, .box [.h 0 [0], .h 1 []]), (2128, .box [.own 2448, .nils, .nils, .nils]), (2448, .sl 1 4 2 [])], [1000, 2128], 2512⟩)] .o) .o)) (.n none (.n none .o (.n none (.loop ⟨[.lf (.int .i64), .lf (.sl 1)], [(31, .one (.h 0 []))], [(2448, .sl 1 4 1 [])], [2448], 2835⟩ true [(.exit 2, ⟨[.lf (.sl 1)], [], [(2448, .sl 1 4 0 [])], [2448], 2835⟩)] (.n none .o (.n none .o (.n none (.n none (.n none .o (.n none .o (.n none .o (.n none (.loop ⟨[.lf .bool, .lf (.int .i64), .lf (.sl 1)], [(7, .one (.h 0 [])), (37, .one (.h 1 []))], [(2448, .sl 1 4 2 [])], [2448], 3413⟩ true [(.exit 4, ⟨[.lf (.sl 1)], [], [(2448, .sl 1 4 0 [])], [2448], 3413⟩)] (.n none .o (.n none .o (.n none (.n none (.n none .o (.n none (.r (some (true, [(.normal, ⟨[.lf .bool], [(46, .one (.any)), (47, .one (.any)), (48, .one (.any)), (49, .one (.any)), (52, .one (.any)), (53, .one (.any)), (54, .one (.any)), (55, .one (.any)), (56, .one (.any)), (57, .one (.h 0 []))], [], [], 3928⟩)])) .nil) (.n (some (true, [(.normal, ⟨[.lf .bool, .lf (.sl 1)], [(7, .one (.h 0 []))], [(2448, .sl 1 4 1 [])], [2448], 3993⟩)])) .o .o))) .o) .o)))) .o)))) .o) .o)))) .o)) (.n none (.n none .o (.n none (.loop ⟨[.lf (.int .i64), .lf (.sl 0), .lf (.int .i64), .lf (.sl 8)], [(68, .one (.h 0 []))], [(1000, .box [.h 1 [0], .h 2 []]), (2128, .box [.own 2448, .own 3092, .nils, .nils]), (3092, .sl 8 67 3 [])], [1000, 2128], 3156⟩ true [(.exit 6, ⟨[.lf (.sl 0), .lf (.int .i64), .lf (.sl 8)], [], [(1000, .box [.h 0 [0], .h 1 []]), (2128, .box [.own 2448, .own 3092, .nils, .nils]), (3092, .sl 8 67 2 [])], [1000, 2128], 3156⟩)] .o) .o)) (.n none (.n none .o (.n none (.loop ⟨[.lf (.int .i64), .lf (.sl 0), .lf (.int .i64), .lf (.sl 0)], [(91, .one (.h 0 []))], [(1000, .box [.h 1 [0], .h 2 []]), (2128, .box [.own 2448, .own 3092, .own 3415, .nils]), (3415, .sl 0 3 3 [])], [1000, 2128], 3479⟩ true [(.exit 8, ⟨[.lf (.sl 0), .lf (.int .i64), .lf (.sl 0)], [], [(1000, .box [.h 0 [0], .h 1 []]), (2128, .box [.own 2448, .own 3092, .own 3415, .nils]), (3415, .sl 0 3 2 [])], [1000, 2128], 3479⟩)] .o) .o)) (.n none (.n none .o (.n none (.loop ⟨[.lf (.int .i64), .lf (.sl 0), .lf (.int .i64), .lf (.sl 9)], [(12, .one (.h 0 []))], [(1000, .box [.h 1 [0], .h 2 []]), (2128, .box [.own 2448, .own 3092, .own 3415, .own 3546]), (3546, .sl 9 69 3 [])], [1000, 2128], 3610⟩ true [(.exit 10, ⟨[.lf (.sl 0), .lf (.int .i64), .lf (.sl 9)], [], [(1000, .box [.h 0 [0], .h 1 []]), (2128, .box [.own 2448, .own 3092, .own 3415, .own 3546]), (3546, .sl 9 69 2 [])], [1000, 2128], 3610⟩)] (.n none .o (.n none (.n none (.n none .o (.n (some (true, [(.normal, ⟨[.lf (.sl 0), .lf (.int .i64), .lf (.sl 9)], [], [(1000, .box [.h 0 [0], .h 1 []]), (2128, .box [.own 2448, .own 3092, .own 3415, .own 3934]), (3934, .sl 9 69 2 [])], [1000, 2128, 3546], 3998⟩)])) (.n none .o (.n none .o (.n (some (true, [(.normal, ⟨[.lf (.sl 9)], [], [(2128, .box [.own 2448, .own 3092, .own 3415, .own 4510]), (4510, .sl 9 69 0 [])], [2128, 3546], 4574⟩)])) .o .o))) .o)) .o) .o))) .o)) .o)))))))) pOk repOk (AllC.mem (⟨c10_ok, c27_ok, c28_ok, trivial⟩ : AllC _ _ [c10, c27, c28])) hmix Try.call8 Try.func8 rfl rfl (by kernel_rfl) (fun h => by kernel_rfl)

noncomputable def dynposlaw17_ratings_L1 : Int × List Int × List Int × Int →
  Option
    (Int × List Int × List Int × Int ⊕
      List Int ×
        List Int ×
          Int) := fun x2 =>
  if decide (x2.1 > 0) = true then
    Option.bind
      (Src_Pick (Src.mk x2.2.2.1 x2.2.2.2)
        [1, 3, 10, 50, 100])
      fun x3 =>
      Option.bind (app x2.2.1 [x3.1]) fun x4 =>
        some (.inl (W (x2.1 - 1), x4, x3.2.1, x3.2.2.1))
  else some (.inr (x2.2.1, x2.2.2.1, x2.2.2.2))
noncomputable def dynposlaw17_ratings (a0 : Src) : Option ((List Int) × Int × (List Int)) :=
  Option.bind (Src_N a0 6) fun x1 =>
    Option.bind (loopO dynposlaw17_ratings_L1 (x1.1, [], x1.2.1, x1.2.2)) fun x5 =>
      some (x5.2.1, x5.2.2, x5.1)
noncomputable def c9 : Con D := ⟨9, [.lf (.sl 0), .lf (.int .i64)], [.lf (.sl 0), .lf (.int .i64), .lf (.sl 0)], [.one (.ptr 1000 0)], [(1000, .box [.h 0 [0], .h 1 []])], [.one (.own 1001)], [(1000, .box [.h 0 [0], .h 1 []]), (1001, .sl 0 3 2 [])], fun h => dynposlaw17_ratings ⟨h.1, h.2⟩⟩
theorem c9_ok : ConOk Try.prog T c9 := fn_ok (Φ := [c10, c27]) (rs := [.tmp 2]) (an := (.n none .o (.n none .o (.n none (.n none .o (.n none (.loop ⟨[.lf (.int .i64), .lf (.sl 0), .lf (.sl 0), .lf (.int .i64)], [(3, .one (.own 2320)), (4, .one (.h 0 []))], [(2320, .sl 0 3 1 []), (1000, .box [.h 2 [0], .h 3 []])], [1000], 2384⟩ true [(.exit 0, ⟨[.lf (.sl 0), .lf (.sl 0), .lf (.int .i64)], [(3, .one (.own 2320))], [(2320, .sl 0 3 0 []), (1000, .box [.h 1 [0], .h 2 []])], [1000], 2384⟩)] .o) .o)) .o)))) pOk repOk (AllC.mem (⟨c10_ok, c27_ok, trivial⟩ : AllC _ _ [c10, c27])) hmix Try.call9 Try.func9 rfl rfl (by kernel_rfl) (fun h => by kernel_rfl)

noncomputable def Src_Odd (a0 : Src) : Option (Int × (List Int) × Int) :=
  Option.bind
    (Src_Pick a0
      [(-1), 0, 1, 4611686018427387904, (-4611686018427387904),
        9223372036854775807, (-9223372036854775808), 1000000000, 1000000001,
        (-1000000001), 3600, 1800, 100000000, 100000001,
        5001])
    fun x1 => some (x1.1, x1.2.1, x1.2.2.1)
noncomputable def c11 : Con D := ⟨11, [.lf (.sl 0), .lf (.int .i64)], [.lf (.int .i64), .lf (.sl 0), .lf (.int .i64)], [.one (.ptr 1000 0)], [(1000, .box [.h 0 [0], .h 1 []])], [.one (.h 0 [])], [(1000, .box [.h 1 [0], .h 2 []])], fun h => Src_Odd ⟨h.1, h.2⟩⟩
theorem c11_ok : ConOk Try.prog T c11 := fn_ok (Φ := [c27]) (rs := [.tmp 2]) (an := .o) pOk repOk (AllC.mem (⟨c27_ok, trivial⟩ : AllC _ _ [c27])) hmix Try.call11 Try.func11 rfl rfl (by kernel_rfl) (fun h => by kernel_rfl)

noncomputable def dynposref17_before_L1 (a1 : List
  Int) : Int × Int →
  Option
    (Int × Int ⊕
      Int ⊕
        Int ×
          Int) := fun x1 =>
  if decide (x1.2 < len a1) = true then
    Option.bind (idx a1 x1.2) fun x2 =>
      Option.bind (if decide (x2 < 1) = true then some true else some (decide (x2 > 50000)))
        fun x3 =>
        if x3 = true then some (.inr (.inr (0, 1)))
        else some (.inl (W (x1.1 + x2), W (x1.2 + 1)))
  else some (.inr (.inl x1.1))
noncomputable def dynposref17_before (a0 : Int) (a1 : (List Int)) : Option (Int × Int) :=
  if decide (len a1 > 8) = true then some (0, 2)
  else
    Option.bind (loopO (dynposref17_before_L1 a1) (0, 0)) fun x4 =>
      Sum.elim
        (fun x5 =>
          Option.bind (if decide (a0 < 0) = true then some true else some (decide (a0 > 800000)))
            fun x6 =>
            if x6 = true then some (0, 1)
            else
              Option.bind (if (len a1 == 0) = true then some (a0 != 0) else some false) fun x7 =>
                if x7 = true then some (0, 9) else some (x5, 0))
        (fun x8 => some x8) x4
noncomputable def c34 : Con D := ⟨34, [.lf (.int .i64), .lf (.sl 0)], [.lf (.int .i64), .lf (.int .i64)], [.one (.h 0 []), .one (.h 1 [0])], [], [.one (.h 0 []), .one (.h 1 [])], [], fun h => dynposref17_before h.1 h.2⟩
theorem c34_ok : ConOk Try.prog T c34 := fn_ok (Φ := []) (rs := [.tmp 4, .tmp 5]) (an := (.n none .o (.n none .o (.n none .o (.n none (.n none .o (.n none (.loop ⟨[.lf (.int .i64), .lf (.int .i64)], [(6, .one (.h 0 [])), (14, .one (.h 1 []))], [], [], 2640⟩ false [(.exit 0, ⟨[.lf (.int .i64)], [(6, .one (.h 0 []))], [], [], 2640⟩)] (.n none .o (.n none .o (.n none (.n none (.n none .o (.n none (.n none (.r (some (true, [(.normal, ⟨[.lf .bool], [(21, .one (.any)), (22, .one (.any)), (23, .one (.h 0 []))], [], [], 2962⟩)])) .nil) .o) .o)) .o) .o)))) .o)) (.n none (.n none (.r (some (true, [(.normal, ⟨[.lf .bool], [(33, .one (.h 0 []))], [], [], 2705⟩)])) .nil) .o) (.n none (.n none (.r (some (true, [(.normal, ⟨[.lf .bool], [(40, .one (.h 0 []))], [], [], 2770⟩)])) .nil) .o) .o))))))) pOk repOk (AllC.mem (l := []) trivial) hmix Try.call34 Try.func34 rfl rfl (by kernel_rfl) (fun h => by kernel_rfl)

end Rx
end Go.Proofs.Ytjkdckacgdkbbaa
