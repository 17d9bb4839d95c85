/- Plain functions, walks. Written by a program (wip/gen). -/
import Derived.Test.YtfnphdhcgkondaaGreatRt
import Derived.Test.YtfnphdhcgkondaaGreatRg1
import Derived.Test.YtfnphdhcgkondaaGreatRg2
import Derived.Test.YtfnphdhcgkondaaGreatRg3
set_option linter.unusedVariables false
set_option maxRecDepth 100000
namespace Go.Proofs.YtfnphdhcgkondaaGreat
open Go Go.RowKit Dp
namespace Rx

noncomputable def slices_DeleteFunc_int_int_L1 (a1 : Island) : Int × Int × List Int →
  Option
    (Int × Int × List Int ⊕
      Int ×
        List
          Int) := fun x2 =>
  if decide (x2.2.1 < len x2.2.2) = true then
    Option.bind (idx x2.2.2 x2.2.1) fun x3 =>
      Option.bind (shed_relief__shed_1 x3 a1) fun x4 =>
        Option.bind
          (if (!x4) = true then
            Option.bind (idx x2.2.2 x2.1) fun x5 =>
              Option.bind (idx x2.2.2 x2.1) fun x6 =>
                Option.bind (setO x2.2.2 x2.1 x3) fun x7 => some (W (x2.1 + 1), x7)
          else some (x2.1, x2.2.2))
          fun x8 => some (.inl (x8.1, W (x2.2.1 + 1), x8.2))
  else some (.inr (x2.1, x2.2.2))
noncomputable def slices_DeleteFunc_int_int (a0 : (List Int)) (a1 : Island) : Option ((List Int)) :=
  Option.bind (slices_IndexFunc_int_int_flat a0 a1) fun x1 =>
    if (x1 == (-1)) = true then some a0
    else
      Option.bind (loopO (slices_DeleteFunc_int_int_L1 a1) (x1, W (x1 + 1), a0)) fun x9 =>
        Option.bind (slc x9.2 x9.1 (len x9.2)) fun x10 =>
          Option.bind (slc (clrT 0 x9.2 x9.1) 0 x9.1) fun x11 => some x11
noncomputable def c74 : Con D := ⟨74, [.lf (.sl 0), .el 13], [.lf (.sl 0)], [.one (.own 1000), .one (.fn 87 [.rp 1 13 [0]])], [(1000, .sl 0 3 0 [])], [.one (.own 1001)], [(1001, .sl 0 3 0 [])], fun h => slices_DeleteFunc_int_int h.1 h.2⟩
theorem c74_ok : ConOk Tryz.prog T c74 := fn_ok (Φ := [c87, c103]) (rs := [.tmp 4]) (an := (.n none .o (.n none .o (.n none .o (.n none (.n none .o (.n none (.loop ⟨[.lf (.int .i64), .lf (.int .i64), .lf (.sl 0)], [(5, .one (.h 0 [])), (6, .one (.h 1 []))], [(1000, .sl 0 3 2 [])], [1000], 2704⟩ true [(.exit 0, ⟨[.lf (.int .i64), .lf (.sl 0)], [(5, .one (.h 0 []))], [(1000, .sl 0 3 1 [])], [1000], 2704⟩)] (.n none .o (.n none (.n none (.n none .o (.n none .o (.n (some (true, [(.normal, ⟨[.lf (.int .i64), .lf (.sl 0)], [(5, .one (.h 0 []))], [(1000, .sl 0 3 1 [])], [1000], 3603⟩)])) .o .o))) .o) .o))) .o)) .o))))) pOk repOk (AllC.mem (⟨c87_ok, c103_ok, trivial⟩ : AllC _ _ [c87, c103])) hmix Tryz.call74 Tryz.func74 rfl rfl (by kernel_rfl) (fun h => by kernel_rfl)

noncomputable def relief_shed_v1_L1 (x1 : List
  Int) (x2 : List
  Island) : Int ×
    Int ×
      List Breaker ×
        List Source × List Consumer × Int × Int × List Bool × List Running × List Int × List Part × List Act →
  Option
    (Int ×
        Int ×
          List Breaker ×
            List Source × List Consumer × Int × Int × List Bool × List Running × List Int × List Part × List Act ⊕
      Int ×
        List Breaker ×
          List Source ×
            List Consumer ×
              Int ×
                Int ×
                  List Bool ×
                    List Running ×
                      List Int ×
                        List Part ×
                          List
                            Act) := fun x3 =>
  if decide (x3.1 < len x2) = true then
    Option.bind (idx x2 x3.1) fun x4 =>
      Option.bind (slices_Clone_int_int x1) fun x5 =>
        Option.bind (slices_DeleteFunc_int_int x5 x4) fun x6 =>
          Option.bind
            (if decide (len x4.Sources > 0) = true then
              Option.bind (idx x4.Buses 0) fun x7 =>
                Option.bind
                  (relief_lower_v3
                    (relief.mk
                      (Board.mk x3.2.1 x3.2.2.1 x3.2.2.2.1 x3.2.2.2.2.1
                        x3.2.2.2.2.2.1 x3.2.2.2.2.2.2.1)
                      (Power.mk x3.2.2.2.2.2.2.2.1 x3.2.2.2.2.2.2.2.2.1
                        x3.2.2.2.2.2.2.2.2.2.1 x3.2.2.2.2.2.2.2.2.2.2.1)
                      x3.2.2.2.2.2.2.2.2.2.2.2)
                    x6 x7)
                  fun x8 =>
                  Option.bind (idx x4.Buses 0) fun x9 =>
                    Option.bind
                      (relief_trip_v2
                        (relief.mk
                          (Board.mk x8.1 x8.2.1 x8.2.2.1 x8.2.2.2.1 x8.2.2.2.2.1
                            x8.2.2.2.2.2.1)
                          (Power.mk x8.2.2.2.2.2.2.1 x8.2.2.2.2.2.2.2.1
                            x8.2.2.2.2.2.2.2.2.1 x8.2.2.2.2.2.2.2.2.2.1)
                          x8.2.2.2.2.2.2.2.2.2.2.2)
                        x8.2.2.2.2.2.2.2.2.2.2.1 x9)
                      fun x10 =>
                      some
                        (x10.1, x10.2.1, x10.2.2.1, x10.2.2.2.1, x10.2.2.2.2.1,
                          x10.2.2.2.2.2.1, x10.2.2.2.2.2.2.1,
                          x10.2.2.2.2.2.2.2.1, x10.2.2.2.2.2.2.2.2.1,
                          x10.2.2.2.2.2.2.2.2.2.1, x10.2.2.2.2.2.2.2.2.2.2.1,
                          x10.2.2.2.2.2.2.2.2.2.2.2)
            else
              some
                (x3.2.1, x3.2.2.1, x3.2.2.2.1, x3.2.2.2.2.1, x3.2.2.2.2.2.1,
                  x3.2.2.2.2.2.2.1, x3.2.2.2.2.2.2.2.1,
                  x3.2.2.2.2.2.2.2.2.1, x3.2.2.2.2.2.2.2.2.2.1,
                  x3.2.2.2.2.2.2.2.2.2.2.1, x6, x3.2.2.2.2.2.2.2.2.2.2.2))
            fun x11 =>
            some
              (.inl
                (W (x3.1 + 1), x11.1, x11.2.1, x11.2.2.1, x11.2.2.2.1,
                  x11.2.2.2.2.1, x11.2.2.2.2.2.1, x11.2.2.2.2.2.2.1,
                  x11.2.2.2.2.2.2.2.1, x11.2.2.2.2.2.2.2.2.1,
                  x11.2.2.2.2.2.2.2.2.2.1, x11.2.2.2.2.2.2.2.2.2.2.2))
  else
    some
      (.inr
        (x3.2.1, x3.2.2.1, x3.2.2.2.1, x3.2.2.2.2.1, x3.2.2.2.2.2.1,
          x3.2.2.2.2.2.2.1, x3.2.2.2.2.2.2.2.1, x3.2.2.2.2.2.2.2.2.1,
          x3.2.2.2.2.2.2.2.2.2.1, x3.2.2.2.2.2.2.2.2.2.2.1,
          x3.2.2.2.2.2.2.2.2.2.2.2))
noncomputable def relief_shed_v1 (a0 : relief) : Option (Int × (List Breaker) × (List Source) × (List Consumer) × Int × Int × (List Bool) × (List Running) × (List Int) × (List Part) × (List Act)) :=
  Option.bind (shed_Order a0.board) fun x1 =>
    Option.bind (board_Islands a0.board a0.power) fun x2 =>
      Option.bind
        (loopO (relief_shed_v1_L1 x1 x2)
          (0, a0.board.Buses, a0.board.Breakers, a0.board.Sources, a0.board.Consumers, a0.board.Phase,
            a0.board.Frequency, a0.power.Closed, a0.power.Sources, a0.power.Limits, a0.power.Broken, a0.acts))
        fun x12 =>
        some
          (x12.1, x12.2.1, x12.2.2.1, x12.2.2.2.1, x12.2.2.2.2.1,
            x12.2.2.2.2.2.1, x12.2.2.2.2.2.2.1, x12.2.2.2.2.2.2.2.1,
            x12.2.2.2.2.2.2.2.2.1, x12.2.2.2.2.2.2.2.2.2.1,
            x12.2.2.2.2.2.2.2.2.2.2)
noncomputable def c48_1 : Con D := ⟨48, [.lf (.int .i64), .lf (.sl 5), .lf (.sl 6), .lf (.sl 7), .lf (.int .i64), .lf (.int .i64), .lf (.sl 1), .lf (.sl 9), .lf (.sl 0), .lf (.sl 10), .lf (.sl 11)], [.lf (.int .i64), .lf (.sl 5), .lf (.sl 6), .lf (.sl 7), .lf (.int .i64), .lf (.int .i64), .lf (.sl 1), .lf (.sl 9), .lf (.sl 0), .lf (.sl 10), .lf (.sl 11)], [.one (.ptr 1000 0)], [(1000, .box [.h 0 [], .h 1 [0], .h 2 [0], .h 3 [0], .h 4 [], .h 5 [], .own 1001, .own 1002, .own 1003, .own 1004, .own 1005]), (1001, .sl 1 4 6 []), (1002, .sl 9 48 7 []), (1003, .sl 0 3 8 []), (1004, .sl 10 84 9 []), (1005, .sl 11 74 10 [])], [], [(1000, .box [.h 0 [], .h 1 [0], .h 2 [0], .h 3 [0], .h 4 [], .h 5 [], .own 1001, .own 1002, .own 1003, .own 1004, .own 1006]), (1001, .sl 1 4 6 []), (1002, .sl 9 48 7 []), (1003, .sl 0 3 8 []), (1004, .sl 10 84 9 []), (1006, .sl 11 74 10 [])], fun h => relief_shed_v1 ⟨⟨h.1, h.2.1, h.2.2.1, h.2.2.2.1, h.2.2.2.2.1, h.2.2.2.2.2.1⟩, ⟨h.2.2.2.2.2.2.1, h.2.2.2.2.2.2.2.1, h.2.2.2.2.2.2.2.2.1, h.2.2.2.2.2.2.2.2.2.1⟩, h.2.2.2.2.2.2.2.2.2.2⟩⟩
theorem c48_1_ok : ConOk Tryz.prog T c48_1 := fn_ok (Φ := [c24, c73, c74, c75, c88_3, c89_2]) (rs := []) (an := (.n none .o (.n none .o (.n none (.loop ⟨[.lf (.int .i64), .lf (.int .i64), .lf (.sl 5), .lf (.sl 6), .lf (.sl 7), .lf (.int .i64), .lf (.int .i64), .lf (.sl 1), .lf (.sl 9), .lf (.sl 0), .lf (.sl 10), .lf (.sl 11)], [(21, .one (.h 0 []))], [(1000, .box [.h 1 [], .h 2 [0], .h 3 [0], .h 4 [0], .h 5 [], .h 6 [], .own 1001, .own 1002, .own 1003, .own 1004, .own 3088]), (1001, .sl 1 4 7 []), (1002, .sl 9 48 8 []), (1003, .sl 0 3 9 []), (1004, .sl 10 84 10 []), (3088, .sl 11 74 11 [])], [1000, 1001, 1002, 1003, 1004, 1005], 3152⟩ true [(.exit 0, ⟨[.lf (.int .i64), .lf (.sl 5), .lf (.sl 6), .lf (.sl 7), .lf (.int .i64), .lf (.int .i64), .lf (.sl 1), .lf (.sl 9), .lf (.sl 0), .lf (.sl 10), .lf (.sl 11)], [], [(1000, .box [.h 0 [], .h 1 [0], .h 2 [0], .h 3 [0], .h 4 [], .h 5 [], .own 1001, .own 1002, .own 1003, .own 1004, .own 3088]), (1001, .sl 1 4 6 []), (1002, .sl 9 48 7 []), (1003, .sl 0 3 8 []), (1004, .sl 10 84 9 []), (3088, .sl 11 74 10 [])], [1000, 1001, 1002, 1003, 1004, 1005], 3152⟩)] (.n none .o (.n none .o (.n none (.n none (.n none .o (.n none .o (.n none .o (.n (some (true, [(.normal, ⟨[.lf (.int .i64), .lf (.sl 5), .lf (.sl 6), .lf (.sl 7), .lf (.int .i64), .lf (.int .i64), .lf (.sl 1), .lf (.sl 9), .lf (.sl 0), .lf (.sl 10), .lf (.sl 0), .lf (.sl 11)], [], [(1000, .box [.h 0 [], .h 1 [0], .h 2 [0], .h 3 [0], .h 4 [], .h 5 [], .own 1001, .own 1002, .own 1003, .own 1004, .own 4060]), (1001, .sl 1 4 6 []), (1002, .sl 9 48 7 []), (1003, .sl 0 3 8 []), (1004, .sl 10 84 9 []), (3684, .sl 0 3 10 []), (4060, .sl 11 74 11 [])], [1000, 1001, 1002, 1003, 1004, 3088, 3684], 4124⟩)])) .o .o)))) .o) .o)))) .o)))) pOk repOk (AllC.mem (⟨c24_ok, c73_ok, c74_ok, c75_ok, c88_3_ok, c89_2_ok, trivial⟩ : AllC _ _ [c24, c73, c74, c75, c88_3, c89_2])) hmix Tryz.call48 Tryz.func48 rfl rfl (by kernel_rfl) (fun h => by kernel_rfl)

noncomputable def shed_Protect_1_v1 (a0 : relief) : Option (Int × (List Breaker) × (List Source) × (List Consumer) × Int × Int × (List Bool) × (List Running) × (List Int) × (List Part) × (List Bool) × (List Running) × (List Int) × (List Part) × (List Act)) :=
  Option.bind (relief_clear_v1 a0) fun x1 =>
    Option.bind
      (relief_shed_v1
        (relief.mk
          (Board.mk x1.1 x1.2.1 x1.2.2.1 x1.2.2.2.1 x1.2.2.2.2.1
            x1.2.2.2.2.2.1)
          (Power.mk x1.2.2.2.2.2.2.2.2.2.2.1 x1.2.2.2.2.2.2.2.2.2.2.2.1
            x1.2.2.2.2.2.2.2.2.2.2.2.2.1
            x1.2.2.2.2.2.2.2.2.2.2.2.2.2.1)
          x1.2.2.2.2.2.2.2.2.2.2.2.2.2.2))
      fun x2 =>
      some
        (x2.1, x2.2.1, x2.2.2.1, x2.2.2.2.1, x2.2.2.2.2.1, x2.2.2.2.2.2.1,
          x1.2.2.2.2.2.2.1, x1.2.2.2.2.2.2.2.1, x1.2.2.2.2.2.2.2.2.1,
          x1.2.2.2.2.2.2.2.2.2.1, x2.2.2.2.2.2.2.1,
          x2.2.2.2.2.2.2.2.1, x2.2.2.2.2.2.2.2.2.1,
          x2.2.2.2.2.2.2.2.2.2.1, x2.2.2.2.2.2.2.2.2.2.2)
noncomputable def c69_1 : Con D := ⟨69, [.lf (.int .i64), .lf (.sl 5), .lf (.sl 6), .lf (.sl 7), .lf (.int .i64), .lf (.int .i64), .lf (.sl 1), .lf (.sl 9), .lf (.sl 0), .lf (.sl 10), .lf (.sl 11)], [.lf (.int .i64), .lf (.sl 5), .lf (.sl 6), .lf (.sl 7), .lf (.int .i64), .lf (.int .i64), .lf (.sl 1), .lf (.sl 9), .lf (.sl 0), .lf (.sl 10), .lf (.sl 1), .lf (.sl 9), .lf (.sl 0), .lf (.sl 10), .lf (.sl 11)], [.one (.ptr 1000 0)], [(1000, .box [.h 0 [], .h 1 [0], .h 2 [0], .h 3 [0], .h 4 [], .h 5 [], .own 1001, .own 1002, .own 1003, .own 1004, .own 1005]), (1001, .sl 1 4 6 []), (1002, .sl 9 48 7 []), (1003, .sl 0 3 8 []), (1004, .sl 10 84 9 []), (1005, .sl 11 74 10 [])], [], [(1000, .box [.h 0 [], .h 1 [0], .h 2 [0], .h 3 [0], .h 4 [], .h 5 [], .own 1006, .own 1007, .own 1008, .own 1009, .own 1010]), (1001, .sl 1 4 6 []), (1002, .sl 9 48 7 []), (1003, .sl 0 3 8 []), (1004, .sl 10 84 9 []), (1006, .sl 1 4 10 []), (1007, .sl 9 48 11 []), (1008, .sl 0 3 12 []), (1009, .sl 10 84 13 []), (1010, .sl 11 74 14 [])], fun h => shed_Protect_1_v1 ⟨⟨h.1, h.2.1, h.2.2.1, h.2.2.2.1, h.2.2.2.2.1, h.2.2.2.2.2.1⟩, ⟨h.2.2.2.2.2.2.1, h.2.2.2.2.2.2.2.1, h.2.2.2.2.2.2.2.2.1, h.2.2.2.2.2.2.2.2.2.1⟩, h.2.2.2.2.2.2.2.2.2.2⟩⟩
theorem c69_1_ok : ConOk Tryz.prog T c69_1 := fn_ok (Φ := [c44_1, c48_1]) (rs := []) (an := .o) pOk repOk (AllC.mem (⟨c44_1_ok, c48_1_ok, trivial⟩ : AllC _ _ [c44_1, c48_1])) hmix Tryz.call69 Tryz.func69 rfl rfl (by kernel_rfl) (fun h => by kernel_rfl)

noncomputable def shed_relieve_v2 (a0 : Board) (a1 : Power) : Option (Int × (List Bool) × (List Running) × (List Int) × (List Part) × (List Act)) :=
  Option.bind (board_State a0 a1) fun x1 =>
    if (x1 != 0) = true then some (x1, [], [], [], [], [])
    else
      Option.bind (states_Clone a1) fun x2 =>
        Option.bind (shed_Protect_1_v1 (relief.mk a0 (Power.mk x2.1 x2.2.1 x2.2.2.1 x2.2.2.2) []))
          fun x3 =>
          some
            (0, x3.2.2.2.2.2.2.2.2.2.2.1,
              x3.2.2.2.2.2.2.2.2.2.2.2.1,
              x3.2.2.2.2.2.2.2.2.2.2.2.2.1,
              x3.2.2.2.2.2.2.2.2.2.2.2.2.2.1,
              x3.2.2.2.2.2.2.2.2.2.2.2.2.2.2)
noncomputable def c43 : Con D := ⟨43, [.lf (.int .i64), .lf (.sl 5), .lf (.sl 6), .lf (.sl 7), .lf (.int .i64), .lf (.int .i64), .lf (.sl 1), .lf (.sl 9), .lf (.sl 0), .lf (.sl 10)], [.lf (.int .i64), .lf (.sl 1), .lf (.sl 9), .lf (.sl 0), .lf (.sl 10), .lf (.sl 11)], [.agg [.h 0 [], .h 1 [0], .h 2 [0], .h 3 [0], .h 4 [], .h 5 []], .agg [.h 6 [0], .h 7 [0], .h 8 [0], .h 9 [0]], .one (.fn 69 [])], [], [.agg [.own 1000, .own 1001, .own 1002, .own 1003], .one (.own 1004), .one (.h 0 [])], [(1000, .sl 1 4 1 []), (1001, .sl 9 48 2 []), (1002, .sl 0 3 3 []), (1003, .sl 10 84 4 []), (1004, .sl 11 74 5 [])], fun h => shed_relieve_v2 ⟨h.1, h.2.1, h.2.2.1, h.2.2.2.1, h.2.2.2.2.1, h.2.2.2.2.2.1⟩ ⟨h.2.2.2.2.2.2.1, h.2.2.2.2.2.2.2.1, h.2.2.2.2.2.2.2.2.1, h.2.2.2.2.2.2.2.2.2⟩⟩
theorem c43_ok : ConOk Tryz.prog T c43 := fn_ok (Φ := [c69_1, c70, c80]) (rs := [.cell 6 34, .tmp 7, .tmp 8]) (an := .o) pOk repOk (AllC.mem (⟨c69_1_ok, c70_ok, c80_ok, trivial⟩ : AllC _ _ [c69_1, c70, c80])) hmix Tryz.call43 Tryz.func43 rfl rfl (by kernel_rfl) (fun h => by kernel_rfl)

noncomputable def shed_Protect (a0 : Board) (a1 : Power) : Option (Int × (List Bool) × (List Running) × (List Int) × (List Part) × (List Act)) :=
  Option.bind (shed_relieve_v2 a0 a1) fun x1 =>
    some (x1.1, x1.2.1, x1.2.2.1, x1.2.2.2.1, x1.2.2.2.2.1, x1.2.2.2.2.2)
noncomputable def c35 : Con D := ⟨35, [.lf (.int .i64), .lf (.sl 5), .lf (.sl 6), .lf (.sl 7), .lf (.int .i64), .lf (.int .i64), .lf (.sl 1), .lf (.sl 9), .lf (.sl 0), .lf (.sl 10)], [.lf (.int .i64), .lf (.sl 1), .lf (.sl 9), .lf (.sl 0), .lf (.sl 10), .lf (.sl 11)], [.agg [.h 0 [], .h 1 [0], .h 2 [0], .h 3 [0], .h 4 [], .h 5 []], .agg [.h 6 [0], .h 7 [0], .h 8 [0], .h 9 [0]]], [], [.agg [.own 1000, .own 1001, .own 1002, .own 1003], .one (.own 1004), .one (.h 0 [])], [(1000, .sl 1 4 1 []), (1001, .sl 9 48 2 []), (1002, .sl 0 3 3 []), (1003, .sl 10 84 4 []), (1004, .sl 11 74 5 [])], fun h => shed_Protect ⟨h.1, h.2.1, h.2.2.1, h.2.2.2.1, h.2.2.2.2.1, h.2.2.2.2.2.1⟩ ⟨h.2.2.2.2.2.2.1, h.2.2.2.2.2.2.2.1, h.2.2.2.2.2.2.2.2.1, h.2.2.2.2.2.2.2.2.2⟩⟩
theorem c35_ok : ConOk Tryz.prog T c35 := fn_ok (Φ := [c43]) (rs := [.cell 4 34, .tmp 5, .tmp 6]) (an := .o) pOk repOk (AllC.mem (⟨c43_ok, trivial⟩ : AllC _ _ [c43])) hmix Tryz.call35 Tryz.func35 rfl rfl (by kernel_rfl) (fun h => by kernel_rfl)

noncomputable def slices_IndexFunc_int_int_flat_v1_L1 (a0 : List
  Int) (a1 : Island) : Int →
  Option
    (Int ⊕
      Unit ⊕
        Int) := fun x1 =>
  if decide (x1 < len a0) = true then
    Option.bind (idx a0 x1) fun x2 =>
      Option.bind (shed_Check_1 x2 a1) fun x3 =>
        if x3 = true then some (.inr (.inr x1)) else some (.inl (W (x1 + 1)))
  else some (.inr (.inl ()))
noncomputable def slices_IndexFunc_int_int_flat_v1 (a0 : (List Int)) (a1 : Island) : Option (Int) :=
  Option.bind (loopO (slices_IndexFunc_int_int_flat_v1_L1 a0 a1) 0) fun x4 =>
    Sum.elim (fun x5 => some (-1)) (fun x6 => some x6) x4
noncomputable def c103_1 : Con D := ⟨103, [.lf (.sl 0), .el 13], [.lf (.int .i64)], [.one (.h 0 [0]), .one (.fn 76 [.rp 1 13 [0]])], [], [.one (.h 0 [])], [], fun h => slices_IndexFunc_int_int_flat_v1 h.1 h.2⟩
theorem c103_1_ok : ConOk Tryz.prog T c103_1 := fn_ok (Φ := [c76]) (rs := [.tmp 4]) (an := (.n none .o (.n none (.n none .o (.n none (.loop ⟨[.lf (.int .i64)], [(8, .one (.h 0 []))], [], [], 2320⟩ false [(.exit 0, ⟨[], [], [], [], 2320⟩)] .o) .o)) .o))) pOk repOk (AllC.mem (⟨c76_ok, trivial⟩ : AllC _ _ [c76])) hmix Tryz.call103 Tryz.func103 rfl rfl (by kernel_rfl) (fun h => by kernel_rfl)

noncomputable def slices_DeleteFunc_int_int_v1_L1 (a1 : Island) : Int × Int × List Int →
  Option
    (Int × Int × List Int ⊕
      Int ×
        List
          Int) := fun x2 =>
  if decide (x2.2.1 < len x2.2.2) = true then
    Option.bind (idx x2.2.2 x2.2.1) fun x3 =>
      Option.bind (shed_Check_1 x3 a1) fun x4 =>
        Option.bind
          (if (!x4) = true then
            Option.bind (idx x2.2.2 x2.1) fun x5 =>
              Option.bind (idx x2.2.2 x2.1) fun x6 =>
                Option.bind (setO x2.2.2 x2.1 x3) fun x7 => some (W (x2.1 + 1), x7)
          else some (x2.1, x2.2.2))
          fun x8 => some (.inl (x8.1, W (x2.2.1 + 1), x8.2))
  else some (.inr (x2.1, x2.2.2))
noncomputable def slices_DeleteFunc_int_int_v1 (a0 : (List Int)) (a1 : Island) : Option ((List Int)) :=
  Option.bind (slices_IndexFunc_int_int_flat_v1 a0 a1) fun x1 =>
    if (x1 == (-1)) = true then some a0
    else
      Option.bind (loopO (slices_DeleteFunc_int_int_v1_L1 a1) (x1, W (x1 + 1), a0)) fun x9 =>
        Option.bind (slc x9.2 x9.1 (len x9.2)) fun x10 =>
          Option.bind (slc (clrT 0 x9.2 x9.1) 0 x9.1) fun x11 => some x11
noncomputable def c74_1 : Con D := ⟨74, [.lf (.sl 0), .el 13], [.lf (.sl 0)], [.one (.own 1000), .one (.fn 76 [.rp 1 13 [0]])], [(1000, .sl 0 3 0 [])], [.one (.own 1001)], [(1001, .sl 0 3 0 [])], fun h => slices_DeleteFunc_int_int_v1 h.1 h.2⟩
theorem c74_1_ok : ConOk Tryz.prog T c74_1 := fn_ok (Φ := [c76, c103_1]) (rs := [.tmp 4]) (an := (.n none .o (.n none .o (.n none .o (.n none (.n none .o (.n none (.loop ⟨[.lf (.int .i64), .lf (.int .i64), .lf (.sl 0)], [(5, .one (.h 0 [])), (6, .one (.h 1 []))], [(1000, .sl 0 3 2 [])], [1000], 2704⟩ true [(.exit 0, ⟨[.lf (.int .i64), .lf (.sl 0)], [(5, .one (.h 0 []))], [(1000, .sl 0 3 1 [])], [1000], 2704⟩)] (.n none .o (.n none (.n none (.n none .o (.n none .o (.n (some (true, [(.normal, ⟨[.lf (.int .i64), .lf (.sl 0)], [(5, .one (.h 0 []))], [(1000, .sl 0 3 1 [])], [1000], 3603⟩)])) .o .o))) .o) .o))) .o)) .o))))) pOk repOk (AllC.mem (⟨c76_ok, c103_1_ok, trivial⟩ : AllC _ _ [c76, c103_1])) hmix Tryz.call74 Tryz.func74 rfl rfl (by kernel_rfl) (fun h => by kernel_rfl)

noncomputable def slices_IndexFunc_int_int_flat_v4_L1 (a0 : List
  Int) : Int ×
    Int × List Breaker × List Source × List Consumer × Int × Int × List Bool × List Running × List Int × List Part →
  Option
    (Int ×
        Int × List Breaker × List Source × List Consumer × Int × Int × List Bool × List Running × List Int × List Part ⊕
      Int × List Breaker × List Source × List Consumer × Int × Int × List Bool × List Running × List Int × List Part ⊕
        Int ×
          Int ×
            List Breaker ×
              List Source ×
                List Consumer ×
                  Int ×
                    Int ×
                      List Bool ×
                        List Running ×
                          List Int ×
                            List
                              Part) := fun x1 =>
  if decide (x1.1 < len a0) = true then
    Option.bind (idx a0 x1.1) fun x2 =>
      Option.bind
        (shed_ordered_2_v2 x2 x1.2.1 x1.2.2.1 x1.2.2.2.1 x1.2.2.2.2.1
          x1.2.2.2.2.2.1 x1.2.2.2.2.2.2.1 x1.2.2.2.2.2.2.2.1
          x1.2.2.2.2.2.2.2.2.1 x1.2.2.2.2.2.2.2.2.2.1
          x1.2.2.2.2.2.2.2.2.2.2)
        fun x3 =>
        if x3.1 = true then
          some
            (.inr
              (.inr
                (x1.1, x3.2.1, x3.2.2.1, x3.2.2.2.1, x3.2.2.2.2.1,
                  x3.2.2.2.2.2.1, x3.2.2.2.2.2.2.1, x3.2.2.2.2.2.2.2.1,
                  x3.2.2.2.2.2.2.2.2.1, x3.2.2.2.2.2.2.2.2.2.1,
                  x3.2.2.2.2.2.2.2.2.2.2)))
        else
          some
            (.inl
              (W (x1.1 + 1), x3.2.1, x3.2.2.1, x3.2.2.2.1, x3.2.2.2.2.1,
                x3.2.2.2.2.2.1, x3.2.2.2.2.2.2.1, x3.2.2.2.2.2.2.2.1,
                x3.2.2.2.2.2.2.2.2.1, x3.2.2.2.2.2.2.2.2.2.1,
                x3.2.2.2.2.2.2.2.2.2.2))
  else
    some
      (.inr
        (.inl
          (x1.2.1, x1.2.2.1, x1.2.2.2.1, x1.2.2.2.2.1, x1.2.2.2.2.2.1,
            x1.2.2.2.2.2.2.1, x1.2.2.2.2.2.2.2.1, x1.2.2.2.2.2.2.2.2.1,
            x1.2.2.2.2.2.2.2.2.2.1, x1.2.2.2.2.2.2.2.2.2.2)))
noncomputable def slices_IndexFunc_int_int_flat_v4 (a0 : (List Int)) (a1 : Int) (a2 : (List Breaker)) (a3 : (List Source)) (a4 : (List Consumer)) (a5 : Int) (a6 : Int) (a7 : (List Bool)) (a8 : (List Running)) (a9 : (List Int)) (a10 : (List Part)) : Option (Int × Int × (List Breaker) × (List Source) × (List Consumer) × Int × Int × (List Bool) × (List Running) × (List Int) × (List Part)) :=
  Option.bind (loopO (slices_IndexFunc_int_int_flat_v4_L1 a0) (0, a1, a2, a3, a4, a5, a6, a7, a8, a9, a10))
    fun x4 =>
    Sum.elim
      (fun x5 =>
        some
          ((-1), x5.1, x5.2.1, x5.2.2.1, x5.2.2.2.1, x5.2.2.2.2.1,
            x5.2.2.2.2.2.1, x5.2.2.2.2.2.2.1, x5.2.2.2.2.2.2.2.1,
            x5.2.2.2.2.2.2.2.2.1, x5.2.2.2.2.2.2.2.2.2))
      (fun x6 => some x6) x4
noncomputable def c103_4 : Con D := ⟨103, [.lf (.sl 0), .lf (.int .i64), .lf (.sl 5), .lf (.sl 6), .lf (.sl 7), .lf (.int .i64), .lf (.int .i64), .lf (.sl 1), .lf (.sl 9), .lf (.sl 0), .lf (.sl 10)], [.lf (.int .i64), .lf (.int .i64), .lf (.sl 5), .lf (.sl 6), .lf (.sl 7), .lf (.int .i64), .lf (.int .i64), .lf (.sl 1), .lf (.sl 9), .lf (.sl 0), .lf (.sl 10)], [.one (.h 0 [0]), .one (.fn 119 [.ptr 1000 0, .ptr 1002 0, .ptr 1001 0])], [(1000, .box [.fn 118 [.ptr 1001 0, .ptr 1002 0]]), (1001, .box [.h 1 [], .h 2 [0], .h 3 [0], .h 4 [0], .h 5 [], .h 6 []]), (1002, .box [.h 7 [0], .h 8 [0], .h 9 [0], .h 10 [0]])], [.one (.h 0 [])], [(1000, .box [.fn 118 [.ptr 1001 0, .ptr 1002 0]]), (1001, .box [.h 1 [], .h 2 [0], .h 3 [0], .h 4 [0], .h 5 [], .h 6 []]), (1002, .box [.h 7 [0], .h 8 [0], .h 9 [0], .h 10 [0]])], fun h => slices_IndexFunc_int_int_flat_v4 h.1 h.2.1 h.2.2.1 h.2.2.2.1 h.2.2.2.2.1 h.2.2.2.2.2.1 h.2.2.2.2.2.2.1 h.2.2.2.2.2.2.2.1 h.2.2.2.2.2.2.2.2.1 h.2.2.2.2.2.2.2.2.2.1 h.2.2.2.2.2.2.2.2.2.2⟩
theorem c103_4_ok : ConOk Tryz.prog T c103_4 := fn_ok (Φ := [c119_2]) (rs := [.tmp 4]) (an := (.n none .o (.n none (.n none .o (.n none (.loop ⟨[.lf (.int .i64), .lf (.int .i64), .lf (.sl 5), .lf (.sl 6), .lf (.sl 7), .lf (.int .i64), .lf (.int .i64), .lf (.sl 1), .lf (.sl 9), .lf (.sl 0), .lf (.sl 10)], [(8, .one (.h 0 []))], [(1000, .box [.fn 118 [.ptr 1001 0, .ptr 1002 0]]), (1001, .box [.h 1 [], .h 2 [0], .h 3 [0], .h 4 [0], .h 5 [], .h 6 []]), (1002, .box [.h 7 [0], .h 8 [0], .h 9 [0], .h 10 [0]])], [1000, 1001, 1002], 2320⟩ false [(.exit 0, ⟨[.lf (.int .i64), .lf (.sl 5), .lf (.sl 6), .lf (.sl 7), .lf (.int .i64), .lf (.int .i64), .lf (.sl 1), .lf (.sl 9), .lf (.sl 0), .lf (.sl 10)], [], [(1000, .box [.fn 118 [.ptr 1001 0, .ptr 1002 0]]), (1001, .box [.h 0 [], .h 1 [0], .h 2 [0], .h 3 [0], .h 4 [], .h 5 []]), (1002, .box [.h 6 [0], .h 7 [0], .h 8 [0], .h 9 [0]])], [1000, 1001, 1002], 2320⟩)] .o) .o)) .o))) pOk repOk (AllC.mem (⟨c119_2_ok, trivial⟩ : AllC _ _ [c119_2])) hmix Tryz.call103 Tryz.func103 rfl rfl (by kernel_rfl) (fun h => by kernel_rfl)

noncomputable def slices_ContainsFunc_int_int_flat_v2 (a0 : (List Int)) (a1 : Int) (a2 : (List Breaker)) (a3 : (List Source)) (a4 : (List Consumer)) (a5 : Int) (a6 : Int) (a7 : (List Bool)) (a8 : (List Running)) (a9 : (List Int)) (a10 : (List Part)) : Option (Bool × Int × (List Breaker) × (List Source) × (List Consumer) × Int × Int × (List Bool) × (List Running) × (List Int) × (List Part)) :=
  Option.bind (slices_IndexFunc_int_int_flat_v4 a0 a1 a2 a3 a4 a5 a6 a7 a8 a9 a10) fun x1 =>
    some
      (decide (x1.1 ≥ 0), x1.2.1, x1.2.2.1, x1.2.2.2.1, x1.2.2.2.2.1,
        x1.2.2.2.2.2.1, x1.2.2.2.2.2.2.1, x1.2.2.2.2.2.2.2.1,
        x1.2.2.2.2.2.2.2.2.1, x1.2.2.2.2.2.2.2.2.2.1,
        x1.2.2.2.2.2.2.2.2.2.2)
noncomputable def c66_2 : Con D := ⟨66, [.lf (.sl 0), .lf (.int .i64), .lf (.sl 5), .lf (.sl 6), .lf (.sl 7), .lf (.int .i64), .lf (.int .i64), .lf (.sl 1), .lf (.sl 9), .lf (.sl 0), .lf (.sl 10)], [.lf .bool, .lf (.int .i64), .lf (.sl 5), .lf (.sl 6), .lf (.sl 7), .lf (.int .i64), .lf (.int .i64), .lf (.sl 1), .lf (.sl 9), .lf (.sl 0), .lf (.sl 10)], [.one (.h 0 [0]), .one (.fn 119 [.ptr 1000 0, .ptr 1002 0, .ptr 1001 0])], [(1000, .box [.fn 118 [.ptr 1001 0, .ptr 1002 0]]), (1001, .box [.h 1 [], .h 2 [0], .h 3 [0], .h 4 [0], .h 5 [], .h 6 []]), (1002, .box [.h 7 [0], .h 8 [0], .h 9 [0], .h 10 [0]])], [.one (.h 0 [])], [(1000, .box [.fn 118 [.ptr 1001 0, .ptr 1002 0]]), (1001, .box [.h 1 [], .h 2 [0], .h 3 [0], .h 4 [0], .h 5 [], .h 6 []]), (1002, .box [.h 7 [0], .h 8 [0], .h 9 [0], .h 10 [0]])], fun h => slices_ContainsFunc_int_int_flat_v2 h.1 h.2.1 h.2.2.1 h.2.2.2.1 h.2.2.2.2.1 h.2.2.2.2.2.1 h.2.2.2.2.2.2.1 h.2.2.2.2.2.2.2.1 h.2.2.2.2.2.2.2.2.1 h.2.2.2.2.2.2.2.2.2.1 h.2.2.2.2.2.2.2.2.2.2⟩
theorem c66_2_ok : ConOk Tryz.prog T c66_2 := fn_ok (Φ := [c103_4]) (rs := [.tmp 4]) (an := .o) pOk repOk (AllC.mem (⟨c103_4_ok, trivial⟩ : AllC _ _ [c103_4])) hmix Tryz.call66 Tryz.func66 rfl rfl (by kernel_rfl) (fun h => by kernel_rfl)

noncomputable def shed_ordered_3_v2 (a0 : Int) (a1 : Int) (a2 : (List Breaker)) (a3 : (List Source)) (a4 : (List Consumer)) (a5 : Int) (a6 : Int) (a7 : (List Bool)) (a8 : (List Running)) (a9 : (List Int)) (a10 : (List Part)) : Option (Bool × Int × (List Breaker) × (List Source) × (List Consumer) × Int × Int × (List Bool) × (List Running) × (List Int) × (List Part)) :=
  Option.bind
    (Option.bind (shed_ordered_1_v1 a0 a1 a2 a3 a4 a5 a6 a7 a8 a9 a10) fun x1 =>
      if x1.1 = true then
        Option.bind (idx x1.2.2.2.2.2.2.2.2.2.1 a0) fun x2 =>
          some
            (decide (x2 > 0), x1.2.1, x1.2.2.1, x1.2.2.2.1, x1.2.2.2.2.1,
              x1.2.2.2.2.2.1, x1.2.2.2.2.2.2.1, x1.2.2.2.2.2.2.2.1,
              x1.2.2.2.2.2.2.2.2.1, x1.2.2.2.2.2.2.2.2.2.1,
              x1.2.2.2.2.2.2.2.2.2.2)
      else
        some
          (false, x1.2.1, x1.2.2.1, x1.2.2.2.1, x1.2.2.2.2.1, x1.2.2.2.2.2.1,
            x1.2.2.2.2.2.2.1, x1.2.2.2.2.2.2.2.1, x1.2.2.2.2.2.2.2.2.1,
            x1.2.2.2.2.2.2.2.2.2.1, x1.2.2.2.2.2.2.2.2.2.2))
    fun x3 =>
    some
      (x3.1, x3.2.1, x3.2.2.1, x3.2.2.2.1, x3.2.2.2.2.1, x3.2.2.2.2.2.1,
        x3.2.2.2.2.2.2.1, x3.2.2.2.2.2.2.2.1, x3.2.2.2.2.2.2.2.2.1,
        x3.2.2.2.2.2.2.2.2.2.1, x3.2.2.2.2.2.2.2.2.2.2)
noncomputable def c120_2 : Con D := ⟨120, [.lf (.int .i64), .lf (.int .i64), .lf (.sl 5), .lf (.sl 6), .lf (.sl 7), .lf (.int .i64), .lf (.int .i64), .lf (.sl 1), .lf (.sl 9), .lf (.sl 0), .lf (.sl 10)], [.lf .bool, .lf (.int .i64), .lf (.sl 5), .lf (.sl 6), .lf (.sl 7), .lf (.int .i64), .lf (.int .i64), .lf (.sl 1), .lf (.sl 9), .lf (.sl 0), .lf (.sl 10)], [.one (.h 0 []), .one (.ptr 1000 0), .one (.ptr 1002 0)], [(1000, .box [.fn 118 [.ptr 1001 0, .ptr 1002 0]]), (1001, .box [.h 1 [], .h 2 [0], .h 3 [0], .h 4 [0], .h 5 [], .h 6 []]), (1002, .box [.h 7 [0], .h 8 [0], .h 9 [0], .h 10 [0]])], [.one (.h 0 [])], [(1000, .box [.fn 118 [.ptr 1001 0, .ptr 1002 0]]), (1001, .box [.h 1 [], .h 2 [0], .h 3 [0], .h 4 [0], .h 5 [], .h 6 []]), (1002, .box [.h 7 [0], .h 8 [0], .h 9 [0], .h 10 [0]])], fun h => shed_ordered_3_v2 h.1 h.2.1 h.2.2.1 h.2.2.2.1 h.2.2.2.2.1 h.2.2.2.2.2.1 h.2.2.2.2.2.2.1 h.2.2.2.2.2.2.2.1 h.2.2.2.2.2.2.2.2.1 h.2.2.2.2.2.2.2.2.2.1 h.2.2.2.2.2.2.2.2.2.2⟩
theorem c120_2_ok : ConOk Tryz.prog T c120_2 := fn_ok (Φ := [c118_1]) (rs := [.tmp 4]) (an := (.n none .o (.n none (.r (some (true, [(.normal, ⟨[.lf .bool, .lf (.int .i64), .lf (.sl 5), .lf (.sl 6), .lf (.sl 7), .lf (.int .i64), .lf (.int .i64), .lf (.sl 1), .lf (.sl 9), .lf (.sl 0), .lf (.sl 10)], [(4, .one (.h 0 []))], [(1001, .box [.h 1 [], .h 2 [0], .h 3 [0], .h 4 [0], .h 5 [], .h 6 []]), (1002, .box [.h 7 [0], .h 8 [0], .h 9 [0], .h 10 [0]])], [1001, 1002], 2128⟩)])) .nil) .o))) pOk repOk (AllC.mem (⟨c118_1_ok, trivial⟩ : AllC _ _ [c118_1])) hmix Tryz.call120 Tryz.func120 rfl rfl (by kernel_rfl) (fun h => by kernel_rfl)

noncomputable def slices_IndexFunc_int_int_flat_v7_L1 (a0 : List
  Int) : Int ×
    Int × List Breaker × List Source × List Consumer × Int × Int × List Bool × List Running × List Int × List Part →
  Option
    (Int ×
        Int × List Breaker × List Source × List Consumer × Int × Int × List Bool × List Running × List Int × List Part ⊕
      Int × List Breaker × List Source × List Consumer × Int × Int × List Bool × List Running × List Int × List Part ⊕
        Int ×
          Int ×
            List Breaker ×
              List Source ×
                List Consumer ×
                  Int ×
                    Int ×
                      List Bool ×
                        List Running ×
                          List Int ×
                            List
                              Part) := fun x1 =>
  if decide (x1.1 < len a0) = true then
    Option.bind (idx a0 x1.1) fun x2 =>
      Option.bind
        (shed_ordered_3_v2 x2 x1.2.1 x1.2.2.1 x1.2.2.2.1 x1.2.2.2.2.1
          x1.2.2.2.2.2.1 x1.2.2.2.2.2.2.1 x1.2.2.2.2.2.2.2.1
          x1.2.2.2.2.2.2.2.2.1 x1.2.2.2.2.2.2.2.2.2.1
          x1.2.2.2.2.2.2.2.2.2.2)
        fun x3 =>
        if x3.1 = true then
          some
            (.inr
              (.inr
                (x1.1, x3.2.1, x3.2.2.1, x3.2.2.2.1, x3.2.2.2.2.1,
                  x3.2.2.2.2.2.1, x3.2.2.2.2.2.2.1, x3.2.2.2.2.2.2.2.1,
                  x3.2.2.2.2.2.2.2.2.1, x3.2.2.2.2.2.2.2.2.2.1,
                  x3.2.2.2.2.2.2.2.2.2.2)))
        else
          some
            (.inl
              (W (x1.1 + 1), x3.2.1, x3.2.2.1, x3.2.2.2.1, x3.2.2.2.2.1,
                x3.2.2.2.2.2.1, x3.2.2.2.2.2.2.1, x3.2.2.2.2.2.2.2.1,
                x3.2.2.2.2.2.2.2.2.1, x3.2.2.2.2.2.2.2.2.2.1,
                x3.2.2.2.2.2.2.2.2.2.2))
  else
    some
      (.inr
        (.inl
          (x1.2.1, x1.2.2.1, x1.2.2.2.1, x1.2.2.2.2.1, x1.2.2.2.2.2.1,
            x1.2.2.2.2.2.2.1, x1.2.2.2.2.2.2.2.1, x1.2.2.2.2.2.2.2.2.1,
            x1.2.2.2.2.2.2.2.2.2.1, x1.2.2.2.2.2.2.2.2.2.2)))
noncomputable def slices_IndexFunc_int_int_flat_v7 (a0 : (List Int)) (a1 : Int) (a2 : (List Breaker)) (a3 : (List Source)) (a4 : (List Consumer)) (a5 : Int) (a6 : Int) (a7 : (List Bool)) (a8 : (List Running)) (a9 : (List Int)) (a10 : (List Part)) : Option (Int × Int × (List Breaker) × (List Source) × (List Consumer) × Int × Int × (List Bool) × (List Running) × (List Int) × (List Part)) :=
  Option.bind (loopO (slices_IndexFunc_int_int_flat_v7_L1 a0) (0, a1, a2, a3, a4, a5, a6, a7, a8, a9, a10))
    fun x4 =>
    Sum.elim
      (fun x5 =>
        some
          ((-1), x5.1, x5.2.1, x5.2.2.1, x5.2.2.2.1, x5.2.2.2.2.1,
            x5.2.2.2.2.2.1, x5.2.2.2.2.2.2.1, x5.2.2.2.2.2.2.2.1,
            x5.2.2.2.2.2.2.2.2.1, x5.2.2.2.2.2.2.2.2.2))
      (fun x6 => some x6) x4
noncomputable def c103_7 : Con D := ⟨103, [.lf (.sl 0), .lf (.int .i64), .lf (.sl 5), .lf (.sl 6), .lf (.sl 7), .lf (.int .i64), .lf (.int .i64), .lf (.sl 1), .lf (.sl 9), .lf (.sl 0), .lf (.sl 10)], [.lf (.int .i64), .lf (.int .i64), .lf (.sl 5), .lf (.sl 6), .lf (.sl 7), .lf (.int .i64), .lf (.int .i64), .lf (.sl 1), .lf (.sl 9), .lf (.sl 0), .lf (.sl 10)], [.one (.h 0 [0]), .one (.fn 120 [.ptr 1000 0, .ptr 1002 0])], [(1000, .box [.fn 118 [.ptr 1001 0, .ptr 1002 0]]), (1001, .box [.h 1 [], .h 2 [0], .h 3 [0], .h 4 [0], .h 5 [], .h 6 []]), (1002, .box [.h 7 [0], .h 8 [0], .h 9 [0], .h 10 [0]])], [.one (.h 0 [])], [(1000, .box [.fn 118 [.ptr 1001 0, .ptr 1002 0]]), (1001, .box [.h 1 [], .h 2 [0], .h 3 [0], .h 4 [0], .h 5 [], .h 6 []]), (1002, .box [.h 7 [0], .h 8 [0], .h 9 [0], .h 10 [0]])], fun h => slices_IndexFunc_int_int_flat_v7 h.1 h.2.1 h.2.2.1 h.2.2.2.1 h.2.2.2.2.1 h.2.2.2.2.2.1 h.2.2.2.2.2.2.1 h.2.2.2.2.2.2.2.1 h.2.2.2.2.2.2.2.2.1 h.2.2.2.2.2.2.2.2.2.1 h.2.2.2.2.2.2.2.2.2.2⟩
theorem c103_7_ok : ConOk Tryz.prog T c103_7 := fn_ok (Φ := [c120_2]) (rs := [.tmp 4]) (an := (.n none .o (.n none (.n none .o (.n none (.loop ⟨[.lf (.int .i64), .lf (.int .i64), .lf (.sl 5), .lf (.sl 6), .lf (.sl 7), .lf (.int .i64), .lf (.int .i64), .lf (.sl 1), .lf (.sl 9), .lf (.sl 0), .lf (.sl 10)], [(8, .one (.h 0 []))], [(1000, .box [.fn 118 [.ptr 1001 0, .ptr 1002 0]]), (1001, .box [.h 1 [], .h 2 [0], .h 3 [0], .h 4 [0], .h 5 [], .h 6 []]), (1002, .box [.h 7 [0], .h 8 [0], .h 9 [0], .h 10 [0]])], [1000, 1001, 1002], 2320⟩ false [(.exit 0, ⟨[.lf (.int .i64), .lf (.sl 5), .lf (.sl 6), .lf (.sl 7), .lf (.int .i64), .lf (.int .i64), .lf (.sl 1), .lf (.sl 9), .lf (.sl 0), .lf (.sl 10)], [], [(1000, .box [.fn 118 [.ptr 1001 0, .ptr 1002 0]]), (1001, .box [.h 0 [], .h 1 [0], .h 2 [0], .h 3 [0], .h 4 [], .h 5 []]), (1002, .box [.h 6 [0], .h 7 [0], .h 8 [0], .h 9 [0]])], [1000, 1001, 1002], 2320⟩)] .o) .o)) .o))) pOk repOk (AllC.mem (⟨c120_2_ok, trivial⟩ : AllC _ _ [c120_2])) hmix Tryz.call103 Tryz.func103 rfl rfl (by kernel_rfl) (fun h => by kernel_rfl)

noncomputable def slices_ContainsFunc_int_int_flat_v3 (a0 : (List Int)) (a1 : Int) (a2 : (List Breaker)) (a3 : (List Source)) (a4 : (List Consumer)) (a5 : Int) (a6 : Int) (a7 : (List Bool)) (a8 : (List Running)) (a9 : (List Int)) (a10 : (List Part)) : Option (Bool × Int × (List Breaker) × (List Source) × (List Consumer) × Int × Int × (List Bool) × (List Running) × (List Int) × (List Part)) :=
  Option.bind (slices_IndexFunc_int_int_flat_v7 a0 a1 a2 a3 a4 a5 a6 a7 a8 a9 a10) fun x1 =>
    some
      (decide (x1.1 ≥ 0), x1.2.1, x1.2.2.1, x1.2.2.2.1, x1.2.2.2.2.1,
        x1.2.2.2.2.2.1, x1.2.2.2.2.2.2.1, x1.2.2.2.2.2.2.2.1,
        x1.2.2.2.2.2.2.2.2.1, x1.2.2.2.2.2.2.2.2.2.1,
        x1.2.2.2.2.2.2.2.2.2.2)
noncomputable def c66_3 : Con D := ⟨66, [.lf (.sl 0), .lf (.int .i64), .lf (.sl 5), .lf (.sl 6), .lf (.sl 7), .lf (.int .i64), .lf (.int .i64), .lf (.sl 1), .lf (.sl 9), .lf (.sl 0), .lf (.sl 10)], [.lf .bool, .lf (.int .i64), .lf (.sl 5), .lf (.sl 6), .lf (.sl 7), .lf (.int .i64), .lf (.int .i64), .lf (.sl 1), .lf (.sl 9), .lf (.sl 0), .lf (.sl 10)], [.one (.h 0 [0]), .one (.fn 120 [.ptr 1000 0, .ptr 1002 0])], [(1000, .box [.fn 118 [.ptr 1001 0, .ptr 1002 0]]), (1001, .box [.h 1 [], .h 2 [0], .h 3 [0], .h 4 [0], .h 5 [], .h 6 []]), (1002, .box [.h 7 [0], .h 8 [0], .h 9 [0], .h 10 [0]])], [.one (.h 0 [])], [(1000, .box [.fn 118 [.ptr 1001 0, .ptr 1002 0]]), (1001, .box [.h 1 [], .h 2 [0], .h 3 [0], .h 4 [0], .h 5 [], .h 6 []]), (1002, .box [.h 7 [0], .h 8 [0], .h 9 [0], .h 10 [0]])], fun h => slices_ContainsFunc_int_int_flat_v3 h.1 h.2.1 h.2.2.1 h.2.2.2.1 h.2.2.2.2.1 h.2.2.2.2.2.1 h.2.2.2.2.2.2.1 h.2.2.2.2.2.2.2.1 h.2.2.2.2.2.2.2.2.1 h.2.2.2.2.2.2.2.2.2.1 h.2.2.2.2.2.2.2.2.2.2⟩
theorem c66_3_ok : ConOk Tryz.prog T c66_3 := fn_ok (Φ := [c103_7]) (rs := [.tmp 4]) (an := .o) pOk repOk (AllC.mem (⟨c103_7_ok, trivial⟩ : AllC _ _ [c103_7])) hmix Tryz.call66 Tryz.func66 rfl rfl (by kernel_rfl) (fun h => by kernel_rfl)

noncomputable def shed_ordered_L1 (a1 : Power) (a3 : List
  Int) : Int ×
    Int × List Breaker × List Source × List Consumer × Int × Int × List Bool × List Running × List Int × List Part →
  Option
    (Int ×
        Int × List Breaker × List Source × List Consumer × Int × Int × List Bool × List Running × List Int × List Part ⊕
      Int × List Breaker × List Source × List Consumer × Int × Int × List Bool × List Running × List Int × List Part ⊕
        Bool) := fun x1 =>
  if decide (x1.1 < len a3) = true then
    Option.bind (idx a3 x1.1) fun x2 =>
      Option.bind (slc a3 0 x1.1) fun x3 =>
        Option.bind
          (Option.bind (idx x1.2.2.2.2.2.2.2.2.2.1 x2) fun x4 =>
            Option.bind (idx a1.Limits x2) fun x5 =>
              if decide (x4 < x5) = true then
                Option.bind
                  (slices_ContainsFunc_int_int_flat_v2 x3 x1.2.1 x1.2.2.1 x1.2.2.2.1
                    x1.2.2.2.2.1 x1.2.2.2.2.2.1 x1.2.2.2.2.2.2.1
                    x1.2.2.2.2.2.2.2.1 x1.2.2.2.2.2.2.2.2.1
                    x1.2.2.2.2.2.2.2.2.2.1 x1.2.2.2.2.2.2.2.2.2.2)
                  fun x8 =>
                  some
                    (x8.1, x8.2.1, x8.2.2.1, x8.2.2.2.1, x8.2.2.2.2.1,
                      x8.2.2.2.2.2.1, x8.2.2.2.2.2.2.1, x8.2.2.2.2.2.2.2.1,
                      x8.2.2.2.2.2.2.2.2.1, x8.2.2.2.2.2.2.2.2.2.1,
                      x8.2.2.2.2.2.2.2.2.2.2)
              else
                Option.bind
                  (shed_ordered_1_v1 x2 x1.2.1 x1.2.2.1 x1.2.2.2.1 x1.2.2.2.2.1
                    x1.2.2.2.2.2.1 x1.2.2.2.2.2.2.1 x1.2.2.2.2.2.2.2.1
                    x1.2.2.2.2.2.2.2.2.1 x1.2.2.2.2.2.2.2.2.2.1
                    x1.2.2.2.2.2.2.2.2.2.2)
                  fun x6 =>
                  if (!x6.1) = true then
                    Option.bind
                      (slices_ContainsFunc_int_int_flat_v2 x3 x6.2.1 x6.2.2.1 x6.2.2.2.1
                        x6.2.2.2.2.1 x6.2.2.2.2.2.1 x6.2.2.2.2.2.2.1
                        x6.2.2.2.2.2.2.2.1 x6.2.2.2.2.2.2.2.2.1
                        x6.2.2.2.2.2.2.2.2.2.1 x6.2.2.2.2.2.2.2.2.2.2)
                      fun x7 =>
                      some
                        (x7.1, x7.2.1, x7.2.2.1, x7.2.2.2.1, x7.2.2.2.2.1,
                          x7.2.2.2.2.2.1, x7.2.2.2.2.2.2.1,
                          x7.2.2.2.2.2.2.2.1, x7.2.2.2.2.2.2.2.2.1,
                          x7.2.2.2.2.2.2.2.2.2.1, x7.2.2.2.2.2.2.2.2.2.2)
                  else
                    some
                      (false, x6.2.1, x6.2.2.1, x6.2.2.2.1, x6.2.2.2.2.1,
                        x6.2.2.2.2.2.1, x6.2.2.2.2.2.2.1, x6.2.2.2.2.2.2.2.1,
                        x6.2.2.2.2.2.2.2.2.1, x6.2.2.2.2.2.2.2.2.2.1,
                        x6.2.2.2.2.2.2.2.2.2.2))
          fun x9 =>
          if x9.1 = true then some (.inr (.inr false))
          else
            Option.bind
              (Option.bind
                (shed_ordered_1_v1 x2 x9.2.1 x9.2.2.1 x9.2.2.2.1 x9.2.2.2.2.1
                  x9.2.2.2.2.2.1 x9.2.2.2.2.2.2.1 x9.2.2.2.2.2.2.2.1
                  x9.2.2.2.2.2.2.2.2.1 x9.2.2.2.2.2.2.2.2.2.1
                  x9.2.2.2.2.2.2.2.2.2.2)
                fun x10 =>
                if (!x10.1) = true then
                  Option.bind
                    (slices_ContainsFunc_int_int_flat_v3 x3 x10.2.1 x10.2.2.1 x10.2.2.2.1
                      x10.2.2.2.2.1 x10.2.2.2.2.2.1 x10.2.2.2.2.2.2.1
                      x10.2.2.2.2.2.2.2.1 x10.2.2.2.2.2.2.2.2.1
                      x10.2.2.2.2.2.2.2.2.2.1 x10.2.2.2.2.2.2.2.2.2.2)
                    fun x11 =>
                    some
                      (x11.1, x11.2.1, x11.2.2.1, x11.2.2.2.1, x11.2.2.2.2.1,
                        x11.2.2.2.2.2.1, x11.2.2.2.2.2.2.1,
                        x11.2.2.2.2.2.2.2.1, x11.2.2.2.2.2.2.2.2.1,
                        x11.2.2.2.2.2.2.2.2.2.1, x11.2.2.2.2.2.2.2.2.2.2)
                else
                  some
                    (false, x10.2.1, x10.2.2.1, x10.2.2.2.1, x10.2.2.2.2.1,
                      x10.2.2.2.2.2.1, x10.2.2.2.2.2.2.1, x10.2.2.2.2.2.2.2.1,
                      x10.2.2.2.2.2.2.2.2.1, x10.2.2.2.2.2.2.2.2.2.1,
                      x10.2.2.2.2.2.2.2.2.2.2))
              fun x12 =>
              if x12.1 = true then some (.inr (.inr false))
              else
                some
                  (.inl
                    (W (x1.1 + 1), x12.2.1, x12.2.2.1, x12.2.2.2.1,
                      x12.2.2.2.2.1, x12.2.2.2.2.2.1, x12.2.2.2.2.2.2.1,
                      x12.2.2.2.2.2.2.2.1, x12.2.2.2.2.2.2.2.2.1,
                      x12.2.2.2.2.2.2.2.2.2.1, x12.2.2.2.2.2.2.2.2.2.2))
  else
    some
      (.inr
        (.inl
          (x1.2.1, x1.2.2.1, x1.2.2.2.1, x1.2.2.2.2.1, x1.2.2.2.2.2.1,
            x1.2.2.2.2.2.2.1, x1.2.2.2.2.2.2.2.1, x1.2.2.2.2.2.2.2.2.1,
            x1.2.2.2.2.2.2.2.2.2.1, x1.2.2.2.2.2.2.2.2.2.2)))
noncomputable def shed_ordered (a0 : Board) (a1 : Power) (a2 : Power) (a3 : (List Int)) : Option (Bool) :=
  Option.bind
    (loopO (shed_ordered_L1 a1 a3)
      (0, a0.Buses, a0.Breakers, a0.Sources, a0.Consumers, a0.Phase, a0.Frequency, a2.Closed, a2.Sources,
        a2.Limits, a2.Broken))
    fun x13 => Sum.elim (fun x14 => some true) (fun x15 => some x15) x13
noncomputable def c78 : Con D := ⟨78, [.lf (.int .i64), .lf (.sl 5), .lf (.sl 6), .lf (.sl 7), .lf (.int .i64), .lf (.int .i64), .lf (.sl 1), .lf (.sl 9), .lf (.sl 0), .lf (.sl 10), .lf (.sl 1), .lf (.sl 9), .lf (.sl 0), .lf (.sl 10), .lf (.sl 0)], [.lf .bool], [.agg [.h 0 [], .h 1 [0], .h 2 [0], .h 3 [0], .h 4 [], .h 5 []], .agg [.h 6 [0], .h 7 [0], .h 8 [0], .h 9 [0]], .agg [.h 10 [0], .h 11 [0], .h 12 [0], .h 13 [0]], .one (.h 14 [0])], [], [.one (.h 0 [])], [], fun h => shed_ordered ⟨h.1, h.2.1, h.2.2.1, h.2.2.2.1, h.2.2.2.2.1, h.2.2.2.2.2.1⟩ ⟨h.2.2.2.2.2.2.1, h.2.2.2.2.2.2.2.1, h.2.2.2.2.2.2.2.2.1, h.2.2.2.2.2.2.2.2.2.1⟩ ⟨h.2.2.2.2.2.2.2.2.2.2.1, h.2.2.2.2.2.2.2.2.2.2.2.1, h.2.2.2.2.2.2.2.2.2.2.2.2.1, h.2.2.2.2.2.2.2.2.2.2.2.2.2.1⟩ h.2.2.2.2.2.2.2.2.2.2.2.2.2.2⟩
theorem c78_ok : ConOk Tryz.prog T c78 := fn_ok (Φ := [c66_2, c66_3, c118_1]) (rs := [.tmp 8]) (an := (.n none .o (.n none .o (.n none (.n none .o (.n none (.loop ⟨[.lf (.int .i64), .lf (.int .i64), .lf (.sl 5), .lf (.sl 6), .lf (.sl 7), .lf (.int .i64), .lf (.int .i64), .lf (.sl 1), .lf (.sl 9), .lf (.sl 0), .lf (.sl 10)], [(17, .one (.h 0 []))], [(2000, .box [.h 1 [], .h 2 [0], .h 3 [0], .h 4 [0], .h 5 [], .h 6 []]), (2128, .box [.h 7 [0], .h 8 [0], .h 9 [0], .h 10 [0]]), (2320, .box [.fn 118 [.ptr 2000 0, .ptr 2128 0]])], [2000, 2128, 2320], 2704⟩ false [(.exit 0, ⟨[.lf (.int .i64), .lf (.sl 5), .lf (.sl 6), .lf (.sl 7), .lf (.int .i64), .lf (.int .i64), .lf (.sl 1), .lf (.sl 9), .lf (.sl 0), .lf (.sl 10)], [], [(2000, .box [.h 0 [], .h 1 [0], .h 2 [0], .h 3 [0], .h 4 [], .h 5 []]), (2128, .box [.h 6 [0], .h 7 [0], .h 8 [0], .h 9 [0]]), (2320, .box [.fn 118 [.ptr 2000 0, .ptr 2128 0]])], [2000, 2128, 2320], 2704⟩)] (.n none .o (.n none .o (.n none (.n none (.n none .o (.n none .o (.n none .o (.n none (.n none (.r (some (true, [(.normal, ⟨[.lf .bool, .lf (.int .i64), .lf (.sl 5), .lf (.sl 6), .lf (.sl 7), .lf (.int .i64), .lf (.int .i64), .lf (.sl 1), .lf (.sl 9), .lf (.sl 0), .lf (.sl 10)], [(38, .one (.any)), (39, .one (.any)), (40, .one (.any)), (41, .one (.any)), (44, .one (.any)), (45, .one (.any)), (46, .one (.any)), (47, .one (.h 0 []))], [(2000, .box [.h 1 [], .h 2 [0], .h 3 [0], .h 4 [0], .h 5 [], .h 6 []]), (2128, .box [.h 7 [0], .h 8 [0], .h 9 [0], .h 10 [0]]), (2320, .box [.fn 118 [.ptr 2000 0, .ptr 2128 0]])], [2000, 2128, 2320], 3547⟩)])) .nil) .o) (.n none (.r (some (true, [(.normal, ⟨[.lf .bool, .lf (.int .i64), .lf (.sl 5), .lf (.sl 6), .lf (.sl 7), .lf (.int .i64), .lf (.int .i64), .lf (.sl 1), .lf (.sl 9), .lf (.sl 0), .lf (.sl 10)], [(53, .one (.any)), (54, .one (.any)), (55, .one (.any)), (56, .one (.h 0 []))], [(2000, .box [.h 1 [], .h 2 [0], .h 3 [0], .h 4 [0], .h 5 [], .h 6 []]), (2128, .box [.h 7 [0], .h 8 [0], .h 9 [0], .h 10 [0]]), (2320, .box [.fn 118 [.ptr 2000 0, .ptr 2128 0]])], [2000, 2128, 2320], 3622⟩)])) .nil) .o))))) .o) .o)))) .o)) .o)))) pOk repOk (AllC.mem (⟨c66_2_ok, c66_3_ok, c118_1_ok, trivial⟩ : AllC _ _ [c66_2, c66_3, c118_1])) hmix Tryz.call78 Tryz.func78 rfl rfl (by kernel_rfl) (fun h => by kernel_rfl)

noncomputable def shed_Check_L1 (a0 : Board) (a2 : Power) : Int →
  Option
    (Int ⊕
      Unit ⊕
        Bool) := fun x5 =>
  if decide (x5 < a0.Buses) = true then
    Option.bind (balance_Overloaded a0 a2 x5) fun x6 =>
      if x6 = true then some (.inr (.inr false)) else some (.inl (W (x5 + 1)))
  else some (.inr (.inl ()))
noncomputable def shed_Check_L2 (a0 : Board) (a2 : Power) (x1 : Int ×
  List Bool ×
    List Running ×
      List Int ×
        List Part ×
          List
            Act) (x9 : List
  Int) (x10 : List
  Island) : Int →
  Option
    (Int ⊕
      Unit ⊕
        Bool) := fun x11 =>
  if decide (x11 < len x10) = true then
    Option.bind (idx x10 x11) fun x12 =>
      Option.bind (slices_Clone_int_int x9) fun x13 =>
        Option.bind (slices_DeleteFunc_int_int_v1 x13 x12) fun x14 =>
          Option.bind
            (shed_ordered a0 (Power.mk x1.2.1 x1.2.2.1 x1.2.2.2.1 x1.2.2.2.2.1) a2 x14)
            fun x15 => if (!x15) = true then some (.inr (.inr false)) else some (.inl (W (x11 + 1)))
  else some (.inr (.inl ()))
noncomputable def shed_Check (a0 : Board) (a1 : Power) (a2 : Power) : Option (Bool) :=
  Option.bind (shed_Clear a0 a1) fun x1 =>
    Option.bind
      (if (x1.1 != 0) = true then some true
      else
        Option.bind (board_State a0 a2) fun x2 =>
          if (x2 != 0) = true then some true
          else
            Option.bind (shed_lesser (Power.mk x1.2.1 x1.2.2.1 x1.2.2.2.1 x1.2.2.2.2.1) a2)
              fun x3 => some !x3)
      fun x4 =>
      if x4 = true then some false
      else
        Option.bind (loopO (shed_Check_L1 a0 a2) 0) fun x7 =>
          Sum.elim
            (fun x8 =>
              Option.bind (shed_Order a0) fun x9 =>
                Option.bind
                  (board_Islands a0 (Power.mk x1.2.1 x1.2.2.1 x1.2.2.2.1 x1.2.2.2.2.1))
                  fun x10 =>
                  Option.bind (loopO (shed_Check_L2 a0 a2 x1 x9 x10) 0) fun x16 =>
                    Sum.elim (fun x17 => some true) (fun x18 => some x18) x16)
            (fun x19 => some x19) x7
noncomputable def c37 : Con D := ⟨37, [.lf (.int .i64), .lf (.sl 5), .lf (.sl 6), .lf (.sl 7), .lf (.int .i64), .lf (.int .i64), .lf (.sl 1), .lf (.sl 9), .lf (.sl 0), .lf (.sl 10), .lf (.sl 1), .lf (.sl 9), .lf (.sl 0), .lf (.sl 10)], [.lf .bool], [.agg [.h 0 [], .h 1 [0], .h 2 [0], .h 3 [0], .h 4 [], .h 5 []], .agg [.h 6 [0], .h 7 [0], .h 8 [0], .h 9 [0]], .agg [.h 10 [0], .h 11 [0], .h 12 [0], .h 13 [0]]], [], [.one (.h 0 [])], [], fun h => shed_Check ⟨h.1, h.2.1, h.2.2.1, h.2.2.2.1, h.2.2.2.2.1, h.2.2.2.2.2.1⟩ ⟨h.2.2.2.2.2.2.1, h.2.2.2.2.2.2.2.1, h.2.2.2.2.2.2.2.2.1, h.2.2.2.2.2.2.2.2.2.1⟩ ⟨h.2.2.2.2.2.2.2.2.2.2.1, h.2.2.2.2.2.2.2.2.2.2.2.1, h.2.2.2.2.2.2.2.2.2.2.2.2.1, h.2.2.2.2.2.2.2.2.2.2.2.2.2⟩⟩
theorem c37_ok : ConOk Tryz.prog T c37 := fn_ok (Φ := [c11, c24, c70, c71, c72, c73, c74_1, c75, c78]) (rs := [.tmp 6]) (an := (.n none .o (.n none .o (.n none (.n none (.r (some (true, [(.normal, ⟨[.lf .bool], [(35, .one (.h 0 []))], [], [], 3024⟩)])) .nil) .o) (.n none (.n none .o (.n none (.loop ⟨[.lf (.int .i64)], [(38, .one (.h 0 []))], [], [], 3281⟩ false [(.exit 0, ⟨[], [], [], [], 3281⟩)] .o) .o)) (.n none .o (.n none (.n none .o (.n none (.loop ⟨[.lf (.int .i64)], [(52, .one (.h 0 []))], [], [], 3857⟩ false [(.exit 2, ⟨[], [], [], [], 3857⟩)] .o) .o)) .o))))))) pOk repOk (AllC.mem (⟨c11_ok, c24_ok, c70_ok, c71_ok, c72_ok, c73_ok, c74_1_ok, c75_ok, c78_ok, trivial⟩ : AllC _ _ [c11, c24, c70, c71, c72, c73, c74_1, c75, c78])) hmix Tryz.call37 Tryz.func37 rfl rfl (by kernel_rfl) (fun h => by kernel_rfl)

noncomputable def dynposref01_Bools_L1 (a0 : List
  Bool) (a1 : List
  Bool) : Int →
  Option
    (Int ⊕
      Unit ⊕
        Bool) := fun x1 =>
  if decide (x1 < len a0) = true then
    Option.bind (idx a0 x1) fun x2 =>
      Option.bind (idx a1 x1) fun x3 =>
        if (!x2 == x3) = true then some (.inr (.inr false)) else some (.inl (W (x1 + 1)))
  else some (.inr (.inl ()))
noncomputable def dynposref01_Bools (a0 : (List Bool)) (a1 : (List Bool)) : Option (Bool) :=
  if (len a0 != len a1) = true then some false
  else
    Option.bind (loopO (dynposref01_Bools_L1 a0 a1) 0) fun x4 =>
      Sum.elim (fun x5 => some true) (fun x6 => some x6) x4
noncomputable def c45 : Con D := ⟨45, [.lf (.sl 1), .lf (.sl 1)], [.lf .bool], [.one (.h 0 [0]), .one (.h 1 [0])], [], [.one (.h 0 [])], [], fun h => dynposref01_Bools h.1 h.2⟩
theorem c45_ok : ConOk Tryz.prog T c45 := fn_ok (Φ := []) (rs := [.tmp 4]) (an := (.n none .o (.n none .o (.n none (.n none .o (.n none (.loop ⟨[.lf (.int .i64)], [(13, .one (.h 0 []))], [], [], 2640⟩ false [(.exit 0, ⟨[], [], [], [], 2640⟩)] .o) .o)) .o)))) pOk repOk (AllC.mem (l := []) trivial) hmix Tryz.call45 Tryz.func45 rfl rfl (by kernel_rfl) (fun h => by kernel_rfl)

noncomputable def dynposref01_Ints_L1 (a0 : List
  Int) (a1 : List
  Int) : Int →
  Option
    (Int ⊕
      Unit ⊕
        Bool) := fun x1 =>
  if decide (x1 < len a0) = true then
    Option.bind (idx a0 x1) fun x2 =>
      Option.bind (idx a1 x1) fun x3 =>
        if (x2 != x3) = true then some (.inr (.inr false)) else some (.inl (W (x1 + 1)))
  else some (.inr (.inl ()))
noncomputable def dynposref01_Ints (a0 : (List Int)) (a1 : (List Int)) : Option (Bool) :=
  if (len a0 != len a1) = true then some false
  else
    Option.bind (loopO (dynposref01_Ints_L1 a0 a1) 0) fun x4 =>
      Sum.elim (fun x5 => some true) (fun x6 => some x6) x4
noncomputable def c13 : Con D := ⟨13, [.lf (.sl 0), .lf (.sl 0)], [.lf .bool], [.one (.h 0 [0]), .one (.h 1 [0])], [], [.one (.h 0 [])], [], fun h => dynposref01_Ints h.1 h.2⟩
theorem c13_ok : ConOk Tryz.prog T c13 := fn_ok (Φ := []) (rs := [.tmp 4]) (an := (.n none .o (.n none .o (.n none (.n none .o (.n none (.loop ⟨[.lf (.int .i64)], [(13, .one (.h 0 []))], [], [], 2640⟩ false [(.exit 0, ⟨[], [], [], [], 2640⟩)] .o) .o)) .o)))) pOk repOk (AllC.mem (l := []) trivial) hmix Tryz.call13 Tryz.func13 rfl rfl (by kernel_rfl) (fun h => by kernel_rfl)

noncomputable def dynposref15_Same_L1 (a0 : Power) (a1 : Power) : Int →
  Option
    (Int ⊕
      Unit ⊕
        Bool) := fun x4 =>
  if decide (x4 < len a0.Sources) = true then
    Option.bind (idx a0.Sources x4) fun x5 =>
      Option.bind (idx a1.Sources x4) fun x6 =>
        if
            (!(x5.State == x6.State &&
                  (x5.Since == x6.Since && (x5.Frequency == x6.Frequency && x5.Phase == x6.Phase)))) =
              true then
          some (.inr (.inr false))
        else some (.inl (W (x4 + 1)))
  else some (.inr (.inl ()))
noncomputable def dynposref15_Same_L2 (a0 : Power) (a1 : Power) : Int →
  Option
    (Int ⊕
      Unit ⊕
        Bool) := fun x9 =>
  if decide (x9 < len a0.Broken) = true then
    Option.bind (idx a0.Broken x9) fun x10 =>
      Option.bind (idx a1.Broken x9) fun x11 =>
        if (!(x10.Kind == x11.Kind && x10.Number == x11.Number)) = true then some (.inr (.inr false))
        else some (.inl (W (x9 + 1)))
  else some (.inr (.inl ()))
noncomputable def dynposref15_Same (a0 : Power) (a1 : Power) : Option (Bool) :=
  Option.bind
    (Option.bind (dynposref01_Bools a0.Closed a1.Closed) fun x1 =>
      if (!x1) = true then some true
      else
        Option.bind (dynposref01_Ints a0.Limits a1.Limits) fun x2 =>
          if (!x2) = true then some true
          else if (len a0.Sources != len a1.Sources) = true then some true else some (len a0.Broken != len a1.Broken))
    fun x3 =>
    if x3 = true then some false
    else
      Option.bind (loopO (dynposref15_Same_L1 a0 a1) 0) fun x7 =>
        Sum.elim
          (fun x8 =>
            Option.bind (loopO (dynposref15_Same_L2 a0 a1) 0) fun x12 =>
              Sum.elim (fun x13 => some true) (fun x14 => some x14) x12)
          (fun x15 => some x15) x7
noncomputable def c12 : Con D := ⟨12, [.lf (.sl 1), .lf (.sl 9), .lf (.sl 0), .lf (.sl 10), .lf (.sl 1), .lf (.sl 9), .lf (.sl 0), .lf (.sl 10)], [.lf .bool], [.agg [.h 0 [0], .h 1 [0], .h 2 [0], .h 3 [0]], .agg [.h 4 [0], .h 5 [0], .h 6 [0], .h 7 [0]]], [], [.one (.h 0 [])], [], fun h => dynposref15_Same ⟨h.1, h.2.1, h.2.2.1, h.2.2.2.1⟩ ⟨h.2.2.2.2.1, h.2.2.2.2.2.1, h.2.2.2.2.2.2.1, h.2.2.2.2.2.2.2⟩⟩
theorem c12_ok : ConOk Tryz.prog T c12 := fn_ok (Φ := [c13, c45]) (rs := [.tmp 4]) (an := (.n none .o (.n none (.n none (.r (some (true, [(.normal, ⟨[.lf .bool], [(38, .one (.h 0 []))], [], [], 2256⟩)])) .nil) .o) (.n none (.n none .o (.n none (.loop ⟨[.lf (.int .i64)], [(42, .one (.h 0 []))], [], [], 2577⟩ false [(.exit 0, ⟨[], [], [], [], 2577⟩)] .o) .o)) (.n none (.n none .o (.n none (.loop ⟨[.lf (.int .i64)], [(60, .one (.h 0 []))], [], [], 2897⟩ false [(.exit 2, ⟨[], [], [], [], 2897⟩)] .o) .o)) .o))))) pOk repOk (AllC.mem (⟨c13_ok, c45_ok, trivial⟩ : AllC _ _ [c13, c45])) hmix Tryz.call12 Tryz.func12 rfl rfl (by kernel_rfl) (fun h => by kernel_rfl)

noncomputable def dynposref15_of_L1 (a0 : Board) (a1 : Int) (a2 : Int) : Int × List Int →
  Option
    (Int × List Int ⊕
      List
        Int) := fun x1 =>
  if decide (x1.1 < len a0.Breakers) = true then
    Option.bind (idx a0.Breakers x1.1) fun x2 =>
      Option.bind
        (if (x2.Kind == a1) = true then
          if (x2.B == a2) = true then some true
          else if (a1 == 1) = true then some (x2.A == a2) else some false
        else some false)
        fun x3 =>
        Option.bind (if x3 = true then Option.bind (app x1.2 [x1.1]) fun x4 => some x4 else some x1.2) fun x5 =>
          some (.inl (W (x1.1 + 1), x5))
  else some (.inr x1.2)
noncomputable def dynposref15_of (a0 : Board) (a1 : Int) (a2 : Int) : Option ((List Int)) := Option.bind (loopO (dynposref15_of_L1 a0 a1 a2) (0, [])) fun x6 => some x6
noncomputable def c55 : Con D := ⟨55, [.lf (.int .i64), .lf (.sl 5), .lf (.sl 6), .lf (.sl 7), .lf (.int .i64), .lf (.int .i64), .lf (.int .i64), .lf (.int .i64)], [.lf (.sl 0)], [.agg [.h 0 [], .h 1 [0], .h 2 [0], .h 3 [0], .h 4 [], .h 5 []], .one (.h 6 []), .one (.h 7 [])], [], [.one (.own 1000)], [(1000, .sl 0 3 0 [])], fun h => dynposref15_of ⟨h.1, h.2.1, h.2.2.1, h.2.2.2.1, h.2.2.2.2.1, h.2.2.2.2.2.1⟩ h.2.2.2.2.2.2.1 h.2.2.2.2.2.2.2⟩
theorem c55_ok : ConOk Tryz.prog T c55 := fn_ok (Φ := []) (rs := [.tmp 6]) (an := (.n none .o (.n none .o (.n none (.n none .o (.n none (.loop ⟨[.lf (.int .i64), .lf (.sl 0)], [(7, .one (.own 2448)), (13, .one (.h 0 []))], [(2448, .sl 0 3 1 [])], [], 2512⟩ true [(.exit 0, ⟨[.lf (.sl 0)], [(7, .one (.own 2448))], [(2448, .sl 0 3 0 [])], [], 2512⟩)] (.n none .o (.n none .o (.n none (.n none (.n none .o (.n none (.r (some (true, [(.normal, ⟨[.lf .bool], [(23, .one (.any)), (24, .one (.any)), (25, .one (.any)), (26, .one (.any)), (27, .one (.any)), (28, .one (.any)), (29, .one (.any)), (30, .one (.any)), (31, .one (.any)), (32, .one (.any)), (33, .one (.any)), (34, .one (.any)), (35, .one (.any)), (36, .one (.any)), (37, .one (.h 0 []))], [], [], 3026⟩)])) .nil) (.n (some (true, [(.normal, ⟨[.lf (.sl 0)], [(7, .one (.own 3027))], [(3027, .sl 0 3 0 [])], [2448], 3091⟩)])) .o .o))) .o) .o)))) .o)) .o)))) pOk repOk (AllC.mem (l := []) trivial) hmix Tryz.call55 Tryz.func55 rfl rfl (by kernel_rfl) (fun h => by kernel_rfl)

noncomputable def dynposref15_breakers_L2 (x2 : Breaker) (x5 : List
  Breaker) : Int →
  Option
    (Int ⊕
      Unit ⊕
        Unit ⊕
          Unit ⊕
            Int ⊕
              Unit ⊕
                Bool) := fun x6 =>
  if decide (x6 < len x5) = true then
    Option.bind (idx x5 x6) fun x7 =>
      if (x7.Kind == x2.Kind && (x7.A == x2.A && x7.B == x2.B)) = true then
        some (.inr (.inr (.inr (.inr (.inr (.inr false))))))
      else some (.inl (W (x6 + 1)))
  else some (.inr (.inl ()))
noncomputable def dynposref15_breakers_L1 (a0 : Board) : Int →
  Option
    (Int ⊕
      Unit ⊕
        Bool) := fun x1 =>
  if decide (x1 < len a0.Breakers) = true then
    Option.bind (idx a0.Breakers x1) fun x2 =>
      Option.bind (dynposref15_within x2.A 0 (W (a0.Buses - 1))) fun x3 =>
        if (!x3) = true then some (.inr (.inr false))
        else
          Option.bind
            (if (x2.Kind == 1) = true then
              Option.bind (dynposref15_within x2.B (W (x2.A + 1)) (W (a0.Buses - 1))) fun x15 =>
                if (!x15) = true then some (.inr (.inr (.inr false))) else some (.inl ())
            else
              Option.bind
                (if (x2.Kind == 2) = true then
                  Option.bind (dynposref15_within x2.B 0 (W (len a0.Sources - 1))) fun x11 =>
                    if (!x11) = true then some (.inr (.inr (.inr (.inr false))))
                    else some (.inl ())
                else
                  if (x2.Kind == 3) = true then
                    Option.bind (dynposref15_within x2.B 0 (W (len a0.Consumers - 1))) fun x4 =>
                      if (!x4) = true then some (.inr (.inr (.inr (.inr false))))
                      else
                        Option.bind (slc a0.Breakers 0 x1) fun x5 =>
                          Option.bind (loopO (dynposref15_breakers_L2 x2 x5) 0) fun x8 =>
                            Sum.elim (fun x9 => some (.inl ())) (fun x10 => some x10) x8
                  else some (.inr (.inr (.inr (.inr false)))))
                fun x12 => Sum.elim (fun x13 => some (.inl ())) (fun x14 => some x14) x12)
            fun x16 => Sum.elim (fun x17 => some (.inl (W (x1 + 1)))) (fun x18 => some x18) x16
  else some (.inr (.inl ()))
noncomputable def dynposref15_breakers_L3 (a0 : Board) : Int →
  Option
    (Int ⊕
      Unit ⊕
        Bool) := fun x21 =>
  if decide (x21 < len a0.Sources) = true then
    Option.bind (dynposref15_of a0 2 x21) fun x22 =>
      if (len x22 != 1) = true then some (.inr (.inr false)) else some (.inl (W (x21 + 1)))
  else some (.inr (.inl ()))
noncomputable def dynposref15_breakers_L4 (a0 : Board) : Int →
  Option
    (Int ⊕
      Unit ⊕
        Bool) := fun x25 =>
  if decide (x25 < len a0.Consumers) = true then
    Option.bind (dynposref15_of a0 3 x25) fun x26 =>
      if decide (len x26 < 1) = true then some (.inr (.inr false))
      else some (.inl (W (x25 + 1)))
  else some (.inr (.inl ()))
noncomputable def dynposref15_breakers (a0 : Board) : Option (Bool) :=
  Option.bind (loopO (dynposref15_breakers_L1 a0) 0) fun x19 =>
    Sum.elim
      (fun x20 =>
        Option.bind (loopO (dynposref15_breakers_L3 a0) 0) fun x23 =>
          Sum.elim
            (fun x24 =>
              Option.bind (loopO (dynposref15_breakers_L4 a0) 0) fun x27 =>
                Sum.elim (fun x28 => some true) (fun x29 => some x29) x27)
            (fun x30 => some x30) x23)
      (fun x31 => some x31) x19
noncomputable def c91 : Con D := ⟨91, [.lf (.int .i64), .lf (.sl 5), .lf (.sl 6), .lf (.sl 7), .lf (.int .i64), .lf (.int .i64)], [.lf .bool], [.agg [.h 0 [], .h 1 [0], .h 2 [0], .h 3 [0], .h 4 [], .h 5 []]], [], [.one (.h 0 [])], [], fun h => dynposref15_breakers ⟨h.1, h.2.1, h.2.2.1, h.2.2.2.1, h.2.2.2.2.1, h.2.2.2.2.2⟩⟩
theorem c91_ok : ConOk Tryz.prog T c91 := fn_ok (Φ := [c52, c55]) (rs := [.tmp 2]) (an := (.n none .o (.n none (.n none .o (.n none (.loop ⟨[.lf (.int .i64)], [(12, .one (.h 0 []))], [], [], 2448⟩ false [(.exit 0, ⟨[], [], [], [], 2448⟩)] (.n none .o (.n none .o (.n none (.n none (.n none .o (.n none .o (.n none .o (.n none (.n none .o (.n (some (false, [(.normal, ⟨[], [], [], [], 3665⟩)])) .o (.n none .o (.n (some (false, [(.normal, ⟨[], [], [], [], 3793⟩)])) .o (.n none .o (.n none (.n none .o (.n none .o (.n none (.loop ⟨[.lf (.int .i64)], [(63, .one (.h 0 []))], [], [], 4817⟩ false [(.exit 3, ⟨[], [], [], [], 4817⟩)] .o) .o))) .o)))))) .o)))) .o) .o)))) .o)) (.n none (.n none .o (.n none (.loop ⟨[.lf (.int .i64)], [(75, .one (.h 0 []))], [], [], 2768⟩ false [(.exit 5, ⟨[], [], [], [], 2768⟩)] .o) .o)) (.n none (.n none .o (.n none (.loop ⟨[.lf (.int .i64)], [(87, .one (.h 0 []))], [], [], 3088⟩ false [(.exit 7, ⟨[], [], [], [], 3088⟩)] .o) .o)) .o))))) pOk repOk (AllC.mem (⟨c52_ok, c55_ok, trivial⟩ : AllC _ _ [c52, c55])) hmix Tryz.call91 Tryz.func91 rfl rfl (by kernel_rfl) (fun h => by kernel_rfl)

end Rx
end Go.Proofs.YtfnphdhcgkondaaGreat
