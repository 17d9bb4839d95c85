/- Plain functions, walks. Written by a program (wip/gen). -/
import Derived.Test.YtfnphdhcgkondaaGreatRt
import Derived.Test.YtfnphdhcgkondaaGreatRg1
import Derived.Test.YtfnphdhcgkondaaGreatRg2
set_option linter.unusedVariables false
set_option maxRecDepth 100000
namespace Go.Proofs.YtfnphdhcgkondaaGreat
open Go Go.RowKit Dp
namespace Rx

noncomputable def relief_lower_v3_L1 (a0 : relief) (a1 : List
  Int) (a2 : Int) : Int × Int × List Breaker × List Source × List Consumer × Int × Int × List Int × List Act →
  Option
    (Int × Int × List Breaker × List Source × List Consumer × Int × Int × List Int × List Act ⊕
      Int ×
        List Breaker ×
          List Source ×
            List Consumer ×
              Int ×
                Int ×
                  List Int ×
                    List
                      Act) := fun x1 =>
  if decide (x1.1 < len a1) = true then
    Option.bind (idx a1 x1.1) fun x2 =>
      Option.bind
        (relief_excess
          (relief.mk
            (Board.mk x1.2.1 x1.2.2.1 x1.2.2.2.1 x1.2.2.2.2.1 x1.2.2.2.2.2.1
              x1.2.2.2.2.2.2.1)
            (Power.mk a0.power.Closed a0.power.Sources x1.2.2.2.2.2.2.2.1 a0.power.Broken)
            x1.2.2.2.2.2.2.2.2)
          a2)
        fun x3 =>
        Option.bind (idx x1.2.2.2.2.2.2.2.1 x2) fun x4 =>
          Option.bind (idx x1.2.2.2.2.1 x2) fun x5 =>
            Option.bind
              (if decide (imin x3 (W (x4 - x5.Least)) > 0) = true then
                Option.bind (idx x1.2.2.2.2.2.2.2.1 x2) fun x6 =>
                  Option.bind (idx x1.2.2.2.2.2.2.2.1 x2) fun x7 =>
                    Option.bind (idx x1.2.2.2.2.2.2.2.1 x2) fun x8 =>
                      Option.bind (setO x1.2.2.2.2.2.2.2.1 x2 (W (x6 - imin x3 (W (x4 - x5.Least)))))
                        fun x9 =>
                        Option.bind (idx x9 x2) fun x10 =>
                          Option.bind (app x1.2.2.2.2.2.2.2.2 [Act.mk 5 x2 x10]) fun x11 =>
                            some
                              (x1.2.1, x1.2.2.1, x1.2.2.2.1, x1.2.2.2.2.1,
                                x1.2.2.2.2.2.1, x1.2.2.2.2.2.2.1, x9, x11)
              else
                some
                  (x1.2.1, x1.2.2.1, x1.2.2.2.1, x1.2.2.2.2.1, x1.2.2.2.2.2.1,
                    x1.2.2.2.2.2.2.1, x1.2.2.2.2.2.2.2.1,
                    x1.2.2.2.2.2.2.2.2))
              fun x12 =>
              some
                (.inl
                  (W (x1.1 + 1), x12.1, x12.2.1, x12.2.2.1, x12.2.2.2.1,
                    x12.2.2.2.2.1, x12.2.2.2.2.2.1, x12.2.2.2.2.2.2.1,
                    x12.2.2.2.2.2.2.2))
  else
    some
      (.inr
        (x1.2.1, x1.2.2.1, x1.2.2.2.1, x1.2.2.2.2.1, x1.2.2.2.2.2.1,
          x1.2.2.2.2.2.2.1, x1.2.2.2.2.2.2.2.1, x1.2.2.2.2.2.2.2.2))
noncomputable def relief_lower_v3 (a0 : relief) (a1 : (List Int)) (a2 : Int) : Option (Int × (List Breaker) × (List Source) × (List Consumer) × Int × Int × (List Bool) × (List Running) × (List Int) × (List Part) × (List Int) × (List Act)) :=
  Option.bind
    (loopO (relief_lower_v3_L1 a0 a1 a2)
      (0, a0.board.Buses, a0.board.Breakers, a0.board.Sources, a0.board.Consumers, a0.board.Phase,
        a0.board.Frequency, a0.power.Limits, a0.acts))
    fun x13 =>
    some
      (x13.1, x13.2.1, x13.2.2.1, x13.2.2.2.1, x13.2.2.2.2.1, x13.2.2.2.2.2.1,
        a0.power.Closed, a0.power.Sources, x13.2.2.2.2.2.2.1, a0.power.Broken, a1,
        x13.2.2.2.2.2.2.2)
noncomputable def c88_3 : Con D := ⟨88, [.lf (.int .i64), .lf (.sl 5), .lf (.sl 6), .lf (.sl 7), .lf (.int .i64), .lf (.int .i64), .lf (.sl 1), .lf (.sl 9), .lf (.sl 0), .lf (.sl 10), .lf (.sl 11), .lf (.sl 0), .lf (.int .i64)], [.lf (.int .i64), .lf (.sl 5), .lf (.sl 6), .lf (.sl 7), .lf (.int .i64), .lf (.int .i64), .lf (.sl 1), .lf (.sl 9), .lf (.sl 0), .lf (.sl 10), .lf (.sl 0), .lf (.sl 11)], [.one (.ptr 1000 0), .one (.own 1006), .one (.h 12 [])], [(1000, .box [.h 0 [], .h 1 [0], .h 2 [0], .h 3 [0], .h 4 [], .h 5 [], .own 1001, .own 1002, .own 1003, .own 1004, .own 1005]), (1001, .sl 1 4 6 []), (1002, .sl 9 48 7 []), (1003, .sl 0 3 8 []), (1004, .sl 10 84 9 []), (1005, .sl 11 74 10 []), (1006, .sl 0 3 11 [])], [], [(1000, .box [.h 0 [], .h 1 [0], .h 2 [0], .h 3 [0], .h 4 [], .h 5 [], .own 1001, .own 1002, .own 1003, .own 1004, .own 1007]), (1001, .sl 1 4 6 []), (1002, .sl 9 48 7 []), (1003, .sl 0 3 8 []), (1004, .sl 10 84 9 []), (1006, .sl 0 3 10 []), (1007, .sl 11 74 11 [])], fun h => relief_lower_v3 ⟨⟨h.1, h.2.1, h.2.2.1, h.2.2.2.1, h.2.2.2.2.1, h.2.2.2.2.2.1⟩, ⟨h.2.2.2.2.2.2.1, h.2.2.2.2.2.2.2.1, h.2.2.2.2.2.2.2.2.1, h.2.2.2.2.2.2.2.2.2.1⟩, h.2.2.2.2.2.2.2.2.2.2.1⟩ h.2.2.2.2.2.2.2.2.2.2.2.1 h.2.2.2.2.2.2.2.2.2.2.2.2⟩
theorem c88_3_ok : ConOk Tryz.prog T c88_3 := fn_ok (Φ := [c127]) (rs := []) (an := (.n none .o (.n none (.loop ⟨[.lf (.int .i64), .lf (.int .i64), .lf (.sl 5), .lf (.sl 6), .lf (.sl 7), .lf (.int .i64), .lf (.int .i64), .lf (.sl 0), .lf (.sl 11)], [(11, .one (.h 0 []))], [(1000, .box [.h 1 [], .h 2 [0], .h 3 [0], .h 4 [0], .h 5 [], .h 6 [], .own 1001, .own 1002, .own 1003, .own 1004, .own 2192]), (1003, .sl 0 3 7 []), (2192, .sl 11 74 8 [])], [1000, 1003, 1005], 2256⟩ true [(.exit 0, ⟨[.lf (.int .i64), .lf (.sl 5), .lf (.sl 6), .lf (.sl 7), .lf (.int .i64), .lf (.int .i64), .lf (.sl 0), .lf (.sl 11)], [], [(1000, .box [.h 0 [], .h 1 [0], .h 2 [0], .h 3 [0], .h 4 [], .h 5 [], .own 1001, .own 1002, .own 1003, .own 1004, .own 2192]), (1003, .sl 0 3 6 []), (2192, .sl 11 74 7 [])], [1000, 1003, 1005], 2256⟩)] (.n none .o (.n none .o (.n none (.n none (.n none .o (.n none .o (.n none .o (.n (some (true, [(.normal, ⟨[.lf (.int .i64), .lf (.sl 5), .lf (.sl 6), .lf (.sl 7), .lf (.int .i64), .lf (.int .i64), .lf (.sl 0), .lf (.sl 11)], [], [(1000, .box [.h 0 [], .h 1 [0], .h 2 [0], .h 3 [0], .h 4 [], .h 5 [], .own 1001, .own 1002, .own 1003, .own 1004, .own 4121]), (1003, .sl 0 3 6 []), (4121, .sl 11 74 7 [])], [1000, 1003, 2192], 4185⟩)])) .o .o)))) .o) .o)))) .o))) pOk repOk (AllC.mem (⟨c127_ok, trivial⟩ : AllC _ _ [c127])) hmix Tryz.call88 Tryz.func88 rfl rfl (by kernel_rfl) (fun h => by kernel_rfl)

noncomputable def relief_open_v1 (a0 : relief) (a1 : Int) : Option (Int × (List Breaker) × (List Source) × (List Consumer) × Int × Int × (List Bool) × (List Running) × (List Int) × (List Part) × (List Act)) :=
  Option.bind (idx a0.power.Closed a1) fun x1 =>
    Option.bind (idx a0.power.Closed a1) fun x2 =>
      Option.bind (setO a0.power.Closed a1 false) fun x3 =>
        Option.bind (app a0.acts [Act.mk 2 a1 0]) fun x4 =>
          some
            (a0.board.Buses, a0.board.Breakers, a0.board.Sources, a0.board.Consumers, a0.board.Phase,
              a0.board.Frequency, x3, a0.power.Sources, a0.power.Limits, a0.power.Broken, x4)
noncomputable def c124_2 : Con D := ⟨124, [.lf (.int .i64), .lf (.sl 5), .lf (.sl 6), .lf (.sl 7), .lf (.int .i64), .lf (.int .i64), .lf (.sl 1), .lf (.sl 9), .lf (.sl 0), .lf (.sl 10), .lf (.sl 11), .lf (.int .i64)], [.lf (.int .i64), .lf (.sl 5), .lf (.sl 6), .lf (.sl 7), .lf (.int .i64), .lf (.int .i64), .lf (.sl 1), .lf (.sl 9), .lf (.sl 0), .lf (.sl 10), .lf (.sl 11)], [.one (.ptr 1000 0), .one (.h 11 [])], [(1000, .box [.h 0 [], .h 1 [0], .h 2 [0], .h 3 [0], .h 4 [], .h 5 [], .own 1001, .own 1002, .own 1003, .own 1004, .own 1005]), (1001, .sl 1 4 6 []), (1002, .sl 9 48 7 []), (1003, .sl 0 3 8 []), (1004, .sl 10 84 9 []), (1005, .sl 11 74 10 [])], [], [(1000, .box [.h 0 [], .h 1 [0], .h 2 [0], .h 3 [0], .h 4 [], .h 5 [], .own 1001, .own 1002, .own 1003, .own 1004, .own 1006]), (1001, .sl 1 4 6 []), (1002, .sl 9 48 7 []), (1003, .sl 0 3 8 []), (1004, .sl 10 84 9 []), (1006, .sl 11 74 10 [])], fun h => relief_open_v1 ⟨⟨h.1, h.2.1, h.2.2.1, h.2.2.2.1, h.2.2.2.2.1, h.2.2.2.2.2.1⟩, ⟨h.2.2.2.2.2.2.1, h.2.2.2.2.2.2.2.1, h.2.2.2.2.2.2.2.2.1, h.2.2.2.2.2.2.2.2.2.1⟩, h.2.2.2.2.2.2.2.2.2.2.1⟩ h.2.2.2.2.2.2.2.2.2.2.2⟩
theorem c124_2_ok : ConOk Tryz.prog T c124_2 := fn_ok (Φ := []) (rs := []) (an := .o) pOk repOk (AllC.mem (l := []) trivial) hmix Tryz.call124 Tryz.func124 rfl rfl (by kernel_rfl) (fun h => by kernel_rfl)

noncomputable def relief_sweep_v16_L1 (a0 : relief) (a1 : Int) : Int × List Int →
  Option
    (Int × List Int ⊕
      List
        Int) := fun x1 =>
  if decide (x1.1 < len a0.board.Breakers) = true then
    Option.bind (idx a0.board.Breakers x1.1) fun x2 =>
      Option.bind
        (Option.bind (idx a0.power.Closed x1.1) fun x3 =>
          if x3 = true then Option.bind (shed_relief__trip_1 x2 a1) fun x4 => some x4 else some false)
        fun x5 =>
        Option.bind (if x5 = true then Option.bind (app x1.2 [x1.1]) fun x6 => some x6 else some x1.2) fun x7 =>
          some (.inl (W (x1.1 + 1), x7))
  else some (.inr x1.2)
noncomputable def relief_sweep_v16_L2 (x8 : List
  Int) : Int ×
    Int ×
      List Breaker ×
        List Source × List Consumer × Int × Int × List Bool × List Running × List Int × List Part × List Act →
  Option
    (Int ×
        Int ×
          List Breaker ×
            List Source × List Consumer × Int × Int × List Bool × List Running × List Int × List Part × List Act ⊕
      Int ×
        List Breaker ×
          List Source ×
            List Consumer ×
              Int ×
                Int ×
                  List Bool ×
                    List Running ×
                      List Int ×
                        List Part ×
                          List
                            Act) := fun x9 =>
  if decide (x9.1 < len x8) = true then
    Option.bind (idx x8 x9.1) fun x10 =>
      Option.bind
        (relief_open_v1
          (relief.mk
            (Board.mk x9.2.1 x9.2.2.1 x9.2.2.2.1 x9.2.2.2.2.1 x9.2.2.2.2.2.1
              x9.2.2.2.2.2.2.1)
            (Power.mk x9.2.2.2.2.2.2.2.1 x9.2.2.2.2.2.2.2.2.1
              x9.2.2.2.2.2.2.2.2.2.1 x9.2.2.2.2.2.2.2.2.2.2.1)
            x9.2.2.2.2.2.2.2.2.2.2.2)
          x10)
        fun x11 =>
        some
          (.inl
            (W (x9.1 + 1), x11.1, x11.2.1, x11.2.2.1, x11.2.2.2.1,
              x11.2.2.2.2.1, x11.2.2.2.2.2.1, x11.2.2.2.2.2.2.1,
              x11.2.2.2.2.2.2.2.1, x11.2.2.2.2.2.2.2.2.1,
              x11.2.2.2.2.2.2.2.2.2.1, x11.2.2.2.2.2.2.2.2.2.2))
  else
    some
      (.inr
        (x9.2.1, x9.2.2.1, x9.2.2.2.1, x9.2.2.2.2.1, x9.2.2.2.2.2.1,
          x9.2.2.2.2.2.2.1, x9.2.2.2.2.2.2.2.1, x9.2.2.2.2.2.2.2.2.1,
          x9.2.2.2.2.2.2.2.2.2.1, x9.2.2.2.2.2.2.2.2.2.2.1,
          x9.2.2.2.2.2.2.2.2.2.2.2))
noncomputable def relief_sweep_v16 (a0 : relief) (a1 : Int) : Option (Int × (List Breaker) × (List Source) × (List Consumer) × Int × Int × (List Bool) × (List Running) × (List Int) × (List Part) × Int × (List Act)) :=
  Option.bind (loopO (relief_sweep_v16_L1 a0 a1) (0, [])) fun x8 =>
    Option.bind
      (loopO (relief_sweep_v16_L2 x8)
        (0, a0.board.Buses, a0.board.Breakers, a0.board.Sources, a0.board.Consumers, a0.board.Phase,
          a0.board.Frequency, a0.power.Closed, a0.power.Sources, a0.power.Limits, a0.power.Broken, a0.acts))
      fun x12 =>
      some
        (x12.1, x12.2.1, x12.2.2.1, x12.2.2.2.1, x12.2.2.2.2.1,
          x12.2.2.2.2.2.1, x12.2.2.2.2.2.2.1, x12.2.2.2.2.2.2.2.1,
          x12.2.2.2.2.2.2.2.2.1, x12.2.2.2.2.2.2.2.2.2.1, a1,
          x12.2.2.2.2.2.2.2.2.2.2)
noncomputable def c81_14 : Con D := ⟨81, [.lf (.int .i64), .lf (.sl 5), .lf (.sl 6), .lf (.sl 7), .lf (.int .i64), .lf (.int .i64), .lf (.sl 1), .lf (.sl 9), .lf (.sl 0), .lf (.sl 10), .lf (.sl 11), .lf (.int .i64)], [.lf (.int .i64), .lf (.sl 5), .lf (.sl 6), .lf (.sl 7), .lf (.int .i64), .lf (.int .i64), .lf (.sl 1), .lf (.sl 9), .lf (.sl 0), .lf (.sl 10), .lf (.int .i64), .lf (.sl 11)], [.one (.ptr 1000 0), .one (.fn 128 [.ptr 1006 0])], [(1000, .box [.h 0 [], .h 1 [0], .h 2 [0], .h 3 [0], .h 4 [], .h 5 [], .own 1001, .own 1002, .own 1003, .own 1004, .own 1005]), (1001, .sl 1 4 6 []), (1002, .sl 9 48 7 []), (1003, .sl 0 3 8 []), (1004, .sl 10 84 9 []), (1005, .sl 11 74 10 []), (1006, .box [.h 11 []])], [], [(1000, .box [.h 0 [], .h 1 [0], .h 2 [0], .h 3 [0], .h 4 [], .h 5 [], .own 1001, .own 1002, .own 1003, .own 1004, .own 1007]), (1001, .sl 1 4 6 []), (1002, .sl 9 48 7 []), (1003, .sl 0 3 8 []), (1004, .sl 10 84 9 []), (1006, .box [.h 10 []]), (1007, .sl 11 74 11 [])], fun h => relief_sweep_v16 ⟨⟨h.1, h.2.1, h.2.2.1, h.2.2.2.1, h.2.2.2.2.1, h.2.2.2.2.2.1⟩, ⟨h.2.2.2.2.2.2.1, h.2.2.2.2.2.2.2.1, h.2.2.2.2.2.2.2.2.1, h.2.2.2.2.2.2.2.2.2.1⟩, h.2.2.2.2.2.2.2.2.2.2.1⟩ h.2.2.2.2.2.2.2.2.2.2.2⟩
theorem c81_14_ok : ConOk Tryz.prog T c81_14 := fn_ok (Φ := [c124_2, c128]) (rs := []) (an := (.n none .o (.n none (.n none .o (.n none (.loop ⟨[.lf (.int .i64), .lf (.sl 0)], [(4, .one (.own 2512)), (15, .one (.h 0 []))], [(2512, .sl 0 3 1 [])], [], 2576⟩ true [(.exit 0, ⟨[.lf (.sl 0)], [(4, .one (.own 2512))], [(2512, .sl 0 3 0 [])], [], 2576⟩)] (.n none .o (.n none .o (.n none (.n none (.n none .o (.n none (.r (some (true, [(.normal, ⟨[.lf .bool], [(29, .one (.any)), (30, .one (.any)), (31, .one (.any)), (32, .one (.h 0 []))], [], [], 3090⟩)])) .nil) (.n (some (true, [(.normal, ⟨[.lf (.sl 0)], [(4, .one (.own 3091))], [(3091, .sl 0 3 0 [])], [2512], 3155⟩)])) .o .o))) .o) .o)))) .o)) (.n none .o (.n none (.loop ⟨[.lf (.int .i64), .lf (.int .i64), .lf (.sl 5), .lf (.sl 6), .lf (.sl 7), .lf (.int .i64), .lf (.int .i64), .lf (.sl 1), .lf (.sl 9), .lf (.sl 0), .lf (.sl 10), .lf (.sl 11)], [(40, .one (.h 0 []))], [(1000, .box [.h 1 [], .h 2 [0], .h 3 [0], .h 4 [0], .h 5 [], .h 6 [], .own 1001, .own 1002, .own 1003, .own 1004, .own 2769]), (1001, .sl 1 4 7 []), (1002, .sl 9 48 8 []), (1003, .sl 0 3 9 []), (1004, .sl 10 84 10 []), (2769, .sl 11 74 11 [])], [1000, 1001, 1002, 1003, 1004, 1005], 2833⟩ true [(.exit 2, ⟨[.lf (.int .i64), .lf (.sl 5), .lf (.sl 6), .lf (.sl 7), .lf (.int .i64), .lf (.int .i64), .lf (.sl 1), .lf (.sl 9), .lf (.sl 0), .lf (.sl 10), .lf (.sl 11)], [], [(1000, .box [.h 0 [], .h 1 [0], .h 2 [0], .h 3 [0], .h 4 [], .h 5 [], .own 1001, .own 1002, .own 1003, .own 1004, .own 2769]), (1001, .sl 1 4 6 []), (1002, .sl 9 48 7 []), (1003, .sl 0 3 8 []), (1004, .sl 10 84 9 []), (2769, .sl 11 74 10 [])], [1000, 1001, 1002, 1003, 1004, 1005], 2833⟩)] .o) .o))))) pOk repOk (AllC.mem (⟨c124_2_ok, c128_ok, trivial⟩ : AllC _ _ [c124_2, c128])) hmix Tryz.call81 Tryz.func81 rfl rfl (by kernel_rfl) (fun h => by kernel_rfl)

noncomputable def relief_trip_v2_L1 (a1 : List
  Int) (a2 : Int) : Int ×
    Int ×
      List Breaker ×
        List Source × List Consumer × Int × Int × List Bool × List Running × List Int × List Part × List Act →
  Option
    (Int ×
        Int ×
          List Breaker ×
            List Source × List Consumer × Int × Int × List Bool × List Running × List Int × List Part × List Act ⊕
      Int ×
        List Breaker ×
          List Source ×
            List Consumer ×
              Int ×
                Int ×
                  List Bool ×
                    List Running ×
                      List Int ×
                        List Part ×
                          List
                            Act) := fun x1 =>
  if decide (x1.1 < len a1) = true then
    Option.bind (idx a1 x1.1) fun x2 =>
      Option.bind
        (Option.bind (idx x1.2.2.2.2.2.2.2.2.2.1 x2) fun x3 =>
          if decide (x3 > 0) = true then
            Option.bind
              (relief_excess
                (relief.mk
                  (Board.mk x1.2.1 x1.2.2.1 x1.2.2.2.1 x1.2.2.2.2.1
                    x1.2.2.2.2.2.1 x1.2.2.2.2.2.2.1)
                  (Power.mk x1.2.2.2.2.2.2.2.1 x1.2.2.2.2.2.2.2.2.1
                    x1.2.2.2.2.2.2.2.2.2.1 x1.2.2.2.2.2.2.2.2.2.2.1)
                  x1.2.2.2.2.2.2.2.2.2.2.2)
                a2)
              fun x4 => some (decide (x4 > 0))
          else some false)
        fun x5 =>
        Option.bind
          (if x5 = true then
            Option.bind
              (relief_sweep_v16
                (relief.mk
                  (Board.mk x1.2.1 x1.2.2.1 x1.2.2.2.1 x1.2.2.2.2.1
                    x1.2.2.2.2.2.1 x1.2.2.2.2.2.2.1)
                  (Power.mk x1.2.2.2.2.2.2.2.1 x1.2.2.2.2.2.2.2.2.1
                    x1.2.2.2.2.2.2.2.2.2.1 x1.2.2.2.2.2.2.2.2.2.2.1)
                  x1.2.2.2.2.2.2.2.2.2.2.2)
                x2)
              fun x6 =>
              some
                (x6.1, x6.2.1, x6.2.2.1, x6.2.2.2.1, x6.2.2.2.2.1,
                  x6.2.2.2.2.2.1, x6.2.2.2.2.2.2.1, x6.2.2.2.2.2.2.2.1,
                  x6.2.2.2.2.2.2.2.2.1, x6.2.2.2.2.2.2.2.2.2.1,
                  x6.2.2.2.2.2.2.2.2.2.2.1, x6.2.2.2.2.2.2.2.2.2.2.2)
          else
            some
              (x1.2.1, x1.2.2.1, x1.2.2.2.1, x1.2.2.2.2.1, x1.2.2.2.2.2.1,
                x1.2.2.2.2.2.2.1, x1.2.2.2.2.2.2.2.1,
                x1.2.2.2.2.2.2.2.2.1, x1.2.2.2.2.2.2.2.2.2.1,
                x1.2.2.2.2.2.2.2.2.2.2.1, x2, x1.2.2.2.2.2.2.2.2.2.2.2))
          fun x7 =>
          some
            (.inl
              (W (x1.1 + 1), x7.1, x7.2.1, x7.2.2.1, x7.2.2.2.1, x7.2.2.2.2.1,
                x7.2.2.2.2.2.1, x7.2.2.2.2.2.2.1, x7.2.2.2.2.2.2.2.1,
                x7.2.2.2.2.2.2.2.2.1, x7.2.2.2.2.2.2.2.2.2.1,
                x7.2.2.2.2.2.2.2.2.2.2.2))
  else
    some
      (.inr
        (x1.2.1, x1.2.2.1, x1.2.2.2.1, x1.2.2.2.2.1, x1.2.2.2.2.2.1,
          x1.2.2.2.2.2.2.1, x1.2.2.2.2.2.2.2.1, x1.2.2.2.2.2.2.2.2.1,
          x1.2.2.2.2.2.2.2.2.2.1, x1.2.2.2.2.2.2.2.2.2.2.1,
          x1.2.2.2.2.2.2.2.2.2.2.2))
noncomputable def relief_trip_v2 (a0 : relief) (a1 : (List Int)) (a2 : Int) : Option (Int × (List Breaker) × (List Source) × (List Consumer) × Int × Int × (List Bool) × (List Running) × (List Int) × (List Part) × (List Int) × (List Act)) :=
  Option.bind
    (loopO (relief_trip_v2_L1 a1 a2)
      (0, a0.board.Buses, a0.board.Breakers, a0.board.Sources, a0.board.Consumers, a0.board.Phase,
        a0.board.Frequency, a0.power.Closed, a0.power.Sources, a0.power.Limits, a0.power.Broken, a0.acts))
    fun x8 =>
    some
      (x8.1, x8.2.1, x8.2.2.1, x8.2.2.2.1, x8.2.2.2.2.1, x8.2.2.2.2.2.1,
        x8.2.2.2.2.2.2.1, x8.2.2.2.2.2.2.2.1, x8.2.2.2.2.2.2.2.2.1,
        x8.2.2.2.2.2.2.2.2.2.1, a1, x8.2.2.2.2.2.2.2.2.2.2)
noncomputable def c89_2 : Con D := ⟨89, [.lf (.int .i64), .lf (.sl 5), .lf (.sl 6), .lf (.sl 7), .lf (.int .i64), .lf (.int .i64), .lf (.sl 1), .lf (.sl 9), .lf (.sl 0), .lf (.sl 10), .lf (.sl 11), .lf (.sl 0), .lf (.int .i64)], [.lf (.int .i64), .lf (.sl 5), .lf (.sl 6), .lf (.sl 7), .lf (.int .i64), .lf (.int .i64), .lf (.sl 1), .lf (.sl 9), .lf (.sl 0), .lf (.sl 10), .lf (.sl 0), .lf (.sl 11)], [.one (.ptr 1000 0), .one (.own 1006), .one (.h 12 [])], [(1000, .box [.h 0 [], .h 1 [0], .h 2 [0], .h 3 [0], .h 4 [], .h 5 [], .own 1001, .own 1002, .own 1003, .own 1004, .own 1005]), (1001, .sl 1 4 6 []), (1002, .sl 9 48 7 []), (1003, .sl 0 3 8 []), (1004, .sl 10 84 9 []), (1005, .sl 11 74 10 []), (1006, .sl 0 3 11 [])], [], [(1000, .box [.h 0 [], .h 1 [0], .h 2 [0], .h 3 [0], .h 4 [], .h 5 [], .own 1001, .own 1002, .own 1003, .own 1004, .own 1007]), (1001, .sl 1 4 6 []), (1002, .sl 9 48 7 []), (1003, .sl 0 3 8 []), (1004, .sl 10 84 9 []), (1006, .sl 0 3 10 []), (1007, .sl 11 74 11 [])], fun h => relief_trip_v2 ⟨⟨h.1, h.2.1, h.2.2.1, h.2.2.2.1, h.2.2.2.2.1, h.2.2.2.2.2.1⟩, ⟨h.2.2.2.2.2.2.1, h.2.2.2.2.2.2.2.1, h.2.2.2.2.2.2.2.2.1, h.2.2.2.2.2.2.2.2.2.1⟩, h.2.2.2.2.2.2.2.2.2.2.1⟩ h.2.2.2.2.2.2.2.2.2.2.2.1 h.2.2.2.2.2.2.2.2.2.2.2.2⟩
theorem c89_2_ok : ConOk Tryz.prog T c89_2 := fn_ok (Φ := [c81_14, c127]) (rs := []) (an := (.n none .o (.n none (.loop ⟨[.lf (.int .i64), .lf (.int .i64), .lf (.sl 5), .lf (.sl 6), .lf (.sl 7), .lf (.int .i64), .lf (.int .i64), .lf (.sl 1), .lf (.sl 9), .lf (.sl 0), .lf (.sl 10), .lf (.sl 11)], [(10, .one (.h 0 []))], [(1000, .box [.h 1 [], .h 2 [0], .h 3 [0], .h 4 [0], .h 5 [], .h 6 [], .own 1001, .own 1002, .own 1003, .own 1004, .own 2192]), (1001, .sl 1 4 7 []), (1002, .sl 9 48 8 []), (1003, .sl 0 3 9 []), (1004, .sl 10 84 10 []), (2192, .sl 11 74 11 [])], [1000, 1001, 1002, 1003, 1004, 1005], 2256⟩ true [(.exit 0, ⟨[.lf (.int .i64), .lf (.sl 5), .lf (.sl 6), .lf (.sl 7), .lf (.int .i64), .lf (.int .i64), .lf (.sl 1), .lf (.sl 9), .lf (.sl 0), .lf (.sl 10), .lf (.sl 11)], [], [(1000, .box [.h 0 [], .h 1 [0], .h 2 [0], .h 3 [0], .h 4 [], .h 5 [], .own 1001, .own 1002, .own 1003, .own 1004, .own 2192]), (1001, .sl 1 4 6 []), (1002, .sl 9 48 7 []), (1003, .sl 0 3 8 []), (1004, .sl 10 84 9 []), (2192, .sl 11 74 10 [])], [1000, 1001, 1002, 1003, 1004, 1005], 2256⟩)] (.n none .o (.n none .o (.n none (.n none (.n none .o (.n none (.r (some (true, [(.normal, ⟨[.lf .bool], [(24, .one (.any)), (25, .one (.any)), (26, .one (.any)), (27, .one (.any)), (28, .one (.h 0 []))], [], [], 2652⟩)])) .nil) (.n (some (true, [(.normal, ⟨[.lf (.int .i64), .lf (.sl 5), .lf (.sl 6), .lf (.sl 7), .lf (.int .i64), .lf (.int .i64), .lf (.sl 1), .lf (.sl 9), .lf (.sl 0), .lf (.sl 10), .lf (.int .i64), .lf (.sl 11)], [], [(1000, .box [.h 0 [], .h 1 [0], .h 2 [0], .h 3 [0], .h 4 [], .h 5 [], .own 1001, .own 1002, .own 1003, .own 1004, .own 2653]), (1001, .sl 1 4 6 []), (1002, .sl 9 48 7 []), (1003, .sl 0 3 8 []), (1004, .sl 10 84 9 []), (2460, .box [.h 10 []]), (2653, .sl 11 74 11 [])], [1000, 1001, 1002, 1003, 1004, 2192, 2460], 2717⟩)])) .o .o))) .o) .o)))) .o))) pOk repOk (AllC.mem (⟨c81_14_ok, c127_ok, trivial⟩ : AllC _ _ [c81_14, c127])) hmix Tryz.call89 Tryz.func89 rfl rfl (by kernel_rfl) (fun h => by kernel_rfl)

noncomputable def relief_sweep_v5_L1 (a0 : relief) : Int × List Int →
  Option
    (Int × List Int ⊕
      List
        Int) := fun x1 =>
  if decide (x1.1 < len a0.board.Breakers) = true then
    Option.bind (idx a0.board.Breakers x1.1) fun x2 =>
      Option.bind
        (Option.bind (idx a0.power.Closed x1.1) fun x3 =>
          if x3 = true then Option.bind (relief_dangerous a0 x2) fun x4 => some x4 else some false)
        fun x5 =>
        Option.bind (if x5 = true then Option.bind (app x1.2 [x1.1]) fun x6 => some x6 else some x1.2) fun x7 =>
          some (.inl (W (x1.1 + 1), x7))
  else some (.inr x1.2)
noncomputable def relief_sweep_v5_L2 (x8 : List
  Int) : Int ×
    Int ×
      List Breaker ×
        List Source × List Consumer × Int × Int × List Bool × List Running × List Int × List Part × List Act →
  Option
    (Int ×
        Int ×
          List Breaker ×
            List Source × List Consumer × Int × Int × List Bool × List Running × List Int × List Part × List Act ⊕
      Int ×
        List Breaker ×
          List Source ×
            List Consumer ×
              Int ×
                Int ×
                  List Bool ×
                    List Running ×
                      List Int ×
                        List Part ×
                          List
                            Act) := fun x9 =>
  if decide (x9.1 < len x8) = true then
    Option.bind (idx x8 x9.1) fun x10 =>
      Option.bind
        (relief_open_v1
          (relief.mk
            (Board.mk x9.2.1 x9.2.2.1 x9.2.2.2.1 x9.2.2.2.2.1 x9.2.2.2.2.2.1
              x9.2.2.2.2.2.2.1)
            (Power.mk x9.2.2.2.2.2.2.2.1 x9.2.2.2.2.2.2.2.2.1
              x9.2.2.2.2.2.2.2.2.2.1 x9.2.2.2.2.2.2.2.2.2.2.1)
            x9.2.2.2.2.2.2.2.2.2.2.2)
          x10)
        fun x11 =>
        some
          (.inl
            (W (x9.1 + 1), x11.1, x11.2.1, x11.2.2.1, x11.2.2.2.1,
              x11.2.2.2.2.1, x11.2.2.2.2.2.1, x11.2.2.2.2.2.2.1,
              x11.2.2.2.2.2.2.2.1, x11.2.2.2.2.2.2.2.2.1,
              x11.2.2.2.2.2.2.2.2.2.1, x11.2.2.2.2.2.2.2.2.2.2))
  else
    some
      (.inr
        (x9.2.1, x9.2.2.1, x9.2.2.2.1, x9.2.2.2.2.1, x9.2.2.2.2.2.1,
          x9.2.2.2.2.2.2.1, x9.2.2.2.2.2.2.2.1, x9.2.2.2.2.2.2.2.2.1,
          x9.2.2.2.2.2.2.2.2.2.1, x9.2.2.2.2.2.2.2.2.2.2.1,
          x9.2.2.2.2.2.2.2.2.2.2.2))
noncomputable def relief_sweep_v5 (a0 : relief) : Option (Int × (List Breaker) × (List Source) × (List Consumer) × Int × Int × (List Bool) × (List Running) × (List Int) × (List Part) × (List Act)) :=
  Option.bind (loopO (relief_sweep_v5_L1 a0) (0, [])) fun x8 =>
    Option.bind
      (loopO (relief_sweep_v5_L2 x8)
        (0, a0.board.Buses, a0.board.Breakers, a0.board.Sources, a0.board.Consumers, a0.board.Phase,
          a0.board.Frequency, a0.power.Closed, a0.power.Sources, a0.power.Limits, a0.power.Broken, a0.acts))
      fun x12 =>
      some
        (x12.1, x12.2.1, x12.2.2.1, x12.2.2.2.1, x12.2.2.2.2.1,
          x12.2.2.2.2.2.1, x12.2.2.2.2.2.2.1, x12.2.2.2.2.2.2.2.1,
          x12.2.2.2.2.2.2.2.2.1, x12.2.2.2.2.2.2.2.2.2.1,
          x12.2.2.2.2.2.2.2.2.2.2)
noncomputable def c81_15 : Con D := ⟨81, [.lf (.int .i64), .lf (.sl 5), .lf (.sl 6), .lf (.sl 7), .lf (.int .i64), .lf (.int .i64), .lf (.sl 1), .lf (.sl 9), .lf (.sl 0), .lf (.sl 10), .lf (.sl 11)], [.lf (.int .i64), .lf (.sl 5), .lf (.sl 6), .lf (.sl 7), .lf (.int .i64), .lf (.int .i64), .lf (.sl 1), .lf (.sl 9), .lf (.sl 0), .lf (.sl 10), .lf (.sl 11)], [.one (.ptr 1000 0), .one (.fn 1000082 [.ptr 1000 0])], [(1000, .box [.h 0 [], .h 1 [0], .h 2 [0], .h 3 [0], .h 4 [], .h 5 [], .own 1001, .own 1002, .own 1003, .own 1004, .own 1005]), (1001, .sl 1 4 6 []), (1002, .sl 9 48 7 []), (1003, .sl 0 3 8 []), (1004, .sl 10 84 9 []), (1005, .sl 11 74 10 [])], [], [(1000, .box [.h 0 [], .h 1 [0], .h 2 [0], .h 3 [0], .h 4 [], .h 5 [], .own 1001, .own 1002, .own 1003, .own 1004, .own 1006]), (1001, .sl 1 4 6 []), (1002, .sl 9 48 7 []), (1003, .sl 0 3 8 []), (1004, .sl 10 84 9 []), (1006, .sl 11 74 10 [])], fun h => relief_sweep_v5 ⟨⟨h.1, h.2.1, h.2.2.1, h.2.2.2.1, h.2.2.2.2.1, h.2.2.2.2.2.1⟩, ⟨h.2.2.2.2.2.2.1, h.2.2.2.2.2.2.2.1, h.2.2.2.2.2.2.2.2.1, h.2.2.2.2.2.2.2.2.2.1⟩, h.2.2.2.2.2.2.2.2.2.2⟩⟩
theorem c81_15_ok : ConOk Tryz.prog T c81_15 := fn_ok (Φ := [c82, c124_2]) (rs := []) (an := (.n none .o (.n none (.n none .o (.n none (.loop ⟨[.lf (.int .i64), .lf (.sl 0)], [(4, .one (.own 2512)), (15, .one (.h 0 []))], [(2512, .sl 0 3 1 [])], [], 2576⟩ true [(.exit 0, ⟨[.lf (.sl 0)], [(4, .one (.own 2512))], [(2512, .sl 0 3 0 [])], [], 2576⟩)] (.n none .o (.n none .o (.n none (.n none (.n none .o (.n none (.r (some (true, [(.normal, ⟨[.lf .bool], [(29, .one (.any)), (30, .one (.any)), (31, .one (.any)), (32, .one (.h 0 []))], [], [], 3090⟩)])) .nil) (.n (some (true, [(.normal, ⟨[.lf (.sl 0)], [(4, .one (.own 3091))], [(3091, .sl 0 3 0 [])], [2512], 3155⟩)])) .o .o))) .o) .o)))) .o)) (.n none .o (.n none (.loop ⟨[.lf (.int .i64), .lf (.int .i64), .lf (.sl 5), .lf (.sl 6), .lf (.sl 7), .lf (.int .i64), .lf (.int .i64), .lf (.sl 1), .lf (.sl 9), .lf (.sl 0), .lf (.sl 10), .lf (.sl 11)], [(40, .one (.h 0 []))], [(1000, .box [.h 1 [], .h 2 [0], .h 3 [0], .h 4 [0], .h 5 [], .h 6 [], .own 1001, .own 1002, .own 1003, .own 1004, .own 2769]), (1001, .sl 1 4 7 []), (1002, .sl 9 48 8 []), (1003, .sl 0 3 9 []), (1004, .sl 10 84 10 []), (2769, .sl 11 74 11 [])], [1000, 1001, 1002, 1003, 1004, 1005], 2833⟩ true [(.exit 2, ⟨[.lf (.int .i64), .lf (.sl 5), .lf (.sl 6), .lf (.sl 7), .lf (.int .i64), .lf (.int .i64), .lf (.sl 1), .lf (.sl 9), .lf (.sl 0), .lf (.sl 10), .lf (.sl 11)], [], [(1000, .box [.h 0 [], .h 1 [0], .h 2 [0], .h 3 [0], .h 4 [], .h 5 [], .own 1001, .own 1002, .own 1003, .own 1004, .own 2769]), (1001, .sl 1 4 6 []), (1002, .sl 9 48 7 []), (1003, .sl 0 3 8 []), (1004, .sl 10 84 9 []), (2769, .sl 11 74 10 [])], [1000, 1001, 1002, 1003, 1004, 1005], 2833⟩)] .o) .o))))) pOk repOk (AllC.mem (⟨c82_ok, c124_2_ok, trivial⟩ : AllC _ _ [c82, c124_2])) hmix Tryz.call81 Tryz.func81 rfl rfl (by kernel_rfl) (fun h => by kernel_rfl)

noncomputable def shed_relief__clear_1_v1 (a0 : Breaker) (a1 : Int) (a2 : (List Breaker)) (a3 : (List Source)) (a4 : (List Consumer)) (a5 : Int) (a6 : Int) (a7 : (List Bool)) (a8 : (List Running)) (a9 : (List Int)) (a10 : (List Part)) (a11 : (List Act)) : Option (Bool × Int × (List Breaker) × (List Source) × (List Consumer) × Int × Int × (List Bool) × (List Running) × (List Int) × (List Part) × (List Act)) :=
  Option.bind
    (if (a0.Kind == 3) = true then
      Option.bind (board_Live (Board.mk a1 a2 a3 a4 a5 a6) (Power.mk a7 a8 a9 a10) a0.A) fun x1 => some !x1
    else some false)
    fun x2 => some (x2, a1, a2, a3, a4, a5, a6, a7, a8, a9, a10, a11)
noncomputable def c83_1 : Con D := ⟨83, [.lf (.int .i64), .lf (.int .i64), .lf (.int .i64), .lf (.int .i64), .lf (.sl 5), .lf (.sl 6), .lf (.sl 7), .lf (.int .i64), .lf (.int .i64), .lf (.sl 1), .lf (.sl 9), .lf (.sl 0), .lf (.sl 10), .lf (.sl 11)], [.lf .bool, .lf (.int .i64), .lf (.sl 5), .lf (.sl 6), .lf (.sl 7), .lf (.int .i64), .lf (.int .i64), .lf (.sl 1), .lf (.sl 9), .lf (.sl 0), .lf (.sl 10), .lf (.sl 11)], [.agg [.h 0 [], .h 1 [], .h 2 []], .one (.ptr 1000 0)], [(1000, .box [.ptr 1001 0]), (1001, .box [.h 3 [], .h 4 [0], .h 5 [0], .h 6 [0], .h 7 [], .h 8 [], .own 1002, .own 1003, .own 1004, .own 1005, .own 1006]), (1002, .sl 1 4 9 []), (1003, .sl 9 48 10 []), (1004, .sl 0 3 11 []), (1005, .sl 10 84 12 []), (1006, .sl 11 74 13 [])], [.one (.h 0 [])], [(1000, .box [.ptr 1001 0]), (1001, .box [.h 1 [], .h 2 [0], .h 3 [0], .h 4 [0], .h 5 [], .h 6 [], .own 1002, .own 1003, .own 1004, .own 1005, .own 1006]), (1002, .sl 1 4 7 []), (1003, .sl 9 48 8 []), (1004, .sl 0 3 9 []), (1005, .sl 10 84 10 []), (1006, .sl 11 74 11 [])], fun h => shed_relief__clear_1_v1 ⟨h.1, h.2.1, h.2.2.1⟩ h.2.2.2.1 h.2.2.2.2.1 h.2.2.2.2.2.1 h.2.2.2.2.2.2.1 h.2.2.2.2.2.2.2.1 h.2.2.2.2.2.2.2.2.1 h.2.2.2.2.2.2.2.2.2.1 h.2.2.2.2.2.2.2.2.2.2.1 h.2.2.2.2.2.2.2.2.2.2.2.1 h.2.2.2.2.2.2.2.2.2.2.2.2.1 h.2.2.2.2.2.2.2.2.2.2.2.2.2⟩
theorem c83_1_ok : ConOk Tryz.prog T c83_1 := fn_ok (Φ := [c64]) (rs := [.tmp 3]) (an := (.n none .o (.n none (.r (some (true, [(.normal, ⟨[.lf .bool], [(3, .one (.h 0 []))], [], [], 2192⟩)])) .nil) .o))) pOk repOk (AllC.mem (⟨c64_ok, trivial⟩ : AllC _ _ [c64])) hmix Tryz.call83 Tryz.func83 rfl rfl (by kernel_rfl) (fun h => by kernel_rfl)

noncomputable def relief_sweep_v6_L1 (a0 : relief) : Int ×
    List Int ×
      Int ×
        List Breaker ×
          List Source × List Consumer × Int × Int × List Bool × List Running × List Int × List Part × List Act →
  Option
    (Int ×
        List Int ×
          Int ×
            List Breaker ×
              List Source × List Consumer × Int × Int × List Bool × List Running × List Int × List Part × List Act ⊕
      List Int ×
        Int ×
          List Breaker ×
            List Source ×
              List Consumer ×
                Int ×
                  Int ×
                    List Bool ×
                      List Running ×
                        List Int ×
                          List Part ×
                            List
                              Act) := fun x1 =>
  if decide (x1.1 < len a0.board.Breakers) = true then
    Option.bind (idx a0.board.Breakers x1.1) fun x2 =>
      Option.bind
        (Option.bind (idx x1.2.2.2.2.2.2.2.2.1 x1.1) fun x3 =>
          if x3 = true then
            Option.bind
              (shed_relief__clear_1_v1 x2 x1.2.2.1 x1.2.2.2.1 x1.2.2.2.2.1
                x1.2.2.2.2.2.1 x1.2.2.2.2.2.2.1 x1.2.2.2.2.2.2.2.1
                x1.2.2.2.2.2.2.2.2.1 x1.2.2.2.2.2.2.2.2.2.1
                x1.2.2.2.2.2.2.2.2.2.2.1 x1.2.2.2.2.2.2.2.2.2.2.2.1
                x1.2.2.2.2.2.2.2.2.2.2.2.2)
              fun x4 =>
              some
                (x4.1, x4.2.1, x4.2.2.1, x4.2.2.2.1, x4.2.2.2.2.1,
                  x4.2.2.2.2.2.1, x4.2.2.2.2.2.2.1, x4.2.2.2.2.2.2.2.1,
                  x4.2.2.2.2.2.2.2.2.1, x4.2.2.2.2.2.2.2.2.2.1,
                  x4.2.2.2.2.2.2.2.2.2.2.1, x4.2.2.2.2.2.2.2.2.2.2.2)
          else
            some
              (false, x1.2.2.1, x1.2.2.2.1, x1.2.2.2.2.1, x1.2.2.2.2.2.1,
                x1.2.2.2.2.2.2.1, x1.2.2.2.2.2.2.2.1,
                x1.2.2.2.2.2.2.2.2.1, x1.2.2.2.2.2.2.2.2.2.1,
                x1.2.2.2.2.2.2.2.2.2.2.1, x1.2.2.2.2.2.2.2.2.2.2.2.1,
                x1.2.2.2.2.2.2.2.2.2.2.2.2))
        fun x5 =>
        Option.bind (if x5.1 = true then Option.bind (app x1.2.1 [x1.1]) fun x6 => some x6 else some x1.2.1)
          fun x7 =>
          some
            (.inl
              (W (x1.1 + 1), x7, x5.2.1, x5.2.2.1, x5.2.2.2.1, x5.2.2.2.2.1,
                x5.2.2.2.2.2.1, x5.2.2.2.2.2.2.1, x5.2.2.2.2.2.2.2.1,
                x5.2.2.2.2.2.2.2.2.1, x5.2.2.2.2.2.2.2.2.2.1,
                x5.2.2.2.2.2.2.2.2.2.2.1, x5.2.2.2.2.2.2.2.2.2.2.2))
  else
    some
      (.inr
        (x1.2.1, x1.2.2.1, x1.2.2.2.1, x1.2.2.2.2.1, x1.2.2.2.2.2.1,
          x1.2.2.2.2.2.2.1, x1.2.2.2.2.2.2.2.1, x1.2.2.2.2.2.2.2.2.1,
          x1.2.2.2.2.2.2.2.2.2.1, x1.2.2.2.2.2.2.2.2.2.2.1,
          x1.2.2.2.2.2.2.2.2.2.2.2.1, x1.2.2.2.2.2.2.2.2.2.2.2.2))
noncomputable def relief_sweep_v6_L2 (x8 : List Int ×
  Int ×
    List Breaker ×
      List Source ×
        List Consumer ×
          Int ×
            Int ×
              List Bool ×
                List Running ×
                  List Int ×
                    List Part ×
                      List
                        Act) : Int ×
    Int ×
      List Breaker ×
        List Source × List Consumer × Int × Int × List Bool × List Running × List Int × List Part × List Act →
  Option
    (Int ×
        Int ×
          List Breaker ×
            List Source × List Consumer × Int × Int × List Bool × List Running × List Int × List Part × List Act ⊕
      Int ×
        List Breaker ×
          List Source ×
            List Consumer ×
              Int ×
                Int ×
                  List Bool ×
                    List Running ×
                      List Int ×
                        List Part ×
                          List
                            Act) := fun x9 =>
  if decide (x9.1 < len x8.1) = true then
    Option.bind (idx x8.1 x9.1) fun x10 =>
      Option.bind
        (relief_open_v1
          (relief.mk
            (Board.mk x9.2.1 x9.2.2.1 x9.2.2.2.1 x9.2.2.2.2.1 x9.2.2.2.2.2.1
              x9.2.2.2.2.2.2.1)
            (Power.mk x9.2.2.2.2.2.2.2.1 x9.2.2.2.2.2.2.2.2.1
              x9.2.2.2.2.2.2.2.2.2.1 x9.2.2.2.2.2.2.2.2.2.2.1)
            x9.2.2.2.2.2.2.2.2.2.2.2)
          x10)
        fun x11 =>
        some
          (.inl
            (W (x9.1 + 1), x11.1, x11.2.1, x11.2.2.1, x11.2.2.2.1,
              x11.2.2.2.2.1, x11.2.2.2.2.2.1, x11.2.2.2.2.2.2.1,
              x11.2.2.2.2.2.2.2.1, x11.2.2.2.2.2.2.2.2.1,
              x11.2.2.2.2.2.2.2.2.2.1, x11.2.2.2.2.2.2.2.2.2.2))
  else
    some
      (.inr
        (x9.2.1, x9.2.2.1, x9.2.2.2.1, x9.2.2.2.2.1, x9.2.2.2.2.2.1,
          x9.2.2.2.2.2.2.1, x9.2.2.2.2.2.2.2.1, x9.2.2.2.2.2.2.2.2.1,
          x9.2.2.2.2.2.2.2.2.2.1, x9.2.2.2.2.2.2.2.2.2.2.1,
          x9.2.2.2.2.2.2.2.2.2.2.2))
noncomputable def relief_sweep_v6 (a0 : relief) : Option (Int × (List Breaker) × (List Source) × (List Consumer) × Int × Int × (List Bool) × (List Running) × (List Int) × (List Part) × (List Act)) :=
  Option.bind
    (loopO (relief_sweep_v6_L1 a0)
      (0, [], a0.board.Buses, a0.board.Breakers, a0.board.Sources, a0.board.Consumers, a0.board.Phase,
        a0.board.Frequency, a0.power.Closed, a0.power.Sources, a0.power.Limits, a0.power.Broken, a0.acts))
    fun x8 =>
    Option.bind
      (loopO (relief_sweep_v6_L2 x8)
        (0, x8.2.1, x8.2.2.1, x8.2.2.2.1, x8.2.2.2.2.1,
          x8.2.2.2.2.2.1, x8.2.2.2.2.2.2.1, x8.2.2.2.2.2.2.2.1,
          x8.2.2.2.2.2.2.2.2.1, x8.2.2.2.2.2.2.2.2.2.1,
          x8.2.2.2.2.2.2.2.2.2.2.1, x8.2.2.2.2.2.2.2.2.2.2.2))
      fun x12 =>
      some
        (x12.1, x12.2.1, x12.2.2.1, x12.2.2.2.1, x12.2.2.2.2.1,
          x12.2.2.2.2.2.1, x12.2.2.2.2.2.2.1, x12.2.2.2.2.2.2.2.1,
          x12.2.2.2.2.2.2.2.2.1, x12.2.2.2.2.2.2.2.2.2.1,
          x12.2.2.2.2.2.2.2.2.2.2)
noncomputable def c81_16 : Con D := ⟨81, [.lf (.int .i64), .lf (.sl 5), .lf (.sl 6), .lf (.sl 7), .lf (.int .i64), .lf (.int .i64), .lf (.sl 1), .lf (.sl 9), .lf (.sl 0), .lf (.sl 10), .lf (.sl 11)], [.lf (.int .i64), .lf (.sl 5), .lf (.sl 6), .lf (.sl 7), .lf (.int .i64), .lf (.int .i64), .lf (.sl 1), .lf (.sl 9), .lf (.sl 0), .lf (.sl 10), .lf (.sl 11)], [.one (.ptr 1000 0), .one (.fn 83 [.ptr 1006 0])], [(1000, .box [.h 0 [], .h 1 [0], .h 2 [0], .h 3 [0], .h 4 [], .h 5 [], .own 1001, .own 1002, .own 1003, .own 1004, .own 1005]), (1001, .sl 1 4 6 []), (1002, .sl 9 48 7 []), (1003, .sl 0 3 8 []), (1004, .sl 10 84 9 []), (1005, .sl 11 74 10 []), (1006, .box [.ptr 1000 0])], [], [(1000, .box [.h 0 [], .h 1 [0], .h 2 [0], .h 3 [0], .h 4 [], .h 5 [], .own 1001, .own 1002, .own 1003, .own 1004, .own 1007]), (1001, .sl 1 4 6 []), (1002, .sl 9 48 7 []), (1003, .sl 0 3 8 []), (1004, .sl 10 84 9 []), (1006, .box [.ptr 1000 0]), (1007, .sl 11 74 10 [])], fun h => relief_sweep_v6 ⟨⟨h.1, h.2.1, h.2.2.1, h.2.2.2.1, h.2.2.2.2.1, h.2.2.2.2.2.1⟩, ⟨h.2.2.2.2.2.2.1, h.2.2.2.2.2.2.2.1, h.2.2.2.2.2.2.2.2.1, h.2.2.2.2.2.2.2.2.2.1⟩, h.2.2.2.2.2.2.2.2.2.2⟩⟩
theorem c81_16_ok : ConOk Tryz.prog T c81_16 := fn_ok (Φ := [c83_1, c124_2]) (rs := []) (an := (.n none .o (.n none (.n none .o (.n none (.loop ⟨[.lf (.int .i64), .lf (.sl 0), .lf (.int .i64), .lf (.sl 5), .lf (.sl 6), .lf (.sl 7), .lf (.int .i64), .lf (.int .i64), .lf (.sl 1), .lf (.sl 9), .lf (.sl 0), .lf (.sl 10), .lf (.sl 11)], [(4, .one (.own 2512)), (15, .one (.h 0 []))], [(2512, .sl 0 3 1 []), (1000, .box [.h 2 [], .h 3 [0], .h 4 [0], .h 5 [0], .h 6 [], .h 7 [], .own 1001, .own 1002, .own 1003, .own 1004, .own 1005]), (1001, .sl 1 4 8 []), (1002, .sl 9 48 9 []), (1003, .sl 0 3 10 []), (1004, .sl 10 84 11 []), (1005, .sl 11 74 12 []), (1006, .box [.ptr 1000 0])], [1000, 1001, 1002, 1003, 1004, 1005, 1006], 2576⟩ true [(.exit 0, ⟨[.lf (.sl 0), .lf (.int .i64), .lf (.sl 5), .lf (.sl 6), .lf (.sl 7), .lf (.int .i64), .lf (.int .i64), .lf (.sl 1), .lf (.sl 9), .lf (.sl 0), .lf (.sl 10), .lf (.sl 11)], [(4, .one (.own 2512))], [(2512, .sl 0 3 0 []), (1000, .box [.h 1 [], .h 2 [0], .h 3 [0], .h 4 [0], .h 5 [], .h 6 [], .own 1001, .own 1002, .own 1003, .own 1004, .own 1005]), (1001, .sl 1 4 7 []), (1002, .sl 9 48 8 []), (1003, .sl 0 3 9 []), (1004, .sl 10 84 10 []), (1005, .sl 11 74 11 []), (1006, .box [.ptr 1000 0])], [1000, 1001, 1002, 1003, 1004, 1005, 1006], 2576⟩)] (.n none .o (.n none .o (.n none (.n none (.n none .o (.n none (.r (some (true, [(.normal, ⟨[.lf .bool, .lf (.int .i64), .lf (.sl 5), .lf (.sl 6), .lf (.sl 7), .lf (.int .i64), .lf (.int .i64), .lf (.sl 1), .lf (.sl 9), .lf (.sl 0), .lf (.sl 10), .lf (.sl 11)], [(29, .one (.any)), (30, .one (.any)), (31, .one (.any)), (32, .one (.h 0 []))], [(1000, .box [.h 1 [], .h 2 [0], .h 3 [0], .h 4 [0], .h 5 [], .h 6 [], .own 1001, .own 1002, .own 1003, .own 1004, .own 1005]), (1001, .sl 1 4 7 []), (1002, .sl 9 48 8 []), (1003, .sl 0 3 9 []), (1004, .sl 10 84 10 []), (1005, .sl 11 74 11 []), (1006, .box [.ptr 1000 0])], [1000, 1001, 1002, 1003, 1004, 1005, 1006], 3101⟩)])) .nil) (.n (some (true, [(.normal, ⟨[.lf (.sl 0)], [(4, .one (.own 3113))], [(3113, .sl 0 3 0 [])], [2512], 3177⟩)])) .o .o))) .o) .o)))) .o)) (.n none .o (.n none (.loop ⟨[.lf (.int .i64), .lf (.int .i64), .lf (.sl 5), .lf (.sl 6), .lf (.sl 7), .lf (.int .i64), .lf (.int .i64), .lf (.sl 1), .lf (.sl 9), .lf (.sl 0), .lf (.sl 10), .lf (.sl 11)], [(40, .one (.h 0 []))], [(1000, .box [.h 1 [], .h 2 [0], .h 3 [0], .h 4 [0], .h 5 [], .h 6 [], .own 1001, .own 1002, .own 1003, .own 1004, .own 2780]), (1001, .sl 1 4 7 []), (1002, .sl 9 48 8 []), (1003, .sl 0 3 9 []), (1004, .sl 10 84 10 []), (2780, .sl 11 74 11 [])], [1000, 1001, 1002, 1003, 1004, 1005], 2844⟩ true [(.exit 2, ⟨[.lf (.int .i64), .lf (.sl 5), .lf (.sl 6), .lf (.sl 7), .lf (.int .i64), .lf (.int .i64), .lf (.sl 1), .lf (.sl 9), .lf (.sl 0), .lf (.sl 10), .lf (.sl 11)], [], [(1000, .box [.h 0 [], .h 1 [0], .h 2 [0], .h 3 [0], .h 4 [], .h 5 [], .own 1001, .own 1002, .own 1003, .own 1004, .own 2780]), (1001, .sl 1 4 6 []), (1002, .sl 9 48 7 []), (1003, .sl 0 3 8 []), (1004, .sl 10 84 9 []), (2780, .sl 11 74 10 [])], [1000, 1001, 1002, 1003, 1004, 1005], 2844⟩)] .o) .o))))) pOk repOk (AllC.mem (⟨c83_1_ok, c124_2_ok, trivial⟩ : AllC _ _ [c83_1, c124_2])) hmix Tryz.call81 Tryz.func81 rfl rfl (by kernel_rfl) (fun h => by kernel_rfl)

noncomputable def relief_clear_v1 (a0 : relief) : Option (Int × (List Breaker) × (List Source) × (List Consumer) × Int × Int × (List Bool) × (List Running) × (List Int) × (List Part) × (List Bool) × (List Running) × (List Int) × (List Part) × (List Act)) :=
  Option.bind (relief_sweep_v5 a0) fun x1 =>
    Option.bind
      (relief_sweep_v6
        (relief.mk
          (Board.mk x1.1 x1.2.1 x1.2.2.1 x1.2.2.2.1 x1.2.2.2.2.1
            x1.2.2.2.2.2.1)
          (Power.mk x1.2.2.2.2.2.2.1 x1.2.2.2.2.2.2.2.1
            x1.2.2.2.2.2.2.2.2.1 x1.2.2.2.2.2.2.2.2.2.1)
          x1.2.2.2.2.2.2.2.2.2.2))
      fun x2 =>
      Option.bind
        (sync_Follow
          (Board.mk x2.1 x2.2.1 x2.2.2.1 x2.2.2.2.1 x2.2.2.2.2.1
            x2.2.2.2.2.2.1)
          (Power.mk x2.2.2.2.2.2.2.1 x2.2.2.2.2.2.2.2.1
            x2.2.2.2.2.2.2.2.2.1 x2.2.2.2.2.2.2.2.2.2.1))
        fun x3 =>
        some
          (x2.1, x2.2.1, x2.2.2.1, x2.2.2.2.1, x2.2.2.2.2.1, x2.2.2.2.2.2.1,
            x2.2.2.2.2.2.2.1, x2.2.2.2.2.2.2.2.1, x2.2.2.2.2.2.2.2.2.1,
            x2.2.2.2.2.2.2.2.2.2.1, x3.2.1, x3.2.2.1, x3.2.2.2.1,
            x3.2.2.2.2, x2.2.2.2.2.2.2.2.2.2.2)
noncomputable def c44_1 : Con D := ⟨44, [.lf (.int .i64), .lf (.sl 5), .lf (.sl 6), .lf (.sl 7), .lf (.int .i64), .lf (.int .i64), .lf (.sl 1), .lf (.sl 9), .lf (.sl 0), .lf (.sl 10), .lf (.sl 11)], [.lf (.int .i64), .lf (.sl 5), .lf (.sl 6), .lf (.sl 7), .lf (.int .i64), .lf (.int .i64), .lf (.sl 1), .lf (.sl 9), .lf (.sl 0), .lf (.sl 10), .lf (.sl 1), .lf (.sl 9), .lf (.sl 0), .lf (.sl 10), .lf (.sl 11)], [.one (.ptr 1000 0)], [(1000, .box [.h 0 [], .h 1 [0], .h 2 [0], .h 3 [0], .h 4 [], .h 5 [], .own 1001, .own 1002, .own 1003, .own 1004, .own 1005]), (1001, .sl 1 4 6 []), (1002, .sl 9 48 7 []), (1003, .sl 0 3 8 []), (1004, .sl 10 84 9 []), (1005, .sl 11 74 10 [])], [], [(1000, .box [.h 0 [], .h 1 [0], .h 2 [0], .h 3 [0], .h 4 [], .h 5 [], .own 1006, .own 1007, .own 1008, .own 1009, .own 1010]), (1001, .sl 1 4 6 []), (1002, .sl 9 48 7 []), (1003, .sl 0 3 8 []), (1004, .sl 10 84 9 []), (1006, .sl 1 4 10 []), (1007, .sl 9 48 11 []), (1008, .sl 0 3 12 []), (1009, .sl 10 84 13 []), (1010, .sl 11 74 14 [])], fun h => relief_clear_v1 ⟨⟨h.1, h.2.1, h.2.2.1, h.2.2.2.1, h.2.2.2.2.1, h.2.2.2.2.2.1⟩, ⟨h.2.2.2.2.2.2.1, h.2.2.2.2.2.2.2.1, h.2.2.2.2.2.2.2.2.1, h.2.2.2.2.2.2.2.2.2.1⟩, h.2.2.2.2.2.2.2.2.2.2⟩⟩
theorem c44_1_ok : ConOk Tryz.prog T c44_1 := fn_ok (Φ := [c81_15, c81_16, c84]) (rs := []) (an := .o) pOk repOk (AllC.mem (⟨c81_15_ok, c81_16_ok, c84_ok, trivial⟩ : AllC _ _ [c81_15, c81_16, c84])) hmix Tryz.call44 Tryz.func44 rfl rfl (by kernel_rfl) (fun h => by kernel_rfl)

noncomputable def shed_relieve (a0 : Board) (a1 : Power) : Option (Int × (List Bool) × (List Running) × (List Int) × (List Part) × (List Act)) :=
  Option.bind (board_State a0 a1) fun x1 =>
    if (x1 != 0) = true then some (x1, [], [], [], [], [])
    else
      Option.bind (states_Clone a1) fun x2 =>
        Option.bind (relief_clear_v1 (relief.mk a0 (Power.mk x2.1 x2.2.1 x2.2.2.1 x2.2.2.2) []))
          fun x3 =>
          some
            (0, x3.2.2.2.2.2.2.2.2.2.2.1,
              x3.2.2.2.2.2.2.2.2.2.2.2.1,
              x3.2.2.2.2.2.2.2.2.2.2.2.2.1,
              x3.2.2.2.2.2.2.2.2.2.2.2.2.2.1,
              x3.2.2.2.2.2.2.2.2.2.2.2.2.2.2)
noncomputable def c43_1 : Con D := ⟨43, [.lf (.int .i64), .lf (.sl 5), .lf (.sl 6), .lf (.sl 7), .lf (.int .i64), .lf (.int .i64), .lf (.sl 1), .lf (.sl 9), .lf (.sl 0), .lf (.sl 10)], [.lf (.int .i64), .lf (.sl 1), .lf (.sl 9), .lf (.sl 0), .lf (.sl 10), .lf (.sl 11)], [.agg [.h 0 [], .h 1 [0], .h 2 [0], .h 3 [0], .h 4 [], .h 5 []], .agg [.h 6 [0], .h 7 [0], .h 8 [0], .h 9 [0]], .one (.fn 44 [])], [], [.agg [.own 1000, .own 1001, .own 1002, .own 1003], .one (.own 1004), .one (.h 0 [])], [(1000, .sl 1 4 1 []), (1001, .sl 9 48 2 []), (1002, .sl 0 3 3 []), (1003, .sl 10 84 4 []), (1004, .sl 11 74 5 [])], fun h => shed_relieve ⟨h.1, h.2.1, h.2.2.1, h.2.2.2.1, h.2.2.2.2.1, h.2.2.2.2.2.1⟩ ⟨h.2.2.2.2.2.2.1, h.2.2.2.2.2.2.2.1, h.2.2.2.2.2.2.2.2.1, h.2.2.2.2.2.2.2.2.2⟩⟩
theorem c43_1_ok : ConOk Tryz.prog T c43_1 := fn_ok (Φ := [c44_1, c70, c80]) (rs := [.cell 6 34, .tmp 7, .tmp 8]) (an := .o) pOk repOk (AllC.mem (⟨c44_1_ok, c70_ok, c80_ok, trivial⟩ : AllC _ _ [c44_1, c70, c80])) hmix Tryz.call43 Tryz.func43 rfl rfl (by kernel_rfl) (fun h => by kernel_rfl)

noncomputable def shed_Clear (a0 : Board) (a1 : Power) : Option (Int × (List Bool) × (List Running) × (List Int) × (List Part) × (List Act)) :=
  Option.bind (shed_relieve a0 a1) fun x1 =>
    some (x1.1, x1.2.1, x1.2.2.1, x1.2.2.2.1, x1.2.2.2.2.1, x1.2.2.2.2.2)
noncomputable def c11 : Con D := ⟨11, [.lf (.int .i64), .lf (.sl 5), .lf (.sl 6), .lf (.sl 7), .lf (.int .i64), .lf (.int .i64), .lf (.sl 1), .lf (.sl 9), .lf (.sl 0), .lf (.sl 10)], [.lf (.int .i64), .lf (.sl 1), .lf (.sl 9), .lf (.sl 0), .lf (.sl 10), .lf (.sl 11)], [.agg [.h 0 [], .h 1 [0], .h 2 [0], .h 3 [0], .h 4 [], .h 5 []], .agg [.h 6 [0], .h 7 [0], .h 8 [0], .h 9 [0]]], [], [.agg [.own 1000, .own 1001, .own 1002, .own 1003], .one (.own 1004), .one (.h 0 [])], [(1000, .sl 1 4 1 []), (1001, .sl 9 48 2 []), (1002, .sl 0 3 3 []), (1003, .sl 10 84 4 []), (1004, .sl 11 74 5 [])], fun h => shed_Clear ⟨h.1, h.2.1, h.2.2.1, h.2.2.2.1, h.2.2.2.2.1, h.2.2.2.2.2.1⟩ ⟨h.2.2.2.2.2.2.1, h.2.2.2.2.2.2.2.1, h.2.2.2.2.2.2.2.2.1, h.2.2.2.2.2.2.2.2.2⟩⟩
theorem c11_ok : ConOk Tryz.prog T c11 := fn_ok (Φ := [c43_1]) (rs := [.cell 4 34, .tmp 5, .tmp 6]) (an := .o) pOk repOk (AllC.mem (⟨c43_1_ok, trivial⟩ : AllC _ _ [c43_1])) hmix Tryz.call11 Tryz.func11 rfl rfl (by kernel_rfl) (fun h => by kernel_rfl)

noncomputable def slices_Equal_Running_Running_L1 (a0 : List
  Running) (a1 : List
  Running) : Int →
  Option
    (Int ⊕
      Unit ⊕
        Bool) := fun x1 =>
  if decide (x1 < len a0) = true then
    Option.bind (idx a0 x1) fun x2 =>
      Option.bind (idx a1 x1) fun x3 =>
        if
            (!(x2.State == x3.State &&
                  (x2.Since == x3.Since && (x2.Frequency == x3.Frequency && x2.Phase == x3.Phase)))) =
              true then
          some (.inr (.inr false))
        else some (.inl (W (x1 + 1)))
  else some (.inr (.inl ()))
noncomputable def slices_Equal_Running_Running (a0 : (List Running)) (a1 : (List Running)) : Option (Bool) :=
  if (len a0 != len a1) = true then some false
  else
    Option.bind (loopO (slices_Equal_Running_Running_L1 a0 a1) 0) fun x4 =>
      Sum.elim (fun x5 => some true) (fun x6 => some x6) x4
noncomputable def c109 : Con D := ⟨109, [.lf (.sl 9), .lf (.sl 9)], [.lf .bool], [.one (.h 0 [0]), .one (.h 1 [0])], [], [.one (.h 0 [])], [], fun h => slices_Equal_Running_Running h.1 h.2⟩
theorem c109_ok : ConOk Tryz.prog T c109 := fn_ok (Φ := []) (rs := [.tmp 4]) (an := (.n none .o (.n none .o (.n none (.n none .o (.n none (.loop ⟨[.lf (.int .i64)], [(13, .one (.h 0 []))], [], [], 2640⟩ false [(.exit 0, ⟨[], [], [], [], 2640⟩)] .o) .o)) .o)))) pOk repOk (AllC.mem (l := []) trivial) hmix Tryz.call109 Tryz.func109 rfl rfl (by kernel_rfl) (fun h => by kernel_rfl)

noncomputable def slices_Equal_Part_Part_L1 (a0 : List
  Part) (a1 : List
  Part) : Int →
  Option
    (Int ⊕
      Unit ⊕
        Bool) := fun x1 =>
  if decide (x1 < len a0) = true then
    Option.bind (idx a0 x1) fun x2 =>
      Option.bind (idx a1 x1) fun x3 =>
        if (!(x2.Kind == x3.Kind && x2.Number == x3.Number)) = true then some (.inr (.inr false))
        else some (.inl (W (x1 + 1)))
  else some (.inr (.inl ()))
noncomputable def slices_Equal_Part_Part (a0 : (List Part)) (a1 : (List Part)) : Option (Bool) :=
  if (len a0 != len a1) = true then some false
  else
    Option.bind (loopO (slices_Equal_Part_Part_L1 a0 a1) 0) fun x4 =>
      Sum.elim (fun x5 => some true) (fun x6 => some x6) x4
noncomputable def c110 : Con D := ⟨110, [.lf (.sl 10), .lf (.sl 10)], [.lf .bool], [.one (.h 0 [0]), .one (.h 1 [0])], [], [.one (.h 0 [])], [], fun h => slices_Equal_Part_Part h.1 h.2⟩
theorem c110_ok : ConOk Tryz.prog T c110 := fn_ok (Φ := []) (rs := [.tmp 4]) (an := (.n none .o (.n none .o (.n none (.n none .o (.n none (.loop ⟨[.lf (.int .i64)], [(13, .one (.h 0 []))], [], [], 2640⟩ false [(.exit 0, ⟨[], [], [], [], 2640⟩)] .o) .o)) .o)))) pOk repOk (AllC.mem (l := []) trivial) hmix Tryz.call110 Tryz.func110 rfl rfl (by kernel_rfl) (fun h => by kernel_rfl)

noncomputable def shed_lesser_L1 (a0 : Power) (a1 : Power) : Int →
  Option
    (Int ⊕
      Unit ⊕
        Bool) := fun x1 =>
  if decide (x1 < len a1.Closed) = true then
    Option.bind (idx a1.Closed x1) fun x2 =>
      Option.bind (if x2 = true then Option.bind (idx a0.Closed x1) fun x3 => some !x3 else some false) fun x4 =>
        if x4 = true then some (.inr (.inr false)) else some (.inl (W (x1 + 1)))
  else some (.inr (.inl ()))
noncomputable def shed_lesser_L2 (a0 : Power) (a1 : Power) : Int →
  Option
    (Int ⊕
      Unit ⊕
        Bool) := fun x7 =>
  if decide (x7 < len a1.Limits) = true then
    Option.bind (idx a1.Limits x7) fun x8 =>
      Option.bind (idx a0.Limits x7) fun x9 =>
        if decide (x8 > x9) = true then some (.inr (.inr false)) else some (.inl (W (x7 + 1)))
  else some (.inr (.inl ()))
noncomputable def shed_lesser (a0 : Power) (a1 : Power) : Option (Bool) :=
  Option.bind (loopO (shed_lesser_L1 a0 a1) 0) fun x5 =>
    Sum.elim
      (fun x6 =>
        Option.bind (loopO (shed_lesser_L2 a0 a1) 0) fun x10 =>
          Sum.elim
            (fun x11 =>
              Option.bind
                (Option.bind (slices_Equal_Running_Running a0.Sources a1.Sources) fun x12 =>
                  if x12 = true then Option.bind (slices_Equal_Part_Part a0.Broken a1.Broken) fun x13 => some x13
                  else some false)
                fun x14 => some x14)
            (fun x15 => some x15) x10)
      (fun x16 => some x16) x5
noncomputable def c71 : Con D := ⟨71, [.lf (.sl 1), .lf (.sl 9), .lf (.sl 0), .lf (.sl 10), .lf (.sl 1), .lf (.sl 9), .lf (.sl 0), .lf (.sl 10)], [.lf .bool], [.agg [.h 0 [0], .h 1 [0], .h 2 [0], .h 3 [0]], .agg [.h 4 [0], .h 5 [0], .h 6 [0], .h 7 [0]]], [], [.one (.h 0 [])], [], fun h => shed_lesser ⟨h.1, h.2.1, h.2.2.1, h.2.2.2.1⟩ ⟨h.2.2.2.2.1, h.2.2.2.2.2.1, h.2.2.2.2.2.2.1, h.2.2.2.2.2.2.2⟩⟩
theorem c71_ok : ConOk Tryz.prog T c71 := fn_ok (Φ := [c109, c110]) (rs := [.tmp 4]) (an := (.n none .o (.n none (.n none .o (.n none (.loop ⟨[.lf (.int .i64)], [(12, .one (.h 0 []))], [], [], 2512⟩ false [(.exit 0, ⟨[], [], [], [], 2512⟩)] (.n none .o (.n none .o (.n none (.n none (.n none .o (.n none (.r (some (true, [(.normal, ⟨[.lf .bool], [(19, .one (.any)), (20, .one (.any)), (21, .one (.any)), (22, .one (.any)), (23, .one (.any)), (24, .one (.any)), (25, .one (.h 0 []))], [], [], 2961⟩)])) .nil) .o)) .o) .o)))) .o)) (.n none (.n none .o (.n none (.loop ⟨[.lf (.int .i64)], [(30, .one (.h 0 []))], [], [], 2832⟩ false [(.exit 2, ⟨[], [], [], [], 2832⟩)] .o) .o)) (.n none (.r (some (true, [(.normal, ⟨[.lf .bool], [(4, .one (.h 0 []))], [], [], 2896⟩)])) .nil) .o))))) pOk repOk (AllC.mem (⟨c109_ok, c110_ok, trivial⟩ : AllC _ _ [c109, c110])) hmix Tryz.call71 Tryz.func71 rfl rfl (by kernel_rfl) (fun h => by kernel_rfl)

noncomputable def balance_Overloaded (a0 : Board) (a1 : Power) (a2 : Int) : Option (Bool) :=
  Option.bind (balance_Load a0 a1 a2) fun x1 => Option.bind (balance_Rating a0 a1 a2) fun x2 => some (decide (x1 > x2))
noncomputable def c72 : Con D := ⟨72, [.lf (.int .i64), .lf (.sl 5), .lf (.sl 6), .lf (.sl 7), .lf (.int .i64), .lf (.int .i64), .lf (.sl 1), .lf (.sl 9), .lf (.sl 0), .lf (.sl 10), .lf (.int .i64)], [.lf .bool], [.agg [.h 0 [], .h 1 [0], .h 2 [0], .h 3 [0], .h 4 [], .h 5 []], .agg [.h 6 [0], .h 7 [0], .h 8 [0], .h 9 [0]], .one (.h 10 [])], [], [.one (.h 0 [])], [], fun h => balance_Overloaded ⟨h.1, h.2.1, h.2.2.1, h.2.2.2.1, h.2.2.2.2.1, h.2.2.2.2.2.1⟩ ⟨h.2.2.2.2.2.2.1, h.2.2.2.2.2.2.2.1, h.2.2.2.2.2.2.2.2.1, h.2.2.2.2.2.2.2.2.2.1⟩ h.2.2.2.2.2.2.2.2.2.2⟩
theorem c72_ok : ConOk Tryz.prog T c72 := fn_ok (Φ := [c111, c112]) (rs := [.tmp 6]) (an := .o) pOk repOk (AllC.mem (⟨c111_ok, c112_ok, trivial⟩ : AllC _ _ [c111, c112])) hmix Tryz.call72 Tryz.func72 rfl rfl (by kernel_rfl) (fun h => by kernel_rfl)

noncomputable def shed_Check_1 (a0 : Int) (a1 : Island) : Option (Bool) := Option.bind (slices_Contains_int_int a1.Consumers a0) fun x1 => some !x1
noncomputable def c76 : Con D := ⟨76, [.lf (.int .i64), .el 13], [.lf .bool], [.one (.h 0 []), .one (.rp 1 13 [0])], [], [.one (.h 0 [])], [], fun h => shed_Check_1 h.1 h.2⟩
theorem c76_ok : ConOk Tryz.prog T c76 := fn_ok (Φ := [c77]) (rs := [.tmp 3]) (an := .o) pOk repOk (AllC.mem (⟨c77_ok, trivial⟩ : AllC _ _ [c77])) hmix Tryz.call76 Tryz.func76 rfl rfl (by kernel_rfl) (fun h => by kernel_rfl)

noncomputable def board_Fed (a0 : Board) (a1 : Power) (a2 : Int) : Option (Int × Bool) :=
  Option.bind (board_State a0 a1) fun x1 =>
    if (x1 != 0) = true then some (0, false)
    else Option.bind (board_fed a0 a1 a2) fun x2 => some (x2.1, x2.2)
noncomputable def c63 : Con D := ⟨63, [.lf (.int .i64), .lf (.sl 5), .lf (.sl 6), .lf (.sl 7), .lf (.int .i64), .lf (.int .i64), .lf (.sl 1), .lf (.sl 9), .lf (.sl 0), .lf (.sl 10), .lf (.int .i64)], [.lf (.int .i64), .lf .bool], [.agg [.h 0 [], .h 1 [0], .h 2 [0], .h 3 [0], .h 4 [], .h 5 []], .agg [.h 6 [0], .h 7 [0], .h 8 [0], .h 9 [0]], .one (.h 10 [])], [], [.one (.h 0 []), .one (.h 1 [])], [], fun h => board_Fed ⟨h.1, h.2.1, h.2.2.1, h.2.2.2.1, h.2.2.2.2.1, h.2.2.2.2.2.1⟩ ⟨h.2.2.2.2.2.2.1, h.2.2.2.2.2.2.2.1, h.2.2.2.2.2.2.2.2.1, h.2.2.2.2.2.2.2.2.2.1⟩ h.2.2.2.2.2.2.2.2.2.2⟩
theorem c63_ok : ConOk Tryz.prog T c63 := fn_ok (Φ := [c70, c100]) (rs := [.tmp 6, .tmp 7]) (an := .o) pOk repOk (AllC.mem (⟨c70_ok, c100_ok, trivial⟩ : AllC _ _ [c70, c100])) hmix Tryz.call63 Tryz.func63 rfl rfl (by kernel_rfl) (fun h => by kernel_rfl)

noncomputable def shed_ordered_1_v1 (a0 : Int) (a1 : Int) (a2 : (List Breaker)) (a3 : (List Source)) (a4 : (List Consumer)) (a5 : Int) (a6 : Int) (a7 : (List Bool)) (a8 : (List Running)) (a9 : (List Int)) (a10 : (List Part)) : Option (Bool × Int × (List Breaker) × (List Source) × (List Consumer) × Int × Int × (List Bool) × (List Running) × (List Int) × (List Part)) :=
  Option.bind (board_Fed (Board.mk a1 a2 a3 a4 a5 a6) (Power.mk a7 a8 a9 a10) a0) fun x1 =>
    some (x1.2, a1, a2, a3, a4, a5, a6, a7, a8, a9, a10)
noncomputable def c118_1 : Con D := ⟨118, [.lf (.int .i64), .lf (.int .i64), .lf (.sl 5), .lf (.sl 6), .lf (.sl 7), .lf (.int .i64), .lf (.int .i64), .lf (.sl 1), .lf (.sl 9), .lf (.sl 0), .lf (.sl 10)], [.lf .bool, .lf (.int .i64), .lf (.sl 5), .lf (.sl 6), .lf (.sl 7), .lf (.int .i64), .lf (.int .i64), .lf (.sl 1), .lf (.sl 9), .lf (.sl 0), .lf (.sl 10)], [.one (.h 0 []), .one (.ptr 1000 0), .one (.ptr 1001 0)], [(1000, .box [.h 1 [], .h 2 [0], .h 3 [0], .h 4 [0], .h 5 [], .h 6 []]), (1001, .box [.h 7 [0], .h 8 [0], .h 9 [0], .h 10 [0]])], [.one (.h 0 [])], [(1000, .box [.h 1 [], .h 2 [0], .h 3 [0], .h 4 [0], .h 5 [], .h 6 []]), (1001, .box [.h 7 [0], .h 8 [0], .h 9 [0], .h 10 [0]])], fun h => shed_ordered_1_v1 h.1 h.2.1 h.2.2.1 h.2.2.2.1 h.2.2.2.2.1 h.2.2.2.2.2.1 h.2.2.2.2.2.2.1 h.2.2.2.2.2.2.2.1 h.2.2.2.2.2.2.2.2.1 h.2.2.2.2.2.2.2.2.2.1 h.2.2.2.2.2.2.2.2.2.2⟩
theorem c118_1_ok : ConOk Tryz.prog T c118_1 := fn_ok (Φ := [c63]) (rs := [.tmp 4]) (an := .o) pOk repOk (AllC.mem (⟨c63_ok, trivial⟩ : AllC _ _ [c63])) hmix Tryz.call118 Tryz.func118 rfl rfl (by kernel_rfl) (fun h => by kernel_rfl)

noncomputable def shed_ordered_2_v2 (a0 : Int) (a1 : Int) (a2 : (List Breaker)) (a3 : (List Source)) (a4 : (List Consumer)) (a5 : Int) (a6 : Int) (a7 : (List Bool)) (a8 : (List Running)) (a9 : (List Int)) (a10 : (List Part)) : Option (Bool × Int × (List Breaker) × (List Source) × (List Consumer) × Int × Int × (List Bool) × (List Running) × (List Int) × (List Part)) :=
  Option.bind
    (Option.bind (shed_ordered_1_v1 a0 a1 a2 a3 a4 a5 a6 a7 a8 a9 a10) fun x1 =>
      if x1.1 = true then
        Option.bind (idx x1.2.2.2.2.2.2.2.2.2.1 a0) fun x2 =>
          Option.bind (idx x1.2.2.2.2.1 a0) fun x3 =>
            some
              (decide (x2 > x3.Least), x1.2.1, x1.2.2.1, x1.2.2.2.1, x1.2.2.2.2.1,
                x1.2.2.2.2.2.1, x1.2.2.2.2.2.2.1, x1.2.2.2.2.2.2.2.1,
                x1.2.2.2.2.2.2.2.2.1, x1.2.2.2.2.2.2.2.2.2.1,
                x1.2.2.2.2.2.2.2.2.2.2)
      else
        some
          (false, x1.2.1, x1.2.2.1, x1.2.2.2.1, x1.2.2.2.2.1, x1.2.2.2.2.2.1,
            x1.2.2.2.2.2.2.1, x1.2.2.2.2.2.2.2.1, x1.2.2.2.2.2.2.2.2.1,
            x1.2.2.2.2.2.2.2.2.2.1, x1.2.2.2.2.2.2.2.2.2.2))
    fun x4 =>
    some
      (x4.1, x4.2.1, x4.2.2.1, x4.2.2.2.1, x4.2.2.2.2.1, x4.2.2.2.2.2.1,
        x4.2.2.2.2.2.2.1, x4.2.2.2.2.2.2.2.1, x4.2.2.2.2.2.2.2.2.1,
        x4.2.2.2.2.2.2.2.2.2.1, x4.2.2.2.2.2.2.2.2.2.2)
noncomputable def c119_2 : Con D := ⟨119, [.lf (.int .i64), .lf (.int .i64), .lf (.sl 5), .lf (.sl 6), .lf (.sl 7), .lf (.int .i64), .lf (.int .i64), .lf (.sl 1), .lf (.sl 9), .lf (.sl 0), .lf (.sl 10)], [.lf .bool, .lf (.int .i64), .lf (.sl 5), .lf (.sl 6), .lf (.sl 7), .lf (.int .i64), .lf (.int .i64), .lf (.sl 1), .lf (.sl 9), .lf (.sl 0), .lf (.sl 10)], [.one (.h 0 []), .one (.ptr 1000 0), .one (.ptr 1002 0), .one (.ptr 1001 0)], [(1000, .box [.fn 118 [.ptr 1001 0, .ptr 1002 0]]), (1001, .box [.h 1 [], .h 2 [0], .h 3 [0], .h 4 [0], .h 5 [], .h 6 []]), (1002, .box [.h 7 [0], .h 8 [0], .h 9 [0], .h 10 [0]])], [.one (.h 0 [])], [(1000, .box [.fn 118 [.ptr 1001 0, .ptr 1002 0]]), (1001, .box [.h 1 [], .h 2 [0], .h 3 [0], .h 4 [0], .h 5 [], .h 6 []]), (1002, .box [.h 7 [0], .h 8 [0], .h 9 [0], .h 10 [0]])], fun h => shed_ordered_2_v2 h.1 h.2.1 h.2.2.1 h.2.2.2.1 h.2.2.2.2.1 h.2.2.2.2.2.1 h.2.2.2.2.2.2.1 h.2.2.2.2.2.2.2.1 h.2.2.2.2.2.2.2.2.1 h.2.2.2.2.2.2.2.2.2.1 h.2.2.2.2.2.2.2.2.2.2⟩
theorem c119_2_ok : ConOk Tryz.prog T c119_2 := fn_ok (Φ := [c118_1]) (rs := [.tmp 5]) (an := (.n none .o (.n none (.r (some (true, [(.normal, ⟨[.lf .bool, .lf (.int .i64), .lf (.sl 5), .lf (.sl 6), .lf (.sl 7), .lf (.int .i64), .lf (.int .i64), .lf (.sl 1), .lf (.sl 9), .lf (.sl 0), .lf (.sl 10)], [(5, .one (.h 0 []))], [(1001, .box [.h 1 [], .h 2 [0], .h 3 [0], .h 4 [0], .h 5 [], .h 6 []]), (1002, .box [.h 7 [0], .h 8 [0], .h 9 [0], .h 10 [0]])], [1001, 1002], 2128⟩)])) .nil) .o))) pOk repOk (AllC.mem (⟨c118_1_ok, trivial⟩ : AllC _ _ [c118_1])) hmix Tryz.call119 Tryz.func119 rfl rfl (by kernel_rfl) (fun h => by kernel_rfl)

noncomputable def slices_IndexFunc_int_int_flat_L1 (a0 : List
  Int) (a1 : Island) : Int →
  Option
    (Int ⊕
      Unit ⊕
        Int) := fun x1 =>
  if decide (x1 < len a0) = true then
    Option.bind (idx a0 x1) fun x2 =>
      Option.bind (shed_relief__shed_1 x2 a1) fun x3 =>
        if x3 = true then some (.inr (.inr x1)) else some (.inl (W (x1 + 1)))
  else some (.inr (.inl ()))
noncomputable def slices_IndexFunc_int_int_flat (a0 : (List Int)) (a1 : Island) : Option (Int) :=
  Option.bind (loopO (slices_IndexFunc_int_int_flat_L1 a0 a1) 0) fun x4 =>
    Sum.elim (fun x5 => some (-1)) (fun x6 => some x6) x4
noncomputable def c103 : Con D := ⟨103, [.lf (.sl 0), .el 13], [.lf (.int .i64)], [.one (.h 0 [0]), .one (.fn 87 [.rp 1 13 [0]])], [], [.one (.h 0 [])], [], fun h => slices_IndexFunc_int_int_flat h.1 h.2⟩
theorem c103_ok : ConOk Tryz.prog T c103 := fn_ok (Φ := [c87]) (rs := [.tmp 4]) (an := (.n none .o (.n none (.n none .o (.n none (.loop ⟨[.lf (.int .i64)], [(8, .one (.h 0 []))], [], [], 2320⟩ false [(.exit 0, ⟨[], [], [], [], 2320⟩)] .o) .o)) .o))) pOk repOk (AllC.mem (⟨c87_ok, trivial⟩ : AllC _ _ [c87])) hmix Tryz.call103 Tryz.func103 rfl rfl (by kernel_rfl) (fun h => by kernel_rfl)

end Rx
end Go.Proofs.YtfnphdhcgkondaaGreat
