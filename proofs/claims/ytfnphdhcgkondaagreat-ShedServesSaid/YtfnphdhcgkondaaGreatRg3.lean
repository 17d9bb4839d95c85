/- Plain functions, walks. Written by a program (wip/gen). -/
import Derived.Test.YtfnphdhcgkondaaGreatRt
import Derived.Test.YtfnphdhcgkondaaGreatRg1
import Derived.Test.YtfnphdhcgkondaaGreatRg2
set_option linter.unusedVariables false
set_option maxRecDepth 100000
namespace Go.Proofs.YtfnphdhcgkondaaGreat
open Go Go.RowKit Dp
namespace Rx

noncomputable def relief_lower_v3_L1 (a0 : relief) (a1 : List
  Int) (a2 : Int) : Int × Int × List Breaker × List Source × List Consumer × Int × Int × List Int × List Act →
  Option
    (Int × Int × List Breaker × List Source × List Consumer × Int × Int × List Int × List Act ⊕
      Int ×
        List Breaker ×
          List Source ×
            List Consumer ×
              Int ×
                Int ×
                  List Int ×
                    List
                      Act) := fun x1 =>
  if decide (x1.1 < len a1) = true then
    Option.bind (idx a1 x1.1) fun x2 =>
      Option.bind
        (relief_excess
          (relief.mk
            (Board.mk x1.2.1 x1.2.2.1 x1.2.2.2.1 x1.2.2.2.2.1 x1.2.2.2.2.2.1
              x1.2.2.2.2.2.2.1)
            (Power.mk a0.power.Closed a0.power.Sources x1.2.2.2.2.2.2.2.1 a0.power.Broken)
            x1.2.2.2.2.2.2.2.2)
          a2)
        fun x3 =>
        Option.bind (idx x1.2.2.2.2.2.2.2.1 x2) fun x4 =>
          Option.bind (idx x1.2.2.2.2.1 x2) fun x5 =>
            Option.bind
              (if decide (imin x3 (W (x4 - x5.Least)) > 0) = true then
                Option.bind (idx x1.2.2.2.2.2.2.2.1 x2) fun x6 =>
                  Option.bind (idx x1.2.2.2.2.2.2.2.1 x2) fun x7 =>
                    Option.bind (idx x1.2.2.2.2.2.2.2.1 x2) fun x8 =>
                      Option.bind (setO x1.2.2.2.2.2.2.2.1 x2 (W (x6 - imin x3 (W (x4 - x5.Least)))))
                        fun x9 =>
                        Option.bind (idx x9 x2) fun x10 =>
                          Option.bind (app x1.2.2.2.2.2.2.2.2 [Act.mk 5 x2 x10]) fun x11 =>
                            some
                              (x1.2.1, x1.2.2.1, x1.2.2.2.1, x1.2.2.2.2.1,
                                x1.2.2.2.2.2.1, x1.2.2.2.2.2.2.1, x9, x11)
              else
                some
                  (x1.2.1, x1.2.2.1, x1.2.2.2.1, x1.2.2.2.2.1, x1.2.2.2.2.2.1,
                    x1.2.2.2.2.2.2.1, x1.2.2.2.2.2.2.2.1,
                    x1.2.2.2.2.2.2.2.2))
              fun x12 =>
              some
                (.inl
                  (W (x1.1 + 1), x12.1, x12.2.1, x12.2.2.1, x12.2.2.2.1,
                    x12.2.2.2.2.1, x12.2.2.2.2.2.1, x12.2.2.2.2.2.2.1,
                    x12.2.2.2.2.2.2.2))
  else
    some
      (.inr
        (x1.2.1, x1.2.2.1, x1.2.2.2.1, x1.2.2.2.2.1, x1.2.2.2.2.2.1,
          x1.2.2.2.2.2.2.1, x1.2.2.2.2.2.2.2.1, x1.2.2.2.2.2.2.2.2))
noncomputable def relief_lower_v3 (a0 : relief) (a1 : (List Int)) (a2 : Int) : Option (Int × (List Breaker) × (List Source) × (List Consumer) × Int × Int × (List Bool) × (List Running) × (List Int) × (List Part) × (List Int) × (List Act)) :=
  Option.bind
    (loopO (relief_lower_v3_L1 a0 a1 a2)
      (0, a0.board.Buses, a0.board.Breakers, a0.board.Sources, a0.board.Consumers, a0.board.Phase,
        a0.board.Frequency, a0.power.Limits, a0.acts))
    fun x13 =>
    some
      (x13.1, x13.2.1, x13.2.2.1, x13.2.2.2.1, x13.2.2.2.2.1, x13.2.2.2.2.2.1,
        a0.power.Closed, a0.power.Sources, x13.2.2.2.2.2.2.1, a0.power.Broken, a1,
        x13.2.2.2.2.2.2.2)
noncomputable def c88_3 : Con D := ⟨88, [.lf (.int .i64), .lf (.sl 5), .lf (.sl 6), .lf (.sl 7), .lf (.int .i64), .lf (.int .i64), .lf (.sl 1), .lf (.sl 9), .lf (.sl 0), .lf (.sl 10), .lf (.sl 11), .lf (.sl 0), .lf (.int .i64)], [.lf (.int .i64), .lf (.sl 5), .lf (.sl 6), .lf (.sl 7), .lf (.int .i64), .lf (.int .i64), .lf (.sl 1), .lf (.sl 9), .lf (.sl 0), .lf (.sl 10), .lf (.sl 0), .lf (.sl 11)], [.one (.ptr 1000 0), .one (.own 1006), .one (.h 12 [])], [(1000, .box [.h 0 [], .h 1 [0], .h 2 [0], .h 3 [0], .h 4 [], .h 5 [], .own 1001, .own 1002, .own 1003, .own 1004, .own 1005]), (1001, .sl 1 4 6 []), (1002, .sl 9 48 7 []), (1003, .sl 0 3 8 []), (1004, .sl 10 84 9 []), (1005, .sl 11 74 10 []), (1006, .sl 0 3 11 [])], [], [(1000, .box [.h 0 [], .h 1 [0], .h 2 [0], .h 3 [0], .h 4 [], .h 5 [], .own 1001, .own 1002, .own 1003, .own 1004, .own 1007]), (1001, .sl 1 4 6 []), (1002, .sl 9 48 7 []), (1003, .sl 0 3 8 []), (1004, .sl 10 84 9 []), (1006, .sl 0 3 10 []), (1007, .sl 11 74 11 [])], fun h => relief_lower_v3 ⟨⟨h.1, h.2.1, h.2.2.1, h.2.2.2.1, h.2.2.2.2.1, h.2.2.2.2.2.1⟩, ⟨h.2.2.2.2.2.2.1, h.2.2.2.2.2.2.2.1, h.2.2.2.2.2.2.2.2.1, h.2.2.2.2.2.2.2.2.2.1⟩, h.2.2.2.2.2.2.2.2.2.2.1⟩ h.2.2.2.2.2.2.2.2.2.2.2.1 h.2.2.2.2.2.2.2.2.2.2.2.2⟩
theorem c88_3_ok : ConOk Tryz.prog T c88_3 := fn_ok (Φ := [c127]) (rs := []) (an := (.n none .o (.n none (.loop ⟨[.lf (.int .i64), .lf (.int .i64), .lf (.sl 5), .lf (.sl 6), .lf (.sl 7), .lf (.int .i64), .lf (.int .i64), .lf (.sl 0), .lf (.sl 11)], [(11, .one (.h 0 []))], [(1000, .box [.h 1 [], .h 2 [0], .h 3 [0], .h 4 [0], .h 5 [], .h 6 [], .own 1001, .own 1002, .own 1003, .own 1004, .own 2192]), (1003, .sl 0 3 7 []), (2192, .sl 11 74 8 [])], [1000, 1003, 1005], 2256⟩ true [(.exit 0, ⟨[.lf (.int .i64), .lf (.sl 5), .lf (.sl 6), .lf (.sl 7), .lf (.int .i64), .lf (.int .i64), .lf (.sl 0), .lf (.sl 11)], [], [(1000, .box [.h 0 [], .h 1 [0], .h 2 [0], .h 3 [0], .h 4 [], .h 5 [], .own 1001, .own 1002, .own 1003, .own 1004, .own 2192]), (1003, .sl 0 3 6 []), (2192, .sl 11 74 7 [])], [1000, 1003, 1005], 2256⟩)] (.n none .o (.n none .o (.n none (.n none (.n none .o (.n none .o (.n none .o (.n (some (true, [(.normal, ⟨[.lf (.int .i64), .lf (.sl 5), .lf (.sl 6), .lf (.sl 7), .lf (.int .i64), .lf (.int .i64), .lf (.sl 0), .lf (.sl 11)], [], [(1000, .box [.h 0 [], .h 1 [0], .h 2 [0], .h 3 [0], .h 4 [], .h 5 [], .own 1001, .own 1002, .own 1003, .own 1004, .own 4121]), (1003, .sl 0 3 6 []), (4121, .sl 11 74 7 [])], [1000, 1003, 2192], 4185⟩)])) .o .o)))) .o) .o)))) .o))) pOk repOk (AllC.mem (⟨c127_ok, trivial⟩ : AllC _ _ [c127])) hmix Tryz.call88 Tryz.func88 rfl rfl (by kernel_rfl) (fun h => by kernel_rfl)

noncomputable def relief_open_v1 (a0 : relief) (a1 : Int) : Option (Int × (List Breaker) × (List Source) × (List Consumer) × Int × Int × (List Bool) × (List Running) × (List Int) × (List Part) × (List Act)) :=
  Option.bind (idx a0.power.Closed a1) fun x1 =>
    Option.bind (idx a0.power.Closed a1) fun x2 =>
      Option.bind (setO a0.power.Closed a1 false) fun x3 =>
        Option.bind (app a0.acts [Act.mk 2 a1 0]) fun x4 =>
          some
            (a0.board.Buses, a0.board.Breakers, a0.board.Sources, a0.board.Consumers, a0.board.Phase,
              a0.board.Frequency, x3, a0.power.Sources, a0.power.Limits, a0.power.Broken, x4)
noncomputable def c124_2 : Con D := ⟨124, [.lf (.int .i64), .lf (.sl 5), .lf (.sl 6), .lf (.sl 7), .lf (.int .i64), .lf (.int .i64), .lf (.sl 1), .lf (.sl 9), .lf (.sl 0), .lf (.sl 10), .lf (.sl 11), .lf (.int .i64)], [.lf (.int .i64), .lf (.sl 5), .lf (.sl 6), .lf (.sl 7), .lf (.int .i64), .lf (.int .i64), .lf (.sl 1), .lf (.sl 9), .lf (.sl 0), .lf (.sl 10), .lf (.sl 11)], [.one (.ptr 1000 0), .one (.h 11 [])], [(1000, .box [.h 0 [], .h 1 [0], .h 2 [0], .h 3 [0], .h 4 [], .h 5 [], .own 1001, .own 1002, .own 1003, .own 1004, .own 1005]), (1001, .sl 1 4 6 []), (1002, .sl 9 48 7 []), (1003, .sl 0 3 8 []), (1004, .sl 10 84 9 []), (1005, .sl 11 74 10 [])], [], [(1000, .box [.h 0 [], .h 1 [0], .h 2 [0], .h 3 [0], .h 4 [], .h 5 [], .own 1001, .own 1002, .own 1003, .own 1004, .own 1006]), (1001, .sl 1 4 6 []), (1002, .sl 9 48 7 []), (1003, .sl 0 3 8 []), (1004, .sl 10 84 9 []), (1006, .sl 11 74 10 [])], fun h => relief_open_v1 ⟨⟨h.1, h.2.1, h.2.2.1, h.2.2.2.1, h.2.2.2.2.1, h.2.2.2.2.2.1⟩, ⟨h.2.2.2.2.2.2.1, h.2.2.2.2.2.2.2.1, h.2.2.2.2.2.2.2.2.1, h.2.2.2.2.2.2.2.2.2.1⟩, h.2.2.2.2.2.2.2.2.2.2.1⟩ h.2.2.2.2.2.2.2.2.2.2.2⟩
theorem c124_2_ok : ConOk Tryz.prog T c124_2 := fn_ok (Φ := []) (rs := []) (an := .o) pOk repOk (AllC.mem (l := []) trivial) hmix Tryz.call124 Tryz.func124 rfl rfl (by kernel_rfl) (fun h => by kernel_rfl)

noncomputable def relief_sweep_v16_L1 (a0 : relief) (a1 : Int) : Int × List Int →
  Option
    (Int × List Int ⊕
      List
        Int) := fun x1 =>
  if decide (x1.1 < len a0.board.Breakers) = true then
    Option.bind (idx a0.board.Breakers x1.1) fun x2 =>
      Option.bind
        (Option.bind (idx a0.power.Closed x1.1) fun x3 =>
          if x3 = true then Option.bind (shed_relief__trip_1 x2 a1) fun x4 => some x4 else some false)
        fun x5 =>
        Option.bind (if x5 = true then Option.bind (app x1.2 [x1.1]) fun x6 => some x6 else some x1.2) fun x7 =>
          some (.inl (W (x1.1 + 1), x7))
  else some (.inr x1.2)
noncomputable def relief_sweep_v16_L2 (x8 : List
  Int) : Int ×
    Int ×
      List Breaker ×
        List Source × List Consumer × Int × Int × List Bool × List Running × List Int × List Part × List Act →
  Option
    (Int ×
        Int ×
          List Breaker ×
            List Source × List Consumer × Int × Int × List Bool × List Running × List Int × List Part × List Act ⊕
      Int ×
        List Breaker ×
          List Source ×
            List Consumer ×
              Int ×
                Int ×
                  List Bool ×
                    List Running ×
                      List Int ×
                        List Part ×
                          List
                            Act) := fun x9 =>
  if decide (x9.1 < len x8) = true then
    Option.bind (idx x8 x9.1) fun x10 =>
      Option.bind
        (relief_open_v1
          (relief.mk
            (Board.mk x9.2.1 x9.2.2.1 x9.2.2.2.1 x9.2.2.2.2.1 x9.2.2.2.2.2.1
              x9.2.2.2.2.2.2.1)
            (Power.mk x9.2.2.2.2.2.2.2.1 x9.2.2.2.2.2.2.2.2.1
              x9.2.2.2.2.2.2.2.2.2.1 x9.2.2.2.2.2.2.2.2.2.2.1)
            x9.2.2.2.2.2.2.2.2.2.2.2)
          x10)
        fun x11 =>
        some
          (.inl
            (W (x9.1 + 1), x11.1, x11.2.1, x11.2.2.1, x11.2.2.2.1,
              x11.2.2.2.2.1, x11.2.2.2.2.2.1, x11.2.2.2.2.2.2.1,
              x11.2.2.2.2.2.2.2.1, x11.2.2.2.2.2.2.2.2.1,
              x11.2.2.2.2.2.2.2.2.2.1, x11.2.2.2.2.2.2.2.2.2.2))
  else
    some
      (.inr
        (x9.2.1, x9.2.2.1, x9.2.2.2.1, x9.2.2.2.2.1, x9.2.2.2.2.2.1,
          x9.2.2.2.2.2.2.1, x9.2.2.2.2.2.2.2.1, x9.2.2.2.2.2.2.2.2.1,
          x9.2.2.2.2.2.2.2.2.2.1, x9.2.2.2.2.2.2.2.2.2.2.1,
          x9.2.2.2.2.2.2.2.2.2.2.2))
noncomputable def relief_sweep_v16 (a0 : relief) (a1 : Int) : Option (Int × (List Breaker) × (List Source) × (List Consumer) × Int × Int × (List Bool) × (List Running) × (List Int) × (List Part) × Int × (List Act)) :=
  Option.bind (loopO (relief_sweep_v16_L1 a0 a1) (0, [])) fun x8 =>
    Option.bind
      (loopO (relief_sweep_v16_L2 x8)
        (0, a0.board.Buses, a0.board.Breakers, a0.board.Sources, a0.board.Consumers, a0.board.Phase,
          a0.board.Frequency, a0.power.Closed, a0.power.Sources, a0.power.Limits, a0.power.Broken, a0.acts))
      fun x12 =>
      some
        (x12.1, x12.2.1, x12.2.2.1, x12.2.2.2.1, x12.2.2.2.2.1,
          x12.2.2.2.2.2.1, x12.2.2.2.2.2.2.1, x12.2.2.2.2.2.2.2.1,
          x12.2.2.2.2.2.2.2.2.1, x12.2.2.2.2.2.2.2.2.2.1, a1,
          x12.2.2.2.2.2.2.2.2.2.2)
noncomputable def c81_14 : Con D := ⟨81, [.lf (.int .i64), .lf (.sl 5), .lf (.sl 6), .lf (.sl 7), .lf (.int .i64), .lf (.int .i64), .lf (.sl 1), .lf (.sl 9), .lf (.sl 0), .lf (.sl 10), .lf (.sl 11), .lf (.int .i64)], [.lf (.int .i64), .lf (.sl 5), .lf (.sl 6), .lf (.sl 7), .lf (.int .i64), .lf (.int .i64), .lf (.sl 1), .lf (.sl 9), .lf (.sl 0), .lf (.sl 10), .lf (.int .i64), .lf (.sl 11)], [.one (.ptr 1000 0), .one (.fn 128 [.ptr 1006 0])], [(1000, .box [.h 0 [], .h 1 [0], .h 2 [0], .h 3 [0], .h 4 [], .h 5 [], .own 1001, .own 1002, .own 1003, .own 1004, .own 1005]), (1001, .sl 1 4 6 []), (1002, .sl 9 48 7 []), (1003, .sl 0 3 8 []), (1004, .sl 10 84 9 []), (1005, .sl 11 74 10 []), (1006, .box [.h 11 []])], [], [(1000, .box [.h 0 [], .h 1 [0], .h 2 [0], .h 3 [0], .h 4 [], .h 5 [], .own 1001, .own 1002, .own 1003, .own 1004, .own 1007]), (1001, .sl 1 4 6 []), (1002, .sl 9 48 7 []), (1003, .sl 0 3 8 []), (1004, .sl 10 84 9 []), (1006, .box [.h 10 []]), (1007, .sl 11 74 11 [])], fun h => relief_sweep_v16 ⟨⟨h.1, h.2.1, h.2.2.1, h.2.2.2.1, h.2.2.2.2.1, h.2.2.2.2.2.1⟩, ⟨h.2.2.2.2.2.2.1, h.2.2.2.2.2.2.2.1, h.2.2.2.2.2.2.2.2.1, h.2.2.2.2.2.2.2.2.2.1⟩, h.2.2.2.2.2.2.2.2.2.2.1⟩ h.2.2.2.2.2.2.2.2.2.2.2⟩
theorem c81_14_ok : ConOk Tryz.prog T c81_14 := fn_ok (Φ := [c124_2, c128]) (rs := []) (an := (.n none .o (.n none (.n none .o (.n none (.loop ⟨[.lf (.int .i64), .lf (.sl 0)], [(4, .one (.own 2512)), (15, .one (.h 0 []))], [(2512, .sl 0 3 1 [])], [], 2576⟩ true [(.exit 0, ⟨[.lf (.sl 0)], [(4, .one (.own 2512))], [(2512, .sl 0 3 0 [])], [], 2576⟩)] (.n none .o (.n none .o (.n none (.n none (.n none .o (.n none (.r (some (true, [(.normal, ⟨[.lf .bool], [(29, .one (.any)), (30, .one (.any)), (31, .one (.any)), (32, .one (.h 0 []))], [], [], 3090⟩)])) .nil) (.n (some (true, [(.normal, ⟨[.lf (.sl 0)], [(4, .one (.own 3091))], [(3091, .sl 0 3 0 [])], [2512], 3155⟩)])) .o .o))) .o) .o)))) .o)) (.n none .o (.n none (.loop ⟨[.lf (.int .i64), .lf (.int .i64), .lf (.sl 5), .lf (.sl 6), .lf (.sl 7), .lf (.int .i64), .lf (.int .i64), .lf (.sl 1), .lf (.sl 9), .lf (.sl 0), .lf (.sl 10), .lf (.sl 11)], [(40, .one (.h 0 []))], [(1000, .box [.h 1 [], .h 2 [0], .h 3 [0], .h 4 [0], .h 5 [], .h 6 [], .own 1001, .own 1002, .own 1003, .own 1004, .own 2769]), (1001, .sl 1 4 7 []), (1002, .sl 9 48 8 []), (1003, .sl 0 3 9 []), (1004, .sl 10 84 10 []), (2769, .sl 11 74 11 [])], [1000, 1001, 1002, 1003, 1004, 1005], 2833⟩ true [(.exit 2, ⟨[.lf (.int .i64), .lf (.sl 5), .lf (.sl 6), .lf (.sl 7), .lf (.int .i64), .lf (.int .i64), .lf (.sl 1), .lf (.sl 9), .lf (.sl 0), .lf (.sl 10), .lf (.sl 11)], [], [(1000, .box [.h 0 [], .h 1 [0], .h 2 [0], .h 3 [0], .h 4 [], .h 5 [], .own 1001, .own 1002, .own 1003, .own 1004, .own 2769]), (1001, .sl 1 4 6 []), (1002, .sl 9 48 7 []), (1003, .sl 0 3 8 []), (1004, .sl 10 84 9 []), (2769, .sl 11 74 10 [])], [1000, 1001, 1002, 1003, 1004, 1005], 2833⟩)] .o) .o))))) pOk repOk (AllC.mem (⟨c124_2_ok, c128_ok, trivial⟩ : AllC _ _ [c124_2, c128])) hmix Tryz.call81 Tryz.func81 rfl rfl (by kernel_rfl) (fun h => by kernel_rfl)

noncomputable def relief_trip_v2_L1 (a1 : List
  Int) (a2 : Int) : Int ×
    Int ×
      List Breaker ×
        List Source × List Consumer × Int × Int × List Bool × List Running × List Int × List Part × List Act →
  Option
    (Int ×
        Int ×
          List Breaker ×
            List Source × List Consumer × Int × Int × List Bool × List Running × List Int × List Part × List Act ⊕
      Int ×
        List Breaker ×
          List Source ×
            List Consumer ×
              Int ×
                Int ×
                  List Bool ×
                    List Running ×
                      List Int ×
                        List Part ×
                          List
                            Act) := fun x1 =>
  if decide (x1.1 < len a1) = true then
    Option.bind (idx a1 x1.1) fun x2 =>
      Option.bind
        (Option.bind (idx x1.2.2.2.2.2.2.2.2.2.1 x2) fun x3 =>
          if decide (x3 > 0) = true then
            Option.bind
              (relief_excess
                (relief.mk
                  (Board.mk x1.2.1 x1.2.2.1 x1.2.2.2.1 x1.2.2.2.2.1
                    x1.2.2.2.2.2.1 x1.2.2.2.2.2.2.1)
                  (Power.mk x1.2.2.2.2.2.2.2.1 x1.2.2.2.2.2.2.2.2.1
                    x1.2.2.2.2.2.2.2.2.2.1 x1.2.2.2.2.2.2.2.2.2.2.1)
                  x1.2.2.2.2.2.2.2.2.2.2.2)
                a2)
              fun x4 => some (decide (x4 > 0))
          else some false)
        fun x5 =>
        Option.bind
          (if x5 = true then
            Option.bind
              (relief_sweep_v16
                (relief.mk
                  (Board.mk x1.2.1 x1.2.2.1 x1.2.2.2.1 x1.2.2.2.2.1
                    x1.2.2.2.2.2.1 x1.2.2.2.2.2.2.1)
                  (Power.mk x1.2.2.2.2.2.2.2.1 x1.2.2.2.2.2.2.2.2.1
                    x1.2.2.2.2.2.2.2.2.2.1 x1.2.2.2.2.2.2.2.2.2.2.1)
                  x1.2.2.2.2.2.2.2.2.2.2.2)
                x2)
              fun x6 =>
              some
                (x6.1, x6.2.1, x6.2.2.1, x6.2.2.2.1, x6.2.2.2.2.1,
                  x6.2.2.2.2.2.1, x6.2.2.2.2.2.2.1, x6.2.2.2.2.2.2.2.1,
                  x6.2.2.2.2.2.2.2.2.1, x6.2.2.2.2.2.2.2.2.2.1,
                  x6.2.2.2.2.2.2.2.2.2.2.1, x6.2.2.2.2.2.2.2.2.2.2.2)
          else
            some
              (x1.2.1, x1.2.2.1, x1.2.2.2.1, x1.2.2.2.2.1, x1.2.2.2.2.2.1,
                x1.2.2.2.2.2.2.1, x1.2.2.2.2.2.2.2.1,
                x1.2.2.2.2.2.2.2.2.1, x1.2.2.2.2.2.2.2.2.2.1,
                x1.2.2.2.2.2.2.2.2.2.2.1, x2, x1.2.2.2.2.2.2.2.2.2.2.2))
          fun x7 =>
          some
            (.inl
              (W (x1.1 + 1), x7.1, x7.2.1, x7.2.2.1, x7.2.2.2.1, x7.2.2.2.2.1,
                x7.2.2.2.2.2.1, x7.2.2.2.2.2.2.1, x7.2.2.2.2.2.2.2.1,
                x7.2.2.2.2.2.2.2.2.1, x7.2.2.2.2.2.2.2.2.2.1,
                x7.2.2.2.2.2.2.2.2.2.2.2))
  else
    some
      (.inr
        (x1.2.1, x1.2.2.1, x1.2.2.2.1, x1.2.2.2.2.1, x1.2.2.2.2.2.1,
          x1.2.2.2.2.2.2.1, x1.2.2.2.2.2.2.2.1, x1.2.2.2.2.2.2.2.2.1,
          x1.2.2.2.2.2.2.2.2.2.1, x1.2.2.2.2.2.2.2.2.2.2.1,
          x1.2.2.2.2.2.2.2.2.2.2.2))
noncomputable def relief_trip_v2 (a0 : relief) (a1 : (List Int)) (a2 : Int) : Option (Int × (List Breaker) × (List Source) × (List Consumer) × Int × Int × (List Bool) × (List Running) × (List Int) × (List Part) × (List Int) × (List Act)) :=
  Option.bind
    (loopO (relief_trip_v2_L1 a1 a2)
      (0, a0.board.Buses, a0.board.Breakers, a0.board.Sources, a0.board.Consumers, a0.board.Phase,
        a0.board.Frequency, a0.power.Closed, a0.power.Sources, a0.power.Limits, a0.power.Broken, a0.acts))
    fun x8 =>
    some
      (x8.1, x8.2.1, x8.2.2.1, x8.2.2.2.1, x8.2.2.2.2.1, x8.2.2.2.2.2.1,
        x8.2.2.2.2.2.2.1, x8.2.2.2.2.2.2.2.1, x8.2.2.2.2.2.2.2.2.1,
        x8.2.2.2.2.2.2.2.2.2.1, a1, x8.2.2.2.2.2.2.2.2.2.2)
noncomputable def c89_2 : Con D := ⟨89, [.lf (.int .i64), .lf (.sl 5), .lf (.sl 6), .lf (.sl 7), .lf (.int .i64), .lf (.int .i64), .lf (.sl 1), .lf (.sl 9), .lf (.sl 0), .lf (.sl 10), .lf (.sl 11), .lf (.sl 0), .lf (.int .i64)], [.lf (.int .i64), .lf (.sl 5), .lf (.sl 6), .lf (.sl 7), .lf (.int .i64), .lf (.int .i64), .lf (.sl 1), .lf (.sl 9), .lf (.sl 0), .lf (.sl 10), .lf (.sl 0), .lf (.sl 11)], [.one (.ptr 1000 0), .one (.own 1006), .one (.h 12 [])], [(1000, .box [.h 0 [], .h 1 [0], .h 2 [0], .h 3 [0], .h 4 [], .h 5 [], .own 1001, .own 1002, .own 1003, .own 1004, .own 1005]), (1001, .sl 1 4 6 []), (1002, .sl 9 48 7 []), (1003, .sl 0 3 8 []), (1004, .sl 10 84 9 []), (1005, .sl 11 74 10 []), (1006, .sl 0 3 11 [])], [], [(1000, .box [.h 0 [], .h 1 [0], .h 2 [0], .h 3 [0], .h 4 [], .h 5 [], .own 1001, .own 1002, .own 1003, .own 1004, .own 1007]), (1001, .sl 1 4 6 []), (1002, .sl 9 48 7 []), (1003, .sl 0 3 8 []), (1004, .sl 10 84 9 []), (1006, .sl 0 3 10 []), (1007, .sl 11 74 11 [])], fun h => relief_trip_v2 ⟨⟨h.1, h.2.1, h.2.2.1, h.2.2.2.1, h.2.2.2.2.1, h.2.2.2.2.2.1⟩, ⟨h.2.2.2.2.2.2.1, h.2.2.2.2.2.2.2.1, h.2.2.2.2.2.2.2.2.1, h.2.2.2.2.2.2.2.2.2.1⟩, h.2.2.2.2.2.2.2.2.2.2.1⟩ h.2.2.2.2.2.2.2.2.2.2.2.1 h.2.2.2.2.2.2.2.2.2.2.2.2⟩
theorem c89_2_ok : ConOk Tryz.prog T c89_2 := fn_ok (Φ := [c81_14, c127]) (rs := []) (an := (.n none .o (.n none (.loop ⟨[.lf (.int .i64), .lf (.int .i64), .lf (.sl 5), .lf (.sl 6), .lf (.sl 7), .lf (.int .i64), .lf (.int .i64), .lf (.sl 1), .lf (.sl 9), .lf (.sl 0), .lf (.sl 10), .lf (.sl 11)], [(10, .one (.h 0 []))], [(1000, .box [.h 1 [], .h 2 [0], .h 3 [0], .h 4 [0], .h 5 [], .h 6 [], .own 1001, .own 1002, .own 1003, .own 1004, .own 2192]), (1001, .sl 1 4 7 []), (1002, .sl 9 48 8 []), (1003, .sl 0 3 9 []), (1004, .sl 10 84 10 []), (2192, .sl 11 74 11 [])], [1000, 1001, 1002, 1003, 1004, 1005], 2256⟩ true [(.exit 0, ⟨[.lf (.int .i64), .lf (.sl 5), .lf (.sl 6), .lf (.sl 7), .lf (.int .i64), .lf (.int .i64), .lf (.sl 1), .lf (.sl 9), .lf (.sl 0), .lf (.sl 10), .lf (.sl 11)], [], [(1000, .box [.h 0 [], .h 1 [0], .h 2 [0], .h 3 [0], .h 4 [], .h 5 [], .own 1001, .own 1002, .own 1003, .own 1004, .own 2192]), (1001, .sl 1 4 6 []), (1002, .sl 9 48 7 []), (1003, .sl 0 3 8 []), (1004, .sl 10 84 9 []), (2192, .sl 11 74 10 [])], [1000, 1001, 1002, 1003, 1004, 1005], 2256⟩)] (.n none .o (.n none .o (.n none (.n none (.n none .o (.n none (.r (some (true, [(.normal, ⟨[.lf .bool], [(24, .one (.any)), (25, .one (.any)), (26, .one (.any)), (27, .one (.any)), (28, .one (.h 0 []))], [], [], 2652⟩)])) .nil) (.n (some (true, [(.normal, ⟨[.lf (.int .i64), .lf (.sl 5), .lf (.sl 6), .lf (.sl 7), .lf (.int .i64), .lf (.int .i64), .lf (.sl 1), .lf (.sl 9), .lf (.sl 0), .lf (.sl 10), .lf (.int .i64), .lf (.sl 11)], [], [(1000, .box [.h 0 [], .h 1 [0], .h 2 [0], .h 3 [0], .h 4 [], .h 5 [], .own 1001, .own 1002, .own 1003, .own 1004, .own 2653]), (1001, .sl 1 4 6 []), (1002, .sl 9 48 7 []), (1003, .sl 0 3 8 []), (1004, .sl 10 84 9 []), (2460, .box [.h 10 []]), (2653, .sl 11 74 11 [])], [1000, 1001, 1002, 1003, 1004, 2192, 2460], 2717⟩)])) .o .o))) .o) .o)))) .o))) pOk repOk (AllC.mem (⟨c81_14_ok, c127_ok, trivial⟩ : AllC _ _ [c81_14, c127])) hmix Tryz.call89 Tryz.func89 rfl rfl (by kernel_rfl) (fun h => by kernel_rfl)

noncomputable def relief_sweep_v5_L1 (a0 : relief) : Int × List Int →
  Option
    (Int × List Int ⊕
      List
        Int) := fun x1 =>
  if decide (x1.1 < len a0.board.Breakers) = true then
    Option.bind (idx a0.board.Breakers x1.1) fun x2 =>
      Option.bind
        (Option.bind (idx a0.power.Closed x1.1) fun x3 =>
          if x3 = true then Option.bind (relief_dangerous a0 x2) fun x4 => some x4 else some false)
        fun x5 =>
        Option.bind (if x5 = true then Option.bind (app x1.2 [x1.1]) fun x6 => some x6 else some x1.2) fun x7 =>
          some (.inl (W (x1.1 + 1), x7))
  else some (.inr x1.2)
noncomputable def relief_sweep_v5_L2 (x8 : List
  Int) : Int ×
    Int ×
      List Breaker ×
        List Source × List Consumer × Int × Int × List Bool × List Running × List Int × List Part × List Act →
  Option
    (Int ×
        Int ×
          List Breaker ×
            List Source × List Consumer × Int × Int × List Bool × List Running × List Int × List Part × List Act ⊕
      Int ×
        List Breaker ×
          List Source ×
            List Consumer ×
              Int ×
                Int ×
                  List Bool ×
                    List Running ×
                      List Int ×
                        List Part ×
                          List
                            Act) := fun x9 =>
  if decide (x9.1 < len x8) = true then
    Option.bind (idx x8 x9.1) fun x10 =>
      Option.bind
        (relief_open_v1
          (relief.mk
            (Board.mk x9.2.1 x9.2.2.1 x9.2.2.2.1 x9.2.2.2.2.1 x9.2.2.2.2.2.1
              x9.2.2.2.2.2.2.1)
            (Power.mk x9.2.2.2.2.2.2.2.1 x9.2.2.2.2.2.2.2.2.1
              x9.2.2.2.2.2.2.2.2.2.1 x9.2.2.2.2.2.2.2.2.2.2.1)
            x9.2.2.2.2.2.2.2.2.2.2.2)
          x10)
        fun x11 =>
        some
          (.inl
            (W (x9.1 + 1), x11.1, x11.2.1, x11.2.2.1, x11.2.2.2.1,
              x11.2.2.2.2.1, x11.2.2.2.2.2.1, x11.2.2.2.2.2.2.1,
              x11.2.2.2.2.2.2.2.1, x11.2.2.2.2.2.2.2.2.1,
              x11.2.2.2.2.2.2.2.2.2.1, x11.2.2.2.2.2.2.2.2.2.2))
  else
    some
      (.inr
        (x9.2.1, x9.2.2.1, x9.2.2.2.1, x9.2.2.2.2.1, x9.2.2.2.2.2.1,
          x9.2.2.2.2.2.2.1, x9.2.2.2.2.2.2.2.1, x9.2.2.2.2.2.2.2.2.1,
          x9.2.2.2.2.2.2.2.2.2.1, x9.2.2.2.2.2.2.2.2.2.2.1,
          x9.2.2.2.2.2.2.2.2.2.2.2))
noncomputable def relief_sweep_v5 (a0 : relief) : Option (Int × (List Breaker) × (List Source) × (List Consumer) × Int × Int × (List Bool) × (List Running) × (List Int) × (List Part) × (List Act)) :=
  Option.bind (loopO (relief_sweep_v5_L1 a0) (0, [])) fun x8 =>
    Option.bind
      (loopO (relief_sweep_v5_L2 x8)
        (0, a0.board.Buses, a0.board.Breakers, a0.board.Sources, a0.board.Consumers, a0.board.Phase,
          a0.board.Frequency, a0.power.Closed, a0.power.Sources, a0.power.Limits, a0.power.Broken, a0.acts))
      fun x12 =>
      some
        (x12.1, x12.2.1, x12.2.2.1, x12.2.2.2.1, x12.2.2.2.2.1,
          x12.2.2.2.2.2.1, x12.2.2.2.2.2.2.1, x12.2.2.2.2.2.2.2.1,
          x12.2.2.2.2.2.2.2.2.1, x12.2.2.2.2.2.2.2.2.2.1,
          x12.2.2.2.2.2.2.2.2.2.2)
noncomputable def c81_15 : Con D := ⟨81, [.lf (.int .i64), .lf (.sl 5), .lf (.sl 6), .lf (.sl 7), .lf (.int .i64), .lf (.int .i64), .lf (.sl 1), .lf (.sl 9), .lf (.sl 0), .lf (.sl 10), .lf (.sl 11)], [.lf (.int .i64), .lf (.sl 5), .lf (.sl 6), .lf (.sl 7), .lf (.int .i64), .lf (.int .i64), .lf (.sl 1), .lf (.sl 9), .lf (.sl 0), .lf (.sl 10), .lf (.sl 11)], [.one (.ptr 1000 0), .one (.fn 1000082 [.ptr 1000 0])], [(1000, .box [.h 0 [], .h 1 [0], .h 2 [0], .h 3 [0], .h 4 [], .h 5 [], .own 1001, .own 1002, .own 1003, .own 1004, .own 1005]), (1001, .sl 1 4 6 []), (1002, .sl 9 48 7 []), (1003, .sl 0 3 8 []), (1004, .sl 10 84 9 []), (1005, .sl 11 74 10 [])], [], [(1000, .box [.h 0 [], .h 1 [0], .h 2 [0], .h 3 [0], .h 4 [], .h 5 [], .own 1001, .own 1002, .own 1003, .own 1004, .own 1006]), (1001, .sl 1 4 6 []), (1002, .sl 9 48 7 []), (1003, .sl 0 3 8 []), (1004, .sl 10 84 9 []), (1006, .sl 11 74 10 [])], fun h => relief_sweep_v5 ⟨⟨h.1, h.2.1, h.2.2.1, h.2.2.2.1, h.2.2.2.2.1, h.2.2.2.2.2.1⟩, ⟨h.2.2.2.2.2.2.1, h.2.2.2.2.2.2.2.1, h.2.2.2.2.2.2.2.2.1, h.2.2.2.2.2.2.2.2.2.1⟩, h.2.2.2.2.2.2.2.2.2.2⟩⟩
theorem c81_15_ok : ConOk Tryz.prog T c81_15 := fn_ok (Φ := [c82, c124_2]) (rs := []) (an := (.n none .o (.n none (.n none .o (.n none (.loop ⟨[.lf (.int .i64), .lf (.sl 0)], [(4, .one (.own 2512)), (15, .one (.h 0 []))], [(2512, .sl 0 3 1 [])], [], 2576⟩ true [(.exit 0, ⟨[.lf (.sl 0)], [(4, .one (.own 2512))], [(2512, .sl 0 3 0 [])], [], 2576⟩)] (.n none .o (.n none .o (.n none (.n none (.n none .o (.n none (.r (some (true, [(.normal, ⟨[.lf .bool], [(29, .one (.any)), (30, .one (.any)), (31, .one (.any)), (32, .one (.h 0 []))], [], [], 3090⟩)])) .nil) (.n (some (true, [(.normal, ⟨[.lf (.sl 0)], [(4, .one (.own 3091))], [(3091, .sl 0 3 0 [])], [2512], 3155⟩)])) .o .o))) .o) .o)))) .o)) (.n none .o (.n none (.loop ⟨[.lf (.int .i64), .lf (.int .i64), .lf (.sl 5), .lf (.sl 6), .lf (.sl 7), .lf (.int .i64), .lf (.int .i64), .lf (.sl 1), .lf (.sl 9), .lf (.sl 0), .lf (.sl 10), .lf (.sl 11)], [(40, .one (.h 0 []))], [(1000, .box [.h 1 [], .h 2 [0], .h 3 [0], .h 4 [0], .h 5 [], .h 6 [], .own 1001, .own 1002, .own 1003, .own 1004, .own 2769]), (1001, .sl 1 4 7 []), (1002, .sl 9 48 8 []), (1003, .sl 0 3 9 []), (1004, .sl 10 84 10 []), (2769, .sl 11 74 11 [])], [1000, 1001, 1002, 1003, 1004, 1005], 2833⟩ true [(.exit 2, ⟨[.lf (.int .i64), .lf (.sl 5), .lf (.sl 6), .lf (.sl 7), .lf (.int .i64), .lf (.int .i64), .lf (.sl 1), .lf (.sl 9), .lf (.sl 0), .lf (.sl 10), .lf (.sl 11)], [], [(1000, .box [.h 0 [], .h 1 [0], .h 2 [0], .h 3 [0], .h 4 [], .h 5 [], .own 1001, .own 1002, .own 1003, .own 1004, .own 2769]), (1001, .sl 1 4 6 []), (1002, .sl 9 48 7 []), (1003, .sl 0 3 8 []), (1004, .sl 10 84 9 []), (2769, .sl 11 74 10 [])], [1000, 1001, 1002, 1003, 1004, 1005], 2833⟩)] .o) .o))))) pOk repOk (AllC.mem (⟨c82_ok, c124_2_ok, trivial⟩ : AllC _ _ [c82, c124_2])) hmix Tryz.call81 Tryz.func81 rfl rfl (by kernel_rfl) (fun h => by kernel_rfl)

noncomputable def shed_relief__clear_1_v1 (a0 : Breaker) (a1 : Int) (a2 : (List Breaker)) (a3 : (List Source)) (a4 : (List Consumer)) (a5 : Int) (a6 : Int) (a7 : (List Bool)) (a8 : (List Running)) (a9 : (List Int)) (a10 : (List Part)) (a11 : (List Act)) : Option (Bool × Int × (List Breaker) × (List Source) × (List Consumer) × Int × Int × (List Bool) × (List Running) × (List Int) × (List Part) × (List Act)) :=
  Option.bind
    (if (a0.Kind == 3) = true then
      Option.bind (board_Live (Board.mk a1 a2 a3 a4 a5 a6) (Power.mk a7 a8 a9 a10) a0.A) fun x1 => some !x1
    else some false)
    fun x2 => some (x2, a1, a2, a3, a4, a5, a6, a7, a8, a9, a10, a11)
noncomputable def c83_1 : Con D := ⟨83, [.lf (.int .i64), .lf (.int .i64), .lf (.int .i64), .lf (.int .i64), .lf (.sl 5), .lf (.sl 6), .lf (.sl 7), .lf (.int .i64), .lf (.int .i64), .lf (.sl 1), .lf (.sl 9), .lf (.sl 0), .lf (.sl 10), .lf (.sl 11)], [.lf .bool, .lf (.int .i64), .lf (.sl 5), .lf (.sl 6), .lf (.sl 7), .lf (.int .i64), .lf (.int .i64), .lf (.sl 1), .lf (.sl 9), .lf (.sl 0), .lf (.sl 10), .lf (.sl 11)], [.agg [.h 0 [], .h 1 [], .h 2 []], .one (.ptr 1000 0)], [(1000, .box [.ptr 1001 0]), (1001, .box [.h 3 [], .h 4 [0], .h 5 [0], .h 6 [0], .h 7 [], .h 8 [], .own 1002, .own 1003, .own 1004, .own 1005, .own 1006]), (1002, .sl 1 4 9 []), (1003, .sl 9 48 10 []), (1004, .sl 0 3 11 []), (1005, .sl 10 84 12 []), (1006, .sl 11 74 13 [])], [.one (.h 0 [])], [(1000, .box [.ptr 1001 0]), (1001, .box [.h 1 [], .h 2 [0], .h 3 [0], .h 4 [0], .h 5 [], .h 6 [], .own 1002, .own 1003, .own 1004, .own 1005, .own 1006]), (1002, .sl 1 4 7 []), (1003, .sl 9 48 8 []), (1004, .sl 0 3 9 []), (1005, .sl 10 84 10 []), (1006, .sl 11 74 11 [])], fun h => shed_relief__clear_1_v1 ⟨h.1, h.2.1, h.2.2.1⟩ h.2.2.2.1 h.2.2.2.2.1 h.2.2.2.2.2.1 h.2.2.2.2.2.2.1 h.2.2.2.2.2.2.2.1 h.2.2.2.2.2.2.2.2.1 h.2.2.2.2.2.2.2.2.2.1 h.2.2.2.2.2.2.2.2.2.2.1 h.2.2.2.2.2.2.2.2.2.2.2.1 h.2.2.2.2.2.2.2.2.2.2.2.2.1 h.2.2.2.2.2.2.2.2.2.2.2.2.2⟩
theorem c83_1_ok : ConOk Tryz.prog T c83_1 := fn_ok (Φ := [c64]) (rs := [.tmp 3]) (an := (.n none .o (.n none (.r (some (true, [(.normal, ⟨[.lf .bool], [(3, .one (.h 0 []))], [], [], 2192⟩)])) .nil) .o))) pOk repOk (AllC.mem (⟨c64_ok, trivial⟩ : AllC _ _ [c64])) hmix Tryz.call83 Tryz.func83 rfl rfl (by kernel_rfl) (fun h => by kernel_rfl)

noncomputable def relief_sweep_v6_L1 (a0 : relief) : Int ×
    List Int ×
      Int ×
        List Breaker ×
          List Source × List Consumer × Int × Int × List Bool × List Running × List Int × List Part × List Act →
  Option
    (Int ×
        List Int ×
          Int ×
            List Breaker ×
              List Source × List Consumer × Int × Int × List Bool × List Running × List Int × List Part × List Act ⊕
      List Int ×
        Int ×
          List Breaker ×
            List Source ×
              List Consumer ×
                Int ×
                  Int ×
                    List Bool ×
                      List Running ×
                        List Int ×
                          List Part ×
                            List
                              Act) := fun x1 =>
  if decide (x1.1 < len a0.board.Breakers) = true then
    Option.bind (idx a0.board.Breakers x1.1) fun x2 =>
      Option.bind
        (Option.bind (idx x1.2.2.2.2.2.2.2.2.1 x1.1) fun x3 =>
          if x3 = true then
            Option.bind
              (shed_relief__clear_1_v1 x2 x1.2.2.1 x1.2.2.2.1 x1.2.2.2.2.1
                x1.2.2.2.2.2.1 x1.2.2.2.2.2.2.1 x1.2.2.2.2.2.2.2.1
                x1.2.2.2.2.2.2.2.2.1 x1.2.2.2.2.2.2.2.2.2.1
                x1.2.2.2.2.2.2.2.2.2.2.1 x1.2.2.2.2.2.2.2.2.2.2.2.1
                x1.2.2.2.2.2.2.2.2.2.2.2.2)
              fun x4 =>
              some
                (x4.1, x4.2.1, x4.2.2.1, x4.2.2.2.1, x4.2.2.2.2.1,
                  x4.2.2.2.2.2.1, x4.2.2.2.2.2.2.1, x4.2.2.2.2.2.2.2.1,
                  x4.2.2.2.2.2.2.2.2.1, x4.2.2.2.2.2.2.2.2.2.1,
                  x4.2.2.2.2.2.2.2.2.2.2.1, x4.2.2.2.2.2.2.2.2.2.2.2)
          else
            some
              (false, x1.2.2.1, x1.2.2.2.1, x1.2.2.2.2.1, x1.2.2.2.2.2.1,
                x1.2.2.2.2.2.2.1, x1.2.2.2.2.2.2.2.1,
                x1.2.2.2.2.2.2.2.2.1, x1.2.2.2.2.2.2.2.2.2.1,
                x1.2.2.2.2.2.2.2.2.2.2.1, x1.2.2.2.2.2.2.2.2.2.2.2.1,
                x1.2.2.2.2.2.2.2.2.2.2.2.2))
        fun x5 =>
        Option.bind (if x5.1 = true then Option.bind (app x1.2.1 [x1.1]) fun x6 => some x6 else some x1.2.1)
          fun x7 =>
          some
            (.inl
              (W (x1.1 + 1), x7, x5.2.1, x5.2.2.1, x5.2.2.2.1, x5.2.2.2.2.1,
                x5.2.2.2.2.2.1, x5.2.2.2.2.2.2.1, x5.2.2.2.2.2.2.2.1,
                x5.2.2.2.2.2.2.2.2.1, x5.2.2.2.2.2.2.2.2.2.1,
                x5.2.2.2.2.2.2.2.2.2.2.1, x5.2.2.2.2.2.2.2.2.2.2.2))
  else
    some
      (.inr
        (x1.2.1, x1.2.2.1, x1.2.2.2.1, x1.2.2.2.2.1, x1.2.2.2.2.2.1,
          x1.2.2.2.2.2.2.1, x1.2.2.2.2.2.2.2.1, x1.2.2.2.2.2.2.2.2.1,
          x1.2.2.2.2.2.2.2.2.2.1, x1.2.2.2.2.2.2.2.2.2.2.1,
          x1.2.2.2.2.2.2.2.2.2.2.2.1, x1.2.2.2.2.2.2.2.2.2.2.2.2))
noncomputable def relief_sweep_v6_L2 (x8 : List Int ×
  Int ×
    List Breaker ×
      List Source ×
        List Consumer ×
          Int ×
            Int ×
              List Bool ×
                List Running ×
                  List Int ×
                    List Part ×
                      List
                        Act) : Int ×
    Int ×
      List Breaker ×
        List Source × List Consumer × Int × Int × List Bool × List Running × List Int × List Part × List Act →
  Option
    (Int ×
        Int ×
          List Breaker ×
            List Source × List Consumer × Int × Int × List Bool × List Running × List Int × List Part × List Act ⊕
      Int ×
        List Breaker ×
          List Source ×
            List Consumer ×
              Int ×
                Int ×
                  List Bool ×
                    List Running ×
                      List Int ×
                        List Part ×
                          List
                            Act) := fun x9 =>
  if decide (x9.1 < len x8.1) = true then
    Option.bind (idx x8.1 x9.1) fun x10 =>
      Option.bind
        (relief_open_v1
          (relief.mk
            (Board.mk x9.2.1 x9.2.2.1 x9.2.2.2.1 x9.2.2.2.2.1 x9.2.2.2.2.2.1
              x9.2.2.2.2.2.2.1)
            (Power.mk x9.2.2.2.2.2.2.2.1 x9.2.2.2.2.2.2.2.2.1
              x9.2.2.2.2.2.2.2.2.2.1 x9.2.2.2.2.2.2.2.2.2.2.1)
            x9.2.2.2.2.2.2.2.2.2.2.2)
          x10)
        fun x11 =>
        some
          (.inl
            (W (x9.1 + 1), x11.1, x11.2.1, x11.2.2.1, x11.2.2.2.1,
              x11.2.2.2.2.1, x11.2.2.2.2.2.1, x11.2.2.2.2.2.2.1,
              x11.2.2.2.2.2.2.2.1, x11.2.2.2.2.2.2.2.2.1,
              x11.2.2.2.2.2.2.2.2.2.1, x11.2.2.2.2.2.2.2.2.2.2))
  else
    some
      (.inr
        (x9.2.1, x9.2.2.1, x9.2.2.2.1, x9.2.2.2.2.1, x9.2.2.2.2.2.1,
          x9.2.2.2.2.2.2.1, x9.2.2.2.2.2.2.2.1, x9.2.2.2.2.2.2.2.2.1,
          x9.2.2.2.2.2.2.2.2.2.1, x9.2.2.2.2.2.2.2.2.2.2.1,
          x9.2.2.2.2.2.2.2.2.2.2.2))
noncomputable def relief_sweep_v6 (a0 : relief) : Option (Int × (List Breaker) × (List Source) × (List Consumer) × Int × Int × (List Bool) × (List Running) × (List Int) × (List Part) × (List Act)) :=
  Option.bind
    (loopO (relief_sweep_v6_L1 a0)
      (0, [], a0.board.Buses, a0.board.Breakers, a0.board.Sources, a0.board.Consumers, a0.board.Phase,
        a0.board.Frequency, a0.power.Closed, a0.power.Sources, a0.power.Limits, a0.power.Broken, a0.acts))
    fun x8 =>
    Option.bind
      (loopO (relief_sweep_v6_L2 x8)
        (0, x8.2.1, x8.2.2.1, x8.2.2.2.1, x8.2.2.2.2.1,
          x8.2.2.2.2.2.1, x8.2.2.2.2.2.2.1, x8.2.2.2.2.2.2.2.1,
          x8.2.2.2.2.2.2.2.2.1, x8.2.2.2.2.2.2.2.2.2.1,
          x8.2.2.2.2.2.2.2.2.2.2.1, x8.2.2.2.2.2.2.2.2.2.2.2))
      fun x12 =>
      some
        (x12.1, x12.2.1, x12.2.2.1, x12.2.2.2.1, x12.2.2.2.2.1,
          x12.2.2.2.2.2.1, x12.2.2.2.2.2.2.1, x12.2.2.2.2.2.2.2.1,
          x12.2.2.2.2.2.2.2.2.1, x12.2.2.2.2.2.2.2.2.2.1,
          x12.2.2.2.2.2.2.2.2.2.2)
noncomputable def c81_16 : Con D := ⟨81, [.lf (.int .i64), .lf (.sl 5), .lf (.sl 6), .lf (.sl 7), .lf (.int .i64), .lf (.int .i64), .lf (.sl 1), .lf (.sl 9), .lf (.sl 0), .lf (.sl 10), .lf (.sl 11)], [.lf (.int .i64), .lf (.sl 5), .lf (.sl 6), .lf (.sl 7), .lf (.int .i64), .lf (.int .i64), .lf (.sl 1), .lf (.sl 9), .lf (.sl 0), .lf (.sl 10), .lf (.sl 11)], [.one (.ptr 1000 0), .one (.fn 83 [.ptr 1006 0])], [(1000, .box [.h 0 [], .h 1 [0], .h 2 [0], .h 3 [0], .h 4 [], .h 5 [], .own 1001, .own 1002, .own 1003, .own 1004, .own 1005]), (1001, .sl 1 4 6 []), (1002, .sl 9 48 7 []), (1003, .sl 0 3 8 []), (1004, .sl 10 84 9 []), (1005, .sl 11 74 10 []), (1006, .box [.ptr 1000 0])], [], [(1000, .box [.h 0 [], .h 1 [0], .h 2 [0], .h 3 [0], .h 4 [], .h 5 [], .own 1001, .own 1002, .own 1003, .own 1004, .own 1007]), (1001, .sl 1 4 6 []), (1002, .sl 9 48 7 []), (1003, .sl 0 3 8 []), (1004, .sl 10 84 9 []), (1006, .box [.ptr 1000 0]), (1007, .sl 11 74 10 [])], fun h => relief_sweep_v6 ⟨⟨h.1, h.2.1, h.2.2.1, h.2.2.2.1, h.2.2.2.2.1, h.2.2.2.2.2.1⟩, ⟨h.2.2.2.2.2.2.1, h.2.2.2.2.2.2.2.1, h.2.2.2.2.2.2.2.2.1, h.2.2.2.2.2.2.2.2.2.1⟩, h.2.2.2.2.2.2.2.2.2.2⟩⟩
theorem c81_16_ok : ConOk Tryz.prog T c81_16 := fn_ok (Φ := [c83_1, c124_2]) (rs := []) (an := (.n none .o (.n none (.n none .o (.n none (.loop ⟨[.lf (.int .i64), .lf (.sl 0), .lf (.int .i64), .lf (.sl 5), .lf (.sl 6), .lf (.sl 7), .lf (.int .i64), .lf (.int .i64), .lf (.sl 1), .lf (.sl 9), .lf (.sl 0), .lf (.sl 10), .lf (.sl 11)], [(4, .one (.own 2512)), (15, .one (.h 0 []))], [(2512, .sl 0 3 1 []), (1000, .box [.h 2 [], .h 3 [0], .h 4 [0], .h 5 [0], .h 6 [], .h 7 [], .own 1001, .own 1002, .own 1003, .own 1004, .own 1005]), (1001, .sl 1 4 8 []), (1002, .sl 9 48 9 []), (1003, .sl 0 3 10 []), (1004, .sl 10 84 11 []), (1005, .sl 11 74 12 []), (1006, .box [.ptr 1000 0])], [1000, 1001, 1002, 1003, 1004, 1005, 1006], 2576⟩ true [(.exit 0, ⟨[.lf (.sl 0), .lf (.int .i64), .lf (.sl 5), .lf (.sl 6), .lf (.sl 7), .lf (.int .i64), .lf (.int .i64), .lf (.sl 1), .lf (.sl 9), .lf (.sl 0), .lf (.sl 10), .lf (.sl 11)], [(4, .one (.own 2512))], [(2512, .sl 0 3 0 []), (1000, .box [.h 1 [], .h 2 [0], .h 3 [0], .h 4 [0], .h 5 [], .h 6 [], .own 1001, .own 1002, .own 1003, .own 1004, .own 1005]), (1001, .sl 1 4 7 []), (1002, .sl 9 48 8 []), (1003, .sl 0 3 9 []), (1004, .sl 10 84 10 []), (1005, .sl 11 74 11 []), (1006, .box [.ptr 1000 0])], [1000, 1001, 1002, 1003, 1004, 1005, 1006], 2576⟩)] (.n none .o (.n none .o (.n none (.n none (.n none .o (.n none (.r (some (true, [(.normal, ⟨[.lf .bool, .lf (.int .i64), .lf (.sl 5), .lf (.sl 6), .lf (.sl 7), .lf (.int .i64), .lf (.int .i64), .lf (.sl 1), .lf (.sl 9), .lf (.sl 0), .lf (.sl 10), .lf (.sl 11)], [(29, .one (.any)), (30, .one (.any)), (31, .one (.any)), (32, .one (.h 0 []))], [(1000, .box [.h 1 [], .h 2 [0], .h 3 [0], .h 4 [0], .h 5 [], .h 6 [], .own 1001, .own 1002, .own 1003, .own 1004, .own 1005]), (1001, .sl 1 4 7 []), (1002, .sl 9 48 8 []), (1003, .sl 0 3 9 []), (1004, .sl 10 84 10 []), (1005, .sl 11 74 11 []), (1006, .box [.ptr 1000 0])], [1000, 1001, 1002, 1003, 1004, 1005, 1006], 3101⟩)])) .nil) (.n (some (true, [(.normal, ⟨[.lf (.sl 0)], [(4, .one (.own 3113))], [(3113, .sl 0 3 0 [])], [2512], 3177⟩)])) .o .o))) .o) .o)))) .o)) (.n none .o (.n none (.loop ⟨[.lf (.int .i64), .lf (.int .i64), .lf (.sl 5), .lf (.sl 6), .lf (.sl 7), .lf (.int .i64), .lf (.int .i64), .lf (.sl 1), .lf (.sl 9), .lf (.sl 0), .lf (.sl 10), .lf (.sl 11)], [(40, .one (.h 0 []))], [(1000, .box [.h 1 [], .h 2 [0], .h 3 [0], .h 4 [0], .h 5 [], .h 6 [], .own 1001, .own 1002, .own 1003, .own 1004, .own 2780]), (1001, .sl 1 4 7 []), (1002, .sl 9 48 8 []), (1003, .sl 0 3 9 []), (1004, .sl 10 84 10 []), (2780, .sl 11 74 11 [])], [1000, 1001, 1002, 1003, 1004, 1005], 2844⟩ true [(.exit 2, ⟨[.lf (.int .i64), .lf (.sl 5), .lf (.sl 6), .lf (.sl 7), .lf (.int .i64), .lf (.int .i64), .lf (.sl 1), .lf (.sl 9), .lf (.sl 0), .lf (.sl 10), .lf (.sl 11)], [], [(1000, .box [.h 0 [], .h 1 [0], .h 2 [0], .h 3 [0], .h 4 [], .h 5 [], .own 1001, .own 1002, .own 1003, .own 1004, .own 2780]), (1001, .sl 1 4 6 []), (1002, .sl 9 48 7 []), (1003, .sl 0 3 8 []), (1004, .sl 10 84 9 []), (2780, .sl 11 74 10 [])], [1000, 1001, 1002, 1003, 1004, 1005], 2844⟩)] .o) .o))))) pOk repOk (AllC.mem (⟨c83_1_ok, c124_2_ok, trivial⟩ : AllC _ _ [c83_1, c124_2])) hmix Tryz.call81 Tryz.func81 rfl rfl (by kernel_rfl) (fun h => by kernel_rfl)

noncomputable def relief_clear_v1 (a0 : relief) : Option (Int × (List Breaker) × (List Source) × (List Consumer) × Int × Int × (List Bool) × (List Running) × (List Int) × (List Part) × (List Bool) × (List Running) × (List Int) × (List Part) × (List Act)) :=
  Option.bind (relief_sweep_v5 a0) fun x1 =>
    Option.bind
      (relief_sweep_v6
        (relief.mk
          (Board.mk x1.1 x1.2.1 x1.2.2.1 x1.2.2.2.1 x1.2.2.2.2.1
            x1.2.2.2.2.2.1)
          (Power.mk x1.2.2.2.2.2.2.1 x1.2.2.2.2.2.2.2.1
            x1.2.2.2.2.2.2.2.2.1 x1.2.2.2.2.2.2.2.2.2.1)
          x1.2.2.2.2.2.2.2.2.2.2))
      fun x2 =>
      Option.bind
        (sync_Follow
          (Board.mk x2.1 x2.2.1 x2.2.2.1 x2.2.2.2.1 x2.2.2.2.2.1
            x2.2.2.2.2.2.1)
          (Power.mk x2.2.2.2.2.2.2.1 x2.2.2.2.2.2.2.2.1
            x2.2.2.2.2.2.2.2.2.1 x2.2.2.2.2.2.2.2.2.2.1))
        fun x3 =>
        some
          (x2.1, x2.2.1, x2.2.2.1, x2.2.2.2.1, x2.2.2.2.2.1, x2.2.2.2.2.2.1,
            x2.2.2.2.2.2.2.1, x2.2.2.2.2.2.2.2.1, x2.2.2.2.2.2.2.2.2.1,
            x2.2.2.2.2.2.2.2.2.2.1, x3.2.1, x3.2.2.1, x3.2.2.2.1,
            x3.2.2.2.2, x2.2.2.2.2.2.2.2.2.2.2)
noncomputable def c44_1 : Con D := ⟨44, [.lf (.int .i64), .lf (.sl 5), .lf (.sl 6), .lf (.sl 7), .lf (.int .i64), .lf (.int .i64), .lf (.sl 1), .lf (.sl 9), .lf (.sl 0), .lf (.sl 10), .lf (.sl 11)], [.lf (.int .i64), .lf (.sl 5), .lf (.sl 6), .lf (.sl 7), .lf (.int .i64), .lf (.int .i64), .lf (.sl 1), .lf (.sl 9), .lf (.sl 0), .lf (.sl 10), .lf (.sl 1), .lf (.sl 9), .lf (.sl 0), .lf (.sl 10), .lf (.sl 11)], [.one (.ptr 1000 0)], [(1000, .box [.h 0 [], .h 1 [0], .h 2 [0], .h 3 [0], .h 4 [], .h 5 [], .own 1001, .own 1002, .own 1003, .own 1004, .own 1005]), (1001, .sl 1 4 6 []), (1002, .sl 9 48 7 []), (1003, .sl 0 3 8 []), (1004, .sl 10 84 9 []), (1005, .sl 11 74 10 [])], [], [(1000, .box [.h 0 [], .h 1 [0], .h 2 [0], .h 3 [0], .h 4 [], .h 5 [], .own 1006, .own 1007, .own 1008, .own 1009, .own 1010]), (1001, .sl 1 4 6 []), (1002, .sl 9 48 7 []), (1003, .sl 0 3 8 []), (1004, .sl 10 84 9 []), (1006, .sl 1 4 10 []), (1007, .sl 9 48 11 []), (1008, .sl 0 3 12 []), (1009, .sl 10 84 13 []), (1010, .sl 11 74 14 [])], fun h => relief_clear_v1 ⟨⟨h.1, h.2.1, h.2.2.1, h.2.2.2.1, h.2.2.2.2.1, h.2.2.2.2.2.1⟩, ⟨h.2.2.2.2.2.2.1, h.2.2.2.2.2.2.2.1, h.2.2.2.2.2.2.2.2.1, h.2.2.2.2.2.2.2.2.2.1⟩, h.2.2.2.2.2.2.2.2.2.2⟩⟩
theorem c44_1_ok : ConOk Tryz.prog T c44_1 := fn_ok (Φ := [c81_15, c81_16, c84]) (rs := []) (an := .o) pOk repOk (AllC.mem (⟨c81_15_ok, c81_16_ok, c84_ok, trivial⟩ : AllC _ _ [c81_15, c81_16, c84])) hmix Tryz.call44 Tryz.func44 rfl rfl (by kernel_rfl) (fun h => by kernel_rfl)

noncomputable def board_Fed (a0 : Board) (a1 : Power) (a2 : Int) : Option (Int × Bool) :=
  Option.bind (board_State a0 a1) fun x1 =>
    if (x1 != 0) = true then some (0, false)
    else Option.bind (board_fed a0 a1 a2) fun x2 => some (x2.1, x2.2)
noncomputable def c63 : Con D := ⟨63, [.lf (.int .i64), .lf (.sl 5), .lf (.sl 6), .lf (.sl 7), .lf (.int .i64), .lf (.int .i64), .lf (.sl 1), .lf (.sl 9), .lf (.sl 0), .lf (.sl 10), .lf (.int .i64)], [.lf (.int .i64), .lf .bool], [.agg [.h 0 [], .h 1 [0], .h 2 [0], .h 3 [0], .h 4 [], .h 5 []], .agg [.h 6 [0], .h 7 [0], .h 8 [0], .h 9 [0]], .one (.h 10 [])], [], [.one (.h 0 []), .one (.h 1 [])], [], fun h => board_Fed ⟨h.1, h.2.1, h.2.2.1, h.2.2.2.1, h.2.2.2.2.1, h.2.2.2.2.2.1⟩ ⟨h.2.2.2.2.2.2.1, h.2.2.2.2.2.2.2.1, h.2.2.2.2.2.2.2.2.1, h.2.2.2.2.2.2.2.2.2.1⟩ h.2.2.2.2.2.2.2.2.2.2⟩
theorem c63_ok : ConOk Tryz.prog T c63 := fn_ok (Φ := [c70, c100]) (rs := [.tmp 6, .tmp 7]) (an := .o) pOk repOk (AllC.mem (⟨c70_ok, c100_ok, trivial⟩ : AllC _ _ [c70, c100])) hmix Tryz.call63 Tryz.func63 rfl rfl (by kernel_rfl) (fun h => by kernel_rfl)

noncomputable def dynposref15_of_L1 (a0 : Board) (a1 : Int) (a2 : Int) : Int × List Int →
  Option
    (Int × List Int ⊕
      List
        Int) := fun x1 =>
  if decide (x1.1 < len a0.Breakers) = true then
    Option.bind (idx a0.Breakers x1.1) fun x2 =>
      Option.bind
        (if (x2.Kind == a1) = true then
          if (x2.B == a2) = true then some true
          else if (a1 == 1) = true then some (x2.A == a2) else some false
        else some false)
        fun x3 =>
        Option.bind (if x3 = true then Option.bind (app x1.2 [x1.1]) fun x4 => some x4 else some x1.2) fun x5 =>
          some (.inl (W (x1.1 + 1), x5))
  else some (.inr x1.2)
noncomputable def dynposref15_of (a0 : Board) (a1 : Int) (a2 : Int) : Option ((List Int)) := Option.bind (loopO (dynposref15_of_L1 a0 a1 a2) (0, [])) fun x6 => some x6
noncomputable def c55 : Con D := ⟨55, [.lf (.int .i64), .lf (.sl 5), .lf (.sl 6), .lf (.sl 7), .lf (.int .i64), .lf (.int .i64), .lf (.int .i64), .lf (.int .i64)], [.lf (.sl 0)], [.agg [.h 0 [], .h 1 [0], .h 2 [0], .h 3 [0], .h 4 [], .h 5 []], .one (.h 6 []), .one (.h 7 [])], [], [.one (.own 1000)], [(1000, .sl 0 3 0 [])], fun h => dynposref15_of ⟨h.1, h.2.1, h.2.2.1, h.2.2.2.1, h.2.2.2.2.1, h.2.2.2.2.2.1⟩ h.2.2.2.2.2.2.1 h.2.2.2.2.2.2.2⟩
theorem c55_ok : ConOk Tryz.prog T c55 := fn_ok (Φ := []) (rs := [.tmp 6]) (an := (.n none .o (.n none .o (.n none (.n none .o (.n none (.loop ⟨[.lf (.int .i64), .lf (.sl 0)], [(7, .one (.own 2448)), (13, .one (.h 0 []))], [(2448, .sl 0 3 1 [])], [], 2512⟩ true [(.exit 0, ⟨[.lf (.sl 0)], [(7, .one (.own 2448))], [(2448, .sl 0 3 0 [])], [], 2512⟩)] (.n none .o (.n none .o (.n none (.n none (.n none .o (.n none (.r (some (true, [(.normal, ⟨[.lf .bool], [(23, .one (.any)), (24, .one (.any)), (25, .one (.any)), (26, .one (.any)), (27, .one (.any)), (28, .one (.any)), (29, .one (.any)), (30, .one (.any)), (31, .one (.any)), (32, .one (.any)), (33, .one (.any)), (34, .one (.any)), (35, .one (.any)), (36, .one (.any)), (37, .one (.h 0 []))], [], [], 3026⟩)])) .nil) (.n (some (true, [(.normal, ⟨[.lf (.sl 0)], [(7, .one (.own 3027))], [(3027, .sl 0 3 0 [])], [2448], 3091⟩)])) .o .o))) .o) .o)))) .o)) .o)))) pOk repOk (AllC.mem (l := []) trivial) hmix Tryz.call55 Tryz.func55 rfl rfl (by kernel_rfl) (fun h => by kernel_rfl)

noncomputable def dynposref15_breakers_L2 (x2 : Breaker) (x5 : List
  Breaker) : Int →
  Option
    (Int ⊕
      Unit ⊕
        Unit ⊕
          Unit ⊕
            Int ⊕
              Unit ⊕
                Bool) := fun x6 =>
  if decide (x6 < len x5) = true then
    Option.bind (idx x5 x6) fun x7 =>
      if (x7.Kind == x2.Kind && (x7.A == x2.A && x7.B == x2.B)) = true then
        some (.inr (.inr (.inr (.inr (.inr (.inr false))))))
      else some (.inl (W (x6 + 1)))
  else some (.inr (.inl ()))
noncomputable def dynposref15_breakers_L1 (a0 : Board) : Int →
  Option
    (Int ⊕
      Unit ⊕
        Bool) := fun x1 =>
  if decide (x1 < len a0.Breakers) = true then
    Option.bind (idx a0.Breakers x1) fun x2 =>
      Option.bind (dynposref15_within x2.A 0 (W (a0.Buses - 1))) fun x3 =>
        if (!x3) = true then some (.inr (.inr false))
        else
          Option.bind
            (if (x2.Kind == 1) = true then
              Option.bind (dynposref15_within x2.B (W (x2.A + 1)) (W (a0.Buses - 1))) fun x15 =>
                if (!x15) = true then some (.inr (.inr (.inr false))) else some (.inl ())
            else
              Option.bind
                (if (x2.Kind == 2) = true then
                  Option.bind (dynposref15_within x2.B 0 (W (len a0.Sources - 1))) fun x11 =>
                    if (!x11) = true then some (.inr (.inr (.inr (.inr false))))
                    else some (.inl ())
                else
                  if (x2.Kind == 3) = true then
                    Option.bind (dynposref15_within x2.B 0 (W (len a0.Consumers - 1))) fun x4 =>
                      if (!x4) = true then some (.inr (.inr (.inr (.inr false))))
                      else
                        Option.bind (slc a0.Breakers 0 x1) fun x5 =>
                          Option.bind (loopO (dynposref15_breakers_L2 x2 x5) 0) fun x8 =>
                            Sum.elim (fun x9 => some (.inl ())) (fun x10 => some x10) x8
                  else some (.inr (.inr (.inr (.inr false)))))
                fun x12 => Sum.elim (fun x13 => some (.inl ())) (fun x14 => some x14) x12)
            fun x16 => Sum.elim (fun x17 => some (.inl (W (x1 + 1)))) (fun x18 => some x18) x16
  else some (.inr (.inl ()))
noncomputable def dynposref15_breakers_L3 (a0 : Board) : Int →
  Option
    (Int ⊕
      Unit ⊕
        Bool) := fun x21 =>
  if decide (x21 < len a0.Sources) = true then
    Option.bind (dynposref15_of a0 2 x21) fun x22 =>
      if (len x22 != 1) = true then some (.inr (.inr false)) else some (.inl (W (x21 + 1)))
  else some (.inr (.inl ()))
noncomputable def dynposref15_breakers_L4 (a0 : Board) : Int →
  Option
    (Int ⊕
      Unit ⊕
        Bool) := fun x25 =>
  if decide (x25 < len a0.Consumers) = true then
    Option.bind (dynposref15_of a0 3 x25) fun x26 =>
      if decide (len x26 < 1) = true then some (.inr (.inr false))
      else some (.inl (W (x25 + 1)))
  else some (.inr (.inl ()))
noncomputable def dynposref15_breakers (a0 : Board) : Option (Bool) :=
  Option.bind (loopO (dynposref15_breakers_L1 a0) 0) fun x19 =>
    Sum.elim
      (fun x20 =>
        Option.bind (loopO (dynposref15_breakers_L3 a0) 0) fun x23 =>
          Sum.elim
            (fun x24 =>
              Option.bind (loopO (dynposref15_breakers_L4 a0) 0) fun x27 =>
                Sum.elim (fun x28 => some true) (fun x29 => some x29) x27)
            (fun x30 => some x30) x23)
      (fun x31 => some x31) x19
noncomputable def c91 : Con D := ⟨91, [.lf (.int .i64), .lf (.sl 5), .lf (.sl 6), .lf (.sl 7), .lf (.int .i64), .lf (.int .i64)], [.lf .bool], [.agg [.h 0 [], .h 1 [0], .h 2 [0], .h 3 [0], .h 4 [], .h 5 []]], [], [.one (.h 0 [])], [], fun h => dynposref15_breakers ⟨h.1, h.2.1, h.2.2.1, h.2.2.2.1, h.2.2.2.2.1, h.2.2.2.2.2⟩⟩
theorem c91_ok : ConOk Tryz.prog T c91 := fn_ok (Φ := [c52, c55]) (rs := [.tmp 2]) (an := (.n none .o (.n none (.n none .o (.n none (.loop ⟨[.lf (.int .i64)], [(12, .one (.h 0 []))], [], [], 2448⟩ false [(.exit 0, ⟨[], [], [], [], 2448⟩)] (.n none .o (.n none .o (.n none (.n none (.n none .o (.n none .o (.n none .o (.n none (.n none .o (.n (some (false, [(.normal, ⟨[], [], [], [], 3665⟩)])) .o (.n none .o (.n (some (false, [(.normal, ⟨[], [], [], [], 3793⟩)])) .o (.n none .o (.n none (.n none .o (.n none .o (.n none (.loop ⟨[.lf (.int .i64)], [(63, .one (.h 0 []))], [], [], 4817⟩ false [(.exit 3, ⟨[], [], [], [], 4817⟩)] .o) .o))) .o)))))) .o)))) .o) .o)))) .o)) (.n none (.n none .o (.n none (.loop ⟨[.lf (.int .i64)], [(75, .one (.h 0 []))], [], [], 2768⟩ false [(.exit 5, ⟨[], [], [], [], 2768⟩)] .o) .o)) (.n none (.n none .o (.n none (.loop ⟨[.lf (.int .i64)], [(87, .one (.h 0 []))], [], [], 3088⟩ false [(.exit 7, ⟨[], [], [], [], 3088⟩)] .o) .o)) .o))))) pOk repOk (AllC.mem (⟨c52_ok, c55_ok, trivial⟩ : AllC _ _ [c52, c55])) hmix Tryz.call91 Tryz.func91 rfl rfl (by kernel_rfl) (fun h => by kernel_rfl)

noncomputable def dynposref15_sources_L1 (a0 : Board) : Int →
  Option
    (Int ⊕
      Unit ⊕
        Bool) := fun x1 =>
  if decide (x1 < len a0.Sources) = true then
    Option.bind (idx a0.Sources x1) fun x2 =>
      Option.bind
        (Option.bind (dynposref15_within x2.Rating 1 50000) fun x3 =>
          if (!x3) = true then some true
          else
            Option.bind (dynposref15_within x2.Least 0 x2.Rating) fun x4 =>
              if (!x4) = true then some true
              else Option.bind (dynposref15_within x2.Start 0 600) fun x5 => some !x5)
        fun x6 => if x6 = true then some (.inr (.inr false)) else some (.inl (W (x1 + 1)))
  else some (.inr (.inl ()))
noncomputable def dynposref15_sources (a0 : Board) : Option (Bool) :=
  Option.bind (loopO (dynposref15_sources_L1 a0) 0) fun x7 =>
    Sum.elim (fun x8 => some true) (fun x9 => some x9) x7
noncomputable def c92 : Con D := ⟨92, [.lf (.int .i64), .lf (.sl 5), .lf (.sl 6), .lf (.sl 7), .lf (.int .i64), .lf (.int .i64)], [.lf .bool], [.agg [.h 0 [], .h 1 [0], .h 2 [0], .h 3 [0], .h 4 [], .h 5 []]], [], [.one (.h 0 [])], [], fun h => dynposref15_sources ⟨h.1, h.2.1, h.2.2.1, h.2.2.2.1, h.2.2.2.2.1, h.2.2.2.2.2⟩⟩
theorem c92_ok : ConOk Tryz.prog T c92 := fn_ok (Φ := [c52]) (rs := [.tmp 2]) (an := (.n none .o (.n none (.n none .o (.n none (.loop ⟨[.lf (.int .i64)], [(8, .one (.h 0 []))], [], [], 2448⟩ false [(.exit 0, ⟨[], [], [], [], 2448⟩)] (.n none .o (.n none .o (.n none (.n none (.n none .o (.n none (.r (some (true, [(.normal, ⟨[.lf .bool], [(17, .one (.any)), (18, .one (.any)), (19, .one (.any)), (20, .one (.any)), (21, .one (.any)), (22, .one (.any)), (25, .one (.any)), (26, .one (.any)), (27, .one (.any)), (28, .one (.any)), (29, .one (.h 0 []))], [], [], 2833⟩)])) .nil) .o)) .o) .o)))) .o)) .o))) pOk repOk (AllC.mem (⟨c52_ok, trivial⟩ : AllC _ _ [c52])) hmix Tryz.call92 Tryz.func92 rfl rfl (by kernel_rfl) (fun h => by kernel_rfl)

noncomputable def dynposref15_consumers_L2 (x1 : Int) (x2 : Consumer) : Int →
  Option
    (Int ⊕
      Unit ⊕
        Int ⊕
          Unit ⊕
            Bool) := fun x8 =>
  if decide (x8 < len x2.Needs) = true then
    Option.bind (idx x2.Needs x8) fun x9 =>
      Option.bind
        (Option.bind (dynposref15_within x9 0 (W (x1 - 1))) fun x10 =>
          if (!x10) = true then some true
          else
            if decide (x8 > 0) = true then
              Option.bind (idx x2.Needs (W (x8 - 1))) fun x11 => some (decide (x11 ≥ x9))
            else some false)
        fun x12 =>
        if x12 = true then some (.inr (.inr (.inr (.inr false)))) else some (.inl (W (x8 + 1)))
  else some (.inr (.inl ()))
noncomputable def dynposref15_consumers_L1 (a0 : Board) : Int →
  Option
    (Int ⊕
      Unit ⊕
        Bool) := fun x1 =>
  if decide (x1 < len a0.Consumers) = true then
    Option.bind (idx a0.Consumers x1) fun x2 =>
      Option.bind
        (Option.bind (dynposref15_within x2.Load 0 50000) fun x3 =>
          if (!x3) = true then some true
          else
            Option.bind (dynposref15_within x2.Least 0 x2.Load) fun x4 =>
              if (!x4) = true then some true
              else
                Option.bind (dynposref15_within x2.Preference 0 15) fun x5 =>
                  if (!x5) = true then some true
                  else
                    Option.bind (dynposref15_within x2.Thruster (-1) 7) fun x6 =>
                      if (!x6) = true then some true else some (decide (len x2.Needs > 4)))
        fun x7 =>
        if x7 = true then some (.inr (.inr false))
        else
          Option.bind (loopO (dynposref15_consumers_L2 x1 x2) 0) fun x13 =>
            Sum.elim (fun x14 => some (.inl (W (x1 + 1)))) (fun x15 => some x15) x13
  else some (.inr (.inl ()))
noncomputable def dynposref15_consumers (a0 : Board) : Option (Bool) :=
  Option.bind (loopO (dynposref15_consumers_L1 a0) 0) fun x16 =>
    Sum.elim (fun x17 => some true) (fun x18 => some x18) x16
noncomputable def c93 : Con D := ⟨93, [.lf (.int .i64), .lf (.sl 5), .lf (.sl 6), .lf (.sl 7), .lf (.int .i64), .lf (.int .i64)], [.lf .bool], [.agg [.h 0 [], .h 1 [0], .h 2 [0], .h 3 [0], .h 4 [], .h 5 []]], [], [.one (.h 0 [])], [], fun h => dynposref15_consumers ⟨h.1, h.2.1, h.2.2.1, h.2.2.2.1, h.2.2.2.2.1, h.2.2.2.2.2⟩⟩
theorem c93_ok : ConOk Tryz.prog T c93 := fn_ok (Φ := [c52]) (rs := [.tmp 2]) (an := (.n none .o (.n none (.n none .o (.n none (.loop ⟨[.lf (.int .i64)], [(10, .one (.h 0 []))], [], [], 2448⟩ false [(.exit 0, ⟨[], [], [], [], 2448⟩)] (.n none .o (.n none .o (.n none (.n none (.n none .o (.n none (.n none (.r (some (true, [(.normal, ⟨[.lf .bool], [(20, .one (.any)), (21, .one (.any)), (22, .one (.any)), (23, .one (.any)), (24, .one (.any)), (25, .one (.any)), (28, .one (.any)), (29, .one (.any)), (30, .one (.any)), (31, .one (.any)), (34, .one (.any)), (35, .one (.any)), (36, .one (.any)), (37, .one (.any)), (40, .one (.any)), (41, .one (.any)), (42, .one (.any)), (43, .one (.any)), (44, .one (.h 0 []))], [], [], 2961⟩)])) .nil) .o) (.n none .o (.n none (.loop ⟨[.lf (.int .i64)], [(48, .one (.h 0 []))], [], [], 3282⟩ false [(.exit 2, ⟨[], [], [], [], 3282⟩)] (.n none .o (.n none .o (.n none (.n none (.n none .o (.n none (.r (some (true, [(.normal, ⟨[.lf .bool], [(59, .one (.any)), (60, .one (.any)), (61, .one (.any)), (62, .one (.any)), (63, .one (.any)), (64, .one (.any)), (65, .one (.any)), (66, .one (.any)), (67, .one (.any)), (68, .one (.any)), (69, .one (.any)), (70, .one (.any)), (71, .one (.h 0 []))], [], [], 3731⟩)])) .nil) .o)) .o) .o)))) .o)))) .o) .o)))) .o)) .o))) pOk repOk (AllC.mem (⟨c52_ok, trivial⟩ : AllC _ _ [c52])) hmix Tryz.call93 Tryz.func93 rfl rfl (by kernel_rfl) (fun h => by kernel_rfl)

noncomputable def dynposref15_Check (a0 : Board) : Option (Int) :=
  Option.bind
    (if decide (a0.Buses < 1) = true then some true
    else
      if decide (a0.Buses > 6) = true then some true
      else
        if decide (len a0.Breakers > 24) = true then some true
        else
          if decide (len a0.Sources > 8) = true then some true
          else some (decide (len a0.Consumers > 16)))
    fun x1 =>
    if x1 = true then some 2
    else
      Option.bind
        (Option.bind (dynposref15_breakers a0) fun x2 =>
          if (!x2) = true then some true
          else
            Option.bind (dynposref15_sources a0) fun x3 =>
              if (!x3) = true then some true
              else
                Option.bind (dynposref15_consumers a0) fun x4 =>
                  if (!x4) = true then some true
                  else
                    if decide (a0.Phase < 0) = true then some true
                    else
                      if decide (a0.Phase > 1800) = true then some true
                      else
                        if decide (a0.Frequency < 0) = true then some true
                        else some (decide (a0.Frequency > 6000)))
        fun x5 => if x5 = true then some 14 else some 0
noncomputable def c51 : Con D := ⟨51, [.lf (.int .i64), .lf (.sl 5), .lf (.sl 6), .lf (.sl 7), .lf (.int .i64), .lf (.int .i64)], [.lf (.int .i64)], [.agg [.h 0 [], .h 1 [0], .h 2 [0], .h 3 [0], .h 4 [], .h 5 []]], [], [.one (.h 0 [])], [], fun h => dynposref15_Check ⟨h.1, h.2.1, h.2.2.1, h.2.2.2.1, h.2.2.2.2.1, h.2.2.2.2.2⟩⟩
theorem c51_ok : ConOk Tryz.prog T c51 := fn_ok (Φ := [c91, c92, c93]) (rs := [.tmp 2]) (an := (.n none .o (.n none (.n none (.r (some (true, [(.normal, ⟨[.lf .bool], [(28, .one (.h 0 []))], [], [], 2192⟩)])) .nil) .o) (.n none (.n none (.r (some (true, [(.normal, ⟨[.lf .bool], [(61, .one (.h 0 []))], [], [], 2257⟩)])) .nil) .o) .o)))) pOk repOk (AllC.mem (⟨c91_ok, c92_ok, c93_ok, trivial⟩ : AllC _ _ [c91, c92, c93])) hmix Tryz.call51 Tryz.func51 rfl rfl (by kernel_rfl) (fun h => by kernel_rfl)

noncomputable def dynposref15_Before (a0 : Part) (a1 : Part) : Option (Bool) :=
  Option.bind
    (if decide (a0.Kind < a1.Kind) = true then some true
    else if (a0.Kind == a1.Kind) = true then some (decide (a0.Number < a1.Number)) else some false)
    fun x1 => some x1
noncomputable def c54 : Con D := ⟨54, [.lf (.int .i64), .lf (.int .i64), .lf (.int .i64), .lf (.int .i64)], [.lf .bool], [.agg [.h 0 [], .h 1 []], .agg [.h 2 [], .h 3 []]], [], [.one (.h 0 [])], [], fun h => dynposref15_Before ⟨h.1, h.2.1⟩ ⟨h.2.2.1, h.2.2.2⟩⟩
theorem c54_ok : ConOk Tryz.prog T c54 := fn_ok (Φ := []) (rs := [.tmp 4]) (an := (.n none .o (.n none (.r (some (true, [(.normal, ⟨[.lf .bool], [(4, .one (.h 0 []))], [], [], 2256⟩)])) .nil) .o))) pOk repOk (AllC.mem (l := []) trivial) hmix Tryz.call54 Tryz.func54 rfl rfl (by kernel_rfl) (fun h => by kernel_rfl)

end Rx
end Go.Proofs.YtfnphdhcgkondaaGreat
