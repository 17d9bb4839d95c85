import Derived.Test.YtfnphdhcgkondaaGreatRt
import Derived.Test.YtfnphdhcgkondaaGreatRg1
import Derived.Test.YtfnphdhcgkondaaGreatRg2
set_option linter.unusedVariables false
set_option maxRecDepth 100000
namespace Go.Proofs.YtfnphdhcgkondaaGreat
open Go Go.RowKit Dp
namespace Rx
noncomputable def relief_sweep_v5_L1 (a0 : relief) : Int × List Int →
 Option
 (Int × List Int ⊕
 List
 Int) := fun x1 =>
 if decide (x1.1 < len a0.board.Breakers) = true then
 Option.bind (idx a0.board.Breakers x1.1) fun x2 =>
 Option.bind
 (Option.bind (idx a0.power.Closed x1.1) fun x3 =>
 if x3 = true then Option.bind (relief_dangerous a0 x2) fun x4 => some x4 else some false)
 fun x5 =>
 Option.bind (if x5 = true then Option.bind (app x1.2 [x1.1]) fun x6 => some x6 else some x1.2) fun x7 =>
 some (.inl (W (x1.1 + 1), x7))
 else some (.inr x1.2)
noncomputable def relief_sweep_v5_L2 (x8 : List
 Int) : Int ×
 Int ×
 List Breaker ×
 List Source × List Consumer × Int × Int × List Bool × List Running × List Int × List Part × List Act →
 Option
 (Int ×
 Int ×
 List Breaker ×
 List Source × List Consumer × Int × Int × List Bool × List Running × List Int × List Part × List Act ⊕
 Int ×
 List Breaker ×
 List Source ×
 List Consumer ×
 Int ×
 Int ×
 List Bool ×
 List Running ×
 List Int ×
 List Part ×
 List
 Act) := fun x9 =>
 if decide (x9.1 < len x8) = true then
 Option.bind (idx x8 x9.1) fun x10 =>
 Option.bind
 (relief_open_v1
 (relief.mk
 (Board.mk x9.2.1 x9.2.2.1 x9.2.2.2.1 x9.2.2.2.2.1 x9.2.2.2.2.2.1
 x9.2.2.2.2.2.2.1)
 (Power.mk x9.2.2.2.2.2.2.2.1 x9.2.2.2.2.2.2.2.2.1
 x9.2.2.2.2.2.2.2.2.2.1 x9.2.2.2.2.2.2.2.2.2.2.1)
 x9.2.2.2.2.2.2.2.2.2.2.2)
 x10)
 fun x11 =>
 some
 (.inl
 (W (x9.1 + 1), x11.1, x11.2.1, x11.2.2.1, x11.2.2.2.1,
 x11.2.2.2.2.1, x11.2.2.2.2.2.1, x11.2.2.2.2.2.2.1,
 x11.2.2.2.2.2.2.2.1, x11.2.2.2.2.2.2.2.2.1,
 x11.2.2.2.2.2.2.2.2.2.1, x11.2.2.2.2.2.2.2.2.2.2))
 else
 some
 (.inr
 (x9.2.1, x9.2.2.1, x9.2.2.2.1, x9.2.2.2.2.1, x9.2.2.2.2.2.1,
 x9.2.2.2.2.2.2.1, x9.2.2.2.2.2.2.2.1, x9.2.2.2.2.2.2.2.2.1,
 x9.2.2.2.2.2.2.2.2.2.1, x9.2.2.2.2.2.2.2.2.2.2.1,
 x9.2.2.2.2.2.2.2.2.2.2.2))
noncomputable def relief_sweep_v5 (a0 : relief) : Option (Int × (List Breaker) × (List Source) × (List Consumer) × Int × Int × (List Bool) × (List Running) × (List Int) × (List Part) × (List Act)) :=
 Option.bind (loopO (relief_sweep_v5_L1 a0) (0, [])) fun x8 =>
 Option.bind
 (loopO (relief_sweep_v5_L2 x8)
 (0, a0.board.Buses, a0.board.Breakers, a0.board.Sources, a0.board.Consumers, a0.board.Phase,
 a0.board.Frequency, a0.power.Closed, a0.power.Sources, a0.power.Limits, a0.power.Broken, a0.acts))
 fun x12 =>
 some
 (x12.1, x12.2.1, x12.2.2.1, x12.2.2.2.1, x12.2.2.2.2.1,
 x12.2.2.2.2.2.1, x12.2.2.2.2.2.2.1, x12.2.2.2.2.2.2.2.1,
 x12.2.2.2.2.2.2.2.2.1, x12.2.2.2.2.2.2.2.2.2.1,
 x12.2.2.2.2.2.2.2.2.2.2)
noncomputable def c81_15 : Con D := ⟨81, z4, z4, [.one (.ptr 1000 0), .one (.fn 1000082 [.ptr 1000 0])], z11, [], z19, fun h => relief_sweep_v5 ⟨⟨h.1, h.2.1, h.2.2.1, h.2.2.2.1, h.2.2.2.2.1, h.2.2.2.2.2.1⟩, ⟨h.2.2.2.2.2.2.1, h.2.2.2.2.2.2.2.1, h.2.2.2.2.2.2.2.2.1, h.2.2.2.2.2.2.2.2.2.1⟩, h.2.2.2.2.2.2.2.2.2.2⟩⟩
theorem c81_15_ok : CK c81_15 := fo [c82, c124_2] [] z6 ⟨c82_ok, c124_2_ok, trivial⟩ Tryz.call81 Tryz.func81 rfl rfl (by kernel_rfl) fun h => by kernel_rfl
noncomputable def shed_relief__clear_1_v1 (a0 : Breaker) (a1 : Int) (a2 : (List Breaker)) (a3 : (List Source)) (a4 : (List Consumer)) (a5 : Int) (a6 : Int) (a7 : (List Bool)) (a8 : (List Running)) (a9 : (List Int)) (a10 : (List Part)) (a11 : (List Act)) : Option (Bool × Int × (List Breaker) × (List Source) × (List Consumer) × Int × Int × (List Bool) × (List Running) × (List Int) × (List Part) × (List Act)) :=
 Option.bind
 (if (a0.Kind == 3) = true then
 Option.bind (board_Live (Board.mk a1 a2 a3 a4 a5 a6) (Power.mk a7 a8 a9 a10) a0.A) fun x1 => some !x1
 else some false)
 fun x2 => some (x2, a1, a2, a3, a4, a5, a6, a7, a8, a9, a10, a11)
noncomputable def c83_1 : Con D := ⟨83, [.lf (.int .i64), .lf (.int .i64), .lf (.int .i64), .lf (.int .i64), .lf (.sl 4), .lf (.sl 5), .lf (.sl 6), .lf (.int .i64), .lf (.int .i64), .lf (.sl 1), .lf (.sl 8), .lf (.sl 0), .lf (.sl 9), .lf (.sl 10)], z47, [.agg [.h 0 [], .h 1 [], .h 2 []], .one (.ptr 1000 0)], [(1000, .box [.ptr 1001 0]), (1001, .box [.h 3 [], .h 4 [0], .h 5 [0], .h 6 [0], .h 7 [], .h 8 [], .own 1002, .own 1003, .own 1004, .own 1005, .own 1006]), (1002, .sl 1 4 9 []), (1003, .sl 8 48 10 []), (1004, .sl 0 3 11 []), (1005, .sl 9 84 12 []), (1006, .sl 10 74 13 [])], z10, [(1000, .box [.ptr 1001 0]), (1001, .box [.h 1 [], .h 2 [0], .h 3 [0], .h 4 [0], .h 5 [], .h 6 [], .own 1002, .own 1003, .own 1004, .own 1005, .own 1006]), (1002, .sl 1 4 7 []), (1003, .sl 8 48 8 []), (1004, .sl 0 3 9 []), (1005, .sl 9 84 10 []), (1006, .sl 10 74 11 [])], fun h => shed_relief__clear_1_v1 ⟨h.1, h.2.1, h.2.2.1⟩ h.2.2.2.1 h.2.2.2.2.1 h.2.2.2.2.2.1 h.2.2.2.2.2.2.1 h.2.2.2.2.2.2.2.1 h.2.2.2.2.2.2.2.2.1 h.2.2.2.2.2.2.2.2.2.1 h.2.2.2.2.2.2.2.2.2.2.1 h.2.2.2.2.2.2.2.2.2.2.2.1 h.2.2.2.2.2.2.2.2.2.2.2.2.1 h.2.2.2.2.2.2.2.2.2.2.2.2.2⟩
theorem c83_1_ok : CK c83_1 := fo [c64] [.tmp 3] z62 ⟨c64_ok, trivial⟩ Tryz.call83 Tryz.func83 rfl rfl (by kernel_rfl) fun h => by kernel_rfl
noncomputable def relief_sweep_v6_L1 (a0 : relief) : Int ×
 List Int ×
 Int ×
 List Breaker ×
 List Source × List Consumer × Int × Int × List Bool × List Running × List Int × List Part × List Act →
 Option
 (Int ×
 List Int ×
 Int ×
 List Breaker ×
 List Source × List Consumer × Int × Int × List Bool × List Running × List Int × List Part × List Act ⊕
 List Int ×
 Int ×
 List Breaker ×
 List Source ×
 List Consumer ×
 Int ×
 Int ×
 List Bool ×
 List Running ×
 List Int ×
 List Part ×
 List
 Act) := fun x1 =>
 if decide (x1.1 < len a0.board.Breakers) = true then
 Option.bind (idx a0.board.Breakers x1.1) fun x2 =>
 Option.bind
 (Option.bind (idx x1.2.2.2.2.2.2.2.2.1 x1.1) fun x3 =>
 if x3 = true then
 Option.bind
 (shed_relief__clear_1_v1 x2 x1.2.2.1 x1.2.2.2.1 x1.2.2.2.2.1
 x1.2.2.2.2.2.1 x1.2.2.2.2.2.2.1 x1.2.2.2.2.2.2.2.1
 x1.2.2.2.2.2.2.2.2.1 x1.2.2.2.2.2.2.2.2.2.1
 x1.2.2.2.2.2.2.2.2.2.2.1 x1.2.2.2.2.2.2.2.2.2.2.2.1
 x1.2.2.2.2.2.2.2.2.2.2.2.2)
 fun x4 =>
 some
 (x4.1, x4.2.1, x4.2.2.1, x4.2.2.2.1, x4.2.2.2.2.1,
 x4.2.2.2.2.2.1, x4.2.2.2.2.2.2.1, x4.2.2.2.2.2.2.2.1,
 x4.2.2.2.2.2.2.2.2.1, x4.2.2.2.2.2.2.2.2.2.1,
 x4.2.2.2.2.2.2.2.2.2.2.1, x4.2.2.2.2.2.2.2.2.2.2.2)
 else
 some
 (false, x1.2.2.1, x1.2.2.2.1, x1.2.2.2.2.1, x1.2.2.2.2.2.1,
 x1.2.2.2.2.2.2.1, x1.2.2.2.2.2.2.2.1,
 x1.2.2.2.2.2.2.2.2.1, x1.2.2.2.2.2.2.2.2.2.1,
 x1.2.2.2.2.2.2.2.2.2.2.1, x1.2.2.2.2.2.2.2.2.2.2.2.1,
 x1.2.2.2.2.2.2.2.2.2.2.2.2))
 fun x5 =>
 Option.bind (if x5.1 = true then Option.bind (app x1.2.1 [x1.1]) fun x6 => some x6 else some x1.2.1)
 fun x7 =>
 some
 (.inl
 (W (x1.1 + 1), x7, x5.2.1, x5.2.2.1, x5.2.2.2.1, x5.2.2.2.2.1,
 x5.2.2.2.2.2.1, x5.2.2.2.2.2.2.1, x5.2.2.2.2.2.2.2.1,
 x5.2.2.2.2.2.2.2.2.1, x5.2.2.2.2.2.2.2.2.2.1,
 x5.2.2.2.2.2.2.2.2.2.2.1, x5.2.2.2.2.2.2.2.2.2.2.2))
 else
 some
 (.inr
 (x1.2.1, x1.2.2.1, x1.2.2.2.1, x1.2.2.2.2.1, x1.2.2.2.2.2.1,
 x1.2.2.2.2.2.2.1, x1.2.2.2.2.2.2.2.1, x1.2.2.2.2.2.2.2.2.1,
 x1.2.2.2.2.2.2.2.2.2.1, x1.2.2.2.2.2.2.2.2.2.2.1,
 x1.2.2.2.2.2.2.2.2.2.2.2.1, x1.2.2.2.2.2.2.2.2.2.2.2.2))
noncomputable def relief_sweep_v6_L2 (x8 : List Int ×
 Int ×
 List Breaker ×
 List Source ×
 List Consumer ×
 Int ×
 Int ×
 List Bool ×
 List Running ×
 List Int ×
 List Part ×
 List
 Act) : Int ×
 Int ×
 List Breaker ×
 List Source × List Consumer × Int × Int × List Bool × List Running × List Int × List Part × List Act →
 Option
 (Int ×
 Int ×
 List Breaker ×
 List Source × List Consumer × Int × Int × List Bool × List Running × List Int × List Part × List Act ⊕
 Int ×
 List Breaker ×
 List Source ×
 List Consumer ×
 Int ×
 Int ×
 List Bool ×
 List Running ×
 List Int ×
 List Part ×
 List
 Act) := fun x9 =>
 if decide (x9.1 < len x8.1) = true then
 Option.bind (idx x8.1 x9.1) fun x10 =>
 Option.bind
 (relief_open_v1
 (relief.mk
 (Board.mk x9.2.1 x9.2.2.1 x9.2.2.2.1 x9.2.2.2.2.1 x9.2.2.2.2.2.1
 x9.2.2.2.2.2.2.1)
 (Power.mk x9.2.2.2.2.2.2.2.1 x9.2.2.2.2.2.2.2.2.1
 x9.2.2.2.2.2.2.2.2.2.1 x9.2.2.2.2.2.2.2.2.2.2.1)
 x9.2.2.2.2.2.2.2.2.2.2.2)
 x10)
 fun x11 =>
 some
 (.inl
 (W (x9.1 + 1), x11.1, x11.2.1, x11.2.2.1, x11.2.2.2.1,
 x11.2.2.2.2.1, x11.2.2.2.2.2.1, x11.2.2.2.2.2.2.1,
 x11.2.2.2.2.2.2.2.1, x11.2.2.2.2.2.2.2.2.1,
 x11.2.2.2.2.2.2.2.2.2.1, x11.2.2.2.2.2.2.2.2.2.2))
 else
 some
 (.inr
 (x9.2.1, x9.2.2.1, x9.2.2.2.1, x9.2.2.2.2.1, x9.2.2.2.2.2.1,
 x9.2.2.2.2.2.2.1, x9.2.2.2.2.2.2.2.1, x9.2.2.2.2.2.2.2.2.1,
 x9.2.2.2.2.2.2.2.2.2.1, x9.2.2.2.2.2.2.2.2.2.2.1,
 x9.2.2.2.2.2.2.2.2.2.2.2))
noncomputable def relief_sweep_v6 (a0 : relief) : Option (Int × (List Breaker) × (List Source) × (List Consumer) × Int × Int × (List Bool) × (List Running) × (List Int) × (List Part) × (List Act)) :=
 Option.bind
 (loopO (relief_sweep_v6_L1 a0)
 (0, [], a0.board.Buses, a0.board.Breakers, a0.board.Sources, a0.board.Consumers, a0.board.Phase,
 a0.board.Frequency, a0.power.Closed, a0.power.Sources, a0.power.Limits, a0.power.Broken, a0.acts))
 fun x8 =>
 Option.bind
 (loopO (relief_sweep_v6_L2 x8)
 (0, x8.2.1, x8.2.2.1, x8.2.2.2.1, x8.2.2.2.2.1,
 x8.2.2.2.2.2.1, x8.2.2.2.2.2.2.1, x8.2.2.2.2.2.2.2.1,
 x8.2.2.2.2.2.2.2.2.1, x8.2.2.2.2.2.2.2.2.2.1,
 x8.2.2.2.2.2.2.2.2.2.2.1, x8.2.2.2.2.2.2.2.2.2.2.2))
 fun x12 =>
 some
 (x12.1, x12.2.1, x12.2.2.1, x12.2.2.2.1, x12.2.2.2.2.1,
 x12.2.2.2.2.2.1, x12.2.2.2.2.2.2.1, x12.2.2.2.2.2.2.2.1,
 x12.2.2.2.2.2.2.2.2.1, x12.2.2.2.2.2.2.2.2.2.1,
 x12.2.2.2.2.2.2.2.2.2.2)
noncomputable def c81_16 : Con D := ⟨81, z4, z4, [.one (.ptr 1000 0), .one (.fn 83 [.ptr 1006 0])], [(1000, .box [.h 0 [], .h 1 [0], .h 2 [0], .h 3 [0], .h 4 [], .h 5 [], .own 1001, .own 1002, .own 1003, .own 1004, .own 1005]), (1001, .sl 1 4 6 []), (1002, .sl 8 48 7 []), (1003, .sl 0 3 8 []), (1004, .sl 9 84 9 []), (1005, .sl 10 74 10 []), (1006, .box [.ptr 1000 0])], [], [(1000, .box [.h 0 [], .h 1 [0], .h 2 [0], .h 3 [0], .h 4 [], .h 5 [], .own 1001, .own 1002, .own 1003, .own 1004, .own 1007]), (1001, .sl 1 4 6 []), (1002, .sl 8 48 7 []), (1003, .sl 0 3 8 []), (1004, .sl 9 84 9 []), (1006, .box [.ptr 1000 0]), (1007, .sl 10 74 10 [])], fun h => relief_sweep_v6 ⟨⟨h.1, h.2.1, h.2.2.1, h.2.2.2.1, h.2.2.2.2.1, h.2.2.2.2.2.1⟩, ⟨h.2.2.2.2.2.2.1, h.2.2.2.2.2.2.2.1, h.2.2.2.2.2.2.2.2.1, h.2.2.2.2.2.2.2.2.2.1⟩, h.2.2.2.2.2.2.2.2.2.2⟩⟩
theorem c81_16_ok : CK c81_16 := fo [c83_1, c124_2] [] (.n none .o (.n none (.n none .o (.n none (.loop ⟨[.lf (.int .i64), .lf (.sl 0), .lf (.int .i64), .lf (.sl 4), .lf (.sl 5), .lf (.sl 6), .lf (.int .i64), .lf (.int .i64), .lf (.sl 1), .lf (.sl 8), .lf (.sl 0), .lf (.sl 9), .lf (.sl 10)], [(4, .one (.own 2512)), (15, .one (.h 0 []))], [(2512, .sl 0 3 1 []), (1000, .box [.h 2 [], .h 3 [0], .h 4 [0], .h 5 [0], .h 6 [], .h 7 [], .own 1001, .own 1002, .own 1003, .own 1004, .own 1005]), (1001, .sl 1 4 8 []), (1002, .sl 8 48 9 []), (1003, .sl 0 3 10 []), (1004, .sl 9 84 11 []), (1005, .sl 10 74 12 []), (1006, .box [.ptr 1000 0])], [1000, 1001, 1002, 1003, 1004, 1005, 1006], 2576⟩ true [(.exit 0, ⟨[.lf (.sl 0), .lf (.int .i64), .lf (.sl 4), .lf (.sl 5), .lf (.sl 6), .lf (.int .i64), .lf (.int .i64), .lf (.sl 1), .lf (.sl 8), .lf (.sl 0), .lf (.sl 9), .lf (.sl 10)], [(4, .one (.own 2512))], [(2512, .sl 0 3 0 []), (1000, .box [.h 1 [], .h 2 [0], .h 3 [0], .h 4 [0], .h 5 [], .h 6 [], .own 1001, .own 1002, .own 1003, .own 1004, .own 1005]), (1001, .sl 1 4 7 []), (1002, .sl 8 48 8 []), (1003, .sl 0 3 9 []), (1004, .sl 9 84 10 []), (1005, .sl 10 74 11 []), (1006, .box [.ptr 1000 0])], [1000, 1001, 1002, 1003, 1004, 1005, 1006], 2576⟩)] (.n none .o (.n none .o (.n none (.n none (.n none .o (.n none (.r (some (true, [(.normal, ⟨z47, [(29, .one (.any)), (30, .one (.any)), (31, .one (.any)), (32, .one (.h 0 []))], [(1000, .box [.h 1 [], .h 2 [0], .h 3 [0], .h 4 [0], .h 5 [], .h 6 [], .own 1001, .own 1002, .own 1003, .own 1004, .own 1005]), (1001, .sl 1 4 7 []), (1002, .sl 8 48 8 []), (1003, .sl 0 3 9 []), (1004, .sl 9 84 10 []), (1005, .sl 10 74 11 []), (1006, .box [.ptr 1000 0])], [1000, 1001, 1002, 1003, 1004, 1005, 1006], 3101⟩)])) .nil) (.n (some (true, [(.normal, ⟨z28, [(4, .one (.own 3113))], [(3113, .sl 0 3 0 [])], [2512], 3177⟩)])) .o .o))) .o) .o)))) .o)) (.n none .o (.n none (.loop ⟨z25, [(40, .one (.h 0 []))], [(1000, .box [.h 1 [], .h 2 [0], .h 3 [0], .h 4 [0], .h 5 [], .h 6 [], .own 1001, .own 1002, .own 1003, .own 1004, .own 2780]), (1001, .sl 1 4 7 []), (1002, .sl 8 48 8 []), (1003, .sl 0 3 9 []), (1004, .sl 9 84 10 []), (2780, .sl 10 74 11 [])], [1000, 1001, 1002, 1003, 1004, 1005], 2844⟩ true [(.exit 2, ⟨z4, [], [(1000, .box [.h 0 [], .h 1 [0], .h 2 [0], .h 3 [0], .h 4 [], .h 5 [], .own 1001, .own 1002, .own 1003, .own 1004, .own 2780]), (1001, .sl 1 4 6 []), (1002, .sl 8 48 7 []), (1003, .sl 0 3 8 []), (1004, .sl 9 84 9 []), (2780, .sl 10 74 10 [])], [1000, 1001, 1002, 1003, 1004, 1005], 2844⟩)] .o) .o)))) ⟨c83_1_ok, c124_2_ok, trivial⟩ Tryz.call81 Tryz.func81 rfl rfl (by kernel_rfl) fun h => by kernel_rfl
noncomputable def relief_clear_v1 (a0 : relief) : Option (Int × (List Breaker) × (List Source) × (List Consumer) × Int × Int × (List Bool) × (List Running) × (List Int) × (List Part) × (List Bool) × (List Running) × (List Int) × (List Part) × (List Act)) :=
 Option.bind (relief_sweep_v5 a0) fun x1 =>
 Option.bind
 (relief_sweep_v6
 (relief.mk
 (Board.mk x1.1 x1.2.1 x1.2.2.1 x1.2.2.2.1 x1.2.2.2.2.1
 x1.2.2.2.2.2.1)
 (Power.mk x1.2.2.2.2.2.2.1 x1.2.2.2.2.2.2.2.1
 x1.2.2.2.2.2.2.2.2.1 x1.2.2.2.2.2.2.2.2.2.1)
 x1.2.2.2.2.2.2.2.2.2.2))
 fun x2 =>
 Option.bind
 (sync_Follow
 (Board.mk x2.1 x2.2.1 x2.2.2.1 x2.2.2.2.1 x2.2.2.2.2.1
 x2.2.2.2.2.2.1)
 (Power.mk x2.2.2.2.2.2.2.1 x2.2.2.2.2.2.2.2.1
 x2.2.2.2.2.2.2.2.2.1 x2.2.2.2.2.2.2.2.2.2.1))
 fun x3 =>
 some
 (x2.1, x2.2.1, x2.2.2.1, x2.2.2.2.1, x2.2.2.2.2.1, x2.2.2.2.2.2.1,
 x2.2.2.2.2.2.2.1, x2.2.2.2.2.2.2.2.1, x2.2.2.2.2.2.2.2.2.1,
 x2.2.2.2.2.2.2.2.2.2.1, x3.2.1, x3.2.2.1, x3.2.2.2.1,
 x3.2.2.2.2, x2.2.2.2.2.2.2.2.2.2.2)
noncomputable def c44_1 : Con D := ⟨44, z4, z36, z68, z11, [], z26, fun h => relief_clear_v1 ⟨⟨h.1, h.2.1, h.2.2.1, h.2.2.2.1, h.2.2.2.2.1, h.2.2.2.2.2.1⟩, ⟨h.2.2.2.2.2.2.1, h.2.2.2.2.2.2.2.1, h.2.2.2.2.2.2.2.2.1, h.2.2.2.2.2.2.2.2.2.1⟩, h.2.2.2.2.2.2.2.2.2.2⟩⟩
theorem c44_1_ok : CK c44_1 := fo [c81_15, c81_16, c84] [] .o ⟨c81_15_ok, c81_16_ok, c84_ok, trivial⟩ Tryz.call44 Tryz.func44 rfl rfl (by kernel_rfl) fun h => by kernel_rfl
noncomputable def shed_relieve (a0 : Board) (a1 : Power) : Option (Int × (List Bool) × (List Running) × (List Int) × (List Part) × (List Act)) :=
 Option.bind (board_State a0 a1) fun x1 =>
 if (x1 != 0) = true then some (x1, [], [], [], [], [])
 else
 Option.bind (states_Clone a1) fun x2 =>
 Option.bind (relief_clear_v1 (relief.mk a0 (Power.mk x2.1 x2.2.1 x2.2.2.1 x2.2.2.2) []))
 fun x3 =>
 some
 (0, x3.2.2.2.2.2.2.2.2.2.2.1,
 x3.2.2.2.2.2.2.2.2.2.2.2.1,
 x3.2.2.2.2.2.2.2.2.2.2.2.2.1,
 x3.2.2.2.2.2.2.2.2.2.2.2.2.2.1,
 x3.2.2.2.2.2.2.2.2.2.2.2.2.2.2)
noncomputable def c43_1 : Con D := ⟨43, z1, z16, [.agg [.h 0 [], .h 1 [0], .h 2 [0], .h 3 [0], .h 4 [], .h 5 []], .agg [.h 6 [0], .h 7 [0], .h 8 [0], .h 9 [0]], .one (.fn 44 [])], [], z15, z13, fun h => shed_relieve ⟨h.1, h.2.1, h.2.2.1, h.2.2.2.1, h.2.2.2.2.1, h.2.2.2.2.2.1⟩ ⟨h.2.2.2.2.2.2.1, h.2.2.2.2.2.2.2.1, h.2.2.2.2.2.2.2.2.1, h.2.2.2.2.2.2.2.2.2⟩⟩
theorem c43_1_ok : CK c43_1 := fo [c44_1, c70, c80] [.cell 6 34, .tmp 7, .tmp 8] .o ⟨c44_1_ok, c70_ok, c80_ok, trivial⟩ Tryz.call43 Tryz.func43 rfl rfl (by kernel_rfl) fun h => by kernel_rfl
noncomputable def shed_Clear (a0 : Board) (a1 : Power) : Option (Int × (List Bool) × (List Running) × (List Int) × (List Part) × (List Act)) :=
 Option.bind (shed_relieve a0 a1) fun x1 =>
 some (x1.1, x1.2.1, x1.2.2.1, x1.2.2.2.1, x1.2.2.2.2.1, x1.2.2.2.2.2)
noncomputable def c11 : Con D := ⟨11, z1, z16, z5, [], z15, z13, fun h => shed_Clear ⟨h.1, h.2.1, h.2.2.1, h.2.2.2.1, h.2.2.2.2.1, h.2.2.2.2.2.1⟩ ⟨h.2.2.2.2.2.2.1, h.2.2.2.2.2.2.2.1, h.2.2.2.2.2.2.2.2.1, h.2.2.2.2.2.2.2.2.2⟩⟩
theorem c11_ok : CK c11 := fo [c43_1] [.cell 4 34, .tmp 5, .tmp 6] .o ⟨c43_1_ok, trivial⟩ Tryz.call11 Tryz.func11 rfl rfl (by kernel_rfl) fun h => by kernel_rfl
noncomputable def slices_Equal_Running_Running_L1 (a0 : List
 Running) (a1 : List
 Running) : Int →
 Option
 (Int ⊕
 Unit ⊕
 Bool) := fun x1 =>
 if decide (x1 < len a0) = true then
 Option.bind (idx a0 x1) fun x2 =>
 Option.bind (idx a1 x1) fun x3 =>
 if
 (!(x2.State == x3.State &&
 (x2.Since == x3.Since && (x2.Frequency == x3.Frequency && x2.Phase == x3.Phase)))) =
 true then
 some (.inr (.inr false))
 else some (.inl (W (x1 + 1)))
 else some (.inr (.inl ()))
noncomputable def slices_Equal_Running_Running (a0 : (List Running)) (a1 : (List Running)) : Option (Bool) :=
 if (len a0 != len a1) = true then some false
 else
 Option.bind (loopO (slices_Equal_Running_Running_L1 a0 a1) 0) fun x4 =>
 Sum.elim (fun x5 => some true) (fun x6 => some x6) x4
noncomputable def c109 : Con D := ⟨109, [.lf (.sl 8), .lf (.sl 8)], [.lf .bool], z57, [], z10, [], fun h => slices_Equal_Running_Running h.1 h.2⟩
theorem c109_ok : CK c109 := fo [] [.tmp 4] z14 trivial Tryz.call109 Tryz.func109 rfl rfl (by kernel_rfl) fun h => by kernel_rfl
noncomputable def slices_Equal_Part_Part_L1 (a0 : List
 Part) (a1 : List
 Part) : Int →
 Option
 (Int ⊕
 Unit ⊕
 Bool) := fun x1 =>
 if decide (x1 < len a0) = true then
 Option.bind (idx a0 x1) fun x2 =>
 Option.bind (idx a1 x1) fun x3 =>
 if (!(x2.Kind == x3.Kind && x2.Number == x3.Number)) = true then some (.inr (.inr false))
 else some (.inl (W (x1 + 1)))
 else some (.inr (.inl ()))
noncomputable def slices_Equal_Part_Part (a0 : (List Part)) (a1 : (List Part)) : Option (Bool) :=
 if (len a0 != len a1) = true then some false
 else
 Option.bind (loopO (slices_Equal_Part_Part_L1 a0 a1) 0) fun x4 =>
 Sum.elim (fun x5 => some true) (fun x6 => some x6) x4
noncomputable def c110 : Con D := ⟨110, [.lf (.sl 9), .lf (.sl 9)], [.lf .bool], z57, [], z10, [], fun h => slices_Equal_Part_Part h.1 h.2⟩
theorem c110_ok : CK c110 := fo [] [.tmp 4] z14 trivial Tryz.call110 Tryz.func110 rfl rfl (by kernel_rfl) fun h => by kernel_rfl
noncomputable def shed_lesser_L1 (a0 : Power) (a1 : Power) : Int →
 Option
 (Int ⊕
 Unit ⊕
 Bool) := fun x1 =>
 if decide (x1 < len a1.Closed) = true then
 Option.bind (idx a1.Closed x1) fun x2 =>
 Option.bind (if x2 = true then Option.bind (idx a0.Closed x1) fun x3 => some !x3 else some false) fun x4 =>
 if x4 = true then some (.inr (.inr false)) else some (.inl (W (x1 + 1)))
 else some (.inr (.inl ()))
noncomputable def shed_lesser_L2 (a0 : Power) (a1 : Power) : Int →
 Option
 (Int ⊕
 Unit ⊕
 Bool) := fun x7 =>
 if decide (x7 < len a1.Limits) = true then
 Option.bind (idx a1.Limits x7) fun x8 =>
 Option.bind (idx a0.Limits x7) fun x9 =>
 if decide (x8 > x9) = true then some (.inr (.inr false)) else some (.inl (W (x7 + 1)))
 else some (.inr (.inl ()))
noncomputable def shed_lesser (a0 : Power) (a1 : Power) : Option (Bool) :=
 Option.bind (loopO (shed_lesser_L1 a0 a1) 0) fun x5 =>
 Sum.elim
 (fun x6 =>
 Option.bind (loopO (shed_lesser_L2 a0 a1) 0) fun x10 =>
 Sum.elim
 (fun x11 =>
 Option.bind
 (Option.bind (slices_Equal_Running_Running a0.Sources a1.Sources) fun x12 =>
 if x12 = true then Option.bind (slices_Equal_Part_Part a0.Broken a1.Broken) fun x13 => some x13
 else some false)
 fun x14 => some x14)
 (fun x15 => some x15) x10)
 (fun x16 => some x16) x5
noncomputable def c71 : Con D := ⟨71, z67, [.lf .bool], [.agg [.h 0 [0], .h 1 [0], .h 2 [0], .h 3 [0]], .agg [.h 4 [0], .h 5 [0], .h 6 [0], .h 7 [0]]], [], z10, [], fun h => shed_lesser ⟨h.1, h.2.1, h.2.2.1, h.2.2.2.1⟩ ⟨h.2.2.2.2.1, h.2.2.2.2.2.1, h.2.2.2.2.2.2.1, h.2.2.2.2.2.2.2⟩⟩
theorem c71_ok : CK c71 := fo [c109, c110] [.tmp 4] (.n none .o (.n none (.n none .o (.n none (.loop ⟨z9, [(12, .one (.h 0 []))], [], [], 2512⟩ false [(.exit 0, ⟨[], [], [], [], 2512⟩)] (.n none .o (.n none .o (.n none (.n none (.n none .o (.n none (.r (some (true, [(.normal, ⟨[.lf .bool], [(19, .one (.any)), (20, .one (.any)), (21, .one (.any)), (22, .one (.any)), (23, .one (.any)), (24, .one (.any)), (25, .one (.h 0 []))], [], [], 2961⟩)])) .nil) .o)) .o) .o)))) .o)) (.n none (.n none .o (.n none (.loop ⟨z9, [(30, .one (.h 0 []))], [], [], 2832⟩ false [(.exit 2, ⟨[], [], [], [], 2832⟩)] .o) .o)) (.n none (.r (some (true, [(.normal, ⟨[.lf .bool], z66, [], [], 2896⟩)])) .nil) .o)))) ⟨c109_ok, c110_ok, trivial⟩ Tryz.call71 Tryz.func71 rfl rfl (by kernel_rfl) fun h => by kernel_rfl
noncomputable def balance_Overloaded (a0 : Board) (a1 : Power) (a2 : Int) : Option (Bool) :=
 Option.bind (balance_Load a0 a1 a2) fun x1 => Option.bind (balance_Rating a0 a1 a2) fun x2 => some (decide (x1 > x2))
noncomputable def c72 : Con D := ⟨72, z0, [.lf .bool], z2, [], z10, [], fun h => balance_Overloaded ⟨h.1, h.2.1, h.2.2.1, h.2.2.2.1, h.2.2.2.2.1, h.2.2.2.2.2.1⟩ ⟨h.2.2.2.2.2.2.1, h.2.2.2.2.2.2.2.1, h.2.2.2.2.2.2.2.2.1, h.2.2.2.2.2.2.2.2.2.1⟩ h.2.2.2.2.2.2.2.2.2.2⟩
theorem c72_ok : CK c72 := fo [c111, c112] [.tmp 6] .o ⟨c111_ok, c112_ok, trivial⟩ Tryz.call72 Tryz.func72 rfl rfl (by kernel_rfl) fun h => by kernel_rfl
noncomputable def shed_Check_1 (a0 : Int) (a1 : Island) : Option (Bool) := Option.bind (slices_Contains_int_int a1.Consumers a0) fun x1 => some !x1
noncomputable def c76 : Con D := ⟨76, [.lf (.int .i64), .el 13], [.lf .bool], [.one (.h 0 []), .one (.rp 1 13 [0])], [], z10, [], fun h => shed_Check_1 h.1 h.2⟩
theorem c76_ok : CK c76 := fo [c77] [.tmp 3] .o ⟨c77_ok, trivial⟩ Tryz.call76 Tryz.func76 rfl rfl (by kernel_rfl) fun h => by kernel_rfl
noncomputable def board_Fed (a0 : Board) (a1 : Power) (a2 : Int) : Option (Int × Bool) :=
 Option.bind (board_State a0 a1) fun x1 =>
 if (x1 != 0) = true then some (0, false)
 else Option.bind (board_fed a0 a1 a2) fun x2 => some (x2.1, x2.2)
noncomputable def c63 : Con D := ⟨63, z0, z58, z2, [], z37, [], fun h => board_Fed ⟨h.1, h.2.1, h.2.2.1, h.2.2.2.1, h.2.2.2.2.1, h.2.2.2.2.2.1⟩ ⟨h.2.2.2.2.2.2.1, h.2.2.2.2.2.2.2.1, h.2.2.2.2.2.2.2.2.1, h.2.2.2.2.2.2.2.2.2.1⟩ h.2.2.2.2.2.2.2.2.2.2⟩
theorem c63_ok : CK c63 := fo [c70, c100] [.tmp 6, .tmp 7] .o ⟨c70_ok, c100_ok, trivial⟩ Tryz.call63 Tryz.func63 rfl rfl (by kernel_rfl) fun h => by kernel_rfl
noncomputable def shed_ordered_1_v1 (a0 : Int) (a1 : Int) (a2 : (List Breaker)) (a3 : (List Source)) (a4 : (List Consumer)) (a5 : Int) (a6 : Int) (a7 : (List Bool)) (a8 : (List Running)) (a9 : (List Int)) (a10 : (List Part)) : Option (Bool × Int × (List Breaker) × (List Source) × (List Consumer) × Int × Int × (List Bool) × (List Running) × (List Int) × (List Part)) :=
 Option.bind (board_Fed (Board.mk a1 a2 a3 a4 a5 a6) (Power.mk a7 a8 a9 a10) a0) fun x1 =>
 some (x1.2, a1, a2, a3, a4, a5, a6, a7, a8, a9, a10)
noncomputable def c118_1 : Con D := ⟨118, z8, z7, [.one (.h 0 []), .one (.ptr 1000 0), .one (.ptr 1001 0)], z56, z10, z56, fun h => shed_ordered_1_v1 h.1 h.2.1 h.2.2.1 h.2.2.2.1 h.2.2.2.2.1 h.2.2.2.2.2.1 h.2.2.2.2.2.2.1 h.2.2.2.2.2.2.2.1 h.2.2.2.2.2.2.2.2.1 h.2.2.2.2.2.2.2.2.2.1 h.2.2.2.2.2.2.2.2.2.2⟩
theorem c118_1_ok : CK c118_1 := fo [c63] [.tmp 4] .o ⟨c63_ok, trivial⟩ Tryz.call118 Tryz.func118 rfl rfl (by kernel_rfl) fun h => by kernel_rfl
noncomputable def shed_ordered_2_v2 (a0 : Int) (a1 : Int) (a2 : (List Breaker)) (a3 : (List Source)) (a4 : (List Consumer)) (a5 : Int) (a6 : Int) (a7 : (List Bool)) (a8 : (List Running)) (a9 : (List Int)) (a10 : (List Part)) : Option (Bool × Int × (List Breaker) × (List Source) × (List Consumer) × Int × Int × (List Bool) × (List Running) × (List Int) × (List Part)) :=
 Option.bind
 (Option.bind (shed_ordered_1_v1 a0 a1 a2 a3 a4 a5 a6 a7 a8 a9 a10) fun x1 =>
 if x1.1 = true then
 Option.bind (idx x1.2.2.2.2.2.2.2.2.2.1 a0) fun x2 =>
 Option.bind (idx x1.2.2.2.2.1 a0) fun x3 =>
 some
 (decide (x2 > x3.Least), x1.2.1, x1.2.2.1, x1.2.2.2.1, x1.2.2.2.2.1,
 x1.2.2.2.2.2.1, x1.2.2.2.2.2.2.1, x1.2.2.2.2.2.2.2.1,
 x1.2.2.2.2.2.2.2.2.1, x1.2.2.2.2.2.2.2.2.2.1,
 x1.2.2.2.2.2.2.2.2.2.2)
 else
 some
 (false, x1.2.1, x1.2.2.1, x1.2.2.2.1, x1.2.2.2.2.1, x1.2.2.2.2.2.1,
 x1.2.2.2.2.2.2.1, x1.2.2.2.2.2.2.2.1, x1.2.2.2.2.2.2.2.2.1,
 x1.2.2.2.2.2.2.2.2.2.1, x1.2.2.2.2.2.2.2.2.2.2))
 fun x4 =>
 some
 (x4.1, x4.2.1, x4.2.2.1, x4.2.2.2.1, x4.2.2.2.2.1, x4.2.2.2.2.2.1,
 x4.2.2.2.2.2.2.1, x4.2.2.2.2.2.2.2.1, x4.2.2.2.2.2.2.2.2.1,
 x4.2.2.2.2.2.2.2.2.2.1, x4.2.2.2.2.2.2.2.2.2.2)
noncomputable def c119_2 : Con D := ⟨119, z8, z7, [.one (.h 0 []), .one (.ptr 1000 0), .one (.ptr 1002 0), .one (.ptr 1001 0)], z3, z10, z3, fun h => shed_ordered_2_v2 h.1 h.2.1 h.2.2.1 h.2.2.2.1 h.2.2.2.2.1 h.2.2.2.2.2.1 h.2.2.2.2.2.2.1 h.2.2.2.2.2.2.2.1 h.2.2.2.2.2.2.2.2.1 h.2.2.2.2.2.2.2.2.2.1 h.2.2.2.2.2.2.2.2.2.2⟩
theorem c119_2_ok : CK c119_2 := fo [c118_1] [.tmp 5] (.n none .o (.n none (.r (some (true, [(.normal, ⟨z7, [(5, .one (.h 0 []))], z55, [1001, 1002], 2128⟩)])) .nil) .o)) ⟨c118_1_ok, trivial⟩ Tryz.call119 Tryz.func119 rfl rfl (by kernel_rfl) fun h => by kernel_rfl
noncomputable def slices_IndexFunc_int_int_flat_L1 (a0 : List
 Int) (a1 : Island) : Int →
 Option
 (Int ⊕
 Unit ⊕
 Int) := fun x1 =>
 if decide (x1 < len a0) = true then
 Option.bind (idx a0 x1) fun x2 =>
 Option.bind (shed_relief__shed_1 x2 a1) fun x3 =>
 if x3 = true then some (.inr (.inr x1)) else some (.inl (W (x1 + 1)))
 else some (.inr (.inl ()))
noncomputable def slices_IndexFunc_int_int_flat (a0 : (List Int)) (a1 : Island) : Option (Int) :=
 Option.bind (loopO (slices_IndexFunc_int_int_flat_L1 a0 a1) 0) fun x4 =>
 Sum.elim (fun x5 => some (-1)) (fun x6 => some x6) x4
noncomputable def c103 : Con D := ⟨103, [.lf (.sl 0), .el 13], z9, [.one (.h 0 [0]), .one (.fn 87 [.rp 1 13 [0]])], [], z10, [], fun h => slices_IndexFunc_int_int_flat h.1 h.2⟩
theorem c103_ok : CK c103 := fo [c87] [.tmp 4] z12 ⟨c87_ok, trivial⟩ Tryz.call103 Tryz.func103 rfl rfl (by kernel_rfl) fun h => by kernel_rfl
noncomputable def slices_DeleteFunc_int_int_L1 (a1 : Island) : Int × Int × List Int →
 Option
 (Int × Int × List Int ⊕
 Int ×
 List
 Int) := fun x2 =>
 if decide (x2.2.1 < len x2.2.2) = true then
 Option.bind (idx x2.2.2 x2.2.1) fun x3 =>
 Option.bind (shed_relief__shed_1 x3 a1) fun x4 =>
 Option.bind
 (if (!x4) = true then
 Option.bind (idx x2.2.2 x2.1) fun x5 =>
 Option.bind (idx x2.2.2 x2.1) fun x6 =>
 Option.bind (setO x2.2.2 x2.1 x3) fun x7 => some (W (x2.1 + 1), x7)
 else some (x2.1, x2.2.2))
 fun x8 => some (.inl (x8.1, W (x2.2.1 + 1), x8.2))
 else some (.inr (x2.1, x2.2.2))
noncomputable def slices_DeleteFunc_int_int (a0 : (List Int)) (a1 : Island) : Option ((List Int)) :=
 Option.bind (slices_IndexFunc_int_int_flat a0 a1) fun x1 =>
 if (x1 == (-1)) = true then some a0
 else
 Option.bind (loopO (slices_DeleteFunc_int_int_L1 a1) (x1, W (x1 + 1), a0)) fun x9 =>
 Option.bind (slc x9.2 x9.1 (len x9.2)) fun x10 =>
 Option.bind (slc (clrT 0 x9.2 x9.1) 0 x9.1) fun x11 => some x11
noncomputable def c74 : Con D := ⟨74, [.lf (.sl 0), .el 13], z28, [.one (.own 1000), .one (.fn 87 [.rp 1 13 [0]])], z29, [.one (.own 1001)], [(1001, .sl 0 3 0 [])], fun h => slices_DeleteFunc_int_int h.1 h.2⟩
theorem c74_ok : CK c74 := fo [c87, c103] [.tmp 4] z18 ⟨c87_ok, c103_ok, trivial⟩ Tryz.call74 Tryz.func74 rfl rfl (by kernel_rfl) fun h => by kernel_rfl
noncomputable def relief_shed_v1_L1 (x1 : List
 Int) (x2 : List
 Island) : Int ×
 Int ×
 List Breaker ×
 List Source × List Consumer × Int × Int × List Bool × List Running × List Int × List Part × List Act →
 Option
 (Int ×
 Int ×
 List Breaker ×
 List Source × List Consumer × Int × Int × List Bool × List Running × List Int × List Part × List Act ⊕
 Int ×
 List Breaker ×
 List Source ×
 List Consumer ×
 Int ×
 Int ×
 List Bool ×
 List Running ×
 List Int ×
 List Part ×
 List
 Act) := fun x3 =>
 if decide (x3.1 < len x2) = true then
 Option.bind (idx x2 x3.1) fun x4 =>
 Option.bind (slices_Clone_int_int x1) fun x5 =>
 Option.bind (slices_DeleteFunc_int_int x5 x4) fun x6 =>
 Option.bind
 (if decide (len x4.Sources > 0) = true then
 Option.bind (idx x4.Buses 0) fun x7 =>
 Option.bind
 (relief_lower_v3
 (relief.mk
 (Board.mk x3.2.1 x3.2.2.1 x3.2.2.2.1 x3.2.2.2.2.1
 x3.2.2.2.2.2.1 x3.2.2.2.2.2.2.1)
 (Power.mk x3.2.2.2.2.2.2.2.1 x3.2.2.2.2.2.2.2.2.1
 x3.2.2.2.2.2.2.2.2.2.1 x3.2.2.2.2.2.2.2.2.2.2.1)
 x3.2.2.2.2.2.2.2.2.2.2.2)
 x6 x7)
 fun x8 =>
 Option.bind (idx x4.Buses 0) fun x9 =>
 Option.bind
 (relief_trip_v2
 (relief.mk
 (Board.mk x8.1 x8.2.1 x8.2.2.1 x8.2.2.2.1 x8.2.2.2.2.1
 x8.2.2.2.2.2.1)
 (Power.mk x8.2.2.2.2.2.2.1 x8.2.2.2.2.2.2.2.1
 x8.2.2.2.2.2.2.2.2.1 x8.2.2.2.2.2.2.2.2.2.1)
 x8.2.2.2.2.2.2.2.2.2.2.2)
 x8.2.2.2.2.2.2.2.2.2.2.1 x9)
 fun x10 =>
 some
 (x10.1, x10.2.1, x10.2.2.1, x10.2.2.2.1, x10.2.2.2.2.1,
 x10.2.2.2.2.2.1, x10.2.2.2.2.2.2.1,
 x10.2.2.2.2.2.2.2.1, x10.2.2.2.2.2.2.2.2.1,
 x10.2.2.2.2.2.2.2.2.2.1, x10.2.2.2.2.2.2.2.2.2.2.1,
 x10.2.2.2.2.2.2.2.2.2.2.2)
 else
 some
 (x3.2.1, x3.2.2.1, x3.2.2.2.1, x3.2.2.2.2.1, x3.2.2.2.2.2.1,
 x3.2.2.2.2.2.2.1, x3.2.2.2.2.2.2.2.1,
 x3.2.2.2.2.2.2.2.2.1, x3.2.2.2.2.2.2.2.2.2.1,
 x3.2.2.2.2.2.2.2.2.2.2.1, x6, x3.2.2.2.2.2.2.2.2.2.2.2))
 fun x11 =>
 some
 (.inl
 (W (x3.1 + 1), x11.1, x11.2.1, x11.2.2.1, x11.2.2.2.1,
 x11.2.2.2.2.1, x11.2.2.2.2.2.1, x11.2.2.2.2.2.2.1,
 x11.2.2.2.2.2.2.2.1, x11.2.2.2.2.2.2.2.2.1,
 x11.2.2.2.2.2.2.2.2.2.1, x11.2.2.2.2.2.2.2.2.2.2.2))
 else
 some
 (.inr
 (x3.2.1, x3.2.2.1, x3.2.2.2.1, x3.2.2.2.2.1, x3.2.2.2.2.2.1,
 x3.2.2.2.2.2.2.1, x3.2.2.2.2.2.2.2.1, x3.2.2.2.2.2.2.2.2.1,
 x3.2.2.2.2.2.2.2.2.2.1, x3.2.2.2.2.2.2.2.2.2.2.1,
 x3.2.2.2.2.2.2.2.2.2.2.2))
noncomputable def relief_shed_v1 (a0 : relief) : Option (Int × (List Breaker) × (List Source) × (List Consumer) × Int × Int × (List Bool) × (List Running) × (List Int) × (List Part) × (List Act)) :=
 Option.bind (shed_Order a0.board) fun x1 =>
 Option.bind (board_Islands a0.board a0.power) fun x2 =>
 Option.bind
 (loopO (relief_shed_v1_L1 x1 x2)
 (0, a0.board.Buses, a0.board.Breakers, a0.board.Sources, a0.board.Consumers, a0.board.Phase,
 a0.board.Frequency, a0.power.Closed, a0.power.Sources, a0.power.Limits, a0.power.Broken, a0.acts))
 fun x12 =>
 some
 (x12.1, x12.2.1, x12.2.2.1, x12.2.2.2.1, x12.2.2.2.2.1,
 x12.2.2.2.2.2.1, x12.2.2.2.2.2.2.1, x12.2.2.2.2.2.2.2.1,
 x12.2.2.2.2.2.2.2.2.1, x12.2.2.2.2.2.2.2.2.2.1,
 x12.2.2.2.2.2.2.2.2.2.2)
noncomputable def c48_1 : Con D := ⟨48, z4, z4, z68, z11, [], z19, fun h => relief_shed_v1 ⟨⟨h.1, h.2.1, h.2.2.1, h.2.2.2.1, h.2.2.2.2.1, h.2.2.2.2.2.1⟩, ⟨h.2.2.2.2.2.2.1, h.2.2.2.2.2.2.2.1, h.2.2.2.2.2.2.2.2.1, h.2.2.2.2.2.2.2.2.2.1⟩, h.2.2.2.2.2.2.2.2.2.2⟩⟩
theorem c48_1_ok : CK c48_1 := fo [c24, c73, c74, c75, c88_3, c89_2] [] (.n none .o (.n none .o (.n none (.loop ⟨z25, [(21, .one (.h 0 []))], [(1000, .box [.h 1 [], .h 2 [0], .h 3 [0], .h 4 [0], .h 5 [], .h 6 [], .own 1001, .own 1002, .own 1003, .own 1004, .own 3088]), (1001, .sl 1 4 7 []), (1002, .sl 8 48 8 []), (1003, .sl 0 3 9 []), (1004, .sl 9 84 10 []), (3088, .sl 10 74 11 [])], [1000, 1001, 1002, 1003, 1004, 1005], 3152⟩ true [(.exit 0, ⟨z4, [], [(1000, .box [.h 0 [], .h 1 [0], .h 2 [0], .h 3 [0], .h 4 [], .h 5 [], .own 1001, .own 1002, .own 1003, .own 1004, .own 3088]), (1001, .sl 1 4 6 []), (1002, .sl 8 48 7 []), (1003, .sl 0 3 8 []), (1004, .sl 9 84 9 []), (3088, .sl 10 74 10 [])], [1000, 1001, 1002, 1003, 1004, 1005], 3152⟩)] (.n none .o (.n none .o (.n none (.n none (.n none .o (.n none .o (.n none .o (.n (some (true, [(.normal, ⟨z27, [], [(1000, .box [.h 0 [], .h 1 [0], .h 2 [0], .h 3 [0], .h 4 [], .h 5 [], .own 1001, .own 1002, .own 1003, .own 1004, .own 4060]), (1001, .sl 1 4 6 []), (1002, .sl 8 48 7 []), (1003, .sl 0 3 8 []), (1004, .sl 9 84 9 []), (3684, .sl 0 3 10 []), (4060, .sl 10 74 11 [])], [1000, 1001, 1002, 1003, 1004, 3088, 3684], 4124⟩)])) .o .o)))) .o) .o)))) .o))) ⟨c24_ok, c73_ok, c74_ok, c75_ok, c88_3_ok, c89_2_ok, trivial⟩ Tryz.call48 Tryz.func48 rfl rfl (by kernel_rfl) fun h => by kernel_rfl
noncomputable def shed_relieve_v1 (a0 : Board) (a1 : Power) : Option (Int × (List Bool) × (List Running) × (List Int) × (List Part) × (List Act)) :=
 Option.bind (board_State a0 a1) fun x1 =>
 if (x1 != 0) = true then some (x1, [], [], [], [], [])
 else
 Option.bind (states_Clone a1) fun x2 =>
 Option.bind (relief_shed_v1 (relief.mk a0 (Power.mk x2.1 x2.2.1 x2.2.2.1 x2.2.2.2) []))
 fun x3 =>
 some
 (0, x3.2.2.2.2.2.2.1, x3.2.2.2.2.2.2.2.1,
 x3.2.2.2.2.2.2.2.2.1, x3.2.2.2.2.2.2.2.2.2.1,
 x3.2.2.2.2.2.2.2.2.2.2)
noncomputable def c43 : Con D := ⟨43, z1, z16, [.agg [.h 0 [], .h 1 [0], .h 2 [0], .h 3 [0], .h 4 [], .h 5 []], .agg [.h 6 [0], .h 7 [0], .h 8 [0], .h 9 [0]], .one (.fn 48 [])], [], z15, z13, fun h => shed_relieve_v1 ⟨h.1, h.2.1, h.2.2.1, h.2.2.2.1, h.2.2.2.2.1, h.2.2.2.2.2.1⟩ ⟨h.2.2.2.2.2.2.1, h.2.2.2.2.2.2.2.1, h.2.2.2.2.2.2.2.2.1, h.2.2.2.2.2.2.2.2.2⟩⟩
theorem c43_ok : CK c43 := fo [c48_1, c70, c80] [.cell 6 34, .tmp 7, .tmp 8] .o ⟨c48_1_ok, c70_ok, c80_ok, trivial⟩ Tryz.call43 Tryz.func43 rfl rfl (by kernel_rfl) fun h => by kernel_rfl
noncomputable def shed_Shed (a0 : Board) (a1 : Power) : Option (Int × (List Bool) × (List Running) × (List Int) × (List Part) × (List Act)) :=
 Option.bind (shed_relieve_v1 a0 a1) fun x1 =>
 some (x1.1, x1.2.1, x1.2.2.1, x1.2.2.2.1, x1.2.2.2.2.1, x1.2.2.2.2.2)
noncomputable def c17 : Con D := ⟨17, z1, z16, z5, [], z15, z13, fun h => shed_Shed ⟨h.1, h.2.1, h.2.2.1, h.2.2.2.1, h.2.2.2.2.1, h.2.2.2.2.2.1⟩ ⟨h.2.2.2.2.2.2.1, h.2.2.2.2.2.2.2.1, h.2.2.2.2.2.2.2.2.1, h.2.2.2.2.2.2.2.2.2⟩⟩
theorem c17_ok : CK c17 := fo [c43] [.cell 4 34, .tmp 5, .tmp 6] .o ⟨c43_ok, trivial⟩ Tryz.call17 Tryz.func17 rfl rfl (by kernel_rfl) fun h => by kernel_rfl
noncomputable def slices_IndexFunc_int_int_flat_v1_L1 (a0 : List
 Int) (a1 : Island) : Int →
 Option
 (Int ⊕
 Unit ⊕
 Int) := fun x1 =>
 if decide (x1 < len a0) = true then
 Option.bind (idx a0 x1) fun x2 =>
 Option.bind (shed_Check_1 x2 a1) fun x3 =>
 if x3 = true then some (.inr (.inr x1)) else some (.inl (W (x1 + 1)))
 else some (.inr (.inl ()))
noncomputable def slices_IndexFunc_int_int_flat_v1 (a0 : (List Int)) (a1 : Island) : Option (Int) :=
 Option.bind (loopO (slices_IndexFunc_int_int_flat_v1_L1 a0 a1) 0) fun x4 =>
 Sum.elim (fun x5 => some (-1)) (fun x6 => some x6) x4
noncomputable def c103_1 : Con D := ⟨103, [.lf (.sl 0), .el 13], z9, [.one (.h 0 [0]), .one (.fn 76 [.rp 1 13 [0]])], [], z10, [], fun h => slices_IndexFunc_int_int_flat_v1 h.1 h.2⟩
theorem c103_1_ok : CK c103_1 := fo [c76] [.tmp 4] z12 ⟨c76_ok, trivial⟩ Tryz.call103 Tryz.func103 rfl rfl (by kernel_rfl) fun h => by kernel_rfl
noncomputable def slices_DeleteFunc_int_int_v1_L1 (a1 : Island) : Int × Int × List Int →
 Option
 (Int × Int × List Int ⊕
 Int ×
 List
 Int) := fun x2 =>
 if decide (x2.2.1 < len x2.2.2) = true then
 Option.bind (idx x2.2.2 x2.2.1) fun x3 =>
 Option.bind (shed_Check_1 x3 a1) fun x4 =>
 Option.bind
 (if (!x4) = true then
 Option.bind (idx x2.2.2 x2.1) fun x5 =>
 Option.bind (idx x2.2.2 x2.1) fun x6 =>
 Option.bind (setO x2.2.2 x2.1 x3) fun x7 => some (W (x2.1 + 1), x7)
 else some (x2.1, x2.2.2))
 fun x8 => some (.inl (x8.1, W (x2.2.1 + 1), x8.2))
 else some (.inr (x2.1, x2.2.2))
noncomputable def slices_DeleteFunc_int_int_v1 (a0 : (List Int)) (a1 : Island) : Option ((List Int)) :=
 Option.bind (slices_IndexFunc_int_int_flat_v1 a0 a1) fun x1 =>
 if (x1 == (-1)) = true then some a0
 else
 Option.bind (loopO (slices_DeleteFunc_int_int_v1_L1 a1) (x1, W (x1 + 1), a0)) fun x9 =>
 Option.bind (slc x9.2 x9.1 (len x9.2)) fun x10 =>
 Option.bind (slc (clrT 0 x9.2 x9.1) 0 x9.1) fun x11 => some x11
noncomputable def c74_1 : Con D := ⟨74, [.lf (.sl 0), .el 13], z28, [.one (.own 1000), .one (.fn 76 [.rp 1 13 [0]])], z29, [.one (.own 1001)], [(1001, .sl 0 3 0 [])], fun h => slices_DeleteFunc_int_int_v1 h.1 h.2⟩
theorem c74_1_ok : CK c74_1 := fo [c76, c103_1] [.tmp 4] z18 ⟨c76_ok, c103_1_ok, trivial⟩ Tryz.call74 Tryz.func74 rfl rfl (by kernel_rfl) fun h => by kernel_rfl
noncomputable def slices_IndexFunc_int_int_flat_v4_L1 (a0 : List
 Int) : Int ×
 Int × List Breaker × List Source × List Consumer × Int × Int × List Bool × List Running × List Int × List Part →
 Option
 (Int ×
 Int × List Breaker × List Source × List Consumer × Int × Int × List Bool × List Running × List Int × List Part ⊕
 Int × List Breaker × List Source × List Consumer × Int × Int × List Bool × List Running × List Int × List Part ⊕
 Int ×
 Int ×
 List Breaker ×
 List Source ×
 List Consumer ×
 Int ×
 Int ×
 List Bool ×
 List Running ×
 List Int ×
 List
 Part) := fun x1 =>
 if decide (x1.1 < len a0) = true then
 Option.bind (idx a0 x1.1) fun x2 =>
 Option.bind
 (shed_ordered_2_v2 x2 x1.2.1 x1.2.2.1 x1.2.2.2.1 x1.2.2.2.2.1
 x1.2.2.2.2.2.1 x1.2.2.2.2.2.2.1 x1.2.2.2.2.2.2.2.1
 x1.2.2.2.2.2.2.2.2.1 x1.2.2.2.2.2.2.2.2.2.1
 x1.2.2.2.2.2.2.2.2.2.2)
 fun x3 =>
 if x3.1 = true then
 some
 (.inr
 (.inr
 (x1.1, x3.2.1, x3.2.2.1, x3.2.2.2.1, x3.2.2.2.2.1,
 x3.2.2.2.2.2.1, x3.2.2.2.2.2.2.1, x3.2.2.2.2.2.2.2.1,
 x3.2.2.2.2.2.2.2.2.1, x3.2.2.2.2.2.2.2.2.2.1,
 x3.2.2.2.2.2.2.2.2.2.2)))
 else
 some
 (.inl
 (W (x1.1 + 1), x3.2.1, x3.2.2.1, x3.2.2.2.1, x3.2.2.2.2.1,
 x3.2.2.2.2.2.1, x3.2.2.2.2.2.2.1, x3.2.2.2.2.2.2.2.1,
 x3.2.2.2.2.2.2.2.2.1, x3.2.2.2.2.2.2.2.2.2.1,
 x3.2.2.2.2.2.2.2.2.2.2))
 else
 some
 (.inr
 (.inl
 (x1.2.1, x1.2.2.1, x1.2.2.2.1, x1.2.2.2.2.1, x1.2.2.2.2.2.1,
 x1.2.2.2.2.2.2.1, x1.2.2.2.2.2.2.2.1, x1.2.2.2.2.2.2.2.2.1,
 x1.2.2.2.2.2.2.2.2.2.1, x1.2.2.2.2.2.2.2.2.2.2)))
noncomputable def slices_IndexFunc_int_int_flat_v4 (a0 : (List Int)) (a1 : Int) (a2 : (List Breaker)) (a3 : (List Source)) (a4 : (List Consumer)) (a5 : Int) (a6 : Int) (a7 : (List Bool)) (a8 : (List Running)) (a9 : (List Int)) (a10 : (List Part)) : Option (Int × Int × (List Breaker) × (List Source) × (List Consumer) × Int × Int × (List Bool) × (List Running) × (List Int) × (List Part)) :=
 Option.bind (loopO (slices_IndexFunc_int_int_flat_v4_L1 a0) (0, a1, a2, a3, a4, a5, a6, a7, a8, a9, a10))
 fun x4 =>
 Sum.elim
 (fun x5 =>
 some
 ((-1), x5.1, x5.2.1, x5.2.2.1, x5.2.2.2.1, x5.2.2.2.2.1,
 x5.2.2.2.2.2.1, x5.2.2.2.2.2.2.1, x5.2.2.2.2.2.2.2.1,
 x5.2.2.2.2.2.2.2.2.1, x5.2.2.2.2.2.2.2.2.2))
 (fun x6 => some x6) x4
noncomputable def c103_4 : Con D := ⟨103, z20, z8, [.one (.h 0 [0]), .one (.fn 119 [.ptr 1000 0, .ptr 1002 0, .ptr 1001 0])], z3, z10, z3, fun h => slices_IndexFunc_int_int_flat_v4 h.1 h.2.1 h.2.2.1 h.2.2.2.1 h.2.2.2.2.1 h.2.2.2.2.2.1 h.2.2.2.2.2.2.1 h.2.2.2.2.2.2.2.1 h.2.2.2.2.2.2.2.2.1 h.2.2.2.2.2.2.2.2.2.1 h.2.2.2.2.2.2.2.2.2.2⟩
theorem c103_4_ok : CK c103_4 := fo [c119_2] [.tmp 4] z22 ⟨c119_2_ok, trivial⟩ Tryz.call103 Tryz.func103 rfl rfl (by kernel_rfl) fun h => by kernel_rfl
end Rx
end Go.Proofs.YtfnphdhcgkondaaGreat
