import Derived.Test.YtfnphdhcgkondaaGreatRt
import Derived.Test.YtfnphdhcgkondaaGreatRg1
import Derived.Test.YtfnphdhcgkondaaGreatRg2
import Derived.Test.YtfnphdhcgkondaaGreatRg3
set_option linter.unusedVariables false
set_option maxRecDepth 100000
namespace Go.Proofs.YtfnphdhcgkondaaGreat
open Go Go.RowKit Dp
namespace Rx
noncomputable def slices_ContainsFunc_int_int_flat_v2 (a0 : (List Int)) (a1 : Int) (a2 : (List Breaker)) (a3 : (List Source)) (a4 : (List Consumer)) (a5 : Int) (a6 : Int) (a7 : (List Bool)) (a8 : (List Running)) (a9 : (List Int)) (a10 : (List Part)) : Option (Bool × Int × (List Breaker) × (List Source) × (List Consumer) × Int × Int × (List Bool) × (List Running) × (List Int) × (List Part)) :=
 Option.bind (slices_IndexFunc_int_int_flat_v4 a0 a1 a2 a3 a4 a5 a6 a7 a8 a9 a10) fun x1 =>
 some
 (decide (x1.1 ≥ 0), x1.2.1, x1.2.2.1, x1.2.2.2.1, x1.2.2.2.2.1,
 x1.2.2.2.2.2.1, x1.2.2.2.2.2.2.1, x1.2.2.2.2.2.2.2.1,
 x1.2.2.2.2.2.2.2.2.1, x1.2.2.2.2.2.2.2.2.2.1,
 x1.2.2.2.2.2.2.2.2.2.2)
noncomputable def c66_2 : Con D := ⟨66, z20, z7, [.one (.h 0 [0]), .one (.fn 119 [.ptr 1000 0, .ptr 1002 0, .ptr 1001 0])], z3, z10, z3, fun h => slices_ContainsFunc_int_int_flat_v2 h.1 h.2.1 h.2.2.1 h.2.2.2.1 h.2.2.2.2.1 h.2.2.2.2.2.1 h.2.2.2.2.2.2.1 h.2.2.2.2.2.2.2.1 h.2.2.2.2.2.2.2.2.1 h.2.2.2.2.2.2.2.2.2.1 h.2.2.2.2.2.2.2.2.2.2⟩
theorem c66_2_ok : CK c66_2 := fo [c103_4] [.tmp 4] .o ⟨c103_4_ok, trivial⟩ Tryz.call66 Tryz.func66 rfl rfl (by kernel_rfl) fun h => by kernel_rfl
noncomputable def shed_ordered_3_v2 (a0 : Int) (a1 : Int) (a2 : (List Breaker)) (a3 : (List Source)) (a4 : (List Consumer)) (a5 : Int) (a6 : Int) (a7 : (List Bool)) (a8 : (List Running)) (a9 : (List Int)) (a10 : (List Part)) : Option (Bool × Int × (List Breaker) × (List Source) × (List Consumer) × Int × Int × (List Bool) × (List Running) × (List Int) × (List Part)) :=
 Option.bind
 (Option.bind (shed_ordered_1_v1 a0 a1 a2 a3 a4 a5 a6 a7 a8 a9 a10) fun x1 =>
 if x1.1 = true then
 Option.bind (idx x1.2.2.2.2.2.2.2.2.2.1 a0) fun x2 =>
 some
 (decide (x2 > 0), x1.2.1, x1.2.2.1, x1.2.2.2.1, x1.2.2.2.2.1,
 x1.2.2.2.2.2.1, x1.2.2.2.2.2.2.1, x1.2.2.2.2.2.2.2.1,
 x1.2.2.2.2.2.2.2.2.1, x1.2.2.2.2.2.2.2.2.2.1,
 x1.2.2.2.2.2.2.2.2.2.2)
 else
 some
 (false, x1.2.1, x1.2.2.1, x1.2.2.2.1, x1.2.2.2.2.1, x1.2.2.2.2.2.1,
 x1.2.2.2.2.2.2.1, x1.2.2.2.2.2.2.2.1, x1.2.2.2.2.2.2.2.2.1,
 x1.2.2.2.2.2.2.2.2.2.1, x1.2.2.2.2.2.2.2.2.2.2))
 fun x3 =>
 some
 (x3.1, x3.2.1, x3.2.2.1, x3.2.2.2.1, x3.2.2.2.2.1, x3.2.2.2.2.2.1,
 x3.2.2.2.2.2.2.1, x3.2.2.2.2.2.2.2.1, x3.2.2.2.2.2.2.2.2.1,
 x3.2.2.2.2.2.2.2.2.2.1, x3.2.2.2.2.2.2.2.2.2.2)
noncomputable def c120_2 : Con D := ⟨120, z8, z7, [.one (.h 0 []), .one (.ptr 1000 0), .one (.ptr 1002 0)], z3, z10, z3, fun h => shed_ordered_3_v2 h.1 h.2.1 h.2.2.1 h.2.2.2.1 h.2.2.2.2.1 h.2.2.2.2.2.1 h.2.2.2.2.2.2.1 h.2.2.2.2.2.2.2.1 h.2.2.2.2.2.2.2.2.1 h.2.2.2.2.2.2.2.2.2.1 h.2.2.2.2.2.2.2.2.2.2⟩
theorem c120_2_ok : CK c120_2 := fo [c118_1] [.tmp 4] (.n none .o (.n none (.r (some (true, [(.normal, ⟨z7, z66, z55, [1001, 1002], 2128⟩)])) .nil) .o)) ⟨c118_1_ok, trivial⟩ Tryz.call120 Tryz.func120 rfl rfl (by kernel_rfl) fun h => by kernel_rfl
noncomputable def slices_IndexFunc_int_int_flat_v7_L1 (a0 : List
 Int) : Int ×
 Int × List Breaker × List Source × List Consumer × Int × Int × List Bool × List Running × List Int × List Part →
 Option
 (Int ×
 Int × List Breaker × List Source × List Consumer × Int × Int × List Bool × List Running × List Int × List Part ⊕
 Int × List Breaker × List Source × List Consumer × Int × Int × List Bool × List Running × List Int × List Part ⊕
 Int ×
 Int ×
 List Breaker ×
 List Source ×
 List Consumer ×
 Int ×
 Int ×
 List Bool ×
 List Running ×
 List Int ×
 List
 Part) := fun x1 =>
 if decide (x1.1 < len a0) = true then
 Option.bind (idx a0 x1.1) fun x2 =>
 Option.bind
 (shed_ordered_3_v2 x2 x1.2.1 x1.2.2.1 x1.2.2.2.1 x1.2.2.2.2.1
 x1.2.2.2.2.2.1 x1.2.2.2.2.2.2.1 x1.2.2.2.2.2.2.2.1
 x1.2.2.2.2.2.2.2.2.1 x1.2.2.2.2.2.2.2.2.2.1
 x1.2.2.2.2.2.2.2.2.2.2)
 fun x3 =>
 if x3.1 = true then
 some
 (.inr
 (.inr
 (x1.1, x3.2.1, x3.2.2.1, x3.2.2.2.1, x3.2.2.2.2.1,
 x3.2.2.2.2.2.1, x3.2.2.2.2.2.2.1, x3.2.2.2.2.2.2.2.1,
 x3.2.2.2.2.2.2.2.2.1, x3.2.2.2.2.2.2.2.2.2.1,
 x3.2.2.2.2.2.2.2.2.2.2)))
 else
 some
 (.inl
 (W (x1.1 + 1), x3.2.1, x3.2.2.1, x3.2.2.2.1, x3.2.2.2.2.1,
 x3.2.2.2.2.2.1, x3.2.2.2.2.2.2.1, x3.2.2.2.2.2.2.2.1,
 x3.2.2.2.2.2.2.2.2.1, x3.2.2.2.2.2.2.2.2.2.1,
 x3.2.2.2.2.2.2.2.2.2.2))
 else
 some
 (.inr
 (.inl
 (x1.2.1, x1.2.2.1, x1.2.2.2.1, x1.2.2.2.2.1, x1.2.2.2.2.2.1,
 x1.2.2.2.2.2.2.1, x1.2.2.2.2.2.2.2.1, x1.2.2.2.2.2.2.2.2.1,
 x1.2.2.2.2.2.2.2.2.2.1, x1.2.2.2.2.2.2.2.2.2.2)))
noncomputable def slices_IndexFunc_int_int_flat_v7 (a0 : (List Int)) (a1 : Int) (a2 : (List Breaker)) (a3 : (List Source)) (a4 : (List Consumer)) (a5 : Int) (a6 : Int) (a7 : (List Bool)) (a8 : (List Running)) (a9 : (List Int)) (a10 : (List Part)) : Option (Int × Int × (List Breaker) × (List Source) × (List Consumer) × Int × Int × (List Bool) × (List Running) × (List Int) × (List Part)) :=
 Option.bind (loopO (slices_IndexFunc_int_int_flat_v7_L1 a0) (0, a1, a2, a3, a4, a5, a6, a7, a8, a9, a10))
 fun x4 =>
 Sum.elim
 (fun x5 =>
 some
 ((-1), x5.1, x5.2.1, x5.2.2.1, x5.2.2.2.1, x5.2.2.2.2.1,
 x5.2.2.2.2.2.1, x5.2.2.2.2.2.2.1, x5.2.2.2.2.2.2.2.1,
 x5.2.2.2.2.2.2.2.2.1, x5.2.2.2.2.2.2.2.2.2))
 (fun x6 => some x6) x4
noncomputable def c103_7 : Con D := ⟨103, z20, z8, [.one (.h 0 [0]), .one (.fn 120 [.ptr 1000 0, .ptr 1002 0])], z3, z10, z3, fun h => slices_IndexFunc_int_int_flat_v7 h.1 h.2.1 h.2.2.1 h.2.2.2.1 h.2.2.2.2.1 h.2.2.2.2.2.1 h.2.2.2.2.2.2.1 h.2.2.2.2.2.2.2.1 h.2.2.2.2.2.2.2.2.1 h.2.2.2.2.2.2.2.2.2.1 h.2.2.2.2.2.2.2.2.2.2⟩
theorem c103_7_ok : CK c103_7 := fo [c120_2] [.tmp 4] z22 ⟨c120_2_ok, trivial⟩ Tryz.call103 Tryz.func103 rfl rfl (by kernel_rfl) fun h => by kernel_rfl
noncomputable def slices_ContainsFunc_int_int_flat_v3 (a0 : (List Int)) (a1 : Int) (a2 : (List Breaker)) (a3 : (List Source)) (a4 : (List Consumer)) (a5 : Int) (a6 : Int) (a7 : (List Bool)) (a8 : (List Running)) (a9 : (List Int)) (a10 : (List Part)) : Option (Bool × Int × (List Breaker) × (List Source) × (List Consumer) × Int × Int × (List Bool) × (List Running) × (List Int) × (List Part)) :=
 Option.bind (slices_IndexFunc_int_int_flat_v7 a0 a1 a2 a3 a4 a5 a6 a7 a8 a9 a10) fun x1 =>
 some
 (decide (x1.1 ≥ 0), x1.2.1, x1.2.2.1, x1.2.2.2.1, x1.2.2.2.2.1,
 x1.2.2.2.2.2.1, x1.2.2.2.2.2.2.1, x1.2.2.2.2.2.2.2.1,
 x1.2.2.2.2.2.2.2.2.1, x1.2.2.2.2.2.2.2.2.2.1,
 x1.2.2.2.2.2.2.2.2.2.2)
noncomputable def c66_3 : Con D := ⟨66, z20, z7, [.one (.h 0 [0]), .one (.fn 120 [.ptr 1000 0, .ptr 1002 0])], z3, z10, z3, fun h => slices_ContainsFunc_int_int_flat_v3 h.1 h.2.1 h.2.2.1 h.2.2.2.1 h.2.2.2.2.1 h.2.2.2.2.2.1 h.2.2.2.2.2.2.1 h.2.2.2.2.2.2.2.1 h.2.2.2.2.2.2.2.2.1 h.2.2.2.2.2.2.2.2.2.1 h.2.2.2.2.2.2.2.2.2.2⟩
theorem c66_3_ok : CK c66_3 := fo [c103_7] [.tmp 4] .o ⟨c103_7_ok, trivial⟩ Tryz.call66 Tryz.func66 rfl rfl (by kernel_rfl) fun h => by kernel_rfl
noncomputable def shed_ordered_L1 (a1 : Power) (a3 : List
 Int) : Int ×
 Int × List Breaker × List Source × List Consumer × Int × Int × List Bool × List Running × List Int × List Part →
 Option
 (Int ×
 Int × List Breaker × List Source × List Consumer × Int × Int × List Bool × List Running × List Int × List Part ⊕
 Int × List Breaker × List Source × List Consumer × Int × Int × List Bool × List Running × List Int × List Part ⊕
 Bool) := fun x1 =>
 if decide (x1.1 < len a3) = true then
 Option.bind (idx a3 x1.1) fun x2 =>
 Option.bind (slc a3 0 x1.1) fun x3 =>
 Option.bind
 (Option.bind (idx x1.2.2.2.2.2.2.2.2.2.1 x2) fun x4 =>
 Option.bind (idx a1.Limits x2) fun x5 =>
 if decide (x4 < x5) = true then
 Option.bind
 (slices_ContainsFunc_int_int_flat_v2 x3 x1.2.1 x1.2.2.1 x1.2.2.2.1
 x1.2.2.2.2.1 x1.2.2.2.2.2.1 x1.2.2.2.2.2.2.1
 x1.2.2.2.2.2.2.2.1 x1.2.2.2.2.2.2.2.2.1
 x1.2.2.2.2.2.2.2.2.2.1 x1.2.2.2.2.2.2.2.2.2.2)
 fun x8 =>
 some
 (x8.1, x8.2.1, x8.2.2.1, x8.2.2.2.1, x8.2.2.2.2.1,
 x8.2.2.2.2.2.1, x8.2.2.2.2.2.2.1, x8.2.2.2.2.2.2.2.1,
 x8.2.2.2.2.2.2.2.2.1, x8.2.2.2.2.2.2.2.2.2.1,
 x8.2.2.2.2.2.2.2.2.2.2)
 else
 Option.bind
 (shed_ordered_1_v1 x2 x1.2.1 x1.2.2.1 x1.2.2.2.1 x1.2.2.2.2.1
 x1.2.2.2.2.2.1 x1.2.2.2.2.2.2.1 x1.2.2.2.2.2.2.2.1
 x1.2.2.2.2.2.2.2.2.1 x1.2.2.2.2.2.2.2.2.2.1
 x1.2.2.2.2.2.2.2.2.2.2)
 fun x6 =>
 if (!x6.1) = true then
 Option.bind
 (slices_ContainsFunc_int_int_flat_v2 x3 x6.2.1 x6.2.2.1 x6.2.2.2.1
 x6.2.2.2.2.1 x6.2.2.2.2.2.1 x6.2.2.2.2.2.2.1
 x6.2.2.2.2.2.2.2.1 x6.2.2.2.2.2.2.2.2.1
 x6.2.2.2.2.2.2.2.2.2.1 x6.2.2.2.2.2.2.2.2.2.2)
 fun x7 =>
 some
 (x7.1, x7.2.1, x7.2.2.1, x7.2.2.2.1, x7.2.2.2.2.1,
 x7.2.2.2.2.2.1, x7.2.2.2.2.2.2.1,
 x7.2.2.2.2.2.2.2.1, x7.2.2.2.2.2.2.2.2.1,
 x7.2.2.2.2.2.2.2.2.2.1, x7.2.2.2.2.2.2.2.2.2.2)
 else
 some
 (false, x6.2.1, x6.2.2.1, x6.2.2.2.1, x6.2.2.2.2.1,
 x6.2.2.2.2.2.1, x6.2.2.2.2.2.2.1, x6.2.2.2.2.2.2.2.1,
 x6.2.2.2.2.2.2.2.2.1, x6.2.2.2.2.2.2.2.2.2.1,
 x6.2.2.2.2.2.2.2.2.2.2))
 fun x9 =>
 if x9.1 = true then some (.inr (.inr false))
 else
 Option.bind
 (Option.bind
 (shed_ordered_1_v1 x2 x9.2.1 x9.2.2.1 x9.2.2.2.1 x9.2.2.2.2.1
 x9.2.2.2.2.2.1 x9.2.2.2.2.2.2.1 x9.2.2.2.2.2.2.2.1
 x9.2.2.2.2.2.2.2.2.1 x9.2.2.2.2.2.2.2.2.2.1
 x9.2.2.2.2.2.2.2.2.2.2)
 fun x10 =>
 if (!x10.1) = true then
 Option.bind
 (slices_ContainsFunc_int_int_flat_v3 x3 x10.2.1 x10.2.2.1 x10.2.2.2.1
 x10.2.2.2.2.1 x10.2.2.2.2.2.1 x10.2.2.2.2.2.2.1
 x10.2.2.2.2.2.2.2.1 x10.2.2.2.2.2.2.2.2.1
 x10.2.2.2.2.2.2.2.2.2.1 x10.2.2.2.2.2.2.2.2.2.2)
 fun x11 =>
 some
 (x11.1, x11.2.1, x11.2.2.1, x11.2.2.2.1, x11.2.2.2.2.1,
 x11.2.2.2.2.2.1, x11.2.2.2.2.2.2.1,
 x11.2.2.2.2.2.2.2.1, x11.2.2.2.2.2.2.2.2.1,
 x11.2.2.2.2.2.2.2.2.2.1, x11.2.2.2.2.2.2.2.2.2.2)
 else
 some
 (false, x10.2.1, x10.2.2.1, x10.2.2.2.1, x10.2.2.2.2.1,
 x10.2.2.2.2.2.1, x10.2.2.2.2.2.2.1, x10.2.2.2.2.2.2.2.1,
 x10.2.2.2.2.2.2.2.2.1, x10.2.2.2.2.2.2.2.2.2.1,
 x10.2.2.2.2.2.2.2.2.2.2))
 fun x12 =>
 if x12.1 = true then some (.inr (.inr false))
 else
 some
 (.inl
 (W (x1.1 + 1), x12.2.1, x12.2.2.1, x12.2.2.2.1,
 x12.2.2.2.2.1, x12.2.2.2.2.2.1, x12.2.2.2.2.2.2.1,
 x12.2.2.2.2.2.2.2.1, x12.2.2.2.2.2.2.2.2.1,
 x12.2.2.2.2.2.2.2.2.2.1, x12.2.2.2.2.2.2.2.2.2.2))
 else
 some
 (.inr
 (.inl
 (x1.2.1, x1.2.2.1, x1.2.2.2.1, x1.2.2.2.2.1, x1.2.2.2.2.2.1,
 x1.2.2.2.2.2.2.1, x1.2.2.2.2.2.2.2.1, x1.2.2.2.2.2.2.2.2.1,
 x1.2.2.2.2.2.2.2.2.2.1, x1.2.2.2.2.2.2.2.2.2.2)))
noncomputable def shed_ordered (a0 : Board) (a1 : Power) (a2 : Power) (a3 : (List Int)) : Option (Bool) :=
 Option.bind
 (loopO (shed_ordered_L1 a1 a3)
 (0, a0.Buses, a0.Breakers, a0.Sources, a0.Consumers, a0.Phase, a0.Frequency, a2.Closed, a2.Sources,
 a2.Limits, a2.Broken))
 fun x13 => Sum.elim (fun x14 => some true) (fun x15 => some x15) x13
noncomputable def c78 : Con D := ⟨78, [.lf (.int .i64), .lf (.sl 4), .lf (.sl 5), .lf (.sl 6), .lf (.int .i64), .lf (.int .i64), .lf (.sl 1), .lf (.sl 8), .lf (.sl 0), .lf (.sl 9), .lf (.sl 1), .lf (.sl 8), .lf (.sl 0), .lf (.sl 9), .lf (.sl 0)], [.lf .bool], [.agg [.h 0 [], .h 1 [0], .h 2 [0], .h 3 [0], .h 4 [], .h 5 []], .agg [.h 6 [0], .h 7 [0], .h 8 [0], .h 9 [0]], .agg [.h 10 [0], .h 11 [0], .h 12 [0], .h 13 [0]], .one (.h 14 [0])], [], z10, [], fun h => shed_ordered ⟨h.1, h.2.1, h.2.2.1, h.2.2.2.1, h.2.2.2.2.1, h.2.2.2.2.2.1⟩ ⟨h.2.2.2.2.2.2.1, h.2.2.2.2.2.2.2.1, h.2.2.2.2.2.2.2.2.1, h.2.2.2.2.2.2.2.2.2.1⟩ ⟨h.2.2.2.2.2.2.2.2.2.2.1, h.2.2.2.2.2.2.2.2.2.2.2.1, h.2.2.2.2.2.2.2.2.2.2.2.2.1, h.2.2.2.2.2.2.2.2.2.2.2.2.2.1⟩ h.2.2.2.2.2.2.2.2.2.2.2.2.2.2⟩
theorem c78_ok : CK c78 := fo [c66_2, c66_3, c118_1] [.tmp 8] (.n none .o (.n none .o (.n none (.n none .o (.n none (.loop ⟨z8, [(17, .one (.h 0 []))], z23, [2000, 2128, 2320], 2704⟩ false [(.exit 0, ⟨z1, [], [(2000, .box [.h 0 [], .h 1 [0], .h 2 [0], .h 3 [0], .h 4 [], .h 5 []]), (2128, .box [.h 6 [0], .h 7 [0], .h 8 [0], .h 9 [0]]), (2320, .box [.fn 118 [.ptr 2000 0, .ptr 2128 0]])], [2000, 2128, 2320], 2704⟩)] (.n none .o (.n none .o (.n none (.n none (.n none .o (.n none .o (.n none .o (.n none (.n none (.r (some (true, [(.normal, ⟨z7, [(38, .one (.any)), (39, .one (.any)), (40, .one (.any)), (41, .one (.any)), (44, .one (.any)), (45, .one (.any)), (46, .one (.any)), (47, .one (.h 0 []))], z23, [2000, 2128, 2320], 3547⟩)])) .nil) .o) (.n none (.r (some (true, [(.normal, ⟨z7, [(53, .one (.any)), (54, .one (.any)), (55, .one (.any)), (56, .one (.h 0 []))], z23, [2000, 2128, 2320], 3622⟩)])) .nil) .o))))) .o) .o)))) .o)) .o))) ⟨c66_2_ok, c66_3_ok, c118_1_ok, trivial⟩ Tryz.call78 Tryz.func78 rfl rfl (by kernel_rfl) fun h => by kernel_rfl
noncomputable def shed_Check_L1 (a0 : Board) (a2 : Power) : Int →
 Option
 (Int ⊕
 Unit ⊕
 Bool) := fun x5 =>
 if decide (x5 < a0.Buses) = true then
 Option.bind (balance_Overloaded a0 a2 x5) fun x6 =>
 if x6 = true then some (.inr (.inr false)) else some (.inl (W (x5 + 1)))
 else some (.inr (.inl ()))
noncomputable def shed_Check_L2 (a0 : Board) (a2 : Power) (x1 : Int ×
 List Bool ×
 List Running ×
 List Int ×
 List Part ×
 List
 Act) (x9 : List
 Int) (x10 : List
 Island) : Int →
 Option
 (Int ⊕
 Unit ⊕
 Bool) := fun x11 =>
 if decide (x11 < len x10) = true then
 Option.bind (idx x10 x11) fun x12 =>
 Option.bind (slices_Clone_int_int x9) fun x13 =>
 Option.bind (slices_DeleteFunc_int_int_v1 x13 x12) fun x14 =>
 Option.bind
 (shed_ordered a0 (Power.mk x1.2.1 x1.2.2.1 x1.2.2.2.1 x1.2.2.2.2.1) a2 x14)
 fun x15 => if (!x15) = true then some (.inr (.inr false)) else some (.inl (W (x11 + 1)))
 else some (.inr (.inl ()))
noncomputable def shed_Check (a0 : Board) (a1 : Power) (a2 : Power) : Option (Bool) :=
 Option.bind (shed_Clear a0 a1) fun x1 =>
 Option.bind
 (if (x1.1 != 0) = true then some true
 else
 Option.bind (board_State a0 a2) fun x2 =>
 if (x2 != 0) = true then some true
 else
 Option.bind (shed_lesser (Power.mk x1.2.1 x1.2.2.1 x1.2.2.2.1 x1.2.2.2.2.1) a2)
 fun x3 => some !x3)
 fun x4 =>
 if x4 = true then some false
 else
 Option.bind (loopO (shed_Check_L1 a0 a2) 0) fun x7 =>
 Sum.elim
 (fun x8 =>
 Option.bind (shed_Order a0) fun x9 =>
 Option.bind
 (board_Islands a0 (Power.mk x1.2.1 x1.2.2.1 x1.2.2.2.1 x1.2.2.2.2.1))
 fun x10 =>
 Option.bind (loopO (shed_Check_L2 a0 a2 x1 x9 x10) 0) fun x16 =>
 Sum.elim (fun x17 => some true) (fun x18 => some x18) x16)
 (fun x19 => some x19) x7
noncomputable def c37 : Con D := ⟨37, z39, [.lf .bool], z48, [], z10, [], fun h => shed_Check ⟨h.1, h.2.1, h.2.2.1, h.2.2.2.1, h.2.2.2.2.1, h.2.2.2.2.2.1⟩ ⟨h.2.2.2.2.2.2.1, h.2.2.2.2.2.2.2.1, h.2.2.2.2.2.2.2.2.1, h.2.2.2.2.2.2.2.2.2.1⟩ ⟨h.2.2.2.2.2.2.2.2.2.2.1, h.2.2.2.2.2.2.2.2.2.2.2.1, h.2.2.2.2.2.2.2.2.2.2.2.2.1, h.2.2.2.2.2.2.2.2.2.2.2.2.2⟩⟩
theorem c37_ok : CK c37 := fo [c11, c24, c70, c71, c72, c73, c74_1, c75, c78] [.tmp 6] (.n none .o (.n none .o (.n none (.n none (.r (some (true, [(.normal, ⟨[.lf .bool], [(35, .one (.h 0 []))], [], [], 3024⟩)])) .nil) .o) (.n none (.n none .o (.n none (.loop ⟨z9, [(38, .one (.h 0 []))], [], [], 3281⟩ false [(.exit 0, ⟨[], [], [], [], 3281⟩)] .o) .o)) (.n none .o (.n none (.n none .o (.n none (.loop ⟨z9, [(52, .one (.h 0 []))], [], [], 3857⟩ false [(.exit 2, ⟨[], [], [], [], 3857⟩)] .o) .o)) .o)))))) ⟨c11_ok, c24_ok, c70_ok, c71_ok, c72_ok, c73_ok, c74_1_ok, c75_ok, c78_ok, trivial⟩ Tryz.call37 Tryz.func37 rfl rfl (by kernel_rfl) fun h => by kernel_rfl
noncomputable def shed_Served_1 (F : (Board) → (Power) → (Int) → Option (Bool)) (a0 : Int) (a1 : Board) (a2 : Power) : Option (Bool) := Option.bind (F a1 a2 a0) fun x1 => some !x1
noncomputable def slices_IndexFunc_int_int_flat_v8_L1 (F : (Board) → (Power) → (Int) → Option (Bool)) (a0 : List
 Int) (a1 : Board) (a2 : Power) : Int →
 Option
 (Int ⊕
 Unit ⊕
 Int) := fun x1 =>
 if decide (x1 < len a0) = true then
 Option.bind (idx a0 x1) fun x2 =>
 Option.bind (shed_Served_1 F x2 a1 a2) fun x3 =>
 if x3 = true then some (.inr (.inr x1)) else some (.inl (W (x1 + 1)))
 else some (.inr (.inl ()))
noncomputable def slices_IndexFunc_int_int_flat_v8 (F : (Board) → (Power) → (Int) → Option (Bool)) (a0 : (List Int)) (a1 : Board) (a2 : Power) : Option (Int) :=
 Option.bind (loopO (slices_IndexFunc_int_int_flat_v8_L1 F a0 a1 a2) 0) fun x4 =>
 Sum.elim (fun x5 => some (-1)) (fun x6 => some x6) x4
noncomputable def slices_ContainsFunc_int_int_flat_v4 (F : (Board) → (Power) → (Int) → Option (Bool)) (a0 : (List Int)) (a1 : Board) (a2 : Power) : Option (Bool) := Option.bind (slices_IndexFunc_int_int_flat_v8 F a0 a1 a2) fun x1 => some (decide (x1 ≥ 0))
noncomputable def shed_Served_S (F : (Board) → (Power) → (Int) → Option (Bool)) (a0 : Board) (a1 : Power) (a2 : Int) : Option (Bool) :=
 Option.bind (board_Fed a0 a1 a2) fun x1 =>
 Option.bind
 (if (!x1.2) = true then some true
 else
 Option.bind (board_Live a0 a1 x1.1) fun x2 =>
 if (!x2) = true then some true
 else
 Option.bind (board_Broken a1 4 a2) fun x3 =>
 if x3 = true then some true
 else
 Option.bind (idx a1.Limits a2) fun x4 =>
 Option.bind (idx a0.Consumers a2) fun x5 => some (decide (x4 < x5.Least)))
 fun x6 =>
 if x6 = true then some false
 else
 Option.bind (idx a0.Consumers a2) fun x7 =>
 Option.bind (slices_ContainsFunc_int_int_flat_v4 F x7.Needs a0 a1) fun x8 => some !x8
noncomputable def shed_Served_R (n : Nat) : (Board) → (Power) → (Int) → Option (Bool) := Nat.rec (motive := fun _ => (Board) → (Power) → (Int) → Option (Bool)) (fun _ _ _ => none) (fun _ F => shed_Served_S F) n
noncomputable def shed_Served (a0 : Board) (a1 : Power) (a2 : Int) : Option (Bool) := shed_Served_R 64 a0 a1 a2
noncomputable def c31_k (n : Nat) : Con D := ⟨31, z0, [.lf .bool], z2, [], z10, [], fun h => shed_Served_R n ⟨h.1, h.2.1, h.2.2.1, h.2.2.2.1, h.2.2.2.2.1, h.2.2.2.2.2.1⟩ ⟨h.2.2.2.2.2.2.1, h.2.2.2.2.2.2.2.1, h.2.2.2.2.2.2.2.2.1, h.2.2.2.2.2.2.2.2.2.1⟩ h.2.2.2.2.2.2.2.2.2.2⟩
noncomputable def c31 : Con D := c31_k 64
noncomputable def c67_k (n : Nat) : Con D := ⟨67, [.lf (.int .i64), .el 3, .el 7], [.lf .bool], [.one (.h 0 []), .one (.rp 1 3 [0]), .one (.rp 7 7 [0])], [], z10, [], fun h => shed_Served_1 (shed_Served_R n) h.1 h.2.1 h.2.2⟩
noncomputable def c103_8_k (n : Nat) : Con D := ⟨103, [.lf (.sl 0), .el 3, .el 7], z9, [.one (.h 0 [0]), .one (.fn 67 [.rp 1 3 [0], .rp 7 7 [0]])], [], z10, [], fun h => slices_IndexFunc_int_int_flat_v8 (shed_Served_R n) h.1 h.2.1 h.2.2⟩
noncomputable def c66_4_k (n : Nat) : Con D := ⟨66, [.lf (.sl 0), .el 3, .el 7], [.lf .bool], [.one (.h 0 [0]), .one (.fn 67 [.rp 1 3 [0], .rp 7 7 [0]])], [], z10, [], fun h => slices_ContainsFunc_int_int_flat_v4 (shed_Served_R n) h.1 h.2.1 h.2.2⟩
theorem c67_k_ok (n : Nat) (hH : ConOk Tryz.prog T (c31_k n)) : ConOk Tryz.prog T (c67_k n) := fo [c31_k n] [.tmp 4] .o ⟨hH, trivial⟩ Tryz.call67 Tryz.func67 rfl rfl (by kernel_rfl) fun h => by kernel_rfl
theorem c103_8_k_ok (n : Nat) (hH : ConOk Tryz.prog T (c31_k n)) : ConOk Tryz.prog T (c103_8_k n) := fo [c67_k n] [.tmp 4] z12 ⟨c67_k_ok n hH, trivial⟩ Tryz.call103 Tryz.func103 rfl rfl (by kernel_rfl) fun h => by kernel_rfl
theorem c66_4_k_ok (n : Nat) (hH : ConOk Tryz.prog T (c31_k n)) : ConOk Tryz.prog T (c66_4_k n) := fo [c103_8_k n] [.tmp 4] .o ⟨c103_8_k_ok n hH, trivial⟩ Tryz.call66 Tryz.func66 rfl rfl (by kernel_rfl) fun h => by kernel_rfl
theorem c31_k_ok : ∀ n, ConOk Tryz.prog T (c31_k n)
 | 0 => none_ok Tryz.call31 rfl (fun h => rfl)
 | n + 1 => fo [c63, c64, c65, c66_4_k n] [.tmp 6] (.n none .o (.n none .o (.n none (.n none (.r (some (true, [(.normal, ⟨[.lf .bool], [(43, .one (.h 0 []))], [], [], 2832⟩)])) .nil) .o) .o))) ⟨c63_ok, c64_ok, c65_ok, c66_4_k_ok n (c31_k_ok n), trivial⟩ Tryz.call31 Tryz.func31 rfl rfl (by kernel_rfl) fun h => by kernel_rfl
theorem c31_ok : CK c31 := c31_k_ok 64
noncomputable def dynposlaw18_sane : Option (Bool) := Option.bind dynposlaw18_pair fun x1 =>
 Option.bind
 (shed_Shed
 (Board.mk x1.1 x1.2.2.2.1 x1.2.2.2.2.1 x1.2.2.2.2.2.1 x1.2.1 x1.2.2.1)
 (Power.mk x1.2.2.2.2.2.2.1 x1.2.2.2.2.2.2.2.1 x1.2.2.2.2.2.2.2.2
 []))
 fun x2 =>
 Option.bind
 (if (x2.1 == 0) = true then
 Option.bind (dynposref01_Ints x2.2.2.2.1 [30, 70]) fun x3 =>
 if x3 = true then
 Option.bind (dynposref18_Acts x2.2.2.2.2.2 [Act.mk 5 0 30])
 fun x4 =>
 if x4 = true then
 Option.bind
 (shed_Check
 (Board.mk x1.1 x1.2.2.2.1 x1.2.2.2.2.1 x1.2.2.2.2.2.1 x1.2.1
 x1.2.2.1)
 (Power.mk x1.2.2.2.2.2.2.1 x1.2.2.2.2.2.2.2.1
 x1.2.2.2.2.2.2.2.2 [])
 (Power.mk x2.2.1 x2.2.2.1 x2.2.2.2.1 x2.2.2.2.2.1))
 fun x5 =>
 if x5 = true then
 Option.bind
 (shed_Served
 (Board.mk x1.1 x1.2.2.2.1 x1.2.2.2.2.1 x1.2.2.2.2.2.1 x1.2.1
 x1.2.2.1)
 (Power.mk x2.2.1 x2.2.2.1 x2.2.2.2.1 x2.2.2.2.2.1) 1)
 fun x6 =>
 if x6 = true then
 Option.bind
 (shed_Order
 (Board.mk x1.1 x1.2.2.2.1 x1.2.2.2.2.1 x1.2.2.2.2.2.1
 x1.2.1 x1.2.2.1))
 fun x7 => Option.bind (dynposref01_Ints x7 [0, 1]) fun x8 => some x8
 else some false
 else some false
 else some false
 else some false
 else some false)
 fun x9 => some x9
noncomputable def c16 : Con D := ⟨16, [], [.lf .bool], [], [], z10, [], fun h => dynposlaw18_sane⟩
theorem c16_ok : CK c16 := fo [c13, c17, c24, c31, c33, c37, c47] [.tmp 0] (.n none .o (.n none .o (.n none .o (.n none (.r (some (true, [(.normal, ⟨[.lf .bool], [(0, .one (.h 0 []))], [], [], 3344⟩)])) .nil) .o)))) ⟨c13_ok, c17_ok, c24_ok, c31_ok, c33_ok, c37_ok, c47_ok, trivial⟩ Tryz.call16 Tryz.func16 rfl rfl (by kernel_rfl) fun h => by kernel_rfl
noncomputable def dynposmake_New (a0 : (List Int)) : Option ((List Int) × Int) := Option.bind (slc a0 0 (imin (len a0) 600)) fun x1 => some (x1, 0)
noncomputable def c9 : Con D := ⟨9, z28, z35, [.one (.h 0 [0])], [], z68, z42, fun h => dynposmake_New h⟩
theorem c9_ok : CK c9 := fo [] [.tmp 2] .o trivial Tryz.call9 Tryz.func9 rfl rfl (by kernel_rfl) fun h => by kernel_rfl
noncomputable def dynposmake_Mod (a0 : Int) (a1 : Int) : Option (Int) :=
 if decide (a1 < 1) = true then some 0
 else Option.bind (remO a0 a1) fun x1 => Option.bind (remO (W (x1 + a1)) a1) fun x2 => some x2
noncomputable def c62 : Con D := ⟨62, z41, z9, z37, [], z10, [], fun h => dynposmake_Mod h.1 h.2⟩
theorem c62_ok : CK c62 := fo [] [.tmp 4] .o trivial Tryz.call62 Tryz.func62 rfl rfl (by kernel_rfl) fun h => by kernel_rfl
noncomputable def Src_N (a0 : Src) (a1 : Int) : Option (Int × (List Int) × Int) :=
 if decide (a0.At ≥ len a0.L) = true then some (0, a0.L, a0.At)
 else
 Option.bind (idx a0.L (W (W (a0.At + 1) - 1))) fun x1 =>
 Option.bind (dynposmake_Mod x1 a1) fun x2 => some (x2, a0.L, W (a0.At + 1))
noncomputable def c30 : Con D := ⟨30, [.lf (.sl 0), .lf (.int .i64), .lf (.int .i64)], z43, [.one (.ptr 1000 0), .one (.h 2 [])], z42, z10, z50, fun h => Src_N ⟨h.1, h.2.1⟩ h.2.2⟩
theorem c30_ok : CK c30 := fo [c62] [.tmp 4] .o ⟨c62_ok, trivial⟩ Tryz.call30 Tryz.func30 rfl rfl (by kernel_rfl) fun h => by kernel_rfl
noncomputable def Src_Range (a0 : Src) (a1 : Int) (a2 : Int) : Option (Int × (List Int) × Int) :=
 Option.bind (Src_N a0 (W (W (a2 - a1) + 1))) fun x1 => some (W (a1 + x1.1), x1.2.1, x1.2.2)
noncomputable def c60 : Con D := ⟨60, [.lf (.sl 0), .lf (.int .i64), .lf (.int .i64), .lf (.int .i64)], z43, [.one (.ptr 1000 0), .one (.h 2 []), .one (.h 3 [])], z42, z10, z50, fun h => Src_Range ⟨h.1, h.2.1⟩ h.2.2.1 h.2.2.2⟩
theorem c60_ok : CK c60 := fo [c30] [.tmp 6] .o ⟨c30_ok, trivial⟩ Tryz.call60 Tryz.func60 rfl rfl (by kernel_rfl) fun h => by kernel_rfl
noncomputable def Src_Pick (a0 : Src) (a1 : (List Int)) : Option (Int × (List Int) × Int × (List Int)) :=
 Option.bind (Src_N a0 (len a1)) fun x1 => Option.bind (idx a1 x1.1) fun x2 => some (x2, x1.2.1, x1.2.2, a1)
noncomputable def c79_1 : Con D := ⟨79, z60, [.lf (.int .i64), .lf (.sl 0), .lf (.int .i64), .lf (.sl 0)], [.one (.ptr 1000 0), .one (.own 1001)], [(1000, .box [.h 0 [0], .h 1 []]), (1001, .sl 0 3 2 [])], z10, [(1000, .box [.h 1 [0], .h 2 []]), (1001, .sl 0 3 3 [])], fun h => Src_Pick ⟨h.1, h.2.1⟩ h.2.2⟩
theorem c79_1_ok : CK c79_1 := fo [c30] [.tmp 4] .o ⟨c30_ok, trivial⟩ Tryz.call79 Tryz.func79 rfl rfl (by kernel_rfl) fun h => by kernel_rfl
noncomputable def Src_Board_L1 : Int × List Int × Int × Int × Int × Int × List Breaker →
 Option
 (Int × List Int × Int × Int × Int × Int × List Breaker ⊕
 List Int ×
 Int ×
 Int ×
 Int ×
 Int ×
 List
 Breaker) := fun x4 =>
 if decide (x4.1 < x4.2.2.2.1) = true then
 Option.bind (Src_N (Src.mk x4.2.1 x4.2.2.1) 6) fun x5 =>
 Option.bind
 (if decide (x5.1 < 5) = true then
 Option.bind (Src_N (Src.mk x5.2.1 x5.2.2) x4.1) fun x6 =>
 Option.bind (app x4.2.2.2.2.2.2 [Breaker.mk 1 x6.1 x4.1]) fun x7 =>
 some (x6.2.1, x6.2.2, x4.2.2.2.1, x4.2.2.2.2.1, x4.2.2.2.2.2.1, x7)
 else
 some
 (x5.2.1, x5.2.2, x4.2.2.2.1, x4.2.2.2.2.1, x4.2.2.2.2.2.1,
 x4.2.2.2.2.2.2))
 fun x8 =>
 some
 (.inl
 (W (x4.1 + 1), x8.1, x8.2.1, x8.2.2.1, x8.2.2.2.1, x8.2.2.2.2.1,
 x8.2.2.2.2.2))
 else
 some
 (.inr
 (x4.2.1, x4.2.2.1, x4.2.2.2.1, x4.2.2.2.2.1, x4.2.2.2.2.2.1,
 x4.2.2.2.2.2.2))
noncomputable def Src_Board_L2 : Int × List Int × Int × Int × Int × Int × List Breaker × List Source →
 Option
 (Int × List Int × Int × Int × Int × Int × List Breaker × List Source ⊕
 List Int ×
 Int ×
 Int ×
 Int ×
 Int ×
 List Breaker ×
 List
 Source) := fun x15 =>
 if decide (x15.1 > 0) = true then
 Option.bind (Src_N (Src.mk x15.2.1 x15.2.2.1) x15.2.2.2.1) fun x16 =>
 Option.bind
 (app x15.2.2.2.2.2.2.1 [Breaker.mk 2 x16.1 (len x15.2.2.2.2.2.2.2)])
 fun x17 =>
 Option.bind (Src_Pick (Src.mk x16.2.1 x16.2.2) [10, 50, 100])
 fun x18 =>
 Option.bind (Src_Pick (Src.mk x18.2.1 x18.2.2.1) [0, 5, x18.1]) fun x19 =>
 Option.bind (Src_Pick (Src.mk x19.2.1 x19.2.2.1) [0, 1, 3])
 fun x20 =>
 Option.bind (app x15.2.2.2.2.2.2.2 [Source.mk x18.1 x19.1 x20.1]) fun x21 =>
 some
 (.inl
 (W (x15.1 - 1), x20.2.1, x20.2.2.1, x15.2.2.2.1,
 x15.2.2.2.2.1, x15.2.2.2.2.2.1, x17, x21))
 else
 some
 (.inr
 (x15.2.1, x15.2.2.1, x15.2.2.2.1, x15.2.2.2.2.1, x15.2.2.2.2.2.1,
 x15.2.2.2.2.2.2.1, x15.2.2.2.2.2.2.2))
noncomputable def Src_Board_L3 : Int × List Int × Int × Int × Int × Int × List Breaker × List Consumer →
 Option
 (Int × List Int × Int × Int × Int × Int × List Breaker × List Consumer ⊕
 List Int ×
 Int ×
 Int ×
 Int ×
 Int ×
 List Breaker ×
 List
 Consumer) := fun x24 =>
 if decide (x24.1 > 0) = true then
 Option.bind (Src_N (Src.mk x24.2.1 x24.2.2.1) x24.2.2.2.1) fun x25 =>
 Option.bind
 (app x24.2.2.2.2.2.2.1 [Breaker.mk 3 x25.1 (len x24.2.2.2.2.2.2.2)])
 fun x26 =>
 Option.bind
 (if decide (x24.2.2.2.1 > 1) = true then
 Option.bind (Src_N (Src.mk x25.2.1 x25.2.2) 4) fun x27 =>
 some (x27.1 == 3, x27.2.1, x27.2.2)
 else some (false, x25.2.1, x25.2.2))
 fun x28 =>
 Option.bind
 (if x28.1 = true then
 Option.bind (remO (W (x25.1 + 1)) x24.2.2.2.1) fun x29 =>
 Option.bind (app x26 [Breaker.mk 3 x29 (len x24.2.2.2.2.2.2.2)]) fun x30 =>
 some (x24.2.2.2.1, x24.2.2.2.2.1, x24.2.2.2.2.2.1, x30)
 else some (x24.2.2.2.1, x24.2.2.2.2.1, x24.2.2.2.2.2.1, x26))
 fun x31 =>
 Option.bind
 (Src_Pick (Src.mk x28.2.1 x28.2.2) [0, 5, 20, 40])
 fun x32 =>
 Option.bind (quoO x32.1 2) fun x33 =>
 Option.bind (Src_Pick (Src.mk x32.2.1 x32.2.2.1) [0, x33, x32.1]) fun x34 =>
 Option.bind (Src_N (Src.mk x34.2.1 x34.2.2.1) 3) fun x35 =>
 Option.bind (Src_Range (Src.mk x35.2.1 x35.2.2) (-1) 2) fun x36 =>
 Option.bind
 (if decide (len x24.2.2.2.2.2.2.2 > 0) = true then
 Option.bind (Src_N (Src.mk x36.2.1 x36.2.2) 4) fun x37 =>
 some (x37.1 == 3, x37.2.1, x37.2.2)
 else some (false, x36.2.1, x36.2.2))
 fun x38 =>
 Option.bind
 (if x38.1 = true then
 Option.bind (Src_N (Src.mk x38.2.1 x38.2.2) (len x24.2.2.2.2.2.2.2))
 fun x39 => some (x39.2.1, x39.2.2, x32.1, x34.1, x35.1, x36.1, [x39.1])
 else some (x38.2.1, x38.2.2, x32.1, x34.1, x35.1, x36.1, []))
 fun x40 =>
 Option.bind
 (app x24.2.2.2.2.2.2.2
 [Consumer.mk x40.2.2.1 x40.2.2.2.1 x40.2.2.2.2.1
 x40.2.2.2.2.2.1 x40.2.2.2.2.2.2])
 fun x41 =>
 some
 (.inl
 (W (x24.1 - 1), x40.1, x40.2.1, x31.1, x31.2.1, x31.2.2.1,
 x31.2.2.2, x41))
 else
 some
 (.inr
 (x24.2.1, x24.2.2.1, x24.2.2.2.1, x24.2.2.2.2.1, x24.2.2.2.2.2.1,
 x24.2.2.2.2.2.2.1, x24.2.2.2.2.2.2.2))
noncomputable def Src_Board (a0 : Src) : Option (Int × Int × Int × (List Int) × Int × (List Breaker) × (List Source) × (List Consumer)) :=
 Option.bind (Src_Range a0 1 4) fun x1 =>
 Option.bind (Src_Pick (Src.mk x1.2.1 x1.2.2) [0, 50, 200, 1800])
 fun x2 =>
 Option.bind (Src_Pick (Src.mk x2.2.1 x2.2.2.1) [0, 10, 50]) fun x3 =>
 Option.bind (loopO Src_Board_L1 (1, x3.2.1, x3.2.2.1, x1.1, x2.1, x3.1, [])) fun x9 =>
 Option.bind
 (if decide (x9.2.2.1 > 2) = true then
 Option.bind (Src_N (Src.mk x9.1 x9.2.1) 2) fun x10 =>
 some (x10.1 == 1, x10.2.1, x10.2.2)
 else some (false, x9.1, x9.2.1))
 fun x11 =>
 Option.bind
 (if x11.1 = true then
 Option.bind
 (app x9.2.2.2.2.2
 [Breaker.mk 1 0 (W (x9.2.2.1 - 1))])
 fun x12 => some (x9.2.2.1, x9.2.2.2.1, x9.2.2.2.2.1, x12)
 else some (x9.2.2.1, x9.2.2.2.1, x9.2.2.2.2.1, x9.2.2.2.2.2))
 fun x13 =>
 Option.bind (Src_N (Src.mk x11.2.1 x11.2.2) 5) fun x14 =>
 Option.bind
 (loopO Src_Board_L2
 (x14.1, x14.2.1, x14.2.2, x13.1, x13.2.1, x13.2.2.1, x13.2.2.2, []))
 fun x22 =>
 Option.bind (Src_N (Src.mk x22.1 x22.2.1) 6) fun x23 =>
 Option.bind
 (loopO Src_Board_L3
 (x23.1, x23.2.1, x23.2.2, x22.2.2.1, x22.2.2.2.1,
 x22.2.2.2.2.1, x22.2.2.2.2.2.1, []))
 fun x42 =>
 some
 (x42.2.2.1, x42.2.2.2.1, x42.2.2.2.2.1, x42.1, x42.2.1,
 x42.2.2.2.2.2.1, x22.2.2.2.2.2.2, x42.2.2.2.2.2.2)
noncomputable def c41 : Con D := ⟨41, z35, [.lf (.int .i64), .lf (.int .i64), .lf (.int .i64), .lf (.sl 0), .lf (.int .i64), .lf (.sl 4), .lf (.sl 5), .lf (.sl 6)], z68, z42, [.agg [.h 0 [], .own 1001, .own 1002, .own 1003, .h 1 [], .h 2 []]], [(1000, .box [.h 3 [0], .h 4 []]), (1001, .sl 4 44 5 []), (1002, .sl 5 89 6 []), (1003, .sl 6 57 7 [1])], fun h => Src_Board ⟨h.1, h.2⟩⟩
theorem c41_ok : CK c41 := fo [c30, c60, c79_1] [.cell 2 29] (.n none .o (.n none .o (.n none (.n none .o (.n none (.loop ⟨[.lf (.int .i64), .lf (.sl 0), .lf (.int .i64), .lf (.int .i64), .lf (.int .i64), .lf (.int .i64), .lf (.sl 4)], z66, [(1000, .box [.h 1 [0], .h 2 []]), (2640, .box [.h 3 [], .own 2832, .nils, .nils, .h 4 [], .h 5 []]), (2832, .sl 4 44 6 [])], [1000, 2640], 2896⟩ true [(.exit 0, ⟨[.lf (.sl 0), .lf (.int .i64), .lf (.int .i64), .lf (.int .i64), .lf (.int .i64), .lf (.sl 4)], [], [(1000, .box [.h 0 [0], .h 1 []]), (2640, .box [.h 2 [], .own 2832, .nils, .nils, .h 3 [], .h 4 []]), (2832, .sl 4 44 5 [])], [1000, 2640], 2896⟩)] (.n none .o (.n none (.n none (.n none .o (.n (some (true, [(.normal, ⟨[.lf (.sl 0), .lf (.int .i64), .lf (.int .i64), .lf (.int .i64), .lf (.int .i64), .lf (.sl 4)], [], [(1000, .box [.h 0 [0], .h 1 []]), (2640, .box [.h 2 [], .own 3351, .nils, .nils, .h 3 [], .h 4 []]), (3351, .sl 4 44 5 [])], [1000, 2640, 2832], 3415⟩)])) .o .o)) .o) .o))) .o)) (.n none (.n none (.r (some (true, [(.normal, ⟨[.lf .bool, .lf (.sl 0), .lf (.int .i64)], [(47, .one (.h 0 []))], z50, [1000], 2966⟩)])) .nil) (.n (some (true, [(.normal, ⟨[.lf (.int .i64), .lf (.int .i64), .lf (.int .i64), .lf (.sl 4)], [], [(2640, .box [.h 0 [], .own 2969, .nils, .nils, .h 1 [], .h 2 []]), (2969, .sl 4 44 3 [])], [2640, 2832], 3033⟩)])) .o .o)) (.n none (.n none .o (.n none (.loop ⟨[.lf (.int .i64), .lf (.sl 0), .lf (.int .i64), .lf (.int .i64), .lf (.int .i64), .lf (.int .i64), .lf (.sl 4), .lf (.sl 5)], [(5, .one (.h 0 []))], [(1000, .box [.h 1 [0], .h 2 []]), (2640, .box [.h 3 [], .own 3229, .own 3230, .nils, .h 4 [], .h 5 []]), (3229, .sl 4 44 6 []), (3230, .sl 5 89 7 [])], [1000, 2640, 2969], 3293⟩ true [(.exit 2, ⟨[.lf (.sl 0), .lf (.int .i64), .lf (.int .i64), .lf (.int .i64), .lf (.int .i64), .lf (.sl 4), .lf (.sl 5)], [], [(1000, .box [.h 0 [0], .h 1 []]), (2640, .box [.h 2 [], .own 3229, .own 3230, .nils, .h 3 [], .h 4 []]), (3229, .sl 4 44 5 []), (3230, .sl 5 89 6 [])], [1000, 2640, 2969], 3293⟩)] .o) .o)) (.n none (.n none .o (.n none (.loop ⟨[.lf (.int .i64), .lf (.sl 0), .lf (.int .i64), .lf (.int .i64), .lf (.int .i64), .lf (.int .i64), .lf (.sl 4), .lf (.sl 6)], [(7, .one (.h 0 []))], [(1000, .box [.h 1 [0], .h 2 []]), (2640, .box [.h 3 [], .own 3492, .own 3230, .own 3493, .h 4 [], .h 5 []]), (3492, .sl 4 44 6 []), (3493, .sl 6 57 7 [1])], [1000, 2640, 3229], 3556⟩ true [(.exit 4, ⟨[.lf (.sl 0), .lf (.int .i64), .lf (.int .i64), .lf (.int .i64), .lf (.int .i64), .lf (.sl 4), .lf (.sl 6)], [], [(1000, .box [.h 0 [0], .h 1 []]), (2640, .box [.h 2 [], .own 3492, .own 3230, .own 3493, .h 3 [], .h 4 []]), (3492, .sl 4 44 5 []), (3493, .sl 6 57 6 [1])], [1000, 2640, 3229], 3556⟩)] (.n none .o (.n none (.n none (.n none .o (.n none .o (.n none .o (.n none (.n none (.r (some (true, [(.normal, ⟨[.lf .bool, .lf (.sl 0), .lf (.int .i64)], [(118, .one (.any)), (119, .one (.any)), (120, .one (.any)), (121, .one (.h 0 []))], z50, [1000], 4908⟩)])) .nil) (.n (some (true, [(.normal, ⟨[.lf (.int .i64), .lf (.int .i64), .lf (.int .i64), .lf (.sl 4)], [], [(2640, .box [.h 0 [], .own 4911, .own 3230, .own 3493, .h 1 [], .h 2 []]), (4911, .sl 4 44 3 [])], [2640, 4652], 4975⟩)])) .o .o)) (.n none .o (.n none .o (.n none (.n none (.r (some (true, [(.normal, ⟨[.lf .bool, .lf (.sl 0), .lf (.int .i64)], [(152, .one (.any)), (153, .one (.any)), (154, .one (.any)), (155, .one (.h 0 []))], z50, [1000], 6195⟩)])) .nil) (.n (some (true, [(.normal, ⟨[.lf (.sl 0), .lf (.int .i64), .lf (.int .i64), .lf (.int .i64), .lf (.int .i64), .lf (.int .i64), .lf (.sl 0)], [], [(1000, .box [.h 0 [0], .h 1 []]), (6003, .box [.h 2 [], .h 3 [], .h 4 [], .h 5 [], .own 6198]), (6198, .sl 0 3 6 [])], [1000, 6003], 6262⟩)])) .o .o)) .o))))))) .o) .o))) .o)) .o)))))) ⟨c30_ok, c60_ok, c79_1_ok, trivial⟩ Tryz.call41 Tryz.func41 rfl rfl (by kernel_rfl) fun h => by kernel_rfl
noncomputable def dynposref15_within (a0 : Int) (a1 : Int) (a2 : Int) : Option (Bool) := Option.bind (if decide (a0 ≥ a1) = true then some (decide (a0 ≤ a2)) else some false) fun x1 => some x1
noncomputable def c52 : Con D := ⟨52, z69, [.lf .bool], [.one (.h 0 []), .one (.h 1 []), .one (.h 2 [])], [], z10, [], fun h => dynposref15_within h.1 h.2.1 h.2.2⟩
theorem c52_ok : CK c52 := fo [] [.tmp 6] z61 trivial Tryz.call52 Tryz.func52 rfl rfl (by kernel_rfl) fun h => by kernel_rfl
noncomputable def dynposref15_Exists (a0 : Board) (a1 : Part) : Option (Bool) :=
 if (a1.Kind == 1) = true then
 Option.bind (dynposref15_within a1.Number 0 (W (len a0.Sources - 1))) fun x4 => some x4
 else
 if (a1.Kind == 2) = true then
 Option.bind (dynposref15_within a1.Number 0 (W (len a0.Breakers - 1))) fun x3 => some x3
 else
 if (a1.Kind == 3) = true then
 Option.bind (dynposref15_within a1.Number 0 (W (a0.Buses - 1))) fun x2 => some x2
 else
 if (a1.Kind == 4) = true then
 Option.bind (dynposref15_within a1.Number 0 (W (len a0.Consumers - 1))) fun x1 =>
 some x1
 else some false
noncomputable def c53 : Con D := ⟨53, z33, [.lf .bool], [.agg [.h 0 [], .h 1 [0], .h 2 [0], .h 3 [0], .h 4 [], .h 5 []], .agg [.h 6 [], .h 7 []]], [], z10, [], fun h => dynposref15_Exists ⟨h.1, h.2.1, h.2.2.1, h.2.2.2.1, h.2.2.2.2.1, h.2.2.2.2.2.1⟩ ⟨h.2.2.2.2.2.2.1, h.2.2.2.2.2.2.2⟩⟩
theorem c53_ok : CK c53 := fo [c52] [.tmp 4] .o ⟨c52_ok, trivial⟩ Tryz.call53 Tryz.func53 rfl rfl (by kernel_rfl) fun h => by kernel_rfl
noncomputable def Src_Power_L1 (a1 : Board) : Int × List Int × Int × List Bool →
 Option
 (Int × List Int × Int × List Bool ⊕
 List Int ×
 Int ×
 List
 Bool) := fun x1 =>
 if decide (x1.1 < len a1.Breakers) = true then
 Option.bind (Src_N (Src.mk x1.2.1 x1.2.2.1) 2) fun x2 =>
 Option.bind (app x1.2.2.2 [x2.1 == 1]) fun x3 =>
 some (.inl (W (x1.1 + 1), x2.2.1, x2.2.2, x3))
 else some (.inr (x1.2.1, x1.2.2.1, x1.2.2.2))
noncomputable def Src_Power_L3 (a1 : Board) (x5 : Int ×
 List
 Bool) : Bool × Int × List Bool →
 Option
 (Bool × Int × List Bool ⊕
 List
 Bool) := fun x6 =>
 if decide (x6.2.1 < len a1.Breakers) = true then
 Option.bind (idx a1.Breakers x6.2.1) fun x7 =>
 Option.bind
 (if (x7.Kind == 3) = true then
 if (x7.B == x5.1) = true then Option.bind (idx x6.2.2 x6.2.1) fun x8 => some x8 else some false
 else some false)
 fun x9 =>
 Option.bind
 (if x9 = true then
 Option.bind (idx x6.2.2 x6.2.1) fun x10 =>
 Option.bind (idx x6.2.2 x6.2.1) fun x11 =>
 Option.bind (setO x6.2.2 x6.2.1 x6.1) fun x12 => some (false, x12)
 else some (x6.1, x6.2.2))
 fun x13 => some (.inl (x13.1, W (x6.2.1 + 1), x13.2))
 else some (.inr x6.2.2)
noncomputable def Src_Power_L2 (a1 : Board) : Int × List Bool →
 Option
 (Int × List Bool ⊕
 List
 Bool) := fun x5 =>
 if decide (x5.1 < len a1.Consumers) = true then
 Option.bind (loopO (Src_Power_L3 a1 x5) (true, 0, x5.2)) fun x14 =>
 some (.inl (W (x5.1 + 1), x14))
 else some (.inr x5.2)
noncomputable def Src_Power_L4 (a1 : Board) : Int × List Int × Int × List Running →
 Option
 (Int × List Int × Int × List Running ⊕
 List Int ×
 Int ×
 List
 Running) := fun x16 =>
 if decide (x16.1 < len a1.Sources) = true then
 Option.bind
 (Src_Pick (Src.mk x16.2.1 x16.2.2.1)
 [0, 1, 2, 2, 2, 3])
 fun x17 =>
 Option.bind (Src_N (Src.mk x17.2.1 x17.2.2.1) 5) fun x18 =>
 Option.bind
 (Src_Pick (Src.mk x18.2.1 x18.2.2)
 [5000, 5000, 5005, 4950])
 fun x19 =>
 Option.bind
 (Src_Pick (Src.mk x19.2.1 x19.2.2.1)
 [0, 0, 40, 1800, 3590])
 fun x20 =>
 Option.bind (app x16.2.2.2 [Running.mk x17.1 x18.1 x19.1 x20.1]) fun x21 =>
 some (.inl (W (x16.1 + 1), x20.2.1, x20.2.2.1, x21))
 else some (.inr (x16.2.1, x16.2.2.1, x16.2.2.2))
noncomputable def Src_Power_L5 (a1 : Board) : Int × List Int × Int × List Int →
 Option
 (Int × List Int × Int × List Int ⊕
 List Int ×
 Int ×
 List
 Int) := fun x23 =>
 if decide (x23.1 < len a1.Consumers) = true then
 Option.bind (idx a1.Consumers x23.1) fun x24 =>
 Option.bind (quoO x24.Load 3) fun x25 =>
 Option.bind (Src_Pick (Src.mk x23.2.1 x23.2.2.1) [x24.Load, x24.Load, x24.Least, x25]) fun x26 =>
 Option.bind (app x23.2.2.2 [x26.1]) fun x27 =>
 some (.inl (W (x23.1 + 1), x26.2.1, x26.2.2.1, x27))
 else some (.inr (x23.2.1, x23.2.2.1, x23.2.2.2))
noncomputable def Src_Power_L6 (a1 : Board) : Int × List Int × Int × List Part →
 Option
 (Int × List Int × Int × List Part ⊕
 List Int ×
 Int ×
 List
 Part) := fun x29 =>
 if decide (x29.1 ≤ 4) = true then
 Option.bind (Src_N (Src.mk x29.2.1 x29.2.2.1) 5) fun x30 =>
 Option.bind
 (if (x30.1 == 4) = true then
 Option.bind (Src_N (Src.mk x30.2.1 x30.2.2) 4) fun x31 =>
 Option.bind (dynposref15_Exists a1 (Part.mk x29.1 x31.1)) fun x32 =>
 Option.bind
 (if x32 = true then Option.bind (app x29.2.2.2 [Part.mk x29.1 x31.1]) fun x33 => some x33
 else some x29.2.2.2)
 fun x34 => some (x31.2.1, x31.2.2, x34)
 else some (x30.2.1, x30.2.2, x29.2.2.2))
 fun x35 => some (.inl (W (x29.1 + 1), x35.1, x35.2.1, x35.2.2))
 else some (.inr (x29.2.1, x29.2.2.1, x29.2.2.2))
noncomputable def Src_Power (a0 : Src) (a1 : Board) : Option ((List Int) × Int × (List Breaker) × (List Source) × (List Consumer) × (List Bool) × (List Running) × (List Int) × (List Part)) :=
 Option.bind (loopO (Src_Power_L1 a1) (0, a0.L, a0.At, [])) fun x4 =>
 Option.bind (loopO (Src_Power_L2 a1) (0, x4.2.2)) fun x15 =>
 Option.bind (loopO (Src_Power_L4 a1) (0, x4.1, x4.2.1, [])) fun x22 =>
 Option.bind (loopO (Src_Power_L5 a1) (0, x22.1, x22.2.1, [])) fun x28 =>
 Option.bind (loopO (Src_Power_L6 a1) (1, x28.1, x28.2.1, [])) fun x36 =>
 some
 (x36.1, x36.2.1, a1.Breakers, a1.Sources, a1.Consumers, x15, x22.2.2, x28.2.2, x36.2.2)
noncomputable def c42_1 : Con D := ⟨42, [.lf (.sl 0), .lf (.int .i64), .lf (.int .i64), .lf (.sl 4), .lf (.sl 5), .lf (.sl 6), .lf (.int .i64), .lf (.int .i64)], [.lf (.sl 0), .lf (.int .i64), .lf (.sl 4), .lf (.sl 5), .lf (.sl 6), .lf (.sl 1), .lf (.sl 8), .lf (.sl 0), .lf (.sl 9)], [.one (.ptr 1000 0), .agg [.h 2 [], .own 1001, .own 1002, .own 1003, .h 6 [], .h 7 []]], [(1000, .box [.h 0 [0], .h 1 []]), (1001, .sl 4 44 3 []), (1002, .sl 5 89 4 []), (1003, .sl 6 57 5 [0])], [.agg [.own 1004, .own 1005, .own 1006, .own 1007]], [(1000, .box [.h 0 [0], .h 1 []]), (1001, .sl 4 44 2 []), (1002, .sl 5 89 3 []), (1003, .sl 6 57 4 [0]), (1004, .sl 1 4 5 []), (1005, .sl 8 48 6 []), (1006, .sl 0 3 7 []), (1007, .sl 9 84 8 [])], fun h => Src_Power ⟨h.1, h.2.1⟩ ⟨h.2.2.1, h.2.2.2.1, h.2.2.2.2.1, h.2.2.2.2.2.1, h.2.2.2.2.2.2.1, h.2.2.2.2.2.2.2⟩⟩
theorem c42_1_ok : CK c42_1 := fo [c30, c53, c79_1] [.cell 4 34] (.n none .o (.n none .o (.n none (.n none .o (.n none (.loop ⟨[.lf (.int .i64), .lf (.sl 0), .lf (.int .i64), .lf (.sl 1)], [(17, .one (.h 0 []))], [(1000, .box [.h 1 [0], .h 2 []]), (2128, .box [.own 2448, .nils, .nils, .nils]), (2448, .sl 1 4 3 [])], [1000, 2128], 2512⟩ true [(.exit 0, ⟨[.lf (.sl 0), .lf (.int .i64), .lf (.sl 1)], [], [(1000, .box [.h 0 [0], .h 1 []]), (2128, .box [.own 2448, .nils, .nils, .nils]), (2448, .sl 1 4 2 [])], [1000, 2128], 2512⟩)] .o) .o)) (.n none (.n none .o (.n none (.loop ⟨[.lf (.int .i64), .lf (.sl 1)], [(31, .one (.h 0 []))], [(2448, .sl 1 4 1 [])], [2448], 2835⟩ true [(.exit 2, ⟨[.lf (.sl 1)], [], [(2448, .sl 1 4 0 [])], [2448], 2835⟩)] (.n none .o (.n none .o (.n none (.n none (.n none .o (.n none .o (.n none .o (.n none (.loop ⟨[.lf .bool, .lf (.int .i64), .lf (.sl 1)], [(7, .one (.h 0 [])), (37, .one (.h 1 []))], [(2448, .sl 1 4 2 [])], [2448], 3413⟩ true [(.exit 4, ⟨[.lf (.sl 1)], [], [(2448, .sl 1 4 0 [])], [2448], 3413⟩)] (.n none .o (.n none .o (.n none (.n none (.n none .o (.n none (.r (some (true, [(.normal, ⟨[.lf .bool], [(46, .one (.any)), (47, .one (.any)), (48, .one (.any)), (49, .one (.any)), (52, .one (.any)), (53, .one (.any)), (54, .one (.any)), (55, .one (.any)), (56, .one (.any)), (57, .one (.h 0 []))], [], [], 3928⟩)])) .nil) (.n (some (true, [(.normal, ⟨[.lf .bool, .lf (.sl 1)], [(7, .one (.h 0 []))], [(2448, .sl 1 4 1 [])], [2448], 3993⟩)])) .o .o))) .o) .o)))) .o)))) .o) .o)))) .o)) (.n none (.n none .o (.n none (.loop ⟨[.lf (.int .i64), .lf (.sl 0), .lf (.int .i64), .lf (.sl 8)], [(68, .one (.h 0 []))], [(1000, .box [.h 1 [0], .h 2 []]), (2128, .box [.own 2448, .own 3092, .nils, .nils]), (3092, .sl 8 48 3 [])], [1000, 2128], 3156⟩ true [(.exit 6, ⟨[.lf (.sl 0), .lf (.int .i64), .lf (.sl 8)], [], [(1000, .box [.h 0 [0], .h 1 []]), (2128, .box [.own 2448, .own 3092, .nils, .nils]), (3092, .sl 8 48 2 [])], [1000, 2128], 3156⟩)] .o) .o)) (.n none (.n none .o (.n none (.loop ⟨[.lf (.int .i64), .lf (.sl 0), .lf (.int .i64), .lf (.sl 0)], [(91, .one (.h 0 []))], [(1000, .box [.h 1 [0], .h 2 []]), (2128, .box [.own 2448, .own 3092, .own 3415, .nils]), (3415, .sl 0 3 3 [])], [1000, 2128], 3479⟩ true [(.exit 8, ⟨z60, [], [(1000, .box [.h 0 [0], .h 1 []]), (2128, .box [.own 2448, .own 3092, .own 3415, .nils]), (3415, .sl 0 3 2 [])], [1000, 2128], 3479⟩)] .o) .o)) (.n none (.n none .o (.n none (.loop ⟨[.lf (.int .i64), .lf (.sl 0), .lf (.int .i64), .lf (.sl 9)], [(12, .one (.h 0 []))], [(1000, .box [.h 1 [0], .h 2 []]), (2128, .box [.own 2448, .own 3092, .own 3415, .own 3546]), (3546, .sl 9 84 3 [])], [1000, 2128], 3610⟩ true [(.exit 10, ⟨[.lf (.sl 0), .lf (.int .i64), .lf (.sl 9)], [], [(1000, .box [.h 0 [0], .h 1 []]), (2128, .box [.own 2448, .own 3092, .own 3415, .own 3546]), (3546, .sl 9 84 2 [])], [1000, 2128], 3610⟩)] (.n none .o (.n none (.n none (.n none .o (.n (some (true, [(.normal, ⟨[.lf (.sl 0), .lf (.int .i64), .lf (.sl 9)], [], [(1000, .box [.h 0 [0], .h 1 []]), (2128, .box [.own 2448, .own 3092, .own 3415, .own 3934]), (3934, .sl 9 84 2 [])], [1000, 2128, 3546], 3998⟩)])) (.n none .o (.n none .o (.n (some (true, [(.normal, ⟨[.lf (.sl 9)], [], [(2128, .box [.own 2448, .own 3092, .own 3415, .own 4510]), (4510, .sl 9 84 0 [])], [2128, 3546], 4574⟩)])) .o .o))) .o)) .o) .o))) .o)) .o))))))) ⟨c30_ok, c53_ok, c79_1_ok, trivial⟩ Tryz.call42 Tryz.func42 rfl rfl (by kernel_rfl) fun h => by kernel_rfl
noncomputable def dynposlaw18_world (a0 : Src) : Option (Int × Int × Int × (List Int) × Int × (List Breaker) × (List Source) × (List Consumer) × (List Bool) × (List Running) × (List Int) × (List Part)) :=
 Option.bind (Src_Board a0) fun x1 =>
 Option.bind
 (Src_Power (Src.mk x1.2.2.2.1 x1.2.2.2.2.1)
 (Board.mk x1.1 x1.2.2.2.2.2.1 x1.2.2.2.2.2.2.1 x1.2.2.2.2.2.2.2
 x1.2.1 x1.2.2.1))
 fun x2 =>
 some
 (x1.1, x1.2.1, x1.2.2.1, x2.1, x2.2.1, x2.2.2.1, x2.2.2.2.1,
 x2.2.2.2.2.1, x2.2.2.2.2.2.1, x2.2.2.2.2.2.2.1,
 x2.2.2.2.2.2.2.2.1, x2.2.2.2.2.2.2.2.2)
noncomputable def c10 : Con D := ⟨10, z35, [.lf (.int .i64), .lf (.int .i64), .lf (.int .i64), .lf (.sl 0), .lf (.int .i64), .lf (.sl 4), .lf (.sl 5), .lf (.sl 6), .lf (.sl 1), .lf (.sl 8), .lf (.sl 0), .lf (.sl 9)], z68, z42, [.agg [.h 0 [], .own 1001, .own 1002, .own 1003, .h 1 [], .h 2 []], .agg [.own 1004, .own 1005, .own 1006, .own 1007]], [(1000, .box [.h 3 [0, 1], .h 4 []]), (1001, .sl 4 44 5 []), (1002, .sl 5 89 6 []), (1003, .sl 6 57 7 [0, 1]), (1004, .sl 1 4 8 []), (1005, .sl 8 48 9 []), (1006, .sl 0 3 10 []), (1007, .sl 9 84 11 [])], fun h => dynposlaw18_world ⟨h.1, h.2⟩⟩
theorem c10_ok : CK c10 := fo [c41, c42_1] [.cell 2 29, .cell 3 34] .o ⟨c41_ok, c42_1_ok, trivial⟩ Tryz.call10 Tryz.func10 rfl rfl (by kernel_rfl) fun h => by kernel_rfl
end Rx
end Go.Proofs.YtfnphdhcgkondaaGreat
