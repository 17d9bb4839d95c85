import Derived.Test.YtfnphdhcgkondaaGreatRt
import Derived.Test.YtfnphdhcgkondaaGreatRg1
import Derived.Test.YtfnphdhcgkondaaGreatRg2
import Derived.Test.YtfnphdhcgkondaaGreatRg3
import Derived.Test.YtfnphdhcgkondaaGreatRg4
import Derived.Test.YtfnphdhcgkondaaGreatRg5
import Derived.Test.YtfnphdhcgkondaaGreatRg6
set_option linter.unusedVariables false
set_option maxRecDepth 100000
namespace Go.Proofs.YtfnphdhcgkondaaGreat
open Go Go.RowKit Dp
namespace Rx
noncomputable def dynposlaw18_ShedExact_L3 (a3 : Int) (x5 : Board) (x11 : Power) (x12 : Int ×
 List Int ×
 Int) : Int →
 Option
 (Int ⊕
 Unit ⊕
 Int × List Int × Int ⊕
 List Int × Int ⊕
 Int × List Int × Int ⊕
 List Int × Int ⊕
 Bool) := fun x13 =>
 if decide (x13 < 2) = true then
 Option.bind (idx [a3, x12.1] x13) fun x14 =>
 Option.bind (shed_Served x5 x11 x14) fun x15 =>
 Option.bind (dynposref18_Served x5 x11 x14) fun x16 =>
 if (!x15 == x16) = true then some (.inr (.inr (.inr (.inr (.inr (.inr false))))))
 else some (.inl (W (x13 + 1)))
 else some (.inr (.inl ()))
noncomputable def dynposlaw18_ShedExact_L2 (a2 : Power) (a3 : Int) (x3 : Int ×
 Int ×
 Int ×
 List Int ×
 Int ×
 List Breaker ×
 List Source ×
 List Consumer ×
 List Bool ×
 List Running ×
 List Int ×
 List
 Part) (x5 : Board) (x9 : List Int ×
 Int ×
 List Bool ×
 List Running ×
 List Int ×
 List
 Part) : Int × List Int × Int →
 Option
 (Int × List Int × Int ⊕
 List Int × Int ⊕
 Int × List Int × Int ⊕
 List Int × Int ⊕
 Bool) := fun x10 =>
 if decide (x10.1 < 3) = true then
 Option.bind
 (idx
 [Power.mk x3.2.2.2.2.2.2.2.2.1 x3.2.2.2.2.2.2.2.2.2.1
 x3.2.2.2.2.2.2.2.2.2.2.1 x3.2.2.2.2.2.2.2.2.2.2.2,
 Power.mk x9.2.2.1 x9.2.2.2.1 x9.2.2.2.2.1 x9.2.2.2.2.2, a2]
 x10.1)
 fun x11 =>
 Option.bind (Src_N (Src.mk x10.2.1 x10.2.2) 6) fun x12 =>
 Option.bind (loopO (dynposlaw18_ShedExact_L3 a3 x5 x11 x12) 0) fun x17 =>
 Sum.elim
 (fun x18 =>
 Option.bind (shed_Clear x5 x11) fun x19 =>
 Option.bind (dynposref18_Clear x5 x11) fun x20 =>
 Option.bind
 (Option.bind
 (dynposref15_Same
 (Power.mk x19.2.1 x19.2.2.1 x19.2.2.2.1 x19.2.2.2.2.1)
 (Power.mk x20.2.1 x20.2.2.1 x20.2.2.2.1 x20.2.2.2.2.1))
 fun x21 =>
 if (!x21) = true then some true
 else
 Option.bind (dynposref18_Acts x19.2.2.2.2.2 x20.2.2.2.2.2) fun x22 =>
 if (!x22) = true then some true else some (x19.1 != x20.1))
 fun x23 =>
 if x23 = true then some (.inr (.inr (.inr (.inr false))))
 else
 Option.bind (shed_Shed x5 x11) fun x24 =>
 Option.bind (dynposref18_Shed x5 x11) fun x25 =>
 Option.bind
 (Option.bind
 (dynposref15_Same
 (Power.mk x24.2.1 x24.2.2.1 x24.2.2.2.1 x24.2.2.2.2.1)
 (Power.mk x25.2.1 x25.2.2.1 x25.2.2.2.1 x25.2.2.2.2.1))
 fun x26 =>
 if (!x26) = true then some true
 else
 Option.bind (dynposref18_Acts x24.2.2.2.2.2 x25.2.2.2.2.2)
 fun x27 => if (!x27) = true then some true else some (x24.1 != x25.1))
 fun x28 =>
 if x28 = true then some (.inr (.inr (.inr (.inr false))))
 else
 Option.bind (shed_Protect x5 x11) fun x29 =>
 Option.bind (dynposref18_Protect x5 x11) fun x30 =>
 Option.bind
 (Option.bind
 (dynposref15_Same
 (Power.mk x29.2.1 x29.2.2.1 x29.2.2.2.1
 x29.2.2.2.2.1)
 (Power.mk x30.2.1 x30.2.2.1 x30.2.2.2.1
 x30.2.2.2.2.1))
 fun x31 =>
 if (!x31) = true then some true
 else
 Option.bind (dynposref18_Acts x29.2.2.2.2.2 x30.2.2.2.2.2)
 fun x32 =>
 if (!x32) = true then some true
 else
 if (x29.1 != x30.1) = true then some true
 else
 Option.bind
 (shed_Check x5 x11
 (Power.mk x30.2.1 x30.2.2.1 x30.2.2.2.1
 x30.2.2.2.2.1))
 fun x33 =>
 Option.bind
 (dynposref18_Check x5 x11
 (Power.mk x30.2.1 x30.2.2.1 x30.2.2.2.1
 x30.2.2.2.2.1))
 fun x34 =>
 if (!x33 == x34) = true then some true
 else
 Option.bind (shed_Check x5 x11 a2) fun x35 =>
 Option.bind (dynposref18_Check x5 x11 a2) fun x36 =>
 some !x35 == x36)
 fun x37 =>
 if x37 = true then some (.inr (.inr (.inr (.inr false))))
 else
 Option.bind
 (dynposref15_Copy
 (Power.mk x30.2.1 x30.2.2.1 x30.2.2.2.1
 x30.2.2.2.2.1))
 fun x38 =>
 Option.bind
 (if decide (len x38.2.2.1 > 0) = true then
 Option.bind (Src_N (Src.mk x12.2.1 x12.2.2) (len x38.2.2.1))
 fun x39 =>
 Option.bind (idx x38.2.2.1 x39.1) fun x40 =>
 Option.bind (quoO x40 2) fun x41 =>
 Option.bind (idx x38.2.2.1 x39.1) fun x42 =>
 Option.bind (idx x38.2.2.1 x39.1) fun x43 =>
 Option.bind (setO x38.2.2.1 x39.1 x41) fun x44 =>
 some (x39.2.1, x39.2.2, x44)
 else some (x12.2.1, x12.2.2, x38.2.2.1))
 fun x45 =>
 Option.bind
 (if decide (len x38.1 > 0) = true then
 Option.bind (Src_N (Src.mk x45.1 x45.2.1) (len x38.1)) fun x46 =>
 Option.bind (idx x38.1 x46.1) fun x47 =>
 Option.bind (idx x38.1 x46.1) fun x48 =>
 Option.bind (idx x38.1 x46.1) fun x49 =>
 Option.bind (setO x38.1 x46.1 !x47) fun x50 =>
 some (x46.2.1, x46.2.2, x50)
 else some (x45.1, x45.2.1, x38.1))
 fun x51 =>
 Option.bind
 (shed_Check x5 x11
 (Power.mk x51.2.2 x38.2.1 x45.2.2 x38.2.2.2))
 fun x52 =>
 Option.bind
 (dynposref18_Check x5 x11
 (Power.mk x51.2.2 x38.2.1 x45.2.2 x38.2.2.2))
 fun x53 =>
 if (!x52 == x53) = true then
 some (.inr (.inr (.inr (.inr false))))
 else some (.inl (W (x10.1 + 1), x51.1, x51.2.1)))
 (fun x54 => some x54) x17
 else some (.inr (.inl (x10.2.1, x10.2.2)))
noncomputable def dynposlaw18_ShedExact_L1 (a1 : Board) (a2 : Power) (a3 : Int) (x3 : Int ×
 Int ×
 Int ×
 List Int ×
 Int ×
 List Breaker ×
 List Source ×
 List Consumer ×
 List Bool ×
 List Running ×
 List Int ×
 List
 Part) : Int × List Int × Int →
 Option
 (Int × List Int × Int ⊕
 List Int × Int ⊕
 Bool) := fun x4 =>
 if decide (x4.1 < 2) = true then
 Option.bind
 (idx
 [Board.mk x3.1 x3.2.2.2.2.2.1 x3.2.2.2.2.2.2.1 x3.2.2.2.2.2.2.2.1
 x3.2.1 x3.2.2.1,
 a1]
 x4.1)
 fun x5 =>
 Option.bind (shed_Order x5) fun x6 =>
 Option.bind (dynposref18_Order x5) fun x7 =>
 Option.bind (dynposref01_Ints x6 x7) fun x8 =>
 if (!x8) = true then some (.inr (.inr false))
 else
 Option.bind
 (Src_BentPower (Src.mk x4.2.1 x4.2.2)
 (Power.mk x3.2.2.2.2.2.2.2.2.1 x3.2.2.2.2.2.2.2.2.2.1
 x3.2.2.2.2.2.2.2.2.2.2.1 x3.2.2.2.2.2.2.2.2.2.2.2))
 fun x9 =>
 Option.bind (loopO (dynposlaw18_ShedExact_L2 a2 a3 x3 x5 x9) (0, x9.1, x9.2.1))
 fun x55 =>
 Sum.elim (fun x56 => some (.inl (W (x4.1 + 1), x56.1, x56.2)))
 (fun x57 => some x57) x55
 else some (.inr (.inl (x4.2.1, x4.2.2)))
noncomputable def dynposlaw18_ShedExact (a0 : (List Int)) (a1 : Board) (a2 : Power) (a3 : Int) : Option (Bool) :=
 Option.bind (dynposmake_Small a1 a2) fun x1 =>
 if (!x1) = true then Option.bind dynposlaw18_sane fun x62 => some x62
 else
 Option.bind (dynposmake_New a0) fun x2 =>
 Option.bind (dynposlaw18_world (Src.mk x2.1 x2.2)) fun x3 =>
 Option.bind
 (loopO (dynposlaw18_ShedExact_L1 a1 a2 a3 x3) (0, x3.2.2.2.1, x3.2.2.2.2.1))
 fun x58 => Sum.elim (fun x59 => Option.bind dynposlaw18_sane fun x60 => some x60) (fun x61 => some x61) x58
noncomputable def c6 : Con D := ⟨6, [.lf (.sl 0), .lf (.int .i64), .lf (.sl 4), .lf (.sl 5), .lf (.sl 6), .lf (.int .i64), .lf (.int .i64), .lf (.sl 1), .lf (.sl 8), .lf (.sl 0), .lf (.sl 9), .lf (.int .i64)], [.lf .bool], [.one (.h 0 [0]), .agg [.h 1 [], .h 2 [0], .h 3 [0], .h 4 [0], .h 5 [], .h 6 []], .agg [.h 7 [0], .h 8 [0], .h 9 [0], .h 10 [0]], .one (.h 11 [])], [], z10, [], fun h => dynposlaw18_ShedExact h.1 ⟨h.2.1, h.2.2.1, h.2.2.2.1, h.2.2.2.2.1, h.2.2.2.2.2.1, h.2.2.2.2.2.2.1⟩ ⟨h.2.2.2.2.2.2.2.1, h.2.2.2.2.2.2.2.2.1, h.2.2.2.2.2.2.2.2.2.1, h.2.2.2.2.2.2.2.2.2.2.1⟩ h.2.2.2.2.2.2.2.2.2.2.2⟩
theorem c6_ok : CK c6 := fo [c9, c10, c11, c12, c13, c16, c17, c22, c24, c27, c28, c29, c30, c31, c32, c33, c34, c35, c36, c37, c38, c39] [.tmp 8] (.n none .o (.n none .o (.n none .o (.n none .o (.n none (.n none .o (.n none (.f [2715, 2716, 2717, 2718] (.loop ⟨z43, [(41, .one (.h 0 []))], [(2520, .box [.h 1 [0, 1], .h 2 []])], [2520], 3536⟩ false [(.exit 0, ⟨z35, [], [(2520, .box [.h 0 [0, 1], .h 1 []])], [2520], 3536⟩)] (.n none .o (.n none .o (.n none (.n none (.n none .o (.n none .o (.n none .o (.n none (.loop ⟨z43, [(56, .one (.h 0 []))], [(2520, .box [.h 1 [0, 1], .h 2 []])], [2520], 4691⟩ false [(.exit 2, ⟨z35, [], [(2520, .box [.h 0 [0, 1], .h 1 []])], [2520], 4691⟩)] (.n none .o (.n none .o (.n none (.n none (.n none .o (.n none (.n none .o (.n none (.loop ⟨z9, [(63, .one (.h 0 []))], [], [], 5334⟩ false [(.exit 4, ⟨[], [], [], [], 5334⟩)] .o) .o)) (.n none .o (.n none .o (.n none (.n none (.r (some (true, [(.normal, ⟨[.lf .bool], [(95, .one (.any)), (96, .one (.any)), (97, .one (.any)), (98, .one (.any)), (101, .one (.any)), (102, .one (.any)), (103, .one (.any)), (104, .one (.h 0 []))], [], [], 6806⟩)])) .nil) .o) (.n none .o (.n none .o (.n none (.n none (.r (some (true, [(.normal, ⟨[.lf .bool], [(124, .one (.any)), (125, .one (.any)), (126, .one (.any)), (127, .one (.any)), (130, .one (.any)), (131, .one (.any)), (132, .one (.any)), (133, .one (.h 0 []))], [], [], 8151⟩)])) .nil) .o) (.n none .o (.n none .o (.n none (.n none (.r (some (true, [(.normal, ⟨[.lf .bool], [(153, .one (.any)), (154, .one (.any)), (155, .one (.any)), (156, .one (.any)), (159, .one (.any)), (160, .one (.any)), (161, .one (.any)), (164, .one (.any)), (165, .one (.any)), (166, .one (.any)), (167, .one (.any)), (168, .one (.any)), (169, .one (.any)), (170, .one (.any)), (171, .one (.any)), (172, .one (.any)), (175, .one (.any)), (176, .one (.any)), (177, .one (.any)), (178, .one (.any)), (179, .one (.any)), (180, .one (.any)), (181, .one (.any)), (182, .one (.any)), (183, .one (.any)), (184, .one (.h 0 []))], [], [], 9496⟩)])) .nil) .o) (.n none .o (.n none (.n none .o (.n (some (true, [(.normal, ⟨z60, [], [(2520, .box [.h 0 [0, 1], .h 1 []]), (9571, .sl 0 3 2 [])], [2520, 9571], 10073⟩)])) .o .o)) (.n none (.n none .o (.n (some (true, [(.normal, ⟨[.lf (.sl 0), .lf (.int .i64), .lf (.sl 1)], [], [(2520, .box [.h 0 [0, 1], .h 1 []]), (9569, .sl 1 4 2 [])], [2520, 9569], 10396⟩)])) .o .o)) .o)))))))))))))) .o) .o)))) .o)))) .o) .o))))) .o)) .o))))) ⟨c9_ok, c10_ok, c11_ok, c12_ok, c13_ok, c16_ok, c17_ok, c22_ok, c24_ok, c27_ok, c28_ok, c29_ok, c30_ok, c31_ok, c32_ok, c33_ok, c34_ok, c35_ok, c36_ok, c37_ok, c38_ok, c39_ok, trivial⟩ Tryz.call6 Tryz.func6 rfl rfl (by kernel_rfl) fun h => by kernel_rfl
end Rx
end Go.Proofs.YtfnphdhcgkondaaGreat
