import Derived.Test.YtfnphdhcgkondaaGreatRt
import Derived.Test.YtfnphdhcgkondaaGreatRg4
set_option linter.unusedVariables false
set_option maxRecDepth 100000
namespace Go.Proofs.YtfnphdhcgkondaaGreat
open Go Go.RowKit Dp
namespace Rx
noncomputable def dynposref15_of_L1 (a0 : Board) (a1 : Int) (a2 : Int) : Int × List Int →
 Option
 (Int × List Int ⊕
 List
 Int) := fun x1 =>
 if decide (x1.1 < len a0.Breakers) = true then
 Option.bind (idx a0.Breakers x1.1) fun x2 =>
 Option.bind
 (if (x2.Kind == a1) = true then
 if (x2.B == a2) = true then some true
 else if (a1 == 1) = true then some (x2.A == a2) else some false
 else some false)
 fun x3 =>
 Option.bind (if x3 = true then Option.bind (app x1.2 [x1.1]) fun x4 => some x4 else some x1.2) fun x5 =>
 some (.inl (W (x1.1 + 1), x5))
 else some (.inr x1.2)
noncomputable def dynposref15_of (a0 : Board) (a1 : Int) (a2 : Int) : Option ((List Int)) := Option.bind (loopO (dynposref15_of_L1 a0 a1 a2) (0, [])) fun x6 => some x6
noncomputable def c55 : Con D := ⟨55, z33, z28, [.agg [.h 0 [], .h 1 [0], .h 2 [0], .h 3 [0], .h 4 [], .h 5 []], .one (.h 6 []), .one (.h 7 [])], [], z49, z29, fun h => dynposref15_of ⟨h.1, h.2.1, h.2.2.1, h.2.2.2.1, h.2.2.2.2.1, h.2.2.2.2.2.1⟩ h.2.2.2.2.2.2.1 h.2.2.2.2.2.2.2⟩
theorem c55_ok : CK c55 := fo [] [.tmp 6] (.n none .o (.n none .o (.n none (.n none .o (.n none (.loop ⟨z24, [(7, .one (.own 2448)), (13, .one (.h 0 []))], [(2448, .sl 0 3 1 [])], [], 2512⟩ true [(.exit 0, ⟨z28, [(7, .one (.own 2448))], [(2448, .sl 0 3 0 [])], [], 2512⟩)] (.n none .o (.n none .o (.n none (.n none (.n none .o (.n none (.r (some (true, [(.normal, ⟨[.lf .bool], [(23, .one (.any)), (24, .one (.any)), (25, .one (.any)), (26, .one (.any)), (27, .one (.any)), (28, .one (.any)), (29, .one (.any)), (30, .one (.any)), (31, .one (.any)), (32, .one (.any)), (33, .one (.any)), (34, .one (.any)), (35, .one (.any)), (36, .one (.any)), (37, .one (.h 0 []))], [], [], 3026⟩)])) .nil) (.n (some (true, [(.normal, ⟨z28, [(7, .one (.own 3027))], [(3027, .sl 0 3 0 [])], [2448], 3091⟩)])) .o .o))) .o) .o)))) .o)) .o))) trivial Tryz.call55 Tryz.func55 rfl rfl (by kernel_rfl) fun h => by kernel_rfl
noncomputable def dynposref15_breakers_L2 (x2 : Breaker) (x5 : List
 Breaker) : Int →
 Option
 (Int ⊕
 Unit ⊕
 Unit ⊕
 Unit ⊕
 Int ⊕
 Unit ⊕
 Bool) := fun x6 =>
 if decide (x6 < len x5) = true then
 Option.bind (idx x5 x6) fun x7 =>
 if (x7.Kind == x2.Kind && (x7.A == x2.A && x7.B == x2.B)) = true then
 some (.inr (.inr (.inr (.inr (.inr (.inr false))))))
 else some (.inl (W (x6 + 1)))
 else some (.inr (.inl ()))
noncomputable def dynposref15_breakers_L1 (a0 : Board) : Int →
 Option
 (Int ⊕
 Unit ⊕
 Bool) := fun x1 =>
 if decide (x1 < len a0.Breakers) = true then
 Option.bind (idx a0.Breakers x1) fun x2 =>
 Option.bind (dynposref15_within x2.A 0 (W (a0.Buses - 1))) fun x3 =>
 if (!x3) = true then some (.inr (.inr false))
 else
 Option.bind
 (if (x2.Kind == 1) = true then
 Option.bind (dynposref15_within x2.B (W (x2.A + 1)) (W (a0.Buses - 1))) fun x15 =>
 if (!x15) = true then some (.inr (.inr (.inr false))) else some (.inl ())
 else
 Option.bind
 (if (x2.Kind == 2) = true then
 Option.bind (dynposref15_within x2.B 0 (W (len a0.Sources - 1))) fun x11 =>
 if (!x11) = true then some (.inr (.inr (.inr (.inr false))))
 else some (.inl ())
 else
 if (x2.Kind == 3) = true then
 Option.bind (dynposref15_within x2.B 0 (W (len a0.Consumers - 1))) fun x4 =>
 if (!x4) = true then some (.inr (.inr (.inr (.inr false))))
 else
 Option.bind (slc a0.Breakers 0 x1) fun x5 =>
 Option.bind (loopO (dynposref15_breakers_L2 x2 x5) 0) fun x8 =>
 Sum.elim (fun x9 => some (.inl ())) (fun x10 => some x10) x8
 else some (.inr (.inr (.inr (.inr false)))))
 fun x12 => Sum.elim (fun x13 => some (.inl ())) (fun x14 => some x14) x12)
 fun x16 => Sum.elim (fun x17 => some (.inl (W (x1 + 1)))) (fun x18 => some x18) x16
 else some (.inr (.inl ()))
noncomputable def dynposref15_breakers_L3 (a0 : Board) : Int →
 Option
 (Int ⊕
 Unit ⊕
 Bool) := fun x21 =>
 if decide (x21 < len a0.Sources) = true then
 Option.bind (dynposref15_of a0 2 x21) fun x22 =>
 if (len x22 != 1) = true then some (.inr (.inr false)) else some (.inl (W (x21 + 1)))
 else some (.inr (.inl ()))
noncomputable def dynposref15_breakers_L4 (a0 : Board) : Int →
 Option
 (Int ⊕
 Unit ⊕
 Bool) := fun x25 =>
 if decide (x25 < len a0.Consumers) = true then
 Option.bind (dynposref15_of a0 3 x25) fun x26 =>
 if decide (len x26 < 1) = true then some (.inr (.inr false))
 else some (.inl (W (x25 + 1)))
 else some (.inr (.inl ()))
noncomputable def dynposref15_breakers (a0 : Board) : Option (Bool) :=
 Option.bind (loopO (dynposref15_breakers_L1 a0) 0) fun x19 =>
 Sum.elim
 (fun x20 =>
 Option.bind (loopO (dynposref15_breakers_L3 a0) 0) fun x23 =>
 Sum.elim
 (fun x24 =>
 Option.bind (loopO (dynposref15_breakers_L4 a0) 0) fun x27 =>
 Sum.elim (fun x28 => some true) (fun x29 => some x29) x27)
 (fun x30 => some x30) x23)
 (fun x31 => some x31) x19
noncomputable def c91 : Con D := ⟨91, z17, [.lf .bool], z21, [], z10, [], fun h => dynposref15_breakers ⟨h.1, h.2.1, h.2.2.1, h.2.2.2.1, h.2.2.2.2.1, h.2.2.2.2.2⟩⟩
theorem c91_ok : CK c91 := fo [c52, c55] [.tmp 2] (.n none .o (.n none (.n none .o (.n none (.loop ⟨z9, [(12, .one (.h 0 []))], [], [], 2448⟩ false [(.exit 0, ⟨[], [], [], [], 2448⟩)] (.n none .o (.n none .o (.n none (.n none (.n none .o (.n none .o (.n none .o (.n none (.n none .o (.n (some (false, [(.normal, ⟨[], [], [], [], 3665⟩)])) .o (.n none .o (.n (some (false, [(.normal, ⟨[], [], [], [], 3793⟩)])) .o (.n none .o (.n none (.n none .o (.n none .o (.n none (.loop ⟨z9, [(63, .one (.h 0 []))], [], [], 4817⟩ false [(.exit 3, ⟨[], [], [], [], 4817⟩)] .o) .o))) .o)))))) .o)))) .o) .o)))) .o)) (.n none (.n none .o (.n none (.loop ⟨z9, [(75, .one (.h 0 []))], [], [], 2768⟩ false [(.exit 5, ⟨[], [], [], [], 2768⟩)] .o) .o)) (.n none (.n none .o (.n none (.loop ⟨z9, [(87, .one (.h 0 []))], [], [], 3088⟩ false [(.exit 7, ⟨[], [], [], [], 3088⟩)] .o) .o)) .o)))) ⟨c52_ok, c55_ok, trivial⟩ Tryz.call91 Tryz.func91 rfl rfl (by kernel_rfl) fun h => by kernel_rfl
noncomputable def dynposref15_sources_L1 (a0 : Board) : Int →
 Option
 (Int ⊕
 Unit ⊕
 Bool) := fun x1 =>
 if decide (x1 < len a0.Sources) = true then
 Option.bind (idx a0.Sources x1) fun x2 =>
 Option.bind
 (Option.bind (dynposref15_within x2.Rating 1 50000) fun x3 =>
 if (!x3) = true then some true
 else
 Option.bind (dynposref15_within x2.Least 0 x2.Rating) fun x4 =>
 if (!x4) = true then some true
 else Option.bind (dynposref15_within x2.Start 0 600) fun x5 => some !x5)
 fun x6 => if x6 = true then some (.inr (.inr false)) else some (.inl (W (x1 + 1)))
 else some (.inr (.inl ()))
noncomputable def dynposref15_sources (a0 : Board) : Option (Bool) :=
 Option.bind (loopO (dynposref15_sources_L1 a0) 0) fun x7 =>
 Sum.elim (fun x8 => some true) (fun x9 => some x9) x7
noncomputable def c92 : Con D := ⟨92, z17, [.lf .bool], z21, [], z10, [], fun h => dynposref15_sources ⟨h.1, h.2.1, h.2.2.1, h.2.2.2.1, h.2.2.2.2.1, h.2.2.2.2.2⟩⟩
theorem c92_ok : CK c92 := fo [c52] [.tmp 2] (.n none .o (.n none (.n none .o (.n none (.loop ⟨z9, [(8, .one (.h 0 []))], [], [], 2448⟩ false [(.exit 0, ⟨[], [], [], [], 2448⟩)] (.n none .o (.n none .o (.n none (.n none (.n none .o (.n none (.r (some (true, [(.normal, ⟨[.lf .bool], [(17, .one (.any)), (18, .one (.any)), (19, .one (.any)), (20, .one (.any)), (21, .one (.any)), (22, .one (.any)), (25, .one (.any)), (26, .one (.any)), (27, .one (.any)), (28, .one (.any)), (29, .one (.h 0 []))], [], [], 2833⟩)])) .nil) .o)) .o) .o)))) .o)) .o)) ⟨c52_ok, trivial⟩ Tryz.call92 Tryz.func92 rfl rfl (by kernel_rfl) fun h => by kernel_rfl
noncomputable def dynposref15_consumers_L2 (x1 : Int) (x2 : Consumer) : Int →
 Option
 (Int ⊕
 Unit ⊕
 Int ⊕
 Unit ⊕
 Bool) := fun x8 =>
 if decide (x8 < len x2.Needs) = true then
 Option.bind (idx x2.Needs x8) fun x9 =>
 Option.bind
 (Option.bind (dynposref15_within x9 0 (W (x1 - 1))) fun x10 =>
 if (!x10) = true then some true
 else
 if decide (x8 > 0) = true then
 Option.bind (idx x2.Needs (W (x8 - 1))) fun x11 => some (decide (x11 ≥ x9))
 else some false)
 fun x12 =>
 if x12 = true then some (.inr (.inr (.inr (.inr false)))) else some (.inl (W (x8 + 1)))
 else some (.inr (.inl ()))
noncomputable def dynposref15_consumers_L1 (a0 : Board) : Int →
 Option
 (Int ⊕
 Unit ⊕
 Bool) := fun x1 =>
 if decide (x1 < len a0.Consumers) = true then
 Option.bind (idx a0.Consumers x1) fun x2 =>
 Option.bind
 (Option.bind (dynposref15_within x2.Load 0 50000) fun x3 =>
 if (!x3) = true then some true
 else
 Option.bind (dynposref15_within x2.Least 0 x2.Load) fun x4 =>
 if (!x4) = true then some true
 else
 Option.bind (dynposref15_within x2.Preference 0 15) fun x5 =>
 if (!x5) = true then some true
 else
 Option.bind (dynposref15_within x2.Thruster (-1) 7) fun x6 =>
 if (!x6) = true then some true else some (decide (len x2.Needs > 4)))
 fun x7 =>
 if x7 = true then some (.inr (.inr false))
 else
 Option.bind (loopO (dynposref15_consumers_L2 x1 x2) 0) fun x13 =>
 Sum.elim (fun x14 => some (.inl (W (x1 + 1)))) (fun x15 => some x15) x13
 else some (.inr (.inl ()))
noncomputable def dynposref15_consumers (a0 : Board) : Option (Bool) :=
 Option.bind (loopO (dynposref15_consumers_L1 a0) 0) fun x16 =>
 Sum.elim (fun x17 => some true) (fun x18 => some x18) x16
noncomputable def c93 : Con D := ⟨93, z17, [.lf .bool], z21, [], z10, [], fun h => dynposref15_consumers ⟨h.1, h.2.1, h.2.2.1, h.2.2.2.1, h.2.2.2.2.1, h.2.2.2.2.2⟩⟩
theorem c93_ok : CK c93 := fo [c52] [.tmp 2] (.n none .o (.n none (.n none .o (.n none (.loop ⟨z9, [(10, .one (.h 0 []))], [], [], 2448⟩ false [(.exit 0, ⟨[], [], [], [], 2448⟩)] (.n none .o (.n none .o (.n none (.n none (.n none .o (.n none (.n none (.r (some (true, [(.normal, ⟨[.lf .bool], [(20, .one (.any)), (21, .one (.any)), (22, .one (.any)), (23, .one (.any)), (24, .one (.any)), (25, .one (.any)), (28, .one (.any)), (29, .one (.any)), (30, .one (.any)), (31, .one (.any)), (34, .one (.any)), (35, .one (.any)), (36, .one (.any)), (37, .one (.any)), (40, .one (.any)), (41, .one (.any)), (42, .one (.any)), (43, .one (.any)), (44, .one (.h 0 []))], [], [], 2961⟩)])) .nil) .o) (.n none .o (.n none (.loop ⟨z9, [(48, .one (.h 0 []))], [], [], 3282⟩ false [(.exit 2, ⟨[], [], [], [], 3282⟩)] (.n none .o (.n none .o (.n none (.n none (.n none .o (.n none (.r (some (true, [(.normal, ⟨[.lf .bool], [(59, .one (.any)), (60, .one (.any)), (61, .one (.any)), (62, .one (.any)), (63, .one (.any)), (64, .one (.any)), (65, .one (.any)), (66, .one (.any)), (67, .one (.any)), (68, .one (.any)), (69, .one (.any)), (70, .one (.any)), (71, .one (.h 0 []))], [], [], 3731⟩)])) .nil) .o)) .o) .o)))) .o)))) .o) .o)))) .o)) .o)) ⟨c52_ok, trivial⟩ Tryz.call93 Tryz.func93 rfl rfl (by kernel_rfl) fun h => by kernel_rfl
noncomputable def dynposref15_Check (a0 : Board) : Option (Int) :=
 Option.bind
 (if decide (a0.Buses < 1) = true then some true
 else
 if decide (a0.Buses > 6) = true then some true
 else
 if decide (len a0.Breakers > 24) = true then some true
 else
 if decide (len a0.Sources > 8) = true then some true
 else some (decide (len a0.Consumers > 16)))
 fun x1 =>
 if x1 = true then some 2
 else
 Option.bind
 (Option.bind (dynposref15_breakers a0) fun x2 =>
 if (!x2) = true then some true
 else
 Option.bind (dynposref15_sources a0) fun x3 =>
 if (!x3) = true then some true
 else
 Option.bind (dynposref15_consumers a0) fun x4 =>
 if (!x4) = true then some true
 else
 if decide (a0.Phase < 0) = true then some true
 else
 if decide (a0.Phase > 1800) = true then some true
 else
 if decide (a0.Frequency < 0) = true then some true
 else some (decide (a0.Frequency > 6000)))
 fun x5 => if x5 = true then some 14 else some 0
noncomputable def c51 : Con D := ⟨51, z17, z9, z21, [], z10, [], fun h => dynposref15_Check ⟨h.1, h.2.1, h.2.2.1, h.2.2.2.1, h.2.2.2.2.1, h.2.2.2.2.2⟩⟩
theorem c51_ok : CK c51 := fo [c91, c92, c93] [.tmp 2] (.n none .o (.n none (.n none (.r (some (true, [(.normal, ⟨[.lf .bool], [(28, .one (.h 0 []))], [], [], 2192⟩)])) .nil) .o) (.n none (.n none (.r (some (true, [(.normal, ⟨[.lf .bool], [(61, .one (.h 0 []))], [], [], 2257⟩)])) .nil) .o) .o))) ⟨c91_ok, c92_ok, c93_ok, trivial⟩ Tryz.call51 Tryz.func51 rfl rfl (by kernel_rfl) fun h => by kernel_rfl
noncomputable def dynposref18_Order_L2 (a0 : Board) (x2 : Int ×
 List
 Int) : Int × List Int →
 Option
 (Int × List Int ⊕
 List
 Int) := fun x3 =>
 if decide (x3.1 < len a0.Consumers) = true then
 Option.bind (idx a0.Consumers x3.1) fun x4 =>
 Option.bind
 (if (x4.Preference == x2.1) = true then Option.bind (app x3.2 [x3.1]) fun x5 => some x5 else some x3.2)
 fun x6 => some (.inl (W (x3.1 + 1), x6))
 else some (.inr x3.2)
noncomputable def dynposref18_Order_L1 (a0 : Board) : Int × List Int →
 Option
 (Int × List Int ⊕
 List
 Int) := fun x2 =>
 if decide (x2.1 ≤ 15) = true then
 Option.bind (loopO (dynposref18_Order_L2 a0 x2) (0, x2.2)) fun x7 =>
 some (.inl (W (x2.1 + 1), x7))
 else some (.inr x2.2)
noncomputable def dynposref18_Order (a0 : Board) : Option ((List Int)) :=
 Option.bind (dynposref15_Check a0) fun x1 =>
 if (x1 != 0) = true then some []
 else Option.bind (loopO (dynposref18_Order_L1 a0) (0, [])) fun x8 => some x8
noncomputable def c28 : Con D := ⟨28, z17, z28, z21, [], z49, z29, fun h => dynposref18_Order ⟨h.1, h.2.1, h.2.2.1, h.2.2.2.1, h.2.2.2.2.1, h.2.2.2.2.2⟩⟩
theorem c28_ok : CK c28 := fo [c51] [.tmp 2] (.n none .o (.n none .o (.n none .o (.n none (.n none .o (.n none (.loop ⟨z24, [(3, .one (.own 2448)), (4, .one (.h 0 []))], [(2448, .sl 0 3 1 [])], [], 2512⟩ true [(.exit 0, ⟨z28, [(3, .one (.own 2448))], [(2448, .sl 0 3 0 [])], [], 2512⟩)] (.n none .o (.n none (.n none (.n none .o (.n none (.loop ⟨z24, [(3, .one (.own 2898)), (17, .one (.h 0 []))], [(2898, .sl 0 3 1 [])], [2448], 2962⟩ true [(.exit 2, ⟨z28, [(3, .one (.own 2898))], [(2898, .sl 0 3 0 [])], [2448], 2962⟩)] (.n none .o (.n none .o (.n none (.n none (.n none .o (.n none .o (.n (some (true, [(.normal, ⟨z28, [(3, .one (.own 3668))], [(3668, .sl 0 3 0 [])], [2898], 3732⟩)])) .o .o))) .o) .o)))) .o)) .o) .o))) .o)) .o)))) ⟨c51_ok, trivial⟩ Tryz.call28 Tryz.func28 rfl rfl (by kernel_rfl) fun h => by kernel_rfl
noncomputable def dynposref15_Copy (a0 : Power) : Option ((List Bool) × (List Running) × (List Int) × (List Part)) :=
 Option.bind (app [] a0.Closed) fun x1 =>
 Option.bind (app [] a0.Sources) fun x2 =>
 Option.bind (app [] a0.Limits) fun x3 => Option.bind (app [] a0.Broken) fun x4 => some (x1, x2, x3, x4)
noncomputable def c39 : Con D := ⟨39, z38, z38, [.agg [.h 0 [0], .h 1 [0], .h 2 [0], .h 3 [0]]], [], z70, z44, fun h => dynposref15_Copy ⟨h.1, h.2.1, h.2.2.1, h.2.2.2⟩⟩
theorem c39_ok : CK c39 := fo [] [.cell 2 34] .o trivial Tryz.call39 Tryz.func39 rfl rfl (by kernel_rfl) fun h => by kernel_rfl
noncomputable def Src_Odd (a0 : Src) : Option (Int × (List Int) × Int) :=
 Option.bind
 (Src_Pick a0
 [(-1), 0, 1, 4611686018427387904, (-4611686018427387904),
 9223372036854775807, (-9223372036854775808), 1000000000, 1000000001,
 (-1000000001), 3600, 1800, 100000000, 100000001,
 5001])
 fun x1 => some (x1.1, x1.2.1, x1.2.2.1)
noncomputable def c61 : Con D := ⟨61, z35, z43, z68, z42, z10, z50, fun h => Src_Odd ⟨h.1, h.2⟩⟩
theorem c61_ok : CK c61 := fo [c79_1] [.tmp 2] .o ⟨c79_1_ok, trivial⟩ Tryz.call61 Tryz.func61 rfl rfl (by kernel_rfl) fun h => by kernel_rfl
noncomputable def dynposref15_Before (a0 : Part) (a1 : Part) : Option (Bool) :=
 Option.bind
 (if decide (a0.Kind < a1.Kind) = true then some true
 else if (a0.Kind == a1.Kind) = true then some (decide (a0.Number < a1.Number)) else some false)
 fun x1 => some x1
noncomputable def c54 : Con D := ⟨54, z54, [.lf .bool], [.agg [.h 0 [], .h 1 []], .agg [.h 2 [], .h 3 []]], [], z10, [], fun h => dynposref15_Before ⟨h.1, h.2.1⟩ ⟨h.2.2.1, h.2.2.2⟩⟩
theorem c54_ok : CK c54 := fo [] [.tmp 4] (.n none .o (.n none (.r (some (true, [(.normal, ⟨[.lf .bool], z66, [], [], 2256⟩)])) .nil) .o)) trivial Tryz.call54 Tryz.func54 rfl rfl (by kernel_rfl) fun h => by kernel_rfl
noncomputable def dynposref15_State_L1 (a1 : Power) : Int →
 Option
 (Int ⊕
 Unit ⊕
 Int) := fun x3 =>
 if decide (x3 < len a1.Sources) = true then
 Option.bind (idx a1.Sources x3) fun x4 =>
 Option.bind
 (Option.bind (dynposref15_within x4.State 0 3) fun x5 =>
 if (!x5) = true then some true
 else
 Option.bind (dynposref15_within x4.Since 0 2147483648) fun x6 =>
 if (!x6) = true then some true
 else
 Option.bind (dynposref15_within x4.Frequency 0 6000) fun x7 =>
 if (!x7) = true then some true
 else Option.bind (dynposref15_within x4.Phase 0 3599) fun x8 => some !x8)
 fun x9 => if x9 = true then some (.inr (.inr 11)) else some (.inl (W (x3 + 1)))
 else some (.inr (.inl ()))
noncomputable def dynposref15_State_L2 (a0 : Board) (a1 : Power) : Int →
 Option
 (Int ⊕
 Unit ⊕
 Int) := fun x12 =>
 if decide (x12 < len a1.Limits) = true then
 Option.bind (idx a1.Limits x12) fun x13 =>
 Option.bind (idx a0.Consumers x12) fun x14 =>
 Option.bind (dynposref15_within x13 0 x14.Load) fun x15 =>
 if (!x15) = true then some (.inr (.inr 11)) else some (.inl (W (x12 + 1)))
 else some (.inr (.inl ()))
noncomputable def dynposref15_State_L3 (a0 : Board) (a1 : Power) : Int →
 Option
 (Int ⊕
 Unit ⊕
 Int) := fun x18 =>
 if decide (x18 < len a1.Broken) = true then
 Option.bind (idx a1.Broken x18) fun x19 =>
 Option.bind
 (Option.bind (dynposref15_Exists a0 x19) fun x20 =>
 if (!x20) = true then some true
 else
 if decide (x18 > 0) = true then
 Option.bind (idx a1.Broken (W (x18 - 1))) fun x21 =>
 Option.bind (dynposref15_Before x21 x19) fun x22 => some !x22
 else some false)
 fun x23 =>
 if x23 = true then some (.inr (.inr 11)) else some (.inl (W (x18 + 1)))
 else some (.inr (.inl ()))
noncomputable def dynposref15_State_L5 (a1 : Power) (x27 : List
 Int) : Int × Int →
 Option
 (Int × Int ⊕
 Int) := fun x28 =>
 if decide (x28.2 < len x27) = true then
 Option.bind (idx x27 x28.2) fun x29 =>
 Option.bind (idx a1.Closed x29) fun x30 =>
 Option.bind (if x30 = true then some (W (x28.1 + 1)) else some x28.1) fun x31 =>
 some (.inl (x31, W (x28.2 + 1)))
 else some (.inr x28.1)
noncomputable def dynposref15_State_L4 (a0 : Board) (a1 : Power) : Int →
 Option
 (Int ⊕
 Unit ⊕
 Int) := fun x26 =>
 if decide (x26 < len a0.Consumers) = true then
 Option.bind (dynposref15_of a0 3 x26) fun x27 =>
 Option.bind (loopO (dynposref15_State_L5 a1 x27) (0, 0)) fun x32 =>
 if decide (x32 > 1) = true then some (.inr (.inr 11))
 else some (.inl (W (x26 + 1)))
 else some (.inr (.inl ()))
noncomputable def dynposref15_State (a0 : Board) (a1 : Power) : Option (Int) :=
 Option.bind (dynposref15_Check a0) fun x1 =>
 if (x1 != 0) = true then some x1
 else
 Option.bind
 (if (len a1.Closed != len a0.Breakers) = true then some true
 else if (len a1.Sources != len a0.Sources) = true then some true else some (len a1.Limits != len a0.Consumers))
 fun x2 =>
 if x2 = true then some 8
 else
 Option.bind (loopO (dynposref15_State_L1 a1) 0) fun x10 =>
 Sum.elim
 (fun x11 =>
 Option.bind (loopO (dynposref15_State_L2 a0 a1) 0) fun x16 =>
 Sum.elim
 (fun x17 =>
 if decide (len a1.Broken > 32) = true then some 11
 else
 Option.bind (loopO (dynposref15_State_L3 a0 a1) 0) fun x24 =>
 Sum.elim
 (fun x25 =>
 Option.bind (loopO (dynposref15_State_L4 a0 a1) 0) fun x33 =>
 Sum.elim (fun x34 => some 0) (fun x35 => some x35) x33)
 (fun x36 => some x36) x24)
 (fun x37 => some x37) x16)
 (fun x38 => some x38) x10
noncomputable def c23 : Con D := ⟨23, z1, z9, z5, [], z10, [], fun h => dynposref15_State ⟨h.1, h.2.1, h.2.2.1, h.2.2.2.1, h.2.2.2.2.1, h.2.2.2.2.2.1⟩ ⟨h.2.2.2.2.2.2.1, h.2.2.2.2.2.2.2.1, h.2.2.2.2.2.2.2.2.1, h.2.2.2.2.2.2.2.2.2⟩⟩
theorem c23_ok : CK c23 := fo [c51, c52, c53, c54, c55] [.tmp 4] (.n none .o (.n none .o (.n none (.n none (.r (some (true, [(.normal, ⟨[.lf .bool], [(45, .one (.h 0 []))], [], [], 2576⟩)])) .nil) .o) (.n none (.n none .o (.n none (.loop ⟨z9, [(49, .one (.h 0 []))], [], [], 2897⟩ false [(.exit 0, ⟨[], [], [], [], 2897⟩)] (.n none .o (.n none .o (.n none (.n none (.n none .o (.n none (.r (some (true, [(.normal, ⟨[.lf .bool], [(58, .one (.any)), (59, .one (.any)), (60, .one (.any)), (61, .one (.any)), (64, .one (.any)), (65, .one (.any)), (66, .one (.any)), (67, .one (.any)), (70, .one (.any)), (71, .one (.any)), (72, .one (.any)), (73, .one (.any)), (74, .one (.h 0 []))], [], [], 3282⟩)])) .nil) .o)) .o) .o)))) .o)) (.n none (.n none .o (.n none (.loop ⟨z9, [(79, .one (.h 0 []))], [], [], 3217⟩ false [(.exit 2, ⟨[], [], [], [], 3217⟩)] .o) .o)) (.n none .o (.n none (.n none .o (.n none (.loop ⟨z9, [(101, .one (.h 0 []))], [], [], 3793⟩ false [(.exit 4, ⟨[], [], [], [], 3793⟩)] (.n none .o (.n none .o (.n none (.n none (.n none .o (.n none (.r (some (true, [(.normal, ⟨[.lf .bool], [(111, .one (.any)), (112, .one (.any)), (113, .one (.any)), (114, .one (.any)), (115, .one (.any)), (116, .one (.any)), (117, .one (.any)), (118, .one (.any)), (119, .one (.any)), (120, .one (.any)), (121, .one (.any)), (122, .one (.any)), (123, .one (.any)), (124, .one (.h 0 []))], [], [], 4306⟩)])) .nil) .o)) .o) .o)))) .o)) (.n none (.n none .o (.n none (.loop ⟨z9, [(129, .one (.h 0 []))], [], [], 4113⟩ false [(.exit 6, ⟨[], [], [], [], 4113⟩)] (.n none .o (.n none .o (.n none (.n none (.n none .o (.n none .o (.n none (.n none .o (.n none (.loop ⟨z41, [(13, .one (.h 0 [])), (136, .one (.h 1 []))], [], [], 4754⟩ true [(.exit 8, ⟨z9, [(13, .one (.h 0 []))], [], [], 4754⟩)] (.n none .o (.n none .o (.n none (.n none (.n none .o (.n none .o (.n (some (true, [(.normal, ⟨z9, [(13, .one (.h 0 []))], [], [], 5396⟩)])) .o .o))) .o) .o)))) .o)) .o))) .o) .o)))) .o)) .o)))))))) ⟨c51_ok, c52_ok, c53_ok, c54_ok, c55_ok, trivial⟩ Tryz.call23 Tryz.func23 rfl rfl (by kernel_rfl) fun h => by kernel_rfl
noncomputable def dynposref15_Fed_L1 (a0 : Board) (a1 : Power) (x3 : List
 Int) : Int →
 Option
 (Int ⊕
 Unit ⊕
 Int ×
 Bool) := fun x4 =>
 if decide (x4 < len x3) = true then
 Option.bind (idx x3 x4) fun x5 =>
 Option.bind (idx a1.Closed x5) fun x6 =>
 if x6 = true then Option.bind (idx a0.Breakers x5) fun x7 => some (.inr (.inr (x7.A, true)))
 else some (.inl (W (x4 + 1)))
 else some (.inr (.inl ()))
noncomputable def dynposref15_Fed (a0 : Board) (a1 : Power) (a2 : Int) : Option (Int × Bool) :=
 Option.bind
 (Option.bind (dynposref15_State a0 a1) fun x1 =>
 if (x1 != 0) = true then some true
 else if decide (a2 < 0) = true then some true else some (decide (a2 ≥ len a0.Consumers)))
 fun x2 =>
 if x2 = true then some (0, false)
 else
 Option.bind (dynposref15_of a0 3 a2) fun x3 =>
 Option.bind (loopO (dynposref15_Fed_L1 a0 a1 x3) 0) fun x8 =>
 Sum.elim (fun x9 => some (0, false)) (fun x10 => some x10) x8
noncomputable def c26 : Con D := ⟨26, z0, z58, z2, [], z37, [], fun h => dynposref15_Fed ⟨h.1, h.2.1, h.2.2.1, h.2.2.2.1, h.2.2.2.2.1, h.2.2.2.2.2.1⟩ ⟨h.2.2.2.2.2.2.1, h.2.2.2.2.2.2.2.1, h.2.2.2.2.2.2.2.2.1, h.2.2.2.2.2.2.2.2.2.1⟩ h.2.2.2.2.2.2.2.2.2.2⟩
theorem c26_ok : CK c26 := fo [c23, c55] [.tmp 6, .tmp 7] (.n none .o (.n none (.n none (.r (some (true, [(.normal, ⟨[.lf .bool], [(24, .one (.h 0 []))], [], [], 2320⟩)])) .nil) .o) (.n none (.n none .o (.n none (.loop ⟨z9, [(29, .one (.h 0 []))], [], [], 2705⟩ false [(.exit 0, ⟨[], [], [], [], 2705⟩)] .o) .o)) .o))) ⟨c23_ok, c55_ok, trivial⟩ Tryz.call26 Tryz.func26 rfl rfl (by kernel_rfl) fun h => by kernel_rfl
noncomputable def dynposref15_reach_L2 (a0 : Board) (a1 : Power) : Int × List Bool →
 Option
 (Int × List Bool ⊕
 List
 Bool) := fun x6 =>
 if decide (x6.1 < len a0.Breakers) = true then
 Option.bind (idx a0.Breakers x6.1) fun x7 =>
 Option.bind
 (if (x7.Kind == 1) = true then
 Option.bind (idx a1.Closed x6.1) fun x8 =>
 if x8 = true then
 Option.bind (idx x6.2 x7.A) fun x9 =>
 if x9 = true then some true else Option.bind (idx x6.2 x7.B) fun x10 => some x10
 else some false
 else some false)
 fun x11 =>
 Option.bind
 (if x11 = true then
 Option.bind (idx x6.2 x7.A) fun x12 =>
 Option.bind (idx x6.2 x7.A) fun x13 =>
 Option.bind (setO x6.2 x7.A true) fun x14 =>
 Option.bind (idx x14 x7.B) fun x15 =>
 Option.bind (idx x14 x7.B) fun x16 => Option.bind (setO x14 x7.B true) fun x17 => some x17
 else some x6.2)
 fun x18 => some (.inl (W (x6.1 + 1), x18))
 else some (.inr x6.2)
noncomputable def dynposref15_reach_L1 (a0 : Board) (a1 : Power) (x4 : List
 Bool) : Int × List Bool →
 Option
 (Int × List Bool ⊕
 List
 Bool) := fun x5 =>
 if decide (x5.1 < len x4) = true then
 Option.bind (loopO (dynposref15_reach_L2 a0 a1) (0, x5.2)) fun x19 =>
 some (.inl (W (x5.1 + 1), x19))
 else some (.inr x5.2)
noncomputable def dynposref15_reach_L3 (x20 : List
 Bool) : Int × List Int →
 Option
 (Int × List Int ⊕
 List
 Int) := fun x21 =>
 if decide (x21.1 < len x20) = true then
 Option.bind (idx x20 x21.1) fun x22 =>
 Option.bind (if x22 = true then Option.bind (app x21.2 [x21.1]) fun x23 => some x23 else some x21.2)
 fun x24 => some (.inl (W (x21.1 + 1), x24))
 else some (.inr x21.2)
noncomputable def dynposref15_reach (a0 : Board) (a1 : Power) (a2 : Int) : Option ((List Int)) :=
 Option.bind (mkZ false a0.Buses) fun x1 =>
 Option.bind (idx x1 a2) fun x2 =>
 Option.bind (idx x1 a2) fun x3 =>
 Option.bind (setO x1 a2 true) fun x4 =>
 Option.bind (loopO (dynposref15_reach_L1 a0 a1 x4) (0, x4)) fun x20 =>
 Option.bind (loopO (dynposref15_reach_L3 x20) (0, [])) fun x25 => some x25
noncomputable def c85 : Con D := ⟨85, z0, z28, z2, [], z49, z29, fun h => dynposref15_reach ⟨h.1, h.2.1, h.2.2.1, h.2.2.2.1, h.2.2.2.2.1, h.2.2.2.2.2.1⟩ ⟨h.2.2.2.2.2.2.1, h.2.2.2.2.2.2.2.1, h.2.2.2.2.2.2.2.2.1, h.2.2.2.2.2.2.2.2.2.1⟩ h.2.2.2.2.2.2.2.2.2.2⟩
theorem c85_ok : CK c85 := fo [] [.tmp 6] (.n none .o (.n none .o (.n none .o (.n none (.n none .o (.n none (.loop ⟨[.lf (.int .i64), .lf (.sl 1)], [(20, .one (.h 0 []))], [(2320, .sl 1 4 1 [])], [2320], 2960⟩ true [(.exit 0, ⟨[.lf (.sl 1)], [], [(2320, .sl 1 4 0 [])], [2320], 2960⟩)] (.n none .o (.n none .o (.n none (.n none (.n none .o (.n none (.loop ⟨[.lf (.int .i64), .lf (.sl 1)], [(25, .one (.h 0 []))], [(2320, .sl 1 4 1 [])], [2320], 3346⟩ true [(.exit 2, ⟨[.lf (.sl 1)], [], [(2320, .sl 1 4 0 [])], [2320], 3346⟩)] (.n none .o (.n none .o (.n none (.n none (.n none .o (.n none (.r (some (true, [(.normal, ⟨[.lf .bool], [(34, .one (.any)), (35, .one (.any)), (36, .one (.any)), (37, .one (.any)), (38, .one (.any)), (41, .one (.any)), (42, .one (.any)), (43, .one (.any)), (44, .one (.any)), (45, .one (.any)), (46, .one (.any)), (47, .one (.any)), (48, .one (.any)), (49, .one (.any)), (50, .one (.any)), (51, .one (.any)), (52, .one (.any)), (53, .one (.h 0 []))], [], [], 3860⟩)])) .nil) (.n (some (true, [(.normal, ⟨[.lf (.sl 1)], [], [(2320, .sl 1 4 0 [])], [2320], 3925⟩)])) .o .o))) .o) .o)))) .o)) .o) .o)))) .o)) (.n none .o (.n none (.n none .o (.n none (.loop ⟨z24, [(10, .one (.own 3217)), (66, .one (.h 0 []))], [(3217, .sl 0 3 1 [])], [], 3281⟩ true [(.exit 4, ⟨z28, [(10, .one (.own 3217))], [(3217, .sl 0 3 0 [])], [], 3281⟩)] (.n none .o (.n none .o (.n none (.n none (.n none .o (.n none .o (.n (some (true, [(.normal, ⟨z28, [(10, .one (.own 3731))], [(3731, .sl 0 3 0 [])], [3217], 3795⟩)])) .o .o))) .o) .o)))) .o)) .o)))))) trivial Tryz.call85 Tryz.func85 rfl rfl (by kernel_rfl) fun h => by kernel_rfl
noncomputable def dynposref15_Connected (a0 : Board) (a1 : Power) (a2 : Int) : Option (Int × Bool) :=
 Option.bind
 (Option.bind (dynposref15_State a0 a1) fun x1 =>
 if (x1 != 0) = true then some true
 else
 if decide (a2 < 0) = true then some true
 else
 if decide (a2 ≥ len a0.Sources) = true then some true
 else Option.bind (idx a1.Sources a2) fun x2 => some (x2.State != 2))
 fun x3 =>
 if x3 = true then some (0, false)
 else
 Option.bind (dynposref15_of a0 2 a2) fun x4 =>
 Option.bind (idx x4 0) fun x5 =>
 Option.bind (idx a1.Closed x5) fun x6 =>
 if (!x6) = true then some (0, false)
 else Option.bind (idx a0.Breakers x5) fun x7 => some (x7.A, true)
noncomputable def c86 : Con D := ⟨86, z0, z58, z2, [], z37, [], fun h => dynposref15_Connected ⟨h.1, h.2.1, h.2.2.1, h.2.2.2.1, h.2.2.2.2.1, h.2.2.2.2.2.1⟩ ⟨h.2.2.2.2.2.2.1, h.2.2.2.2.2.2.2.1, h.2.2.2.2.2.2.2.2.1, h.2.2.2.2.2.2.2.2.2.1⟩ h.2.2.2.2.2.2.2.2.2.2⟩
theorem c86_ok : CK c86 := fo [c23, c55] [.tmp 6, .tmp 7] (.n none .o (.n none (.n none (.r (some (true, [(.normal, ⟨[.lf .bool], [(32, .one (.h 0 []))], [], [], 2320⟩)])) .nil) .o) .o)) ⟨c23_ok, c55_ok, trivial⟩ Tryz.call86 Tryz.func86 rfl rfl (by kernel_rfl) fun h => by kernel_rfl
noncomputable def dynposref01_Has_L1 (a0 : List
 Int) (a1 : Int) : Int →
 Option
 (Int ⊕
 Unit ⊕
 Bool) := fun x1 =>
 if decide (x1 < len a0) = true then
 Option.bind (idx a0 x1) fun x2 =>
 if (x2 == a1) = true then some (.inr (.inr true)) else some (.inl (W (x1 + 1)))
 else some (.inr (.inl ()))
noncomputable def dynposref01_Has (a0 : (List Int)) (a1 : Int) : Option (Bool) :=
 Option.bind (loopO (dynposref01_Has_L1 a0 a1) 0) fun x3 =>
 Sum.elim (fun x4 => some false) (fun x5 => some x5) x3
noncomputable def c25 : Con D := ⟨25, z35, [.lf .bool], [.one (.h 0 [0]), .one (.h 1 [])], [], z10, [], fun h => dynposref01_Has h.1 h.2⟩
theorem c25_ok : CK c25 := fo [] [.tmp 4] (.n none .o (.n none (.n none .o (.n none (.loop ⟨z9, [(9, .one (.h 0 []))], [], [], 2320⟩ false [(.exit 0, ⟨[], [], [], [], 2320⟩)] .o) .o)) .o)) trivial Tryz.call25 Tryz.func25 rfl rfl (by kernel_rfl) fun h => by kernel_rfl
noncomputable def dynposref15_Of_L1 (a0 : Board) (a1 : Power) (x3 : List
 Int) : Int × List Int →
 Option
 (Int × List Int ⊕
 List
 Int) := fun x4 =>
 if decide (x4.1 < len a0.Sources) = true then
 Option.bind (dynposref15_Connected a0 a1 x4.1) fun x5 =>
 Option.bind (if x5.2 = true then Option.bind (dynposref01_Has x3 x5.1) fun x6 => some x6 else some false)
 fun x7 =>
 Option.bind (if x7 = true then Option.bind (app x4.2 [x4.1]) fun x8 => some x8 else some x4.2) fun x9 =>
 some (.inl (W (x4.1 + 1), x9))
 else some (.inr x4.2)
noncomputable def dynposref15_Of_L2 (a0 : Board) (a1 : Power) (x3 : List
 Int) : Int × List Int →
 Option
 (Int × List Int ⊕
 List
 Int) := fun x11 =>
 if decide (x11.1 < len a0.Consumers) = true then
 Option.bind (dynposref15_Fed a0 a1 x11.1) fun x12 =>
 Option.bind (if x12.2 = true then Option.bind (dynposref01_Has x3 x12.1) fun x13 => some x13 else some false)
 fun x14 =>
 Option.bind (if x14 = true then Option.bind (app x11.2 [x11.1]) fun x15 => some x15 else some x11.2)
 fun x16 => some (.inl (W (x11.1 + 1), x16))
 else some (.inr x11.2)
noncomputable def dynposref15_Of (a0 : Board) (a1 : Power) (a2 : Int) : Option (Bool × (List Int) × (List Int) × (List Int)) :=
 Option.bind
 (Option.bind (dynposref15_State a0 a1) fun x1 =>
 if (x1 != 0) = true then some true
 else if decide (a2 < 0) = true then some true else some (decide (a2 ≥ a0.Buses)))
 fun x2 =>
 if x2 = true then some (false, [], [], [])
 else
 Option.bind (dynposref15_reach a0 a1 a2) fun x3 =>
 Option.bind (loopO (dynposref15_Of_L1 a0 a1 x3) (0, [])) fun x10 =>
 Option.bind (loopO (dynposref15_Of_L2 a0 a1 x3) (0, [])) fun x17 => some (true, x3, x10, x17)
noncomputable def c46 : Con D := ⟨46, z0, [.lf .bool, .lf (.sl 0), .lf (.sl 0), .lf (.sl 0)], z2, [], [.agg [.own 1000, .own 1001, .own 1002], .one (.h 0 [])], [(1000, .sl 0 3 1 []), (1001, .sl 0 3 2 []), (1002, .sl 0 3 3 [])], fun h => dynposref15_Of ⟨h.1, h.2.1, h.2.2.1, h.2.2.2.1, h.2.2.2.2.1, h.2.2.2.2.2.1⟩ ⟨h.2.2.2.2.2.2.1, h.2.2.2.2.2.2.2.1, h.2.2.2.2.2.2.2.2.1, h.2.2.2.2.2.2.2.2.2.1⟩ h.2.2.2.2.2.2.2.2.2.2⟩
theorem c46_ok : CK c46 := fo [c23, c25, c26, c85, c86] [.cell 6 54, .tmp 7] (.n none .o (.n none (.n none (.r (some (true, [(.normal, ⟨[.lf .bool], [(28, .one (.h 0 []))], [], [], 2320⟩)])) .nil) .o) (.n none .o (.n none (.n none .o (.n none (.loop ⟨z24, [(38, .one (.h 0 []))], [(2641, .box [.own 2521, .own 3025, .nils]), (3025, .sl 0 3 1 [])], [2641], 3089⟩ true [(.exit 0, ⟨z28, [], [(2641, .box [.own 2521, .own 3025, .nils]), (3025, .sl 0 3 0 [])], [2641], 3089⟩)] (.n none .o (.n none .o (.n none (.n none (.n none .o (.n none .o (.n none (.r (some (true, [(.normal, ⟨[.lf .bool], [(50, .one (.any)), (51, .one (.any)), (52, .one (.any)), (53, .one (.any)), (54, .one (.h 0 []))], [], [], 3923⟩)])) .nil) (.n (some (true, [(.normal, ⟨z28, [], [(2641, .box [.own 2521, .own 3924, .nils]), (3924, .sl 0 3 0 [])], [2641, 3025], 3988⟩)])) .o .o)))) .o) .o)))) .o)) (.n none (.n none .o (.n none (.loop ⟨z24, [(65, .one (.h 0 []))], [(2641, .box [.own 2521, .own 3025, .own 3346]), (3346, .sl 0 3 1 [])], [2641], 3410⟩ true [(.exit 2, ⟨z28, [], [(2641, .box [.own 2521, .own 3025, .own 3346]), (3346, .sl 0 3 0 [])], [2641], 3410⟩)] (.n none .o (.n none .o (.n none (.n none (.n none .o (.n none .o (.n none (.r (some (true, [(.normal, ⟨[.lf .bool], [(77, .one (.any)), (78, .one (.any)), (79, .one (.any)), (80, .one (.any)), (81, .one (.h 0 []))], [], [], 4244⟩)])) .nil) (.n (some (true, [(.normal, ⟨z28, [], [(2641, .box [.own 2521, .own 3025, .own 4245]), (4245, .sl 0 3 0 [])], [2641, 3346], 4309⟩)])) .o .o)))) .o) .o)))) .o)) .o))))) ⟨c23_ok, c25_ok, c26_ok, c85_ok, c86_ok, trivial⟩ Tryz.call46 Tryz.func46 rfl rfl (by kernel_rfl) fun h => by kernel_rfl
noncomputable def dynposref15_Live (a0 : Board) (a1 : Power) (a2 : Int) : Option (Bool) :=
 Option.bind (dynposref15_Of a0 a1 a2) fun x1 =>
 Option.bind (if x1.1 = true then some (decide (len x1.2.2.1 > 0)) else some false) fun x2 =>
 some x2
noncomputable def c15 : Con D := ⟨15, z0, [.lf .bool], z2, [], z10, [], fun h => dynposref15_Live ⟨h.1, h.2.1, h.2.2.1, h.2.2.2.1, h.2.2.2.2.1, h.2.2.2.2.2.1⟩ ⟨h.2.2.2.2.2.2.1, h.2.2.2.2.2.2.2.1, h.2.2.2.2.2.2.2.2.1, h.2.2.2.2.2.2.2.2.2.1⟩ h.2.2.2.2.2.2.2.2.2.2⟩
theorem c15_ok : CK c15 := fo [c46] [.tmp 6] (.n none .o (.n none .o (.n none (.r (some (true, [(.normal, ⟨[.lf .bool], [(6, .one (.h 0 []))], [], [], 2896⟩)])) .nil) .o))) ⟨c46_ok, trivial⟩ Tryz.call15 Tryz.func15 rfl rfl (by kernel_rfl) fun h => by kernel_rfl
noncomputable def dynposref15_Broken_L1 (a0 : Power) (a1 : Int) (a2 : Int) : Int →
 Option
 (Int ⊕
 Unit ⊕
 Bool) := fun x1 =>
 if decide (x1 < len a0.Broken) = true then
 Option.bind (idx a0.Broken x1) fun x2 =>
 Option.bind (if (x2.Kind == a1) = true then some (x2.Number == a2) else some false) fun x3 =>
 if x3 = true then some (.inr (.inr true)) else some (.inl (W (x1 + 1)))
 else some (.inr (.inl ()))
noncomputable def dynposref15_Broken (a0 : Power) (a1 : Int) (a2 : Int) : Option (Bool) :=
 Option.bind (loopO (dynposref15_Broken_L1 a0 a1 a2) 0) fun x4 =>
 Sum.elim (fun x5 => some false) (fun x6 => some x6) x4
noncomputable def c14 : Con D := ⟨14, [.lf (.sl 1), .lf (.sl 8), .lf (.sl 0), .lf (.sl 9), .lf (.int .i64), .lf (.int .i64)], [.lf .bool], [.agg [.h 0 [0], .h 1 [0], .h 2 [0], .h 3 [0]], .one (.h 4 []), .one (.h 5 [])], [], z10, [], fun h => dynposref15_Broken ⟨h.1, h.2.1, h.2.2.1, h.2.2.2.1⟩ h.2.2.2.2.1 h.2.2.2.2.2⟩
theorem c14_ok : CK c14 := fo [] [.tmp 6] (.n none .o (.n none (.n none .o (.n none (.loop ⟨z9, [(12, .one (.h 0 []))], [], [], 2448⟩ false [(.exit 0, ⟨[], [], [], [], 2448⟩)] (.n none .o (.n none .o (.n none (.n none (.n none .o (.n none (.r (some (true, [(.normal, ⟨[.lf .bool], [(21, .one (.any)), (22, .one (.any)), (23, .one (.any)), (24, .one (.any)), (25, .one (.h 0 []))], [], [], 2833⟩)])) .nil) .o)) .o) .o)))) .o)) .o)) trivial Tryz.call14 Tryz.func14 rfl rfl (by kernel_rfl) fun h => by kernel_rfl
noncomputable def dynposref18_Served_L1 (F : (Board) → (Power) → (Int) → Option (Bool)) (a0 : Board) (a1 : Power) (x7 : Consumer) : Int →
 Option
 (Int ⊕
 Unit ⊕
 Bool) := fun x8 =>
 if decide (x8 < len x7.Needs) = true then
 Option.bind (idx x7.Needs x8) fun x9 =>
 Option.bind (F a0 a1 x9) fun x10 =>
 if (!x10) = true then some (.inr (.inr false)) else some (.inl (W (x8 + 1)))
 else some (.inr (.inl ()))
noncomputable def dynposref18_Served_S (F : (Board) → (Power) → (Int) → Option (Bool)) (a0 : Board) (a1 : Power) (a2 : Int) : Option (Bool) :=
 Option.bind (dynposref15_Fed a0 a1 a2) fun x1 =>
 Option.bind
 (if (!x1.2) = true then some true
 else
 Option.bind (dynposref15_Live a0 a1 x1.1) fun x2 =>
 if (!x2) = true then some true
 else
 Option.bind (dynposref15_Broken a1 4 a2) fun x3 =>
 if x3 = true then some true
 else
 Option.bind (idx a1.Limits a2) fun x4 =>
 Option.bind (idx a0.Consumers a2) fun x5 => some (decide (x4 < x5.Least)))
 fun x6 =>
 if x6 = true then some false
 else
 Option.bind (idx a0.Consumers a2) fun x7 =>
 Option.bind (loopO (dynposref18_Served_L1 F a0 a1 x7) 0) fun x11 =>
 Sum.elim (fun x12 => some true) (fun x13 => some x13) x11
noncomputable def dynposref18_Served_R (n : Nat) : (Board) → (Power) → (Int) → Option (Bool) := Nat.rec (motive := fun _ => (Board) → (Power) → (Int) → Option (Bool)) (fun _ _ _ => none) (fun _ F => dynposref18_Served_S F) n
noncomputable def dynposref18_Served (a0 : Board) (a1 : Power) (a2 : Int) : Option (Bool) := dynposref18_Served_R 64 a0 a1 a2
noncomputable def c32_k (n : Nat) : Con D := ⟨32, z0, [.lf .bool], z2, [], z10, [], fun h => dynposref18_Served_R n ⟨h.1, h.2.1, h.2.2.1, h.2.2.2.1, h.2.2.2.2.1, h.2.2.2.2.2.1⟩ ⟨h.2.2.2.2.2.2.1, h.2.2.2.2.2.2.2.1, h.2.2.2.2.2.2.2.2.1, h.2.2.2.2.2.2.2.2.2.1⟩ h.2.2.2.2.2.2.2.2.2.2⟩
noncomputable def c32 : Con D := c32_k 64
theorem c32_k_ok : ∀ n, ConOk Tryz.prog T (c32_k n)
 | 0 => none_ok Tryz.call32 rfl (fun h => rfl)
 | n + 1 => fo [c14, c15, c26, c32_k n] [.tmp 6] (.n none .o (.n none .o (.n none (.n none (.r (some (true, [(.normal, ⟨[.lf .bool], [(45, .one (.h 0 []))], [], [], 2832⟩)])) .nil) .o) (.n none (.n none .o (.n none (.loop ⟨z9, [(53, .one (.h 0 []))], [], [], 3409⟩ false [(.exit 0, ⟨[], [], [], [], 3409⟩)] .o) .o)) .o)))) ⟨c14_ok, c15_ok, c26_ok, c32_k_ok n, trivial⟩ Tryz.call32 Tryz.func32 rfl rfl (by kernel_rfl) fun h => by kernel_rfl
theorem c32_ok : CK c32 := c32_k_ok 64
noncomputable def dynposref18_wrong (a0 : Board) (a1 : Power) (a2 : Int) : Option (Bool) :=
 Option.bind (idx a0.Breakers a2) fun x1 =>
 Option.bind (dynposref15_Broken a1 3 x1.A) fun x2 =>
 if x2 = true then some true
 else
 if (x1.Kind == 1) = true then Option.bind (dynposref15_Broken a1 3 x1.B) fun x7 => some x7
 else
 if (x1.Kind == 2) = true then
 Option.bind
 (Option.bind (dynposref15_Broken a1 1 x1.B) fun x4 =>
 if x4 = true then some true
 else Option.bind (idx a1.Sources x1.B) fun x5 => some (x5.State != 2))
 fun x6 => some x6
 else Option.bind (dynposref15_Broken a1 4 x1.B) fun x3 => some x3
noncomputable def c49 : Con D := ⟨49, z0, [.lf .bool], z2, [], z10, [], fun h => dynposref18_wrong ⟨h.1, h.2.1, h.2.2.1, h.2.2.2.1, h.2.2.2.2.1, h.2.2.2.2.2.1⟩ ⟨h.2.2.2.2.2.2.1, h.2.2.2.2.2.2.2.1, h.2.2.2.2.2.2.2.2.1, h.2.2.2.2.2.2.2.2.2.1⟩ h.2.2.2.2.2.2.2.2.2.2⟩
theorem c49_ok : CK c49 := fo [c14] [.tmp 6] (.n none .o (.n none .o (.n none .o (.n none (.n none .o (.n none (.n none .o (.n none .o (.n none .o (.n none (.n none (.r (some (true, [(.normal, ⟨[.lf .bool], [(6, .one (.h 0 []))], [], [], 3344⟩)])) .nil) .o) .o)))) .o)) .o)))) ⟨c14_ok, trivial⟩ Tryz.call49 Tryz.func49 rfl rfl (by kernel_rfl) fun h => by kernel_rfl
noncomputable def dynposref15_Islands_L1 (a0 : Board) (a1 : Power) : Int × List Island →
 Option
 (Int × List Island ⊕
 List
 Island) := fun x2 =>
 if decide (x2.1 < a0.Buses) = true then
 Option.bind (dynposref15_Of a0 a1 x2.1) fun x3 =>
 Option.bind (idx x3.2.1 0) fun x4 =>
 Option.bind
 (if (x4 == x2.1) = true then
 Option.bind (app x2.2 [Island.mk x3.2.1 x3.2.2.1 x3.2.2.2]) fun x5 => some x5
 else some x2.2)
 fun x6 => some (.inl (W (x2.1 + 1), x6))
 else some (.inr x2.2)
noncomputable def dynposref15_Islands (a0 : Board) (a1 : Power) : Option ((List Island)) :=
 Option.bind (dynposref15_State a0 a1) fun x1 =>
 if (x1 != 0) = true then some []
 else Option.bind (loopO (dynposref15_Islands_L1 a0 a1) (0, [])) fun x7 => some x7
noncomputable def c18 : Con D := ⟨18, z1, z65, z5, [], z49, [(1000, .sl 13 54 0 [1])], fun h => dynposref15_Islands ⟨h.1, h.2.1, h.2.2.1, h.2.2.2.1, h.2.2.2.2.1, h.2.2.2.2.2.1⟩ ⟨h.2.2.2.2.2.2.1, h.2.2.2.2.2.2.2.1, h.2.2.2.2.2.2.2.2.1, h.2.2.2.2.2.2.2.2.2⟩⟩
theorem c18_ok : CK c18 := fo [c23, c46] [.tmp 4] (.n none .o (.n none .o (.n none .o (.n none (.n none .o (.n none (.loop ⟨z53, [(5, .one (.own 2576)), (6, .one (.h 0 []))], [(2576, .sl 13 54 1 [1])], [], 2640⟩ true [(.exit 0, ⟨z65, [(5, .one (.own 2576))], [(2576, .sl 13 54 0 [1])], [], 2640⟩)] (.n none .o (.n none (.n none (.n none .o (.n none .o (.n (some (true, [(.normal, ⟨z65, [(5, .one (.own 3922))], [(3922, .sl 13 54 0 [1])], [2576, 3098, 3099, 3100], 3986⟩)])) .o .o))) .o) .o))) .o)) .o)))) ⟨c23_ok, c46_ok, trivial⟩ Tryz.call18 Tryz.func18 rfl rfl (by kernel_rfl) fun h => by kernel_rfl
noncomputable def dynposref16_follow_L2 (a1 : Power) (x4 : Island) : Int × List Running →
 Option
 (Int × List Running ⊕
 List
 Running) := fun x5 =>
 if decide (x5.1 < len x4.Sources) = true then
 Option.bind (idx x4.Sources x5.1) fun x6 =>
 Option.bind (idx x4.Sources 0) fun x7 =>
 Option.bind (idx a1.Sources x7) fun x8 =>
 Option.bind (idx x4.Sources 0) fun x9 =>
 Option.bind (idx a1.Sources x9) fun x10 =>
 Option.bind (idx x5.2 x6) fun x11 =>
 Option.bind (idx x5.2 x6) fun x12 =>
 Option.bind (setO x5.2 x6 (Running.mk x12.State x12.Since x8.Frequency x12.Phase)) fun x13 =>
 Option.bind (idx x13 x6) fun x14 =>
 Option.bind (idx x13 x6) fun x15 =>
 Option.bind (setO x13 x6 (Running.mk x15.State x15.Since x15.Frequency x10.Phase)) fun x16 =>
 some (.inl (W (x5.1 + 1), x16))
 else some (.inr x5.2)
noncomputable def dynposref16_follow_L1 (a1 : Power) (x2 : List
 Island) : Int × List Running →
 Option
 (Int × List Running ⊕
 List
 Running) := fun x3 =>
 if decide (x3.1 < len x2) = true then
 Option.bind (idx x2 x3.1) fun x4 =>
 Option.bind (loopO (dynposref16_follow_L2 a1 x4) (0, x3.2)) fun x17 =>
 some (.inl (W (x3.1 + 1), x17))
 else some (.inr x3.2)
noncomputable def dynposref16_follow (a0 : Board) (a1 : Power) : Option ((List Bool) × (List Running) × (List Int) × (List Part)) :=
 Option.bind (dynposref15_Copy a1) fun x1 =>
 Option.bind (dynposref15_Islands a0 a1) fun x2 =>
 Option.bind (loopO (dynposref16_follow_L1 a1 x2) (0, x1.2.1)) fun x18 =>
 some (x1.1, x18, x1.2.2.1, x1.2.2.2)
noncomputable def c90 : Con D := ⟨90, z1, z38, z5, [], z70, z44, fun h => dynposref16_follow ⟨h.1, h.2.1, h.2.2.1, h.2.2.2.1, h.2.2.2.2.1, h.2.2.2.2.2.1⟩ ⟨h.2.2.2.2.2.2.1, h.2.2.2.2.2.2.2.1, h.2.2.2.2.2.2.2.2.1, h.2.2.2.2.2.2.2.2.2⟩⟩
theorem c90_ok : CK c90 := fo [c18, c39] [.cell 4 34] (.n none .o (.n none .o (.n none (.n none .o (.n none (.loop ⟨[.lf (.int .i64), .lf (.sl 8)], [(16, .one (.h 0 []))], [(2265, .sl 8 48 1 [])], [2265], 2832⟩ true [(.exit 0, ⟨[.lf (.sl 8)], [], [(2265, .sl 8 48 0 [])], [2265], 2832⟩)] (.n none .o (.n none .o (.n none (.n none (.n none .o (.n none .o (.n none (.loop ⟨[.lf (.int .i64), .lf (.sl 8)], [(23, .one (.h 0 []))], [(2265, .sl 8 48 1 [])], [2265], 3474⟩ true [(.exit 2, ⟨[.lf (.sl 8)], [], [(2265, .sl 8 48 0 [])], [2265], 3474⟩)] .o) .o))) .o) .o)))) .o)) .o))) ⟨c18_ok, c39_ok, trivial⟩ Tryz.call90 Tryz.func90 rfl rfl (by kernel_rfl) fun h => by kernel_rfl
noncomputable def dynposref16_Follow (a0 : Board) (a1 : Power) : Option (Int × (List Bool) × (List Running) × (List Int) × (List Part)) :=
 Option.bind (dynposref15_State a0 a1) fun x1 =>
 if (x1 != 0) = true then some (x1, [], [], [], [])
 else
 Option.bind (dynposref16_follow a0 a1) fun x2 =>
 some (0, x2.1, x2.2.1, x2.2.2.1, x2.2.2.2)
noncomputable def c50 : Con D := ⟨50, z1, [.lf (.int .i64), .lf (.sl 1), .lf (.sl 8), .lf (.sl 0), .lf (.sl 9)], z5, [], [.agg [.own 1000, .own 1001, .own 1002, .own 1003], .one (.h 0 [])], [(1000, .sl 1 4 1 []), (1001, .sl 8 48 2 []), (1002, .sl 0 3 3 []), (1003, .sl 9 84 4 [])], fun h => dynposref16_Follow ⟨h.1, h.2.1, h.2.2.1, h.2.2.2.1, h.2.2.2.2.1, h.2.2.2.2.2.1⟩ ⟨h.2.2.2.2.2.2.1, h.2.2.2.2.2.2.2.1, h.2.2.2.2.2.2.2.2.1, h.2.2.2.2.2.2.2.2.2⟩⟩
theorem c50_ok : CK c50 := fo [c23, c90] [.cell 4 34, .tmp 5] .o ⟨c23_ok, c90_ok, trivial⟩ Tryz.call50 Tryz.func50 rfl rfl (by kernel_rfl) fun h => by kernel_rfl
end Rx
end Go.Proofs.YtfnphdhcgkondaaGreat
