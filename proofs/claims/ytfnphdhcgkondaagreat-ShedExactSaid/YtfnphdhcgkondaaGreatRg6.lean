import Derived.Test.YtfnphdhcgkondaaGreatRt
import Derived.Test.YtfnphdhcgkondaaGreatRg1
import Derived.Test.YtfnphdhcgkondaaGreatRg2
import Derived.Test.YtfnphdhcgkondaaGreatRg3
import Derived.Test.YtfnphdhcgkondaaGreatRg4
import Derived.Test.YtfnphdhcgkondaaGreatRg5
set_option linter.unusedVariables false
set_option maxRecDepth 100000
namespace Go.Proofs.YtfnphdhcgkondaaGreat
open Go Go.RowKit Dp
namespace Rx
noncomputable def dynposref18_Clear_L1 (a0 : Board) (a1 : Power) : Int × List Act × List Bool →
 Option
 (Int × List Act × List Bool ⊕
 List Act ×
 List
 Bool) := fun x3 =>
 if decide (x3.1 < len a0.Breakers) = true then
 Option.bind
 (Option.bind (idx x3.2.2 x3.1) fun x4 =>
 if x4 = true then Option.bind (dynposref18_wrong a0 a1 x3.1) fun x5 => some x5 else some false)
 fun x6 =>
 Option.bind
 (if x6 = true then
 Option.bind (idx x3.2.2 x3.1) fun x7 =>
 Option.bind (idx x3.2.2 x3.1) fun x8 =>
 Option.bind (setO x3.2.2 x3.1 false) fun x9 =>
 Option.bind (app x3.2.1 [Act.mk 2 x3.1 0]) fun x10 => some (x10, x9)
 else some (x3.2.1, x3.2.2))
 fun x11 => some (.inl (W (x3.1 + 1), x11.1, x11.2))
 else some (.inr (x3.2.1, x3.2.2))
noncomputable def dynposref18_Clear_L2 (a0 : Board) (x2 : List Bool ×
 List Running ×
 List Int ×
 List
 Part) : Int × List Act × List Bool →
 Option
 (Int × List Act × List Bool ⊕
 List Act ×
 List
 Bool) := fun x13 =>
 if decide (x13.1 < len a0.Breakers) = true then
 Option.bind (idx a0.Breakers x13.1) fun x14 =>
 Option.bind
 (if (x14.Kind == 3) = true then
 Option.bind (idx x13.2.2 x13.1) fun x15 =>
 if x15 = true then
 Option.bind (dynposref15_Live a0 (Power.mk x13.2.2 x2.2.1 x2.2.2.1 x2.2.2.2) x14.A)
 fun x16 => some !x16
 else some false
 else some false)
 fun x17 =>
 Option.bind
 (if x17 = true then
 Option.bind (idx x13.2.2 x13.1) fun x18 =>
 Option.bind (idx x13.2.2 x13.1) fun x19 =>
 Option.bind (setO x13.2.2 x13.1 false) fun x20 =>
 Option.bind (app x13.2.1 [Act.mk 2 x13.1 0]) fun x21 => some (x21, x20)
 else some (x13.2.1, x13.2.2))
 fun x22 => some (.inl (W (x13.1 + 1), x22.1, x22.2))
 else some (.inr (x13.2.1, x13.2.2))
noncomputable def dynposref18_Clear (a0 : Board) (a1 : Power) : Option (Int × (List Bool) × (List Running) × (List Int) × (List Part) × (List Act)) :=
 Option.bind (dynposref15_State a0 a1) fun x1 =>
 if (x1 != 0) = true then some (x1, [], [], [], [], [])
 else
 Option.bind (dynposref15_Copy a1) fun x2 =>
 Option.bind (loopO (dynposref18_Clear_L1 a0 a1) (0, [], x2.1)) fun x12 =>
 Option.bind (loopO (dynposref18_Clear_L2 a0 x2) (0, x12.1, x12.2)) fun x23 =>
 Option.bind (dynposref16_Follow a0 (Power.mk x23.2 x2.2.1 x2.2.2.1 x2.2.2.2)) fun x24 =>
 some (0, x24.2.1, x24.2.2.1, x24.2.2.2.1, x24.2.2.2.2, x23.1)
noncomputable def c22 : Con D := ⟨22, z1, z16, z5, [], z15, z13, fun h => dynposref18_Clear ⟨h.1, h.2.1, h.2.2.1, h.2.2.2.1, h.2.2.2.2.1, h.2.2.2.2.2.1⟩ ⟨h.2.2.2.2.2.2.1, h.2.2.2.2.2.2.2.1, h.2.2.2.2.2.2.2.2.1, h.2.2.2.2.2.2.2.2.2⟩⟩
theorem c22_ok : CK c22 := fo [c15, c23, c39, c49, c50] [.cell 4 34, .tmp 5, .tmp 6] (.n none .o (.n none .o (.n none .o (.n none .o (.n none (.n none .o (.n none (.loop ⟨z59, [(9, .one (.own 3280)), (25, .one (.h 0 []))], [(3280, .sl 10 74 1 []), (2776, .sl 1 4 2 [])], [2776], 3344⟩ true [(.exit 0, ⟨z52, [(9, .one (.own 3280))], [(3280, .sl 10 74 0 []), (2776, .sl 1 4 1 [])], [2776], 3344⟩)] (.n none .o (.n none .o (.n none (.n none (.n none .o (.n none (.r (some (true, [(.normal, ⟨[.lf .bool], [(34, .one (.any)), (35, .one (.any)), (36, .one (.any)), (37, .one (.any)), (38, .one (.h 0 []))], [], [], 3603⟩)])) .nil) (.n (some (true, [(.normal, ⟨z52, [(9, .one (.own 3604))], [(3604, .sl 10 74 0 []), (2776, .sl 1 4 1 [])], [2776, 3280], 3668⟩)])) .o .o))) .o) .o)))) .o)) (.n none (.n none .o (.n none (.loop ⟨z59, [(9, .one (.own 3602)), (52, .one (.h 0 []))], [(3602, .sl 10 74 1 []), (2776, .sl 1 4 2 [])], [2776, 3280], 3666⟩ true [(.exit 2, ⟨z52, [(9, .one (.own 3602))], [(3602, .sl 10 74 0 []), (2776, .sl 1 4 1 [])], [2776, 3280], 3666⟩)] (.n none .o (.n none .o (.n none (.n none (.n none .o (.n none (.r (some (true, [(.normal, ⟨[.lf .bool], [(61, .one (.any)), (62, .one (.any)), (63, .one (.any)), (64, .one (.any)), (65, .one (.any)), (68, .one (.any)), (69, .one (.any)), (70, .one (.any)), (71, .one (.any)), (72, .one (.any)), (73, .one (.any)), (74, .one (.h 0 []))], [], [], 4181⟩)])) .nil) (.n (some (true, [(.normal, ⟨z52, [(9, .one (.own 4182))], [(4182, .sl 10 74 0 []), (2776, .sl 1 4 1 [])], [2776, 3602], 4246⟩)])) .o .o))) .o) .o)))) .o)) .o)))))) ⟨c15_ok, c23_ok, c39_ok, c49_ok, c50_ok, trivial⟩ Tryz.call22 Tryz.func22 rfl rfl (by kernel_rfl) fun h => by kernel_rfl
noncomputable def dynposref01_Bools_L1 (a0 : List
 Bool) (a1 : List
 Bool) : Int →
 Option
 (Int ⊕
 Unit ⊕
 Bool) := fun x1 =>
 if decide (x1 < len a0) = true then
 Option.bind (idx a0 x1) fun x2 =>
 Option.bind (idx a1 x1) fun x3 =>
 if (!x2 == x3) = true then some (.inr (.inr false)) else some (.inl (W (x1 + 1)))
 else some (.inr (.inl ()))
noncomputable def dynposref01_Bools (a0 : (List Bool)) (a1 : (List Bool)) : Option (Bool) :=
 if (len a0 != len a1) = true then some false
 else
 Option.bind (loopO (dynposref01_Bools_L1 a0 a1) 0) fun x4 =>
 Sum.elim (fun x5 => some true) (fun x6 => some x6) x4
noncomputable def c45 : Con D := ⟨45, [.lf (.sl 1), .lf (.sl 1)], [.lf .bool], z57, [], z10, [], fun h => dynposref01_Bools h.1 h.2⟩
theorem c45_ok : CK c45 := fo [] [.tmp 4] z14 trivial Tryz.call45 Tryz.func45 rfl rfl (by kernel_rfl) fun h => by kernel_rfl
noncomputable def dynposref15_Same_L1 (a0 : Power) (a1 : Power) : Int →
 Option
 (Int ⊕
 Unit ⊕
 Bool) := fun x4 =>
 if decide (x4 < len a0.Sources) = true then
 Option.bind (idx a0.Sources x4) fun x5 =>
 Option.bind (idx a1.Sources x4) fun x6 =>
 if
 (!(x5.State == x6.State &&
 (x5.Since == x6.Since && (x5.Frequency == x6.Frequency && x5.Phase == x6.Phase)))) =
 true then
 some (.inr (.inr false))
 else some (.inl (W (x4 + 1)))
 else some (.inr (.inl ()))
noncomputable def dynposref15_Same_L2 (a0 : Power) (a1 : Power) : Int →
 Option
 (Int ⊕
 Unit ⊕
 Bool) := fun x9 =>
 if decide (x9 < len a0.Broken) = true then
 Option.bind (idx a0.Broken x9) fun x10 =>
 Option.bind (idx a1.Broken x9) fun x11 =>
 if (!(x10.Kind == x11.Kind && x10.Number == x11.Number)) = true then some (.inr (.inr false))
 else some (.inl (W (x9 + 1)))
 else some (.inr (.inl ()))
noncomputable def dynposref15_Same (a0 : Power) (a1 : Power) : Option (Bool) :=
 Option.bind
 (Option.bind (dynposref01_Bools a0.Closed a1.Closed) fun x1 =>
 if (!x1) = true then some true
 else
 Option.bind (dynposref01_Ints a0.Limits a1.Limits) fun x2 =>
 if (!x2) = true then some true
 else if (len a0.Sources != len a1.Sources) = true then some true else some (len a0.Broken != len a1.Broken))
 fun x3 =>
 if x3 = true then some false
 else
 Option.bind (loopO (dynposref15_Same_L1 a0 a1) 0) fun x7 =>
 Sum.elim
 (fun x8 =>
 Option.bind (loopO (dynposref15_Same_L2 a0 a1) 0) fun x12 =>
 Sum.elim (fun x13 => some true) (fun x14 => some x14) x12)
 (fun x15 => some x15) x7
noncomputable def c12 : Con D := ⟨12, z67, [.lf .bool], [.agg [.h 0 [0], .h 1 [0], .h 2 [0], .h 3 [0]], .agg [.h 4 [0], .h 5 [0], .h 6 [0], .h 7 [0]]], [], z10, [], fun h => dynposref15_Same ⟨h.1, h.2.1, h.2.2.1, h.2.2.2.1⟩ ⟨h.2.2.2.2.1, h.2.2.2.2.2.1, h.2.2.2.2.2.2.1, h.2.2.2.2.2.2.2⟩⟩
theorem c12_ok : CK c12 := fo [c13, c45] [.tmp 4] (.n none .o (.n none (.n none (.r (some (true, [(.normal, ⟨[.lf .bool], [(38, .one (.h 0 []))], [], [], 2256⟩)])) .nil) .o) (.n none (.n none .o (.n none (.loop ⟨z9, [(42, .one (.h 0 []))], [], [], 2577⟩ false [(.exit 0, ⟨[], [], [], [], 2577⟩)] .o) .o)) (.n none (.n none .o (.n none (.loop ⟨z9, [(60, .one (.h 0 []))], [], [], 2897⟩ false [(.exit 2, ⟨[], [], [], [], 2897⟩)] .o) .o)) .o)))) ⟨c13_ok, c45_ok, trivial⟩ Tryz.call12 Tryz.func12 rfl rfl (by kernel_rfl) fun h => by kernel_rfl
noncomputable def dynposref17_Load_L1 (a1 : Power) (x1 : Bool ×
 List Int ×
 List Int ×
 List
 Int) : Int × Int →
 Option
 (Int × Int ⊕
 Int) := fun x3 =>
 if decide (x3.2 < len x1.2.2.2) = true then
 Option.bind (idx x1.2.2.2 x3.2) fun x4 =>
 Option.bind (idx a1.Limits x4) fun x5 => some (.inl (W (x3.1 + x5), W (x3.2 + 1)))
 else some (.inr x3.1)
noncomputable def dynposref17_Load (a0 : Board) (a1 : Power) (a2 : Int) : Option (Int) :=
 Option.bind (dynposref15_Of a0 a1 a2) fun x1 =>
 Option.bind (if (!x1.1) = true then some true else some (len x1.2.2.1 == 0)) fun x2 =>
 if x2 = true then some 0
 else Option.bind (loopO (dynposref17_Load_L1 a1 x1) (0, 0)) fun x6 => some x6
noncomputable def c19 : Con D := ⟨19, z0, z9, z2, [], z10, [], fun h => dynposref17_Load ⟨h.1, h.2.1, h.2.2.1, h.2.2.2.1, h.2.2.2.2.1, h.2.2.2.2.2.1⟩ ⟨h.2.2.2.2.2.2.1, h.2.2.2.2.2.2.2.1, h.2.2.2.2.2.2.2.2.1, h.2.2.2.2.2.2.2.2.2.1⟩ h.2.2.2.2.2.2.2.2.2.2⟩
theorem c19_ok : CK c19 := fo [c46] [.tmp 6] (.n none .o (.n none .o (.n none (.n none (.r (some (true, [(.normal, ⟨[.lf .bool], [(26, .one (.h 0 []))], [], [], 2896⟩)])) .nil) .o) (.n none .o (.n none (.n none .o (.n none (.loop ⟨z41, [(9, .one (.h 0 [])), (30, .one (.h 1 []))], [], [], 3281⟩ true [(.exit 0, ⟨z9, [(9, .one (.h 0 []))], [], [], 3281⟩)] .o) .o)) .o))))) ⟨c46_ok, trivial⟩ Tryz.call19 Tryz.func19 rfl rfl (by kernel_rfl) fun h => by kernel_rfl
noncomputable def dynposref17_Rating_L1 (a0 : Board) (x1 : Bool ×
 List Int ×
 List Int ×
 List
 Int) : Int × Int →
 Option
 (Int × Int ⊕
 Int) := fun x2 =>
 if decide (x2.2 < len x1.2.2.1) = true then
 Option.bind (idx x1.2.2.1 x2.2) fun x3 =>
 Option.bind (idx a0.Sources x3) fun x4 => some (.inl (W (x2.1 + x4.Rating), W (x2.2 + 1)))
 else some (.inr x2.1)
noncomputable def dynposref17_Rating (a0 : Board) (a1 : Power) (a2 : Int) : Option (Int) :=
 Option.bind (dynposref15_Of a0 a1 a2) fun x1 =>
 Option.bind (loopO (dynposref17_Rating_L1 a0 x1) (0, 0)) fun x5 => some x5
noncomputable def c20 : Con D := ⟨20, z0, z9, z2, [], z10, [], fun h => dynposref17_Rating ⟨h.1, h.2.1, h.2.2.1, h.2.2.2.1, h.2.2.2.2.1, h.2.2.2.2.2.1⟩ ⟨h.2.2.2.2.2.2.1, h.2.2.2.2.2.2.2.1, h.2.2.2.2.2.2.2.2.1, h.2.2.2.2.2.2.2.2.2.1⟩ h.2.2.2.2.2.2.2.2.2.2⟩
theorem c20_ok : CK c20 := fo [c46] [.tmp 6] z32 ⟨c46_ok, trivial⟩ Tryz.call20 Tryz.func20 rfl rfl (by kernel_rfl) fun h => by kernel_rfl
noncomputable def dynposref15_Find (a0 : Board) (a1 : Int) (a2 : Int) : Option ((List Int)) :=
 Option.bind (dynposref15_Check a0) fun x1 =>
 if (x1 != 0) = true then some [] else Option.bind (dynposref15_of a0 a1 a2) fun x2 => some x2
noncomputable def c68 : Con D := ⟨68, z33, z28, [.agg [.h 0 [], .h 1 [0], .h 2 [0], .h 3 [0], .h 4 [], .h 5 []], .one (.h 6 []), .one (.h 7 [])], [], z49, z29, fun h => dynposref15_Find ⟨h.1, h.2.1, h.2.2.1, h.2.2.2.1, h.2.2.2.2.1, h.2.2.2.2.2.1⟩ h.2.2.2.2.2.2.1 h.2.2.2.2.2.2.2⟩
theorem c68_ok : CK c68 := fo [c51, c55] [.tmp 6] .o ⟨c51_ok, c55_ok, trivial⟩ Tryz.call68 Tryz.func68 rfl rfl (by kernel_rfl) fun h => by kernel_rfl
noncomputable def dynposref18_Shed_L2 (a0 : Board) (x3 : List
 Int) (x6 : Island) : Int × Int × List Act × List Int →
 Option
 (Int × Int × List Act × List Int ⊕
 Int ×
 List Act ×
 List
 Int) := fun x11 =>
 if decide (x11.2.1 < len x3) = true then
 Option.bind
 (Option.bind (idx x3 x11.2.1) fun x12 =>
 Option.bind (idx a0.Consumers x12) fun x13 =>
 Option.bind
 (if decide (x11.1 ≤ 0) = true then some true
 else
 Option.bind (dynposref01_Has x6.Consumers x12) fun x14 =>
 if (!x14) = true then some true
 else Option.bind (idx x11.2.2.2 x12) fun x15 => some (decide (x15 ≤ x13.Least)))
 fun x16 =>
 if x16 = true then some (x11.1, x11.2.2.1, x11.2.2.2)
 else
 Option.bind (idx x11.2.2.2 x12) fun x17 =>
 Option.bind (idx x11.2.2.2 x12) fun x18 =>
 Option.bind (idx x11.2.2.2 x12) fun x19 =>
 Option.bind (idx x11.2.2.2 x12) fun x20 =>
 Option.bind (setO x11.2.2.2 x12 (W (x18 - imin x11.1 (W (x17 - x13.Least))))) fun x21 =>
 Option.bind (idx x21 x12) fun x22 =>
 Option.bind (app x11.2.2.1 [Act.mk 5 x12 x22]) fun x23 =>
 some (W (x11.1 - imin x11.1 (W (x17 - x13.Least))), x23, x21))
 fun x24 => some (.inl (x24.1, W (x11.2.1 + 1), x24.2.1, x24.2.2))
 else some (.inr (x11.1, x11.2.2.1, x11.2.2.2))
noncomputable def dynposref18_Shed_L4 (x31 : List
 Int) : Int × List Act × List Bool →
 Option
 (Int × List Act × List Bool ⊕
 List Act ×
 List
 Bool) := fun x32 =>
 if decide (x32.1 < len x31) = true then
 Option.bind (idx x31 x32.1) fun x33 =>
 Option.bind (idx x32.2.2 x33) fun x34 =>
 Option.bind
 (if x34 = true then
 Option.bind (idx x32.2.2 x33) fun x35 =>
 Option.bind (idx x32.2.2 x33) fun x36 =>
 Option.bind (setO x32.2.2 x33 false) fun x37 =>
 Option.bind (app x32.2.1 [Act.mk 2 x33 0]) fun x38 => some (x38, x37)
 else some (x32.2.1, x32.2.2))
 fun x39 => some (.inl (W (x32.1 + 1), x39.1, x39.2))
 else some (.inr (x32.2.1, x32.2.2))
noncomputable def dynposref18_Shed_L3 (a0 : Board) (x3 : List
 Int) (x6 : Island) (x25 : Int ×
 List Act ×
 List
 Int) : Int × Int × List Act × List Bool →
 Option
 (Int × Int × List Act × List Bool ⊕
 List Act ×
 List
 Bool) := fun x26 =>
 if decide (x26.2.1 < len x3) = true then
 Option.bind
 (Option.bind (idx x3 x26.2.1) fun x27 =>
 Option.bind
 (if decide (x26.1 ≤ 0) = true then some true
 else
 Option.bind (dynposref01_Has x6.Consumers x27) fun x28 =>
 if (!x28) = true then some true
 else Option.bind (idx x25.2.2 x27) fun x29 => some (x29 == 0))
 fun x30 =>
 if x30 = true then some (x26.1, x26.2.2.1, x26.2.2.2)
 else
 Option.bind (dynposref15_Find a0 3 x27) fun x31 =>
 Option.bind (loopO (dynposref18_Shed_L4 x31) (0, x26.2.2.1, x26.2.2.2)) fun x40 =>
 Option.bind (idx x25.2.2 x27) fun x41 => some (W (x26.1 - x41), x40.1, x40.2))
 fun x42 => some (.inl (x42.1, W (x26.2.1 + 1), x42.2.1, x42.2.2))
 else some (.inr (x26.2.2.1, x26.2.2.2))
noncomputable def dynposref18_Shed_L1 (a0 : Board) (a1 : Power) (x3 : List
 Int) (x4 : List
 Island) : Int × List Act × List Bool × List Int →
 Option
 (Int × List Act × List Bool × List Int ⊕
 List Act ×
 List Bool ×
 List
 Int) := fun x5 =>
 if decide (x5.1 < len x4) = true then
 Option.bind (idx x4 x5.1) fun x6 =>
 Option.bind (idx x6.Buses 0) fun x7 =>
 Option.bind (dynposref17_Load a0 a1 x7) fun x8 =>
 Option.bind (idx x6.Buses 0) fun x9 =>
 Option.bind (dynposref17_Rating a0 a1 x9) fun x10 =>
 Option.bind (loopO (dynposref18_Shed_L2 a0 x3 x6) (W (x8 - x10), 0, x5.2.1, x5.2.2.2))
 fun x25 =>
 Option.bind
 (loopO (dynposref18_Shed_L3 a0 x3 x6 x25) (x25.1, 0, x25.2.1, x5.2.2.1))
 fun x43 => some (.inl (W (x5.1 + 1), x43.1, x43.2, x25.2.2))
 else some (.inr (x5.2.1, x5.2.2.1, x5.2.2.2))
noncomputable def dynposref18_Shed (a0 : Board) (a1 : Power) : Option (Int × (List Bool) × (List Running) × (List Int) × (List Part) × (List Act)) :=
 Option.bind (dynposref15_State a0 a1) fun x1 =>
 if (x1 != 0) = true then some (x1, [], [], [], [], [])
 else
 Option.bind (dynposref15_Copy a1) fun x2 =>
 Option.bind (dynposref18_Order a0) fun x3 =>
 Option.bind (dynposref15_Islands a0 a1) fun x4 =>
 Option.bind (loopO (dynposref18_Shed_L1 a0 a1 x3 x4) (0, [], x2.1, x2.2.2.1)) fun x44 =>
 some (0, x44.2.1, x2.2.1, x44.2.2, x2.2.2.2, x44.1)
noncomputable def c34 : Con D := ⟨34, z1, z16, z5, [], z15, z13, fun h => dynposref18_Shed ⟨h.1, h.2.1, h.2.2.1, h.2.2.2.1, h.2.2.2.2.1, h.2.2.2.2.2.1⟩ ⟨h.2.2.2.2.2.2.1, h.2.2.2.2.2.2.2.1, h.2.2.2.2.2.2.2.2.1, h.2.2.2.2.2.2.2.2.2⟩⟩
theorem c34_ok : CK c34 := fo [c18, c19, c20, c23, c25, c28, c39, c68] [.cell 4 34, .tmp 5, .tmp 6] (.n none .o (.n none .o (.n none .o (.n none .o (.n none .o (.n none (.n none .o (.n none (.loop ⟨[.lf (.int .i64), .lf (.sl 10), .lf (.sl 1), .lf (.sl 0)], [(9, .one (.own 3536)), (37, .one (.h 0 []))], [(3536, .sl 10 74 1 []), (2776, .sl 1 4 2 []), (2778, .sl 0 3 3 [])], [2776, 2778], 3600⟩ true [(.exit 0, ⟨[.lf (.sl 10), .lf (.sl 1), .lf (.sl 0)], [(9, .one (.own 3536))], [(3536, .sl 10 74 0 []), (2776, .sl 1 4 1 []), (2778, .sl 0 3 2 [])], [2776, 2778], 3600⟩)] (.n none .o (.n none .o (.n none (.n none (.n none .o (.n none .o (.n none (.n none .o (.n none (.loop ⟨[.lf (.int .i64), .lf (.int .i64), .lf (.sl 10), .lf (.sl 0)], [(9, .one (.own 5140)), (13, .one (.h 0 [])), (58, .one (.h 1 []))], [(5140, .sl 10 74 2 []), (2778, .sl 0 3 3 [])], [2778, 3536], 5204⟩ true [(.exit 2, ⟨[.lf (.int .i64), .lf (.sl 10), .lf (.sl 0)], [(9, .one (.own 5140)), (13, .one (.h 0 []))], [(5140, .sl 10 74 1 []), (2778, .sl 0 3 2 [])], [2778, 3536], 5204⟩)] (.n none .o (.n none .o (.n none (.n (some (true, [(.normal, ⟨[.lf (.int .i64), .lf (.sl 10), .lf (.sl 0)], [(9, .one (.own 5272)), (13, .one (.h 0 [])), (71, .one (.any)), (72, .one (.any)), (73, .one (.any)), (74, .one (.any)), (75, .one (.any)), (78, .one (.any)), (79, .one (.any)), (80, .one (.any)), (81, .one (.any)), (82, .one (.any)), (83, .one (.any)), (84, .one (.any))], [(5272, .sl 10 74 1 []), (2778, .sl 0 3 2 [])], [2778, 5140], 5336⟩)])) (.n none .o (.n none .o (.n none (.n none (.r (some (true, [(.normal, ⟨[.lf .bool], [(71, .one (.any)), (72, .one (.any)), (73, .one (.any)), (74, .one (.any)), (75, .one (.any)), (78, .one (.any)), (79, .one (.any)), (80, .one (.any)), (81, .one (.any)), (82, .one (.any)), (83, .one (.any)), (84, .one (.any)), (85, .one (.h 0 []))], [], [], 5976⟩)])) .nil) .o) .o))) .o) .o)))) .o)) (.n none .o (.n none (.loop ⟨[.lf (.int .i64), .lf (.int .i64), .lf (.sl 10), .lf (.sl 1)], [(9, .one (.own 5399)), (13, .one (.h 0 [])), (122, .one (.h 1 []))], [(5399, .sl 10 74 2 []), (2776, .sl 1 4 3 [])], [2776, 5140], 5463⟩ true [(.exit 4, ⟨z52, [(9, .one (.own 5399))], [(5399, .sl 10 74 0 []), (2776, .sl 1 4 1 [])], [2776, 5140], 5463⟩)] (.n none .o (.n none .o (.n none (.n (some (true, [(.normal, ⟨z59, [(9, .one (.own 5531)), (13, .one (.h 0 [])), (129, .one (.any)), (130, .one (.any)), (131, .one (.any)), (132, .one (.any)), (133, .one (.any)), (136, .one (.any)), (137, .one (.any)), (138, .one (.any)), (139, .one (.any)), (140, .one (.any)), (141, .one (.any))], [(5531, .sl 10 74 1 []), (2776, .sl 1 4 2 [])], [2776, 5399], 5595⟩)])) (.n none .o (.n none (.n none (.r (some (true, [(.normal, ⟨[.lf .bool], [(129, .one (.any)), (130, .one (.any)), (131, .one (.any)), (132, .one (.any)), (133, .one (.any)), (136, .one (.any)), (137, .one (.any)), (138, .one (.any)), (139, .one (.any)), (140, .one (.any)), (141, .one (.any)), (142, .one (.h 0 []))], [], [], 5787⟩)])) .nil) .o) (.n none (.n none .o (.n none (.loop ⟨z59, [(9, .one (.own 6108)), (147, .one (.h 0 []))], [(6108, .sl 10 74 1 []), (2776, .sl 1 4 2 [])], [2776, 5399], 6172⟩ true [(.exit 6, ⟨z52, [(9, .one (.own 6108))], [(6108, .sl 10 74 0 []), (2776, .sl 1 4 1 [])], [2776, 5399], 6172⟩)] (.n none .o (.n none .o (.n none (.n none (.n none .o (.n none .o (.n (some (true, [(.normal, ⟨z52, [(9, .one (.own 6751))], [(6751, .sl 10 74 0 []), (2776, .sl 1 4 1 [])], [2776, 6108], 6815⟩)])) .o .o))) .o) .o)))) .o)) .o))) .o) .o)))) .o))))) .o) .o)))) .o)) .o)))))) ⟨c18_ok, c19_ok, c20_ok, c23_ok, c25_ok, c28_ok, c39_ok, c68_ok, trivial⟩ Tryz.call34 Tryz.func34 rfl rfl (by kernel_rfl) fun h => by kernel_rfl
noncomputable def shed_Protect_1_v1 (a0 : relief) : Option (Int × (List Breaker) × (List Source) × (List Consumer) × Int × Int × (List Bool) × (List Running) × (List Int) × (List Part) × (List Bool) × (List Running) × (List Int) × (List Part) × (List Act)) :=
 Option.bind (relief_clear_v1 a0) fun x1 =>
 Option.bind
 (relief_shed_v1
 (relief.mk
 (Board.mk x1.1 x1.2.1 x1.2.2.1 x1.2.2.2.1 x1.2.2.2.2.1
 x1.2.2.2.2.2.1)
 (Power.mk x1.2.2.2.2.2.2.2.2.2.2.1 x1.2.2.2.2.2.2.2.2.2.2.2.1
 x1.2.2.2.2.2.2.2.2.2.2.2.2.1
 x1.2.2.2.2.2.2.2.2.2.2.2.2.2.1)
 x1.2.2.2.2.2.2.2.2.2.2.2.2.2.2))
 fun x2 =>
 some
 (x2.1, x2.2.1, x2.2.2.1, x2.2.2.2.1, x2.2.2.2.2.1, x2.2.2.2.2.2.1,
 x1.2.2.2.2.2.2.1, x1.2.2.2.2.2.2.2.1, x1.2.2.2.2.2.2.2.2.1,
 x1.2.2.2.2.2.2.2.2.2.1, x2.2.2.2.2.2.2.1,
 x2.2.2.2.2.2.2.2.1, x2.2.2.2.2.2.2.2.2.1,
 x2.2.2.2.2.2.2.2.2.2.1, x2.2.2.2.2.2.2.2.2.2.2)
noncomputable def c69_1 : Con D := ⟨69, z4, z36, z68, z11, [], z26, fun h => shed_Protect_1_v1 ⟨⟨h.1, h.2.1, h.2.2.1, h.2.2.2.1, h.2.2.2.2.1, h.2.2.2.2.2.1⟩, ⟨h.2.2.2.2.2.2.1, h.2.2.2.2.2.2.2.1, h.2.2.2.2.2.2.2.2.1, h.2.2.2.2.2.2.2.2.2.1⟩, h.2.2.2.2.2.2.2.2.2.2⟩⟩
theorem c69_1_ok : CK c69_1 := fo [c44_1, c48_1] [] .o ⟨c44_1_ok, c48_1_ok, trivial⟩ Tryz.call69 Tryz.func69 rfl rfl (by kernel_rfl) fun h => by kernel_rfl
noncomputable def shed_relieve_v2 (a0 : Board) (a1 : Power) : Option (Int × (List Bool) × (List Running) × (List Int) × (List Part) × (List Act)) :=
 Option.bind (board_State a0 a1) fun x1 =>
 if (x1 != 0) = true then some (x1, [], [], [], [], [])
 else
 Option.bind (states_Clone a1) fun x2 =>
 Option.bind (shed_Protect_1_v1 (relief.mk a0 (Power.mk x2.1 x2.2.1 x2.2.2.1 x2.2.2.2) []))
 fun x3 =>
 some
 (0, x3.2.2.2.2.2.2.2.2.2.2.1,
 x3.2.2.2.2.2.2.2.2.2.2.2.1,
 x3.2.2.2.2.2.2.2.2.2.2.2.2.1,
 x3.2.2.2.2.2.2.2.2.2.2.2.2.2.1,
 x3.2.2.2.2.2.2.2.2.2.2.2.2.2.2)
noncomputable def c43_2 : Con D := ⟨43, z1, z16, [.agg [.h 0 [], .h 1 [0], .h 2 [0], .h 3 [0], .h 4 [], .h 5 []], .agg [.h 6 [0], .h 7 [0], .h 8 [0], .h 9 [0]], .one (.fn 69 [])], [], z15, z13, fun h => shed_relieve_v2 ⟨h.1, h.2.1, h.2.2.1, h.2.2.2.1, h.2.2.2.2.1, h.2.2.2.2.2.1⟩ ⟨h.2.2.2.2.2.2.1, h.2.2.2.2.2.2.2.1, h.2.2.2.2.2.2.2.2.1, h.2.2.2.2.2.2.2.2.2⟩⟩
theorem c43_2_ok : CK c43_2 := fo [c69_1, c70, c80] [.cell 6 34, .tmp 7, .tmp 8] .o ⟨c69_1_ok, c70_ok, c80_ok, trivial⟩ Tryz.call43 Tryz.func43 rfl rfl (by kernel_rfl) fun h => by kernel_rfl
noncomputable def shed_Protect (a0 : Board) (a1 : Power) : Option (Int × (List Bool) × (List Running) × (List Int) × (List Part) × (List Act)) :=
 Option.bind (shed_relieve_v2 a0 a1) fun x1 =>
 some (x1.1, x1.2.1, x1.2.2.1, x1.2.2.2.1, x1.2.2.2.2.1, x1.2.2.2.2.2)
noncomputable def c35 : Con D := ⟨35, z1, z16, z5, [], z15, z13, fun h => shed_Protect ⟨h.1, h.2.1, h.2.2.1, h.2.2.2.1, h.2.2.2.2.1, h.2.2.2.2.2.1⟩ ⟨h.2.2.2.2.2.2.1, h.2.2.2.2.2.2.2.1, h.2.2.2.2.2.2.2.2.1, h.2.2.2.2.2.2.2.2.2⟩⟩
theorem c35_ok : CK c35 := fo [c43_2] [.cell 4 34, .tmp 5, .tmp 6] .o ⟨c43_2_ok, trivial⟩ Tryz.call35 Tryz.func35 rfl rfl (by kernel_rfl) fun h => by kernel_rfl
noncomputable def dynposref18_Protect (a0 : Board) (a1 : Power) : Option (Int × (List Bool) × (List Running) × (List Int) × (List Part) × (List Act)) :=
 Option.bind (dynposref18_Clear a0 a1) fun x1 =>
 if (x1.1 != 0) = true then some (x1.1, [], [], [], [], [])
 else
 Option.bind (dynposref18_Shed a0 (Power.mk x1.2.1 x1.2.2.1 x1.2.2.2.1 x1.2.2.2.2.1))
 fun x2 =>
 Option.bind (app x1.2.2.2.2.2 x2.2.2.2.2.2) fun x3 =>
 some (0, x2.2.1, x2.2.2.1, x2.2.2.2.1, x2.2.2.2.2.1, x3)
noncomputable def c36 : Con D := ⟨36, z1, z16, z5, [], z15, z13, fun h => dynposref18_Protect ⟨h.1, h.2.1, h.2.2.1, h.2.2.2.1, h.2.2.2.2.1, h.2.2.2.2.2.1⟩ ⟨h.2.2.2.2.2.2.1, h.2.2.2.2.2.2.2.1, h.2.2.2.2.2.2.2.2.1, h.2.2.2.2.2.2.2.2.2⟩⟩
theorem c36_ok : CK c36 := fo [c22, c34] [.cell 4 34, .tmp 5, .tmp 6] .o ⟨c22_ok, c34_ok, trivial⟩ Tryz.call36 Tryz.func36 rfl rfl (by kernel_rfl) fun h => by kernel_rfl
noncomputable def dynposref17_Overloaded (a0 : Board) (a1 : Power) (a2 : Int) : Option (Bool) :=
 Option.bind (dynposref17_Load a0 a1 a2) fun x1 =>
 Option.bind (dynposref17_Rating a0 a1 a2) fun x2 => some (decide (x1 > x2))
noncomputable def c40 : Con D := ⟨40, z0, [.lf .bool], z2, [], z10, [], fun h => dynposref17_Overloaded ⟨h.1, h.2.1, h.2.2.1, h.2.2.2.1, h.2.2.2.2.1, h.2.2.2.2.2.1⟩ ⟨h.2.2.2.2.2.2.1, h.2.2.2.2.2.2.2.1, h.2.2.2.2.2.2.2.2.1, h.2.2.2.2.2.2.2.2.2.1⟩ h.2.2.2.2.2.2.2.2.2.2⟩
theorem c40_ok : CK c40 := fo [c19, c20] [.tmp 6] .o ⟨c19_ok, c20_ok, trivial⟩ Tryz.call40 Tryz.func40 rfl rfl (by kernel_rfl) fun h => by kernel_rfl
noncomputable def dynposref18_Check_L1 (a2 : Power) (x1 : Int ×
 List Bool ×
 List Running ×
 List Int ×
 List Part ×
 List
 Act) : Int →
 Option
 (Int ⊕
 Unit ⊕
 Bool) := fun x6 =>
 if decide (x6 < len a2.Closed) = true then
 Option.bind
 (Option.bind (idx a2.Closed x6) fun x7 =>
 if x7 = true then Option.bind (idx x1.2.1 x6) fun x8 => some !x8 else some false)
 fun x9 => if x9 = true then some (.inr (.inr false)) else some (.inl (W (x6 + 1)))
 else some (.inr (.inl ()))
noncomputable def dynposref18_Check_L2 (a2 : Power) (x1 : Int ×
 List Bool ×
 List Running ×
 List Int ×
 List Part ×
 List
 Act) : Int →
 Option
 (Int ⊕
 Unit ⊕
 Bool) := fun x12 =>
 if decide (x12 < len a2.Limits) = true then
 Option.bind (idx a2.Limits x12) fun x13 =>
 Option.bind (idx x1.2.2.2.1 x12) fun x14 =>
 if decide (x13 > x14) = true then some (.inr (.inr false)) else some (.inl (W (x12 + 1)))
 else some (.inr (.inl ()))
noncomputable def dynposref18_Check_L3 (a0 : Board) (a2 : Power) (x17 : List
 Island) : Int →
 Option
 (Int ⊕
 Unit ⊕
 Bool) := fun x18 =>
 if decide (x18 < len x17) = true then
 Option.bind (idx x17 x18) fun x19 =>
 Option.bind (idx x19.Buses 0) fun x20 =>
 Option.bind (dynposref17_Overloaded a0 a2 x20) fun x21 =>
 if x21 = true then some (.inr (.inr false)) else some (.inl (W (x18 + 1)))
 else some (.inr (.inl ()))
noncomputable def dynposref18_Check_L5 (x24 : List
 Int) (x27 : Island) : Int × List Int →
 Option
 (Int × List Int ⊕
 List
 Int) := fun x28 =>
 if decide (x28.1 < len x24) = true then
 Option.bind (idx x24 x28.1) fun x29 =>
 Option.bind (dynposref01_Has x27.Consumers x29) fun x30 =>
 Option.bind (if x30 = true then Option.bind (app x28.2 [x29]) fun x31 => some x31 else some x28.2)
 fun x32 => some (.inl (W (x28.1 + 1), x32))
 else some (.inr x28.2)
noncomputable def dynposref18_Check_L7 (a0 : Board) (a2 : Power) (x33 : List
 Int) (x34 : Int) (x36 : Int ×
 Bool) : Int →
 Option
 (Int ⊕
 Unit ⊕
 Unit ⊕
 Int ⊕
 Unit ⊕
 Int ⊕
 Unit ⊕
 Bool) := fun x40 =>
 if decide (x40 < len x33) = true then
 Option.bind (idx x33 x40) fun x41 =>
 Option.bind (dynposref15_Fed a0 a2 x41) fun x42 =>
 Option.bind
 (if decide (x40 < x34) = true then
 if x42.2 = true then
 Option.bind (idx a2.Limits x41) fun x43 =>
 Option.bind (idx a0.Consumers x41) fun x44 => some (decide (x43 > x44.Least))
 else some false
 else some false)
 fun x45 =>
 if x45 = true then some (.inr (.inr (.inr (.inr (.inr (.inr (.inr false)))))))
 else
 Option.bind
 (if decide (x40 < x34) = true then
 if (!x36.2) = true then
 if x42.2 = true then Option.bind (idx a2.Limits x41) fun x46 => some (decide (x46 > 0))
 else some false
 else some false
 else some false)
 fun x47 =>
 if x47 = true then some (.inr (.inr (.inr (.inr (.inr (.inr (.inr false)))))))
 else some (.inl (W (x40 + 1)))
 else some (.inr (.inl ()))
noncomputable def dynposref18_Check_L6 (a0 : Board) (a2 : Power) (x1 : Int ×
 List Bool ×
 List Running ×
 List Int ×
 List Part ×
 List
 Act) (x33 : List
 Int) : Int →
 Option
 (Int ⊕
 Unit ⊕
 Int ⊕
 Unit ⊕
 Bool) := fun x34 =>
 if decide (x34 < len x33) = true then
 Option.bind
 (Option.bind (idx x33 x34) fun x35 =>
 Option.bind (dynposref15_Fed a0 a2 x35) fun x36 =>
 Option.bind
 (if x36.2 = true then
 Option.bind (idx a2.Limits x35) fun x37 =>
 Option.bind (idx x1.2.2.2.1 x35) fun x38 => some (x37 == x38)
 else some false)
 fun x39 =>
 if x39 = true then some (.inl ())
 else
 Option.bind (loopO (dynposref18_Check_L7 a0 a2 x33 x34 x36) 0) fun x48 =>
 Sum.elim (fun x49 => some (.inl ())) (fun x50 => some x50) x48)
 fun x51 => Sum.elim (fun x52 => some (.inl (W (x34 + 1)))) (fun x53 => some x53) x51
 else some (.inr (.inl ()))
noncomputable def dynposref18_Check_L4 (a0 : Board) (a2 : Power) (x1 : Int ×
 List Bool ×
 List Running ×
 List Int ×
 List Part ×
 List
 Act) (x24 : List
 Int) (x25 : List
 Island) : Int →
 Option
 (Int ⊕
 Unit ⊕
 Bool) := fun x26 =>
 if decide (x26 < len x25) = true then
 Option.bind (idx x25 x26) fun x27 =>
 Option.bind (loopO (dynposref18_Check_L5 x24 x27) (0, [])) fun x33 =>
 Option.bind (loopO (dynposref18_Check_L6 a0 a2 x1 x33) 0) fun x54 =>
 Sum.elim (fun x55 => some (.inl (W (x26 + 1)))) (fun x56 => some x56) x54
 else some (.inr (.inl ()))
noncomputable def dynposref18_Check (a0 : Board) (a1 : Power) (a2 : Power) : Option (Bool) :=
 Option.bind (dynposref18_Clear a0 a1) fun x1 =>
 Option.bind
 (if (x1.1 != 0) = true then some true
 else Option.bind (dynposref15_State a0 a2) fun x2 => some (x2 != 0))
 fun x3 =>
 if x3 = true then some false
 else
 Option.bind (dynposref15_Copy a2) fun x4 =>
 Option.bind
 (dynposref15_Same (Power.mk x1.2.1 x4.2.1 x1.2.2.2.1 x4.2.2.2)
 (Power.mk x1.2.1 x1.2.2.1 x1.2.2.2.1 x1.2.2.2.2.1))
 fun x5 =>
 if (!x5) = true then some false
 else
 Option.bind (loopO (dynposref18_Check_L1 a2 x1) 0) fun x10 =>
 Sum.elim
 (fun x11 =>
 Option.bind (loopO (dynposref18_Check_L2 a2 x1) 0) fun x15 =>
 Sum.elim
 (fun x16 =>
 Option.bind (dynposref15_Islands a0 a2) fun x17 =>
 Option.bind (loopO (dynposref18_Check_L3 a0 a2 x17) 0) fun x22 =>
 Sum.elim
 (fun x23 =>
 Option.bind (dynposref18_Order a0) fun x24 =>
 Option.bind
 (dynposref15_Islands a0
 (Power.mk x1.2.1 x1.2.2.1 x1.2.2.2.1 x1.2.2.2.2.1))
 fun x25 =>
 Option.bind (loopO (dynposref18_Check_L4 a0 a2 x1 x24 x25) 0)
 fun x57 => Sum.elim (fun x58 => some true) (fun x59 => some x59) x57)
 (fun x60 => some x60) x22)
 (fun x61 => some x61) x15)
 (fun x62 => some x62) x10
noncomputable def c38 : Con D := ⟨38, z39, [.lf .bool], z48, [], z10, [], fun h => dynposref18_Check ⟨h.1, h.2.1, h.2.2.1, h.2.2.2.1, h.2.2.2.2.1, h.2.2.2.2.2.1⟩ ⟨h.2.2.2.2.2.2.1, h.2.2.2.2.2.2.2.1, h.2.2.2.2.2.2.2.2.1, h.2.2.2.2.2.2.2.2.2.1⟩ ⟨h.2.2.2.2.2.2.2.2.2.2.1, h.2.2.2.2.2.2.2.2.2.2.2.1, h.2.2.2.2.2.2.2.2.2.2.2.2.1, h.2.2.2.2.2.2.2.2.2.2.2.2.2⟩⟩
theorem c38_ok : CK c38 := fo [c12, c18, c22, c23, c25, c26, c28, c39, c40] [.tmp 6] (.n none .o (.n none .o (.n none (.n none (.r (some (true, [(.normal, ⟨[.lf .bool], [(43, .one (.h 0 []))], [], [], 3024⟩)])) .nil) .o) (.n none .o (.n none .o (.n none .o (.n none (.n none .o (.n none (.loop ⟨z9, [(59, .one (.h 0 []))], [], [], 4369⟩ false [(.exit 0, ⟨[], [], [], [], 4369⟩)] (.n none .o (.n none .o (.n none (.n none (.n none .o (.n none (.r (some (true, [(.normal, ⟨[.lf .bool], [(68, .one (.any)), (69, .one (.any)), (70, .one (.any)), (71, .one (.any)), (72, .one (.any)), (73, .one (.any)), (74, .one (.h 0 []))], [], [], 4626⟩)])) .nil) .o)) .o) .o)))) .o)) (.n none (.n none .o (.n none (.loop ⟨z9, [(79, .one (.h 0 []))], [], [], 4689⟩ false [(.exit 2, ⟨[], [], [], [], 4689⟩)] .o) .o)) (.n none (.n none .o (.n none (.loop ⟨z9, [(98, .one (.h 0 []))], [], [], 5073⟩ false [(.exit 4, ⟨[], [], [], [], 5073⟩)] .o) .o)) (.n none .o (.n none (.n none .o (.n none (.loop ⟨z9, [(116, .one (.h 0 []))], [], [], 5649⟩ false [(.exit 6, ⟨[], [], [], [], 5649⟩)] (.n none .o (.n none .o (.n none (.n none (.n none .o (.n none .o (.n none (.n none .o (.n none (.loop ⟨z24, [(18, .one (.own 6226)), (122, .one (.h 0 []))], [(6226, .sl 0 3 1 [])], [], 6290⟩ true [(.exit 8, ⟨z28, [(18, .one (.own 6226))], [(6226, .sl 0 3 0 [])], [], 6290⟩)] (.n none .o (.n none .o (.n none (.n none (.n none .o (.n none .o (.n (some (true, [(.normal, ⟨z28, [(18, .one (.own 6804))], [(6804, .sl 0 3 0 [])], [6226], 6868⟩)])) .o .o))) .o) .o)))) .o)) (.n none .o (.n none (.loop ⟨z9, [(137, .one (.h 0 []))], [], [], 6547⟩ false [(.exit 10, ⟨[], [], [], [], 6547⟩)] (.n none .o (.n none .o (.n none (.n (some (false, [(.normal, ⟨[], [(151, .one (.any)), (152, .one (.any)), (153, .one (.any)), (154, .one (.any)), (155, .one (.any)), (156, .one (.any)), (157, .one (.any)), (158, .one (.any)), (159, .one (.any)), (160, .one (.any)), (161, .one (.any))], [], [], 6676⟩)])) (.n none .o (.n none .o (.n none (.n none (.r (some (true, [(.normal, ⟨[.lf .bool], [(151, .one (.any)), (152, .one (.any)), (153, .one (.any)), (154, .one (.any)), (155, .one (.any)), (156, .one (.any)), (157, .one (.any)), (158, .one (.any)), (159, .one (.any)), (160, .one (.any)), (161, .one (.any)), (162, .one (.h 0 []))], [], [], 7572⟩)])) .nil) .o) (.n none .o (.n none (.loop ⟨z9, [(165, .one (.h 0 []))], [], [], 7829⟩ false [(.exit 12, ⟨[], [], [], [], 7829⟩)] (.n none .o (.n none .o (.n none (.n none (.n none .o (.n none .o (.n none (.n none (.r (some (true, [(.normal, ⟨[.lf .bool], [(181, .one (.any)), (184, .one (.any)), (185, .one (.any)), (186, .one (.any)), (187, .one (.any)), (188, .one (.any)), (189, .one (.any)), (190, .one (.any)), (191, .one (.any)), (192, .one (.any)), (193, .one (.any)), (194, .one (.any)), (195, .one (.any)), (196, .one (.h 0 []))], [], [], 8854⟩)])) .nil) .o) (.n none (.r (some (true, [(.normal, ⟨[.lf .bool], [(201, .one (.any)), (202, .one (.any)), (205, .one (.any)), (208, .one (.any)), (209, .one (.any)), (210, .one (.any)), (211, .one (.any)), (212, .one (.any)), (213, .one (.any)), (214, .one (.h 0 []))], [], [], 8919⟩)])) .nil) .o)))) .o) .o)))) .o))))) .o) .o)))) .o))))) .o) .o)))) .o)) .o))))))))))) ⟨c12_ok, c18_ok, c22_ok, c23_ok, c25_ok, c26_ok, c28_ok, c39_ok, c40_ok, trivial⟩ Tryz.call38 Tryz.func38 rfl rfl (by kernel_rfl) fun h => by kernel_rfl
noncomputable def Src_BentPower_L1 (x1 : List Bool ×
 List Running ×
 List Int ×
 List
 Part) : Int × List Bool →
 Option
 (Int × List Bool ⊕
 List
 Bool) := fun x3 =>
 if decide (x3.1 < len x1.1) = true then
 Option.bind (idx x3.2 x3.1) fun x4 =>
 Option.bind (idx x3.2 x3.1) fun x5 =>
 Option.bind (setO x3.2 x3.1 true) fun x6 => some (.inl (W (x3.1 + 1), x6))
 else some (.inr x3.2)
noncomputable def Src_BentPower (a0 : Src) (a1 : Power) : Option ((List Int) × Int × (List Bool) × (List Running) × (List Int) × (List Part)) :=
 Option.bind (dynposref15_Copy a1) fun x1 =>
 Option.bind (Src_N a0 6) fun x2 =>
 Option.bind
 (if (x2.1 == 0) = true then
 Option.bind (app x1.1 [true]) fun x33 =>
 some (x2.2.1, x2.2.2, x1.2.1, x1.2.2.1, x33, x1.2.2.2)
 else
 Option.bind
 (if (x2.1 == 1) = true then
 Option.bind
 (if decide (len x1.2.1 > 0) = true then
 Option.bind (Src_N (Src.mk x2.2.1 x2.2.2) (len x1.2.1)) fun x26 =>
 Option.bind (Src_Range (Src.mk x26.2.1 x26.2.2) (-1) 5) fun x27 =>
 Option.bind (idx x1.2.1 x26.1) fun x28 =>
 Option.bind (idx x1.2.1 x26.1) fun x29 =>
 Option.bind (setO x1.2.1 x26.1 (Running.mk x27.1 x29.Since x29.Frequency x29.Phase))
 fun x30 => some (x27.2.1, x27.2.2, x30)
 else some (x2.2.1, x2.2.2, x1.2.1))
 fun x31 => some (x31.1, x31.2.1, x1.1, x31.2.2, x1.2.2.1, x1.2.2.2)
 else
 Option.bind
 (if (x2.1 == 2) = true then
 Option.bind
 (if decide (len x1.2.1 > 0) = true then
 Option.bind (Src_N (Src.mk x2.2.1 x2.2.2) (len x1.2.1)) fun x19 =>
 Option.bind (Src_Odd (Src.mk x19.2.1 x19.2.2)) fun x20 =>
 Option.bind (idx x1.2.1 x19.1) fun x21 =>
 Option.bind (idx x1.2.1 x19.1) fun x22 =>
 Option.bind
 (setO x1.2.1 x19.1 (Running.mk x22.State x22.Since x22.Frequency x20.1))
 fun x23 => some (x20.2.1, x20.2.2, x23)
 else some (x2.2.1, x2.2.2, x1.2.1))
 fun x24 => some (x24.1, x24.2.1, x1.1, x24.2.2, x1.2.2.1, x1.2.2.2)
 else
 Option.bind
 (if (x2.1 == 3) = true then
 Option.bind
 (if decide (len x1.2.2.1 > 0) = true then
 Option.bind (Src_N (Src.mk x2.2.1 x2.2.2) (len x1.2.2.1)) fun x12 =>
 Option.bind (Src_Odd (Src.mk x12.2.1 x12.2.2)) fun x13 =>
 Option.bind (idx x1.2.2.1 x12.1) fun x14 =>
 Option.bind (idx x1.2.2.1 x12.1) fun x15 =>
 Option.bind (setO x1.2.2.1 x12.1 x13.1) fun x16 =>
 some (x13.2.1, x13.2.2, x16)
 else some (x2.2.1, x2.2.2, x1.2.2.1))
 fun x17 => some (x17.1, x17.2.1, x1.1, x17.2.2, x1.2.2.2)
 else
 Option.bind
 (if (x2.1 == 4) = true then
 Option.bind (Src_Range (Src.mk x2.2.1 x2.2.2) 0 5) fun x8 =>
 Option.bind (Src_Range (Src.mk x8.2.1 x8.2.2) (-1) 5)
 fun x9 =>
 Option.bind (app x1.2.2.2 [Part.mk x8.1 x9.1]) fun x10 =>
 some (x9.2.1, x9.2.2, x1.1, x10)
 else
 Option.bind (loopO (Src_BentPower_L1 x1) (0, x1.1)) fun x7 =>
 some (x2.2.1, x2.2.2, x7, x1.2.2.2))
 fun x11 => some (x11.1, x11.2.1, x11.2.2.1, x1.2.2.1, x11.2.2.2))
 fun x18 =>
 some (x18.1, x18.2.1, x18.2.2.1, x1.2.1, x18.2.2.2.1, x18.2.2.2.2))
 fun x25 =>
 some
 (x25.1, x25.2.1, x25.2.2.1, x25.2.2.2.1, x25.2.2.2.2.1,
 x25.2.2.2.2.2))
 fun x32 =>
 some
 (x32.1, x32.2.1, x32.2.2.2.1, x32.2.2.2.2.1, x32.2.2.1,
 x32.2.2.2.2.2))
 fun x34 =>
 some
 (x34.1, x34.2.1, x34.2.2.2.2.1, x34.2.2.1, x34.2.2.2.1, x34.2.2.2.2.2)
noncomputable def c29 : Con D := ⟨29, z34, z34, [.one (.ptr 1000 0), .agg [.h 2 [0], .h 3 [0], .h 4 [0], .h 5 [0]]], z42, [.agg [.own 1001, .own 1002, .own 1003, .own 1004]], [(1000, .box [.h 0 [0], .h 1 []]), (1001, .sl 1 4 2 []), (1002, .sl 8 48 3 []), (1003, .sl 0 3 4 []), (1004, .sl 9 84 5 [])], fun h => Src_BentPower ⟨h.1, h.2.1⟩ ⟨h.2.2.1, h.2.2.2.1, h.2.2.2.2.1, h.2.2.2.2.2⟩⟩
theorem c29_ok : CK c29 := fo [c30, c39, c60, c61] [.cell 4 34] (.n none .o (.n none .o (.n none (.n none .o (.n none (.n none .o (.n (some (true, [(.normal, ⟨[.lf (.sl 0), .lf (.int .i64), .lf (.sl 8), .lf (.sl 0), .lf (.sl 1), .lf (.sl 9)], [], [(1000, .box [.h 0 [0], .h 1 []]), (2201, .sl 8 48 2 []), (2202, .sl 0 3 3 []), (2256, .box [.own 2640, .own 2201, .own 2202, .own 2641]), (2640, .sl 1 4 4 []), (2641, .sl 9 84 5 [])], [1000, 2200, 2201, 2202, 2203, 2256], 2704⟩)])) .o (.n none .o (.n (some (true, [(.normal, ⟨z34, [], [(1000, .box [.h 0 [0], .h 1 []]), (2200, .sl 1 4 2 []), (2201, .sl 8 48 3 []), (2202, .sl 0 3 4 []), (2256, .box [.own 2200, .own 2201, .own 2202, .own 2768]), (2768, .sl 9 84 5 [])], [1000, 2200, 2201, 2202, 2203, 2256], 2832⟩)])) (.n none .o (.n (some (true, [(.normal, ⟨[.lf (.sl 0), .lf (.int .i64), .lf (.sl 8)], [], [(1000, .box [.h 0 [0], .h 1 []]), (2201, .sl 8 48 2 [])], [1000, 2201], 3088⟩)])) .o .o)) (.n none .o (.n (some (true, [(.normal, ⟨z34, [], [(1000, .box [.h 0 [0], .h 1 []]), (2200, .sl 1 4 2 []), (2201, .sl 8 48 3 []), (2202, .sl 0 3 4 []), (2256, .box [.own 2200, .own 2201, .own 2202, .own 2896]), (2896, .sl 9 84 5 [])], [1000, 2200, 2201, 2202, 2203, 2256], 2960⟩)])) (.n none .o (.n (some (true, [(.normal, ⟨[.lf (.sl 0), .lf (.int .i64), .lf (.sl 8)], [], [(1000, .box [.h 0 [0], .h 1 []]), (2201, .sl 8 48 2 [])], [1000, 2201], 3216⟩)])) .o .o)) (.n none .o (.n (some (true, [(.normal, ⟨[.lf (.sl 0), .lf (.int .i64), .lf (.sl 1), .lf (.sl 0), .lf (.sl 9)], [], [(1000, .box [.h 0 [0], .h 1 []]), (2200, .sl 1 4 2 []), (2202, .sl 0 3 3 []), (2256, .box [.own 2200, .own 2201, .own 2202, .own 3024]), (3024, .sl 9 84 4 [])], [1000, 2200, 2202, 2203, 2256], 3088⟩)])) (.n none .o (.n (some (true, [(.normal, ⟨z60, [], [(1000, .box [.h 0 [0], .h 1 []]), (2202, .sl 0 3 2 [])], [1000, 2202], 3344⟩)])) .o .o)) (.n none .o (.n (some (true, [(.normal, ⟨[.lf (.sl 0), .lf (.int .i64), .lf (.sl 1), .lf (.sl 9)], [], [(1000, .box [.h 0 [0], .h 1 []]), (2200, .sl 1 4 2 []), (2256, .box [.own 2200, .own 2201, .own 2202, .own 3152]), (3152, .sl 9 84 3 [])], [1000, 2200, 2203, 2256], 3216⟩)])) .o (.n none .o (.n none (.loop ⟨[.lf (.int .i64), .lf (.sl 1)], [(14, .one (.h 0 []))], [(2200, .sl 1 4 1 [])], [2200], 3472⟩ true [(.exit 1, ⟨[.lf (.sl 1)], [], [(2200, .sl 1 4 0 [])], [2200], 3472⟩)] .o) .o)))))))))))) .o)) .o))) ⟨c30_ok, c39_ok, c60_ok, c61_ok, trivial⟩ Tryz.call29 Tryz.func29 rfl rfl (by kernel_rfl) fun h => by kernel_rfl
end Rx
end Go.Proofs.YtfnphdhcgkondaaGreat
