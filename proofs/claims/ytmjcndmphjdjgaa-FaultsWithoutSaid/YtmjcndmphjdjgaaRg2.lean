/- Plain functions, walks. Written by a program (wip/gen). -/
import Derived.Test.YtmjcndmphjdjgaaRt
import Derived.Test.YtmjcndmphjdjgaaHc
import Derived.Test.YtmjcndmphjdjgaaRg1
set_option linter.unusedVariables false
set_option maxRecDepth 100000
namespace Go.Proofs.Ytmjcndmphjdjgaa
open Go Go.RowKit Dp
namespace Rx

noncomputable def dynposmake_Mod (a0 : Int) (a1 : Int) : Option (Int) :=
  if decide (a1 < 1) = true then some 0
  else Option.bind (remO a0 a1) fun x1 => Option.bind (remO (W (x1 + a1)) a1) fun x2 => some x2
noncomputable def c57 : Con D := ⟨57, [.lf (.int .i64), .lf (.int .i64)], [.lf (.int .i64)], [.one (.h 0 []), .one (.h 1 [])], [], [.one (.h 0 [])], [], fun h => dynposmake_Mod h.1 h.2⟩
theorem c57_ok : ConOk Try.prog T c57 := fn_ok (Φ := []) (rs := [.tmp 4]) (an := .o) pOk repOk (AllC.mem (l := []) trivial) hmix Try.call57 Try.func57 rfl rfl (by kernel_rfl) (fun h => by kernel_rfl)

noncomputable def Src_N (a0 : Src) (a1 : Int) : Option (Int × (List Int) × Int) :=
  if decide (a0.At ≥ len a0.L) = true then some (0, a0.L, a0.At)
  else
    Option.bind (idx a0.L (W (W (a0.At + 1) - 1))) fun x1 =>
      Option.bind (dynposmake_Mod x1 a1) fun x2 => some (x2, a0.L, W (a0.At + 1))
noncomputable def c26 : Con D := ⟨26, [.lf (.sl 0), .lf (.int .i64), .lf (.int .i64)], [.lf (.int .i64), .lf (.sl 0), .lf (.int .i64)], [.one (.ptr 1000 0), .one (.h 2 [])], [(1000, .box [.h 0 [0], .h 1 []])], [.one (.h 0 [])], [(1000, .box [.h 1 [0], .h 2 []])], fun h => Src_N ⟨h.1, h.2.1⟩ h.2.2⟩
theorem c26_ok : ConOk Try.prog T c26 := fn_ok (Φ := [c57]) (rs := [.tmp 4]) (an := .o) pOk repOk (AllC.mem (⟨c57_ok, trivial⟩ : AllC _ _ [c57])) hmix Try.call26 Try.func26 rfl rfl (by kernel_rfl) (fun h => by kernel_rfl)

noncomputable def Src_Range (a0 : Src) (a1 : Int) (a2 : Int) : Option (Int × (List Int) × Int) :=
  Option.bind (Src_N a0 (W (W (a2 - a1) + 1))) fun x1 => some (W (a1 + x1.1), x1.2.1, x1.2.2)
noncomputable def c35 : Con D := ⟨35, [.lf (.sl 0), .lf (.int .i64), .lf (.int .i64), .lf (.int .i64)], [.lf (.int .i64), .lf (.sl 0), .lf (.int .i64)], [.one (.ptr 1000 0), .one (.h 2 []), .one (.h 3 [])], [(1000, .box [.h 0 [0], .h 1 []])], [.one (.h 0 [])], [(1000, .box [.h 1 [0], .h 2 []])], fun h => Src_Range ⟨h.1, h.2.1⟩ h.2.2.1 h.2.2.2⟩
theorem c35_ok : ConOk Try.prog T c35 := fn_ok (Φ := [c26]) (rs := [.tmp 6]) (an := .o) pOk repOk (AllC.mem (⟨c26_ok, trivial⟩ : AllC _ _ [c26])) hmix Try.call35 Try.func35 rfl rfl (by kernel_rfl) (fun h => by kernel_rfl)

noncomputable def Src_Part (a0 : Src) : Option (Int × Int × (List Int) × Int) :=
  Option.bind (Src_Range a0 1 9) fun x1 =>
    Option.bind (Src_N (Src.mk x1.2.1 x1.2.2) 4) fun x2 =>
      some (x1.1, x2.1, x2.2.1, x2.2.2)
noncomputable def c25 : Con D := ⟨25, [.lf (.sl 0), .lf (.int .i64)], [.lf (.int .i64), .lf (.int .i64), .lf (.sl 0), .lf (.int .i64)], [.one (.ptr 1000 0)], [(1000, .box [.h 0 [0], .h 1 []])], [.agg [.h 0 [], .h 1 []]], [(1000, .box [.h 2 [0], .h 3 []])], fun h => Src_Part ⟨h.1, h.2⟩⟩
theorem c25_ok : ConOk Try.prog T c25 := fn_ok (Φ := [c26, c35]) (rs := [.cell 2 41]) (an := .o) pOk repOk (AllC.mem (⟨c26_ok, c35_ok, trivial⟩ : AllC _ _ [c26, c35])) hmix Try.call25 Try.func25 rfl rfl (by kernel_rfl) (fun h => by kernel_rfl)

noncomputable def Src_AnyFaults_L1 : Int × List Fault × List Int × Int →
  Option
    (Int × List Fault × List Int × Int ⊕
      List Fault ×
        List Int ×
          Int) := fun x2 =>
  if decide (x2.1 > 0) = true then
    Option.bind (Src_N (Src.mk x2.2.2.1 x2.2.2.2) 8) fun x3 =>
      Option.bind (Src_Range (Src.mk x3.2.1 x3.2.2) 1 2) fun x4 =>
        Option.bind (Src_Part (Src.mk x4.2.1 x4.2.2)) fun x5 =>
          Option.bind (app x2.2.1 [Fault.mk x3.1 x4.1 (Part.mk x5.1 x5.2.1)]) fun x6 =>
            some (.inl (W (x2.1 - 1), x6, x5.2.2.1, x5.2.2.2))
  else some (.inr (x2.2.1, x2.2.2.1, x2.2.2.2))
noncomputable def Src_AnyFaults (a0 : Src) (a1 : Int) : Option ((List Int) × Int × (List Fault)) :=
  Option.bind (Src_N a0 (W (a1 + 1))) fun x1 =>
    Option.bind (loopO Src_AnyFaults_L1 (x1.1, [], x1.2.1, x1.2.2)) fun x7 =>
      some (x7.2.1, x7.2.2, x7.1)
noncomputable def c22 : Con D := ⟨22, [.lf (.sl 0), .lf (.int .i64), .lf (.int .i64)], [.lf (.sl 0), .lf (.int .i64), .lf (.sl 4)], [.one (.ptr 1000 0), .one (.h 2 [])], [(1000, .box [.h 0 [0], .h 1 []])], [.one (.own 1001)], [(1000, .box [.h 0 [0], .h 1 []]), (1001, .sl 4 50 2 [])], fun h => Src_AnyFaults ⟨h.1, h.2.1⟩ h.2.2⟩
theorem c22_ok : ConOk Try.prog T c22 := fn_ok (Φ := [c25, c26, c35]) (rs := [.tmp 4]) (an := (.n none .o (.n none .o (.n none (.n none .o (.n none (.loop ⟨[.lf (.int .i64), .lf (.sl 4), .lf (.sl 0), .lf (.int .i64)], [(5, .one (.own 2448)), (6, .one (.h 0 []))], [(2448, .sl 4 50 1 []), (1000, .box [.h 2 [0], .h 3 []])], [1000], 2512⟩ true [(.exit 0, ⟨[.lf (.sl 4), .lf (.sl 0), .lf (.int .i64)], [(5, .one (.own 2448))], [(2448, .sl 4 50 0 []), (1000, .box [.h 1 [0], .h 2 []])], [1000], 2512⟩)] .o) .o)) .o)))) pOk repOk (AllC.mem (⟨c25_ok, c26_ok, c35_ok, trivial⟩ : AllC _ _ [c25, c26, c35])) hmix Try.call22 Try.func22 rfl rfl (by kernel_rfl) (fun h => by kernel_rfl)

noncomputable def dynposref26_Valid (a0 : Part) : Option (Bool) :=
  Option.bind
    (if decide (a0.Kind ≥ 1) = true then
      if decide (a0.Kind ≤ 9) = true then
        if decide (a0.Number ≥ 0) = true then some (decide (a0.Number ≤ 63)) else some false
      else some false
    else some false)
    fun x1 => some x1
noncomputable def c81 : Con D := ⟨81, [.lf (.int .i64), .lf (.int .i64)], [.lf .bool], [.agg [.h 0 [], .h 1 []]], [], [.one (.h 0 [])], [], fun h => dynposref26_Valid ⟨h.1, h.2⟩⟩
theorem c81_ok : ConOk Try.prog T c81 := fn_ok (Φ := []) (rs := [.tmp 2]) (an := (.n none .o (.n none (.r (some (true, [(.normal, ⟨[.lf .bool], [(2, .one (.h 0 []))], [], [], 2192⟩)])) .nil) .o))) pOk repOk (AllC.mem (l := []) trivial) hmix Try.call81 Try.func81 rfl rfl (by kernel_rfl) (fun h => by kernel_rfl)

noncomputable def dynposref34_Right (a0 : Fault) : Option (Bool) :=
  Option.bind
    (if decide (a0.Time ≥ 0) = true then
      if decide (a0.Time ≤ 2147483648) = true then
        if (a0.Kind == 1) = true then Option.bind (dynposref26_Valid a0.Part) fun x2 => some x2
        else
          if (a0.Kind == 2) = true then Option.bind (dynposref26_Valid a0.Part) fun x1 => some x1
          else some false
      else some false
    else some false)
    fun x3 => some x3
noncomputable def c60 : Con D := ⟨60, [.lf (.int .i64), .lf (.int .i64), .lf (.int .i64), .lf (.int .i64)], [.lf .bool], [.agg [.h 0 [], .h 1 [], .h 2 [], .h 3 []]], [], [.one (.h 0 [])], [], fun h => dynposref34_Right ⟨h.1, h.2.1, ⟨h.2.2.1, h.2.2.2⟩⟩⟩
theorem c60_ok : ConOk Try.prog T c60 := fn_ok (Φ := [c81]) (rs := [.tmp 2]) (an := (.n none .o (.n none (.r (some (true, [(.normal, ⟨[.lf .bool], [(2, .one (.h 0 []))], [], [], 2192⟩)])) .nil) .o))) pOk repOk (AllC.mem (⟨c81_ok, trivial⟩ : AllC _ _ [c81])) hmix Try.call60 Try.func60 rfl rfl (by kernel_rfl) (fun h => by kernel_rfl)

noncomputable def dynposref34_times_L2 (x1 : Int ×
  List
    Int) (x2 : Fault) : Int →
  Option
    (Int ⊕
      Int) := fun x3 =>
  Option.bind
    (if decide (x3 < len x1.2) = true then Option.bind (idx x1.2 x3) fun x4 => some (decide (x4 < x2.Time))
    else some false)
    fun x5 => if x5 = true then some (.inl (W (x3 + 1))) else some (.inr x3)
noncomputable def dynposref34_times_L1 (a0 : List
  Fault) : Int × List Int →
  Option
    (Int × List Int ⊕
      List
        Int) := fun x1 =>
  if decide (x1.1 < len a0) = true then
    Option.bind (idx a0 x1.1) fun x2 =>
      Option.bind (loopO (dynposref34_times_L2 x1 x2) 0) fun x6 =>
        Option.bind
          (if (x6 == len x1.2) = true then some true else Option.bind (idx x1.2 x6) fun x7 => some (x7 != x2.Time))
          fun x8 =>
          Option.bind
            (if x8 = true then
              Option.bind (slc x1.2 0 x6) fun x9 =>
                Option.bind (slc x1.2 x6 (len x1.2)) fun x10 =>
                  Option.bind (app [x2.Time] (drpI x1.2 x6)) fun x11 =>
                    Option.bind (app (takI x1.2 x6) x11) fun x12 => some x12
            else some x1.2)
            fun x13 => some (.inl (W (x1.1 + 1), x13))
  else some (.inr x1.2)
noncomputable def dynposref34_times (a0 : (List Fault)) : Option ((List Int)) := Option.bind (loopO (dynposref34_times_L1 a0) (0, [])) fun x14 => some x14
noncomputable def c62 : Con D := ⟨62, [.lf (.sl 4)], [.lf (.sl 0)], [.one (.h 0 [0])], [], [.one (.own 1000)], [(1000, .sl 0 3 0 [])], fun h => dynposref34_times h⟩
theorem c62_ok : ConOk Try.prog T c62 := fn_ok (Φ := []) (rs := [.tmp 2]) (an := (.n none .o (.n none .o (.n none (.n none .o (.n none (.loop ⟨[.lf (.int .i64), .lf (.sl 0)], [(3, .one (.own 2320)), (9, .one (.h 0 []))], [(2320, .sl 0 3 1 [])], [], 2384⟩ true [(.exit 0, ⟨[.lf (.sl 0)], [(3, .one (.own 2320))], [(2320, .sl 0 3 0 [])], [], 2384⟩)] (.n none .o (.n none .o (.n none (.n none (.n none .o (.n none .o (.n none (.n none (.loop ⟨[.lf (.int .i64)], [(6, .one (.h 0 []))], [], [], 2834⟩ true [(.exit 2, ⟨[.lf (.int .i64)], [(6, .one (.h 0 [])), (18, .one (.any)), (19, .one (.any)), (20, .one (.any)), (21, .one (.any)), (22, .one (.any)), (23, .one (.any)), (24, .one (.any))], [], [], 2834⟩)] (.n none (.n none (.r (some (true, [(.normal, ⟨[.lf .bool], [(18, .one (.any)), (19, .one (.any)), (20, .one (.any)), (21, .one (.any)), (22, .one (.any)), (23, .one (.any)), (24, .one (.any)), (25, .one (.h 0 []))], [], [], 2899⟩)])) .nil) .o) .o)) .o) (.n none (.r (some (true, [(.normal, ⟨[.lf .bool], [(33, .one (.any)), (34, .one (.any)), (35, .one (.any)), (36, .one (.any)), (37, .one (.any)), (38, .one (.any)), (39, .one (.any)), (40, .one (.h 0 []))], [], [], 2899⟩)])) .nil) (.n (some (true, [(.normal, ⟨[.lf (.sl 0)], [(3, .one (.own 2900))], [(2900, .sl 0 3 0 [])], [2320], 2964⟩)])) .o .o))))) .o) .o)))) .o)) .o)))) pOk repOk (AllC.mem (l := []) trivial) hmix Try.call62 Try.func62 rfl rfl (by kernel_rfl) (fun h => by kernel_rfl)

noncomputable def dynposref26_Less (a0 : Part) (a1 : Part) : Option (Bool) :=
  Option.bind
    (if decide (a0.Kind < a1.Kind) = true then some true
    else if (a0.Kind == a1.Kind) = true then some (decide (a0.Number < a1.Number)) else some false)
    fun x1 => some x1
noncomputable def c52 : Con D := ⟨52, [.lf (.int .i64), .lf (.int .i64), .lf (.int .i64), .lf (.int .i64)], [.lf .bool], [.agg [.h 0 [], .h 1 []], .agg [.h 2 [], .h 3 []]], [], [.one (.h 0 [])], [], fun h => dynposref26_Less ⟨h.1, h.2.1⟩ ⟨h.2.2.1, h.2.2.2⟩⟩
theorem c52_ok : ConOk Try.prog T c52 := fn_ok (Φ := []) (rs := [.tmp 4]) (an := (.n none .o (.n none (.r (some (true, [(.normal, ⟨[.lf .bool], [(4, .one (.h 0 []))], [], [], 2256⟩)])) .nil) .o))) pOk repOk (AllC.mem (l := []) trivial) hmix Try.call52 Try.func52 rfl rfl (by kernel_rfl) (fun h => by kernel_rfl)

noncomputable def dynposref26_With_L1 (a0 : List
  Part) (a1 : Part) : Int →
  Option
    (Int ⊕
      Int) := fun x1 =>
  Option.bind
    (if decide (x1 < len a0) = true then
      Option.bind (idx a0 x1) fun x2 => Option.bind (dynposref26_Less x2 a1) fun x3 => some x3
    else some false)
    fun x4 => if x4 = true then some (.inl (W (x1 + 1))) else some (.inr x1)
noncomputable def dynposref26_With (a0 : (List Part)) (a1 : Part) : Option ((List Part)) :=
  Option.bind (loopO (dynposref26_With_L1 a0 a1) 0) fun x5 =>
    Option.bind
      (if decide (x5 < len a0) = true then
        Option.bind (idx a0 x5) fun x6 => some (x6.Kind == a1.Kind && x6.Number == a1.Number)
      else some false)
      fun x7 =>
      if x7 = true then some a0
      else
        Option.bind (slc a0 0 x5) fun x8 =>
          Option.bind (slc a0 x5 (len a0)) fun x9 =>
            Option.bind (app [a1] (drpI a0 x5)) fun x10 => Option.bind (app (takI a0 x5) x10) fun x11 => some x11
noncomputable def c20 : Con D := ⟨20, [.lf (.sl 3), .lf (.int .i64), .lf (.int .i64)], [.lf (.sl 3)], [.one (.own 1000), .agg [.h 1 [], .h 2 []]], [(1000, .sl 3 41 0 [0])], [.one (.own 1001)], [(1001, .sl 3 41 0 [0])], fun h => dynposref26_With h.1 ⟨h.2.1, h.2.2⟩⟩
theorem c20_ok : ConOk Try.prog T c20 := fn_ok (Φ := [c52]) (rs := [.tmp 4]) (an := (.n none .o (.n none .o (.n none (.n none (.loop ⟨[.lf (.int .i64)], [(5, .one (.h 0 []))], [], [], 2256⟩ true [(.exit 0, ⟨[.lf (.int .i64)], [(5, .one (.h 0 []))], [], [], 2256⟩)] (.n none (.n none (.r (some (true, [(.normal, ⟨[.lf .bool], [(11, .one (.any)), (12, .one (.any)), (13, .one (.any)), (14, .one (.any)), (15, .one (.any)), (16, .one (.any)), (17, .one (.h 0 []))], [], [], 2321⟩)])) .nil) .o) .o)) .o) (.n none (.n none (.r (some (true, [(.normal, ⟨[.lf .bool], [(31, .one (.h 0 []))], [], [], 2321⟩)])) .nil) .o) .o))))) pOk repOk (AllC.mem (⟨c52_ok, trivial⟩ : AllC _ _ [c52])) hmix Try.call20 Try.func20 rfl rfl (by kernel_rfl) (fun h => by kernel_rfl)

noncomputable def dynposref34_parts_L1 (a0 : List
  Fault) : Int × List Part →
  Option
    (Int × List Part ⊕
      List
        Part) := fun x1 =>
  if decide (x1.1 < len a0) = true then
    Option.bind (idx a0 x1.1) fun x2 =>
      Option.bind (dynposref26_With x1.2 x2.Part) fun x3 => some (.inl (W (x1.1 + 1), x3))
  else some (.inr x1.2)
noncomputable def dynposref34_parts (a0 : (List Fault)) : Option ((List Part)) := Option.bind (loopO (dynposref34_parts_L1 a0) (0, [])) fun x4 => some x4
noncomputable def c61 : Con D := ⟨61, [.lf (.sl 4)], [.lf (.sl 3)], [.one (.h 0 [0])], [], [.one (.own 1000)], [(1000, .sl 3 41 0 [])], fun h => dynposref34_parts h⟩
theorem c61_ok : ConOk Try.prog T c61 := fn_ok (Φ := [c20]) (rs := [.tmp 2]) (an := (.n none .o (.n none .o (.n none (.n none .o (.n none (.loop ⟨[.lf (.int .i64), .lf (.sl 3)], [(3, .one (.own 2320)), (8, .one (.h 0 []))], [(2320, .sl 3 41 1 [])], [], 2384⟩ true [(.exit 0, ⟨[.lf (.sl 3)], [(3, .one (.own 2320))], [(2320, .sl 3 41 0 [])], [], 2384⟩)] .o) .o)) .o)))) pOk repOk (AllC.mem (⟨c20_ok, trivial⟩ : AllC _ _ [c20])) hmix Try.call61 Try.func61 rfl rfl (by kernel_rfl) (fun h => by kernel_rfl)

noncomputable def dynposref26_Has_L1 (a0 : List
  Part) (a1 : Part) : Int →
  Option
    (Int ⊕
      Unit ⊕
        Bool) := fun x1 =>
  if decide (x1 < len a0) = true then
    Option.bind (idx a0 x1) fun x2 =>
      if (x2.Kind == a1.Kind && x2.Number == a1.Number) = true then some (.inr (.inr true))
      else some (.inl (W (x1 + 1)))
  else some (.inr (.inl ()))
noncomputable def dynposref26_Has (a0 : (List Part)) (a1 : Part) : Option (Bool) :=
  Option.bind (loopO (dynposref26_Has_L1 a0 a1) 0) fun x3 =>
    Sum.elim (fun x4 => some false) (fun x5 => some x5) x3
noncomputable def c19 : Con D := ⟨19, [.lf (.sl 3), .lf (.int .i64), .lf (.int .i64)], [.lf .bool], [.one (.h 0 [0]), .agg [.h 1 [], .h 2 []]], [], [.one (.h 0 [])], [], fun h => dynposref26_Has h.1 ⟨h.2.1, h.2.2⟩⟩
theorem c19_ok : ConOk Try.prog T c19 := fn_ok (Φ := []) (rs := [.tmp 4]) (an := (.n none .o (.n none (.n none .o (.n none (.loop ⟨[.lf (.int .i64)], [(9, .one (.h 0 []))], [], [], 2384⟩ false [(.exit 0, ⟨[], [], [], [], 2384⟩)] .o) .o)) .o))) pOk repOk (AllC.mem (l := []) trivial) hmix Try.call19 Try.func19 rfl rfl (by kernel_rfl) (fun h => by kernel_rfl)

noncomputable def dynposref34_without_L1 (a0 : List
  Part) (a1 : Part) : Int × List Part →
  Option
    (Int × List Part ⊕
      List
        Part) := fun x1 =>
  if decide (x1.1 < len a0) = true then
    Option.bind (idx a0 x1.1) fun x2 =>
      Option.bind
        (if (!(x2.Kind == a1.Kind && x2.Number == a1.Number)) = true then
          Option.bind (app x1.2 [x2]) fun x3 => some x3
        else some x1.2)
        fun x4 => some (.inl (W (x1.1 + 1), x4))
  else some (.inr x1.2)
noncomputable def dynposref34_without (a0 : (List Part)) (a1 : Part) : Option ((List Part)) := Option.bind (loopO (dynposref34_without_L1 a0 a1) (0, [])) fun x5 => some x5
noncomputable def c63 : Con D := ⟨63, [.lf (.sl 3), .lf (.int .i64), .lf (.int .i64)], [.lf (.sl 3)], [.one (.h 0 [0]), .agg [.h 1 [], .h 2 []]], [], [.one (.own 1000)], [(1000, .sl 3 41 0 [])], fun h => dynposref34_without h.1 ⟨h.2.1, h.2.2⟩⟩
theorem c63_ok : ConOk Try.prog T c63 := fn_ok (Φ := []) (rs := [.tmp 4]) (an := (.n none .o (.n none .o (.n none (.n none .o (.n none (.loop ⟨[.lf (.int .i64), .lf (.sl 3)], [(5, .one (.own 2384)), (10, .one (.h 0 []))], [(2384, .sl 3 41 1 [])], [], 2448⟩ true [(.exit 0, ⟨[.lf (.sl 3)], [(5, .one (.own 2384))], [(2384, .sl 3 41 0 [])], [], 2448⟩)] (.n none .o (.n none .o (.n none (.n none (.n none .o (.n none .o (.n (some (true, [(.normal, ⟨[.lf (.sl 3)], [(5, .one (.own 2962))], [(2962, .sl 3 41 0 [])], [2384], 3026⟩)])) .o .o))) .o) .o)))) .o)) .o)))) pOk repOk (AllC.mem (l := []) trivial) hmix Try.call63 Try.func63 rfl rfl (by kernel_rfl) (fun h => by kernel_rfl)

noncomputable def dynposref34_Normal_L1 (a0 : List
  Fault) : Int →
  Option
    (Int ⊕
      Unit ⊕
        Int ×
          List
            Fault) := fun x1 =>
  if decide (x1 < len a0) = true then
    Option.bind (idx a0 x1) fun x2 =>
      Option.bind (dynposref34_Right x2) fun x3 =>
        if (!x3) = true then some (.inr (.inr (1, []))) else some (.inl (W (x1 + 1)))
  else some (.inr (.inl ()))
noncomputable def dynposref34_Normal_L4 (a0 : List
  Fault) (x8 : Int) (x11 : Part) : Int × Int →
  Option
    (Int × Int ⊕
      Int) := fun x12 =>
  if decide (x12.2 < len a0) = true then
    Option.bind (idx a0 x12.2) fun x13 =>
      Option.bind
        (if (x13.Time == x8) = true then some (x13.Part.Kind == x11.Kind && x13.Part.Number == x11.Number)
        else some false)
        fun x14 =>
        Option.bind (if x14 = true then some x13.Kind else some x12.1) fun x15 =>
          some (.inl (x15, W (x12.2 + 1)))
  else some (.inr x12.1)
noncomputable def dynposref34_Normal_L3 (a0 : List
  Fault) (x8 : Int) (x9 : List
  Part) : Int × List Fault × List Part →
  Option
    (Int × List Fault × List Part ⊕
      List Fault ×
        List
          Part) := fun x10 =>
  if decide (x10.1 < len x9) = true then
    Option.bind
      (Option.bind (idx x9 x10.1) fun x11 =>
        Option.bind (loopO (dynposref34_Normal_L4 a0 x8 x11) (0, 0)) fun x16 =>
          Option.bind
            (if (x16 == 0) = true then some true
            else Option.bind (dynposref26_Has x10.2.2 x11) fun x17 => some ((x16 == 1) == x17))
            fun x18 =>
            if x18 = true then some (x10.2.1, x10.2.2)
            else
              Option.bind (app x10.2.1 [Fault.mk x8 x16 x11]) fun x19 =>
                Option.bind
                  (if (x16 == 1) = true then
                    Option.bind (dynposref26_With x10.2.2 x11) fun x21 => some x21
                  else Option.bind (dynposref34_without x10.2.2 x11) fun x20 => some x20)
                  fun x22 => some (x19, x22))
      fun x23 => some (.inl (W (x10.1 + 1), x23.1, x23.2))
  else some (.inr (x10.2.1, x10.2.2))
noncomputable def dynposref34_Normal_L2 (a0 : List
  Fault) (x6 : List
  Int) : Int × List Fault × List Part →
  Option
    (Int × List Fault × List Part ⊕
      List
        Fault) := fun x7 =>
  if decide (x7.1 < len x6) = true then
    Option.bind (idx x6 x7.1) fun x8 =>
      Option.bind (dynposref34_parts a0) fun x9 =>
        Option.bind (loopO (dynposref34_Normal_L3 a0 x8 x9) (0, x7.2.1, x7.2.2)) fun x24 =>
          some (.inl (W (x7.1 + 1), x24.1, x24.2))
  else some (.inr x7.2.1)
noncomputable def dynposref34_Normal (a0 : (List Fault)) : Option (Int × (List Fault)) :=
  Option.bind (loopO (dynposref34_Normal_L1 a0) 0) fun x4 =>
    Sum.elim
      (fun x5 =>
        if decide (len a0 > 60) = true then some (2, [])
        else
          Option.bind (dynposref34_times a0) fun x6 =>
            Option.bind (loopO (dynposref34_Normal_L2 a0 x6) (0, [], [])) fun x25 =>
              if decide (len x25 > 24) = true then some (2, []) else some (0, x25))
      (fun x26 => some x26) x4
noncomputable def c31 : Con D := ⟨31, [.lf (.sl 4)], [.lf (.int .i64), .lf (.sl 4)], [.one (.h 0 [0])], [], [.one (.own 1000), .one (.h 0 [])], [(1000, .sl 4 50 1 [])], fun h => dynposref34_Normal h⟩
theorem c31_ok : ConOk Try.prog T c31 := fn_ok (Φ := [c19, c20, c60, c61, c62, c63]) (rs := [.tmp 2, .tmp 3]) (an := (.n none .o (.n none (.n none .o (.n none (.loop ⟨[.lf (.int .i64)], [(17, .one (.h 0 []))], [], [], 2384⟩ false [(.exit 0, ⟨[], [], [], [], 2384⟩)] .o) .o)) (.n none .o (.n none .o (.n none .o (.n none (.n none .o (.n none (.loop ⟨[.lf (.int .i64), .lf (.sl 4), .lf (.sl 3)], [(6, .one (.own 2960)), (7, .one (.own 2961)), (31, .one (.h 0 []))], [(2960, .sl 4 50 1 []), (2961, .sl 3 41 2 [])], [], 3024⟩ true [(.exit 2, ⟨[.lf (.sl 4)], [(6, .one (.own 2960))], [(2960, .sl 4 50 0 [])], [], 3024⟩)] (.n none .o (.n none .o (.n none (.n none (.n none .o (.n none .o (.n none (.loop ⟨[.lf (.int .i64), .lf (.sl 4), .lf (.sl 3)], [(6, .one (.own 3539)), (7, .one (.own 3540)), (38, .one (.h 0 []))], [(3539, .sl 4 50 1 []), (3540, .sl 3 41 2 [])], [2960, 2961], 3603⟩ true [(.exit 4, ⟨[.lf (.sl 4), .lf (.sl 3)], [(6, .one (.own 3539)), (7, .one (.own 3540))], [(3539, .sl 4 50 0 []), (3540, .sl 3 41 1 [])], [2960, 2961], 3603⟩)] (.n none .o (.n none .o (.n none (.n (some (true, [(.normal, ⟨[.lf (.sl 4), .lf (.sl 3)], [(6, .one (.own 3670)), (7, .one (.own 3671)), (64, .one (.any)), (65, .one (.any)), (66, .one (.any)), (67, .one (.any)), (68, .one (.any)), (69, .one (.any))], [(3670, .sl 4 50 0 []), (3671, .sl 3 41 1 [])], [3539, 3540], 3734⟩)])) (.n none .o (.n none .o (.n none (.n none .o (.n none (.loop ⟨[.lf (.int .i64), .lf (.int .i64)], [(12, .one (.h 0 [])), (44, .one (.h 1 []))], [], [], 4246⟩ true [(.exit 6, ⟨[.lf (.int .i64)], [(12, .one (.h 0 []))], [], [], 4246⟩)] (.n none .o (.n none .o (.n none (.n none (.n none .o (.n none (.r (some (true, [(.normal, ⟨[.lf .bool], [(53, .one (.any)), (54, .one (.any)), (55, .one (.any)), (56, .one (.any)), (57, .one (.h 0 []))], [], [], 4632⟩)])) .nil) (.n (some (true, [(.normal, ⟨[.lf (.int .i64)], [(12, .one (.h 0 []))], [], [], 4697⟩)])) .o .o))) .o) .o)))) .o)) (.n none (.n none (.r (some (true, [(.normal, ⟨[.lf .bool], [(64, .one (.any)), (65, .one (.any)), (66, .one (.any)), (67, .one (.any)), (68, .one (.any)), (69, .one (.any)), (70, .one (.h 0 []))], [], [], 4311⟩)])) .nil) .o) (.n none .o (.n none .o (.n (some (true, [(.normal, ⟨[.lf (.sl 3)], [(7, .one (.own 4952))], [(4952, .sl 3 41 0 [])], [3540], 5016⟩)])) .o .o))))))) .o) .o)))) .o))) .o) .o)))) .o)) .o))))))) pOk repOk (AllC.mem (⟨c19_ok, c20_ok, c60_ok, c61_ok, c62_ok, c63_ok, trivial⟩ : AllC _ _ [c19, c20, c60, c61, c62, c63])) hmix Try.call31 Try.func31 rfl rfl (by kernel_rfl) (fun h => by kernel_rfl)

noncomputable def Src_Faults (a0 : Src) (a1 : Int) : Option ((List Int) × Int × (List Fault)) :=
  Option.bind (Src_AnyFaults a0 a1) fun x1 =>
    Option.bind (dynposref34_Normal x1.2.2) fun x2 => some (x1.1, x1.2.1, x2.2)
noncomputable def c11 : Con D := ⟨11, [.lf (.sl 0), .lf (.int .i64), .lf (.int .i64)], [.lf (.sl 0), .lf (.int .i64), .lf (.sl 4)], [.one (.ptr 1000 0), .one (.h 2 [])], [(1000, .box [.h 0 [0], .h 1 []])], [.one (.own 1001)], [(1000, .box [.h 0 [0], .h 1 []]), (1001, .sl 4 50 2 [])], fun h => Src_Faults ⟨h.1, h.2.1⟩ h.2.2⟩
theorem c11_ok : ConOk Try.prog T c11 := fn_ok (Φ := [c22, c31]) (rs := [.tmp 4]) (an := .o) pOk repOk (AllC.mem (⟨c22_ok, c31_ok, trivial⟩ : AllC _ _ [c22, c31])) hmix Try.call11 Try.func11 rfl rfl (by kernel_rfl) (fun h => by kernel_rfl)

noncomputable def dynposref26_Union_L2 (x2 : List
  Part) : Int × List Part →
  Option
    (Int × List Part ⊕
      List
        Part) := fun x3 =>
  if decide (x3.1 < len x2) = true then
    Option.bind (idx x2 x3.1) fun x4 =>
      Option.bind (dynposref26_With x3.2 x4) fun x5 => some (.inl (W (x3.1 + 1), x5))
  else some (.inr x3.2)
noncomputable def dynposref26_Union_L1 (a0 : List
  Part) (a1 : List
  Part) : Int × List Part →
  Option
    (Int × List Part ⊕
      List
        Part) := fun x1 =>
  if decide (x1.1 < 2) = true then
    Option.bind (idx [a0, a1] x1.1) fun x2 =>
      Option.bind (loopO (dynposref26_Union_L2 x2) (0, x1.2)) fun x6 =>
        some (.inl (W (x1.1 + 1), x6))
  else some (.inr x1.2)
noncomputable def dynposref26_Union (a0 : (List Part)) (a1 : (List Part)) : Option ((List Part)) := Option.bind (loopO (dynposref26_Union_L1 a0 a1) (0, [])) fun x7 => some x7
noncomputable def c17 : Con D := ⟨17, [.lf (.sl 3), .lf (.sl 3)], [.lf (.sl 3)], [.one (.h 0 [0]), .one (.h 1 [0])], [], [.one (.own 1000)], [(1000, .sl 3 41 0 [])], fun h => dynposref26_Union h.1 h.2⟩
theorem c17_ok : ConOk Try.prog T c17 := fn_ok (Φ := [c20]) (rs := [.tmp 4]) (an := (.n none .o (.n none .o (.n none (.n none .o (.n none (.loop ⟨[.lf (.int .i64), .lf (.sl 3)], [(5, .one (.own 2384)), (13, .one (.h 0 []))], [(2384, .sl 3 41 1 [])], [], 2448⟩ true [(.exit 0, ⟨[.lf (.sl 3)], [(5, .one (.own 2384))], [(2384, .sl 3 41 0 [])], [], 2448⟩)] (.n none .o (.n none .o (.n none (.n none (.n none .o (.n none .o (.n none (.loop ⟨[.lf (.int .i64), .lf (.sl 3)], [(5, .one (.own 2834)), (18, .one (.h 0 []))], [(2834, .sl 3 41 1 [])], [2384], 2898⟩ true [(.exit 2, ⟨[.lf (.sl 3)], [(5, .one (.own 2834))], [(2834, .sl 3 41 0 [])], [2384], 2898⟩)] .o) .o))) .o) .o)))) .o)) .o)))) pOk repOk (AllC.mem (⟨c20_ok, trivial⟩ : AllC _ _ [c20])) hmix Try.call17 Try.func17 rfl rfl (by kernel_rfl) (fun h => by kernel_rfl)

noncomputable def dynposref26_Same_L1 (a0 : List
  Part) (a1 : List
  Part) : Int →
  Option
    (Int ⊕
      Unit ⊕
        Bool) := fun x1 =>
  if decide (x1 < len a0) = true then
    Option.bind (idx a0 x1) fun x2 =>
      Option.bind (idx a1 x1) fun x3 =>
        if (!(x2.Kind == x3.Kind && x2.Number == x3.Number)) = true then some (.inr (.inr false))
        else some (.inl (W (x1 + 1)))
  else some (.inr (.inl ()))
noncomputable def dynposref26_Same (a0 : (List Part)) (a1 : (List Part)) : Option (Bool) :=
  if (len a0 != len a1) = true then some false
  else
    Option.bind (loopO (dynposref26_Same_L1 a0 a1) 0) fun x4 =>
      Sum.elim (fun x5 => some true) (fun x6 => some x6) x4
noncomputable def c15 : Con D := ⟨15, [.lf (.sl 3), .lf (.sl 3)], [.lf .bool], [.one (.h 0 [0]), .one (.h 1 [0])], [], [.one (.h 0 [])], [], fun h => dynposref26_Same h.1 h.2⟩
theorem c15_ok : ConOk Try.prog T c15 := fn_ok (Φ := []) (rs := [.tmp 4]) (an := (.n none .o (.n none .o (.n none (.n none .o (.n none (.loop ⟨[.lf (.int .i64)], [(13, .one (.h 0 []))], [], [], 2640⟩ false [(.exit 0, ⟨[], [], [], [], 2640⟩)] .o) .o)) .o)))) pOk repOk (AllC.mem (l := []) trivial) hmix Try.call15 Try.func15 rfl rfl (by kernel_rfl) (fun h => by kernel_rfl)

noncomputable def dynposlaw34_FaultsMerge_L1 (x2 : List Int ×
  Int ×
    List
      Fault) (x3 : List Int ×
  Int ×
    List
      Fault) (x4 : Int ×
  List
    Fault) : Int →
  Option
    (Int ⊕
      Unit ⊕
        Bool) := fun x9 =>
  if decide (x9 < 9) = true then
    Option.bind (faults_Active x4.2 x9) fun x10 =>
      Option.bind (faults_Active x2.2.2 x9) fun x11 =>
        Option.bind (faults_Active x3.2.2 x9) fun x12 =>
          Option.bind (dynposref26_Union x11 x12) fun x13 =>
            Option.bind (dynposref26_Same x10 x13) fun x14 =>
              if (!x14) = true then some (.inr (.inr false)) else some (.inl (W (x9 + 1)))
  else some (.inr (.inl ()))
noncomputable def dynposlaw34_FaultsMerge (a0 : (List Int)) : Option (Bool) :=
  if decide (len a0 > 600) = true then Option.bind dynposlaw34_sane fun x22 => some x22
  else
    Option.bind (dynposmake_New a0) fun x1 =>
      Option.bind (Src_Faults (Src.mk x1.1 x1.2) 8) fun x2 =>
        Option.bind (Src_Faults (Src.mk x2.1 x2.2.1) 8) fun x3 =>
          Option.bind (faults_Merge x2.2.2 x3.2.2) fun x4 =>
            Option.bind (faults_Merge x3.2.2 x2.2.2) fun x5 =>
              Option.bind
                (if (x4.1 != 0) = true then some true
                else
                  if (x5.1 != 0) = true then some true
                  else
                    Option.bind (dynposref34_Same x4.2 x5.2) fun x6 =>
                      if (!x6) = true then some true
                      else Option.bind (faults_Check x4.2) fun x7 => some (x7 != 0))
                fun x8 =>
                if x8 = true then some false
                else
                  Option.bind (loopO (dynposlaw34_FaultsMerge_L1 x2 x3 x4) 0) fun x15 =>
                    Sum.elim
                      (fun x16 =>
                        Option.bind (faults_Merge x2.2.2 x2.2.2) fun x17 =>
                          Option.bind
                            (if (x17.1 == 0) = true then
                              Option.bind (dynposref34_Same x17.2 x2.2.2) fun x18 =>
                                if x18 = true then Option.bind dynposlaw34_sane fun x19 => some x19 else some false
                            else some false)
                            fun x20 => some x20)
                      (fun x21 => some x21) x15
noncomputable def c3 : Con D := ⟨3, [.lf (.sl 0)], [.lf .bool], [.one (.h 0 [0])], [], [.one (.h 0 [])], [], fun h => dynposlaw34_FaultsMerge h⟩
theorem c3_ok : ConOk Try.prog T c3 := fn_ok (Φ := [c9, c10, c11, c12, c13, c14, c15, c16, c17]) (rs := [.tmp 2]) (an := (.n none .o (.n none .o (.n none .o (.n none .o (.n none .o (.n none .o (.n none (.n none (.r (some (true, [(.normal, ⟨[.lf .bool], [(51, .one (.h 0 []))], [], [], 3920⟩)])) .nil) .o) (.n none (.n none .o (.n none (.loop ⟨[.lf (.int .i64)], [(10, .one (.h 0 []))], [], [], 4049⟩ false [(.exit 0, ⟨[], [], [], [], 4049⟩)] .o) .o)) (.n none .o (.n none (.r (some (true, [(.normal, ⟨[.lf .bool], [(2, .one (.h 0 []))], [], [], 4625⟩)])) .nil) .o))))))))))) pOk repOk (AllC.mem (⟨c9_ok, c10_ok, c11_ok, c12_ok, c13_ok, c14_ok, c15_ok, c16_ok, c17_ok, trivial⟩ : AllC _ _ [c9, c10, c11, c12, c13, c14, c15, c16, c17])) hmix Try.call3 Try.func3 rfl rfl (by kernel_rfl) (fun h => by kernel_rfl)

noncomputable def faults_Now_1_1 (a0 : Fault) (a1 : Int) (a2 : Int) : Option (Bool) := Option.bind (if (a0.Time == a1) = true then some (a0.Kind == a2) else some false) fun x1 => some x1
noncomputable def c51 : Con D := ⟨51, [.lf (.int .i64), .lf (.int .i64), .lf (.int .i64), .lf (.int .i64), .el 0, .el 0], [.lf .bool], [.agg [.h 0 [], .h 1 [], .h 2 [], .h 3 []], .one (.rp 4 0 [0]), .one (.rp 5 0 [0])], [], [.one (.h 0 [])], [], fun h => faults_Now_1_1 ⟨h.1, h.2.1, ⟨h.2.2.1, h.2.2.2.1⟩⟩ h.2.2.2.2.1 h.2.2.2.2.2⟩
theorem c51_ok : ConOk Try.prog T c51 := fn_ok (Φ := []) (rs := [.tmp 4]) (an := (.n none .o (.n none (.r (some (true, [(.normal, ⟨[.lf .bool], [(4, .one (.h 0 []))], [], [], 2192⟩)])) .nil) .o))) pOk repOk (AllC.mem (l := []) trivial) hmix Try.call51 Try.func51 rfl rfl (by kernel_rfl) (fun h => by kernel_rfl)

noncomputable def faults_parts_1_v1 (a0 : Fault) (a1 : Int) (a2 : Int) : Option (Int × Int × Bool × Int × Int) := Option.bind (faults_Now_1_1 a0 a1 a2) fun x1 => some (a0.Part.Kind, a0.Part.Number, x1, a1, a2)
noncomputable def c79_1 : Con D := ⟨79, [.lf (.int .i64), .lf (.int .i64), .lf (.int .i64), .lf (.int .i64), .el 0, .el 0], [.lf (.int .i64), .lf (.int .i64), .lf .bool, .el 0, .el 0], [.agg [.h 0 [], .h 1 [], .h 2 [], .h 3 []], .one (.ptr 1000 0)], [(1000, .box [.fn 51 [.rp 4 0 [0], .rp 5 0 [0]]])], [.agg [.h 0 [], .h 1 []], .one (.h 2 [])], [(1000, .box [.fn 51 [.rp 3 0 [0], .rp 4 0 [0]]])], fun h => faults_parts_1_v1 ⟨h.1, h.2.1, ⟨h.2.2.1, h.2.2.2.1⟩⟩ h.2.2.2.2.1 h.2.2.2.2.2⟩
theorem c79_1_ok : ConOk Try.prog T c79_1 := fn_ok (Φ := [c51]) (rs := [.cell 3 41, .tmp 4]) (an := .o) pOk repOk (AllC.mem (⟨c51_ok, trivial⟩ : AllC _ _ [c51])) hmix Try.call79 Try.func79 rfl rfl (by kernel_rfl) (fun h => by kernel_rfl)

noncomputable def faults_collect_Fault_Part_v1_L1 (a0 : List
  Fault) : Int × List Part × Int × Int →
  Option
    (Int × List Part × Int × Int ⊕
      List Part ×
        Int ×
          Int) := fun x1 =>
  if decide (x1.1 < len a0) = true then
    Option.bind (idx a0 x1.1) fun x2 =>
      Option.bind (faults_parts_1_v1 x2 x1.2.2.1 x1.2.2.2) fun x3 =>
        Option.bind
          (if x3.2.2.1 = true then Option.bind (app x1.2.1 [Part.mk x3.1 x3.2.1]) fun x4 => some x4
          else some x1.2.1)
          fun x5 => some (.inl (W (x1.1 + 1), x5, x3.2.2.2.1, x3.2.2.2.2))
  else some (.inr (x1.2.1, x1.2.2.1, x1.2.2.2))
noncomputable def faults_collect_Fault_Part_v1 (a0 : (List Fault)) (a1 : Int) (a2 : Int) : Option (Int × Int × (List Part)) :=
  Option.bind (loopO (faults_collect_Fault_Part_v1_L1 a0) (0, [], a1, a2)) fun x6 =>
    Option.bind (slices_SortStableFunc_Part_Part x6.1) fun x7 =>
      Option.bind (slices_CompactFunc_Part_Part x7) fun x8 => some (x6.2.1, x6.2.2, x8)
noncomputable def c78_1 : Con D := ⟨78, [.lf (.sl 4), .el 0, .el 0], [.el 0, .el 0, .lf (.sl 3)], [.one (.h 0 [0]), .one (.fn 79 [.ptr 1000 0]), .one (.fn 73 [])], [(1000, .box [.fn 51 [.rp 1 0 [0], .rp 2 0 [0]]])], [.one (.own 1001)], [(1000, .box [.fn 51 [.rp 0 0 [0], .rp 1 0 [0]]]), (1001, .sl 3 41 2 [])], fun h => faults_collect_Fault_Part_v1 h.1 h.2.1 h.2.2⟩
theorem c78_1_ok : ConOk Try.prog T c78_1 := fn_ok (Φ := [c79_1, c89, c90]) (rs := [.tmp 6]) (an := (.n none .o (.n none .o (.n none (.n none .o (.n none (.loop ⟨[.lf (.int .i64), .lf (.sl 3), .el 0, .el 0], [(7, .one (.own 2384)), (14, .one (.h 0 []))], [(2384, .sl 3 41 1 []), (1000, .box [.fn 51 [.rp 2 0 [0], .rp 3 0 [0]]])], [1000], 2448⟩ true [(.exit 0, ⟨[.lf (.sl 3), .el 0, .el 0], [(7, .one (.own 2384))], [(2384, .sl 3 41 0 []), (1000, .box [.fn 51 [.rp 1 0 [0], .rp 2 0 [0]]])], [1000], 2448⟩)] (.n none .o (.n none .o (.n none (.n none (.n none .o (.n none .o (.n none .o (.n (some (true, [(.normal, ⟨[.lf (.sl 3)], [(7, .one (.own 3412))], [(3412, .sl 3 41 0 [])], [2384], 3476⟩)])) .o .o)))) .o) .o)))) .o)) .o)))) pOk repOk (AllC.mem (⟨c79_1_ok, c89_ok, c90_ok, trivial⟩ : AllC _ _ [c79_1, c89, c90])) hmix Try.call78 Try.func78 rfl rfl (by kernel_rfl) (fun h => by kernel_rfl)

noncomputable def faults_parts_v1 (a0 : (List Fault)) (a1 : Int) (a2 : Int) : Option ((List Part)) := Option.bind (faults_collect_Fault_Part_v1 a0 a1 a2) fun x1 => some x1.2.2
noncomputable def c50_1 : Con D := ⟨50, [.lf (.sl 4), .el 0, .el 0], [.lf (.sl 3)], [.one (.h 0 [0]), .one (.fn 51 [.rp 1 0 [0], .rp 2 0 [0]])], [], [.one (.own 1000)], [(1000, .sl 3 41 0 [])], fun h => faults_parts_v1 h.1 h.2.1 h.2.2⟩
theorem c50_1_ok : ConOk Try.prog T c50_1 := fn_ok (Φ := [c78_1]) (rs := [.tmp 4]) (an := .o) pOk repOk (AllC.mem (⟨c78_1_ok, trivial⟩ : AllC _ _ [c78_1])) hmix Try.call50 Try.func50 rfl rfl (by kernel_rfl) (fun h => by kernel_rfl)

noncomputable def faults_Now_1 (a0 : Int) (a1 : (List Fault)) (a2 : Int) : Option ((List Part)) := Option.bind (faults_parts_v1 a1 a2 a0) fun x1 => some x1
noncomputable def c49 : Con D := ⟨49, [.lf (.int .i64), .el 5, .el 0], [.lf (.sl 3)], [.one (.h 0 []), .one (.rp 1 5 [0]), .one (.rp 2 0 [0])], [], [.one (.own 1000)], [(1000, .sl 3 41 0 [])], fun h => faults_Now_1 h.1 h.2.1 h.2.2⟩
theorem c49_ok : ConOk Try.prog T c49 := fn_ok (Φ := [c50_1]) (rs := [.tmp 4]) (an := .o) pOk repOk (AllC.mem (⟨c50_1_ok, trivial⟩ : AllC _ _ [c50_1])) hmix Try.call49 Try.func49 rfl rfl (by kernel_rfl) (fun h => by kernel_rfl)

noncomputable def faults_Now (a0 : (List Fault)) (a1 : Int) : Option ((List Part) × (List Part)) :=
  Option.bind (faults_Check a0) fun x1 =>
    if (x1 != 0) = true then some ([], [])
    else
      Option.bind (faults_Now_1 1 a0 a1) fun x2 =>
        Option.bind (faults_Now_1 2 a0 a1) fun x3 => some (x2, x3)
noncomputable def c18 : Con D := ⟨18, [.lf (.sl 4), .lf (.int .i64)], [.lf (.sl 3), .lf (.sl 3)], [.one (.h 0 [0]), .one (.h 1 [])], [], [.one (.own 1000), .one (.own 1001)], [(1000, .sl 3 41 0 []), (1001, .sl 3 41 1 [])], fun h => faults_Now h.1 h.2⟩
theorem c18_ok : ConOk Try.prog T c18 := fn_ok (Φ := [c14, c49]) (rs := [.tmp 4, .tmp 5]) (an := .o) pOk repOk (AllC.mem (⟨c14_ok, c49_ok, trivial⟩ : AllC _ _ [c14, c49])) hmix Try.call18 Try.func18 rfl rfl (by kernel_rfl) (fun h => by kernel_rfl)

noncomputable def dynposlaw34_FaultsNow_L2 (x4 : List Part ×
  List
    Part) : Int × List Part →
  Option
    (Int × List Part ⊕
      List Part ⊕
        Int × List Part ⊕
          Unit ⊕
            Bool) := fun x5 =>
  if decide (x5.1 < len x4.1) = true then
    Option.bind (idx x4.1 x5.1) fun x6 =>
      Option.bind (dynposref26_Has x5.2 x6) fun x7 =>
        if x7 = true then some (.inr (.inr (.inr (.inr false))))
        else Option.bind (dynposref26_With x5.2 x6) fun x8 => some (.inl (W (x5.1 + 1), x8))
  else some (.inr (.inl x5.2))
noncomputable def dynposlaw34_FaultsNow_L3 (x4 : List Part ×
  List
    Part) (x10 : List
  Part) : Int × List Part →
  Option
    (Int × List Part ⊕
      List
        Part) := fun x11 =>
  if decide (x11.1 < len x10) = true then
    Option.bind (idx x10 x11.1) fun x12 =>
      Option.bind (dynposref26_Has x4.2 x12) fun x13 =>
        Option.bind (if (!x13) = true then Option.bind (app x11.2 [x12]) fun x14 => some x14 else some x11.2)
          fun x15 => some (.inl (W (x11.1 + 1), x15))
  else some (.inr x11.2)
noncomputable def dynposlaw34_FaultsNow_L1 (x2 : List Int ×
  Int ×
    List
      Fault) : Int × List Part →
  Option
    (Int × List Part ⊕
      Unit ⊕
        Bool) := fun x3 =>
  if decide (x3.1 < 10) = true then
    Option.bind (faults_Now x2.2.2 x3.1) fun x4 =>
      Option.bind (loopO (dynposlaw34_FaultsNow_L2 x4) (0, x3.2)) fun x9 =>
        Sum.elim
          (fun x10 =>
            Option.bind (loopO (dynposlaw34_FaultsNow_L3 x4 x10) (0, [])) fun x16 =>
              if (len x16 != W (len x10 - len x4.2)) = true then some (.inr (.inr false))
              else
                Option.bind (faults_Active x2.2.2 x3.1) fun x17 =>
                  Option.bind (dynposref26_Same x17 x16) fun x18 =>
                    if (!x18) = true then some (.inr (.inr false))
                    else some (.inl (W (x3.1 + 1), x16)))
          (fun x19 => some x19) x9
  else some (.inr (.inl ()))
noncomputable def dynposlaw34_FaultsNow (a0 : (List Int)) : Option (Bool) :=
  if decide (len a0 > 600) = true then Option.bind dynposlaw34_sane fun x24 => some x24
  else
    Option.bind (dynposmake_New a0) fun x1 =>
      Option.bind (Src_Faults (Src.mk x1.1 x1.2) 12) fun x2 =>
        Option.bind (loopO (dynposlaw34_FaultsNow_L1 x2) (0, [])) fun x20 =>
          Sum.elim (fun x21 => Option.bind dynposlaw34_sane fun x22 => some x22) (fun x23 => some x23) x20
noncomputable def c4 : Con D := ⟨4, [.lf (.sl 0)], [.lf .bool], [.one (.h 0 [0])], [], [.one (.h 0 [])], [], fun h => dynposlaw34_FaultsNow h⟩
theorem c4_ok : ConOk Try.prog T c4 := fn_ok (Φ := [c9, c10, c11, c15, c16, c18, c19, c20]) (rs := [.tmp 2]) (an := (.n none .o (.n none .o (.n none .o (.n none .o (.n none .o (.n none (.n none .o (.n none (.loop ⟨[.lf (.int .i64), .lf (.sl 3)], [(5, .one (.own 2768)), (6, .one (.h 0 []))], [(2768, .sl 3 41 1 [])], [], 2832⟩ false [(.exit 0, ⟨[], [], [], [], 2832⟩)] (.n none .o (.n none (.n none (.n none .o (.n none (.n none .o (.n none (.loop ⟨[.lf (.int .i64), .lf (.sl 3)], [(5, .one (.own 3666)), (34, .one (.h 0 []))], [(3666, .sl 3 41 1 [])], [2768], 3730⟩ false [(.exit 2, ⟨[.lf (.sl 3)], [(5, .one (.own 3666))], [(3666, .sl 3 41 0 [])], [2768], 3730⟩)] .o) .o)) (.n none .o (.n none (.n none .o (.n none (.loop ⟨[.lf (.int .i64), .lf (.sl 3)], [(11, .one (.own 3987)), (47, .one (.h 0 []))], [(3987, .sl 3 41 1 [])], [], 4051⟩ true [(.exit 4, ⟨[.lf (.sl 3)], [(11, .one (.own 3987))], [(3987, .sl 3 41 0 [])], [], 4051⟩)] (.n none .o (.n none .o (.n none (.n none (.n none .o (.n none .o (.n (some (true, [(.normal, ⟨[.lf (.sl 3)], [(11, .one (.own 4629))], [(4629, .sl 3 41 0 [])], [3987], 4693⟩)])) .o .o))) .o) .o)))) .o)) .o)))) .o) .o))) .o)) .o))))))) pOk repOk (AllC.mem (⟨c9_ok, c10_ok, c11_ok, c15_ok, c16_ok, c18_ok, c19_ok, c20_ok, trivial⟩ : AllC _ _ [c9, c10, c11, c15, c16, c18, c19, c20])) hmix Try.call4 Try.func4 rfl rfl (by kernel_rfl) (fun h => by kernel_rfl)

noncomputable def slices_Clone_Fault_Fault (a0 : (List Fault)) : Option ((List Fault)) := app [] a0
noncomputable def c53 : Con D := ⟨53, [.lf (.sl 4)], [.lf (.sl 4)], [.one (.h 0 [0])], [], [.one (.own 1000)], [(1000, .sl 4 50 0 [])], fun h => slices_Clone_Fault_Fault h⟩
theorem c53_ok : ConOk Try.prog T c53 := by
  refine ⟨Try.call53, rfl, rfl, rfl, rfl, fun xs0 r0 hr0 avs obs has hobs γ w vs hv _ => ?_⟩
  cases has
  match vs, hv with
  | [], hv => exact hv.elim
  | _ :: _ :: _, hv => exact hv.2.elim
  | [v], hv =>
  obtain ⟨xs, hxs⟩ : ∃ xs : List (D 4), xs = xs0 := ⟨_, rfl⟩
  obtain ⟨r, hrr⟩ : ∃ r : List (D 4), r = r0 := ⟨_, rfl⟩
  have g0 : Rv (In γ.o [0]) w v xs := by rw [hxs]; exact hv.1.1
  have hr : app ([] : List (D 4)) xs = some r := by rw [hxs, hrr]; exact hr0
  subst hrr
  have hT := slr26.2
  refine enter (l := [v]) Try.func53 rfl Try.ntmps53 rfl ?_
  refine CW.sub (L' := [(0, v)]) ⟨rfl, trivial⟩ ?_
  refine CW.sr fun K1 hK1 => ?_
  refine WL.p (.slice none 0 0) rfl rfl ?_
  refine WL.nx hK1 ?_
  refine CW.seq fun K2 hK2 => ?_
  refine CW.sr fun K3 hK3 => ?_
  refine WL.p v rfl rfl ?_
  obtain ⟨a, m, q, rfl, hn⟩ := rvSlice g0
  refine WL.stepE (OW.isNil slr26.1 rfl) rfl ?_
  refine WL.nx hK3 ?_
  cases a with
  | none =>
    refine CW.cond (b := true) rfl (fun _ => ?_) (fun h => nomatch h)
    refine CW.sr fun K4 hK4 => ?_
    refine WL.p (.slice none 0 0) rfl rfl ?_
    refine WL.nx hK4 ?_
    rw [hn rfl] at hr
    obtain rfl := app_nil hr
    exact CW.rets (vs := [.slice none 0 0]) Try.results53 ⟨rfl, trivial⟩ ⟨_, rfl, end_own (n := 4) (e := 50) (q := 1000) (K := []) (M := []) (N := []) rfl rfl rfl (by simp) (by simp) (Evo.refl _ _ γ.o w) (Ow.nil _ _ _ _ _) (fun x hx => by simp at hx <;> omega)⟩ (fun _ _ h => h)
  | some a =>
    refine CW.cond (b := false) rfl (fun h => nomatch h) (fun _ => ?_)
    refine CW.skip ?_
    refine hK2 _ _ ?_
    refine CW.sr fun K5 hK5 => ?_
    refine WL.step (OW.buildSlice (o := γ.o) (k := 1000) (K := []) (xs := ([] : List (D 4))) slr26.1 hT rfl trivial rfl rfl) rfl ?_
    rintro v1 w1 ⟨o1, ev1, h1⟩
    have g0 := g0.evo ev1 rfl
    refine WL.p (.slice (some a) m q) rfl rfl ?_
    refine WL.step (OW.append (K := []) slr26.1 hT rfl rfl h1 (@Els.flat (D 4) _ flat4 _ _ _ _ _ g0.els) hr rfl) rfl ?_
    rintro v2 w2 ⟨o2, ev2, h2⟩
    refine WL.p v2 rfl rfl ?_
    refine WL.nx hK5 ?_
    exact CW.rets (vs := [v2]) Try.results53 ⟨rfl, trivial⟩ ⟨_, rfl, end_own (n := 4) (e := 50) (q := 1000) (K := []) (M := [1000]) (N := [1000]) rfl rfl rfl (by simp) (by simp) ((ev1.weaken (by simp) (by simp)).trans ev2) h2 (fun x hx => by simp at hx <;> omega)⟩ (fun _ _ h => h)

noncomputable def faults_Shift_L1 (a0 : List
  Fault) (a1 : Int) : Int × List Fault →
  Option
    (Int × List Fault ⊕
      List Fault ⊕
        Int ×
          List
            Fault) := fun x3 =>
  if decide (x3.1 < len a0) = true then
    Option.bind (idx a0 x3.1) fun x4 =>
      Option.bind
        (if decide (a1 > 2147483648) = true then some true
        else
          if decide (a1 < (-2147483648)) = true then some true
          else
            if decide (W (x4.Time + a1) < 0) = true then some true
            else some (decide (W (x4.Time + a1) > 2147483648)))
        fun x5 =>
        if x5 = true then some (.inr (.inr (1, [])))
        else
          Option.bind (idx x3.2 x3.1) fun x6 =>
            Option.bind (idx x3.2 x3.1) fun x7 =>
              Option.bind (idx x3.2 x3.1) fun x8 =>
                Option.bind (setO x3.2 x3.1 (Fault.mk (W (x6.Time + a1)) x8.Kind x8.Part)) fun x9 =>
                  some (.inl (W (x3.1 + 1), x9))
  else some (.inr (.inl x3.2))
noncomputable def faults_Shift (a0 : (List Fault)) (a1 : Int) : Option (Int × (List Fault)) :=
  Option.bind (faults_Check a0) fun x1 =>
    if (x1 != 0) = true then some (x1, [])
    else
      Option.bind (slices_Clone_Fault_Fault a0) fun x2 =>
        Option.bind (loopO (faults_Shift_L1 a0 a1) (0, x2)) fun x10 =>
          Sum.elim (fun x11 => some (0, x11)) (fun x12 => some x12) x10
noncomputable def c21 : Con D := ⟨21, [.lf (.sl 4), .lf (.int .i64)], [.lf (.int .i64), .lf (.sl 4)], [.one (.h 0 [0]), .one (.h 1 [])], [], [.one (.own 1000), .one (.h 0 [])], [(1000, .sl 4 50 1 [])], fun h => faults_Shift h.1 h.2⟩
theorem c21_ok : ConOk Try.prog T c21 := fn_ok (Φ := [c14, c53]) (rs := [.tmp 4, .tmp 5]) (an := (.n none .o (.n none .o (.n none .o (.n none (.n none .o (.n none (.loop ⟨[.lf (.int .i64), .lf (.sl 4)], [(19, .one (.h 0 []))], [(2520, .sl 4 50 1 [])], [2520], 2896⟩ false [(.exit 0, ⟨[.lf (.sl 4)], [], [(2520, .sl 4 50 0 [])], [2520], 2896⟩)] (.n none .o (.n none .o (.n none (.n none (.n none .o (.n none (.n none (.r (some (true, [(.normal, ⟨[.lf .bool], [(27, .one (.any)), (28, .one (.any)), (31, .one (.any)), (32, .one (.any)), (33, .one (.any)), (34, .one (.any)), (35, .one (.any)), (38, .one (.any)), (39, .one (.any)), (40, .one (.any)), (41, .one (.any)), (42, .one (.any)), (43, .one (.h 0 []))], [], [], 3410⟩)])) .nil) .o) .o)) .o) .o)))) .o)) .o))))) pOk repOk (AllC.mem (⟨c14_ok, c53_ok, trivial⟩ : AllC _ _ [c14, c53])) hmix Try.call21 Try.func21 rfl rfl (by kernel_rfl) (fun h => by kernel_rfl)

noncomputable def dynposlaw34_FaultsShift_L1 (a1 : Int) (x2 : List Int ×
  Int ×
    List
      Fault) (x3 : Int ×
  List
    Fault) : Int →
  Option
    (Int ⊕
      Unit ⊕
        Bool) := fun x7 =>
  if decide (x7 < 9) = true then
    Option.bind (faults_Active x3.2 (W (x7 + W a1))) fun x8 =>
      Option.bind (faults_Active x2.2.2 x7) fun x9 =>
        Option.bind (dynposref26_Same x8 x9) fun x10 =>
          if (!x10) = true then some (.inr (.inr false)) else some (.inl (W (x7 + 1)))
  else some (.inr (.inl ()))
noncomputable def dynposlaw34_FaultsShift (a0 : (List Int)) (a1 : Int) : Option (Bool) :=
  if decide (len a0 > 600) = true then Option.bind dynposlaw34_sane fun x17 => some x17
  else
    Option.bind (dynposmake_New a0) fun x1 =>
      Option.bind (Src_Faults (Src.mk x1.1 x1.2) 10) fun x2 =>
        Option.bind (faults_Shift x2.2.2 (W a1)) fun x3 =>
          Option.bind (faults_Shift x3.2 (W (-W a1))) fun x4 =>
            Option.bind
              (if (x3.1 != 0) = true then some true
              else
                if (x4.1 != 0) = true then some true
                else Option.bind (dynposref34_Same x4.2 x2.2.2) fun x5 => some !x5)
              fun x6 =>
              if x6 = true then some false
              else
                Option.bind (loopO (dynposlaw34_FaultsShift_L1 a1 x2 x3) 0) fun x11 =>
                  Sum.elim
                    (fun x12 =>
                      Option.bind
                        (Option.bind (faults_Active x3.2 (W (W a1 - 1))) fun x13 =>
                          if (len x13 == 0) = true then Option.bind dynposlaw34_sane fun x14 => some x14
                          else some false)
                        fun x15 => some x15)
                    (fun x16 => some x16) x11
noncomputable def c5 : Con D := ⟨5, [.lf (.sl 0), .lf (.int .u16)], [.lf .bool], [.one (.h 0 [0]), .one (.h 1 [])], [], [.one (.h 0 [])], [], fun h => dynposlaw34_FaultsShift h.1 h.2⟩
theorem c5_ok : ConOk Try.prog T c5 := fn_ok (Φ := [c9, c10, c11, c13, c15, c16, c21]) (rs := [.tmp 4]) (an := (.n none .o (.n none .o (.n none .o (.n none .o (.n none .o (.n none .o (.n none .o (.n none (.n none (.r (some (true, [(.normal, ⟨[.lf .bool], [(47, .one (.h 0 []))], [], [], 3984⟩)])) .nil) .o) (.n none (.n none .o (.n none (.loop ⟨[.lf (.int .i64)], [(12, .one (.h 0 []))], [], [], 4113⟩ false [(.exit 0, ⟨[], [], [], [], 4113⟩)] .o) .o)) (.n none (.r (some (true, [(.normal, ⟨[.lf .bool], [(4, .one (.h 0 []))], [], [], 4177⟩)])) .nil) .o))))))))))) pOk repOk (AllC.mem (⟨c9_ok, c10_ok, c11_ok, c13_ok, c15_ok, c16_ok, c21_ok, trivial⟩ : AllC _ _ [c9, c10, c11, c13, c15, c16, c21])) hmix Try.call5 Try.func5 rfl rfl (by kernel_rfl) (fun h => by kernel_rfl)

noncomputable def slices_Reverse_Fault_Fault_L1 : Int × Int × List Fault →
  Option
    (Int × Int × List Fault ⊕
      List
        Fault) := fun x1 =>
  if decide (x1.1 < x1.2.1) = true then
    Option.bind (idx x1.2.2 x1.2.1) fun x2 =>
      Option.bind (idx x1.2.2 x1.1) fun x3 =>
        Option.bind (idx x1.2.2 x1.1) fun x4 =>
          Option.bind (idx x1.2.2 x1.1) fun x5 =>
            Option.bind (setO x1.2.2 x1.1 x2) fun x6 =>
              Option.bind (idx x6 x1.2.1) fun x7 =>
                Option.bind (idx x6 x1.2.1) fun x8 =>
                  Option.bind (setO x6 x1.2.1 x3) fun x9 =>
                    some (.inl (W (x1.1 + 1), W (x1.2.1 - 1), x9))
  else some (.inr x1.2.2)
noncomputable def slices_Reverse_Fault_Fault (a0 : (List Fault)) : Option ((List Fault)) :=
  Option.bind (loopO slices_Reverse_Fault_Fault_L1 (0, W (len a0 - 1), a0)) fun x10 => some x10
noncomputable def c54 : Con D := ⟨54, [.lf (.sl 4)], [.lf (.sl 4)], [.one (.own 1000)], [(1000, .sl 4 50 0 [0])], [], [(1000, .sl 4 50 0 [0])], fun h => slices_Reverse_Fault_Fault h⟩
theorem c54_ok : ConOk Try.prog T c54 := fn_ok (Φ := []) (rs := []) (an := (.n none .o (.n none (.loop ⟨[.lf (.int .i64), .lf (.int .i64), .lf (.sl 4)], [(2, .one (.h 0 [])), (3, .one (.h 1 []))], [(1000, .sl 4 50 2 [0])], [1000], 2384⟩ true [(.exit 0, ⟨[.lf (.sl 4)], [], [(1000, .sl 4 50 0 [0])], [1000], 2384⟩)] .o) .o))) pOk repOk (AllC.mem (l := []) trivial) hmix Try.call54 Try.func54 rfl rfl (by kernel_rfl) (fun h => by kernel_rfl)

noncomputable def faults_Normal_1 (a0 : Fault) : Option (Int × Int × Int × Int × Bool) := some (a0.Time, a0.Kind, a0.Part.Kind, a0.Part.Number, true)
noncomputable def c55 : Con D := ⟨55, [.lf (.int .i64), .lf (.int .i64), .lf (.int .i64), .lf (.int .i64)], [.lf (.int .i64), .lf (.int .i64), .lf (.int .i64), .lf (.int .i64), .lf .bool], [.agg [.h 0 [], .h 1 [], .h 2 [], .h 3 []]], [], [.agg [.h 0 [], .h 1 [], .h 2 [], .h 3 []], .one (.h 4 [])], [], fun h => faults_Normal_1 ⟨h.1, h.2.1, ⟨h.2.2.1, h.2.2.2⟩⟩⟩
theorem c55_ok : ConOk Try.prog T c55 := fn_ok (Φ := []) (rs := [.cell 2 50, .tmp 3]) (an := .o) pOk repOk (AllC.mem (l := []) trivial) hmix Try.call55 Try.func55 rfl rfl (by kernel_rfl) (fun h => by kernel_rfl)

noncomputable def faults_collect_Fault_Fault_v1_L1 (a0 : List
  Fault) : Int × List Fault →
  Option
    (Int × List Fault ⊕
      List
        Fault) := fun x1 =>
  if decide (x1.1 < len a0) = true then
    Option.bind (idx a0 x1.1) fun x2 =>
      Option.bind (faults_Normal_1 x2) fun x3 =>
        Option.bind
          (if x3.2.2.2.2 = true then
            Option.bind (app x1.2 [Fault.mk x3.1 x3.2.1 (Part.mk x3.2.2.1 x3.2.2.2.1)]) fun x4 =>
              some x4
          else some x1.2)
          fun x5 => some (.inl (W (x1.1 + 1), x5))
  else some (.inr x1.2)
noncomputable def faults_collect_Fault_Fault_v1 (a0 : (List Fault)) : Option ((List Fault)) :=
  Option.bind (loopO (faults_collect_Fault_Fault_v1_L1 a0) (0, [])) fun x6 =>
    Option.bind (slices_SortStableFunc_Fault_Fault x6) fun x7 =>
      Option.bind (slices_CompactFunc_Fault_Fault x7) fun x8 => some x8
noncomputable def c43_1 : Con D := ⟨43, [.lf (.sl 4)], [.lf (.sl 4)], [.one (.h 0 [0]), .one (.fn 55 []), .one (.fn 45 [])], [], [.one (.own 1000)], [(1000, .sl 4 50 0 [])], fun h => faults_collect_Fault_Fault_v1 h⟩
theorem c43_1_ok : ConOk Try.prog T c43_1 := fn_ok (Φ := [c55, c68, c69]) (rs := [.tmp 6]) (an := (.n none .o (.n none .o (.n none (.n none .o (.n none (.loop ⟨[.lf (.int .i64), .lf (.sl 4)], [(7, .one (.own 2384)), (14, .one (.h 0 []))], [(2384, .sl 4 50 1 [])], [], 2448⟩ true [(.exit 0, ⟨[.lf (.sl 4)], [(7, .one (.own 2384))], [(2384, .sl 4 50 0 [])], [], 2448⟩)] (.n none .o (.n none .o (.n none (.n none (.n none .o (.n none .o (.n none .o (.n (some (true, [(.normal, ⟨[.lf (.sl 4)], [(7, .one (.own 3410))], [(3410, .sl 4 50 0 [])], [2384], 3474⟩)])) .o .o)))) .o) .o)))) .o)) .o)))) pOk repOk (AllC.mem (⟨c55_ok, c68_ok, c69_ok, trivial⟩ : AllC _ _ [c55, c68, c69])) hmix Try.call43 Try.func43 rfl rfl (by kernel_rfl) (fun h => by kernel_rfl)

noncomputable def faults_Normal (a0 : (List Fault)) : Option (Int × (List Fault)) :=
  Option.bind (faults_wrong a0) fun x1 =>
    if x1 = true then some (1, [])
    else
      if decide (len a0 > 60) = true then some (2, [])
      else
        Option.bind (slices_Clone_Fault_Fault a0) fun x2 =>
          Option.bind (slices_Reverse_Fault_Fault x2) fun x3 =>
            Option.bind (faults_collect_Fault_Fault_v1 x3) fun x4 =>
              Option.bind (faults_turns x4) fun x5 =>
                if decide (len x5 > 24) = true then some (2, []) else some (0, x5)
noncomputable def c23 : Con D := ⟨23, [.lf (.sl 4)], [.lf (.int .i64), .lf (.sl 4)], [.one (.h 0 [0])], [], [.one (.own 1000), .one (.h 0 [])], [(1000, .sl 4 50 1 [])], fun h => faults_Normal h⟩
theorem c23_ok : ConOk Try.prog T c23 := fn_ok (Φ := [c42, c43_1, c46, c53, c54]) (rs := [.tmp 2, .tmp 3]) (an := .o) pOk repOk (AllC.mem (⟨c42_ok, c43_1_ok, c46_ok, c53_ok, c54_ok, trivial⟩ : AllC _ _ [c42, c43_1, c46, c53, c54])) hmix Try.call23 Try.func23 rfl rfl (by kernel_rfl) (fun h => by kernel_rfl)

noncomputable def faults_Parts_1 (a0 : Fault) : Option (Bool) := some true
noncomputable def c56 : Con D := ⟨56, [.lf (.int .i64), .lf (.int .i64), .lf (.int .i64), .lf (.int .i64)], [.lf .bool], [.agg [.h 0 [], .h 1 [], .h 2 [], .h 3 []]], [], [.one (.h 0 [])], [], fun h => faults_Parts_1 ⟨h.1, h.2.1, ⟨h.2.2.1, h.2.2.2⟩⟩⟩
theorem c56_ok : ConOk Try.prog T c56 := fn_ok (Φ := []) (rs := [.tmp 2]) (an := .o) pOk repOk (AllC.mem (l := []) trivial) hmix Try.call56 Try.func56 rfl rfl (by kernel_rfl) (fun h => by kernel_rfl)

noncomputable def faults_parts_1_v2 (a0 : Fault) : Option (Int × Int × Bool) := Option.bind (faults_Parts_1 a0) fun x1 => some (a0.Part.Kind, a0.Part.Number, x1)
noncomputable def c79_2 : Con D := ⟨79, [.lf (.int .i64), .lf (.int .i64), .lf (.int .i64), .lf (.int .i64)], [.lf (.int .i64), .lf (.int .i64), .lf .bool], [.agg [.h 0 [], .h 1 [], .h 2 [], .h 3 []], .one (.ptr 1000 0)], [(1000, .box [.fn 56 []])], [.agg [.h 0 [], .h 1 []], .one (.h 2 [])], [(1000, .box [.fn 56 []])], fun h => faults_parts_1_v2 ⟨h.1, h.2.1, ⟨h.2.2.1, h.2.2.2⟩⟩⟩
theorem c79_2_ok : ConOk Try.prog T c79_2 := fn_ok (Φ := [c56]) (rs := [.cell 3 41, .tmp 4]) (an := .o) pOk repOk (AllC.mem (⟨c56_ok, trivial⟩ : AllC _ _ [c56])) hmix Try.call79 Try.func79 rfl rfl (by kernel_rfl) (fun h => by kernel_rfl)

noncomputable def faults_collect_Fault_Part_v2_L1 (a0 : List
  Fault) : Int × List Part →
  Option
    (Int × List Part ⊕
      List
        Part) := fun x1 =>
  if decide (x1.1 < len a0) = true then
    Option.bind (idx a0 x1.1) fun x2 =>
      Option.bind (faults_parts_1_v2 x2) fun x3 =>
        Option.bind
          (if x3.2.2 = true then Option.bind (app x1.2 [Part.mk x3.1 x3.2.1]) fun x4 => some x4
          else some x1.2)
          fun x5 => some (.inl (W (x1.1 + 1), x5))
  else some (.inr x1.2)
noncomputable def faults_collect_Fault_Part_v2 (a0 : (List Fault)) : Option ((List Part)) :=
  Option.bind (loopO (faults_collect_Fault_Part_v2_L1 a0) (0, [])) fun x6 =>
    Option.bind (slices_SortStableFunc_Part_Part x6) fun x7 =>
      Option.bind (slices_CompactFunc_Part_Part x7) fun x8 => some x8
noncomputable def c78_2 : Con D := ⟨78, [.lf (.sl 4)], [.lf (.sl 3)], [.one (.h 0 [0]), .one (.fn 79 [.ptr 1000 0]), .one (.fn 73 [])], [(1000, .box [.fn 56 []])], [.one (.own 1001)], [(1000, .box [.fn 56 []]), (1001, .sl 3 41 0 [])], fun h => faults_collect_Fault_Part_v2 h⟩
theorem c78_2_ok : ConOk Try.prog T c78_2 := fn_ok (Φ := [c79_2, c89, c90]) (rs := [.tmp 6]) (an := (.n none .o (.n none .o (.n none (.n none .o (.n none (.loop ⟨[.lf (.int .i64), .lf (.sl 3)], [(7, .one (.own 2384)), (14, .one (.h 0 []))], [(2384, .sl 3 41 1 []), (1000, .box [.fn 56 []])], [1000], 2448⟩ true [(.exit 0, ⟨[.lf (.sl 3)], [(7, .one (.own 2384))], [(2384, .sl 3 41 0 []), (1000, .box [.fn 56 []])], [1000], 2448⟩)] (.n none .o (.n none .o (.n none (.n none (.n none .o (.n none .o (.n none .o (.n (some (true, [(.normal, ⟨[.lf (.sl 3)], [(7, .one (.own 3410))], [(3410, .sl 3 41 0 [])], [2384], 3474⟩)])) .o .o)))) .o) .o)))) .o)) .o)))) pOk repOk (AllC.mem (⟨c79_2_ok, c89_ok, c90_ok, trivial⟩ : AllC _ _ [c79_2, c89, c90])) hmix Try.call78 Try.func78 rfl rfl (by kernel_rfl) (fun h => by kernel_rfl)

noncomputable def faults_parts_v2 (a0 : (List Fault)) : Option ((List Part)) := Option.bind (faults_collect_Fault_Part_v2 a0) fun x1 => some x1
noncomputable def c50_2 : Con D := ⟨50, [.lf (.sl 4)], [.lf (.sl 3)], [.one (.h 0 [0]), .one (.fn 56 [])], [], [.one (.own 1000)], [(1000, .sl 3 41 0 [])], fun h => faults_parts_v2 h⟩
theorem c50_2_ok : ConOk Try.prog T c50_2 := fn_ok (Φ := [c78_2]) (rs := [.tmp 4]) (an := .o) pOk repOk (AllC.mem (⟨c78_2_ok, trivial⟩ : AllC _ _ [c78_2])) hmix Try.call50 Try.func50 rfl rfl (by kernel_rfl) (fun h => by kernel_rfl)

noncomputable def faults_Parts (a0 : (List Fault)) : Option ((List Part)) :=
  Option.bind (faults_Check a0) fun x1 =>
    if (x1 != 0) = true then some [] else Option.bind (faults_parts_v2 a0) fun x2 => some x2
noncomputable def c24 : Con D := ⟨24, [.lf (.sl 4)], [.lf (.sl 3)], [.one (.h 0 [0])], [], [.one (.own 1000)], [(1000, .sl 3 41 0 [])], fun h => faults_Parts h⟩
theorem c24_ok : ConOk Try.prog T c24 := fn_ok (Φ := [c14, c50_2]) (rs := [.tmp 2]) (an := .o) pOk repOk (AllC.mem (⟨c14_ok, c50_2_ok, trivial⟩ : AllC _ _ [c14, c50_2])) hmix Try.call24 Try.func24 rfl rfl (by kernel_rfl) (fun h => by kernel_rfl)

end Rx
end Go.Proofs.Ytmjcndmphjdjgaa
