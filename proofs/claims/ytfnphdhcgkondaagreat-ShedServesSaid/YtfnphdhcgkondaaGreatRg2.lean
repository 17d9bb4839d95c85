/- Plain functions, walks. Written by a program (wip/gen). -/
import Derived.Test.YtfnphdhcgkondaaGreatRt
import Derived.Test.YtfnphdhcgkondaaGreatHc
import Derived.Test.YtfnphdhcgkondaaGreatRg1
set_option linter.unusedVariables false
set_option maxRecDepth 100000
namespace Go.Proofs.YtfnphdhcgkondaaGreat
open Go Go.RowKit Dp
namespace Rx

noncomputable def board_closed_L1 (a0 : Board) (a1 : Power) (a2 : Int) : Int × Int →
  Option
    (Int × Int ⊕
      Int) := fun x1 =>
  if decide (x1.2 < len a0.Breakers) = true then
    Option.bind (idx a0.Breakers x1.2) fun x2 =>
      Option.bind
        (if (x2.Kind == 3) = true then
          if (x2.B == a2) = true then Option.bind (idx a1.Closed x1.2) fun x3 => some x3 else some false
        else some false)
        fun x4 =>
        Option.bind (if x4 = true then some (W (x1.1 + 1)) else some x1.1) fun x5 =>
          some (.inl (x5, W (x1.2 + 1)))
  else some (.inr x1.1)
noncomputable def board_closed (a0 : Board) (a1 : Power) (a2 : Int) : Option (Int) := Option.bind (loopO (board_closed_L1 a0 a1 a2) (0, 0)) fun x6 => some x6
noncomputable def c108 : Con D := ⟨108, [.lf (.int .i64), .lf (.sl 5), .lf (.sl 6), .lf (.sl 7), .lf (.int .i64), .lf (.int .i64), .lf (.sl 1), .lf (.sl 9), .lf (.sl 0), .lf (.sl 10), .lf (.int .i64)], [.lf (.int .i64)], [.agg [.h 0 [], .h 1 [0], .h 2 [0], .h 3 [0], .h 4 [], .h 5 []], .agg [.h 6 [0], .h 7 [0], .h 8 [0], .h 9 [0]], .one (.h 10 [])], [], [.one (.h 0 [])], [], fun h => board_closed ⟨h.1, h.2.1, h.2.2.1, h.2.2.2.1, h.2.2.2.2.1, h.2.2.2.2.2.1⟩ ⟨h.2.2.2.2.2.2.1, h.2.2.2.2.2.2.2.1, h.2.2.2.2.2.2.2.2.1, h.2.2.2.2.2.2.2.2.2.1⟩ h.2.2.2.2.2.2.2.2.2.2⟩
theorem c108_ok : ConOk Tryz.prog T c108 := fn_ok (Φ := []) (rs := [.tmp 6]) (an := (.n none .o (.n none .o (.n none (.n none .o (.n none (.loop ⟨[.lf (.int .i64), .lf (.int .i64)], [(7, .one (.h 0 [])), (13, .one (.h 1 []))], [], [], 2576⟩ true [(.exit 0, ⟨[.lf (.int .i64)], [(7, .one (.h 0 []))], [], [], 2576⟩)] (.n none .o (.n none .o (.n none (.n none (.n none .o (.n none (.r (some (true, [(.normal, ⟨[.lf .bool], [(22, .one (.any)), (23, .one (.any)), (24, .one (.any)), (25, .one (.any)), (28, .one (.any)), (29, .one (.any)), (30, .one (.any)), (31, .one (.any)), (32, .one (.any)), (33, .one (.h 0 []))], [], [], 3090⟩)])) .nil) (.n (some (true, [(.normal, ⟨[.lf (.int .i64)], [(7, .one (.h 0 []))], [], [], 3155⟩)])) .o .o))) .o) .o)))) .o)) .o)))) pOk repOk (AllC.mem (l := []) trivial) hmix Tryz.call108 Tryz.func108 rfl rfl (by kernel_rfl) (fun h => by kernel_rfl)

noncomputable def board_State_L1 (a0 : Board) (a1 : Power) : Bool × Int →
  Option
    (Bool × Int ⊕
      Bool) := fun x6 =>
  if decide (x6.2 < len a1.Limits) = true then
    Option.bind (idx a1.Limits x6.2) fun x7 =>
      Option.bind
        (if x6.1 = true then
          Option.bind (idx a0.Consumers x6.2) fun x8 =>
            Option.bind (board_in x7 0 x8.Load) fun x9 =>
              if x9 = true then Option.bind (board_closed a0 a1 x6.2) fun x10 => some (decide (x10 ≤ 1))
              else some false
        else some false)
        fun x11 => some (.inl (x11, W (x6.2 + 1)))
  else some (.inr x6.1)
noncomputable def board_State (a0 : Board) (a1 : Power) : Option (Int) :=
  Option.bind (board_Check a0) fun x1 =>
    if (x1 != 0) = true then some x1
    else
      Option.bind
        (if (len a1.Closed != len a0.Breakers) = true then some true
        else if (len a1.Sources != len a0.Sources) = true then some true else some (len a1.Limits != len a0.Consumers))
        fun x2 =>
        if x2 = true then some 8
        else
          Option.bind
            (Option.bind (board_broken a0 a1.Broken) fun x3 =>
              if x3 = true then Option.bind (slices_ContainsFunc_Running_Running a1.Sources) fun x4 => some !x4
              else some false)
            fun x5 =>
            Option.bind (loopO (board_State_L1 a0 a1) (x5, 0)) fun x12 =>
              if (!x12) = true then some 11 else some 0
noncomputable def c70 : Con D := ⟨70, [.lf (.int .i64), .lf (.sl 5), .lf (.sl 6), .lf (.sl 7), .lf (.int .i64), .lf (.int .i64), .lf (.sl 1), .lf (.sl 9), .lf (.sl 0), .lf (.sl 10)], [.lf (.int .i64)], [.agg [.h 0 [], .h 1 [0], .h 2 [0], .h 3 [0], .h 4 [], .h 5 []], .agg [.h 6 [0], .h 7 [0], .h 8 [0], .h 9 [0]]], [], [.one (.h 0 [])], [], fun h => board_State ⟨h.1, h.2.1, h.2.2.1, h.2.2.2.1, h.2.2.2.2.1, h.2.2.2.2.2.1⟩ ⟨h.2.2.2.2.2.2.1, h.2.2.2.2.2.2.2.1, h.2.2.2.2.2.2.2.2.1, h.2.2.2.2.2.2.2.2.2⟩⟩
theorem c70_ok : ConOk Tryz.prog T c70 := fn_ok (Φ := [c56, c94, c104, c105, c108]) (rs := [.tmp 4]) (an := (.n none .o (.n none .o (.n none (.n none (.r (some (true, [(.normal, ⟨[.lf .bool], [(38, .one (.h 0 []))], [], [], 2576⟩)])) .nil) .o) (.n none (.r (some (true, [(.normal, ⟨[.lf .bool], [(6, .one (.h 0 []))], [], [], 2641⟩)])) .nil) (.n none (.n none .o (.n none (.loop ⟨[.lf .bool, .lf (.int .i64)], [(6, .one (.h 0 [])), (52, .one (.h 1 []))], [], [], 2962⟩ true [(.exit 0, ⟨[.lf .bool], [(6, .one (.h 0 []))], [], [], 2962⟩)] (.n none .o (.n none .o (.n none (.n none (.n none .o (.r (some (true, [(.normal, ⟨[.lf .bool], [(6, .one (.h 0 [])), (59, .one (.any)), (60, .one (.any)), (61, .one (.any)), (62, .one (.any)), (63, .one (.any)), (64, .one (.any)), (65, .one (.any)), (66, .one (.any)), (69, .one (.any)), (70, .one (.any)), (71, .one (.any)), (72, .one (.any)), (73, .one (.any))], [], [], 3412⟩)])) .nil)) .o) .o)))) .o)) .o)))))) pOk repOk (AllC.mem (⟨c56_ok, c94_ok, c104_ok, c105_ok, c108_ok, trivial⟩ : AllC _ _ [c56, c94, c104, c105, c108])) hmix Tryz.call70 Tryz.func70 rfl rfl (by kernel_rfl) (fun h => by kernel_rfl)

noncomputable def board_groups_L1 (x1 : List
  Int) : Int × List Int →
  Option
    (Int × List Int ⊕
      List
        Int) := fun x2 =>
  if decide (x2.1 < len x1) = true then
    Option.bind (idx x2.2 x2.1) fun x3 =>
      Option.bind (idx x2.2 x2.1) fun x4 =>
        Option.bind (setO x2.2 x2.1 x2.1) fun x5 => some (.inl (W (x2.1 + 1), x5))
  else some (.inr x2.2)
noncomputable def board_groups_L3 (a0 : Board) (a1 : Power) : Int × List Int →
  Option
    (Int × List Int ⊕
      List
        Int) := fun x8 =>
  if decide (x8.1 < len a0.Breakers) = true then
    Option.bind (idx a0.Breakers x8.1) fun x9 =>
      Option.bind
        (if (x9.Kind == 1) = true then Option.bind (idx a1.Closed x8.1) fun x10 => some x10 else some false)
        fun x11 =>
        Option.bind
          (if x11 = true then
            Option.bind (idx x8.2 x9.A) fun x12 =>
              Option.bind (idx x8.2 x9.B) fun x13 =>
                Option.bind (idx x8.2 x9.A) fun x14 =>
                  Option.bind (idx x8.2 x9.A) fun x15 =>
                    Option.bind (setO x8.2 x9.A (imin x12 x13)) fun x16 =>
                      Option.bind (idx x16 x9.B) fun x17 =>
                        Option.bind (idx x16 x9.B) fun x18 =>
                          Option.bind (setO x16 x9.B (imin x12 x13)) fun x19 => some x19
          else some x8.2)
          fun x20 => some (.inl (W (x8.1 + 1), x20))
  else some (.inr x8.2)
noncomputable def board_groups_L2 (a0 : Board) (a1 : Power) (x6 : List
  Int) : Int × List Int →
  Option
    (Int × List Int ⊕
      List
        Int) := fun x7 =>
  if decide (x7.1 < len x6) = true then
    Option.bind (loopO (board_groups_L3 a0 a1) (0, x7.2)) fun x21 =>
      some (.inl (W (x7.1 + 1), x21))
  else some (.inr x7.2)
noncomputable def board_groups (a0 : Board) (a1 : Power) : Option ((List Int)) :=
  Option.bind (mkZ 0 a0.Buses) fun x1 =>
    Option.bind (loopO (board_groups_L1 x1) (0, x1)) fun x6 =>
      Option.bind (loopO (board_groups_L2 a0 a1 x6) (0, x6)) fun x22 => some x22
noncomputable def c113 : Con D := ⟨113, [.lf (.int .i64), .lf (.sl 5), .lf (.sl 6), .lf (.sl 7), .lf (.int .i64), .lf (.int .i64), .lf (.sl 1), .lf (.sl 9), .lf (.sl 0), .lf (.sl 10)], [.lf (.sl 0)], [.agg [.h 0 [], .h 1 [0], .h 2 [0], .h 3 [0], .h 4 [], .h 5 []], .agg [.h 6 [0], .h 7 [0], .h 8 [0], .h 9 [0]]], [], [.one (.own 1000)], [(1000, .sl 0 3 0 [])], fun h => board_groups ⟨h.1, h.2.1, h.2.2.1, h.2.2.2.1, h.2.2.2.2.1, h.2.2.2.2.2.1⟩ ⟨h.2.2.2.2.2.2.1, h.2.2.2.2.2.2.2.1, h.2.2.2.2.2.2.2.2.1, h.2.2.2.2.2.2.2.2.2⟩⟩
theorem c113_ok : ConOk Tryz.prog T c113 := fn_ok (Φ := []) (rs := [.tmp 4]) (an := (.n none .o (.n none .o (.n none (.n none .o (.n none (.loop ⟨[.lf (.int .i64), .lf (.sl 0)], [(15, .one (.h 0 []))], [(2320, .sl 0 3 1 [])], [2320], 2704⟩ true [(.exit 0, ⟨[.lf (.sl 0)], [], [(2320, .sl 0 3 0 [])], [2320], 2704⟩)] .o) .o)) (.n none (.n none .o (.n none (.loop ⟨[.lf (.int .i64), .lf (.sl 0)], [(25, .one (.h 0 []))], [(2320, .sl 0 3 1 [])], [2320], 2961⟩ true [(.exit 2, ⟨[.lf (.sl 0)], [], [(2320, .sl 0 3 0 [])], [2320], 2961⟩)] (.n none .o (.n none .o (.n none (.n none (.n none .o (.n none (.loop ⟨[.lf (.int .i64), .lf (.sl 0)], [(30, .one (.h 0 []))], [(2320, .sl 0 3 1 [])], [2320], 3347⟩ true [(.exit 4, ⟨[.lf (.sl 0)], [], [(2320, .sl 0 3 0 [])], [2320], 3347⟩)] (.n none .o (.n none .o (.n none (.n none (.n none .o (.n none (.r (some (true, [(.normal, ⟨[.lf .bool], [(39, .one (.any)), (40, .one (.any)), (41, .one (.any)), (42, .one (.any)), (43, .one (.any)), (44, .one (.h 0 []))], [], [], 3861⟩)])) .nil) (.n (some (true, [(.normal, ⟨[.lf (.sl 0)], [], [(2320, .sl 0 3 0 [])], [2320], 3926⟩)])) .o .o))) .o) .o)))) .o)) .o) .o)))) .o)) .o))))) pOk repOk (AllC.mem (l := []) trivial) hmix Tryz.call113 Tryz.func113 rfl rfl (by kernel_rfl) (fun h => by kernel_rfl)

noncomputable def board_led_L1 (a0 : Board) (a1 : Power) (a2 : Int) (a3 : Int) : Int →
  Option
    (Int ⊕
      Unit ⊕
        Int ×
          Bool) := fun x1 =>
  if decide (x1 < len a0.Breakers) = true then
    Option.bind (idx a0.Breakers x1) fun x2 =>
      Option.bind
        (if (x2.Kind == a2) = true then
          if (x2.B == a3) = true then Option.bind (idx a1.Closed x1) fun x3 => some x3 else some false
        else some false)
        fun x4 => if x4 = true then some (.inr (.inr (x2.A, true))) else some (.inl (W (x1 + 1)))
  else some (.inr (.inl ()))
noncomputable def board_led (a0 : Board) (a1 : Power) (a2 : Int) (a3 : Int) : Option (Int × Bool) :=
  Option.bind (loopO (board_led_L1 a0 a1 a2 a3) 0) fun x5 =>
    Sum.elim (fun x6 => some (0, false)) (fun x7 => some x7) x5
noncomputable def c133 : Con D := ⟨133, [.lf (.int .i64), .lf (.sl 5), .lf (.sl 6), .lf (.sl 7), .lf (.int .i64), .lf (.int .i64), .lf (.sl 1), .lf (.sl 9), .lf (.sl 0), .lf (.sl 10), .lf (.int .i64), .lf (.int .i64)], [.lf (.int .i64), .lf .bool], [.agg [.h 0 [], .h 1 [0], .h 2 [0], .h 3 [0], .h 4 [], .h 5 []], .agg [.h 6 [0], .h 7 [0], .h 8 [0], .h 9 [0]], .one (.h 10 []), .one (.h 11 [])], [], [.one (.h 0 []), .one (.h 1 [])], [], fun h => board_led ⟨h.1, h.2.1, h.2.2.1, h.2.2.2.1, h.2.2.2.2.1, h.2.2.2.2.2.1⟩ ⟨h.2.2.2.2.2.2.1, h.2.2.2.2.2.2.2.1, h.2.2.2.2.2.2.2.2.1, h.2.2.2.2.2.2.2.2.2.1⟩ h.2.2.2.2.2.2.2.2.2.2.1 h.2.2.2.2.2.2.2.2.2.2.2⟩
theorem c133_ok : ConOk Tryz.prog T c133 := fn_ok (Φ := []) (rs := [.tmp 8, .tmp 9]) (an := (.n none .o (.n none (.n none .o (.n none (.loop ⟨[.lf (.int .i64)], [(15, .one (.h 0 []))], [], [], 2576⟩ false [(.exit 0, ⟨[], [], [], [], 2576⟩)] (.n none .o (.n none .o (.n none (.n none (.n none .o (.n none (.r (some (true, [(.normal, ⟨[.lf .bool], [(25, .one (.any)), (26, .one (.any)), (27, .one (.any)), (28, .one (.any)), (31, .one (.any)), (32, .one (.any)), (33, .one (.any)), (34, .one (.any)), (35, .one (.any)), (36, .one (.h 0 []))], [], [], 3089⟩)])) .nil) .o)) .o) .o)))) .o)) .o))) pOk repOk (AllC.mem (l := []) trivial) hmix Tryz.call133 Tryz.func133 rfl rfl (by kernel_rfl) (fun h => by kernel_rfl)

noncomputable def board_connected (a0 : Board) (a1 : Power) (a2 : Int) : Option (Int × Bool) :=
  Option.bind
    (Option.bind (board_in a2 0 (W (len a1.Sources - 1))) fun x1 =>
      if (!x1) = true then some true else Option.bind (idx a1.Sources a2) fun x2 => some (x2.State != 2))
    fun x3 =>
    if x3 = true then some (0, false)
    else Option.bind (board_led a0 a1 2 a2) fun x4 => some (x4.1, x4.2)
noncomputable def c114 : Con D := ⟨114, [.lf (.int .i64), .lf (.sl 5), .lf (.sl 6), .lf (.sl 7), .lf (.int .i64), .lf (.int .i64), .lf (.sl 1), .lf (.sl 9), .lf (.sl 0), .lf (.sl 10), .lf (.int .i64)], [.lf (.int .i64), .lf .bool], [.agg [.h 0 [], .h 1 [0], .h 2 [0], .h 3 [0], .h 4 [], .h 5 []], .agg [.h 6 [0], .h 7 [0], .h 8 [0], .h 9 [0]], .one (.h 10 [])], [], [.one (.h 0 []), .one (.h 1 [])], [], fun h => board_connected ⟨h.1, h.2.1, h.2.2.1, h.2.2.2.1, h.2.2.2.2.1, h.2.2.2.2.2.1⟩ ⟨h.2.2.2.2.2.2.1, h.2.2.2.2.2.2.2.1, h.2.2.2.2.2.2.2.2.1, h.2.2.2.2.2.2.2.2.2.1⟩ h.2.2.2.2.2.2.2.2.2.2⟩
theorem c114_ok : ConOk Tryz.prog T c114 := fn_ok (Φ := [c94, c133]) (rs := [.tmp 6, .tmp 7]) (an := (.n none .o (.n none (.n none (.r (some (true, [(.normal, ⟨[.lf .bool], [(23, .one (.h 0 []))], [], [], 2320⟩)])) .nil) .o) .o))) pOk repOk (AllC.mem (⟨c94_ok, c133_ok, trivial⟩ : AllC _ _ [c94, c133])) hmix Tryz.call114 Tryz.func114 rfl rfl (by kernel_rfl) (fun h => by kernel_rfl)

noncomputable def board_fed (a0 : Board) (a1 : Power) (a2 : Int) : Option (Int × Bool) := Option.bind (board_led a0 a1 3 a2) fun x1 => some (x1.1, x1.2)
noncomputable def c100 : Con D := ⟨100, [.lf (.int .i64), .lf (.sl 5), .lf (.sl 6), .lf (.sl 7), .lf (.int .i64), .lf (.int .i64), .lf (.sl 1), .lf (.sl 9), .lf (.sl 0), .lf (.sl 10), .lf (.int .i64)], [.lf (.int .i64), .lf .bool], [.agg [.h 0 [], .h 1 [0], .h 2 [0], .h 3 [0], .h 4 [], .h 5 []], .agg [.h 6 [0], .h 7 [0], .h 8 [0], .h 9 [0]], .one (.h 10 [])], [], [.one (.h 0 []), .one (.h 1 [])], [], fun h => board_fed ⟨h.1, h.2.1, h.2.2.1, h.2.2.2.1, h.2.2.2.2.1, h.2.2.2.2.2.1⟩ ⟨h.2.2.2.2.2.2.1, h.2.2.2.2.2.2.2.1, h.2.2.2.2.2.2.2.2.1, h.2.2.2.2.2.2.2.2.2.1⟩ h.2.2.2.2.2.2.2.2.2.2⟩
theorem c100_ok : ConOk Tryz.prog T c100 := fn_ok (Φ := [c133]) (rs := [.tmp 6, .tmp 7]) (an := .o) pOk repOk (AllC.mem (⟨c133_ok, trivial⟩ : AllC _ _ [c133])) hmix Tryz.call100 Tryz.func100 rfl rfl (by kernel_rfl) (fun h => by kernel_rfl)

noncomputable def board_Islands_1 (a0 : Island) : Option (Bool) := some (len a0.Buses == 0)
noncomputable def c116 : Con D := ⟨116, [.lf (.sl 0), .lf (.sl 0), .lf (.sl 0)], [.lf .bool], [.agg [.h 0 [0], .h 1 [0], .h 2 [0]]], [], [.one (.h 0 [])], [], fun h => board_Islands_1 ⟨h.1, h.2.1, h.2.2⟩⟩
theorem c116_ok : ConOk Tryz.prog T c116 := fn_ok (Φ := []) (rs := [.tmp 2]) (an := .o) pOk repOk (AllC.mem (l := []) trivial) hmix Tryz.call116 Tryz.func116 rfl rfl (by kernel_rfl) (fun h => by kernel_rfl)

noncomputable def slices_IndexFunc_Island_Island_L1 (a0 : List
  Island) : Int →
  Option
    (Int ⊕
      Unit ⊕
        Int) := fun x1 =>
  if decide (x1 < len a0) = true then
    Option.bind (idx a0 x1) fun x2 =>
      Option.bind (board_Islands_1 x2) fun x3 =>
        if x3 = true then some (.inr (.inr x1)) else some (.inl (W (x1 + 1)))
  else some (.inr (.inl ()))
noncomputable def slices_IndexFunc_Island_Island (a0 : (List Island)) : Option (Int) :=
  Option.bind (loopO (slices_IndexFunc_Island_Island_L1 a0) 0) fun x4 =>
    Sum.elim (fun x5 => some (-1)) (fun x6 => some x6) x4
noncomputable def c138 : Con D := ⟨138, [.lf (.sl 13)], [.lf (.int .i64)], [.one (.h 0 [0]), .one (.fn 116 [])], [], [.one (.h 0 [])], [], fun h => slices_IndexFunc_Island_Island h⟩
theorem c138_ok : ConOk Tryz.prog T c138 := fn_ok (Φ := [c116]) (rs := [.tmp 4]) (an := (.n none .o (.n none (.n none .o (.n none (.loop ⟨[.lf (.int .i64)], [(8, .one (.h 0 []))], [], [], 2320⟩ false [(.exit 0, ⟨[], [], [], [], 2320⟩)] .o) .o)) .o))) pOk repOk (AllC.mem (⟨c116_ok, trivial⟩ : AllC _ _ [c116])) hmix Tryz.call138 Tryz.func138 rfl rfl (by kernel_rfl) (fun h => by kernel_rfl)

noncomputable def slices_DeleteFunc_Island_Island_L1 : Int × Int × List Island →
  Option
    (Int × Int × List Island ⊕
      Int ×
        List
          Island) := fun x2 =>
  if decide (x2.2.1 < len x2.2.2) = true then
    Option.bind (idx x2.2.2 x2.2.1) fun x3 =>
      Option.bind (board_Islands_1 x3) fun x4 =>
        Option.bind
          (if (!x4) = true then
            Option.bind (idx x2.2.2 x2.1) fun x5 =>
              Option.bind (idx x2.2.2 x2.1) fun x6 =>
                Option.bind (setO x2.2.2 x2.1 x3) fun x7 => some (W (x2.1 + 1), x7)
          else some (x2.1, x2.2.2))
          fun x8 => some (.inl (x8.1, W (x2.2.1 + 1), x8.2))
  else some (.inr (x2.1, x2.2.2))
noncomputable def slices_DeleteFunc_Island_Island (a0 : (List Island)) : Option ((List Island)) :=
  Option.bind (slices_IndexFunc_Island_Island a0) fun x1 =>
    if (x1 == (-1)) = true then some a0
    else
      Option.bind (loopO slices_DeleteFunc_Island_Island_L1 (x1, W (x1 + 1), a0)) fun x9 =>
        Option.bind (slc x9.2 x9.1 (len x9.2)) fun x10 =>
          Option.bind (slc (clrT (Island.mk [] [] []) x9.2 x9.1) 0 x9.1) fun x11 => some x11
noncomputable def c115 : Con D := ⟨115, [.lf (.sl 13)], [.lf (.sl 13)], [.one (.own 1000), .one (.fn 116 [])], [(1000, .sl 13 54 0 [0])], [.one (.own 1001)], [(1001, .sl 13 54 0 [0])], fun h => slices_DeleteFunc_Island_Island h⟩
theorem c115_ok : ConOk Tryz.prog T c115 := fn_ok (Φ := [c116, c138]) (rs := [.tmp 4]) (an := (.n none .o (.n none .o (.n none .o (.n none (.n none .o (.n none (.loop ⟨[.lf (.int .i64), .lf (.int .i64), .lf (.sl 13)], [(5, .one (.h 0 [])), (6, .one (.h 1 []))], [(1000, .sl 13 54 2 [0])], [1000], 2704⟩ true [(.exit 0, ⟨[.lf (.int .i64), .lf (.sl 13)], [(5, .one (.h 0 []))], [(1000, .sl 13 54 1 [0])], [1000], 2704⟩)] (.n none .o (.n none (.n none (.n none .o (.n none .o (.n (some (true, [(.normal, ⟨[.lf (.int .i64), .lf (.sl 13)], [(5, .one (.h 0 []))], [(1000, .sl 13 54 1 [0])], [1000], 3667⟩)])) .o .o))) .o) .o))) .o)) .o))))) pOk repOk (AllC.mem (⟨c116_ok, c138_ok, trivial⟩ : AllC _ _ [c116, c138])) hmix Tryz.call115 Tryz.func115 rfl rfl (by kernel_rfl) (fun h => by kernel_rfl)

noncomputable def board_Islands_L1 (x2 : List
  Int) : Int × List Island →
  Option
    (Int × List Island ⊕
      List
        Island) := fun x4 =>
  if decide (x4.1 < len x2) = true then
    Option.bind (idx x2 x4.1) fun x5 =>
      Option.bind (idx x4.2 x5) fun x6 =>
        Option.bind (idx x4.2 x5) fun x7 =>
          Option.bind (idx x4.2 x5) fun x8 =>
            Option.bind (app x8.Buses [x4.1]) fun x9 =>
              Option.bind (setO x4.2 x5 (Island.mk x9 x8.Sources x8.Consumers)) fun x10 =>
                Option.bind (idx x10 x5) fun x11 =>
                  Option.bind (eqO x5 x5) fun x12 => some (.inl (W (x4.1 + 1), x10))
  else some (.inr x4.2)
noncomputable def board_Islands_L2 (a0 : Board) (a1 : Power) (x2 : List
  Int) : Int × List Island →
  Option
    (Int × List Island ⊕
      List
        Island) := fun x14 =>
  if decide (x14.1 < len a0.Sources) = true then
    Option.bind (board_connected a0 a1 x14.1) fun x15 =>
      Option.bind
        (if x15.2 = true then
          Option.bind (idx x2 x15.1) fun x16 =>
            Option.bind (idx x2 x15.1) fun x17 =>
              Option.bind (idx x14.2 x17) fun x18 =>
                Option.bind (idx x14.2 x17) fun x19 =>
                  Option.bind (idx x14.2 x17) fun x20 =>
                    Option.bind (app x20.Sources [x14.1]) fun x21 =>
                      Option.bind (setO x14.2 x17 (Island.mk x20.Buses x21 x20.Consumers)) fun x22 =>
                        Option.bind (idx x22 x16) fun x23 => Option.bind (eqO x16 x17) fun x24 => some x22
        else some x14.2)
        fun x25 => some (.inl (W (x14.1 + 1), x25))
  else some (.inr x14.2)
noncomputable def board_Islands_L3 (a0 : Board) (a1 : Power) (x2 : List
  Int) : Int × List Island →
  Option
    (Int × List Island ⊕
      List
        Island) := fun x27 =>
  if decide (x27.1 < len a0.Consumers) = true then
    Option.bind (board_fed a0 a1 x27.1) fun x28 =>
      Option.bind
        (if x28.2 = true then
          Option.bind (idx x2 x28.1) fun x29 =>
            Option.bind (idx x2 x28.1) fun x30 =>
              Option.bind (idx x27.2 x30) fun x31 =>
                Option.bind (idx x27.2 x30) fun x32 =>
                  Option.bind (idx x27.2 x30) fun x33 =>
                    Option.bind (app x33.Consumers [x27.1]) fun x34 =>
                      Option.bind (setO x27.2 x30 (Island.mk x33.Buses x33.Sources x34)) fun x35 =>
                        Option.bind (idx x35 x29) fun x36 => Option.bind (eqO x29 x30) fun x37 => some x35
        else some x27.2)
        fun x38 => some (.inl (W (x27.1 + 1), x38))
  else some (.inr x27.2)
noncomputable def board_Islands (a0 : Board) (a1 : Power) : Option ((List Island)) :=
  Option.bind (board_State a0 a1) fun x1 =>
    if (x1 != 0) = true then some []
    else
      Option.bind (board_groups a0 a1) fun x2 =>
        Option.bind (mkZ (Island.mk [] [] []) a0.Buses) fun x3 =>
          Option.bind (loopO (board_Islands_L1 x2) (0, x3)) fun x13 =>
            Option.bind (loopO (board_Islands_L2 a0 a1 x2) (0, x13)) fun x26 =>
              Option.bind (loopO (board_Islands_L3 a0 a1 x2) (0, x26)) fun x39 =>
                Option.bind (slices_DeleteFunc_Island_Island x39) fun x40 => some x40
noncomputable def c73 : Con D := ⟨73, [.lf (.int .i64), .lf (.sl 5), .lf (.sl 6), .lf (.sl 7), .lf (.int .i64), .lf (.int .i64), .lf (.sl 1), .lf (.sl 9), .lf (.sl 0), .lf (.sl 10)], [.lf (.sl 13)], [.agg [.h 0 [], .h 1 [0], .h 2 [0], .h 3 [0], .h 4 [], .h 5 []], .agg [.h 6 [0], .h 7 [0], .h 8 [0], .h 9 [0]]], [], [.one (.own 1000)], [(1000, .sl 13 54 0 [1])], fun h => board_Islands ⟨h.1, h.2.1, h.2.2.1, h.2.2.2.1, h.2.2.2.2.1, h.2.2.2.2.2.1⟩ ⟨h.2.2.2.2.2.2.1, h.2.2.2.2.2.2.2.1, h.2.2.2.2.2.2.2.2.1, h.2.2.2.2.2.2.2.2.2⟩⟩
theorem c73_ok : ConOk Tryz.prog T c73 := fn_ok (Φ := [c70, c100, c113, c114, c115]) (rs := [.tmp 4]) (an := (.n none .o (.n none .o (.n none .o (.n none .o (.n none (.n none .o (.n none (.loop ⟨[.lf (.int .i64), .lf (.sl 13)], [(27, .one (.h 0 []))], [(2832, .kid 13 54 3 0 1)], [2832], 3216⟩ true [(.exit 0, ⟨[.lf (.sl 13)], [], [(2832, .kid 13 54 3 0 0)], [2832], 3216⟩)] .o) .o)) (.n none (.n none .o (.n none (.loop ⟨[.lf (.int .i64), .lf (.sl 13)], [(48, .one (.h 0 []))], [(2832, .kid 13 54 3 0 1)], [2832], 3537⟩ true [(.exit 2, ⟨[.lf (.sl 13)], [], [(2832, .kid 13 54 3 0 0)], [2832], 3537⟩)] (.n none .o (.n none .o (.n none (.n none (.n none .o (.n none .o (.n none .o (.n (some (true, [(.normal, ⟨[.lf (.sl 13)], [], [(2832, .kid 13 54 3 0 0)], [2832], 4435⟩)])) .o .o)))) .o) .o)))) .o)) (.n none (.n none .o (.n none (.loop ⟨[.lf (.int .i64), .lf (.sl 13)], [(81, .one (.h 0 []))], [(2832, .kid 13 54 3 0 1)], [2832], 3858⟩ true [(.exit 4, ⟨[.lf (.sl 13)], [], [(2832, .kid 13 54 3 0 0)], [2832], 3858⟩)] (.n none .o (.n none .o (.n none (.n none (.n none .o (.n none .o (.n none .o (.n (some (true, [(.normal, ⟨[.lf (.sl 13)], [], [(2832, .kid 13 54 3 0 0)], [2832], 4756⟩)])) .o .o)))) .o) .o)))) .o)) (.n none (.r none (.thaw 1 [2832] .nil)) .o))))))))) pOk repOk (AllC.mem (⟨c70_ok, c100_ok, c113_ok, c114_ok, c115_ok, trivial⟩ : AllC _ _ [c70, c100, c113, c114, c115])) hmix Tryz.call73 Tryz.func73 rfl rfl (by kernel_rfl) (fun h => by kernel_rfl)

noncomputable def board_Of_L1 (a2 : Int) (x1 : List
  Island) : Int →
  Option
    (Int ⊕
      Unit ⊕
        List Int ×
          List Int ×
            List Int ×
              Bool) := fun x2 =>
  if decide (x2 < len x1) = true then
    Option.bind (idx x1 x2) fun x3 =>
      Option.bind (slices_Contains_int_int x3.Buses a2) fun x4 =>
        if x4 = true then some (.inr (.inr (x3.Buses, x3.Sources, x3.Consumers, true)))
        else some (.inl (W (x2 + 1)))
  else some (.inr (.inl ()))
noncomputable def board_Of (a0 : Board) (a1 : Power) (a2 : Int) : Option ((List Int) × (List Int) × (List Int) × Bool) :=
  Option.bind (board_Islands a0 a1) fun x1 =>
    Option.bind (loopO (board_Of_L1 a2 x1) 0) fun x5 =>
      Sum.elim (fun x6 => some ([], [], [], false)) (fun x7 => some x7) x5
noncomputable def c101 : Con D := ⟨101, [.lf (.int .i64), .lf (.sl 5), .lf (.sl 6), .lf (.sl 7), .lf (.int .i64), .lf (.int .i64), .lf (.sl 1), .lf (.sl 9), .lf (.sl 0), .lf (.sl 10), .lf (.int .i64)], [.lf (.sl 0), .lf (.sl 0), .lf (.sl 0), .lf .bool], [.agg [.h 0 [], .h 1 [0], .h 2 [0], .h 3 [0], .h 4 [], .h 5 []], .agg [.h 6 [0], .h 7 [0], .h 8 [0], .h 9 [0]], .one (.h 10 [])], [], [.agg [.h 0 [1], .h 1 [1], .h 2 [1]], .one (.h 3 [])], [], fun h => board_Of ⟨h.1, h.2.1, h.2.2.1, h.2.2.2.1, h.2.2.2.2.1, h.2.2.2.2.2.1⟩ ⟨h.2.2.2.2.2.2.1, h.2.2.2.2.2.2.2.1, h.2.2.2.2.2.2.2.2.1, h.2.2.2.2.2.2.2.2.2.1⟩ h.2.2.2.2.2.2.2.2.2.2⟩
theorem c101_ok : ConOk Tryz.prog T c101 := fn_ok (Φ := [c73, c77]) (rs := [.cell 6 54, .tmp 7]) (an := (.n none .o (.n none (.n none .o (.n none (.loop ⟨[.lf (.int .i64)], [(14, .one (.h 0 []))], [(2128, .box [.nils, .nils, .nils])], [2128], 2640⟩ false [(.exit 0, ⟨[], [], [(2128, .box [.nils, .nils, .nils])], [2128], 2640⟩)] .o) .o)) .o))) pOk repOk (AllC.mem (⟨c73_ok, c77_ok, trivial⟩ : AllC _ _ [c73, c77])) hmix Tryz.call101 Tryz.func101 rfl rfl (by kernel_rfl) (fun h => by kernel_rfl)

noncomputable def board_Live (a0 : Board) (a1 : Power) (a2 : Int) : Option (Bool) := Option.bind (board_Of a0 a1 a2) fun x1 => some (decide (len x1.2.1 > 0))
noncomputable def c64 : Con D := ⟨64, [.lf (.int .i64), .lf (.sl 5), .lf (.sl 6), .lf (.sl 7), .lf (.int .i64), .lf (.int .i64), .lf (.sl 1), .lf (.sl 9), .lf (.sl 0), .lf (.sl 10), .lf (.int .i64)], [.lf .bool], [.agg [.h 0 [], .h 1 [0], .h 2 [0], .h 3 [0], .h 4 [], .h 5 []], .agg [.h 6 [0], .h 7 [0], .h 8 [0], .h 9 [0]], .one (.h 10 [])], [], [.one (.h 0 [])], [], fun h => board_Live ⟨h.1, h.2.1, h.2.2.1, h.2.2.2.1, h.2.2.2.2.1, h.2.2.2.2.2.1⟩ ⟨h.2.2.2.2.2.2.1, h.2.2.2.2.2.2.2.1, h.2.2.2.2.2.2.2.2.1, h.2.2.2.2.2.2.2.2.2.1⟩ h.2.2.2.2.2.2.2.2.2.2⟩
theorem c64_ok : ConOk Tryz.prog T c64 := fn_ok (Φ := [c101]) (rs := [.tmp 6]) (an := .o) pOk repOk (AllC.mem (⟨c101_ok, trivial⟩ : AllC _ _ [c101])) hmix Tryz.call64 Tryz.func64 rfl rfl (by kernel_rfl) (fun h => by kernel_rfl)

noncomputable def slices_Clone_bool_bool (a0 : (List Bool)) : Option ((List Bool)) := app [] a0
noncomputable def c121 : Con D := ⟨121, [.lf (.sl 1)], [.lf (.sl 1)], [.one (.h 0 [0])], [], [.one (.own 1000)], [(1000, .sl 1 4 0 [])], fun h => slices_Clone_bool_bool h⟩
theorem c121_ok : ConOk Tryz.prog T c121 := by
  refine ⟨Tryz.call121, rfl, rfl, rfl, rfl, fun xs0 r0 hr0 avs obs has hobs γ w vs hv _ => ?_⟩
  cases has
  match vs, hv with
  | [], hv => exact hv.elim
  | _ :: _ :: _, hv => exact hv.2.elim
  | [v], hv =>
  obtain ⟨xs, hxs⟩ : ∃ xs : List (D 1), xs = xs0 := ⟨_, rfl⟩
  obtain ⟨r, hrr⟩ : ∃ r : List (D 1), r = r0 := ⟨_, rfl⟩
  have g0 : Rv (In γ.o [0]) w v xs := by rw [hxs]; exact hv.1.1
  have hr : app ([] : List (D 1)) xs = some r := by rw [hxs, hrr]; exact hr0
  subst hrr
  have hT := slr30.2
  refine enter (l := [v]) Tryz.func121 rfl Tryz.ntmps121 rfl ?_
  refine CW.sub (L' := [(0, v)]) ⟨rfl, trivial⟩ ?_
  refine CW.sr fun K1 hK1 => ?_
  refine WL.p (.slice none 0 0) rfl rfl ?_
  refine WL.nx hK1 ?_
  refine CW.seq fun K2 hK2 => ?_
  refine CW.sr fun K3 hK3 => ?_
  refine WL.p v rfl rfl ?_
  obtain ⟨a, m, q, rfl, hn⟩ := rvSlice g0
  refine WL.stepE (OW.isNil slr30.1 rfl) rfl ?_
  refine WL.nx hK3 ?_
  cases a with
  | none =>
    refine CW.cond (b := true) rfl (fun _ => ?_) (fun h => nomatch h)
    refine CW.sr fun K4 hK4 => ?_
    refine WL.p (.slice none 0 0) rfl rfl ?_
    refine WL.nx hK4 ?_
    rw [hn rfl] at hr
    obtain rfl := app_nil hr
    exact CW.rets (vs := [.slice none 0 0]) Tryz.results121 ⟨rfl, trivial⟩ ⟨_, rfl, end_own (n := 1) (e := 4) (q := 1000) (K := []) (M := []) (N := []) rfl rfl rfl (by simp) (by simp) (Evo.refl _ _ γ.o w) (Ow.nil _ _ _ _ _) (fun x hx => by simp at hx <;> omega)⟩ (fun _ _ h => h)
  | some a =>
    refine CW.cond (b := false) rfl (fun h => nomatch h) (fun _ => ?_)
    refine CW.skip ?_
    refine hK2 _ _ ?_
    refine CW.sr fun K5 hK5 => ?_
    refine WL.step (OW.buildSlice (o := γ.o) (k := 1000) (K := []) (xs := ([] : List (D 1))) slr30.1 hT rfl trivial rfl rfl) rfl ?_
    rintro v1 w1 ⟨o1, ev1, h1⟩
    have g0 := g0.evo ev1 rfl
    refine WL.p (.slice (some a) m q) rfl rfl ?_
    refine WL.step (OW.append (K := []) slr30.1 hT rfl rfl h1 (@Els.flat (D 1) _ flat1 _ _ _ _ _ g0.els) hr rfl) rfl ?_
    rintro v2 w2 ⟨o2, ev2, h2⟩
    refine WL.p v2 rfl rfl ?_
    refine WL.nx hK5 ?_
    exact CW.rets (vs := [v2]) Tryz.results121 ⟨rfl, trivial⟩ ⟨_, rfl, end_own (n := 1) (e := 4) (q := 1000) (K := []) (M := [1000]) (N := [1000]) rfl rfl rfl (by simp) (by simp) ((ev1.weaken (by simp) (by simp)).trans ev2) h2 (fun x hx => by simp at hx <;> omega)⟩ (fun _ _ h => h)

noncomputable def slices_Clone_Running_Running (a0 : (List Running)) : Option ((List Running)) := app [] a0
noncomputable def c122 : Con D := ⟨122, [.lf (.sl 9)], [.lf (.sl 9)], [.one (.h 0 [0])], [], [.one (.own 1000)], [(1000, .sl 9 48 0 [])], fun h => slices_Clone_Running_Running h⟩
theorem c122_ok : ConOk Tryz.prog T c122 := by
  refine ⟨Tryz.call122, rfl, rfl, rfl, rfl, fun xs0 r0 hr0 avs obs has hobs γ w vs hv _ => ?_⟩
  cases has
  match vs, hv with
  | [], hv => exact hv.elim
  | _ :: _ :: _, hv => exact hv.2.elim
  | [v], hv =>
  obtain ⟨xs, hxs⟩ : ∃ xs : List (D 9), xs = xs0 := ⟨_, rfl⟩
  obtain ⟨r, hrr⟩ : ∃ r : List (D 9), r = r0 := ⟨_, rfl⟩
  have g0 : Rv (In γ.o [0]) w v xs := by rw [hxs]; exact hv.1.1
  have hr : app ([] : List (D 9)) xs = some r := by rw [hxs, hrr]; exact hr0
  subst hrr
  have hT := slr31.2
  refine enter (l := [v]) Tryz.func122 rfl Tryz.ntmps122 rfl ?_
  refine CW.sub (L' := [(0, v)]) ⟨rfl, trivial⟩ ?_
  refine CW.sr fun K1 hK1 => ?_
  refine WL.p (.slice none 0 0) rfl rfl ?_
  refine WL.nx hK1 ?_
  refine CW.seq fun K2 hK2 => ?_
  refine CW.sr fun K3 hK3 => ?_
  refine WL.p v rfl rfl ?_
  obtain ⟨a, m, q, rfl, hn⟩ := rvSlice g0
  refine WL.stepE (OW.isNil slr31.1 rfl) rfl ?_
  refine WL.nx hK3 ?_
  cases a with
  | none =>
    refine CW.cond (b := true) rfl (fun _ => ?_) (fun h => nomatch h)
    refine CW.sr fun K4 hK4 => ?_
    refine WL.p (.slice none 0 0) rfl rfl ?_
    refine WL.nx hK4 ?_
    rw [hn rfl] at hr
    obtain rfl := app_nil hr
    exact CW.rets (vs := [.slice none 0 0]) Tryz.results122 ⟨rfl, trivial⟩ ⟨_, rfl, end_own (n := 9) (e := 48) (q := 1000) (K := []) (M := []) (N := []) rfl rfl rfl (by simp) (by simp) (Evo.refl _ _ γ.o w) (Ow.nil _ _ _ _ _) (fun x hx => by simp at hx <;> omega)⟩ (fun _ _ h => h)
  | some a =>
    refine CW.cond (b := false) rfl (fun h => nomatch h) (fun _ => ?_)
    refine CW.skip ?_
    refine hK2 _ _ ?_
    refine CW.sr fun K5 hK5 => ?_
    refine WL.step (OW.buildSlice (o := γ.o) (k := 1000) (K := []) (xs := ([] : List (D 9))) slr31.1 hT rfl trivial rfl rfl) rfl ?_
    rintro v1 w1 ⟨o1, ev1, h1⟩
    have g0 := g0.evo ev1 rfl
    refine WL.p (.slice (some a) m q) rfl rfl ?_
    refine WL.step (OW.append (K := []) slr31.1 hT rfl rfl h1 (@Els.flat (D 9) _ flat9 _ _ _ _ _ g0.els) hr rfl) rfl ?_
    rintro v2 w2 ⟨o2, ev2, h2⟩
    refine WL.p v2 rfl rfl ?_
    refine WL.nx hK5 ?_
    exact CW.rets (vs := [v2]) Tryz.results122 ⟨rfl, trivial⟩ ⟨_, rfl, end_own (n := 9) (e := 48) (q := 1000) (K := []) (M := [1000]) (N := [1000]) rfl rfl rfl (by simp) (by simp) ((ev1.weaken (by simp) (by simp)).trans ev2) h2 (fun x hx => by simp at hx <;> omega)⟩ (fun _ _ h => h)

noncomputable def slices_Clone_int_int (a0 : (List Int)) : Option ((List Int)) := app [] a0
noncomputable def c75 : Con D := ⟨75, [.lf (.sl 0)], [.lf (.sl 0)], [.one (.h 0 [0])], [], [.one (.own 1000)], [(1000, .sl 0 3 0 [])], fun h => slices_Clone_int_int h⟩
theorem c75_ok : ConOk Tryz.prog T c75 := by
  refine ⟨Tryz.call75, rfl, rfl, rfl, rfl, fun xs0 r0 hr0 avs obs has hobs γ w vs hv _ => ?_⟩
  cases has
  match vs, hv with
  | [], hv => exact hv.elim
  | _ :: _ :: _, hv => exact hv.2.elim
  | [v], hv =>
  obtain ⟨xs, hxs⟩ : ∃ xs : List (D 0), xs = xs0 := ⟨_, rfl⟩
  obtain ⟨r, hrr⟩ : ∃ r : List (D 0), r = r0 := ⟨_, rfl⟩
  have g0 : Rv (In γ.o [0]) w v xs := by rw [hxs]; exact hv.1.1
  have hr : app ([] : List (D 0)) xs = some r := by rw [hxs, hrr]; exact hr0
  subst hrr
  have hT := slr22.2
  refine enter (l := [v]) Tryz.func75 rfl Tryz.ntmps75 rfl ?_
  refine CW.sub (L' := [(0, v)]) ⟨rfl, trivial⟩ ?_
  refine CW.sr fun K1 hK1 => ?_
  refine WL.p (.slice none 0 0) rfl rfl ?_
  refine WL.nx hK1 ?_
  refine CW.seq fun K2 hK2 => ?_
  refine CW.sr fun K3 hK3 => ?_
  refine WL.p v rfl rfl ?_
  obtain ⟨a, m, q, rfl, hn⟩ := rvSlice g0
  refine WL.stepE (OW.isNil slr22.1 rfl) rfl ?_
  refine WL.nx hK3 ?_
  cases a with
  | none =>
    refine CW.cond (b := true) rfl (fun _ => ?_) (fun h => nomatch h)
    refine CW.sr fun K4 hK4 => ?_
    refine WL.p (.slice none 0 0) rfl rfl ?_
    refine WL.nx hK4 ?_
    rw [hn rfl] at hr
    obtain rfl := app_nil hr
    exact CW.rets (vs := [.slice none 0 0]) Tryz.results75 ⟨rfl, trivial⟩ ⟨_, rfl, end_own (n := 0) (e := 3) (q := 1000) (K := []) (M := []) (N := []) rfl rfl rfl (by simp) (by simp) (Evo.refl _ _ γ.o w) (Ow.nil _ _ _ _ _) (fun x hx => by simp at hx <;> omega)⟩ (fun _ _ h => h)
  | some a =>
    refine CW.cond (b := false) rfl (fun h => nomatch h) (fun _ => ?_)
    refine CW.skip ?_
    refine hK2 _ _ ?_
    refine CW.sr fun K5 hK5 => ?_
    refine WL.step (OW.buildSlice (o := γ.o) (k := 1000) (K := []) (xs := ([] : List (D 0))) slr22.1 hT rfl trivial rfl rfl) rfl ?_
    rintro v1 w1 ⟨o1, ev1, h1⟩
    have g0 := g0.evo ev1 rfl
    refine WL.p (.slice (some a) m q) rfl rfl ?_
    refine WL.step (OW.append (K := []) slr22.1 hT rfl rfl h1 (@Els.flat (D 0) _ flat0 _ _ _ _ _ g0.els) hr rfl) rfl ?_
    rintro v2 w2 ⟨o2, ev2, h2⟩
    refine WL.p v2 rfl rfl ?_
    refine WL.nx hK5 ?_
    exact CW.rets (vs := [v2]) Tryz.results75 ⟨rfl, trivial⟩ ⟨_, rfl, end_own (n := 0) (e := 3) (q := 1000) (K := []) (M := [1000]) (N := [1000]) rfl rfl rfl (by simp) (by simp) ((ev1.weaken (by simp) (by simp)).trans ev2) h2 (fun x hx => by simp at hx <;> omega)⟩ (fun _ _ h => h)

noncomputable def slices_Clone_Part_Part (a0 : (List Part)) : Option ((List Part)) := app [] a0
noncomputable def c123 : Con D := ⟨123, [.lf (.sl 10)], [.lf (.sl 10)], [.one (.h 0 [0])], [], [.one (.own 1000)], [(1000, .sl 10 84 0 [])], fun h => slices_Clone_Part_Part h⟩
theorem c123_ok : ConOk Tryz.prog T c123 := by
  refine ⟨Tryz.call123, rfl, rfl, rfl, rfl, fun xs0 r0 hr0 avs obs has hobs γ w vs hv _ => ?_⟩
  cases has
  match vs, hv with
  | [], hv => exact hv.elim
  | _ :: _ :: _, hv => exact hv.2.elim
  | [v], hv =>
  obtain ⟨xs, hxs⟩ : ∃ xs : List (D 10), xs = xs0 := ⟨_, rfl⟩
  obtain ⟨r, hrr⟩ : ∃ r : List (D 10), r = r0 := ⟨_, rfl⟩
  have g0 : Rv (In γ.o [0]) w v xs := by rw [hxs]; exact hv.1.1
  have hr : app ([] : List (D 10)) xs = some r := by rw [hxs, hrr]; exact hr0
  subst hrr
  have hT := slr32.2
  refine enter (l := [v]) Tryz.func123 rfl Tryz.ntmps123 rfl ?_
  refine CW.sub (L' := [(0, v)]) ⟨rfl, trivial⟩ ?_
  refine CW.sr fun K1 hK1 => ?_
  refine WL.p (.slice none 0 0) rfl rfl ?_
  refine WL.nx hK1 ?_
  refine CW.seq fun K2 hK2 => ?_
  refine CW.sr fun K3 hK3 => ?_
  refine WL.p v rfl rfl ?_
  obtain ⟨a, m, q, rfl, hn⟩ := rvSlice g0
  refine WL.stepE (OW.isNil slr32.1 rfl) rfl ?_
  refine WL.nx hK3 ?_
  cases a with
  | none =>
    refine CW.cond (b := true) rfl (fun _ => ?_) (fun h => nomatch h)
    refine CW.sr fun K4 hK4 => ?_
    refine WL.p (.slice none 0 0) rfl rfl ?_
    refine WL.nx hK4 ?_
    rw [hn rfl] at hr
    obtain rfl := app_nil hr
    exact CW.rets (vs := [.slice none 0 0]) Tryz.results123 ⟨rfl, trivial⟩ ⟨_, rfl, end_own (n := 10) (e := 84) (q := 1000) (K := []) (M := []) (N := []) rfl rfl rfl (by simp) (by simp) (Evo.refl _ _ γ.o w) (Ow.nil _ _ _ _ _) (fun x hx => by simp at hx <;> omega)⟩ (fun _ _ h => h)
  | some a =>
    refine CW.cond (b := false) rfl (fun h => nomatch h) (fun _ => ?_)
    refine CW.skip ?_
    refine hK2 _ _ ?_
    refine CW.sr fun K5 hK5 => ?_
    refine WL.step (OW.buildSlice (o := γ.o) (k := 1000) (K := []) (xs := ([] : List (D 10))) slr32.1 hT rfl trivial rfl rfl) rfl ?_
    rintro v1 w1 ⟨o1, ev1, h1⟩
    have g0 := g0.evo ev1 rfl
    refine WL.p (.slice (some a) m q) rfl rfl ?_
    refine WL.step (OW.append (K := []) slr32.1 hT rfl rfl h1 (@Els.flat (D 10) _ flat10 _ _ _ _ _ g0.els) hr rfl) rfl ?_
    rintro v2 w2 ⟨o2, ev2, h2⟩
    refine WL.p v2 rfl rfl ?_
    refine WL.nx hK5 ?_
    exact CW.rets (vs := [v2]) Tryz.results123 ⟨rfl, trivial⟩ ⟨_, rfl, end_own (n := 10) (e := 84) (q := 1000) (K := []) (M := [1000]) (N := [1000]) rfl rfl rfl (by simp) (by simp) ((ev1.weaken (by simp) (by simp)).trans ev2) h2 (fun x hx => by simp at hx <;> omega)⟩ (fun _ _ h => h)

noncomputable def states_Clone (a0 : Power) : Option ((List Bool) × (List Running) × (List Int) × (List Part)) :=
  Option.bind (slices_Clone_bool_bool a0.Closed) fun x1 =>
    Option.bind (slices_Clone_Running_Running a0.Sources) fun x2 =>
      Option.bind (slices_Clone_int_int a0.Limits) fun x3 =>
        Option.bind (slices_Clone_Part_Part a0.Broken) fun x4 => some (x1, x2, x3, x4)
noncomputable def c80 : Con D := ⟨80, [.lf (.sl 1), .lf (.sl 9), .lf (.sl 0), .lf (.sl 10)], [.lf (.sl 1), .lf (.sl 9), .lf (.sl 0), .lf (.sl 10)], [.agg [.h 0 [0], .h 1 [0], .h 2 [0], .h 3 [0]]], [], [.agg [.own 1000, .own 1001, .own 1002, .own 1003]], [(1000, .sl 1 4 0 []), (1001, .sl 9 48 1 []), (1002, .sl 0 3 2 []), (1003, .sl 10 84 3 [])], fun h => states_Clone ⟨h.1, h.2.1, h.2.2.1, h.2.2.2⟩⟩
theorem c80_ok : ConOk Tryz.prog T c80 := fn_ok (Φ := [c75, c121, c122, c123]) (rs := [.cell 2 34]) (an := .o) pOk repOk (AllC.mem (⟨c75_ok, c121_ok, c122_ok, c123_ok, trivial⟩ : AllC _ _ [c75, c121, c122, c123])) hmix Tryz.call80 Tryz.func80 rfl rfl (by kernel_rfl) (fun h => by kernel_rfl)

noncomputable def sync_set_L1 (a1 : List
  Int) (a2 : Running) : Int × List Running →
  Option
    (Int × List Running ⊕
      List
        Running) := fun x1 =>
  if decide (x1.1 < len a1) = true then
    Option.bind (idx a1 x1.1) fun x2 =>
      Option.bind (idx x1.2 x2) fun x3 =>
        Option.bind (idx x1.2 x2) fun x4 =>
          Option.bind (setO x1.2 x2 (Running.mk x4.State x4.Since a2.Frequency x4.Phase)) fun x5 =>
            Option.bind (idx x5 x2) fun x6 =>
              Option.bind (idx x5 x2) fun x7 =>
                Option.bind (setO x5 x2 (Running.mk x7.State x7.Since x7.Frequency a2.Phase)) fun x8 =>
                  some (.inl (W (x1.1 + 1), x8))
  else some (.inr x1.2)
noncomputable def sync_set (a0 : Power) (a1 : (List Int)) (a2 : Running) : Option ((List Running)) := Option.bind (loopO (sync_set_L1 a1 a2) (0, a0.Sources)) fun x9 => some x9
noncomputable def c126 : Con D := ⟨126, [.lf (.sl 1), .lf (.sl 9), .lf (.sl 0), .lf (.sl 10), .lf (.sl 0), .lf (.int .i64), .lf (.int .i64), .lf (.int .i64), .lf (.int .i64)], [.lf (.sl 9)], [.agg [.h 0 [0], .own 1000, .h 2 [0], .h 3 [0]], .one (.h 4 [0]), .agg [.h 5 [], .h 6 [], .h 7 [], .h 8 []]], [(1000, .sl 9 48 1 [])], [], [(1000, .sl 9 48 0 [])], fun h => sync_set ⟨h.1, h.2.1, h.2.2.1, h.2.2.2.1⟩ h.2.2.2.2.1 ⟨h.2.2.2.2.2.1, h.2.2.2.2.2.2.1, h.2.2.2.2.2.2.2.1, h.2.2.2.2.2.2.2.2⟩⟩
theorem c126_ok : ConOk Tryz.prog T c126 := fn_ok (Φ := []) (rs := []) (an := (.n none .o (.n none .o (.n none (.loop ⟨[.lf (.int .i64), .lf (.sl 9)], [(10, .one (.h 0 []))], [(1000, .sl 9 48 1 [])], [1000], 2384⟩ true [(.exit 0, ⟨[.lf (.sl 9)], [], [(1000, .sl 9 48 0 [])], [1000], 2384⟩)] .o) .o)))) pOk repOk (AllC.mem (l := []) trivial) hmix Tryz.call126 Tryz.func126 rfl rfl (by kernel_rfl) (fun h => by kernel_rfl)

noncomputable def sync_Follow_L1 (a1 : Power) (x2 : List Bool ×
  List Running ×
    List Int ×
      List
        Part) (x3 : List
  Island) : Int × List Running →
  Option
    (Int × List Running ⊕
      List
        Running) := fun x4 =>
  if decide (x4.1 < len x3) = true then
    Option.bind (idx x3 x4.1) fun x5 =>
      Option.bind
        (if decide (len x5.Sources > 0) = true then
          Option.bind (idx x5.Sources 0) fun x6 =>
            Option.bind (idx a1.Sources x6) fun x7 =>
              Option.bind (sync_set (Power.mk x2.1 x4.2 x2.2.2.1 x2.2.2.2) x5.Sources x7) fun x8 =>
                some x8
        else some x4.2)
        fun x9 => some (.inl (W (x4.1 + 1), x9))
  else some (.inr x4.2)
noncomputable def sync_Follow (a0 : Board) (a1 : Power) : Option (Int × (List Bool) × (List Running) × (List Int) × (List Part)) :=
  Option.bind (board_State a0 a1) fun x1 =>
    if (x1 != 0) = true then some (x1, [], [], [], [])
    else
      Option.bind (states_Clone a1) fun x2 =>
        Option.bind (board_Islands a0 a1) fun x3 =>
          Option.bind (loopO (sync_Follow_L1 a1 x2 x3) (0, x2.2.1)) fun x10 =>
            some (0, x2.1, x10, x2.2.2.1, x2.2.2.2)
noncomputable def c84 : Con D := ⟨84, [.lf (.int .i64), .lf (.sl 5), .lf (.sl 6), .lf (.sl 7), .lf (.int .i64), .lf (.int .i64), .lf (.sl 1), .lf (.sl 9), .lf (.sl 0), .lf (.sl 10)], [.lf (.int .i64), .lf (.sl 1), .lf (.sl 9), .lf (.sl 0), .lf (.sl 10)], [.agg [.h 0 [], .h 1 [0], .h 2 [0], .h 3 [0], .h 4 [], .h 5 []], .agg [.h 6 [0], .h 7 [0], .h 8 [0], .h 9 [0]]], [], [.agg [.own 1000, .own 1001, .own 1002, .own 1003], .one (.h 0 [])], [(1000, .sl 1 4 1 []), (1001, .sl 9 48 2 []), (1002, .sl 0 3 3 []), (1003, .sl 10 84 4 [])], fun h => sync_Follow ⟨h.1, h.2.1, h.2.2.1, h.2.2.2.1, h.2.2.2.2.1, h.2.2.2.2.2.1⟩ ⟨h.2.2.2.2.2.2.1, h.2.2.2.2.2.2.2.1, h.2.2.2.2.2.2.2.2.1, h.2.2.2.2.2.2.2.2.2⟩⟩
theorem c84_ok : ConOk Tryz.prog T c84 := fn_ok (Φ := [c70, c73, c80, c126]) (rs := [.cell 4 34, .tmp 5]) (an := (.n none .o (.n none .o (.n none .o (.n none (.n none .o (.n none (.loop ⟨[.lf (.int .i64), .lf (.sl 9)], [(23, .one (.h 0 []))], [(2713, .sl 9 48 1 [])], [2713], 3280⟩ true [(.exit 0, ⟨[.lf (.sl 9)], [], [(2713, .sl 9 48 0 [])], [2713], 3280⟩)] (.n none .o (.n none .o (.n none (.n none (.n none .o (.n none .o (.n (some (true, [(.normal, ⟨[.lf (.sl 9)], [], [(2713, .sl 9 48 0 [])], [2713], 3922⟩)])) .o .o))) .o) .o)))) .o)) .o))))) pOk repOk (AllC.mem (⟨c70_ok, c73_ok, c80_ok, c126_ok, trivial⟩ : AllC _ _ [c70, c73, c80, c126])) hmix Tryz.call84 Tryz.func84 rfl rfl (by kernel_rfl) (fun h => by kernel_rfl)

noncomputable def shed_Order_1 (a0 : Int) (a1 : Int) (a2 : Board) : Option (Int) :=
  Option.bind (idx a2.Consumers a0) fun x1 =>
    Option.bind (idx a2.Consumers a1) fun x2 =>
      Option.bind (cmp_Compare_int x1.Preference x2.Preference) fun x3 => some x3
noncomputable def c58 : Con D := ⟨58, [.lf (.int .i64), .lf (.int .i64), .el 4], [.lf (.int .i64)], [.one (.h 0 []), .one (.h 1 []), .one (.rp 2 4 [0])], [], [.one (.h 0 [])], [], fun h => shed_Order_1 h.1 h.2.1 h.2.2⟩
theorem c58_ok : ConOk Tryz.prog T c58 := fn_ok (Φ := [c59]) (rs := [.tmp 5]) (an := .o) pOk repOk (AllC.mem (⟨c59_ok, trivial⟩ : AllC _ _ [c59])) hmix Tryz.call58 Tryz.func58 rfl rfl (by kernel_rfl) (fun h => by kernel_rfl)

noncomputable def slices_insertionSortCmpFunc_int_L2 (a1 : Int) (a3 : Board) : Int × List Int →
  Option
    (Int × List Int ⊕
      List
        Int) := fun x2 =>
  Option.bind
    (if decide (x2.1 > a1) = true then
      Option.bind (idx x2.2 x2.1) fun x3 =>
        Option.bind (idx x2.2 (W (x2.1 - 1))) fun x4 =>
          Option.bind (shed_Order_1 x3 x4 a3) fun x5 => some (decide (x5 < 0))
    else some false)
    fun x6 =>
    if x6 = true then
      Option.bind (idx x2.2 (W (x2.1 - 1))) fun x7 =>
        Option.bind (idx x2.2 x2.1) fun x8 =>
          Option.bind (idx x2.2 x2.1) fun x9 =>
            Option.bind (idx x2.2 x2.1) fun x10 =>
              Option.bind (setO x2.2 x2.1 x7) fun x11 =>
                Option.bind (idx x11 (W (x2.1 - 1))) fun x12 =>
                  Option.bind (idx x11 (W (x2.1 - 1))) fun x13 =>
                    Option.bind (setO x11 (W (x2.1 - 1)) x8) fun x14 =>
                      some (.inl (W (x2.1 - 1), x14))
    else some (.inr x2.2)
noncomputable def slices_insertionSortCmpFunc_int_L1 (a1 : Int) (a2 : Int) (a3 : Board) : Int × List Int →
  Option
    (Int × List Int ⊕
      List
        Int) := fun x1 =>
  if decide (x1.1 < a2) = true then
    Option.bind (loopO (slices_insertionSortCmpFunc_int_L2 a1 a3) (x1.1, x1.2)) fun x15 =>
      some (.inl (W (x1.1 + 1), x15))
  else some (.inr x1.2)
noncomputable def slices_insertionSortCmpFunc_int (a0 : (List Int)) (a1 : Int) (a2 : Int) (a3 : Board) : Option ((List Int)) :=
  Option.bind (loopO (slices_insertionSortCmpFunc_int_L1 a1 a2 a3) (W (a1 + 1), a0)) fun x16 => some x16
noncomputable def c131 : Con D := ⟨131, [.lf (.sl 0), .lf (.int .i64), .lf (.int .i64), .el 4], [.lf (.sl 0)], [.one (.own 1000), .one (.h 1 []), .one (.h 2 []), .one (.fn 58 [.rp 3 4 [0]])], [(1000, .sl 0 3 0 [])], [], [(1000, .sl 0 3 0 [])], fun h => slices_insertionSortCmpFunc_int h.1 h.2.1 h.2.2.1 h.2.2.2⟩
theorem c131_ok : ConOk Tryz.prog T c131 := fn_ok (Φ := [c58]) (rs := []) (an := (.n none .o (.n none (.loop ⟨[.lf (.int .i64), .lf (.sl 0)], [(8, .one (.h 0 []))], [(1000, .sl 0 3 1 [])], [1000], 2256⟩ true [(.exit 0, ⟨[.lf (.sl 0)], [], [(1000, .sl 0 3 0 [])], [1000], 2256⟩)] (.n none .o (.n none (.n none (.n none .o (.n none (.loop ⟨[.lf (.int .i64), .lf (.sl 0)], [(9, .one (.h 0 []))], [(1000, .sl 0 3 1 [])], [1000], 2642⟩ true [(.exit 2, ⟨[.lf (.sl 0)], [(22, .one (.any)), (23, .one (.any)), (24, .one (.any)), (25, .one (.any)), (26, .one (.any)), (27, .one (.any)), (28, .one (.any)), (29, .one (.any)), (30, .one (.any)), (31, .one (.any)), (32, .one (.any)), (33, .one (.any))], [(1000, .sl 0 3 0 [])], [1000], 2642⟩)] (.n none (.n none (.r (some (true, [(.normal, ⟨[.lf .bool], [(22, .one (.any)), (23, .one (.any)), (24, .one (.any)), (25, .one (.any)), (26, .one (.any)), (27, .one (.any)), (28, .one (.any)), (29, .one (.any)), (30, .one (.any)), (31, .one (.any)), (32, .one (.any)), (33, .one (.any)), (34, .one (.h 0 []))], [], [], 2708⟩)])) .nil) .o) .o)) .o)) .o) .o))) .o))) pOk repOk (AllC.mem (⟨c58_ok, trivial⟩ : AllC _ _ [c58])) hmix Tryz.call131 Tryz.func131 rfl rfl (by kernel_rfl) (fun h => by kernel_rfl)

def c132 : Con D := ⟨132, [.lf (.sl 0), .lf (.int .i64), .lf (.int .i64), .lf (.int .i64), .el 4], [], [.one (.h 0 [0]), .one (.h 1 []), .one (.h 2 []), .one (.h 3 []), .one (.fn 58 [.rp 4 4 [0]])], [], [], [], fun h => none⟩
theorem c132_ok : ConOk Tryz.prog T c132 := none_ok Tryz.call132 rfl (fun h => rfl)

noncomputable def slices_stableCmpFunc_int_L1 (a1 : Int) (a2 : Board) : Int × Int × List Int →
  Option
    (Int × Int × List Int ⊕
      Int ×
        List
          Int) := fun x1 =>
  if decide (x1.2.1 ≤ a1) = true then
    Option.bind (slices_insertionSortCmpFunc_int x1.2.2 x1.1 x1.2.1 a2) fun x2 =>
      some (.inl (x1.2.1, W (x1.2.1 + 20), x2))
  else some (.inr (x1.1, x1.2.2))
noncomputable def slices_stableCmpFunc_int_L3 (a1 : Int) : Int × Int →
  Option (Int × Int ⊕ Int) := fun x6 => if decide (x6.2 ≤ a1) = true then none else some (.inr x6.1)
noncomputable def slices_stableCmpFunc_int_L2 (a1 : Int) : Int →
  Option
    (Int ⊕
      Unit) := fun x5 =>
  if decide (x5 < a1) = true then
    Option.bind (loopO (slices_stableCmpFunc_int_L3 a1) (0, W (2 * x5))) fun x8 =>
      Option.bind (if decide (W (x8 + x5) < a1) = true then none else some ()) fun x10 =>
        some (.inl (W (x5 * 2)))
  else some (.inr ())
noncomputable def slices_stableCmpFunc_int (a0 : (List Int)) (a1 : Int) (a2 : Board) : Option ((List Int)) :=
  Option.bind (loopO (slices_stableCmpFunc_int_L1 a1 a2) (0, 20, a0)) fun x3 =>
    Option.bind (slices_insertionSortCmpFunc_int x3.2 x3.1 a1 a2) fun x4 =>
      Option.bind (loopO (slices_stableCmpFunc_int_L2 a1) 20) fun x11 => some x4
noncomputable def c98 : Con D := ⟨98, [.lf (.sl 0), .lf (.int .i64), .el 4], [.lf (.sl 0)], [.one (.own 1000), .one (.h 1 []), .one (.fn 58 [.rp 2 4 [0]])], [(1000, .sl 0 3 0 [])], [], [(1000, .sl 0 3 0 [])], fun h => slices_stableCmpFunc_int h.1 h.2.1 h.2.2⟩
theorem c98_ok : ConOk Tryz.prog T c98 := fn_ok (Φ := [c131, c132]) (rs := []) (an := (.n none .o (.n none .o (.n none (.n none (.loop ⟨[.lf (.int .i64), .lf (.int .i64), .lf (.sl 0)], [(7, .one (.h 0 [])), (8, .one (.h 1 []))], [(1000, .sl 0 3 2 [])], [1000], 2320⟩ true [(.exit 0, ⟨[.lf (.int .i64), .lf (.sl 0)], [(7, .one (.h 0 []))], [(1000, .sl 0 3 1 [])], [1000], 2320⟩)] .o) .o) (.n none .o (.n none (.loop ⟨[.lf (.int .i64)], [(6, .one (.h 0 []))], [], [], 2706⟩ true [(.exit 2, ⟨[], [], [], [], 2706⟩)] (.n none .o (.n none (.n none .o (.n none (.n none (.loop ⟨[.lf (.int .i64), .lf (.int .i64)], [(7, .one (.h 0 [])), (8, .one (.h 1 []))], [], [], 3219⟩ true [(.exit 4, ⟨[.lf (.int .i64)], [(7, .one (.h 0 []))], [], [], 3219⟩)] .o) .o) (.n none (.n none .o (.n none .o (.n (some (true, [(.normal, ⟨[], [], [], [], 3732⟩)])) .o .o))) .o))) .o))) .o)))))) pOk repOk (AllC.mem (⟨c131_ok, c132_ok, trivial⟩ : AllC _ _ [c131, c132])) hmix Tryz.call98 Tryz.func98 rfl rfl (by kernel_rfl) (fun h => by kernel_rfl)

noncomputable def slices_SortStableFunc_int_int (a0 : (List Int)) (a1 : Board) : Option ((List Int)) := Option.bind (slices_stableCmpFunc_int a0 (len a0) a1) fun x1 => some x1
noncomputable def c57 : Con D := ⟨57, [.lf (.sl 0), .el 4], [.lf (.sl 0)], [.one (.own 1000), .one (.fn 58 [.rp 1 4 [0]])], [(1000, .sl 0 3 0 [])], [], [(1000, .sl 0 3 0 [])], fun h => slices_SortStableFunc_int_int h.1 h.2⟩
theorem c57_ok : ConOk Tryz.prog T c57 := fn_ok (Φ := [c98]) (rs := []) (an := .o) pOk repOk (AllC.mem (⟨c98_ok, trivial⟩ : AllC _ _ [c98])) hmix Tryz.call57 Tryz.func57 rfl rfl (by kernel_rfl) (fun h => by kernel_rfl)

noncomputable def shed_Order_L1 (a0 : Board) : Int × List Int →
  Option
    (Int × List Int ⊕
      List
        Int) := fun x2 =>
  if decide (x2.1 < len a0.Consumers) = true then
    Option.bind (app x2.2 [x2.1]) fun x3 => some (.inl (W (x2.1 + 1), x3))
  else some (.inr x2.2)
noncomputable def shed_Order (a0 : Board) : Option ((List Int)) :=
  Option.bind (board_Check a0) fun x1 =>
    if (x1 != 0) = true then some []
    else
      Option.bind (loopO (shed_Order_L1 a0) (0, [])) fun x4 =>
        Option.bind (slices_SortStableFunc_int_int x4 a0) fun x5 => some x5
noncomputable def c24 : Con D := ⟨24, [.lf (.int .i64), .lf (.sl 5), .lf (.sl 6), .lf (.sl 7), .lf (.int .i64), .lf (.int .i64)], [.lf (.sl 0)], [.agg [.h 0 [], .h 1 [0], .h 2 [0], .h 3 [0], .h 4 [], .h 5 []]], [], [.one (.own 1000)], [(1000, .sl 0 3 0 [])], fun h => shed_Order ⟨h.1, h.2.1, h.2.2.1, h.2.2.2.1, h.2.2.2.2.1, h.2.2.2.2.2⟩⟩
theorem c24_ok : ConOk Tryz.prog T c24 := fn_ok (Φ := [c56, c57]) (rs := [.tmp 2]) (an := (.n none .o (.n none .o (.n none .o (.n none (.n none .o (.n none (.loop ⟨[.lf (.int .i64), .lf (.sl 0)], [(3, .one (.own 2640)), (11, .one (.h 0 []))], [(2640, .sl 0 3 1 [])], [], 2704⟩ true [(.exit 0, ⟨[.lf (.sl 0)], [(3, .one (.own 2640))], [(2640, .sl 0 3 0 [])], [], 2704⟩)] .o) .o)) .o))))) pOk repOk (AllC.mem (⟨c56_ok, c57_ok, trivial⟩ : AllC _ _ [c56, c57])) hmix Tryz.call24 Tryz.func24 rfl rfl (by kernel_rfl) (fun h => by kernel_rfl)

noncomputable def shed_relief__shed_1 (a0 : Int) (a1 : Island) : Option (Bool) := Option.bind (slices_Contains_int_int a1.Consumers a0) fun x1 => some !x1
noncomputable def c87 : Con D := ⟨87, [.lf (.int .i64), .el 13], [.lf .bool], [.one (.h 0 []), .one (.rp 1 13 [0])], [], [.one (.h 0 [])], [], fun h => shed_relief__shed_1 h.1 h.2⟩
theorem c87_ok : ConOk Tryz.prog T c87 := fn_ok (Φ := [c77]) (rs := [.tmp 3]) (an := .o) pOk repOk (AllC.mem (⟨c77_ok, trivial⟩ : AllC _ _ [c77])) hmix Tryz.call87 Tryz.func87 rfl rfl (by kernel_rfl) (fun h => by kernel_rfl)

noncomputable def balance_Load_L1 (a1 : Power) (x1 : List Int ×
  List Int ×
    List Int ×
      Bool) : Int × Int →
  Option
    (Int × Int ⊕
      Int) := fun x2 =>
  if decide (x2.2 < len x1.2.2.1) = true then
    Option.bind (idx x1.2.2.1 x2.2) fun x3 =>
      Option.bind
        (if decide (len x1.2.1 > 0) = true then
          Option.bind (idx a1.Limits x3) fun x4 => some (W (x2.1 + x4))
        else some x2.1)
        fun x5 => some (.inl (x5, W (x2.2 + 1)))
  else some (.inr x2.1)
noncomputable def balance_Load (a0 : Board) (a1 : Power) (a2 : Int) : Option (Int) :=
  Option.bind (board_Of a0 a1 a2) fun x1 =>
    Option.bind (loopO (balance_Load_L1 a1 x1) (0, 0)) fun x6 => some x6
noncomputable def c111 : Con D := ⟨111, [.lf (.int .i64), .lf (.sl 5), .lf (.sl 6), .lf (.sl 7), .lf (.int .i64), .lf (.int .i64), .lf (.sl 1), .lf (.sl 9), .lf (.sl 0), .lf (.sl 10), .lf (.int .i64)], [.lf (.int .i64)], [.agg [.h 0 [], .h 1 [0], .h 2 [0], .h 3 [0], .h 4 [], .h 5 []], .agg [.h 6 [0], .h 7 [0], .h 8 [0], .h 9 [0]], .one (.h 10 [])], [], [.one (.h 0 [])], [], fun h => balance_Load ⟨h.1, h.2.1, h.2.2.1, h.2.2.2.1, h.2.2.2.2.1, h.2.2.2.2.2.1⟩ ⟨h.2.2.2.2.2.2.1, h.2.2.2.2.2.2.2.1, h.2.2.2.2.2.2.2.2.1, h.2.2.2.2.2.2.2.2.2.1⟩ h.2.2.2.2.2.2.2.2.2.2⟩
theorem c111_ok : ConOk Tryz.prog T c111 := fn_ok (Φ := [c101]) (rs := [.tmp 6]) (an := (.n none .o (.n none .o (.n none .o (.n none (.n none .o (.n none (.loop ⟨[.lf (.int .i64), .lf (.int .i64)], [(9, .one (.h 0 [])), (22, .one (.h 1 []))], [], [], 3216⟩ true [(.exit 0, ⟨[.lf (.int .i64)], [(9, .one (.h 0 []))], [], [], 3216⟩)] (.n none .o (.n none .o (.n none (.n none (.n none .o (.n none .o (.n (some (true, [(.normal, ⟨[.lf (.int .i64)], [(9, .one (.h 0 []))], [], [], 3794⟩)])) .o .o))) .o) .o)))) .o)) .o))))) pOk repOk (AllC.mem (⟨c101_ok, trivial⟩ : AllC _ _ [c101])) hmix Tryz.call111 Tryz.func111 rfl rfl (by kernel_rfl) (fun h => by kernel_rfl)

noncomputable def balance_Rating_L1 (a0 : Board) (x1 : List Int ×
  List Int ×
    List Int ×
      Bool) : Int × Int →
  Option
    (Int × Int ⊕
      Int) := fun x2 =>
  if decide (x2.2 < len x1.2.1) = true then
    Option.bind (idx x1.2.1 x2.2) fun x3 =>
      Option.bind (idx a0.Sources x3) fun x4 => some (.inl (W (x2.1 + x4.Rating), W (x2.2 + 1)))
  else some (.inr x2.1)
noncomputable def balance_Rating (a0 : Board) (a1 : Power) (a2 : Int) : Option (Int) :=
  Option.bind (board_Of a0 a1 a2) fun x1 =>
    Option.bind (loopO (balance_Rating_L1 a0 x1) (0, 0)) fun x5 => some x5
noncomputable def c112 : Con D := ⟨112, [.lf (.int .i64), .lf (.sl 5), .lf (.sl 6), .lf (.sl 7), .lf (.int .i64), .lf (.int .i64), .lf (.sl 1), .lf (.sl 9), .lf (.sl 0), .lf (.sl 10), .lf (.int .i64)], [.lf (.int .i64)], [.agg [.h 0 [], .h 1 [0], .h 2 [0], .h 3 [0], .h 4 [], .h 5 []], .agg [.h 6 [0], .h 7 [0], .h 8 [0], .h 9 [0]], .one (.h 10 [])], [], [.one (.h 0 [])], [], fun h => balance_Rating ⟨h.1, h.2.1, h.2.2.1, h.2.2.2.1, h.2.2.2.2.1, h.2.2.2.2.2.1⟩ ⟨h.2.2.2.2.2.2.1, h.2.2.2.2.2.2.2.1, h.2.2.2.2.2.2.2.2.1, h.2.2.2.2.2.2.2.2.2.1⟩ h.2.2.2.2.2.2.2.2.2.2⟩
theorem c112_ok : ConOk Tryz.prog T c112 := fn_ok (Φ := [c101]) (rs := [.tmp 6]) (an := (.n none .o (.n none .o (.n none .o (.n none (.n none .o (.n none (.loop ⟨[.lf (.int .i64), .lf (.int .i64)], [(9, .one (.h 0 [])), (22, .one (.h 1 []))], [], [], 3216⟩ true [(.exit 0, ⟨[.lf (.int .i64)], [(9, .one (.h 0 []))], [], [], 3216⟩)] .o) .o)) .o))))) pOk repOk (AllC.mem (⟨c101_ok, trivial⟩ : AllC _ _ [c101])) hmix Tryz.call112 Tryz.func112 rfl rfl (by kernel_rfl) (fun h => by kernel_rfl)

noncomputable def relief_excess (a0 : relief) (a1 : Int) : Option (Int) :=
  Option.bind (balance_Load a0.board a0.power a1) fun x1 =>
    Option.bind (balance_Rating a0.board a0.power a1) fun x2 => some (imax 0 (W (x1 - x2)))
noncomputable def c127 : Con D := ⟨127, [.el 12, .lf (.int .i64)], [.lf (.int .i64)], [.one (.rp 0 12 [0]), .one (.h 11 [])], [], [.one (.h 0 [])], [], fun h => relief_excess h.1 h.2⟩
theorem c127_ok : ConOk Tryz.prog T c127 := fn_ok (Φ := [c111, c112]) (rs := [.tmp 4]) (an := .o) pOk repOk (AllC.mem (⟨c111_ok, c112_ok, trivial⟩ : AllC _ _ [c111, c112])) hmix Tryz.call127 Tryz.func127 rfl rfl (by kernel_rfl) (fun h => by kernel_rfl)

noncomputable def shed_relief__trip_1 (a0 : Breaker) (a1 : Int) : Option (Bool) := Option.bind (if (a0.Kind == 3) = true then some (a0.B == a1) else some false) fun x1 => some x1
noncomputable def c128 : Con D := ⟨128, [.lf (.int .i64), .lf (.int .i64), .lf (.int .i64), .el 0], [.lf .bool], [.agg [.h 0 [], .h 1 [], .h 2 []], .one (.rp 3 0 [0])], [], [.one (.h 0 [])], [], fun h => shed_relief__trip_1 ⟨h.1, h.2.1, h.2.2.1⟩ h.2.2.2⟩
theorem c128_ok : ConOk Tryz.prog T c128 := fn_ok (Φ := []) (rs := [.tmp 3]) (an := (.n none .o (.n none (.r (some (true, [(.normal, ⟨[.lf .bool], [(3, .one (.h 0 []))], [], [], 2192⟩)])) .nil) .o))) pOk repOk (AllC.mem (l := []) trivial) hmix Tryz.call128 Tryz.func128 rfl rfl (by kernel_rfl) (fun h => by kernel_rfl)

end Rx
end Go.Proofs.YtfnphdhcgkondaaGreat
