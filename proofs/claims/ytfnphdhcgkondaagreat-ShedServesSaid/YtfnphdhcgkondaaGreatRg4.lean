/- Plain functions, walks. Written by a program (wip/gen). -/
import Derived.Test.YtfnphdhcgkondaaGreatRt
import Derived.Test.YtfnphdhcgkondaaGreatRg1
import Derived.Test.YtfnphdhcgkondaaGreatRg2
import Derived.Test.YtfnphdhcgkondaaGreatRg3
set_option linter.unusedVariables false
set_option maxRecDepth 100000
namespace Go.Proofs.YtfnphdhcgkondaaGreat
open Go Go.RowKit Dp
namespace Rx

noncomputable def dynposref15_State_L1 (a1 : Power) : Int →
  Option
    (Int ⊕
      Unit ⊕
        Int) := fun x3 =>
  if decide (x3 < len a1.Sources) = true then
    Option.bind (idx a1.Sources x3) fun x4 =>
      Option.bind
        (Option.bind (dynposref15_within x4.State 0 3) fun x5 =>
          if (!x5) = true then some true
          else
            Option.bind (dynposref15_within x4.Since 0 2147483648) fun x6 =>
              if (!x6) = true then some true
              else
                Option.bind (dynposref15_within x4.Frequency 0 6000) fun x7 =>
                  if (!x7) = true then some true
                  else Option.bind (dynposref15_within x4.Phase 0 3599) fun x8 => some !x8)
        fun x9 => if x9 = true then some (.inr (.inr 11)) else some (.inl (W (x3 + 1)))
  else some (.inr (.inl ()))
noncomputable def dynposref15_State_L2 (a0 : Board) (a1 : Power) : Int →
  Option
    (Int ⊕
      Unit ⊕
        Int) := fun x12 =>
  if decide (x12 < len a1.Limits) = true then
    Option.bind (idx a1.Limits x12) fun x13 =>
      Option.bind (idx a0.Consumers x12) fun x14 =>
        Option.bind (dynposref15_within x13 0 x14.Load) fun x15 =>
          if (!x15) = true then some (.inr (.inr 11)) else some (.inl (W (x12 + 1)))
  else some (.inr (.inl ()))
noncomputable def dynposref15_State_L3 (a0 : Board) (a1 : Power) : Int →
  Option
    (Int ⊕
      Unit ⊕
        Int) := fun x18 =>
  if decide (x18 < len a1.Broken) = true then
    Option.bind (idx a1.Broken x18) fun x19 =>
      Option.bind
        (Option.bind (dynposref15_Exists a0 x19) fun x20 =>
          if (!x20) = true then some true
          else
            if decide (x18 > 0) = true then
              Option.bind (idx a1.Broken (W (x18 - 1))) fun x21 =>
                Option.bind (dynposref15_Before x21 x19) fun x22 => some !x22
            else some false)
        fun x23 =>
        if x23 = true then some (.inr (.inr 11)) else some (.inl (W (x18 + 1)))
  else some (.inr (.inl ()))
noncomputable def dynposref15_State_L5 (a1 : Power) (x27 : List
  Int) : Int × Int →
  Option
    (Int × Int ⊕
      Int) := fun x28 =>
  if decide (x28.2 < len x27) = true then
    Option.bind (idx x27 x28.2) fun x29 =>
      Option.bind (idx a1.Closed x29) fun x30 =>
        Option.bind (if x30 = true then some (W (x28.1 + 1)) else some x28.1) fun x31 =>
          some (.inl (x31, W (x28.2 + 1)))
  else some (.inr x28.1)
noncomputable def dynposref15_State_L4 (a0 : Board) (a1 : Power) : Int →
  Option
    (Int ⊕
      Unit ⊕
        Int) := fun x26 =>
  if decide (x26 < len a0.Consumers) = true then
    Option.bind (dynposref15_of a0 3 x26) fun x27 =>
      Option.bind (loopO (dynposref15_State_L5 a1 x27) (0, 0)) fun x32 =>
        if decide (x32 > 1) = true then some (.inr (.inr 11))
        else some (.inl (W (x26 + 1)))
  else some (.inr (.inl ()))
noncomputable def dynposref15_State (a0 : Board) (a1 : Power) : Option (Int) :=
  Option.bind (dynposref15_Check a0) fun x1 =>
    if (x1 != 0) = true then some x1
    else
      Option.bind
        (if (len a1.Closed != len a0.Breakers) = true then some true
        else if (len a1.Sources != len a0.Sources) = true then some true else some (len a1.Limits != len a0.Consumers))
        fun x2 =>
        if x2 = true then some 8
        else
          Option.bind (loopO (dynposref15_State_L1 a1) 0) fun x10 =>
            Sum.elim
              (fun x11 =>
                Option.bind (loopO (dynposref15_State_L2 a0 a1) 0) fun x16 =>
                  Sum.elim
                    (fun x17 =>
                      if decide (len a1.Broken > 32) = true then some 11
                      else
                        Option.bind (loopO (dynposref15_State_L3 a0 a1) 0) fun x24 =>
                          Sum.elim
                            (fun x25 =>
                              Option.bind (loopO (dynposref15_State_L4 a0 a1) 0) fun x33 =>
                                Sum.elim (fun x34 => some 0) (fun x35 => some x35) x33)
                            (fun x36 => some x36) x24)
                    (fun x37 => some x37) x16)
              (fun x38 => some x38) x10
noncomputable def c23 : Con D := ⟨23, [.lf (.int .i64), .lf (.sl 5), .lf (.sl 6), .lf (.sl 7), .lf (.int .i64), .lf (.int .i64), .lf (.sl 1), .lf (.sl 9), .lf (.sl 0), .lf (.sl 10)], [.lf (.int .i64)], [.agg [.h 0 [], .h 1 [0], .h 2 [0], .h 3 [0], .h 4 [], .h 5 []], .agg [.h 6 [0], .h 7 [0], .h 8 [0], .h 9 [0]]], [], [.one (.h 0 [])], [], fun h => dynposref15_State ⟨h.1, h.2.1, h.2.2.1, h.2.2.2.1, h.2.2.2.2.1, h.2.2.2.2.2.1⟩ ⟨h.2.2.2.2.2.2.1, h.2.2.2.2.2.2.2.1, h.2.2.2.2.2.2.2.2.1, h.2.2.2.2.2.2.2.2.2⟩⟩
theorem c23_ok : ConOk Tryz.prog T c23 := fn_ok (Φ := [c51, c52, c53, c54, c55]) (rs := [.tmp 4]) (an := (.n none .o (.n none .o (.n none (.n none (.r (some (true, [(.normal, ⟨[.lf .bool], [(45, .one (.h 0 []))], [], [], 2576⟩)])) .nil) .o) (.n none (.n none .o (.n none (.loop ⟨[.lf (.int .i64)], [(49, .one (.h 0 []))], [], [], 2897⟩ false [(.exit 0, ⟨[], [], [], [], 2897⟩)] (.n none .o (.n none .o (.n none (.n none (.n none .o (.n none (.r (some (true, [(.normal, ⟨[.lf .bool], [(58, .one (.any)), (59, .one (.any)), (60, .one (.any)), (61, .one (.any)), (64, .one (.any)), (65, .one (.any)), (66, .one (.any)), (67, .one (.any)), (70, .one (.any)), (71, .one (.any)), (72, .one (.any)), (73, .one (.any)), (74, .one (.h 0 []))], [], [], 3282⟩)])) .nil) .o)) .o) .o)))) .o)) (.n none (.n none .o (.n none (.loop ⟨[.lf (.int .i64)], [(79, .one (.h 0 []))], [], [], 3217⟩ false [(.exit 2, ⟨[], [], [], [], 3217⟩)] .o) .o)) (.n none .o (.n none (.n none .o (.n none (.loop ⟨[.lf (.int .i64)], [(101, .one (.h 0 []))], [], [], 3793⟩ false [(.exit 4, ⟨[], [], [], [], 3793⟩)] (.n none .o (.n none .o (.n none (.n none (.n none .o (.n none (.r (some (true, [(.normal, ⟨[.lf .bool], [(111, .one (.any)), (112, .one (.any)), (113, .one (.any)), (114, .one (.any)), (115, .one (.any)), (116, .one (.any)), (117, .one (.any)), (118, .one (.any)), (119, .one (.any)), (120, .one (.any)), (121, .one (.any)), (122, .one (.any)), (123, .one (.any)), (124, .one (.h 0 []))], [], [], 4306⟩)])) .nil) .o)) .o) .o)))) .o)) (.n none (.n none .o (.n none (.loop ⟨[.lf (.int .i64)], [(129, .one (.h 0 []))], [], [], 4113⟩ false [(.exit 6, ⟨[], [], [], [], 4113⟩)] (.n none .o (.n none .o (.n none (.n none (.n none .o (.n none .o (.n none (.n none .o (.n none (.loop ⟨[.lf (.int .i64), .lf (.int .i64)], [(13, .one (.h 0 [])), (136, .one (.h 1 []))], [], [], 4754⟩ true [(.exit 8, ⟨[.lf (.int .i64)], [(13, .one (.h 0 []))], [], [], 4754⟩)] (.n none .o (.n none .o (.n none (.n none (.n none .o (.n none .o (.n (some (true, [(.normal, ⟨[.lf (.int .i64)], [(13, .one (.h 0 []))], [], [], 5396⟩)])) .o .o))) .o) .o)))) .o)) .o))) .o) .o)))) .o)) .o))))))))) pOk repOk (AllC.mem (⟨c51_ok, c52_ok, c53_ok, c54_ok, c55_ok, trivial⟩ : AllC _ _ [c51, c52, c53, c54, c55])) hmix Tryz.call23 Tryz.func23 rfl rfl (by kernel_rfl) (fun h => by kernel_rfl)

noncomputable def dynposref15_Fed_L1 (a0 : Board) (a1 : Power) (x3 : List
  Int) : Int →
  Option
    (Int ⊕
      Unit ⊕
        Int ×
          Bool) := fun x4 =>
  if decide (x4 < len x3) = true then
    Option.bind (idx x3 x4) fun x5 =>
      Option.bind (idx a1.Closed x5) fun x6 =>
        if x6 = true then Option.bind (idx a0.Breakers x5) fun x7 => some (.inr (.inr (x7.A, true)))
        else some (.inl (W (x4 + 1)))
  else some (.inr (.inl ()))
noncomputable def dynposref15_Fed (a0 : Board) (a1 : Power) (a2 : Int) : Option (Int × Bool) :=
  Option.bind
    (Option.bind (dynposref15_State a0 a1) fun x1 =>
      if (x1 != 0) = true then some true
      else if decide (a2 < 0) = true then some true else some (decide (a2 ≥ len a0.Consumers)))
    fun x2 =>
    if x2 = true then some (0, false)
    else
      Option.bind (dynposref15_of a0 3 a2) fun x3 =>
        Option.bind (loopO (dynposref15_Fed_L1 a0 a1 x3) 0) fun x8 =>
          Sum.elim (fun x9 => some (0, false)) (fun x10 => some x10) x8
noncomputable def c26 : Con D := ⟨26, [.lf (.int .i64), .lf (.sl 5), .lf (.sl 6), .lf (.sl 7), .lf (.int .i64), .lf (.int .i64), .lf (.sl 1), .lf (.sl 9), .lf (.sl 0), .lf (.sl 10), .lf (.int .i64)], [.lf (.int .i64), .lf .bool], [.agg [.h 0 [], .h 1 [0], .h 2 [0], .h 3 [0], .h 4 [], .h 5 []], .agg [.h 6 [0], .h 7 [0], .h 8 [0], .h 9 [0]], .one (.h 10 [])], [], [.one (.h 0 []), .one (.h 1 [])], [], fun h => dynposref15_Fed ⟨h.1, h.2.1, h.2.2.1, h.2.2.2.1, h.2.2.2.2.1, h.2.2.2.2.2.1⟩ ⟨h.2.2.2.2.2.2.1, h.2.2.2.2.2.2.2.1, h.2.2.2.2.2.2.2.2.1, h.2.2.2.2.2.2.2.2.2.1⟩ h.2.2.2.2.2.2.2.2.2.2⟩
theorem c26_ok : ConOk Tryz.prog T c26 := fn_ok (Φ := [c23, c55]) (rs := [.tmp 6, .tmp 7]) (an := (.n none .o (.n none (.n none (.r (some (true, [(.normal, ⟨[.lf .bool], [(24, .one (.h 0 []))], [], [], 2320⟩)])) .nil) .o) (.n none (.n none .o (.n none (.loop ⟨[.lf (.int .i64)], [(29, .one (.h 0 []))], [], [], 2705⟩ false [(.exit 0, ⟨[], [], [], [], 2705⟩)] .o) .o)) .o)))) pOk repOk (AllC.mem (⟨c23_ok, c55_ok, trivial⟩ : AllC _ _ [c23, c55])) hmix Tryz.call26 Tryz.func26 rfl rfl (by kernel_rfl) (fun h => by kernel_rfl)

noncomputable def dynposref15_reach_L2 (a0 : Board) (a1 : Power) : Int × List Bool →
  Option
    (Int × List Bool ⊕
      List
        Bool) := fun x6 =>
  if decide (x6.1 < len a0.Breakers) = true then
    Option.bind (idx a0.Breakers x6.1) fun x7 =>
      Option.bind
        (if (x7.Kind == 1) = true then
          Option.bind (idx a1.Closed x6.1) fun x8 =>
            if x8 = true then
              Option.bind (idx x6.2 x7.A) fun x9 =>
                if x9 = true then some true else Option.bind (idx x6.2 x7.B) fun x10 => some x10
            else some false
        else some false)
        fun x11 =>
        Option.bind
          (if x11 = true then
            Option.bind (idx x6.2 x7.A) fun x12 =>
              Option.bind (idx x6.2 x7.A) fun x13 =>
                Option.bind (setO x6.2 x7.A true) fun x14 =>
                  Option.bind (idx x14 x7.B) fun x15 =>
                    Option.bind (idx x14 x7.B) fun x16 => Option.bind (setO x14 x7.B true) fun x17 => some x17
          else some x6.2)
          fun x18 => some (.inl (W (x6.1 + 1), x18))
  else some (.inr x6.2)
noncomputable def dynposref15_reach_L1 (a0 : Board) (a1 : Power) (x4 : List
  Bool) : Int × List Bool →
  Option
    (Int × List Bool ⊕
      List
        Bool) := fun x5 =>
  if decide (x5.1 < len x4) = true then
    Option.bind (loopO (dynposref15_reach_L2 a0 a1) (0, x5.2)) fun x19 =>
      some (.inl (W (x5.1 + 1), x19))
  else some (.inr x5.2)
noncomputable def dynposref15_reach_L3 (x20 : List
  Bool) : Int × List Int →
  Option
    (Int × List Int ⊕
      List
        Int) := fun x21 =>
  if decide (x21.1 < len x20) = true then
    Option.bind (idx x20 x21.1) fun x22 =>
      Option.bind (if x22 = true then Option.bind (app x21.2 [x21.1]) fun x23 => some x23 else some x21.2)
        fun x24 => some (.inl (W (x21.1 + 1), x24))
  else some (.inr x21.2)
noncomputable def dynposref15_reach (a0 : Board) (a1 : Power) (a2 : Int) : Option ((List Int)) :=
  Option.bind (mkZ false a0.Buses) fun x1 =>
    Option.bind (idx x1 a2) fun x2 =>
      Option.bind (idx x1 a2) fun x3 =>
        Option.bind (setO x1 a2 true) fun x4 =>
          Option.bind (loopO (dynposref15_reach_L1 a0 a1 x4) (0, x4)) fun x20 =>
            Option.bind (loopO (dynposref15_reach_L3 x20) (0, [])) fun x25 => some x25
noncomputable def c85 : Con D := ⟨85, [.lf (.int .i64), .lf (.sl 5), .lf (.sl 6), .lf (.sl 7), .lf (.int .i64), .lf (.int .i64), .lf (.sl 1), .lf (.sl 9), .lf (.sl 0), .lf (.sl 10), .lf (.int .i64)], [.lf (.sl 0)], [.agg [.h 0 [], .h 1 [0], .h 2 [0], .h 3 [0], .h 4 [], .h 5 []], .agg [.h 6 [0], .h 7 [0], .h 8 [0], .h 9 [0]], .one (.h 10 [])], [], [.one (.own 1000)], [(1000, .sl 0 3 0 [])], fun h => dynposref15_reach ⟨h.1, h.2.1, h.2.2.1, h.2.2.2.1, h.2.2.2.2.1, h.2.2.2.2.2.1⟩ ⟨h.2.2.2.2.2.2.1, h.2.2.2.2.2.2.2.1, h.2.2.2.2.2.2.2.2.1, h.2.2.2.2.2.2.2.2.2.1⟩ h.2.2.2.2.2.2.2.2.2.2⟩
theorem c85_ok : ConOk Tryz.prog T c85 := fn_ok (Φ := []) (rs := [.tmp 6]) (an := (.n none .o (.n none .o (.n none .o (.n none (.n none .o (.n none (.loop ⟨[.lf (.int .i64), .lf (.sl 1)], [(20, .one (.h 0 []))], [(2320, .sl 1 4 1 [])], [2320], 2960⟩ true [(.exit 0, ⟨[.lf (.sl 1)], [], [(2320, .sl 1 4 0 [])], [2320], 2960⟩)] (.n none .o (.n none .o (.n none (.n none (.n none .o (.n none (.loop ⟨[.lf (.int .i64), .lf (.sl 1)], [(25, .one (.h 0 []))], [(2320, .sl 1 4 1 [])], [2320], 3346⟩ true [(.exit 2, ⟨[.lf (.sl 1)], [], [(2320, .sl 1 4 0 [])], [2320], 3346⟩)] (.n none .o (.n none .o (.n none (.n none (.n none .o (.n none (.r (some (true, [(.normal, ⟨[.lf .bool], [(34, .one (.any)), (35, .one (.any)), (36, .one (.any)), (37, .one (.any)), (38, .one (.any)), (41, .one (.any)), (42, .one (.any)), (43, .one (.any)), (44, .one (.any)), (45, .one (.any)), (46, .one (.any)), (47, .one (.any)), (48, .one (.any)), (49, .one (.any)), (50, .one (.any)), (51, .one (.any)), (52, .one (.any)), (53, .one (.h 0 []))], [], [], 3860⟩)])) .nil) (.n (some (true, [(.normal, ⟨[.lf (.sl 1)], [], [(2320, .sl 1 4 0 [])], [2320], 3925⟩)])) .o .o))) .o) .o)))) .o)) .o) .o)))) .o)) (.n none .o (.n none (.n none .o (.n none (.loop ⟨[.lf (.int .i64), .lf (.sl 0)], [(10, .one (.own 3217)), (66, .one (.h 0 []))], [(3217, .sl 0 3 1 [])], [], 3281⟩ true [(.exit 4, ⟨[.lf (.sl 0)], [(10, .one (.own 3217))], [(3217, .sl 0 3 0 [])], [], 3281⟩)] (.n none .o (.n none .o (.n none (.n none (.n none .o (.n none .o (.n (some (true, [(.normal, ⟨[.lf (.sl 0)], [(10, .one (.own 3731))], [(3731, .sl 0 3 0 [])], [3217], 3795⟩)])) .o .o))) .o) .o)))) .o)) .o))))))) pOk repOk (AllC.mem (l := []) trivial) hmix Tryz.call85 Tryz.func85 rfl rfl (by kernel_rfl) (fun h => by kernel_rfl)

noncomputable def dynposref15_Connected (a0 : Board) (a1 : Power) (a2 : Int) : Option (Int × Bool) :=
  Option.bind
    (Option.bind (dynposref15_State a0 a1) fun x1 =>
      if (x1 != 0) = true then some true
      else
        if decide (a2 < 0) = true then some true
        else
          if decide (a2 ≥ len a0.Sources) = true then some true
          else Option.bind (idx a1.Sources a2) fun x2 => some (x2.State != 2))
    fun x3 =>
    if x3 = true then some (0, false)
    else
      Option.bind (dynposref15_of a0 2 a2) fun x4 =>
        Option.bind (idx x4 0) fun x5 =>
          Option.bind (idx a1.Closed x5) fun x6 =>
            if (!x6) = true then some (0, false)
            else Option.bind (idx a0.Breakers x5) fun x7 => some (x7.A, true)
noncomputable def c86 : Con D := ⟨86, [.lf (.int .i64), .lf (.sl 5), .lf (.sl 6), .lf (.sl 7), .lf (.int .i64), .lf (.int .i64), .lf (.sl 1), .lf (.sl 9), .lf (.sl 0), .lf (.sl 10), .lf (.int .i64)], [.lf (.int .i64), .lf .bool], [.agg [.h 0 [], .h 1 [0], .h 2 [0], .h 3 [0], .h 4 [], .h 5 []], .agg [.h 6 [0], .h 7 [0], .h 8 [0], .h 9 [0]], .one (.h 10 [])], [], [.one (.h 0 []), .one (.h 1 [])], [], fun h => dynposref15_Connected ⟨h.1, h.2.1, h.2.2.1, h.2.2.2.1, h.2.2.2.2.1, h.2.2.2.2.2.1⟩ ⟨h.2.2.2.2.2.2.1, h.2.2.2.2.2.2.2.1, h.2.2.2.2.2.2.2.2.1, h.2.2.2.2.2.2.2.2.2.1⟩ h.2.2.2.2.2.2.2.2.2.2⟩
theorem c86_ok : ConOk Tryz.prog T c86 := fn_ok (Φ := [c23, c55]) (rs := [.tmp 6, .tmp 7]) (an := (.n none .o (.n none (.n none (.r (some (true, [(.normal, ⟨[.lf .bool], [(32, .one (.h 0 []))], [], [], 2320⟩)])) .nil) .o) .o))) pOk repOk (AllC.mem (⟨c23_ok, c55_ok, trivial⟩ : AllC _ _ [c23, c55])) hmix Tryz.call86 Tryz.func86 rfl rfl (by kernel_rfl) (fun h => by kernel_rfl)

noncomputable def dynposref01_Has_L1 (a0 : List
  Int) (a1 : Int) : Int →
  Option
    (Int ⊕
      Unit ⊕
        Bool) := fun x1 =>
  if decide (x1 < len a0) = true then
    Option.bind (idx a0 x1) fun x2 =>
      if (x2 == a1) = true then some (.inr (.inr true)) else some (.inl (W (x1 + 1)))
  else some (.inr (.inl ()))
noncomputable def dynposref01_Has (a0 : (List Int)) (a1 : Int) : Option (Bool) :=
  Option.bind (loopO (dynposref01_Has_L1 a0 a1) 0) fun x3 =>
    Sum.elim (fun x4 => some false) (fun x5 => some x5) x3
noncomputable def c25 : Con D := ⟨25, [.lf (.sl 0), .lf (.int .i64)], [.lf .bool], [.one (.h 0 [0]), .one (.h 1 [])], [], [.one (.h 0 [])], [], fun h => dynposref01_Has h.1 h.2⟩
theorem c25_ok : ConOk Tryz.prog T c25 := fn_ok (Φ := []) (rs := [.tmp 4]) (an := (.n none .o (.n none (.n none .o (.n none (.loop ⟨[.lf (.int .i64)], [(9, .one (.h 0 []))], [], [], 2320⟩ false [(.exit 0, ⟨[], [], [], [], 2320⟩)] .o) .o)) .o))) pOk repOk (AllC.mem (l := []) trivial) hmix Tryz.call25 Tryz.func25 rfl rfl (by kernel_rfl) (fun h => by kernel_rfl)

noncomputable def dynposref15_Of_L1 (a0 : Board) (a1 : Power) (x3 : List
  Int) : Int × List Int →
  Option
    (Int × List Int ⊕
      List
        Int) := fun x4 =>
  if decide (x4.1 < len a0.Sources) = true then
    Option.bind (dynposref15_Connected a0 a1 x4.1) fun x5 =>
      Option.bind (if x5.2 = true then Option.bind (dynposref01_Has x3 x5.1) fun x6 => some x6 else some false)
        fun x7 =>
        Option.bind (if x7 = true then Option.bind (app x4.2 [x4.1]) fun x8 => some x8 else some x4.2) fun x9 =>
          some (.inl (W (x4.1 + 1), x9))
  else some (.inr x4.2)
noncomputable def dynposref15_Of_L2 (a0 : Board) (a1 : Power) (x3 : List
  Int) : Int × List Int →
  Option
    (Int × List Int ⊕
      List
        Int) := fun x11 =>
  if decide (x11.1 < len a0.Consumers) = true then
    Option.bind (dynposref15_Fed a0 a1 x11.1) fun x12 =>
      Option.bind (if x12.2 = true then Option.bind (dynposref01_Has x3 x12.1) fun x13 => some x13 else some false)
        fun x14 =>
        Option.bind (if x14 = true then Option.bind (app x11.2 [x11.1]) fun x15 => some x15 else some x11.2)
          fun x16 => some (.inl (W (x11.1 + 1), x16))
  else some (.inr x11.2)
noncomputable def dynposref15_Of (a0 : Board) (a1 : Power) (a2 : Int) : Option (Bool × (List Int) × (List Int) × (List Int)) :=
  Option.bind
    (Option.bind (dynposref15_State a0 a1) fun x1 =>
      if (x1 != 0) = true then some true
      else if decide (a2 < 0) = true then some true else some (decide (a2 ≥ a0.Buses)))
    fun x2 =>
    if x2 = true then some (false, [], [], [])
    else
      Option.bind (dynposref15_reach a0 a1 a2) fun x3 =>
        Option.bind (loopO (dynposref15_Of_L1 a0 a1 x3) (0, [])) fun x10 =>
          Option.bind (loopO (dynposref15_Of_L2 a0 a1 x3) (0, [])) fun x17 => some (true, x3, x10, x17)
noncomputable def c46 : Con D := ⟨46, [.lf (.int .i64), .lf (.sl 5), .lf (.sl 6), .lf (.sl 7), .lf (.int .i64), .lf (.int .i64), .lf (.sl 1), .lf (.sl 9), .lf (.sl 0), .lf (.sl 10), .lf (.int .i64)], [.lf .bool, .lf (.sl 0), .lf (.sl 0), .lf (.sl 0)], [.agg [.h 0 [], .h 1 [0], .h 2 [0], .h 3 [0], .h 4 [], .h 5 []], .agg [.h 6 [0], .h 7 [0], .h 8 [0], .h 9 [0]], .one (.h 10 [])], [], [.agg [.own 1000, .own 1001, .own 1002], .one (.h 0 [])], [(1000, .sl 0 3 1 []), (1001, .sl 0 3 2 []), (1002, .sl 0 3 3 [])], fun h => dynposref15_Of ⟨h.1, h.2.1, h.2.2.1, h.2.2.2.1, h.2.2.2.2.1, h.2.2.2.2.2.1⟩ ⟨h.2.2.2.2.2.2.1, h.2.2.2.2.2.2.2.1, h.2.2.2.2.2.2.2.2.1, h.2.2.2.2.2.2.2.2.2.1⟩ h.2.2.2.2.2.2.2.2.2.2⟩
theorem c46_ok : ConOk Tryz.prog T c46 := fn_ok (Φ := [c23, c25, c26, c85, c86]) (rs := [.cell 6 54, .tmp 7]) (an := (.n none .o (.n none (.n none (.r (some (true, [(.normal, ⟨[.lf .bool], [(28, .one (.h 0 []))], [], [], 2320⟩)])) .nil) .o) (.n none .o (.n none (.n none .o (.n none (.loop ⟨[.lf (.int .i64), .lf (.sl 0)], [(38, .one (.h 0 []))], [(2641, .box [.own 2521, .own 3025, .nils]), (3025, .sl 0 3 1 [])], [2641], 3089⟩ true [(.exit 0, ⟨[.lf (.sl 0)], [], [(2641, .box [.own 2521, .own 3025, .nils]), (3025, .sl 0 3 0 [])], [2641], 3089⟩)] (.n none .o (.n none .o (.n none (.n none (.n none .o (.n none .o (.n none (.r (some (true, [(.normal, ⟨[.lf .bool], [(50, .one (.any)), (51, .one (.any)), (52, .one (.any)), (53, .one (.any)), (54, .one (.h 0 []))], [], [], 3923⟩)])) .nil) (.n (some (true, [(.normal, ⟨[.lf (.sl 0)], [], [(2641, .box [.own 2521, .own 3924, .nils]), (3924, .sl 0 3 0 [])], [2641, 3025], 3988⟩)])) .o .o)))) .o) .o)))) .o)) (.n none (.n none .o (.n none (.loop ⟨[.lf (.int .i64), .lf (.sl 0)], [(65, .one (.h 0 []))], [(2641, .box [.own 2521, .own 3025, .own 3346]), (3346, .sl 0 3 1 [])], [2641], 3410⟩ true [(.exit 2, ⟨[.lf (.sl 0)], [], [(2641, .box [.own 2521, .own 3025, .own 3346]), (3346, .sl 0 3 0 [])], [2641], 3410⟩)] (.n none .o (.n none .o (.n none (.n none (.n none .o (.n none .o (.n none (.r (some (true, [(.normal, ⟨[.lf .bool], [(77, .one (.any)), (78, .one (.any)), (79, .one (.any)), (80, .one (.any)), (81, .one (.h 0 []))], [], [], 4244⟩)])) .nil) (.n (some (true, [(.normal, ⟨[.lf (.sl 0)], [], [(2641, .box [.own 2521, .own 3025, .own 4245]), (4245, .sl 0 3 0 [])], [2641, 3346], 4309⟩)])) .o .o)))) .o) .o)))) .o)) .o)))))) pOk repOk (AllC.mem (⟨c23_ok, c25_ok, c26_ok, c85_ok, c86_ok, trivial⟩ : AllC _ _ [c23, c25, c26, c85, c86])) hmix Tryz.call46 Tryz.func46 rfl rfl (by kernel_rfl) (fun h => by kernel_rfl)

noncomputable def dynposref15_Live (a0 : Board) (a1 : Power) (a2 : Int) : Option (Bool) :=
  Option.bind (dynposref15_Of a0 a1 a2) fun x1 =>
    Option.bind (if x1.1 = true then some (decide (len x1.2.2.1 > 0)) else some false) fun x2 =>
      some x2
noncomputable def c15 : Con D := ⟨15, [.lf (.int .i64), .lf (.sl 5), .lf (.sl 6), .lf (.sl 7), .lf (.int .i64), .lf (.int .i64), .lf (.sl 1), .lf (.sl 9), .lf (.sl 0), .lf (.sl 10), .lf (.int .i64)], [.lf .bool], [.agg [.h 0 [], .h 1 [0], .h 2 [0], .h 3 [0], .h 4 [], .h 5 []], .agg [.h 6 [0], .h 7 [0], .h 8 [0], .h 9 [0]], .one (.h 10 [])], [], [.one (.h 0 [])], [], fun h => dynposref15_Live ⟨h.1, h.2.1, h.2.2.1, h.2.2.2.1, h.2.2.2.2.1, h.2.2.2.2.2.1⟩ ⟨h.2.2.2.2.2.2.1, h.2.2.2.2.2.2.2.1, h.2.2.2.2.2.2.2.2.1, h.2.2.2.2.2.2.2.2.2.1⟩ h.2.2.2.2.2.2.2.2.2.2⟩
theorem c15_ok : ConOk Tryz.prog T c15 := fn_ok (Φ := [c46]) (rs := [.tmp 6]) (an := (.n none .o (.n none .o (.n none (.r (some (true, [(.normal, ⟨[.lf .bool], [(6, .one (.h 0 []))], [], [], 2896⟩)])) .nil) .o)))) pOk repOk (AllC.mem (⟨c46_ok, trivial⟩ : AllC _ _ [c46])) hmix Tryz.call15 Tryz.func15 rfl rfl (by kernel_rfl) (fun h => by kernel_rfl)

noncomputable def dynposref15_Broken_L1 (a0 : Power) (a1 : Int) (a2 : Int) : Int →
  Option
    (Int ⊕
      Unit ⊕
        Bool) := fun x1 =>
  if decide (x1 < len a0.Broken) = true then
    Option.bind (idx a0.Broken x1) fun x2 =>
      Option.bind (if (x2.Kind == a1) = true then some (x2.Number == a2) else some false) fun x3 =>
        if x3 = true then some (.inr (.inr true)) else some (.inl (W (x1 + 1)))
  else some (.inr (.inl ()))
noncomputable def dynposref15_Broken (a0 : Power) (a1 : Int) (a2 : Int) : Option (Bool) :=
  Option.bind (loopO (dynposref15_Broken_L1 a0 a1 a2) 0) fun x4 =>
    Sum.elim (fun x5 => some false) (fun x6 => some x6) x4
noncomputable def c14 : Con D := ⟨14, [.lf (.sl 1), .lf (.sl 9), .lf (.sl 0), .lf (.sl 10), .lf (.int .i64), .lf (.int .i64)], [.lf .bool], [.agg [.h 0 [0], .h 1 [0], .h 2 [0], .h 3 [0]], .one (.h 4 []), .one (.h 5 [])], [], [.one (.h 0 [])], [], fun h => dynposref15_Broken ⟨h.1, h.2.1, h.2.2.1, h.2.2.2.1⟩ h.2.2.2.2.1 h.2.2.2.2.2⟩
theorem c14_ok : ConOk Tryz.prog T c14 := fn_ok (Φ := []) (rs := [.tmp 6]) (an := (.n none .o (.n none (.n none .o (.n none (.loop ⟨[.lf (.int .i64)], [(12, .one (.h 0 []))], [], [], 2448⟩ false [(.exit 0, ⟨[], [], [], [], 2448⟩)] (.n none .o (.n none .o (.n none (.n none (.n none .o (.n none (.r (some (true, [(.normal, ⟨[.lf .bool], [(21, .one (.any)), (22, .one (.any)), (23, .one (.any)), (24, .one (.any)), (25, .one (.h 0 []))], [], [], 2833⟩)])) .nil) .o)) .o) .o)))) .o)) .o))) pOk repOk (AllC.mem (l := []) trivial) hmix Tryz.call14 Tryz.func14 rfl rfl (by kernel_rfl) (fun h => by kernel_rfl)

noncomputable def dynposlaw18_pair : Option (Int × Int × Int × (List Breaker) × (List Source) × (List Consumer) × (List Bool) × (List Running) × (List Int)) := some
  (1, 0, 0,
    [Breaker.mk 2 0 0, Breaker.mk 3 0 0,
      Breaker.mk 3 0 1],
    [Source.mk 100 0 0],
    [Consumer.mk 60 20 0 (-1) [],
      Consumer.mk 70 70 1 (-1) []],
    [true, true, true], [Running.mk 2 0 5000 0],
    [60, 70])
noncomputable def c47 : Con D := ⟨47, [], [.lf (.int .i64), .lf (.int .i64), .lf (.int .i64), .lf (.sl 5), .lf (.sl 6), .lf (.sl 7), .lf (.sl 1), .lf (.sl 9), .lf (.sl 0)], [], [], [.agg [.h 0 [], .own 1000, .own 1001, .own 1002, .h 1 [], .h 2 []], .agg [.own 1003, .own 1004, .own 1005, .nils]], [(1000, .sl 5 44 3 []), (1001, .sl 6 89 4 []), (1002, .sl 7 57 5 []), (1003, .sl 1 4 6 []), (1004, .sl 9 48 7 []), (1005, .sl 0 3 8 [])], fun h => dynposlaw18_pair⟩
theorem c47_ok : ConOk Tryz.prog T c47 := fn_ok (Φ := []) (rs := [.cell 0 29, .cell 1 34]) (an := .o) pOk repOk (AllC.mem (l := []) trivial) hmix Tryz.call47 Tryz.func47 rfl rfl (by kernel_rfl) (fun h => by kernel_rfl)

noncomputable def dynposref01_Ints_L1 (a0 : List
  Int) (a1 : List
  Int) : Int →
  Option
    (Int ⊕
      Unit ⊕
        Bool) := fun x1 =>
  if decide (x1 < len a0) = true then
    Option.bind (idx a0 x1) fun x2 =>
      Option.bind (idx a1 x1) fun x3 =>
        if (x2 != x3) = true then some (.inr (.inr false)) else some (.inl (W (x1 + 1)))
  else some (.inr (.inl ()))
noncomputable def dynposref01_Ints (a0 : (List Int)) (a1 : (List Int)) : Option (Bool) :=
  if (len a0 != len a1) = true then some false
  else
    Option.bind (loopO (dynposref01_Ints_L1 a0 a1) 0) fun x4 =>
      Sum.elim (fun x5 => some true) (fun x6 => some x6) x4
noncomputable def c13 : Con D := ⟨13, [.lf (.sl 0), .lf (.sl 0)], [.lf .bool], [.one (.h 0 [0]), .one (.h 1 [0])], [], [.one (.h 0 [])], [], fun h => dynposref01_Ints h.1 h.2⟩
theorem c13_ok : ConOk Tryz.prog T c13 := fn_ok (Φ := []) (rs := [.tmp 4]) (an := (.n none .o (.n none .o (.n none (.n none .o (.n none (.loop ⟨[.lf (.int .i64)], [(13, .one (.h 0 []))], [], [], 2640⟩ false [(.exit 0, ⟨[], [], [], [], 2640⟩)] .o) .o)) .o)))) pOk repOk (AllC.mem (l := []) trivial) hmix Tryz.call13 Tryz.func13 rfl rfl (by kernel_rfl) (fun h => by kernel_rfl)

noncomputable def dynposref18_Acts_L1 (a0 : List
  Act) (a1 : List
  Act) : Int →
  Option
    (Int ⊕
      Unit ⊕
        Bool) := fun x1 =>
  if decide (x1 < len a0) = true then
    Option.bind (idx a0 x1) fun x2 =>
      Option.bind (idx a1 x1) fun x3 =>
        if (!(x2.Kind == x3.Kind && (x2.Unit == x3.Unit && x2.Value == x3.Value))) = true then
          some (.inr (.inr false))
        else some (.inl (W (x1 + 1)))
  else some (.inr (.inl ()))
noncomputable def dynposref18_Acts (a0 : (List Act)) (a1 : (List Act)) : Option (Bool) :=
  if (len a0 != len a1) = true then some false
  else
    Option.bind (loopO (dynposref18_Acts_L1 a0 a1) 0) fun x4 =>
      Sum.elim (fun x5 => some true) (fun x6 => some x6) x4
noncomputable def c33 : Con D := ⟨33, [.lf (.sl 11), .lf (.sl 11)], [.lf .bool], [.one (.h 0 [0]), .one (.h 1 [0])], [], [.one (.h 0 [])], [], fun h => dynposref18_Acts h.1 h.2⟩
theorem c33_ok : ConOk Tryz.prog T c33 := fn_ok (Φ := []) (rs := [.tmp 4]) (an := (.n none .o (.n none .o (.n none (.n none .o (.n none (.loop ⟨[.lf (.int .i64)], [(13, .one (.h 0 []))], [], [], 2640⟩ false [(.exit 0, ⟨[], [], [], [], 2640⟩)] .o) .o)) .o)))) pOk repOk (AllC.mem (l := []) trivial) hmix Tryz.call33 Tryz.func33 rfl rfl (by kernel_rfl) (fun h => by kernel_rfl)

noncomputable def shed_relieve (a0 : Board) (a1 : Power) : Option (Int × (List Bool) × (List Running) × (List Int) × (List Part) × (List Act)) :=
  Option.bind (board_State a0 a1) fun x1 =>
    if (x1 != 0) = true then some (x1, [], [], [], [], [])
    else
      Option.bind (states_Clone a1) fun x2 =>
        Option.bind (relief_clear_v1 (relief.mk a0 (Power.mk x2.1 x2.2.1 x2.2.2.1 x2.2.2.2) []))
          fun x3 =>
          some
            (0, x3.2.2.2.2.2.2.2.2.2.2.1,
              x3.2.2.2.2.2.2.2.2.2.2.2.1,
              x3.2.2.2.2.2.2.2.2.2.2.2.2.1,
              x3.2.2.2.2.2.2.2.2.2.2.2.2.2.1,
              x3.2.2.2.2.2.2.2.2.2.2.2.2.2.2)
noncomputable def c43_2 : Con D := ⟨43, [.lf (.int .i64), .lf (.sl 5), .lf (.sl 6), .lf (.sl 7), .lf (.int .i64), .lf (.int .i64), .lf (.sl 1), .lf (.sl 9), .lf (.sl 0), .lf (.sl 10)], [.lf (.int .i64), .lf (.sl 1), .lf (.sl 9), .lf (.sl 0), .lf (.sl 10), .lf (.sl 11)], [.agg [.h 0 [], .h 1 [0], .h 2 [0], .h 3 [0], .h 4 [], .h 5 []], .agg [.h 6 [0], .h 7 [0], .h 8 [0], .h 9 [0]], .one (.fn 44 [])], [], [.agg [.own 1000, .own 1001, .own 1002, .own 1003], .one (.own 1004), .one (.h 0 [])], [(1000, .sl 1 4 1 []), (1001, .sl 9 48 2 []), (1002, .sl 0 3 3 []), (1003, .sl 10 84 4 []), (1004, .sl 11 74 5 [])], fun h => shed_relieve ⟨h.1, h.2.1, h.2.2.1, h.2.2.2.1, h.2.2.2.2.1, h.2.2.2.2.2.1⟩ ⟨h.2.2.2.2.2.2.1, h.2.2.2.2.2.2.2.1, h.2.2.2.2.2.2.2.2.1, h.2.2.2.2.2.2.2.2.2⟩⟩
theorem c43_2_ok : ConOk Tryz.prog T c43_2 := fn_ok (Φ := [c44_1, c70, c80]) (rs := [.cell 6 34, .tmp 7, .tmp 8]) (an := .o) pOk repOk (AllC.mem (⟨c44_1_ok, c70_ok, c80_ok, trivial⟩ : AllC _ _ [c44_1, c70, c80])) hmix Tryz.call43 Tryz.func43 rfl rfl (by kernel_rfl) (fun h => by kernel_rfl)

noncomputable def shed_Clear (a0 : Board) (a1 : Power) : Option (Int × (List Bool) × (List Running) × (List Int) × (List Part) × (List Act)) :=
  Option.bind (shed_relieve a0 a1) fun x1 =>
    some (x1.1, x1.2.1, x1.2.2.1, x1.2.2.2.1, x1.2.2.2.2.1, x1.2.2.2.2.2)
noncomputable def c11 : Con D := ⟨11, [.lf (.int .i64), .lf (.sl 5), .lf (.sl 6), .lf (.sl 7), .lf (.int .i64), .lf (.int .i64), .lf (.sl 1), .lf (.sl 9), .lf (.sl 0), .lf (.sl 10)], [.lf (.int .i64), .lf (.sl 1), .lf (.sl 9), .lf (.sl 0), .lf (.sl 10), .lf (.sl 11)], [.agg [.h 0 [], .h 1 [0], .h 2 [0], .h 3 [0], .h 4 [], .h 5 []], .agg [.h 6 [0], .h 7 [0], .h 8 [0], .h 9 [0]]], [], [.agg [.own 1000, .own 1001, .own 1002, .own 1003], .one (.own 1004), .one (.h 0 [])], [(1000, .sl 1 4 1 []), (1001, .sl 9 48 2 []), (1002, .sl 0 3 3 []), (1003, .sl 10 84 4 []), (1004, .sl 11 74 5 [])], fun h => shed_Clear ⟨h.1, h.2.1, h.2.2.1, h.2.2.2.1, h.2.2.2.2.1, h.2.2.2.2.2.1⟩ ⟨h.2.2.2.2.2.2.1, h.2.2.2.2.2.2.2.1, h.2.2.2.2.2.2.2.2.1, h.2.2.2.2.2.2.2.2.2⟩⟩
theorem c11_ok : ConOk Tryz.prog T c11 := fn_ok (Φ := [c43_2]) (rs := [.cell 4 34, .tmp 5, .tmp 6]) (an := .o) pOk repOk (AllC.mem (⟨c43_2_ok, trivial⟩ : AllC _ _ [c43_2])) hmix Tryz.call11 Tryz.func11 rfl rfl (by kernel_rfl) (fun h => by kernel_rfl)

noncomputable def slices_Equal_Running_Running_L1 (a0 : List
  Running) (a1 : List
  Running) : Int →
  Option
    (Int ⊕
      Unit ⊕
        Bool) := fun x1 =>
  if decide (x1 < len a0) = true then
    Option.bind (idx a0 x1) fun x2 =>
      Option.bind (idx a1 x1) fun x3 =>
        if
            (!(x2.State == x3.State &&
                  (x2.Since == x3.Since && (x2.Frequency == x3.Frequency && x2.Phase == x3.Phase)))) =
              true then
          some (.inr (.inr false))
        else some (.inl (W (x1 + 1)))
  else some (.inr (.inl ()))
noncomputable def slices_Equal_Running_Running (a0 : (List Running)) (a1 : (List Running)) : Option (Bool) :=
  if (len a0 != len a1) = true then some false
  else
    Option.bind (loopO (slices_Equal_Running_Running_L1 a0 a1) 0) fun x4 =>
      Sum.elim (fun x5 => some true) (fun x6 => some x6) x4
noncomputable def c109 : Con D := ⟨109, [.lf (.sl 9), .lf (.sl 9)], [.lf .bool], [.one (.h 0 [0]), .one (.h 1 [0])], [], [.one (.h 0 [])], [], fun h => slices_Equal_Running_Running h.1 h.2⟩
theorem c109_ok : ConOk Tryz.prog T c109 := fn_ok (Φ := []) (rs := [.tmp 4]) (an := (.n none .o (.n none .o (.n none (.n none .o (.n none (.loop ⟨[.lf (.int .i64)], [(13, .one (.h 0 []))], [], [], 2640⟩ false [(.exit 0, ⟨[], [], [], [], 2640⟩)] .o) .o)) .o)))) pOk repOk (AllC.mem (l := []) trivial) hmix Tryz.call109 Tryz.func109 rfl rfl (by kernel_rfl) (fun h => by kernel_rfl)

noncomputable def slices_Equal_Part_Part_L1 (a0 : List
  Part) (a1 : List
  Part) : Int →
  Option
    (Int ⊕
      Unit ⊕
        Bool) := fun x1 =>
  if decide (x1 < len a0) = true then
    Option.bind (idx a0 x1) fun x2 =>
      Option.bind (idx a1 x1) fun x3 =>
        if (!(x2.Kind == x3.Kind && x2.Number == x3.Number)) = true then some (.inr (.inr false))
        else some (.inl (W (x1 + 1)))
  else some (.inr (.inl ()))
noncomputable def slices_Equal_Part_Part (a0 : (List Part)) (a1 : (List Part)) : Option (Bool) :=
  if (len a0 != len a1) = true then some false
  else
    Option.bind (loopO (slices_Equal_Part_Part_L1 a0 a1) 0) fun x4 =>
      Sum.elim (fun x5 => some true) (fun x6 => some x6) x4
noncomputable def c110 : Con D := ⟨110, [.lf (.sl 10), .lf (.sl 10)], [.lf .bool], [.one (.h 0 [0]), .one (.h 1 [0])], [], [.one (.h 0 [])], [], fun h => slices_Equal_Part_Part h.1 h.2⟩
theorem c110_ok : ConOk Tryz.prog T c110 := fn_ok (Φ := []) (rs := [.tmp 4]) (an := (.n none .o (.n none .o (.n none (.n none .o (.n none (.loop ⟨[.lf (.int .i64)], [(13, .one (.h 0 []))], [], [], 2640⟩ false [(.exit 0, ⟨[], [], [], [], 2640⟩)] .o) .o)) .o)))) pOk repOk (AllC.mem (l := []) trivial) hmix Tryz.call110 Tryz.func110 rfl rfl (by kernel_rfl) (fun h => by kernel_rfl)

noncomputable def shed_lesser_L1 (a0 : Power) (a1 : Power) : Int →
  Option
    (Int ⊕
      Unit ⊕
        Bool) := fun x1 =>
  if decide (x1 < len a1.Closed) = true then
    Option.bind (idx a1.Closed x1) fun x2 =>
      Option.bind (if x2 = true then Option.bind (idx a0.Closed x1) fun x3 => some !x3 else some false) fun x4 =>
        if x4 = true then some (.inr (.inr false)) else some (.inl (W (x1 + 1)))
  else some (.inr (.inl ()))
noncomputable def shed_lesser_L2 (a0 : Power) (a1 : Power) : Int →
  Option
    (Int ⊕
      Unit ⊕
        Bool) := fun x7 =>
  if decide (x7 < len a1.Limits) = true then
    Option.bind (idx a1.Limits x7) fun x8 =>
      Option.bind (idx a0.Limits x7) fun x9 =>
        if decide (x8 > x9) = true then some (.inr (.inr false)) else some (.inl (W (x7 + 1)))
  else some (.inr (.inl ()))
noncomputable def shed_lesser (a0 : Power) (a1 : Power) : Option (Bool) :=
  Option.bind (loopO (shed_lesser_L1 a0 a1) 0) fun x5 =>
    Sum.elim
      (fun x6 =>
        Option.bind (loopO (shed_lesser_L2 a0 a1) 0) fun x10 =>
          Sum.elim
            (fun x11 =>
              Option.bind
                (Option.bind (slices_Equal_Running_Running a0.Sources a1.Sources) fun x12 =>
                  if x12 = true then Option.bind (slices_Equal_Part_Part a0.Broken a1.Broken) fun x13 => some x13
                  else some false)
                fun x14 => some x14)
            (fun x15 => some x15) x10)
      (fun x16 => some x16) x5
noncomputable def c71 : Con D := ⟨71, [.lf (.sl 1), .lf (.sl 9), .lf (.sl 0), .lf (.sl 10), .lf (.sl 1), .lf (.sl 9), .lf (.sl 0), .lf (.sl 10)], [.lf .bool], [.agg [.h 0 [0], .h 1 [0], .h 2 [0], .h 3 [0]], .agg [.h 4 [0], .h 5 [0], .h 6 [0], .h 7 [0]]], [], [.one (.h 0 [])], [], fun h => shed_lesser ⟨h.1, h.2.1, h.2.2.1, h.2.2.2.1⟩ ⟨h.2.2.2.2.1, h.2.2.2.2.2.1, h.2.2.2.2.2.2.1, h.2.2.2.2.2.2.2⟩⟩
theorem c71_ok : ConOk Tryz.prog T c71 := fn_ok (Φ := [c109, c110]) (rs := [.tmp 4]) (an := (.n none .o (.n none (.n none .o (.n none (.loop ⟨[.lf (.int .i64)], [(12, .one (.h 0 []))], [], [], 2512⟩ false [(.exit 0, ⟨[], [], [], [], 2512⟩)] (.n none .o (.n none .o (.n none (.n none (.n none .o (.n none (.r (some (true, [(.normal, ⟨[.lf .bool], [(19, .one (.any)), (20, .one (.any)), (21, .one (.any)), (22, .one (.any)), (23, .one (.any)), (24, .one (.any)), (25, .one (.h 0 []))], [], [], 2961⟩)])) .nil) .o)) .o) .o)))) .o)) (.n none (.n none .o (.n none (.loop ⟨[.lf (.int .i64)], [(30, .one (.h 0 []))], [], [], 2832⟩ false [(.exit 2, ⟨[], [], [], [], 2832⟩)] .o) .o)) (.n none (.r (some (true, [(.normal, ⟨[.lf .bool], [(4, .one (.h 0 []))], [], [], 2896⟩)])) .nil) .o))))) pOk repOk (AllC.mem (⟨c109_ok, c110_ok, trivial⟩ : AllC _ _ [c109, c110])) hmix Tryz.call71 Tryz.func71 rfl rfl (by kernel_rfl) (fun h => by kernel_rfl)

noncomputable def balance_Overloaded (a0 : Board) (a1 : Power) (a2 : Int) : Option (Bool) :=
  Option.bind (balance_Load a0 a1 a2) fun x1 => Option.bind (balance_Rating a0 a1 a2) fun x2 => some (decide (x1 > x2))
noncomputable def c72 : Con D := ⟨72, [.lf (.int .i64), .lf (.sl 5), .lf (.sl 6), .lf (.sl 7), .lf (.int .i64), .lf (.int .i64), .lf (.sl 1), .lf (.sl 9), .lf (.sl 0), .lf (.sl 10), .lf (.int .i64)], [.lf .bool], [.agg [.h 0 [], .h 1 [0], .h 2 [0], .h 3 [0], .h 4 [], .h 5 []], .agg [.h 6 [0], .h 7 [0], .h 8 [0], .h 9 [0]], .one (.h 10 [])], [], [.one (.h 0 [])], [], fun h => balance_Overloaded ⟨h.1, h.2.1, h.2.2.1, h.2.2.2.1, h.2.2.2.2.1, h.2.2.2.2.2.1⟩ ⟨h.2.2.2.2.2.2.1, h.2.2.2.2.2.2.2.1, h.2.2.2.2.2.2.2.2.1, h.2.2.2.2.2.2.2.2.2.1⟩ h.2.2.2.2.2.2.2.2.2.2⟩
theorem c72_ok : ConOk Tryz.prog T c72 := fn_ok (Φ := [c111, c112]) (rs := [.tmp 6]) (an := .o) pOk repOk (AllC.mem (⟨c111_ok, c112_ok, trivial⟩ : AllC _ _ [c111, c112])) hmix Tryz.call72 Tryz.func72 rfl rfl (by kernel_rfl) (fun h => by kernel_rfl)

noncomputable def shed_Check_1 (a0 : Int) (a1 : Island) : Option (Bool) := Option.bind (slices_Contains_int_int a1.Consumers a0) fun x1 => some !x1
noncomputable def c76 : Con D := ⟨76, [.lf (.int .i64), .el 13], [.lf .bool], [.one (.h 0 []), .one (.rp 1 13 [0])], [], [.one (.h 0 [])], [], fun h => shed_Check_1 h.1 h.2⟩
theorem c76_ok : ConOk Tryz.prog T c76 := fn_ok (Φ := [c77]) (rs := [.tmp 3]) (an := .o) pOk repOk (AllC.mem (⟨c77_ok, trivial⟩ : AllC _ _ [c77])) hmix Tryz.call76 Tryz.func76 rfl rfl (by kernel_rfl) (fun h => by kernel_rfl)

noncomputable def shed_ordered_1_v1 (a0 : Int) (a1 : Int) (a2 : (List Breaker)) (a3 : (List Source)) (a4 : (List Consumer)) (a5 : Int) (a6 : Int) (a7 : (List Bool)) (a8 : (List Running)) (a9 : (List Int)) (a10 : (List Part)) : Option (Bool × Int × (List Breaker) × (List Source) × (List Consumer) × Int × Int × (List Bool) × (List Running) × (List Int) × (List Part)) :=
  Option.bind (board_Fed (Board.mk a1 a2 a3 a4 a5 a6) (Power.mk a7 a8 a9 a10) a0) fun x1 =>
    some (x1.2, a1, a2, a3, a4, a5, a6, a7, a8, a9, a10)
noncomputable def c118_1 : Con D := ⟨118, [.lf (.int .i64), .lf (.int .i64), .lf (.sl 5), .lf (.sl 6), .lf (.sl 7), .lf (.int .i64), .lf (.int .i64), .lf (.sl 1), .lf (.sl 9), .lf (.sl 0), .lf (.sl 10)], [.lf .bool, .lf (.int .i64), .lf (.sl 5), .lf (.sl 6), .lf (.sl 7), .lf (.int .i64), .lf (.int .i64), .lf (.sl 1), .lf (.sl 9), .lf (.sl 0), .lf (.sl 10)], [.one (.h 0 []), .one (.ptr 1000 0), .one (.ptr 1001 0)], [(1000, .box [.h 1 [], .h 2 [0], .h 3 [0], .h 4 [0], .h 5 [], .h 6 []]), (1001, .box [.h 7 [0], .h 8 [0], .h 9 [0], .h 10 [0]])], [.one (.h 0 [])], [(1000, .box [.h 1 [], .h 2 [0], .h 3 [0], .h 4 [0], .h 5 [], .h 6 []]), (1001, .box [.h 7 [0], .h 8 [0], .h 9 [0], .h 10 [0]])], fun h => shed_ordered_1_v1 h.1 h.2.1 h.2.2.1 h.2.2.2.1 h.2.2.2.2.1 h.2.2.2.2.2.1 h.2.2.2.2.2.2.1 h.2.2.2.2.2.2.2.1 h.2.2.2.2.2.2.2.2.1 h.2.2.2.2.2.2.2.2.2.1 h.2.2.2.2.2.2.2.2.2.2⟩
theorem c118_1_ok : ConOk Tryz.prog T c118_1 := fn_ok (Φ := [c63]) (rs := [.tmp 4]) (an := .o) pOk repOk (AllC.mem (⟨c63_ok, trivial⟩ : AllC _ _ [c63])) hmix Tryz.call118 Tryz.func118 rfl rfl (by kernel_rfl) (fun h => by kernel_rfl)

noncomputable def shed_ordered_2_v2 (a0 : Int) (a1 : Int) (a2 : (List Breaker)) (a3 : (List Source)) (a4 : (List Consumer)) (a5 : Int) (a6 : Int) (a7 : (List Bool)) (a8 : (List Running)) (a9 : (List Int)) (a10 : (List Part)) : Option (Bool × Int × (List Breaker) × (List Source) × (List Consumer) × Int × Int × (List Bool) × (List Running) × (List Int) × (List Part)) :=
  Option.bind
    (Option.bind (shed_ordered_1_v1 a0 a1 a2 a3 a4 a5 a6 a7 a8 a9 a10) fun x1 =>
      if x1.1 = true then
        Option.bind (idx x1.2.2.2.2.2.2.2.2.2.1 a0) fun x2 =>
          Option.bind (idx x1.2.2.2.2.1 a0) fun x3 =>
            some
              (decide (x2 > x3.Least), x1.2.1, x1.2.2.1, x1.2.2.2.1, x1.2.2.2.2.1,
                x1.2.2.2.2.2.1, x1.2.2.2.2.2.2.1, x1.2.2.2.2.2.2.2.1,
                x1.2.2.2.2.2.2.2.2.1, x1.2.2.2.2.2.2.2.2.2.1,
                x1.2.2.2.2.2.2.2.2.2.2)
      else
        some
          (false, x1.2.1, x1.2.2.1, x1.2.2.2.1, x1.2.2.2.2.1, x1.2.2.2.2.2.1,
            x1.2.2.2.2.2.2.1, x1.2.2.2.2.2.2.2.1, x1.2.2.2.2.2.2.2.2.1,
            x1.2.2.2.2.2.2.2.2.2.1, x1.2.2.2.2.2.2.2.2.2.2))
    fun x4 =>
    some
      (x4.1, x4.2.1, x4.2.2.1, x4.2.2.2.1, x4.2.2.2.2.1, x4.2.2.2.2.2.1,
        x4.2.2.2.2.2.2.1, x4.2.2.2.2.2.2.2.1, x4.2.2.2.2.2.2.2.2.1,
        x4.2.2.2.2.2.2.2.2.2.1, x4.2.2.2.2.2.2.2.2.2.2)
noncomputable def c119_2 : Con D := ⟨119, [.lf (.int .i64), .lf (.int .i64), .lf (.sl 5), .lf (.sl 6), .lf (.sl 7), .lf (.int .i64), .lf (.int .i64), .lf (.sl 1), .lf (.sl 9), .lf (.sl 0), .lf (.sl 10)], [.lf .bool, .lf (.int .i64), .lf (.sl 5), .lf (.sl 6), .lf (.sl 7), .lf (.int .i64), .lf (.int .i64), .lf (.sl 1), .lf (.sl 9), .lf (.sl 0), .lf (.sl 10)], [.one (.h 0 []), .one (.ptr 1000 0), .one (.ptr 1002 0), .one (.ptr 1001 0)], [(1000, .box [.fn 118 [.ptr 1001 0, .ptr 1002 0]]), (1001, .box [.h 1 [], .h 2 [0], .h 3 [0], .h 4 [0], .h 5 [], .h 6 []]), (1002, .box [.h 7 [0], .h 8 [0], .h 9 [0], .h 10 [0]])], [.one (.h 0 [])], [(1000, .box [.fn 118 [.ptr 1001 0, .ptr 1002 0]]), (1001, .box [.h 1 [], .h 2 [0], .h 3 [0], .h 4 [0], .h 5 [], .h 6 []]), (1002, .box [.h 7 [0], .h 8 [0], .h 9 [0], .h 10 [0]])], fun h => shed_ordered_2_v2 h.1 h.2.1 h.2.2.1 h.2.2.2.1 h.2.2.2.2.1 h.2.2.2.2.2.1 h.2.2.2.2.2.2.1 h.2.2.2.2.2.2.2.1 h.2.2.2.2.2.2.2.2.1 h.2.2.2.2.2.2.2.2.2.1 h.2.2.2.2.2.2.2.2.2.2⟩
theorem c119_2_ok : ConOk Tryz.prog T c119_2 := fn_ok (Φ := [c118_1]) (rs := [.tmp 5]) (an := (.n none .o (.n none (.r (some (true, [(.normal, ⟨[.lf .bool, .lf (.int .i64), .lf (.sl 5), .lf (.sl 6), .lf (.sl 7), .lf (.int .i64), .lf (.int .i64), .lf (.sl 1), .lf (.sl 9), .lf (.sl 0), .lf (.sl 10)], [(5, .one (.h 0 []))], [(1001, .box [.h 1 [], .h 2 [0], .h 3 [0], .h 4 [0], .h 5 [], .h 6 []]), (1002, .box [.h 7 [0], .h 8 [0], .h 9 [0], .h 10 [0]])], [1001, 1002], 2128⟩)])) .nil) .o))) pOk repOk (AllC.mem (⟨c118_1_ok, trivial⟩ : AllC _ _ [c118_1])) hmix Tryz.call119 Tryz.func119 rfl rfl (by kernel_rfl) (fun h => by kernel_rfl)

noncomputable def slices_IndexFunc_int_int_flat_L1 (a0 : List
  Int) (a1 : Island) : Int →
  Option
    (Int ⊕
      Unit ⊕
        Int) := fun x1 =>
  if decide (x1 < len a0) = true then
    Option.bind (idx a0 x1) fun x2 =>
      Option.bind (shed_relief__shed_1 x2 a1) fun x3 =>
        if x3 = true then some (.inr (.inr x1)) else some (.inl (W (x1 + 1)))
  else some (.inr (.inl ()))
noncomputable def slices_IndexFunc_int_int_flat (a0 : (List Int)) (a1 : Island) : Option (Int) :=
  Option.bind (loopO (slices_IndexFunc_int_int_flat_L1 a0 a1) 0) fun x4 =>
    Sum.elim (fun x5 => some (-1)) (fun x6 => some x6) x4
noncomputable def c103 : Con D := ⟨103, [.lf (.sl 0), .el 13], [.lf (.int .i64)], [.one (.h 0 [0]), .one (.fn 87 [.rp 1 13 [0]])], [], [.one (.h 0 [])], [], fun h => slices_IndexFunc_int_int_flat h.1 h.2⟩
theorem c103_ok : ConOk Tryz.prog T c103 := fn_ok (Φ := [c87]) (rs := [.tmp 4]) (an := (.n none .o (.n none (.n none .o (.n none (.loop ⟨[.lf (.int .i64)], [(8, .one (.h 0 []))], [], [], 2320⟩ false [(.exit 0, ⟨[], [], [], [], 2320⟩)] .o) .o)) .o))) pOk repOk (AllC.mem (⟨c87_ok, trivial⟩ : AllC _ _ [c87])) hmix Tryz.call103 Tryz.func103 rfl rfl (by kernel_rfl) (fun h => by kernel_rfl)

noncomputable def slices_DeleteFunc_int_int_L1 (a1 : Island) : Int × Int × List Int →
  Option
    (Int × Int × List Int ⊕
      Int ×
        List
          Int) := fun x2 =>
  if decide (x2.2.1 < len x2.2.2) = true then
    Option.bind (idx x2.2.2 x2.2.1) fun x3 =>
      Option.bind (shed_relief__shed_1 x3 a1) fun x4 =>
        Option.bind
          (if (!x4) = true then
            Option.bind (idx x2.2.2 x2.1) fun x5 =>
              Option.bind (idx x2.2.2 x2.1) fun x6 =>
                Option.bind (setO x2.2.2 x2.1 x3) fun x7 => some (W (x2.1 + 1), x7)
          else some (x2.1, x2.2.2))
          fun x8 => some (.inl (x8.1, W (x2.2.1 + 1), x8.2))
  else some (.inr (x2.1, x2.2.2))
noncomputable def slices_DeleteFunc_int_int (a0 : (List Int)) (a1 : Island) : Option ((List Int)) :=
  Option.bind (slices_IndexFunc_int_int_flat a0 a1) fun x1 =>
    if (x1 == (-1)) = true then some a0
    else
      Option.bind (loopO (slices_DeleteFunc_int_int_L1 a1) (x1, W (x1 + 1), a0)) fun x9 =>
        Option.bind (slc x9.2 x9.1 (len x9.2)) fun x10 =>
          Option.bind (slc (clrT 0 x9.2 x9.1) 0 x9.1) fun x11 => some x11
noncomputable def c74 : Con D := ⟨74, [.lf (.sl 0), .el 13], [.lf (.sl 0)], [.one (.own 1000), .one (.fn 87 [.rp 1 13 [0]])], [(1000, .sl 0 3 0 [])], [.one (.own 1001)], [(1001, .sl 0 3 0 [])], fun h => slices_DeleteFunc_int_int h.1 h.2⟩
theorem c74_ok : ConOk Tryz.prog T c74 := fn_ok (Φ := [c87, c103]) (rs := [.tmp 4]) (an := (.n none .o (.n none .o (.n none .o (.n none (.n none .o (.n none (.loop ⟨[.lf (.int .i64), .lf (.int .i64), .lf (.sl 0)], [(5, .one (.h 0 [])), (6, .one (.h 1 []))], [(1000, .sl 0 3 2 [])], [1000], 2704⟩ true [(.exit 0, ⟨[.lf (.int .i64), .lf (.sl 0)], [(5, .one (.h 0 []))], [(1000, .sl 0 3 1 [])], [1000], 2704⟩)] (.n none .o (.n none (.n none (.n none .o (.n none .o (.n (some (true, [(.normal, ⟨[.lf (.int .i64), .lf (.sl 0)], [(5, .one (.h 0 []))], [(1000, .sl 0 3 1 [])], [1000], 3603⟩)])) .o .o))) .o) .o))) .o)) .o))))) pOk repOk (AllC.mem (⟨c87_ok, c103_ok, trivial⟩ : AllC _ _ [c87, c103])) hmix Tryz.call74 Tryz.func74 rfl rfl (by kernel_rfl) (fun h => by kernel_rfl)

noncomputable def relief_shed_v1_L1 (x1 : List
  Int) (x2 : List
  Island) : Int ×
    Int ×
      List Breaker ×
        List Source × List Consumer × Int × Int × List Bool × List Running × List Int × List Part × List Act →
  Option
    (Int ×
        Int ×
          List Breaker ×
            List Source × List Consumer × Int × Int × List Bool × List Running × List Int × List Part × List Act ⊕
      Int ×
        List Breaker ×
          List Source ×
            List Consumer ×
              Int ×
                Int ×
                  List Bool ×
                    List Running ×
                      List Int ×
                        List Part ×
                          List
                            Act) := fun x3 =>
  if decide (x3.1 < len x2) = true then
    Option.bind (idx x2 x3.1) fun x4 =>
      Option.bind (slices_Clone_int_int x1) fun x5 =>
        Option.bind (slices_DeleteFunc_int_int x5 x4) fun x6 =>
          Option.bind
            (if decide (len x4.Sources > 0) = true then
              Option.bind (idx x4.Buses 0) fun x7 =>
                Option.bind
                  (relief_lower_v3
                    (relief.mk
                      (Board.mk x3.2.1 x3.2.2.1 x3.2.2.2.1 x3.2.2.2.2.1
                        x3.2.2.2.2.2.1 x3.2.2.2.2.2.2.1)
                      (Power.mk x3.2.2.2.2.2.2.2.1 x3.2.2.2.2.2.2.2.2.1
                        x3.2.2.2.2.2.2.2.2.2.1 x3.2.2.2.2.2.2.2.2.2.2.1)
                      x3.2.2.2.2.2.2.2.2.2.2.2)
                    x6 x7)
                  fun x8 =>
                  Option.bind (idx x4.Buses 0) fun x9 =>
                    Option.bind
                      (relief_trip_v2
                        (relief.mk
                          (Board.mk x8.1 x8.2.1 x8.2.2.1 x8.2.2.2.1 x8.2.2.2.2.1
                            x8.2.2.2.2.2.1)
                          (Power.mk x8.2.2.2.2.2.2.1 x8.2.2.2.2.2.2.2.1
                            x8.2.2.2.2.2.2.2.2.1 x8.2.2.2.2.2.2.2.2.2.1)
                          x8.2.2.2.2.2.2.2.2.2.2.2)
                        x8.2.2.2.2.2.2.2.2.2.2.1 x9)
                      fun x10 =>
                      some
                        (x10.1, x10.2.1, x10.2.2.1, x10.2.2.2.1, x10.2.2.2.2.1,
                          x10.2.2.2.2.2.1, x10.2.2.2.2.2.2.1,
                          x10.2.2.2.2.2.2.2.1, x10.2.2.2.2.2.2.2.2.1,
                          x10.2.2.2.2.2.2.2.2.2.1, x10.2.2.2.2.2.2.2.2.2.2.1,
                          x10.2.2.2.2.2.2.2.2.2.2.2)
            else
              some
                (x3.2.1, x3.2.2.1, x3.2.2.2.1, x3.2.2.2.2.1, x3.2.2.2.2.2.1,
                  x3.2.2.2.2.2.2.1, x3.2.2.2.2.2.2.2.1,
                  x3.2.2.2.2.2.2.2.2.1, x3.2.2.2.2.2.2.2.2.2.1,
                  x3.2.2.2.2.2.2.2.2.2.2.1, x6, x3.2.2.2.2.2.2.2.2.2.2.2))
            fun x11 =>
            some
              (.inl
                (W (x3.1 + 1), x11.1, x11.2.1, x11.2.2.1, x11.2.2.2.1,
                  x11.2.2.2.2.1, x11.2.2.2.2.2.1, x11.2.2.2.2.2.2.1,
                  x11.2.2.2.2.2.2.2.1, x11.2.2.2.2.2.2.2.2.1,
                  x11.2.2.2.2.2.2.2.2.2.1, x11.2.2.2.2.2.2.2.2.2.2.2))
  else
    some
      (.inr
        (x3.2.1, x3.2.2.1, x3.2.2.2.1, x3.2.2.2.2.1, x3.2.2.2.2.2.1,
          x3.2.2.2.2.2.2.1, x3.2.2.2.2.2.2.2.1, x3.2.2.2.2.2.2.2.2.1,
          x3.2.2.2.2.2.2.2.2.2.1, x3.2.2.2.2.2.2.2.2.2.2.1,
          x3.2.2.2.2.2.2.2.2.2.2.2))
noncomputable def relief_shed_v1 (a0 : relief) : Option (Int × (List Breaker) × (List Source) × (List Consumer) × Int × Int × (List Bool) × (List Running) × (List Int) × (List Part) × (List Act)) :=
  Option.bind (shed_Order a0.board) fun x1 =>
    Option.bind (board_Islands a0.board a0.power) fun x2 =>
      Option.bind
        (loopO (relief_shed_v1_L1 x1 x2)
          (0, a0.board.Buses, a0.board.Breakers, a0.board.Sources, a0.board.Consumers, a0.board.Phase,
            a0.board.Frequency, a0.power.Closed, a0.power.Sources, a0.power.Limits, a0.power.Broken, a0.acts))
        fun x12 =>
        some
          (x12.1, x12.2.1, x12.2.2.1, x12.2.2.2.1, x12.2.2.2.2.1,
            x12.2.2.2.2.2.1, x12.2.2.2.2.2.2.1, x12.2.2.2.2.2.2.2.1,
            x12.2.2.2.2.2.2.2.2.1, x12.2.2.2.2.2.2.2.2.2.1,
            x12.2.2.2.2.2.2.2.2.2.2)
noncomputable def c48_1 : Con D := ⟨48, [.lf (.int .i64), .lf (.sl 5), .lf (.sl 6), .lf (.sl 7), .lf (.int .i64), .lf (.int .i64), .lf (.sl 1), .lf (.sl 9), .lf (.sl 0), .lf (.sl 10), .lf (.sl 11)], [.lf (.int .i64), .lf (.sl 5), .lf (.sl 6), .lf (.sl 7), .lf (.int .i64), .lf (.int .i64), .lf (.sl 1), .lf (.sl 9), .lf (.sl 0), .lf (.sl 10), .lf (.sl 11)], [.one (.ptr 1000 0)], [(1000, .box [.h 0 [], .h 1 [0], .h 2 [0], .h 3 [0], .h 4 [], .h 5 [], .own 1001, .own 1002, .own 1003, .own 1004, .own 1005]), (1001, .sl 1 4 6 []), (1002, .sl 9 48 7 []), (1003, .sl 0 3 8 []), (1004, .sl 10 84 9 []), (1005, .sl 11 74 10 [])], [], [(1000, .box [.h 0 [], .h 1 [0], .h 2 [0], .h 3 [0], .h 4 [], .h 5 [], .own 1001, .own 1002, .own 1003, .own 1004, .own 1006]), (1001, .sl 1 4 6 []), (1002, .sl 9 48 7 []), (1003, .sl 0 3 8 []), (1004, .sl 10 84 9 []), (1006, .sl 11 74 10 [])], fun h => relief_shed_v1 ⟨⟨h.1, h.2.1, h.2.2.1, h.2.2.2.1, h.2.2.2.2.1, h.2.2.2.2.2.1⟩, ⟨h.2.2.2.2.2.2.1, h.2.2.2.2.2.2.2.1, h.2.2.2.2.2.2.2.2.1, h.2.2.2.2.2.2.2.2.2.1⟩, h.2.2.2.2.2.2.2.2.2.2⟩⟩
theorem c48_1_ok : ConOk Tryz.prog T c48_1 := fn_ok (Φ := [c24, c73, c74, c75, c88_3, c89_2]) (rs := []) (an := (.n none .o (.n none .o (.n none (.loop ⟨[.lf (.int .i64), .lf (.int .i64), .lf (.sl 5), .lf (.sl 6), .lf (.sl 7), .lf (.int .i64), .lf (.int .i64), .lf (.sl 1), .lf (.sl 9), .lf (.sl 0), .lf (.sl 10), .lf (.sl 11)], [(21, .one (.h 0 []))], [(1000, .box [.h 1 [], .h 2 [0], .h 3 [0], .h 4 [0], .h 5 [], .h 6 [], .own 1001, .own 1002, .own 1003, .own 1004, .own 3088]), (1001, .sl 1 4 7 []), (1002, .sl 9 48 8 []), (1003, .sl 0 3 9 []), (1004, .sl 10 84 10 []), (3088, .sl 11 74 11 [])], [1000, 1001, 1002, 1003, 1004, 1005], 3152⟩ true [(.exit 0, ⟨[.lf (.int .i64), .lf (.sl 5), .lf (.sl 6), .lf (.sl 7), .lf (.int .i64), .lf (.int .i64), .lf (.sl 1), .lf (.sl 9), .lf (.sl 0), .lf (.sl 10), .lf (.sl 11)], [], [(1000, .box [.h 0 [], .h 1 [0], .h 2 [0], .h 3 [0], .h 4 [], .h 5 [], .own 1001, .own 1002, .own 1003, .own 1004, .own 3088]), (1001, .sl 1 4 6 []), (1002, .sl 9 48 7 []), (1003, .sl 0 3 8 []), (1004, .sl 10 84 9 []), (3088, .sl 11 74 10 [])], [1000, 1001, 1002, 1003, 1004, 1005], 3152⟩)] (.n none .o (.n none .o (.n none (.n none (.n none .o (.n none .o (.n none .o (.n (some (true, [(.normal, ⟨[.lf (.int .i64), .lf (.sl 5), .lf (.sl 6), .lf (.sl 7), .lf (.int .i64), .lf (.int .i64), .lf (.sl 1), .lf (.sl 9), .lf (.sl 0), .lf (.sl 10), .lf (.sl 0), .lf (.sl 11)], [], [(1000, .box [.h 0 [], .h 1 [0], .h 2 [0], .h 3 [0], .h 4 [], .h 5 [], .own 1001, .own 1002, .own 1003, .own 1004, .own 4060]), (1001, .sl 1 4 6 []), (1002, .sl 9 48 7 []), (1003, .sl 0 3 8 []), (1004, .sl 10 84 9 []), (3684, .sl 0 3 10 []), (4060, .sl 11 74 11 [])], [1000, 1001, 1002, 1003, 1004, 3088, 3684], 4124⟩)])) .o .o)))) .o) .o)))) .o)))) pOk repOk (AllC.mem (⟨c24_ok, c73_ok, c74_ok, c75_ok, c88_3_ok, c89_2_ok, trivial⟩ : AllC _ _ [c24, c73, c74, c75, c88_3, c89_2])) hmix Tryz.call48 Tryz.func48 rfl rfl (by kernel_rfl) (fun h => by kernel_rfl)

noncomputable def shed_Protect_1_v1 (a0 : relief) : Option (Int × (List Breaker) × (List Source) × (List Consumer) × Int × Int × (List Bool) × (List Running) × (List Int) × (List Part) × (List Bool) × (List Running) × (List Int) × (List Part) × (List Act)) :=
  Option.bind (relief_clear_v1 a0) fun x1 =>
    Option.bind
      (relief_shed_v1
        (relief.mk
          (Board.mk x1.1 x1.2.1 x1.2.2.1 x1.2.2.2.1 x1.2.2.2.2.1
            x1.2.2.2.2.2.1)
          (Power.mk x1.2.2.2.2.2.2.2.2.2.2.1 x1.2.2.2.2.2.2.2.2.2.2.2.1
            x1.2.2.2.2.2.2.2.2.2.2.2.2.1
            x1.2.2.2.2.2.2.2.2.2.2.2.2.2.1)
          x1.2.2.2.2.2.2.2.2.2.2.2.2.2.2))
      fun x2 =>
      some
        (x2.1, x2.2.1, x2.2.2.1, x2.2.2.2.1, x2.2.2.2.2.1, x2.2.2.2.2.2.1,
          x1.2.2.2.2.2.2.1, x1.2.2.2.2.2.2.2.1, x1.2.2.2.2.2.2.2.2.1,
          x1.2.2.2.2.2.2.2.2.2.1, x2.2.2.2.2.2.2.1,
          x2.2.2.2.2.2.2.2.1, x2.2.2.2.2.2.2.2.2.1,
          x2.2.2.2.2.2.2.2.2.2.1, x2.2.2.2.2.2.2.2.2.2.2)
noncomputable def c69_1 : Con D := ⟨69, [.lf (.int .i64), .lf (.sl 5), .lf (.sl 6), .lf (.sl 7), .lf (.int .i64), .lf (.int .i64), .lf (.sl 1), .lf (.sl 9), .lf (.sl 0), .lf (.sl 10), .lf (.sl 11)], [.lf (.int .i64), .lf (.sl 5), .lf (.sl 6), .lf (.sl 7), .lf (.int .i64), .lf (.int .i64), .lf (.sl 1), .lf (.sl 9), .lf (.sl 0), .lf (.sl 10), .lf (.sl 1), .lf (.sl 9), .lf (.sl 0), .lf (.sl 10), .lf (.sl 11)], [.one (.ptr 1000 0)], [(1000, .box [.h 0 [], .h 1 [0], .h 2 [0], .h 3 [0], .h 4 [], .h 5 [], .own 1001, .own 1002, .own 1003, .own 1004, .own 1005]), (1001, .sl 1 4 6 []), (1002, .sl 9 48 7 []), (1003, .sl 0 3 8 []), (1004, .sl 10 84 9 []), (1005, .sl 11 74 10 [])], [], [(1000, .box [.h 0 [], .h 1 [0], .h 2 [0], .h 3 [0], .h 4 [], .h 5 [], .own 1006, .own 1007, .own 1008, .own 1009, .own 1010]), (1001, .sl 1 4 6 []), (1002, .sl 9 48 7 []), (1003, .sl 0 3 8 []), (1004, .sl 10 84 9 []), (1006, .sl 1 4 10 []), (1007, .sl 9 48 11 []), (1008, .sl 0 3 12 []), (1009, .sl 10 84 13 []), (1010, .sl 11 74 14 [])], fun h => shed_Protect_1_v1 ⟨⟨h.1, h.2.1, h.2.2.1, h.2.2.2.1, h.2.2.2.2.1, h.2.2.2.2.2.1⟩, ⟨h.2.2.2.2.2.2.1, h.2.2.2.2.2.2.2.1, h.2.2.2.2.2.2.2.2.1, h.2.2.2.2.2.2.2.2.2.1⟩, h.2.2.2.2.2.2.2.2.2.2⟩⟩
theorem c69_1_ok : ConOk Tryz.prog T c69_1 := fn_ok (Φ := [c44_1, c48_1]) (rs := []) (an := .o) pOk repOk (AllC.mem (⟨c44_1_ok, c48_1_ok, trivial⟩ : AllC _ _ [c44_1, c48_1])) hmix Tryz.call69 Tryz.func69 rfl rfl (by kernel_rfl) (fun h => by kernel_rfl)

noncomputable def shed_relieve_v2 (a0 : Board) (a1 : Power) : Option (Int × (List Bool) × (List Running) × (List Int) × (List Part) × (List Act)) :=
  Option.bind (board_State a0 a1) fun x1 =>
    if (x1 != 0) = true then some (x1, [], [], [], [], [])
    else
      Option.bind (states_Clone a1) fun x2 =>
        Option.bind (shed_Protect_1_v1 (relief.mk a0 (Power.mk x2.1 x2.2.1 x2.2.2.1 x2.2.2.2) []))
          fun x3 =>
          some
            (0, x3.2.2.2.2.2.2.2.2.2.2.1,
              x3.2.2.2.2.2.2.2.2.2.2.2.1,
              x3.2.2.2.2.2.2.2.2.2.2.2.2.1,
              x3.2.2.2.2.2.2.2.2.2.2.2.2.2.1,
              x3.2.2.2.2.2.2.2.2.2.2.2.2.2.2)
noncomputable def c43 : Con D := ⟨43, [.lf (.int .i64), .lf (.sl 5), .lf (.sl 6), .lf (.sl 7), .lf (.int .i64), .lf (.int .i64), .lf (.sl 1), .lf (.sl 9), .lf (.sl 0), .lf (.sl 10)], [.lf (.int .i64), .lf (.sl 1), .lf (.sl 9), .lf (.sl 0), .lf (.sl 10), .lf (.sl 11)], [.agg [.h 0 [], .h 1 [0], .h 2 [0], .h 3 [0], .h 4 [], .h 5 []], .agg [.h 6 [0], .h 7 [0], .h 8 [0], .h 9 [0]], .one (.fn 69 [])], [], [.agg [.own 1000, .own 1001, .own 1002, .own 1003], .one (.own 1004), .one (.h 0 [])], [(1000, .sl 1 4 1 []), (1001, .sl 9 48 2 []), (1002, .sl 0 3 3 []), (1003, .sl 10 84 4 []), (1004, .sl 11 74 5 [])], fun h => shed_relieve_v2 ⟨h.1, h.2.1, h.2.2.1, h.2.2.2.1, h.2.2.2.2.1, h.2.2.2.2.2.1⟩ ⟨h.2.2.2.2.2.2.1, h.2.2.2.2.2.2.2.1, h.2.2.2.2.2.2.2.2.1, h.2.2.2.2.2.2.2.2.2⟩⟩
theorem c43_ok : ConOk Tryz.prog T c43 := fn_ok (Φ := [c69_1, c70, c80]) (rs := [.cell 6 34, .tmp 7, .tmp 8]) (an := .o) pOk repOk (AllC.mem (⟨c69_1_ok, c70_ok, c80_ok, trivial⟩ : AllC _ _ [c69_1, c70, c80])) hmix Tryz.call43 Tryz.func43 rfl rfl (by kernel_rfl) (fun h => by kernel_rfl)

noncomputable def shed_Protect (a0 : Board) (a1 : Power) : Option (Int × (List Bool) × (List Running) × (List Int) × (List Part) × (List Act)) :=
  Option.bind (shed_relieve_v2 a0 a1) fun x1 =>
    some (x1.1, x1.2.1, x1.2.2.1, x1.2.2.2.1, x1.2.2.2.2.1, x1.2.2.2.2.2)
noncomputable def c35 : Con D := ⟨35, [.lf (.int .i64), .lf (.sl 5), .lf (.sl 6), .lf (.sl 7), .lf (.int .i64), .lf (.int .i64), .lf (.sl 1), .lf (.sl 9), .lf (.sl 0), .lf (.sl 10)], [.lf (.int .i64), .lf (.sl 1), .lf (.sl 9), .lf (.sl 0), .lf (.sl 10), .lf (.sl 11)], [.agg [.h 0 [], .h 1 [0], .h 2 [0], .h 3 [0], .h 4 [], .h 5 []], .agg [.h 6 [0], .h 7 [0], .h 8 [0], .h 9 [0]]], [], [.agg [.own 1000, .own 1001, .own 1002, .own 1003], .one (.own 1004), .one (.h 0 [])], [(1000, .sl 1 4 1 []), (1001, .sl 9 48 2 []), (1002, .sl 0 3 3 []), (1003, .sl 10 84 4 []), (1004, .sl 11 74 5 [])], fun h => shed_Protect ⟨h.1, h.2.1, h.2.2.1, h.2.2.2.1, h.2.2.2.2.1, h.2.2.2.2.2.1⟩ ⟨h.2.2.2.2.2.2.1, h.2.2.2.2.2.2.2.1, h.2.2.2.2.2.2.2.2.1, h.2.2.2.2.2.2.2.2.2⟩⟩
theorem c35_ok : ConOk Tryz.prog T c35 := fn_ok (Φ := [c43]) (rs := [.cell 4 34, .tmp 5, .tmp 6]) (an := .o) pOk repOk (AllC.mem (⟨c43_ok, trivial⟩ : AllC _ _ [c43])) hmix Tryz.call35 Tryz.func35 rfl rfl (by kernel_rfl) (fun h => by kernel_rfl)

end Rx
end Go.Proofs.YtfnphdhcgkondaaGreat
