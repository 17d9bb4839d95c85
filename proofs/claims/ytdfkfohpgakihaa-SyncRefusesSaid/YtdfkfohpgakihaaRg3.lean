/- Plain functions, walks. Written by a program (wip/gen). -/
import Derived.Test.YtdfkfohpgakihaaRt
import Derived.Test.YtdfkfohpgakihaaRg1
import Derived.Test.YtdfkfohpgakihaaRg2
set_option linter.unusedVariables false
set_option maxRecDepth 100000
namespace Go.Proofs.Ytdfkfohpgakihaa
open Go Go.RowKit Dp
namespace Rx

noncomputable def dynposref15_State_L1 (a1 : Power) : Int →
  Option
    (Int ⊕
      Unit ⊕
        Int) := fun x3 =>
  if decide (x3 < len a1.Sources) = true then
    Option.bind (idx a1.Sources x3) fun x4 =>
      Option.bind
        (Option.bind (dynposref15_within x4.State 0 3) fun x5 =>
          if (!x5) = true then some true
          else
            Option.bind (dynposref15_within x4.Since 0 2147483648) fun x6 =>
              if (!x6) = true then some true
              else
                Option.bind (dynposref15_within x4.Frequency 0 6000) fun x7 =>
                  if (!x7) = true then some true
                  else Option.bind (dynposref15_within x4.Phase 0 3599) fun x8 => some !x8)
        fun x9 => if x9 = true then some (.inr (.inr 11)) else some (.inl (W (x3 + 1)))
  else some (.inr (.inl ()))
noncomputable def dynposref15_State_L2 (a0 : Board) (a1 : Power) : Int →
  Option
    (Int ⊕
      Unit ⊕
        Int) := fun x12 =>
  if decide (x12 < len a1.Limits) = true then
    Option.bind (idx a1.Limits x12) fun x13 =>
      Option.bind (idx a0.Consumers x12) fun x14 =>
        Option.bind (dynposref15_within x13 0 x14.Load) fun x15 =>
          if (!x15) = true then some (.inr (.inr 11)) else some (.inl (W (x12 + 1)))
  else some (.inr (.inl ()))
noncomputable def dynposref15_State_L3 (a0 : Board) (a1 : Power) : Int →
  Option
    (Int ⊕
      Unit ⊕
        Int) := fun x18 =>
  if decide (x18 < len a1.Broken) = true then
    Option.bind (idx a1.Broken x18) fun x19 =>
      Option.bind
        (Option.bind (dynposref15_Exists a0 x19) fun x20 =>
          if (!x20) = true then some true
          else
            if decide (x18 > 0) = true then
              Option.bind (idx a1.Broken (W (x18 - 1))) fun x21 =>
                Option.bind (dynposref15_Before x21 x19) fun x22 => some !x22
            else some false)
        fun x23 =>
        if x23 = true then some (.inr (.inr 11)) else some (.inl (W (x18 + 1)))
  else some (.inr (.inl ()))
noncomputable def dynposref15_State_L5 (a1 : Power) (x27 : List
  Int) : Int × Int →
  Option
    (Int × Int ⊕
      Int) := fun x28 =>
  if decide (x28.2 < len x27) = true then
    Option.bind (idx x27 x28.2) fun x29 =>
      Option.bind (idx a1.Closed x29) fun x30 =>
        Option.bind (if x30 = true then some (W (x28.1 + 1)) else some x28.1) fun x31 =>
          some (.inl (x31, W (x28.2 + 1)))
  else some (.inr x28.1)
noncomputable def dynposref15_State_L4 (a0 : Board) (a1 : Power) : Int →
  Option
    (Int ⊕
      Unit ⊕
        Int) := fun x26 =>
  if decide (x26 < len a0.Consumers) = true then
    Option.bind (dynposref15_of a0 3 x26) fun x27 =>
      Option.bind (loopO (dynposref15_State_L5 a1 x27) (0, 0)) fun x32 =>
        if decide (x32 > 1) = true then some (.inr (.inr 11))
        else some (.inl (W (x26 + 1)))
  else some (.inr (.inl ()))
noncomputable def dynposref15_State (a0 : Board) (a1 : Power) : Option (Int) :=
  Option.bind (dynposref15_Check a0) fun x1 =>
    if (x1 != 0) = true then some x1
    else
      Option.bind
        (if (len a1.Closed != len a0.Breakers) = true then some true
        else if (len a1.Sources != len a0.Sources) = true then some true else some (len a1.Limits != len a0.Consumers))
        fun x2 =>
        if x2 = true then some 8
        else
          Option.bind (loopO (dynposref15_State_L1 a1) 0) fun x10 =>
            Sum.elim
              (fun x11 =>
                Option.bind (loopO (dynposref15_State_L2 a0 a1) 0) fun x16 =>
                  Sum.elim
                    (fun x17 =>
                      if decide (len a1.Broken > 32) = true then some 11
                      else
                        Option.bind (loopO (dynposref15_State_L3 a0 a1) 0) fun x24 =>
                          Sum.elim
                            (fun x25 =>
                              Option.bind (loopO (dynposref15_State_L4 a0 a1) 0) fun x33 =>
                                Sum.elim (fun x34 => some 0) (fun x35 => some x35) x33)
                            (fun x36 => some x36) x24)
                    (fun x37 => some x37) x16)
              (fun x38 => some x38) x10
noncomputable def c27 : Con D := ⟨27, [.lf (.int .i64), .lf (.sl 5), .lf (.sl 6), .lf (.sl 7), .lf (.int .i64), .lf (.int .i64), .lf (.sl 1), .lf (.sl 9), .lf (.sl 0), .lf (.sl 10)], [.lf (.int .i64)], [.agg [.h 0 [], .h 1 [0], .h 2 [0], .h 3 [0], .h 4 [], .h 5 []], .agg [.h 6 [0], .h 7 [0], .h 8 [0], .h 9 [0]]], [], [.one (.h 0 [])], [], fun h => dynposref15_State ⟨h.1, h.2.1, h.2.2.1, h.2.2.2.1, h.2.2.2.2.1, h.2.2.2.2.2.1⟩ ⟨h.2.2.2.2.2.2.1, h.2.2.2.2.2.2.2.1, h.2.2.2.2.2.2.2.2.1, h.2.2.2.2.2.2.2.2.2⟩⟩
theorem c27_ok : ConOk Try.prog T c27 := fn_ok (Φ := [c48, c49, c50, c51, c52]) (rs := [.tmp 4]) (an := (.n none .o (.n none .o (.n none (.n none (.r (some (true, [(.normal, ⟨[.lf .bool], [(45, .one (.h 0 []))], [], [], 2576⟩)])) .nil) .o) (.n none (.n none .o (.n none (.loop ⟨[.lf (.int .i64)], [(49, .one (.h 0 []))], [], [], 2897⟩ false [(.exit 0, ⟨[], [], [], [], 2897⟩)] (.n none .o (.n none .o (.n none (.n none (.n none .o (.n none (.r (some (true, [(.normal, ⟨[.lf .bool], [(58, .one (.any)), (59, .one (.any)), (60, .one (.any)), (61, .one (.any)), (64, .one (.any)), (65, .one (.any)), (66, .one (.any)), (67, .one (.any)), (70, .one (.any)), (71, .one (.any)), (72, .one (.any)), (73, .one (.any)), (74, .one (.h 0 []))], [], [], 3282⟩)])) .nil) .o)) .o) .o)))) .o)) (.n none (.n none .o (.n none (.loop ⟨[.lf (.int .i64)], [(79, .one (.h 0 []))], [], [], 3217⟩ false [(.exit 2, ⟨[], [], [], [], 3217⟩)] .o) .o)) (.n none .o (.n none (.n none .o (.n none (.loop ⟨[.lf (.int .i64)], [(101, .one (.h 0 []))], [], [], 3793⟩ false [(.exit 4, ⟨[], [], [], [], 3793⟩)] (.n none .o (.n none .o (.n none (.n none (.n none .o (.n none (.r (some (true, [(.normal, ⟨[.lf .bool], [(111, .one (.any)), (112, .one (.any)), (113, .one (.any)), (114, .one (.any)), (115, .one (.any)), (116, .one (.any)), (117, .one (.any)), (118, .one (.any)), (119, .one (.any)), (120, .one (.any)), (121, .one (.any)), (122, .one (.any)), (123, .one (.any)), (124, .one (.h 0 []))], [], [], 4306⟩)])) .nil) .o)) .o) .o)))) .o)) (.n none (.n none .o (.n none (.loop ⟨[.lf (.int .i64)], [(129, .one (.h 0 []))], [], [], 4113⟩ false [(.exit 6, ⟨[], [], [], [], 4113⟩)] (.n none .o (.n none .o (.n none (.n none (.n none .o (.n none .o (.n none (.n none .o (.n none (.loop ⟨[.lf (.int .i64), .lf (.int .i64)], [(13, .one (.h 0 [])), (136, .one (.h 1 []))], [], [], 4754⟩ true [(.exit 8, ⟨[.lf (.int .i64)], [(13, .one (.h 0 []))], [], [], 4754⟩)] (.n none .o (.n none .o (.n none (.n none (.n none .o (.n none .o (.n (some (true, [(.normal, ⟨[.lf (.int .i64)], [(13, .one (.h 0 []))], [], [], 5396⟩)])) .o .o))) .o) .o)))) .o)) .o))) .o) .o)))) .o)) .o))))))))) pOk repOk (AllC.mem (⟨c48_ok, c49_ok, c50_ok, c51_ok, c52_ok, trivial⟩ : AllC _ _ [c48, c49, c50, c51, c52])) hmix Try.call27 Try.func27 rfl rfl (by kernel_rfl) (fun h => by kernel_rfl)

noncomputable def dynposref15_reach_L2 (a0 : Board) (a1 : Power) : Int × List Bool →
  Option
    (Int × List Bool ⊕
      List
        Bool) := fun x6 =>
  if decide (x6.1 < len a0.Breakers) = true then
    Option.bind (idx a0.Breakers x6.1) fun x7 =>
      Option.bind
        (if (x7.Kind == 1) = true then
          Option.bind (idx a1.Closed x6.1) fun x8 =>
            if x8 = true then
              Option.bind (idx x6.2 x7.A) fun x9 =>
                if x9 = true then some true else Option.bind (idx x6.2 x7.B) fun x10 => some x10
            else some false
        else some false)
        fun x11 =>
        Option.bind
          (if x11 = true then
            Option.bind (idx x6.2 x7.A) fun x12 =>
              Option.bind (idx x6.2 x7.A) fun x13 =>
                Option.bind (setO x6.2 x7.A true) fun x14 =>
                  Option.bind (idx x14 x7.B) fun x15 =>
                    Option.bind (idx x14 x7.B) fun x16 => Option.bind (setO x14 x7.B true) fun x17 => some x17
          else some x6.2)
          fun x18 => some (.inl (W (x6.1 + 1), x18))
  else some (.inr x6.2)
noncomputable def dynposref15_reach_L1 (a0 : Board) (a1 : Power) (x4 : List
  Bool) : Int × List Bool →
  Option
    (Int × List Bool ⊕
      List
        Bool) := fun x5 =>
  if decide (x5.1 < len x4) = true then
    Option.bind (loopO (dynposref15_reach_L2 a0 a1) (0, x5.2)) fun x19 =>
      some (.inl (W (x5.1 + 1), x19))
  else some (.inr x5.2)
noncomputable def dynposref15_reach_L3 (x20 : List
  Bool) : Int × List Int →
  Option
    (Int × List Int ⊕
      List
        Int) := fun x21 =>
  if decide (x21.1 < len x20) = true then
    Option.bind (idx x20 x21.1) fun x22 =>
      Option.bind (if x22 = true then Option.bind (app x21.2 [x21.1]) fun x23 => some x23 else some x21.2)
        fun x24 => some (.inl (W (x21.1 + 1), x24))
  else some (.inr x21.2)
noncomputable def dynposref15_reach (a0 : Board) (a1 : Power) (a2 : Int) : Option ((List Int)) :=
  Option.bind (mkZ false a0.Buses) fun x1 =>
    Option.bind (idx x1 a2) fun x2 =>
      Option.bind (idx x1 a2) fun x3 =>
        Option.bind (setO x1 a2 true) fun x4 =>
          Option.bind (loopO (dynposref15_reach_L1 a0 a1 x4) (0, x4)) fun x20 =>
            Option.bind (loopO (dynposref15_reach_L3 x20) (0, [])) fun x25 => some x25
noncomputable def c74 : Con D := ⟨74, [.lf (.int .i64), .lf (.sl 5), .lf (.sl 6), .lf (.sl 7), .lf (.int .i64), .lf (.int .i64), .lf (.sl 1), .lf (.sl 9), .lf (.sl 0), .lf (.sl 10), .lf (.int .i64)], [.lf (.sl 0)], [.agg [.h 0 [], .h 1 [0], .h 2 [0], .h 3 [0], .h 4 [], .h 5 []], .agg [.h 6 [0], .h 7 [0], .h 8 [0], .h 9 [0]], .one (.h 10 [])], [], [.one (.own 1000)], [(1000, .sl 0 3 0 [])], fun h => dynposref15_reach ⟨h.1, h.2.1, h.2.2.1, h.2.2.2.1, h.2.2.2.2.1, h.2.2.2.2.2.1⟩ ⟨h.2.2.2.2.2.2.1, h.2.2.2.2.2.2.2.1, h.2.2.2.2.2.2.2.2.1, h.2.2.2.2.2.2.2.2.2.1⟩ h.2.2.2.2.2.2.2.2.2.2⟩
theorem c74_ok : ConOk Try.prog T c74 := fn_ok (Φ := []) (rs := [.tmp 6]) (an := (.n none .o (.n none .o (.n none .o (.n none (.n none .o (.n none (.loop ⟨[.lf (.int .i64), .lf (.sl 1)], [(20, .one (.h 0 []))], [(2320, .sl 1 4 1 [])], [2320], 2960⟩ true [(.exit 0, ⟨[.lf (.sl 1)], [], [(2320, .sl 1 4 0 [])], [2320], 2960⟩)] (.n none .o (.n none .o (.n none (.n none (.n none .o (.n none (.loop ⟨[.lf (.int .i64), .lf (.sl 1)], [(25, .one (.h 0 []))], [(2320, .sl 1 4 1 [])], [2320], 3346⟩ true [(.exit 2, ⟨[.lf (.sl 1)], [], [(2320, .sl 1 4 0 [])], [2320], 3346⟩)] (.n none .o (.n none .o (.n none (.n none (.n none .o (.n none (.r (some (true, [(.normal, ⟨[.lf .bool], [(34, .one (.any)), (35, .one (.any)), (36, .one (.any)), (37, .one (.any)), (38, .one (.any)), (41, .one (.any)), (42, .one (.any)), (43, .one (.any)), (44, .one (.any)), (45, .one (.any)), (46, .one (.any)), (47, .one (.any)), (48, .one (.any)), (49, .one (.any)), (50, .one (.any)), (51, .one (.any)), (52, .one (.any)), (53, .one (.h 0 []))], [], [], 3860⟩)])) .nil) (.n (some (true, [(.normal, ⟨[.lf (.sl 1)], [], [(2320, .sl 1 4 0 [])], [2320], 3925⟩)])) .o .o))) .o) .o)))) .o)) .o) .o)))) .o)) (.n none .o (.n none (.n none .o (.n none (.loop ⟨[.lf (.int .i64), .lf (.sl 0)], [(10, .one (.own 3217)), (66, .one (.h 0 []))], [(3217, .sl 0 3 1 [])], [], 3281⟩ true [(.exit 4, ⟨[.lf (.sl 0)], [(10, .one (.own 3217))], [(3217, .sl 0 3 0 [])], [], 3281⟩)] (.n none .o (.n none .o (.n none (.n none (.n none .o (.n none .o (.n (some (true, [(.normal, ⟨[.lf (.sl 0)], [(10, .one (.own 3731))], [(3731, .sl 0 3 0 [])], [3217], 3795⟩)])) .o .o))) .o) .o)))) .o)) .o))))))) pOk repOk (AllC.mem (l := []) trivial) hmix Try.call74 Try.func74 rfl rfl (by kernel_rfl) (fun h => by kernel_rfl)

noncomputable def dynposref15_Connected (a0 : Board) (a1 : Power) (a2 : Int) : Option (Int × Bool) :=
  Option.bind
    (Option.bind (dynposref15_State a0 a1) fun x1 =>
      if (x1 != 0) = true then some true
      else
        if decide (a2 < 0) = true then some true
        else
          if decide (a2 ≥ len a0.Sources) = true then some true
          else Option.bind (idx a1.Sources a2) fun x2 => some (x2.State != 2))
    fun x3 =>
    if x3 = true then some (0, false)
    else
      Option.bind (dynposref15_of a0 2 a2) fun x4 =>
        Option.bind (idx x4 0) fun x5 =>
          Option.bind (idx a1.Closed x5) fun x6 =>
            if (!x6) = true then some (0, false)
            else Option.bind (idx a0.Breakers x5) fun x7 => some (x7.A, true)
noncomputable def c75 : Con D := ⟨75, [.lf (.int .i64), .lf (.sl 5), .lf (.sl 6), .lf (.sl 7), .lf (.int .i64), .lf (.int .i64), .lf (.sl 1), .lf (.sl 9), .lf (.sl 0), .lf (.sl 10), .lf (.int .i64)], [.lf (.int .i64), .lf .bool], [.agg [.h 0 [], .h 1 [0], .h 2 [0], .h 3 [0], .h 4 [], .h 5 []], .agg [.h 6 [0], .h 7 [0], .h 8 [0], .h 9 [0]], .one (.h 10 [])], [], [.one (.h 0 []), .one (.h 1 [])], [], fun h => dynposref15_Connected ⟨h.1, h.2.1, h.2.2.1, h.2.2.2.1, h.2.2.2.2.1, h.2.2.2.2.2.1⟩ ⟨h.2.2.2.2.2.2.1, h.2.2.2.2.2.2.2.1, h.2.2.2.2.2.2.2.2.1, h.2.2.2.2.2.2.2.2.2.1⟩ h.2.2.2.2.2.2.2.2.2.2⟩
theorem c75_ok : ConOk Try.prog T c75 := fn_ok (Φ := [c27, c52]) (rs := [.tmp 6, .tmp 7]) (an := (.n none .o (.n none (.n none (.r (some (true, [(.normal, ⟨[.lf .bool], [(32, .one (.h 0 []))], [], [], 2320⟩)])) .nil) .o) .o))) pOk repOk (AllC.mem (⟨c27_ok, c52_ok, trivial⟩ : AllC _ _ [c27, c52])) hmix Try.call75 Try.func75 rfl rfl (by kernel_rfl) (fun h => by kernel_rfl)

noncomputable def dynposref01_Has_L1 (a0 : List
  Int) (a1 : Int) : Int →
  Option
    (Int ⊕
      Unit ⊕
        Bool) := fun x1 =>
  if decide (x1 < len a0) = true then
    Option.bind (idx a0 x1) fun x2 =>
      if (x2 == a1) = true then some (.inr (.inr true)) else some (.inl (W (x1 + 1)))
  else some (.inr (.inl ()))
noncomputable def dynposref01_Has (a0 : (List Int)) (a1 : Int) : Option (Bool) :=
  Option.bind (loopO (dynposref01_Has_L1 a0 a1) 0) fun x3 =>
    Sum.elim (fun x4 => some false) (fun x5 => some x5) x3
noncomputable def c76 : Con D := ⟨76, [.lf (.sl 0), .lf (.int .i64)], [.lf .bool], [.one (.h 0 [0]), .one (.h 1 [])], [], [.one (.h 0 [])], [], fun h => dynposref01_Has h.1 h.2⟩
theorem c76_ok : ConOk Try.prog T c76 := fn_ok (Φ := []) (rs := [.tmp 4]) (an := (.n none .o (.n none (.n none .o (.n none (.loop ⟨[.lf (.int .i64)], [(9, .one (.h 0 []))], [], [], 2320⟩ false [(.exit 0, ⟨[], [], [], [], 2320⟩)] .o) .o)) .o))) pOk repOk (AllC.mem (l := []) trivial) hmix Try.call76 Try.func76 rfl rfl (by kernel_rfl) (fun h => by kernel_rfl)

noncomputable def dynposref15_Fed_L1 (a0 : Board) (a1 : Power) (x3 : List
  Int) : Int →
  Option
    (Int ⊕
      Unit ⊕
        Int ×
          Bool) := fun x4 =>
  if decide (x4 < len x3) = true then
    Option.bind (idx x3 x4) fun x5 =>
      Option.bind (idx a1.Closed x5) fun x6 =>
        if x6 = true then Option.bind (idx a0.Breakers x5) fun x7 => some (.inr (.inr (x7.A, true)))
        else some (.inl (W (x4 + 1)))
  else some (.inr (.inl ()))
noncomputable def dynposref15_Fed (a0 : Board) (a1 : Power) (a2 : Int) : Option (Int × Bool) :=
  Option.bind
    (Option.bind (dynposref15_State a0 a1) fun x1 =>
      if (x1 != 0) = true then some true
      else if decide (a2 < 0) = true then some true else some (decide (a2 ≥ len a0.Consumers)))
    fun x2 =>
    if x2 = true then some (0, false)
    else
      Option.bind (dynposref15_of a0 3 a2) fun x3 =>
        Option.bind (loopO (dynposref15_Fed_L1 a0 a1 x3) 0) fun x8 =>
          Sum.elim (fun x9 => some (0, false)) (fun x10 => some x10) x8
noncomputable def c77 : Con D := ⟨77, [.lf (.int .i64), .lf (.sl 5), .lf (.sl 6), .lf (.sl 7), .lf (.int .i64), .lf (.int .i64), .lf (.sl 1), .lf (.sl 9), .lf (.sl 0), .lf (.sl 10), .lf (.int .i64)], [.lf (.int .i64), .lf .bool], [.agg [.h 0 [], .h 1 [0], .h 2 [0], .h 3 [0], .h 4 [], .h 5 []], .agg [.h 6 [0], .h 7 [0], .h 8 [0], .h 9 [0]], .one (.h 10 [])], [], [.one (.h 0 []), .one (.h 1 [])], [], fun h => dynposref15_Fed ⟨h.1, h.2.1, h.2.2.1, h.2.2.2.1, h.2.2.2.2.1, h.2.2.2.2.2.1⟩ ⟨h.2.2.2.2.2.2.1, h.2.2.2.2.2.2.2.1, h.2.2.2.2.2.2.2.2.1, h.2.2.2.2.2.2.2.2.2.1⟩ h.2.2.2.2.2.2.2.2.2.2⟩
theorem c77_ok : ConOk Try.prog T c77 := fn_ok (Φ := [c27, c52]) (rs := [.tmp 6, .tmp 7]) (an := (.n none .o (.n none (.n none (.r (some (true, [(.normal, ⟨[.lf .bool], [(24, .one (.h 0 []))], [], [], 2320⟩)])) .nil) .o) (.n none (.n none .o (.n none (.loop ⟨[.lf (.int .i64)], [(29, .one (.h 0 []))], [], [], 2705⟩ false [(.exit 0, ⟨[], [], [], [], 2705⟩)] .o) .o)) .o)))) pOk repOk (AllC.mem (⟨c27_ok, c52_ok, trivial⟩ : AllC _ _ [c27, c52])) hmix Try.call77 Try.func77 rfl rfl (by kernel_rfl) (fun h => by kernel_rfl)

noncomputable def dynposref15_Of_L1 (a0 : Board) (a1 : Power) (x3 : List
  Int) : Int × List Int →
  Option
    (Int × List Int ⊕
      List
        Int) := fun x4 =>
  if decide (x4.1 < len a0.Sources) = true then
    Option.bind (dynposref15_Connected a0 a1 x4.1) fun x5 =>
      Option.bind (if x5.2 = true then Option.bind (dynposref01_Has x3 x5.1) fun x6 => some x6 else some false)
        fun x7 =>
        Option.bind (if x7 = true then Option.bind (app x4.2 [x4.1]) fun x8 => some x8 else some x4.2) fun x9 =>
          some (.inl (W (x4.1 + 1), x9))
  else some (.inr x4.2)
noncomputable def dynposref15_Of_L2 (a0 : Board) (a1 : Power) (x3 : List
  Int) : Int × List Int →
  Option
    (Int × List Int ⊕
      List
        Int) := fun x11 =>
  if decide (x11.1 < len a0.Consumers) = true then
    Option.bind (dynposref15_Fed a0 a1 x11.1) fun x12 =>
      Option.bind (if x12.2 = true then Option.bind (dynposref01_Has x3 x12.1) fun x13 => some x13 else some false)
        fun x14 =>
        Option.bind (if x14 = true then Option.bind (app x11.2 [x11.1]) fun x15 => some x15 else some x11.2)
          fun x16 => some (.inl (W (x11.1 + 1), x16))
  else some (.inr x11.2)
noncomputable def dynposref15_Of (a0 : Board) (a1 : Power) (a2 : Int) : Option (Bool × (List Int) × (List Int) × (List Int)) :=
  Option.bind
    (Option.bind (dynposref15_State a0 a1) fun x1 =>
      if (x1 != 0) = true then some true
      else if decide (a2 < 0) = true then some true else some (decide (a2 ≥ a0.Buses)))
    fun x2 =>
    if x2 = true then some (false, [], [], [])
    else
      Option.bind (dynposref15_reach a0 a1 a2) fun x3 =>
        Option.bind (loopO (dynposref15_Of_L1 a0 a1 x3) (0, [])) fun x10 =>
          Option.bind (loopO (dynposref15_Of_L2 a0 a1 x3) (0, [])) fun x17 => some (true, x3, x10, x17)
noncomputable def c40 : Con D := ⟨40, [.lf (.int .i64), .lf (.sl 5), .lf (.sl 6), .lf (.sl 7), .lf (.int .i64), .lf (.int .i64), .lf (.sl 1), .lf (.sl 9), .lf (.sl 0), .lf (.sl 10), .lf (.int .i64)], [.lf .bool, .lf (.sl 0), .lf (.sl 0), .lf (.sl 0)], [.agg [.h 0 [], .h 1 [0], .h 2 [0], .h 3 [0], .h 4 [], .h 5 []], .agg [.h 6 [0], .h 7 [0], .h 8 [0], .h 9 [0]], .one (.h 10 [])], [], [.agg [.own 1000, .own 1001, .own 1002], .one (.h 0 [])], [(1000, .sl 0 3 1 []), (1001, .sl 0 3 2 []), (1002, .sl 0 3 3 [])], fun h => dynposref15_Of ⟨h.1, h.2.1, h.2.2.1, h.2.2.2.1, h.2.2.2.2.1, h.2.2.2.2.2.1⟩ ⟨h.2.2.2.2.2.2.1, h.2.2.2.2.2.2.2.1, h.2.2.2.2.2.2.2.2.1, h.2.2.2.2.2.2.2.2.2.1⟩ h.2.2.2.2.2.2.2.2.2.2⟩
theorem c40_ok : ConOk Try.prog T c40 := fn_ok (Φ := [c27, c74, c75, c76, c77]) (rs := [.cell 6 44, .tmp 7]) (an := (.n none .o (.n none (.n none (.r (some (true, [(.normal, ⟨[.lf .bool], [(28, .one (.h 0 []))], [], [], 2320⟩)])) .nil) .o) (.n none .o (.n none (.n none .o (.n none (.loop ⟨[.lf (.int .i64), .lf (.sl 0)], [(38, .one (.h 0 []))], [(2641, .box [.own 2521, .own 3025, .nils]), (3025, .sl 0 3 1 [])], [2641], 3089⟩ true [(.exit 0, ⟨[.lf (.sl 0)], [], [(2641, .box [.own 2521, .own 3025, .nils]), (3025, .sl 0 3 0 [])], [2641], 3089⟩)] (.n none .o (.n none .o (.n none (.n none (.n none .o (.n none .o (.n none (.r (some (true, [(.normal, ⟨[.lf .bool], [(50, .one (.any)), (51, .one (.any)), (52, .one (.any)), (53, .one (.any)), (54, .one (.h 0 []))], [], [], 3923⟩)])) .nil) (.n (some (true, [(.normal, ⟨[.lf (.sl 0)], [], [(2641, .box [.own 2521, .own 3924, .nils]), (3924, .sl 0 3 0 [])], [2641, 3025], 3988⟩)])) .o .o)))) .o) .o)))) .o)) (.n none (.n none .o (.n none (.loop ⟨[.lf (.int .i64), .lf (.sl 0)], [(65, .one (.h 0 []))], [(2641, .box [.own 2521, .own 3025, .own 3346]), (3346, .sl 0 3 1 [])], [2641], 3410⟩ true [(.exit 2, ⟨[.lf (.sl 0)], [], [(2641, .box [.own 2521, .own 3025, .own 3346]), (3346, .sl 0 3 0 [])], [2641], 3410⟩)] (.n none .o (.n none .o (.n none (.n none (.n none .o (.n none .o (.n none (.r (some (true, [(.normal, ⟨[.lf .bool], [(77, .one (.any)), (78, .one (.any)), (79, .one (.any)), (80, .one (.any)), (81, .one (.h 0 []))], [], [], 4244⟩)])) .nil) (.n (some (true, [(.normal, ⟨[.lf (.sl 0)], [], [(2641, .box [.own 2521, .own 3025, .own 4245]), (4245, .sl 0 3 0 [])], [2641, 3346], 4309⟩)])) .o .o)))) .o) .o)))) .o)) .o)))))) pOk repOk (AllC.mem (⟨c27_ok, c74_ok, c75_ok, c76_ok, c77_ok, trivial⟩ : AllC _ _ [c27, c74, c75, c76, c77])) hmix Try.call40 Try.func40 rfl rfl (by kernel_rfl) (fun h => by kernel_rfl)

noncomputable def dynposref15_Islands_L1 (a0 : Board) (a1 : Power) : Int × List Island →
  Option
    (Int × List Island ⊕
      List
        Island) := fun x2 =>
  if decide (x2.1 < a0.Buses) = true then
    Option.bind (dynposref15_Of a0 a1 x2.1) fun x3 =>
      Option.bind (idx x3.2.1 0) fun x4 =>
        Option.bind
          (if (x4 == x2.1) = true then
            Option.bind (app x2.2 [Island.mk x3.2.1 x3.2.2.1 x3.2.2.2]) fun x5 => some x5
          else some x2.2)
          fun x6 => some (.inl (W (x2.1 + 1), x6))
  else some (.inr x2.2)
noncomputable def dynposref15_Islands (a0 : Board) (a1 : Power) : Option ((List Island)) :=
  Option.bind (dynposref15_State a0 a1) fun x1 =>
    if (x1 != 0) = true then some []
    else Option.bind (loopO (dynposref15_Islands_L1 a0 a1) (0, [])) fun x7 => some x7
noncomputable def c14 : Con D := ⟨14, [.lf (.int .i64), .lf (.sl 5), .lf (.sl 6), .lf (.sl 7), .lf (.int .i64), .lf (.int .i64), .lf (.sl 1), .lf (.sl 9), .lf (.sl 0), .lf (.sl 10)], [.lf (.sl 12)], [.agg [.h 0 [], .h 1 [0], .h 2 [0], .h 3 [0], .h 4 [], .h 5 []], .agg [.h 6 [0], .h 7 [0], .h 8 [0], .h 9 [0]]], [], [.one (.own 1000)], [(1000, .sl 12 44 0 [1])], fun h => dynposref15_Islands ⟨h.1, h.2.1, h.2.2.1, h.2.2.2.1, h.2.2.2.2.1, h.2.2.2.2.2.1⟩ ⟨h.2.2.2.2.2.2.1, h.2.2.2.2.2.2.2.1, h.2.2.2.2.2.2.2.2.1, h.2.2.2.2.2.2.2.2.2⟩⟩
theorem c14_ok : ConOk Try.prog T c14 := fn_ok (Φ := [c27, c40]) (rs := [.tmp 4]) (an := (.n none .o (.n none .o (.n none .o (.n none (.n none .o (.n none (.loop ⟨[.lf (.int .i64), .lf (.sl 12)], [(5, .one (.own 2576)), (6, .one (.h 0 []))], [(2576, .sl 12 44 1 [1])], [], 2640⟩ true [(.exit 0, ⟨[.lf (.sl 12)], [(5, .one (.own 2576))], [(2576, .sl 12 44 0 [1])], [], 2640⟩)] (.n none .o (.n none (.n none (.n none .o (.n none .o (.n (some (true, [(.normal, ⟨[.lf (.sl 12)], [(5, .one (.own 3922))], [(3922, .sl 12 44 0 [1])], [2576, 3098, 3099, 3100], 3986⟩)])) .o .o))) .o) .o))) .o)) .o))))) pOk repOk (AllC.mem (⟨c27_ok, c40_ok, trivial⟩ : AllC _ _ [c27, c40])) hmix Try.call14 Try.func14 rfl rfl (by kernel_rfl) (fun h => by kernel_rfl)

noncomputable def board_Of_L1 (a2 : Int) (x1 : List
  Island) : Int →
  Option
    (Int ⊕
      Unit ⊕
        List Int ×
          List Int ×
            List Int ×
              Bool) := fun x2 =>
  if decide (x2 < len x1) = true then
    Option.bind (idx x1 x2) fun x3 =>
      Option.bind (slices_Contains_int_int x3.Buses a2) fun x4 =>
        if x4 = true then some (.inr (.inr (x3.Buses, x3.Sources, x3.Consumers, true)))
        else some (.inl (W (x2 + 1)))
  else some (.inr (.inl ()))
noncomputable def board_Of (a0 : Board) (a1 : Power) (a2 : Int) : Option ((List Int) × (List Int) × (List Int) × Bool) :=
  Option.bind (board_Islands a0 a1) fun x1 =>
    Option.bind (loopO (board_Of_L1 a2 x1) 0) fun x5 =>
      Sum.elim (fun x6 => some ([], [], [], false)) (fun x7 => some x7) x5
noncomputable def c41 : Con D := ⟨41, [.lf (.int .i64), .lf (.sl 5), .lf (.sl 6), .lf (.sl 7), .lf (.int .i64), .lf (.int .i64), .lf (.sl 1), .lf (.sl 9), .lf (.sl 0), .lf (.sl 10), .lf (.int .i64)], [.lf (.sl 0), .lf (.sl 0), .lf (.sl 0), .lf .bool], [.agg [.h 0 [], .h 1 [0], .h 2 [0], .h 3 [0], .h 4 [], .h 5 []], .agg [.h 6 [0], .h 7 [0], .h 8 [0], .h 9 [0]], .one (.h 10 [])], [], [.agg [.h 0 [1], .h 1 [1], .h 2 [1]], .one (.h 3 [])], [], fun h => board_Of ⟨h.1, h.2.1, h.2.2.1, h.2.2.2.1, h.2.2.2.2.1, h.2.2.2.2.2.1⟩ ⟨h.2.2.2.2.2.2.1, h.2.2.2.2.2.2.2.1, h.2.2.2.2.2.2.2.2.1, h.2.2.2.2.2.2.2.2.2.1⟩ h.2.2.2.2.2.2.2.2.2.2⟩
theorem c41_ok : ConOk Try.prog T c41 := fn_ok (Φ := [c36, c45]) (rs := [.cell 6 44, .tmp 7]) (an := (.n none .o (.n none (.n none .o (.n none (.loop ⟨[.lf (.int .i64)], [(14, .one (.h 0 []))], [(2128, .box [.nils, .nils, .nils])], [2128], 2640⟩ false [(.exit 0, ⟨[], [], [(2128, .box [.nils, .nils, .nils])], [2128], 2640⟩)] .o) .o)) .o))) pOk repOk (AllC.mem (⟨c36_ok, c45_ok, trivial⟩ : AllC _ _ [c36, c45])) hmix Try.call41 Try.func41 rfl rfl (by kernel_rfl) (fun h => by kernel_rfl)

noncomputable def sync_Leader (a0 : Board) (a1 : Power) (a2 : Int) : Option (Int × Bool) :=
  Option.bind (board_Of a0 a1 a2) fun x1 =>
    if (len x1.2.1 == 0) = true then some (0, false)
    else Option.bind (idx x1.2.1 0) fun x2 => some (x2, true)
noncomputable def c15 : Con D := ⟨15, [.lf (.int .i64), .lf (.sl 5), .lf (.sl 6), .lf (.sl 7), .lf (.int .i64), .lf (.int .i64), .lf (.sl 1), .lf (.sl 9), .lf (.sl 0), .lf (.sl 10), .lf (.int .i64)], [.lf (.int .i64), .lf .bool], [.agg [.h 0 [], .h 1 [0], .h 2 [0], .h 3 [0], .h 4 [], .h 5 []], .agg [.h 6 [0], .h 7 [0], .h 8 [0], .h 9 [0]], .one (.h 10 [])], [], [.one (.h 0 []), .one (.h 1 [])], [], fun h => sync_Leader ⟨h.1, h.2.1, h.2.2.1, h.2.2.2.1, h.2.2.2.2.1, h.2.2.2.2.2.1⟩ ⟨h.2.2.2.2.2.2.1, h.2.2.2.2.2.2.2.1, h.2.2.2.2.2.2.2.2.1, h.2.2.2.2.2.2.2.2.2.1⟩ h.2.2.2.2.2.2.2.2.2.2⟩
theorem c15_ok : ConOk Try.prog T c15 := fn_ok (Φ := [c41]) (rs := [.tmp 6, .tmp 7]) (an := .o) pOk repOk (AllC.mem (⟨c41_ok, trivial⟩ : AllC _ _ [c41])) hmix Try.call15 Try.func15 rfl rfl (by kernel_rfl) (fun h => by kernel_rfl)

noncomputable def angle_Diff (a0 : Int) (a1 : Int) : Option (Int) :=
  Option.bind (angle_Norm a1) fun x1 =>
    Option.bind (angle_Norm a0) fun x2 =>
      Option.bind (angle_Norm (W (x1 - x2))) fun x3 =>
        Option.bind (if decide (x3 > 1800) = true then some (W (x3 - 3600)) else some x3) fun x4 =>
          some x4
noncomputable def c42 : Con D := ⟨42, [.lf (.int .i64), .lf (.int .i64)], [.lf (.int .i64)], [.one (.h 0 []), .one (.h 1 [])], [], [.one (.h 0 [])], [], fun h => angle_Diff h.1 h.2⟩
theorem c42_ok : ConOk Try.prog T c42 := fn_ok (Φ := [c38]) (rs := [.tmp 4]) (an := (.n none .o (.n none .o (.n none (.n none .o (.n (some (true, [(.normal, ⟨[.lf (.int .i64)], [(5, .one (.h 0 []))], [], [], 2704⟩)])) .o .o)) .o)))) pOk repOk (AllC.mem (⟨c38_ok, trivial⟩ : AllC _ _ [c38])) hmix Try.call42 Try.func42 rfl rfl (by kernel_rfl) (fun h => by kernel_rfl)

noncomputable def sync_Agree (a0 : Board) (a1 : Running) (a2 : Running) : Option (Bool) :=
  Option.bind
    (if decide (imin a1.Frequency a2.Frequency < 0) = true then some true
    else some (decide (imax a1.Frequency a2.Frequency > 6000)))
    fun x1 =>
    if x1 = true then some false
    else
      Option.bind (angle_Diff a1.Phase a2.Phase) fun x2 =>
        Option.bind
          (if
              decide (imax (W (a1.Frequency - a2.Frequency)) (W (a2.Frequency - a1.Frequency)) ≤ a0.Frequency) =
                true then
            some (decide (imax x2 (W (-x2)) ≤ a0.Phase))
          else some false)
          fun x3 => some x3
noncomputable def c16 : Con D := ⟨16, [.lf (.int .i64), .lf (.sl 5), .lf (.sl 6), .lf (.sl 7), .lf (.int .i64), .lf (.int .i64), .lf (.int .i64), .lf (.int .i64), .lf (.int .i64), .lf (.int .i64), .lf (.int .i64), .lf (.int .i64), .lf (.int .i64), .lf (.int .i64)], [.lf .bool], [.agg [.h 0 [], .h 1 [0], .h 2 [0], .h 3 [0], .h 4 [], .h 5 []], .agg [.h 6 [], .h 7 [], .h 8 [], .h 9 []], .agg [.h 10 [], .h 11 [], .h 12 [], .h 13 []]], [], [.one (.h 0 [])], [], fun h => sync_Agree ⟨h.1, h.2.1, h.2.2.1, h.2.2.2.1, h.2.2.2.2.1, h.2.2.2.2.2.1⟩ ⟨h.2.2.2.2.2.2.1, h.2.2.2.2.2.2.2.1, h.2.2.2.2.2.2.2.2.1, h.2.2.2.2.2.2.2.2.2.1⟩ ⟨h.2.2.2.2.2.2.2.2.2.2.1, h.2.2.2.2.2.2.2.2.2.2.2.1, h.2.2.2.2.2.2.2.2.2.2.2.2.1, h.2.2.2.2.2.2.2.2.2.2.2.2.2⟩⟩
theorem c16_ok : ConOk Try.prog T c16 := fn_ok (Φ := [c42]) (rs := [.tmp 6]) (an := (.n none .o (.n none (.n none (.r (some (true, [(.normal, ⟨[.lf .bool], [(22, .one (.h 0 []))], [], [], 2320⟩)])) .nil) .o) (.n none .o (.n none .o (.n none (.r (some (true, [(.normal, ⟨[.lf .bool], [(6, .one (.h 0 []))], [], [], 3537⟩)])) .nil) .o)))))) pOk repOk (AllC.mem (⟨c42_ok, trivial⟩ : AllC _ _ [c42])) hmix Try.call16 Try.func16 rfl rfl (by kernel_rfl) (fun h => by kernel_rfl)

noncomputable def dynposlaw16_pair : Option (Int × Int × Int × (List Breaker) × (List Source) × (List Bool) × (List Running)) := some
  (2, 50, 0,
    [Breaker.mk 1 0 1, Breaker.mk 2 0 0,
      Breaker.mk 2 1 1],
    [Source.mk 100 0 0, Source.mk 100 0 0],
    [false, true, true],
    [Running.mk 2 0 5000 10,
      Running.mk 2 0 5000 100])
noncomputable def c18 : Con D := ⟨18, [], [.lf (.int .i64), .lf (.int .i64), .lf (.int .i64), .lf (.sl 5), .lf (.sl 6), .lf (.sl 1), .lf (.sl 9)], [], [], [.agg [.h 0 [], .own 1000, .own 1001, .nils, .h 1 [], .h 2 []], .agg [.own 1002, .own 1003, .nils, .nils]], [(1000, .sl 5 59 3 []), (1001, .sl 6 76 4 []), (1002, .sl 1 4 5 []), (1003, .sl 9 48 6 [])], fun h => dynposlaw16_pair⟩
theorem c18_ok : ConOk Try.prog T c18 := fn_ok (Φ := []) (rs := [.cell 0 29, .cell 1 34]) (an := .o) pOk repOk (AllC.mem (l := []) trivial) hmix Try.call18 Try.func18 rfl rfl (by kernel_rfl) (fun h => by kernel_rfl)

noncomputable def board_Connected (a0 : Board) (a1 : Power) (a2 : Int) : Option (Int × Bool) :=
  Option.bind (board_State a0 a1) fun x1 =>
    if (x1 != 0) = true then some (0, false)
    else Option.bind (board_connected a0 a1 a2) fun x2 => some (x2.1, x2.2)
noncomputable def c55 : Con D := ⟨55, [.lf (.int .i64), .lf (.sl 5), .lf (.sl 6), .lf (.sl 7), .lf (.int .i64), .lf (.int .i64), .lf (.sl 1), .lf (.sl 9), .lf (.sl 0), .lf (.sl 10), .lf (.int .i64)], [.lf (.int .i64), .lf .bool], [.agg [.h 0 [], .h 1 [0], .h 2 [0], .h 3 [0], .h 4 [], .h 5 []], .agg [.h 6 [0], .h 7 [0], .h 8 [0], .h 9 [0]], .one (.h 10 [])], [], [.one (.h 0 []), .one (.h 1 [])], [], fun h => board_Connected ⟨h.1, h.2.1, h.2.2.1, h.2.2.2.1, h.2.2.2.2.1, h.2.2.2.2.2.1⟩ ⟨h.2.2.2.2.2.2.1, h.2.2.2.2.2.2.2.1, h.2.2.2.2.2.2.2.2.1, h.2.2.2.2.2.2.2.2.2.1⟩ h.2.2.2.2.2.2.2.2.2.2⟩
theorem c55_ok : ConOk Try.prog T c55 := fn_ok (Φ := [c34, c70]) (rs := [.tmp 6, .tmp 7]) (an := .o) pOk repOk (AllC.mem (⟨c34_ok, c70_ok, trivial⟩ : AllC _ _ [c34, c70])) hmix Try.call55 Try.func55 rfl rfl (by kernel_rfl) (fun h => by kernel_rfl)

noncomputable def sync_Match (a0 : Board) (a1 : Power) (a2 : Int) (a3 : Int) : Option (Int × (List Bool) × (List Running) × (List Int) × (List Part)) :=
  Option.bind (board_State a0 a1) fun x1 =>
    if (x1 != 0) = true then some (x1, [], [], [], [])
    else
      Option.bind
        (if decide (a2 < 0) = true then some true
        else
          if decide (a2 ≥ len a0.Sources) = true then some true
          else if decide (a3 < 0) = true then some true else some (decide (a3 ≥ a0.Buses)))
        fun x2 =>
        if x2 = true then some (10, [], [], [], [])
        else
          Option.bind (sync_Leader a0 a1 a3) fun x3 =>
            Option.bind
              (if (!x3.2) = true then some true
              else Option.bind (idx a1.Sources a2) fun x4 => some (x4.State != 2))
              fun x5 =>
              if x5 = true then some (11, [], [], [], [])
              else
                Option.bind (states_Clone a1) fun x6 =>
                  Option.bind (board_Connected a0 a1 a2) fun x7 =>
                    Option.bind
                      (if x7.2 = true then Option.bind (board_Of a0 a1 x7.1) fun x8 => some x8.2.1
                      else some [a2])
                      fun x9 =>
                      Option.bind (idx a1.Sources x3.1) fun x10 =>
                        Option.bind (sync_set (Power.mk x6.1 x6.2.1 x6.2.2.1 x6.2.2.2) x9 x10)
                          fun x11 => some (0, x11.1, x11.2.1, x11.2.2.1, x11.2.2.2)
noncomputable def c30 : Con D := ⟨30, [.lf (.int .i64), .lf (.sl 5), .lf (.sl 6), .lf (.sl 7), .lf (.int .i64), .lf (.int .i64), .lf (.sl 1), .lf (.sl 9), .lf (.sl 0), .lf (.sl 10), .lf (.int .i64), .lf (.int .i64)], [.lf (.int .i64), .lf (.sl 1), .lf (.sl 9), .lf (.sl 0), .lf (.sl 10)], [.agg [.h 0 [], .h 1 [0], .h 2 [0], .h 3 [0], .h 4 [], .h 5 []], .agg [.h 6 [0], .h 7 [0], .h 8 [0], .h 9 [0]], .one (.h 10 []), .one (.h 11 [])], [], [.agg [.own 1000, .own 1001, .own 1002, .own 1003], .one (.h 0 [])], [(1000, .sl 1 4 1 [1]), (1001, .sl 9 48 2 [1]), (1002, .sl 0 3 3 [1]), (1003, .sl 10 65 4 [1])], fun h => sync_Match ⟨h.1, h.2.1, h.2.2.1, h.2.2.2.1, h.2.2.2.2.1, h.2.2.2.2.2.1⟩ ⟨h.2.2.2.2.2.2.1, h.2.2.2.2.2.2.2.1, h.2.2.2.2.2.2.2.2.1, h.2.2.2.2.2.2.2.2.2.1⟩ h.2.2.2.2.2.2.2.2.2.2.1 h.2.2.2.2.2.2.2.2.2.2.2⟩
theorem c30_ok : ConOk Try.prog T c30 := fn_ok (Φ := [c15, c34, c35, c37, c41, c55]) (rs := [.cell 8 34, .tmp 9]) (an := (.n none .o (.n none .o (.n none (.n none (.r (some (true, [(.normal, ⟨[.lf .bool], [(44, .one (.h 0 []))], [], [], 2704⟩)])) .nil) .o) (.n none .o (.n none (.n none (.r (some (true, [(.normal, ⟨[.lf .bool], [(63, .one (.h 0 []))], [], [], 3345⟩)])) .nil) .o) (.n none .o (.n none .o (.n none (.n none .o (.n none .o (.n (some (true, [(.normal, ⟨[.lf (.sl 0)], [(14, .one (.h 0 [1]))], [], [3666], 4498⟩)])) .o .o))) .o))))))))) pOk repOk (AllC.mem (⟨c15_ok, c34_ok, c35_ok, c37_ok, c41_ok, c55_ok, trivial⟩ : AllC _ _ [c15, c34, c35, c37, c41, c55])) hmix Try.call30 Try.func30 rfl rfl (by kernel_rfl) (fun h => by kernel_rfl)

noncomputable def slices_Index_Part_Part_L1 (a0 : List
  Part) (a1 : Part) : Int →
  Option
    (Int ⊕
      Unit ⊕
        Int) := fun x1 =>
  if decide (x1 < len a0) = true then
    Option.bind (idx a0 x1) fun x2 =>
      if (a1.Kind == x2.Kind && a1.Number == x2.Number) = true then some (.inr (.inr x1))
      else some (.inl (W (x1 + 1)))
  else some (.inr (.inl ()))
noncomputable def slices_Index_Part_Part (a0 : (List Part)) (a1 : Part) : Option (Int) :=
  Option.bind (loopO (slices_Index_Part_Part_L1 a0 a1) 0) fun x3 =>
    Sum.elim (fun x4 => some (-1)) (fun x5 => some x5) x3
noncomputable def c94 : Con D := ⟨94, [.lf (.sl 10), .lf (.int .i64), .lf (.int .i64)], [.lf (.int .i64)], [.one (.h 0 [0]), .agg [.h 1 [], .h 2 []]], [], [.one (.h 0 [])], [], fun h => slices_Index_Part_Part h.1 ⟨h.2.1, h.2.2⟩⟩
theorem c94_ok : ConOk Try.prog T c94 := fn_ok (Φ := []) (rs := [.tmp 4]) (an := (.n none .o (.n none (.n none .o (.n none (.loop ⟨[.lf (.int .i64)], [(8, .one (.h 0 []))], [], [], 2384⟩ false [(.exit 0, ⟨[], [], [], [], 2384⟩)] .o) .o)) .o))) pOk repOk (AllC.mem (l := []) trivial) hmix Try.call94 Try.func94 rfl rfl (by kernel_rfl) (fun h => by kernel_rfl)

noncomputable def slices_Contains_Part_Part (a0 : (List Part)) (a1 : Part) : Option (Bool) := Option.bind (slices_Index_Part_Part a0 a1) fun x1 => some (decide (x1 ≥ 0))
noncomputable def c80 : Con D := ⟨80, [.lf (.sl 10), .lf (.int .i64), .lf (.int .i64)], [.lf .bool], [.one (.h 0 [0]), .agg [.h 1 [], .h 2 []]], [], [.one (.h 0 [])], [], fun h => slices_Contains_Part_Part h.1 ⟨h.2.1, h.2.2⟩⟩
theorem c80_ok : ConOk Try.prog T c80 := fn_ok (Φ := [c94]) (rs := [.tmp 4]) (an := .o) pOk repOk (AllC.mem (⟨c94_ok, trivial⟩ : AllC _ _ [c94])) hmix Try.call80 Try.func80 rfl rfl (by kernel_rfl) (fun h => by kernel_rfl)

noncomputable def board_Broken (a0 : Power) (a1 : Int) (a2 : Int) : Option (Bool) := Option.bind (slices_Contains_Part_Part a0.Broken (Part.mk a1 a2)) fun x1 => some x1
noncomputable def c47 : Con D := ⟨47, [.lf (.sl 1), .lf (.sl 9), .lf (.sl 0), .lf (.sl 10), .lf (.int .i64), .lf (.int .i64)], [.lf .bool], [.agg [.h 0 [0], .h 1 [0], .h 2 [0], .h 3 [0]], .one (.h 4 []), .one (.h 5 [])], [], [.one (.h 0 [])], [], fun h => board_Broken ⟨h.1, h.2.1, h.2.2.1, h.2.2.2.1⟩ h.2.2.2.2.1 h.2.2.2.2.2⟩
theorem c47_ok : ConOk Try.prog T c47 := fn_ok (Φ := [c80]) (rs := [.tmp 6]) (an := .o) pOk repOk (AllC.mem (⟨c80_ok, trivial⟩ : AllC _ _ [c80])) hmix Try.call47 Try.func47 rfl rfl (by kernel_rfl) (fun h => by kernel_rfl)

noncomputable def board_Fed (a0 : Board) (a1 : Power) (a2 : Int) : Option (Int × Bool) :=
  Option.bind (board_State a0 a1) fun x1 =>
    if (x1 != 0) = true then some (0, false)
    else Option.bind (board_fed a0 a1 a2) fun x2 => some (x2.1, x2.2)
noncomputable def c78 : Con D := ⟨78, [.lf (.int .i64), .lf (.sl 5), .lf (.sl 6), .lf (.sl 7), .lf (.int .i64), .lf (.int .i64), .lf (.sl 1), .lf (.sl 9), .lf (.sl 0), .lf (.sl 10), .lf (.int .i64)], [.lf (.int .i64), .lf .bool], [.agg [.h 0 [], .h 1 [0], .h 2 [0], .h 3 [0], .h 4 [], .h 5 []], .agg [.h 6 [0], .h 7 [0], .h 8 [0], .h 9 [0]], .one (.h 10 [])], [], [.one (.h 0 []), .one (.h 1 [])], [], fun h => board_Fed ⟨h.1, h.2.1, h.2.2.1, h.2.2.2.1, h.2.2.2.2.1, h.2.2.2.2.2.1⟩ ⟨h.2.2.2.2.2.2.1, h.2.2.2.2.2.2.2.1, h.2.2.2.2.2.2.2.2.1, h.2.2.2.2.2.2.2.2.2.1⟩ h.2.2.2.2.2.2.2.2.2.2⟩
theorem c78_ok : ConOk Try.prog T c78 := fn_ok (Φ := [c34, c71]) (rs := [.tmp 6, .tmp 7]) (an := .o) pOk repOk (AllC.mem (⟨c34_ok, c71_ok, trivial⟩ : AllC _ _ [c34, c71])) hmix Try.call78 Try.func78 rfl rfl (by kernel_rfl) (fun h => by kernel_rfl)

noncomputable def sync_sound (a0 : Board) (a1 : Power) (a2 : Int) : Option (Bool) :=
  Option.bind (idx a0.Breakers a2) fun x1 =>
    Option.bind
      (Option.bind (idx a1.Closed a2) fun x2 =>
        if x2 = true then some true
        else
          Option.bind (board_Broken a1 2 a2) fun x3 =>
            if x3 = true then some true else Option.bind (board_Broken a1 3 x1.A) fun x4 => some x4)
      fun x5 =>
      if x5 = true then some false
      else
        if (x1.Kind == 1) = true then Option.bind (board_Broken a1 3 x1.B) fun x12 => some !x12
        else
          if (x1.Kind == 2) = true then
            Option.bind
              (Option.bind (board_Broken a1 1 x1.B) fun x9 =>
                if (!x9) = true then Option.bind (idx a1.Sources x1.B) fun x10 => some (x10.State == 2)
                else some false)
              fun x11 => some x11
          else
            Option.bind (board_Fed a0 a1 x1.B) fun x6 =>
              Option.bind
                (Option.bind (board_Broken a1 4 x1.B) fun x7 =>
                  if (!x7) = true then some !x6.2 else some false)
                fun x8 => some x8
noncomputable def c44 : Con D := ⟨44, [.lf (.int .i64), .lf (.sl 5), .lf (.sl 6), .lf (.sl 7), .lf (.int .i64), .lf (.int .i64), .lf (.sl 1), .lf (.sl 9), .lf (.sl 0), .lf (.sl 10), .lf (.int .i64)], [.lf .bool], [.agg [.h 0 [], .h 1 [0], .h 2 [0], .h 3 [0], .h 4 [], .h 5 []], .agg [.h 6 [0], .h 7 [0], .h 8 [0], .h 9 [0]], .one (.h 10 [])], [], [.one (.h 0 [])], [], fun h => sync_sound ⟨h.1, h.2.1, h.2.2.1, h.2.2.2.1, h.2.2.2.2.1, h.2.2.2.2.2.1⟩ ⟨h.2.2.2.2.2.2.1, h.2.2.2.2.2.2.2.1, h.2.2.2.2.2.2.2.2.1, h.2.2.2.2.2.2.2.2.2.1⟩ h.2.2.2.2.2.2.2.2.2.2⟩
theorem c44_ok : ConOk Try.prog T c44 := fn_ok (Φ := [c47, c78]) (rs := [.tmp 6]) (an := (.n none .o (.n none .o (.n none (.n none (.r (some (true, [(.normal, ⟨[.lf .bool], [(30, .one (.h 0 []))], [], [], 2704⟩)])) .nil) .o) (.n none (.n none .o (.n none (.n none .o (.n none .o (.n none .o (.n none (.n none (.r (some (true, [(.normal, ⟨[.lf .bool], [(6, .one (.h 0 []))], [], [], 3153⟩)])) .nil) .o) .o)))) .o)) (.n none .o (.n none (.r (some (true, [(.normal, ⟨[.lf .bool], [(6, .one (.h 0 []))], [], [], 3793⟩)])) .nil) .o))))))) pOk repOk (AllC.mem (⟨c47_ok, c78_ok, trivial⟩ : AllC _ _ [c47, c78])) hmix Try.call44 Try.func44 rfl rfl (by kernel_rfl) (fun h => by kernel_rfl)

noncomputable def sync_synchronous (a0 : Board) (a1 : Power) (a2 : Breaker) : Option (Bool) :=
  Option.bind (sync_Leader a0 a1 a2.A) fun x1 =>
    if (!x1.2) = true then some true
    else
      if (a2.Kind == 1) = true then
        Option.bind (sync_Leader a0 a1 a2.B) fun x5 =>
          Option.bind
            (if (!x5.2) = true then some true
            else
              Option.bind (idx a1.Sources x1.1) fun x6 =>
                Option.bind (idx a1.Sources x5.1) fun x7 => Option.bind (sync_Agree a0 x6 x7) fun x8 => some x8)
            fun x9 => some x9
      else
        if (a2.Kind == 2) = true then
          Option.bind (idx a1.Sources x1.1) fun x2 =>
            Option.bind (idx a1.Sources a2.B) fun x3 => Option.bind (sync_Agree a0 x2 x3) fun x4 => some x4
        else some true
noncomputable def c46 : Con D := ⟨46, [.lf (.int .i64), .lf (.sl 5), .lf (.sl 6), .lf (.sl 7), .lf (.int .i64), .lf (.int .i64), .lf (.sl 1), .lf (.sl 9), .lf (.sl 0), .lf (.sl 10), .lf (.int .i64), .lf (.int .i64), .lf (.int .i64)], [.lf .bool], [.agg [.h 0 [], .h 1 [0], .h 2 [0], .h 3 [0], .h 4 [], .h 5 []], .agg [.h 6 [0], .h 7 [0], .h 8 [0], .h 9 [0]], .agg [.h 10 [], .h 11 [], .h 12 []]], [], [.one (.h 0 [])], [], fun h => sync_synchronous ⟨h.1, h.2.1, h.2.2.1, h.2.2.2.1, h.2.2.2.2.1, h.2.2.2.2.2.1⟩ ⟨h.2.2.2.2.2.2.1, h.2.2.2.2.2.2.2.1, h.2.2.2.2.2.2.2.2.1, h.2.2.2.2.2.2.2.2.2.1⟩ ⟨h.2.2.2.2.2.2.2.2.2.2.1, h.2.2.2.2.2.2.2.2.2.2.2.1, h.2.2.2.2.2.2.2.2.2.2.2.2⟩⟩
theorem c46_ok : ConOk Try.prog T c46 := fn_ok (Φ := [c15, c16]) (rs := [.tmp 6]) (an := (.n none .o (.n none .o (.n none .o (.n none (.n none .o (.n none (.n none .o (.n none (.n none .o (.n none (.r (some (true, [(.normal, ⟨[.lf .bool], [(6, .one (.h 0 []))], [], [], 3984⟩)])) .nil) .o)) .o)) .o)) .o))))) pOk repOk (AllC.mem (⟨c15_ok, c16_ok, trivial⟩ : AllC _ _ [c15, c16])) hmix Try.call46 Try.func46 rfl rfl (by kernel_rfl) (fun h => by kernel_rfl)

noncomputable def sync_May (a0 : Board) (a1 : Power) (a2 : Int) : Option (Int) :=
  Option.bind (board_State a0 a1) fun x1 =>
    if (x1 != 0) = true then some x1
    else
      Option.bind (if decide (a2 < 0) = true then some true else some (decide (a2 ≥ len a0.Breakers)))
        fun x2 =>
        if x2 = true then some 10
        else
          Option.bind (sync_sound a0 a1 a2) fun x3 =>
            if (!x3) = true then some 11
            else
              Option.bind (idx a0.Breakers a2) fun x4 =>
                Option.bind (board_Of a0 a1 x4.A) fun x5 =>
                  Option.bind
                    (if (x4.Kind == 1) = true then
                      Option.bind (slices_Contains_int_int x5.1 x4.B) fun x6 => some x6
                    else some false)
                    fun x7 =>
                    Option.bind
                      (if (!x7) = true then Option.bind (sync_synchronous a0 a1 x4) fun x8 => some !x8 else some false)
                      fun x9 => if x9 = true then some 12 else some 0
noncomputable def c23 : Con D := ⟨23, [.lf (.int .i64), .lf (.sl 5), .lf (.sl 6), .lf (.sl 7), .lf (.int .i64), .lf (.int .i64), .lf (.sl 1), .lf (.sl 9), .lf (.sl 0), .lf (.sl 10), .lf (.int .i64)], [.lf (.int .i64)], [.agg [.h 0 [], .h 1 [0], .h 2 [0], .h 3 [0], .h 4 [], .h 5 []], .agg [.h 6 [0], .h 7 [0], .h 8 [0], .h 9 [0]], .one (.h 10 [])], [], [.one (.h 0 [])], [], fun h => sync_May ⟨h.1, h.2.1, h.2.2.1, h.2.2.2.1, h.2.2.2.2.1, h.2.2.2.2.2.1⟩ ⟨h.2.2.2.2.2.2.1, h.2.2.2.2.2.2.2.1, h.2.2.2.2.2.2.2.2.1, h.2.2.2.2.2.2.2.2.2.1⟩ h.2.2.2.2.2.2.2.2.2.2⟩
theorem c23_ok : ConOk Try.prog T c23 := fn_ok (Φ := [c34, c41, c44, c45, c46]) (rs := [.tmp 6]) (an := (.n none .o (.n none (.n none .o (.n none (.n none .o (.n none .o (.n none (.r (some (true, [(.normal, ⟨[.lf .bool], [(19, .one (.h 0 []))], [], [], 2704⟩)])) .nil) .o))) .o)) (.n none .o (.n none .o (.n none (.r (some (true, [(.normal, ⟨[.lf .bool], [(11, .one (.h 0 []))], [], [], 4305⟩)])) .nil) (.n none (.n none (.r (some (true, [(.normal, ⟨[.lf .bool], [(66, .one (.h 0 []))], [], [], 4370⟩)])) .nil) .o) .o))))))) pOk repOk (AllC.mem (⟨c34_ok, c41_ok, c44_ok, c45_ok, c46_ok, trivial⟩ : AllC _ _ [c34, c41, c44, c45, c46])) hmix Try.call23 Try.func23 rfl rfl (by kernel_rfl) (fun h => by kernel_rfl)

noncomputable def sync_Close (a0 : Board) (a1 : Power) (a2 : Int) : Option (Int × (List Bool) × (List Running) × (List Int) × (List Part)) :=
  Option.bind (sync_May a0 a1 a2) fun x1 =>
    if (x1 != 0) = true then some (x1, [], [], [], [])
    else
      Option.bind (states_Clone a1) fun x2 =>
        Option.bind (idx x2.1 a2) fun x3 =>
          Option.bind (idx x2.1 a2) fun x4 =>
            Option.bind (setO x2.1 a2 true) fun x5 =>
              Option.bind (sync_Follow a0 (Power.mk x5 x2.2.1 x2.2.2.1 x2.2.2.2)) fun x6 =>
                some (x6.1, x6.2.1, x6.2.2.1, x6.2.2.2.1, x6.2.2.2.2)
noncomputable def c24 : Con D := ⟨24, [.lf (.int .i64), .lf (.sl 5), .lf (.sl 6), .lf (.sl 7), .lf (.int .i64), .lf (.int .i64), .lf (.sl 1), .lf (.sl 9), .lf (.sl 0), .lf (.sl 10), .lf (.int .i64)], [.lf (.int .i64), .lf (.sl 1), .lf (.sl 9), .lf (.sl 0), .lf (.sl 10)], [.agg [.h 0 [], .h 1 [0], .h 2 [0], .h 3 [0], .h 4 [], .h 5 []], .agg [.h 6 [0], .h 7 [0], .h 8 [0], .h 9 [0]], .one (.h 10 [])], [], [.agg [.own 1000, .own 1001, .own 1002, .own 1003], .one (.h 0 [])], [(1000, .sl 1 4 1 [1]), (1001, .sl 9 48 2 [1]), (1002, .sl 0 3 3 [1]), (1003, .sl 10 65 4 [1])], fun h => sync_Close ⟨h.1, h.2.1, h.2.2.1, h.2.2.2.1, h.2.2.2.2.1, h.2.2.2.2.2.1⟩ ⟨h.2.2.2.2.2.2.1, h.2.2.2.2.2.2.2.1, h.2.2.2.2.2.2.2.2.1, h.2.2.2.2.2.2.2.2.2.1⟩ h.2.2.2.2.2.2.2.2.2.2⟩
theorem c24_ok : ConOk Try.prog T c24 := fn_ok (Φ := [c11, c23, c35]) (rs := [.cell 6 34, .tmp 7]) (an := .o) pOk repOk (AllC.mem (⟨c11_ok, c23_ok, c35_ok, trivial⟩ : AllC _ _ [c11, c23, c35])) hmix Try.call24 Try.func24 rfl rfl (by kernel_rfl) (fun h => by kernel_rfl)

noncomputable def sync_together (a0 : Board) (a1 : Power) (a2 : Int) (a3 : Int) : Option (Bool) :=
  Option.bind (board_Connected a0 a1 a2) fun x1 =>
    if (!x1.2) = true then some false
    else
      Option.bind (board_Of a0 a1 x1.1) fun x2 =>
        Option.bind (slices_Contains_int_int x2.2.1 a3) fun x3 => some x3
noncomputable def c57 : Con D := ⟨57, [.lf (.int .i64), .lf (.sl 5), .lf (.sl 6), .lf (.sl 7), .lf (.int .i64), .lf (.int .i64), .lf (.sl 1), .lf (.sl 9), .lf (.sl 0), .lf (.sl 10), .lf (.int .i64), .lf (.int .i64)], [.lf .bool], [.agg [.h 0 [], .h 1 [0], .h 2 [0], .h 3 [0], .h 4 [], .h 5 []], .agg [.h 6 [0], .h 7 [0], .h 8 [0], .h 9 [0]], .one (.h 10 []), .one (.h 11 [])], [], [.one (.h 0 [])], [], fun h => sync_together ⟨h.1, h.2.1, h.2.2.1, h.2.2.2.1, h.2.2.2.2.1, h.2.2.2.2.2.1⟩ ⟨h.2.2.2.2.2.2.1, h.2.2.2.2.2.2.2.1, h.2.2.2.2.2.2.2.2.1, h.2.2.2.2.2.2.2.2.2.1⟩ h.2.2.2.2.2.2.2.2.2.2.1 h.2.2.2.2.2.2.2.2.2.2.2⟩
theorem c57_ok : ConOk Try.prog T c57 := fn_ok (Φ := [c41, c45, c55]) (rs := [.tmp 8]) (an := .o) pOk repOk (AllC.mem (⟨c41_ok, c45_ok, c55_ok, trivial⟩ : AllC _ _ [c41, c45, c55])) hmix Try.call57 Try.func57 rfl rfl (by kernel_rfl) (fun h => by kernel_rfl)

noncomputable def sync_Bad_L2 (a0 : Board) (a1 : Power) (a2 : Power) (x4 : Int) : Int →
  Option
    (Int ⊕
      Unit ⊕
        Int ⊕
          Unit ⊕
            Bool) := fun x5 =>
  if decide (x5 < x4) = true then
    Option.bind
      (Option.bind (sync_together a0 a2 x4 x5) fun x6 =>
        if x6 = true then
          Option.bind (sync_together a0 a1 x4 x5) fun x7 =>
            if (!x7) = true then
              Option.bind (idx a1.Sources x4) fun x8 =>
                Option.bind (idx a1.Sources x5) fun x9 => Option.bind (sync_Agree a0 x8 x9) fun x10 => some !x10
            else some false
        else some false)
      fun x11 =>
      if x11 = true then some (.inr (.inr (.inr (.inr true)))) else some (.inl (W (x5 + 1)))
  else some (.inr (.inl ()))
noncomputable def sync_Bad_L1 (a0 : Board) (a1 : Power) (a2 : Power) : Int →
  Option
    (Int ⊕
      Unit ⊕
        Bool) := fun x4 =>
  if decide (x4 < len a0.Sources) = true then
    Option.bind (loopO (sync_Bad_L2 a0 a1 a2 x4) 0) fun x12 =>
      Sum.elim (fun x13 => some (.inl (W (x4 + 1)))) (fun x14 => some x14) x12
  else some (.inr (.inl ()))
noncomputable def sync_Bad (a0 : Board) (a1 : Power) (a2 : Power) : Option (Bool) :=
  Option.bind
    (Option.bind (board_State a0 a1) fun x1 =>
      if (x1 != 0) = true then some true
      else Option.bind (board_State a0 a2) fun x2 => some (x2 != 0))
    fun x3 =>
    if x3 = true then some false
    else
      Option.bind (loopO (sync_Bad_L1 a0 a1 a2) 0) fun x15 =>
        Sum.elim (fun x16 => some false) (fun x17 => some x17) x15
noncomputable def c32 : Con D := ⟨32, [.lf (.int .i64), .lf (.sl 5), .lf (.sl 6), .lf (.sl 7), .lf (.int .i64), .lf (.int .i64), .lf (.sl 1), .lf (.sl 9), .lf (.sl 0), .lf (.sl 10), .lf (.sl 1), .lf (.sl 9), .lf (.sl 0), .lf (.sl 10)], [.lf .bool], [.agg [.h 0 [], .h 1 [0], .h 2 [0], .h 3 [0], .h 4 [], .h 5 []], .agg [.h 6 [0], .h 7 [0], .h 8 [0], .h 9 [0]], .agg [.h 10 [0], .h 11 [0], .h 12 [0], .h 13 [0]]], [], [.one (.h 0 [])], [], fun h => sync_Bad ⟨h.1, h.2.1, h.2.2.1, h.2.2.2.1, h.2.2.2.2.1, h.2.2.2.2.2.1⟩ ⟨h.2.2.2.2.2.2.1, h.2.2.2.2.2.2.2.1, h.2.2.2.2.2.2.2.2.1, h.2.2.2.2.2.2.2.2.2.1⟩ ⟨h.2.2.2.2.2.2.2.2.2.2.1, h.2.2.2.2.2.2.2.2.2.2.2.1, h.2.2.2.2.2.2.2.2.2.2.2.2.1, h.2.2.2.2.2.2.2.2.2.2.2.2.2⟩⟩
theorem c32_ok : ConOk Try.prog T c32 := fn_ok (Φ := [c16, c34, c57]) (rs := [.tmp 6]) (an := (.n none .o (.n none (.n none (.r (some (true, [(.normal, ⟨[.lf .bool], [(18, .one (.h 0 []))], [], [], 2320⟩)])) .nil) .o) (.n none (.n none .o (.n none (.loop ⟨[.lf (.int .i64)], [(22, .one (.h 0 []))], [], [], 2641⟩ false [(.exit 0, ⟨[], [], [], [], 2641⟩)] (.n none .o (.n none .o (.n none (.n none (.n none .o (.n none .o (.n none (.loop ⟨[.lf (.int .i64)], [(26, .one (.h 0 []))], [], [], 3026⟩ false [(.exit 2, ⟨[], [], [], [], 3026⟩)] (.n none .o (.n none .o (.n none (.n none (.n none .o (.n none (.r (some (true, [(.normal, ⟨[.lf .bool], [(35, .one (.any)), (36, .one (.any)), (37, .one (.any)), (38, .one (.any)), (39, .one (.any)), (40, .one (.any)), (43, .one (.any)), (44, .one (.any)), (45, .one (.any)), (46, .one (.any)), (47, .one (.any)), (48, .one (.any)), (49, .one (.any)), (50, .one (.any)), (51, .one (.any)), (52, .one (.any)), (53, .one (.any)), (54, .one (.any)), (55, .one (.any)), (56, .one (.h 0 []))], [], [], 3283⟩)])) .nil) .o)) .o) .o)))) .o))) .o) .o)))) .o)) .o)))) pOk repOk (AllC.mem (⟨c16_ok, c34_ok, c57_ok, trivial⟩ : AllC _ _ [c16, c34, c57])) hmix Try.call32 Try.func32 rfl rfl (by kernel_rfl) (fun h => by kernel_rfl)

noncomputable def dynposlaw16_sane : Option (Bool) := Option.bind dynposlaw16_pair fun x1 =>
  Option.bind
    (sync_Match (Board.mk x1.1 x1.2.2.2.1 x1.2.2.2.2.1 [] x1.2.1 x1.2.2.1)
      (Power.mk x1.2.2.2.2.2.1 x1.2.2.2.2.2.2 [] []) 1 0)
    fun x2 =>
    Option.bind
      (sync_Close (Board.mk x1.1 x1.2.2.2.1 x1.2.2.2.2.1 [] x1.2.1 x1.2.2.1)
        (Power.mk x2.2.1 x2.2.2.1 x2.2.2.2.1 x2.2.2.2.2) 0)
      fun x3 =>
      Option.bind
        (Option.bind
          (sync_May (Board.mk x1.1 x1.2.2.2.1 x1.2.2.2.2.1 [] x1.2.1 x1.2.2.1)
            (Power.mk x1.2.2.2.2.2.1 x1.2.2.2.2.2.2 [] []) 0)
          fun x4 =>
          if (x4 == 12) = true then
            if (x2.1 == 0) = true then
              if (x3.1 == 0) = true then
                if (len x3.2.1 == 3) = true then
                  Option.bind (idx x3.2.1 0) fun x5 =>
                    if x5 = true then
                      Option.bind
                        (sync_Bad
                          (Board.mk x1.1 x1.2.2.2.1 x1.2.2.2.2.1 [] x1.2.1 x1.2.2.1)
                          (Power.mk x2.2.1 x2.2.2.1 x2.2.2.2.1 x2.2.2.2.2)
                          (Power.mk x3.2.1 x3.2.2.1 x3.2.2.2.1 x3.2.2.2.2))
                        fun x6 => some !x6
                    else some false
                else some false
              else some false
            else some false
          else some false)
        fun x7 => some x7
noncomputable def c17 : Con D := ⟨17, [], [.lf .bool], [], [], [.one (.h 0 [])], [], fun h => dynposlaw16_sane⟩
theorem c17_ok : ConOk Try.prog T c17 := fn_ok (Φ := [c18, c23, c24, c30, c32]) (rs := [.tmp 0]) (an := (.n none .o (.n none .o (.n none .o (.n none .o (.n none (.r (some (true, [(.normal, ⟨[.lf .bool], [(0, .one (.h 0 []))], [], [], 3792⟩)])) .nil) .o)))))) pOk repOk (AllC.mem (⟨c18_ok, c23_ok, c24_ok, c30_ok, c32_ok, trivial⟩ : AllC _ _ [c18, c23, c24, c30, c32])) hmix Try.call17 Try.func17 rfl rfl (by kernel_rfl) (fun h => by kernel_rfl)

end Rx
end Go.Proofs.Ytdfkfohpgakihaa
