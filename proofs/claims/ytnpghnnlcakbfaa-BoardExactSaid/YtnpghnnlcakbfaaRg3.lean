/- Plain functions, walks. Written by a program (wip/gen). -/
import Derived.Test.YtnpghnnlcakbfaaRt
import Derived.Test.YtnpghnnlcakbfaaRg1
import Derived.Test.YtnpghnnlcakbfaaRg2
set_option linter.unusedVariables false
set_option maxRecDepth 100000
namespace Go.Proofs.Ytnpghnnlcakbfaa
open Go Go.RowKit Dp
namespace Rx

noncomputable def dynposref15_State_L1 (a1 : Power) : Int →
  Option
    (Int ⊕
      Unit ⊕
        Int) := fun x3 =>
  if decide (x3 < len a1.Sources) = true then
    Option.bind (idx a1.Sources x3) fun x4 =>
      Option.bind
        (Option.bind (dynposref15_within x4.State 0 3) fun x5 =>
          if (!x5) = true then some true
          else
            Option.bind (dynposref15_within x4.Since 0 2147483648) fun x6 =>
              if (!x6) = true then some true
              else
                Option.bind (dynposref15_within x4.Frequency 0 6000) fun x7 =>
                  if (!x7) = true then some true
                  else Option.bind (dynposref15_within x4.Phase 0 3599) fun x8 => some !x8)
        fun x9 => if x9 = true then some (.inr (.inr 11)) else some (.inl (W (x3 + 1)))
  else some (.inr (.inl ()))
noncomputable def dynposref15_State_L2 (a0 : Board) (a1 : Power) : Int →
  Option
    (Int ⊕
      Unit ⊕
        Int) := fun x12 =>
  if decide (x12 < len a1.Limits) = true then
    Option.bind (idx a1.Limits x12) fun x13 =>
      Option.bind (idx a0.Consumers x12) fun x14 =>
        Option.bind (dynposref15_within x13 0 x14.Load) fun x15 =>
          if (!x15) = true then some (.inr (.inr 11)) else some (.inl (W (x12 + 1)))
  else some (.inr (.inl ()))
noncomputable def dynposref15_State_L3 (a0 : Board) (a1 : Power) : Int →
  Option
    (Int ⊕
      Unit ⊕
        Int) := fun x18 =>
  if decide (x18 < len a1.Broken) = true then
    Option.bind (idx a1.Broken x18) fun x19 =>
      Option.bind
        (Option.bind (dynposref15_Exists a0 x19) fun x20 =>
          if (!x20) = true then some true
          else
            if decide (x18 > 0) = true then
              Option.bind (idx a1.Broken (W (x18 - 1))) fun x21 =>
                Option.bind (dynposref15_Before x21 x19) fun x22 => some !x22
            else some false)
        fun x23 =>
        if x23 = true then some (.inr (.inr 11)) else some (.inl (W (x18 + 1)))
  else some (.inr (.inl ()))
noncomputable def dynposref15_State_L5 (a1 : Power) (x27 : List
  Int) : Int × Int →
  Option
    (Int × Int ⊕
      Int) := fun x28 =>
  if decide (x28.2 < len x27) = true then
    Option.bind (idx x27 x28.2) fun x29 =>
      Option.bind (idx a1.Closed x29) fun x30 =>
        Option.bind (if x30 = true then some (W (x28.1 + 1)) else some x28.1) fun x31 =>
          some (.inl (x31, W (x28.2 + 1)))
  else some (.inr x28.1)
noncomputable def dynposref15_State_L4 (a0 : Board) (a1 : Power) : Int →
  Option
    (Int ⊕
      Unit ⊕
        Int) := fun x26 =>
  if decide (x26 < len a0.Consumers) = true then
    Option.bind (dynposref15_of a0 3 x26) fun x27 =>
      Option.bind (loopO (dynposref15_State_L5 a1 x27) (0, 0)) fun x32 =>
        if decide (x32 > 1) = true then some (.inr (.inr 11))
        else some (.inl (W (x26 + 1)))
  else some (.inr (.inl ()))
noncomputable def dynposref15_State (a0 : Board) (a1 : Power) : Option (Int) :=
  Option.bind (dynposref15_Check a0) fun x1 =>
    if (x1 != 0) = true then some x1
    else
      Option.bind
        (if (len a1.Closed != len a0.Breakers) = true then some true
        else if (len a1.Sources != len a0.Sources) = true then some true else some (len a1.Limits != len a0.Consumers))
        fun x2 =>
        if x2 = true then some 8
        else
          Option.bind (loopO (dynposref15_State_L1 a1) 0) fun x10 =>
            Sum.elim
              (fun x11 =>
                Option.bind (loopO (dynposref15_State_L2 a0 a1) 0) fun x16 =>
                  Sum.elim
                    (fun x17 =>
                      if decide (len a1.Broken > 32) = true then some 11
                      else
                        Option.bind (loopO (dynposref15_State_L3 a0 a1) 0) fun x24 =>
                          Sum.elim
                            (fun x25 =>
                              Option.bind (loopO (dynposref15_State_L4 a0 a1) 0) fun x33 =>
                                Sum.elim (fun x34 => some 0) (fun x35 => some x35) x33)
                            (fun x36 => some x36) x24)
                    (fun x37 => some x37) x16)
              (fun x38 => some x38) x10
noncomputable def c37 : Con D := ⟨37, [.lf (.int .i64), .lf (.sl 4), .lf (.sl 5), .lf (.sl 6), .lf (.int .i64), .lf (.int .i64), .lf (.sl 1), .lf (.sl 8), .lf (.sl 0), .lf (.sl 9)], [.lf (.int .i64)], [.agg [.h 0 [], .h 1 [0], .h 2 [0], .h 3 [0], .h 4 [], .h 5 []], .agg [.h 6 [0], .h 7 [0], .h 8 [0], .h 9 [0]]], [], [.one (.h 0 [])], [], fun h => dynposref15_State ⟨h.1, h.2.1, h.2.2.1, h.2.2.2.1, h.2.2.2.2.1, h.2.2.2.2.2.1⟩ ⟨h.2.2.2.2.2.2.1, h.2.2.2.2.2.2.2.1, h.2.2.2.2.2.2.2.2.1, h.2.2.2.2.2.2.2.2.2⟩⟩
theorem c37_ok : ConOk Try.prog T c37 := fn_ok (Φ := [c33, c50, c72, c73, c74]) (rs := [.tmp 4]) (an := (.n none .o (.n none .o (.n none (.n none (.r (some (true, [(.normal, ⟨[.lf .bool], [(45, .one (.h 0 []))], [], [], 2576⟩)])) .nil) .o) (.n none (.n none .o (.n none (.loop ⟨[.lf (.int .i64)], [(49, .one (.h 0 []))], [], [], 2897⟩ false [(.exit 0, ⟨[], [], [], [], 2897⟩)] (.n none .o (.n none .o (.n none (.n none (.n none .o (.n none (.r (some (true, [(.normal, ⟨[.lf .bool], [(58, .one (.any)), (59, .one (.any)), (60, .one (.any)), (61, .one (.any)), (64, .one (.any)), (65, .one (.any)), (66, .one (.any)), (67, .one (.any)), (70, .one (.any)), (71, .one (.any)), (72, .one (.any)), (73, .one (.any)), (74, .one (.h 0 []))], [], [], 3282⟩)])) .nil) .o)) .o) .o)))) .o)) (.n none (.n none .o (.n none (.loop ⟨[.lf (.int .i64)], [(79, .one (.h 0 []))], [], [], 3217⟩ false [(.exit 2, ⟨[], [], [], [], 3217⟩)] .o) .o)) (.n none .o (.n none (.n none .o (.n none (.loop ⟨[.lf (.int .i64)], [(101, .one (.h 0 []))], [], [], 3793⟩ false [(.exit 4, ⟨[], [], [], [], 3793⟩)] (.n none .o (.n none .o (.n none (.n none (.n none .o (.n none (.r (some (true, [(.normal, ⟨[.lf .bool], [(111, .one (.any)), (112, .one (.any)), (113, .one (.any)), (114, .one (.any)), (115, .one (.any)), (116, .one (.any)), (117, .one (.any)), (118, .one (.any)), (119, .one (.any)), (120, .one (.any)), (121, .one (.any)), (122, .one (.any)), (123, .one (.any)), (124, .one (.h 0 []))], [], [], 4306⟩)])) .nil) .o)) .o) .o)))) .o)) (.n none (.n none .o (.n none (.loop ⟨[.lf (.int .i64)], [(129, .one (.h 0 []))], [], [], 4113⟩ false [(.exit 6, ⟨[], [], [], [], 4113⟩)] (.n none .o (.n none .o (.n none (.n none (.n none .o (.n none .o (.n none (.n none .o (.n none (.loop ⟨[.lf (.int .i64), .lf (.int .i64)], [(13, .one (.h 0 [])), (136, .one (.h 1 []))], [], [], 4754⟩ true [(.exit 8, ⟨[.lf (.int .i64)], [(13, .one (.h 0 []))], [], [], 4754⟩)] (.n none .o (.n none .o (.n none (.n none (.n none .o (.n none .o (.n (some (true, [(.normal, ⟨[.lf (.int .i64)], [(13, .one (.h 0 []))], [], [], 5396⟩)])) .o .o))) .o) .o)))) .o)) .o))) .o) .o)))) .o)) .o))))))))) pOk repOk (AllC.mem (⟨c33_ok, c50_ok, c72_ok, c73_ok, c74_ok, trivial⟩ : AllC _ _ [c33, c50, c72, c73, c74])) hmix Try.call37 Try.func37 rfl rfl (by kernel_rfl) (fun h => by kernel_rfl)

noncomputable def dynposref15_reach_L2 (a0 : Board) (a1 : Power) : Int × List Bool →
  Option
    (Int × List Bool ⊕
      List
        Bool) := fun x6 =>
  if decide (x6.1 < len a0.Breakers) = true then
    Option.bind (idx a0.Breakers x6.1) fun x7 =>
      Option.bind
        (if (x7.Kind == 1) = true then
          Option.bind (idx a1.Closed x6.1) fun x8 =>
            if x8 = true then
              Option.bind (idx x6.2 x7.A) fun x9 =>
                if x9 = true then some true else Option.bind (idx x6.2 x7.B) fun x10 => some x10
            else some false
        else some false)
        fun x11 =>
        Option.bind
          (if x11 = true then
            Option.bind (idx x6.2 x7.A) fun x12 =>
              Option.bind (idx x6.2 x7.A) fun x13 =>
                Option.bind (setO x6.2 x7.A true) fun x14 =>
                  Option.bind (idx x14 x7.B) fun x15 =>
                    Option.bind (idx x14 x7.B) fun x16 => Option.bind (setO x14 x7.B true) fun x17 => some x17
          else some x6.2)
          fun x18 => some (.inl (W (x6.1 + 1), x18))
  else some (.inr x6.2)
noncomputable def dynposref15_reach_L1 (a0 : Board) (a1 : Power) (x4 : List
  Bool) : Int × List Bool →
  Option
    (Int × List Bool ⊕
      List
        Bool) := fun x5 =>
  if decide (x5.1 < len x4) = true then
    Option.bind (loopO (dynposref15_reach_L2 a0 a1) (0, x5.2)) fun x19 =>
      some (.inl (W (x5.1 + 1), x19))
  else some (.inr x5.2)
noncomputable def dynposref15_reach_L3 (x20 : List
  Bool) : Int × List Int →
  Option
    (Int × List Int ⊕
      List
        Int) := fun x21 =>
  if decide (x21.1 < len x20) = true then
    Option.bind (idx x20 x21.1) fun x22 =>
      Option.bind (if x22 = true then Option.bind (app x21.2 [x21.1]) fun x23 => some x23 else some x21.2)
        fun x24 => some (.inl (W (x21.1 + 1), x24))
  else some (.inr x21.2)
noncomputable def dynposref15_reach (a0 : Board) (a1 : Power) (a2 : Int) : Option ((List Int)) :=
  Option.bind (mkZ false a0.Buses) fun x1 =>
    Option.bind (idx x1 a2) fun x2 =>
      Option.bind (idx x1 a2) fun x3 =>
        Option.bind (setO x1 a2 true) fun x4 =>
          Option.bind (loopO (dynposref15_reach_L1 a0 a1 x4) (0, x4)) fun x20 =>
            Option.bind (loopO (dynposref15_reach_L3 x20) (0, [])) fun x25 => some x25
noncomputable def c75 : Con D := ⟨75, [.lf (.int .i64), .lf (.sl 4), .lf (.sl 5), .lf (.sl 6), .lf (.int .i64), .lf (.int .i64), .lf (.sl 1), .lf (.sl 8), .lf (.sl 0), .lf (.sl 9), .lf (.int .i64)], [.lf (.sl 0)], [.agg [.h 0 [], .h 1 [0], .h 2 [0], .h 3 [0], .h 4 [], .h 5 []], .agg [.h 6 [0], .h 7 [0], .h 8 [0], .h 9 [0]], .one (.h 10 [])], [], [.one (.own 1000)], [(1000, .sl 0 3 0 [])], fun h => dynposref15_reach ⟨h.1, h.2.1, h.2.2.1, h.2.2.2.1, h.2.2.2.2.1, h.2.2.2.2.2.1⟩ ⟨h.2.2.2.2.2.2.1, h.2.2.2.2.2.2.2.1, h.2.2.2.2.2.2.2.2.1, h.2.2.2.2.2.2.2.2.2.1⟩ h.2.2.2.2.2.2.2.2.2.2⟩
theorem c75_ok : ConOk Try.prog T c75 := fn_ok (Φ := []) (rs := [.tmp 6]) (an := (.n none .o (.n none .o (.n none .o (.n none (.n none .o (.n none (.loop ⟨[.lf (.int .i64), .lf (.sl 1)], [(20, .one (.h 0 []))], [(2320, .sl 1 4 1 [])], [2320], 2960⟩ true [(.exit 0, ⟨[.lf (.sl 1)], [], [(2320, .sl 1 4 0 [])], [2320], 2960⟩)] (.n none .o (.n none .o (.n none (.n none (.n none .o (.n none (.loop ⟨[.lf (.int .i64), .lf (.sl 1)], [(25, .one (.h 0 []))], [(2320, .sl 1 4 1 [])], [2320], 3346⟩ true [(.exit 2, ⟨[.lf (.sl 1)], [], [(2320, .sl 1 4 0 [])], [2320], 3346⟩)] (.n none .o (.n none .o (.n none (.n none (.n none .o (.n none (.r (some (true, [(.normal, ⟨[.lf .bool], [(34, .one (.any)), (35, .one (.any)), (36, .one (.any)), (37, .one (.any)), (38, .one (.any)), (41, .one (.any)), (42, .one (.any)), (43, .one (.any)), (44, .one (.any)), (45, .one (.any)), (46, .one (.any)), (47, .one (.any)), (48, .one (.any)), (49, .one (.any)), (50, .one (.any)), (51, .one (.any)), (52, .one (.any)), (53, .one (.h 0 []))], [], [], 3860⟩)])) .nil) (.n (some (true, [(.normal, ⟨[.lf (.sl 1)], [], [(2320, .sl 1 4 0 [])], [2320], 3925⟩)])) .o .o))) .o) .o)))) .o)) .o) .o)))) .o)) (.n none .o (.n none (.n none .o (.n none (.loop ⟨[.lf (.int .i64), .lf (.sl 0)], [(10, .one (.own 3217)), (66, .one (.h 0 []))], [(3217, .sl 0 3 1 [])], [], 3281⟩ true [(.exit 4, ⟨[.lf (.sl 0)], [(10, .one (.own 3217))], [(3217, .sl 0 3 0 [])], [], 3281⟩)] (.n none .o (.n none .o (.n none (.n none (.n none .o (.n none .o (.n (some (true, [(.normal, ⟨[.lf (.sl 0)], [(10, .one (.own 3731))], [(3731, .sl 0 3 0 [])], [3217], 3795⟩)])) .o .o))) .o) .o)))) .o)) .o))))))) pOk repOk (AllC.mem (l := []) trivial) hmix Try.call75 Try.func75 rfl rfl (by kernel_rfl) (fun h => by kernel_rfl)

noncomputable def dynposref15_Connected (a0 : Board) (a1 : Power) (a2 : Int) : Option (Int × Bool) :=
  Option.bind
    (Option.bind (dynposref15_State a0 a1) fun x1 =>
      if (x1 != 0) = true then some true
      else
        if decide (a2 < 0) = true then some true
        else
          if decide (a2 ≥ len a0.Sources) = true then some true
          else Option.bind (idx a1.Sources a2) fun x2 => some (x2.State != 2))
    fun x3 =>
    if x3 = true then some (0, false)
    else
      Option.bind (dynposref15_of a0 2 a2) fun x4 =>
        Option.bind (idx x4 0) fun x5 =>
          Option.bind (idx a1.Closed x5) fun x6 =>
            if (!x6) = true then some (0, false)
            else Option.bind (idx a0.Breakers x5) fun x7 => some (x7.A, true)
noncomputable def c39 : Con D := ⟨39, [.lf (.int .i64), .lf (.sl 4), .lf (.sl 5), .lf (.sl 6), .lf (.int .i64), .lf (.int .i64), .lf (.sl 1), .lf (.sl 8), .lf (.sl 0), .lf (.sl 9), .lf (.int .i64)], [.lf (.int .i64), .lf .bool], [.agg [.h 0 [], .h 1 [0], .h 2 [0], .h 3 [0], .h 4 [], .h 5 []], .agg [.h 6 [0], .h 7 [0], .h 8 [0], .h 9 [0]], .one (.h 10 [])], [], [.one (.h 0 []), .one (.h 1 [])], [], fun h => dynposref15_Connected ⟨h.1, h.2.1, h.2.2.1, h.2.2.2.1, h.2.2.2.2.1, h.2.2.2.2.2.1⟩ ⟨h.2.2.2.2.2.2.1, h.2.2.2.2.2.2.2.1, h.2.2.2.2.2.2.2.2.1, h.2.2.2.2.2.2.2.2.2.1⟩ h.2.2.2.2.2.2.2.2.2.2⟩
theorem c39_ok : ConOk Try.prog T c39 := fn_ok (Φ := [c37, c74]) (rs := [.tmp 6, .tmp 7]) (an := (.n none .o (.n none (.n none (.r (some (true, [(.normal, ⟨[.lf .bool], [(32, .one (.h 0 []))], [], [], 2320⟩)])) .nil) .o) .o))) pOk repOk (AllC.mem (⟨c37_ok, c74_ok, trivial⟩ : AllC _ _ [c37, c74])) hmix Try.call39 Try.func39 rfl rfl (by kernel_rfl) (fun h => by kernel_rfl)

noncomputable def dynposref01_Has_L1 (a0 : List
  Int) (a1 : Int) : Int →
  Option
    (Int ⊕
      Unit ⊕
        Bool) := fun x1 =>
  if decide (x1 < len a0) = true then
    Option.bind (idx a0 x1) fun x2 =>
      if (x2 == a1) = true then some (.inr (.inr true)) else some (.inl (W (x1 + 1)))
  else some (.inr (.inl ()))
noncomputable def dynposref01_Has (a0 : (List Int)) (a1 : Int) : Option (Bool) :=
  Option.bind (loopO (dynposref01_Has_L1 a0 a1) 0) fun x3 =>
    Sum.elim (fun x4 => some false) (fun x5 => some x5) x3
noncomputable def c23 : Con D := ⟨23, [.lf (.sl 0), .lf (.int .i64)], [.lf .bool], [.one (.h 0 [0]), .one (.h 1 [])], [], [.one (.h 0 [])], [], fun h => dynposref01_Has h.1 h.2⟩
theorem c23_ok : ConOk Try.prog T c23 := fn_ok (Φ := []) (rs := [.tmp 4]) (an := (.n none .o (.n none (.n none .o (.n none (.loop ⟨[.lf (.int .i64)], [(9, .one (.h 0 []))], [], [], 2320⟩ false [(.exit 0, ⟨[], [], [], [], 2320⟩)] .o) .o)) .o))) pOk repOk (AllC.mem (l := []) trivial) hmix Try.call23 Try.func23 rfl rfl (by kernel_rfl) (fun h => by kernel_rfl)

noncomputable def dynposref15_Fed_L1 (a0 : Board) (a1 : Power) (x3 : List
  Int) : Int →
  Option
    (Int ⊕
      Unit ⊕
        Int ×
          Bool) := fun x4 =>
  if decide (x4 < len x3) = true then
    Option.bind (idx x3 x4) fun x5 =>
      Option.bind (idx a1.Closed x5) fun x6 =>
        if x6 = true then Option.bind (idx a0.Breakers x5) fun x7 => some (.inr (.inr (x7.A, true)))
        else some (.inl (W (x4 + 1)))
  else some (.inr (.inl ()))
noncomputable def dynposref15_Fed (a0 : Board) (a1 : Power) (a2 : Int) : Option (Int × Bool) :=
  Option.bind
    (Option.bind (dynposref15_State a0 a1) fun x1 =>
      if (x1 != 0) = true then some true
      else if decide (a2 < 0) = true then some true else some (decide (a2 ≥ len a0.Consumers)))
    fun x2 =>
    if x2 = true then some (0, false)
    else
      Option.bind (dynposref15_of a0 3 a2) fun x3 =>
        Option.bind (loopO (dynposref15_Fed_L1 a0 a1 x3) 0) fun x8 =>
          Sum.elim (fun x9 => some (0, false)) (fun x10 => some x10) x8
noncomputable def c40 : Con D := ⟨40, [.lf (.int .i64), .lf (.sl 4), .lf (.sl 5), .lf (.sl 6), .lf (.int .i64), .lf (.int .i64), .lf (.sl 1), .lf (.sl 8), .lf (.sl 0), .lf (.sl 9), .lf (.int .i64)], [.lf (.int .i64), .lf .bool], [.agg [.h 0 [], .h 1 [0], .h 2 [0], .h 3 [0], .h 4 [], .h 5 []], .agg [.h 6 [0], .h 7 [0], .h 8 [0], .h 9 [0]], .one (.h 10 [])], [], [.one (.h 0 []), .one (.h 1 [])], [], fun h => dynposref15_Fed ⟨h.1, h.2.1, h.2.2.1, h.2.2.2.1, h.2.2.2.2.1, h.2.2.2.2.2.1⟩ ⟨h.2.2.2.2.2.2.1, h.2.2.2.2.2.2.2.1, h.2.2.2.2.2.2.2.2.1, h.2.2.2.2.2.2.2.2.2.1⟩ h.2.2.2.2.2.2.2.2.2.2⟩
theorem c40_ok : ConOk Try.prog T c40 := fn_ok (Φ := [c37, c74]) (rs := [.tmp 6, .tmp 7]) (an := (.n none .o (.n none (.n none (.r (some (true, [(.normal, ⟨[.lf .bool], [(24, .one (.h 0 []))], [], [], 2320⟩)])) .nil) .o) (.n none (.n none .o (.n none (.loop ⟨[.lf (.int .i64)], [(29, .one (.h 0 []))], [], [], 2705⟩ false [(.exit 0, ⟨[], [], [], [], 2705⟩)] .o) .o)) .o)))) pOk repOk (AllC.mem (⟨c37_ok, c74_ok, trivial⟩ : AllC _ _ [c37, c74])) hmix Try.call40 Try.func40 rfl rfl (by kernel_rfl) (fun h => by kernel_rfl)

noncomputable def dynposref15_Of_L1 (a0 : Board) (a1 : Power) (x3 : List
  Int) : Int × List Int →
  Option
    (Int × List Int ⊕
      List
        Int) := fun x4 =>
  if decide (x4.1 < len a0.Sources) = true then
    Option.bind (dynposref15_Connected a0 a1 x4.1) fun x5 =>
      Option.bind (if x5.2 = true then Option.bind (dynposref01_Has x3 x5.1) fun x6 => some x6 else some false)
        fun x7 =>
        Option.bind (if x7 = true then Option.bind (app x4.2 [x4.1]) fun x8 => some x8 else some x4.2) fun x9 =>
          some (.inl (W (x4.1 + 1), x9))
  else some (.inr x4.2)
noncomputable def dynposref15_Of_L2 (a0 : Board) (a1 : Power) (x3 : List
  Int) : Int × List Int →
  Option
    (Int × List Int ⊕
      List
        Int) := fun x11 =>
  if decide (x11.1 < len a0.Consumers) = true then
    Option.bind (dynposref15_Fed a0 a1 x11.1) fun x12 =>
      Option.bind (if x12.2 = true then Option.bind (dynposref01_Has x3 x12.1) fun x13 => some x13 else some false)
        fun x14 =>
        Option.bind (if x14 = true then Option.bind (app x11.2 [x11.1]) fun x15 => some x15 else some x11.2)
          fun x16 => some (.inl (W (x11.1 + 1), x16))
  else some (.inr x11.2)
noncomputable def dynposref15_Of (a0 : Board) (a1 : Power) (a2 : Int) : Option (Bool × (List Int) × (List Int) × (List Int)) :=
  Option.bind
    (Option.bind (dynposref15_State a0 a1) fun x1 =>
      if (x1 != 0) = true then some true
      else if decide (a2 < 0) = true then some true else some (decide (a2 ≥ a0.Buses)))
    fun x2 =>
    if x2 = true then some (false, [], [], [])
    else
      Option.bind (dynposref15_reach a0 a1 a2) fun x3 =>
        Option.bind (loopO (dynposref15_Of_L1 a0 a1 x3) (0, [])) fun x10 =>
          Option.bind (loopO (dynposref15_Of_L2 a0 a1 x3) (0, [])) fun x17 => some (true, x3, x10, x17)
noncomputable def c38 : Con D := ⟨38, [.lf (.int .i64), .lf (.sl 4), .lf (.sl 5), .lf (.sl 6), .lf (.int .i64), .lf (.int .i64), .lf (.sl 1), .lf (.sl 8), .lf (.sl 0), .lf (.sl 9), .lf (.int .i64)], [.lf .bool, .lf (.sl 0), .lf (.sl 0), .lf (.sl 0)], [.agg [.h 0 [], .h 1 [0], .h 2 [0], .h 3 [0], .h 4 [], .h 5 []], .agg [.h 6 [0], .h 7 [0], .h 8 [0], .h 9 [0]], .one (.h 10 [])], [], [.agg [.own 1000, .own 1001, .own 1002], .one (.h 0 [])], [(1000, .sl 0 3 1 []), (1001, .sl 0 3 2 []), (1002, .sl 0 3 3 [])], fun h => dynposref15_Of ⟨h.1, h.2.1, h.2.2.1, h.2.2.2.1, h.2.2.2.2.1, h.2.2.2.2.2.1⟩ ⟨h.2.2.2.2.2.2.1, h.2.2.2.2.2.2.2.1, h.2.2.2.2.2.2.2.2.1, h.2.2.2.2.2.2.2.2.2.1⟩ h.2.2.2.2.2.2.2.2.2.2⟩
theorem c38_ok : ConOk Try.prog T c38 := fn_ok (Φ := [c23, c37, c39, c40, c75]) (rs := [.cell 6 53, .tmp 7]) (an := (.n none .o (.n none (.n none (.r (some (true, [(.normal, ⟨[.lf .bool], [(28, .one (.h 0 []))], [], [], 2320⟩)])) .nil) .o) (.n none .o (.n none (.n none .o (.n none (.loop ⟨[.lf (.int .i64), .lf (.sl 0)], [(38, .one (.h 0 []))], [(2641, .box [.own 2521, .own 3025, .nils]), (3025, .sl 0 3 1 [])], [2641], 3089⟩ true [(.exit 0, ⟨[.lf (.sl 0)], [], [(2641, .box [.own 2521, .own 3025, .nils]), (3025, .sl 0 3 0 [])], [2641], 3089⟩)] (.n none .o (.n none .o (.n none (.n none (.n none .o (.n none .o (.n none (.r (some (true, [(.normal, ⟨[.lf .bool], [(50, .one (.any)), (51, .one (.any)), (52, .one (.any)), (53, .one (.any)), (54, .one (.h 0 []))], [], [], 3923⟩)])) .nil) (.n (some (true, [(.normal, ⟨[.lf (.sl 0)], [], [(2641, .box [.own 2521, .own 3924, .nils]), (3924, .sl 0 3 0 [])], [2641, 3025], 3988⟩)])) .o .o)))) .o) .o)))) .o)) (.n none (.n none .o (.n none (.loop ⟨[.lf (.int .i64), .lf (.sl 0)], [(65, .one (.h 0 []))], [(2641, .box [.own 2521, .own 3025, .own 3346]), (3346, .sl 0 3 1 [])], [2641], 3410⟩ true [(.exit 2, ⟨[.lf (.sl 0)], [], [(2641, .box [.own 2521, .own 3025, .own 3346]), (3346, .sl 0 3 0 [])], [2641], 3410⟩)] (.n none .o (.n none .o (.n none (.n none (.n none .o (.n none .o (.n none (.r (some (true, [(.normal, ⟨[.lf .bool], [(77, .one (.any)), (78, .one (.any)), (79, .one (.any)), (80, .one (.any)), (81, .one (.h 0 []))], [], [], 4244⟩)])) .nil) (.n (some (true, [(.normal, ⟨[.lf (.sl 0)], [], [(2641, .box [.own 2521, .own 3025, .own 4245]), (4245, .sl 0 3 0 [])], [2641, 3346], 4309⟩)])) .o .o)))) .o) .o)))) .o)) .o)))))) pOk repOk (AllC.mem (⟨c23_ok, c37_ok, c39_ok, c40_ok, c75_ok, trivial⟩ : AllC _ _ [c23, c37, c39, c40, c75])) hmix Try.call38 Try.func38 rfl rfl (by kernel_rfl) (fun h => by kernel_rfl)

noncomputable def dynposref15_Islands_L1 (a0 : Board) (a1 : Power) : Int × List Island →
  Option
    (Int × List Island ⊕
      List
        Island) := fun x2 =>
  if decide (x2.1 < a0.Buses) = true then
    Option.bind (dynposref15_Of a0 a1 x2.1) fun x3 =>
      Option.bind (idx x3.2.1 0) fun x4 =>
        Option.bind
          (if (x4 == x2.1) = true then
            Option.bind (app x2.2 [Island.mk x3.2.1 x3.2.2.1 x3.2.2.2]) fun x5 => some x5
          else some x2.2)
          fun x6 => some (.inl (W (x2.1 + 1), x6))
  else some (.inr x2.2)
noncomputable def dynposref15_Islands (a0 : Board) (a1 : Power) : Option ((List Island)) :=
  Option.bind (dynposref15_State a0 a1) fun x1 =>
    if (x1 != 0) = true then some []
    else Option.bind (loopO (dynposref15_Islands_L1 a0 a1) (0, [])) fun x7 => some x7
noncomputable def c35 : Con D := ⟨35, [.lf (.int .i64), .lf (.sl 4), .lf (.sl 5), .lf (.sl 6), .lf (.int .i64), .lf (.int .i64), .lf (.sl 1), .lf (.sl 8), .lf (.sl 0), .lf (.sl 9)], [.lf (.sl 11)], [.agg [.h 0 [], .h 1 [0], .h 2 [0], .h 3 [0], .h 4 [], .h 5 []], .agg [.h 6 [0], .h 7 [0], .h 8 [0], .h 9 [0]]], [], [.one (.own 1000)], [(1000, .sl 11 53 0 [1])], fun h => dynposref15_Islands ⟨h.1, h.2.1, h.2.2.1, h.2.2.2.1, h.2.2.2.2.1, h.2.2.2.2.2.1⟩ ⟨h.2.2.2.2.2.2.1, h.2.2.2.2.2.2.2.1, h.2.2.2.2.2.2.2.2.1, h.2.2.2.2.2.2.2.2.2⟩⟩
theorem c35_ok : ConOk Try.prog T c35 := fn_ok (Φ := [c37, c38]) (rs := [.tmp 4]) (an := (.n none .o (.n none .o (.n none .o (.n none (.n none .o (.n none (.loop ⟨[.lf (.int .i64), .lf (.sl 11)], [(5, .one (.own 2576)), (6, .one (.h 0 []))], [(2576, .sl 11 53 1 [1])], [], 2640⟩ true [(.exit 0, ⟨[.lf (.sl 11)], [(5, .one (.own 2576))], [(2576, .sl 11 53 0 [1])], [], 2640⟩)] (.n none .o (.n none (.n none (.n none .o (.n none .o (.n (some (true, [(.normal, ⟨[.lf (.sl 11)], [(5, .one (.own 3922))], [(3922, .sl 11 53 0 [1])], [2576, 3098, 3099, 3100], 3986⟩)])) .o .o))) .o) .o))) .o)) .o))))) pOk repOk (AllC.mem (⟨c37_ok, c38_ok, trivial⟩ : AllC _ _ [c37, c38])) hmix Try.call35 Try.func35 rfl rfl (by kernel_rfl) (fun h => by kernel_rfl)

noncomputable def board_Connected (a0 : Board) (a1 : Power) (a2 : Int) : Option (Int × Bool) :=
  Option.bind (board_State a0 a1) fun x1 =>
    if (x1 != 0) = true then some (0, false)
    else Option.bind (board_connected a0 a1 a2) fun x2 => some (x2.1, x2.2)
noncomputable def c25 : Con D := ⟨25, [.lf (.int .i64), .lf (.sl 4), .lf (.sl 5), .lf (.sl 6), .lf (.int .i64), .lf (.int .i64), .lf (.sl 1), .lf (.sl 8), .lf (.sl 0), .lf (.sl 9), .lf (.int .i64)], [.lf (.int .i64), .lf .bool], [.agg [.h 0 [], .h 1 [0], .h 2 [0], .h 3 [0], .h 4 [], .h 5 []], .agg [.h 6 [0], .h 7 [0], .h 8 [0], .h 9 [0]], .one (.h 10 [])], [], [.one (.h 0 []), .one (.h 1 [])], [], fun h => board_Connected ⟨h.1, h.2.1, h.2.2.1, h.2.2.2.1, h.2.2.2.2.1, h.2.2.2.2.2.1⟩ ⟨h.2.2.2.2.2.2.1, h.2.2.2.2.2.2.2.1, h.2.2.2.2.2.2.2.2.1, h.2.2.2.2.2.2.2.2.2.1⟩ h.2.2.2.2.2.2.2.2.2.2⟩
theorem c25_ok : ConOk Try.prog T c25 := fn_ok (Φ := [c36, c52]) (rs := [.tmp 6, .tmp 7]) (an := .o) pOk repOk (AllC.mem (⟨c36_ok, c52_ok, trivial⟩ : AllC _ _ [c36, c52])) hmix Try.call25 Try.func25 rfl rfl (by kernel_rfl) (fun h => by kernel_rfl)

noncomputable def dynposref15_Live (a0 : Board) (a1 : Power) (a2 : Int) : Option (Bool) :=
  Option.bind (dynposref15_Of a0 a1 a2) fun x1 =>
    Option.bind (if x1.1 = true then some (decide (len x1.2.2.1 > 0)) else some false) fun x2 =>
      some x2
noncomputable def c41 : Con D := ⟨41, [.lf (.int .i64), .lf (.sl 4), .lf (.sl 5), .lf (.sl 6), .lf (.int .i64), .lf (.int .i64), .lf (.sl 1), .lf (.sl 8), .lf (.sl 0), .lf (.sl 9), .lf (.int .i64)], [.lf .bool], [.agg [.h 0 [], .h 1 [0], .h 2 [0], .h 3 [0], .h 4 [], .h 5 []], .agg [.h 6 [0], .h 7 [0], .h 8 [0], .h 9 [0]], .one (.h 10 [])], [], [.one (.h 0 [])], [], fun h => dynposref15_Live ⟨h.1, h.2.1, h.2.2.1, h.2.2.2.1, h.2.2.2.2.1, h.2.2.2.2.2.1⟩ ⟨h.2.2.2.2.2.2.1, h.2.2.2.2.2.2.2.1, h.2.2.2.2.2.2.2.2.1, h.2.2.2.2.2.2.2.2.2.1⟩ h.2.2.2.2.2.2.2.2.2.2⟩
theorem c41_ok : ConOk Try.prog T c41 := fn_ok (Φ := [c38]) (rs := [.tmp 6]) (an := (.n none .o (.n none .o (.n none (.r (some (true, [(.normal, ⟨[.lf .bool], [(6, .one (.h 0 []))], [], [], 2896⟩)])) .nil) .o)))) pOk repOk (AllC.mem (⟨c38_ok, trivial⟩ : AllC _ _ [c38])) hmix Try.call41 Try.func41 rfl rfl (by kernel_rfl) (fun h => by kernel_rfl)

noncomputable def slices_Index_Part_Part_L1 (a0 : List
  Part) (a1 : Part) : Int →
  Option
    (Int ⊕
      Unit ⊕
        Int) := fun x1 =>
  if decide (x1 < len a0) = true then
    Option.bind (idx a0 x1) fun x2 =>
      if (a1.Kind == x2.Kind && a1.Number == x2.Number) = true then some (.inr (.inr x1))
      else some (.inl (W (x1 + 1)))
  else some (.inr (.inl ()))
noncomputable def slices_Index_Part_Part (a0 : (List Part)) (a1 : Part) : Option (Int) :=
  Option.bind (loopO (slices_Index_Part_Part_L1 a0 a1) 0) fun x3 =>
    Sum.elim (fun x4 => some (-1)) (fun x5 => some x5) x3
noncomputable def c80 : Con D := ⟨80, [.lf (.sl 9), .lf (.int .i64), .lf (.int .i64)], [.lf (.int .i64)], [.one (.h 0 [0]), .agg [.h 1 [], .h 2 []]], [], [.one (.h 0 [])], [], fun h => slices_Index_Part_Part h.1 ⟨h.2.1, h.2.2⟩⟩
theorem c80_ok : ConOk Try.prog T c80 := fn_ok (Φ := []) (rs := [.tmp 4]) (an := (.n none .o (.n none (.n none .o (.n none (.loop ⟨[.lf (.int .i64)], [(8, .one (.h 0 []))], [], [], 2384⟩ false [(.exit 0, ⟨[], [], [], [], 2384⟩)] .o) .o)) .o))) pOk repOk (AllC.mem (l := []) trivial) hmix Try.call80 Try.func80 rfl rfl (by kernel_rfl) (fun h => by kernel_rfl)

noncomputable def slices_Contains_Part_Part (a0 : (List Part)) (a1 : Part) : Option (Bool) := Option.bind (slices_Index_Part_Part a0 a1) fun x1 => some (decide (x1 ≥ 0))
noncomputable def c58 : Con D := ⟨58, [.lf (.sl 9), .lf (.int .i64), .lf (.int .i64)], [.lf .bool], [.one (.h 0 [0]), .agg [.h 1 [], .h 2 []]], [], [.one (.h 0 [])], [], fun h => slices_Contains_Part_Part h.1 ⟨h.2.1, h.2.2⟩⟩
theorem c58_ok : ConOk Try.prog T c58 := fn_ok (Φ := [c80]) (rs := [.tmp 4]) (an := .o) pOk repOk (AllC.mem (⟨c80_ok, trivial⟩ : AllC _ _ [c80])) hmix Try.call58 Try.func58 rfl rfl (by kernel_rfl) (fun h => by kernel_rfl)

noncomputable def board_Broken (a0 : Power) (a1 : Int) (a2 : Int) : Option (Bool) := Option.bind (slices_Contains_Part_Part a0.Broken (Part.mk a1 a2)) fun x1 => some x1
noncomputable def c29 : Con D := ⟨29, [.lf (.sl 1), .lf (.sl 8), .lf (.sl 0), .lf (.sl 9), .lf (.int .i64), .lf (.int .i64)], [.lf .bool], [.agg [.h 0 [0], .h 1 [0], .h 2 [0], .h 3 [0]], .one (.h 4 []), .one (.h 5 [])], [], [.one (.h 0 [])], [], fun h => board_Broken ⟨h.1, h.2.1, h.2.2.1, h.2.2.2.1⟩ h.2.2.2.2.1 h.2.2.2.2.2⟩
theorem c29_ok : ConOk Try.prog T c29 := fn_ok (Φ := [c58]) (rs := [.tmp 6]) (an := .o) pOk repOk (AllC.mem (⟨c58_ok, trivial⟩ : AllC _ _ [c58])) hmix Try.call29 Try.func29 rfl rfl (by kernel_rfl) (fun h => by kernel_rfl)

noncomputable def dynposref15_Broken_L1 (a0 : Power) (a1 : Int) (a2 : Int) : Int →
  Option
    (Int ⊕
      Unit ⊕
        Bool) := fun x1 =>
  if decide (x1 < len a0.Broken) = true then
    Option.bind (idx a0.Broken x1) fun x2 =>
      Option.bind (if (x2.Kind == a1) = true then some (x2.Number == a2) else some false) fun x3 =>
        if x3 = true then some (.inr (.inr true)) else some (.inl (W (x1 + 1)))
  else some (.inr (.inl ()))
noncomputable def dynposref15_Broken (a0 : Power) (a1 : Int) (a2 : Int) : Option (Bool) :=
  Option.bind (loopO (dynposref15_Broken_L1 a0 a1 a2) 0) fun x4 =>
    Sum.elim (fun x5 => some false) (fun x6 => some x6) x4
noncomputable def c42 : Con D := ⟨42, [.lf (.sl 1), .lf (.sl 8), .lf (.sl 0), .lf (.sl 9), .lf (.int .i64), .lf (.int .i64)], [.lf .bool], [.agg [.h 0 [0], .h 1 [0], .h 2 [0], .h 3 [0]], .one (.h 4 []), .one (.h 5 [])], [], [.one (.h 0 [])], [], fun h => dynposref15_Broken ⟨h.1, h.2.1, h.2.2.1, h.2.2.2.1⟩ h.2.2.2.2.1 h.2.2.2.2.2⟩
theorem c42_ok : ConOk Try.prog T c42 := fn_ok (Φ := []) (rs := [.tmp 6]) (an := (.n none .o (.n none (.n none .o (.n none (.loop ⟨[.lf (.int .i64)], [(12, .one (.h 0 []))], [], [], 2448⟩ false [(.exit 0, ⟨[], [], [], [], 2448⟩)] (.n none .o (.n none .o (.n none (.n none (.n none .o (.n none (.r (some (true, [(.normal, ⟨[.lf .bool], [(21, .one (.any)), (22, .one (.any)), (23, .one (.any)), (24, .one (.any)), (25, .one (.h 0 []))], [], [], 2833⟩)])) .nil) .o)) .o) .o)))) .o)) .o))) pOk repOk (AllC.mem (l := []) trivial) hmix Try.call42 Try.func42 rfl rfl (by kernel_rfl) (fun h => by kernel_rfl)

noncomputable def dynposref15_Find (a0 : Board) (a1 : Int) (a2 : Int) : Option ((List Int)) :=
  Option.bind (dynposref15_Check a0) fun x1 =>
    if (x1 != 0) = true then some [] else Option.bind (dynposref15_of a0 a1 a2) fun x2 => some x2
noncomputable def c43 : Con D := ⟨43, [.lf (.int .i64), .lf (.sl 4), .lf (.sl 5), .lf (.sl 6), .lf (.int .i64), .lf (.int .i64), .lf (.int .i64), .lf (.int .i64)], [.lf (.sl 0)], [.agg [.h 0 [], .h 1 [0], .h 2 [0], .h 3 [0], .h 4 [], .h 5 []], .one (.h 6 []), .one (.h 7 [])], [], [.one (.own 1000)], [(1000, .sl 0 3 0 [])], fun h => dynposref15_Find ⟨h.1, h.2.1, h.2.2.1, h.2.2.2.1, h.2.2.2.2.1, h.2.2.2.2.2.1⟩ h.2.2.2.2.2.2.1 h.2.2.2.2.2.2.2⟩
theorem c43_ok : ConOk Try.prog T c43 := fn_ok (Φ := [c33, c74]) (rs := [.tmp 6]) (an := .o) pOk repOk (AllC.mem (⟨c33_ok, c74_ok, trivial⟩ : AllC _ _ [c33, c74])) hmix Try.call43 Try.func43 rfl rfl (by kernel_rfl) (fun h => by kernel_rfl)

noncomputable def dynposref15_Copy (a0 : Power) : Option ((List Bool) × (List Running) × (List Int) × (List Part)) :=
  Option.bind (app [] a0.Closed) fun x1 =>
    Option.bind (app [] a0.Sources) fun x2 =>
      Option.bind (app [] a0.Limits) fun x3 => Option.bind (app [] a0.Broken) fun x4 => some (x1, x2, x3, x4)
noncomputable def c21 : Con D := ⟨21, [.lf (.sl 1), .lf (.sl 8), .lf (.sl 0), .lf (.sl 9)], [.lf (.sl 1), .lf (.sl 8), .lf (.sl 0), .lf (.sl 9)], [.agg [.h 0 [0], .h 1 [0], .h 2 [0], .h 3 [0]]], [], [.agg [.own 1000, .own 1001, .own 1002, .own 1003]], [(1000, .sl 1 4 0 [0]), (1001, .sl 8 64 1 [0]), (1002, .sl 0 3 2 [0]), (1003, .sl 9 66 3 [0])], fun h => dynposref15_Copy ⟨h.1, h.2.1, h.2.2.1, h.2.2.2⟩⟩
theorem c21_ok : ConOk Try.prog T c21 := fn_ok (Φ := []) (rs := [.cell 2 45]) (an := .o) pOk repOk (AllC.mem (l := []) trivial) hmix Try.call21 Try.func21 rfl rfl (by kernel_rfl) (fun h => by kernel_rfl)

noncomputable def Src_BentPower_L1 (x1 : List Bool ×
  List Running ×
    List Int ×
      List
        Part) : Int × List Bool →
  Option
    (Int × List Bool ⊕
      List
        Bool) := fun x3 =>
  if decide (x3.1 < len x1.1) = true then
    Option.bind (idx x3.2 x3.1) fun x4 =>
      Option.bind (idx x3.2 x3.1) fun x5 =>
        Option.bind (setO x3.2 x3.1 true) fun x6 => some (.inl (W (x3.1 + 1), x6))
  else some (.inr x3.2)
noncomputable def Src_BentPower (a0 : Src) (a1 : Power) : Option ((List Int) × Int × (List Bool) × (List Running) × (List Int) × (List Part)) :=
  Option.bind (dynposref15_Copy a1) fun x1 =>
    Option.bind (Src_N a0 6) fun x2 =>
      Option.bind
        (if (x2.1 == 0) = true then
          Option.bind (app x1.1 [true]) fun x33 =>
            some (x2.2.1, x2.2.2, x1.2.1, x1.2.2.1, x33, x1.2.2.2)
        else
          Option.bind
            (if (x2.1 == 1) = true then
              Option.bind
                (if decide (len x1.2.1 > 0) = true then
                  Option.bind (Src_N (Src.mk x2.2.1 x2.2.2) (len x1.2.1)) fun x26 =>
                    Option.bind (Src_Range (Src.mk x26.2.1 x26.2.2) (-1) 5) fun x27 =>
                      Option.bind (idx x1.2.1 x26.1) fun x28 =>
                        Option.bind (idx x1.2.1 x26.1) fun x29 =>
                          Option.bind (setO x1.2.1 x26.1 (Running.mk x27.1 x29.Since x29.Frequency x29.Phase))
                            fun x30 => some (x27.2.1, x27.2.2, x30)
                else some (x2.2.1, x2.2.2, x1.2.1))
                fun x31 => some (x31.1, x31.2.1, x1.1, x31.2.2, x1.2.2.1, x1.2.2.2)
            else
              Option.bind
                (if (x2.1 == 2) = true then
                  Option.bind
                    (if decide (len x1.2.1 > 0) = true then
                      Option.bind (Src_N (Src.mk x2.2.1 x2.2.2) (len x1.2.1)) fun x19 =>
                        Option.bind (Src_Odd (Src.mk x19.2.1 x19.2.2)) fun x20 =>
                          Option.bind (idx x1.2.1 x19.1) fun x21 =>
                            Option.bind (idx x1.2.1 x19.1) fun x22 =>
                              Option.bind
                                (setO x1.2.1 x19.1 (Running.mk x22.State x22.Since x22.Frequency x20.1))
                                fun x23 => some (x20.2.1, x20.2.2, x23)
                    else some (x2.2.1, x2.2.2, x1.2.1))
                    fun x24 => some (x24.1, x24.2.1, x1.1, x24.2.2, x1.2.2.1, x1.2.2.2)
                else
                  Option.bind
                    (if (x2.1 == 3) = true then
                      Option.bind
                        (if decide (len x1.2.2.1 > 0) = true then
                          Option.bind (Src_N (Src.mk x2.2.1 x2.2.2) (len x1.2.2.1)) fun x12 =>
                            Option.bind (Src_Odd (Src.mk x12.2.1 x12.2.2)) fun x13 =>
                              Option.bind (idx x1.2.2.1 x12.1) fun x14 =>
                                Option.bind (idx x1.2.2.1 x12.1) fun x15 =>
                                  Option.bind (setO x1.2.2.1 x12.1 x13.1) fun x16 =>
                                    some (x13.2.1, x13.2.2, x16)
                        else some (x2.2.1, x2.2.2, x1.2.2.1))
                        fun x17 => some (x17.1, x17.2.1, x1.1, x17.2.2, x1.2.2.2)
                    else
                      Option.bind
                        (if (x2.1 == 4) = true then
                          Option.bind (Src_Range (Src.mk x2.2.1 x2.2.2) 0 5) fun x8 =>
                            Option.bind (Src_Range (Src.mk x8.2.1 x8.2.2) (-1) 5)
                              fun x9 =>
                              Option.bind (app x1.2.2.2 [Part.mk x8.1 x9.1]) fun x10 =>
                                some (x9.2.1, x9.2.2, x1.1, x10)
                        else
                          Option.bind (loopO (Src_BentPower_L1 x1) (0, x1.1)) fun x7 =>
                            some (x2.2.1, x2.2.2, x7, x1.2.2.2))
                        fun x11 => some (x11.1, x11.2.1, x11.2.2.1, x1.2.2.1, x11.2.2.2))
                    fun x18 =>
                    some (x18.1, x18.2.1, x18.2.2.1, x1.2.1, x18.2.2.2.1, x18.2.2.2.2))
                fun x25 =>
                some
                  (x25.1, x25.2.1, x25.2.2.1, x25.2.2.2.1, x25.2.2.2.2.1,
                    x25.2.2.2.2.2))
            fun x32 =>
            some
              (x32.1, x32.2.1, x32.2.2.2.1, x32.2.2.2.2.1, x32.2.2.1,
                x32.2.2.2.2.2))
        fun x34 =>
        some
          (x34.1, x34.2.1, x34.2.2.2.2.1, x34.2.2.1, x34.2.2.2.1, x34.2.2.2.2.2)
noncomputable def c34 : Con D := ⟨34, [.lf (.sl 0), .lf (.int .i64), .lf (.sl 1), .lf (.sl 8), .lf (.sl 0), .lf (.sl 9)], [.lf (.sl 0), .lf (.int .i64), .lf (.sl 1), .lf (.sl 8), .lf (.sl 0), .lf (.sl 9)], [.one (.ptr 1000 0), .agg [.h 2 [0], .h 3 [0], .h 4 [0], .h 5 [0]]], [(1000, .box [.h 0 [0], .h 1 []])], [.agg [.own 1001, .own 1002, .own 1003, .own 1004]], [(1000, .box [.h 0 [0], .h 1 []]), (1001, .sl 1 4 2 [0]), (1002, .sl 8 64 3 [0]), (1003, .sl 0 3 4 [0]), (1004, .sl 9 66 5 [0])], fun h => Src_BentPower ⟨h.1, h.2.1⟩ ⟨h.2.2.1, h.2.2.2.1, h.2.2.2.2.1, h.2.2.2.2.2⟩⟩
theorem c34_ok : ConOk Try.prog T c34 := fn_ok (Φ := [c12, c13, c21, c66]) (rs := [.cell 4 45]) (an := (.n none .o (.n none .o (.n none (.n none .o (.n none (.n none .o (.n (some (true, [(.normal, ⟨[.lf (.sl 0), .lf (.int .i64), .lf (.sl 8), .lf (.sl 0), .lf (.sl 1), .lf (.sl 9)], [], [(1000, .box [.h 0 [0], .h 1 []]), (2201, .sl 8 64 2 [0]), (2202, .sl 0 3 3 [0]), (2256, .box [.own 2640, .own 2201, .own 2202, .own 2641]), (2640, .sl 1 4 4 [0]), (2641, .sl 9 66 5 [0])], [1000, 2200, 2201, 2202, 2203, 2256], 2704⟩)])) .o (.n none .o (.n (some (true, [(.normal, ⟨[.lf (.sl 0), .lf (.int .i64), .lf (.sl 1), .lf (.sl 8), .lf (.sl 0), .lf (.sl 9)], [], [(1000, .box [.h 0 [0], .h 1 []]), (2200, .sl 1 4 2 [0]), (2201, .sl 8 64 3 [0]), (2202, .sl 0 3 4 [0]), (2256, .box [.own 2200, .own 2201, .own 2202, .own 2768]), (2768, .sl 9 66 5 [0])], [1000, 2200, 2201, 2202, 2203, 2256], 2832⟩)])) (.n none .o (.n (some (true, [(.normal, ⟨[.lf (.sl 0), .lf (.int .i64), .lf (.sl 8)], [], [(1000, .box [.h 0 [0], .h 1 []]), (2201, .sl 8 64 2 [0])], [1000, 2201], 3088⟩)])) .o .o)) (.n none .o (.n (some (true, [(.normal, ⟨[.lf (.sl 0), .lf (.int .i64), .lf (.sl 1), .lf (.sl 8), .lf (.sl 0), .lf (.sl 9)], [], [(1000, .box [.h 0 [0], .h 1 []]), (2200, .sl 1 4 2 [0]), (2201, .sl 8 64 3 [0]), (2202, .sl 0 3 4 [0]), (2256, .box [.own 2200, .own 2201, .own 2202, .own 2896]), (2896, .sl 9 66 5 [0])], [1000, 2200, 2201, 2202, 2203, 2256], 2960⟩)])) (.n none .o (.n (some (true, [(.normal, ⟨[.lf (.sl 0), .lf (.int .i64), .lf (.sl 8)], [], [(1000, .box [.h 0 [0], .h 1 []]), (2201, .sl 8 64 2 [0])], [1000, 2201], 3216⟩)])) .o .o)) (.n none .o (.n (some (true, [(.normal, ⟨[.lf (.sl 0), .lf (.int .i64), .lf (.sl 1), .lf (.sl 0), .lf (.sl 9)], [], [(1000, .box [.h 0 [0], .h 1 []]), (2200, .sl 1 4 2 [0]), (2202, .sl 0 3 3 [0]), (2256, .box [.own 2200, .own 2201, .own 2202, .own 3024]), (3024, .sl 9 66 4 [0])], [1000, 2200, 2202, 2203, 2256], 3088⟩)])) (.n none .o (.n (some (true, [(.normal, ⟨[.lf (.sl 0), .lf (.int .i64), .lf (.sl 0)], [], [(1000, .box [.h 0 [0], .h 1 []]), (2202, .sl 0 3 2 [0])], [1000, 2202], 3344⟩)])) .o .o)) (.n none .o (.n (some (true, [(.normal, ⟨[.lf (.sl 0), .lf (.int .i64), .lf (.sl 1), .lf (.sl 9)], [], [(1000, .box [.h 0 [0], .h 1 []]), (2200, .sl 1 4 2 [0]), (2256, .box [.own 2200, .own 2201, .own 2202, .own 3152]), (3152, .sl 9 66 3 [0])], [1000, 2200, 2203, 2256], 3216⟩)])) .o (.n none .o (.n none (.loop ⟨[.lf (.int .i64), .lf (.sl 1)], [(14, .one (.h 0 []))], [(2200, .sl 1 4 1 [0])], [2200], 3472⟩ true [(.exit 1, ⟨[.lf (.sl 1)], [], [(2200, .sl 1 4 0 [0])], [2200], 3472⟩)] .o) .o)))))))))))) .o)) .o)))) pOk repOk (AllC.mem (⟨c12_ok, c13_ok, c21_ok, c66_ok, trivial⟩ : AllC _ _ [c12, c13, c21, c66])) hmix Try.call34 Try.func34 rfl rfl (by kernel_rfl) (fun h => by kernel_rfl)

noncomputable def dynposlaw15_BoardExact_L3 (x13 : List
  Island) (x14 : List
  Island) : Int →
  Option
    (Int ⊕
      Unit ⊕
        Int × List Int × Int ⊕
          List Int × Int ⊕
            Int × List Int × Int ⊕
              List Int × Int ⊕
                Bool) := fun x18 =>
  if decide (x18 < len x13) = true then
    Option.bind (idx x13 x18) fun x19 =>
      Option.bind (idx x14 x18) fun x20 =>
        Option.bind (dynposref15_Island x19 x20) fun x21 =>
          if (!x21) = true then some (.inr (.inr (.inr (.inr (.inr (.inr false))))))
          else some (.inl (W (x18 + 1)))
  else some (.inr (.inl ()))
noncomputable def dynposlaw15_BoardExact_L5 (a3 : Int) (x7 : Board) (x12 : Power) (x26 : Int) : Int →
  Option
    (Int ⊕
      Unit ⊕
        Int ⊕
          Unit ⊕
            Int × List Int × Int ⊕
              List Int × Int ⊕
                Int × List Int × Int ⊕
                  List Int × Int ⊕
                    Bool) := fun x37 =>
  if decide (x37 < 4) = true then
    Option.bind (idx [a3, 1, 2, 3] x37) fun x38 =>
      Option.bind
        (Option.bind (board_Broken x12 x38 x26) fun x39 =>
          Option.bind (dynposref15_Broken x12 x38 x26) fun x40 =>
            if (!x39 == x40) = true then some true
            else
              Option.bind (board_Find x7 x38 x26) fun x41 =>
                Option.bind (dynposref15_Find x7 x38 x26) fun x42 =>
                  Option.bind (dynposref01_Ints x41 x42) fun x43 => some !x43)
        fun x44 =>
        if x44 = true then some (.inr (.inr (.inr (.inr (.inr (.inr (.inr (.inr false))))))))
        else some (.inl (W (x37 + 1)))
  else some (.inr (.inl ()))
noncomputable def dynposlaw15_BoardExact_L4 (a3 : Int) (a4 : Int) (x7 : Board) (x12 : Power) (x24 : Int ×
  List Int ×
    Int) : Int →
  Option
    (Int ⊕
      Unit ⊕
        Int × List Int × Int ⊕
          List Int × Int ⊕
            Int × List Int × Int ⊕
              List Int × Int ⊕
                Bool) := fun x25 =>
  if decide (x25 < 4) = true then
    Option.bind (idx [a4, 0, x24.1, (-1)] x25) fun x26 =>
      Option.bind (board_Of x7 x12 x26) fun x27 =>
        Option.bind (dynposref15_Of x7 x12 x26) fun x28 =>
          Option.bind (board_Connected x7 x12 x26) fun x29 =>
            Option.bind (dynposref15_Connected x7 x12 x26) fun x30 =>
              Option.bind (board_Fed x7 x12 x26) fun x31 =>
                Option.bind (dynposref15_Fed x7 x12 x26) fun x32 =>
                  Option.bind
                    (Option.bind
                      (dynposref15_Island (Island.mk x27.1 x27.2.1 x27.2.2.1)
                        (Island.mk x28.2.1 x28.2.2.1 x28.2.2.2))
                      fun x33 =>
                      if (!x33) = true then some true
                      else
                        if (!x27.2.2.2 == x28.1) = true then some true
                        else
                          if (x29.1 != x30.1) = true then some true
                          else
                            if (!x29.2 == x30.2) = true then some true
                            else
                              if (x31.1 != x32.1) = true then some true
                              else
                                if (!x31.2 == x32.2) = true then some true
                                else
                                  Option.bind (board_Live x7 x12 x26) fun x34 =>
                                    Option.bind (dynposref15_Live x7 x12 x26) fun x35 => some !x34 == x35)
                    fun x36 =>
                    if x36 = true then some (.inr (.inr (.inr (.inr (.inr (.inr false))))))
                    else
                      Option.bind (loopO (dynposlaw15_BoardExact_L5 a3 x7 x12 x26) 0) fun x45 =>
                        Sum.elim (fun x46 => some (.inl (W (x25 + 1)))) (fun x47 => some x47) x45
  else some (.inr (.inl ()))
noncomputable def dynposlaw15_BoardExact_L2 (a2 : Power) (a3 : Int) (a4 : Int) (x4 : List Int ×
  Int ×
    List Breaker ×
      List Source ×
        List Consumer ×
          List Bool ×
            List Running ×
              List Int ×
                List
                  Part) (x7 : Board) (x10 : List Int ×
  Int ×
    List Bool ×
      List Running ×
        List Int ×
          List
            Part) : Int × List Int × Int →
  Option
    (Int × List Int × Int ⊕
      List Int × Int ⊕
        Int × List Int × Int ⊕
          List Int × Int ⊕
            Bool) := fun x11 =>
  if decide (x11.1 < 3) = true then
    Option.bind
      (idx
        [Power.mk x4.2.2.2.2.2.1 x4.2.2.2.2.2.2.1 x4.2.2.2.2.2.2.2.1
            x4.2.2.2.2.2.2.2.2,
          Power.mk x10.2.2.1 x10.2.2.2.1 x10.2.2.2.2.1 x10.2.2.2.2.2, a2]
        x11.1)
      fun x12 =>
      Option.bind (board_Islands x7 x12) fun x13 =>
        Option.bind (dynposref15_Islands x7 x12) fun x14 =>
          Option.bind
            (Option.bind (board_State x7 x12) fun x15 =>
              Option.bind (dynposref15_State x7 x12) fun x16 =>
                if (x15 != x16) = true then some true else some (len x13 != len x14))
            fun x17 =>
            if x17 = true then some (.inr (.inr (.inr (.inr false))))
            else
              Option.bind (loopO (dynposlaw15_BoardExact_L3 x13 x14) 0) fun x22 =>
                Sum.elim
                  (fun x23 =>
                    Option.bind (Src_N (Src.mk x11.2.1 x11.2.2) 6) fun x24 =>
                      Option.bind (loopO (dynposlaw15_BoardExact_L4 a3 a4 x7 x12 x24) 0) fun x48 =>
                        Sum.elim (fun x49 => some (.inl (W (x11.1 + 1), x24.2.1, x24.2.2)))
                          (fun x50 => some x50) x48)
                  (fun x51 => some x51) x22
  else some (.inr (.inl (x11.2.1, x11.2.2)))
noncomputable def dynposlaw15_BoardExact_L1 (a1 : Board) (a2 : Power) (a3 : Int) (a4 : Int) (x3 : Int ×
  Int ×
    Int ×
      List Int ×
        Int ×
          List Breaker ×
            List Source ×
              List
                Consumer) (x4 : List Int ×
  Int ×
    List Breaker ×
      List Source ×
        List Consumer ×
          List Bool ×
            List Running ×
              List Int ×
                List
                  Part) (x5 : Int ×
  Int ×
    Int ×
      List Int ×
        Int ×
          List Breaker ×
            List Source ×
              List Consumer ×
                List Breaker ×
                  List Source ×
                    List
                      Consumer) : Int × List Int × Int →
  Option
    (Int × List Int × Int ⊕
      List Int × Int ⊕
        Bool) := fun x6 =>
  if decide (x6.1 < 3) = true then
    Option.bind
      (idx
        [Board.mk x3.1 x5.2.2.2.2.2.1 x5.2.2.2.2.2.2.1 x5.2.2.2.2.2.2.2.1
            x3.2.1 x3.2.2.1,
          Board.mk x5.1 x5.2.2.2.2.2.2.2.2.1 x5.2.2.2.2.2.2.2.2.2.1
            x5.2.2.2.2.2.2.2.2.2.2 x5.2.1 x5.2.2.1,
          a1]
        x6.1)
      fun x7 =>
      Option.bind (board_Check x7) fun x8 =>
        Option.bind (dynposref15_Check x7) fun x9 =>
          if (x8 != x9) = true then some (.inr (.inr false))
          else
            Option.bind
              (Src_BentPower (Src.mk x6.2.1 x6.2.2)
                (Power.mk x4.2.2.2.2.2.1 x4.2.2.2.2.2.2.1 x4.2.2.2.2.2.2.2.1
                  x4.2.2.2.2.2.2.2.2))
              fun x10 =>
              Option.bind (loopO (dynposlaw15_BoardExact_L2 a2 a3 a4 x4 x7 x10) (0, x10.1, x10.2.1))
                fun x52 =>
                Sum.elim (fun x53 => some (.inl (W (x6.1 + 1), x53.1, x53.2))) (fun x54 => some x54)
                  x52
  else some (.inr (.inl (x6.2.1, x6.2.2)))
noncomputable def dynposlaw15_BoardExact (a0 : (List Int)) (a1 : Board) (a2 : Power) (a3 : Int) (a4 : Int) : Option (Bool) :=
  Option.bind (dynposmake_Small a1 a2) fun x1 =>
    if (!x1) = true then Option.bind dynposlaw15_sane fun x59 => some x59
    else
      Option.bind (dynposmake_New a0) fun x2 =>
        Option.bind (Src_Board (Src.mk x2.1 x2.2)) fun x3 =>
          Option.bind
            (Src_Power (Src.mk x3.2.2.2.1 x3.2.2.2.2.1)
              (Board.mk x3.1 x3.2.2.2.2.2.1 x3.2.2.2.2.2.2.1 x3.2.2.2.2.2.2.2
                x3.2.1 x3.2.2.1))
            fun x4 =>
            Option.bind
              (Src_BentBoard (Src.mk x4.1 x4.2.1)
                (Board.mk x3.1 x4.2.2.1 x4.2.2.2.1 x4.2.2.2.2.1 x3.2.1 x3.2.2.1))
              fun x5 =>
              Option.bind
                (loopO (dynposlaw15_BoardExact_L1 a1 a2 a3 a4 x3 x4 x5)
                  (0, x5.2.2.2.1, x5.2.2.2.2.1))
                fun x55 =>
                Sum.elim (fun x56 => Option.bind dynposlaw15_sane fun x57 => some x57) (fun x58 => some x58) x55
noncomputable def c8 : Con D := ⟨8, [.lf (.sl 0), .lf (.int .i64), .lf (.sl 4), .lf (.sl 5), .lf (.sl 6), .lf (.int .i64), .lf (.int .i64), .lf (.sl 1), .lf (.sl 8), .lf (.sl 0), .lf (.sl 9), .lf (.int .i64), .lf (.int .i64)], [.lf .bool], [.one (.h 0 [0]), .agg [.h 1 [], .h 2 [0], .h 3 [0], .h 4 [0], .h 5 [], .h 6 []], .agg [.h 7 [0], .h 8 [0], .h 9 [0], .h 10 [0]], .one (.h 11 []), .one (.h 12 [])], [], [.one (.h 0 [])], [], fun h => dynposlaw15_BoardExact h.1 ⟨h.2.1, h.2.2.1, h.2.2.2.1, h.2.2.2.2.1, h.2.2.2.2.2.1, h.2.2.2.2.2.2.1⟩ ⟨h.2.2.2.2.2.2.2.1, h.2.2.2.2.2.2.2.2.1, h.2.2.2.2.2.2.2.2.2.1, h.2.2.2.2.2.2.2.2.2.2.1⟩ h.2.2.2.2.2.2.2.2.2.2.2.1 h.2.2.2.2.2.2.2.2.2.2.2.2⟩
theorem c8_ok : ConOk Try.prog T c8 := fn_ok (Φ := [c9, c13, c15, c17, c18_1, c19, c20, c22, c24, c25, c26, c27, c28, c29, c30, c31_1, c32, c33, c34, c35, c36, c37, c38, c39, c40, c41, c42, c43]) (rs := [.tmp 10]) (an := (.n none .o (.n none .o (.n none .o (.n none .o (.n none .o (.n none (.n none .o (.n none (.f [3032, 3033, 3034, 3035] (.loop ⟨[.lf (.int .i64), .lf (.sl 0), .lf (.int .i64)], [(55, .one (.h 0 []))], [(2520, .box [.h 1 [0, 1], .h 2 []])], [2520], 3728⟩ false [(.exit 0, ⟨[.lf (.sl 0), .lf (.int .i64)], [], [(2520, .box [.h 0 [0, 1], .h 1 []])], [2520], 3728⟩)] (.n none .o (.n none .o (.n none (.n none (.n none .o (.n none .o (.n none .o (.n none (.loop ⟨[.lf (.int .i64), .lf (.sl 0), .lf (.int .i64)], [(69, .one (.h 0 []))], [(2520, .box [.h 1 [0, 1], .h 2 []])], [2520], 4819⟩ false [(.exit 2, ⟨[.lf (.sl 0), .lf (.int .i64)], [], [(2520, .box [.h 0 [0, 1], .h 1 []])], [2520], 4819⟩)] (.n none .o (.n none .o (.n none (.n none (.n none .o (.n none .o (.n none (.n none (.r (some (true, [(.normal, ⟨[.lf .bool], [(86, .one (.any)), (87, .one (.any)), (88, .one (.any)), (89, .one (.any)), (90, .one (.any)), (91, .one (.h 0 []))], [], [], 5654⟩)])) .nil) .o) (.n none (.n none .o (.n none (.loop ⟨[.lf (.int .i64)], [(94, .one (.h 0 []))], [], [], 5911⟩ false [(.exit 4, ⟨[], [], [], [], 5911⟩)] .o) .o)) (.n none .o (.n none (.loop ⟨[.lf (.int .i64)], [(112, .one (.h 0 []))], [], [], 6295⟩ false [(.exit 6, ⟨[], [], [], [], 6295⟩)] (.n none .o (.n none .o (.n none (.n none (.n none .o (.n none .o (.n none .o (.n none .o (.n none .o (.n none .o (.n none .o (.n none (.n none (.r (some (true, [(.normal, ⟨[.lf .bool], [(162, .one (.any)), (163, .one (.any)), (164, .one (.any)), (167, .one (.any)), (168, .one (.any)), (169, .one (.any)), (172, .one (.any)), (173, .one (.any)), (174, .one (.any)), (177, .one (.any)), (178, .one (.any)), (179, .one (.any)), (182, .one (.any)), (183, .one (.any)), (184, .one (.any)), (187, .one (.any)), (188, .one (.any)), (189, .one (.any)), (190, .one (.any)), (191, .one (.any)), (192, .one (.any)), (193, .one (.any)), (194, .one (.any)), (195, .one (.any)), (196, .one (.h 0 []))], [], [], 10136⟩)])) .nil) .o) (.n none .o (.n none (.loop ⟨[.lf (.int .i64)], [(199, .one (.h 0 []))], [], [], 10393⟩ false [(.exit 8, ⟨[], [], [], [], 10393⟩)] (.n none .o (.n none .o (.n none (.n none (.n none .o (.n none (.r (some (true, [(.normal, ⟨[.lf .bool], [(212, .one (.any)), (213, .one (.any)), (214, .one (.any)), (215, .one (.any)), (216, .one (.any)), (217, .one (.any)), (218, .one (.any)), (219, .one (.any)), (220, .one (.any)), (221, .one (.any)), (222, .one (.h 0 []))], [], [], 10650⟩)])) .nil) .o)) .o) .o)))) .o)))))))))) .o) .o)))) .o)))))) .o) .o)))) .o)))) .o) .o))))) .o)) .o))))))) pOk repOk (AllC.mem (⟨c9_ok, c13_ok, c15_ok, c17_ok, c18_1_ok, c19_ok, c20_ok, c22_ok, c24_ok, c25_ok, c26_ok, c27_ok, c28_ok, c29_ok, c30_ok, c31_1_ok, c32_ok, c33_ok, c34_ok, c35_ok, c36_ok, c37_ok, c38_ok, c39_ok, c40_ok, c41_ok, c42_ok, c43_ok, trivial⟩ : AllC _ _ [c9, c13, c15, c17, c18_1, c19, c20, c22, c24, c25, c26, c27, c28, c29, c30, c31_1, c32, c33, c34, c35, c36, c37, c38, c39, c40, c41, c42, c43])) hmix Try.call8 Try.func8 rfl rfl (by kernel_rfl) (fun h => by kernel_rfl)

end Rx
end Go.Proofs.Ytnpghnnlcakbfaa
