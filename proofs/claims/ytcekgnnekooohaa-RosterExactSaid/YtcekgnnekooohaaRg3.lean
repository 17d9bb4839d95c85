/- Plain functions, walks. Written by a program (wip/gen). -/
import Derived.Test.YtcekgnnekooohaaRt
import Derived.Test.YtcekgnnekooohaaRg2
set_option linter.unusedVariables false
set_option maxRecDepth 100000
namespace Go.Proofs.Ytcekgnnekooohaa
open Go Go.RowKit Dp
namespace Rx

noncomputable def dynposref15_Check (a0 : Board) : Option (Int) :=
  Option.bind
    (if decide (a0.Buses < 1) = true then some true
    else
      if decide (a0.Buses > 6) = true then some true
      else
        if decide (len a0.Breakers > 24) = true then some true
        else
          if decide (len a0.Sources > 8) = true then some true
          else some (decide (len a0.Consumers > 16)))
    fun x1 =>
    if x1 = true then some 2
    else
      Option.bind
        (Option.bind (dynposref15_breakers a0) fun x2 =>
          if (!x2) = true then some true
          else
            Option.bind (dynposref15_sources a0) fun x3 =>
              if (!x3) = true then some true
              else
                Option.bind (dynposref15_consumers a0) fun x4 =>
                  if (!x4) = true then some true
                  else
                    if decide (a0.Phase < 0) = true then some true
                    else
                      if decide (a0.Phase > 1800) = true then some true
                      else
                        if decide (a0.Frequency < 0) = true then some true
                        else some (decide (a0.Frequency > 6000)))
        fun x5 => if x5 = true then some 14 else some 0
noncomputable def c62 : Con D := ⟨62, [.lf (.int .i64), .lf (.sl 4), .lf (.sl 5), .lf (.sl 6), .lf (.int .i64), .lf (.int .i64)], [.lf (.int .i64)], [.agg [.h 0 [], .h 1 [0], .h 2 [0], .h 3 [0], .h 4 [], .h 5 []]], [], [.one (.h 0 [])], [], fun h => dynposref15_Check ⟨h.1, h.2.1, h.2.2.1, h.2.2.2.1, h.2.2.2.2.1, h.2.2.2.2.2⟩⟩
theorem c62_ok : ConOk Try.prog T c62 := fn_ok (Φ := [c84, c85, c86]) (rs := [.tmp 2]) (an := (.n none .o (.n none (.n none (.r (some (true, [(.normal, ⟨[.lf .bool], [(28, .one (.h 0 []))], [], [], 2192⟩)])) .nil) .o) (.n none (.n none (.r (some (true, [(.normal, ⟨[.lf .bool], [(61, .one (.h 0 []))], [], [], 2257⟩)])) .nil) .o) .o)))) pOk repOk (AllC.mem (⟨c84_ok, c85_ok, c86_ok, trivial⟩ : AllC _ _ [c84, c85, c86])) hmix Try.call62 Try.func62 rfl rfl (by kernel_rfl) (fun h => by kernel_rfl)

noncomputable def dynposref15_Before (a0 : Part) (a1 : Part) : Option (Bool) :=
  Option.bind
    (if decide (a0.Kind < a1.Kind) = true then some true
    else if (a0.Kind == a1.Kind) = true then some (decide (a0.Number < a1.Number)) else some false)
    fun x1 => some x1
noncomputable def c75 : Con D := ⟨75, [.lf (.int .i64), .lf (.int .i64), .lf (.int .i64), .lf (.int .i64)], [.lf .bool], [.agg [.h 0 [], .h 1 []], .agg [.h 2 [], .h 3 []]], [], [.one (.h 0 [])], [], fun h => dynposref15_Before ⟨h.1, h.2.1⟩ ⟨h.2.2.1, h.2.2.2⟩⟩
theorem c75_ok : ConOk Try.prog T c75 := fn_ok (Φ := []) (rs := [.tmp 4]) (an := (.n none .o (.n none (.r (some (true, [(.normal, ⟨[.lf .bool], [(4, .one (.h 0 []))], [], [], 2256⟩)])) .nil) .o))) pOk repOk (AllC.mem (l := []) trivial) hmix Try.call75 Try.func75 rfl rfl (by kernel_rfl) (fun h => by kernel_rfl)

noncomputable def dynposref15_State_L1 (a1 : Power) : Int →
  Option
    (Int ⊕
      Unit ⊕
        Int) := fun x3 =>
  if decide (x3 < len a1.Sources) = true then
    Option.bind (idx a1.Sources x3) fun x4 =>
      Option.bind
        (Option.bind (dynposref15_within x4.State 0 3) fun x5 =>
          if (!x5) = true then some true
          else
            Option.bind (dynposref15_within x4.Since 0 2147483648) fun x6 =>
              if (!x6) = true then some true
              else
                Option.bind (dynposref15_within x4.Frequency 0 6000) fun x7 =>
                  if (!x7) = true then some true
                  else Option.bind (dynposref15_within x4.Phase 0 3599) fun x8 => some !x8)
        fun x9 => if x9 = true then some (.inr (.inr 11)) else some (.inl (W (x3 + 1)))
  else some (.inr (.inl ()))
noncomputable def dynposref15_State_L2 (a0 : Board) (a1 : Power) : Int →
  Option
    (Int ⊕
      Unit ⊕
        Int) := fun x12 =>
  if decide (x12 < len a1.Limits) = true then
    Option.bind (idx a1.Limits x12) fun x13 =>
      Option.bind (idx a0.Consumers x12) fun x14 =>
        Option.bind (dynposref15_within x13 0 x14.Load) fun x15 =>
          if (!x15) = true then some (.inr (.inr 11)) else some (.inl (W (x12 + 1)))
  else some (.inr (.inl ()))
noncomputable def dynposref15_State_L3 (a0 : Board) (a1 : Power) : Int →
  Option
    (Int ⊕
      Unit ⊕
        Int) := fun x18 =>
  if decide (x18 < len a1.Broken) = true then
    Option.bind (idx a1.Broken x18) fun x19 =>
      Option.bind
        (Option.bind (dynposref15_Exists a0 x19) fun x20 =>
          if (!x20) = true then some true
          else
            if decide (x18 > 0) = true then
              Option.bind (idx a1.Broken (W (x18 - 1))) fun x21 =>
                Option.bind (dynposref15_Before x21 x19) fun x22 => some !x22
            else some false)
        fun x23 =>
        if x23 = true then some (.inr (.inr 11)) else some (.inl (W (x18 + 1)))
  else some (.inr (.inl ()))
noncomputable def dynposref15_State_L5 (a1 : Power) (x27 : List
  Int) : Int × Int →
  Option
    (Int × Int ⊕
      Int) := fun x28 =>
  if decide (x28.2 < len x27) = true then
    Option.bind (idx x27 x28.2) fun x29 =>
      Option.bind (idx a1.Closed x29) fun x30 =>
        Option.bind (if x30 = true then some (W (x28.1 + 1)) else some x28.1) fun x31 =>
          some (.inl (x31, W (x28.2 + 1)))
  else some (.inr x28.1)
noncomputable def dynposref15_State_L4 (a0 : Board) (a1 : Power) : Int →
  Option
    (Int ⊕
      Unit ⊕
        Int) := fun x26 =>
  if decide (x26 < len a0.Consumers) = true then
    Option.bind (dynposref15_of a0 3 x26) fun x27 =>
      Option.bind (loopO (dynposref15_State_L5 a1 x27) (0, 0)) fun x32 =>
        if decide (x32 > 1) = true then some (.inr (.inr 11))
        else some (.inl (W (x26 + 1)))
  else some (.inr (.inl ()))
noncomputable def dynposref15_State (a0 : Board) (a1 : Power) : Option (Int) :=
  Option.bind (dynposref15_Check a0) fun x1 =>
    if (x1 != 0) = true then some x1
    else
      Option.bind
        (if (len a1.Closed != len a0.Breakers) = true then some true
        else if (len a1.Sources != len a0.Sources) = true then some true else some (len a1.Limits != len a0.Consumers))
        fun x2 =>
        if x2 = true then some 8
        else
          Option.bind (loopO (dynposref15_State_L1 a1) 0) fun x10 =>
            Sum.elim
              (fun x11 =>
                Option.bind (loopO (dynposref15_State_L2 a0 a1) 0) fun x16 =>
                  Sum.elim
                    (fun x17 =>
                      if decide (len a1.Broken > 32) = true then some 11
                      else
                        Option.bind (loopO (dynposref15_State_L3 a0 a1) 0) fun x24 =>
                          Sum.elim
                            (fun x25 =>
                              Option.bind (loopO (dynposref15_State_L4 a0 a1) 0) fun x33 =>
                                Sum.elim (fun x34 => some 0) (fun x35 => some x35) x33)
                            (fun x36 => some x36) x24)
                    (fun x37 => some x37) x16)
              (fun x38 => some x38) x10
noncomputable def c48 : Con D := ⟨48, [.lf (.int .i64), .lf (.sl 4), .lf (.sl 5), .lf (.sl 6), .lf (.int .i64), .lf (.int .i64), .lf (.sl 1), .lf (.sl 8), .lf (.sl 0), .lf (.sl 9)], [.lf (.int .i64)], [.agg [.h 0 [], .h 1 [0], .h 2 [0], .h 3 [0], .h 4 [], .h 5 []], .agg [.h 6 [0], .h 7 [0], .h 8 [0], .h 9 [0]]], [], [.one (.h 0 [])], [], fun h => dynposref15_State ⟨h.1, h.2.1, h.2.2.1, h.2.2.2.1, h.2.2.2.2.1, h.2.2.2.2.2.1⟩ ⟨h.2.2.2.2.2.2.1, h.2.2.2.2.2.2.2.1, h.2.2.2.2.2.2.2.2.1, h.2.2.2.2.2.2.2.2.2⟩⟩
theorem c48_ok : ConOk Try.prog T c48 := fn_ok (Φ := [c62, c63, c73, c74, c75]) (rs := [.tmp 4]) (an := (.n none .o (.n none .o (.n none (.n none (.r (some (true, [(.normal, ⟨[.lf .bool], [(45, .one (.h 0 []))], [], [], 2576⟩)])) .nil) .o) (.n none (.n none .o (.n none (.loop ⟨[.lf (.int .i64)], [(49, .one (.h 0 []))], [], [], 2897⟩ false [(.exit 0, ⟨[], [], [], [], 2897⟩)] (.n none .o (.n none .o (.n none (.n none (.n none .o (.n none (.r (some (true, [(.normal, ⟨[.lf .bool], [(58, .one (.any)), (59, .one (.any)), (60, .one (.any)), (61, .one (.any)), (64, .one (.any)), (65, .one (.any)), (66, .one (.any)), (67, .one (.any)), (70, .one (.any)), (71, .one (.any)), (72, .one (.any)), (73, .one (.any)), (74, .one (.h 0 []))], [], [], 3282⟩)])) .nil) .o)) .o) .o)))) .o)) (.n none (.n none .o (.n none (.loop ⟨[.lf (.int .i64)], [(79, .one (.h 0 []))], [], [], 3217⟩ false [(.exit 2, ⟨[], [], [], [], 3217⟩)] .o) .o)) (.n none .o (.n none (.n none .o (.n none (.loop ⟨[.lf (.int .i64)], [(101, .one (.h 0 []))], [], [], 3793⟩ false [(.exit 4, ⟨[], [], [], [], 3793⟩)] (.n none .o (.n none .o (.n none (.n none (.n none .o (.n none (.r (some (true, [(.normal, ⟨[.lf .bool], [(111, .one (.any)), (112, .one (.any)), (113, .one (.any)), (114, .one (.any)), (115, .one (.any)), (116, .one (.any)), (117, .one (.any)), (118, .one (.any)), (119, .one (.any)), (120, .one (.any)), (121, .one (.any)), (122, .one (.any)), (123, .one (.any)), (124, .one (.h 0 []))], [], [], 4306⟩)])) .nil) .o)) .o) .o)))) .o)) (.n none (.n none .o (.n none (.loop ⟨[.lf (.int .i64)], [(129, .one (.h 0 []))], [], [], 4113⟩ false [(.exit 6, ⟨[], [], [], [], 4113⟩)] (.n none .o (.n none .o (.n none (.n none (.n none .o (.n none .o (.n none (.n none .o (.n none (.loop ⟨[.lf (.int .i64), .lf (.int .i64)], [(13, .one (.h 0 [])), (136, .one (.h 1 []))], [], [], 4754⟩ true [(.exit 8, ⟨[.lf (.int .i64)], [(13, .one (.h 0 []))], [], [], 4754⟩)] (.n none .o (.n none .o (.n none (.n none (.n none .o (.n none .o (.n (some (true, [(.normal, ⟨[.lf (.int .i64)], [(13, .one (.h 0 []))], [], [], 5396⟩)])) .o .o))) .o) .o)))) .o)) .o))) .o) .o)))) .o)) .o))))))))) pOk repOk (AllC.mem (⟨c62_ok, c63_ok, c73_ok, c74_ok, c75_ok, trivial⟩ : AllC _ _ [c62, c63, c73, c74, c75])) hmix Try.call48 Try.func48 rfl rfl (by kernel_rfl) (fun h => by kernel_rfl)

noncomputable def dynposref15_reach_L2 (a0 : Board) (a1 : Power) : Int × List Bool →
  Option
    (Int × List Bool ⊕
      List
        Bool) := fun x6 =>
  if decide (x6.1 < len a0.Breakers) = true then
    Option.bind (idx a0.Breakers x6.1) fun x7 =>
      Option.bind
        (if (x7.Kind == 1) = true then
          Option.bind (idx a1.Closed x6.1) fun x8 =>
            if x8 = true then
              Option.bind (idx x6.2 x7.A) fun x9 =>
                if x9 = true then some true else Option.bind (idx x6.2 x7.B) fun x10 => some x10
            else some false
        else some false)
        fun x11 =>
        Option.bind
          (if x11 = true then
            Option.bind (idx x6.2 x7.A) fun x12 =>
              Option.bind (idx x6.2 x7.A) fun x13 =>
                Option.bind (setO x6.2 x7.A true) fun x14 =>
                  Option.bind (idx x14 x7.B) fun x15 =>
                    Option.bind (idx x14 x7.B) fun x16 => Option.bind (setO x14 x7.B true) fun x17 => some x17
          else some x6.2)
          fun x18 => some (.inl (W (x6.1 + 1), x18))
  else some (.inr x6.2)
noncomputable def dynposref15_reach_L1 (a0 : Board) (a1 : Power) (x4 : List
  Bool) : Int × List Bool →
  Option
    (Int × List Bool ⊕
      List
        Bool) := fun x5 =>
  if decide (x5.1 < len x4) = true then
    Option.bind (loopO (dynposref15_reach_L2 a0 a1) (0, x5.2)) fun x19 =>
      some (.inl (W (x5.1 + 1), x19))
  else some (.inr x5.2)
noncomputable def dynposref15_reach_L3 (x20 : List
  Bool) : Int × List Int →
  Option
    (Int × List Int ⊕
      List
        Int) := fun x21 =>
  if decide (x21.1 < len x20) = true then
    Option.bind (idx x20 x21.1) fun x22 =>
      Option.bind (if x22 = true then Option.bind (app x21.2 [x21.1]) fun x23 => some x23 else some x21.2)
        fun x24 => some (.inl (W (x21.1 + 1), x24))
  else some (.inr x21.2)
noncomputable def dynposref15_reach (a0 : Board) (a1 : Power) (a2 : Int) : Option ((List Int)) :=
  Option.bind (mkZ false a0.Buses) fun x1 =>
    Option.bind (idx x1 a2) fun x2 =>
      Option.bind (idx x1 a2) fun x3 =>
        Option.bind (setO x1 a2 true) fun x4 =>
          Option.bind (loopO (dynposref15_reach_L1 a0 a1 x4) (0, x4)) fun x20 =>
            Option.bind (loopO (dynposref15_reach_L3 x20) (0, [])) fun x25 => some x25
noncomputable def c60 : Con D := ⟨60, [.lf (.int .i64), .lf (.sl 4), .lf (.sl 5), .lf (.sl 6), .lf (.int .i64), .lf (.int .i64), .lf (.sl 1), .lf (.sl 8), .lf (.sl 0), .lf (.sl 9), .lf (.int .i64)], [.lf (.sl 0)], [.agg [.h 0 [], .h 1 [0], .h 2 [0], .h 3 [0], .h 4 [], .h 5 []], .agg [.h 6 [0], .h 7 [0], .h 8 [0], .h 9 [0]], .one (.h 10 [])], [], [.one (.own 1000)], [(1000, .sl 0 3 0 [])], fun h => dynposref15_reach ⟨h.1, h.2.1, h.2.2.1, h.2.2.2.1, h.2.2.2.2.1, h.2.2.2.2.2.1⟩ ⟨h.2.2.2.2.2.2.1, h.2.2.2.2.2.2.2.1, h.2.2.2.2.2.2.2.2.1, h.2.2.2.2.2.2.2.2.2.1⟩ h.2.2.2.2.2.2.2.2.2.2⟩
theorem c60_ok : ConOk Try.prog T c60 := fn_ok (Φ := []) (rs := [.tmp 6]) (an := (.n none .o (.n none .o (.n none .o (.n none (.n none .o (.n none (.loop ⟨[.lf (.int .i64), .lf (.sl 1)], [(20, .one (.h 0 []))], [(2320, .sl 1 4 1 [])], [2320], 2960⟩ true [(.exit 0, ⟨[.lf (.sl 1)], [], [(2320, .sl 1 4 0 [])], [2320], 2960⟩)] (.n none .o (.n none .o (.n none (.n none (.n none .o (.n none (.loop ⟨[.lf (.int .i64), .lf (.sl 1)], [(25, .one (.h 0 []))], [(2320, .sl 1 4 1 [])], [2320], 3346⟩ true [(.exit 2, ⟨[.lf (.sl 1)], [], [(2320, .sl 1 4 0 [])], [2320], 3346⟩)] (.n none .o (.n none .o (.n none (.n none (.n none .o (.n none (.r (some (true, [(.normal, ⟨[.lf .bool], [(34, .one (.any)), (35, .one (.any)), (36, .one (.any)), (37, .one (.any)), (38, .one (.any)), (41, .one (.any)), (42, .one (.any)), (43, .one (.any)), (44, .one (.any)), (45, .one (.any)), (46, .one (.any)), (47, .one (.any)), (48, .one (.any)), (49, .one (.any)), (50, .one (.any)), (51, .one (.any)), (52, .one (.any)), (53, .one (.h 0 []))], [], [], 3860⟩)])) .nil) (.n (some (true, [(.normal, ⟨[.lf (.sl 1)], [], [(2320, .sl 1 4 0 [])], [2320], 3925⟩)])) .o .o))) .o) .o)))) .o)) .o) .o)))) .o)) (.n none .o (.n none (.n none .o (.n none (.loop ⟨[.lf (.int .i64), .lf (.sl 0)], [(10, .one (.own 3217)), (66, .one (.h 0 []))], [(3217, .sl 0 3 1 [])], [], 3281⟩ true [(.exit 4, ⟨[.lf (.sl 0)], [(10, .one (.own 3217))], [(3217, .sl 0 3 0 [])], [], 3281⟩)] (.n none .o (.n none .o (.n none (.n none (.n none .o (.n none .o (.n (some (true, [(.normal, ⟨[.lf (.sl 0)], [(10, .one (.own 3731))], [(3731, .sl 0 3 0 [])], [3217], 3795⟩)])) .o .o))) .o) .o)))) .o)) .o))))))) pOk repOk (AllC.mem (l := []) trivial) hmix Try.call60 Try.func60 rfl rfl (by kernel_rfl) (fun h => by kernel_rfl)

noncomputable def dynposref15_Connected (a0 : Board) (a1 : Power) (a2 : Int) : Option (Int × Bool) :=
  Option.bind
    (Option.bind (dynposref15_State a0 a1) fun x1 =>
      if (x1 != 0) = true then some true
      else
        if decide (a2 < 0) = true then some true
        else
          if decide (a2 ≥ len a0.Sources) = true then some true
          else Option.bind (idx a1.Sources a2) fun x2 => some (x2.State != 2))
    fun x3 =>
    if x3 = true then some (0, false)
    else
      Option.bind (dynposref15_of a0 2 a2) fun x4 =>
        Option.bind (idx x4 0) fun x5 =>
          Option.bind (idx a1.Closed x5) fun x6 =>
            if (!x6) = true then some (0, false)
            else Option.bind (idx a0.Breakers x5) fun x7 => some (x7.A, true)
noncomputable def c40 : Con D := ⟨40, [.lf (.int .i64), .lf (.sl 4), .lf (.sl 5), .lf (.sl 6), .lf (.int .i64), .lf (.int .i64), .lf (.sl 1), .lf (.sl 8), .lf (.sl 0), .lf (.sl 9), .lf (.int .i64)], [.lf (.int .i64), .lf .bool], [.agg [.h 0 [], .h 1 [0], .h 2 [0], .h 3 [0], .h 4 [], .h 5 []], .agg [.h 6 [0], .h 7 [0], .h 8 [0], .h 9 [0]], .one (.h 10 [])], [], [.one (.h 0 []), .one (.h 1 [])], [], fun h => dynposref15_Connected ⟨h.1, h.2.1, h.2.2.1, h.2.2.2.1, h.2.2.2.2.1, h.2.2.2.2.2.1⟩ ⟨h.2.2.2.2.2.2.1, h.2.2.2.2.2.2.2.1, h.2.2.2.2.2.2.2.2.1, h.2.2.2.2.2.2.2.2.2.1⟩ h.2.2.2.2.2.2.2.2.2.2⟩
theorem c40_ok : ConOk Try.prog T c40 := fn_ok (Φ := [c48, c63]) (rs := [.tmp 6, .tmp 7]) (an := (.n none .o (.n none (.n none (.r (some (true, [(.normal, ⟨[.lf .bool], [(32, .one (.h 0 []))], [], [], 2320⟩)])) .nil) .o) .o))) pOk repOk (AllC.mem (⟨c48_ok, c63_ok, trivial⟩ : AllC _ _ [c48, c63])) hmix Try.call40 Try.func40 rfl rfl (by kernel_rfl) (fun h => by kernel_rfl)

noncomputable def dynposref01_Has_L1 (a0 : List
  Int) (a1 : Int) : Int →
  Option
    (Int ⊕
      Unit ⊕
        Bool) := fun x1 =>
  if decide (x1 < len a0) = true then
    Option.bind (idx a0 x1) fun x2 =>
      if (x2 == a1) = true then some (.inr (.inr true)) else some (.inl (W (x1 + 1)))
  else some (.inr (.inl ()))
noncomputable def dynposref01_Has (a0 : (List Int)) (a1 : Int) : Option (Bool) :=
  Option.bind (loopO (dynposref01_Has_L1 a0 a1) 0) fun x3 =>
    Sum.elim (fun x4 => some false) (fun x5 => some x5) x3
noncomputable def c41 : Con D := ⟨41, [.lf (.sl 0), .lf (.int .i64)], [.lf .bool], [.one (.h 0 [0]), .one (.h 1 [])], [], [.one (.h 0 [])], [], fun h => dynposref01_Has h.1 h.2⟩
theorem c41_ok : ConOk Try.prog T c41 := fn_ok (Φ := []) (rs := [.tmp 4]) (an := (.n none .o (.n none (.n none .o (.n none (.loop ⟨[.lf (.int .i64)], [(9, .one (.h 0 []))], [], [], 2320⟩ false [(.exit 0, ⟨[], [], [], [], 2320⟩)] .o) .o)) .o))) pOk repOk (AllC.mem (l := []) trivial) hmix Try.call41 Try.func41 rfl rfl (by kernel_rfl) (fun h => by kernel_rfl)

noncomputable def dynposref15_Fed_L1 (a0 : Board) (a1 : Power) (x3 : List
  Int) : Int →
  Option
    (Int ⊕
      Unit ⊕
        Int ×
          Bool) := fun x4 =>
  if decide (x4 < len x3) = true then
    Option.bind (idx x3 x4) fun x5 =>
      Option.bind (idx a1.Closed x5) fun x6 =>
        if x6 = true then Option.bind (idx a0.Breakers x5) fun x7 => some (.inr (.inr (x7.A, true)))
        else some (.inl (W (x4 + 1)))
  else some (.inr (.inl ()))
noncomputable def dynposref15_Fed (a0 : Board) (a1 : Power) (a2 : Int) : Option (Int × Bool) :=
  Option.bind
    (Option.bind (dynposref15_State a0 a1) fun x1 =>
      if (x1 != 0) = true then some true
      else if decide (a2 < 0) = true then some true else some (decide (a2 ≥ len a0.Consumers)))
    fun x2 =>
    if x2 = true then some (0, false)
    else
      Option.bind (dynposref15_of a0 3 a2) fun x3 =>
        Option.bind (loopO (dynposref15_Fed_L1 a0 a1 x3) 0) fun x8 =>
          Sum.elim (fun x9 => some (0, false)) (fun x10 => some x10) x8
noncomputable def c61 : Con D := ⟨61, [.lf (.int .i64), .lf (.sl 4), .lf (.sl 5), .lf (.sl 6), .lf (.int .i64), .lf (.int .i64), .lf (.sl 1), .lf (.sl 8), .lf (.sl 0), .lf (.sl 9), .lf (.int .i64)], [.lf (.int .i64), .lf .bool], [.agg [.h 0 [], .h 1 [0], .h 2 [0], .h 3 [0], .h 4 [], .h 5 []], .agg [.h 6 [0], .h 7 [0], .h 8 [0], .h 9 [0]], .one (.h 10 [])], [], [.one (.h 0 []), .one (.h 1 [])], [], fun h => dynposref15_Fed ⟨h.1, h.2.1, h.2.2.1, h.2.2.2.1, h.2.2.2.2.1, h.2.2.2.2.2.1⟩ ⟨h.2.2.2.2.2.2.1, h.2.2.2.2.2.2.2.1, h.2.2.2.2.2.2.2.2.1, h.2.2.2.2.2.2.2.2.2.1⟩ h.2.2.2.2.2.2.2.2.2.2⟩
theorem c61_ok : ConOk Try.prog T c61 := fn_ok (Φ := [c48, c63]) (rs := [.tmp 6, .tmp 7]) (an := (.n none .o (.n none (.n none (.r (some (true, [(.normal, ⟨[.lf .bool], [(24, .one (.h 0 []))], [], [], 2320⟩)])) .nil) .o) (.n none (.n none .o (.n none (.loop ⟨[.lf (.int .i64)], [(29, .one (.h 0 []))], [], [], 2705⟩ false [(.exit 0, ⟨[], [], [], [], 2705⟩)] .o) .o)) .o)))) pOk repOk (AllC.mem (⟨c48_ok, c63_ok, trivial⟩ : AllC _ _ [c48, c63])) hmix Try.call61 Try.func61 rfl rfl (by kernel_rfl) (fun h => by kernel_rfl)

noncomputable def dynposref15_Of_L1 (a0 : Board) (a1 : Power) (x3 : List
  Int) : Int × List Int →
  Option
    (Int × List Int ⊕
      List
        Int) := fun x4 =>
  if decide (x4.1 < len a0.Sources) = true then
    Option.bind (dynposref15_Connected a0 a1 x4.1) fun x5 =>
      Option.bind (if x5.2 = true then Option.bind (dynposref01_Has x3 x5.1) fun x6 => some x6 else some false)
        fun x7 =>
        Option.bind (if x7 = true then Option.bind (app x4.2 [x4.1]) fun x8 => some x8 else some x4.2) fun x9 =>
          some (.inl (W (x4.1 + 1), x9))
  else some (.inr x4.2)
noncomputable def dynposref15_Of_L2 (a0 : Board) (a1 : Power) (x3 : List
  Int) : Int × List Int →
  Option
    (Int × List Int ⊕
      List
        Int) := fun x11 =>
  if decide (x11.1 < len a0.Consumers) = true then
    Option.bind (dynposref15_Fed a0 a1 x11.1) fun x12 =>
      Option.bind (if x12.2 = true then Option.bind (dynposref01_Has x3 x12.1) fun x13 => some x13 else some false)
        fun x14 =>
        Option.bind (if x14 = true then Option.bind (app x11.2 [x11.1]) fun x15 => some x15 else some x11.2)
          fun x16 => some (.inl (W (x11.1 + 1), x16))
  else some (.inr x11.2)
noncomputable def dynposref15_Of (a0 : Board) (a1 : Power) (a2 : Int) : Option (Bool × (List Int) × (List Int) × (List Int)) :=
  Option.bind
    (Option.bind (dynposref15_State a0 a1) fun x1 =>
      if (x1 != 0) = true then some true
      else if decide (a2 < 0) = true then some true else some (decide (a2 ≥ a0.Buses)))
    fun x2 =>
    if x2 = true then some (false, [], [], [])
    else
      Option.bind (dynposref15_reach a0 a1 a2) fun x3 =>
        Option.bind (loopO (dynposref15_Of_L1 a0 a1 x3) (0, [])) fun x10 =>
          Option.bind (loopO (dynposref15_Of_L2 a0 a1 x3) (0, [])) fun x17 => some (true, x3, x10, x17)
noncomputable def c34 : Con D := ⟨34, [.lf (.int .i64), .lf (.sl 4), .lf (.sl 5), .lf (.sl 6), .lf (.int .i64), .lf (.int .i64), .lf (.sl 1), .lf (.sl 8), .lf (.sl 0), .lf (.sl 9), .lf (.int .i64)], [.lf .bool, .lf (.sl 0), .lf (.sl 0), .lf (.sl 0)], [.agg [.h 0 [], .h 1 [0], .h 2 [0], .h 3 [0], .h 4 [], .h 5 []], .agg [.h 6 [0], .h 7 [0], .h 8 [0], .h 9 [0]], .one (.h 10 [])], [], [.agg [.own 1000, .own 1001, .own 1002], .one (.h 0 [])], [(1000, .sl 0 3 1 []), (1001, .sl 0 3 2 []), (1002, .sl 0 3 3 [])], fun h => dynposref15_Of ⟨h.1, h.2.1, h.2.2.1, h.2.2.2.1, h.2.2.2.2.1, h.2.2.2.2.2.1⟩ ⟨h.2.2.2.2.2.2.1, h.2.2.2.2.2.2.2.1, h.2.2.2.2.2.2.2.2.1, h.2.2.2.2.2.2.2.2.2.1⟩ h.2.2.2.2.2.2.2.2.2.2⟩
theorem c34_ok : ConOk Try.prog T c34 := fn_ok (Φ := [c40, c41, c48, c60, c61]) (rs := [.cell 6 82, .tmp 7]) (an := (.n none .o (.n none (.n none (.r (some (true, [(.normal, ⟨[.lf .bool], [(28, .one (.h 0 []))], [], [], 2320⟩)])) .nil) .o) (.n none .o (.n none (.n none .o (.n none (.loop ⟨[.lf (.int .i64), .lf (.sl 0)], [(38, .one (.h 0 []))], [(2641, .box [.own 2521, .own 3025, .nils]), (3025, .sl 0 3 1 [])], [2641], 3089⟩ true [(.exit 0, ⟨[.lf (.sl 0)], [], [(2641, .box [.own 2521, .own 3025, .nils]), (3025, .sl 0 3 0 [])], [2641], 3089⟩)] (.n none .o (.n none .o (.n none (.n none (.n none .o (.n none .o (.n none (.r (some (true, [(.normal, ⟨[.lf .bool], [(50, .one (.any)), (51, .one (.any)), (52, .one (.any)), (53, .one (.any)), (54, .one (.h 0 []))], [], [], 3923⟩)])) .nil) (.n (some (true, [(.normal, ⟨[.lf (.sl 0)], [], [(2641, .box [.own 2521, .own 3924, .nils]), (3924, .sl 0 3 0 [])], [2641, 3025], 3988⟩)])) .o .o)))) .o) .o)))) .o)) (.n none (.n none .o (.n none (.loop ⟨[.lf (.int .i64), .lf (.sl 0)], [(65, .one (.h 0 []))], [(2641, .box [.own 2521, .own 3025, .own 3346]), (3346, .sl 0 3 1 [])], [2641], 3410⟩ true [(.exit 2, ⟨[.lf (.sl 0)], [], [(2641, .box [.own 2521, .own 3025, .own 3346]), (3346, .sl 0 3 0 [])], [2641], 3410⟩)] (.n none .o (.n none .o (.n none (.n none (.n none .o (.n none .o (.n none (.r (some (true, [(.normal, ⟨[.lf .bool], [(77, .one (.any)), (78, .one (.any)), (79, .one (.any)), (80, .one (.any)), (81, .one (.h 0 []))], [], [], 4244⟩)])) .nil) (.n (some (true, [(.normal, ⟨[.lf (.sl 0)], [], [(2641, .box [.own 2521, .own 3025, .own 4245]), (4245, .sl 0 3 0 [])], [2641, 3346], 4309⟩)])) .o .o)))) .o) .o)))) .o)) .o)))))) pOk repOk (AllC.mem (⟨c40_ok, c41_ok, c48_ok, c60_ok, c61_ok, trivial⟩ : AllC _ _ [c40, c41, c48, c60, c61])) hmix Try.call34 Try.func34 rfl rfl (by kernel_rfl) (fun h => by kernel_rfl)

noncomputable def dynposref15_Islands_L1 (a0 : Board) (a1 : Power) : Int × List Island →
  Option
    (Int × List Island ⊕
      List
        Island) := fun x2 =>
  if decide (x2.1 < a0.Buses) = true then
    Option.bind (dynposref15_Of a0 a1 x2.1) fun x3 =>
      Option.bind (idx x3.2.1 0) fun x4 =>
        Option.bind
          (if (x4 == x2.1) = true then
            Option.bind (app x2.2 [Island.mk x3.2.1 x3.2.2.1 x3.2.2.2]) fun x5 => some x5
          else some x2.2)
          fun x6 => some (.inl (W (x2.1 + 1), x6))
  else some (.inr x2.2)
noncomputable def dynposref15_Islands (a0 : Board) (a1 : Power) : Option ((List Island)) :=
  Option.bind (dynposref15_State a0 a1) fun x1 =>
    if (x1 != 0) = true then some []
    else Option.bind (loopO (dynposref15_Islands_L1 a0 a1) (0, [])) fun x7 => some x7
noncomputable def c94 : Con D := ⟨94, [.lf (.int .i64), .lf (.sl 4), .lf (.sl 5), .lf (.sl 6), .lf (.int .i64), .lf (.int .i64), .lf (.sl 1), .lf (.sl 8), .lf (.sl 0), .lf (.sl 9)], [.lf (.sl 13)], [.agg [.h 0 [], .h 1 [0], .h 2 [0], .h 3 [0], .h 4 [], .h 5 []], .agg [.h 6 [0], .h 7 [0], .h 8 [0], .h 9 [0]]], [], [.one (.own 1000)], [(1000, .sl 13 82 0 [1])], fun h => dynposref15_Islands ⟨h.1, h.2.1, h.2.2.1, h.2.2.2.1, h.2.2.2.2.1, h.2.2.2.2.2.1⟩ ⟨h.2.2.2.2.2.2.1, h.2.2.2.2.2.2.2.1, h.2.2.2.2.2.2.2.2.1, h.2.2.2.2.2.2.2.2.2⟩⟩
theorem c94_ok : ConOk Try.prog T c94 := fn_ok (Φ := [c34, c48]) (rs := [.tmp 4]) (an := (.n none .o (.n none .o (.n none .o (.n none (.n none .o (.n none (.loop ⟨[.lf (.int .i64), .lf (.sl 13)], [(5, .one (.own 2576)), (6, .one (.h 0 []))], [(2576, .sl 13 82 1 [1])], [], 2640⟩ true [(.exit 0, ⟨[.lf (.sl 13)], [(5, .one (.own 2576))], [(2576, .sl 13 82 0 [1])], [], 2640⟩)] (.n none .o (.n none (.n none (.n none .o (.n none .o (.n (some (true, [(.normal, ⟨[.lf (.sl 13)], [(5, .one (.own 3922))], [(3922, .sl 13 82 0 [1])], [2576, 3098, 3099, 3100], 3986⟩)])) .o .o))) .o) .o))) .o)) .o))))) pOk repOk (AllC.mem (⟨c34_ok, c48_ok, trivial⟩ : AllC _ _ [c34, c48])) hmix Try.call94 Try.func94 rfl rfl (by kernel_rfl) (fun h => by kernel_rfl)

noncomputable def Src_Power_L1 (a1 : Board) : Int × List Int × Int × List Bool →
  Option
    (Int × List Int × Int × List Bool ⊕
      List Int ×
        Int ×
          List
            Bool) := fun x1 =>
  if decide (x1.1 < len a1.Breakers) = true then
    Option.bind (Src_N (Src.mk x1.2.1 x1.2.2.1) 2) fun x2 =>
      Option.bind (app x1.2.2.2 [x2.1 == 1]) fun x3 =>
        some (.inl (W (x1.1 + 1), x2.2.1, x2.2.2, x3))
  else some (.inr (x1.2.1, x1.2.2.1, x1.2.2.2))
noncomputable def Src_Power_L3 (a1 : Board) (x5 : Int ×
  List
    Bool) : Bool × Int × List Bool →
  Option
    (Bool × Int × List Bool ⊕
      List
        Bool) := fun x6 =>
  if decide (x6.2.1 < len a1.Breakers) = true then
    Option.bind (idx a1.Breakers x6.2.1) fun x7 =>
      Option.bind
        (if (x7.Kind == 3) = true then
          if (x7.B == x5.1) = true then Option.bind (idx x6.2.2 x6.2.1) fun x8 => some x8 else some false
        else some false)
        fun x9 =>
        Option.bind
          (if x9 = true then
            Option.bind (idx x6.2.2 x6.2.1) fun x10 =>
              Option.bind (idx x6.2.2 x6.2.1) fun x11 =>
                Option.bind (setO x6.2.2 x6.2.1 x6.1) fun x12 => some (false, x12)
          else some (x6.1, x6.2.2))
          fun x13 => some (.inl (x13.1, W (x6.2.1 + 1), x13.2))
  else some (.inr x6.2.2)
noncomputable def Src_Power_L2 (a1 : Board) : Int × List Bool →
  Option
    (Int × List Bool ⊕
      List
        Bool) := fun x5 =>
  if decide (x5.1 < len a1.Consumers) = true then
    Option.bind (loopO (Src_Power_L3 a1 x5) (true, 0, x5.2)) fun x14 =>
      some (.inl (W (x5.1 + 1), x14))
  else some (.inr x5.2)
noncomputable def Src_Power_L4 (a1 : Board) : Int × List Int × Int × List Running →
  Option
    (Int × List Int × Int × List Running ⊕
      List Int ×
        Int ×
          List
            Running) := fun x16 =>
  if decide (x16.1 < len a1.Sources) = true then
    Option.bind
      (Src_Pick (Src.mk x16.2.1 x16.2.2.1)
        [0, 1, 2, 2, 2, 3])
      fun x17 =>
      Option.bind (Src_N (Src.mk x17.2.1 x17.2.2.1) 5) fun x18 =>
        Option.bind
          (Src_Pick (Src.mk x18.2.1 x18.2.2)
            [5000, 5000, 5005, 4950])
          fun x19 =>
          Option.bind
            (Src_Pick (Src.mk x19.2.1 x19.2.2.1)
              [0, 0, 40, 1800, 3590])
            fun x20 =>
            Option.bind (app x16.2.2.2 [Running.mk x17.1 x18.1 x19.1 x20.1]) fun x21 =>
              some (.inl (W (x16.1 + 1), x20.2.1, x20.2.2.1, x21))
  else some (.inr (x16.2.1, x16.2.2.1, x16.2.2.2))
noncomputable def Src_Power_L5 (a1 : Board) : Int × List Int × Int × List Int →
  Option
    (Int × List Int × Int × List Int ⊕
      List Int ×
        Int ×
          List
            Int) := fun x23 =>
  if decide (x23.1 < len a1.Consumers) = true then
    Option.bind (idx a1.Consumers x23.1) fun x24 =>
      Option.bind (quoO x24.Load 3) fun x25 =>
        Option.bind (Src_Pick (Src.mk x23.2.1 x23.2.2.1) [x24.Load, x24.Load, x24.Least, x25]) fun x26 =>
          Option.bind (app x23.2.2.2 [x26.1]) fun x27 =>
            some (.inl (W (x23.1 + 1), x26.2.1, x26.2.2.1, x27))
  else some (.inr (x23.2.1, x23.2.2.1, x23.2.2.2))
noncomputable def Src_Power_L6 (a1 : Board) : Int × List Int × Int × List Part →
  Option
    (Int × List Int × Int × List Part ⊕
      List Int ×
        Int ×
          List
            Part) := fun x29 =>
  if decide (x29.1 ≤ 4) = true then
    Option.bind (Src_N (Src.mk x29.2.1 x29.2.2.1) 5) fun x30 =>
      Option.bind
        (if (x30.1 == 4) = true then
          Option.bind (Src_N (Src.mk x30.2.1 x30.2.2) 4) fun x31 =>
            Option.bind (dynposref15_Exists a1 (Part.mk x29.1 x31.1)) fun x32 =>
              Option.bind
                (if x32 = true then Option.bind (app x29.2.2.2 [Part.mk x29.1 x31.1]) fun x33 => some x33
                else some x29.2.2.2)
                fun x34 => some (x31.2.1, x31.2.2, x34)
        else some (x30.2.1, x30.2.2, x29.2.2.2))
        fun x35 => some (.inl (W (x29.1 + 1), x35.1, x35.2.1, x35.2.2))
  else some (.inr (x29.2.1, x29.2.2.1, x29.2.2.2))
noncomputable def Src_Power (a0 : Src) (a1 : Board) : Option ((List Int) × Int × (List Breaker) × (List Source) × (List Consumer) × (List Bool) × (List Running) × (List Int) × (List Part)) :=
  Option.bind (loopO (Src_Power_L1 a1) (0, a0.L, a0.At, [])) fun x4 =>
    Option.bind (loopO (Src_Power_L2 a1) (0, x4.2.2)) fun x15 =>
      Option.bind (loopO (Src_Power_L4 a1) (0, x4.1, x4.2.1, [])) fun x22 =>
        Option.bind (loopO (Src_Power_L5 a1) (0, x22.1, x22.2.1, [])) fun x28 =>
          Option.bind (loopO (Src_Power_L6 a1) (1, x28.1, x28.2.1, [])) fun x36 =>
            some
              (x36.1, x36.2.1, a1.Breakers, a1.Sources, a1.Consumers, x15, x22.2.2, x28.2.2, x36.2.2)
noncomputable def c53_1 : Con D := ⟨53, [.lf (.sl 0), .lf (.int .i64), .lf (.int .i64), .lf (.sl 4), .lf (.sl 5), .lf (.sl 6), .lf (.int .i64), .lf (.int .i64)], [.lf (.sl 0), .lf (.int .i64), .lf (.sl 4), .lf (.sl 5), .lf (.sl 6), .lf (.sl 1), .lf (.sl 8), .lf (.sl 0), .lf (.sl 9)], [.one (.ptr 1000 0), .agg [.h 2 [], .own 1001, .own 1002, .own 1003, .h 6 [], .h 7 []]], [(1000, .box [.h 0 [0], .h 1 []]), (1001, .sl 4 66 3 [0]), (1002, .sl 5 68 4 [0]), (1003, .sl 6 64 5 [0])], [.agg [.own 1004, .own 1005, .own 1006, .own 1007]], [(1000, .box [.h 0 [0], .h 1 []]), (1001, .sl 4 66 2 [0]), (1002, .sl 5 68 3 [0]), (1003, .sl 6 64 4 [0]), (1004, .sl 1 4 5 []), (1005, .sl 8 70 6 []), (1006, .sl 0 3 7 []), (1007, .sl 9 80 8 [])], fun h => Src_Power ⟨h.1, h.2.1⟩ ⟨h.2.2.1, h.2.2.2.1, h.2.2.2.2.1, h.2.2.2.2.2.1, h.2.2.2.2.2.2.1, h.2.2.2.2.2.2.2⟩⟩
theorem c53_1_ok : ConOk Try.prog T c53_1 := fn_ok (Φ := [c10, c51_1, c74]) (rs := [.cell 4 32]) (an := (.n none .o (.n none .o (.n none (.n none .o (.n none (.loop ⟨[.lf (.int .i64), .lf (.sl 0), .lf (.int .i64), .lf (.sl 1)], [(17, .one (.h 0 []))], [(1000, .box [.h 1 [0], .h 2 []]), (2128, .box [.own 2448, .nils, .nils, .nils]), (2448, .sl 1 4 3 [])], [1000, 2128], 2512⟩ true [(.exit 0, ⟨[.lf (.sl 0), .lf (.int .i64), .lf (.sl 1)], [], [(1000, .box [.h 0 [0], .h 1 []]), (2128, .box [.own 2448, .nils, .nils, .nils]), (2448, .sl 1 4 2 [])], [1000, 2128], 2512⟩)] .o) .o)) (.n none (.n none .o (.n none (.loop ⟨[.lf (.int .i64), .lf (.sl 1)], [(31, .one (.h 0 []))], [(2448, .sl 1 4 1 [])], [2448], 2835⟩ true [(.exit 2, ⟨[.lf (.sl 1)], [], [(2448, .sl 1 4 0 [])], [2448], 2835⟩)] (.n none .o (.n none .o (.n none (.n none (.n none .o (.n none .o (.n none .o (.n none (.loop ⟨[.lf .bool, .lf (.int .i64), .lf (.sl 1)], [(7, .one (.h 0 [])), (37, .one (.h 1 []))], [(2448, .sl 1 4 2 [])], [2448], 3413⟩ true [(.exit 4, ⟨[.lf (.sl 1)], [], [(2448, .sl 1 4 0 [])], [2448], 3413⟩)] (.n none .o (.n none .o (.n none (.n none (.n none .o (.n none (.r (some (true, [(.normal, ⟨[.lf .bool], [(46, .one (.any)), (47, .one (.any)), (48, .one (.any)), (49, .one (.any)), (52, .one (.any)), (53, .one (.any)), (54, .one (.any)), (55, .one (.any)), (56, .one (.any)), (57, .one (.h 0 []))], [], [], 3928⟩)])) .nil) (.n (some (true, [(.normal, ⟨[.lf .bool, .lf (.sl 1)], [(7, .one (.h 0 []))], [(2448, .sl 1 4 1 [])], [2448], 3993⟩)])) .o .o))) .o) .o)))) .o)))) .o) .o)))) .o)) (.n none (.n none .o (.n none (.loop ⟨[.lf (.int .i64), .lf (.sl 0), .lf (.int .i64), .lf (.sl 8)], [(68, .one (.h 0 []))], [(1000, .box [.h 1 [0], .h 2 []]), (2128, .box [.own 2448, .own 3092, .nils, .nils]), (3092, .sl 8 70 3 [])], [1000, 2128], 3156⟩ true [(.exit 6, ⟨[.lf (.sl 0), .lf (.int .i64), .lf (.sl 8)], [], [(1000, .box [.h 0 [0], .h 1 []]), (2128, .box [.own 2448, .own 3092, .nils, .nils]), (3092, .sl 8 70 2 [])], [1000, 2128], 3156⟩)] .o) .o)) (.n none (.n none .o (.n none (.loop ⟨[.lf (.int .i64), .lf (.sl 0), .lf (.int .i64), .lf (.sl 0)], [(91, .one (.h 0 []))], [(1000, .box [.h 1 [0], .h 2 []]), (2128, .box [.own 2448, .own 3092, .own 3415, .nils]), (3415, .sl 0 3 3 [])], [1000, 2128], 3479⟩ true [(.exit 8, ⟨[.lf (.sl 0), .lf (.int .i64), .lf (.sl 0)], [], [(1000, .box [.h 0 [0], .h 1 []]), (2128, .box [.own 2448, .own 3092, .own 3415, .nils]), (3415, .sl 0 3 2 [])], [1000, 2128], 3479⟩)] .o) .o)) (.n none (.n none .o (.n none (.loop ⟨[.lf (.int .i64), .lf (.sl 0), .lf (.int .i64), .lf (.sl 9)], [(12, .one (.h 0 []))], [(1000, .box [.h 1 [0], .h 2 []]), (2128, .box [.own 2448, .own 3092, .own 3415, .own 3546]), (3546, .sl 9 80 3 [])], [1000, 2128], 3610⟩ true [(.exit 10, ⟨[.lf (.sl 0), .lf (.int .i64), .lf (.sl 9)], [], [(1000, .box [.h 0 [0], .h 1 []]), (2128, .box [.own 2448, .own 3092, .own 3415, .own 3546]), (3546, .sl 9 80 2 [])], [1000, 2128], 3610⟩)] (.n none .o (.n none (.n none (.n none .o (.n (some (true, [(.normal, ⟨[.lf (.sl 0), .lf (.int .i64), .lf (.sl 9)], [], [(1000, .box [.h 0 [0], .h 1 []]), (2128, .box [.own 2448, .own 3092, .own 3415, .own 3934]), (3934, .sl 9 80 2 [])], [1000, 2128, 3546], 3998⟩)])) (.n none .o (.n none .o (.n (some (true, [(.normal, ⟨[.lf (.sl 9)], [], [(2128, .box [.own 2448, .own 3092, .own 3415, .own 4510]), (4510, .sl 9 80 0 [])], [2128, 3546], 4574⟩)])) .o .o))) .o)) .o) .o))) .o)) .o)))))))) pOk repOk (AllC.mem (⟨c10_ok, c51_1_ok, c74_ok, trivial⟩ : AllC _ _ [c10, c51_1, c74])) hmix Try.call53 Try.func53 rfl rfl (by kernel_rfl) (fun h => by kernel_rfl)

noncomputable def Src_Odd (a0 : Src) : Option (Int × (List Int) × Int) :=
  Option.bind
    (Src_Pick a0
      [(-1), 0, 1, 4611686018427387904, (-4611686018427387904),
        9223372036854775807, (-9223372036854775808), 1000000000, 1000000001,
        (-1000000001), 3600, 1800, 100000000, 100000001,
        5001])
    fun x1 => some (x1.1, x1.2.1, x1.2.2.1)
noncomputable def c26 : Con D := ⟨26, [.lf (.sl 0), .lf (.int .i64)], [.lf (.int .i64), .lf (.sl 0), .lf (.int .i64)], [.one (.ptr 1000 0)], [(1000, .box [.h 0 [0], .h 1 []])], [.one (.h 0 [])], [(1000, .box [.h 1 [0], .h 2 []])], fun h => Src_Odd ⟨h.1, h.2⟩⟩
theorem c26_ok : ConOk Try.prog T c26 := fn_ok (Φ := [c51_1]) (rs := [.tmp 2]) (an := .o) pOk repOk (AllC.mem (⟨c51_1_ok, trivial⟩ : AllC _ _ [c51_1])) hmix Try.call26 Try.func26 rfl rfl (by kernel_rfl) (fun h => by kernel_rfl)

noncomputable def dynposref19_Valid (a0 : Table) : Option (Bool) :=
  Option.bind
    (if decide (a0.Stop ≥ 1) = true then
      if decide (a0.Stop ≤ 99) = true then
        if decide (a0.Start > a0.Stop) = true then
          if decide (a0.Start ≤ 100) = true then
            if decide (a0.Delay ≥ 0) = true then some (decide (a0.Delay ≤ 600)) else some false
          else some false
        else some false
      else some false
    else some false)
    fun x1 => some x1
noncomputable def c12 : Con D := ⟨12, [.lf (.int .i64), .lf (.int .i64), .lf (.int .i64)], [.lf .bool], [.agg [.h 0 [], .h 1 [], .h 2 []]], [], [.one (.h 0 [])], [], fun h => dynposref19_Valid ⟨h.1, h.2.1, h.2.2⟩⟩
theorem c12_ok : ConOk Try.prog T c12 := fn_ok (Φ := []) (rs := [.tmp 2]) (an := (.n none .o (.n none (.r (some (true, [(.normal, ⟨[.lf .bool], [(2, .one (.h 0 []))], [], [], 2192⟩)])) .nil) .o))) pOk repOk (AllC.mem (l := []) trivial) hmix Try.call12 Try.func12 rfl rfl (by kernel_rfl) (fun h => by kernel_rfl)

noncomputable def dynposref15_Find (a0 : Board) (a1 : Int) (a2 : Int) : Option ((List Int)) :=
  Option.bind (dynposref15_Check a0) fun x1 =>
    if (x1 != 0) = true then some [] else Option.bind (dynposref15_of a0 a1 a2) fun x2 => some x2
noncomputable def c36 : Con D := ⟨36, [.lf (.int .i64), .lf (.sl 4), .lf (.sl 5), .lf (.sl 6), .lf (.int .i64), .lf (.int .i64), .lf (.int .i64), .lf (.int .i64)], [.lf (.sl 0)], [.agg [.h 0 [], .h 1 [0], .h 2 [0], .h 3 [0], .h 4 [], .h 5 []], .one (.h 6 []), .one (.h 7 [])], [], [.one (.own 1000)], [(1000, .sl 0 3 0 [])], fun h => dynposref15_Find ⟨h.1, h.2.1, h.2.2.1, h.2.2.2.1, h.2.2.2.2.1, h.2.2.2.2.2.1⟩ h.2.2.2.2.2.2.1 h.2.2.2.2.2.2.2⟩
theorem c36_ok : ConOk Try.prog T c36 := fn_ok (Φ := [c62, c63]) (rs := [.tmp 6]) (an := .o) pOk repOk (AllC.mem (⟨c62_ok, c63_ok, trivial⟩ : AllC _ _ [c62, c63])) hmix Try.call36 Try.func36 rfl rfl (by kernel_rfl) (fun h => by kernel_rfl)

noncomputable def dynposref15_Broken_L1 (a0 : Power) (a1 : Int) (a2 : Int) : Int →
  Option
    (Int ⊕
      Unit ⊕
        Bool) := fun x1 =>
  if decide (x1 < len a0.Broken) = true then
    Option.bind (idx a0.Broken x1) fun x2 =>
      Option.bind (if (x2.Kind == a1) = true then some (x2.Number == a2) else some false) fun x3 =>
        if x3 = true then some (.inr (.inr true)) else some (.inl (W (x1 + 1)))
  else some (.inr (.inl ()))
noncomputable def dynposref15_Broken (a0 : Power) (a1 : Int) (a2 : Int) : Option (Bool) :=
  Option.bind (loopO (dynposref15_Broken_L1 a0 a1 a2) 0) fun x4 =>
    Sum.elim (fun x5 => some false) (fun x6 => some x6) x4
noncomputable def c35 : Con D := ⟨35, [.lf (.sl 1), .lf (.sl 8), .lf (.sl 0), .lf (.sl 9), .lf (.int .i64), .lf (.int .i64)], [.lf .bool], [.agg [.h 0 [0], .h 1 [0], .h 2 [0], .h 3 [0]], .one (.h 4 []), .one (.h 5 [])], [], [.one (.h 0 [])], [], fun h => dynposref15_Broken ⟨h.1, h.2.1, h.2.2.1, h.2.2.2.1⟩ h.2.2.2.2.1 h.2.2.2.2.2⟩
theorem c35_ok : ConOk Try.prog T c35 := fn_ok (Φ := []) (rs := [.tmp 6]) (an := (.n none .o (.n none (.n none .o (.n none (.loop ⟨[.lf (.int .i64)], [(12, .one (.h 0 []))], [], [], 2448⟩ false [(.exit 0, ⟨[], [], [], [], 2448⟩)] (.n none .o (.n none .o (.n none (.n none (.n none .o (.n none (.r (some (true, [(.normal, ⟨[.lf .bool], [(21, .one (.any)), (22, .one (.any)), (23, .one (.any)), (24, .one (.any)), (25, .one (.h 0 []))], [], [], 2833⟩)])) .nil) .o)) .o) .o)))) .o)) .o))) pOk repOk (AllC.mem (l := []) trivial) hmix Try.call35 Try.func35 rfl rfl (by kernel_rfl) (fun h => by kernel_rfl)

noncomputable def dynposref17_Load_L1 (a1 : Power) (x1 : Bool ×
  List Int ×
    List Int ×
      List
        Int) : Int × Int →
  Option
    (Int × Int ⊕
      Int) := fun x3 =>
  if decide (x3.2 < len x1.2.2.2) = true then
    Option.bind (idx x1.2.2.2 x3.2) fun x4 =>
      Option.bind (idx a1.Limits x4) fun x5 => some (.inl (W (x3.1 + x5), W (x3.2 + 1)))
  else some (.inr x3.1)
noncomputable def dynposref17_Load (a0 : Board) (a1 : Power) (a2 : Int) : Option (Int) :=
  Option.bind (dynposref15_Of a0 a1 a2) fun x1 =>
    Option.bind (if (!x1.1) = true then some true else some (len x1.2.2.1 == 0)) fun x2 =>
      if x2 = true then some 0
      else Option.bind (loopO (dynposref17_Load_L1 a1 x1) (0, 0)) fun x6 => some x6
noncomputable def c37 : Con D := ⟨37, [.lf (.int .i64), .lf (.sl 4), .lf (.sl 5), .lf (.sl 6), .lf (.int .i64), .lf (.int .i64), .lf (.sl 1), .lf (.sl 8), .lf (.sl 0), .lf (.sl 9), .lf (.int .i64)], [.lf (.int .i64)], [.agg [.h 0 [], .h 1 [0], .h 2 [0], .h 3 [0], .h 4 [], .h 5 []], .agg [.h 6 [0], .h 7 [0], .h 8 [0], .h 9 [0]], .one (.h 10 [])], [], [.one (.h 0 [])], [], fun h => dynposref17_Load ⟨h.1, h.2.1, h.2.2.1, h.2.2.2.1, h.2.2.2.2.1, h.2.2.2.2.2.1⟩ ⟨h.2.2.2.2.2.2.1, h.2.2.2.2.2.2.2.1, h.2.2.2.2.2.2.2.2.1, h.2.2.2.2.2.2.2.2.2.1⟩ h.2.2.2.2.2.2.2.2.2.2⟩
theorem c37_ok : ConOk Try.prog T c37 := fn_ok (Φ := [c34]) (rs := [.tmp 6]) (an := (.n none .o (.n none .o (.n none (.n none (.r (some (true, [(.normal, ⟨[.lf .bool], [(26, .one (.h 0 []))], [], [], 2896⟩)])) .nil) .o) (.n none .o (.n none (.n none .o (.n none (.loop ⟨[.lf (.int .i64), .lf (.int .i64)], [(9, .one (.h 0 [])), (30, .one (.h 1 []))], [], [], 3281⟩ true [(.exit 0, ⟨[.lf (.int .i64)], [(9, .one (.h 0 []))], [], [], 3281⟩)] .o) .o)) .o)))))) pOk repOk (AllC.mem (⟨c34_ok, trivial⟩ : AllC _ _ [c34])) hmix Try.call37 Try.func37 rfl rfl (by kernel_rfl) (fun h => by kernel_rfl)

noncomputable def dynposref17_Rating_L1 (a0 : Board) (x1 : Bool ×
  List Int ×
    List Int ×
      List
        Int) : Int × Int →
  Option
    (Int × Int ⊕
      Int) := fun x2 =>
  if decide (x2.2 < len x1.2.2.1) = true then
    Option.bind (idx x1.2.2.1 x2.2) fun x3 =>
      Option.bind (idx a0.Sources x3) fun x4 => some (.inl (W (x2.1 + x4.Rating), W (x2.2 + 1)))
  else some (.inr x2.1)
noncomputable def dynposref17_Rating (a0 : Board) (a1 : Power) (a2 : Int) : Option (Int) :=
  Option.bind (dynposref15_Of a0 a1 a2) fun x1 =>
    Option.bind (loopO (dynposref17_Rating_L1 a0 x1) (0, 0)) fun x5 => some x5
noncomputable def c38 : Con D := ⟨38, [.lf (.int .i64), .lf (.sl 4), .lf (.sl 5), .lf (.sl 6), .lf (.int .i64), .lf (.int .i64), .lf (.sl 1), .lf (.sl 8), .lf (.sl 0), .lf (.sl 9), .lf (.int .i64)], [.lf (.int .i64)], [.agg [.h 0 [], .h 1 [0], .h 2 [0], .h 3 [0], .h 4 [], .h 5 []], .agg [.h 6 [0], .h 7 [0], .h 8 [0], .h 9 [0]], .one (.h 10 [])], [], [.one (.h 0 [])], [], fun h => dynposref17_Rating ⟨h.1, h.2.1, h.2.2.1, h.2.2.2.1, h.2.2.2.2.1, h.2.2.2.2.2.1⟩ ⟨h.2.2.2.2.2.2.1, h.2.2.2.2.2.2.2.1, h.2.2.2.2.2.2.2.2.1, h.2.2.2.2.2.2.2.2.2.1⟩ h.2.2.2.2.2.2.2.2.2.2⟩
theorem c38_ok : ConOk Try.prog T c38 := fn_ok (Φ := [c34]) (rs := [.tmp 6]) (an := (.n none .o (.n none .o (.n none .o (.n none (.n none .o (.n none (.loop ⟨[.lf (.int .i64), .lf (.int .i64)], [(9, .one (.h 0 [])), (22, .one (.h 1 []))], [], [], 3216⟩ true [(.exit 0, ⟨[.lf (.int .i64)], [(9, .one (.h 0 []))], [], [], 3216⟩)] .o) .o)) .o))))) pOk repOk (AllC.mem (⟨c34_ok, trivial⟩ : AllC _ _ [c34])) hmix Try.call38 Try.func38 rfl rfl (by kernel_rfl) (fun h => by kernel_rfl)

noncomputable def dynposref19_Low_L1 (a0 : Board) (a1 : Table) (a2 : Power) (a3 : Int) (x1 : Bool ×
  List Int ×
    List Int ×
      List
        Int) : Int →
  Option
    (Int ⊕
      Unit ⊕
        Int ×
          Bool) := fun x4 =>
  if decide (x4 ≥ 0) = true then
    Option.bind
      (Option.bind (idx x1.2.2.1 x4) fun x5 =>
        Option.bind (dynposref15_Find a0 2 x5) fun x6 =>
          Option.bind (idx x6 0) fun x7 =>
            Option.bind (dynposref15_Broken a2 2 x7) fun x8 =>
              if x8 = true then some (.inl ())
              else
                Option.bind (dynposref17_Load a0 a2 a3) fun x9 =>
                  Option.bind (dynposref17_Rating a0 a2 a3) fun x10 =>
                    Option.bind (idx a0.Sources x5) fun x11 =>
                      if decide (W (100 * x9) ≤ W (a1.Stop * W (x10 - x11.Rating))) = true then
                        some (.inr (.inr (.inr (x5, true))))
                      else some (.inl ()))
      fun x12 => Sum.elim (fun x13 => some (.inl (W (x4 - 1)))) (fun x14 => some x14) x12
  else some (.inr (.inl ()))
noncomputable def dynposref19_Low (a0 : Board) (a1 : Table) (a2 : Power) (a3 : Int) : Option (Int × Bool) :=
  Option.bind (dynposref15_Of a0 a2 a3) fun x1 =>
    Option.bind
      (if (!x1.1) = true then some true
      else
        Option.bind (dynposref19_Valid a1) fun x2 =>
          if (!x2) = true then some true else some (decide (len x1.2.2.1 < 2)))
      fun x3 =>
      if x3 = true then some (0, false)
      else
        Option.bind (loopO (dynposref19_Low_L1 a0 a1 a2 a3 x1) (W (len x1.2.2.1 - 1))) fun x15 =>
          Sum.elim (fun x16 => some (0, false)) (fun x17 => some x17) x15
noncomputable def c14 : Con D := ⟨14, [.lf (.int .i64), .lf (.sl 4), .lf (.sl 5), .lf (.sl 6), .lf (.int .i64), .lf (.int .i64), .lf (.int .i64), .lf (.int .i64), .lf (.int .i64), .lf (.sl 1), .lf (.sl 8), .lf (.sl 0), .lf (.sl 9), .lf (.int .i64)], [.lf (.int .i64), .lf .bool], [.agg [.h 0 [], .h 1 [0], .h 2 [0], .h 3 [0], .h 4 [], .h 5 []], .agg [.h 6 [], .h 7 [], .h 8 []], .agg [.h 9 [0], .h 10 [0], .h 11 [0], .h 12 [0]], .one (.h 13 [])], [], [.one (.h 0 []), .one (.h 1 [])], [], fun h => dynposref19_Low ⟨h.1, h.2.1, h.2.2.1, h.2.2.2.1, h.2.2.2.2.1, h.2.2.2.2.2.1⟩ ⟨h.2.2.2.2.2.2.1, h.2.2.2.2.2.2.2.1, h.2.2.2.2.2.2.2.2.1⟩ ⟨h.2.2.2.2.2.2.2.2.2.1, h.2.2.2.2.2.2.2.2.2.2.1, h.2.2.2.2.2.2.2.2.2.2.2.1, h.2.2.2.2.2.2.2.2.2.2.2.2.1⟩ h.2.2.2.2.2.2.2.2.2.2.2.2.2⟩
theorem c14_ok : ConOk Try.prog T c14 := fn_ok (Φ := [c12, c34, c35, c36, c37, c38]) (rs := [.tmp 8, .tmp 9]) (an := (.n none .o (.n none .o (.n none (.n none (.r (some (true, [(.normal, ⟨[.lf .bool], [(33, .one (.h 0 []))], [], [], 3024⟩)])) .nil) .o) (.n none (.n none .o (.n none (.loop ⟨[.lf (.int .i64)], [(12, .one (.h 0 []))], [], [], 3409⟩ false [(.exit 0, ⟨[], [], [], [], 3409⟩)] (.n none .o (.n none (.n (some (false, [(.normal, ⟨[], [], [], [], 3602⟩)])) .o .o) .o))) .o)) .o))))) pOk repOk (AllC.mem (⟨c12_ok, c34_ok, c35_ok, c36_ok, c37_ok, c38_ok, trivial⟩ : AllC _ _ [c12, c34, c35, c36, c37, c38])) hmix Try.call14 Try.func14 rfl rfl (by kernel_rfl) (fun h => by kernel_rfl)

noncomputable def dynposref19_Next_L2 (a0 : Board) (a1 : Power) (x1 : Bool ×
  List Int ×
    List Int ×
      List
        Int) (x3 : Int) : Int →
  Option
    (Int ⊕
      Unit ⊕
        Int ⊕
          Unit ⊕
            Int ×
              Bool) := fun x4 =>
  if decide (x4 < len a1.Sources) = true then
    Option.bind (idx a1.Sources x4) fun x5 =>
      Option.bind (dynposref15_Find a0 2 x4) fun x6 =>
        Option.bind (idx x6 0) fun x7 =>
          Option.bind (idx a0.Breakers x7) fun x8 =>
            Option.bind (dynposref15_Connected a0 a1 x4) fun x9 =>
              Option.bind
                (if (x5.State == x3) = true then
                  if (!x9.2) = true then
                    Option.bind (dynposref15_Broken a1 1 x4) fun x10 =>
                      if (!x10) = true then
                        Option.bind (dynposref15_Broken a1 2 x7) fun x11 =>
                          if (!x11) = true then
                            Option.bind (dynposref15_Broken a1 3 x8.A) fun x12 =>
                              if (!x12) = true then Option.bind (dynposref01_Has x1.2.1 x8.A) fun x13 => some x13
                              else some false
                          else some false
                      else some false
                  else some false
                else some false)
                fun x14 =>
                if x14 = true then some (.inr (.inr (.inr (.inr (x4, true)))))
                else some (.inl (W (x4 + 1)))
  else some (.inr (.inl ()))
noncomputable def dynposref19_Next_L1 (a0 : Board) (a1 : Power) (x1 : Bool ×
  List Int ×
    List Int ×
      List
        Int) : Int →
  Option
    (Int ⊕
      Unit ⊕
        Int ×
          Bool) := fun x2 =>
  if decide (x2 < 3) = true then
    Option.bind (idx [2, 1, 0] x2) fun x3 =>
      Option.bind (loopO (dynposref19_Next_L2 a0 a1 x1 x3) 0) fun x15 =>
        Sum.elim (fun x16 => some (.inl (W (x2 + 1)))) (fun x17 => some x17) x15
  else some (.inr (.inl ()))
noncomputable def dynposref19_Next (a0 : Board) (a1 : Power) (a2 : Int) : Option (Int × Bool) :=
  Option.bind (dynposref15_Of a0 a1 a2) fun x1 =>
    if (!x1.1) = true then some (0, false)
    else
      Option.bind (loopO (dynposref19_Next_L1 a0 a1 x1) 0) fun x18 =>
        Sum.elim (fun x19 => some (0, false)) (fun x20 => some x20) x18
noncomputable def c16 : Con D := ⟨16, [.lf (.int .i64), .lf (.sl 4), .lf (.sl 5), .lf (.sl 6), .lf (.int .i64), .lf (.int .i64), .lf (.sl 1), .lf (.sl 8), .lf (.sl 0), .lf (.sl 9), .lf (.int .i64)], [.lf (.int .i64), .lf .bool], [.agg [.h 0 [], .h 1 [0], .h 2 [0], .h 3 [0], .h 4 [], .h 5 []], .agg [.h 6 [0], .h 7 [0], .h 8 [0], .h 9 [0]], .one (.h 10 [])], [], [.one (.h 0 []), .one (.h 1 [])], [], fun h => dynposref19_Next ⟨h.1, h.2.1, h.2.2.1, h.2.2.2.1, h.2.2.2.2.1, h.2.2.2.2.2.1⟩ ⟨h.2.2.2.2.2.2.1, h.2.2.2.2.2.2.2.1, h.2.2.2.2.2.2.2.2.1, h.2.2.2.2.2.2.2.2.2.1⟩ h.2.2.2.2.2.2.2.2.2.2⟩
theorem c16_ok : ConOk Try.prog T c16 := fn_ok (Φ := [c34, c35, c36, c40, c41]) (rs := [.tmp 6, .tmp 7]) (an := (.n none .o (.n none .o (.n none .o (.n none (.n none .o (.n none (.loop ⟨[.lf (.int .i64)], [(28, .one (.h 0 []))], [], [], 3216⟩ false [(.exit 0, ⟨[], [], [], [], 3216⟩)] (.n none .o (.n none .o (.n none (.n none (.n none .o (.n none .o (.n none (.loop ⟨[.lf (.int .i64)], [(34, .one (.h 0 []))], [], [], 3729⟩ false [(.exit 2, ⟨[], [], [], [], 3729⟩)] (.n none .o (.n none .o (.n none (.n none (.n none .o (.n none .o (.n none .o (.n none .o (.n none (.r (some (true, [(.normal, ⟨[.lf .bool], [(62, .one (.any)), (63, .one (.any)), (66, .one (.any)), (67, .one (.any)), (68, .one (.any)), (69, .one (.any)), (72, .one (.any)), (73, .one (.any)), (74, .one (.any)), (75, .one (.any)), (78, .one (.any)), (79, .one (.any)), (80, .one (.any)), (81, .one (.any)), (84, .one (.any)), (85, .one (.any)), (86, .one (.any)), (87, .one (.any)), (88, .one (.h 0 []))], [], [], 5650⟩)])) .nil) .o))))) .o) .o)))) .o))) .o) .o)))) .o)) .o))))) pOk repOk (AllC.mem (⟨c34_ok, c35_ok, c36_ok, c40_ok, c41_ok, trivial⟩ : AllC _ _ [c34, c35, c36, c40, c41])) hmix Try.call16 Try.func16 rfl rfl (by kernel_rfl) (fun h => by kernel_rfl)

noncomputable def dynposref15_Live (a0 : Board) (a1 : Power) (a2 : Int) : Option (Bool) :=
  Option.bind (dynposref15_Of a0 a1 a2) fun x1 =>
    Option.bind (if x1.1 = true then some (decide (len x1.2.2.1 > 0)) else some false) fun x2 =>
      some x2
noncomputable def c43 : Con D := ⟨43, [.lf (.int .i64), .lf (.sl 4), .lf (.sl 5), .lf (.sl 6), .lf (.int .i64), .lf (.int .i64), .lf (.sl 1), .lf (.sl 8), .lf (.sl 0), .lf (.sl 9), .lf (.int .i64)], [.lf .bool], [.agg [.h 0 [], .h 1 [0], .h 2 [0], .h 3 [0], .h 4 [], .h 5 []], .agg [.h 6 [0], .h 7 [0], .h 8 [0], .h 9 [0]], .one (.h 10 [])], [], [.one (.h 0 [])], [], fun h => dynposref15_Live ⟨h.1, h.2.1, h.2.2.1, h.2.2.2.1, h.2.2.2.2.1, h.2.2.2.2.2.1⟩ ⟨h.2.2.2.2.2.2.1, h.2.2.2.2.2.2.2.1, h.2.2.2.2.2.2.2.2.1, h.2.2.2.2.2.2.2.2.2.1⟩ h.2.2.2.2.2.2.2.2.2.2⟩
theorem c43_ok : ConOk Try.prog T c43 := fn_ok (Φ := [c34]) (rs := [.tmp 6]) (an := (.n none .o (.n none .o (.n none (.r (some (true, [(.normal, ⟨[.lf .bool], [(6, .one (.h 0 []))], [], [], 2896⟩)])) .nil) .o)))) pOk repOk (AllC.mem (⟨c34_ok, trivial⟩ : AllC _ _ [c34])) hmix Try.call43 Try.func43 rfl rfl (by kernel_rfl) (fun h => by kernel_rfl)

noncomputable def dynposref19_High (a0 : Board) (a1 : Table) (a2 : Power) (a3 : Int) : Option (Bool) :=
  Option.bind
    (Option.bind (dynposref19_Valid a1) fun x1 =>
      if x1 = true then
        Option.bind (dynposref15_Live a0 a2 a3) fun x2 =>
          if x2 = true then
            Option.bind (dynposref17_Load a0 a2 a3) fun x3 =>
              Option.bind (dynposref17_Rating a0 a2 a3) fun x4 =>
                some (decide (W (100 * x3) > W (a1.Start * x4)))
          else some false
      else some false)
    fun x5 => some x5
noncomputable def c18 : Con D := ⟨18, [.lf (.int .i64), .lf (.sl 4), .lf (.sl 5), .lf (.sl 6), .lf (.int .i64), .lf (.int .i64), .lf (.int .i64), .lf (.int .i64), .lf (.int .i64), .lf (.sl 1), .lf (.sl 8), .lf (.sl 0), .lf (.sl 9), .lf (.int .i64)], [.lf .bool], [.agg [.h 0 [], .h 1 [0], .h 2 [0], .h 3 [0], .h 4 [], .h 5 []], .agg [.h 6 [], .h 7 [], .h 8 []], .agg [.h 9 [0], .h 10 [0], .h 11 [0], .h 12 [0]], .one (.h 13 [])], [], [.one (.h 0 [])], [], fun h => dynposref19_High ⟨h.1, h.2.1, h.2.2.1, h.2.2.2.1, h.2.2.2.2.1, h.2.2.2.2.2.1⟩ ⟨h.2.2.2.2.2.2.1, h.2.2.2.2.2.2.2.1, h.2.2.2.2.2.2.2.2.1⟩ ⟨h.2.2.2.2.2.2.2.2.2.1, h.2.2.2.2.2.2.2.2.2.2.1, h.2.2.2.2.2.2.2.2.2.2.2.1, h.2.2.2.2.2.2.2.2.2.2.2.2.1⟩ h.2.2.2.2.2.2.2.2.2.2.2.2.2⟩
theorem c18_ok : ConOk Try.prog T c18 := fn_ok (Φ := [c12, c37, c38, c43]) (rs := [.tmp 8]) (an := (.n none .o (.n none (.r (some (true, [(.normal, ⟨[.lf .bool], [(8, .one (.h 0 []))], [], [], 2320⟩)])) .nil) .o))) pOk repOk (AllC.mem (⟨c12_ok, c37_ok, c38_ok, c43_ok, trivial⟩ : AllC _ _ [c12, c37, c38, c43])) hmix Try.call18 Try.func18 rfl rfl (by kernel_rfl) (fun h => by kernel_rfl)

noncomputable def dynposref19_since (a0 : Bool) (a1 : Int) (a2 : Int) : Option (Int) :=
  if (!a0) = true then some (-1) else if decide (a1 ≥ 0) = true then some a1 else some a2
noncomputable def c49 : Con D := ⟨49, [.lf .bool, .lf (.int .i64), .lf (.int .i64)], [.lf (.int .i64)], [.one (.h 0 []), .one (.h 1 []), .one (.h 2 [])], [], [.one (.h 0 [])], [], fun h => dynposref19_since h.1 h.2.1 h.2.2⟩
theorem c49_ok : ConOk Try.prog T c49 := fn_ok (Φ := []) (rs := [.tmp 6]) (an := .o) pOk repOk (AllC.mem (l := []) trivial) hmix Try.call49 Try.func49 rfl rfl (by kernel_rfl) (fun h => by kernel_rfl)

noncomputable def dynposref16_Leader (a0 : Board) (a1 : Power) (a2 : Int) : Option (Int × Bool) :=
  Option.bind (dynposref15_Of a0 a1 a2) fun x1 =>
    Option.bind (if (!x1.1) = true then some true else some (len x1.2.2.1 == 0)) fun x2 =>
      if x2 = true then some (0, false)
      else Option.bind (idx x1.2.2.1 0) fun x3 => some (x3, true)
noncomputable def c50 : Con D := ⟨50, [.lf (.int .i64), .lf (.sl 4), .lf (.sl 5), .lf (.sl 6), .lf (.int .i64), .lf (.int .i64), .lf (.sl 1), .lf (.sl 8), .lf (.sl 0), .lf (.sl 9), .lf (.int .i64)], [.lf (.int .i64), .lf .bool], [.agg [.h 0 [], .h 1 [0], .h 2 [0], .h 3 [0], .h 4 [], .h 5 []], .agg [.h 6 [0], .h 7 [0], .h 8 [0], .h 9 [0]], .one (.h 10 [])], [], [.one (.h 0 []), .one (.h 1 [])], [], fun h => dynposref16_Leader ⟨h.1, h.2.1, h.2.2.1, h.2.2.2.1, h.2.2.2.2.1, h.2.2.2.2.2.1⟩ ⟨h.2.2.2.2.2.2.1, h.2.2.2.2.2.2.2.1, h.2.2.2.2.2.2.2.2.1, h.2.2.2.2.2.2.2.2.2.1⟩ h.2.2.2.2.2.2.2.2.2.2⟩
theorem c50_ok : ConOk Try.prog T c50 := fn_ok (Φ := [c34]) (rs := [.tmp 6, .tmp 7]) (an := (.n none .o (.n none .o (.n none (.n none (.r (some (true, [(.normal, ⟨[.lf .bool], [(24, .one (.h 0 []))], [], [], 2960⟩)])) .nil) .o) .o)))) pOk repOk (AllC.mem (⟨c34_ok, trivial⟩ : AllC _ _ [c34])) hmix Try.call50 Try.func50 rfl rfl (by kernel_rfl) (fun h => by kernel_rfl)

end Rx
end Go.Proofs.Ytcekgnnekooohaa
