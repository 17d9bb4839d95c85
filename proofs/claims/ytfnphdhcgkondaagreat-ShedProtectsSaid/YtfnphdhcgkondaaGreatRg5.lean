/- Plain functions, walks. Written by a program (wip/gen). -/
import Derived.Test.YtfnphdhcgkondaaGreatRt
import Derived.Test.YtfnphdhcgkondaaGreatRg1
import Derived.Test.YtfnphdhcgkondaaGreatRg2
import Derived.Test.YtfnphdhcgkondaaGreatRg3
import Derived.Test.YtfnphdhcgkondaaGreatRg4
set_option linter.unusedVariables false
set_option maxRecDepth 100000
namespace Go.Proofs.YtfnphdhcgkondaaGreat
open Go Go.RowKit Dp
namespace Rx

noncomputable def dynposref15_sources_L1 (a0 : Board) : Int →
  Option
    (Int ⊕
      Unit ⊕
        Bool) := fun x1 =>
  if decide (x1 < len a0.Sources) = true then
    Option.bind (idx a0.Sources x1) fun x2 =>
      Option.bind
        (Option.bind (dynposref15_within x2.Rating 1 50000) fun x3 =>
          if (!x3) = true then some true
          else
            Option.bind (dynposref15_within x2.Least 0 x2.Rating) fun x4 =>
              if (!x4) = true then some true
              else Option.bind (dynposref15_within x2.Start 0 600) fun x5 => some !x5)
        fun x6 => if x6 = true then some (.inr (.inr false)) else some (.inl (W (x1 + 1)))
  else some (.inr (.inl ()))
noncomputable def dynposref15_sources (a0 : Board) : Option (Bool) :=
  Option.bind (loopO (dynposref15_sources_L1 a0) 0) fun x7 =>
    Sum.elim (fun x8 => some true) (fun x9 => some x9) x7
noncomputable def c92 : Con D := ⟨92, [.lf (.int .i64), .lf (.sl 5), .lf (.sl 6), .lf (.sl 7), .lf (.int .i64), .lf (.int .i64)], [.lf .bool], [.agg [.h 0 [], .h 1 [0], .h 2 [0], .h 3 [0], .h 4 [], .h 5 []]], [], [.one (.h 0 [])], [], fun h => dynposref15_sources ⟨h.1, h.2.1, h.2.2.1, h.2.2.2.1, h.2.2.2.2.1, h.2.2.2.2.2⟩⟩
theorem c92_ok : ConOk Tryz.prog T c92 := fn_ok (Φ := [c52]) (rs := [.tmp 2]) (an := (.n none .o (.n none (.n none .o (.n none (.loop ⟨[.lf (.int .i64)], [(8, .one (.h 0 []))], [], [], 2448⟩ false [(.exit 0, ⟨[], [], [], [], 2448⟩)] (.n none .o (.n none .o (.n none (.n none (.n none .o (.n none (.r (some (true, [(.normal, ⟨[.lf .bool], [(17, .one (.any)), (18, .one (.any)), (19, .one (.any)), (20, .one (.any)), (21, .one (.any)), (22, .one (.any)), (25, .one (.any)), (26, .one (.any)), (27, .one (.any)), (28, .one (.any)), (29, .one (.h 0 []))], [], [], 2833⟩)])) .nil) .o)) .o) .o)))) .o)) .o))) pOk repOk (AllC.mem (⟨c52_ok, trivial⟩ : AllC _ _ [c52])) hmix Tryz.call92 Tryz.func92 rfl rfl (by kernel_rfl) (fun h => by kernel_rfl)

noncomputable def dynposref15_consumers_L2 (x1 : Int) (x2 : Consumer) : Int →
  Option
    (Int ⊕
      Unit ⊕
        Int ⊕
          Unit ⊕
            Bool) := fun x8 =>
  if decide (x8 < len x2.Needs) = true then
    Option.bind (idx x2.Needs x8) fun x9 =>
      Option.bind
        (Option.bind (dynposref15_within x9 0 (W (x1 - 1))) fun x10 =>
          if (!x10) = true then some true
          else
            if decide (x8 > 0) = true then
              Option.bind (idx x2.Needs (W (x8 - 1))) fun x11 => some (decide (x11 ≥ x9))
            else some false)
        fun x12 =>
        if x12 = true then some (.inr (.inr (.inr (.inr false)))) else some (.inl (W (x8 + 1)))
  else some (.inr (.inl ()))
noncomputable def dynposref15_consumers_L1 (a0 : Board) : Int →
  Option
    (Int ⊕
      Unit ⊕
        Bool) := fun x1 =>
  if decide (x1 < len a0.Consumers) = true then
    Option.bind (idx a0.Consumers x1) fun x2 =>
      Option.bind
        (Option.bind (dynposref15_within x2.Load 0 50000) fun x3 =>
          if (!x3) = true then some true
          else
            Option.bind (dynposref15_within x2.Least 0 x2.Load) fun x4 =>
              if (!x4) = true then some true
              else
                Option.bind (dynposref15_within x2.Preference 0 15) fun x5 =>
                  if (!x5) = true then some true
                  else
                    Option.bind (dynposref15_within x2.Thruster (-1) 7) fun x6 =>
                      if (!x6) = true then some true else some (decide (len x2.Needs > 4)))
        fun x7 =>
        if x7 = true then some (.inr (.inr false))
        else
          Option.bind (loopO (dynposref15_consumers_L2 x1 x2) 0) fun x13 =>
            Sum.elim (fun x14 => some (.inl (W (x1 + 1)))) (fun x15 => some x15) x13
  else some (.inr (.inl ()))
noncomputable def dynposref15_consumers (a0 : Board) : Option (Bool) :=
  Option.bind (loopO (dynposref15_consumers_L1 a0) 0) fun x16 =>
    Sum.elim (fun x17 => some true) (fun x18 => some x18) x16
noncomputable def c93 : Con D := ⟨93, [.lf (.int .i64), .lf (.sl 5), .lf (.sl 6), .lf (.sl 7), .lf (.int .i64), .lf (.int .i64)], [.lf .bool], [.agg [.h 0 [], .h 1 [0], .h 2 [0], .h 3 [0], .h 4 [], .h 5 []]], [], [.one (.h 0 [])], [], fun h => dynposref15_consumers ⟨h.1, h.2.1, h.2.2.1, h.2.2.2.1, h.2.2.2.2.1, h.2.2.2.2.2⟩⟩
theorem c93_ok : ConOk Tryz.prog T c93 := fn_ok (Φ := [c52]) (rs := [.tmp 2]) (an := (.n none .o (.n none (.n none .o (.n none (.loop ⟨[.lf (.int .i64)], [(10, .one (.h 0 []))], [], [], 2448⟩ false [(.exit 0, ⟨[], [], [], [], 2448⟩)] (.n none .o (.n none .o (.n none (.n none (.n none .o (.n none (.n none (.r (some (true, [(.normal, ⟨[.lf .bool], [(20, .one (.any)), (21, .one (.any)), (22, .one (.any)), (23, .one (.any)), (24, .one (.any)), (25, .one (.any)), (28, .one (.any)), (29, .one (.any)), (30, .one (.any)), (31, .one (.any)), (34, .one (.any)), (35, .one (.any)), (36, .one (.any)), (37, .one (.any)), (40, .one (.any)), (41, .one (.any)), (42, .one (.any)), (43, .one (.any)), (44, .one (.h 0 []))], [], [], 2961⟩)])) .nil) .o) (.n none .o (.n none (.loop ⟨[.lf (.int .i64)], [(48, .one (.h 0 []))], [], [], 3282⟩ false [(.exit 2, ⟨[], [], [], [], 3282⟩)] (.n none .o (.n none .o (.n none (.n none (.n none .o (.n none (.r (some (true, [(.normal, ⟨[.lf .bool], [(59, .one (.any)), (60, .one (.any)), (61, .one (.any)), (62, .one (.any)), (63, .one (.any)), (64, .one (.any)), (65, .one (.any)), (66, .one (.any)), (67, .one (.any)), (68, .one (.any)), (69, .one (.any)), (70, .one (.any)), (71, .one (.h 0 []))], [], [], 3731⟩)])) .nil) .o)) .o) .o)))) .o)))) .o) .o)))) .o)) .o))) pOk repOk (AllC.mem (⟨c52_ok, trivial⟩ : AllC _ _ [c52])) hmix Tryz.call93 Tryz.func93 rfl rfl (by kernel_rfl) (fun h => by kernel_rfl)

noncomputable def dynposref15_Check (a0 : Board) : Option (Int) :=
  Option.bind
    (if decide (a0.Buses < 1) = true then some true
    else
      if decide (a0.Buses > 6) = true then some true
      else
        if decide (len a0.Breakers > 24) = true then some true
        else
          if decide (len a0.Sources > 8) = true then some true
          else some (decide (len a0.Consumers > 16)))
    fun x1 =>
    if x1 = true then some 2
    else
      Option.bind
        (Option.bind (dynposref15_breakers a0) fun x2 =>
          if (!x2) = true then some true
          else
            Option.bind (dynposref15_sources a0) fun x3 =>
              if (!x3) = true then some true
              else
                Option.bind (dynposref15_consumers a0) fun x4 =>
                  if (!x4) = true then some true
                  else
                    if decide (a0.Phase < 0) = true then some true
                    else
                      if decide (a0.Phase > 1800) = true then some true
                      else
                        if decide (a0.Frequency < 0) = true then some true
                        else some (decide (a0.Frequency > 6000)))
        fun x5 => if x5 = true then some 14 else some 0
noncomputable def c51 : Con D := ⟨51, [.lf (.int .i64), .lf (.sl 5), .lf (.sl 6), .lf (.sl 7), .lf (.int .i64), .lf (.int .i64)], [.lf (.int .i64)], [.agg [.h 0 [], .h 1 [0], .h 2 [0], .h 3 [0], .h 4 [], .h 5 []]], [], [.one (.h 0 [])], [], fun h => dynposref15_Check ⟨h.1, h.2.1, h.2.2.1, h.2.2.2.1, h.2.2.2.2.1, h.2.2.2.2.2⟩⟩
theorem c51_ok : ConOk Tryz.prog T c51 := fn_ok (Φ := [c91, c92, c93]) (rs := [.tmp 2]) (an := (.n none .o (.n none (.n none (.r (some (true, [(.normal, ⟨[.lf .bool], [(28, .one (.h 0 []))], [], [], 2192⟩)])) .nil) .o) (.n none (.n none (.r (some (true, [(.normal, ⟨[.lf .bool], [(61, .one (.h 0 []))], [], [], 2257⟩)])) .nil) .o) .o)))) pOk repOk (AllC.mem (⟨c91_ok, c92_ok, c93_ok, trivial⟩ : AllC _ _ [c91, c92, c93])) hmix Tryz.call51 Tryz.func51 rfl rfl (by kernel_rfl) (fun h => by kernel_rfl)

noncomputable def dynposref15_Before (a0 : Part) (a1 : Part) : Option (Bool) :=
  Option.bind
    (if decide (a0.Kind < a1.Kind) = true then some true
    else if (a0.Kind == a1.Kind) = true then some (decide (a0.Number < a1.Number)) else some false)
    fun x1 => some x1
noncomputable def c54 : Con D := ⟨54, [.lf (.int .i64), .lf (.int .i64), .lf (.int .i64), .lf (.int .i64)], [.lf .bool], [.agg [.h 0 [], .h 1 []], .agg [.h 2 [], .h 3 []]], [], [.one (.h 0 [])], [], fun h => dynposref15_Before ⟨h.1, h.2.1⟩ ⟨h.2.2.1, h.2.2.2⟩⟩
theorem c54_ok : ConOk Tryz.prog T c54 := fn_ok (Φ := []) (rs := [.tmp 4]) (an := (.n none .o (.n none (.r (some (true, [(.normal, ⟨[.lf .bool], [(4, .one (.h 0 []))], [], [], 2256⟩)])) .nil) .o))) pOk repOk (AllC.mem (l := []) trivial) hmix Tryz.call54 Tryz.func54 rfl rfl (by kernel_rfl) (fun h => by kernel_rfl)

noncomputable def dynposref15_State_L1 (a1 : Power) : Int →
  Option
    (Int ⊕
      Unit ⊕
        Int) := fun x3 =>
  if decide (x3 < len a1.Sources) = true then
    Option.bind (idx a1.Sources x3) fun x4 =>
      Option.bind
        (Option.bind (dynposref15_within x4.State 0 3) fun x5 =>
          if (!x5) = true then some true
          else
            Option.bind (dynposref15_within x4.Since 0 2147483648) fun x6 =>
              if (!x6) = true then some true
              else
                Option.bind (dynposref15_within x4.Frequency 0 6000) fun x7 =>
                  if (!x7) = true then some true
                  else Option.bind (dynposref15_within x4.Phase 0 3599) fun x8 => some !x8)
        fun x9 => if x9 = true then some (.inr (.inr 11)) else some (.inl (W (x3 + 1)))
  else some (.inr (.inl ()))
noncomputable def dynposref15_State_L2 (a0 : Board) (a1 : Power) : Int →
  Option
    (Int ⊕
      Unit ⊕
        Int) := fun x12 =>
  if decide (x12 < len a1.Limits) = true then
    Option.bind (idx a1.Limits x12) fun x13 =>
      Option.bind (idx a0.Consumers x12) fun x14 =>
        Option.bind (dynposref15_within x13 0 x14.Load) fun x15 =>
          if (!x15) = true then some (.inr (.inr 11)) else some (.inl (W (x12 + 1)))
  else some (.inr (.inl ()))
noncomputable def dynposref15_State_L3 (a0 : Board) (a1 : Power) : Int →
  Option
    (Int ⊕
      Unit ⊕
        Int) := fun x18 =>
  if decide (x18 < len a1.Broken) = true then
    Option.bind (idx a1.Broken x18) fun x19 =>
      Option.bind
        (Option.bind (dynposref15_Exists a0 x19) fun x20 =>
          if (!x20) = true then some true
          else
            if decide (x18 > 0) = true then
              Option.bind (idx a1.Broken (W (x18 - 1))) fun x21 =>
                Option.bind (dynposref15_Before x21 x19) fun x22 => some !x22
            else some false)
        fun x23 =>
        if x23 = true then some (.inr (.inr 11)) else some (.inl (W (x18 + 1)))
  else some (.inr (.inl ()))
noncomputable def dynposref15_State_L5 (a1 : Power) (x27 : List
  Int) : Int × Int →
  Option
    (Int × Int ⊕
      Int) := fun x28 =>
  if decide (x28.2 < len x27) = true then
    Option.bind (idx x27 x28.2) fun x29 =>
      Option.bind (idx a1.Closed x29) fun x30 =>
        Option.bind (if x30 = true then some (W (x28.1 + 1)) else some x28.1) fun x31 =>
          some (.inl (x31, W (x28.2 + 1)))
  else some (.inr x28.1)
noncomputable def dynposref15_State_L4 (a0 : Board) (a1 : Power) : Int →
  Option
    (Int ⊕
      Unit ⊕
        Int) := fun x26 =>
  if decide (x26 < len a0.Consumers) = true then
    Option.bind (dynposref15_of a0 3 x26) fun x27 =>
      Option.bind (loopO (dynposref15_State_L5 a1 x27) (0, 0)) fun x32 =>
        if decide (x32 > 1) = true then some (.inr (.inr 11))
        else some (.inl (W (x26 + 1)))
  else some (.inr (.inl ()))
noncomputable def dynposref15_State (a0 : Board) (a1 : Power) : Option (Int) :=
  Option.bind (dynposref15_Check a0) fun x1 =>
    if (x1 != 0) = true then some x1
    else
      Option.bind
        (if (len a1.Closed != len a0.Breakers) = true then some true
        else if (len a1.Sources != len a0.Sources) = true then some true else some (len a1.Limits != len a0.Consumers))
        fun x2 =>
        if x2 = true then some 8
        else
          Option.bind (loopO (dynposref15_State_L1 a1) 0) fun x10 =>
            Sum.elim
              (fun x11 =>
                Option.bind (loopO (dynposref15_State_L2 a0 a1) 0) fun x16 =>
                  Sum.elim
                    (fun x17 =>
                      if decide (len a1.Broken > 32) = true then some 11
                      else
                        Option.bind (loopO (dynposref15_State_L3 a0 a1) 0) fun x24 =>
                          Sum.elim
                            (fun x25 =>
                              Option.bind (loopO (dynposref15_State_L4 a0 a1) 0) fun x33 =>
                                Sum.elim (fun x34 => some 0) (fun x35 => some x35) x33)
                            (fun x36 => some x36) x24)
                    (fun x37 => some x37) x16)
              (fun x38 => some x38) x10
noncomputable def c23 : Con D := ⟨23, [.lf (.int .i64), .lf (.sl 5), .lf (.sl 6), .lf (.sl 7), .lf (.int .i64), .lf (.int .i64), .lf (.sl 1), .lf (.sl 9), .lf (.sl 0), .lf (.sl 10)], [.lf (.int .i64)], [.agg [.h 0 [], .h 1 [0], .h 2 [0], .h 3 [0], .h 4 [], .h 5 []], .agg [.h 6 [0], .h 7 [0], .h 8 [0], .h 9 [0]]], [], [.one (.h 0 [])], [], fun h => dynposref15_State ⟨h.1, h.2.1, h.2.2.1, h.2.2.2.1, h.2.2.2.2.1, h.2.2.2.2.2.1⟩ ⟨h.2.2.2.2.2.2.1, h.2.2.2.2.2.2.2.1, h.2.2.2.2.2.2.2.2.1, h.2.2.2.2.2.2.2.2.2⟩⟩
theorem c23_ok : ConOk Tryz.prog T c23 := fn_ok (Φ := [c51, c52, c53, c54, c55]) (rs := [.tmp 4]) (an := (.n none .o (.n none .o (.n none (.n none (.r (some (true, [(.normal, ⟨[.lf .bool], [(45, .one (.h 0 []))], [], [], 2576⟩)])) .nil) .o) (.n none (.n none .o (.n none (.loop ⟨[.lf (.int .i64)], [(49, .one (.h 0 []))], [], [], 2897⟩ false [(.exit 0, ⟨[], [], [], [], 2897⟩)] (.n none .o (.n none .o (.n none (.n none (.n none .o (.n none (.r (some (true, [(.normal, ⟨[.lf .bool], [(58, .one (.any)), (59, .one (.any)), (60, .one (.any)), (61, .one (.any)), (64, .one (.any)), (65, .one (.any)), (66, .one (.any)), (67, .one (.any)), (70, .one (.any)), (71, .one (.any)), (72, .one (.any)), (73, .one (.any)), (74, .one (.h 0 []))], [], [], 3282⟩)])) .nil) .o)) .o) .o)))) .o)) (.n none (.n none .o (.n none (.loop ⟨[.lf (.int .i64)], [(79, .one (.h 0 []))], [], [], 3217⟩ false [(.exit 2, ⟨[], [], [], [], 3217⟩)] .o) .o)) (.n none .o (.n none (.n none .o (.n none (.loop ⟨[.lf (.int .i64)], [(101, .one (.h 0 []))], [], [], 3793⟩ false [(.exit 4, ⟨[], [], [], [], 3793⟩)] (.n none .o (.n none .o (.n none (.n none (.n none .o (.n none (.r (some (true, [(.normal, ⟨[.lf .bool], [(111, .one (.any)), (112, .one (.any)), (113, .one (.any)), (114, .one (.any)), (115, .one (.any)), (116, .one (.any)), (117, .one (.any)), (118, .one (.any)), (119, .one (.any)), (120, .one (.any)), (121, .one (.any)), (122, .one (.any)), (123, .one (.any)), (124, .one (.h 0 []))], [], [], 4306⟩)])) .nil) .o)) .o) .o)))) .o)) (.n none (.n none .o (.n none (.loop ⟨[.lf (.int .i64)], [(129, .one (.h 0 []))], [], [], 4113⟩ false [(.exit 6, ⟨[], [], [], [], 4113⟩)] (.n none .o (.n none .o (.n none (.n none (.n none .o (.n none .o (.n none (.n none .o (.n none (.loop ⟨[.lf (.int .i64), .lf (.int .i64)], [(13, .one (.h 0 [])), (136, .one (.h 1 []))], [], [], 4754⟩ true [(.exit 8, ⟨[.lf (.int .i64)], [(13, .one (.h 0 []))], [], [], 4754⟩)] (.n none .o (.n none .o (.n none (.n none (.n none .o (.n none .o (.n (some (true, [(.normal, ⟨[.lf (.int .i64)], [(13, .one (.h 0 []))], [], [], 5396⟩)])) .o .o))) .o) .o)))) .o)) .o))) .o) .o)))) .o)) .o))))))))) pOk repOk (AllC.mem (⟨c51_ok, c52_ok, c53_ok, c54_ok, c55_ok, trivial⟩ : AllC _ _ [c51, c52, c53, c54, c55])) hmix Tryz.call23 Tryz.func23 rfl rfl (by kernel_rfl) (fun h => by kernel_rfl)

noncomputable def dynposref15_reach_L2 (a0 : Board) (a1 : Power) : Int × List Bool →
  Option
    (Int × List Bool ⊕
      List
        Bool) := fun x6 =>
  if decide (x6.1 < len a0.Breakers) = true then
    Option.bind (idx a0.Breakers x6.1) fun x7 =>
      Option.bind
        (if (x7.Kind == 1) = true then
          Option.bind (idx a1.Closed x6.1) fun x8 =>
            if x8 = true then
              Option.bind (idx x6.2 x7.A) fun x9 =>
                if x9 = true then some true else Option.bind (idx x6.2 x7.B) fun x10 => some x10
            else some false
        else some false)
        fun x11 =>
        Option.bind
          (if x11 = true then
            Option.bind (idx x6.2 x7.A) fun x12 =>
              Option.bind (idx x6.2 x7.A) fun x13 =>
                Option.bind (setO x6.2 x7.A true) fun x14 =>
                  Option.bind (idx x14 x7.B) fun x15 =>
                    Option.bind (idx x14 x7.B) fun x16 => Option.bind (setO x14 x7.B true) fun x17 => some x17
          else some x6.2)
          fun x18 => some (.inl (W (x6.1 + 1), x18))
  else some (.inr x6.2)
noncomputable def dynposref15_reach_L1 (a0 : Board) (a1 : Power) (x4 : List
  Bool) : Int × List Bool →
  Option
    (Int × List Bool ⊕
      List
        Bool) := fun x5 =>
  if decide (x5.1 < len x4) = true then
    Option.bind (loopO (dynposref15_reach_L2 a0 a1) (0, x5.2)) fun x19 =>
      some (.inl (W (x5.1 + 1), x19))
  else some (.inr x5.2)
noncomputable def dynposref15_reach_L3 (x20 : List
  Bool) : Int × List Int →
  Option
    (Int × List Int ⊕
      List
        Int) := fun x21 =>
  if decide (x21.1 < len x20) = true then
    Option.bind (idx x20 x21.1) fun x22 =>
      Option.bind (if x22 = true then Option.bind (app x21.2 [x21.1]) fun x23 => some x23 else some x21.2)
        fun x24 => some (.inl (W (x21.1 + 1), x24))
  else some (.inr x21.2)
noncomputable def dynposref15_reach (a0 : Board) (a1 : Power) (a2 : Int) : Option ((List Int)) :=
  Option.bind (mkZ false a0.Buses) fun x1 =>
    Option.bind (idx x1 a2) fun x2 =>
      Option.bind (idx x1 a2) fun x3 =>
        Option.bind (setO x1 a2 true) fun x4 =>
          Option.bind (loopO (dynposref15_reach_L1 a0 a1 x4) (0, x4)) fun x20 =>
            Option.bind (loopO (dynposref15_reach_L3 x20) (0, [])) fun x25 => some x25
noncomputable def c85 : Con D := ⟨85, [.lf (.int .i64), .lf (.sl 5), .lf (.sl 6), .lf (.sl 7), .lf (.int .i64), .lf (.int .i64), .lf (.sl 1), .lf (.sl 9), .lf (.sl 0), .lf (.sl 10), .lf (.int .i64)], [.lf (.sl 0)], [.agg [.h 0 [], .h 1 [0], .h 2 [0], .h 3 [0], .h 4 [], .h 5 []], .agg [.h 6 [0], .h 7 [0], .h 8 [0], .h 9 [0]], .one (.h 10 [])], [], [.one (.own 1000)], [(1000, .sl 0 3 0 [])], fun h => dynposref15_reach ⟨h.1, h.2.1, h.2.2.1, h.2.2.2.1, h.2.2.2.2.1, h.2.2.2.2.2.1⟩ ⟨h.2.2.2.2.2.2.1, h.2.2.2.2.2.2.2.1, h.2.2.2.2.2.2.2.2.1, h.2.2.2.2.2.2.2.2.2.1⟩ h.2.2.2.2.2.2.2.2.2.2⟩
theorem c85_ok : ConOk Tryz.prog T c85 := fn_ok (Φ := []) (rs := [.tmp 6]) (an := (.n none .o (.n none .o (.n none .o (.n none (.n none .o (.n none (.loop ⟨[.lf (.int .i64), .lf (.sl 1)], [(20, .one (.h 0 []))], [(2320, .sl 1 4 1 [])], [2320], 2960⟩ true [(.exit 0, ⟨[.lf (.sl 1)], [], [(2320, .sl 1 4 0 [])], [2320], 2960⟩)] (.n none .o (.n none .o (.n none (.n none (.n none .o (.n none (.loop ⟨[.lf (.int .i64), .lf (.sl 1)], [(25, .one (.h 0 []))], [(2320, .sl 1 4 1 [])], [2320], 3346⟩ true [(.exit 2, ⟨[.lf (.sl 1)], [], [(2320, .sl 1 4 0 [])], [2320], 3346⟩)] (.n none .o (.n none .o (.n none (.n none (.n none .o (.n none (.r (some (true, [(.normal, ⟨[.lf .bool], [(34, .one (.any)), (35, .one (.any)), (36, .one (.any)), (37, .one (.any)), (38, .one (.any)), (41, .one (.any)), (42, .one (.any)), (43, .one (.any)), (44, .one (.any)), (45, .one (.any)), (46, .one (.any)), (47, .one (.any)), (48, .one (.any)), (49, .one (.any)), (50, .one (.any)), (51, .one (.any)), (52, .one (.any)), (53, .one (.h 0 []))], [], [], 3860⟩)])) .nil) (.n (some (true, [(.normal, ⟨[.lf (.sl 1)], [], [(2320, .sl 1 4 0 [])], [2320], 3925⟩)])) .o .o))) .o) .o)))) .o)) .o) .o)))) .o)) (.n none .o (.n none (.n none .o (.n none (.loop ⟨[.lf (.int .i64), .lf (.sl 0)], [(10, .one (.own 3217)), (66, .one (.h 0 []))], [(3217, .sl 0 3 1 [])], [], 3281⟩ true [(.exit 4, ⟨[.lf (.sl 0)], [(10, .one (.own 3217))], [(3217, .sl 0 3 0 [])], [], 3281⟩)] (.n none .o (.n none .o (.n none (.n none (.n none .o (.n none .o (.n (some (true, [(.normal, ⟨[.lf (.sl 0)], [(10, .one (.own 3731))], [(3731, .sl 0 3 0 [])], [3217], 3795⟩)])) .o .o))) .o) .o)))) .o)) .o))))))) pOk repOk (AllC.mem (l := []) trivial) hmix Tryz.call85 Tryz.func85 rfl rfl (by kernel_rfl) (fun h => by kernel_rfl)

noncomputable def dynposref15_Connected (a0 : Board) (a1 : Power) (a2 : Int) : Option (Int × Bool) :=
  Option.bind
    (Option.bind (dynposref15_State a0 a1) fun x1 =>
      if (x1 != 0) = true then some true
      else
        if decide (a2 < 0) = true then some true
        else
          if decide (a2 ≥ len a0.Sources) = true then some true
          else Option.bind (idx a1.Sources a2) fun x2 => some (x2.State != 2))
    fun x3 =>
    if x3 = true then some (0, false)
    else
      Option.bind (dynposref15_of a0 2 a2) fun x4 =>
        Option.bind (idx x4 0) fun x5 =>
          Option.bind (idx a1.Closed x5) fun x6 =>
            if (!x6) = true then some (0, false)
            else Option.bind (idx a0.Breakers x5) fun x7 => some (x7.A, true)
noncomputable def c86 : Con D := ⟨86, [.lf (.int .i64), .lf (.sl 5), .lf (.sl 6), .lf (.sl 7), .lf (.int .i64), .lf (.int .i64), .lf (.sl 1), .lf (.sl 9), .lf (.sl 0), .lf (.sl 10), .lf (.int .i64)], [.lf (.int .i64), .lf .bool], [.agg [.h 0 [], .h 1 [0], .h 2 [0], .h 3 [0], .h 4 [], .h 5 []], .agg [.h 6 [0], .h 7 [0], .h 8 [0], .h 9 [0]], .one (.h 10 [])], [], [.one (.h 0 []), .one (.h 1 [])], [], fun h => dynposref15_Connected ⟨h.1, h.2.1, h.2.2.1, h.2.2.2.1, h.2.2.2.2.1, h.2.2.2.2.2.1⟩ ⟨h.2.2.2.2.2.2.1, h.2.2.2.2.2.2.2.1, h.2.2.2.2.2.2.2.2.1, h.2.2.2.2.2.2.2.2.2.1⟩ h.2.2.2.2.2.2.2.2.2.2⟩
theorem c86_ok : ConOk Tryz.prog T c86 := fn_ok (Φ := [c23, c55]) (rs := [.tmp 6, .tmp 7]) (an := (.n none .o (.n none (.n none (.r (some (true, [(.normal, ⟨[.lf .bool], [(32, .one (.h 0 []))], [], [], 2320⟩)])) .nil) .o) .o))) pOk repOk (AllC.mem (⟨c23_ok, c55_ok, trivial⟩ : AllC _ _ [c23, c55])) hmix Tryz.call86 Tryz.func86 rfl rfl (by kernel_rfl) (fun h => by kernel_rfl)

noncomputable def dynposref01_Has_L1 (a0 : List
  Int) (a1 : Int) : Int →
  Option
    (Int ⊕
      Unit ⊕
        Bool) := fun x1 =>
  if decide (x1 < len a0) = true then
    Option.bind (idx a0 x1) fun x2 =>
      if (x2 == a1) = true then some (.inr (.inr true)) else some (.inl (W (x1 + 1)))
  else some (.inr (.inl ()))
noncomputable def dynposref01_Has (a0 : (List Int)) (a1 : Int) : Option (Bool) :=
  Option.bind (loopO (dynposref01_Has_L1 a0 a1) 0) fun x3 =>
    Sum.elim (fun x4 => some false) (fun x5 => some x5) x3
noncomputable def c25 : Con D := ⟨25, [.lf (.sl 0), .lf (.int .i64)], [.lf .bool], [.one (.h 0 [0]), .one (.h 1 [])], [], [.one (.h 0 [])], [], fun h => dynposref01_Has h.1 h.2⟩
theorem c25_ok : ConOk Tryz.prog T c25 := fn_ok (Φ := []) (rs := [.tmp 4]) (an := (.n none .o (.n none (.n none .o (.n none (.loop ⟨[.lf (.int .i64)], [(9, .one (.h 0 []))], [], [], 2320⟩ false [(.exit 0, ⟨[], [], [], [], 2320⟩)] .o) .o)) .o))) pOk repOk (AllC.mem (l := []) trivial) hmix Tryz.call25 Tryz.func25 rfl rfl (by kernel_rfl) (fun h => by kernel_rfl)

noncomputable def dynposref15_Fed_L1 (a0 : Board) (a1 : Power) (x3 : List
  Int) : Int →
  Option
    (Int ⊕
      Unit ⊕
        Int ×
          Bool) := fun x4 =>
  if decide (x4 < len x3) = true then
    Option.bind (idx x3 x4) fun x5 =>
      Option.bind (idx a1.Closed x5) fun x6 =>
        if x6 = true then Option.bind (idx a0.Breakers x5) fun x7 => some (.inr (.inr (x7.A, true)))
        else some (.inl (W (x4 + 1)))
  else some (.inr (.inl ()))
noncomputable def dynposref15_Fed (a0 : Board) (a1 : Power) (a2 : Int) : Option (Int × Bool) :=
  Option.bind
    (Option.bind (dynposref15_State a0 a1) fun x1 =>
      if (x1 != 0) = true then some true
      else if decide (a2 < 0) = true then some true else some (decide (a2 ≥ len a0.Consumers)))
    fun x2 =>
    if x2 = true then some (0, false)
    else
      Option.bind (dynposref15_of a0 3 a2) fun x3 =>
        Option.bind (loopO (dynposref15_Fed_L1 a0 a1 x3) 0) fun x8 =>
          Sum.elim (fun x9 => some (0, false)) (fun x10 => some x10) x8
noncomputable def c26 : Con D := ⟨26, [.lf (.int .i64), .lf (.sl 5), .lf (.sl 6), .lf (.sl 7), .lf (.int .i64), .lf (.int .i64), .lf (.sl 1), .lf (.sl 9), .lf (.sl 0), .lf (.sl 10), .lf (.int .i64)], [.lf (.int .i64), .lf .bool], [.agg [.h 0 [], .h 1 [0], .h 2 [0], .h 3 [0], .h 4 [], .h 5 []], .agg [.h 6 [0], .h 7 [0], .h 8 [0], .h 9 [0]], .one (.h 10 [])], [], [.one (.h 0 []), .one (.h 1 [])], [], fun h => dynposref15_Fed ⟨h.1, h.2.1, h.2.2.1, h.2.2.2.1, h.2.2.2.2.1, h.2.2.2.2.2.1⟩ ⟨h.2.2.2.2.2.2.1, h.2.2.2.2.2.2.2.1, h.2.2.2.2.2.2.2.2.1, h.2.2.2.2.2.2.2.2.2.1⟩ h.2.2.2.2.2.2.2.2.2.2⟩
theorem c26_ok : ConOk Tryz.prog T c26 := fn_ok (Φ := [c23, c55]) (rs := [.tmp 6, .tmp 7]) (an := (.n none .o (.n none (.n none (.r (some (true, [(.normal, ⟨[.lf .bool], [(24, .one (.h 0 []))], [], [], 2320⟩)])) .nil) .o) (.n none (.n none .o (.n none (.loop ⟨[.lf (.int .i64)], [(29, .one (.h 0 []))], [], [], 2705⟩ false [(.exit 0, ⟨[], [], [], [], 2705⟩)] .o) .o)) .o)))) pOk repOk (AllC.mem (⟨c23_ok, c55_ok, trivial⟩ : AllC _ _ [c23, c55])) hmix Tryz.call26 Tryz.func26 rfl rfl (by kernel_rfl) (fun h => by kernel_rfl)

noncomputable def dynposref15_Of_L1 (a0 : Board) (a1 : Power) (x3 : List
  Int) : Int × List Int →
  Option
    (Int × List Int ⊕
      List
        Int) := fun x4 =>
  if decide (x4.1 < len a0.Sources) = true then
    Option.bind (dynposref15_Connected a0 a1 x4.1) fun x5 =>
      Option.bind (if x5.2 = true then Option.bind (dynposref01_Has x3 x5.1) fun x6 => some x6 else some false)
        fun x7 =>
        Option.bind (if x7 = true then Option.bind (app x4.2 [x4.1]) fun x8 => some x8 else some x4.2) fun x9 =>
          some (.inl (W (x4.1 + 1), x9))
  else some (.inr x4.2)
noncomputable def dynposref15_Of_L2 (a0 : Board) (a1 : Power) (x3 : List
  Int) : Int × List Int →
  Option
    (Int × List Int ⊕
      List
        Int) := fun x11 =>
  if decide (x11.1 < len a0.Consumers) = true then
    Option.bind (dynposref15_Fed a0 a1 x11.1) fun x12 =>
      Option.bind (if x12.2 = true then Option.bind (dynposref01_Has x3 x12.1) fun x13 => some x13 else some false)
        fun x14 =>
        Option.bind (if x14 = true then Option.bind (app x11.2 [x11.1]) fun x15 => some x15 else some x11.2)
          fun x16 => some (.inl (W (x11.1 + 1), x16))
  else some (.inr x11.2)
noncomputable def dynposref15_Of (a0 : Board) (a1 : Power) (a2 : Int) : Option (Bool × (List Int) × (List Int) × (List Int)) :=
  Option.bind
    (Option.bind (dynposref15_State a0 a1) fun x1 =>
      if (x1 != 0) = true then some true
      else if decide (a2 < 0) = true then some true else some (decide (a2 ≥ a0.Buses)))
    fun x2 =>
    if x2 = true then some (false, [], [], [])
    else
      Option.bind (dynposref15_reach a0 a1 a2) fun x3 =>
        Option.bind (loopO (dynposref15_Of_L1 a0 a1 x3) (0, [])) fun x10 =>
          Option.bind (loopO (dynposref15_Of_L2 a0 a1 x3) (0, [])) fun x17 => some (true, x3, x10, x17)
noncomputable def c46 : Con D := ⟨46, [.lf (.int .i64), .lf (.sl 5), .lf (.sl 6), .lf (.sl 7), .lf (.int .i64), .lf (.int .i64), .lf (.sl 1), .lf (.sl 9), .lf (.sl 0), .lf (.sl 10), .lf (.int .i64)], [.lf .bool, .lf (.sl 0), .lf (.sl 0), .lf (.sl 0)], [.agg [.h 0 [], .h 1 [0], .h 2 [0], .h 3 [0], .h 4 [], .h 5 []], .agg [.h 6 [0], .h 7 [0], .h 8 [0], .h 9 [0]], .one (.h 10 [])], [], [.agg [.own 1000, .own 1001, .own 1002], .one (.h 0 [])], [(1000, .sl 0 3 1 []), (1001, .sl 0 3 2 []), (1002, .sl 0 3 3 [])], fun h => dynposref15_Of ⟨h.1, h.2.1, h.2.2.1, h.2.2.2.1, h.2.2.2.2.1, h.2.2.2.2.2.1⟩ ⟨h.2.2.2.2.2.2.1, h.2.2.2.2.2.2.2.1, h.2.2.2.2.2.2.2.2.1, h.2.2.2.2.2.2.2.2.2.1⟩ h.2.2.2.2.2.2.2.2.2.2⟩
theorem c46_ok : ConOk Tryz.prog T c46 := fn_ok (Φ := [c23, c25, c26, c85, c86]) (rs := [.cell 6 54, .tmp 7]) (an := (.n none .o (.n none (.n none (.r (some (true, [(.normal, ⟨[.lf .bool], [(28, .one (.h 0 []))], [], [], 2320⟩)])) .nil) .o) (.n none .o (.n none (.n none .o (.n none (.loop ⟨[.lf (.int .i64), .lf (.sl 0)], [(38, .one (.h 0 []))], [(2641, .box [.own 2521, .own 3025, .nils]), (3025, .sl 0 3 1 [])], [2641], 3089⟩ true [(.exit 0, ⟨[.lf (.sl 0)], [], [(2641, .box [.own 2521, .own 3025, .nils]), (3025, .sl 0 3 0 [])], [2641], 3089⟩)] (.n none .o (.n none .o (.n none (.n none (.n none .o (.n none .o (.n none (.r (some (true, [(.normal, ⟨[.lf .bool], [(50, .one (.any)), (51, .one (.any)), (52, .one (.any)), (53, .one (.any)), (54, .one (.h 0 []))], [], [], 3923⟩)])) .nil) (.n (some (true, [(.normal, ⟨[.lf (.sl 0)], [], [(2641, .box [.own 2521, .own 3924, .nils]), (3924, .sl 0 3 0 [])], [2641, 3025], 3988⟩)])) .o .o)))) .o) .o)))) .o)) (.n none (.n none .o (.n none (.loop ⟨[.lf (.int .i64), .lf (.sl 0)], [(65, .one (.h 0 []))], [(2641, .box [.own 2521, .own 3025, .own 3346]), (3346, .sl 0 3 1 [])], [2641], 3410⟩ true [(.exit 2, ⟨[.lf (.sl 0)], [], [(2641, .box [.own 2521, .own 3025, .own 3346]), (3346, .sl 0 3 0 [])], [2641], 3410⟩)] (.n none .o (.n none .o (.n none (.n none (.n none .o (.n none .o (.n none (.r (some (true, [(.normal, ⟨[.lf .bool], [(77, .one (.any)), (78, .one (.any)), (79, .one (.any)), (80, .one (.any)), (81, .one (.h 0 []))], [], [], 4244⟩)])) .nil) (.n (some (true, [(.normal, ⟨[.lf (.sl 0)], [], [(2641, .box [.own 2521, .own 3025, .own 4245]), (4245, .sl 0 3 0 [])], [2641, 3346], 4309⟩)])) .o .o)))) .o) .o)))) .o)) .o)))))) pOk repOk (AllC.mem (⟨c23_ok, c25_ok, c26_ok, c85_ok, c86_ok, trivial⟩ : AllC _ _ [c23, c25, c26, c85, c86])) hmix Tryz.call46 Tryz.func46 rfl rfl (by kernel_rfl) (fun h => by kernel_rfl)

noncomputable def dynposref15_Islands_L1 (a0 : Board) (a1 : Power) : Int × List Island →
  Option
    (Int × List Island ⊕
      List
        Island) := fun x2 =>
  if decide (x2.1 < a0.Buses) = true then
    Option.bind (dynposref15_Of a0 a1 x2.1) fun x3 =>
      Option.bind (idx x3.2.1 0) fun x4 =>
        Option.bind
          (if (x4 == x2.1) = true then
            Option.bind (app x2.2 [Island.mk x3.2.1 x3.2.2.1 x3.2.2.2]) fun x5 => some x5
          else some x2.2)
          fun x6 => some (.inl (W (x2.1 + 1), x6))
  else some (.inr x2.2)
noncomputable def dynposref15_Islands (a0 : Board) (a1 : Power) : Option ((List Island)) :=
  Option.bind (dynposref15_State a0 a1) fun x1 =>
    if (x1 != 0) = true then some []
    else Option.bind (loopO (dynposref15_Islands_L1 a0 a1) (0, [])) fun x7 => some x7
noncomputable def c18 : Con D := ⟨18, [.lf (.int .i64), .lf (.sl 5), .lf (.sl 6), .lf (.sl 7), .lf (.int .i64), .lf (.int .i64), .lf (.sl 1), .lf (.sl 9), .lf (.sl 0), .lf (.sl 10)], [.lf (.sl 13)], [.agg [.h 0 [], .h 1 [0], .h 2 [0], .h 3 [0], .h 4 [], .h 5 []], .agg [.h 6 [0], .h 7 [0], .h 8 [0], .h 9 [0]]], [], [.one (.own 1000)], [(1000, .sl 13 54 0 [1])], fun h => dynposref15_Islands ⟨h.1, h.2.1, h.2.2.1, h.2.2.2.1, h.2.2.2.2.1, h.2.2.2.2.2.1⟩ ⟨h.2.2.2.2.2.2.1, h.2.2.2.2.2.2.2.1, h.2.2.2.2.2.2.2.2.1, h.2.2.2.2.2.2.2.2.2⟩⟩
theorem c18_ok : ConOk Tryz.prog T c18 := fn_ok (Φ := [c23, c46]) (rs := [.tmp 4]) (an := (.n none .o (.n none .o (.n none .o (.n none (.n none .o (.n none (.loop ⟨[.lf (.int .i64), .lf (.sl 13)], [(5, .one (.own 2576)), (6, .one (.h 0 []))], [(2576, .sl 13 54 1 [1])], [], 2640⟩ true [(.exit 0, ⟨[.lf (.sl 13)], [(5, .one (.own 2576))], [(2576, .sl 13 54 0 [1])], [], 2640⟩)] (.n none .o (.n none (.n none (.n none .o (.n none .o (.n (some (true, [(.normal, ⟨[.lf (.sl 13)], [(5, .one (.own 3922))], [(3922, .sl 13 54 0 [1])], [2576, 3098, 3099, 3100], 3986⟩)])) .o .o))) .o) .o))) .o)) .o))))) pOk repOk (AllC.mem (⟨c23_ok, c46_ok, trivial⟩ : AllC _ _ [c23, c46])) hmix Tryz.call18 Tryz.func18 rfl rfl (by kernel_rfl) (fun h => by kernel_rfl)

noncomputable def dynposref17_Load_L1 (a1 : Power) (x1 : Bool ×
  List Int ×
    List Int ×
      List
        Int) : Int × Int →
  Option
    (Int × Int ⊕
      Int) := fun x3 =>
  if decide (x3.2 < len x1.2.2.2) = true then
    Option.bind (idx x1.2.2.2 x3.2) fun x4 =>
      Option.bind (idx a1.Limits x4) fun x5 => some (.inl (W (x3.1 + x5), W (x3.2 + 1)))
  else some (.inr x3.1)
noncomputable def dynposref17_Load (a0 : Board) (a1 : Power) (a2 : Int) : Option (Int) :=
  Option.bind (dynposref15_Of a0 a1 a2) fun x1 =>
    Option.bind (if (!x1.1) = true then some true else some (len x1.2.2.1 == 0)) fun x2 =>
      if x2 = true then some 0
      else Option.bind (loopO (dynposref17_Load_L1 a1 x1) (0, 0)) fun x6 => some x6
noncomputable def c19 : Con D := ⟨19, [.lf (.int .i64), .lf (.sl 5), .lf (.sl 6), .lf (.sl 7), .lf (.int .i64), .lf (.int .i64), .lf (.sl 1), .lf (.sl 9), .lf (.sl 0), .lf (.sl 10), .lf (.int .i64)], [.lf (.int .i64)], [.agg [.h 0 [], .h 1 [0], .h 2 [0], .h 3 [0], .h 4 [], .h 5 []], .agg [.h 6 [0], .h 7 [0], .h 8 [0], .h 9 [0]], .one (.h 10 [])], [], [.one (.h 0 [])], [], fun h => dynposref17_Load ⟨h.1, h.2.1, h.2.2.1, h.2.2.2.1, h.2.2.2.2.1, h.2.2.2.2.2.1⟩ ⟨h.2.2.2.2.2.2.1, h.2.2.2.2.2.2.2.1, h.2.2.2.2.2.2.2.2.1, h.2.2.2.2.2.2.2.2.2.1⟩ h.2.2.2.2.2.2.2.2.2.2⟩
theorem c19_ok : ConOk Tryz.prog T c19 := fn_ok (Φ := [c46]) (rs := [.tmp 6]) (an := (.n none .o (.n none .o (.n none (.n none (.r (some (true, [(.normal, ⟨[.lf .bool], [(26, .one (.h 0 []))], [], [], 2896⟩)])) .nil) .o) (.n none .o (.n none (.n none .o (.n none (.loop ⟨[.lf (.int .i64), .lf (.int .i64)], [(9, .one (.h 0 [])), (30, .one (.h 1 []))], [], [], 3281⟩ true [(.exit 0, ⟨[.lf (.int .i64)], [(9, .one (.h 0 []))], [], [], 3281⟩)] .o) .o)) .o)))))) pOk repOk (AllC.mem (⟨c46_ok, trivial⟩ : AllC _ _ [c46])) hmix Tryz.call19 Tryz.func19 rfl rfl (by kernel_rfl) (fun h => by kernel_rfl)

noncomputable def dynposref17_Rating_L1 (a0 : Board) (x1 : Bool ×
  List Int ×
    List Int ×
      List
        Int) : Int × Int →
  Option
    (Int × Int ⊕
      Int) := fun x2 =>
  if decide (x2.2 < len x1.2.2.1) = true then
    Option.bind (idx x1.2.2.1 x2.2) fun x3 =>
      Option.bind (idx a0.Sources x3) fun x4 => some (.inl (W (x2.1 + x4.Rating), W (x2.2 + 1)))
  else some (.inr x2.1)
noncomputable def dynposref17_Rating (a0 : Board) (a1 : Power) (a2 : Int) : Option (Int) :=
  Option.bind (dynposref15_Of a0 a1 a2) fun x1 =>
    Option.bind (loopO (dynposref17_Rating_L1 a0 x1) (0, 0)) fun x5 => some x5
noncomputable def c20 : Con D := ⟨20, [.lf (.int .i64), .lf (.sl 5), .lf (.sl 6), .lf (.sl 7), .lf (.int .i64), .lf (.int .i64), .lf (.sl 1), .lf (.sl 9), .lf (.sl 0), .lf (.sl 10), .lf (.int .i64)], [.lf (.int .i64)], [.agg [.h 0 [], .h 1 [0], .h 2 [0], .h 3 [0], .h 4 [], .h 5 []], .agg [.h 6 [0], .h 7 [0], .h 8 [0], .h 9 [0]], .one (.h 10 [])], [], [.one (.h 0 [])], [], fun h => dynposref17_Rating ⟨h.1, h.2.1, h.2.2.1, h.2.2.2.1, h.2.2.2.2.1, h.2.2.2.2.2.1⟩ ⟨h.2.2.2.2.2.2.1, h.2.2.2.2.2.2.2.1, h.2.2.2.2.2.2.2.2.1, h.2.2.2.2.2.2.2.2.2.1⟩ h.2.2.2.2.2.2.2.2.2.2⟩
theorem c20_ok : ConOk Tryz.prog T c20 := fn_ok (Φ := [c46]) (rs := [.tmp 6]) (an := (.n none .o (.n none .o (.n none .o (.n none (.n none .o (.n none (.loop ⟨[.lf (.int .i64), .lf (.int .i64)], [(9, .one (.h 0 [])), (22, .one (.h 1 []))], [], [], 3216⟩ true [(.exit 0, ⟨[.lf (.int .i64)], [(9, .one (.h 0 []))], [], [], 3216⟩)] .o) .o)) .o))))) pOk repOk (AllC.mem (⟨c46_ok, trivial⟩ : AllC _ _ [c46])) hmix Tryz.call20 Tryz.func20 rfl rfl (by kernel_rfl) (fun h => by kernel_rfl)

noncomputable def dynposref17_Overloaded (a0 : Board) (a1 : Power) (a2 : Int) : Option (Bool) :=
  Option.bind (dynposref17_Load a0 a1 a2) fun x1 =>
    Option.bind (dynposref17_Rating a0 a1 a2) fun x2 => some (decide (x1 > x2))
noncomputable def c40 : Con D := ⟨40, [.lf (.int .i64), .lf (.sl 5), .lf (.sl 6), .lf (.sl 7), .lf (.int .i64), .lf (.int .i64), .lf (.sl 1), .lf (.sl 9), .lf (.sl 0), .lf (.sl 10), .lf (.int .i64)], [.lf .bool], [.agg [.h 0 [], .h 1 [0], .h 2 [0], .h 3 [0], .h 4 [], .h 5 []], .agg [.h 6 [0], .h 7 [0], .h 8 [0], .h 9 [0]], .one (.h 10 [])], [], [.one (.h 0 [])], [], fun h => dynposref17_Overloaded ⟨h.1, h.2.1, h.2.2.1, h.2.2.2.1, h.2.2.2.2.1, h.2.2.2.2.2.1⟩ ⟨h.2.2.2.2.2.2.1, h.2.2.2.2.2.2.2.1, h.2.2.2.2.2.2.2.2.1, h.2.2.2.2.2.2.2.2.2.1⟩ h.2.2.2.2.2.2.2.2.2.2⟩
theorem c40_ok : ConOk Tryz.prog T c40 := fn_ok (Φ := [c19, c20]) (rs := [.tmp 6]) (an := .o) pOk repOk (AllC.mem (⟨c19_ok, c20_ok, trivial⟩ : AllC _ _ [c19, c20])) hmix Tryz.call40 Tryz.func40 rfl rfl (by kernel_rfl) (fun h => by kernel_rfl)

noncomputable def dynposlaw18_pair : Option (Int × Int × Int × (List Breaker) × (List Source) × (List Consumer) × (List Bool) × (List Running) × (List Int)) := some
  (1, 0, 0,
    [Breaker.mk 2 0 0, Breaker.mk 3 0 0,
      Breaker.mk 3 0 1],
    [Source.mk 100 0 0],
    [Consumer.mk 60 20 0 (-1) [],
      Consumer.mk 70 70 1 (-1) []],
    [true, true, true], [Running.mk 2 0 5000 0],
    [60, 70])
noncomputable def c47 : Con D := ⟨47, [], [.lf (.int .i64), .lf (.int .i64), .lf (.int .i64), .lf (.sl 5), .lf (.sl 6), .lf (.sl 7), .lf (.sl 1), .lf (.sl 9), .lf (.sl 0)], [], [], [.agg [.h 0 [], .own 1000, .own 1001, .own 1002, .h 1 [], .h 2 []], .agg [.own 1003, .own 1004, .own 1005, .nils]], [(1000, .sl 5 44 3 []), (1001, .sl 6 89 4 []), (1002, .sl 7 57 5 []), (1003, .sl 1 4 6 []), (1004, .sl 9 48 7 []), (1005, .sl 0 3 8 [])], fun h => dynposlaw18_pair⟩
theorem c47_ok : ConOk Tryz.prog T c47 := fn_ok (Φ := []) (rs := [.cell 0 29, .cell 1 34]) (an := .o) pOk repOk (AllC.mem (l := []) trivial) hmix Tryz.call47 Tryz.func47 rfl rfl (by kernel_rfl) (fun h => by kernel_rfl)

noncomputable def shed_relieve_v1 (a0 : Board) (a1 : Power) : Option (Int × (List Bool) × (List Running) × (List Int) × (List Part) × (List Act)) :=
  Option.bind (board_State a0 a1) fun x1 =>
    if (x1 != 0) = true then some (x1, [], [], [], [], [])
    else
      Option.bind (states_Clone a1) fun x2 =>
        Option.bind (relief_shed_v1 (relief.mk a0 (Power.mk x2.1 x2.2.1 x2.2.2.1 x2.2.2.2) []))
          fun x3 =>
          some
            (0, x3.2.2.2.2.2.2.1, x3.2.2.2.2.2.2.2.1,
              x3.2.2.2.2.2.2.2.2.1, x3.2.2.2.2.2.2.2.2.2.1,
              x3.2.2.2.2.2.2.2.2.2.2)
noncomputable def c43_2 : Con D := ⟨43, [.lf (.int .i64), .lf (.sl 5), .lf (.sl 6), .lf (.sl 7), .lf (.int .i64), .lf (.int .i64), .lf (.sl 1), .lf (.sl 9), .lf (.sl 0), .lf (.sl 10)], [.lf (.int .i64), .lf (.sl 1), .lf (.sl 9), .lf (.sl 0), .lf (.sl 10), .lf (.sl 11)], [.agg [.h 0 [], .h 1 [0], .h 2 [0], .h 3 [0], .h 4 [], .h 5 []], .agg [.h 6 [0], .h 7 [0], .h 8 [0], .h 9 [0]], .one (.fn 48 [])], [], [.agg [.own 1000, .own 1001, .own 1002, .own 1003], .one (.own 1004), .one (.h 0 [])], [(1000, .sl 1 4 1 []), (1001, .sl 9 48 2 []), (1002, .sl 0 3 3 []), (1003, .sl 10 84 4 []), (1004, .sl 11 74 5 [])], fun h => shed_relieve_v1 ⟨h.1, h.2.1, h.2.2.1, h.2.2.2.1, h.2.2.2.2.1, h.2.2.2.2.2.1⟩ ⟨h.2.2.2.2.2.2.1, h.2.2.2.2.2.2.2.1, h.2.2.2.2.2.2.2.2.1, h.2.2.2.2.2.2.2.2.2⟩⟩
theorem c43_2_ok : ConOk Tryz.prog T c43_2 := fn_ok (Φ := [c48_1, c70, c80]) (rs := [.cell 6 34, .tmp 7, .tmp 8]) (an := .o) pOk repOk (AllC.mem (⟨c48_1_ok, c70_ok, c80_ok, trivial⟩ : AllC _ _ [c48_1, c70, c80])) hmix Tryz.call43 Tryz.func43 rfl rfl (by kernel_rfl) (fun h => by kernel_rfl)

noncomputable def shed_Shed (a0 : Board) (a1 : Power) : Option (Int × (List Bool) × (List Running) × (List Int) × (List Part) × (List Act)) :=
  Option.bind (shed_relieve_v1 a0 a1) fun x1 =>
    some (x1.1, x1.2.1, x1.2.2.1, x1.2.2.2.1, x1.2.2.2.2.1, x1.2.2.2.2.2)
noncomputable def c17 : Con D := ⟨17, [.lf (.int .i64), .lf (.sl 5), .lf (.sl 6), .lf (.sl 7), .lf (.int .i64), .lf (.int .i64), .lf (.sl 1), .lf (.sl 9), .lf (.sl 0), .lf (.sl 10)], [.lf (.int .i64), .lf (.sl 1), .lf (.sl 9), .lf (.sl 0), .lf (.sl 10), .lf (.sl 11)], [.agg [.h 0 [], .h 1 [0], .h 2 [0], .h 3 [0], .h 4 [], .h 5 []], .agg [.h 6 [0], .h 7 [0], .h 8 [0], .h 9 [0]]], [], [.agg [.own 1000, .own 1001, .own 1002, .own 1003], .one (.own 1004), .one (.h 0 [])], [(1000, .sl 1 4 1 []), (1001, .sl 9 48 2 []), (1002, .sl 0 3 3 []), (1003, .sl 10 84 4 []), (1004, .sl 11 74 5 [])], fun h => shed_Shed ⟨h.1, h.2.1, h.2.2.1, h.2.2.2.1, h.2.2.2.2.1, h.2.2.2.2.2.1⟩ ⟨h.2.2.2.2.2.2.1, h.2.2.2.2.2.2.2.1, h.2.2.2.2.2.2.2.2.1, h.2.2.2.2.2.2.2.2.2⟩⟩
theorem c17_ok : ConOk Tryz.prog T c17 := fn_ok (Φ := [c43_2]) (rs := [.cell 4 34, .tmp 5, .tmp 6]) (an := .o) pOk repOk (AllC.mem (⟨c43_2_ok, trivial⟩ : AllC _ _ [c43_2])) hmix Tryz.call17 Tryz.func17 rfl rfl (by kernel_rfl) (fun h => by kernel_rfl)

noncomputable def dynposref18_Acts_L1 (a0 : List
  Act) (a1 : List
  Act) : Int →
  Option
    (Int ⊕
      Unit ⊕
        Bool) := fun x1 =>
  if decide (x1 < len a0) = true then
    Option.bind (idx a0 x1) fun x2 =>
      Option.bind (idx a1 x1) fun x3 =>
        if (!(x2.Kind == x3.Kind && (x2.Unit == x3.Unit && x2.Value == x3.Value))) = true then
          some (.inr (.inr false))
        else some (.inl (W (x1 + 1)))
  else some (.inr (.inl ()))
noncomputable def dynposref18_Acts (a0 : (List Act)) (a1 : (List Act)) : Option (Bool) :=
  if (len a0 != len a1) = true then some false
  else
    Option.bind (loopO (dynposref18_Acts_L1 a0 a1) 0) fun x4 =>
      Sum.elim (fun x5 => some true) (fun x6 => some x6) x4
noncomputable def c33 : Con D := ⟨33, [.lf (.sl 11), .lf (.sl 11)], [.lf .bool], [.one (.h 0 [0]), .one (.h 1 [0])], [], [.one (.h 0 [])], [], fun h => dynposref18_Acts h.1 h.2⟩
theorem c33_ok : ConOk Tryz.prog T c33 := fn_ok (Φ := []) (rs := [.tmp 4]) (an := (.n none .o (.n none .o (.n none (.n none .o (.n none (.loop ⟨[.lf (.int .i64)], [(13, .one (.h 0 []))], [], [], 2640⟩ false [(.exit 0, ⟨[], [], [], [], 2640⟩)] .o) .o)) .o)))) pOk repOk (AllC.mem (l := []) trivial) hmix Tryz.call33 Tryz.func33 rfl rfl (by kernel_rfl) (fun h => by kernel_rfl)

noncomputable def shed_Served_1 (F : (Board) → (Power) → (Int) → Option (Bool)) (a0 : Int) (a1 : Board) (a2 : Power) : Option (Bool) := Option.bind (F a1 a2 a0) fun x1 => some !x1
noncomputable def slices_IndexFunc_int_int_flat_v8_L1 (F : (Board) → (Power) → (Int) → Option (Bool)) (a0 : List
  Int) (a1 : Board) (a2 : Power) : Int →
  Option
    (Int ⊕
      Unit ⊕
        Int) := fun x1 =>
  if decide (x1 < len a0) = true then
    Option.bind (idx a0 x1) fun x2 =>
      Option.bind (shed_Served_1 F x2 a1 a2) fun x3 =>
        if x3 = true then some (.inr (.inr x1)) else some (.inl (W (x1 + 1)))
  else some (.inr (.inl ()))
noncomputable def slices_IndexFunc_int_int_flat_v8 (F : (Board) → (Power) → (Int) → Option (Bool)) (a0 : (List Int)) (a1 : Board) (a2 : Power) : Option (Int) :=
  Option.bind (loopO (slices_IndexFunc_int_int_flat_v8_L1 F a0 a1 a2) 0) fun x4 =>
    Sum.elim (fun x5 => some (-1)) (fun x6 => some x6) x4
noncomputable def slices_ContainsFunc_int_int_flat_v4 (F : (Board) → (Power) → (Int) → Option (Bool)) (a0 : (List Int)) (a1 : Board) (a2 : Power) : Option (Bool) := Option.bind (slices_IndexFunc_int_int_flat_v8 F a0 a1 a2) fun x1 => some (decide (x1 ≥ 0))
noncomputable def shed_Served_S (F : (Board) → (Power) → (Int) → Option (Bool)) (a0 : Board) (a1 : Power) (a2 : Int) : Option (Bool) :=
  Option.bind (board_Fed a0 a1 a2) fun x1 =>
    Option.bind
      (if (!x1.2) = true then some true
      else
        Option.bind (board_Live a0 a1 x1.1) fun x2 =>
          if (!x2) = true then some true
          else
            Option.bind (board_Broken a1 4 a2) fun x3 =>
              if x3 = true then some true
              else
                Option.bind (idx a1.Limits a2) fun x4 =>
                  Option.bind (idx a0.Consumers a2) fun x5 => some (decide (x4 < x5.Least)))
      fun x6 =>
      if x6 = true then some false
      else
        Option.bind (idx a0.Consumers a2) fun x7 =>
          Option.bind (slices_ContainsFunc_int_int_flat_v4 F x7.Needs a0 a1) fun x8 => some !x8
/-- it calls itself: of so many calls below one another -/
noncomputable def shed_Served_R (n : Nat) : (Board) → (Power) → (Int) → Option (Bool) := Nat.rec (motive := fun _ => (Board) → (Power) → (Int) → Option (Bool)) (fun _ _ _ => none) (fun _ F => shed_Served_S F) n
noncomputable def shed_Served (a0 : Board) (a1 : Power) (a2 : Int) : Option (Bool) := shed_Served_R 64 a0 a1 a2
noncomputable def c31_k (n : Nat) : Con D := ⟨31, [.lf (.int .i64), .lf (.sl 5), .lf (.sl 6), .lf (.sl 7), .lf (.int .i64), .lf (.int .i64), .lf (.sl 1), .lf (.sl 9), .lf (.sl 0), .lf (.sl 10), .lf (.int .i64)], [.lf .bool], [.agg [.h 0 [], .h 1 [0], .h 2 [0], .h 3 [0], .h 4 [], .h 5 []], .agg [.h 6 [0], .h 7 [0], .h 8 [0], .h 9 [0]], .one (.h 10 [])], [], [.one (.h 0 [])], [], fun h => shed_Served_R n ⟨h.1, h.2.1, h.2.2.1, h.2.2.2.1, h.2.2.2.2.1, h.2.2.2.2.2.1⟩ ⟨h.2.2.2.2.2.2.1, h.2.2.2.2.2.2.2.1, h.2.2.2.2.2.2.2.2.1, h.2.2.2.2.2.2.2.2.2.1⟩ h.2.2.2.2.2.2.2.2.2.2⟩
noncomputable def c31 : Con D := c31_k 64
noncomputable def c67_k (n : Nat) : Con D := ⟨67, [.lf (.int .i64), .el 4, .el 8], [.lf .bool], [.one (.h 0 []), .one (.rp 1 4 [0]), .one (.rp 7 8 [0])], [], [.one (.h 0 [])], [], fun h => shed_Served_1 (shed_Served_R n) h.1 h.2.1 h.2.2⟩
noncomputable def c103_8_k (n : Nat) : Con D := ⟨103, [.lf (.sl 0), .el 4, .el 8], [.lf (.int .i64)], [.one (.h 0 [0]), .one (.fn 67 [.rp 1 4 [0], .rp 7 8 [0]])], [], [.one (.h 0 [])], [], fun h => slices_IndexFunc_int_int_flat_v8 (shed_Served_R n) h.1 h.2.1 h.2.2⟩
noncomputable def c66_4_k (n : Nat) : Con D := ⟨66, [.lf (.sl 0), .el 4, .el 8], [.lf .bool], [.one (.h 0 [0]), .one (.fn 67 [.rp 1 4 [0], .rp 7 8 [0]])], [], [.one (.h 0 [])], [], fun h => slices_ContainsFunc_int_int_flat_v4 (shed_Served_R n) h.1 h.2.1 h.2.2⟩
theorem c67_k_ok (n : Nat) (hH : ConOk Tryz.prog T (c31_k n)) : ConOk Tryz.prog T (c67_k n) := fn_ok (Φ := [c31_k n]) (rs := [.tmp 4]) (an := .o) pOk repOk (AllC.mem (⟨hH, trivial⟩ : AllC _ _ [c31_k n])) hmix Tryz.call67 Tryz.func67 rfl rfl (by kernel_rfl) (fun h => by kernel_rfl)
theorem c103_8_k_ok (n : Nat) (hH : ConOk Tryz.prog T (c31_k n)) : ConOk Tryz.prog T (c103_8_k n) := fn_ok (Φ := [c67_k n]) (rs := [.tmp 4]) (an := (.n none .o (.n none (.n none .o (.n none (.loop ⟨[.lf (.int .i64)], [(8, .one (.h 0 []))], [], [], 2320⟩ false [(.exit 0, ⟨[], [], [], [], 2320⟩)] .o) .o)) .o))) pOk repOk (AllC.mem (⟨c67_k_ok n hH, trivial⟩ : AllC _ _ [c67_k n])) hmix Tryz.call103 Tryz.func103 rfl rfl (by kernel_rfl) (fun h => by kernel_rfl)
theorem c66_4_k_ok (n : Nat) (hH : ConOk Tryz.prog T (c31_k n)) : ConOk Tryz.prog T (c66_4_k n) := fn_ok (Φ := [c103_8_k n]) (rs := [.tmp 4]) (an := .o) pOk repOk (AllC.mem (⟨c103_8_k_ok n hH, trivial⟩ : AllC _ _ [c103_8_k n])) hmix Tryz.call66 Tryz.func66 rfl rfl (by kernel_rfl) (fun h => by kernel_rfl)
theorem c31_k_ok : ∀ n, ConOk Tryz.prog T (c31_k n)
  | 0 => none_ok Tryz.call31 rfl (fun h => rfl)
  | n + 1 => fn_ok (Φ := [c63, c64, c65, c66_4_k n]) (rs := [.tmp 6]) (an := (.n none .o (.n none .o (.n none (.n none (.r (some (true, [(.normal, ⟨[.lf .bool], [(43, .one (.h 0 []))], [], [], 2832⟩)])) .nil) .o) .o)))) pOk repOk (AllC.mem (⟨c63_ok, c64_ok, c65_ok, c66_4_k_ok n (c31_k_ok n), trivial⟩ : AllC _ _ [c63, c64, c65, c66_4_k n])) hmix Tryz.call31 Tryz.func31 rfl rfl (by kernel_rfl) (fun h => by kernel_rfl)
theorem c31_ok : ConOk Tryz.prog T c31 := c31_k_ok 64

noncomputable def dynposlaw18_sane : Option (Bool) := Option.bind dynposlaw18_pair fun x1 =>
  Option.bind
    (shed_Shed
      (Board.mk x1.1 x1.2.2.2.1 x1.2.2.2.2.1 x1.2.2.2.2.2.1 x1.2.1 x1.2.2.1)
      (Power.mk x1.2.2.2.2.2.2.1 x1.2.2.2.2.2.2.2.1 x1.2.2.2.2.2.2.2.2
        []))
    fun x2 =>
    Option.bind
      (if (x2.1 == 0) = true then
        Option.bind (dynposref01_Ints x2.2.2.2.1 [30, 70]) fun x3 =>
          if x3 = true then
            Option.bind (dynposref18_Acts x2.2.2.2.2.2 [Act.mk 5 0 30])
              fun x4 =>
              if x4 = true then
                Option.bind
                  (shed_Check
                    (Board.mk x1.1 x1.2.2.2.1 x1.2.2.2.2.1 x1.2.2.2.2.2.1 x1.2.1
                      x1.2.2.1)
                    (Power.mk x1.2.2.2.2.2.2.1 x1.2.2.2.2.2.2.2.1
                      x1.2.2.2.2.2.2.2.2 [])
                    (Power.mk x2.2.1 x2.2.2.1 x2.2.2.2.1 x2.2.2.2.2.1))
                  fun x5 =>
                  if x5 = true then
                    Option.bind
                      (shed_Served
                        (Board.mk x1.1 x1.2.2.2.1 x1.2.2.2.2.1 x1.2.2.2.2.2.1 x1.2.1
                          x1.2.2.1)
                        (Power.mk x2.2.1 x2.2.2.1 x2.2.2.2.1 x2.2.2.2.2.1) 1)
                      fun x6 =>
                      if x6 = true then
                        Option.bind
                          (shed_Order
                            (Board.mk x1.1 x1.2.2.2.1 x1.2.2.2.2.1 x1.2.2.2.2.2.1
                              x1.2.1 x1.2.2.1))
                          fun x7 => Option.bind (dynposref01_Ints x7 [0, 1]) fun x8 => some x8
                      else some false
                  else some false
              else some false
          else some false
      else some false)
      fun x9 => some x9
noncomputable def c16 : Con D := ⟨16, [], [.lf .bool], [], [], [.one (.h 0 [])], [], fun h => dynposlaw18_sane⟩
theorem c16_ok : ConOk Tryz.prog T c16 := fn_ok (Φ := [c13, c17, c24, c31, c33, c37, c47]) (rs := [.tmp 0]) (an := (.n none .o (.n none .o (.n none .o (.n none (.r (some (true, [(.normal, ⟨[.lf .bool], [(0, .one (.h 0 []))], [], [], 3344⟩)])) .nil) .o))))) pOk repOk (AllC.mem (⟨c13_ok, c17_ok, c24_ok, c31_ok, c33_ok, c37_ok, c47_ok, trivial⟩ : AllC _ _ [c13, c17, c24, c31, c33, c37, c47])) hmix Tryz.call16 Tryz.func16 rfl rfl (by kernel_rfl) (fun h => by kernel_rfl)

noncomputable def dynposlaw18_ShedProtects_L1 (x2 : Int ×
  Int ×
    Int ×
      List Int ×
        Int ×
          List Breaker ×
            List Source ×
              List Consumer ×
                List Bool ×
                  List Running ×
                    List Int ×
                      List
                        Part) (x3 : Int ×
  List Bool ×
    List Running ×
      List Int ×
        List Part ×
          List
            Act) (x8 : List
  Island) : Int →
  Option
    (Int ⊕
      Unit ⊕
        Bool) := fun x9 =>
  if decide (x9 < len x8) = true then
    Option.bind (idx x8 x9) fun x10 =>
      Option.bind
        (Option.bind (idx x10.Buses 0) fun x11 =>
          Option.bind
            (dynposref17_Overloaded
              (Board.mk x2.1 x2.2.2.2.2.2.1 x2.2.2.2.2.2.2.1
                x2.2.2.2.2.2.2.2.1 x2.2.1 x2.2.2.1)
              (Power.mk x3.2.1 x3.2.2.1 x3.2.2.2.1 x3.2.2.2.2.1) x11)
            fun x12 =>
            if x12 = true then some true
            else
              if (len x10.Sources == 0) = true then some (decide (len x10.Consumers > 0))
              else some false)
        fun x13 => if x13 = true then some (.inr (.inr false)) else some (.inl (W (x9 + 1)))
  else some (.inr (.inl ()))
noncomputable def dynposlaw18_ShedProtects_L2 (x2 : Int ×
  Int ×
    Int ×
      List Int ×
        Int ×
          List Breaker ×
            List Source ×
              List Consumer ×
                List Bool ×
                  List Running ×
                    List Int ×
                      List
                        Part) (x3 : Int ×
  List Bool ×
    List Running ×
      List Int ×
        List Part ×
          List
            Act) : Int →
  Option
    (Int ⊕
      Unit ⊕
        Bool) := fun x16 =>
  if decide (x16 < len x3.2.1) = true then
    Option.bind
      (Option.bind (idx x3.2.1 x16) fun x17 =>
        if x17 = true then Option.bind (idx x2.2.2.2.2.2.2.2.2.1 x16) fun x18 => some !x18
        else some false)
      fun x19 => if x19 = true then some (.inr (.inr false)) else some (.inl (W (x16 + 1)))
  else some (.inr (.inl ()))
noncomputable def dynposlaw18_ShedProtects_L3 (x2 : Int ×
  Int ×
    Int ×
      List Int ×
        Int ×
          List Breaker ×
            List Source ×
              List Consumer ×
                List Bool ×
                  List Running ×
                    List Int ×
                      List
                        Part) (x3 : Int ×
  List Bool ×
    List Running ×
      List Int ×
        List Part ×
          List
            Act) : Int →
  Option
    (Int ⊕
      Unit ⊕
        Bool) := fun x22 =>
  if decide (x22 < len x3.2.2.2.1) = true then
    Option.bind (idx x3.2.2.2.1 x22) fun x23 =>
      Option.bind (idx x2.2.2.2.2.2.2.2.2.2.2.1 x22) fun x24 =>
        if decide (x23 > x24) = true then some (.inr (.inr false)) else some (.inl (W (x22 + 1)))
  else some (.inr (.inl ()))
noncomputable def dynposlaw18_ShedProtects_L4 (x3 : Int ×
  List Bool ×
    List Running ×
      List Int ×
        List Part ×
          List
            Act) : Int →
  Option
    (Int ⊕
      Unit ⊕
        Bool) := fun x27 =>
  if decide (x27 < len x3.2.2.2.2.2) = true then
    Option.bind (idx x3.2.2.2.2.2 x27) fun x28 =>
      Option.bind (if (x28.Kind != 2) = true then some (x28.Kind != 5) else some false) fun x29 =>
        if x29 = true then some (.inr (.inr false)) else some (.inl (W (x27 + 1)))
  else some (.inr (.inl ()))
noncomputable def dynposlaw18_ShedProtects (a0 : (List Int)) : Option (Bool) :=
  Option.bind (dynposmake_New a0) fun x1 =>
    Option.bind (dynposlaw18_world (Src.mk x1.1 x1.2)) fun x2 =>
      Option.bind
        (shed_Protect
          (Board.mk x2.1 x2.2.2.2.2.2.1 x2.2.2.2.2.2.2.1 x2.2.2.2.2.2.2.2.1
            x2.2.1 x2.2.2.1)
          (Power.mk x2.2.2.2.2.2.2.2.2.1 x2.2.2.2.2.2.2.2.2.2.1
            x2.2.2.2.2.2.2.2.2.2.2.1 x2.2.2.2.2.2.2.2.2.2.2.2))
        fun x3 =>
        Option.bind
          (shed_Protect
            (Board.mk x2.1 x2.2.2.2.2.2.1 x2.2.2.2.2.2.2.1
              x2.2.2.2.2.2.2.2.1 x2.2.1 x2.2.2.1)
            (Power.mk x3.2.1 x3.2.2.1 x3.2.2.2.1 x3.2.2.2.2.1))
          fun x4 =>
          Option.bind
            (if (x3.1 != 0) = true then some true
            else
              if (x4.1 != 0) = true then some true
              else
                Option.bind
                  (shed_Check
                    (Board.mk x2.1 x2.2.2.2.2.2.1 x2.2.2.2.2.2.2.1
                      x2.2.2.2.2.2.2.2.1 x2.2.1 x2.2.2.1)
                    (Power.mk x2.2.2.2.2.2.2.2.2.1 x2.2.2.2.2.2.2.2.2.2.1
                      x2.2.2.2.2.2.2.2.2.2.2.1 x2.2.2.2.2.2.2.2.2.2.2.2)
                    (Power.mk x3.2.1 x3.2.2.1 x3.2.2.2.1 x3.2.2.2.2.1))
                  fun x5 =>
                  if (!x5) = true then some true
                  else
                    Option.bind
                      (dynposref15_Same (Power.mk x3.2.1 x3.2.2.1 x3.2.2.2.1 x3.2.2.2.2.1)
                        (Power.mk x4.2.1 x4.2.2.1 x4.2.2.2.1 x4.2.2.2.2.1))
                      fun x6 =>
                      if (!x6) = true then some true
                      else
                        if decide (len x4.2.2.2.2.2 > 0) = true then some true
                        else
                          if (len x3.2.1 != len x2.2.2.2.2.2.2.2.2.1) = true then some true
                          else some (len x3.2.2.2.1 != len x2.2.2.2.2.2.2.2.2.2.2.1))
            fun x7 =>
            if x7 = true then some false
            else
              Option.bind
                (dynposref15_Islands
                  (Board.mk x2.1 x2.2.2.2.2.2.1 x2.2.2.2.2.2.2.1
                    x2.2.2.2.2.2.2.2.1 x2.2.1 x2.2.2.1)
                  (Power.mk x3.2.1 x3.2.2.1 x3.2.2.2.1 x3.2.2.2.2.1))
                fun x8 =>
                Option.bind (loopO (dynposlaw18_ShedProtects_L1 x2 x3 x8) 0) fun x14 =>
                  Sum.elim
                    (fun x15 =>
                      Option.bind (loopO (dynposlaw18_ShedProtects_L2 x2 x3) 0) fun x20 =>
                        Sum.elim
                          (fun x21 =>
                            Option.bind (loopO (dynposlaw18_ShedProtects_L3 x2 x3) 0) fun x25 =>
                              Sum.elim
                                (fun x26 =>
                                  Option.bind (loopO (dynposlaw18_ShedProtects_L4 x3) 0) fun x30 =>
                                    Sum.elim (fun x31 => Option.bind dynposlaw18_sane fun x32 => some x32)
                                      (fun x33 => some x33) x30)
                                (fun x34 => some x34) x25)
                          (fun x35 => some x35) x20)
                    (fun x36 => some x36) x14
noncomputable def c7 : Con D := ⟨7, [.lf (.sl 0)], [.lf .bool], [.one (.h 0 [0])], [], [.one (.h 0 [])], [], fun h => dynposlaw18_ShedProtects h⟩
theorem c7_ok : ConOk Tryz.prog T c7 := fn_ok (Φ := [c9, c10, c12, c16, c18, c35, c37, c40]) (rs := [.tmp 2]) (an := (.n none .o (.n none .o (.n none .o (.n none .o (.n none .o (.n none (.n none (.r (some (true, [(.normal, ⟨[.lf .bool], [(80, .one (.h 0 []))], [], [], 4304⟩)])) .nil) .o) (.n none (.n none .o (.n none (.loop ⟨[.lf (.int .i64)], [(85, .one (.h 0 []))], [], [], 4689⟩ false [(.exit 0, ⟨[], [], [], [], 4689⟩)] (.n none .o (.n none .o (.n none (.n none (.n none .o (.n none (.r (some (true, [(.normal, ⟨[.lf .bool], [(97, .one (.any)), (98, .one (.any)), (99, .one (.any)), (100, .one (.any)), (101, .one (.any)), (102, .one (.any)), (103, .one (.any)), (104, .one (.any)), (105, .one (.any)), (106, .one (.any)), (107, .one (.h 0 []))], [], [], 5074⟩)])) .nil) .o)) .o) .o)))) .o)) (.n none (.n none .o (.n none (.loop ⟨[.lf (.int .i64)], [(112, .one (.h 0 []))], [], [], 5009⟩ false [(.exit 2, ⟨[], [], [], [], 5009⟩)] (.n none .o (.n none .o (.n none (.n none (.n none .o (.n none (.r (some (true, [(.normal, ⟨[.lf .bool], [(121, .one (.any)), (122, .one (.any)), (123, .one (.any)), (124, .one (.any)), (125, .one (.any)), (126, .one (.any)), (127, .one (.h 0 []))], [], [], 5266⟩)])) .nil) .o)) .o) .o)))) .o)) (.n none (.n none .o (.n none (.loop ⟨[.lf (.int .i64)], [(132, .one (.h 0 []))], [], [], 5329⟩ false [(.exit 4, ⟨[], [], [], [], 5329⟩)] .o) .o)) (.n none (.n none .o (.n none (.loop ⟨[.lf (.int .i64)], [(149, .one (.h 0 []))], [], [], 5585⟩ false [(.exit 6, ⟨[], [], [], [], 5585⟩)] (.n none .o (.n none .o (.n none (.n none (.n none .o (.n none (.r (some (true, [(.normal, ⟨[.lf .bool], [(157, .one (.any)), (158, .one (.any)), (159, .one (.any)), (160, .one (.h 0 []))], [], [], 5970⟩)])) .nil) .o)) .o) .o)))) .o)) .o))))))))))) pOk repOk (AllC.mem (⟨c9_ok, c10_ok, c12_ok, c16_ok, c18_ok, c35_ok, c37_ok, c40_ok, trivial⟩ : AllC _ _ [c9, c10, c12, c16, c18, c35, c37, c40])) hmix Tryz.call7 Tryz.func7 rfl rfl (by kernel_rfl) (fun h => by kernel_rfl)

end Rx
end Go.Proofs.YtfnphdhcgkondaaGreat
