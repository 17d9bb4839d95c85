/- Plain functions, walks. Written by a program (wip/gen). -/
import Derived.Test.YtkohjagmjnpdnaaGreatRt
import Derived.Test.YtkohjagmjnpdnaaGreatRg1
import Derived.Test.YtkohjagmjnpdnaaGreatRg2
import Derived.Test.YtkohjagmjnpdnaaGreatRg3
set_option linter.unusedVariables false
set_option maxRecDepth 100000
namespace Go.Proofs.YtkohjagmjnpdnaaGreat
open Go Go.RowKit Dp
namespace Rx

noncomputable def dynposref15_Of_L1 (a0 : Board) (a1 : Power) (x3 : List
  Int) : Int × List Int →
  Option
    (Int × List Int ⊕
      List
        Int) := fun x4 =>
  if decide (x4.1 < len a0.Sources) = true then
    Option.bind (dynposref15_Connected a0 a1 x4.1) fun x5 =>
      Option.bind (if x5.2 = true then Option.bind (dynposref01_Has x3 x5.1) fun x6 => some x6 else some false)
        fun x7 =>
        Option.bind (if x7 = true then Option.bind (app x4.2 [x4.1]) fun x8 => some x8 else some x4.2) fun x9 =>
          some (.inl (W (x4.1 + 1), x9))
  else some (.inr x4.2)
noncomputable def dynposref15_Of_L2 (a0 : Board) (a1 : Power) (x3 : List
  Int) : Int × List Int →
  Option
    (Int × List Int ⊕
      List
        Int) := fun x11 =>
  if decide (x11.1 < len a0.Consumers) = true then
    Option.bind (dynposref15_Fed a0 a1 x11.1) fun x12 =>
      Option.bind (if x12.2 = true then Option.bind (dynposref01_Has x3 x12.1) fun x13 => some x13 else some false)
        fun x14 =>
        Option.bind (if x14 = true then Option.bind (app x11.2 [x11.1]) fun x15 => some x15 else some x11.2)
          fun x16 => some (.inl (W (x11.1 + 1), x16))
  else some (.inr x11.2)
noncomputable def dynposref15_Of (a0 : Board) (a1 : Power) (a2 : Int) : Option (Bool × (List Int) × (List Int) × (List Int)) :=
  Option.bind
    (Option.bind (dynposref15_State a0 a1) fun x1 =>
      if (x1 != 0) = true then some true
      else if decide (a2 < 0) = true then some true else some (decide (a2 ≥ a0.Buses)))
    fun x2 =>
    if x2 = true then some (false, [], [], [])
    else
      Option.bind (dynposref15_reach a0 a1 a2) fun x3 =>
        Option.bind (loopO (dynposref15_Of_L1 a0 a1 x3) (0, [])) fun x10 =>
          Option.bind (loopO (dynposref15_Of_L2 a0 a1 x3) (0, [])) fun x17 => some (true, x3, x10, x17)
noncomputable def c42 : Con D := ⟨42, [.lf (.int .i64), .lf (.sl 4), .lf (.sl 5), .lf (.sl 6), .lf (.int .i64), .lf (.int .i64), .lf (.sl 1), .lf (.sl 8), .lf (.sl 0), .lf (.sl 9), .lf (.int .i64)], [.lf .bool, .lf (.sl 0), .lf (.sl 0), .lf (.sl 0)], [.agg [.h 0 [], .h 1 [0], .h 2 [0], .h 3 [0], .h 4 [], .h 5 []], .agg [.h 6 [0], .h 7 [0], .h 8 [0], .h 9 [0]], .one (.h 10 [])], [], [.agg [.own 1000, .own 1001, .own 1002], .one (.h 0 [])], [(1000, .sl 0 3 1 []), (1001, .sl 0 3 2 []), (1002, .sl 0 3 3 [])], fun h => dynposref15_Of ⟨h.1, h.2.1, h.2.2.1, h.2.2.2.1, h.2.2.2.2.1, h.2.2.2.2.2.1⟩ ⟨h.2.2.2.2.2.2.1, h.2.2.2.2.2.2.2.1, h.2.2.2.2.2.2.2.2.1, h.2.2.2.2.2.2.2.2.2.1⟩ h.2.2.2.2.2.2.2.2.2.2⟩
theorem c42_ok : ConOk Tryz.prog T c42 := fn_ok (Φ := [c47, c49, c50, c56, c64]) (rs := [.cell 6 75, .tmp 7]) (an := (.n none .o (.n none (.n none (.r (some (true, [(.normal, ⟨[.lf .bool], [(28, .one (.h 0 []))], [], [], 2320⟩)])) .nil) .o) (.n none .o (.n none (.n none .o (.n none (.loop ⟨[.lf (.int .i64), .lf (.sl 0)], [(38, .one (.h 0 []))], [(2641, .box [.own 2521, .own 3025, .nils]), (3025, .sl 0 3 1 [])], [2641], 3089⟩ true [(.exit 0, ⟨[.lf (.sl 0)], [], [(2641, .box [.own 2521, .own 3025, .nils]), (3025, .sl 0 3 0 [])], [2641], 3089⟩)] (.n none .o (.n none .o (.n none (.n none (.n none .o (.n none .o (.n none (.r (some (true, [(.normal, ⟨[.lf .bool], [(50, .one (.any)), (51, .one (.any)), (52, .one (.any)), (53, .one (.any)), (54, .one (.h 0 []))], [], [], 3923⟩)])) .nil) (.n (some (true, [(.normal, ⟨[.lf (.sl 0)], [], [(2641, .box [.own 2521, .own 3924, .nils]), (3924, .sl 0 3 0 [])], [2641, 3025], 3988⟩)])) .o .o)))) .o) .o)))) .o)) (.n none (.n none .o (.n none (.loop ⟨[.lf (.int .i64), .lf (.sl 0)], [(65, .one (.h 0 []))], [(2641, .box [.own 2521, .own 3025, .own 3346]), (3346, .sl 0 3 1 [])], [2641], 3410⟩ true [(.exit 2, ⟨[.lf (.sl 0)], [], [(2641, .box [.own 2521, .own 3025, .own 3346]), (3346, .sl 0 3 0 [])], [2641], 3410⟩)] (.n none .o (.n none .o (.n none (.n none (.n none .o (.n none .o (.n none (.r (some (true, [(.normal, ⟨[.lf .bool], [(77, .one (.any)), (78, .one (.any)), (79, .one (.any)), (80, .one (.any)), (81, .one (.h 0 []))], [], [], 4244⟩)])) .nil) (.n (some (true, [(.normal, ⟨[.lf (.sl 0)], [], [(2641, .box [.own 2521, .own 3025, .own 4245]), (4245, .sl 0 3 0 [])], [2641, 3346], 4309⟩)])) .o .o)))) .o) .o)))) .o)) .o)))))) pOk repOk (AllC.mem (⟨c47_ok, c49_ok, c50_ok, c56_ok, c64_ok, trivial⟩ : AllC _ _ [c47, c49, c50, c56, c64])) hmix Tryz.call42 Tryz.func42 rfl rfl (by kernel_rfl) (fun h => by kernel_rfl)

noncomputable def dynposref15_Islands_L1 (a0 : Board) (a1 : Power) : Int × List Island →
  Option
    (Int × List Island ⊕
      List
        Island) := fun x2 =>
  if decide (x2.1 < a0.Buses) = true then
    Option.bind (dynposref15_Of a0 a1 x2.1) fun x3 =>
      Option.bind (idx x3.2.1 0) fun x4 =>
        Option.bind
          (if (x4 == x2.1) = true then
            Option.bind (app x2.2 [Island.mk x3.2.1 x3.2.2.1 x3.2.2.2]) fun x5 => some x5
          else some x2.2)
          fun x6 => some (.inl (W (x2.1 + 1), x6))
  else some (.inr x2.2)
noncomputable def dynposref15_Islands (a0 : Board) (a1 : Power) : Option ((List Island)) :=
  Option.bind (dynposref15_State a0 a1) fun x1 =>
    if (x1 != 0) = true then some []
    else Option.bind (loopO (dynposref15_Islands_L1 a0 a1) (0, [])) fun x7 => some x7
noncomputable def c81 : Con D := ⟨81, [.lf (.int .i64), .lf (.sl 4), .lf (.sl 5), .lf (.sl 6), .lf (.int .i64), .lf (.int .i64), .lf (.sl 1), .lf (.sl 8), .lf (.sl 0), .lf (.sl 9)], [.lf (.sl 11)], [.agg [.h 0 [], .h 1 [0], .h 2 [0], .h 3 [0], .h 4 [], .h 5 []], .agg [.h 6 [0], .h 7 [0], .h 8 [0], .h 9 [0]]], [], [.one (.own 1000)], [(1000, .sl 11 75 0 [1])], fun h => dynposref15_Islands ⟨h.1, h.2.1, h.2.2.1, h.2.2.2.1, h.2.2.2.2.1, h.2.2.2.2.2.1⟩ ⟨h.2.2.2.2.2.2.1, h.2.2.2.2.2.2.2.1, h.2.2.2.2.2.2.2.2.1, h.2.2.2.2.2.2.2.2.2⟩⟩
theorem c81_ok : ConOk Tryz.prog T c81 := fn_ok (Φ := [c42, c47]) (rs := [.tmp 4]) (an := (.n none .o (.n none .o (.n none .o (.n none (.n none .o (.n none (.loop ⟨[.lf (.int .i64), .lf (.sl 11)], [(5, .one (.own 2576)), (6, .one (.h 0 []))], [(2576, .sl 11 75 1 [1])], [], 2640⟩ true [(.exit 0, ⟨[.lf (.sl 11)], [(5, .one (.own 2576))], [(2576, .sl 11 75 0 [1])], [], 2640⟩)] (.n none .o (.n none (.n none (.n none .o (.n none .o (.n (some (true, [(.normal, ⟨[.lf (.sl 11)], [(5, .one (.own 3922))], [(3922, .sl 11 75 0 [1])], [2576, 3098, 3099, 3100], 3986⟩)])) .o .o))) .o) .o))) .o)) .o))))) pOk repOk (AllC.mem (⟨c42_ok, c47_ok, trivial⟩ : AllC _ _ [c42, c47])) hmix Tryz.call81 Tryz.func81 rfl rfl (by kernel_rfl) (fun h => by kernel_rfl)

noncomputable def Src_Odd (a0 : Src) : Option (Int × (List Int) × Int) :=
  Option.bind
    (Src_Pick a0
      [(-1), 0, 1, 4611686018427387904, (-4611686018427387904),
        9223372036854775807, (-9223372036854775808), 1000000000, 1000000001,
        (-1000000001), 3600, 1800, 100000000, 100000001,
        5001])
    fun x1 => some (x1.1, x1.2.1, x1.2.2.1)
noncomputable def c39 : Con D := ⟨39, [.lf (.sl 0), .lf (.int .i64)], [.lf (.int .i64), .lf (.sl 0), .lf (.int .i64)], [.one (.ptr 1000 0)], [(1000, .box [.h 0 [0], .h 1 []])], [.one (.h 0 [])], [(1000, .box [.h 1 [0], .h 2 []])], fun h => Src_Odd ⟨h.1, h.2⟩⟩
theorem c39_ok : ConOk Tryz.prog T c39 := fn_ok (Φ := [c33_1]) (rs := [.tmp 2]) (an := .o) pOk repOk (AllC.mem (⟨c33_1_ok, trivial⟩ : AllC _ _ [c33_1])) hmix Tryz.call39 Tryz.func39 rfl rfl (by kernel_rfl) (fun h => by kernel_rfl)

noncomputable def dynposref16_Leader (a0 : Board) (a1 : Power) (a2 : Int) : Option (Int × Bool) :=
  Option.bind (dynposref15_Of a0 a1 a2) fun x1 =>
    Option.bind (if (!x1.1) = true then some true else some (len x1.2.2.1 == 0)) fun x2 =>
      if x2 = true then some (0, false)
      else Option.bind (idx x1.2.2.1 0) fun x3 => some (x3, true)
noncomputable def c15 : Con D := ⟨15, [.lf (.int .i64), .lf (.sl 4), .lf (.sl 5), .lf (.sl 6), .lf (.int .i64), .lf (.int .i64), .lf (.sl 1), .lf (.sl 8), .lf (.sl 0), .lf (.sl 9), .lf (.int .i64)], [.lf (.int .i64), .lf .bool], [.agg [.h 0 [], .h 1 [0], .h 2 [0], .h 3 [0], .h 4 [], .h 5 []], .agg [.h 6 [0], .h 7 [0], .h 8 [0], .h 9 [0]], .one (.h 10 [])], [], [.one (.h 0 []), .one (.h 1 [])], [], fun h => dynposref16_Leader ⟨h.1, h.2.1, h.2.2.1, h.2.2.2.1, h.2.2.2.2.1, h.2.2.2.2.2.1⟩ ⟨h.2.2.2.2.2.2.1, h.2.2.2.2.2.2.2.1, h.2.2.2.2.2.2.2.2.1, h.2.2.2.2.2.2.2.2.2.1⟩ h.2.2.2.2.2.2.2.2.2.2⟩
theorem c15_ok : ConOk Tryz.prog T c15 := fn_ok (Φ := [c42]) (rs := [.tmp 6, .tmp 7]) (an := (.n none .o (.n none .o (.n none (.n none (.r (some (true, [(.normal, ⟨[.lf .bool], [(24, .one (.h 0 []))], [], [], 2960⟩)])) .nil) .o) .o)))) pOk repOk (AllC.mem (⟨c42_ok, trivial⟩ : AllC _ _ [c42])) hmix Tryz.call15 Tryz.func15 rfl rfl (by kernel_rfl) (fun h => by kernel_rfl)

noncomputable def dynposref15_Broken_L1 (a0 : Power) (a1 : Int) (a2 : Int) : Int →
  Option
    (Int ⊕
      Unit ⊕
        Bool) := fun x1 =>
  if decide (x1 < len a0.Broken) = true then
    Option.bind (idx a0.Broken x1) fun x2 =>
      Option.bind (if (x2.Kind == a1) = true then some (x2.Number == a2) else some false) fun x3 =>
        if x3 = true then some (.inr (.inr true)) else some (.inl (W (x1 + 1)))
  else some (.inr (.inl ()))
noncomputable def dynposref15_Broken (a0 : Power) (a1 : Int) (a2 : Int) : Option (Bool) :=
  Option.bind (loopO (dynposref15_Broken_L1 a0 a1 a2) 0) fun x4 =>
    Sum.elim (fun x5 => some false) (fun x6 => some x6) x4
noncomputable def c48 : Con D := ⟨48, [.lf (.sl 1), .lf (.sl 8), .lf (.sl 0), .lf (.sl 9), .lf (.int .i64), .lf (.int .i64)], [.lf .bool], [.agg [.h 0 [0], .h 1 [0], .h 2 [0], .h 3 [0]], .one (.h 4 []), .one (.h 5 [])], [], [.one (.h 0 [])], [], fun h => dynposref15_Broken ⟨h.1, h.2.1, h.2.2.1, h.2.2.2.1⟩ h.2.2.2.2.1 h.2.2.2.2.2⟩
theorem c48_ok : ConOk Tryz.prog T c48 := fn_ok (Φ := []) (rs := [.tmp 6]) (an := (.n none .o (.n none (.n none .o (.n none (.loop ⟨[.lf (.int .i64)], [(12, .one (.h 0 []))], [], [], 2448⟩ false [(.exit 0, ⟨[], [], [], [], 2448⟩)] (.n none .o (.n none .o (.n none (.n none (.n none .o (.n none (.r (some (true, [(.normal, ⟨[.lf .bool], [(21, .one (.any)), (22, .one (.any)), (23, .one (.any)), (24, .one (.any)), (25, .one (.h 0 []))], [], [], 2833⟩)])) .nil) .o)) .o) .o)))) .o)) .o))) pOk repOk (AllC.mem (l := []) trivial) hmix Tryz.call48 Tryz.func48 rfl rfl (by kernel_rfl) (fun h => by kernel_rfl)

noncomputable def dynposref16_May (a0 : Board) (a1 : Power) (a2 : Int) : Option (Int) :=
  Option.bind (dynposref15_State a0 a1) fun x1 =>
    if (x1 != 0) = true then some x1
    else
      Option.bind (if decide (a2 < 0) = true then some true else some (decide (a2 ≥ len a0.Breakers)))
        fun x2 =>
        if x2 = true then some 10
        else
          Option.bind (idx a0.Breakers a2) fun x3 =>
            Option.bind
              (Option.bind (idx a1.Closed a2) fun x4 =>
                if x4 = true then some true
                else
                  Option.bind (dynposref15_Broken a1 2 a2) fun x5 =>
                    if x5 = true then some true
                    else Option.bind (dynposref15_Broken a1 3 x3.A) fun x6 => some x6)
              fun x7 =>
              if x7 = true then some 11
              else
                Option.bind (dynposref16_Leader a0 a1 x3.A) fun x8 =>
                  Option.bind
                    (if (x3.Kind == 1) = true then
                      Option.bind (dynposref15_Broken a1 3 x3.B) fun x22 =>
                        if x22 = true then some (.inr 11)
                        else
                          Option.bind (dynposref15_Of a0 a1 x3.A) fun x23 =>
                            Option.bind (dynposref16_Leader a0 a1 x3.B) fun x24 =>
                              Option.bind
                                (if x8.2 = true then
                                  if x24.2 = true then
                                    Option.bind (dynposref01_Has x23.2.1 x3.B) fun x25 =>
                                      if (!x25) = true then
                                        Option.bind (idx a1.Sources x8.1) fun x26 =>
                                          Option.bind (idx a1.Sources x24.1) fun x27 =>
                                            Option.bind (dynposref16_Agree a0 x26 x27) fun x28 => some !x28
                                      else some false
                                  else some false
                                else some false)
                                fun x29 =>
                                if x29 = true then some (.inr 12) else some (.inl ())
                    else
                      Option.bind
                        (if (x3.Kind == 2) = true then
                          Option.bind
                            (Option.bind (dynposref15_Broken a1 1 x3.B) fun x12 =>
                              if x12 = true then some true
                              else Option.bind (idx a1.Sources x3.B) fun x13 => some (x13.State != 2))
                            fun x14 =>
                            if x14 = true then some (.inr (.inr 11))
                            else
                              Option.bind
                                (if x8.2 = true then
                                  Option.bind (idx a1.Sources x8.1) fun x15 =>
                                    Option.bind (idx a1.Sources x3.B) fun x16 =>
                                      Option.bind (dynposref16_Agree a0 x15 x16) fun x17 => some !x17
                                else some false)
                                fun x18 =>
                                if x18 = true then some (.inr (.inr 12))
                                else some (.inl ())
                        else
                          Option.bind (dynposref15_Fed a0 a1 x3.B) fun x9 =>
                            Option.bind
                              (if x9.2 = true then some true
                              else Option.bind (dynposref15_Broken a1 4 x3.B) fun x10 => some x10)
                              fun x11 =>
                              if x11 = true then some (.inr (.inr 11)) else some (.inl ()))
                        fun x19 => Sum.elim (fun x20 => some (.inl ())) (fun x21 => some x21) x19)
                    fun x30 => Sum.elim (fun x31 => some 0) (fun x32 => some x32) x30
noncomputable def c17 : Con D := ⟨17, [.lf (.int .i64), .lf (.sl 4), .lf (.sl 5), .lf (.sl 6), .lf (.int .i64), .lf (.int .i64), .lf (.sl 1), .lf (.sl 8), .lf (.sl 0), .lf (.sl 9), .lf (.int .i64)], [.lf (.int .i64)], [.agg [.h 0 [], .h 1 [0], .h 2 [0], .h 3 [0], .h 4 [], .h 5 []], .agg [.h 6 [0], .h 7 [0], .h 8 [0], .h 9 [0]], .one (.h 10 [])], [], [.one (.h 0 [])], [], fun h => dynposref16_May ⟨h.1, h.2.1, h.2.2.1, h.2.2.2.1, h.2.2.2.2.1, h.2.2.2.2.2.1⟩ ⟨h.2.2.2.2.2.2.1, h.2.2.2.2.2.2.2.1, h.2.2.2.2.2.2.2.2.1, h.2.2.2.2.2.2.2.2.2.1⟩ h.2.2.2.2.2.2.2.2.2.2⟩
theorem c17_ok : ConOk Tryz.prog T c17 := fn_ok (Φ := [c10, c15, c42, c47, c48, c49, c50]) (rs := [.tmp 6]) (an := (.n none .o (.n none .o (.n none (.n none (.r (some (true, [(.normal, ⟨[.lf .bool], [(31, .one (.h 0 []))], [], [], 2640⟩)])) .nil) .o) (.n none .o (.n none (.n none (.r (some (true, [(.normal, ⟨[.lf .bool], [(52, .one (.h 0 []))], [], [], 3153⟩)])) .nil) .o) (.n none .o (.n none (.n none .o (.n none (.n none .o (.n (some (false, [(.normal, ⟨[], [], [], [], 4114⟩)])) (.n none .o (.n none .o (.n none .o (.n none (.r (some (true, [(.normal, ⟨[.lf .bool], [(126, .one (.h 0 []))], [], [], 5714⟩)])) .nil) .o)))) (.n none .o (.n (some (false, [(.normal, ⟨[], [], [], [], 4242⟩)])) (.n none (.n none (.r (some (true, [(.normal, ⟨[.lf .bool], [(142, .one (.h 0 []))], [], [], 4242⟩)])) .nil) .o) (.n none (.r (some (true, [(.normal, ⟨[.lf .bool], [(159, .one (.h 0 []))], [], [], 4307⟩)])) .nil) .o)) (.n none .o (.n none (.r (some (true, [(.normal, ⟨[.lf .bool], [(77, .one (.h 0 []))], [], [], 4882⟩)])) .nil) .o)))))) .o)) .o)))))))) pOk repOk (AllC.mem (⟨c10_ok, c15_ok, c42_ok, c47_ok, c48_ok, c49_ok, c50_ok, trivial⟩ : AllC _ _ [c10, c15, c42, c47, c48, c49, c50])) hmix Tryz.call17 Tryz.func17 rfl rfl (by kernel_rfl) (fun h => by kernel_rfl)

noncomputable def dynposref01_Bools_L1 (a0 : List
  Bool) (a1 : List
  Bool) : Int →
  Option
    (Int ⊕
      Unit ⊕
        Bool) := fun x1 =>
  if decide (x1 < len a0) = true then
    Option.bind (idx a0 x1) fun x2 =>
      Option.bind (idx a1 x1) fun x3 =>
        if (!x2 == x3) = true then some (.inr (.inr false)) else some (.inl (W (x1 + 1)))
  else some (.inr (.inl ()))
noncomputable def dynposref01_Bools (a0 : (List Bool)) (a1 : (List Bool)) : Option (Bool) :=
  if (len a0 != len a1) = true then some false
  else
    Option.bind (loopO (dynposref01_Bools_L1 a0 a1) 0) fun x4 =>
      Sum.elim (fun x5 => some true) (fun x6 => some x6) x4
noncomputable def c53 : Con D := ⟨53, [.lf (.sl 1), .lf (.sl 1)], [.lf .bool], [.one (.h 0 [0]), .one (.h 1 [0])], [], [.one (.h 0 [])], [], fun h => dynposref01_Bools h.1 h.2⟩
theorem c53_ok : ConOk Tryz.prog T c53 := fn_ok (Φ := []) (rs := [.tmp 4]) (an := (.n none .o (.n none .o (.n none (.n none .o (.n none (.loop ⟨[.lf (.int .i64)], [(13, .one (.h 0 []))], [], [], 2640⟩ false [(.exit 0, ⟨[], [], [], [], 2640⟩)] .o) .o)) .o)))) pOk repOk (AllC.mem (l := []) trivial) hmix Tryz.call53 Tryz.func53 rfl rfl (by kernel_rfl) (fun h => by kernel_rfl)

noncomputable def dynposref01_Ints_L1 (a0 : List
  Int) (a1 : List
  Int) : Int →
  Option
    (Int ⊕
      Unit ⊕
        Bool) := fun x1 =>
  if decide (x1 < len a0) = true then
    Option.bind (idx a0 x1) fun x2 =>
      Option.bind (idx a1 x1) fun x3 =>
        if (x2 != x3) = true then some (.inr (.inr false)) else some (.inl (W (x1 + 1)))
  else some (.inr (.inl ()))
noncomputable def dynposref01_Ints (a0 : (List Int)) (a1 : (List Int)) : Option (Bool) :=
  if (len a0 != len a1) = true then some false
  else
    Option.bind (loopO (dynposref01_Ints_L1 a0 a1) 0) fun x4 =>
      Sum.elim (fun x5 => some true) (fun x6 => some x6) x4
noncomputable def c54 : Con D := ⟨54, [.lf (.sl 0), .lf (.sl 0)], [.lf .bool], [.one (.h 0 [0]), .one (.h 1 [0])], [], [.one (.h 0 [])], [], fun h => dynposref01_Ints h.1 h.2⟩
theorem c54_ok : ConOk Tryz.prog T c54 := fn_ok (Φ := []) (rs := [.tmp 4]) (an := (.n none .o (.n none .o (.n none (.n none .o (.n none (.loop ⟨[.lf (.int .i64)], [(13, .one (.h 0 []))], [], [], 2640⟩ false [(.exit 0, ⟨[], [], [], [], 2640⟩)] .o) .o)) .o)))) pOk repOk (AllC.mem (l := []) trivial) hmix Tryz.call54 Tryz.func54 rfl rfl (by kernel_rfl) (fun h => by kernel_rfl)

noncomputable def dynposref15_Same_L1 (a0 : Power) (a1 : Power) : Int →
  Option
    (Int ⊕
      Unit ⊕
        Bool) := fun x4 =>
  if decide (x4 < len a0.Sources) = true then
    Option.bind (idx a0.Sources x4) fun x5 =>
      Option.bind (idx a1.Sources x4) fun x6 =>
        if
            (!(x5.State == x6.State &&
                  (x5.Since == x6.Since && (x5.Frequency == x6.Frequency && x5.Phase == x6.Phase)))) =
              true then
          some (.inr (.inr false))
        else some (.inl (W (x4 + 1)))
  else some (.inr (.inl ()))
noncomputable def dynposref15_Same_L2 (a0 : Power) (a1 : Power) : Int →
  Option
    (Int ⊕
      Unit ⊕
        Bool) := fun x9 =>
  if decide (x9 < len a0.Broken) = true then
    Option.bind (idx a0.Broken x9) fun x10 =>
      Option.bind (idx a1.Broken x9) fun x11 =>
        if (!(x10.Kind == x11.Kind && x10.Number == x11.Number)) = true then some (.inr (.inr false))
        else some (.inl (W (x9 + 1)))
  else some (.inr (.inl ()))
noncomputable def dynposref15_Same (a0 : Power) (a1 : Power) : Option (Bool) :=
  Option.bind
    (Option.bind (dynposref01_Bools a0.Closed a1.Closed) fun x1 =>
      if (!x1) = true then some true
      else
        Option.bind (dynposref01_Ints a0.Limits a1.Limits) fun x2 =>
          if (!x2) = true then some true
          else if (len a0.Sources != len a1.Sources) = true then some true else some (len a0.Broken != len a1.Broken))
    fun x3 =>
    if x3 = true then some false
    else
      Option.bind (loopO (dynposref15_Same_L1 a0 a1) 0) fun x7 =>
        Sum.elim
          (fun x8 =>
            Option.bind (loopO (dynposref15_Same_L2 a0 a1) 0) fun x12 =>
              Sum.elim (fun x13 => some true) (fun x14 => some x14) x12)
          (fun x15 => some x15) x7
noncomputable def c20 : Con D := ⟨20, [.lf (.sl 1), .lf (.sl 8), .lf (.sl 0), .lf (.sl 9), .lf (.sl 1), .lf (.sl 8), .lf (.sl 0), .lf (.sl 9)], [.lf .bool], [.agg [.h 0 [0], .h 1 [0], .h 2 [0], .h 3 [0]], .agg [.h 4 [0], .h 5 [0], .h 6 [0], .h 7 [0]]], [], [.one (.h 0 [])], [], fun h => dynposref15_Same ⟨h.1, h.2.1, h.2.2.1, h.2.2.2.1⟩ ⟨h.2.2.2.2.1, h.2.2.2.2.2.1, h.2.2.2.2.2.2.1, h.2.2.2.2.2.2.2⟩⟩
theorem c20_ok : ConOk Tryz.prog T c20 := fn_ok (Φ := [c53, c54]) (rs := [.tmp 4]) (an := (.n none .o (.n none (.n none (.r (some (true, [(.normal, ⟨[.lf .bool], [(38, .one (.h 0 []))], [], [], 2256⟩)])) .nil) .o) (.n none (.n none .o (.n none (.loop ⟨[.lf (.int .i64)], [(42, .one (.h 0 []))], [], [], 2577⟩ false [(.exit 0, ⟨[], [], [], [], 2577⟩)] .o) .o)) (.n none (.n none .o (.n none (.loop ⟨[.lf (.int .i64)], [(60, .one (.h 0 []))], [], [], 2897⟩ false [(.exit 2, ⟨[], [], [], [], 2897⟩)] .o) .o)) .o))))) pOk repOk (AllC.mem (⟨c53_ok, c54_ok, trivial⟩ : AllC _ _ [c53, c54])) hmix Tryz.call20 Tryz.func20 rfl rfl (by kernel_rfl) (fun h => by kernel_rfl)

noncomputable def dynposref16_Bad_L2 (a0 : Board) (a1 : Power) (a2 : Power) (x4 : Int) : Int →
  Option
    (Int ⊕
      Unit ⊕
        Int ⊕
          Unit ⊕
            Bool) := fun x5 =>
  if decide (x5 < x4) = true then
    Option.bind
      (Option.bind (dynposref15_Connected a0 a1 x4) fun x6 =>
        Option.bind (dynposref15_Connected a0 a1 x5) fun x7 =>
          Option.bind (dynposref15_Connected a0 a2 x4) fun x8 =>
            Option.bind (dynposref15_Connected a0 a2 x5) fun x9 =>
              Option.bind (if (!x8.2) = true then some true else some !x9.2) fun x10 =>
                if x10 = true then some (.inl ())
                else
                  Option.bind (dynposref15_Of a0 a2 x8.1) fun x11 =>
                    Option.bind (dynposref01_Has x11.2.1 x9.1) fun x12 =>
                      if (!x12) = true then some (.inl ())
                      else
                        Option.bind (if x6.2 = true then some x7.2 else some false) fun x13 =>
                          Option.bind
                            (if x13 = true then
                              Option.bind (dynposref15_Of a0 a1 x6.1) fun x14 =>
                                Option.bind (dynposref01_Has x14.2.1 x7.1) fun x15 =>
                                  if x15 = true then some (.inr (.inl ())) else some (.inl ())
                            else some (.inl ()))
                            fun x16 =>
                            Sum.elim
                              (fun x17 =>
                                Option.bind (idx a1.Sources x4) fun x18 =>
                                  Option.bind (idx a1.Sources x5) fun x19 =>
                                    Option.bind (dynposref16_Agree a0 x18 x19) fun x20 =>
                                      if (!x20) = true then some (.inr (.inr (.inr (.inr (.inr true)))))
                                      else some (.inl ()))
                              (fun x21 => some x21) x16)
      fun x22 => Sum.elim (fun x23 => some (.inl (W (x5 + 1)))) (fun x24 => some x24) x22
  else some (.inr (.inl ()))
noncomputable def dynposref16_Bad_L1 (a0 : Board) (a1 : Power) (a2 : Power) : Int →
  Option
    (Int ⊕
      Unit ⊕
        Bool) := fun x4 =>
  if decide (x4 < len a0.Sources) = true then
    Option.bind (loopO (dynposref16_Bad_L2 a0 a1 a2 x4) 0) fun x25 =>
      Sum.elim (fun x26 => some (.inl (W (x4 + 1)))) (fun x27 => some x27) x25
  else some (.inr (.inl ()))
noncomputable def dynposref16_Bad (a0 : Board) (a1 : Power) (a2 : Power) : Option (Bool) :=
  Option.bind
    (Option.bind (dynposref15_State a0 a1) fun x1 =>
      if (x1 != 0) = true then some true
      else Option.bind (dynposref15_State a0 a2) fun x2 => some (x2 != 0))
    fun x3 =>
    if x3 = true then some false
    else
      Option.bind (loopO (dynposref16_Bad_L1 a0 a1 a2) 0) fun x28 =>
        Sum.elim (fun x29 => some false) (fun x30 => some x30) x28
noncomputable def c22 : Con D := ⟨22, [.lf (.int .i64), .lf (.sl 4), .lf (.sl 5), .lf (.sl 6), .lf (.int .i64), .lf (.int .i64), .lf (.sl 1), .lf (.sl 8), .lf (.sl 0), .lf (.sl 9), .lf (.sl 1), .lf (.sl 8), .lf (.sl 0), .lf (.sl 9)], [.lf .bool], [.agg [.h 0 [], .h 1 [0], .h 2 [0], .h 3 [0], .h 4 [], .h 5 []], .agg [.h 6 [0], .h 7 [0], .h 8 [0], .h 9 [0]], .agg [.h 10 [0], .h 11 [0], .h 12 [0], .h 13 [0]]], [], [.one (.h 0 [])], [], fun h => dynposref16_Bad ⟨h.1, h.2.1, h.2.2.1, h.2.2.2.1, h.2.2.2.2.1, h.2.2.2.2.2.1⟩ ⟨h.2.2.2.2.2.2.1, h.2.2.2.2.2.2.2.1, h.2.2.2.2.2.2.2.2.1, h.2.2.2.2.2.2.2.2.2.1⟩ ⟨h.2.2.2.2.2.2.2.2.2.2.1, h.2.2.2.2.2.2.2.2.2.2.2.1, h.2.2.2.2.2.2.2.2.2.2.2.2.1, h.2.2.2.2.2.2.2.2.2.2.2.2.2⟩⟩
theorem c22_ok : ConOk Tryz.prog T c22 := fn_ok (Φ := [c10, c42, c47, c49, c56]) (rs := [.tmp 6]) (an := (.n none .o (.n none (.n none (.r (some (true, [(.normal, ⟨[.lf .bool], [(30, .one (.h 0 []))], [], [], 2320⟩)])) .nil) .o) (.n none (.n none .o (.n none (.loop ⟨[.lf (.int .i64)], [(34, .one (.h 0 []))], [], [], 2641⟩ false [(.exit 0, ⟨[], [], [], [], 2641⟩)] (.n none .o (.n none .o (.n none (.n none (.n none .o (.n none .o (.n none (.loop ⟨[.lf (.int .i64)], [(8, .one (.h 0 []))], [], [], 2962⟩ false [(.exit 2, ⟨[], [], [], [], 2962⟩)] (.n none .o (.n none (.n (some (false, [(.normal, ⟨[], [(73, .one (.any)), (74, .one (.any))], [], [], 3219⟩)])) (.n none .o (.n none .o (.n none .o (.n none .o (.n none (.n none (.r (some (true, [(.normal, ⟨[.lf .bool], [(73, .one (.any)), (74, .one (.any)), (75, .one (.h 0 []))], [], [], 5523⟩)])) .nil) .o) (.n none .o (.n none .o (.n none (.n none (.r (some (true, [(.normal, ⟨[.lf .bool], [(90, .one (.any)), (91, .one (.h 0 []))], [], [], 6548⟩)])) .nil) (.n (some (false, [(.normal, ⟨[], [], [], [], 6613⟩)])) .o .o)) .o)))))))) .o) .o))) .o))) .o) .o)))) .o)) .o)))) pOk repOk (AllC.mem (⟨c10_ok, c42_ok, c47_ok, c49_ok, c56_ok, trivial⟩ : AllC _ _ [c10, c42, c47, c49, c56])) hmix Tryz.call22 Tryz.func22 rfl rfl (by kernel_rfl) (fun h => by kernel_rfl)

noncomputable def sync_Open (a0 : Board) (a1 : Power) (a2 : Int) : Option (Int × (List Bool) × (List Running) × (List Int) × (List Part)) :=
  Option.bind (board_State a0 a1) fun x1 =>
    if (x1 != 0) = true then some (x1, [], [], [], [])
    else
      Option.bind (if decide (a2 < 0) = true then some true else some (decide (a2 ≥ len a0.Breakers)))
        fun x2 =>
        if x2 = true then some (10, [], [], [], [])
        else
          Option.bind
            (Option.bind (idx a1.Closed a2) fun x3 =>
              if (!x3) = true then some true else Option.bind (board_Broken a1 2 a2) fun x4 => some x4)
            fun x5 =>
            if x5 = true then some (11, [], [], [], [])
            else
              Option.bind (states_Clone a1) fun x6 =>
                Option.bind (idx x6.1 a2) fun x7 =>
                  Option.bind (idx x6.1 a2) fun x8 =>
                    Option.bind (setO x6.1 a2 false) fun x9 =>
                      some (0, x9, x6.2.1, x6.2.2.1, x6.2.2.2)
noncomputable def c23 : Con D := ⟨23, [.lf (.int .i64), .lf (.sl 4), .lf (.sl 5), .lf (.sl 6), .lf (.int .i64), .lf (.int .i64), .lf (.sl 1), .lf (.sl 8), .lf (.sl 0), .lf (.sl 9), .lf (.int .i64)], [.lf (.int .i64), .lf (.sl 1), .lf (.sl 8), .lf (.sl 0), .lf (.sl 9)], [.agg [.h 0 [], .h 1 [0], .h 2 [0], .h 3 [0], .h 4 [], .h 5 []], .agg [.h 6 [0], .h 7 [0], .h 8 [0], .h 9 [0]], .one (.h 10 [])], [], [.agg [.own 1000, .own 1001, .own 1002, .own 1003], .one (.h 0 [])], [(1000, .sl 1 4 1 []), (1001, .sl 8 34 2 []), (1002, .sl 0 3 3 []), (1003, .sl 9 70 4 [])], fun h => sync_Open ⟨h.1, h.2.1, h.2.2.1, h.2.2.2.1, h.2.2.2.2.1, h.2.2.2.2.2.1⟩ ⟨h.2.2.2.2.2.2.1, h.2.2.2.2.2.2.2.1, h.2.2.2.2.2.2.2.2.1, h.2.2.2.2.2.2.2.2.2.1⟩ h.2.2.2.2.2.2.2.2.2.2⟩
theorem c23_ok : ConOk Tryz.prog T c23 := fn_ok (Φ := [c43, c51, c57]) (rs := [.cell 6 32, .tmp 7]) (an := (.n none .o (.n none (.n none .o (.n none (.n none .o (.n none .o (.n none (.r (some (true, [(.normal, ⟨[.lf .bool], [(18, .one (.h 0 []))], [], [], 2768⟩)])) .nil) (.n none .o (.n none (.r (some (true, [(.normal, ⟨[.lf .bool], [(29, .one (.h 0 []))], [], [], 2833⟩)])) .nil) .o))))) .o)) .o))) pOk repOk (AllC.mem (⟨c43_ok, c51_ok, c57_ok, trivial⟩ : AllC _ _ [c43, c51, c57])) hmix Tryz.call23 Tryz.func23 rfl rfl (by kernel_rfl) (fun h => by kernel_rfl)

noncomputable def sync_Turn_L1 (a1 : Power) : Int × List Running →
  Option
    (Int × List Running ⊕
      List
        Running) := fun x3 =>
  if decide (x3.1 < len a1.Sources) = true then
    Option.bind (idx a1.Sources x3.1) fun x4 =>
      Option.bind
        (if (x4.State == 2) = true then
          Option.bind (angle_Norm (W (x4.Phase + W (36 * W (x4.Frequency - 5000))))) fun x5 =>
            Option.bind (idx x3.2 x3.1) fun x6 =>
              Option.bind (idx x3.2 x3.1) fun x7 =>
                Option.bind (setO x3.2 x3.1 (Running.mk x7.State x7.Since x7.Frequency x5)) fun x8 => some x8
        else some x3.2)
        fun x9 => some (.inl (W (x3.1 + 1), x9))
  else some (.inr x3.2)
noncomputable def sync_Turn (a0 : Board) (a1 : Power) : Option (Int × (List Bool) × (List Running) × (List Int) × (List Part)) :=
  Option.bind (board_State a0 a1) fun x1 =>
    if (x1 != 0) = true then some (x1, [], [], [], [])
    else
      Option.bind (states_Clone a1) fun x2 =>
        Option.bind (loopO (sync_Turn_L1 a1) (0, x2.2.1)) fun x10 =>
          some (0, x2.1, x10, x2.2.2.1, x2.2.2.2)
noncomputable def c29 : Con D := ⟨29, [.lf (.int .i64), .lf (.sl 4), .lf (.sl 5), .lf (.sl 6), .lf (.int .i64), .lf (.int .i64), .lf (.sl 1), .lf (.sl 8), .lf (.sl 0), .lf (.sl 9)], [.lf (.int .i64), .lf (.sl 1), .lf (.sl 8), .lf (.sl 0), .lf (.sl 9)], [.agg [.h 0 [], .h 1 [0], .h 2 [0], .h 3 [0], .h 4 [], .h 5 []], .agg [.h 6 [0], .h 7 [0], .h 8 [0], .h 9 [0]]], [], [.agg [.own 1000, .own 1001, .own 1002, .own 1003], .one (.h 0 [])], [(1000, .sl 1 4 1 []), (1001, .sl 8 34 2 []), (1002, .sl 0 3 3 []), (1003, .sl 9 70 4 [])], fun h => sync_Turn ⟨h.1, h.2.1, h.2.2.1, h.2.2.2.1, h.2.2.2.2.1, h.2.2.2.2.2.1⟩ ⟨h.2.2.2.2.2.2.1, h.2.2.2.2.2.2.2.1, h.2.2.2.2.2.2.2.2.1, h.2.2.2.2.2.2.2.2.2⟩⟩
theorem c29_ok : ConOk Tryz.prog T c29 := fn_ok (Φ := [c43, c51, c61]) (rs := [.cell 4 32, .tmp 5]) (an := (.n none .o (.n none .o (.n none .o (.n none (.n none .o (.n none (.loop ⟨[.lf (.int .i64), .lf (.sl 8)], [(22, .one (.h 0 []))], [(2713, .sl 8 34 1 [])], [2713], 3216⟩ true [(.exit 0, ⟨[.lf (.sl 8)], [], [(2713, .sl 8 34 0 [])], [2713], 3216⟩)] (.n none .o (.n none .o (.n none (.n none (.n none .o (.n none .o (.n (some (true, [(.normal, ⟨[.lf (.sl 8)], [], [(2713, .sl 8 34 0 [])], [2713], 3922⟩)])) .o .o))) .o) .o)))) .o)) .o))))) pOk repOk (AllC.mem (⟨c43_ok, c51_ok, c61_ok, trivial⟩ : AllC _ _ [c43, c51, c61])) hmix Tryz.call29 Tryz.func29 rfl rfl (by kernel_rfl) (fun h => by kernel_rfl)

noncomputable def dynposref15_CopyV (a0 : Power) : Option ((List Bool) × (List Running) × (List Int) × (List Part) × (List Bool) × (List Running) × (List Int) × (List Part)) :=
  Option.bind (app [] a0.Closed) fun x1 =>
    Option.bind (app [] a0.Sources) fun x2 =>
      Option.bind (app [] a0.Limits) fun x3 =>
        Option.bind (app [] a0.Broken) fun x4 => some (a0.Closed, a0.Sources, a0.Limits, a0.Broken, x1, x2, x3, x4)
noncomputable def c37_1 : Con D := ⟨37, [.lf (.sl 1), .lf (.sl 8), .lf (.sl 0), .lf (.sl 9)], [.lf (.sl 1), .lf (.sl 8), .lf (.sl 0), .lf (.sl 9), .lf (.sl 1), .lf (.sl 8), .lf (.sl 0), .lf (.sl 9)], [.agg [.own 1000, .own 1001, .own 1002, .own 1003]], [(1000, .sl 1 4 0 [0]), (1001, .sl 8 34 1 [0]), (1002, .sl 0 3 2 [0]), (1003, .sl 9 70 3 [0])], [.agg [.own 1004, .own 1005, .own 1006, .own 1007]], [(1000, .sl 1 4 0 [0]), (1001, .sl 8 34 1 [0]), (1002, .sl 0 3 2 [0]), (1003, .sl 9 70 3 [0]), (1004, .sl 1 4 4 [0]), (1005, .sl 8 34 5 [0]), (1006, .sl 0 3 6 [0]), (1007, .sl 9 70 7 [0])], fun h => dynposref15_CopyV ⟨h.1, h.2.1, h.2.2.1, h.2.2.2⟩⟩
theorem c37_1_ok : ConOk Tryz.prog T c37_1 := fn_ok (Φ := []) (rs := [.cell 2 32]) (an := .o) pOk repOk (AllC.mem (l := []) trivial) hmix Tryz.call37 Tryz.func37 rfl rfl (by kernel_rfl) (fun h => by kernel_rfl)

noncomputable def dynposref16_follow_L2 (x1 : List Bool ×
  List Running ×
    List Int ×
      List Part ×
        List Bool ×
          List Running ×
            List Int ×
              List
                Part) (x4 : Island) : Int × List Running →
  Option
    (Int × List Running ⊕
      List
        Running) := fun x5 =>
  if decide (x5.1 < len x4.Sources) = true then
    Option.bind (idx x4.Sources x5.1) fun x6 =>
      Option.bind (idx x4.Sources 0) fun x7 =>
        Option.bind (idx x1.2.1 x7) fun x8 =>
          Option.bind (idx x4.Sources 0) fun x9 =>
            Option.bind (idx x1.2.1 x9) fun x10 =>
              Option.bind (idx x5.2 x6) fun x11 =>
                Option.bind (idx x5.2 x6) fun x12 =>
                  Option.bind (setO x5.2 x6 (Running.mk x12.State x12.Since x8.Frequency x12.Phase)) fun x13 =>
                    Option.bind (idx x13 x6) fun x14 =>
                      Option.bind (idx x13 x6) fun x15 =>
                        Option.bind (setO x13 x6 (Running.mk x15.State x15.Since x15.Frequency x10.Phase)) fun x16 =>
                          some (.inl (W (x5.1 + 1), x16))
  else some (.inr x5.2)
noncomputable def dynposref16_follow_L1 (x1 : List Bool ×
  List Running ×
    List Int ×
      List Part ×
        List Bool ×
          List Running ×
            List Int ×
              List
                Part) (x2 : List
  Island) : Int × List Running →
  Option
    (Int × List Running ⊕
      List
        Running) := fun x3 =>
  if decide (x3.1 < len x2) = true then
    Option.bind (idx x2 x3.1) fun x4 =>
      Option.bind (loopO (dynposref16_follow_L2 x1 x4) (0, x3.2)) fun x17 =>
        some (.inl (W (x3.1 + 1), x17))
  else some (.inr x3.2)
noncomputable def dynposref16_follow (a0 : Board) (a1 : Power) : Option ((List Bool) × (List Running) × (List Int) × (List Part) × (List Bool) × (List Running) × (List Int) × (List Part)) :=
  Option.bind (dynposref15_CopyV a1) fun x1 =>
    Option.bind (dynposref15_Islands a0 (Power.mk x1.1 x1.2.1 x1.2.2.1 x1.2.2.2.1)) fun x2 =>
      Option.bind (loopO (dynposref16_follow_L1 x1 x2) (0, x1.2.2.2.2.2.1)) fun x18 =>
        some
          (x1.1, x1.2.1, x1.2.2.1, x1.2.2.2.1, x1.2.2.2.2.1, x18,
            x1.2.2.2.2.2.2.1, x1.2.2.2.2.2.2.2)
noncomputable def c52_1 : Con D := ⟨52, [.lf (.int .i64), .lf (.sl 4), .lf (.sl 5), .lf (.sl 6), .lf (.int .i64), .lf (.int .i64), .lf (.sl 1), .lf (.sl 8), .lf (.sl 0), .lf (.sl 9)], [.lf (.sl 1), .lf (.sl 8), .lf (.sl 0), .lf (.sl 9), .lf (.sl 1), .lf (.sl 8), .lf (.sl 0), .lf (.sl 9)], [.agg [.h 0 [], .h 1 [0], .h 2 [0], .h 3 [0], .h 4 [], .h 5 []], .agg [.own 1000, .own 1001, .own 1002, .own 1003]], [(1000, .sl 1 4 6 [0]), (1001, .sl 8 34 7 [0]), (1002, .sl 0 3 8 [0]), (1003, .sl 9 70 9 [0])], [.agg [.own 1004, .own 1005, .own 1006, .own 1007]], [(1000, .sl 1 4 0 [0]), (1001, .sl 8 34 1 [0]), (1002, .sl 0 3 2 [0]), (1003, .sl 9 70 3 [0]), (1004, .sl 1 4 4 [0]), (1005, .sl 8 34 5 [0]), (1006, .sl 0 3 6 [0]), (1007, .sl 9 70 7 [0])], fun h => dynposref16_follow ⟨h.1, h.2.1, h.2.2.1, h.2.2.2.1, h.2.2.2.2.1, h.2.2.2.2.2.1⟩ ⟨h.2.2.2.2.2.2.1, h.2.2.2.2.2.2.2.1, h.2.2.2.2.2.2.2.2.1, h.2.2.2.2.2.2.2.2.2⟩⟩
theorem c52_1_ok : ConOk Tryz.prog T c52_1 := fn_ok (Φ := [c37_1, c81]) (rs := [.cell 4 32]) (an := (.n none .o (.n none .o (.n none (.n none .o (.n none (.loop ⟨[.lf (.int .i64), .lf (.sl 8)], [(16, .one (.h 0 []))], [(2265, .sl 8 34 1 [0])], [2265], 2832⟩ true [(.exit 0, ⟨[.lf (.sl 8)], [], [(2265, .sl 8 34 0 [0])], [2265], 2832⟩)] (.n none .o (.n none .o (.n none (.n none (.n none .o (.n none .o (.n none (.loop ⟨[.lf (.int .i64), .lf (.sl 8)], [(23, .one (.h 0 []))], [(2265, .sl 8 34 1 [0])], [2265], 3474⟩ true [(.exit 2, ⟨[.lf (.sl 8)], [], [(2265, .sl 8 34 0 [0])], [2265], 3474⟩)] .o) .o))) .o) .o)))) .o)) .o)))) pOk repOk (AllC.mem (⟨c37_1_ok, c81_ok, trivial⟩ : AllC _ _ [c37_1, c81])) hmix Tryz.call52 Tryz.func52 rfl rfl (by kernel_rfl) (fun h => by kernel_rfl)

noncomputable def dynposref16_FollowV (a0 : Board) (a1 : Power) : Option (Int × (List Bool) × (List Running) × (List Int) × (List Part) × (List Bool) × (List Running) × (List Int) × (List Part)) :=
  Option.bind (dynposref15_State a0 a1) fun x1 =>
    if (x1 != 0) = true then some (x1, a1.Closed, a1.Sources, a1.Limits, a1.Broken, [], [], [], [])
    else
      Option.bind (dynposref16_follow a0 a1) fun x2 =>
        some
          (0, x2.1, x2.2.1, x2.2.2.1, x2.2.2.2.1, x2.2.2.2.2.1,
            x2.2.2.2.2.2.1, x2.2.2.2.2.2.2.1, x2.2.2.2.2.2.2.2)
noncomputable def c28_1 : Con D := ⟨28, [.lf (.int .i64), .lf (.sl 4), .lf (.sl 5), .lf (.sl 6), .lf (.int .i64), .lf (.int .i64), .lf (.sl 1), .lf (.sl 8), .lf (.sl 0), .lf (.sl 9)], [.lf (.int .i64), .lf (.sl 1), .lf (.sl 8), .lf (.sl 0), .lf (.sl 9), .lf (.sl 1), .lf (.sl 8), .lf (.sl 0), .lf (.sl 9)], [.agg [.h 0 [], .h 1 [0], .h 2 [0], .h 3 [0], .h 4 [], .h 5 []], .agg [.own 1000, .own 1001, .own 1002, .own 1003]], [(1000, .sl 1 4 6 [0]), (1001, .sl 8 34 7 [0]), (1002, .sl 0 3 8 [0]), (1003, .sl 9 70 9 [0])], [.agg [.own 1004, .own 1005, .own 1006, .own 1007], .one (.h 0 [])], [(1000, .sl 1 4 1 [0]), (1001, .sl 8 34 2 [0]), (1002, .sl 0 3 3 [0]), (1003, .sl 9 70 4 [0]), (1004, .sl 1 4 5 [0]), (1005, .sl 8 34 6 [0]), (1006, .sl 0 3 7 [0]), (1007, .sl 9 70 8 [0])], fun h => dynposref16_FollowV ⟨h.1, h.2.1, h.2.2.1, h.2.2.2.1, h.2.2.2.2.1, h.2.2.2.2.2.1⟩ ⟨h.2.2.2.2.2.2.1, h.2.2.2.2.2.2.2.1, h.2.2.2.2.2.2.2.2.1, h.2.2.2.2.2.2.2.2.2⟩⟩
theorem c28_1_ok : ConOk Tryz.prog T c28_1 := fn_ok (Φ := [c47, c52_1]) (rs := [.cell 4 32, .tmp 5]) (an := .o) pOk repOk (AllC.mem (⟨c47_ok, c52_1_ok, trivial⟩ : AllC _ _ [c47, c52_1])) hmix Tryz.call28 Tryz.func28 rfl rfl (by kernel_rfl) (fun h => by kernel_rfl)

noncomputable def Src_FollowedB (a0 : Src) (a1 : Board) : Option ((List Int) × Int × (List Bool) × (List Running) × (List Int) × (List Part)) :=
  Option.bind (Src_PowerS a0 a1) fun x1 =>
    Option.bind
      (dynposref16_FollowV a1
        (Power.mk x1.2.2.1 x1.2.2.2.1 x1.2.2.2.2.1 x1.2.2.2.2.2))
      fun x2 =>
      some
        (x1.1, x1.2.1, x2.2.2.2.2.2.1, x2.2.2.2.2.2.2.1,
          x2.2.2.2.2.2.2.2.1, x2.2.2.2.2.2.2.2.2)
noncomputable def c11 : Con D := ⟨11, [.lf (.sl 0), .lf (.int .i64), .lf (.int .i64), .lf (.sl 4), .lf (.sl 5), .lf (.sl 6), .lf (.int .i64), .lf (.int .i64)], [.lf (.sl 0), .lf (.int .i64), .lf (.sl 1), .lf (.sl 8), .lf (.sl 0), .lf (.sl 9)], [.one (.ptr 1000 0), .agg [.h 2 [], .h 3 [0], .h 4 [0], .h 5 [0], .h 6 [], .h 7 []]], [(1000, .box [.h 0 [0], .h 1 []])], [.agg [.own 1001, .own 1002, .own 1003, .own 1004]], [(1000, .box [.h 0 [0], .h 1 []]), (1001, .sl 1 4 2 [0]), (1002, .sl 8 34 3 [0]), (1003, .sl 0 3 4 [0]), (1004, .sl 9 70 5 [0])], fun h => Src_FollowedB ⟨h.1, h.2.1⟩ ⟨h.2.2.1, h.2.2.2.1, h.2.2.2.2.1, h.2.2.2.2.2.1, h.2.2.2.2.2.2.1, h.2.2.2.2.2.2.2⟩⟩
theorem c11_ok : ConOk Tryz.prog T c11 := fn_ok (Φ := [c8, c28_1]) (rs := [.cell 4 32]) (an := .o) pOk repOk (AllC.mem (⟨c8_ok, c28_1_ok, trivial⟩ : AllC _ _ [c8, c28_1])) hmix Tryz.call11 Tryz.func11 rfl rfl (by kernel_rfl) (fun h => by kernel_rfl)

noncomputable def dynposref15_Copy (a0 : Power) : Option ((List Bool) × (List Running) × (List Int) × (List Part)) :=
  Option.bind (app [] a0.Closed) fun x1 =>
    Option.bind (app [] a0.Sources) fun x2 =>
      Option.bind (app [] a0.Limits) fun x3 => Option.bind (app [] a0.Broken) fun x4 => some (x1, x2, x3, x4)
noncomputable def c37 : Con D := ⟨37, [.lf (.sl 1), .lf (.sl 8), .lf (.sl 0), .lf (.sl 9)], [.lf (.sl 1), .lf (.sl 8), .lf (.sl 0), .lf (.sl 9)], [.agg [.h 0 [0], .h 1 [0], .h 2 [0], .h 3 [0]]], [], [.agg [.own 1000, .own 1001, .own 1002, .own 1003]], [(1000, .sl 1 4 0 [0]), (1001, .sl 8 34 1 [0]), (1002, .sl 0 3 2 [0]), (1003, .sl 9 70 3 [0])], fun h => dynposref15_Copy ⟨h.1, h.2.1, h.2.2.1, h.2.2.2⟩⟩
theorem c37_ok : ConOk Tryz.prog T c37 := fn_ok (Φ := []) (rs := [.cell 2 32]) (an := .o) pOk repOk (AllC.mem (l := []) trivial) hmix Tryz.call37 Tryz.func37 rfl rfl (by kernel_rfl) (fun h => by kernel_rfl)

noncomputable def dynposref16_Close (a0 : Board) (a1 : Power) (a2 : Int) : Option (Int × (List Bool) × (List Running) × (List Int) × (List Part)) :=
  Option.bind (dynposref16_May a0 a1 a2) fun x1 =>
    if (x1 != 0) = true then some (x1, [], [], [], [])
    else
      Option.bind (dynposref15_Copy a1) fun x2 =>
        Option.bind (idx x2.1 a2) fun x3 =>
          Option.bind (idx x2.1 a2) fun x4 =>
            Option.bind (setO x2.1 a2 true) fun x5 =>
              Option.bind (dynposref16_follow a0 (Power.mk x5 x2.2.1 x2.2.2.1 x2.2.2.2)) fun x6 =>
                some
                  (0, x6.2.2.2.2.1, x6.2.2.2.2.2.1, x6.2.2.2.2.2.2.1,
                    x6.2.2.2.2.2.2.2)
noncomputable def c19 : Con D := ⟨19, [.lf (.int .i64), .lf (.sl 4), .lf (.sl 5), .lf (.sl 6), .lf (.int .i64), .lf (.int .i64), .lf (.sl 1), .lf (.sl 8), .lf (.sl 0), .lf (.sl 9), .lf (.int .i64)], [.lf (.int .i64), .lf (.sl 1), .lf (.sl 8), .lf (.sl 0), .lf (.sl 9)], [.agg [.h 0 [], .h 1 [0], .h 2 [0], .h 3 [0], .h 4 [], .h 5 []], .agg [.h 6 [0], .h 7 [0], .h 8 [0], .h 9 [0]], .one (.h 10 [])], [], [.agg [.own 1000, .own 1001, .own 1002, .own 1003], .one (.h 0 [])], [(1000, .sl 1 4 1 [0]), (1001, .sl 8 34 2 [0]), (1002, .sl 0 3 3 [0]), (1003, .sl 9 70 4 [0])], fun h => dynposref16_Close ⟨h.1, h.2.1, h.2.2.1, h.2.2.2.1, h.2.2.2.2.1, h.2.2.2.2.2.1⟩ ⟨h.2.2.2.2.2.2.1, h.2.2.2.2.2.2.2.1, h.2.2.2.2.2.2.2.2.1, h.2.2.2.2.2.2.2.2.2.1⟩ h.2.2.2.2.2.2.2.2.2.2⟩
theorem c19_ok : ConOk Tryz.prog T c19 := fn_ok (Φ := [c17, c37, c52_1]) (rs := [.cell 6 32, .tmp 7]) (an := .o) pOk repOk (AllC.mem (⟨c17_ok, c37_ok, c52_1_ok, trivial⟩ : AllC _ _ [c17, c37, c52_1])) hmix Tryz.call19 Tryz.func19 rfl rfl (by kernel_rfl) (fun h => by kernel_rfl)

noncomputable def dynposref16_Open (a0 : Board) (a1 : Power) (a2 : Int) : Option (Int × (List Bool) × (List Running) × (List Int) × (List Part)) :=
  Option.bind (dynposref15_State a0 a1) fun x1 =>
    if (x1 != 0) = true then some (x1, [], [], [], [])
    else
      Option.bind (if decide (a2 < 0) = true then some true else some (decide (a2 ≥ len a0.Breakers)))
        fun x2 =>
        if x2 = true then some (10, [], [], [], [])
        else
          Option.bind
            (Option.bind (idx a1.Closed a2) fun x3 =>
              if (!x3) = true then some true
              else Option.bind (dynposref15_Broken a1 2 a2) fun x4 => some x4)
            fun x5 =>
            if x5 = true then some (11, [], [], [], [])
            else
              Option.bind (dynposref15_Copy a1) fun x6 =>
                Option.bind (idx x6.1 a2) fun x7 =>
                  Option.bind (idx x6.1 a2) fun x8 =>
                    Option.bind (setO x6.1 a2 false) fun x9 =>
                      some (0, x9, x6.2.1, x6.2.2.1, x6.2.2.2)
noncomputable def c24 : Con D := ⟨24, [.lf (.int .i64), .lf (.sl 4), .lf (.sl 5), .lf (.sl 6), .lf (.int .i64), .lf (.int .i64), .lf (.sl 1), .lf (.sl 8), .lf (.sl 0), .lf (.sl 9), .lf (.int .i64)], [.lf (.int .i64), .lf (.sl 1), .lf (.sl 8), .lf (.sl 0), .lf (.sl 9)], [.agg [.h 0 [], .h 1 [0], .h 2 [0], .h 3 [0], .h 4 [], .h 5 []], .agg [.h 6 [0], .h 7 [0], .h 8 [0], .h 9 [0]], .one (.h 10 [])], [], [.agg [.own 1000, .own 1001, .own 1002, .own 1003], .one (.h 0 [])], [(1000, .sl 1 4 1 [0]), (1001, .sl 8 34 2 [0]), (1002, .sl 0 3 3 [0]), (1003, .sl 9 70 4 [0])], fun h => dynposref16_Open ⟨h.1, h.2.1, h.2.2.1, h.2.2.2.1, h.2.2.2.2.1, h.2.2.2.2.2.1⟩ ⟨h.2.2.2.2.2.2.1, h.2.2.2.2.2.2.2.1, h.2.2.2.2.2.2.2.2.1, h.2.2.2.2.2.2.2.2.2.1⟩ h.2.2.2.2.2.2.2.2.2.2⟩
theorem c24_ok : ConOk Tryz.prog T c24 := fn_ok (Φ := [c37, c47, c48]) (rs := [.cell 6 32, .tmp 7]) (an := (.n none .o (.n none .o (.n none (.n none (.r (some (true, [(.normal, ⟨[.lf .bool], [(25, .one (.h 0 []))], [], [], 2704⟩)])) .nil) .o) (.n none (.n none (.r (some (true, [(.normal, ⟨[.lf .bool], [(37, .one (.h 0 []))], [], [], 2769⟩)])) .nil) .o) .o))))) pOk repOk (AllC.mem (⟨c37_ok, c47_ok, c48_ok, trivial⟩ : AllC _ _ [c37, c47, c48])) hmix Tryz.call24 Tryz.func24 rfl rfl (by kernel_rfl) (fun h => by kernel_rfl)

noncomputable def dynposref16_Match_L1 (a1 : Power) (x3 : Int ×
  Bool) (x8 : List
  Int) : Int × List Running →
  Option
    (Int × List Running ⊕
      List
        Running) := fun x10 =>
  if decide (x10.1 < len x8) = true then
    Option.bind (idx x8 x10.1) fun x11 =>
      Option.bind (idx a1.Sources x3.1) fun x12 =>
        Option.bind (idx a1.Sources x3.1) fun x13 =>
          Option.bind (idx x10.2 x11) fun x14 =>
            Option.bind (idx x10.2 x11) fun x15 =>
              Option.bind (setO x10.2 x11 (Running.mk x15.State x15.Since x12.Frequency x15.Phase)) fun x16 =>
                Option.bind (idx x16 x11) fun x17 =>
                  Option.bind (idx x16 x11) fun x18 =>
                    Option.bind (setO x16 x11 (Running.mk x18.State x18.Since x18.Frequency x13.Phase)) fun x19 =>
                      some (.inl (W (x10.1 + 1), x19))
  else some (.inr x10.2)
noncomputable def dynposref16_Match (a0 : Board) (a1 : Power) (a2 : Int) (a3 : Int) : Option (Int × (List Bool) × (List Running) × (List Int) × (List Part)) :=
  Option.bind (dynposref15_State a0 a1) fun x1 =>
    if (x1 != 0) = true then some (x1, [], [], [], [])
    else
      Option.bind
        (if decide (a2 < 0) = true then some true
        else
          if decide (a2 ≥ len a0.Sources) = true then some true
          else if decide (a3 < 0) = true then some true else some (decide (a3 ≥ a0.Buses)))
        fun x2 =>
        if x2 = true then some (10, [], [], [], [])
        else
          Option.bind (dynposref16_Leader a0 a1 a3) fun x3 =>
            Option.bind
              (Option.bind (idx a1.Sources a2) fun x4 =>
                if (x4.State != 2) = true then some true else some !x3.2)
              fun x5 =>
              if x5 = true then some (11, [], [], [], [])
              else
                Option.bind (dynposref15_Connected a0 a1 a2) fun x6 =>
                  Option.bind
                    (if x6.2 = true then Option.bind (dynposref15_Of a0 a1 x6.1) fun x7 => some x7.2.2.1
                    else some [a2])
                    fun x8 =>
                    Option.bind (dynposref15_Copy a1) fun x9 =>
                      Option.bind (loopO (dynposref16_Match_L1 a1 x3 x8) (0, x9.2.1)) fun x20 =>
                        some (0, x9.1, x20, x9.2.2.1, x9.2.2.2)
noncomputable def c26 : Con D := ⟨26, [.lf (.int .i64), .lf (.sl 4), .lf (.sl 5), .lf (.sl 6), .lf (.int .i64), .lf (.int .i64), .lf (.sl 1), .lf (.sl 8), .lf (.sl 0), .lf (.sl 9), .lf (.int .i64), .lf (.int .i64)], [.lf (.int .i64), .lf (.sl 1), .lf (.sl 8), .lf (.sl 0), .lf (.sl 9)], [.agg [.h 0 [], .h 1 [0], .h 2 [0], .h 3 [0], .h 4 [], .h 5 []], .agg [.h 6 [0], .h 7 [0], .h 8 [0], .h 9 [0]], .one (.h 10 []), .one (.h 11 [])], [], [.agg [.own 1000, .own 1001, .own 1002, .own 1003], .one (.h 0 [])], [(1000, .sl 1 4 1 [0]), (1001, .sl 8 34 2 [0]), (1002, .sl 0 3 3 [0]), (1003, .sl 9 70 4 [0])], fun h => dynposref16_Match ⟨h.1, h.2.1, h.2.2.1, h.2.2.2.1, h.2.2.2.2.1, h.2.2.2.2.2.1⟩ ⟨h.2.2.2.2.2.2.1, h.2.2.2.2.2.2.2.1, h.2.2.2.2.2.2.2.2.1, h.2.2.2.2.2.2.2.2.2.1⟩ h.2.2.2.2.2.2.2.2.2.2.1 h.2.2.2.2.2.2.2.2.2.2.2⟩
theorem c26_ok : ConOk Tryz.prog T c26 := fn_ok (Φ := [c15, c37, c42, c47, c56]) (rs := [.cell 8 32, .tmp 9]) (an := (.n none .o (.n none .o (.n none (.n none (.r (some (true, [(.normal, ⟨[.lf .bool], [(46, .one (.h 0 []))], [], [], 2704⟩)])) .nil) .o) (.n none .o (.n none (.n none (.r (some (true, [(.normal, ⟨[.lf .bool], [(65, .one (.h 0 []))], [], [], 3345⟩)])) .nil) .o) (.n none .o (.n none (.n none .o (.n none .o (.n (some (true, [(.normal, ⟨[.lf (.sl 0)], [(13, .one (.own 4178))], [(4178, .sl 0 3 0 [])], [3410], 4242⟩)])) .o .o))) (.n none .o (.n none (.n none .o (.n none (.loop ⟨[.lf (.int .i64), .lf (.sl 8)], [(90, .one (.h 0 []))], [(4316, .sl 8 34 1 [0])], [4316], 4755⟩ true [(.exit 0, ⟨[.lf (.sl 8)], [], [(4316, .sl 8 34 0 [0])], [4316], 4755⟩)] .o) .o)) .o)))))))))) pOk repOk (AllC.mem (⟨c15_ok, c37_ok, c42_ok, c47_ok, c56_ok, trivial⟩ : AllC _ _ [c15, c37, c42, c47, c56])) hmix Tryz.call26 Tryz.func26 rfl rfl (by kernel_rfl) (fun h => by kernel_rfl)

noncomputable def dynposref16_followB_L2 (a1 : Power) (x4 : Island) : Int × List Running →
  Option
    (Int × List Running ⊕
      List
        Running) := fun x5 =>
  if decide (x5.1 < len x4.Sources) = true then
    Option.bind (idx x4.Sources x5.1) fun x6 =>
      Option.bind (idx x4.Sources 0) fun x7 =>
        Option.bind (idx a1.Sources x7) fun x8 =>
          Option.bind (idx x4.Sources 0) fun x9 =>
            Option.bind (idx a1.Sources x9) fun x10 =>
              Option.bind (idx x5.2 x6) fun x11 =>
                Option.bind (idx x5.2 x6) fun x12 =>
                  Option.bind (setO x5.2 x6 (Running.mk x12.State x12.Since x8.Frequency x12.Phase)) fun x13 =>
                    Option.bind (idx x13 x6) fun x14 =>
                      Option.bind (idx x13 x6) fun x15 =>
                        Option.bind (setO x13 x6 (Running.mk x15.State x15.Since x15.Frequency x10.Phase)) fun x16 =>
                          some (.inl (W (x5.1 + 1), x16))
  else some (.inr x5.2)
noncomputable def dynposref16_followB_L1 (a1 : Power) (x2 : List
  Island) : Int × List Running →
  Option
    (Int × List Running ⊕
      List
        Running) := fun x3 =>
  if decide (x3.1 < len x2) = true then
    Option.bind (idx x2 x3.1) fun x4 =>
      Option.bind (loopO (dynposref16_followB_L2 a1 x4) (0, x3.2)) fun x17 =>
        some (.inl (W (x3.1 + 1), x17))
  else some (.inr x3.2)
noncomputable def dynposref16_followB (a0 : Board) (a1 : Power) : Option ((List Bool) × (List Running) × (List Int) × (List Part)) :=
  Option.bind (dynposref15_Copy a1) fun x1 =>
    Option.bind (dynposref15_Islands a0 a1) fun x2 =>
      Option.bind (loopO (dynposref16_followB_L1 a1 x2) (0, x1.2.1)) fun x18 =>
        some (x1.1, x18, x1.2.2.1, x1.2.2.2)
noncomputable def c52 : Con D := ⟨52, [.lf (.int .i64), .lf (.sl 4), .lf (.sl 5), .lf (.sl 6), .lf (.int .i64), .lf (.int .i64), .lf (.sl 1), .lf (.sl 8), .lf (.sl 0), .lf (.sl 9)], [.lf (.sl 1), .lf (.sl 8), .lf (.sl 0), .lf (.sl 9)], [.agg [.h 0 [], .h 1 [0], .h 2 [0], .h 3 [0], .h 4 [], .h 5 []], .agg [.h 6 [0], .h 7 [0], .h 8 [0], .h 9 [0]]], [], [.agg [.own 1000, .own 1001, .own 1002, .own 1003]], [(1000, .sl 1 4 0 [0]), (1001, .sl 8 34 1 [0]), (1002, .sl 0 3 2 [0]), (1003, .sl 9 70 3 [0])], fun h => dynposref16_followB ⟨h.1, h.2.1, h.2.2.1, h.2.2.2.1, h.2.2.2.2.1, h.2.2.2.2.2.1⟩ ⟨h.2.2.2.2.2.2.1, h.2.2.2.2.2.2.2.1, h.2.2.2.2.2.2.2.2.1, h.2.2.2.2.2.2.2.2.2⟩⟩
theorem c52_ok : ConOk Tryz.prog T c52 := fn_ok (Φ := [c37, c81]) (rs := [.cell 4 32]) (an := (.n none .o (.n none .o (.n none (.n none .o (.n none (.loop ⟨[.lf (.int .i64), .lf (.sl 8)], [(16, .one (.h 0 []))], [(2265, .sl 8 34 1 [0])], [2265], 2832⟩ true [(.exit 0, ⟨[.lf (.sl 8)], [], [(2265, .sl 8 34 0 [0])], [2265], 2832⟩)] (.n none .o (.n none .o (.n none (.n none (.n none .o (.n none .o (.n none (.loop ⟨[.lf (.int .i64), .lf (.sl 8)], [(23, .one (.h 0 []))], [(2265, .sl 8 34 1 [0])], [2265], 3474⟩ true [(.exit 2, ⟨[.lf (.sl 8)], [], [(2265, .sl 8 34 0 [0])], [2265], 3474⟩)] .o) .o))) .o) .o)))) .o)) .o)))) pOk repOk (AllC.mem (⟨c37_ok, c81_ok, trivial⟩ : AllC _ _ [c37, c81])) hmix Tryz.call52 Tryz.func52 rfl rfl (by kernel_rfl) (fun h => by kernel_rfl)

noncomputable def dynposref16_FollowB (a0 : Board) (a1 : Power) : Option (Int × (List Bool) × (List Running) × (List Int) × (List Part)) :=
  Option.bind (dynposref15_State a0 a1) fun x1 =>
    if (x1 != 0) = true then some (x1, [], [], [], [])
    else
      Option.bind (dynposref16_followB a0 a1) fun x2 =>
        some (0, x2.1, x2.2.1, x2.2.2.1, x2.2.2.2)
noncomputable def c28 : Con D := ⟨28, [.lf (.int .i64), .lf (.sl 4), .lf (.sl 5), .lf (.sl 6), .lf (.int .i64), .lf (.int .i64), .lf (.sl 1), .lf (.sl 8), .lf (.sl 0), .lf (.sl 9)], [.lf (.int .i64), .lf (.sl 1), .lf (.sl 8), .lf (.sl 0), .lf (.sl 9)], [.agg [.h 0 [], .h 1 [0], .h 2 [0], .h 3 [0], .h 4 [], .h 5 []], .agg [.h 6 [0], .h 7 [0], .h 8 [0], .h 9 [0]]], [], [.agg [.own 1000, .own 1001, .own 1002, .own 1003], .one (.h 0 [])], [(1000, .sl 1 4 1 [0]), (1001, .sl 8 34 2 [0]), (1002, .sl 0 3 3 [0]), (1003, .sl 9 70 4 [0])], fun h => dynposref16_FollowB ⟨h.1, h.2.1, h.2.2.1, h.2.2.2.1, h.2.2.2.2.1, h.2.2.2.2.2.1⟩ ⟨h.2.2.2.2.2.2.1, h.2.2.2.2.2.2.2.1, h.2.2.2.2.2.2.2.2.1, h.2.2.2.2.2.2.2.2.2⟩⟩
theorem c28_ok : ConOk Tryz.prog T c28 := fn_ok (Φ := [c47, c52]) (rs := [.cell 4 32, .tmp 5]) (an := .o) pOk repOk (AllC.mem (⟨c47_ok, c52_ok, trivial⟩ : AllC _ _ [c47, c52])) hmix Tryz.call28 Tryz.func28 rfl rfl (by kernel_rfl) (fun h => by kernel_rfl)

noncomputable def dynposref16_Turn_L1 (x2 : List Bool ×
  List Running ×
    List Int ×
      List
        Part) : Int × List Running →
  Option
    (Int × List Running ⊕
      List
        Running) := fun x3 =>
  if decide (x3.1 < len x2.2.1) = true then
    Option.bind (idx x3.2 x3.1) fun x4 =>
      Option.bind
        (if (x4.State == 2) = true then
          Option.bind (dynposref02_Norm (W (x4.Phase + W (36 * W (x4.Frequency - 5000))))) fun x5 =>
            Option.bind (idx x3.2 x3.1) fun x6 =>
              Option.bind (idx x3.2 x3.1) fun x7 =>
                Option.bind (setO x3.2 x3.1 (Running.mk x7.State x7.Since x7.Frequency x5)) fun x8 => some x8
        else some x3.2)
        fun x9 => some (.inl (W (x3.1 + 1), x9))
  else some (.inr x3.2)
noncomputable def dynposref16_Turn (a0 : Board) (a1 : Power) : Option (Int × (List Bool) × (List Running) × (List Int) × (List Part)) :=
  Option.bind (dynposref15_State a0 a1) fun x1 =>
    if (x1 != 0) = true then some (x1, [], [], [], [])
    else
      Option.bind (dynposref15_Copy a1) fun x2 =>
        Option.bind (loopO (dynposref16_Turn_L1 x2) (0, x2.2.1)) fun x10 =>
          some (0, x2.1, x10, x2.2.2.1, x2.2.2.2)
noncomputable def c30 : Con D := ⟨30, [.lf (.int .i64), .lf (.sl 4), .lf (.sl 5), .lf (.sl 6), .lf (.int .i64), .lf (.int .i64), .lf (.sl 1), .lf (.sl 8), .lf (.sl 0), .lf (.sl 9)], [.lf (.int .i64), .lf (.sl 1), .lf (.sl 8), .lf (.sl 0), .lf (.sl 9)], [.agg [.h 0 [], .h 1 [0], .h 2 [0], .h 3 [0], .h 4 [], .h 5 []], .agg [.h 6 [0], .h 7 [0], .h 8 [0], .h 9 [0]]], [], [.agg [.own 1000, .own 1001, .own 1002, .own 1003], .one (.h 0 [])], [(1000, .sl 1 4 1 [0]), (1001, .sl 8 34 2 [0]), (1002, .sl 0 3 3 [0]), (1003, .sl 9 70 4 [0])], fun h => dynposref16_Turn ⟨h.1, h.2.1, h.2.2.1, h.2.2.2.1, h.2.2.2.2.1, h.2.2.2.2.2.1⟩ ⟨h.2.2.2.2.2.2.1, h.2.2.2.2.2.2.2.1, h.2.2.2.2.2.2.2.2.1, h.2.2.2.2.2.2.2.2.2⟩⟩
theorem c30_ok : ConOk Tryz.prog T c30 := fn_ok (Φ := [c37, c47, c62]) (rs := [.cell 4 32, .tmp 5]) (an := (.n none .o (.n none .o (.n none .o (.n none (.n none .o (.n none (.loop ⟨[.lf (.int .i64), .lf (.sl 8)], [(22, .one (.h 0 []))], [(2713, .sl 8 34 1 [0])], [2713], 3216⟩ true [(.exit 0, ⟨[.lf (.sl 8)], [], [(2713, .sl 8 34 0 [0])], [2713], 3216⟩)] (.n none .o (.n none .o (.n none (.n none (.n none .o (.n none .o (.n (some (true, [(.normal, ⟨[.lf (.sl 8)], [], [(2713, .sl 8 34 0 [0])], [2713], 3922⟩)])) .o .o))) .o) .o)))) .o)) .o))))) pOk repOk (AllC.mem (⟨c37_ok, c47_ok, c62_ok, trivial⟩ : AllC _ _ [c37, c47, c62])) hmix Tryz.call30 Tryz.func30 rfl rfl (by kernel_rfl) (fun h => by kernel_rfl)

end Rx
end Go.Proofs.YtkohjagmjnpdnaaGreat
