/- Plain functions, walks. Written by a program (wip/gen). -/
import Derived.Test.YtfnphdhcgkondaaGreatRt
import Derived.Test.YtfnphdhcgkondaaGreatRg1
set_option linter.unusedVariables false
set_option maxRecDepth 100000
namespace Go.Proofs.YtfnphdhcgkondaaGreat
open Go Go.RowKit Dp
namespace Rx

noncomputable def dynposref15_Connected (a0 : Board) (a1 : Power) (a2 : Int) : Option (Int × Bool) :=
  Option.bind
    (Option.bind (dynposref15_State a0 a1) fun x1 =>
      if (x1 != 0) = true then some true
      else
        if decide (a2 < 0) = true then some true
        else
          if decide (a2 ≥ len a0.Sources) = true then some true
          else Option.bind (idx a1.Sources a2) fun x2 => some (x2.State != 2))
    fun x3 =>
    if x3 = true then some (0, false)
    else
      Option.bind (dynposref15_of a0 2 a2) fun x4 =>
        Option.bind (idx x4 0) fun x5 =>
          Option.bind (idx a1.Closed x5) fun x6 =>
            if (!x6) = true then some (0, false)
            else Option.bind (idx a0.Breakers x5) fun x7 => some (x7.A, true)
noncomputable def c86 : Con D := ⟨86, [.lf (.int .i64), .lf (.sl 5), .lf (.sl 6), .lf (.sl 7), .lf (.int .i64), .lf (.int .i64), .lf (.sl 1), .lf (.sl 9), .lf (.sl 0), .lf (.sl 10), .lf (.int .i64)], [.lf (.int .i64), .lf .bool], [.agg [.h 0 [], .h 1 [0], .h 2 [0], .h 3 [0], .h 4 [], .h 5 []], .agg [.h 6 [0], .h 7 [0], .h 8 [0], .h 9 [0]], .one (.h 10 [])], [], [.one (.h 0 []), .one (.h 1 [])], [], fun h => dynposref15_Connected ⟨h.1, h.2.1, h.2.2.1, h.2.2.2.1, h.2.2.2.2.1, h.2.2.2.2.2.1⟩ ⟨h.2.2.2.2.2.2.1, h.2.2.2.2.2.2.2.1, h.2.2.2.2.2.2.2.2.1, h.2.2.2.2.2.2.2.2.2.1⟩ h.2.2.2.2.2.2.2.2.2.2⟩
theorem c86_ok : ConOk Tryz.prog T c86 := fn_ok (Φ := [c23, c55]) (rs := [.tmp 6, .tmp 7]) (an := (.n none .o (.n none (.n none (.r (some (true, [(.normal, ⟨[.lf .bool], [(32, .one (.h 0 []))], [], [], 2320⟩)])) .nil) .o) .o))) pOk repOk (AllC.mem (⟨c23_ok, c55_ok, trivial⟩ : AllC _ _ [c23, c55])) hmix Tryz.call86 Tryz.func86 rfl rfl (by kernel_rfl) (fun h => by kernel_rfl)

noncomputable def dynposref01_Has_L1 (a0 : List
  Int) (a1 : Int) : Int →
  Option
    (Int ⊕
      Unit ⊕
        Bool) := fun x1 =>
  if decide (x1 < len a0) = true then
    Option.bind (idx a0 x1) fun x2 =>
      if (x2 == a1) = true then some (.inr (.inr true)) else some (.inl (W (x1 + 1)))
  else some (.inr (.inl ()))
noncomputable def dynposref01_Has (a0 : (List Int)) (a1 : Int) : Option (Bool) :=
  Option.bind (loopO (dynposref01_Has_L1 a0 a1) 0) fun x3 =>
    Sum.elim (fun x4 => some false) (fun x5 => some x5) x3
noncomputable def c25 : Con D := ⟨25, [.lf (.sl 0), .lf (.int .i64)], [.lf .bool], [.one (.h 0 [0]), .one (.h 1 [])], [], [.one (.h 0 [])], [], fun h => dynposref01_Has h.1 h.2⟩
theorem c25_ok : ConOk Tryz.prog T c25 := fn_ok (Φ := []) (rs := [.tmp 4]) (an := (.n none .o (.n none (.n none .o (.n none (.loop ⟨[.lf (.int .i64)], [(9, .one (.h 0 []))], [], [], 2320⟩ false [(.exit 0, ⟨[], [], [], [], 2320⟩)] .o) .o)) .o))) pOk repOk (AllC.mem (l := []) trivial) hmix Tryz.call25 Tryz.func25 rfl rfl (by kernel_rfl) (fun h => by kernel_rfl)

noncomputable def dynposref15_Fed_L1 (a0 : Board) (a1 : Power) (x3 : List
  Int) : Int →
  Option
    (Int ⊕
      Unit ⊕
        Int ×
          Bool) := fun x4 =>
  if decide (x4 < len x3) = true then
    Option.bind (idx x3 x4) fun x5 =>
      Option.bind (idx a1.Closed x5) fun x6 =>
        if x6 = true then Option.bind (idx a0.Breakers x5) fun x7 => some (.inr (.inr (x7.A, true)))
        else some (.inl (W (x4 + 1)))
  else some (.inr (.inl ()))
noncomputable def dynposref15_Fed (a0 : Board) (a1 : Power) (a2 : Int) : Option (Int × Bool) :=
  Option.bind
    (Option.bind (dynposref15_State a0 a1) fun x1 =>
      if (x1 != 0) = true then some true
      else if decide (a2 < 0) = true then some true else some (decide (a2 ≥ len a0.Consumers)))
    fun x2 =>
    if x2 = true then some (0, false)
    else
      Option.bind (dynposref15_of a0 3 a2) fun x3 =>
        Option.bind (loopO (dynposref15_Fed_L1 a0 a1 x3) 0) fun x8 =>
          Sum.elim (fun x9 => some (0, false)) (fun x10 => some x10) x8
noncomputable def c26 : Con D := ⟨26, [.lf (.int .i64), .lf (.sl 5), .lf (.sl 6), .lf (.sl 7), .lf (.int .i64), .lf (.int .i64), .lf (.sl 1), .lf (.sl 9), .lf (.sl 0), .lf (.sl 10), .lf (.int .i64)], [.lf (.int .i64), .lf .bool], [.agg [.h 0 [], .h 1 [0], .h 2 [0], .h 3 [0], .h 4 [], .h 5 []], .agg [.h 6 [0], .h 7 [0], .h 8 [0], .h 9 [0]], .one (.h 10 [])], [], [.one (.h 0 []), .one (.h 1 [])], [], fun h => dynposref15_Fed ⟨h.1, h.2.1, h.2.2.1, h.2.2.2.1, h.2.2.2.2.1, h.2.2.2.2.2.1⟩ ⟨h.2.2.2.2.2.2.1, h.2.2.2.2.2.2.2.1, h.2.2.2.2.2.2.2.2.1, h.2.2.2.2.2.2.2.2.2.1⟩ h.2.2.2.2.2.2.2.2.2.2⟩
theorem c26_ok : ConOk Tryz.prog T c26 := fn_ok (Φ := [c23, c55]) (rs := [.tmp 6, .tmp 7]) (an := (.n none .o (.n none (.n none (.r (some (true, [(.normal, ⟨[.lf .bool], [(24, .one (.h 0 []))], [], [], 2320⟩)])) .nil) .o) (.n none (.n none .o (.n none (.loop ⟨[.lf (.int .i64)], [(29, .one (.h 0 []))], [], [], 2705⟩ false [(.exit 0, ⟨[], [], [], [], 2705⟩)] .o) .o)) .o)))) pOk repOk (AllC.mem (⟨c23_ok, c55_ok, trivial⟩ : AllC _ _ [c23, c55])) hmix Tryz.call26 Tryz.func26 rfl rfl (by kernel_rfl) (fun h => by kernel_rfl)

noncomputable def dynposref15_Of_L1 (a0 : Board) (a1 : Power) (x3 : List
  Int) : Int × List Int →
  Option
    (Int × List Int ⊕
      List
        Int) := fun x4 =>
  if decide (x4.1 < len a0.Sources) = true then
    Option.bind (dynposref15_Connected a0 a1 x4.1) fun x5 =>
      Option.bind (if x5.2 = true then Option.bind (dynposref01_Has x3 x5.1) fun x6 => some x6 else some false)
        fun x7 =>
        Option.bind (if x7 = true then Option.bind (app x4.2 [x4.1]) fun x8 => some x8 else some x4.2) fun x9 =>
          some (.inl (W (x4.1 + 1), x9))
  else some (.inr x4.2)
noncomputable def dynposref15_Of_L2 (a0 : Board) (a1 : Power) (x3 : List
  Int) : Int × List Int →
  Option
    (Int × List Int ⊕
      List
        Int) := fun x11 =>
  if decide (x11.1 < len a0.Consumers) = true then
    Option.bind (dynposref15_Fed a0 a1 x11.1) fun x12 =>
      Option.bind (if x12.2 = true then Option.bind (dynposref01_Has x3 x12.1) fun x13 => some x13 else some false)
        fun x14 =>
        Option.bind (if x14 = true then Option.bind (app x11.2 [x11.1]) fun x15 => some x15 else some x11.2)
          fun x16 => some (.inl (W (x11.1 + 1), x16))
  else some (.inr x11.2)
noncomputable def dynposref15_Of (a0 : Board) (a1 : Power) (a2 : Int) : Option (Bool × (List Int) × (List Int) × (List Int)) :=
  Option.bind
    (Option.bind (dynposref15_State a0 a1) fun x1 =>
      if (x1 != 0) = true then some true
      else if decide (a2 < 0) = true then some true else some (decide (a2 ≥ a0.Buses)))
    fun x2 =>
    if x2 = true then some (false, [], [], [])
    else
      Option.bind (dynposref15_reach a0 a1 a2) fun x3 =>
        Option.bind (loopO (dynposref15_Of_L1 a0 a1 x3) (0, [])) fun x10 =>
          Option.bind (loopO (dynposref15_Of_L2 a0 a1 x3) (0, [])) fun x17 => some (true, x3, x10, x17)
noncomputable def c46 : Con D := ⟨46, [.lf (.int .i64), .lf (.sl 5), .lf (.sl 6), .lf (.sl 7), .lf (.int .i64), .lf (.int .i64), .lf (.sl 1), .lf (.sl 9), .lf (.sl 0), .lf (.sl 10), .lf (.int .i64)], [.lf .bool, .lf (.sl 0), .lf (.sl 0), .lf (.sl 0)], [.agg [.h 0 [], .h 1 [0], .h 2 [0], .h 3 [0], .h 4 [], .h 5 []], .agg [.h 6 [0], .h 7 [0], .h 8 [0], .h 9 [0]], .one (.h 10 [])], [], [.agg [.own 1000, .own 1001, .own 1002], .one (.h 0 [])], [(1000, .sl 0 3 1 []), (1001, .sl 0 3 2 []), (1002, .sl 0 3 3 [])], fun h => dynposref15_Of ⟨h.1, h.2.1, h.2.2.1, h.2.2.2.1, h.2.2.2.2.1, h.2.2.2.2.2.1⟩ ⟨h.2.2.2.2.2.2.1, h.2.2.2.2.2.2.2.1, h.2.2.2.2.2.2.2.2.1, h.2.2.2.2.2.2.2.2.2.1⟩ h.2.2.2.2.2.2.2.2.2.2⟩
theorem c46_ok : ConOk Tryz.prog T c46 := fn_ok (Φ := [c23, c25, c26, c85, c86]) (rs := [.cell 6 54, .tmp 7]) (an := (.n none .o (.n none (.n none (.r (some (true, [(.normal, ⟨[.lf .bool], [(28, .one (.h 0 []))], [], [], 2320⟩)])) .nil) .o) (.n none .o (.n none (.n none .o (.n none (.loop ⟨[.lf (.int .i64), .lf (.sl 0)], [(38, .one (.h 0 []))], [(2641, .box [.own 2521, .own 3025, .nils]), (3025, .sl 0 3 1 [])], [2641], 3089⟩ true [(.exit 0, ⟨[.lf (.sl 0)], [], [(2641, .box [.own 2521, .own 3025, .nils]), (3025, .sl 0 3 0 [])], [2641], 3089⟩)] (.n none .o (.n none .o (.n none (.n none (.n none .o (.n none .o (.n none (.r (some (true, [(.normal, ⟨[.lf .bool], [(50, .one (.any)), (51, .one (.any)), (52, .one (.any)), (53, .one (.any)), (54, .one (.h 0 []))], [], [], 3923⟩)])) .nil) (.n (some (true, [(.normal, ⟨[.lf (.sl 0)], [], [(2641, .box [.own 2521, .own 3924, .nils]), (3924, .sl 0 3 0 [])], [2641, 3025], 3988⟩)])) .o .o)))) .o) .o)))) .o)) (.n none (.n none .o (.n none (.loop ⟨[.lf (.int .i64), .lf (.sl 0)], [(65, .one (.h 0 []))], [(2641, .box [.own 2521, .own 3025, .own 3346]), (3346, .sl 0 3 1 [])], [2641], 3410⟩ true [(.exit 2, ⟨[.lf (.sl 0)], [], [(2641, .box [.own 2521, .own 3025, .own 3346]), (3346, .sl 0 3 0 [])], [2641], 3410⟩)] (.n none .o (.n none .o (.n none (.n none (.n none .o (.n none .o (.n none (.r (some (true, [(.normal, ⟨[.lf .bool], [(77, .one (.any)), (78, .one (.any)), (79, .one (.any)), (80, .one (.any)), (81, .one (.h 0 []))], [], [], 4244⟩)])) .nil) (.n (some (true, [(.normal, ⟨[.lf (.sl 0)], [], [(2641, .box [.own 2521, .own 3025, .own 4245]), (4245, .sl 0 3 0 [])], [2641, 3346], 4309⟩)])) .o .o)))) .o) .o)))) .o)) .o)))))) pOk repOk (AllC.mem (⟨c23_ok, c25_ok, c26_ok, c85_ok, c86_ok, trivial⟩ : AllC _ _ [c23, c25, c26, c85, c86])) hmix Tryz.call46 Tryz.func46 rfl rfl (by kernel_rfl) (fun h => by kernel_rfl)

noncomputable def dynposref15_Live (a0 : Board) (a1 : Power) (a2 : Int) : Option (Bool) :=
  Option.bind (dynposref15_Of a0 a1 a2) fun x1 =>
    Option.bind (if x1.1 = true then some (decide (len x1.2.2.1 > 0)) else some false) fun x2 =>
      some x2
noncomputable def c15 : Con D := ⟨15, [.lf (.int .i64), .lf (.sl 5), .lf (.sl 6), .lf (.sl 7), .lf (.int .i64), .lf (.int .i64), .lf (.sl 1), .lf (.sl 9), .lf (.sl 0), .lf (.sl 10), .lf (.int .i64)], [.lf .bool], [.agg [.h 0 [], .h 1 [0], .h 2 [0], .h 3 [0], .h 4 [], .h 5 []], .agg [.h 6 [0], .h 7 [0], .h 8 [0], .h 9 [0]], .one (.h 10 [])], [], [.one (.h 0 [])], [], fun h => dynposref15_Live ⟨h.1, h.2.1, h.2.2.1, h.2.2.2.1, h.2.2.2.2.1, h.2.2.2.2.2.1⟩ ⟨h.2.2.2.2.2.2.1, h.2.2.2.2.2.2.2.1, h.2.2.2.2.2.2.2.2.1, h.2.2.2.2.2.2.2.2.2.1⟩ h.2.2.2.2.2.2.2.2.2.2⟩
theorem c15_ok : ConOk Tryz.prog T c15 := fn_ok (Φ := [c46]) (rs := [.tmp 6]) (an := (.n none .o (.n none .o (.n none (.r (some (true, [(.normal, ⟨[.lf .bool], [(6, .one (.h 0 []))], [], [], 2896⟩)])) .nil) .o)))) pOk repOk (AllC.mem (⟨c46_ok, trivial⟩ : AllC _ _ [c46])) hmix Tryz.call15 Tryz.func15 rfl rfl (by kernel_rfl) (fun h => by kernel_rfl)

noncomputable def dynposref15_Islands_L1 (a0 : Board) (a1 : Power) : Int × List Island →
  Option
    (Int × List Island ⊕
      List
        Island) := fun x2 =>
  if decide (x2.1 < a0.Buses) = true then
    Option.bind (dynposref15_Of a0 a1 x2.1) fun x3 =>
      Option.bind (idx x3.2.1 0) fun x4 =>
        Option.bind
          (if (x4 == x2.1) = true then
            Option.bind (app x2.2 [Island.mk x3.2.1 x3.2.2.1 x3.2.2.2]) fun x5 => some x5
          else some x2.2)
          fun x6 => some (.inl (W (x2.1 + 1), x6))
  else some (.inr x2.2)
noncomputable def dynposref15_Islands (a0 : Board) (a1 : Power) : Option ((List Island)) :=
  Option.bind (dynposref15_State a0 a1) fun x1 =>
    if (x1 != 0) = true then some []
    else Option.bind (loopO (dynposref15_Islands_L1 a0 a1) (0, [])) fun x7 => some x7
noncomputable def c18 : Con D := ⟨18, [.lf (.int .i64), .lf (.sl 5), .lf (.sl 6), .lf (.sl 7), .lf (.int .i64), .lf (.int .i64), .lf (.sl 1), .lf (.sl 9), .lf (.sl 0), .lf (.sl 10)], [.lf (.sl 12)], [.agg [.h 0 [], .h 1 [0], .h 2 [0], .h 3 [0], .h 4 [], .h 5 []], .agg [.h 6 [0], .h 7 [0], .h 8 [0], .h 9 [0]]], [], [.one (.own 1000)], [(1000, .sl 12 54 0 [1])], fun h => dynposref15_Islands ⟨h.1, h.2.1, h.2.2.1, h.2.2.2.1, h.2.2.2.2.1, h.2.2.2.2.2.1⟩ ⟨h.2.2.2.2.2.2.1, h.2.2.2.2.2.2.2.1, h.2.2.2.2.2.2.2.2.1, h.2.2.2.2.2.2.2.2.2⟩⟩
theorem c18_ok : ConOk Tryz.prog T c18 := fn_ok (Φ := [c23, c46]) (rs := [.tmp 4]) (an := (.n none .o (.n none .o (.n none .o (.n none (.n none .o (.n none (.loop ⟨[.lf (.int .i64), .lf (.sl 12)], [(5, .one (.own 2576)), (6, .one (.h 0 []))], [(2576, .sl 12 54 1 [1])], [], 2640⟩ true [(.exit 0, ⟨[.lf (.sl 12)], [(5, .one (.own 2576))], [(2576, .sl 12 54 0 [1])], [], 2640⟩)] (.n none .o (.n none (.n none (.n none .o (.n none .o (.n (some (true, [(.normal, ⟨[.lf (.sl 12)], [(5, .one (.own 3922))], [(3922, .sl 12 54 0 [1])], [2576, 3098, 3099, 3100], 3986⟩)])) .o .o))) .o) .o))) .o)) .o))))) pOk repOk (AllC.mem (⟨c23_ok, c46_ok, trivial⟩ : AllC _ _ [c23, c46])) hmix Tryz.call18 Tryz.func18 rfl rfl (by kernel_rfl) (fun h => by kernel_rfl)

noncomputable def dynposref16_follow_L2 (a1 : Power) (x4 : Island) : Int × List Running →
  Option
    (Int × List Running ⊕
      List
        Running) := fun x5 =>
  if decide (x5.1 < len x4.Sources) = true then
    Option.bind (idx x4.Sources x5.1) fun x6 =>
      Option.bind (idx x4.Sources 0) fun x7 =>
        Option.bind (idx a1.Sources x7) fun x8 =>
          Option.bind (idx x4.Sources 0) fun x9 =>
            Option.bind (idx a1.Sources x9) fun x10 =>
              Option.bind (idx x5.2 x6) fun x11 =>
                Option.bind (idx x5.2 x6) fun x12 =>
                  Option.bind (setO x5.2 x6 (Running.mk x12.State x12.Since x8.Frequency x12.Phase)) fun x13 =>
                    Option.bind (idx x13 x6) fun x14 =>
                      Option.bind (idx x13 x6) fun x15 =>
                        Option.bind (setO x13 x6 (Running.mk x15.State x15.Since x15.Frequency x10.Phase)) fun x16 =>
                          some (.inl (W (x5.1 + 1), x16))
  else some (.inr x5.2)
noncomputable def dynposref16_follow_L1 (a1 : Power) (x2 : List
  Island) : Int × List Running →
  Option
    (Int × List Running ⊕
      List
        Running) := fun x3 =>
  if decide (x3.1 < len x2) = true then
    Option.bind (idx x2 x3.1) fun x4 =>
      Option.bind (loopO (dynposref16_follow_L2 a1 x4) (0, x3.2)) fun x17 =>
        some (.inl (W (x3.1 + 1), x17))
  else some (.inr x3.2)
noncomputable def dynposref16_follow (a0 : Board) (a1 : Power) : Option ((List Bool) × (List Running) × (List Int) × (List Part)) :=
  Option.bind (dynposref15_Copy a1) fun x1 =>
    Option.bind (dynposref15_Islands a0 a1) fun x2 =>
      Option.bind (loopO (dynposref16_follow_L1 a1 x2) (0, x1.2.1)) fun x18 =>
        some (x1.1, x18, x1.2.2.1, x1.2.2.2)
noncomputable def c90 : Con D := ⟨90, [.lf (.int .i64), .lf (.sl 5), .lf (.sl 6), .lf (.sl 7), .lf (.int .i64), .lf (.int .i64), .lf (.sl 1), .lf (.sl 9), .lf (.sl 0), .lf (.sl 10)], [.lf (.sl 1), .lf (.sl 9), .lf (.sl 0), .lf (.sl 10)], [.agg [.h 0 [], .h 1 [0], .h 2 [0], .h 3 [0], .h 4 [], .h 5 []], .agg [.h 6 [0], .h 7 [0], .h 8 [0], .h 9 [0]]], [], [.agg [.own 1000, .own 1001, .own 1002, .own 1003]], [(1000, .sl 1 4 0 []), (1001, .sl 9 48 1 []), (1002, .sl 0 3 2 []), (1003, .sl 10 84 3 [])], fun h => dynposref16_follow ⟨h.1, h.2.1, h.2.2.1, h.2.2.2.1, h.2.2.2.2.1, h.2.2.2.2.2.1⟩ ⟨h.2.2.2.2.2.2.1, h.2.2.2.2.2.2.2.1, h.2.2.2.2.2.2.2.2.1, h.2.2.2.2.2.2.2.2.2⟩⟩
theorem c90_ok : ConOk Tryz.prog T c90 := fn_ok (Φ := [c18, c39]) (rs := [.cell 4 34]) (an := (.n none .o (.n none .o (.n none (.n none .o (.n none (.loop ⟨[.lf (.int .i64), .lf (.sl 9)], [(16, .one (.h 0 []))], [(2265, .sl 9 48 1 [])], [2265], 2832⟩ true [(.exit 0, ⟨[.lf (.sl 9)], [], [(2265, .sl 9 48 0 [])], [2265], 2832⟩)] (.n none .o (.n none .o (.n none (.n none (.n none .o (.n none .o (.n none (.loop ⟨[.lf (.int .i64), .lf (.sl 9)], [(23, .one (.h 0 []))], [(2265, .sl 9 48 1 [])], [2265], 3474⟩ true [(.exit 2, ⟨[.lf (.sl 9)], [], [(2265, .sl 9 48 0 [])], [2265], 3474⟩)] .o) .o))) .o) .o)))) .o)) .o)))) pOk repOk (AllC.mem (⟨c18_ok, c39_ok, trivial⟩ : AllC _ _ [c18, c39])) hmix Tryz.call90 Tryz.func90 rfl rfl (by kernel_rfl) (fun h => by kernel_rfl)

noncomputable def dynposref16_Follow (a0 : Board) (a1 : Power) : Option (Int × (List Bool) × (List Running) × (List Int) × (List Part)) :=
  Option.bind (dynposref15_State a0 a1) fun x1 =>
    if (x1 != 0) = true then some (x1, [], [], [], [])
    else
      Option.bind (dynposref16_follow a0 a1) fun x2 =>
        some (0, x2.1, x2.2.1, x2.2.2.1, x2.2.2.2)
noncomputable def c50 : Con D := ⟨50, [.lf (.int .i64), .lf (.sl 5), .lf (.sl 6), .lf (.sl 7), .lf (.int .i64), .lf (.int .i64), .lf (.sl 1), .lf (.sl 9), .lf (.sl 0), .lf (.sl 10)], [.lf (.int .i64), .lf (.sl 1), .lf (.sl 9), .lf (.sl 0), .lf (.sl 10)], [.agg [.h 0 [], .h 1 [0], .h 2 [0], .h 3 [0], .h 4 [], .h 5 []], .agg [.h 6 [0], .h 7 [0], .h 8 [0], .h 9 [0]]], [], [.agg [.own 1000, .own 1001, .own 1002, .own 1003], .one (.h 0 [])], [(1000, .sl 1 4 1 []), (1001, .sl 9 48 2 []), (1002, .sl 0 3 3 []), (1003, .sl 10 84 4 [])], fun h => dynposref16_Follow ⟨h.1, h.2.1, h.2.2.1, h.2.2.2.1, h.2.2.2.2.1, h.2.2.2.2.2.1⟩ ⟨h.2.2.2.2.2.2.1, h.2.2.2.2.2.2.2.1, h.2.2.2.2.2.2.2.2.1, h.2.2.2.2.2.2.2.2.2⟩⟩
theorem c50_ok : ConOk Tryz.prog T c50 := fn_ok (Φ := [c23, c90]) (rs := [.cell 4 34, .tmp 5]) (an := .o) pOk repOk (AllC.mem (⟨c23_ok, c90_ok, trivial⟩ : AllC _ _ [c23, c90])) hmix Tryz.call50 Tryz.func50 rfl rfl (by kernel_rfl) (fun h => by kernel_rfl)

noncomputable def dynposref18_Clear_L1 (a0 : Board) (a1 : Power) : Int × List Act × List Bool →
  Option
    (Int × List Act × List Bool ⊕
      List Act ×
        List
          Bool) := fun x3 =>
  if decide (x3.1 < len a0.Breakers) = true then
    Option.bind
      (Option.bind (idx x3.2.2 x3.1) fun x4 =>
        if x4 = true then Option.bind (dynposref18_wrong a0 a1 x3.1) fun x5 => some x5 else some false)
      fun x6 =>
      Option.bind
        (if x6 = true then
          Option.bind (idx x3.2.2 x3.1) fun x7 =>
            Option.bind (idx x3.2.2 x3.1) fun x8 =>
              Option.bind (setO x3.2.2 x3.1 false) fun x9 =>
                Option.bind (app x3.2.1 [Act.mk 2 x3.1 0]) fun x10 => some (x10, x9)
        else some (x3.2.1, x3.2.2))
        fun x11 => some (.inl (W (x3.1 + 1), x11.1, x11.2))
  else some (.inr (x3.2.1, x3.2.2))
noncomputable def dynposref18_Clear_L2 (a0 : Board) (x2 : List Bool ×
  List Running ×
    List Int ×
      List
        Part) : Int × List Act × List Bool →
  Option
    (Int × List Act × List Bool ⊕
      List Act ×
        List
          Bool) := fun x13 =>
  if decide (x13.1 < len a0.Breakers) = true then
    Option.bind (idx a0.Breakers x13.1) fun x14 =>
      Option.bind
        (if (x14.Kind == 3) = true then
          Option.bind (idx x13.2.2 x13.1) fun x15 =>
            if x15 = true then
              Option.bind (dynposref15_Live a0 (Power.mk x13.2.2 x2.2.1 x2.2.2.1 x2.2.2.2) x14.A)
                fun x16 => some !x16
            else some false
        else some false)
        fun x17 =>
        Option.bind
          (if x17 = true then
            Option.bind (idx x13.2.2 x13.1) fun x18 =>
              Option.bind (idx x13.2.2 x13.1) fun x19 =>
                Option.bind (setO x13.2.2 x13.1 false) fun x20 =>
                  Option.bind (app x13.2.1 [Act.mk 2 x13.1 0]) fun x21 => some (x21, x20)
          else some (x13.2.1, x13.2.2))
          fun x22 => some (.inl (W (x13.1 + 1), x22.1, x22.2))
  else some (.inr (x13.2.1, x13.2.2))
noncomputable def dynposref18_Clear (a0 : Board) (a1 : Power) : Option (Int × (List Bool) × (List Running) × (List Int) × (List Part) × (List Act)) :=
  Option.bind (dynposref15_State a0 a1) fun x1 =>
    if (x1 != 0) = true then some (x1, [], [], [], [], [])
    else
      Option.bind (dynposref15_Copy a1) fun x2 =>
        Option.bind (loopO (dynposref18_Clear_L1 a0 a1) (0, [], x2.1)) fun x12 =>
          Option.bind (loopO (dynposref18_Clear_L2 a0 x2) (0, x12.1, x12.2)) fun x23 =>
            Option.bind (dynposref16_Follow a0 (Power.mk x23.2 x2.2.1 x2.2.2.1 x2.2.2.2)) fun x24 =>
              some (0, x24.2.1, x24.2.2.1, x24.2.2.2.1, x24.2.2.2.2, x23.1)
noncomputable def c22 : Con D := ⟨22, [.lf (.int .i64), .lf (.sl 5), .lf (.sl 6), .lf (.sl 7), .lf (.int .i64), .lf (.int .i64), .lf (.sl 1), .lf (.sl 9), .lf (.sl 0), .lf (.sl 10)], [.lf (.int .i64), .lf (.sl 1), .lf (.sl 9), .lf (.sl 0), .lf (.sl 10), .lf (.sl 11)], [.agg [.h 0 [], .h 1 [0], .h 2 [0], .h 3 [0], .h 4 [], .h 5 []], .agg [.h 6 [0], .h 7 [0], .h 8 [0], .h 9 [0]]], [], [.agg [.own 1000, .own 1001, .own 1002, .own 1003], .one (.own 1004), .one (.h 0 [])], [(1000, .sl 1 4 1 []), (1001, .sl 9 48 2 []), (1002, .sl 0 3 3 []), (1003, .sl 10 84 4 []), (1004, .sl 11 74 5 [])], fun h => dynposref18_Clear ⟨h.1, h.2.1, h.2.2.1, h.2.2.2.1, h.2.2.2.2.1, h.2.2.2.2.2.1⟩ ⟨h.2.2.2.2.2.2.1, h.2.2.2.2.2.2.2.1, h.2.2.2.2.2.2.2.2.1, h.2.2.2.2.2.2.2.2.2⟩⟩
theorem c22_ok : ConOk Tryz.prog T c22 := fn_ok (Φ := [c15, c23, c39, c49, c50]) (rs := [.cell 4 34, .tmp 5, .tmp 6]) (an := (.n none .o (.n none .o (.n none .o (.n none .o (.n none (.n none .o (.n none (.loop ⟨[.lf (.int .i64), .lf (.sl 11), .lf (.sl 1)], [(9, .one (.own 3280)), (25, .one (.h 0 []))], [(3280, .sl 11 74 1 []), (2776, .sl 1 4 2 [])], [2776], 3344⟩ true [(.exit 0, ⟨[.lf (.sl 11), .lf (.sl 1)], [(9, .one (.own 3280))], [(3280, .sl 11 74 0 []), (2776, .sl 1 4 1 [])], [2776], 3344⟩)] (.n none .o (.n none .o (.n none (.n none (.n none .o (.n none (.r (some (true, [(.normal, ⟨[.lf .bool], [(34, .one (.any)), (35, .one (.any)), (36, .one (.any)), (37, .one (.any)), (38, .one (.h 0 []))], [], [], 3603⟩)])) .nil) (.n (some (true, [(.normal, ⟨[.lf (.sl 11), .lf (.sl 1)], [(9, .one (.own 3604))], [(3604, .sl 11 74 0 []), (2776, .sl 1 4 1 [])], [2776, 3280], 3668⟩)])) .o .o))) .o) .o)))) .o)) (.n none (.n none .o (.n none (.loop ⟨[.lf (.int .i64), .lf (.sl 11), .lf (.sl 1)], [(9, .one (.own 3602)), (52, .one (.h 0 []))], [(3602, .sl 11 74 1 []), (2776, .sl 1 4 2 [])], [2776, 3280], 3666⟩ true [(.exit 2, ⟨[.lf (.sl 11), .lf (.sl 1)], [(9, .one (.own 3602))], [(3602, .sl 11 74 0 []), (2776, .sl 1 4 1 [])], [2776, 3280], 3666⟩)] (.n none .o (.n none .o (.n none (.n none (.n none .o (.n none (.r (some (true, [(.normal, ⟨[.lf .bool], [(61, .one (.any)), (62, .one (.any)), (63, .one (.any)), (64, .one (.any)), (65, .one (.any)), (68, .one (.any)), (69, .one (.any)), (70, .one (.any)), (71, .one (.any)), (72, .one (.any)), (73, .one (.any)), (74, .one (.h 0 []))], [], [], 4181⟩)])) .nil) (.n (some (true, [(.normal, ⟨[.lf (.sl 11), .lf (.sl 1)], [(9, .one (.own 4182))], [(4182, .sl 11 74 0 []), (2776, .sl 1 4 1 [])], [2776, 3602], 4246⟩)])) .o .o))) .o) .o)))) .o)) .o))))))) pOk repOk (AllC.mem (⟨c15_ok, c23_ok, c39_ok, c49_ok, c50_ok, trivial⟩ : AllC _ _ [c15, c23, c39, c49, c50])) hmix Tryz.call22 Tryz.func22 rfl rfl (by kernel_rfl) (fun h => by kernel_rfl)

noncomputable def board_in (a0 : Int) (a1 : Int) (a2 : Int) : Option (Bool) := Option.bind (if decide (a0 ≥ a1) = true then some (decide (a0 ≤ a2)) else some false) fun x1 => some x1
noncomputable def c94 : Con D := ⟨94, [.lf (.int .i64), .lf (.int .i64), .lf (.int .i64)], [.lf .bool], [.one (.h 0 []), .one (.h 1 []), .one (.h 2 [])], [], [.one (.h 0 [])], [], fun h => board_in h.1 h.2.1 h.2.2⟩
theorem c94_ok : ConOk Tryz.prog T c94 := fn_ok (Φ := []) (rs := [.tmp 6]) (an := (.n none .o (.n none (.r (some (true, [(.normal, ⟨[.lf .bool], [(6, .one (.h 0 []))], [], [], 2128⟩)])) .nil) .o))) pOk repOk (AllC.mem (l := []) trivial) hmix Tryz.call94 Tryz.func94 rfl rfl (by kernel_rfl) (fun h => by kernel_rfl)

noncomputable def slices_Index_int_int_L1 (a0 : List
  Int) (a1 : Int) : Int →
  Option
    (Int ⊕
      Unit ⊕
        Int) := fun x1 =>
  if decide (x1 < len a0) = true then
    Option.bind (idx a0 x1) fun x2 =>
      if (a1 == x2) = true then some (.inr (.inr x1)) else some (.inl (W (x1 + 1)))
  else some (.inr (.inl ()))
noncomputable def slices_Index_int_int (a0 : (List Int)) (a1 : Int) : Option (Int) :=
  Option.bind (loopO (slices_Index_int_int_L1 a0 a1) 0) fun x3 =>
    Sum.elim (fun x4 => some (-1)) (fun x5 => some x5) x3
noncomputable def c117 : Con D := ⟨117, [.lf (.sl 0), .lf (.int .i64)], [.lf (.int .i64)], [.one (.h 0 [0]), .one (.h 1 [])], [], [.one (.h 0 [])], [], fun h => slices_Index_int_int h.1 h.2⟩
theorem c117_ok : ConOk Tryz.prog T c117 := fn_ok (Φ := []) (rs := [.tmp 4]) (an := (.n none .o (.n none (.n none .o (.n none (.loop ⟨[.lf (.int .i64)], [(8, .one (.h 0 []))], [], [], 2320⟩ false [(.exit 0, ⟨[], [], [], [], 2320⟩)] .o) .o)) .o))) pOk repOk (AllC.mem (l := []) trivial) hmix Tryz.call117 Tryz.func117 rfl rfl (by kernel_rfl) (fun h => by kernel_rfl)

noncomputable def slices_Contains_int_int (a0 : (List Int)) (a1 : Int) : Option (Bool) := Option.bind (slices_Index_int_int a0 a1) fun x1 => some (decide (x1 ≥ 0))
noncomputable def c77 : Con D := ⟨77, [.lf (.sl 0), .lf (.int .i64)], [.lf .bool], [.one (.h 0 [0]), .one (.h 1 [])], [], [.one (.h 0 [])], [], fun h => slices_Contains_int_int h.1 h.2⟩
theorem c77_ok : ConOk Tryz.prog T c77 := fn_ok (Φ := [c117]) (rs := [.tmp 4]) (an := .o) pOk repOk (AllC.mem (⟨c117_ok, trivial⟩ : AllC _ _ [c117])) hmix Tryz.call77 Tryz.func77 rfl rfl (by kernel_rfl) (fun h => by kernel_rfl)

noncomputable def board_breakers_1 (a0 : (List Int)) : Option (Bool) := some (len a0 == 0)
noncomputable def c130 : Con D := ⟨130, [.lf (.sl 0)], [.lf .bool], [.one (.h 0 [0])], [], [.one (.h 0 [])], [], fun h => board_breakers_1 h⟩
theorem c130_ok : ConOk Tryz.prog T c130 := fn_ok (Φ := []) (rs := [.tmp 2]) (an := .o) pOk repOk (AllC.mem (l := []) trivial) hmix Tryz.call130 Tryz.func130 rfl rfl (by kernel_rfl) (fun h => by kernel_rfl)

noncomputable def slices_IndexFunc_int_int_L1 (a0 : List
  (List
    Int)) : Int →
  Option
    (Int ⊕
      Unit ⊕
        Int) := fun x1 =>
  if decide (x1 < len a0) = true then
    Option.bind (idx a0 x1) fun x2 =>
      Option.bind (board_breakers_1 x2) fun x3 =>
        if x3 = true then some (.inr (.inr x1)) else some (.inl (W (x1 + 1)))
  else some (.inr (.inl ()))
noncomputable def slices_IndexFunc_int_int (a0 : (List (List Int))) : Option (Int) :=
  Option.bind (loopO (slices_IndexFunc_int_int_L1 a0) 0) fun x4 =>
    Sum.elim (fun x5 => some (-1)) (fun x6 => some x6) x4
noncomputable def c139 : Con D := ⟨139, [.lf (.sl 14)], [.lf (.int .i64)], [.one (.h 0 [0]), .one (.fn 130 [])], [], [.one (.h 0 [])], [], fun h => slices_IndexFunc_int_int h⟩
theorem c139_ok : ConOk Tryz.prog T c139 := fn_ok (Φ := [c130]) (rs := [.tmp 4]) (an := (.n none .o (.n none (.n none .o (.n none (.loop ⟨[.lf (.int .i64)], [(8, .one (.h 0 []))], [], [], 2320⟩ false [(.exit 0, ⟨[], [], [], [], 2320⟩)] .o) .o)) .o))) pOk repOk (AllC.mem (⟨c130_ok, trivial⟩ : AllC _ _ [c130])) hmix Tryz.call139 Tryz.func139 rfl rfl (by kernel_rfl) (fun h => by kernel_rfl)

noncomputable def slices_ContainsFunc_int_int (a0 : (List (List Int))) : Option (Bool) := Option.bind (slices_IndexFunc_int_int a0) fun x1 => some (decide (x1 ≥ 0))
noncomputable def c129 : Con D := ⟨129, [.lf (.sl 14)], [.lf .bool], [.one (.h 0 [0]), .one (.fn 130 [])], [], [.one (.h 0 [])], [], fun h => slices_ContainsFunc_int_int h⟩
theorem c129_ok : ConOk Tryz.prog T c129 := fn_ok (Φ := [c139]) (rs := [.tmp 4]) (an := .o) pOk repOk (AllC.mem (⟨c139_ok, trivial⟩ : AllC _ _ [c139])) hmix Tryz.call129 Tryz.func129 rfl rfl (by kernel_rfl) (fun h => by kernel_rfl)

noncomputable def board_breakers_L1 (a0 : Board) : Int × List Int × List (List Int) →
  Option
    (Int × List Int × List (List Int) ⊕
      List Int × List (List Int) ⊕
        Bool) := fun x3 =>
  if decide (x3.1 < len a0.Breakers) = true then
    Option.bind (idx a0.Breakers x3.1) fun x4 =>
      Option.bind (board_in x4.A 0 (W (a0.Buses - 1))) fun x5 =>
        if (!x5) = true then some (.inr (.inr false))
        else
          Option.bind
            (if (x4.Kind == 1) = true then
              Option.bind (board_in x4.B (W (x4.A + 1)) (W (a0.Buses - 1))) fun x6 => some x6
            else some false)
            fun x7 =>
            Option.bind
              (if x7 = true then some (.inl (x3.2.1, x3.2.2))
              else
                Option.bind
                  (if (x4.Kind == 2) = true then
                    Option.bind (board_in x4.B 0 (W (len x3.2.1 - 1))) fun x8 =>
                      if x8 = true then Option.bind (idx x3.2.1 x4.B) fun x9 => some (x9 == 0)
                      else some false
                  else some false)
                  fun x10 =>
                  Option.bind
                    (if x10 = true then
                      Option.bind (idx x3.2.1 x4.B) fun x23 =>
                        Option.bind (idx x3.2.1 x4.B) fun x24 =>
                          Option.bind (idx x3.2.1 x4.B) fun x25 =>
                            Option.bind (setO x3.2.1 x4.B (W (x23 + 1))) fun x26 =>
                              some (.inl (x26, x3.2.2))
                    else
                      Option.bind
                        (if (x4.Kind == 3) = true then
                          Option.bind (board_in x4.B 0 (W (len x3.2.2 - 1))) fun x11 =>
                            if x11 = true then
                              Option.bind (idx x3.2.2 x4.B) fun x12 =>
                                Option.bind (idx x3.2.2 x4.B) fun x13 =>
                                  Option.bind (slices_Contains_int_int x13 x4.A) fun x14 => some (!x14, x3.2.2)
                            else some (false, x3.2.2)
                        else some (false, x3.2.2))
                        fun x15 =>
                        if x15.1 = true then
                          Option.bind (idx x15.2 x4.B) fun x16 =>
                            Option.bind (idx x15.2 x4.B) fun x17 =>
                              Option.bind (idx x15.2 x4.B) fun x18 =>
                                Option.bind (app x18 [x4.A]) fun x19 =>
                                  Option.bind (setO x15.2 x4.B x19) fun x20 =>
                                    Option.bind (idx x20 x4.B) fun x21 =>
                                      Option.bind (eqO x4.B x4.B) fun x22 => some (.inl (x3.2.1, x20))
                        else some (.inr (.inr (.inr (.inr false)))))
                    fun x27 => Sum.elim (fun x28 => some (.inl (x28.1, x28.2))) (fun x29 => some x29) x27)
              fun x30 =>
              Sum.elim (fun x31 => some (.inl (W (x3.1 + 1), x31.1, x31.2))) (fun x32 => some x32)
                x30
  else some (.inr (.inl (x3.2.1, x3.2.2)))
noncomputable def board_breakers (a0 : Board) : Option (Bool) :=
  Option.bind (mkZ 0 (len a0.Sources)) fun x1 =>
    Option.bind (mkZ [] (len a0.Consumers)) fun x2 =>
      Option.bind (loopO (board_breakers_L1 a0) (0, x1, x2)) fun x33 =>
        Sum.elim
          (fun x34 =>
            Option.bind
              (Option.bind (slices_Contains_int_int x34.1 0) fun x35 =>
                if (!x35) = true then Option.bind (slices_ContainsFunc_int_int x34.2) fun x36 => some !x36
                else some false)
              fun x37 => some x37)
          (fun x38 => some x38) x33
noncomputable def c95 : Con D := ⟨95, [.lf (.int .i64), .lf (.sl 5), .lf (.sl 6), .lf (.sl 7), .lf (.int .i64), .lf (.int .i64)], [.lf .bool], [.agg [.h 0 [], .h 1 [0], .h 2 [0], .h 3 [0], .h 4 [], .h 5 []]], [], [.one (.h 0 [])], [], fun h => board_breakers ⟨h.1, h.2.1, h.2.2.1, h.2.2.2.1, h.2.2.2.2.1, h.2.2.2.2.2⟩⟩
theorem c95_ok : ConOk Tryz.prog T c95 := fn_ok (Φ := [c77, c94, c129]) (rs := [.tmp 2]) (an := (.n none .o (.n none .o (.n none (.n none .o (.n none (.loop ⟨[.lf (.int .i64), .lf (.sl 0), .lf (.sl 14)], [(18, .one (.h 0 []))], [(2320, .sl 0 3 1 []), (2576, .kid 14 22 3 0 2)], [2320, 2576], 3088⟩ false [(.exit 0, ⟨[.lf (.sl 0), .lf (.sl 14)], [], [(2320, .sl 0 3 0 []), (2576, .kid 14 22 3 0 1)], [2320, 2576], 3088⟩)] (.n none .o (.n none .o (.n none (.n none (.n none .o (.n none .o (.n none (.n none (.r (some (true, [(.normal, ⟨[.lf .bool], [(29, .one (.h 0 [])), (34, .one (.any)), (35, .one (.any)), (36, .one (.any)), (37, .one (.any)), (38, .one (.any)), (39, .one (.any)), (40, .one (.any)), (41, .one (.any)), (42, .one (.any))], [], [], 3923⟩)])) .nil) (.n (some (false, [(.normal, ⟨[.lf (.sl 0), .lf (.sl 14)], [], [(2320, .sl 0 3 0 []), (2576, .kid 14 22 3 0 1)], [2320, 2576], 3988⟩)])) .o (.n none (.r (some (true, [(.normal, ⟨[.lf .bool], [(44, .one (.h 0 [])), (49, .one (.any)), (50, .one (.any)), (51, .one (.any)), (52, .one (.any)), (53, .one (.any)), (54, .one (.any)), (57, .one (.any)), (58, .one (.any)), (59, .one (.any)), (60, .one (.any)), (61, .one (.any)), (62, .one (.any))], [], [], 3988⟩)])) .nil) (.n (some (false, [(.normal, ⟨[.lf (.sl 0), .lf (.sl 14)], [], [(2320, .sl 0 3 0 []), (2576, .kid 14 22 3 0 1)], [2320, 2576], 4053⟩)])) .o (.n none (.r (some (true, [(.normal, ⟨[.lf .bool, .lf (.sl 14)], [(71, .one (.h 0 [])), (76, .one (.any)), (77, .one (.any)), (78, .one (.any)), (79, .one (.any)), (80, .one (.any)), (81, .one (.any)), (84, .one (.any)), (85, .one (.any)), (86, .one (.any)), (87, .one (.any)), (88, .one (.any)), (89, .one (.any)), (90, .one (.any)), (91, .one (.any)), (92, .one (.any))], [(2576, .kid 14 22 3 0 1)], [2576], 4053⟩)])) .nil) .o))))) .o))) .o) .o)))) .o)) (.n none (.r (some (true, [(.normal, ⟨[.lf .bool], [(2, .one (.h 0 []))], [], [], 3154⟩)])) .nil) .o))))) pOk repOk (AllC.mem (⟨c77_ok, c94_ok, c129_ok, trivial⟩ : AllC _ _ [c77, c94, c129])) hmix Tryz.call95 Tryz.func95 rfl rfl (by kernel_rfl) (fun h => by kernel_rfl)

noncomputable def board_source (a0 : Source) : Option (Bool) :=
  Option.bind
    (Option.bind (board_in a0.Rating 1 50000) fun x1 =>
      if x1 = true then
        Option.bind (board_in a0.Least 0 a0.Rating) fun x2 =>
          if x2 = true then Option.bind (board_in a0.Start 0 600) fun x3 => some x3
          else some false
      else some false)
    fun x4 => some x4
noncomputable def c96 : Con D := ⟨96, [.lf (.int .i64), .lf (.int .i64), .lf (.int .i64)], [.lf .bool], [.agg [.h 0 [], .h 1 [], .h 2 []]], [], [.one (.h 0 [])], [], fun h => board_source ⟨h.1, h.2.1, h.2.2⟩⟩
theorem c96_ok : ConOk Tryz.prog T c96 := fn_ok (Φ := [c94]) (rs := [.tmp 2]) (an := (.n none .o (.n none (.r (some (true, [(.normal, ⟨[.lf .bool], [(2, .one (.h 0 []))], [], [], 2192⟩)])) .nil) .o))) pOk repOk (AllC.mem (⟨c94_ok, trivial⟩ : AllC _ _ [c94])) hmix Tryz.call96 Tryz.func96 rfl rfl (by kernel_rfl) (fun h => by kernel_rfl)

noncomputable def board_consumer_L1 (a0 : Consumer) (a1 : Int) : Int →
  Option
    (Int ⊕
      Unit ⊕
        Bool) := fun x1 =>
  if decide (x1 < len a0.Needs) = true then
    Option.bind (idx a0.Needs x1) fun x2 =>
      Option.bind
        (Option.bind (board_in x2 0 (W (a1 - 1))) fun x3 =>
          if (!x3) = true then some true
          else
            if decide (x1 > 0) = true then
              Option.bind (idx a0.Needs (W (x1 - 1))) fun x4 => some (decide (x4 ≥ x2))
            else some false)
        fun x5 => if x5 = true then some (.inr (.inr false)) else some (.inl (W (x1 + 1)))
  else some (.inr (.inl ()))
noncomputable def board_consumer (a0 : Consumer) (a1 : Int) : Option (Bool) :=
  Option.bind (loopO (board_consumer_L1 a0 a1) 0) fun x6 =>
    Sum.elim
      (fun x7 =>
        Option.bind
          (Option.bind (board_in a0.Load 0 50000) fun x8 =>
            if x8 = true then
              Option.bind (board_in a0.Least 0 a0.Load) fun x9 =>
                if x9 = true then
                  Option.bind (board_in a0.Preference 0 15) fun x10 =>
                    if x10 = true then
                      Option.bind (board_in a0.Thruster (-1) 7) fun x11 =>
                        if x11 = true then some (decide (len a0.Needs ≤ 4)) else some false
                    else some false
                else some false
            else some false)
          fun x12 => some x12)
      (fun x13 => some x13) x6
noncomputable def c97 : Con D := ⟨97, [.lf (.int .i64), .lf (.int .i64), .lf (.int .i64), .lf (.int .i64), .lf (.sl 0), .lf (.int .i64)], [.lf .bool], [.agg [.h 0 [], .h 1 [], .h 2 [], .h 3 [], .h 4 [0]], .one (.h 5 [])], [], [.one (.h 0 [])], [], fun h => board_consumer ⟨h.1, h.2.1, h.2.2.1, h.2.2.2.1, h.2.2.2.2.1⟩ h.2.2.2.2.2⟩
theorem c97_ok : ConOk Tryz.prog T c97 := fn_ok (Φ := [c94]) (rs := [.tmp 4]) (an := (.n none .o (.n none (.n none .o (.n none (.loop ⟨[.lf (.int .i64)], [(10, .one (.h 0 []))], [], [], 2448⟩ false [(.exit 0, ⟨[], [], [], [], 2448⟩)] (.n none .o (.n none .o (.n none (.n none (.n none .o (.n none (.r (some (true, [(.normal, ⟨[.lf .bool], [(21, .one (.any)), (22, .one (.any)), (23, .one (.any)), (24, .one (.any)), (25, .one (.any)), (26, .one (.any)), (27, .one (.any)), (28, .one (.any)), (29, .one (.any)), (30, .one (.any)), (31, .one (.any)), (32, .one (.any)), (33, .one (.h 0 []))], [], [], 2897⟩)])) .nil) .o)) .o) .o)))) .o)) (.n none (.r (some (true, [(.normal, ⟨[.lf .bool], [(4, .one (.h 0 []))], [], [], 2512⟩)])) .nil) .o)))) pOk repOk (AllC.mem (⟨c94_ok, trivial⟩ : AllC _ _ [c94])) hmix Tryz.call97 Tryz.func97 rfl rfl (by kernel_rfl) (fun h => by kernel_rfl)

noncomputable def board_Check_L1 (a0 : Board) : Bool × Int →
  Option
    (Bool × Int ⊕
      Bool) := fun x7 =>
  if decide (x7.2 < len a0.Sources) = true then
    Option.bind (idx a0.Sources x7.2) fun x8 =>
      Option.bind (if x7.1 = true then Option.bind (board_source x8) fun x9 => some x9 else some false) fun x10 =>
        some (.inl (x10, W (x7.2 + 1)))
  else some (.inr x7.1)
noncomputable def board_Check_L2 (a0 : Board) : Bool × Int →
  Option
    (Bool × Int ⊕
      Bool) := fun x12 =>
  if decide (x12.2 < len a0.Consumers) = true then
    Option.bind (idx a0.Consumers x12.2) fun x13 =>
      Option.bind (if x12.1 = true then Option.bind (board_consumer x13 x12.2) fun x14 => some x14 else some false)
        fun x15 => some (.inl (x15, W (x12.2 + 1)))
  else some (.inr x12.1)
noncomputable def board_Check (a0 : Board) : Option (Int) :=
  Option.bind
    (Option.bind (board_in a0.Buses 1 6) fun x1 =>
      if (!x1) = true then some true
      else
        if decide (len a0.Breakers > 24) = true then some true
        else
          if decide (len a0.Sources > 8) = true then some true
          else some (decide (len a0.Consumers > 16)))
    fun x2 =>
    if x2 = true then some 2
    else
      Option.bind
        (Option.bind (board_breakers a0) fun x3 =>
          if x3 = true then
            Option.bind (board_in a0.Phase 0 1800) fun x4 =>
              if x4 = true then Option.bind (board_in a0.Frequency 0 6000) fun x5 => some x5
              else some false
          else some false)
        fun x6 =>
        Option.bind (loopO (board_Check_L1 a0) (x6, 0)) fun x11 =>
          Option.bind (loopO (board_Check_L2 a0) (x11, 0)) fun x16 =>
            if (!x16) = true then some 14 else some 0
noncomputable def c56 : Con D := ⟨56, [.lf (.int .i64), .lf (.sl 5), .lf (.sl 6), .lf (.sl 7), .lf (.int .i64), .lf (.int .i64)], [.lf (.int .i64)], [.agg [.h 0 [], .h 1 [0], .h 2 [0], .h 3 [0], .h 4 [], .h 5 []]], [], [.one (.h 0 [])], [], fun h => board_Check ⟨h.1, h.2.1, h.2.2.1, h.2.2.2.1, h.2.2.2.2.1, h.2.2.2.2.2⟩⟩
theorem c56_ok : ConOk Tryz.prog T c56 := fn_ok (Φ := [c94, c95, c96, c97]) (rs := [.tmp 2]) (an := (.n none .o (.n none (.n none (.r (some (true, [(.normal, ⟨[.lf .bool], [(29, .one (.h 0 []))], [], [], 2192⟩)])) .nil) .o) (.n none (.r (some (true, [(.normal, ⟨[.lf .bool], [(3, .one (.h 0 []))], [], [], 2257⟩)])) .nil) (.n none (.n none .o (.n none (.loop ⟨[.lf .bool, .lf (.int .i64)], [(3, .one (.h 0 [])), (45, .one (.h 1 []))], [], [], 2578⟩ true [(.exit 0, ⟨[.lf .bool], [(3, .one (.h 0 []))], [], [], 2578⟩)] (.n none .o (.n none .o (.n none (.n none (.n none .o (.r (some (true, [(.normal, ⟨[.lf .bool], [(3, .one (.h 0 [])), (51, .one (.any)), (52, .one (.any))], [], [], 2964⟩)])) .nil)) .o) .o)))) .o)) (.n none (.n none .o (.n none (.loop ⟨[.lf .bool, .lf (.int .i64)], [(3, .one (.h 0 [])), (58, .one (.h 1 []))], [], [], 2899⟩ true [(.exit 2, ⟨[.lf .bool], [(3, .one (.h 0 []))], [], [], 2899⟩)] (.n none .o (.n none .o (.n none (.n none (.n none .o (.r (some (true, [(.normal, ⟨[.lf .bool], [(3, .one (.h 0 [])), (65, .one (.any)), (66, .one (.any)), (67, .one (.any))], [], [], 3413⟩)])) .nil)) .o) .o)))) .o)) .o)))))) pOk repOk (AllC.mem (⟨c94_ok, c95_ok, c96_ok, c97_ok, trivial⟩ : AllC _ _ [c94, c95, c96, c97])) hmix Tryz.call56 Tryz.func56 rfl rfl (by kernel_rfl) (fun h => by kernel_rfl)

noncomputable def cmp_isNaN_int (a0 : Int) : Option (Bool) := some (a0 != a0)
noncomputable def c99 : Con D := ⟨99, [.lf (.int .i64)], [.lf .bool], [.one (.h 0 [])], [], [.one (.h 0 [])], [], fun h => cmp_isNaN_int h⟩
theorem c99_ok : ConOk Tryz.prog T c99 := fn_ok (Φ := []) (rs := [.tmp 2]) (an := .o) pOk repOk (AllC.mem (l := []) trivial) hmix Tryz.call99 Tryz.func99 rfl rfl (by kernel_rfl) (fun h => by kernel_rfl)

noncomputable def cmp_Compare_int (a0 : Int) (a1 : Int) : Option (Int) :=
  Option.bind (cmp_isNaN_int a0) fun x1 =>
    Option.bind (cmp_isNaN_int a1) fun x2 =>
      if x1 = true then if x2 = true then some 0 else some (-1)
      else
        if x2 = true then some 1
        else
          if decide (a0 < a1) = true then some (-1)
          else if decide (a0 > a1) = true then some 1 else some 0
noncomputable def c59 : Con D := ⟨59, [.lf (.int .i64), .lf (.int .i64)], [.lf (.int .i64)], [.one (.h 0 []), .one (.h 1 [])], [], [.one (.h 0 [])], [], fun h => cmp_Compare_int h.1 h.2⟩
theorem c59_ok : ConOk Tryz.prog T c59 := fn_ok (Φ := [c99]) (rs := [.tmp 4]) (an := .o) pOk repOk (AllC.mem (⟨c99_ok, trivial⟩ : AllC _ _ [c99])) hmix Tryz.call59 Tryz.func59 rfl rfl (by kernel_rfl) (fun h => by kernel_rfl)

noncomputable def shed_Order_1 (a0 : Int) (a1 : Int) (a2 : Board) : Option (Int) :=
  Option.bind (idx a2.Consumers a0) fun x1 =>
    Option.bind (idx a2.Consumers a1) fun x2 =>
      Option.bind (cmp_Compare_int x1.Preference x2.Preference) fun x3 => some x3
noncomputable def c58 : Con D := ⟨58, [.lf (.int .i64), .lf (.int .i64), .el 4], [.lf (.int .i64)], [.one (.h 0 []), .one (.h 1 []), .one (.rp 2 4 [0])], [], [.one (.h 0 [])], [], fun h => shed_Order_1 h.1 h.2.1 h.2.2⟩
theorem c58_ok : ConOk Tryz.prog T c58 := fn_ok (Φ := [c59]) (rs := [.tmp 5]) (an := .o) pOk repOk (AllC.mem (⟨c59_ok, trivial⟩ : AllC _ _ [c59])) hmix Tryz.call58 Tryz.func58 rfl rfl (by kernel_rfl) (fun h => by kernel_rfl)

noncomputable def slices_insertionSortCmpFunc_int_L2 (a1 : Int) (a3 : Board) : Int × List Int →
  Option
    (Int × List Int ⊕
      List
        Int) := fun x2 =>
  Option.bind
    (if decide (x2.1 > a1) = true then
      Option.bind (idx x2.2 x2.1) fun x3 =>
        Option.bind (idx x2.2 (W (x2.1 - 1))) fun x4 =>
          Option.bind (shed_Order_1 x3 x4 a3) fun x5 => some (decide (x5 < 0))
    else some false)
    fun x6 =>
    if x6 = true then
      Option.bind (idx x2.2 (W (x2.1 - 1))) fun x7 =>
        Option.bind (idx x2.2 x2.1) fun x8 =>
          Option.bind (idx x2.2 x2.1) fun x9 =>
            Option.bind (idx x2.2 x2.1) fun x10 =>
              Option.bind (setO x2.2 x2.1 x7) fun x11 =>
                Option.bind (idx x11 (W (x2.1 - 1))) fun x12 =>
                  Option.bind (idx x11 (W (x2.1 - 1))) fun x13 =>
                    Option.bind (setO x11 (W (x2.1 - 1)) x8) fun x14 =>
                      some (.inl (W (x2.1 - 1), x14))
    else some (.inr x2.2)
noncomputable def slices_insertionSortCmpFunc_int_L1 (a1 : Int) (a2 : Int) (a3 : Board) : Int × List Int →
  Option
    (Int × List Int ⊕
      List
        Int) := fun x1 =>
  if decide (x1.1 < a2) = true then
    Option.bind (loopO (slices_insertionSortCmpFunc_int_L2 a1 a3) (x1.1, x1.2)) fun x15 =>
      some (.inl (W (x1.1 + 1), x15))
  else some (.inr x1.2)
noncomputable def slices_insertionSortCmpFunc_int (a0 : (List Int)) (a1 : Int) (a2 : Int) (a3 : Board) : Option ((List Int)) :=
  Option.bind (loopO (slices_insertionSortCmpFunc_int_L1 a1 a2 a3) (W (a1 + 1), a0)) fun x16 => some x16
noncomputable def c131 : Con D := ⟨131, [.lf (.sl 0), .lf (.int .i64), .lf (.int .i64), .el 4], [.lf (.sl 0)], [.one (.own 1000), .one (.h 1 []), .one (.h 2 []), .one (.fn 58 [.rp 3 4 [0]])], [(1000, .sl 0 3 0 [])], [], [(1000, .sl 0 3 0 [])], fun h => slices_insertionSortCmpFunc_int h.1 h.2.1 h.2.2.1 h.2.2.2⟩
theorem c131_ok : ConOk Tryz.prog T c131 := fn_ok (Φ := [c58]) (rs := []) (an := (.n none .o (.n none (.loop ⟨[.lf (.int .i64), .lf (.sl 0)], [(8, .one (.h 0 []))], [(1000, .sl 0 3 1 [])], [1000], 2256⟩ true [(.exit 0, ⟨[.lf (.sl 0)], [], [(1000, .sl 0 3 0 [])], [1000], 2256⟩)] (.n none .o (.n none (.n none (.n none .o (.n none (.loop ⟨[.lf (.int .i64), .lf (.sl 0)], [(9, .one (.h 0 []))], [(1000, .sl 0 3 1 [])], [1000], 2642⟩ true [(.exit 2, ⟨[.lf (.sl 0)], [(22, .one (.any)), (23, .one (.any)), (24, .one (.any)), (25, .one (.any)), (26, .one (.any)), (27, .one (.any)), (28, .one (.any)), (29, .one (.any)), (30, .one (.any)), (31, .one (.any)), (32, .one (.any)), (33, .one (.any))], [(1000, .sl 0 3 0 [])], [1000], 2642⟩)] (.n none (.n none (.r (some (true, [(.normal, ⟨[.lf .bool], [(22, .one (.any)), (23, .one (.any)), (24, .one (.any)), (25, .one (.any)), (26, .one (.any)), (27, .one (.any)), (28, .one (.any)), (29, .one (.any)), (30, .one (.any)), (31, .one (.any)), (32, .one (.any)), (33, .one (.any)), (34, .one (.h 0 []))], [], [], 2708⟩)])) .nil) .o) .o)) .o)) .o) .o))) .o))) pOk repOk (AllC.mem (⟨c58_ok, trivial⟩ : AllC _ _ [c58])) hmix Tryz.call131 Tryz.func131 rfl rfl (by kernel_rfl) (fun h => by kernel_rfl)

def c132 : Con D := ⟨132, [.lf (.sl 0), .lf (.int .i64), .lf (.int .i64), .lf (.int .i64), .el 4], [], [.one (.h 0 [0]), .one (.h 1 []), .one (.h 2 []), .one (.h 3 []), .one (.fn 58 [.rp 4 4 [0]])], [], [], [], fun h => none⟩
theorem c132_ok : ConOk Tryz.prog T c132 := none_ok Tryz.call132 rfl (fun h => rfl)

noncomputable def slices_stableCmpFunc_int_L1 (a1 : Int) (a2 : Board) : Int × Int × List Int →
  Option
    (Int × Int × List Int ⊕
      Int ×
        List
          Int) := fun x1 =>
  if decide (x1.2.1 ≤ a1) = true then
    Option.bind (slices_insertionSortCmpFunc_int x1.2.2 x1.1 x1.2.1 a2) fun x2 =>
      some (.inl (x1.2.1, W (x1.2.1 + 20), x2))
  else some (.inr (x1.1, x1.2.2))
noncomputable def slices_stableCmpFunc_int_L3 (a1 : Int) : Int × Int →
  Option (Int × Int ⊕ Int) := fun x6 => if decide (x6.2 ≤ a1) = true then none else some (.inr x6.1)
noncomputable def slices_stableCmpFunc_int_L2 (a1 : Int) : Int →
  Option
    (Int ⊕
      Unit) := fun x5 =>
  if decide (x5 < a1) = true then
    Option.bind (loopO (slices_stableCmpFunc_int_L3 a1) (0, W (2 * x5))) fun x8 =>
      Option.bind (if decide (W (x8 + x5) < a1) = true then none else some ()) fun x10 =>
        some (.inl (W (x5 * 2)))
  else some (.inr ())
noncomputable def slices_stableCmpFunc_int (a0 : (List Int)) (a1 : Int) (a2 : Board) : Option ((List Int)) :=
  Option.bind (loopO (slices_stableCmpFunc_int_L1 a1 a2) (0, 20, a0)) fun x3 =>
    Option.bind (slices_insertionSortCmpFunc_int x3.2 x3.1 a1 a2) fun x4 =>
      Option.bind (loopO (slices_stableCmpFunc_int_L2 a1) 20) fun x11 => some x4
noncomputable def c98 : Con D := ⟨98, [.lf (.sl 0), .lf (.int .i64), .el 4], [.lf (.sl 0)], [.one (.own 1000), .one (.h 1 []), .one (.fn 58 [.rp 2 4 [0]])], [(1000, .sl 0 3 0 [])], [], [(1000, .sl 0 3 0 [])], fun h => slices_stableCmpFunc_int h.1 h.2.1 h.2.2⟩
theorem c98_ok : ConOk Tryz.prog T c98 := fn_ok (Φ := [c131, c132]) (rs := []) (an := (.n none .o (.n none .o (.n none (.n none (.loop ⟨[.lf (.int .i64), .lf (.int .i64), .lf (.sl 0)], [(7, .one (.h 0 [])), (8, .one (.h 1 []))], [(1000, .sl 0 3 2 [])], [1000], 2320⟩ true [(.exit 0, ⟨[.lf (.int .i64), .lf (.sl 0)], [(7, .one (.h 0 []))], [(1000, .sl 0 3 1 [])], [1000], 2320⟩)] .o) .o) (.n none .o (.n none (.loop ⟨[.lf (.int .i64)], [(6, .one (.h 0 []))], [], [], 2706⟩ true [(.exit 2, ⟨[], [], [], [], 2706⟩)] (.n none .o (.n none (.n none .o (.n none (.n none (.loop ⟨[.lf (.int .i64), .lf (.int .i64)], [(7, .one (.h 0 [])), (8, .one (.h 1 []))], [], [], 3219⟩ true [(.exit 4, ⟨[.lf (.int .i64)], [(7, .one (.h 0 []))], [], [], 3219⟩)] .o) .o) (.n none (.n none .o (.n none .o (.n (some (true, [(.normal, ⟨[], [], [], [], 3732⟩)])) .o .o))) .o))) .o))) .o)))))) pOk repOk (AllC.mem (⟨c131_ok, c132_ok, trivial⟩ : AllC _ _ [c131, c132])) hmix Tryz.call98 Tryz.func98 rfl rfl (by kernel_rfl) (fun h => by kernel_rfl)

noncomputable def slices_SortStableFunc_int_int (a0 : (List Int)) (a1 : Board) : Option ((List Int)) := Option.bind (slices_stableCmpFunc_int a0 (len a0) a1) fun x1 => some x1
noncomputable def c57 : Con D := ⟨57, [.lf (.sl 0), .el 4], [.lf (.sl 0)], [.one (.own 1000), .one (.fn 58 [.rp 1 4 [0]])], [(1000, .sl 0 3 0 [])], [], [(1000, .sl 0 3 0 [])], fun h => slices_SortStableFunc_int_int h.1 h.2⟩
theorem c57_ok : ConOk Tryz.prog T c57 := fn_ok (Φ := [c98]) (rs := []) (an := .o) pOk repOk (AllC.mem (⟨c98_ok, trivial⟩ : AllC _ _ [c98])) hmix Tryz.call57 Tryz.func57 rfl rfl (by kernel_rfl) (fun h => by kernel_rfl)

noncomputable def shed_Order_L1 (a0 : Board) : Int × List Int →
  Option
    (Int × List Int ⊕
      List
        Int) := fun x2 =>
  if decide (x2.1 < len a0.Consumers) = true then
    Option.bind (app x2.2 [x2.1]) fun x3 => some (.inl (W (x2.1 + 1), x3))
  else some (.inr x2.2)
noncomputable def shed_Order (a0 : Board) : Option ((List Int)) :=
  Option.bind (board_Check a0) fun x1 =>
    if (x1 != 0) = true then some []
    else
      Option.bind (loopO (shed_Order_L1 a0) (0, [])) fun x4 =>
        Option.bind (slices_SortStableFunc_int_int x4 a0) fun x5 => some x5
noncomputable def c24 : Con D := ⟨24, [.lf (.int .i64), .lf (.sl 5), .lf (.sl 6), .lf (.sl 7), .lf (.int .i64), .lf (.int .i64)], [.lf (.sl 0)], [.agg [.h 0 [], .h 1 [0], .h 2 [0], .h 3 [0], .h 4 [], .h 5 []]], [], [.one (.own 1000)], [(1000, .sl 0 3 0 [])], fun h => shed_Order ⟨h.1, h.2.1, h.2.2.1, h.2.2.2.1, h.2.2.2.2.1, h.2.2.2.2.2⟩⟩
theorem c24_ok : ConOk Tryz.prog T c24 := fn_ok (Φ := [c56, c57]) (rs := [.tmp 2]) (an := (.n none .o (.n none .o (.n none .o (.n none (.n none .o (.n none (.loop ⟨[.lf (.int .i64), .lf (.sl 0)], [(3, .one (.own 2640)), (11, .one (.h 0 []))], [(2640, .sl 0 3 1 [])], [], 2704⟩ true [(.exit 0, ⟨[.lf (.sl 0)], [(3, .one (.own 2640))], [(2640, .sl 0 3 0 [])], [], 2704⟩)] .o) .o)) .o))))) pOk repOk (AllC.mem (⟨c56_ok, c57_ok, trivial⟩ : AllC _ _ [c56, c57])) hmix Tryz.call24 Tryz.func24 rfl rfl (by kernel_rfl) (fun h => by kernel_rfl)

noncomputable def board_size (a0 : Board) (a1 : Int) : Option (Int) :=
  if (a1 == 1) = true then some (len a0.Sources)
  else
    if (a1 == 2) = true then some (len a0.Breakers)
    else
      if (a1 == 3) = true then some a0.Buses
      else if (a1 == 4) = true then some (len a0.Consumers) else some 0
noncomputable def c135 : Con D := ⟨135, [.lf (.int .i64), .lf (.sl 5), .lf (.sl 6), .lf (.sl 7), .lf (.int .i64), .lf (.int .i64), .lf (.int .i64)], [.lf (.int .i64)], [.agg [.h 0 [], .h 1 [0], .h 2 [0], .h 3 [0], .h 4 [], .h 5 []], .one (.h 6 [])], [], [.one (.h 0 [])], [], fun h => board_size ⟨h.1, h.2.1, h.2.2.1, h.2.2.2.1, h.2.2.2.2.1, h.2.2.2.2.2.1⟩ h.2.2.2.2.2.2⟩
theorem c135_ok : ConOk Tryz.prog T c135 := fn_ok (Φ := []) (rs := [.tmp 4]) (an := .o) pOk repOk (AllC.mem (l := []) trivial) hmix Tryz.call135 Tryz.func135 rfl rfl (by kernel_rfl) (fun h => by kernel_rfl)

noncomputable def cmp_Or_int_L1 (a0 : List
  Int) : Int →
  Option
    (Int ⊕
      Unit ⊕
        Int) := fun x1 =>
  if decide (x1 < len a0) = true then
    Option.bind (idx a0 x1) fun x2 =>
      if (x2 != 0) = true then some (.inr (.inr x2)) else some (.inl (W (x1 + 1)))
  else some (.inr (.inl ()))
noncomputable def cmp_Or_int (a0 : (List Int)) : Option (Int) :=
  Option.bind (loopO (cmp_Or_int_L1 a0) 0) fun x3 =>
    Sum.elim (fun x4 => some 0) (fun x5 => some x5) x3
noncomputable def c136 : Con D := ⟨136, [.lf (.sl 0)], [.lf (.int .i64)], [.one (.h 0 [0])], [], [.one (.h 0 [])], [], fun h => cmp_Or_int h⟩
theorem c136_ok : ConOk Tryz.prog T c136 := fn_ok (Φ := []) (rs := [.tmp 2]) (an := (.n none .o (.n none .o (.n none (.n none .o (.n none (.loop ⟨[.lf (.int .i64)], [(8, .one (.h 0 []))], [], [], 2384⟩ false [(.exit 0, ⟨[], [], [], [], 2384⟩)] .o) .o)) .o)))) pOk repOk (AllC.mem (l := []) trivial) hmix Tryz.call136 Tryz.func136 rfl rfl (by kernel_rfl) (fun h => by kernel_rfl)

noncomputable def board_broken_L1 (a0 : Board) (a1 : List
  Part) : Int →
  Option
    (Int ⊕
      Unit ⊕
        Bool) := fun x1 =>
  if decide (x1 < len a1) = true then
    Option.bind (idx a1 x1) fun x2 =>
      Option.bind
        (Option.bind (board_size a0 x2.Kind) fun x3 =>
          Option.bind (board_in x2.Number 0 (W (x3 - 1))) fun x4 =>
            if (!x4) = true then some true
            else
              if decide (x1 > 0) = true then
                Option.bind (idx a1 (W (x1 - 1))) fun x5 =>
                  Option.bind (cmp_Compare_int x5.Kind x2.Kind) fun x6 =>
                    Option.bind (idx a1 (W (x1 - 1))) fun x7 =>
                      Option.bind (cmp_Compare_int x7.Number x2.Number) fun x8 =>
                        Option.bind (cmp_Or_int [x6, x8]) fun x9 => some (decide (x9 ≥ 0))
              else some false)
        fun x10 => if x10 = true then some (.inr (.inr false)) else some (.inl (W (x1 + 1)))
  else some (.inr (.inl ()))
noncomputable def board_broken (a0 : Board) (a1 : (List Part)) : Option (Bool) :=
  Option.bind (loopO (board_broken_L1 a0 a1) 0) fun x11 =>
    Sum.elim (fun x12 => some (decide (len a1 ≤ 32))) (fun x13 => some x13) x11
noncomputable def c104 : Con D := ⟨104, [.lf (.int .i64), .lf (.sl 5), .lf (.sl 6), .lf (.sl 7), .lf (.int .i64), .lf (.int .i64), .lf (.sl 10)], [.lf .bool], [.agg [.h 0 [], .h 1 [0], .h 2 [0], .h 3 [0], .h 4 [], .h 5 []], .one (.h 6 [0])], [], [.one (.h 0 [])], [], fun h => board_broken ⟨h.1, h.2.1, h.2.2.1, h.2.2.2.1, h.2.2.2.2.1, h.2.2.2.2.2.1⟩ h.2.2.2.2.2.2⟩
theorem c104_ok : ConOk Tryz.prog T c104 := fn_ok (Φ := [c59, c94, c135, c136]) (rs := [.tmp 4]) (an := (.n none .o (.n none (.n none .o (.n none (.loop ⟨[.lf (.int .i64)], [(9, .one (.h 0 []))], [], [], 2384⟩ false [(.exit 0, ⟨[], [], [], [], 2384⟩)] (.n none .o (.n none .o (.n none (.n none (.n none .o (.n none (.r (some (true, [(.normal, ⟨[.lf .bool], [(24, .one (.any)), (25, .one (.any)), (26, .one (.any)), (27, .one (.any)), (28, .one (.any)), (29, .one (.any)), (30, .one (.any)), (31, .one (.any)), (32, .one (.any)), (33, .one (.any)), (34, .one (.any)), (35, .one (.any)), (36, .one (.any)), (37, .one (.any)), (38, .one (.any)), (39, .one (.any)), (40, .one (.any)), (41, .one (.any)), (42, .one (.any)), (43, .one (.any)), (44, .one (.any)), (45, .one (.any)), (46, .one (.any)), (47, .one (.any)), (48, .one (.any)), (49, .one (.h 0 []))], [], [], 2897⟩)])) .nil) .o)) .o) .o)))) .o)) .o))) pOk repOk (AllC.mem (⟨c59_ok, c94_ok, c135_ok, c136_ok, trivial⟩ : AllC _ _ [c59, c94, c135, c136])) hmix Tryz.call104 Tryz.func104 rfl rfl (by kernel_rfl) (fun h => by kernel_rfl)

noncomputable def board_running (a0 : Running) : Option (Bool) :=
  Option.bind
    (Option.bind (board_in a0.State 0 3) fun x1 =>
      if x1 = true then
        Option.bind (board_in a0.Since 0 2147483648) fun x2 =>
          if x2 = true then
            Option.bind (board_in a0.Frequency 0 6000) fun x3 =>
              if x3 = true then Option.bind (board_in a0.Phase 0 3599) fun x4 => some x4
              else some false
          else some false
      else some false)
    fun x5 => some x5
noncomputable def c107 : Con D := ⟨107, [.lf (.int .i64), .lf (.int .i64), .lf (.int .i64), .lf (.int .i64)], [.lf .bool], [.agg [.h 0 [], .h 1 [], .h 2 [], .h 3 []]], [], [.one (.h 0 [])], [], fun h => board_running ⟨h.1, h.2.1, h.2.2.1, h.2.2.2⟩⟩
theorem c107_ok : ConOk Tryz.prog T c107 := fn_ok (Φ := [c94]) (rs := [.tmp 2]) (an := (.n none .o (.n none (.r (some (true, [(.normal, ⟨[.lf .bool], [(2, .one (.h 0 []))], [], [], 2192⟩)])) .nil) .o))) pOk repOk (AllC.mem (⟨c94_ok, trivial⟩ : AllC _ _ [c94])) hmix Tryz.call107 Tryz.func107 rfl rfl (by kernel_rfl) (fun h => by kernel_rfl)

noncomputable def board_State_1 (a0 : Running) : Option (Bool) := Option.bind (board_running a0) fun x1 => some !x1
noncomputable def c106 : Con D := ⟨106, [.lf (.int .i64), .lf (.int .i64), .lf (.int .i64), .lf (.int .i64)], [.lf .bool], [.agg [.h 0 [], .h 1 [], .h 2 [], .h 3 []]], [], [.one (.h 0 [])], [], fun h => board_State_1 ⟨h.1, h.2.1, h.2.2.1, h.2.2.2⟩⟩
theorem c106_ok : ConOk Tryz.prog T c106 := fn_ok (Φ := [c107]) (rs := [.tmp 2]) (an := .o) pOk repOk (AllC.mem (⟨c107_ok, trivial⟩ : AllC _ _ [c107])) hmix Tryz.call106 Tryz.func106 rfl rfl (by kernel_rfl) (fun h => by kernel_rfl)

noncomputable def slices_IndexFunc_Running_Running_L1 (a0 : List
  Running) : Int →
  Option
    (Int ⊕
      Unit ⊕
        Int) := fun x1 =>
  if decide (x1 < len a0) = true then
    Option.bind (idx a0 x1) fun x2 =>
      Option.bind (board_State_1 x2) fun x3 =>
        if x3 = true then some (.inr (.inr x1)) else some (.inl (W (x1 + 1)))
  else some (.inr (.inl ()))
noncomputable def slices_IndexFunc_Running_Running (a0 : (List Running)) : Option (Int) :=
  Option.bind (loopO (slices_IndexFunc_Running_Running_L1 a0) 0) fun x4 =>
    Sum.elim (fun x5 => some (-1)) (fun x6 => some x6) x4
noncomputable def c137 : Con D := ⟨137, [.lf (.sl 9)], [.lf (.int .i64)], [.one (.h 0 [0]), .one (.fn 106 [])], [], [.one (.h 0 [])], [], fun h => slices_IndexFunc_Running_Running h⟩
theorem c137_ok : ConOk Tryz.prog T c137 := fn_ok (Φ := [c106]) (rs := [.tmp 4]) (an := (.n none .o (.n none (.n none .o (.n none (.loop ⟨[.lf (.int .i64)], [(8, .one (.h 0 []))], [], [], 2320⟩ false [(.exit 0, ⟨[], [], [], [], 2320⟩)] .o) .o)) .o))) pOk repOk (AllC.mem (⟨c106_ok, trivial⟩ : AllC _ _ [c106])) hmix Tryz.call137 Tryz.func137 rfl rfl (by kernel_rfl) (fun h => by kernel_rfl)

noncomputable def slices_ContainsFunc_Running_Running (a0 : (List Running)) : Option (Bool) := Option.bind (slices_IndexFunc_Running_Running a0) fun x1 => some (decide (x1 ≥ 0))
noncomputable def c105 : Con D := ⟨105, [.lf (.sl 9)], [.lf .bool], [.one (.h 0 [0]), .one (.fn 106 [])], [], [.one (.h 0 [])], [], fun h => slices_ContainsFunc_Running_Running h⟩
theorem c105_ok : ConOk Tryz.prog T c105 := fn_ok (Φ := [c137]) (rs := [.tmp 4]) (an := .o) pOk repOk (AllC.mem (⟨c137_ok, trivial⟩ : AllC _ _ [c137])) hmix Tryz.call105 Tryz.func105 rfl rfl (by kernel_rfl) (fun h => by kernel_rfl)

end Rx
end Go.Proofs.YtfnphdhcgkondaaGreat
