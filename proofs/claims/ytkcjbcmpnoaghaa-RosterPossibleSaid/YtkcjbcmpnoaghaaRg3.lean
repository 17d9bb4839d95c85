/- Plain functions, walks. Written by a program (wip/gen). -/
import Derived.Test.YtkcjbcmpnoaghaaRt
import Derived.Test.YtkcjbcmpnoaghaaRf
import Derived.Test.YtkcjbcmpnoaghaaRg1
import Derived.Test.YtkcjbcmpnoaghaaRg2
set_option linter.unusedVariables false
set_option maxRecDepth 100000
namespace Go.Proofs.Ytkcjbcmpnoaghaa
open Go Go.RowKit Dp
namespace Rx

noncomputable def roster_breaker (a0 : Board) (a1 : Int) : Option (Int) := Option.bind (slices_IndexFunc_Breaker_Breaker a0.Breakers a1) fun x1 => some x1
noncomputable def c49 : Con D := ⟨49, [.lf (.int .i64), .lf (.sl 5), .lf (.sl 6), .lf (.sl 7), .lf (.int .i64), .lf (.int .i64), .lf (.int .i64)], [.lf (.int .i64)], [.agg [.h 0 [], .h 1 [0], .h 2 [0], .h 3 [0], .h 4 [], .h 5 []], .one (.h 6 [])], [], [.one (.h 0 [])], [], fun h => roster_breaker ⟨h.1, h.2.1, h.2.2.1, h.2.2.2.1, h.2.2.2.2.1, h.2.2.2.2.2.1⟩ h.2.2.2.2.2.2⟩
theorem c49_ok : ConOk Try.prog T c49 := fn_ok (Φ := [c85]) (rs := [.tmp 4]) (an := .o) pOk repOk (AllC.mem (⟨c85_ok, trivial⟩ : AllC _ _ [c85])) hmix Try.call49 Try.func49 rfl rfl (by kernel_rfl) (fun h => by kernel_rfl)

noncomputable def slices_Index_Part_Part_L1 (a0 : List
  Part) (a1 : Part) : Int →
  Option
    (Int ⊕
      Unit ⊕
        Int) := fun x1 =>
  if decide (x1 < len a0) = true then
    Option.bind (idx a0 x1) fun x2 =>
      if (a1.Kind == x2.Kind && a1.Number == x2.Number) = true then some (.inr (.inr x1))
      else some (.inl (W (x1 + 1)))
  else some (.inr (.inl ()))
noncomputable def slices_Index_Part_Part (a0 : (List Part)) (a1 : Part) : Option (Int) :=
  Option.bind (loopO (slices_Index_Part_Part_L1 a0 a1) 0) fun x3 =>
    Sum.elim (fun x4 => some (-1)) (fun x5 => some x5) x3
noncomputable def c105 : Con D := ⟨105, [.lf (.sl 11), .lf (.int .i64), .lf (.int .i64)], [.lf (.int .i64)], [.one (.h 0 [0]), .agg [.h 1 [], .h 2 []]], [], [.one (.h 0 [])], [], fun h => slices_Index_Part_Part h.1 ⟨h.2.1, h.2.2⟩⟩
theorem c105_ok : ConOk Try.prog T c105 := fn_ok (Φ := []) (rs := [.tmp 4]) (an := (.n none .o (.n none (.n none .o (.n none (.loop ⟨[.lf (.int .i64)], [(8, .one (.h 0 []))], [], [], 2384⟩ false [(.exit 0, ⟨[], [], [], [], 2384⟩)] .o) .o)) .o))) pOk repOk (AllC.mem (l := []) trivial) hmix Try.call105 Try.func105 rfl rfl (by kernel_rfl) (fun h => by kernel_rfl)

noncomputable def slices_Contains_Part_Part (a0 : (List Part)) (a1 : Part) : Option (Bool) := Option.bind (slices_Index_Part_Part a0 a1) fun x1 => some (decide (x1 ≥ 0))
noncomputable def c88 : Con D := ⟨88, [.lf (.sl 11), .lf (.int .i64), .lf (.int .i64)], [.lf .bool], [.one (.h 0 [0]), .agg [.h 1 [], .h 2 []]], [], [.one (.h 0 [])], [], fun h => slices_Contains_Part_Part h.1 ⟨h.2.1, h.2.2⟩⟩
theorem c88_ok : ConOk Try.prog T c88 := fn_ok (Φ := [c105]) (rs := [.tmp 4]) (an := .o) pOk repOk (AllC.mem (⟨c105_ok, trivial⟩ : AllC _ _ [c105])) hmix Try.call88 Try.func88 rfl rfl (by kernel_rfl) (fun h => by kernel_rfl)

noncomputable def board_Broken (a0 : Power) (a1 : Int) (a2 : Int) : Option (Bool) := Option.bind (slices_Contains_Part_Part a0.Broken (Part.mk a1 a2)) fun x1 => some x1
noncomputable def c53 : Con D := ⟨53, [.lf (.sl 1), .lf (.sl 10), .lf (.sl 0), .lf (.sl 11), .lf (.int .i64), .lf (.int .i64)], [.lf .bool], [.agg [.h 0 [0], .h 1 [0], .h 2 [0], .h 3 [0]], .one (.h 4 []), .one (.h 5 [])], [], [.one (.h 0 [])], [], fun h => board_Broken ⟨h.1, h.2.1, h.2.2.1, h.2.2.2.1⟩ h.2.2.2.2.1 h.2.2.2.2.2⟩
theorem c53_ok : ConOk Try.prog T c53 := fn_ok (Φ := [c88]) (rs := [.tmp 6]) (an := .o) pOk repOk (AllC.mem (⟨c88_ok, trivial⟩ : AllC _ _ [c88])) hmix Try.call53 Try.func53 rfl rfl (by kernel_rfl) (fun h => by kernel_rfl)

noncomputable def roster_helps (a0 : Board) (a1 : Power) (a2 : Island) (a3 : Int) : Option (Bool) :=
  Option.bind (roster_breaker a0 a3) fun x1 =>
    Option.bind (idx a0.Breakers x1) fun x2 =>
      Option.bind
        (Option.bind (board_Broken a1 1 a3) fun x3 =>
          if x3 = true then some true
          else
            Option.bind (board_Broken a1 2 x1) fun x4 =>
              if x4 = true then some true else Option.bind (board_Broken a1 3 x2.A) fun x5 => some x5)
        fun x6 =>
        Option.bind
          (if (!x6) = true then
            Option.bind (slices_Contains_int_int a2.Buses x2.A) fun x7 =>
              if x7 = true then
                Option.bind (slices_Contains_int_int a2.Sources a3) fun x8 =>
                  if (!x8) = true then Option.bind (idx a1.Sources a3) fun x9 => some (x9.State != 3)
                  else some false
              else some false
          else some false)
          fun x10 => some x10
noncomputable def c42 : Con D := ⟨42, [.lf (.int .i64), .lf (.sl 5), .lf (.sl 6), .lf (.sl 7), .lf (.int .i64), .lf (.int .i64), .lf (.sl 1), .lf (.sl 10), .lf (.sl 0), .lf (.sl 11), .lf (.sl 0), .lf (.sl 0), .lf (.sl 0), .lf (.int .i64)], [.lf .bool], [.agg [.h 0 [], .h 1 [0], .h 2 [0], .h 3 [0], .h 4 [], .h 5 []], .agg [.h 6 [0], .h 7 [0], .h 8 [0], .h 9 [0]], .agg [.h 10 [0], .h 11 [0], .h 12 [0]], .one (.h 13 [])], [], [.one (.h 0 [])], [], fun h => roster_helps ⟨h.1, h.2.1, h.2.2.1, h.2.2.2.1, h.2.2.2.2.1, h.2.2.2.2.2.1⟩ ⟨h.2.2.2.2.2.2.1, h.2.2.2.2.2.2.2.1, h.2.2.2.2.2.2.2.2.1, h.2.2.2.2.2.2.2.2.2.1⟩ ⟨h.2.2.2.2.2.2.2.2.2.2.1, h.2.2.2.2.2.2.2.2.2.2.2.1, h.2.2.2.2.2.2.2.2.2.2.2.2.1⟩ h.2.2.2.2.2.2.2.2.2.2.2.2.2⟩
theorem c42_ok : ConOk Try.prog T c42 := fn_ok (Φ := [c49, c53, c72]) (rs := [.tmp 8]) (an := (.n none .o (.n none .o (.n none .o (.n none (.r (some (true, [(.normal, ⟨[.lf .bool], [(11, .one (.h 0 []))], [], [], 3024⟩)])) .nil) (.n none (.r (some (true, [(.normal, ⟨[.lf .bool], [(8, .one (.h 0 []))], [], [], 3089⟩)])) .nil) .o)))))) pOk repOk (AllC.mem (⟨c49_ok, c53_ok, c72_ok, trivial⟩ : AllC _ _ [c49, c53, c72])) hmix Try.call42 Try.func42 rfl rfl (by kernel_rfl) (fun h => by kernel_rfl)

noncomputable def roster_Next_L2 (a0 : Board) (a1 : Power) (x1 : List Int ×
  List Int ×
    List Int ×
      Bool) (x3 : Int) : Int →
  Option
    (Int ⊕
      Unit ⊕
        Int ⊕
          Unit ⊕
            Int ×
              Bool) := fun x4 =>
  if decide (x4 < len a1.Sources) = true then
    Option.bind (idx a1.Sources x4) fun x5 =>
      Option.bind
        (if (x5.State == x3) = true then
          Option.bind (roster_helps a0 a1 (Island.mk x1.1 x1.2.1 x1.2.2.1) x4) fun x6 => some x6
        else some false)
        fun x7 =>
        if x7 = true then some (.inr (.inr (.inr (.inr (x4, true)))))
        else some (.inl (W (x4 + 1)))
  else some (.inr (.inl ()))
noncomputable def roster_Next_L1 (a0 : Board) (a1 : Power) (x1 : List Int ×
  List Int ×
    List Int ×
      Bool) : Int →
  Option
    (Int ⊕
      Unit ⊕
        Int ×
          Bool) := fun x2 =>
  if decide (x2 < len [2, 1, 0]) = true then
    Option.bind (idx [2, 1, 0] x2) fun x3 =>
      Option.bind (loopO (roster_Next_L2 a0 a1 x1 x3) 0) fun x8 =>
        Sum.elim (fun x9 => some (.inl (W (x2 + 1)))) (fun x10 => some x10) x8
  else some (.inr (.inl ()))
noncomputable def roster_Next (a0 : Board) (a1 : Power) (a2 : Int) : Option (Int × Bool) :=
  Option.bind (board_Of a0 a1 a2) fun x1 =>
    if (!x1.2.2.2) = true then some (0, false)
    else
      Option.bind (loopO (roster_Next_L1 a0 a1 x1) 0) fun x11 =>
        Sum.elim (fun x12 => some (0, false)) (fun x13 => some x13) x11
noncomputable def c10 : Con D := ⟨10, [.lf (.int .i64), .lf (.sl 5), .lf (.sl 6), .lf (.sl 7), .lf (.int .i64), .lf (.int .i64), .lf (.sl 1), .lf (.sl 10), .lf (.sl 0), .lf (.sl 11), .lf (.int .i64)], [.lf (.int .i64), .lf .bool], [.agg [.h 0 [], .h 1 [0], .h 2 [0], .h 3 [0], .h 4 [], .h 5 []], .agg [.h 6 [0], .h 7 [0], .h 8 [0], .h 9 [0]], .one (.h 10 [])], [], [.one (.h 0 []), .one (.h 1 [])], [], fun h => roster_Next ⟨h.1, h.2.1, h.2.2.1, h.2.2.2.1, h.2.2.2.2.1, h.2.2.2.2.2.1⟩ ⟨h.2.2.2.2.2.2.1, h.2.2.2.2.2.2.2.1, h.2.2.2.2.2.2.2.2.1, h.2.2.2.2.2.2.2.2.2.1⟩ h.2.2.2.2.2.2.2.2.2.2⟩
theorem c10_ok : ConOk Try.prog T c10 := fn_ok (Φ := [c41, c42]) (rs := [.tmp 6, .tmp 7]) (an := (.n none .o (.n none .o (.n none .o (.n none (.n none .o (.n none (.loop ⟨[.lf (.int .i64)], [(25, .one (.h 0 []))], [], [], 3280⟩ false [(.exit 0, ⟨[], [], [], [], 3280⟩)] (.n none .o (.n none .o (.n none (.n none (.n none .o (.n none .o (.n none (.loop ⟨[.lf (.int .i64)], [(32, .one (.h 0 []))], [], [], 3857⟩ false [(.exit 2, ⟨[], [], [], [], 3857⟩)] (.n none .o (.n none .o (.n none (.n none (.n none .o (.n none (.r (some (true, [(.normal, ⟨[.lf .bool], [(42, .one (.any)), (43, .one (.any)), (44, .one (.any)), (45, .one (.any)), (46, .one (.any)), (47, .one (.h 0 []))], [], [], 4370⟩)])) .nil) .o)) .o) .o)))) .o))) .o) .o)))) .o)) .o))))) pOk repOk (AllC.mem (⟨c41_ok, c42_ok, trivial⟩ : AllC _ _ [c41, c42])) hmix Try.call10 Try.func10 rfl rfl (by kernel_rfl) (fun h => by kernel_rfl)

noncomputable def dynposref15_Find (a0 : Board) (a1 : Int) (a2 : Int) : Option ((List Int)) :=
  Option.bind (dynposref15_Check a0) fun x1 =>
    if (x1 != 0) = true then some [] else Option.bind (dynposref15_of a0 a1 a2) fun x2 => some x2
noncomputable def c11 : Con D := ⟨11, [.lf (.int .i64), .lf (.sl 5), .lf (.sl 6), .lf (.sl 7), .lf (.int .i64), .lf (.int .i64), .lf (.int .i64), .lf (.int .i64)], [.lf (.sl 0)], [.agg [.h 0 [], .h 1 [0], .h 2 [0], .h 3 [0], .h 4 [], .h 5 []], .one (.h 6 []), .one (.h 7 [])], [], [.one (.own 1000)], [(1000, .sl 0 3 0 [])], fun h => dynposref15_Find ⟨h.1, h.2.1, h.2.2.1, h.2.2.2.1, h.2.2.2.2.1, h.2.2.2.2.2.1⟩ h.2.2.2.2.2.2.1 h.2.2.2.2.2.2.2⟩
theorem c11_ok : ConOk Try.prog T c11 := fn_ok (Φ := [c43, c44]) (rs := [.tmp 6]) (an := .o) pOk repOk (AllC.mem (⟨c43_ok, c44_ok, trivial⟩ : AllC _ _ [c43, c44])) hmix Try.call11 Try.func11 rfl rfl (by kernel_rfl) (fun h => by kernel_rfl)

noncomputable def dynposref15_Broken_L1 (a0 : Power) (a1 : Int) (a2 : Int) : Int →
  Option
    (Int ⊕
      Unit ⊕
        Bool) := fun x1 =>
  if decide (x1 < len a0.Broken) = true then
    Option.bind (idx a0.Broken x1) fun x2 =>
      Option.bind (if (x2.Kind == a1) = true then some (x2.Number == a2) else some false) fun x3 =>
        if x3 = true then some (.inr (.inr true)) else some (.inl (W (x1 + 1)))
  else some (.inr (.inl ()))
noncomputable def dynposref15_Broken (a0 : Power) (a1 : Int) (a2 : Int) : Option (Bool) :=
  Option.bind (loopO (dynposref15_Broken_L1 a0 a1 a2) 0) fun x4 =>
    Sum.elim (fun x5 => some false) (fun x6 => some x6) x4
noncomputable def c13 : Con D := ⟨13, [.lf (.sl 1), .lf (.sl 10), .lf (.sl 0), .lf (.sl 11), .lf (.int .i64), .lf (.int .i64)], [.lf .bool], [.agg [.h 0 [0], .h 1 [0], .h 2 [0], .h 3 [0]], .one (.h 4 []), .one (.h 5 [])], [], [.one (.h 0 [])], [], fun h => dynposref15_Broken ⟨h.1, h.2.1, h.2.2.1, h.2.2.2.1⟩ h.2.2.2.2.1 h.2.2.2.2.2⟩
theorem c13_ok : ConOk Try.prog T c13 := fn_ok (Φ := []) (rs := [.tmp 6]) (an := (.n none .o (.n none (.n none .o (.n none (.loop ⟨[.lf (.int .i64)], [(12, .one (.h 0 []))], [], [], 2448⟩ false [(.exit 0, ⟨[], [], [], [], 2448⟩)] (.n none .o (.n none .o (.n none (.n none (.n none .o (.n none (.r (some (true, [(.normal, ⟨[.lf .bool], [(21, .one (.any)), (22, .one (.any)), (23, .one (.any)), (24, .one (.any)), (25, .one (.h 0 []))], [], [], 2833⟩)])) .nil) .o)) .o) .o)))) .o)) .o))) pOk repOk (AllC.mem (l := []) trivial) hmix Try.call13 Try.func13 rfl rfl (by kernel_rfl) (fun h => by kernel_rfl)

noncomputable def roster_Valid (a0 : Table) : Option (Bool) :=
  Option.bind
    (if decide (a0.Stop ≥ 1) = true then
      if decide (a0.Stop ≤ 99) = true then
        if decide (a0.Start > a0.Stop) = true then
          if decide (a0.Start ≤ 100) = true then
            if decide (a0.Delay ≥ 0) = true then some (decide (a0.Delay ≤ 600)) else some false
          else some false
        else some false
      else some false
    else some false)
    fun x1 => some x1
noncomputable def c21 : Con D := ⟨21, [.lf (.int .i64), .lf (.int .i64), .lf (.int .i64)], [.lf .bool], [.agg [.h 0 [], .h 1 [], .h 2 []]], [], [.one (.h 0 [])], [], fun h => roster_Valid ⟨h.1, h.2.1, h.2.2⟩⟩
theorem c21_ok : ConOk Try.prog T c21 := fn_ok (Φ := []) (rs := [.tmp 2]) (an := (.n none .o (.n none (.r (some (true, [(.normal, ⟨[.lf .bool], [(2, .one (.h 0 []))], [], [], 2192⟩)])) .nil) .o))) pOk repOk (AllC.mem (l := []) trivial) hmix Try.call21 Try.func21 rfl rfl (by kernel_rfl) (fun h => by kernel_rfl)

noncomputable def roster_Step_1 (a0 : Int) (a1 : Int) : Option (Bool) :=
  Option.bind (if decide (a0 ≥ (-1)) = true then some (decide (a0 ≤ a1)) else some false) fun x1 => some x1
noncomputable def c45 : Con D := ⟨45, [.lf (.int .i64), .el 0], [.lf .bool], [.one (.h 0 []), .one (.rp 1 0 [0])], [], [.one (.h 0 [])], [], fun h => roster_Step_1 h.1 h.2⟩
theorem c45_ok : ConOk Try.prog T c45 := fn_ok (Φ := []) (rs := [.tmp 3]) (an := (.n none .o (.n none (.r (some (true, [(.normal, ⟨[.lf .bool], [(3, .one (.h 0 []))], [], [], 2128⟩)])) .nil) .o))) pOk repOk (AllC.mem (l := []) trivial) hmix Try.call45 Try.func45 rfl rfl (by kernel_rfl) (fun h => by kernel_rfl)

noncomputable def slices_Backward_int_int (a0 : (List Int)) : Option ((List Int)) := some a0
noncomputable def c52 : Con D := ⟨52, [.lf (.sl 0)], [.lf (.sl 0)], [.one (.h 0 [0])], [], [.one (.fn 87 [.ptr 1000 0])], [(1000, .box [.h 0 [0]])], fun h => slices_Backward_int_int h⟩
theorem c52_ok : ConOk Try.prog T c52 := fn_ok (Φ := []) (rs := [.tmp 2]) (an := .o) pOk repOk (AllC.mem (l := []) trivial) hmix Try.call52 Try.func52 rfl rfl (by kernel_rfl) (fun h => by kernel_rfl)

noncomputable def balance_Rating_L1 (a0 : Board) (x1 : List Int ×
  List Int ×
    List Int ×
      Bool) : Int × Int →
  Option
    (Int × Int ⊕
      Int) := fun x2 =>
  if decide (x2.2 < len x1.2.1) = true then
    Option.bind (idx x1.2.1 x2.2) fun x3 =>
      Option.bind (idx a0.Sources x3) fun x4 => some (.inl (W (x2.1 + x4.Rating), W (x2.2 + 1)))
  else some (.inr x2.1)
noncomputable def balance_Rating (a0 : Board) (a1 : Power) (a2 : Int) : Option (Int) :=
  Option.bind (board_Of a0 a1 a2) fun x1 =>
    Option.bind (loopO (balance_Rating_L1 a0 x1) (0, 0)) fun x5 => some x5
noncomputable def c54 : Con D := ⟨54, [.lf (.int .i64), .lf (.sl 5), .lf (.sl 6), .lf (.sl 7), .lf (.int .i64), .lf (.int .i64), .lf (.sl 1), .lf (.sl 10), .lf (.sl 0), .lf (.sl 11), .lf (.int .i64)], [.lf (.int .i64)], [.agg [.h 0 [], .h 1 [0], .h 2 [0], .h 3 [0], .h 4 [], .h 5 []], .agg [.h 6 [0], .h 7 [0], .h 8 [0], .h 9 [0]], .one (.h 10 [])], [], [.one (.h 0 [])], [], fun h => balance_Rating ⟨h.1, h.2.1, h.2.2.1, h.2.2.2.1, h.2.2.2.2.1, h.2.2.2.2.2.1⟩ ⟨h.2.2.2.2.2.2.1, h.2.2.2.2.2.2.2.1, h.2.2.2.2.2.2.2.2.1, h.2.2.2.2.2.2.2.2.2.1⟩ h.2.2.2.2.2.2.2.2.2.2⟩
theorem c54_ok : ConOk Try.prog T c54 := fn_ok (Φ := [c41]) (rs := [.tmp 6]) (an := (.n none .o (.n none .o (.n none .o (.n none (.n none .o (.n none (.loop ⟨[.lf (.int .i64), .lf (.int .i64)], [(9, .one (.h 0 [])), (22, .one (.h 1 []))], [], [], 3216⟩ true [(.exit 0, ⟨[.lf (.int .i64)], [(9, .one (.h 0 []))], [], [], 3216⟩)] .o) .o)) .o))))) pOk repOk (AllC.mem (⟨c41_ok, trivial⟩ : AllC _ _ [c41])) hmix Try.call54 Try.func54 rfl rfl (by kernel_rfl) (fun h => by kernel_rfl)

noncomputable def balance_Load_L1 (a1 : Power) (x1 : List Int ×
  List Int ×
    List Int ×
      Bool) : Int × Int →
  Option
    (Int × Int ⊕
      Int) := fun x2 =>
  if decide (x2.2 < len x1.2.2.1) = true then
    Option.bind (idx x1.2.2.1 x2.2) fun x3 =>
      Option.bind
        (if decide (len x1.2.1 > 0) = true then
          Option.bind (idx a1.Limits x3) fun x4 => some (W (x2.1 + x4))
        else some x2.1)
        fun x5 => some (.inl (x5, W (x2.2 + 1)))
  else some (.inr x2.1)
noncomputable def balance_Load (a0 : Board) (a1 : Power) (a2 : Int) : Option (Int) :=
  Option.bind (board_Of a0 a1 a2) fun x1 =>
    Option.bind (loopO (balance_Load_L1 a1 x1) (0, 0)) fun x6 => some x6
noncomputable def c55 : Con D := ⟨55, [.lf (.int .i64), .lf (.sl 5), .lf (.sl 6), .lf (.sl 7), .lf (.int .i64), .lf (.int .i64), .lf (.sl 1), .lf (.sl 10), .lf (.sl 0), .lf (.sl 11), .lf (.int .i64)], [.lf (.int .i64)], [.agg [.h 0 [], .h 1 [0], .h 2 [0], .h 3 [0], .h 4 [], .h 5 []], .agg [.h 6 [0], .h 7 [0], .h 8 [0], .h 9 [0]], .one (.h 10 [])], [], [.one (.h 0 [])], [], fun h => balance_Load ⟨h.1, h.2.1, h.2.2.1, h.2.2.2.1, h.2.2.2.2.1, h.2.2.2.2.2.1⟩ ⟨h.2.2.2.2.2.2.1, h.2.2.2.2.2.2.2.1, h.2.2.2.2.2.2.2.2.1, h.2.2.2.2.2.2.2.2.2.1⟩ h.2.2.2.2.2.2.2.2.2.2⟩
theorem c55_ok : ConOk Try.prog T c55 := fn_ok (Φ := [c41]) (rs := [.tmp 6]) (an := (.n none .o (.n none .o (.n none .o (.n none (.n none .o (.n none (.loop ⟨[.lf (.int .i64), .lf (.int .i64)], [(9, .one (.h 0 [])), (22, .one (.h 1 []))], [], [], 3216⟩ true [(.exit 0, ⟨[.lf (.int .i64)], [(9, .one (.h 0 []))], [], [], 3216⟩)] (.n none .o (.n none .o (.n none (.n none (.n none .o (.n none .o (.n (some (true, [(.normal, ⟨[.lf (.int .i64)], [(9, .one (.h 0 []))], [], [], 3794⟩)])) .o .o))) .o) .o)))) .o)) .o))))) pOk repOk (AllC.mem (⟨c41_ok, trivial⟩ : AllC _ _ [c41])) hmix Try.call55 Try.func55 rfl rfl (by kernel_rfl) (fun h => by kernel_rfl)

theorem bk87 : BkOk Try.prog T (87, 0) := ⟨Try.f87, 22, 3, 3, 4, 123, .one (.int .i64), rfl, Try.call87, Try.func87, by kernel_rfl, rfl, rfl, rfl, rfl, rfl, rfl, rfl⟩
noncomputable def roster_Low_L1 (a0 : Board) (a1 : Table) (a2 : Power) (a3 : Int) (x4 : List
  Int) : Int × Int × Bool →
  Option
    (Int × Int × Bool ⊕
      Int × Bool ⊕
        Int ×
          Bool) := fun x5 =>
  if decide (x5.1 < 0) = true then some (.inr (.inl (x5.2.1, x5.2.2)))
  else
    Option.bind (idx x4 x5.1) fun x6 =>
      Option.bind
        (Option.bind (roster_breaker a0 x6) fun x7 =>
          Option.bind (board_Broken a2 2 x7) fun x8 =>
            if x8 = true then some (.inl (x5.2.1, x5.2.2))
            else
              Option.bind (balance_Rating a0 a2 a3) fun x9 =>
                Option.bind (idx a0.Sources x6) fun x10 =>
                  Option.bind (balance_Load a0 a2 a3) fun x11 =>
                    if decide (W (100 * x11) ≤ W (a1.Stop * W (x9 - x10.Rating))) = true then
                      some (.inr (.inr (.inr (x6, true))))
                    else some (.inl (x5.2.1, x5.2.2)))
        fun x12 =>
        Sum.elim (fun x13 => some (.inl (x5.1 - 1, x13.1, x13.2))) (fun x14 => some x14) x12
noncomputable def roster_Low (a0 : Board) (a1 : Table) (a2 : Power) (a3 : Int) : Option (Int × Bool) :=
  Option.bind (board_Of a0 a2 a3) fun x1 =>
    Option.bind
      (Option.bind (roster_Valid a1) fun x2 =>
        if (!x2) = true then some true else some (decide (len x1.2.1 < 2)))
      fun x3 =>
      if x3 = true then some (0, false)
      else
        Option.bind (slices_Backward_int_int x1.2.1) fun x4 =>
          Option.bind (loopO (roster_Low_L1 a0 a1 a2 a3 x4) (len x4 - 1, 0, false)) fun x15 =>
            Sum.elim (fun x16 => some (0, false)) (fun x17 => some x17) x15
noncomputable def c23 : Con D := ⟨23, [.lf (.int .i64), .lf (.sl 5), .lf (.sl 6), .lf (.sl 7), .lf (.int .i64), .lf (.int .i64), .lf (.int .i64), .lf (.int .i64), .lf (.int .i64), .lf (.sl 1), .lf (.sl 10), .lf (.sl 0), .lf (.sl 11), .lf (.int .i64)], [.lf (.int .i64), .lf .bool], [.agg [.h 0 [], .h 1 [0], .h 2 [0], .h 3 [0], .h 4 [], .h 5 []], .agg [.h 6 [], .h 7 [], .h 8 []], .agg [.h 9 [0], .h 10 [0], .h 11 [0], .h 12 [0]], .one (.h 13 [])], [], [.one (.h 0 []), .one (.h 1 [])], [], fun h => roster_Low ⟨h.1, h.2.1, h.2.2.1, h.2.2.2.1, h.2.2.2.2.1, h.2.2.2.2.2.1⟩ ⟨h.2.2.2.2.2.2.1, h.2.2.2.2.2.2.2.1, h.2.2.2.2.2.2.2.2.1⟩ ⟨h.2.2.2.2.2.2.2.2.2.1, h.2.2.2.2.2.2.2.2.2.2.1, h.2.2.2.2.2.2.2.2.2.2.2.1, h.2.2.2.2.2.2.2.2.2.2.2.2.1⟩ h.2.2.2.2.2.2.2.2.2.2.2.2.2⟩
theorem c23_ok : ConOk Try.prog T c23 := fnR_ok (Bk := [(87, 0)]) (Φ := [c21, c41, c49, c52, c53, c54, c55]) (rs := [.cell 8 3, .cell 9 4]) (an := (.n none .o (.n none .o (.n none (.n none (.r (some (true, [(.normal, ⟨[.lf .bool], [(30, .one (.h 0 []))], [], [], 3088⟩)])) .nil) .o) (.n none (.n none .o (.loop ⟨[.lf (.int .i64), .lf (.int .i64), .lf .bool], [(34, .one (.h 0 []))], [(2256, .box [.h 1 []]), (2320, .box [.h 2 []])], [2256, 2320], 3345⟩ false [(.exit 0, ⟨[.lf (.int .i64), .lf .bool], [], [(2256, .box [.h 0 []]), (2320, .box [.h 1 []])], [2256, 2320], 3345⟩)] (.n none .o (.n (some (false, [(.normal, ⟨[.lf (.int .i64), .lf .bool], [], [(2256, .box [.h 0 []]), (2320, .box [.h 1 []])], [2256, 2320], 3476⟩)])) .o .o)))) .o))))) pOk repOk (AllC.mem (⟨c21_ok, c41_ok, c49_ok, c52_ok, c53_ok, c54_ok, c55_ok, trivial⟩ : AllC _ _ [c21, c41, c49, c52, c53, c54, c55])) hmix (fun q hq => (List.mem_singleton.1 hq) ▸ bk87) Try.call23 Try.func23 rfl rfl (by kernel_rfl) (fun h => by kernel_rfl)

noncomputable def board_Live (a0 : Board) (a1 : Power) (a2 : Int) : Option (Bool) := Option.bind (board_Of a0 a1 a2) fun x1 => some (decide (len x1.2.1 > 0))
noncomputable def c58 : Con D := ⟨58, [.lf (.int .i64), .lf (.sl 5), .lf (.sl 6), .lf (.sl 7), .lf (.int .i64), .lf (.int .i64), .lf (.sl 1), .lf (.sl 10), .lf (.sl 0), .lf (.sl 11), .lf (.int .i64)], [.lf .bool], [.agg [.h 0 [], .h 1 [0], .h 2 [0], .h 3 [0], .h 4 [], .h 5 []], .agg [.h 6 [0], .h 7 [0], .h 8 [0], .h 9 [0]], .one (.h 10 [])], [], [.one (.h 0 [])], [], fun h => board_Live ⟨h.1, h.2.1, h.2.2.1, h.2.2.2.1, h.2.2.2.2.1, h.2.2.2.2.2.1⟩ ⟨h.2.2.2.2.2.2.1, h.2.2.2.2.2.2.2.1, h.2.2.2.2.2.2.2.2.1, h.2.2.2.2.2.2.2.2.2.1⟩ h.2.2.2.2.2.2.2.2.2.2⟩
theorem c58_ok : ConOk Try.prog T c58 := fn_ok (Φ := [c41]) (rs := [.tmp 6]) (an := .o) pOk repOk (AllC.mem (⟨c41_ok, trivial⟩ : AllC _ _ [c41])) hmix Try.call58 Try.func58 rfl rfl (by kernel_rfl) (fun h => by kernel_rfl)

noncomputable def roster_High (a0 : Board) (a1 : Table) (a2 : Power) (a3 : Int) : Option (Bool) :=
  Option.bind
    (Option.bind (roster_Valid a1) fun x1 =>
      if x1 = true then
        Option.bind (board_Live a0 a2 a3) fun x2 =>
          if x2 = true then
            Option.bind (balance_Load a0 a2 a3) fun x3 =>
              Option.bind (balance_Rating a0 a2 a3) fun x4 => some (decide (W (100 * x3) > W (a1.Start * x4)))
          else some false
      else some false)
    fun x5 => some x5
noncomputable def c26 : Con D := ⟨26, [.lf (.int .i64), .lf (.sl 5), .lf (.sl 6), .lf (.sl 7), .lf (.int .i64), .lf (.int .i64), .lf (.int .i64), .lf (.int .i64), .lf (.int .i64), .lf (.sl 1), .lf (.sl 10), .lf (.sl 0), .lf (.sl 11), .lf (.int .i64)], [.lf .bool], [.agg [.h 0 [], .h 1 [0], .h 2 [0], .h 3 [0], .h 4 [], .h 5 []], .agg [.h 6 [], .h 7 [], .h 8 []], .agg [.h 9 [0], .h 10 [0], .h 11 [0], .h 12 [0]], .one (.h 13 [])], [], [.one (.h 0 [])], [], fun h => roster_High ⟨h.1, h.2.1, h.2.2.1, h.2.2.2.1, h.2.2.2.2.1, h.2.2.2.2.2.1⟩ ⟨h.2.2.2.2.2.2.1, h.2.2.2.2.2.2.2.1, h.2.2.2.2.2.2.2.2.1⟩ ⟨h.2.2.2.2.2.2.2.2.2.1, h.2.2.2.2.2.2.2.2.2.2.1, h.2.2.2.2.2.2.2.2.2.2.2.1, h.2.2.2.2.2.2.2.2.2.2.2.2.1⟩ h.2.2.2.2.2.2.2.2.2.2.2.2.2⟩
theorem c26_ok : ConOk Try.prog T c26 := fn_ok (Φ := [c21, c54, c55, c58]) (rs := [.tmp 8]) (an := (.n none .o (.n none (.r (some (true, [(.normal, ⟨[.lf .bool], [(8, .one (.h 0 []))], [], [], 2320⟩)])) .nil) .o))) pOk repOk (AllC.mem (⟨c21_ok, c54_ok, c55_ok, c58_ok, trivial⟩ : AllC _ _ [c21, c54, c55, c58])) hmix Try.call26 Try.func26 rfl rfl (by kernel_rfl) (fun h => by kernel_rfl)

noncomputable def roster_since (a0 : Int) (a1 : Bool) (a2 : Int) : Option (Int) := if (!a1) = true then some (-1) else if (a0 == (-1)) = true then some a2 else some a0
noncomputable def c47 : Con D := ⟨47, [.lf (.int .i64), .lf .bool, .lf (.int .i64)], [.lf (.int .i64)], [.one (.h 0 []), .one (.h 1 []), .one (.h 2 [])], [], [.one (.h 0 [])], [], fun h => roster_since h.1 h.2.1 h.2.2⟩
theorem c47_ok : ConOk Try.prog T c47 := fn_ok (Φ := []) (rs := [.tmp 6]) (an := .o) pOk repOk (AllC.mem (l := []) trivial) hmix Try.call47 Try.func47 rfl rfl (by kernel_rfl) (fun h => by kernel_rfl)

noncomputable def sync_Leader (a0 : Board) (a1 : Power) (a2 : Int) : Option (Int × Bool) :=
  Option.bind (board_Of a0 a1 a2) fun x1 =>
    if (len x1.2.1 == 0) = true then some (0, false)
    else Option.bind (idx x1.2.1 0) fun x2 => some (x2, true)
noncomputable def c83 : Con D := ⟨83, [.lf (.int .i64), .lf (.sl 5), .lf (.sl 6), .lf (.sl 7), .lf (.int .i64), .lf (.int .i64), .lf (.sl 1), .lf (.sl 10), .lf (.sl 0), .lf (.sl 11), .lf (.int .i64)], [.lf (.int .i64), .lf .bool], [.agg [.h 0 [], .h 1 [0], .h 2 [0], .h 3 [0], .h 4 [], .h 5 []], .agg [.h 6 [0], .h 7 [0], .h 8 [0], .h 9 [0]], .one (.h 10 [])], [], [.one (.h 0 []), .one (.h 1 [])], [], fun h => sync_Leader ⟨h.1, h.2.1, h.2.2.1, h.2.2.2.1, h.2.2.2.2.1, h.2.2.2.2.2.1⟩ ⟨h.2.2.2.2.2.2.1, h.2.2.2.2.2.2.2.1, h.2.2.2.2.2.2.2.2.1, h.2.2.2.2.2.2.2.2.2.1⟩ h.2.2.2.2.2.2.2.2.2.2⟩
theorem c83_ok : ConOk Try.prog T c83 := fn_ok (Φ := [c41]) (rs := [.tmp 6, .tmp 7]) (an := .o) pOk repOk (AllC.mem (⟨c41_ok, trivial⟩ : AllC _ _ [c41])) hmix Try.call83 Try.func83 rfl rfl (by kernel_rfl) (fun h => by kernel_rfl)

noncomputable def board_Connected (a0 : Board) (a1 : Power) (a2 : Int) : Option (Int × Bool) :=
  Option.bind (board_State a0 a1) fun x1 =>
    if (x1 != 0) = true then some (0, false)
    else Option.bind (board_connected a0 a1 a2) fun x2 => some (x2.1, x2.2)
noncomputable def c84 : Con D := ⟨84, [.lf (.int .i64), .lf (.sl 5), .lf (.sl 6), .lf (.sl 7), .lf (.int .i64), .lf (.int .i64), .lf (.sl 1), .lf (.sl 10), .lf (.sl 0), .lf (.sl 11), .lf (.int .i64)], [.lf (.int .i64), .lf .bool], [.agg [.h 0 [], .h 1 [0], .h 2 [0], .h 3 [0], .h 4 [], .h 5 []], .agg [.h 6 [0], .h 7 [0], .h 8 [0], .h 9 [0]], .one (.h 10 [])], [], [.one (.h 0 []), .one (.h 1 [])], [], fun h => board_Connected ⟨h.1, h.2.1, h.2.2.1, h.2.2.2.1, h.2.2.2.2.1, h.2.2.2.2.2.1⟩ ⟨h.2.2.2.2.2.2.1, h.2.2.2.2.2.2.2.1, h.2.2.2.2.2.2.2.2.1, h.2.2.2.2.2.2.2.2.2.1⟩ h.2.2.2.2.2.2.2.2.2.2⟩
theorem c84_ok : ConOk Try.prog T c84 := fn_ok (Φ := [c46, c93]) (rs := [.tmp 6, .tmp 7]) (an := .o) pOk repOk (AllC.mem (⟨c46_ok, c93_ok, trivial⟩ : AllC _ _ [c46, c93])) hmix Try.call84 Try.func84 rfl rfl (by kernel_rfl) (fun h => by kernel_rfl)

noncomputable def roster_start (a0 : Board) (a1 : Power) (a2 : Int) (a3 : Int) : Option (Bool × (List Act)) :=
  Option.bind (idx a1.Sources a3) fun x1 =>
    if (x1.State == 0) = true then some (false, [Act.mk 3 a3 0])
    else
      if (x1.State == 2) = true then
        Option.bind (sync_Leader a0 a1 a2) fun x2 =>
          Option.bind (board_Connected a0 a1 x2.1) fun x3 =>
            Option.bind (roster_breaker a0 a3) fun x4 =>
              some (true, [Act.mk 6 a3 x3.1, Act.mk 1 x4 0])
      else some (false, [])
noncomputable def c48 : Con D := ⟨48, [.lf (.int .i64), .lf (.sl 5), .lf (.sl 6), .lf (.sl 7), .lf (.int .i64), .lf (.int .i64), .lf (.sl 1), .lf (.sl 10), .lf (.sl 0), .lf (.sl 11), .lf (.int .i64), .lf (.int .i64)], [.lf .bool, .lf (.sl 15)], [.agg [.h 0 [], .h 1 [0], .h 2 [0], .h 3 [0], .h 4 [], .h 5 []], .agg [.h 6 [0], .h 7 [0], .h 8 [0], .h 9 [0]], .one (.h 10 []), .one (.h 11 [])], [], [.one (.own 1000), .one (.h 0 [])], [(1000, .sl 15 76 1 [])], fun h => roster_start ⟨h.1, h.2.1, h.2.2.1, h.2.2.2.1, h.2.2.2.2.1, h.2.2.2.2.2.1⟩ ⟨h.2.2.2.2.2.2.1, h.2.2.2.2.2.2.2.1, h.2.2.2.2.2.2.2.2.1, h.2.2.2.2.2.2.2.2.2.1⟩ h.2.2.2.2.2.2.2.2.2.2.1 h.2.2.2.2.2.2.2.2.2.2.2⟩
theorem c48_ok : ConOk Try.prog T c48 := fn_ok (Φ := [c49, c83, c84]) (rs := [.tmp 8, .tmp 9]) (an := .o) pOk repOk (AllC.mem (⟨c49_ok, c83_ok, c84_ok, trivial⟩ : AllC _ _ [c49, c83, c84])) hmix Try.call48 Try.func48 rfl rfl (by kernel_rfl) (fun h => by kernel_rfl)

noncomputable def roster_Step (a0 : Board) (a1 : Table) (a2 : Power) (a3 : Int) (a4 : Int) (a5 : Roster) : Option (Int × Int × Int × (List Act)) :=
  Option.bind (board_State a0 a2) fun x1 =>
    if (x1 != 0) = true then some (0, 0, x1, [])
    else
      Option.bind
        (Option.bind (roster_Valid a1) fun x2 =>
          if (!x2) = true then some true
          else
            if decide (a4 < 0) = true then some true
            else
              if decide (a4 > 2147483648) = true then some true
              else
                Option.bind (roster_Step_1 a5.High a4) fun x3 =>
                  if (!x3) = true then some true else Option.bind (roster_Step_1 a5.Low a4) fun x4 => some !x4)
        fun x5 =>
        if x5 = true then some (0, 0, 1, [])
        else
          Option.bind (if decide (a3 < 0) = true then some true else some (decide (a3 ≥ a0.Buses))) fun x6 =>
            if x6 = true then some (0, 0, 10, [])
            else
              Option.bind (roster_Low a0 a1 a2 a3) fun x7 =>
                Option.bind (roster_High a0 a1 a2 a3) fun x8 =>
                  Option.bind (roster_since a5.High x8 a4) fun x9 =>
                    Option.bind (roster_since a5.Low x7.2 a4) fun x10 =>
                      Option.bind (roster_Next a0 a2 a3) fun x11 =>
                        Option.bind
                          (if x11.2 = true then
                            if (x9 != (-1)) = true then some (decide (W (a4 - x9) ≥ a1.Delay)) else some false
                          else some false)
                          fun x12 =>
                          if x12 = true then
                            Option.bind (roster_start a0 a2 a3 x11.1) fun x15 =>
                              Option.bind (if x15.1 = true then some ((-1), x10) else some (x9, x10))
                                fun x16 => some (x16.1, x16.2, 0, x15.2)
                          else
                            Option.bind
                              (if (x10 != (-1)) = true then some (decide (W (a4 - x10) ≥ a1.Delay))
                              else some false)
                              fun x13 =>
                              if x13 = true then
                                Option.bind (roster_breaker a0 x7.1) fun x14 =>
                                  some
                                    (x9, (-1), 0,
                                      [Act.mk 2 x14 0,
                                        Act.mk 4 x7.1 0])
                              else some (x9, x10, 0, [])
noncomputable def c15 : Con D := ⟨15, [.lf (.int .i64), .lf (.sl 5), .lf (.sl 6), .lf (.sl 7), .lf (.int .i64), .lf (.int .i64), .lf (.int .i64), .lf (.int .i64), .lf (.int .i64), .lf (.sl 1), .lf (.sl 10), .lf (.sl 0), .lf (.sl 11), .lf (.int .i64), .lf (.int .i64), .lf (.int .i64), .lf (.int .i64)], [.lf (.int .i64), .lf (.int .i64), .lf (.int .i64), .lf (.sl 15)], [.agg [.h 0 [], .h 1 [0], .h 2 [0], .h 3 [0], .h 4 [], .h 5 []], .agg [.h 6 [], .h 7 [], .h 8 []], .agg [.h 9 [0], .h 10 [0], .h 11 [0], .h 12 [0]], .one (.h 13 []), .one (.h 14 []), .agg [.h 15 [], .h 16 []]], [], [.agg [.h 0 [], .h 1 []], .one (.own 1000), .one (.h 2 [])], [(1000, .sl 15 76 3 [])], fun h => roster_Step ⟨h.1, h.2.1, h.2.2.1, h.2.2.2.1, h.2.2.2.2.1, h.2.2.2.2.2.1⟩ ⟨h.2.2.2.2.2.2.1, h.2.2.2.2.2.2.2.1, h.2.2.2.2.2.2.2.2.1⟩ ⟨h.2.2.2.2.2.2.2.2.2.1, h.2.2.2.2.2.2.2.2.2.2.1, h.2.2.2.2.2.2.2.2.2.2.2.1, h.2.2.2.2.2.2.2.2.2.2.2.2.1⟩ h.2.2.2.2.2.2.2.2.2.2.2.2.2.1 h.2.2.2.2.2.2.2.2.2.2.2.2.2.2.1 ⟨h.2.2.2.2.2.2.2.2.2.2.2.2.2.2.2.1, h.2.2.2.2.2.2.2.2.2.2.2.2.2.2.2.2⟩⟩
theorem c15_ok : ConOk Try.prog T c15 := fn_ok (Φ := [c10, c21, c23, c26, c45, c46, c47, c48, c49]) (rs := [.cell 12 53, .tmp 13, .tmp 14]) (an := (.n none .o (.n none .o (.n none (.n none .o (.n none (.n none .o (.n none .o (.n none (.r (some (true, [(.normal, ⟨[.lf .bool], [(32, .one (.h 0 []))], [], [], 3152⟩)])) .nil) (.n none .o (.n none (.r (some (true, [(.normal, ⟨[.lf .bool], [(59, .one (.h 0 []))], [], [], 3217⟩)])) .nil) .o))))) .o)) (.n none .o (.n none .o (.n none (.n none .o (.n none (.r (some (true, [(.normal, ⟨[.lf .bool], [(114, .one (.h 0 []))], [], [], 5650⟩)])) .nil) (.n none (.n none .o (.n none (.n none .o (.n (some (true, [(.normal, ⟨[.lf (.int .i64), .lf (.int .i64)], [], [(2256, .box [.h 0 [], .h 1 []])], [2256], 6419⟩)])) .o .o)) .o)) .o))) (.n none (.n none (.r (some (true, [(.normal, ⟨[.lf .bool], [(138, .one (.h 0 []))], [], [], 5715⟩)])) .nil) .o) .o)))))))) pOk repOk (AllC.mem (⟨c10_ok, c21_ok, c23_ok, c26_ok, c45_ok, c46_ok, c47_ok, c48_ok, c49_ok, trivial⟩ : AllC _ _ [c10, c21, c23, c26, c45, c46, c47, c48, c49])) hmix Try.call15 Try.func15 rfl rfl (by kernel_rfl) (fun h => by kernel_rfl)

noncomputable def dynposlaw19_sane_L1 : Int × Int × Int →
  Option
    (Int × Int × Int ⊕
      Int × Int ⊕
        Bool) := fun x1 =>
  if decide (x1.1 < 6) = true then
    Option.bind
      (roster_Step
        (Board.mk 1
          [Breaker.mk 2 0 0, Breaker.mk 2 0 1,
            Breaker.mk 3 0 0]
          [Source.mk 100 0 0, Source.mk 100 0 2]
          [Consumer.mk 81 0 0 (-1) []] 0 0)
        (Table.mk 80 30 5)
        (Power.mk [true, false, true]
          [Running.mk 2 0 5000 0,
            Running.mk 0 0 5000 0]
          [81] [])
        0 x1.1 (Roster.mk x1.2.1 x1.2.2))
      fun x2 =>
      Option.bind
        (if (x2.2.2.1 != 0) = true then some true
        else
          if (!decide (len x2.2.2.2 > 0) == (x1.1 == 5)) = true then some true
          else
            if (x1.1 == 5) = true then
              Option.bind (idx x2.2.2.2 0) fun x3 =>
                some !(x3.Kind == 3 && (x3.Unit == 1 && x3.Value == 0))
            else some false)
        fun x4 =>
        if x4 = true then some (.inr (.inr false))
        else some (.inl (W (x1.1 + 1), x2.1, x2.2.1))
  else some (.inr (.inl (x1.2.1, x1.2.2)))
noncomputable def dynposlaw19_sane : Option (Bool) := Option.bind (loopO dynposlaw19_sane_L1 (0, (-1), (-1))) fun x5 =>
  Sum.elim (fun x6 => some true) (fun x7 => some x7) x5
noncomputable def c16 : Con D := ⟨16, [], [.lf .bool], [], [], [.one (.h 0 [])], [], fun h => dynposlaw19_sane⟩
theorem c16_ok : ConOk Try.prog T c16 := fn_ok (Φ := [c15]) (rs := [.tmp 0]) (an := (.n none .o (.n none .o (.n none .o (.n none .o (.n none (.n none .o (.n none (.loop ⟨[.lf (.int .i64), .lf (.int .i64), .lf (.int .i64)], [(4, .one (.h 0 []))], [(3408, .box [.h 1 [], .h 2 []])], [3408], 3664⟩ false [(.exit 0, ⟨[.lf (.int .i64), .lf (.int .i64)], [], [(3408, .box [.h 0 [], .h 1 []])], [3408], 3664⟩)] (.n none .o (.n none (.n none (.n none .o (.n none (.n none (.r (some (true, [(.normal, ⟨[.lf .bool], [(42, .one (.any)), (43, .one (.any)), (44, .one (.any)), (45, .one (.any)), (46, .one (.any)), (47, .one (.any)), (50, .one (.any)), (51, .one (.any)), (52, .one (.any)), (53, .one (.any)), (54, .one (.any)), (55, .one (.any)), (56, .one (.any)), (57, .one (.any)), (58, .one (.any)), (59, .one (.h 0 []))], [], [], 4755⟩)])) .nil) .o) .o)) .o) .o))) .o)) .o)))))) pOk repOk (AllC.mem (⟨c15_ok, trivial⟩ : AllC _ _ [c15])) hmix Try.call16 Try.func16 rfl rfl (by kernel_rfl) (fun h => by kernel_rfl)

noncomputable def dynposref16_Leader (a0 : Board) (a1 : Power) (a2 : Int) : Option (Int × Bool) :=
  Option.bind (dynposref15_Of a0 a1 a2) fun x1 =>
    Option.bind (if (!x1.1) = true then some true else some (len x1.2.2.1 == 0)) fun x2 =>
      if x2 = true then some (0, false)
      else Option.bind (idx x1.2.2.1 0) fun x3 => some (x3, true)
noncomputable def c60 : Con D := ⟨60, [.lf (.int .i64), .lf (.sl 5), .lf (.sl 6), .lf (.sl 7), .lf (.int .i64), .lf (.int .i64), .lf (.sl 1), .lf (.sl 10), .lf (.sl 0), .lf (.sl 11), .lf (.int .i64)], [.lf (.int .i64), .lf .bool], [.agg [.h 0 [], .h 1 [0], .h 2 [0], .h 3 [0], .h 4 [], .h 5 []], .agg [.h 6 [0], .h 7 [0], .h 8 [0], .h 9 [0]], .one (.h 10 [])], [], [.one (.h 0 []), .one (.h 1 [])], [], fun h => dynposref16_Leader ⟨h.1, h.2.1, h.2.2.1, h.2.2.2.1, h.2.2.2.2.1, h.2.2.2.2.2.1⟩ ⟨h.2.2.2.2.2.2.1, h.2.2.2.2.2.2.2.1, h.2.2.2.2.2.2.2.2.1, h.2.2.2.2.2.2.2.2.2.1⟩ h.2.2.2.2.2.2.2.2.2.2⟩
theorem c60_ok : ConOk Try.prog T c60 := fn_ok (Φ := [c9]) (rs := [.tmp 6, .tmp 7]) (an := (.n none .o (.n none .o (.n none (.n none (.r (some (true, [(.normal, ⟨[.lf .bool], [(24, .one (.h 0 []))], [], [], 2960⟩)])) .nil) .o) .o)))) pOk repOk (AllC.mem (⟨c9_ok, trivial⟩ : AllC _ _ [c9])) hmix Try.call60 Try.func60 rfl rfl (by kernel_rfl) (fun h => by kernel_rfl)

noncomputable def dynposref02_Norm (a0 : Int) : Option (Int) :=
  Option.bind (remO a0 3600) fun x1 =>
    Option.bind (remO (W (x1 + 3600)) 3600) fun x2 => some x2
noncomputable def c107 : Con D := ⟨107, [.lf (.int .i64)], [.lf (.int .i64)], [.one (.h 0 [])], [], [.one (.h 0 [])], [], fun h => dynposref02_Norm h⟩
theorem c107_ok : ConOk Try.prog T c107 := fn_ok (Φ := []) (rs := [.tmp 2]) (an := .o) pOk repOk (AllC.mem (l := []) trivial) hmix Try.call107 Try.func107 rfl rfl (by kernel_rfl) (fun h => by kernel_rfl)

noncomputable def dynposref02_Diff (a0 : Int) (a1 : Int) : Option (Int) :=
  Option.bind (dynposref02_Norm a1) fun x1 =>
    Option.bind (dynposref02_Norm a0) fun x2 =>
      Option.bind (dynposref02_Norm (W (x1 - x2))) fun x3 =>
        Option.bind (if decide (x3 > 1800) = true then some (W (x3 - 3600)) else some x3) fun x4 =>
          some x4
noncomputable def c91 : Con D := ⟨91, [.lf (.int .i64), .lf (.int .i64)], [.lf (.int .i64)], [.one (.h 0 []), .one (.h 1 [])], [], [.one (.h 0 [])], [], fun h => dynposref02_Diff h.1 h.2⟩
theorem c91_ok : ConOk Try.prog T c91 := fn_ok (Φ := [c107]) (rs := [.tmp 4]) (an := (.n none .o (.n none .o (.n none (.n none .o (.n (some (true, [(.normal, ⟨[.lf (.int .i64)], [(5, .one (.h 0 []))], [], [], 2704⟩)])) .o .o)) .o)))) pOk repOk (AllC.mem (⟨c107_ok, trivial⟩ : AllC _ _ [c107])) hmix Try.call91 Try.func91 rfl rfl (by kernel_rfl) (fun h => by kernel_rfl)

noncomputable def dynposref16_Agree_L1 (a1 : Running) (a2 : Running) : Int →
  Option
    (Int ⊕
      Unit ⊕
        Bool) := fun x1 =>
  if decide (x1 < 2) = true then
    Option.bind (idx [a1.Frequency, a2.Frequency] x1) fun x2 =>
      Option.bind (if decide (x2 < 0) = true then some true else some (decide (x2 > 6000)))
        fun x3 => if x3 = true then some (.inr (.inr false)) else some (.inl (W (x1 + 1)))
  else some (.inr (.inl ()))
noncomputable def dynposref16_Agree (a0 : Board) (a1 : Running) (a2 : Running) : Option (Bool) :=
  Option.bind (loopO (dynposref16_Agree_L1 a1 a2) 0) fun x4 =>
    Sum.elim
      (fun x5 =>
        Option.bind (dynposref02_Diff a1.Phase a2.Phase) fun x6 =>
          Option.bind
            (if decide (W (a1.Frequency - a2.Frequency) ≥ W (-a0.Frequency)) = true then
              if decide (W (a1.Frequency - a2.Frequency) ≤ a0.Frequency) = true then
                if decide (x6 ≥ W (-a0.Phase)) = true then some (decide (x6 ≤ a0.Phase)) else some false
              else some false
            else some false)
            fun x7 => some x7)
      (fun x8 => some x8) x4
noncomputable def c64 : Con D := ⟨64, [.lf (.int .i64), .lf (.sl 5), .lf (.sl 6), .lf (.sl 7), .lf (.int .i64), .lf (.int .i64), .lf (.int .i64), .lf (.int .i64), .lf (.int .i64), .lf (.int .i64), .lf (.int .i64), .lf (.int .i64), .lf (.int .i64), .lf (.int .i64)], [.lf .bool], [.agg [.h 0 [], .h 1 [0], .h 2 [0], .h 3 [0], .h 4 [], .h 5 []], .agg [.h 6 [], .h 7 [], .h 8 [], .h 9 []], .agg [.h 10 [], .h 11 [], .h 12 [], .h 13 []]], [], [.one (.h 0 [])], [], fun h => dynposref16_Agree ⟨h.1, h.2.1, h.2.2.1, h.2.2.2.1, h.2.2.2.2.1, h.2.2.2.2.2.1⟩ ⟨h.2.2.2.2.2.2.1, h.2.2.2.2.2.2.2.1, h.2.2.2.2.2.2.2.2.1, h.2.2.2.2.2.2.2.2.2.1⟩ ⟨h.2.2.2.2.2.2.2.2.2.2.1, h.2.2.2.2.2.2.2.2.2.2.2.1, h.2.2.2.2.2.2.2.2.2.2.2.2.1, h.2.2.2.2.2.2.2.2.2.2.2.2.2⟩⟩
theorem c64_ok : ConOk Try.prog T c64 := fn_ok (Φ := [c91]) (rs := [.tmp 6]) (an := (.n none .o (.n none (.n none .o (.n none (.loop ⟨[.lf (.int .i64)], [(16, .one (.h 0 []))], [], [], 2704⟩ false [(.exit 0, ⟨[], [], [], [], 2704⟩)] (.n none .o (.n none .o (.n none (.n none (.n none .o (.n none (.r (some (true, [(.normal, ⟨[.lf .bool], [(22, .one (.any)), (23, .one (.any)), (24, .one (.h 0 []))], [], [], 2961⟩)])) .nil) .o)) .o) .o)))) .o)) (.n none .o (.n none (.r (some (true, [(.normal, ⟨[.lf .bool], [(6, .one (.h 0 []))], [], [], 3536⟩)])) .nil) .o))))) pOk repOk (AllC.mem (⟨c91_ok, trivial⟩ : AllC _ _ [c91])) hmix Try.call64 Try.func64 rfl rfl (by kernel_rfl) (fun h => by kernel_rfl)

noncomputable def dynposref16_May (a0 : Board) (a1 : Power) (a2 : Int) : Option (Int) :=
  Option.bind (dynposref15_State a0 a1) fun x1 =>
    if (x1 != 0) = true then some x1
    else
      Option.bind (if decide (a2 < 0) = true then some true else some (decide (a2 ≥ len a0.Breakers)))
        fun x2 =>
        if x2 = true then some 10
        else
          Option.bind (idx a0.Breakers a2) fun x3 =>
            Option.bind
              (Option.bind (idx a1.Closed a2) fun x4 =>
                if x4 = true then some true
                else
                  Option.bind (dynposref15_Broken a1 2 a2) fun x5 =>
                    if x5 = true then some true
                    else Option.bind (dynposref15_Broken a1 3 x3.A) fun x6 => some x6)
              fun x7 =>
              if x7 = true then some 11
              else
                Option.bind (dynposref16_Leader a0 a1 x3.A) fun x8 =>
                  Option.bind
                    (if (x3.Kind == 1) = true then
                      Option.bind (dynposref15_Broken a1 3 x3.B) fun x22 =>
                        if x22 = true then some (.inr 11)
                        else
                          Option.bind (dynposref15_Of a0 a1 x3.A) fun x23 =>
                            Option.bind (dynposref16_Leader a0 a1 x3.B) fun x24 =>
                              Option.bind
                                (if x8.2 = true then
                                  if x24.2 = true then
                                    Option.bind (dynposref01_Has x23.2.1 x3.B) fun x25 =>
                                      if (!x25) = true then
                                        Option.bind (idx a1.Sources x8.1) fun x26 =>
                                          Option.bind (idx a1.Sources x24.1) fun x27 =>
                                            Option.bind (dynposref16_Agree a0 x26 x27) fun x28 => some !x28
                                      else some false
                                  else some false
                                else some false)
                                fun x29 =>
                                if x29 = true then some (.inr 12) else some (.inl ())
                    else
                      Option.bind
                        (if (x3.Kind == 2) = true then
                          Option.bind
                            (Option.bind (dynposref15_Broken a1 1 x3.B) fun x12 =>
                              if x12 = true then some true
                              else Option.bind (idx a1.Sources x3.B) fun x13 => some (x13.State != 2))
                            fun x14 =>
                            if x14 = true then some (.inr (.inr 11))
                            else
                              Option.bind
                                (if x8.2 = true then
                                  Option.bind (idx a1.Sources x8.1) fun x15 =>
                                    Option.bind (idx a1.Sources x3.B) fun x16 =>
                                      Option.bind (dynposref16_Agree a0 x15 x16) fun x17 => some !x17
                                else some false)
                                fun x18 =>
                                if x18 = true then some (.inr (.inr 12))
                                else some (.inl ())
                        else
                          Option.bind (dynposref15_Fed a0 a1 x3.B) fun x9 =>
                            Option.bind
                              (if x9.2 = true then some true
                              else Option.bind (dynposref15_Broken a1 4 x3.B) fun x10 => some x10)
                              fun x11 =>
                              if x11 = true then some (.inr (.inr 11)) else some (.inl ()))
                        fun x19 => Sum.elim (fun x20 => some (.inl ())) (fun x21 => some x21) x19)
                    fun x30 => Sum.elim (fun x31 => some 0) (fun x32 => some x32) x30
noncomputable def c89 : Con D := ⟨89, [.lf (.int .i64), .lf (.sl 5), .lf (.sl 6), .lf (.sl 7), .lf (.int .i64), .lf (.int .i64), .lf (.sl 1), .lf (.sl 10), .lf (.sl 0), .lf (.sl 11), .lf (.int .i64)], [.lf (.int .i64)], [.agg [.h 0 [], .h 1 [0], .h 2 [0], .h 3 [0], .h 4 [], .h 5 []], .agg [.h 6 [0], .h 7 [0], .h 8 [0], .h 9 [0]], .one (.h 10 [])], [], [.one (.h 0 [])], [], fun h => dynposref16_May ⟨h.1, h.2.1, h.2.2.1, h.2.2.2.1, h.2.2.2.2.1, h.2.2.2.2.2.1⟩ ⟨h.2.2.2.2.2.2.1, h.2.2.2.2.2.2.2.1, h.2.2.2.2.2.2.2.2.1, h.2.2.2.2.2.2.2.2.2.1⟩ h.2.2.2.2.2.2.2.2.2.2⟩
theorem c89_ok : ConOk Try.prog T c89 := fn_ok (Φ := [c9, c13, c14, c38, c40, c60, c64]) (rs := [.tmp 6]) (an := (.n none .o (.n none .o (.n none (.n none (.r (some (true, [(.normal, ⟨[.lf .bool], [(31, .one (.h 0 []))], [], [], 2640⟩)])) .nil) .o) (.n none .o (.n none (.n none (.r (some (true, [(.normal, ⟨[.lf .bool], [(52, .one (.h 0 []))], [], [], 3153⟩)])) .nil) .o) (.n none .o (.n none (.n none .o (.n none (.n none .o (.n (some (false, [(.normal, ⟨[], [], [], [], 4114⟩)])) (.n none .o (.n none .o (.n none .o (.n none (.r (some (true, [(.normal, ⟨[.lf .bool], [(126, .one (.h 0 []))], [], [], 5714⟩)])) .nil) .o)))) (.n none .o (.n (some (false, [(.normal, ⟨[], [], [], [], 4242⟩)])) (.n none (.n none (.r (some (true, [(.normal, ⟨[.lf .bool], [(142, .one (.h 0 []))], [], [], 4242⟩)])) .nil) .o) (.n none (.r (some (true, [(.normal, ⟨[.lf .bool], [(159, .one (.h 0 []))], [], [], 4307⟩)])) .nil) .o)) (.n none .o (.n none (.r (some (true, [(.normal, ⟨[.lf .bool], [(77, .one (.h 0 []))], [], [], 4882⟩)])) .nil) .o)))))) .o)) .o)))))))) pOk repOk (AllC.mem (⟨c9_ok, c13_ok, c14_ok, c38_ok, c40_ok, c60_ok, c64_ok, trivial⟩ : AllC _ _ [c9, c13, c14, c38, c40, c60, c64])) hmix Try.call89 Try.func89 rfl rfl (by kernel_rfl) (fun h => by kernel_rfl)

noncomputable def dynposref15_Copy (a0 : Power) : Option ((List Bool) × (List Running) × (List Int) × (List Part) × (List Bool) × (List Running) × (List Int) × (List Part)) :=
  Option.bind (app [] a0.Closed) fun x1 =>
    Option.bind (app [] a0.Sources) fun x2 =>
      Option.bind (app [] a0.Limits) fun x3 =>
        Option.bind (app [] a0.Broken) fun x4 => some (a0.Closed, a0.Sources, a0.Limits, a0.Broken, x1, x2, x3, x4)
noncomputable def c32 : Con D := ⟨32, [.lf (.sl 1), .lf (.sl 10), .lf (.sl 0), .lf (.sl 11)], [.lf (.sl 1), .lf (.sl 10), .lf (.sl 0), .lf (.sl 11), .lf (.sl 1), .lf (.sl 10), .lf (.sl 0), .lf (.sl 11)], [.agg [.own 1000, .own 1001, .own 1002, .own 1003]], [(1000, .sl 1 4 0 [0]), (1001, .sl 10 51 1 [0]), (1002, .sl 0 3 2 [0]), (1003, .sl 11 91 3 [0])], [.agg [.own 1004, .own 1005, .own 1006, .own 1007]], [(1000, .sl 1 4 0 [0]), (1001, .sl 10 51 1 [0]), (1002, .sl 0 3 2 [0]), (1003, .sl 11 91 3 [0]), (1004, .sl 1 4 4 [0]), (1005, .sl 10 51 5 [0]), (1006, .sl 0 3 6 [0]), (1007, .sl 11 91 7 [0])], fun h => dynposref15_Copy ⟨h.1, h.2.1, h.2.2.1, h.2.2.2⟩⟩
theorem c32_ok : ConOk Try.prog T c32 := fn_ok (Φ := []) (rs := [.cell 2 36]) (an := .o) pOk repOk (AllC.mem (l := []) trivial) hmix Try.call32 Try.func32 rfl rfl (by kernel_rfl) (fun h => by kernel_rfl)

noncomputable def dynposref16_follow_L2 (x1 : List Bool ×
  List Running ×
    List Int ×
      List Part ×
        List Bool ×
          List Running ×
            List Int ×
              List
                Part) (x4 : Island) : Int × List Running →
  Option
    (Int × List Running ⊕
      List
        Running) := fun x5 =>
  if decide (x5.1 < len x4.Sources) = true then
    Option.bind (idx x4.Sources x5.1) fun x6 =>
      Option.bind (idx x4.Sources 0) fun x7 =>
        Option.bind (idx x1.2.1 x7) fun x8 =>
          Option.bind (idx x4.Sources 0) fun x9 =>
            Option.bind (idx x1.2.1 x9) fun x10 =>
              Option.bind (idx x5.2 x6) fun x11 =>
                Option.bind (idx x5.2 x6) fun x12 =>
                  Option.bind (setO x5.2 x6 (Running.mk x12.State x12.Since x8.Frequency x12.Phase)) fun x13 =>
                    Option.bind (idx x13 x6) fun x14 =>
                      Option.bind (idx x13 x6) fun x15 =>
                        Option.bind (setO x13 x6 (Running.mk x15.State x15.Since x15.Frequency x10.Phase)) fun x16 =>
                          some (.inl (W (x5.1 + 1), x16))
  else some (.inr x5.2)
noncomputable def dynposref16_follow_L1 (x1 : List Bool ×
  List Running ×
    List Int ×
      List Part ×
        List Bool ×
          List Running ×
            List Int ×
              List
                Part) (x2 : List
  Island) : Int × List Running →
  Option
    (Int × List Running ⊕
      List
        Running) := fun x3 =>
  if decide (x3.1 < len x2) = true then
    Option.bind (idx x2 x3.1) fun x4 =>
      Option.bind (loopO (dynposref16_follow_L2 x1 x4) (0, x3.2)) fun x17 =>
        some (.inl (W (x3.1 + 1), x17))
  else some (.inr x3.2)
noncomputable def dynposref16_follow (a0 : Board) (a1 : Power) : Option ((List Breaker) × (List Source) × (List Consumer) × (List Bool) × (List Running) × (List Int) × (List Part) × (List Bool) × (List Running) × (List Int) × (List Part)) :=
  Option.bind (dynposref15_Copy a1) fun x1 =>
    Option.bind (dynposref15_Islands a0 (Power.mk x1.1 x1.2.1 x1.2.2.1 x1.2.2.2.1)) fun x2 =>
      Option.bind (loopO (dynposref16_follow_L1 x1 x2) (0, x1.2.2.2.2.2.1)) fun x18 =>
        some
          (a0.Breakers, a0.Sources, a0.Consumers, x1.1, x1.2.1, x1.2.2.1, x1.2.2.2.1,
            x1.2.2.2.2.1, x18, x1.2.2.2.2.2.2.1, x1.2.2.2.2.2.2.2)
noncomputable def c90 : Con D := ⟨90, [.lf (.int .i64), .lf (.sl 5), .lf (.sl 6), .lf (.sl 7), .lf (.int .i64), .lf (.int .i64), .lf (.sl 1), .lf (.sl 10), .lf (.sl 0), .lf (.sl 11)], [.lf (.sl 5), .lf (.sl 6), .lf (.sl 7), .lf (.sl 1), .lf (.sl 10), .lf (.sl 0), .lf (.sl 11), .lf (.sl 1), .lf (.sl 10), .lf (.sl 0), .lf (.sl 11)], [.agg [.h 0 [], .own 1000, .own 1001, .own 1002, .h 4 [], .h 5 []], .agg [.own 1003, .own 1004, .own 1005, .own 1006]], [(1000, .sl 5 49 1 [0]), (1001, .sl 6 98 2 [0]), (1002, .sl 7 100 3 [0]), (1003, .sl 1 4 6 [0]), (1004, .sl 10 51 7 [0]), (1005, .sl 0 3 8 [0]), (1006, .sl 11 91 9 [0])], [.agg [.own 1007, .own 1008, .own 1009, .own 1010]], [(1000, .sl 5 49 0 [0]), (1001, .sl 6 98 1 [0]), (1002, .sl 7 100 2 [0]), (1003, .sl 1 4 3 [0]), (1004, .sl 10 51 4 [0]), (1005, .sl 0 3 5 [0]), (1006, .sl 11 91 6 [0]), (1007, .sl 1 4 7 [0]), (1008, .sl 10 51 8 [0]), (1009, .sl 0 3 9 [0]), (1010, .sl 11 91 10 [0])], fun h => dynposref16_follow ⟨h.1, h.2.1, h.2.2.1, h.2.2.2.1, h.2.2.2.2.1, h.2.2.2.2.2.1⟩ ⟨h.2.2.2.2.2.2.1, h.2.2.2.2.2.2.2.1, h.2.2.2.2.2.2.2.2.1, h.2.2.2.2.2.2.2.2.2⟩⟩
theorem c90_ok : ConOk Try.prog T c90 := fn_ok (Φ := [c32, c106]) (rs := [.cell 4 36]) (an := (.n none .o (.n none .o (.n none (.n none .o (.n none (.loop ⟨[.lf (.int .i64), .lf (.sl 10)], [(16, .one (.h 0 []))], [(2265, .sl 10 51 1 [0])], [2265], 2832⟩ true [(.exit 0, ⟨[.lf (.sl 10)], [], [(2265, .sl 10 51 0 [0])], [2265], 2832⟩)] (.n none .o (.n none .o (.n none (.n none (.n none .o (.n none .o (.n none (.loop ⟨[.lf (.int .i64), .lf (.sl 10)], [(23, .one (.h 0 []))], [(2265, .sl 10 51 1 [0])], [2265], 3474⟩ true [(.exit 2, ⟨[.lf (.sl 10)], [], [(2265, .sl 10 51 0 [0])], [2265], 3474⟩)] .o) .o))) .o) .o)))) .o)) .o)))) pOk repOk (AllC.mem (⟨c32_ok, c106_ok, trivial⟩ : AllC _ _ [c32, c106])) hmix Try.call90 Try.func90 rfl rfl (by kernel_rfl) (fun h => by kernel_rfl)

noncomputable def dynposref16_Follow (a0 : Board) (a1 : Power) : Option (Int × (List Breaker) × (List Source) × (List Consumer) × (List Bool) × (List Running) × (List Int) × (List Part) × (List Bool) × (List Running) × (List Int) × (List Part)) :=
  Option.bind (dynposref15_State a0 a1) fun x1 =>
    if (x1 != 0) = true then
      some (x1, a0.Breakers, a0.Sources, a0.Consumers, a1.Closed, a1.Sources, a1.Limits, a1.Broken, [], [], [], [])
    else
      Option.bind (dynposref16_follow a0 a1) fun x2 =>
        some
          (0, x2.1, x2.2.1, x2.2.2.1, x2.2.2.2.1, x2.2.2.2.2.1,
            x2.2.2.2.2.2.1, x2.2.2.2.2.2.2.1, x2.2.2.2.2.2.2.2.1,
            x2.2.2.2.2.2.2.2.2.1, x2.2.2.2.2.2.2.2.2.2.1,
            x2.2.2.2.2.2.2.2.2.2.2)
noncomputable def c66 : Con D := ⟨66, [.lf (.int .i64), .lf (.sl 5), .lf (.sl 6), .lf (.sl 7), .lf (.int .i64), .lf (.int .i64), .lf (.sl 1), .lf (.sl 10), .lf (.sl 0), .lf (.sl 11)], [.lf (.int .i64), .lf (.sl 5), .lf (.sl 6), .lf (.sl 7), .lf (.sl 1), .lf (.sl 10), .lf (.sl 0), .lf (.sl 11), .lf (.sl 1), .lf (.sl 10), .lf (.sl 0), .lf (.sl 11)], [.agg [.h 0 [], .own 1000, .own 1001, .own 1002, .h 4 [], .h 5 []], .agg [.own 1003, .own 1004, .own 1005, .own 1006]], [(1000, .sl 5 49 1 [0]), (1001, .sl 6 98 2 [0]), (1002, .sl 7 100 3 [0]), (1003, .sl 1 4 6 [0]), (1004, .sl 10 51 7 [0]), (1005, .sl 0 3 8 [0]), (1006, .sl 11 91 9 [0])], [.agg [.own 1007, .own 1008, .own 1009, .own 1010], .one (.h 0 [])], [(1000, .sl 5 49 1 [0]), (1001, .sl 6 98 2 [0]), (1002, .sl 7 100 3 [0]), (1003, .sl 1 4 4 [0]), (1004, .sl 10 51 5 [0]), (1005, .sl 0 3 6 [0]), (1006, .sl 11 91 7 [0]), (1007, .sl 1 4 8 [0]), (1008, .sl 10 51 9 [0]), (1009, .sl 0 3 10 [0]), (1010, .sl 11 91 11 [0])], fun h => dynposref16_Follow ⟨h.1, h.2.1, h.2.2.1, h.2.2.2.1, h.2.2.2.2.1, h.2.2.2.2.2.1⟩ ⟨h.2.2.2.2.2.2.1, h.2.2.2.2.2.2.2.1, h.2.2.2.2.2.2.2.2.1, h.2.2.2.2.2.2.2.2.2⟩⟩
theorem c66_ok : ConOk Try.prog T c66 := fn_ok (Φ := [c38, c90]) (rs := [.cell 4 36, .tmp 5]) (an := .o) pOk repOk (AllC.mem (⟨c38_ok, c90_ok, trivial⟩ : AllC _ _ [c38, c90])) hmix Try.call66 Try.func66 rfl rfl (by kernel_rfl) (fun h => by kernel_rfl)

noncomputable def Src_Followed (a0 : Src) (a1 : Board) : Option ((List Int) × Int × (List Breaker) × (List Source) × (List Consumer) × (List Bool) × (List Running) × (List Int) × (List Part)) :=
  Option.bind (Src_Power a0 a1) fun x1 =>
    Option.bind
      (dynposref16_Follow
        (Board.mk a1.Buses x1.2.2.1 x1.2.2.2.1 x1.2.2.2.2.1 a1.Phase a1.Frequency)
        (Power.mk x1.2.2.2.2.2.1 x1.2.2.2.2.2.2.1 x1.2.2.2.2.2.2.2.1
          x1.2.2.2.2.2.2.2.2))
      fun x2 =>
      some
        (x1.1, x1.2.1, x2.2.1, x2.2.2.1, x2.2.2.2.1, x2.2.2.2.2.2.2.2.2.1,
          x2.2.2.2.2.2.2.2.2.2.1, x2.2.2.2.2.2.2.2.2.2.2.1,
          x2.2.2.2.2.2.2.2.2.2.2.2)
noncomputable def c37 : Con D := ⟨37, [.lf (.sl 0), .lf (.int .i64), .lf (.int .i64), .lf (.sl 5), .lf (.sl 6), .lf (.sl 7), .lf (.int .i64), .lf (.int .i64)], [.lf (.sl 0), .lf (.int .i64), .lf (.sl 5), .lf (.sl 6), .lf (.sl 7), .lf (.sl 1), .lf (.sl 10), .lf (.sl 0), .lf (.sl 11)], [.one (.ptr 1000 0), .agg [.h 2 [], .own 1001, .own 1002, .own 1003, .h 6 [], .h 7 []]], [(1000, .box [.h 0 [0], .h 1 []]), (1001, .sl 5 49 3 [0]), (1002, .sl 6 98 4 [0]), (1003, .sl 7 100 5 [0])], [.agg [.own 1004, .own 1005, .own 1006, .own 1007]], [(1000, .box [.h 0 [0], .h 1 []]), (1001, .sl 5 49 2 [0]), (1002, .sl 6 98 3 [0]), (1003, .sl 7 100 4 [0]), (1004, .sl 1 4 5 [0]), (1005, .sl 10 51 6 [0]), (1006, .sl 0 3 7 [0]), (1007, .sl 11 91 8 [0])], fun h => Src_Followed ⟨h.1, h.2.1⟩ ⟨h.2.2.1, h.2.2.2.1, h.2.2.2.2.1, h.2.2.2.2.2.1, h.2.2.2.2.2.2.1, h.2.2.2.2.2.2.2⟩⟩
theorem c37_ok : ConOk Try.prog T c37 := fn_ok (Φ := [c66, c67]) (rs := [.cell 4 36]) (an := .o) pOk repOk (AllC.mem (⟨c66_ok, c67_ok, trivial⟩ : AllC _ _ [c66, c67])) hmix Try.call37 Try.func37 rfl rfl (by kernel_rfl) (fun h => by kernel_rfl)

noncomputable def dynposlaw19_world (a0 : Src) : Option (Int × Int × Int × Int × Int × Int × (List Int) × Int × (List Breaker) × (List Source) × (List Consumer) × (List Bool) × (List Running) × (List Int) × (List Part)) :=
  Option.bind (Src_Board a0) fun x1 =>
    Option.bind (Src_Table (Src.mk x1.2.2.2.1 x1.2.2.2.2.1)) fun x2 =>
      Option.bind
        (Src_Followed (Src.mk x2.2.2.2.1 x2.2.2.2.2)
          (Board.mk x1.1 x1.2.2.2.2.2.1 x1.2.2.2.2.2.2.1 x1.2.2.2.2.2.2.2
            x1.2.1 x1.2.2.1))
        fun x3 =>
        some
          (x1.1, x1.2.1, x1.2.2.1, x2.1, x2.2.1, x2.2.2.1, x3.1, x3.2.1, x3.2.2.1,
            x3.2.2.2.1, x3.2.2.2.2.1, x3.2.2.2.2.2.1, x3.2.2.2.2.2.2.1,
            x3.2.2.2.2.2.2.2.1, x3.2.2.2.2.2.2.2.2)
noncomputable def c8 : Con D := ⟨8, [.lf (.sl 0), .lf (.int .i64)], [.lf (.int .i64), .lf (.int .i64), .lf (.int .i64), .lf (.int .i64), .lf (.int .i64), .lf (.int .i64), .lf (.sl 0), .lf (.int .i64), .lf (.sl 5), .lf (.sl 6), .lf (.sl 7), .lf (.sl 1), .lf (.sl 10), .lf (.sl 0), .lf (.sl 11)], [.one (.ptr 1000 0)], [(1000, .box [.h 0 [0], .h 1 []])], [.agg [.h 0 [], .own 1001, .own 1002, .own 1003, .h 1 [], .h 2 []], .agg [.h 3 [], .h 4 [], .h 5 []], .agg [.own 1004, .own 1005, .own 1006, .own 1007]], [(1000, .box [.h 6 [0, 1], .h 7 []]), (1001, .sl 5 49 8 [0, 1]), (1002, .sl 6 98 9 [0, 1]), (1003, .sl 7 100 10 [0, 1]), (1004, .sl 1 4 11 [0, 1]), (1005, .sl 10 51 12 [0, 1]), (1006, .sl 0 3 13 [0, 1]), (1007, .sl 11 91 14 [0, 1])], fun h => dynposlaw19_world ⟨h.1, h.2⟩⟩
theorem c8_ok : ConOk Try.prog T c8 := fn_ok (Φ := [c35, c36, c37]) (rs := [.cell 2 29, .cell 3 31, .cell 4 36]) (an := .o) pOk repOk (AllC.mem (⟨c35_ok, c36_ok, c37_ok, trivial⟩ : AllC _ _ [c35, c36, c37])) hmix Try.call8 Try.func8 rfl rfl (by kernel_rfl) (fun h => by kernel_rfl)

end Rx
end Go.Proofs.Ytkcjbcmpnoaghaa
