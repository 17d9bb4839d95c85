/- Plain functions, walks. Written by a program (wip/gen). -/
import Derived.Test.YtcekgnnekooohaaRt
import Derived.Test.YtcekgnnekooohaaRf
import Derived.Test.YtcekgnnekooohaaRg1
set_option linter.unusedVariables false
set_option maxRecDepth 100000
namespace Go.Proofs.Ytcekgnnekooohaa
open Go Go.RowKit Dp
namespace Rx

noncomputable def board_Broken (a0 : Power) (a1 : Int) (a2 : Int) : Option (Bool) := Option.bind (slices_Contains_Part_Part a0.Broken (Part.mk a1 a2)) fun x1 => some x1
noncomputable def c30 : Con D := ⟨30, [.lf (.sl 1), .lf (.sl 8), .lf (.sl 0), .lf (.sl 9), .lf (.int .i64), .lf (.int .i64)], [.lf .bool], [.agg [.h 0 [0], .h 1 [0], .h 2 [0], .h 3 [0]], .one (.h 4 []), .one (.h 5 [])], [], [.one (.h 0 [])], [], fun h => board_Broken ⟨h.1, h.2.1, h.2.2.1, h.2.2.2.1⟩ h.2.2.2.2.1 h.2.2.2.2.2⟩
theorem c30_ok : ConOk Try.prog T c30 := fn_ok (Φ := [c57]) (rs := [.tmp 6]) (an := .o) pOk repOk (AllC.mem (⟨c57_ok, trivial⟩ : AllC _ _ [c57])) hmix Try.call30 Try.func30 rfl rfl (by kernel_rfl) (fun h => by kernel_rfl)

noncomputable def balance_Rating_L1 (a0 : Board) (x1 : List Int ×
  List Int ×
    List Int ×
      Bool) : Int × Int →
  Option
    (Int × Int ⊕
      Int) := fun x2 =>
  if decide (x2.2 < len x1.2.1) = true then
    Option.bind (idx x1.2.1 x2.2) fun x3 =>
      Option.bind (idx a0.Sources x3) fun x4 => some (.inl (W (x2.1 + x4.Rating), W (x2.2 + 1)))
  else some (.inr x2.1)
noncomputable def balance_Rating (a0 : Board) (a1 : Power) (a2 : Int) : Option (Int) :=
  Option.bind (board_Of a0 a1 a2) fun x1 =>
    Option.bind (loopO (balance_Rating_L1 a0 x1) (0, 0)) fun x5 => some x5
noncomputable def c32 : Con D := ⟨32, [.lf (.int .i64), .lf (.sl 4), .lf (.sl 5), .lf (.sl 6), .lf (.int .i64), .lf (.int .i64), .lf (.sl 1), .lf (.sl 8), .lf (.sl 0), .lf (.sl 9), .lf (.int .i64)], [.lf (.int .i64)], [.agg [.h 0 [], .h 1 [0], .h 2 [0], .h 3 [0], .h 4 [], .h 5 []], .agg [.h 6 [0], .h 7 [0], .h 8 [0], .h 9 [0]], .one (.h 10 [])], [], [.one (.h 0 [])], [], fun h => balance_Rating ⟨h.1, h.2.1, h.2.2.1, h.2.2.2.1, h.2.2.2.2.1, h.2.2.2.2.2.1⟩ ⟨h.2.2.2.2.2.2.1, h.2.2.2.2.2.2.2.1, h.2.2.2.2.2.2.2.2.1, h.2.2.2.2.2.2.2.2.2.1⟩ h.2.2.2.2.2.2.2.2.2.2⟩
theorem c32_ok : ConOk Try.prog T c32 := fn_ok (Φ := [c28]) (rs := [.tmp 6]) (an := (.n none .o (.n none .o (.n none .o (.n none (.n none .o (.n none (.loop ⟨[.lf (.int .i64), .lf (.int .i64)], [(9, .one (.h 0 [])), (22, .one (.h 1 []))], [], [], 3216⟩ true [(.exit 0, ⟨[.lf (.int .i64)], [(9, .one (.h 0 []))], [], [], 3216⟩)] .o) .o)) .o))))) pOk repOk (AllC.mem (⟨c28_ok, trivial⟩ : AllC _ _ [c28])) hmix Try.call32 Try.func32 rfl rfl (by kernel_rfl) (fun h => by kernel_rfl)

noncomputable def balance_Load_L1 (a1 : Power) (x1 : List Int ×
  List Int ×
    List Int ×
      Bool) : Int × Int →
  Option
    (Int × Int ⊕
      Int) := fun x2 =>
  if decide (x2.2 < len x1.2.2.1) = true then
    Option.bind (idx x1.2.2.1 x2.2) fun x3 =>
      Option.bind
        (if decide (len x1.2.1 > 0) = true then
          Option.bind (idx a1.Limits x3) fun x4 => some (W (x2.1 + x4))
        else some x2.1)
        fun x5 => some (.inl (x5, W (x2.2 + 1)))
  else some (.inr x2.1)
noncomputable def balance_Load (a0 : Board) (a1 : Power) (a2 : Int) : Option (Int) :=
  Option.bind (board_Of a0 a1 a2) fun x1 =>
    Option.bind (loopO (balance_Load_L1 a1 x1) (0, 0)) fun x6 => some x6
noncomputable def c33 : Con D := ⟨33, [.lf (.int .i64), .lf (.sl 4), .lf (.sl 5), .lf (.sl 6), .lf (.int .i64), .lf (.int .i64), .lf (.sl 1), .lf (.sl 8), .lf (.sl 0), .lf (.sl 9), .lf (.int .i64)], [.lf (.int .i64)], [.agg [.h 0 [], .h 1 [0], .h 2 [0], .h 3 [0], .h 4 [], .h 5 []], .agg [.h 6 [0], .h 7 [0], .h 8 [0], .h 9 [0]], .one (.h 10 [])], [], [.one (.h 0 [])], [], fun h => balance_Load ⟨h.1, h.2.1, h.2.2.1, h.2.2.2.1, h.2.2.2.2.1, h.2.2.2.2.2.1⟩ ⟨h.2.2.2.2.2.2.1, h.2.2.2.2.2.2.2.1, h.2.2.2.2.2.2.2.2.1, h.2.2.2.2.2.2.2.2.2.1⟩ h.2.2.2.2.2.2.2.2.2.2⟩
theorem c33_ok : ConOk Try.prog T c33 := fn_ok (Φ := [c28]) (rs := [.tmp 6]) (an := (.n none .o (.n none .o (.n none .o (.n none (.n none .o (.n none (.loop ⟨[.lf (.int .i64), .lf (.int .i64)], [(9, .one (.h 0 [])), (22, .one (.h 1 []))], [], [], 3216⟩ true [(.exit 0, ⟨[.lf (.int .i64)], [(9, .one (.h 0 []))], [], [], 3216⟩)] (.n none .o (.n none .o (.n none (.n none (.n none .o (.n none .o (.n (some (true, [(.normal, ⟨[.lf (.int .i64)], [(9, .one (.h 0 []))], [], [], 3794⟩)])) .o .o))) .o) .o)))) .o)) .o))))) pOk repOk (AllC.mem (⟨c28_ok, trivial⟩ : AllC _ _ [c28])) hmix Try.call33 Try.func33 rfl rfl (by kernel_rfl) (fun h => by kernel_rfl)

theorem bk56 : BkOk Try.prog T (56, 0) := ⟨Try.f56, 22, 3, 3, 4, 106, .one (.int .i64), rfl, Try.call56, Try.func56, by kernel_rfl, rfl, rfl, rfl, rfl, rfl, rfl, rfl⟩
noncomputable def roster_Low_L1 (a0 : Board) (a1 : Table) (a2 : Power) (a3 : Int) (x4 : List
  Int) : Int × Int × Bool →
  Option
    (Int × Int × Bool ⊕
      Int × Bool ⊕
        Int ×
          Bool) := fun x5 =>
  if decide (x5.1 < 0) = true then some (.inr (.inl (x5.2.1, x5.2.2)))
  else
    Option.bind (idx x4 x5.1) fun x6 =>
      Option.bind
        (Option.bind (roster_breaker a0 x6) fun x7 =>
          Option.bind (board_Broken a2 2 x7) fun x8 =>
            if x8 = true then some (.inl (x5.2.1, x5.2.2))
            else
              Option.bind (balance_Rating a0 a2 a3) fun x9 =>
                Option.bind (idx a0.Sources x6) fun x10 =>
                  Option.bind (balance_Load a0 a2 a3) fun x11 =>
                    if decide (W (100 * x11) ≤ W (a1.Stop * W (x9 - x10.Rating))) = true then
                      some (.inr (.inr (.inr (x6, true))))
                    else some (.inl (x5.2.1, x5.2.2)))
        fun x12 =>
        Sum.elim (fun x13 => some (.inl (x5.1 - 1, x13.1, x13.2))) (fun x14 => some x14) x12
noncomputable def roster_Low (a0 : Board) (a1 : Table) (a2 : Power) (a3 : Int) : Option (Int × Bool) :=
  Option.bind (board_Of a0 a2 a3) fun x1 =>
    Option.bind
      (Option.bind (roster_Valid a1) fun x2 =>
        if (!x2) = true then some true else some (decide (len x1.2.1 < 2)))
      fun x3 =>
      if x3 = true then some (0, false)
      else
        Option.bind (slices_Backward_int_int x1.2.1) fun x4 =>
          Option.bind (loopO (roster_Low_L1 a0 a1 a2 a3 x4) (len x4 - 1, 0, false)) fun x15 =>
            Sum.elim (fun x16 => some (0, false)) (fun x17 => some x17) x15
noncomputable def c13 : Con D := ⟨13, [.lf (.int .i64), .lf (.sl 4), .lf (.sl 5), .lf (.sl 6), .lf (.int .i64), .lf (.int .i64), .lf (.int .i64), .lf (.int .i64), .lf (.int .i64), .lf (.sl 1), .lf (.sl 8), .lf (.sl 0), .lf (.sl 9), .lf (.int .i64)], [.lf (.int .i64), .lf .bool], [.agg [.h 0 [], .h 1 [0], .h 2 [0], .h 3 [0], .h 4 [], .h 5 []], .agg [.h 6 [], .h 7 [], .h 8 []], .agg [.h 9 [0], .h 10 [0], .h 11 [0], .h 12 [0]], .one (.h 13 [])], [], [.one (.h 0 []), .one (.h 1 [])], [], fun h => roster_Low ⟨h.1, h.2.1, h.2.2.1, h.2.2.2.1, h.2.2.2.2.1, h.2.2.2.2.2.1⟩ ⟨h.2.2.2.2.2.2.1, h.2.2.2.2.2.2.2.1, h.2.2.2.2.2.2.2.2.1⟩ ⟨h.2.2.2.2.2.2.2.2.2.1, h.2.2.2.2.2.2.2.2.2.2.1, h.2.2.2.2.2.2.2.2.2.2.2.1, h.2.2.2.2.2.2.2.2.2.2.2.2.1⟩ h.2.2.2.2.2.2.2.2.2.2.2.2.2⟩
theorem c13_ok : ConOk Try.prog T c13 := fnR_ok (Bk := [(56, 0)]) (Φ := [c11, c28, c29, c30, c31, c32, c33]) (rs := [.cell 8 3, .cell 9 4]) (an := (.n none .o (.n none .o (.n none (.n none (.r (some (true, [(.normal, ⟨[.lf .bool], [(30, .one (.h 0 []))], [], [], 3088⟩)])) .nil) .o) (.n none (.n none .o (.loop ⟨[.lf (.int .i64), .lf (.int .i64), .lf .bool], [(34, .one (.h 0 []))], [(2256, .box [.h 1 []]), (2320, .box [.h 2 []])], [2256, 2320], 3345⟩ false [(.exit 0, ⟨[.lf (.int .i64), .lf .bool], [], [(2256, .box [.h 0 []]), (2320, .box [.h 1 []])], [2256, 2320], 3345⟩)] (.n none .o (.n (some (false, [(.normal, ⟨[.lf (.int .i64), .lf .bool], [], [(2256, .box [.h 0 []]), (2320, .box [.h 1 []])], [2256, 2320], 3476⟩)])) .o .o)))) .o))))) pOk repOk (AllC.mem (⟨c11_ok, c28_ok, c29_ok, c30_ok, c31_ok, c32_ok, c33_ok, trivial⟩ : AllC _ _ [c11, c28, c29, c30, c31, c32, c33])) hmix (fun q hq => (List.mem_singleton.1 hq) ▸ bk56) Try.call13 Try.func13 rfl rfl (by kernel_rfl) (fun h => by kernel_rfl)

noncomputable def board_Live (a0 : Board) (a1 : Power) (a2 : Int) : Option (Bool) := Option.bind (board_Of a0 a1 a2) fun x1 => some (decide (len x1.2.1 > 0))
noncomputable def c42 : Con D := ⟨42, [.lf (.int .i64), .lf (.sl 4), .lf (.sl 5), .lf (.sl 6), .lf (.int .i64), .lf (.int .i64), .lf (.sl 1), .lf (.sl 8), .lf (.sl 0), .lf (.sl 9), .lf (.int .i64)], [.lf .bool], [.agg [.h 0 [], .h 1 [0], .h 2 [0], .h 3 [0], .h 4 [], .h 5 []], .agg [.h 6 [0], .h 7 [0], .h 8 [0], .h 9 [0]], .one (.h 10 [])], [], [.one (.h 0 [])], [], fun h => board_Live ⟨h.1, h.2.1, h.2.2.1, h.2.2.2.1, h.2.2.2.2.1, h.2.2.2.2.2.1⟩ ⟨h.2.2.2.2.2.2.1, h.2.2.2.2.2.2.2.1, h.2.2.2.2.2.2.2.2.1, h.2.2.2.2.2.2.2.2.2.1⟩ h.2.2.2.2.2.2.2.2.2.2⟩
theorem c42_ok : ConOk Try.prog T c42 := fn_ok (Φ := [c28]) (rs := [.tmp 6]) (an := .o) pOk repOk (AllC.mem (⟨c28_ok, trivial⟩ : AllC _ _ [c28])) hmix Try.call42 Try.func42 rfl rfl (by kernel_rfl) (fun h => by kernel_rfl)

noncomputable def roster_High (a0 : Board) (a1 : Table) (a2 : Power) (a3 : Int) : Option (Bool) :=
  Option.bind
    (Option.bind (roster_Valid a1) fun x1 =>
      if x1 = true then
        Option.bind (board_Live a0 a2 a3) fun x2 =>
          if x2 = true then
            Option.bind (balance_Load a0 a2 a3) fun x3 =>
              Option.bind (balance_Rating a0 a2 a3) fun x4 => some (decide (W (100 * x3) > W (a1.Start * x4)))
          else some false
      else some false)
    fun x5 => some x5
noncomputable def c17 : Con D := ⟨17, [.lf (.int .i64), .lf (.sl 4), .lf (.sl 5), .lf (.sl 6), .lf (.int .i64), .lf (.int .i64), .lf (.int .i64), .lf (.int .i64), .lf (.int .i64), .lf (.sl 1), .lf (.sl 8), .lf (.sl 0), .lf (.sl 9), .lf (.int .i64)], [.lf .bool], [.agg [.h 0 [], .h 1 [0], .h 2 [0], .h 3 [0], .h 4 [], .h 5 []], .agg [.h 6 [], .h 7 [], .h 8 []], .agg [.h 9 [0], .h 10 [0], .h 11 [0], .h 12 [0]], .one (.h 13 [])], [], [.one (.h 0 [])], [], fun h => roster_High ⟨h.1, h.2.1, h.2.2.1, h.2.2.2.1, h.2.2.2.2.1, h.2.2.2.2.2.1⟩ ⟨h.2.2.2.2.2.2.1, h.2.2.2.2.2.2.2.1, h.2.2.2.2.2.2.2.2.1⟩ ⟨h.2.2.2.2.2.2.2.2.2.1, h.2.2.2.2.2.2.2.2.2.2.1, h.2.2.2.2.2.2.2.2.2.2.2.1, h.2.2.2.2.2.2.2.2.2.2.2.2.1⟩ h.2.2.2.2.2.2.2.2.2.2.2.2.2⟩
theorem c17_ok : ConOk Try.prog T c17 := fn_ok (Φ := [c11, c32, c33, c42]) (rs := [.tmp 8]) (an := (.n none .o (.n none (.r (some (true, [(.normal, ⟨[.lf .bool], [(8, .one (.h 0 []))], [], [], 2320⟩)])) .nil) .o))) pOk repOk (AllC.mem (⟨c11_ok, c32_ok, c33_ok, c42_ok, trivial⟩ : AllC _ _ [c11, c32, c33, c42])) hmix Try.call17 Try.func17 rfl rfl (by kernel_rfl) (fun h => by kernel_rfl)

noncomputable def roster_since (a0 : Int) (a1 : Bool) (a2 : Int) : Option (Int) := if (!a1) = true then some (-1) else if (a0 == (-1)) = true then some a2 else some a0
noncomputable def c46 : Con D := ⟨46, [.lf (.int .i64), .lf .bool, .lf (.int .i64)], [.lf (.int .i64)], [.one (.h 0 []), .one (.h 1 []), .one (.h 2 [])], [], [.one (.h 0 [])], [], fun h => roster_since h.1 h.2.1 h.2.2⟩
theorem c46_ok : ConOk Try.prog T c46 := fn_ok (Φ := []) (rs := [.tmp 6]) (an := .o) pOk repOk (AllC.mem (l := []) trivial) hmix Try.call46 Try.func46 rfl rfl (by kernel_rfl) (fun h => by kernel_rfl)

noncomputable def roster_helps (a0 : Board) (a1 : Power) (a2 : Island) (a3 : Int) : Option (Bool) :=
  Option.bind (roster_breaker a0 a3) fun x1 =>
    Option.bind (idx a0.Breakers x1) fun x2 =>
      Option.bind
        (Option.bind (board_Broken a1 1 a3) fun x3 =>
          if x3 = true then some true
          else
            Option.bind (board_Broken a1 2 x1) fun x4 =>
              if x4 = true then some true else Option.bind (board_Broken a1 3 x2.A) fun x5 => some x5)
        fun x6 =>
        Option.bind
          (if (!x6) = true then
            Option.bind (slices_Contains_int_int a2.Buses x2.A) fun x7 =>
              if x7 = true then
                Option.bind (slices_Contains_int_int a2.Sources a3) fun x8 =>
                  if (!x8) = true then Option.bind (idx a1.Sources a3) fun x9 => some (x9.State != 3)
                  else some false
              else some false
          else some false)
          fun x10 => some x10
noncomputable def c39 : Con D := ⟨39, [.lf (.int .i64), .lf (.sl 4), .lf (.sl 5), .lf (.sl 6), .lf (.int .i64), .lf (.int .i64), .lf (.sl 1), .lf (.sl 8), .lf (.sl 0), .lf (.sl 9), .lf (.sl 0), .lf (.sl 0), .lf (.sl 0), .lf (.int .i64)], [.lf .bool], [.agg [.h 0 [], .h 1 [0], .h 2 [0], .h 3 [0], .h 4 [], .h 5 []], .agg [.h 6 [0], .h 7 [0], .h 8 [0], .h 9 [0]], .agg [.h 10 [0], .h 11 [0], .h 12 [0]], .one (.h 13 [])], [], [.one (.h 0 [])], [], fun h => roster_helps ⟨h.1, h.2.1, h.2.2.1, h.2.2.2.1, h.2.2.2.2.1, h.2.2.2.2.2.1⟩ ⟨h.2.2.2.2.2.2.1, h.2.2.2.2.2.2.2.1, h.2.2.2.2.2.2.2.2.1, h.2.2.2.2.2.2.2.2.2.1⟩ ⟨h.2.2.2.2.2.2.2.2.2.2.1, h.2.2.2.2.2.2.2.2.2.2.2.1, h.2.2.2.2.2.2.2.2.2.2.2.2.1⟩ h.2.2.2.2.2.2.2.2.2.2.2.2.2⟩
theorem c39_ok : ConOk Try.prog T c39 := fn_ok (Φ := [c30, c31, c55]) (rs := [.tmp 8]) (an := (.n none .o (.n none .o (.n none .o (.n none (.r (some (true, [(.normal, ⟨[.lf .bool], [(11, .one (.h 0 []))], [], [], 3024⟩)])) .nil) (.n none (.r (some (true, [(.normal, ⟨[.lf .bool], [(8, .one (.h 0 []))], [], [], 3089⟩)])) .nil) .o)))))) pOk repOk (AllC.mem (⟨c30_ok, c31_ok, c55_ok, trivial⟩ : AllC _ _ [c30, c31, c55])) hmix Try.call39 Try.func39 rfl rfl (by kernel_rfl) (fun h => by kernel_rfl)

noncomputable def roster_Next_L2 (a0 : Board) (a1 : Power) (x1 : List Int ×
  List Int ×
    List Int ×
      Bool) (x3 : Int) : Int →
  Option
    (Int ⊕
      Unit ⊕
        Int ⊕
          Unit ⊕
            Int ×
              Bool) := fun x4 =>
  if decide (x4 < len a1.Sources) = true then
    Option.bind (idx a1.Sources x4) fun x5 =>
      Option.bind
        (if (x5.State == x3) = true then
          Option.bind (roster_helps a0 a1 (Island.mk x1.1 x1.2.1 x1.2.2.1) x4) fun x6 => some x6
        else some false)
        fun x7 =>
        if x7 = true then some (.inr (.inr (.inr (.inr (x4, true)))))
        else some (.inl (W (x4 + 1)))
  else some (.inr (.inl ()))
noncomputable def roster_Next_L1 (a0 : Board) (a1 : Power) (x1 : List Int ×
  List Int ×
    List Int ×
      Bool) : Int →
  Option
    (Int ⊕
      Unit ⊕
        Int ×
          Bool) := fun x2 =>
  if decide (x2 < len [2, 1, 0]) = true then
    Option.bind (idx [2, 1, 0] x2) fun x3 =>
      Option.bind (loopO (roster_Next_L2 a0 a1 x1 x3) 0) fun x8 =>
        Sum.elim (fun x9 => some (.inl (W (x2 + 1)))) (fun x10 => some x10) x8
  else some (.inr (.inl ()))
noncomputable def roster_Next (a0 : Board) (a1 : Power) (a2 : Int) : Option (Int × Bool) :=
  Option.bind (board_Of a0 a1 a2) fun x1 =>
    if (!x1.2.2.2) = true then some (0, false)
    else
      Option.bind (loopO (roster_Next_L1 a0 a1 x1) 0) fun x11 =>
        Sum.elim (fun x12 => some (0, false)) (fun x13 => some x13) x11
noncomputable def c15 : Con D := ⟨15, [.lf (.int .i64), .lf (.sl 4), .lf (.sl 5), .lf (.sl 6), .lf (.int .i64), .lf (.int .i64), .lf (.sl 1), .lf (.sl 8), .lf (.sl 0), .lf (.sl 9), .lf (.int .i64)], [.lf (.int .i64), .lf .bool], [.agg [.h 0 [], .h 1 [0], .h 2 [0], .h 3 [0], .h 4 [], .h 5 []], .agg [.h 6 [0], .h 7 [0], .h 8 [0], .h 9 [0]], .one (.h 10 [])], [], [.one (.h 0 []), .one (.h 1 [])], [], fun h => roster_Next ⟨h.1, h.2.1, h.2.2.1, h.2.2.2.1, h.2.2.2.2.1, h.2.2.2.2.2.1⟩ ⟨h.2.2.2.2.2.2.1, h.2.2.2.2.2.2.2.1, h.2.2.2.2.2.2.2.2.1, h.2.2.2.2.2.2.2.2.2.1⟩ h.2.2.2.2.2.2.2.2.2.2⟩
theorem c15_ok : ConOk Try.prog T c15 := fn_ok (Φ := [c28, c39]) (rs := [.tmp 6, .tmp 7]) (an := (.n none .o (.n none .o (.n none .o (.n none (.n none .o (.n none (.loop ⟨[.lf (.int .i64)], [(25, .one (.h 0 []))], [], [], 3280⟩ false [(.exit 0, ⟨[], [], [], [], 3280⟩)] (.n none .o (.n none .o (.n none (.n none (.n none .o (.n none .o (.n none (.loop ⟨[.lf (.int .i64)], [(32, .one (.h 0 []))], [], [], 3857⟩ false [(.exit 2, ⟨[], [], [], [], 3857⟩)] (.n none .o (.n none .o (.n none (.n none (.n none .o (.n none (.r (some (true, [(.normal, ⟨[.lf .bool], [(42, .one (.any)), (43, .one (.any)), (44, .one (.any)), (45, .one (.any)), (46, .one (.any)), (47, .one (.h 0 []))], [], [], 4370⟩)])) .nil) .o)) .o) .o)))) .o))) .o) .o)))) .o)) .o))))) pOk repOk (AllC.mem (⟨c28_ok, c39_ok, trivial⟩ : AllC _ _ [c28, c39])) hmix Try.call15 Try.func15 rfl rfl (by kernel_rfl) (fun h => by kernel_rfl)

noncomputable def sync_Leader (a0 : Board) (a1 : Power) (a2 : Int) : Option (Int × Bool) :=
  Option.bind (board_Of a0 a1 a2) fun x1 =>
    if (len x1.2.1 == 0) = true then some (0, false)
    else Option.bind (idx x1.2.1 0) fun x2 => some (x2, true)
noncomputable def c71 : Con D := ⟨71, [.lf (.int .i64), .lf (.sl 4), .lf (.sl 5), .lf (.sl 6), .lf (.int .i64), .lf (.int .i64), .lf (.sl 1), .lf (.sl 8), .lf (.sl 0), .lf (.sl 9), .lf (.int .i64)], [.lf (.int .i64), .lf .bool], [.agg [.h 0 [], .h 1 [0], .h 2 [0], .h 3 [0], .h 4 [], .h 5 []], .agg [.h 6 [0], .h 7 [0], .h 8 [0], .h 9 [0]], .one (.h 10 [])], [], [.one (.h 0 []), .one (.h 1 [])], [], fun h => sync_Leader ⟨h.1, h.2.1, h.2.2.1, h.2.2.2.1, h.2.2.2.2.1, h.2.2.2.2.2.1⟩ ⟨h.2.2.2.2.2.2.1, h.2.2.2.2.2.2.2.1, h.2.2.2.2.2.2.2.2.1, h.2.2.2.2.2.2.2.2.2.1⟩ h.2.2.2.2.2.2.2.2.2.2⟩
theorem c71_ok : ConOk Try.prog T c71 := fn_ok (Φ := [c28]) (rs := [.tmp 6, .tmp 7]) (an := .o) pOk repOk (AllC.mem (⟨c28_ok, trivial⟩ : AllC _ _ [c28])) hmix Try.call71 Try.func71 rfl rfl (by kernel_rfl) (fun h => by kernel_rfl)

noncomputable def board_Connected (a0 : Board) (a1 : Power) (a2 : Int) : Option (Int × Bool) :=
  Option.bind (board_State a0 a1) fun x1 =>
    if (x1 != 0) = true then some (0, false)
    else Option.bind (board_connected a0 a1 a2) fun x2 => some (x2.1, x2.2)
noncomputable def c72 : Con D := ⟨72, [.lf (.int .i64), .lf (.sl 4), .lf (.sl 5), .lf (.sl 6), .lf (.int .i64), .lf (.int .i64), .lf (.sl 1), .lf (.sl 8), .lf (.sl 0), .lf (.sl 9), .lf (.int .i64)], [.lf (.int .i64), .lf .bool], [.agg [.h 0 [], .h 1 [0], .h 2 [0], .h 3 [0], .h 4 [], .h 5 []], .agg [.h 6 [0], .h 7 [0], .h 8 [0], .h 9 [0]], .one (.h 10 [])], [], [.one (.h 0 []), .one (.h 1 [])], [], fun h => board_Connected ⟨h.1, h.2.1, h.2.2.1, h.2.2.2.1, h.2.2.2.2.1, h.2.2.2.2.2.1⟩ ⟨h.2.2.2.2.2.2.1, h.2.2.2.2.2.2.2.1, h.2.2.2.2.2.2.2.2.1, h.2.2.2.2.2.2.2.2.2.1⟩ h.2.2.2.2.2.2.2.2.2.2⟩
theorem c72_ok : ConOk Try.prog T c72 := fn_ok (Φ := [c45, c78]) (rs := [.tmp 6, .tmp 7]) (an := .o) pOk repOk (AllC.mem (⟨c45_ok, c78_ok, trivial⟩ : AllC _ _ [c45, c78])) hmix Try.call72 Try.func72 rfl rfl (by kernel_rfl) (fun h => by kernel_rfl)

noncomputable def roster_start (a0 : Board) (a1 : Power) (a2 : Int) (a3 : Int) : Option (Bool × (List Act)) :=
  Option.bind (idx a1.Sources a3) fun x1 =>
    if (x1.State == 0) = true then some (false, [Act.mk 3 a3 0])
    else
      if (x1.State == 2) = true then
        Option.bind (sync_Leader a0 a1 a2) fun x2 =>
          Option.bind (board_Connected a0 a1 x2.1) fun x3 =>
            Option.bind (roster_breaker a0 a3) fun x4 =>
              some (true, [Act.mk 6 a3 x3.1, Act.mk 1 x4 0])
      else some (false, [])
noncomputable def c47 : Con D := ⟨47, [.lf (.int .i64), .lf (.sl 4), .lf (.sl 5), .lf (.sl 6), .lf (.int .i64), .lf (.int .i64), .lf (.sl 1), .lf (.sl 8), .lf (.sl 0), .lf (.sl 9), .lf (.int .i64), .lf (.int .i64)], [.lf .bool, .lf (.sl 14)], [.agg [.h 0 [], .h 1 [0], .h 2 [0], .h 3 [0], .h 4 [], .h 5 []], .agg [.h 6 [0], .h 7 [0], .h 8 [0], .h 9 [0]], .one (.h 10 []), .one (.h 11 [])], [], [.one (.own 1000), .one (.h 0 [])], [(1000, .sl 14 72 1 [])], fun h => roster_start ⟨h.1, h.2.1, h.2.2.1, h.2.2.2.1, h.2.2.2.2.1, h.2.2.2.2.2.1⟩ ⟨h.2.2.2.2.2.2.1, h.2.2.2.2.2.2.2.1, h.2.2.2.2.2.2.2.2.1, h.2.2.2.2.2.2.2.2.2.1⟩ h.2.2.2.2.2.2.2.2.2.2.1 h.2.2.2.2.2.2.2.2.2.2.2⟩
theorem c47_ok : ConOk Try.prog T c47 := fn_ok (Φ := [c31, c71, c72]) (rs := [.tmp 8, .tmp 9]) (an := .o) pOk repOk (AllC.mem (⟨c31_ok, c71_ok, c72_ok, trivial⟩ : AllC _ _ [c31, c71, c72])) hmix Try.call47 Try.func47 rfl rfl (by kernel_rfl) (fun h => by kernel_rfl)

noncomputable def roster_Step (a0 : Board) (a1 : Table) (a2 : Power) (a3 : Int) (a4 : Int) (a5 : Roster) : Option (Int × Int × Int × (List Act)) :=
  Option.bind (board_State a0 a2) fun x1 =>
    if (x1 != 0) = true then some (0, 0, x1, [])
    else
      Option.bind
        (Option.bind (roster_Valid a1) fun x2 =>
          if (!x2) = true then some true
          else
            if decide (a4 < 0) = true then some true
            else
              if decide (a4 > 2147483648) = true then some true
              else
                Option.bind (roster_Step_1 a5.High a4) fun x3 =>
                  if (!x3) = true then some true else Option.bind (roster_Step_1 a5.Low a4) fun x4 => some !x4)
        fun x5 =>
        if x5 = true then some (0, 0, 1, [])
        else
          Option.bind (if decide (a3 < 0) = true then some true else some (decide (a3 ≥ a0.Buses))) fun x6 =>
            if x6 = true then some (0, 0, 10, [])
            else
              Option.bind (roster_Low a0 a1 a2 a3) fun x7 =>
                Option.bind (roster_High a0 a1 a2 a3) fun x8 =>
                  Option.bind (roster_since a5.High x8 a4) fun x9 =>
                    Option.bind (roster_since a5.Low x7.2 a4) fun x10 =>
                      Option.bind (roster_Next a0 a2 a3) fun x11 =>
                        Option.bind
                          (if x11.2 = true then
                            if (x9 != (-1)) = true then some (decide (W (a4 - x9) ≥ a1.Delay)) else some false
                          else some false)
                          fun x12 =>
                          if x12 = true then
                            Option.bind (roster_start a0 a2 a3 x11.1) fun x15 =>
                              Option.bind (if x15.1 = true then some ((-1), x10) else some (x9, x10))
                                fun x16 => some (x16.1, x16.2, 0, x15.2)
                          else
                            Option.bind
                              (if (x10 != (-1)) = true then some (decide (W (a4 - x10) ≥ a1.Delay))
                              else some false)
                              fun x13 =>
                              if x13 = true then
                                Option.bind (roster_breaker a0 x7.1) fun x14 =>
                                  some
                                    (x9, (-1), 0,
                                      [Act.mk 2 x14 0,
                                        Act.mk 4 x7.1 0])
                              else some (x9, x10, 0, [])
noncomputable def c19 : Con D := ⟨19, [.lf (.int .i64), .lf (.sl 4), .lf (.sl 5), .lf (.sl 6), .lf (.int .i64), .lf (.int .i64), .lf (.int .i64), .lf (.int .i64), .lf (.int .i64), .lf (.sl 1), .lf (.sl 8), .lf (.sl 0), .lf (.sl 9), .lf (.int .i64), .lf (.int .i64), .lf (.int .i64), .lf (.int .i64)], [.lf (.int .i64), .lf (.int .i64), .lf (.int .i64), .lf (.sl 14)], [.agg [.h 0 [], .h 1 [0], .h 2 [0], .h 3 [0], .h 4 [], .h 5 []], .agg [.h 6 [], .h 7 [], .h 8 []], .agg [.h 9 [0], .h 10 [0], .h 11 [0], .h 12 [0]], .one (.h 13 []), .one (.h 14 []), .agg [.h 15 [], .h 16 []]], [], [.agg [.h 0 [], .h 1 []], .one (.own 1000), .one (.h 2 [])], [(1000, .sl 14 72 3 [])], fun h => roster_Step ⟨h.1, h.2.1, h.2.2.1, h.2.2.2.1, h.2.2.2.2.1, h.2.2.2.2.2.1⟩ ⟨h.2.2.2.2.2.2.1, h.2.2.2.2.2.2.2.1, h.2.2.2.2.2.2.2.2.1⟩ ⟨h.2.2.2.2.2.2.2.2.2.1, h.2.2.2.2.2.2.2.2.2.2.1, h.2.2.2.2.2.2.2.2.2.2.2.1, h.2.2.2.2.2.2.2.2.2.2.2.2.1⟩ h.2.2.2.2.2.2.2.2.2.2.2.2.2.1 h.2.2.2.2.2.2.2.2.2.2.2.2.2.2.1 ⟨h.2.2.2.2.2.2.2.2.2.2.2.2.2.2.2.1, h.2.2.2.2.2.2.2.2.2.2.2.2.2.2.2.2⟩⟩
theorem c19_ok : ConOk Try.prog T c19 := fn_ok (Φ := [c11, c13, c15, c17, c31, c44, c45, c46, c47]) (rs := [.cell 12 36, .tmp 13, .tmp 14]) (an := (.n none .o (.n none .o (.n none (.n none .o (.n none (.n none .o (.n none .o (.n none (.r (some (true, [(.normal, ⟨[.lf .bool], [(32, .one (.h 0 []))], [], [], 3152⟩)])) .nil) (.n none .o (.n none (.r (some (true, [(.normal, ⟨[.lf .bool], [(59, .one (.h 0 []))], [], [], 3217⟩)])) .nil) .o))))) .o)) (.n none .o (.n none .o (.n none (.n none .o (.n none (.r (some (true, [(.normal, ⟨[.lf .bool], [(114, .one (.h 0 []))], [], [], 5650⟩)])) .nil) (.n none (.n none .o (.n none (.n none .o (.n (some (true, [(.normal, ⟨[.lf (.int .i64), .lf (.int .i64)], [], [(2256, .box [.h 0 [], .h 1 []])], [2256], 6419⟩)])) .o .o)) .o)) .o))) (.n none (.n none (.r (some (true, [(.normal, ⟨[.lf .bool], [(138, .one (.h 0 []))], [], [], 5715⟩)])) .nil) .o) .o)))))))) pOk repOk (AllC.mem (⟨c11_ok, c13_ok, c15_ok, c17_ok, c31_ok, c44_ok, c45_ok, c46_ok, c47_ok, trivial⟩ : AllC _ _ [c11, c13, c15, c17, c31, c44, c45, c46, c47])) hmix Try.call19 Try.func19 rfl rfl (by kernel_rfl) (fun h => by kernel_rfl)

noncomputable def dynposlaw19_sane_L1 : Int × Int × Int →
  Option
    (Int × Int × Int ⊕
      Int × Int ⊕
        Bool) := fun x1 =>
  if decide (x1.1 < 6) = true then
    Option.bind
      (roster_Step
        (Board.mk 1
          [Breaker.mk 2 0 0, Breaker.mk 2 0 1,
            Breaker.mk 3 0 0]
          [Source.mk 100 0 0, Source.mk 100 0 2]
          [Consumer.mk 81 0 0 (-1) []] 0 0)
        (Table.mk 80 30 5)
        (Power.mk [true, false, true]
          [Running.mk 2 0 5000 0,
            Running.mk 0 0 5000 0]
          [81] [])
        0 x1.1 (Roster.mk x1.2.1 x1.2.2))
      fun x2 =>
      Option.bind
        (if (x2.2.2.1 != 0) = true then some true
        else
          if (!decide (len x2.2.2.2 > 0) == (x1.1 == 5)) = true then some true
          else
            if (x1.1 == 5) = true then
              Option.bind (idx x2.2.2.2 0) fun x3 =>
                some !(x3.Kind == 3 && (x3.Unit == 1 && x3.Value == 0))
            else some false)
        fun x4 =>
        if x4 = true then some (.inr (.inr false))
        else some (.inl (W (x1.1 + 1), x2.1, x2.2.1))
  else some (.inr (.inl (x1.2.1, x1.2.2)))
noncomputable def dynposlaw19_sane : Option (Bool) := Option.bind (loopO dynposlaw19_sane_L1 (0, (-1), (-1))) fun x5 =>
  Sum.elim (fun x6 => some true) (fun x7 => some x7) x5
noncomputable def c5 : Con D := ⟨5, [], [.lf .bool], [], [], [.one (.h 0 [])], [], fun h => dynposlaw19_sane⟩
theorem c5_ok : ConOk Try.prog T c5 := fn_ok (Φ := [c19]) (rs := [.tmp 0]) (an := (.n none .o (.n none .o (.n none .o (.n none .o (.n none (.n none .o (.n none (.loop ⟨[.lf (.int .i64), .lf (.int .i64), .lf (.int .i64)], [(4, .one (.h 0 []))], [(3408, .box [.h 1 [], .h 2 []])], [3408], 3664⟩ false [(.exit 0, ⟨[.lf (.int .i64), .lf (.int .i64)], [], [(3408, .box [.h 0 [], .h 1 []])], [3408], 3664⟩)] (.n none .o (.n none (.n none (.n none .o (.n none (.n none (.r (some (true, [(.normal, ⟨[.lf .bool], [(42, .one (.any)), (43, .one (.any)), (44, .one (.any)), (45, .one (.any)), (46, .one (.any)), (47, .one (.any)), (50, .one (.any)), (51, .one (.any)), (52, .one (.any)), (53, .one (.any)), (54, .one (.any)), (55, .one (.any)), (56, .one (.any)), (57, .one (.any)), (58, .one (.any)), (59, .one (.h 0 []))], [], [], 4755⟩)])) .nil) .o) .o)) .o) .o))) .o)) .o)))))) pOk repOk (AllC.mem (⟨c19_ok, trivial⟩ : AllC _ _ [c19])) hmix Try.call5 Try.func5 rfl rfl (by kernel_rfl) (fun h => by kernel_rfl)

noncomputable def dynposmake_New (a0 : (List Int)) : Option ((List Int) × Int) := Option.bind (slc a0 0 (imin (len a0) 600)) fun x1 => some (x1, 0)
noncomputable def c6 : Con D := ⟨6, [.lf (.sl 0)], [.lf (.sl 0), .lf (.int .i64)], [.one (.h 0 [0])], [], [.one (.ptr 1000 0)], [(1000, .box [.h 0 [0], .h 1 []])], fun h => dynposmake_New h⟩
theorem c6_ok : ConOk Try.prog T c6 := fn_ok (Φ := []) (rs := [.tmp 2]) (an := .o) pOk repOk (AllC.mem (l := []) trivial) hmix Try.call6 Try.func6 rfl rfl (by kernel_rfl) (fun h => by kernel_rfl)

noncomputable def dynposmake_Mod (a0 : Int) (a1 : Int) : Option (Int) :=
  if decide (a1 < 1) = true then some 0
  else Option.bind (remO a0 a1) fun x1 => Option.bind (remO (W (x1 + a1)) a1) fun x2 => some x2
noncomputable def c27 : Con D := ⟨27, [.lf (.int .i64), .lf (.int .i64)], [.lf (.int .i64)], [.one (.h 0 []), .one (.h 1 [])], [], [.one (.h 0 [])], [], fun h => dynposmake_Mod h.1 h.2⟩
theorem c27_ok : ConOk Try.prog T c27 := fn_ok (Φ := []) (rs := [.tmp 4]) (an := .o) pOk repOk (AllC.mem (l := []) trivial) hmix Try.call27 Try.func27 rfl rfl (by kernel_rfl) (fun h => by kernel_rfl)

noncomputable def Src_N (a0 : Src) (a1 : Int) : Option (Int × (List Int) × Int) :=
  if decide (a0.At ≥ len a0.L) = true then some (0, a0.L, a0.At)
  else
    Option.bind (idx a0.L (W (W (a0.At + 1) - 1))) fun x1 =>
      Option.bind (dynposmake_Mod x1 a1) fun x2 => some (x2, a0.L, W (a0.At + 1))
noncomputable def c10 : Con D := ⟨10, [.lf (.sl 0), .lf (.int .i64), .lf (.int .i64)], [.lf (.int .i64), .lf (.sl 0), .lf (.int .i64)], [.one (.ptr 1000 0), .one (.h 2 [])], [(1000, .box [.h 0 [0], .h 1 []])], [.one (.h 0 [])], [(1000, .box [.h 1 [0], .h 2 []])], fun h => Src_N ⟨h.1, h.2.1⟩ h.2.2⟩
theorem c10_ok : ConOk Try.prog T c10 := fn_ok (Φ := [c27]) (rs := [.tmp 4]) (an := .o) pOk repOk (AllC.mem (⟨c27_ok, trivial⟩ : AllC _ _ [c27])) hmix Try.call10 Try.func10 rfl rfl (by kernel_rfl) (fun h => by kernel_rfl)

noncomputable def Src_Range (a0 : Src) (a1 : Int) (a2 : Int) : Option (Int × (List Int) × Int) :=
  Option.bind (Src_N a0 (W (W (a2 - a1) + 1))) fun x1 => some (W (a1 + x1.1), x1.2.1, x1.2.2)
noncomputable def c9 : Con D := ⟨9, [.lf (.sl 0), .lf (.int .i64), .lf (.int .i64), .lf (.int .i64)], [.lf (.int .i64), .lf (.sl 0), .lf (.int .i64)], [.one (.ptr 1000 0), .one (.h 2 []), .one (.h 3 [])], [(1000, .box [.h 0 [0], .h 1 []])], [.one (.h 0 [])], [(1000, .box [.h 1 [0], .h 2 []])], fun h => Src_Range ⟨h.1, h.2.1⟩ h.2.2.1 h.2.2.2⟩
theorem c9_ok : ConOk Try.prog T c9 := fn_ok (Φ := [c10]) (rs := [.tmp 6]) (an := .o) pOk repOk (AllC.mem (⟨c10_ok, trivial⟩ : AllC _ _ [c10])) hmix Try.call9 Try.func9 rfl rfl (by kernel_rfl) (fun h => by kernel_rfl)

noncomputable def Src_Pick (a0 : Src) (a1 : (List Int)) : Option (Int × (List Int) × Int × (List Int)) :=
  Option.bind (Src_N a0 (len a1)) fun x1 => Option.bind (idx a1 x1.1) fun x2 => some (x2, x1.2.1, x1.2.2, a1)
noncomputable def c51_1 : Con D := ⟨51, [.lf (.sl 0), .lf (.int .i64), .lf (.sl 0)], [.lf (.int .i64), .lf (.sl 0), .lf (.int .i64), .lf (.sl 0)], [.one (.ptr 1000 0), .one (.own 1001)], [(1000, .box [.h 0 [0], .h 1 []]), (1001, .sl 0 3 2 [0])], [.one (.h 0 [])], [(1000, .box [.h 1 [0], .h 2 []]), (1001, .sl 0 3 3 [0])], fun h => Src_Pick ⟨h.1, h.2.1⟩ h.2.2⟩
theorem c51_1_ok : ConOk Try.prog T c51_1 := fn_ok (Φ := [c10]) (rs := [.tmp 4]) (an := .o) pOk repOk (AllC.mem (⟨c10_ok, trivial⟩ : AllC _ _ [c10])) hmix Try.call51 Try.func51 rfl rfl (by kernel_rfl) (fun h => by kernel_rfl)

noncomputable def Src_Board_L1 : Int × List Int × Int × Int × Int × Int × List Breaker →
  Option
    (Int × List Int × Int × Int × Int × Int × List Breaker ⊕
      List Int ×
        Int ×
          Int ×
            Int ×
              Int ×
                List
                  Breaker) := fun x4 =>
  if decide (x4.1 < x4.2.2.2.1) = true then
    Option.bind (Src_N (Src.mk x4.2.1 x4.2.2.1) 6) fun x5 =>
      Option.bind
        (if decide (x5.1 < 5) = true then
          Option.bind (Src_N (Src.mk x5.2.1 x5.2.2) x4.1) fun x6 =>
            Option.bind (app x4.2.2.2.2.2.2 [Breaker.mk 1 x6.1 x4.1]) fun x7 =>
              some (x6.2.1, x6.2.2, x4.2.2.2.1, x4.2.2.2.2.1, x4.2.2.2.2.2.1, x7)
        else
          some
            (x5.2.1, x5.2.2, x4.2.2.2.1, x4.2.2.2.2.1, x4.2.2.2.2.2.1,
              x4.2.2.2.2.2.2))
        fun x8 =>
        some
          (.inl
            (W (x4.1 + 1), x8.1, x8.2.1, x8.2.2.1, x8.2.2.2.1, x8.2.2.2.2.1,
              x8.2.2.2.2.2))
  else
    some
      (.inr
        (x4.2.1, x4.2.2.1, x4.2.2.2.1, x4.2.2.2.2.1, x4.2.2.2.2.2.1,
          x4.2.2.2.2.2.2))
noncomputable def Src_Board_L2 : Int × List Int × Int × Int × Int × Int × List Breaker × List Source →
  Option
    (Int × List Int × Int × Int × Int × Int × List Breaker × List Source ⊕
      List Int ×
        Int ×
          Int ×
            Int ×
              Int ×
                List Breaker ×
                  List
                    Source) := fun x15 =>
  if decide (x15.1 > 0) = true then
    Option.bind (Src_N (Src.mk x15.2.1 x15.2.2.1) x15.2.2.2.1) fun x16 =>
      Option.bind
        (app x15.2.2.2.2.2.2.1 [Breaker.mk 2 x16.1 (len x15.2.2.2.2.2.2.2)])
        fun x17 =>
        Option.bind (Src_Pick (Src.mk x16.2.1 x16.2.2) [10, 50, 100])
          fun x18 =>
          Option.bind (Src_Pick (Src.mk x18.2.1 x18.2.2.1) [0, 5, x18.1]) fun x19 =>
            Option.bind (Src_Pick (Src.mk x19.2.1 x19.2.2.1) [0, 1, 3])
              fun x20 =>
              Option.bind (app x15.2.2.2.2.2.2.2 [Source.mk x18.1 x19.1 x20.1]) fun x21 =>
                some
                  (.inl
                    (W (x15.1 - 1), x20.2.1, x20.2.2.1, x15.2.2.2.1,
                      x15.2.2.2.2.1, x15.2.2.2.2.2.1, x17, x21))
  else
    some
      (.inr
        (x15.2.1, x15.2.2.1, x15.2.2.2.1, x15.2.2.2.2.1, x15.2.2.2.2.2.1,
          x15.2.2.2.2.2.2.1, x15.2.2.2.2.2.2.2))
noncomputable def Src_Board_L3 : Int × List Int × Int × Int × Int × Int × List Breaker × List Consumer →
  Option
    (Int × List Int × Int × Int × Int × Int × List Breaker × List Consumer ⊕
      List Int ×
        Int ×
          Int ×
            Int ×
              Int ×
                List Breaker ×
                  List
                    Consumer) := fun x24 =>
  if decide (x24.1 > 0) = true then
    Option.bind (Src_N (Src.mk x24.2.1 x24.2.2.1) x24.2.2.2.1) fun x25 =>
      Option.bind
        (app x24.2.2.2.2.2.2.1 [Breaker.mk 3 x25.1 (len x24.2.2.2.2.2.2.2)])
        fun x26 =>
        Option.bind
          (if decide (x24.2.2.2.1 > 1) = true then
            Option.bind (Src_N (Src.mk x25.2.1 x25.2.2) 4) fun x27 =>
              some (x27.1 == 3, x27.2.1, x27.2.2)
          else some (false, x25.2.1, x25.2.2))
          fun x28 =>
          Option.bind
            (if x28.1 = true then
              Option.bind (remO (W (x25.1 + 1)) x24.2.2.2.1) fun x29 =>
                Option.bind (app x26 [Breaker.mk 3 x29 (len x24.2.2.2.2.2.2.2)]) fun x30 =>
                  some (x24.2.2.2.1, x24.2.2.2.2.1, x24.2.2.2.2.2.1, x30)
            else some (x24.2.2.2.1, x24.2.2.2.2.1, x24.2.2.2.2.2.1, x26))
            fun x31 =>
            Option.bind
              (Src_Pick (Src.mk x28.2.1 x28.2.2) [0, 5, 20, 40])
              fun x32 =>
              Option.bind (quoO x32.1 2) fun x33 =>
                Option.bind (Src_Pick (Src.mk x32.2.1 x32.2.2.1) [0, x33, x32.1]) fun x34 =>
                  Option.bind (Src_N (Src.mk x34.2.1 x34.2.2.1) 3) fun x35 =>
                    Option.bind (Src_Range (Src.mk x35.2.1 x35.2.2) (-1) 2) fun x36 =>
                      Option.bind
                        (if decide (len x24.2.2.2.2.2.2.2 > 0) = true then
                          Option.bind (Src_N (Src.mk x36.2.1 x36.2.2) 4) fun x37 =>
                            some (x37.1 == 3, x37.2.1, x37.2.2)
                        else some (false, x36.2.1, x36.2.2))
                        fun x38 =>
                        Option.bind
                          (if x38.1 = true then
                            Option.bind (Src_N (Src.mk x38.2.1 x38.2.2) (len x24.2.2.2.2.2.2.2))
                              fun x39 => some (x39.2.1, x39.2.2, x32.1, x34.1, x35.1, x36.1, [x39.1])
                          else some (x38.2.1, x38.2.2, x32.1, x34.1, x35.1, x36.1, []))
                          fun x40 =>
                          Option.bind
                            (app x24.2.2.2.2.2.2.2
                              [Consumer.mk x40.2.2.1 x40.2.2.2.1 x40.2.2.2.2.1
                                  x40.2.2.2.2.2.1 x40.2.2.2.2.2.2])
                            fun x41 =>
                            some
                              (.inl
                                (W (x24.1 - 1), x40.1, x40.2.1, x31.1, x31.2.1, x31.2.2.1,
                                  x31.2.2.2, x41))
  else
    some
      (.inr
        (x24.2.1, x24.2.2.1, x24.2.2.2.1, x24.2.2.2.2.1, x24.2.2.2.2.2.1,
          x24.2.2.2.2.2.2.1, x24.2.2.2.2.2.2.2))
noncomputable def Src_Board (a0 : Src) : Option (Int × Int × Int × (List Int) × Int × (List Breaker) × (List Source) × (List Consumer)) :=
  Option.bind (Src_Range a0 1 4) fun x1 =>
    Option.bind (Src_Pick (Src.mk x1.2.1 x1.2.2) [0, 50, 200, 1800])
      fun x2 =>
      Option.bind (Src_Pick (Src.mk x2.2.1 x2.2.2.1) [0, 10, 50]) fun x3 =>
        Option.bind (loopO Src_Board_L1 (1, x3.2.1, x3.2.2.1, x1.1, x2.1, x3.1, [])) fun x9 =>
          Option.bind
            (if decide (x9.2.2.1 > 2) = true then
              Option.bind (Src_N (Src.mk x9.1 x9.2.1) 2) fun x10 =>
                some (x10.1 == 1, x10.2.1, x10.2.2)
            else some (false, x9.1, x9.2.1))
            fun x11 =>
            Option.bind
              (if x11.1 = true then
                Option.bind
                  (app x9.2.2.2.2.2
                    [Breaker.mk 1 0 (W (x9.2.2.1 - 1))])
                  fun x12 => some (x9.2.2.1, x9.2.2.2.1, x9.2.2.2.2.1, x12)
              else some (x9.2.2.1, x9.2.2.2.1, x9.2.2.2.2.1, x9.2.2.2.2.2))
              fun x13 =>
              Option.bind (Src_N (Src.mk x11.2.1 x11.2.2) 5) fun x14 =>
                Option.bind
                  (loopO Src_Board_L2
                    (x14.1, x14.2.1, x14.2.2, x13.1, x13.2.1, x13.2.2.1, x13.2.2.2, []))
                  fun x22 =>
                  Option.bind (Src_N (Src.mk x22.1 x22.2.1) 6) fun x23 =>
                    Option.bind
                      (loopO Src_Board_L3
                        (x23.1, x23.2.1, x23.2.2, x22.2.2.1, x22.2.2.2.1,
                          x22.2.2.2.2.1, x22.2.2.2.2.2.1, []))
                      fun x42 =>
                      some
                        (x42.2.2.1, x42.2.2.2.1, x42.2.2.2.2.1, x42.1, x42.2.1,
                          x42.2.2.2.2.2.1, x22.2.2.2.2.2.2, x42.2.2.2.2.2.2)
noncomputable def c22 : Con D := ⟨22, [.lf (.sl 0), .lf (.int .i64)], [.lf (.int .i64), .lf (.int .i64), .lf (.int .i64), .lf (.sl 0), .lf (.int .i64), .lf (.sl 4), .lf (.sl 5), .lf (.sl 6)], [.one (.ptr 1000 0)], [(1000, .box [.h 0 [0], .h 1 []])], [.agg [.h 0 [], .own 1001, .own 1002, .own 1003, .h 1 [], .h 2 []]], [(1000, .box [.h 3 [0], .h 4 []]), (1001, .sl 4 66 5 []), (1002, .sl 5 68 6 []), (1003, .sl 6 64 7 [1])], fun h => Src_Board ⟨h.1, h.2⟩⟩
theorem c22_ok : ConOk Try.prog T c22 := fn_ok (Φ := [c9, c10, c51_1]) (rs := [.cell 2 27]) (an := (.n none .o (.n none .o (.n none (.n none .o (.n none (.loop ⟨[.lf (.int .i64), .lf (.sl 0), .lf (.int .i64), .lf (.int .i64), .lf (.int .i64), .lf (.int .i64), .lf (.sl 4)], [(4, .one (.h 0 []))], [(1000, .box [.h 1 [0], .h 2 []]), (2640, .box [.h 3 [], .own 2832, .nils, .nils, .h 4 [], .h 5 []]), (2832, .sl 4 66 6 [])], [1000, 2640], 2896⟩ true [(.exit 0, ⟨[.lf (.sl 0), .lf (.int .i64), .lf (.int .i64), .lf (.int .i64), .lf (.int .i64), .lf (.sl 4)], [], [(1000, .box [.h 0 [0], .h 1 []]), (2640, .box [.h 2 [], .own 2832, .nils, .nils, .h 3 [], .h 4 []]), (2832, .sl 4 66 5 [])], [1000, 2640], 2896⟩)] (.n none .o (.n none (.n none (.n none .o (.n (some (true, [(.normal, ⟨[.lf (.sl 0), .lf (.int .i64), .lf (.int .i64), .lf (.int .i64), .lf (.int .i64), .lf (.sl 4)], [], [(1000, .box [.h 0 [0], .h 1 []]), (2640, .box [.h 2 [], .own 3351, .nils, .nils, .h 3 [], .h 4 []]), (3351, .sl 4 66 5 [])], [1000, 2640, 2832], 3415⟩)])) .o .o)) .o) .o))) .o)) (.n none (.n none (.r (some (true, [(.normal, ⟨[.lf .bool, .lf (.sl 0), .lf (.int .i64)], [(47, .one (.h 0 []))], [(1000, .box [.h 1 [0], .h 2 []])], [1000], 2966⟩)])) .nil) (.n (some (true, [(.normal, ⟨[.lf (.int .i64), .lf (.int .i64), .lf (.int .i64), .lf (.sl 4)], [], [(2640, .box [.h 0 [], .own 2969, .nils, .nils, .h 1 [], .h 2 []]), (2969, .sl 4 66 3 [])], [2640, 2832], 3033⟩)])) .o .o)) (.n none (.n none .o (.n none (.loop ⟨[.lf (.int .i64), .lf (.sl 0), .lf (.int .i64), .lf (.int .i64), .lf (.int .i64), .lf (.int .i64), .lf (.sl 4), .lf (.sl 5)], [(5, .one (.h 0 []))], [(1000, .box [.h 1 [0], .h 2 []]), (2640, .box [.h 3 [], .own 3229, .own 3230, .nils, .h 4 [], .h 5 []]), (3229, .sl 4 66 6 []), (3230, .sl 5 68 7 [])], [1000, 2640, 2969], 3293⟩ true [(.exit 2, ⟨[.lf (.sl 0), .lf (.int .i64), .lf (.int .i64), .lf (.int .i64), .lf (.int .i64), .lf (.sl 4), .lf (.sl 5)], [], [(1000, .box [.h 0 [0], .h 1 []]), (2640, .box [.h 2 [], .own 3229, .own 3230, .nils, .h 3 [], .h 4 []]), (3229, .sl 4 66 5 []), (3230, .sl 5 68 6 [])], [1000, 2640, 2969], 3293⟩)] .o) .o)) (.n none (.n none .o (.n none (.loop ⟨[.lf (.int .i64), .lf (.sl 0), .lf (.int .i64), .lf (.int .i64), .lf (.int .i64), .lf (.int .i64), .lf (.sl 4), .lf (.sl 6)], [(7, .one (.h 0 []))], [(1000, .box [.h 1 [0], .h 2 []]), (2640, .box [.h 3 [], .own 3492, .own 3230, .own 3493, .h 4 [], .h 5 []]), (3492, .sl 4 66 6 []), (3493, .sl 6 64 7 [1])], [1000, 2640, 3229], 3556⟩ true [(.exit 4, ⟨[.lf (.sl 0), .lf (.int .i64), .lf (.int .i64), .lf (.int .i64), .lf (.int .i64), .lf (.sl 4), .lf (.sl 6)], [], [(1000, .box [.h 0 [0], .h 1 []]), (2640, .box [.h 2 [], .own 3492, .own 3230, .own 3493, .h 3 [], .h 4 []]), (3492, .sl 4 66 5 []), (3493, .sl 6 64 6 [1])], [1000, 2640, 3229], 3556⟩)] (.n none .o (.n none (.n none (.n none .o (.n none .o (.n none .o (.n none (.n none (.r (some (true, [(.normal, ⟨[.lf .bool, .lf (.sl 0), .lf (.int .i64)], [(118, .one (.any)), (119, .one (.any)), (120, .one (.any)), (121, .one (.h 0 []))], [(1000, .box [.h 1 [0], .h 2 []])], [1000], 4908⟩)])) .nil) (.n (some (true, [(.normal, ⟨[.lf (.int .i64), .lf (.int .i64), .lf (.int .i64), .lf (.sl 4)], [], [(2640, .box [.h 0 [], .own 4911, .own 3230, .own 3493, .h 1 [], .h 2 []]), (4911, .sl 4 66 3 [])], [2640, 4652], 4975⟩)])) .o .o)) (.n none .o (.n none .o (.n none (.n none (.r (some (true, [(.normal, ⟨[.lf .bool, .lf (.sl 0), .lf (.int .i64)], [(152, .one (.any)), (153, .one (.any)), (154, .one (.any)), (155, .one (.h 0 []))], [(1000, .box [.h 1 [0], .h 2 []])], [1000], 6195⟩)])) .nil) (.n (some (true, [(.normal, ⟨[.lf (.sl 0), .lf (.int .i64), .lf (.int .i64), .lf (.int .i64), .lf (.int .i64), .lf (.int .i64), .lf (.sl 0)], [], [(1000, .box [.h 0 [0], .h 1 []]), (6003, .box [.h 2 [], .h 3 [], .h 4 [], .h 5 [], .own 6198]), (6198, .sl 0 3 6 [])], [1000, 6003], 6262⟩)])) .o .o)) .o))))))) .o) .o))) .o)) .o))))))) pOk repOk (AllC.mem (⟨c9_ok, c10_ok, c51_1_ok, trivial⟩ : AllC _ _ [c9, c10, c51_1])) hmix Try.call22 Try.func22 rfl rfl (by kernel_rfl) (fun h => by kernel_rfl)

noncomputable def Src_PickT (a0 : Src) (a1 : (List Int)) : Option (Int × (List Int) × Int) :=
  Option.bind (Src_N a0 (len a1)) fun x1 => Option.bind (idx a1 x1.1) fun x2 => some (x2, x1.2.1, x1.2.2)
noncomputable def c51 : Con D := ⟨51, [.lf (.sl 0), .lf (.int .i64), .lf (.sl 0)], [.lf (.int .i64), .lf (.sl 0), .lf (.int .i64)], [.one (.ptr 1000 0), .one (.h 2 [0])], [(1000, .box [.h 0 [0], .h 1 []])], [.one (.h 0 [])], [(1000, .box [.h 1 [0], .h 2 []])], fun h => Src_PickT ⟨h.1, h.2.1⟩ h.2.2⟩
theorem c51_ok : ConOk Try.prog T c51 := fn_ok (Φ := [c10]) (rs := [.tmp 4]) (an := .o) pOk repOk (AllC.mem (⟨c10_ok, trivial⟩ : AllC _ _ [c10])) hmix Try.call51 Try.func51 rfl rfl (by kernel_rfl) (fun h => by kernel_rfl)

noncomputable def Src_Table (a0 : Src) : Option (Int × Int × Int × (List Int) × Int) :=
  Option.bind (Src_Pick a0 [60, 80, 100]) fun x1 =>
    Option.bind (Src_Pick (Src.mk x1.2.1 x1.2.2.1) [1, 30, 50]) fun x2 =>
      Option.bind (Src_Pick (Src.mk x2.2.1 x2.2.2.1) [0, 1, 3]) fun x3 =>
        some (x1.1, x2.1, x3.1, x3.2.1, x3.2.2.1)
noncomputable def c23 : Con D := ⟨23, [.lf (.sl 0), .lf (.int .i64)], [.lf (.int .i64), .lf (.int .i64), .lf (.int .i64), .lf (.sl 0), .lf (.int .i64)], [.one (.ptr 1000 0)], [(1000, .box [.h 0 [0], .h 1 []])], [.agg [.h 0 [], .h 1 [], .h 2 []]], [(1000, .box [.h 3 [0], .h 4 []])], fun h => Src_Table ⟨h.1, h.2⟩⟩
theorem c23_ok : ConOk Try.prog T c23 := fn_ok (Φ := [c51_1]) (rs := [.cell 2 34]) (an := .o) pOk repOk (AllC.mem (⟨c51_1_ok, trivial⟩ : AllC _ _ [c51_1])) hmix Try.call23 Try.func23 rfl rfl (by kernel_rfl) (fun h => by kernel_rfl)

noncomputable def dynposref15_within (a0 : Int) (a1 : Int) (a2 : Int) : Option (Bool) := Option.bind (if decide (a0 ≥ a1) = true then some (decide (a0 ≤ a2)) else some false) fun x1 => some x1
noncomputable def c73 : Con D := ⟨73, [.lf (.int .i64), .lf (.int .i64), .lf (.int .i64)], [.lf .bool], [.one (.h 0 []), .one (.h 1 []), .one (.h 2 [])], [], [.one (.h 0 [])], [], fun h => dynposref15_within h.1 h.2.1 h.2.2⟩
theorem c73_ok : ConOk Try.prog T c73 := fn_ok (Φ := []) (rs := [.tmp 6]) (an := (.n none .o (.n none (.r (some (true, [(.normal, ⟨[.lf .bool], [(6, .one (.h 0 []))], [], [], 2128⟩)])) .nil) .o))) pOk repOk (AllC.mem (l := []) trivial) hmix Try.call73 Try.func73 rfl rfl (by kernel_rfl) (fun h => by kernel_rfl)

noncomputable def dynposref15_Exists (a0 : Board) (a1 : Part) : Option (Bool) :=
  if (a1.Kind == 1) = true then
    Option.bind (dynposref15_within a1.Number 0 (W (len a0.Sources - 1))) fun x4 => some x4
  else
    if (a1.Kind == 2) = true then
      Option.bind (dynposref15_within a1.Number 0 (W (len a0.Breakers - 1))) fun x3 => some x3
    else
      if (a1.Kind == 3) = true then
        Option.bind (dynposref15_within a1.Number 0 (W (a0.Buses - 1))) fun x2 => some x2
      else
        if (a1.Kind == 4) = true then
          Option.bind (dynposref15_within a1.Number 0 (W (len a0.Consumers - 1))) fun x1 =>
            some x1
        else some false
noncomputable def c74 : Con D := ⟨74, [.lf (.int .i64), .lf (.sl 4), .lf (.sl 5), .lf (.sl 6), .lf (.int .i64), .lf (.int .i64), .lf (.int .i64), .lf (.int .i64)], [.lf .bool], [.agg [.h 0 [], .h 1 [0], .h 2 [0], .h 3 [0], .h 4 [], .h 5 []], .agg [.h 6 [], .h 7 []]], [], [.one (.h 0 [])], [], fun h => dynposref15_Exists ⟨h.1, h.2.1, h.2.2.1, h.2.2.2.1, h.2.2.2.2.1, h.2.2.2.2.2.1⟩ ⟨h.2.2.2.2.2.2.1, h.2.2.2.2.2.2.2⟩⟩
theorem c74_ok : ConOk Try.prog T c74 := fn_ok (Φ := [c73]) (rs := [.tmp 4]) (an := .o) pOk repOk (AllC.mem (⟨c73_ok, trivial⟩ : AllC _ _ [c73])) hmix Try.call74 Try.func74 rfl rfl (by kernel_rfl) (fun h => by kernel_rfl)

noncomputable def dynposref15_of_L1 (a0 : Board) (a1 : Int) (a2 : Int) : Int × List Int →
  Option
    (Int × List Int ⊕
      List
        Int) := fun x1 =>
  if decide (x1.1 < len a0.Breakers) = true then
    Option.bind (idx a0.Breakers x1.1) fun x2 =>
      Option.bind
        (if (x2.Kind == a1) = true then
          if (x2.B == a2) = true then some true
          else if (a1 == 1) = true then some (x2.A == a2) else some false
        else some false)
        fun x3 =>
        Option.bind (if x3 = true then Option.bind (app x1.2 [x1.1]) fun x4 => some x4 else some x1.2) fun x5 =>
          some (.inl (W (x1.1 + 1), x5))
  else some (.inr x1.2)
noncomputable def dynposref15_of (a0 : Board) (a1 : Int) (a2 : Int) : Option ((List Int)) := Option.bind (loopO (dynposref15_of_L1 a0 a1 a2) (0, [])) fun x6 => some x6
noncomputable def c63 : Con D := ⟨63, [.lf (.int .i64), .lf (.sl 4), .lf (.sl 5), .lf (.sl 6), .lf (.int .i64), .lf (.int .i64), .lf (.int .i64), .lf (.int .i64)], [.lf (.sl 0)], [.agg [.h 0 [], .h 1 [0], .h 2 [0], .h 3 [0], .h 4 [], .h 5 []], .one (.h 6 []), .one (.h 7 [])], [], [.one (.own 1000)], [(1000, .sl 0 3 0 [])], fun h => dynposref15_of ⟨h.1, h.2.1, h.2.2.1, h.2.2.2.1, h.2.2.2.2.1, h.2.2.2.2.2.1⟩ h.2.2.2.2.2.2.1 h.2.2.2.2.2.2.2⟩
theorem c63_ok : ConOk Try.prog T c63 := fn_ok (Φ := []) (rs := [.tmp 6]) (an := (.n none .o (.n none .o (.n none (.n none .o (.n none (.loop ⟨[.lf (.int .i64), .lf (.sl 0)], [(7, .one (.own 2448)), (13, .one (.h 0 []))], [(2448, .sl 0 3 1 [])], [], 2512⟩ true [(.exit 0, ⟨[.lf (.sl 0)], [(7, .one (.own 2448))], [(2448, .sl 0 3 0 [])], [], 2512⟩)] (.n none .o (.n none .o (.n none (.n none (.n none .o (.n none (.r (some (true, [(.normal, ⟨[.lf .bool], [(23, .one (.any)), (24, .one (.any)), (25, .one (.any)), (26, .one (.any)), (27, .one (.any)), (28, .one (.any)), (29, .one (.any)), (30, .one (.any)), (31, .one (.any)), (32, .one (.any)), (33, .one (.any)), (34, .one (.any)), (35, .one (.any)), (36, .one (.any)), (37, .one (.h 0 []))], [], [], 3026⟩)])) .nil) (.n (some (true, [(.normal, ⟨[.lf (.sl 0)], [(7, .one (.own 3027))], [(3027, .sl 0 3 0 [])], [2448], 3091⟩)])) .o .o))) .o) .o)))) .o)) .o)))) pOk repOk (AllC.mem (l := []) trivial) hmix Try.call63 Try.func63 rfl rfl (by kernel_rfl) (fun h => by kernel_rfl)

noncomputable def dynposref15_breakers_L2 (x2 : Breaker) (x5 : List
  Breaker) : Int →
  Option
    (Int ⊕
      Unit ⊕
        Unit ⊕
          Unit ⊕
            Int ⊕
              Unit ⊕
                Bool) := fun x6 =>
  if decide (x6 < len x5) = true then
    Option.bind (idx x5 x6) fun x7 =>
      if (x7.Kind == x2.Kind && (x7.A == x2.A && x7.B == x2.B)) = true then
        some (.inr (.inr (.inr (.inr (.inr (.inr false))))))
      else some (.inl (W (x6 + 1)))
  else some (.inr (.inl ()))
noncomputable def dynposref15_breakers_L1 (a0 : Board) : Int →
  Option
    (Int ⊕
      Unit ⊕
        Bool) := fun x1 =>
  if decide (x1 < len a0.Breakers) = true then
    Option.bind (idx a0.Breakers x1) fun x2 =>
      Option.bind (dynposref15_within x2.A 0 (W (a0.Buses - 1))) fun x3 =>
        if (!x3) = true then some (.inr (.inr false))
        else
          Option.bind
            (if (x2.Kind == 1) = true then
              Option.bind (dynposref15_within x2.B (W (x2.A + 1)) (W (a0.Buses - 1))) fun x15 =>
                if (!x15) = true then some (.inr (.inr (.inr false))) else some (.inl ())
            else
              Option.bind
                (if (x2.Kind == 2) = true then
                  Option.bind (dynposref15_within x2.B 0 (W (len a0.Sources - 1))) fun x11 =>
                    if (!x11) = true then some (.inr (.inr (.inr (.inr false))))
                    else some (.inl ())
                else
                  if (x2.Kind == 3) = true then
                    Option.bind (dynposref15_within x2.B 0 (W (len a0.Consumers - 1))) fun x4 =>
                      if (!x4) = true then some (.inr (.inr (.inr (.inr false))))
                      else
                        Option.bind (slc a0.Breakers 0 x1) fun x5 =>
                          Option.bind (loopO (dynposref15_breakers_L2 x2 x5) 0) fun x8 =>
                            Sum.elim (fun x9 => some (.inl ())) (fun x10 => some x10) x8
                  else some (.inr (.inr (.inr (.inr false)))))
                fun x12 => Sum.elim (fun x13 => some (.inl ())) (fun x14 => some x14) x12)
            fun x16 => Sum.elim (fun x17 => some (.inl (W (x1 + 1)))) (fun x18 => some x18) x16
  else some (.inr (.inl ()))
noncomputable def dynposref15_breakers_L3 (a0 : Board) : Int →
  Option
    (Int ⊕
      Unit ⊕
        Bool) := fun x21 =>
  if decide (x21 < len a0.Sources) = true then
    Option.bind (dynposref15_of a0 2 x21) fun x22 =>
      if (len x22 != 1) = true then some (.inr (.inr false)) else some (.inl (W (x21 + 1)))
  else some (.inr (.inl ()))
noncomputable def dynposref15_breakers_L4 (a0 : Board) : Int →
  Option
    (Int ⊕
      Unit ⊕
        Bool) := fun x25 =>
  if decide (x25 < len a0.Consumers) = true then
    Option.bind (dynposref15_of a0 3 x25) fun x26 =>
      if decide (len x26 < 1) = true then some (.inr (.inr false))
      else some (.inl (W (x25 + 1)))
  else some (.inr (.inl ()))
noncomputable def dynposref15_breakers (a0 : Board) : Option (Bool) :=
  Option.bind (loopO (dynposref15_breakers_L1 a0) 0) fun x19 =>
    Sum.elim
      (fun x20 =>
        Option.bind (loopO (dynposref15_breakers_L3 a0) 0) fun x23 =>
          Sum.elim
            (fun x24 =>
              Option.bind (loopO (dynposref15_breakers_L4 a0) 0) fun x27 =>
                Sum.elim (fun x28 => some true) (fun x29 => some x29) x27)
            (fun x30 => some x30) x23)
      (fun x31 => some x31) x19
noncomputable def c84 : Con D := ⟨84, [.lf (.int .i64), .lf (.sl 4), .lf (.sl 5), .lf (.sl 6), .lf (.int .i64), .lf (.int .i64)], [.lf .bool], [.agg [.h 0 [], .h 1 [0], .h 2 [0], .h 3 [0], .h 4 [], .h 5 []]], [], [.one (.h 0 [])], [], fun h => dynposref15_breakers ⟨h.1, h.2.1, h.2.2.1, h.2.2.2.1, h.2.2.2.2.1, h.2.2.2.2.2⟩⟩
theorem c84_ok : ConOk Try.prog T c84 := fn_ok (Φ := [c63, c73]) (rs := [.tmp 2]) (an := (.n none .o (.n none (.n none .o (.n none (.loop ⟨[.lf (.int .i64)], [(12, .one (.h 0 []))], [], [], 2448⟩ false [(.exit 0, ⟨[], [], [], [], 2448⟩)] (.n none .o (.n none .o (.n none (.n none (.n none .o (.n none .o (.n none .o (.n none (.n none .o (.n (some (false, [(.normal, ⟨[], [], [], [], 3665⟩)])) .o (.n none .o (.n (some (false, [(.normal, ⟨[], [], [], [], 3793⟩)])) .o (.n none .o (.n none (.n none .o (.n none .o (.n none (.loop ⟨[.lf (.int .i64)], [(63, .one (.h 0 []))], [], [], 4817⟩ false [(.exit 3, ⟨[], [], [], [], 4817⟩)] .o) .o))) .o)))))) .o)))) .o) .o)))) .o)) (.n none (.n none .o (.n none (.loop ⟨[.lf (.int .i64)], [(75, .one (.h 0 []))], [], [], 2768⟩ false [(.exit 5, ⟨[], [], [], [], 2768⟩)] .o) .o)) (.n none (.n none .o (.n none (.loop ⟨[.lf (.int .i64)], [(87, .one (.h 0 []))], [], [], 3088⟩ false [(.exit 7, ⟨[], [], [], [], 3088⟩)] .o) .o)) .o))))) pOk repOk (AllC.mem (⟨c63_ok, c73_ok, trivial⟩ : AllC _ _ [c63, c73])) hmix Try.call84 Try.func84 rfl rfl (by kernel_rfl) (fun h => by kernel_rfl)

noncomputable def dynposref15_sources_L1 (a0 : Board) : Int →
  Option
    (Int ⊕
      Unit ⊕
        Bool) := fun x1 =>
  if decide (x1 < len a0.Sources) = true then
    Option.bind (idx a0.Sources x1) fun x2 =>
      Option.bind
        (Option.bind (dynposref15_within x2.Rating 1 50000) fun x3 =>
          if (!x3) = true then some true
          else
            Option.bind (dynposref15_within x2.Least 0 x2.Rating) fun x4 =>
              if (!x4) = true then some true
              else Option.bind (dynposref15_within x2.Start 0 600) fun x5 => some !x5)
        fun x6 => if x6 = true then some (.inr (.inr false)) else some (.inl (W (x1 + 1)))
  else some (.inr (.inl ()))
noncomputable def dynposref15_sources (a0 : Board) : Option (Bool) :=
  Option.bind (loopO (dynposref15_sources_L1 a0) 0) fun x7 =>
    Sum.elim (fun x8 => some true) (fun x9 => some x9) x7
noncomputable def c85 : Con D := ⟨85, [.lf (.int .i64), .lf (.sl 4), .lf (.sl 5), .lf (.sl 6), .lf (.int .i64), .lf (.int .i64)], [.lf .bool], [.agg [.h 0 [], .h 1 [0], .h 2 [0], .h 3 [0], .h 4 [], .h 5 []]], [], [.one (.h 0 [])], [], fun h => dynposref15_sources ⟨h.1, h.2.1, h.2.2.1, h.2.2.2.1, h.2.2.2.2.1, h.2.2.2.2.2⟩⟩
theorem c85_ok : ConOk Try.prog T c85 := fn_ok (Φ := [c73]) (rs := [.tmp 2]) (an := (.n none .o (.n none (.n none .o (.n none (.loop ⟨[.lf (.int .i64)], [(8, .one (.h 0 []))], [], [], 2448⟩ false [(.exit 0, ⟨[], [], [], [], 2448⟩)] (.n none .o (.n none .o (.n none (.n none (.n none .o (.n none (.r (some (true, [(.normal, ⟨[.lf .bool], [(17, .one (.any)), (18, .one (.any)), (19, .one (.any)), (20, .one (.any)), (21, .one (.any)), (22, .one (.any)), (25, .one (.any)), (26, .one (.any)), (27, .one (.any)), (28, .one (.any)), (29, .one (.h 0 []))], [], [], 2833⟩)])) .nil) .o)) .o) .o)))) .o)) .o))) pOk repOk (AllC.mem (⟨c73_ok, trivial⟩ : AllC _ _ [c73])) hmix Try.call85 Try.func85 rfl rfl (by kernel_rfl) (fun h => by kernel_rfl)

noncomputable def dynposref15_consumers_L2 (x1 : Int) (x2 : Consumer) : Int →
  Option
    (Int ⊕
      Unit ⊕
        Int ⊕
          Unit ⊕
            Bool) := fun x8 =>
  if decide (x8 < len x2.Needs) = true then
    Option.bind (idx x2.Needs x8) fun x9 =>
      Option.bind
        (Option.bind (dynposref15_within x9 0 (W (x1 - 1))) fun x10 =>
          if (!x10) = true then some true
          else
            if decide (x8 > 0) = true then
              Option.bind (idx x2.Needs (W (x8 - 1))) fun x11 => some (decide (x11 ≥ x9))
            else some false)
        fun x12 =>
        if x12 = true then some (.inr (.inr (.inr (.inr false)))) else some (.inl (W (x8 + 1)))
  else some (.inr (.inl ()))
noncomputable def dynposref15_consumers_L1 (a0 : Board) : Int →
  Option
    (Int ⊕
      Unit ⊕
        Bool) := fun x1 =>
  if decide (x1 < len a0.Consumers) = true then
    Option.bind (idx a0.Consumers x1) fun x2 =>
      Option.bind
        (Option.bind (dynposref15_within x2.Load 0 50000) fun x3 =>
          if (!x3) = true then some true
          else
            Option.bind (dynposref15_within x2.Least 0 x2.Load) fun x4 =>
              if (!x4) = true then some true
              else
                Option.bind (dynposref15_within x2.Preference 0 15) fun x5 =>
                  if (!x5) = true then some true
                  else
                    Option.bind (dynposref15_within x2.Thruster (-1) 7) fun x6 =>
                      if (!x6) = true then some true else some (decide (len x2.Needs > 4)))
        fun x7 =>
        if x7 = true then some (.inr (.inr false))
        else
          Option.bind (loopO (dynposref15_consumers_L2 x1 x2) 0) fun x13 =>
            Sum.elim (fun x14 => some (.inl (W (x1 + 1)))) (fun x15 => some x15) x13
  else some (.inr (.inl ()))
noncomputable def dynposref15_consumers (a0 : Board) : Option (Bool) :=
  Option.bind (loopO (dynposref15_consumers_L1 a0) 0) fun x16 =>
    Sum.elim (fun x17 => some true) (fun x18 => some x18) x16
noncomputable def c86 : Con D := ⟨86, [.lf (.int .i64), .lf (.sl 4), .lf (.sl 5), .lf (.sl 6), .lf (.int .i64), .lf (.int .i64)], [.lf .bool], [.agg [.h 0 [], .h 1 [0], .h 2 [0], .h 3 [0], .h 4 [], .h 5 []]], [], [.one (.h 0 [])], [], fun h => dynposref15_consumers ⟨h.1, h.2.1, h.2.2.1, h.2.2.2.1, h.2.2.2.2.1, h.2.2.2.2.2⟩⟩
theorem c86_ok : ConOk Try.prog T c86 := fn_ok (Φ := [c73]) (rs := [.tmp 2]) (an := (.n none .o (.n none (.n none .o (.n none (.loop ⟨[.lf (.int .i64)], [(10, .one (.h 0 []))], [], [], 2448⟩ false [(.exit 0, ⟨[], [], [], [], 2448⟩)] (.n none .o (.n none .o (.n none (.n none (.n none .o (.n none (.n none (.r (some (true, [(.normal, ⟨[.lf .bool], [(20, .one (.any)), (21, .one (.any)), (22, .one (.any)), (23, .one (.any)), (24, .one (.any)), (25, .one (.any)), (28, .one (.any)), (29, .one (.any)), (30, .one (.any)), (31, .one (.any)), (34, .one (.any)), (35, .one (.any)), (36, .one (.any)), (37, .one (.any)), (40, .one (.any)), (41, .one (.any)), (42, .one (.any)), (43, .one (.any)), (44, .one (.h 0 []))], [], [], 2961⟩)])) .nil) .o) (.n none .o (.n none (.loop ⟨[.lf (.int .i64)], [(48, .one (.h 0 []))], [], [], 3282⟩ false [(.exit 2, ⟨[], [], [], [], 3282⟩)] (.n none .o (.n none .o (.n none (.n none (.n none .o (.n none (.r (some (true, [(.normal, ⟨[.lf .bool], [(59, .one (.any)), (60, .one (.any)), (61, .one (.any)), (62, .one (.any)), (63, .one (.any)), (64, .one (.any)), (65, .one (.any)), (66, .one (.any)), (67, .one (.any)), (68, .one (.any)), (69, .one (.any)), (70, .one (.any)), (71, .one (.h 0 []))], [], [], 3731⟩)])) .nil) .o)) .o) .o)))) .o)))) .o) .o)))) .o)) .o))) pOk repOk (AllC.mem (⟨c73_ok, trivial⟩ : AllC _ _ [c73])) hmix Try.call86 Try.func86 rfl rfl (by kernel_rfl) (fun h => by kernel_rfl)

end Rx
end Go.Proofs.Ytcekgnnekooohaa
