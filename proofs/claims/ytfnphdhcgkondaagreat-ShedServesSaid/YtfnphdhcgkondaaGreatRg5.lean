/- Plain functions, walks. Written by a program (wip/gen). -/
import Derived.Test.YtfnphdhcgkondaaGreatRt
import Derived.Test.YtfnphdhcgkondaaGreatRg1
import Derived.Test.YtfnphdhcgkondaaGreatRg2
import Derived.Test.YtfnphdhcgkondaaGreatRg3
import Derived.Test.YtfnphdhcgkondaaGreatRg4
set_option linter.unusedVariables false
set_option maxRecDepth 100000
namespace Go.Proofs.YtfnphdhcgkondaaGreat
open Go Go.RowKit Dp
namespace Rx

noncomputable def shed_Served_1 (F : (Board) → (Power) → (Int) → Option (Bool)) (a0 : Int) (a1 : Board) (a2 : Power) : Option (Bool) := Option.bind (F a1 a2 a0) fun x1 => some !x1
noncomputable def slices_IndexFunc_int_int_flat_v1_L1 (F : (Board) → (Power) → (Int) → Option (Bool)) (a0 : List
  Int) (a1 : Board) (a2 : Power) : Int →
  Option
    (Int ⊕
      Unit ⊕
        Int) := fun x1 =>
  if decide (x1 < len a0) = true then
    Option.bind (idx a0 x1) fun x2 =>
      Option.bind (shed_Served_1 F x2 a1 a2) fun x3 =>
        if x3 = true then some (.inr (.inr x1)) else some (.inl (W (x1 + 1)))
  else some (.inr (.inl ()))
noncomputable def slices_IndexFunc_int_int_flat_v1 (F : (Board) → (Power) → (Int) → Option (Bool)) (a0 : (List Int)) (a1 : Board) (a2 : Power) : Option (Int) :=
  Option.bind (loopO (slices_IndexFunc_int_int_flat_v1_L1 F a0 a1 a2) 0) fun x4 =>
    Sum.elim (fun x5 => some (-1)) (fun x6 => some x6) x4
noncomputable def slices_ContainsFunc_int_int_flat (F : (Board) → (Power) → (Int) → Option (Bool)) (a0 : (List Int)) (a1 : Board) (a2 : Power) : Option (Bool) := Option.bind (slices_IndexFunc_int_int_flat_v1 F a0 a1 a2) fun x1 => some (decide (x1 ≥ 0))
noncomputable def shed_Served_S (F : (Board) → (Power) → (Int) → Option (Bool)) (a0 : Board) (a1 : Power) (a2 : Int) : Option (Bool) :=
  Option.bind (board_Fed a0 a1 a2) fun x1 =>
    Option.bind
      (if (!x1.2) = true then some true
      else
        Option.bind (board_Live a0 a1 x1.1) fun x2 =>
          if (!x2) = true then some true
          else
            Option.bind (board_Broken a1 4 a2) fun x3 =>
              if x3 = true then some true
              else
                Option.bind (idx a1.Limits a2) fun x4 =>
                  Option.bind (idx a0.Consumers a2) fun x5 => some (decide (x4 < x5.Least)))
      fun x6 =>
      if x6 = true then some false
      else
        Option.bind (idx a0.Consumers a2) fun x7 =>
          Option.bind (slices_ContainsFunc_int_int_flat F x7.Needs a0 a1) fun x8 => some !x8
/-- it calls itself: of so many calls below one another -/
noncomputable def shed_Served_R (n : Nat) : (Board) → (Power) → (Int) → Option (Bool) := Nat.rec (motive := fun _ => (Board) → (Power) → (Int) → Option (Bool)) (fun _ _ _ => none) (fun _ F => shed_Served_S F) n
noncomputable def shed_Served (a0 : Board) (a1 : Power) (a2 : Int) : Option (Bool) := shed_Served_R 64 a0 a1 a2
noncomputable def c31_k (n : Nat) : Con D := ⟨31, [.lf (.int .i64), .lf (.sl 5), .lf (.sl 6), .lf (.sl 7), .lf (.int .i64), .lf (.int .i64), .lf (.sl 1), .lf (.sl 9), .lf (.sl 0), .lf (.sl 10), .lf (.int .i64)], [.lf .bool], [.agg [.h 0 [], .h 1 [0], .h 2 [0], .h 3 [0], .h 4 [], .h 5 []], .agg [.h 6 [0], .h 7 [0], .h 8 [0], .h 9 [0]], .one (.h 10 [])], [], [.one (.h 0 [])], [], fun h => shed_Served_R n ⟨h.1, h.2.1, h.2.2.1, h.2.2.2.1, h.2.2.2.2.1, h.2.2.2.2.2.1⟩ ⟨h.2.2.2.2.2.2.1, h.2.2.2.2.2.2.2.1, h.2.2.2.2.2.2.2.2.1, h.2.2.2.2.2.2.2.2.2.1⟩ h.2.2.2.2.2.2.2.2.2.2⟩
noncomputable def c31 : Con D := c31_k 64
noncomputable def c67_k (n : Nat) : Con D := ⟨67, [.lf (.int .i64), .el 4, .el 8], [.lf .bool], [.one (.h 0 []), .one (.rp 1 4 [0]), .one (.rp 7 8 [0])], [], [.one (.h 0 [])], [], fun h => shed_Served_1 (shed_Served_R n) h.1 h.2.1 h.2.2⟩
noncomputable def c103_1_k (n : Nat) : Con D := ⟨103, [.lf (.sl 0), .el 4, .el 8], [.lf (.int .i64)], [.one (.h 0 [0]), .one (.fn 67 [.rp 1 4 [0], .rp 7 8 [0]])], [], [.one (.h 0 [])], [], fun h => slices_IndexFunc_int_int_flat_v1 (shed_Served_R n) h.1 h.2.1 h.2.2⟩
noncomputable def c66_k (n : Nat) : Con D := ⟨66, [.lf (.sl 0), .el 4, .el 8], [.lf .bool], [.one (.h 0 [0]), .one (.fn 67 [.rp 1 4 [0], .rp 7 8 [0]])], [], [.one (.h 0 [])], [], fun h => slices_ContainsFunc_int_int_flat (shed_Served_R n) h.1 h.2.1 h.2.2⟩
theorem c67_k_ok (n : Nat) (hH : ConOk Tryz.prog T (c31_k n)) : ConOk Tryz.prog T (c67_k n) := fn_ok (Φ := [c31_k n]) (rs := [.tmp 4]) (an := .o) pOk repOk (AllC.mem (⟨hH, trivial⟩ : AllC _ _ [c31_k n])) hmix Tryz.call67 Tryz.func67 rfl rfl (by kernel_rfl) (fun h => by kernel_rfl)
theorem c103_1_k_ok (n : Nat) (hH : ConOk Tryz.prog T (c31_k n)) : ConOk Tryz.prog T (c103_1_k n) := fn_ok (Φ := [c67_k n]) (rs := [.tmp 4]) (an := (.n none .o (.n none (.n none .o (.n none (.loop ⟨[.lf (.int .i64)], [(8, .one (.h 0 []))], [], [], 2320⟩ false [(.exit 0, ⟨[], [], [], [], 2320⟩)] .o) .o)) .o))) pOk repOk (AllC.mem (⟨c67_k_ok n hH, trivial⟩ : AllC _ _ [c67_k n])) hmix Tryz.call103 Tryz.func103 rfl rfl (by kernel_rfl) (fun h => by kernel_rfl)
theorem c66_k_ok (n : Nat) (hH : ConOk Tryz.prog T (c31_k n)) : ConOk Tryz.prog T (c66_k n) := fn_ok (Φ := [c103_1_k n]) (rs := [.tmp 4]) (an := .o) pOk repOk (AllC.mem (⟨c103_1_k_ok n hH, trivial⟩ : AllC _ _ [c103_1_k n])) hmix Tryz.call66 Tryz.func66 rfl rfl (by kernel_rfl) (fun h => by kernel_rfl)
theorem c31_k_ok : ∀ n, ConOk Tryz.prog T (c31_k n)
  | 0 => none_ok Tryz.call31 rfl (fun h => rfl)
  | n + 1 => fn_ok (Φ := [c63, c64, c65, c66_k n]) (rs := [.tmp 6]) (an := (.n none .o (.n none .o (.n none (.n none (.r (some (true, [(.normal, ⟨[.lf .bool], [(43, .one (.h 0 []))], [], [], 2832⟩)])) .nil) .o) .o)))) pOk repOk (AllC.mem (⟨c63_ok, c64_ok, c65_ok, c66_k_ok n (c31_k_ok n), trivial⟩ : AllC _ _ [c63, c64, c65, c66_k n])) hmix Tryz.call31 Tryz.func31 rfl rfl (by kernel_rfl) (fun h => by kernel_rfl)
theorem c31_ok : ConOk Tryz.prog T c31 := c31_k_ok 64

noncomputable def shed_relieve_v1 (a0 : Board) (a1 : Power) : Option (Int × (List Bool) × (List Running) × (List Int) × (List Part) × (List Act)) :=
  Option.bind (board_State a0 a1) fun x1 =>
    if (x1 != 0) = true then some (x1, [], [], [], [], [])
    else
      Option.bind (states_Clone a1) fun x2 =>
        Option.bind (relief_shed_v1 (relief.mk a0 (Power.mk x2.1 x2.2.1 x2.2.2.1 x2.2.2.2) []))
          fun x3 =>
          some
            (0, x3.2.2.2.2.2.2.1, x3.2.2.2.2.2.2.2.1,
              x3.2.2.2.2.2.2.2.2.1, x3.2.2.2.2.2.2.2.2.2.1,
              x3.2.2.2.2.2.2.2.2.2.2)
noncomputable def c43_1 : Con D := ⟨43, [.lf (.int .i64), .lf (.sl 5), .lf (.sl 6), .lf (.sl 7), .lf (.int .i64), .lf (.int .i64), .lf (.sl 1), .lf (.sl 9), .lf (.sl 0), .lf (.sl 10)], [.lf (.int .i64), .lf (.sl 1), .lf (.sl 9), .lf (.sl 0), .lf (.sl 10), .lf (.sl 11)], [.agg [.h 0 [], .h 1 [0], .h 2 [0], .h 3 [0], .h 4 [], .h 5 []], .agg [.h 6 [0], .h 7 [0], .h 8 [0], .h 9 [0]], .one (.fn 48 [])], [], [.agg [.own 1000, .own 1001, .own 1002, .own 1003], .one (.own 1004), .one (.h 0 [])], [(1000, .sl 1 4 1 []), (1001, .sl 9 48 2 []), (1002, .sl 0 3 3 []), (1003, .sl 10 84 4 []), (1004, .sl 11 74 5 [])], fun h => shed_relieve_v1 ⟨h.1, h.2.1, h.2.2.1, h.2.2.2.1, h.2.2.2.2.1, h.2.2.2.2.2.1⟩ ⟨h.2.2.2.2.2.2.1, h.2.2.2.2.2.2.2.1, h.2.2.2.2.2.2.2.2.1, h.2.2.2.2.2.2.2.2.2⟩⟩
theorem c43_1_ok : ConOk Tryz.prog T c43_1 := fn_ok (Φ := [c48_1, c70, c80]) (rs := [.cell 6 34, .tmp 7, .tmp 8]) (an := .o) pOk repOk (AllC.mem (⟨c48_1_ok, c70_ok, c80_ok, trivial⟩ : AllC _ _ [c48_1, c70, c80])) hmix Tryz.call43 Tryz.func43 rfl rfl (by kernel_rfl) (fun h => by kernel_rfl)

noncomputable def shed_Shed (a0 : Board) (a1 : Power) : Option (Int × (List Bool) × (List Running) × (List Int) × (List Part) × (List Act)) :=
  Option.bind (shed_relieve_v1 a0 a1) fun x1 =>
    some (x1.1, x1.2.1, x1.2.2.1, x1.2.2.2.1, x1.2.2.2.2.1, x1.2.2.2.2.2)
noncomputable def c17 : Con D := ⟨17, [.lf (.int .i64), .lf (.sl 5), .lf (.sl 6), .lf (.sl 7), .lf (.int .i64), .lf (.int .i64), .lf (.sl 1), .lf (.sl 9), .lf (.sl 0), .lf (.sl 10)], [.lf (.int .i64), .lf (.sl 1), .lf (.sl 9), .lf (.sl 0), .lf (.sl 10), .lf (.sl 11)], [.agg [.h 0 [], .h 1 [0], .h 2 [0], .h 3 [0], .h 4 [], .h 5 []], .agg [.h 6 [0], .h 7 [0], .h 8 [0], .h 9 [0]]], [], [.agg [.own 1000, .own 1001, .own 1002, .own 1003], .one (.own 1004), .one (.h 0 [])], [(1000, .sl 1 4 1 []), (1001, .sl 9 48 2 []), (1002, .sl 0 3 3 []), (1003, .sl 10 84 4 []), (1004, .sl 11 74 5 [])], fun h => shed_Shed ⟨h.1, h.2.1, h.2.2.1, h.2.2.2.1, h.2.2.2.2.1, h.2.2.2.2.2.1⟩ ⟨h.2.2.2.2.2.2.1, h.2.2.2.2.2.2.2.1, h.2.2.2.2.2.2.2.2.1, h.2.2.2.2.2.2.2.2.2⟩⟩
theorem c17_ok : ConOk Tryz.prog T c17 := fn_ok (Φ := [c43_1]) (rs := [.cell 4 34, .tmp 5, .tmp 6]) (an := .o) pOk repOk (AllC.mem (⟨c43_1_ok, trivial⟩ : AllC _ _ [c43_1])) hmix Tryz.call17 Tryz.func17 rfl rfl (by kernel_rfl) (fun h => by kernel_rfl)

noncomputable def slices_IndexFunc_int_int_flat_v2_L1 (a0 : List
  Int) (a1 : Island) : Int →
  Option
    (Int ⊕
      Unit ⊕
        Int) := fun x1 =>
  if decide (x1 < len a0) = true then
    Option.bind (idx a0 x1) fun x2 =>
      Option.bind (shed_Check_1 x2 a1) fun x3 =>
        if x3 = true then some (.inr (.inr x1)) else some (.inl (W (x1 + 1)))
  else some (.inr (.inl ()))
noncomputable def slices_IndexFunc_int_int_flat_v2 (a0 : (List Int)) (a1 : Island) : Option (Int) :=
  Option.bind (loopO (slices_IndexFunc_int_int_flat_v2_L1 a0 a1) 0) fun x4 =>
    Sum.elim (fun x5 => some (-1)) (fun x6 => some x6) x4
noncomputable def c103_2 : Con D := ⟨103, [.lf (.sl 0), .el 13], [.lf (.int .i64)], [.one (.h 0 [0]), .one (.fn 76 [.rp 1 13 [0]])], [], [.one (.h 0 [])], [], fun h => slices_IndexFunc_int_int_flat_v2 h.1 h.2⟩
theorem c103_2_ok : ConOk Tryz.prog T c103_2 := fn_ok (Φ := [c76]) (rs := [.tmp 4]) (an := (.n none .o (.n none (.n none .o (.n none (.loop ⟨[.lf (.int .i64)], [(8, .one (.h 0 []))], [], [], 2320⟩ false [(.exit 0, ⟨[], [], [], [], 2320⟩)] .o) .o)) .o))) pOk repOk (AllC.mem (⟨c76_ok, trivial⟩ : AllC _ _ [c76])) hmix Tryz.call103 Tryz.func103 rfl rfl (by kernel_rfl) (fun h => by kernel_rfl)

noncomputable def slices_DeleteFunc_int_int_v1_L1 (a1 : Island) : Int × Int × List Int →
  Option
    (Int × Int × List Int ⊕
      Int ×
        List
          Int) := fun x2 =>
  if decide (x2.2.1 < len x2.2.2) = true then
    Option.bind (idx x2.2.2 x2.2.1) fun x3 =>
      Option.bind (shed_Check_1 x3 a1) fun x4 =>
        Option.bind
          (if (!x4) = true then
            Option.bind (idx x2.2.2 x2.1) fun x5 =>
              Option.bind (idx x2.2.2 x2.1) fun x6 =>
                Option.bind (setO x2.2.2 x2.1 x3) fun x7 => some (W (x2.1 + 1), x7)
          else some (x2.1, x2.2.2))
          fun x8 => some (.inl (x8.1, W (x2.2.1 + 1), x8.2))
  else some (.inr (x2.1, x2.2.2))
noncomputable def slices_DeleteFunc_int_int_v1 (a0 : (List Int)) (a1 : Island) : Option ((List Int)) :=
  Option.bind (slices_IndexFunc_int_int_flat_v2 a0 a1) fun x1 =>
    if (x1 == (-1)) = true then some a0
    else
      Option.bind (loopO (slices_DeleteFunc_int_int_v1_L1 a1) (x1, W (x1 + 1), a0)) fun x9 =>
        Option.bind (slc x9.2 x9.1 (len x9.2)) fun x10 =>
          Option.bind (slc (clrT 0 x9.2 x9.1) 0 x9.1) fun x11 => some x11
noncomputable def c74_1 : Con D := ⟨74, [.lf (.sl 0), .el 13], [.lf (.sl 0)], [.one (.own 1000), .one (.fn 76 [.rp 1 13 [0]])], [(1000, .sl 0 3 0 [])], [.one (.own 1001)], [(1001, .sl 0 3 0 [])], fun h => slices_DeleteFunc_int_int_v1 h.1 h.2⟩
theorem c74_1_ok : ConOk Tryz.prog T c74_1 := fn_ok (Φ := [c76, c103_2]) (rs := [.tmp 4]) (an := (.n none .o (.n none .o (.n none .o (.n none (.n none .o (.n none (.loop ⟨[.lf (.int .i64), .lf (.int .i64), .lf (.sl 0)], [(5, .one (.h 0 [])), (6, .one (.h 1 []))], [(1000, .sl 0 3 2 [])], [1000], 2704⟩ true [(.exit 0, ⟨[.lf (.int .i64), .lf (.sl 0)], [(5, .one (.h 0 []))], [(1000, .sl 0 3 1 [])], [1000], 2704⟩)] (.n none .o (.n none (.n none (.n none .o (.n none .o (.n (some (true, [(.normal, ⟨[.lf (.int .i64), .lf (.sl 0)], [(5, .one (.h 0 []))], [(1000, .sl 0 3 1 [])], [1000], 3603⟩)])) .o .o))) .o) .o))) .o)) .o))))) pOk repOk (AllC.mem (⟨c76_ok, c103_2_ok, trivial⟩ : AllC _ _ [c76, c103_2])) hmix Tryz.call74 Tryz.func74 rfl rfl (by kernel_rfl) (fun h => by kernel_rfl)

noncomputable def slices_IndexFunc_int_int_flat_v5_L1 (a0 : List
  Int) : Int ×
    Int × List Breaker × List Source × List Consumer × Int × Int × List Bool × List Running × List Int × List Part →
  Option
    (Int ×
        Int × List Breaker × List Source × List Consumer × Int × Int × List Bool × List Running × List Int × List Part ⊕
      Int × List Breaker × List Source × List Consumer × Int × Int × List Bool × List Running × List Int × List Part ⊕
        Int ×
          Int ×
            List Breaker ×
              List Source ×
                List Consumer ×
                  Int ×
                    Int ×
                      List Bool ×
                        List Running ×
                          List Int ×
                            List
                              Part) := fun x1 =>
  if decide (x1.1 < len a0) = true then
    Option.bind (idx a0 x1.1) fun x2 =>
      Option.bind
        (shed_ordered_2_v2 x2 x1.2.1 x1.2.2.1 x1.2.2.2.1 x1.2.2.2.2.1
          x1.2.2.2.2.2.1 x1.2.2.2.2.2.2.1 x1.2.2.2.2.2.2.2.1
          x1.2.2.2.2.2.2.2.2.1 x1.2.2.2.2.2.2.2.2.2.1
          x1.2.2.2.2.2.2.2.2.2.2)
        fun x3 =>
        if x3.1 = true then
          some
            (.inr
              (.inr
                (x1.1, x3.2.1, x3.2.2.1, x3.2.2.2.1, x3.2.2.2.2.1,
                  x3.2.2.2.2.2.1, x3.2.2.2.2.2.2.1, x3.2.2.2.2.2.2.2.1,
                  x3.2.2.2.2.2.2.2.2.1, x3.2.2.2.2.2.2.2.2.2.1,
                  x3.2.2.2.2.2.2.2.2.2.2)))
        else
          some
            (.inl
              (W (x1.1 + 1), x3.2.1, x3.2.2.1, x3.2.2.2.1, x3.2.2.2.2.1,
                x3.2.2.2.2.2.1, x3.2.2.2.2.2.2.1, x3.2.2.2.2.2.2.2.1,
                x3.2.2.2.2.2.2.2.2.1, x3.2.2.2.2.2.2.2.2.2.1,
                x3.2.2.2.2.2.2.2.2.2.2))
  else
    some
      (.inr
        (.inl
          (x1.2.1, x1.2.2.1, x1.2.2.2.1, x1.2.2.2.2.1, x1.2.2.2.2.2.1,
            x1.2.2.2.2.2.2.1, x1.2.2.2.2.2.2.2.1, x1.2.2.2.2.2.2.2.2.1,
            x1.2.2.2.2.2.2.2.2.2.1, x1.2.2.2.2.2.2.2.2.2.2)))
noncomputable def slices_IndexFunc_int_int_flat_v5 (a0 : (List Int)) (a1 : Int) (a2 : (List Breaker)) (a3 : (List Source)) (a4 : (List Consumer)) (a5 : Int) (a6 : Int) (a7 : (List Bool)) (a8 : (List Running)) (a9 : (List Int)) (a10 : (List Part)) : Option (Int × Int × (List Breaker) × (List Source) × (List Consumer) × Int × Int × (List Bool) × (List Running) × (List Int) × (List Part)) :=
  Option.bind (loopO (slices_IndexFunc_int_int_flat_v5_L1 a0) (0, a1, a2, a3, a4, a5, a6, a7, a8, a9, a10))
    fun x4 =>
    Sum.elim
      (fun x5 =>
        some
          ((-1), x5.1, x5.2.1, x5.2.2.1, x5.2.2.2.1, x5.2.2.2.2.1,
            x5.2.2.2.2.2.1, x5.2.2.2.2.2.2.1, x5.2.2.2.2.2.2.2.1,
            x5.2.2.2.2.2.2.2.2.1, x5.2.2.2.2.2.2.2.2.2))
      (fun x6 => some x6) x4
noncomputable def c103_5 : Con D := ⟨103, [.lf (.sl 0), .lf (.int .i64), .lf (.sl 5), .lf (.sl 6), .lf (.sl 7), .lf (.int .i64), .lf (.int .i64), .lf (.sl 1), .lf (.sl 9), .lf (.sl 0), .lf (.sl 10)], [.lf (.int .i64), .lf (.int .i64), .lf (.sl 5), .lf (.sl 6), .lf (.sl 7), .lf (.int .i64), .lf (.int .i64), .lf (.sl 1), .lf (.sl 9), .lf (.sl 0), .lf (.sl 10)], [.one (.h 0 [0]), .one (.fn 119 [.ptr 1000 0, .ptr 1002 0, .ptr 1001 0])], [(1000, .box [.fn 118 [.ptr 1001 0, .ptr 1002 0]]), (1001, .box [.h 1 [], .h 2 [0], .h 3 [0], .h 4 [0], .h 5 [], .h 6 []]), (1002, .box [.h 7 [0], .h 8 [0], .h 9 [0], .h 10 [0]])], [.one (.h 0 [])], [(1000, .box [.fn 118 [.ptr 1001 0, .ptr 1002 0]]), (1001, .box [.h 1 [], .h 2 [0], .h 3 [0], .h 4 [0], .h 5 [], .h 6 []]), (1002, .box [.h 7 [0], .h 8 [0], .h 9 [0], .h 10 [0]])], fun h => slices_IndexFunc_int_int_flat_v5 h.1 h.2.1 h.2.2.1 h.2.2.2.1 h.2.2.2.2.1 h.2.2.2.2.2.1 h.2.2.2.2.2.2.1 h.2.2.2.2.2.2.2.1 h.2.2.2.2.2.2.2.2.1 h.2.2.2.2.2.2.2.2.2.1 h.2.2.2.2.2.2.2.2.2.2⟩
theorem c103_5_ok : ConOk Tryz.prog T c103_5 := fn_ok (Φ := [c119_2]) (rs := [.tmp 4]) (an := (.n none .o (.n none (.n none .o (.n none (.loop ⟨[.lf (.int .i64), .lf (.int .i64), .lf (.sl 5), .lf (.sl 6), .lf (.sl 7), .lf (.int .i64), .lf (.int .i64), .lf (.sl 1), .lf (.sl 9), .lf (.sl 0), .lf (.sl 10)], [(8, .one (.h 0 []))], [(1000, .box [.fn 118 [.ptr 1001 0, .ptr 1002 0]]), (1001, .box [.h 1 [], .h 2 [0], .h 3 [0], .h 4 [0], .h 5 [], .h 6 []]), (1002, .box [.h 7 [0], .h 8 [0], .h 9 [0], .h 10 [0]])], [1000, 1001, 1002], 2320⟩ false [(.exit 0, ⟨[.lf (.int .i64), .lf (.sl 5), .lf (.sl 6), .lf (.sl 7), .lf (.int .i64), .lf (.int .i64), .lf (.sl 1), .lf (.sl 9), .lf (.sl 0), .lf (.sl 10)], [], [(1000, .box [.fn 118 [.ptr 1001 0, .ptr 1002 0]]), (1001, .box [.h 0 [], .h 1 [0], .h 2 [0], .h 3 [0], .h 4 [], .h 5 []]), (1002, .box [.h 6 [0], .h 7 [0], .h 8 [0], .h 9 [0]])], [1000, 1001, 1002], 2320⟩)] .o) .o)) .o))) pOk repOk (AllC.mem (⟨c119_2_ok, trivial⟩ : AllC _ _ [c119_2])) hmix Tryz.call103 Tryz.func103 rfl rfl (by kernel_rfl) (fun h => by kernel_rfl)

noncomputable def slices_ContainsFunc_int_int_flat_v3 (a0 : (List Int)) (a1 : Int) (a2 : (List Breaker)) (a3 : (List Source)) (a4 : (List Consumer)) (a5 : Int) (a6 : Int) (a7 : (List Bool)) (a8 : (List Running)) (a9 : (List Int)) (a10 : (List Part)) : Option (Bool × Int × (List Breaker) × (List Source) × (List Consumer) × Int × Int × (List Bool) × (List Running) × (List Int) × (List Part)) :=
  Option.bind (slices_IndexFunc_int_int_flat_v5 a0 a1 a2 a3 a4 a5 a6 a7 a8 a9 a10) fun x1 =>
    some
      (decide (x1.1 ≥ 0), x1.2.1, x1.2.2.1, x1.2.2.2.1, x1.2.2.2.2.1,
        x1.2.2.2.2.2.1, x1.2.2.2.2.2.2.1, x1.2.2.2.2.2.2.2.1,
        x1.2.2.2.2.2.2.2.2.1, x1.2.2.2.2.2.2.2.2.2.1,
        x1.2.2.2.2.2.2.2.2.2.2)
noncomputable def c66_3 : Con D := ⟨66, [.lf (.sl 0), .lf (.int .i64), .lf (.sl 5), .lf (.sl 6), .lf (.sl 7), .lf (.int .i64), .lf (.int .i64), .lf (.sl 1), .lf (.sl 9), .lf (.sl 0), .lf (.sl 10)], [.lf .bool, .lf (.int .i64), .lf (.sl 5), .lf (.sl 6), .lf (.sl 7), .lf (.int .i64), .lf (.int .i64), .lf (.sl 1), .lf (.sl 9), .lf (.sl 0), .lf (.sl 10)], [.one (.h 0 [0]), .one (.fn 119 [.ptr 1000 0, .ptr 1002 0, .ptr 1001 0])], [(1000, .box [.fn 118 [.ptr 1001 0, .ptr 1002 0]]), (1001, .box [.h 1 [], .h 2 [0], .h 3 [0], .h 4 [0], .h 5 [], .h 6 []]), (1002, .box [.h 7 [0], .h 8 [0], .h 9 [0], .h 10 [0]])], [.one (.h 0 [])], [(1000, .box [.fn 118 [.ptr 1001 0, .ptr 1002 0]]), (1001, .box [.h 1 [], .h 2 [0], .h 3 [0], .h 4 [0], .h 5 [], .h 6 []]), (1002, .box [.h 7 [0], .h 8 [0], .h 9 [0], .h 10 [0]])], fun h => slices_ContainsFunc_int_int_flat_v3 h.1 h.2.1 h.2.2.1 h.2.2.2.1 h.2.2.2.2.1 h.2.2.2.2.2.1 h.2.2.2.2.2.2.1 h.2.2.2.2.2.2.2.1 h.2.2.2.2.2.2.2.2.1 h.2.2.2.2.2.2.2.2.2.1 h.2.2.2.2.2.2.2.2.2.2⟩
theorem c66_3_ok : ConOk Tryz.prog T c66_3 := fn_ok (Φ := [c103_5]) (rs := [.tmp 4]) (an := .o) pOk repOk (AllC.mem (⟨c103_5_ok, trivial⟩ : AllC _ _ [c103_5])) hmix Tryz.call66 Tryz.func66 rfl rfl (by kernel_rfl) (fun h => by kernel_rfl)

noncomputable def shed_ordered_3_v2 (a0 : Int) (a1 : Int) (a2 : (List Breaker)) (a3 : (List Source)) (a4 : (List Consumer)) (a5 : Int) (a6 : Int) (a7 : (List Bool)) (a8 : (List Running)) (a9 : (List Int)) (a10 : (List Part)) : Option (Bool × Int × (List Breaker) × (List Source) × (List Consumer) × Int × Int × (List Bool) × (List Running) × (List Int) × (List Part)) :=
  Option.bind
    (Option.bind (shed_ordered_1_v1 a0 a1 a2 a3 a4 a5 a6 a7 a8 a9 a10) fun x1 =>
      if x1.1 = true then
        Option.bind (idx x1.2.2.2.2.2.2.2.2.2.1 a0) fun x2 =>
          some
            (decide (x2 > 0), x1.2.1, x1.2.2.1, x1.2.2.2.1, x1.2.2.2.2.1,
              x1.2.2.2.2.2.1, x1.2.2.2.2.2.2.1, x1.2.2.2.2.2.2.2.1,
              x1.2.2.2.2.2.2.2.2.1, x1.2.2.2.2.2.2.2.2.2.1,
              x1.2.2.2.2.2.2.2.2.2.2)
      else
        some
          (false, x1.2.1, x1.2.2.1, x1.2.2.2.1, x1.2.2.2.2.1, x1.2.2.2.2.2.1,
            x1.2.2.2.2.2.2.1, x1.2.2.2.2.2.2.2.1, x1.2.2.2.2.2.2.2.2.1,
            x1.2.2.2.2.2.2.2.2.2.1, x1.2.2.2.2.2.2.2.2.2.2))
    fun x3 =>
    some
      (x3.1, x3.2.1, x3.2.2.1, x3.2.2.2.1, x3.2.2.2.2.1, x3.2.2.2.2.2.1,
        x3.2.2.2.2.2.2.1, x3.2.2.2.2.2.2.2.1, x3.2.2.2.2.2.2.2.2.1,
        x3.2.2.2.2.2.2.2.2.2.1, x3.2.2.2.2.2.2.2.2.2.2)
noncomputable def c120_2 : Con D := ⟨120, [.lf (.int .i64), .lf (.int .i64), .lf (.sl 5), .lf (.sl 6), .lf (.sl 7), .lf (.int .i64), .lf (.int .i64), .lf (.sl 1), .lf (.sl 9), .lf (.sl 0), .lf (.sl 10)], [.lf .bool, .lf (.int .i64), .lf (.sl 5), .lf (.sl 6), .lf (.sl 7), .lf (.int .i64), .lf (.int .i64), .lf (.sl 1), .lf (.sl 9), .lf (.sl 0), .lf (.sl 10)], [.one (.h 0 []), .one (.ptr 1000 0), .one (.ptr 1002 0)], [(1000, .box [.fn 118 [.ptr 1001 0, .ptr 1002 0]]), (1001, .box [.h 1 [], .h 2 [0], .h 3 [0], .h 4 [0], .h 5 [], .h 6 []]), (1002, .box [.h 7 [0], .h 8 [0], .h 9 [0], .h 10 [0]])], [.one (.h 0 [])], [(1000, .box [.fn 118 [.ptr 1001 0, .ptr 1002 0]]), (1001, .box [.h 1 [], .h 2 [0], .h 3 [0], .h 4 [0], .h 5 [], .h 6 []]), (1002, .box [.h 7 [0], .h 8 [0], .h 9 [0], .h 10 [0]])], fun h => shed_ordered_3_v2 h.1 h.2.1 h.2.2.1 h.2.2.2.1 h.2.2.2.2.1 h.2.2.2.2.2.1 h.2.2.2.2.2.2.1 h.2.2.2.2.2.2.2.1 h.2.2.2.2.2.2.2.2.1 h.2.2.2.2.2.2.2.2.2.1 h.2.2.2.2.2.2.2.2.2.2⟩
theorem c120_2_ok : ConOk Tryz.prog T c120_2 := fn_ok (Φ := [c118_1]) (rs := [.tmp 4]) (an := (.n none .o (.n none (.r (some (true, [(.normal, ⟨[.lf .bool, .lf (.int .i64), .lf (.sl 5), .lf (.sl 6), .lf (.sl 7), .lf (.int .i64), .lf (.int .i64), .lf (.sl 1), .lf (.sl 9), .lf (.sl 0), .lf (.sl 10)], [(4, .one (.h 0 []))], [(1001, .box [.h 1 [], .h 2 [0], .h 3 [0], .h 4 [0], .h 5 [], .h 6 []]), (1002, .box [.h 7 [0], .h 8 [0], .h 9 [0], .h 10 [0]])], [1001, 1002], 2128⟩)])) .nil) .o))) pOk repOk (AllC.mem (⟨c118_1_ok, trivial⟩ : AllC _ _ [c118_1])) hmix Tryz.call120 Tryz.func120 rfl rfl (by kernel_rfl) (fun h => by kernel_rfl)

noncomputable def slices_IndexFunc_int_int_flat_v8_L1 (a0 : List
  Int) : Int ×
    Int × List Breaker × List Source × List Consumer × Int × Int × List Bool × List Running × List Int × List Part →
  Option
    (Int ×
        Int × List Breaker × List Source × List Consumer × Int × Int × List Bool × List Running × List Int × List Part ⊕
      Int × List Breaker × List Source × List Consumer × Int × Int × List Bool × List Running × List Int × List Part ⊕
        Int ×
          Int ×
            List Breaker ×
              List Source ×
                List Consumer ×
                  Int ×
                    Int ×
                      List Bool ×
                        List Running ×
                          List Int ×
                            List
                              Part) := fun x1 =>
  if decide (x1.1 < len a0) = true then
    Option.bind (idx a0 x1.1) fun x2 =>
      Option.bind
        (shed_ordered_3_v2 x2 x1.2.1 x1.2.2.1 x1.2.2.2.1 x1.2.2.2.2.1
          x1.2.2.2.2.2.1 x1.2.2.2.2.2.2.1 x1.2.2.2.2.2.2.2.1
          x1.2.2.2.2.2.2.2.2.1 x1.2.2.2.2.2.2.2.2.2.1
          x1.2.2.2.2.2.2.2.2.2.2)
        fun x3 =>
        if x3.1 = true then
          some
            (.inr
              (.inr
                (x1.1, x3.2.1, x3.2.2.1, x3.2.2.2.1, x3.2.2.2.2.1,
                  x3.2.2.2.2.2.1, x3.2.2.2.2.2.2.1, x3.2.2.2.2.2.2.2.1,
                  x3.2.2.2.2.2.2.2.2.1, x3.2.2.2.2.2.2.2.2.2.1,
                  x3.2.2.2.2.2.2.2.2.2.2)))
        else
          some
            (.inl
              (W (x1.1 + 1), x3.2.1, x3.2.2.1, x3.2.2.2.1, x3.2.2.2.2.1,
                x3.2.2.2.2.2.1, x3.2.2.2.2.2.2.1, x3.2.2.2.2.2.2.2.1,
                x3.2.2.2.2.2.2.2.2.1, x3.2.2.2.2.2.2.2.2.2.1,
                x3.2.2.2.2.2.2.2.2.2.2))
  else
    some
      (.inr
        (.inl
          (x1.2.1, x1.2.2.1, x1.2.2.2.1, x1.2.2.2.2.1, x1.2.2.2.2.2.1,
            x1.2.2.2.2.2.2.1, x1.2.2.2.2.2.2.2.1, x1.2.2.2.2.2.2.2.2.1,
            x1.2.2.2.2.2.2.2.2.2.1, x1.2.2.2.2.2.2.2.2.2.2)))
noncomputable def slices_IndexFunc_int_int_flat_v8 (a0 : (List Int)) (a1 : Int) (a2 : (List Breaker)) (a3 : (List Source)) (a4 : (List Consumer)) (a5 : Int) (a6 : Int) (a7 : (List Bool)) (a8 : (List Running)) (a9 : (List Int)) (a10 : (List Part)) : Option (Int × Int × (List Breaker) × (List Source) × (List Consumer) × Int × Int × (List Bool) × (List Running) × (List Int) × (List Part)) :=
  Option.bind (loopO (slices_IndexFunc_int_int_flat_v8_L1 a0) (0, a1, a2, a3, a4, a5, a6, a7, a8, a9, a10))
    fun x4 =>
    Sum.elim
      (fun x5 =>
        some
          ((-1), x5.1, x5.2.1, x5.2.2.1, x5.2.2.2.1, x5.2.2.2.2.1,
            x5.2.2.2.2.2.1, x5.2.2.2.2.2.2.1, x5.2.2.2.2.2.2.2.1,
            x5.2.2.2.2.2.2.2.2.1, x5.2.2.2.2.2.2.2.2.2))
      (fun x6 => some x6) x4
noncomputable def c103_8 : Con D := ⟨103, [.lf (.sl 0), .lf (.int .i64), .lf (.sl 5), .lf (.sl 6), .lf (.sl 7), .lf (.int .i64), .lf (.int .i64), .lf (.sl 1), .lf (.sl 9), .lf (.sl 0), .lf (.sl 10)], [.lf (.int .i64), .lf (.int .i64), .lf (.sl 5), .lf (.sl 6), .lf (.sl 7), .lf (.int .i64), .lf (.int .i64), .lf (.sl 1), .lf (.sl 9), .lf (.sl 0), .lf (.sl 10)], [.one (.h 0 [0]), .one (.fn 120 [.ptr 1000 0, .ptr 1002 0])], [(1000, .box [.fn 118 [.ptr 1001 0, .ptr 1002 0]]), (1001, .box [.h 1 [], .h 2 [0], .h 3 [0], .h 4 [0], .h 5 [], .h 6 []]), (1002, .box [.h 7 [0], .h 8 [0], .h 9 [0], .h 10 [0]])], [.one (.h 0 [])], [(1000, .box [.fn 118 [.ptr 1001 0, .ptr 1002 0]]), (1001, .box [.h 1 [], .h 2 [0], .h 3 [0], .h 4 [0], .h 5 [], .h 6 []]), (1002, .box [.h 7 [0], .h 8 [0], .h 9 [0], .h 10 [0]])], fun h => slices_IndexFunc_int_int_flat_v8 h.1 h.2.1 h.2.2.1 h.2.2.2.1 h.2.2.2.2.1 h.2.2.2.2.2.1 h.2.2.2.2.2.2.1 h.2.2.2.2.2.2.2.1 h.2.2.2.2.2.2.2.2.1 h.2.2.2.2.2.2.2.2.2.1 h.2.2.2.2.2.2.2.2.2.2⟩
theorem c103_8_ok : ConOk Tryz.prog T c103_8 := fn_ok (Φ := [c120_2]) (rs := [.tmp 4]) (an := (.n none .o (.n none (.n none .o (.n none (.loop ⟨[.lf (.int .i64), .lf (.int .i64), .lf (.sl 5), .lf (.sl 6), .lf (.sl 7), .lf (.int .i64), .lf (.int .i64), .lf (.sl 1), .lf (.sl 9), .lf (.sl 0), .lf (.sl 10)], [(8, .one (.h 0 []))], [(1000, .box [.fn 118 [.ptr 1001 0, .ptr 1002 0]]), (1001, .box [.h 1 [], .h 2 [0], .h 3 [0], .h 4 [0], .h 5 [], .h 6 []]), (1002, .box [.h 7 [0], .h 8 [0], .h 9 [0], .h 10 [0]])], [1000, 1001, 1002], 2320⟩ false [(.exit 0, ⟨[.lf (.int .i64), .lf (.sl 5), .lf (.sl 6), .lf (.sl 7), .lf (.int .i64), .lf (.int .i64), .lf (.sl 1), .lf (.sl 9), .lf (.sl 0), .lf (.sl 10)], [], [(1000, .box [.fn 118 [.ptr 1001 0, .ptr 1002 0]]), (1001, .box [.h 0 [], .h 1 [0], .h 2 [0], .h 3 [0], .h 4 [], .h 5 []]), (1002, .box [.h 6 [0], .h 7 [0], .h 8 [0], .h 9 [0]])], [1000, 1001, 1002], 2320⟩)] .o) .o)) .o))) pOk repOk (AllC.mem (⟨c120_2_ok, trivial⟩ : AllC _ _ [c120_2])) hmix Tryz.call103 Tryz.func103 rfl rfl (by kernel_rfl) (fun h => by kernel_rfl)

noncomputable def slices_ContainsFunc_int_int_flat_v4 (a0 : (List Int)) (a1 : Int) (a2 : (List Breaker)) (a3 : (List Source)) (a4 : (List Consumer)) (a5 : Int) (a6 : Int) (a7 : (List Bool)) (a8 : (List Running)) (a9 : (List Int)) (a10 : (List Part)) : Option (Bool × Int × (List Breaker) × (List Source) × (List Consumer) × Int × Int × (List Bool) × (List Running) × (List Int) × (List Part)) :=
  Option.bind (slices_IndexFunc_int_int_flat_v8 a0 a1 a2 a3 a4 a5 a6 a7 a8 a9 a10) fun x1 =>
    some
      (decide (x1.1 ≥ 0), x1.2.1, x1.2.2.1, x1.2.2.2.1, x1.2.2.2.2.1,
        x1.2.2.2.2.2.1, x1.2.2.2.2.2.2.1, x1.2.2.2.2.2.2.2.1,
        x1.2.2.2.2.2.2.2.2.1, x1.2.2.2.2.2.2.2.2.2.1,
        x1.2.2.2.2.2.2.2.2.2.2)
noncomputable def c66_4 : Con D := ⟨66, [.lf (.sl 0), .lf (.int .i64), .lf (.sl 5), .lf (.sl 6), .lf (.sl 7), .lf (.int .i64), .lf (.int .i64), .lf (.sl 1), .lf (.sl 9), .lf (.sl 0), .lf (.sl 10)], [.lf .bool, .lf (.int .i64), .lf (.sl 5), .lf (.sl 6), .lf (.sl 7), .lf (.int .i64), .lf (.int .i64), .lf (.sl 1), .lf (.sl 9), .lf (.sl 0), .lf (.sl 10)], [.one (.h 0 [0]), .one (.fn 120 [.ptr 1000 0, .ptr 1002 0])], [(1000, .box [.fn 118 [.ptr 1001 0, .ptr 1002 0]]), (1001, .box [.h 1 [], .h 2 [0], .h 3 [0], .h 4 [0], .h 5 [], .h 6 []]), (1002, .box [.h 7 [0], .h 8 [0], .h 9 [0], .h 10 [0]])], [.one (.h 0 [])], [(1000, .box [.fn 118 [.ptr 1001 0, .ptr 1002 0]]), (1001, .box [.h 1 [], .h 2 [0], .h 3 [0], .h 4 [0], .h 5 [], .h 6 []]), (1002, .box [.h 7 [0], .h 8 [0], .h 9 [0], .h 10 [0]])], fun h => slices_ContainsFunc_int_int_flat_v4 h.1 h.2.1 h.2.2.1 h.2.2.2.1 h.2.2.2.2.1 h.2.2.2.2.2.1 h.2.2.2.2.2.2.1 h.2.2.2.2.2.2.2.1 h.2.2.2.2.2.2.2.2.1 h.2.2.2.2.2.2.2.2.2.1 h.2.2.2.2.2.2.2.2.2.2⟩
theorem c66_4_ok : ConOk Tryz.prog T c66_4 := fn_ok (Φ := [c103_8]) (rs := [.tmp 4]) (an := .o) pOk repOk (AllC.mem (⟨c103_8_ok, trivial⟩ : AllC _ _ [c103_8])) hmix Tryz.call66 Tryz.func66 rfl rfl (by kernel_rfl) (fun h => by kernel_rfl)

noncomputable def shed_ordered_L1 (a1 : Power) (a3 : List
  Int) : Int ×
    Int × List Breaker × List Source × List Consumer × Int × Int × List Bool × List Running × List Int × List Part →
  Option
    (Int ×
        Int × List Breaker × List Source × List Consumer × Int × Int × List Bool × List Running × List Int × List Part ⊕
      Int × List Breaker × List Source × List Consumer × Int × Int × List Bool × List Running × List Int × List Part ⊕
        Bool) := fun x1 =>
  if decide (x1.1 < len a3) = true then
    Option.bind (idx a3 x1.1) fun x2 =>
      Option.bind (slc a3 0 x1.1) fun x3 =>
        Option.bind
          (Option.bind (idx x1.2.2.2.2.2.2.2.2.2.1 x2) fun x4 =>
            Option.bind (idx a1.Limits x2) fun x5 =>
              if decide (x4 < x5) = true then
                Option.bind
                  (slices_ContainsFunc_int_int_flat_v3 x3 x1.2.1 x1.2.2.1 x1.2.2.2.1
                    x1.2.2.2.2.1 x1.2.2.2.2.2.1 x1.2.2.2.2.2.2.1
                    x1.2.2.2.2.2.2.2.1 x1.2.2.2.2.2.2.2.2.1
                    x1.2.2.2.2.2.2.2.2.2.1 x1.2.2.2.2.2.2.2.2.2.2)
                  fun x8 =>
                  some
                    (x8.1, x8.2.1, x8.2.2.1, x8.2.2.2.1, x8.2.2.2.2.1,
                      x8.2.2.2.2.2.1, x8.2.2.2.2.2.2.1, x8.2.2.2.2.2.2.2.1,
                      x8.2.2.2.2.2.2.2.2.1, x8.2.2.2.2.2.2.2.2.2.1,
                      x8.2.2.2.2.2.2.2.2.2.2)
              else
                Option.bind
                  (shed_ordered_1_v1 x2 x1.2.1 x1.2.2.1 x1.2.2.2.1 x1.2.2.2.2.1
                    x1.2.2.2.2.2.1 x1.2.2.2.2.2.2.1 x1.2.2.2.2.2.2.2.1
                    x1.2.2.2.2.2.2.2.2.1 x1.2.2.2.2.2.2.2.2.2.1
                    x1.2.2.2.2.2.2.2.2.2.2)
                  fun x6 =>
                  if (!x6.1) = true then
                    Option.bind
                      (slices_ContainsFunc_int_int_flat_v3 x3 x6.2.1 x6.2.2.1 x6.2.2.2.1
                        x6.2.2.2.2.1 x6.2.2.2.2.2.1 x6.2.2.2.2.2.2.1
                        x6.2.2.2.2.2.2.2.1 x6.2.2.2.2.2.2.2.2.1
                        x6.2.2.2.2.2.2.2.2.2.1 x6.2.2.2.2.2.2.2.2.2.2)
                      fun x7 =>
                      some
                        (x7.1, x7.2.1, x7.2.2.1, x7.2.2.2.1, x7.2.2.2.2.1,
                          x7.2.2.2.2.2.1, x7.2.2.2.2.2.2.1,
                          x7.2.2.2.2.2.2.2.1, x7.2.2.2.2.2.2.2.2.1,
                          x7.2.2.2.2.2.2.2.2.2.1, x7.2.2.2.2.2.2.2.2.2.2)
                  else
                    some
                      (false, x6.2.1, x6.2.2.1, x6.2.2.2.1, x6.2.2.2.2.1,
                        x6.2.2.2.2.2.1, x6.2.2.2.2.2.2.1, x6.2.2.2.2.2.2.2.1,
                        x6.2.2.2.2.2.2.2.2.1, x6.2.2.2.2.2.2.2.2.2.1,
                        x6.2.2.2.2.2.2.2.2.2.2))
          fun x9 =>
          if x9.1 = true then some (.inr (.inr false))
          else
            Option.bind
              (Option.bind
                (shed_ordered_1_v1 x2 x9.2.1 x9.2.2.1 x9.2.2.2.1 x9.2.2.2.2.1
                  x9.2.2.2.2.2.1 x9.2.2.2.2.2.2.1 x9.2.2.2.2.2.2.2.1
                  x9.2.2.2.2.2.2.2.2.1 x9.2.2.2.2.2.2.2.2.2.1
                  x9.2.2.2.2.2.2.2.2.2.2)
                fun x10 =>
                if (!x10.1) = true then
                  Option.bind
                    (slices_ContainsFunc_int_int_flat_v4 x3 x10.2.1 x10.2.2.1 x10.2.2.2.1
                      x10.2.2.2.2.1 x10.2.2.2.2.2.1 x10.2.2.2.2.2.2.1
                      x10.2.2.2.2.2.2.2.1 x10.2.2.2.2.2.2.2.2.1
                      x10.2.2.2.2.2.2.2.2.2.1 x10.2.2.2.2.2.2.2.2.2.2)
                    fun x11 =>
                    some
                      (x11.1, x11.2.1, x11.2.2.1, x11.2.2.2.1, x11.2.2.2.2.1,
                        x11.2.2.2.2.2.1, x11.2.2.2.2.2.2.1,
                        x11.2.2.2.2.2.2.2.1, x11.2.2.2.2.2.2.2.2.1,
                        x11.2.2.2.2.2.2.2.2.2.1, x11.2.2.2.2.2.2.2.2.2.2)
                else
                  some
                    (false, x10.2.1, x10.2.2.1, x10.2.2.2.1, x10.2.2.2.2.1,
                      x10.2.2.2.2.2.1, x10.2.2.2.2.2.2.1, x10.2.2.2.2.2.2.2.1,
                      x10.2.2.2.2.2.2.2.2.1, x10.2.2.2.2.2.2.2.2.2.1,
                      x10.2.2.2.2.2.2.2.2.2.2))
              fun x12 =>
              if x12.1 = true then some (.inr (.inr false))
              else
                some
                  (.inl
                    (W (x1.1 + 1), x12.2.1, x12.2.2.1, x12.2.2.2.1,
                      x12.2.2.2.2.1, x12.2.2.2.2.2.1, x12.2.2.2.2.2.2.1,
                      x12.2.2.2.2.2.2.2.1, x12.2.2.2.2.2.2.2.2.1,
                      x12.2.2.2.2.2.2.2.2.2.1, x12.2.2.2.2.2.2.2.2.2.2))
  else
    some
      (.inr
        (.inl
          (x1.2.1, x1.2.2.1, x1.2.2.2.1, x1.2.2.2.2.1, x1.2.2.2.2.2.1,
            x1.2.2.2.2.2.2.1, x1.2.2.2.2.2.2.2.1, x1.2.2.2.2.2.2.2.2.1,
            x1.2.2.2.2.2.2.2.2.2.1, x1.2.2.2.2.2.2.2.2.2.2)))
noncomputable def shed_ordered (a0 : Board) (a1 : Power) (a2 : Power) (a3 : (List Int)) : Option (Bool) :=
  Option.bind
    (loopO (shed_ordered_L1 a1 a3)
      (0, a0.Buses, a0.Breakers, a0.Sources, a0.Consumers, a0.Phase, a0.Frequency, a2.Closed, a2.Sources,
        a2.Limits, a2.Broken))
    fun x13 => Sum.elim (fun x14 => some true) (fun x15 => some x15) x13
noncomputable def c78 : Con D := ⟨78, [.lf (.int .i64), .lf (.sl 5), .lf (.sl 6), .lf (.sl 7), .lf (.int .i64), .lf (.int .i64), .lf (.sl 1), .lf (.sl 9), .lf (.sl 0), .lf (.sl 10), .lf (.sl 1), .lf (.sl 9), .lf (.sl 0), .lf (.sl 10), .lf (.sl 0)], [.lf .bool], [.agg [.h 0 [], .h 1 [0], .h 2 [0], .h 3 [0], .h 4 [], .h 5 []], .agg [.h 6 [0], .h 7 [0], .h 8 [0], .h 9 [0]], .agg [.h 10 [0], .h 11 [0], .h 12 [0], .h 13 [0]], .one (.h 14 [0])], [], [.one (.h 0 [])], [], fun h => shed_ordered ⟨h.1, h.2.1, h.2.2.1, h.2.2.2.1, h.2.2.2.2.1, h.2.2.2.2.2.1⟩ ⟨h.2.2.2.2.2.2.1, h.2.2.2.2.2.2.2.1, h.2.2.2.2.2.2.2.2.1, h.2.2.2.2.2.2.2.2.2.1⟩ ⟨h.2.2.2.2.2.2.2.2.2.2.1, h.2.2.2.2.2.2.2.2.2.2.2.1, h.2.2.2.2.2.2.2.2.2.2.2.2.1, h.2.2.2.2.2.2.2.2.2.2.2.2.2.1⟩ h.2.2.2.2.2.2.2.2.2.2.2.2.2.2⟩
theorem c78_ok : ConOk Tryz.prog T c78 := fn_ok (Φ := [c66_3, c66_4, c118_1]) (rs := [.tmp 8]) (an := (.n none .o (.n none .o (.n none (.n none .o (.n none (.loop ⟨[.lf (.int .i64), .lf (.int .i64), .lf (.sl 5), .lf (.sl 6), .lf (.sl 7), .lf (.int .i64), .lf (.int .i64), .lf (.sl 1), .lf (.sl 9), .lf (.sl 0), .lf (.sl 10)], [(17, .one (.h 0 []))], [(2000, .box [.h 1 [], .h 2 [0], .h 3 [0], .h 4 [0], .h 5 [], .h 6 []]), (2128, .box [.h 7 [0], .h 8 [0], .h 9 [0], .h 10 [0]]), (2320, .box [.fn 118 [.ptr 2000 0, .ptr 2128 0]])], [2000, 2128, 2320], 2704⟩ false [(.exit 0, ⟨[.lf (.int .i64), .lf (.sl 5), .lf (.sl 6), .lf (.sl 7), .lf (.int .i64), .lf (.int .i64), .lf (.sl 1), .lf (.sl 9), .lf (.sl 0), .lf (.sl 10)], [], [(2000, .box [.h 0 [], .h 1 [0], .h 2 [0], .h 3 [0], .h 4 [], .h 5 []]), (2128, .box [.h 6 [0], .h 7 [0], .h 8 [0], .h 9 [0]]), (2320, .box [.fn 118 [.ptr 2000 0, .ptr 2128 0]])], [2000, 2128, 2320], 2704⟩)] (.n none .o (.n none .o (.n none (.n none (.n none .o (.n none .o (.n none .o (.n none (.n none (.r (some (true, [(.normal, ⟨[.lf .bool, .lf (.int .i64), .lf (.sl 5), .lf (.sl 6), .lf (.sl 7), .lf (.int .i64), .lf (.int .i64), .lf (.sl 1), .lf (.sl 9), .lf (.sl 0), .lf (.sl 10)], [(38, .one (.any)), (39, .one (.any)), (40, .one (.any)), (41, .one (.any)), (44, .one (.any)), (45, .one (.any)), (46, .one (.any)), (47, .one (.h 0 []))], [(2000, .box [.h 1 [], .h 2 [0], .h 3 [0], .h 4 [0], .h 5 [], .h 6 []]), (2128, .box [.h 7 [0], .h 8 [0], .h 9 [0], .h 10 [0]]), (2320, .box [.fn 118 [.ptr 2000 0, .ptr 2128 0]])], [2000, 2128, 2320], 3547⟩)])) .nil) .o) (.n none (.r (some (true, [(.normal, ⟨[.lf .bool, .lf (.int .i64), .lf (.sl 5), .lf (.sl 6), .lf (.sl 7), .lf (.int .i64), .lf (.int .i64), .lf (.sl 1), .lf (.sl 9), .lf (.sl 0), .lf (.sl 10)], [(53, .one (.any)), (54, .one (.any)), (55, .one (.any)), (56, .one (.h 0 []))], [(2000, .box [.h 1 [], .h 2 [0], .h 3 [0], .h 4 [0], .h 5 [], .h 6 []]), (2128, .box [.h 7 [0], .h 8 [0], .h 9 [0], .h 10 [0]]), (2320, .box [.fn 118 [.ptr 2000 0, .ptr 2128 0]])], [2000, 2128, 2320], 3622⟩)])) .nil) .o))))) .o) .o)))) .o)) .o)))) pOk repOk (AllC.mem (⟨c66_3_ok, c66_4_ok, c118_1_ok, trivial⟩ : AllC _ _ [c66_3, c66_4, c118_1])) hmix Tryz.call78 Tryz.func78 rfl rfl (by kernel_rfl) (fun h => by kernel_rfl)

noncomputable def shed_Check_L1 (a0 : Board) (a2 : Power) : Int →
  Option
    (Int ⊕
      Unit ⊕
        Bool) := fun x5 =>
  if decide (x5 < a0.Buses) = true then
    Option.bind (balance_Overloaded a0 a2 x5) fun x6 =>
      if x6 = true then some (.inr (.inr false)) else some (.inl (W (x5 + 1)))
  else some (.inr (.inl ()))
noncomputable def shed_Check_L2 (a0 : Board) (a2 : Power) (x1 : Int ×
  List Bool ×
    List Running ×
      List Int ×
        List Part ×
          List
            Act) (x9 : List
  Int) (x10 : List
  Island) : Int →
  Option
    (Int ⊕
      Unit ⊕
        Bool) := fun x11 =>
  if decide (x11 < len x10) = true then
    Option.bind (idx x10 x11) fun x12 =>
      Option.bind (slices_Clone_int_int x9) fun x13 =>
        Option.bind (slices_DeleteFunc_int_int_v1 x13 x12) fun x14 =>
          Option.bind
            (shed_ordered a0 (Power.mk x1.2.1 x1.2.2.1 x1.2.2.2.1 x1.2.2.2.2.1) a2 x14)
            fun x15 => if (!x15) = true then some (.inr (.inr false)) else some (.inl (W (x11 + 1)))
  else some (.inr (.inl ()))
noncomputable def shed_Check (a0 : Board) (a1 : Power) (a2 : Power) : Option (Bool) :=
  Option.bind (shed_Clear a0 a1) fun x1 =>
    Option.bind
      (if (x1.1 != 0) = true then some true
      else
        Option.bind (board_State a0 a2) fun x2 =>
          if (x2 != 0) = true then some true
          else
            Option.bind (shed_lesser (Power.mk x1.2.1 x1.2.2.1 x1.2.2.2.1 x1.2.2.2.2.1) a2)
              fun x3 => some !x3)
      fun x4 =>
      if x4 = true then some false
      else
        Option.bind (loopO (shed_Check_L1 a0 a2) 0) fun x7 =>
          Sum.elim
            (fun x8 =>
              Option.bind (shed_Order a0) fun x9 =>
                Option.bind
                  (board_Islands a0 (Power.mk x1.2.1 x1.2.2.1 x1.2.2.2.1 x1.2.2.2.2.1))
                  fun x10 =>
                  Option.bind (loopO (shed_Check_L2 a0 a2 x1 x9 x10) 0) fun x16 =>
                    Sum.elim (fun x17 => some true) (fun x18 => some x18) x16)
            (fun x19 => some x19) x7
noncomputable def c37 : Con D := ⟨37, [.lf (.int .i64), .lf (.sl 5), .lf (.sl 6), .lf (.sl 7), .lf (.int .i64), .lf (.int .i64), .lf (.sl 1), .lf (.sl 9), .lf (.sl 0), .lf (.sl 10), .lf (.sl 1), .lf (.sl 9), .lf (.sl 0), .lf (.sl 10)], [.lf .bool], [.agg [.h 0 [], .h 1 [0], .h 2 [0], .h 3 [0], .h 4 [], .h 5 []], .agg [.h 6 [0], .h 7 [0], .h 8 [0], .h 9 [0]], .agg [.h 10 [0], .h 11 [0], .h 12 [0], .h 13 [0]]], [], [.one (.h 0 [])], [], fun h => shed_Check ⟨h.1, h.2.1, h.2.2.1, h.2.2.2.1, h.2.2.2.2.1, h.2.2.2.2.2.1⟩ ⟨h.2.2.2.2.2.2.1, h.2.2.2.2.2.2.2.1, h.2.2.2.2.2.2.2.2.1, h.2.2.2.2.2.2.2.2.2.1⟩ ⟨h.2.2.2.2.2.2.2.2.2.2.1, h.2.2.2.2.2.2.2.2.2.2.2.1, h.2.2.2.2.2.2.2.2.2.2.2.2.1, h.2.2.2.2.2.2.2.2.2.2.2.2.2⟩⟩
theorem c37_ok : ConOk Tryz.prog T c37 := fn_ok (Φ := [c11, c24, c70, c71, c72, c73, c74_1, c75, c78]) (rs := [.tmp 6]) (an := (.n none .o (.n none .o (.n none (.n none (.r (some (true, [(.normal, ⟨[.lf .bool], [(35, .one (.h 0 []))], [], [], 3024⟩)])) .nil) .o) (.n none (.n none .o (.n none (.loop ⟨[.lf (.int .i64)], [(38, .one (.h 0 []))], [], [], 3281⟩ false [(.exit 0, ⟨[], [], [], [], 3281⟩)] .o) .o)) (.n none .o (.n none (.n none .o (.n none (.loop ⟨[.lf (.int .i64)], [(52, .one (.h 0 []))], [], [], 3857⟩ false [(.exit 2, ⟨[], [], [], [], 3857⟩)] .o) .o)) .o))))))) pOk repOk (AllC.mem (⟨c11_ok, c24_ok, c70_ok, c71_ok, c72_ok, c73_ok, c74_1_ok, c75_ok, c78_ok, trivial⟩ : AllC _ _ [c11, c24, c70, c71, c72, c73, c74_1, c75, c78])) hmix Tryz.call37 Tryz.func37 rfl rfl (by kernel_rfl) (fun h => by kernel_rfl)

noncomputable def dynposlaw18_sane : Option (Bool) := Option.bind dynposlaw18_pair fun x1 =>
  Option.bind
    (shed_Shed
      (Board.mk x1.1 x1.2.2.2.1 x1.2.2.2.2.1 x1.2.2.2.2.2.1 x1.2.1 x1.2.2.1)
      (Power.mk x1.2.2.2.2.2.2.1 x1.2.2.2.2.2.2.2.1 x1.2.2.2.2.2.2.2.2
        []))
    fun x2 =>
    Option.bind
      (if (x2.1 == 0) = true then
        Option.bind (dynposref01_Ints x2.2.2.2.1 [30, 70]) fun x3 =>
          if x3 = true then
            Option.bind (dynposref18_Acts x2.2.2.2.2.2 [Act.mk 5 0 30])
              fun x4 =>
              if x4 = true then
                Option.bind
                  (shed_Check
                    (Board.mk x1.1 x1.2.2.2.1 x1.2.2.2.2.1 x1.2.2.2.2.2.1 x1.2.1
                      x1.2.2.1)
                    (Power.mk x1.2.2.2.2.2.2.1 x1.2.2.2.2.2.2.2.1
                      x1.2.2.2.2.2.2.2.2 [])
                    (Power.mk x2.2.1 x2.2.2.1 x2.2.2.2.1 x2.2.2.2.2.1))
                  fun x5 =>
                  if x5 = true then
                    Option.bind
                      (shed_Served
                        (Board.mk x1.1 x1.2.2.2.1 x1.2.2.2.2.1 x1.2.2.2.2.2.1 x1.2.1
                          x1.2.2.1)
                        (Power.mk x2.2.1 x2.2.2.1 x2.2.2.2.1 x2.2.2.2.2.1) 1)
                      fun x6 =>
                      if x6 = true then
                        Option.bind
                          (shed_Order
                            (Board.mk x1.1 x1.2.2.2.1 x1.2.2.2.2.1 x1.2.2.2.2.2.1
                              x1.2.1 x1.2.2.1))
                          fun x7 => Option.bind (dynposref01_Ints x7 [0, 1]) fun x8 => some x8
                      else some false
                  else some false
              else some false
          else some false
      else some false)
      fun x9 => some x9
noncomputable def c16 : Con D := ⟨16, [], [.lf .bool], [], [], [.one (.h 0 [])], [], fun h => dynposlaw18_sane⟩
theorem c16_ok : ConOk Tryz.prog T c16 := fn_ok (Φ := [c13, c17, c24, c31, c33, c37, c47]) (rs := [.tmp 0]) (an := (.n none .o (.n none .o (.n none .o (.n none (.r (some (true, [(.normal, ⟨[.lf .bool], [(0, .one (.h 0 []))], [], [], 3344⟩)])) .nil) .o))))) pOk repOk (AllC.mem (⟨c13_ok, c17_ok, c24_ok, c31_ok, c33_ok, c37_ok, c47_ok, trivial⟩ : AllC _ _ [c13, c17, c24, c31, c33, c37, c47])) hmix Tryz.call16 Tryz.func16 rfl rfl (by kernel_rfl) (fun h => by kernel_rfl)

noncomputable def dynposlaw18_ShedServes_L2 (x2 : Int ×
  Int ×
    Int ×
      List Int ×
        Int ×
          List Breaker ×
            List Source ×
              List Consumer ×
                List Bool ×
                  List Running ×
                    List Int ×
                      List
                        Part) (x5 : Consumer) : Int →
  Option
    (Int ⊕
      Unit ⊕
        Unit ⊕
          Int ⊕
            Unit ⊕
              Bool) := fun x7 =>
  if decide (x7 < len x5.Needs) = true then
    Option.bind (idx x5.Needs x7) fun x8 =>
      Option.bind
        (shed_Served
          (Board.mk x2.1 x2.2.2.2.2.2.1 x2.2.2.2.2.2.2.1 x2.2.2.2.2.2.2.2.1
            x2.2.1 x2.2.2.1)
          (Power.mk x2.2.2.2.2.2.2.2.2.1 x2.2.2.2.2.2.2.2.2.2.1
            x2.2.2.2.2.2.2.2.2.2.2.1 x2.2.2.2.2.2.2.2.2.2.2.2)
          x8)
        fun x9 =>
        if (!x9) = true then some (.inr (.inr (.inr (.inr (.inr false)))))
        else some (.inl (W (x7 + 1)))
  else some (.inr (.inl ()))
noncomputable def dynposlaw18_ShedServes_L1 (x2 : Int ×
  Int ×
    Int ×
      List Int ×
        Int ×
          List Breaker ×
            List Source ×
              List Consumer ×
                List Bool ×
                  List Running ×
                    List Int ×
                      List
                        Part) (x3 : Int ×
  List Bool ×
    List Running ×
      List Int ×
        List Part ×
          List
            Act) : Int →
  Option
    (Int ⊕
      Unit ⊕
        Bool) := fun x4 =>
  if decide (x4 < len x2.2.2.2.2.2.2.2.1) = true then
    Option.bind
      (Option.bind (idx x2.2.2.2.2.2.2.2.1 x4) fun x5 =>
        Option.bind
          (shed_Served
            (Board.mk x2.1 x2.2.2.2.2.2.1 x2.2.2.2.2.2.2.1
              x2.2.2.2.2.2.2.2.1 x2.2.1 x2.2.2.1)
            (Power.mk x2.2.2.2.2.2.2.2.2.1 x2.2.2.2.2.2.2.2.2.2.1
              x2.2.2.2.2.2.2.2.2.2.2.1 x2.2.2.2.2.2.2.2.2.2.2.2)
            x4)
          fun x6 =>
          if (!x6) = true then
            Option.bind
              (shed_Served
                (Board.mk x2.1 x2.2.2.2.2.2.1 x2.2.2.2.2.2.2.1
                  x2.2.2.2.2.2.2.2.1 x2.2.1 x2.2.2.1)
                (Power.mk x3.2.1 x3.2.2.1 x3.2.2.2.1 x3.2.2.2.2.1) x4)
              fun x17 => if x17 = true then some (.inr (.inr (.inr false))) else some (.inl ())
          else
            Option.bind (loopO (dynposlaw18_ShedServes_L2 x2 x5) 0) fun x10 =>
              Sum.elim
                (fun x11 =>
                  Option.bind
                    (dynposref15_Fed
                      (Board.mk x2.1 x2.2.2.2.2.2.1 x2.2.2.2.2.2.2.1
                        x2.2.2.2.2.2.2.2.1 x2.2.1 x2.2.2.1)
                      (Power.mk x2.2.2.2.2.2.2.2.2.1 x2.2.2.2.2.2.2.2.2.2.1
                        x2.2.2.2.2.2.2.2.2.2.2.1 x2.2.2.2.2.2.2.2.2.2.2.2)
                      x4)
                    fun x12 =>
                    Option.bind
                      (if (!x12.2) = true then some true
                      else
                        Option.bind
                          (dynposref15_Live
                            (Board.mk x2.1 x2.2.2.2.2.2.1 x2.2.2.2.2.2.2.1
                              x2.2.2.2.2.2.2.2.1 x2.2.1 x2.2.2.1)
                            (Power.mk x2.2.2.2.2.2.2.2.2.1 x2.2.2.2.2.2.2.2.2.2.1
                              x2.2.2.2.2.2.2.2.2.2.2.1
                              x2.2.2.2.2.2.2.2.2.2.2.2)
                            x12.1)
                          fun x13 =>
                          if (!x13) = true then some true
                          else
                            Option.bind
                              (dynposref15_Broken
                                (Power.mk x2.2.2.2.2.2.2.2.2.1
                                  x2.2.2.2.2.2.2.2.2.2.1
                                  x2.2.2.2.2.2.2.2.2.2.2.1
                                  x2.2.2.2.2.2.2.2.2.2.2.2)
                                4 x4)
                              fun x14 => some x14)
                      fun x15 =>
                      if x15 = true then some (.inr (.inr (.inr false))) else some (.inl ()))
                (fun x16 => some x16) x10)
      fun x18 => Sum.elim (fun x19 => some (.inl (W (x4 + 1)))) (fun x20 => some x20) x18
  else some (.inr (.inl ()))
noncomputable def dynposlaw18_ShedServes (a0 : (List Int)) : Option (Bool) :=
  Option.bind (dynposmake_New a0) fun x1 =>
    Option.bind (dynposlaw18_world (Src.mk x1.1 x1.2)) fun x2 =>
      Option.bind
        (shed_Protect
          (Board.mk x2.1 x2.2.2.2.2.2.1 x2.2.2.2.2.2.2.1 x2.2.2.2.2.2.2.2.1
            x2.2.1 x2.2.2.1)
          (Power.mk x2.2.2.2.2.2.2.2.2.1 x2.2.2.2.2.2.2.2.2.2.1
            x2.2.2.2.2.2.2.2.2.2.2.1 x2.2.2.2.2.2.2.2.2.2.2.2))
        fun x3 =>
        if (x3.1 != 0) = true then some false
        else
          Option.bind (loopO (dynposlaw18_ShedServes_L1 x2 x3) 0) fun x21 =>
            Sum.elim (fun x22 => Option.bind dynposlaw18_sane fun x23 => some x23) (fun x24 => some x24) x21
noncomputable def c8 : Con D := ⟨8, [.lf (.sl 0)], [.lf .bool], [.one (.h 0 [0])], [], [.one (.h 0 [])], [], fun h => dynposlaw18_ShedServes h⟩
theorem c8_ok : ConOk Tryz.prog T c8 := fn_ok (Φ := [c9, c10, c14, c15, c16, c26, c31, c35]) (rs := [.tmp 2]) (an := (.n none .o (.n none .o (.n none .o (.n none .o (.n none .o (.n none (.n none .o (.n none (.loop ⟨[.lf (.int .i64)], [(34, .one (.h 0 []))], [], [], 3984⟩ false [(.exit 0, ⟨[], [], [], [], 3984⟩)] (.n none .o (.n none .o (.n none (.n (some (false, [(.normal, ⟨[], [], [], [], 4113⟩)])) (.n none .o (.n none .o (.n none (.n none .o (.n none (.loop ⟨[.lf (.int .i64)], [(51, .one (.h 0 []))], [], [], 5073⟩ false [(.exit 2, ⟨[], [], [], [], 5073⟩)] .o) .o)) (.n none .o (.n none (.r (some (true, [(.normal, ⟨[.lf .bool], [(71, .one (.any)), (72, .one (.any)), (73, .one (.any)), (74, .one (.any)), (75, .one (.any)), (78, .one (.any)), (79, .one (.any)), (80, .one (.any)), (81, .one (.h 0 []))], [], [], 5713⟩)])) .nil) .o))))) .o) .o)))) .o)) .o))))))) pOk repOk (AllC.mem (⟨c9_ok, c10_ok, c14_ok, c15_ok, c16_ok, c26_ok, c31_ok, c35_ok, trivial⟩ : AllC _ _ [c9, c10, c14, c15, c16, c26, c31, c35])) hmix Tryz.call8 Tryz.func8 rfl rfl (by kernel_rfl) (fun h => by kernel_rfl)

end Rx
end Go.Proofs.YtfnphdhcgkondaaGreat
