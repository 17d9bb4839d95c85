/- Plain functions, walks. Written by a program (wip/gen). -/
import Derived.Test.YtnpnaopnhgkapaaRt
import Derived.Test.YtnpnaopnhgkapaaHc
import Derived.Test.YtnpnaopnhgkapaaRg1
import Derived.Test.YtnpnaopnhgkapaaRg2
set_option linter.unusedVariables false
set_option maxRecDepth 100000
namespace Go.Proofs.Ytnpnaopnhgkapaa
open Go Go.RowKit Dp
namespace Rx

noncomputable def Src_BentSequence (a0 : Src) (a1 : (List Stage)) : Option ((List Int) × Int × (List Stage)) :=
  Option.bind (app [] a1) fun x1 =>
    Option.bind (Src_N a0 (len x1)) fun x2 =>
      Option.bind (Src_N (Src.mk x2.2.1 x2.2.2) 5) fun x3 =>
        Option.bind
          (if (x3.1 == 0) = true then
            Option.bind
              (Src_Text_v1 (Src.mk x3.2.1 x3.2.2) [bsL [], bsL [115, 97], bsL [66], bsL [99, 32, 100]])
              fun x20 =>
              Option.bind (idx x1 x2.1) fun x21 =>
                Option.bind (idx x1 x2.1) fun x22 =>
                  Option.bind (setO x1 x2.1 (Stage.mk x20.1 x22.Ticks x22.Tries x22.Needs)) fun x23 =>
                    some (x20.2.1, x20.2.2.1, x23)
          else
            Option.bind
              (if (x3.1 == 1) = true then
                Option.bind (Src_Pick_v1 (Src.mk x3.2.1 x3.2.2) [0, (-1), 601])
                  fun x15 =>
                  Option.bind (idx x1 x2.1) fun x16 =>
                    Option.bind (idx x1 x2.1) fun x17 =>
                      Option.bind (setO x1 x2.1 (Stage.mk x17.Name x15.1 x17.Tries x17.Needs)) fun x18 =>
                        some (x15.2.1, x15.2.2.1, x18)
              else
                Option.bind
                  (if (x3.1 == 2) = true then
                    Option.bind (Src_Pick_v1 (Src.mk x3.2.1 x3.2.2) [0, 4]) fun x10 =>
                      Option.bind (idx x1 x2.1) fun x11 =>
                        Option.bind (idx x1 x2.1) fun x12 =>
                          Option.bind (setO x1 x2.1 (Stage.mk x12.Name x12.Ticks x10.1 x12.Needs)) fun x13 =>
                            some (x10.2.1, x10.2.2.1, x13)
                  else
                    Option.bind
                      (if (x3.1 == 3) = true then
                        Option.bind (Src_N (Src.mk x3.2.1 x3.2.2) 4) fun x4 =>
                          Option.bind
                            (idx [[x2.1], [(-1)], [0, 0], [1, 0]]
                              x4.1)
                            fun x5 =>
                            Option.bind (idx x1 x2.1) fun x6 =>
                              Option.bind (idx x1 x2.1) fun x7 =>
                                Option.bind (setO x1 x2.1 (Stage.mk x7.Name x7.Ticks x7.Tries x5)) fun x8 =>
                                  some (x4.2.1, x4.2.2, x8)
                      else some (x3.2.1, x3.2.2, []))
                      fun x9 => some (x9.1, x9.2.1, x9.2.2))
                  fun x14 => some (x14.1, x14.2.1, x14.2.2))
              fun x19 => some (x19.1, x19.2.1, x19.2.2))
          fun x24 => some (x24.1, x24.2.1, x24.2.2)
noncomputable def c17 : Con D := ⟨17, [.lf (.sl 0), .lf (.int .i64), .lf (.sl 4)], [.lf (.sl 0), .lf (.int .i64), .lf (.sl 4)], [.one (.ptr 1000 0), .agg [.h 2 [0]]], [(1000, .box [.h 0 [0], .h 1 []])], [.agg [.own 1001]], [(1000, .box [.h 0 [0], .h 1 []]), (1001, .sl 4 34 2 [0, 1])], fun h => Src_BentSequence ⟨h.1, h.2.1⟩ h.2.2⟩
theorem c17_ok : ConOk Try.prog T c17 := fn_ok (Φ := [c14, c42_1, c53_1]) (rs := [.cell 4 28]) (an := (.n none .o (.n none .o (.n none .o (.n none (.n none .o (.n none (.n none .o (.n (some (true, [(.normal, ⟨[.lf (.sl 0), .lf (.int .i64), .lf (.sl 4)], [], [(1000, .box [.h 0 [0], .h 1 []]), (2000, .box [.own 3088]), (3088, .sl 4 34 2 [0, 1])], [1000, 2000, 2256], 3152⟩)])) .o (.n none .o (.n (some (true, [(.normal, ⟨[.lf (.sl 0), .lf (.int .i64), .lf (.sl 4)], [], [(1000, .box [.h 0 [0], .h 1 []]), (2000, .box [.own 3216]), (3216, .sl 4 34 2 [0, 1])], [1000, 2000, 2256], 3280⟩)])) .o (.n none .o (.n (some (true, [(.normal, ⟨[.lf (.sl 0), .lf (.int .i64), .lf (.sl 4)], [], [(1000, .box [.h 0 [0], .h 1 []]), (2000, .box [.own 3344]), (3344, .sl 4 34 2 [0, 1])], [1000, 2000, 2256], 3408⟩)])) .o (.n none .o (.n (some (true, [(.normal, ⟨[.lf (.sl 0), .lf (.int .i64), .lf (.sl 4)], [], [(1000, .box [.h 0 [0], .h 1 []]), (2000, .box [.own 3472]), (3472, .sl 4 34 2 [0, 1])], [1000, 2000, 2256], 3536⟩)])) .o .o)))))))) .o)) .o))))) pOk repOk (AllC.mem (⟨c14_ok, c42_1_ok, c53_1_ok, trivial⟩ : AllC _ _ [c14, c42_1, c53_1])) hmix Try.call17 Try.func17 rfl rfl (by kernel_rfl) (fun h => by kernel_rfl)

noncomputable def dynposref31_Stuck_L1 (a0 : Progress) : Int →
  Option
    (Int ⊕
      Unit ⊕
        Bool) := fun x1 =>
  if decide (x1 < len a0.Works) = true then
    Option.bind (idx a0.Works x1) fun x2 =>
      if (x2.State == 3) = true then some (.inr (.inr true)) else some (.inl (W (x1 + 1)))
  else some (.inr (.inl ()))
noncomputable def dynposref31_Stuck (a0 : Progress) : Option (Bool) :=
  Option.bind (loopO (dynposref31_Stuck_L1 a0) 0) fun x3 =>
    Sum.elim (fun x4 => some false) (fun x5 => some x5) x3
noncomputable def c38 : Con D := ⟨38, [.lf (.int .i64), .lf (.sl 6)], [.lf .bool], [.agg [.h 0 [], .h 1 [0]]], [], [.one (.h 0 [])], [], fun h => dynposref31_Stuck ⟨h.1, h.2⟩⟩
theorem c38_ok : ConOk Try.prog T c38 := fn_ok (Φ := []) (rs := [.tmp 2]) (an := (.n none .o (.n none (.n none .o (.n none (.loop ⟨[.lf (.int .i64)], [(8, .one (.h 0 []))], [], [], 2448⟩ false [(.exit 0, ⟨[], [], [], [], 2448⟩)] .o) .o)) .o))) pOk repOk (AllC.mem (l := []) trivial) hmix Try.call38 Try.func38 rfl rfl (by kernel_rfl) (fun h => by kernel_rfl)

noncomputable def dynposref31_Left_L2 (x5 : Int ×
  Int ×
    List
      Int) (x7 : Stage) : Int × List Int →
  Option
    (Int × List Int ⊕
      List
        Int) := fun x8 =>
  if decide (x8.1 < len x7.Needs) = true then
    Option.bind (idx x7.Needs x8.1) fun x9 =>
      Option.bind (idx x8.2 x5.2.1) fun x10 =>
        Option.bind (idx x8.2 x9) fun x11 =>
          Option.bind (idx x8.2 x5.2.1) fun x12 =>
            Option.bind (idx x8.2 x5.2.1) fun x13 =>
              Option.bind (setO x8.2 x5.2.1 (imax x10 x11)) fun x14 =>
                some (.inl (W (x8.1 + 1), x14))
  else some (.inr x8.2)
noncomputable def dynposref31_Left_L1 (a0 : List
  Stage) (a1 : Progress) : Int × Int × List Int →
  Option
    (Int × Int × List Int ⊕
      Int ×
        List
          Int) := fun x5 =>
  if decide (x5.2.1 < len a1.Works) = true then
    Option.bind (idx a1.Works x5.2.1) fun x6 =>
      Option.bind (idx a0 x5.2.1) fun x7 =>
        Option.bind
          (if (x6.State == 1) = true then
            Option.bind (idx x5.2.2 x5.2.1) fun x21 =>
              Option.bind (idx x5.2.2 x5.2.1) fun x22 =>
                Option.bind (setO x5.2.2 x5.2.1 (W (W (x6.Since + x7.Ticks) - a1.Time))) fun x23 => some x23
          else
            Option.bind
              (if (x6.State == 0) = true then
                Option.bind (loopO (dynposref31_Left_L2 x5 x7) (0, x5.2.2)) fun x15 =>
                  Option.bind (idx x15 x5.2.1) fun x16 =>
                    Option.bind (idx x15 x5.2.1) fun x17 =>
                      Option.bind (idx x15 x5.2.1) fun x18 =>
                        Option.bind (setO x15 x5.2.1 (W (x16 + x7.Ticks))) fun x19 => some x19
              else some x5.2.2)
              fun x20 => some x20)
          fun x24 =>
          Option.bind (idx x24 x5.2.1) fun x25 =>
            some (.inl (imax x5.1 x25, W (x5.2.1 + 1), x24))
  else some (.inr (x5.1, x5.2.2))
noncomputable def dynposref31_Left (a0 : (List Stage)) (a1 : Progress) : Option (Int × Bool) :=
  Option.bind
    (Option.bind (dynposref31_Valid a0 a1) fun x1 =>
      if (!x1) = true then some true else Option.bind (dynposref31_Stuck a1) fun x2 => some x2)
    fun x3 =>
    if x3 = true then some (0, false)
    else
      Option.bind (mkZ 0 (len a1.Works)) fun x4 =>
        Option.bind (loopO (dynposref31_Left_L1 a0 a1) (0, 0, x4)) fun x26 => some (x26.1, true)
noncomputable def c32 : Con D := ⟨32, [.lf (.sl 4), .lf (.int .i64), .lf (.sl 6)], [.lf (.int .i64), .lf .bool], [.agg [.h 0 [0]], .agg [.h 1 [], .h 2 [0]]], [], [.one (.h 0 []), .one (.h 1 [])], [], fun h => dynposref31_Left h.1 ⟨h.2.1, h.2.2⟩⟩
theorem c32_ok : ConOk Try.prog T c32 := fn_ok (Φ := [c34, c38]) (rs := [.tmp 4, .tmp 5]) (an := (.n none .o (.n none (.n none (.r (some (true, [(.normal, ⟨[.lf .bool], [(20, .one (.h 0 []))], [], [], 2320⟩)])) .nil) .o) (.n none .o (.n none .o (.n none (.n none .o (.n none (.loop ⟨[.lf (.int .i64), .lf (.int .i64), .lf (.sl 0)], [(6, .one (.h 0 [])), (28, .one (.h 1 []))], [(2577, .sl 0 3 2 [])], [2577], 3025⟩ true [(.exit 0, ⟨[.lf (.int .i64), .lf (.sl 0)], [(6, .one (.h 0 []))], [(2577, .sl 0 3 1 [])], [2577], 3025⟩)] (.n none .o (.n none .o (.n none (.n none (.n none .o (.n none .o (.n none (.n none .o (.n none (.n none .o (.n (some (true, [(.normal, ⟨[.lf (.sl 0)], [], [(2577, .sl 0 3 0 [])], [2577], 4244⟩)])) .o (.n none .o (.n (some (true, [(.normal, ⟨[.lf (.sl 0)], [], [(2577, .sl 0 3 0 [])], [2577], 4372⟩)])) (.n none (.n none .o (.n none (.loop ⟨[.lf (.int .i64), .lf (.sl 0)], [(58, .one (.h 0 []))], [(2577, .sl 0 3 1 [])], [2577], 4628⟩ true [(.exit 3, ⟨[.lf (.sl 0)], [], [(2577, .sl 0 3 0 [])], [2577], 4628⟩)] .o) .o)) .o) .o)))) .o)) .o))) .o) .o)))) .o)) .o)))))) pOk repOk (AllC.mem (⟨c34_ok, c38_ok, trivial⟩ : AllC _ _ [c34, c38])) hmix Try.call32 Try.func32 rfl rfl (by kernel_rfl) (fun h => by kernel_rfl)

noncomputable def dynposref31_Length (a0 : (List Stage)) : Option (Int) :=
  Option.bind (dynposref31_New a0 0) fun x1 =>
    if (x1.2.1 != 0) = true then some 0
    else Option.bind (dynposref31_Left a0 (Progress.mk x1.1 x1.2.2)) fun x2 => some x2.1
noncomputable def c21 : Con D := ⟨21, [.lf (.sl 4)], [.lf (.int .i64)], [.agg [.h 0 [0]]], [], [.one (.h 0 [])], [], fun h => dynposref31_Length h⟩
theorem c21_ok : ConOk Try.prog T c21 := fn_ok (Φ := [c28, c32]) (rs := [.tmp 2]) (an := .o) pOk repOk (AllC.mem (⟨c28_ok, c32_ok, trivial⟩ : AllC _ _ [c28, c32])) hmix Try.call21 Try.func21 rfl rfl (by kernel_rfl) (fun h => by kernel_rfl)

noncomputable def dynposref31_Longest_L2 (x3 : Int ×
  Int ×
    List
      Int) (x4 : Stage) : Int × List Int →
  Option
    (Int × List Int ⊕
      List
        Int) := fun x5 =>
  if decide (x5.1 < len x4.Needs) = true then
    Option.bind (idx x4.Needs x5.1) fun x6 =>
      Option.bind (idx x5.2 x3.2.1) fun x7 =>
        Option.bind (idx x5.2 x6) fun x8 =>
          Option.bind (idx x5.2 x3.2.1) fun x9 =>
            Option.bind (idx x5.2 x3.2.1) fun x10 =>
              Option.bind (setO x5.2 x3.2.1 (imax x7 x8)) fun x11 =>
                some (.inl (W (x5.1 + 1), x11))
  else some (.inr x5.2)
noncomputable def dynposref31_Longest_L1 (a0 : List
  Stage) : Int × Int × List Int →
  Option
    (Int × Int × List Int ⊕
      Int ×
        List
          Int) := fun x3 =>
  if decide (x3.2.1 < len a0) = true then
    Option.bind (idx a0 x3.2.1) fun x4 =>
      Option.bind (loopO (dynposref31_Longest_L2 x3 x4) (0, x3.2.2)) fun x12 =>
        Option.bind (idx x12 x3.2.1) fun x13 =>
          Option.bind (idx x12 x3.2.1) fun x14 =>
            Option.bind (idx x12 x3.2.1) fun x15 =>
              Option.bind (setO x12 x3.2.1 (W (x13 + W (x4.Ticks * x4.Tries)))) fun x16 =>
                Option.bind (idx x16 x3.2.1) fun x17 =>
                  some (.inl (imax x3.1 x17, W (x3.2.1 + 1), x16))
  else some (.inr (x3.1, x3.2.2))
noncomputable def dynposref31_Longest (a0 : (List Stage)) : Option (Int) :=
  Option.bind (dynposref31_Check a0) fun x1 =>
    if (x1 != 0) = true then some 0
    else
      Option.bind (mkZ 0 (len a0)) fun x2 =>
        Option.bind (loopO (dynposref31_Longest_L1 a0) (0, 0, x2)) fun x18 => some x18.1
noncomputable def c22 : Con D := ⟨22, [.lf (.sl 4)], [.lf (.int .i64)], [.agg [.h 0 [0]]], [], [.one (.h 0 [])], [], fun h => dynposref31_Longest h⟩
theorem c22_ok : ConOk Try.prog T c22 := fn_ok (Φ := [c20]) (rs := [.tmp 2]) (an := (.n none .o (.n none .o (.n none .o (.n none .o (.n none (.n none .o (.n none (.loop ⟨[.lf (.int .i64), .lf (.int .i64), .lf (.sl 0)], [(3, .one (.h 0 [])), (19, .one (.h 1 []))], [(2576, .sl 0 3 2 [])], [2576], 3024⟩ true [(.exit 0, ⟨[.lf (.int .i64), .lf (.sl 0)], [(3, .one (.h 0 []))], [(2576, .sl 0 3 1 [])], [2576], 3024⟩)] (.n none .o (.n none .o (.n none (.n none (.n none .o (.n none (.n none .o (.n none (.loop ⟨[.lf (.int .i64), .lf (.sl 0)], [(27, .one (.h 0 []))], [(2576, .sl 0 3 1 [])], [2576], 3795⟩ true [(.exit 2, ⟨[.lf (.sl 0)], [], [(2576, .sl 0 3 0 [])], [2576], 3795⟩)] .o) .o)) .o)) .o) .o)))) .o)) .o)))))) pOk repOk (AllC.mem (⟨c20_ok, trivial⟩ : AllC _ _ [c20])) hmix Try.call22 Try.func22 rfl rfl (by kernel_rfl) (fun h => by kernel_rfl)

noncomputable def disconnect_Path_1_v2_L1 (F : (Int) → ((List Int)) → ((List Int)) → ((List Stage)) → ((List Int)) → (Bool) → Option ((List Int) × (List Int) × (List Stage) × (List Int) × Bool)) (x3 : Int) (x4 : Stage) (x5 : Stage) : Int ×
    List Int × List Stage × List Int × Bool × List Int →
  Option
    (Int × List Int × List Stage × List Int × Bool × List Int ⊕
      List Int ×
        List Stage ×
          List Int ×
            Bool ×
              List
                Int) := fun x6 =>
  if decide (x6.1 < len x5.Needs) = true then
    Option.bind (idx x5.Needs x6.1) fun x7 =>
      Option.bind (idx x6.2.1 x7) fun x8 =>
        Option.bind
          (if (x8 == W (x3 - x4.Ticks)) = true then
            Option.bind
              (F x7 x6.2.2.2.2.2 x6.2.1 x6.2.2.1 x6.2.2.2.1
                x6.2.2.2.2.1)
              fun x9 => some (x9.2.1, x9.2.2.1, x9.2.2.2.1, x9.2.2.2.2, x9.1)
          else some (x6.2.1, x6.2.2.1, x6.2.2.2.1, x6.2.2.2.2.1, x6.2.2.2.2.2))
          fun x10 =>
          some
            (.inl
              (W (x6.1 + 1), x10.1, x10.2.1, x10.2.2.1, x10.2.2.2.1,
                x10.2.2.2.2))
  else some (.inr (x6.2.1, x6.2.2.1, x6.2.2.2.1, x6.2.2.2.2.1, x6.2.2.2.2.2))
noncomputable def disconnect_Path_1_v2_S (F : (Int) → ((List Int)) → ((List Int)) → ((List Stage)) → ((List Int)) → (Bool) → Option ((List Int) × (List Int) × (List Stage) × (List Int) × Bool)) (a0 : Int) (a1 : (List Int)) (a2 : (List Int)) (a3 : (List Stage)) (a4 : (List Int)) (a5 : Bool) : Option ((List Int) × (List Int) × (List Stage) × (List Int) × Bool) :=
  Option.bind (slices_Clone_int_int a1) fun x1 =>
    Option.bind (slices_Insert_int_int x1 0 [a0]) fun x2 =>
      Option.bind (idx a2 a0) fun x3 =>
        Option.bind (idx a3 a0) fun x4 =>
          if (W (x3 - x4.Ticks) == 0) = true then
            Option.bind
              (if a5 = true then some true
              else Option.bind (slices_Compare_int_int x2 a4) fun x12 => some (decide (x12 < 0)))
              fun x13 =>
              Option.bind (if x13 = true then Option.bind (neO x2) fun x14 => some (x2, false) else some (a4, a5))
                fun x15 => some (a1, a2, a3, x15.1, x15.2)
          else
            Option.bind (idx a3 a0) fun x5 =>
              Option.bind (loopO (disconnect_Path_1_v2_L1 F x3 x4 x5) (0, a2, a3, a4, a5, x2)) fun x11 =>
                some (a1, x11.1, x11.2.1, x11.2.2.1, x11.2.2.2.1)
/-- it calls itself: of so many calls below one another -/
noncomputable def disconnect_Path_1_v2_R (n : Nat) : (Int) → ((List Int)) → ((List Int)) → ((List Stage)) → ((List Int)) → (Bool) → Option ((List Int) × (List Int) × (List Stage) × (List Int) × Bool) := Nat.rec (motive := fun _ => (Int) → ((List Int)) → ((List Int)) → ((List Stage)) → ((List Int)) → (Bool) → Option ((List Int) × (List Int) × (List Stage) × (List Int) × Bool)) (fun _ _ _ _ _ _ => none) (fun _ F => disconnect_Path_1_v2_S F) n
noncomputable def disconnect_Path_1_v2 (a0 : Int) (a1 : (List Int)) (a2 : (List Int)) (a3 : (List Stage)) (a4 : (List Int)) (a5 : Bool) : Option ((List Int) × (List Int) × (List Stage) × (List Int) × Bool) := disconnect_Path_1_v2_R 64 a0 a1 a2 a3 a4 a5
noncomputable def c46_2_k (n : Nat) : Con D := ⟨46, [.lf (.int .i64), .lf (.sl 0), .lf (.sl 0), .lf (.sl 4), .lf (.sl 0), .lf .bool], [.lf (.sl 0), .lf (.sl 0), .lf (.sl 4), .lf (.sl 0), .lf .bool], [.one (.h 0 []), .one (.own 1000), .one (.ptr 1001 0), .one (.ptr 1003 0), .one (.ptr 1004 0), .one (.ptr 1005 0)], [(1000, .sl 0 3 1 []), (1001, .box [.own 1002]), (1002, .sl 0 3 2 []), (1003, .box [.h 3 [0]]), (1004, .box [.hb 4 5 [0]]), (1005, .box [.fn 46 [.ptr 1001 0, .ptr 1003 0, .ptr 1004 0, .ptr 1005 0]])], [], [(1000, .sl 0 3 0 []), (1001, .box [.own 1002]), (1002, .sl 0 3 1 []), (1003, .box [.h 2 [0, 1]]), (1004, .box [.hb 3 4 [0, 1]]), (1005, .box [.fn 46 [.ptr 1001 0, .ptr 1003 0, .ptr 1004 0, .ptr 1005 0]])], fun h => disconnect_Path_1_v2_R n h.1 h.2.1 h.2.2.1 h.2.2.2.1 h.2.2.2.2.1 h.2.2.2.2.2⟩
noncomputable def c46_2 : Con D := c46_2_k 64
theorem c46_2_k_ok : ∀ n, ConOk Try.prog T (c46_2_k n)
  | 0 => none_ok Try.call46 rfl (fun h => rfl)
  | n + 1 => fn_ok (Φ := [c46_2_k n, c47, c48, c49]) (rs := []) (an := (.n none .o (.n none .o (.n none (.n none .o (.n none (.n none (.n none (.r (some (true, [(.normal, ⟨[.lf .bool], [(36, .one (.h 0 []))], [], [], 3344⟩)])) .nil) (.n (some (true, [(.normal, ⟨[.lf (.sl 0), .lf .bool], [], [(1004, .box [.hb 0 1 [0, 1]])], [1004, 2264], 3409⟩)])) .o .o)) .o) .o)) (.n none .o (.n none (.loop ⟨[.lf (.int .i64), .lf (.sl 0), .lf (.sl 4), .lf (.sl 0), .lf .bool, .lf (.sl 0)], [(45, .one (.h 0 []))], [(1001, .box [.own 1002]), (1002, .sl 0 3 1 []), (1003, .box [.h 2 [0, 1]]), (1004, .box [.hb 3 4 [0, 1]]), (1005, .box [.fn 46 [.ptr 1001 0, .ptr 1003 0, .ptr 1004 0, .ptr 1005 0]]), (2264, .sl 0 3 5 [])], [1001, 1002, 1003, 1004, 1005, 2264], 3856⟩ true [(.exit 0, ⟨[.lf (.sl 0), .lf (.sl 4), .lf (.sl 0), .lf .bool, .lf (.sl 0)], [], [(1001, .box [.own 1002]), (1002, .sl 0 3 0 []), (1003, .box [.h 1 [0, 1]]), (1004, .box [.hb 2 3 [0, 1]]), (1005, .box [.fn 46 [.ptr 1001 0, .ptr 1003 0, .ptr 1004 0, .ptr 1005 0]]), (2264, .sl 0 3 4 [])], [1001, 1002, 1003, 1004, 1005, 2264], 3856⟩)] (.n none .o (.n none .o (.n none (.n none (.n none .o (.n none .o (.n (some (true, [(.normal, ⟨[.lf (.sl 0), .lf (.sl 4), .lf (.sl 0), .lf .bool, .lf (.sl 0)], [], [(1001, .box [.own 1002]), (1002, .sl 0 3 0 []), (1003, .box [.h 1 [0, 1]]), (1004, .box [.hb 2 3 [0, 1]]), (1005, .box [.fn 46 [.ptr 1001 0, .ptr 1003 0, .ptr 1004 0, .ptr 1005 0]]), (2264, .sl 0 3 4 [])], [1001, 1002, 1003, 1004, 1005, 2264], 4566⟩)])) .o .o))) .o) .o)))) .o)))))) pOk repOk (AllC.mem (⟨c46_2_k_ok n, c47_ok, c48_ok, c49_ok, trivial⟩ : AllC _ _ [c46_2_k n, c47, c48, c49])) hmix Try.call46 Try.func46 rfl rfl (by kernel_rfl) (fun h => by kernel_rfl)
theorem c46_2_ok : ConOk Try.prog T c46_2 := c46_2_k_ok 64

noncomputable def disconnect_Path_L1 (x2 : List
  Int) (x3 : Int) : Int × List Stage × List Int × List Int × Bool →
  Option
    (Int × List Stage × List Int × List Int × Bool ⊕
      List Stage ×
        List Int ×
          List Int ×
            Bool) := fun x4 =>
  if decide (x4.1 < len x2) = true then
    Option.bind (idx x4.2.2.1 x4.1) fun x5 =>
      Option.bind
        (if (x5 == x3) = true then
          Option.bind (disconnect_Path_1_v2 x4.1 [] x4.2.2.1 x4.2.1 x4.2.2.2.1 x4.2.2.2.2)
            fun x6 => some (x6.2.2.1, x6.2.1, x6.2.2.2.1, x6.2.2.2.2)
        else some (x4.2.1, x4.2.2.1, x4.2.2.2.1, x4.2.2.2.2))
        fun x7 => some (.inl (W (x4.1 + 1), x7.1, x7.2.1, x7.2.2.1, x7.2.2.2))
  else some (.inr (x4.2.1, x4.2.2.1, x4.2.2.2.1, x4.2.2.2.2))
noncomputable def disconnect_Path (a0 : (List Stage)) : Option ((List Int)) :=
  Option.bind (disconnect_New a0 0) fun x1 =>
    if (x1.2.1 != 0) = true then some []
    else
      Option.bind (disconnect_ends a0 (Progress.mk x1.1 x1.2.2)) fun x2 =>
        Option.bind (slices_Max_int_int x2) fun x3 =>
          Option.bind (loopO (disconnect_Path_L1 x2 x3) (0, a0, x2, [], true)) fun x8 => some x8.2.2.1
noncomputable def c12 : Con D := ⟨12, [.lf (.sl 4)], [.lf (.sl 0)], [.agg [.h 0 [0]]], [], [.one (.h 0 [0, 1])], [], fun h => disconnect_Path h⟩
theorem c12_ok : ConOk Try.prog T c12 := fn_ok (Φ := [c27, c44, c45, c46_2]) (rs := [.tmp 2]) (an := (.n none .o (.n none .o (.n none .o (.n none .o (.n none .o (.n none .o (.n none .o (.n none .o (.n none (.n none .o (.n none (.loop ⟨[.lf (.int .i64), .lf (.sl 4), .lf (.sl 0), .lf (.sl 0), .lf .bool], [(25, .one (.h 0 []))], [(2000, .box [.h 1 [0, 1]]), (2904, .sl 0 3 2 []), (2960, .box [.own 2904]), (3280, .box [.hb 3 4 [0, 1]]), (3344, .box [.fn 46 [.ptr 2960 0, .ptr 2000 0, .ptr 3280 0, .ptr 3344 0]])], [2000, 2904, 2960, 3280, 3344], 3792⟩ true [(.exit 0, ⟨[.lf (.sl 4), .lf (.sl 0), .lf (.sl 0), .lf .bool], [], [(2000, .box [.h 0 [0, 1]]), (2904, .sl 0 3 1 []), (2960, .box [.own 2904]), (3280, .box [.hb 2 3 [0, 1]]), (3344, .box [.fn 46 [.ptr 2960 0, .ptr 2000 0, .ptr 3280 0, .ptr 3344 0]])], [2000, 2904, 2960, 3280, 3344], 3792⟩)] (.n none .o (.n none .o (.n none (.n none (.n none .o (.n none .o (.n (some (true, [(.normal, ⟨[.lf (.sl 4), .lf (.sl 0), .lf (.sl 0), .lf .bool], [], [(2000, .box [.h 0 [0, 1]]), (2904, .sl 0 3 1 []), (2960, .box [.own 2904]), (3280, .box [.hb 2 3 [0, 1]]), (3344, .box [.fn 46 [.ptr 2960 0, .ptr 2000 0, .ptr 3280 0, .ptr 3344 0]])], [2000, 2904, 2960, 3280, 3344], 4437⟩)])) .o .o))) .o) .o)))) .o)) .o)))))))))) pOk repOk (AllC.mem (⟨c27_ok, c44_ok, c45_ok, c46_2_ok, trivial⟩ : AllC _ _ [c27, c44, c45, c46_2])) hmix Try.call12 Try.func12 rfl rfl (by kernel_rfl) (fun h => by kernel_rfl)

noncomputable def dynposref31_Path_L2 (a0 : List
  Stage) (x3 : Int ×
  List
    Int) : Int × List Int →
  Option
    (Int × List Int ⊕
      List
        Int) := fun x4 =>
  if decide (x4.1 < len a0) = true then
    Option.bind (idx a0 x4.1) fun x5 =>
      Option.bind (dynposref01_Has x5.Needs x3.1) fun x6 =>
        Option.bind
          (if x6 = true then
            Option.bind (idx x4.2 x3.1) fun x7 =>
              Option.bind (idx x4.2 x4.1) fun x8 =>
                Option.bind (idx x4.2 x3.1) fun x9 =>
                  Option.bind (idx x4.2 x3.1) fun x10 =>
                    Option.bind (setO x4.2 x3.1 (imax x7 x8)) fun x11 => some x11
          else some x4.2)
          fun x12 => some (.inl (W (x4.1 + 1), x12))
  else some (.inr x4.2)
noncomputable def dynposref31_Path_L1 (a0 : List
  Stage) : Int × List Int →
  Option
    (Int × List Int ⊕
      List
        Int) := fun x3 =>
  if decide (x3.1 ≥ 0) = true then
    Option.bind (loopO (dynposref31_Path_L2 a0 x3) (W (x3.1 + 1), x3.2)) fun x13 =>
      Option.bind (idx x13 x3.1) fun x14 =>
        Option.bind (idx a0 x3.1) fun x15 =>
          Option.bind (idx x13 x3.1) fun x16 =>
            Option.bind (idx x13 x3.1) fun x17 =>
              Option.bind (setO x13 x3.1 (W (x14 + x15.Ticks))) fun x18 =>
                some (.inl (W (x3.1 - 1), x18))
  else some (.inr x3.2)
noncomputable def dynposref31_Path_L4 (a0 : List
  Stage) (x19 : List
  Int) : Int × Int × List Int →
  Option
    (Int × Int × List Int ⊕
      Int ×
        List
          Int) := fun x22 =>
  if decide (x22.2.1 < len a0) = true then
    Option.bind (idx a0 x22.2.1) fun x23 =>
      Option.bind
        (if (len x22.2.2 == 0) = true then
          if (len x23.Needs == 0) = true then some true
          else
            if decide (len x22.2.2 > 0) = true then
              Option.bind (idx x22.2.2 (W (len x22.2.2 - 1))) fun x26 =>
                Option.bind (dynposref01_Has x23.Needs x26) fun x27 => some x27
            else some false
        else
          if decide (len x22.2.2 > 0) = true then
            Option.bind (idx x22.2.2 (W (len x22.2.2 - 1))) fun x24 =>
              Option.bind (dynposref01_Has x23.Needs x24) fun x25 => some x25
          else some false)
        fun x28 =>
        Option.bind
          (if x28 = true then Option.bind (idx x19 x22.2.1) fun x29 => some (x29 == x22.1) else some false)
          fun x30 =>
          if x30 = true then
            Option.bind (app x22.2.2 [x22.2.1]) fun x31 => some (.inr (W (x22.1 - x23.Ticks), x31))
          else some (.inl (x22.1, W (x22.2.1 + 1), x22.2.2))
  else some (.inr (x22.1, x22.2.2))
noncomputable def dynposref31_Path_L3 (a0 : List
  Stage) (x19 : List
  Int) : Int × List Int →
  Option
    (Int × List Int ⊕
      List
        Int) := fun x21 =>
  if decide (x21.1 > 0) = true then
    Option.bind (loopO (dynposref31_Path_L4 a0 x19) (x21.1, 0, x21.2)) fun x32 =>
      some (.inl (x32.1, x32.2))
  else some (.inr x21.2)
noncomputable def dynposref31_Path (a0 : (List Stage)) : Option ((List Int)) :=
  Option.bind (dynposref31_Check a0) fun x1 =>
    if (x1 != 0) = true then some []
    else
      Option.bind (mkZ 0 (len a0)) fun x2 =>
        Option.bind (loopO (dynposref31_Path_L1 a0) (W (len a0 - 1), x2)) fun x19 =>
          Option.bind (dynposref31_Length a0) fun x20 =>
            Option.bind (loopO (dynposref31_Path_L3 a0 x19) (x20, [])) fun x33 => some x33
noncomputable def c24 : Con D := ⟨24, [.lf (.sl 4)], [.lf (.sl 0)], [.agg [.h 0 [0]]], [], [.one (.own 1000)], [(1000, .sl 0 3 0 [])], fun h => dynposref31_Path h⟩
theorem c24_ok : ConOk Try.prog T c24 := fn_ok (Φ := [c20, c21, c57]) (rs := [.tmp 2]) (an := (.n none .o (.n none .o (.n none .o (.n none (.n none .o (.n none (.loop ⟨[.lf (.int .i64), .lf (.sl 0)], [(4, .one (.h 0 []))], [(2512, .sl 0 3 1 [])], [2512], 3024⟩ true [(.exit 0, ⟨[.lf (.sl 0)], [], [(2512, .sl 0 3 0 [])], [2512], 3024⟩)] (.n none .o (.n none (.n none (.n none (.n none .o (.n none (.loop ⟨[.lf (.int .i64), .lf (.sl 0)], [(5, .one (.h 0 []))], [(2512, .sl 0 3 1 [])], [2512], 3410⟩ true [(.exit 2, ⟨[.lf (.sl 0)], [], [(2512, .sl 0 3 0 [])], [2512], 3410⟩)] (.n none .o (.n none (.n none (.n none .o (.n (some (true, [(.normal, ⟨[.lf (.sl 0)], [], [(2512, .sl 0 3 0 [])], [2512], 4308⟩)])) .o .o)) .o) .o))) .o)) .o) .o) .o))) .o)) (.n none .o (.n none .o (.n none (.n none (.loop ⟨[.lf (.int .i64), .lf (.sl 0)], [(6, .one (.h 0 [])), (7, .one (.own 3281))], [(3281, .sl 0 3 1 [])], [], 3345⟩ true [(.exit 4, ⟨[.lf (.sl 0)], [(7, .one (.own 3281))], [(3281, .sl 0 3 0 [])], [], 3345⟩)] (.n none .o (.n none (.n none .o (.n none (.loop ⟨[.lf (.int .i64), .lf (.int .i64), .lf (.sl 0)], [(6, .one (.h 0 [])), (7, .one (.own 3281)), (74, .one (.h 1 []))], [(3281, .sl 0 3 2 [])], [3281], 3795⟩ true [(.exit 6, ⟨[.lf (.int .i64), .lf (.sl 0)], [(6, .one (.h 0 [])), (7, .one (.own 3731))], [(3731, .sl 0 3 1 [])], [3281], 3795⟩)] (.n none .o (.n none .o (.n none (.n none (.n none .o (.n none (.r (some (true, [(.normal, ⟨[.lf .bool], [(10, .one (.h 0 [])), (83, .one (.any)), (84, .one (.any)), (85, .one (.any)), (86, .one (.any)), (89, .one (.any)), (90, .one (.any)), (91, .one (.any)), (92, .one (.any)), (93, .one (.any)), (94, .one (.any)), (95, .one (.any)), (96, .one (.any)), (97, .one (.any)), (98, .one (.any)), (99, .one (.any)), (100, .one (.any)), (101, .one (.any)), (102, .one (.any))], [], [], 4310⟩)])) .nil) (.n none (.r (some (true, [(.normal, ⟨[.lf .bool], [(106, .one (.any)), (107, .one (.any)), (108, .one (.any)), (109, .one (.any)), (110, .one (.any)), (111, .one (.any)), (112, .one (.h 0 []))], [], [], 4375⟩)])) .nil) .o))) .o) .o)))) .o)) .o))) .o) .o)))))))) pOk repOk (AllC.mem (⟨c20_ok, c21_ok, c57_ok, trivial⟩ : AllC _ _ [c20, c21, c57])) hmix Try.call24 Try.func24 rfl rfl (by kernel_rfl) (fun h => by kernel_rfl)

noncomputable def dynposref31_Proves_L1 (a0 : List
  Stage) (a1 : List
  Int) : Int × Int →
  Option
    (Int × Int ⊕
      Int ⊕
        Bool) := fun x3 =>
  if decide (x3.2 < len a1) = true then
    Option.bind (idx a1 x3.2) fun x4 =>
      Option.bind
        (Option.bind (dynposref31_in x4 0 (W (len a0 - 1))) fun x5 =>
          if (!x5) = true then some true
          else
            if (x3.2 == 0) = true then
              Option.bind (idx a0 x4) fun x9 =>
                if decide (len x9.Needs > 0) = true then some true
                else
                  if decide (x3.2 > 0) = true then
                    Option.bind (idx a0 x4) fun x10 =>
                      Option.bind (idx a1 (W (x3.2 - 1))) fun x11 =>
                        Option.bind (dynposref01_Has x10.Needs x11) fun x12 => some !x12
                  else some false
            else
              if decide (x3.2 > 0) = true then
                Option.bind (idx a0 x4) fun x6 =>
                  Option.bind (idx a1 (W (x3.2 - 1))) fun x7 =>
                    Option.bind (dynposref01_Has x6.Needs x7) fun x8 => some !x8
              else some false)
        fun x13 =>
        if x13 = true then some (.inr (.inr false))
        else Option.bind (idx a0 x4) fun x14 => some (.inl (W (x3.1 + x14.Ticks), W (x3.2 + 1)))
  else some (.inr (.inl x3.1))
noncomputable def dynposref31_Proves (a0 : (List Stage)) (a1 : (List Int)) : Option (Bool) :=
  Option.bind
    (Option.bind (dynposref31_Check a0) fun x1 =>
      if (x1 != 0) = true then some true else some (len a1 == 0))
    fun x2 =>
    if x2 = true then some false
    else
      Option.bind (loopO (dynposref31_Proves_L1 a0 a1) (0, 0)) fun x15 =>
        Sum.elim (fun x16 => Option.bind (dynposref31_Length a0) fun x17 => some (x16 == x17)) (fun x18 => some x18) x15
noncomputable def c26 : Con D := ⟨26, [.lf (.sl 4), .lf (.sl 0)], [.lf .bool], [.agg [.h 0 [0]], .one (.h 1 [0])], [], [.one (.h 0 [])], [], fun h => dynposref31_Proves h.1 h.2⟩
theorem c26_ok : ConOk Try.prog T c26 := fn_ok (Φ := [c20, c21, c55, c57]) (rs := [.tmp 4]) (an := (.n none .o (.n none (.n none (.r (some (true, [(.normal, ⟨[.lf .bool], [(15, .one (.h 0 []))], [], [], 2192⟩)])) .nil) .o) (.n none .o (.n none (.n none .o (.n none (.loop ⟨[.lf (.int .i64), .lf (.int .i64)], [(5, .one (.h 0 [])), (18, .one (.h 1 []))], [], [], 2513⟩ false [(.exit 0, ⟨[.lf (.int .i64)], [(5, .one (.h 0 []))], [], [], 2513⟩)] (.n none .o (.n none .o (.n none (.n none (.n none .o (.n none (.n none (.r (some (true, [(.normal, ⟨[.lf .bool], [(31, .one (.any)), (32, .one (.any)), (33, .one (.any)), (34, .one (.any)), (35, .one (.any)), (36, .one (.any)), (37, .one (.any)), (38, .one (.any)), (39, .one (.any)), (40, .one (.any)), (41, .one (.any)), (42, .one (.any)), (45, .one (.any)), (46, .one (.any)), (47, .one (.any)), (48, .one (.any)), (49, .one (.any)), (50, .one (.any)), (51, .one (.any)), (52, .one (.any)), (53, .one (.any)), (54, .one (.any)), (55, .one (.any)), (56, .one (.any)), (57, .one (.any)), (58, .one (.any)), (59, .one (.any)), (60, .one (.any)), (61, .one (.any)), (62, .one (.h 0 []))], [], [], 2963⟩)])) .nil) .o) .o)) .o) .o)))) .o)) .o))))) pOk repOk (AllC.mem (⟨c20_ok, c21_ok, c55_ok, c57_ok, trivial⟩ : AllC _ _ [c20, c21, c55, c57])) hmix Try.call26 Try.func26 rfl rfl (by kernel_rfl) (fun h => by kernel_rfl)

noncomputable def dynposref31_Same_L1 (a0 : Progress) (a1 : Progress) : Int →
  Option
    (Int ⊕
      Unit ⊕
        Bool) := fun x2 =>
  if decide (x2 < len a0.Works) = true then
    Option.bind (idx a0.Works x2) fun x3 =>
      Option.bind (idx a1.Works x2) fun x4 =>
        if (!(x3.State == x4.State && (x3.Since == x4.Since && x3.Tries == x4.Tries))) = true then
          some (.inr (.inr false))
        else some (.inl (W (x2 + 1)))
  else some (.inr (.inl ()))
noncomputable def dynposref31_Same (a0 : Progress) (a1 : Progress) : Option (Bool) :=
  Option.bind (if (a0.Time != a1.Time) = true then some true else some (len a0.Works != len a1.Works)) fun x1 =>
    if x1 = true then some false
    else
      Option.bind (loopO (dynposref31_Same_L1 a0 a1) 0) fun x5 =>
        Sum.elim (fun x6 => some true) (fun x7 => some x7) x5
noncomputable def c29 : Con D := ⟨29, [.lf (.int .i64), .lf (.sl 6), .lf (.int .i64), .lf (.sl 6)], [.lf .bool], [.agg [.h 0 [], .h 1 [0]], .agg [.h 2 [], .h 3 [0]]], [], [.one (.h 0 [])], [], fun h => dynposref31_Same ⟨h.1, h.2.1⟩ ⟨h.2.2.1, h.2.2.2⟩⟩
theorem c29_ok : ConOk Try.prog T c29 := fn_ok (Φ := []) (rs := [.tmp 4]) (an := (.n none .o (.n none (.n none (.r (some (true, [(.normal, ⟨[.lf .bool], [(19, .one (.h 0 []))], [], [], 2256⟩)])) .nil) .o) (.n none (.n none .o (.n none (.loop ⟨[.lf (.int .i64)], [(23, .one (.h 0 []))], [], [], 2577⟩ false [(.exit 0, ⟨[], [], [], [], 2577⟩)] .o) .o)) .o)))) pOk repOk (AllC.mem (l := []) trivial) hmix Try.call29 Try.func29 rfl rfl (by kernel_rfl) (fun h => by kernel_rfl)

noncomputable def Src_BentProgress (a0 : Src) (a1 : Progress) : Option (Int × (List Work) × (List Int) × Int) :=
  Option.bind (app [] a1.Works) fun x1 =>
    if (len x1 == 0) = true then some (a1.Time, x1, a0.L, a0.At)
    else
      Option.bind (Src_N a0 (len x1)) fun x2 =>
        Option.bind (idx x1 x2.1) fun x3 =>
          Option.bind (Src_N (Src.mk x2.2.1 x2.2.2) 5) fun x4 =>
            Option.bind
              (if (x4.1 == 0) = true then
                Option.bind (Src_Range (Src.mk x4.2.1 x4.2.2) (-1) 4) fun x16 =>
                  Option.bind (idx x1 x2.1) fun x17 =>
                    Option.bind (setO x1 x2.1 (Work.mk x16.1 x17.Since x17.Tries)) fun x18 =>
                      some (x16.2.1, x16.2.2, a1.Time, x18)
              else
                Option.bind
                  (if (x4.1 == 1) = true then
                    Option.bind
                      (Src_Pick_v1 (Src.mk x4.2.1 x4.2.2)
                        [(-1), a1.Time, W (a1.Time + 1), 0])
                      fun x12 =>
                      Option.bind (idx x1 x2.1) fun x13 =>
                        Option.bind (setO x1 x2.1 (Work.mk x13.State x12.1 x13.Tries)) fun x14 =>
                          some (x12.2.1, x12.2.2.1, a1.Time, x14)
                  else
                    Option.bind
                      (if (x4.1 == 2) = true then
                        Option.bind (Src_Range (Src.mk x4.2.1 x4.2.2) (-1) 4) fun x8 =>
                          Option.bind (idx x1 x2.1) fun x9 =>
                            Option.bind (setO x1 x2.1 (Work.mk x9.State x9.Since x8.1)) fun x10 =>
                              some (x8.2.1, x8.2.2, a1.Time, x10)
                      else
                        Option.bind
                          (if (x4.1 == 3) = true then
                            Option.bind
                              (Src_Pick_v1 (Src.mk x4.2.1 x4.2.2)
                                [(-1), W (a1.Time + 1), 2147483649])
                              fun x6 => some (x6.2.1, x6.2.2.1, x6.1, x1)
                          else
                            Option.bind (slc x1 1 (len x1)) fun x5 =>
                              some (x4.2.1, x4.2.2, a1.Time, x5))
                          fun x7 => some (x7.1, x7.2.1, x7.2.2.1, x7.2.2.2))
                      fun x11 => some (x11.1, x11.2.1, x11.2.2.1, x11.2.2.2))
                  fun x15 => some (x15.1, x15.2.1, x15.2.2.1, x15.2.2.2))
              fun x19 => some (x19.2.2.1, x19.2.2.2, x19.1, x19.2.1)
noncomputable def c30 : Con D := ⟨30, [.lf (.sl 0), .lf (.int .i64), .lf (.int .i64), .lf (.sl 6)], [.lf (.int .i64), .lf (.sl 6), .lf (.sl 0), .lf (.int .i64)], [.one (.ptr 1000 0), .agg [.h 2 [], .h 3 [0]]], [(1000, .box [.h 0 [0], .h 1 []])], [.agg [.h 0 [], .h 1 [0, 1]]], [(1000, .box [.h 2 [0], .h 3 []])], fun h => Src_BentProgress ⟨h.1, h.2.1⟩ ⟨h.2.2.1, h.2.2.2⟩⟩
theorem c30_ok : ConOk Try.prog T c30 := fn_ok (Φ := [c14, c42_1, c43]) (rs := [.cell 4 39]) (an := (.n none .o (.n none .o (.n none .o (.n none .o (.n none (.n none .o (.n none (.n none .o (.n (some (true, [(.normal, ⟨[.lf (.sl 0), .lf (.int .i64), .lf (.int .i64), .lf (.sl 6)], [], [(1000, .box [.h 0 [0], .h 1 []]), (2000, .box [.h 2 [], .h 3 [0, 1]])], [1000, 2000, 2256], 3600⟩)])) .o (.n none .o (.n (some (true, [(.normal, ⟨[.lf (.sl 0), .lf (.int .i64), .lf (.int .i64), .lf (.sl 6)], [], [(1000, .box [.h 0 [0], .h 1 []]), (2000, .box [.h 2 [], .h 3 [0, 1]])], [1000, 2000, 2256], 3728⟩)])) .o (.n none .o (.n (some (true, [(.normal, ⟨[.lf (.sl 0), .lf (.int .i64), .lf (.int .i64), .lf (.sl 6)], [], [(1000, .box [.h 0 [0], .h 1 []]), (2000, .box [.h 2 [], .h 3 [0, 1]])], [1000, 2000, 2256], 3856⟩)])) .o (.n none .o (.n (some (true, [(.normal, ⟨[.lf (.sl 0), .lf (.int .i64), .lf (.int .i64), .lf (.sl 6)], [], [(1000, .box [.h 0 [0], .h 1 []]), (2000, .box [.h 2 [], .h 3 [0, 1]])], [1000, 2000, 2256], 3984⟩)])) .o (.f [2256] .o))))))))) .o)) .o)))))) pOk repOk (AllC.mem (⟨c14_ok, c42_1_ok, c43_ok, trivial⟩ : AllC _ _ [c14, c42_1, c43])) hmix Try.call30 Try.func30 rfl rfl (by kernel_rfl) (fun h => by kernel_rfl)

noncomputable def dynposref31_Done_L1 (a0 : Progress) : Int →
  Option
    (Int ⊕
      Unit ⊕
        Bool) := fun x1 =>
  if decide (x1 < len a0.Works) = true then
    Option.bind (idx a0.Works x1) fun x2 =>
      if (x2.State != 2) = true then some (.inr (.inr false)) else some (.inl (W (x1 + 1)))
  else some (.inr (.inl ()))
noncomputable def dynposref31_Done (a0 : Progress) : Option (Bool) :=
  Option.bind (loopO (dynposref31_Done_L1 a0) 0) fun x3 =>
    Sum.elim (fun x4 => some (decide (len a0.Works > 0))) (fun x5 => some x5) x3
noncomputable def c36 : Con D := ⟨36, [.lf (.int .i64), .lf (.sl 6)], [.lf .bool], [.agg [.h 0 [], .h 1 [0]]], [], [.one (.h 0 [])], [], fun h => dynposref31_Done ⟨h.1, h.2⟩⟩
theorem c36_ok : ConOk Try.prog T c36 := fn_ok (Φ := []) (rs := [.tmp 2]) (an := (.n none .o (.n none (.n none .o (.n none (.loop ⟨[.lf (.int .i64)], [(8, .one (.h 0 []))], [], [], 2448⟩ false [(.exit 0, ⟨[], [], [], [], 2448⟩)] .o) .o)) .o))) pOk repOk (AllC.mem (l := []) trivial) hmix Try.call36 Try.func36 rfl rfl (by kernel_rfl) (fun h => by kernel_rfl)

noncomputable def disconnect_check_1 (a0 : Int) (a1 : Sequence) : Option (Bool) :=
  Option.bind (if decide (a0 < 0) = true then some true else some (decide (a0 ≥ len a1.Stages))) fun x1 =>
    some x1
noncomputable def c74 : Con D := ⟨74, [.lf (.int .i64), .el 3], [.lf .bool], [.one (.h 0 []), .one (.rp 1 3 [0])], [], [.one (.h 0 [])], [], fun h => disconnect_check_1 h.1 h.2⟩
theorem c74_ok : ConOk Try.prog T c74 := fn_ok (Φ := []) (rs := [.tmp 3]) (an := (.n none .o (.n none (.r (some (true, [(.normal, ⟨[.lf .bool], [(3, .one (.h 0 []))], [], [], 2128⟩)])) .nil) .o))) pOk repOk (AllC.mem (l := []) trivial) hmix Try.call74 Try.func74 rfl rfl (by kernel_rfl) (fun h => by kernel_rfl)

noncomputable def slices_IndexFunc_int_int_v1_L1 (a0 : List
  Int) (a1 : Sequence) : Int →
  Option
    (Int ⊕
      Unit ⊕
        Int) := fun x1 =>
  if decide (x1 < len a0) = true then
    Option.bind (idx a0 x1) fun x2 =>
      Option.bind (disconnect_check_1 x2 a1) fun x3 =>
        if x3 = true then some (.inr (.inr x1)) else some (.inl (W (x1 + 1)))
  else some (.inr (.inl ()))
noncomputable def slices_IndexFunc_int_int_v1 (a0 : (List Int)) (a1 : Sequence) : Option (Int) :=
  Option.bind (loopO (slices_IndexFunc_int_int_v1_L1 a0 a1) 0) fun x4 =>
    Sum.elim (fun x5 => some (-1)) (fun x6 => some x6) x4
noncomputable def c77_1 : Con D := ⟨77, [.lf (.sl 0), .el 3], [.lf (.int .i64)], [.one (.h 0 [0]), .one (.fn 74 [.rp 1 3 [0]])], [], [.one (.h 0 [])], [], fun h => slices_IndexFunc_int_int_v1 h.1 h.2⟩
theorem c77_1_ok : ConOk Try.prog T c77_1 := fn_ok (Φ := [c74]) (rs := [.tmp 4]) (an := (.n none .o (.n none (.n none .o (.n none (.loop ⟨[.lf (.int .i64)], [(8, .one (.h 0 []))], [], [], 2320⟩ false [(.exit 0, ⟨[], [], [], [], 2320⟩)] .o) .o)) .o))) pOk repOk (AllC.mem (⟨c74_ok, trivial⟩ : AllC _ _ [c74])) hmix Try.call77 Try.func77 rfl rfl (by kernel_rfl) (fun h => by kernel_rfl)

noncomputable def slices_ContainsFunc_int_int_v1 (a0 : (List Int)) (a1 : Sequence) : Option (Bool) := Option.bind (slices_IndexFunc_int_int_v1 a0 a1) fun x1 => some (decide (x1 ≥ 0))
noncomputable def c71_1 : Con D := ⟨71, [.lf (.sl 0), .el 3], [.lf .bool], [.one (.h 0 [0]), .one (.fn 74 [.rp 1 3 [0]])], [], [.one (.h 0 [])], [], fun h => slices_ContainsFunc_int_int_v1 h.1 h.2⟩
theorem c71_1_ok : ConOk Try.prog T c71_1 := fn_ok (Φ := [c77_1]) (rs := [.tmp 4]) (an := .o) pOk repOk (AllC.mem (⟨c77_1_ok, trivial⟩ : AllC _ _ [c77_1])) hmix Try.call71 Try.func71 rfl rfl (by kernel_rfl) (fun h => by kernel_rfl)

noncomputable def disconnect_check (a0 : (List Stage)) (a1 : Progress) (a2 : (List Int)) : Option (Int) :=
  Option.bind (disconnect_Check a0) fun x1 =>
    if (x1 != 0) = true then some x1
    else
      Option.bind (disconnect_Valid a0 a1) fun x2 =>
        if (!x2) = true then some 67
        else
          Option.bind (slices_ContainsFunc_int_int_v1 a2 (Sequence.mk a0)) fun x3 =>
            if x3 = true then some 1
            else if (a1.Time == 2147483648) = true then some 16 else some 0
noncomputable def c65 : Con D := ⟨65, [.lf (.sl 4), .lf (.int .i64), .lf (.sl 6), .lf (.sl 0)], [.lf (.int .i64)], [.agg [.h 0 [0]], .agg [.h 1 [], .h 2 [0]], .one (.h 3 [0])], [], [.one (.h 0 [])], [], fun h => disconnect_check h.1 ⟨h.2.1, h.2.2.1⟩ h.2.2.2⟩
theorem c65_ok : ConOk Try.prog T c65 := fn_ok (Φ := [c19, c33, c71_1]) (rs := [.tmp 6]) (an := .o) pOk repOk (AllC.mem (⟨c19_ok, c33_ok, c71_1_ok, trivial⟩ : AllC _ _ [c19, c33, c71_1])) hmix Try.call65 Try.func65 rfl rfl (by kernel_rfl) (fun h => by kernel_rfl)

noncomputable def slices_Clone_Work_Work (a0 : (List Work)) : Option ((List Work)) := app [] a0
noncomputable def c66 : Con D := ⟨66, [.lf (.sl 6)], [.lf (.sl 6)], [.one (.h 0 [0])], [], [.one (.own 1000)], [(1000, .sl 6 62 0 [])], fun h => slices_Clone_Work_Work h⟩
theorem c66_ok : ConOk Try.prog T c66 := by
  refine ⟨Try.call66, rfl, rfl, rfl, rfl, fun xs0 r0 hr0 avs obs has hobs γ w vs hv _ => ?_⟩
  cases has
  match vs, hv with
  | [], hv => exact hv.elim
  | _ :: _ :: _, hv => exact hv.2.elim
  | [v], hv =>
  obtain ⟨xs, hxs⟩ : ∃ xs : List (D 6), xs = xs0 := ⟨_, rfl⟩
  obtain ⟨r, hrr⟩ : ∃ r : List (D 6), r = r0 := ⟨_, rfl⟩
  have g0 : Rv (In γ.o [0]) w v xs := by rw [hxs]; exact hv.1.1
  have hr : app ([] : List (D 6)) xs = some r := by rw [hxs, hrr]; exact hr0
  subst hrr
  have hT := slr37.2
  refine enter (l := [v]) Try.func66 rfl Try.ntmps66 rfl ?_
  refine CW.sub (L' := [(0, v)]) ⟨rfl, trivial⟩ ?_
  refine CW.sr fun K1 hK1 => ?_
  refine WL.p (.slice none 0 0) rfl rfl ?_
  refine WL.nx hK1 ?_
  refine CW.seq fun K2 hK2 => ?_
  refine CW.sr fun K3 hK3 => ?_
  refine WL.p v rfl rfl ?_
  obtain ⟨a, m, q, rfl, hn⟩ := rvSlice g0
  refine WL.stepE (OW.isNil slr37.1 rfl) rfl ?_
  refine WL.nx hK3 ?_
  cases a with
  | none =>
    refine CW.cond (b := true) rfl (fun _ => ?_) (fun h => nomatch h)
    refine CW.sr fun K4 hK4 => ?_
    refine WL.p (.slice none 0 0) rfl rfl ?_
    refine WL.nx hK4 ?_
    rw [hn rfl] at hr
    obtain rfl := app_nil hr
    exact CW.rets (vs := [.slice none 0 0]) Try.results66 ⟨rfl, trivial⟩ ⟨_, rfl, end_own (n := 6) (e := 62) (q := 1000) (K := []) (M := []) (N := []) rfl rfl rfl (by simp) (by simp) (Evo.refl _ _ γ.o w) (Ow.nil _ _ _ _ _) (fun x hx => by simp at hx <;> omega)⟩ (fun _ _ h => h)
  | some a =>
    refine CW.cond (b := false) rfl (fun h => nomatch h) (fun _ => ?_)
    refine CW.skip ?_
    refine hK2 _ _ ?_
    refine CW.sr fun K5 hK5 => ?_
    refine WL.step (OW.buildSlice (o := γ.o) (k := 1000) (K := []) (xs := ([] : List (D 6))) slr37.1 hT rfl trivial rfl rfl) rfl ?_
    rintro v1 w1 ⟨o1, ev1, h1⟩
    have g0 := g0.evo ev1 rfl
    refine WL.p (.slice (some a) m q) rfl rfl ?_
    refine WL.step (OW.append (K := []) slr37.1 hT rfl rfl h1 (@Els.flat (D 6) _ flat6 _ _ _ _ _ g0.els) hr rfl) rfl ?_
    rintro v2 w2 ⟨o2, ev2, h2⟩
    refine WL.p v2 rfl rfl ?_
    refine WL.nx hK5 ?_
    exact CW.rets (vs := [v2]) Try.results66 ⟨rfl, trivial⟩ ⟨_, rfl, end_own (n := 6) (e := 62) (q := 1000) (K := []) (M := [1000]) (N := [1000]) rfl rfl rfl (by simp) (by simp) ((ev1.weaken (by simp) (by simp)).trans ev2) h2 (fun x hx => by simp at hx <;> omega)⟩ (fun _ _ h => h)

noncomputable def disconnect_Step_L1 (a0 : List
  Stage) (a1 : Progress) (a2 : List
  Int) : Int × List Work →
  Option
    (Int × List Work ⊕
      List
        Work) := fun x3 =>
  if decide (x3.1 < len a0) = true then
    Option.bind (idx a0 x3.1) fun x4 =>
      Option.bind (idx x3.2 x3.1) fun x5 =>
        Option.bind
          (if (x5.State != 1) = true then some x3.2
          else
            Option.bind
              (Option.bind (slices_Contains_int_int a2 x3.1) fun x6 =>
                if x6 = true then some (decide (x5.Tries < x4.Tries)) else some false)
              fun x7 =>
              Option.bind
                (if x7 = true then
                  Option.bind (idx x3.2 x3.1) fun x15 =>
                    Option.bind (setO x3.2 x3.1 (Work.mk x15.State (W (a1.Time + 1)) x15.Tries))
                      fun x16 =>
                      Option.bind (idx x16 x3.1) fun x17 =>
                        Option.bind (idx x16 x3.1) fun x18 =>
                          Option.bind (setO x16 x3.1 (Work.mk x18.State x18.Since (W (x17.Tries + 1))))
                            fun x19 => some x19
                else
                  Option.bind (slices_Contains_int_int a2 x3.1) fun x8 =>
                    Option.bind
                      (if x8 = true then
                        Option.bind (idx x3.2 x3.1) fun x12 =>
                          Option.bind (setO x3.2 x3.1 (Work.mk 3 x12.Since x12.Tries)) fun x13 =>
                            some x13
                      else
                        Option.bind
                          (if decide (W (x5.Since + x4.Ticks) ≤ W (a1.Time + 1)) = true then
                            Option.bind (idx x3.2 x3.1) fun x9 =>
                              Option.bind (setO x3.2 x3.1 (Work.mk 2 x9.Since x9.Tries)) fun x10 =>
                                some x10
                          else some x3.2)
                          fun x11 => some x11)
                      fun x14 => some x14)
                fun x20 => some x20)
          fun x21 => some (.inl (W (x3.1 + 1), x21))
  else some (.inr x3.2)
noncomputable def disconnect_Step (a0 : (List Stage)) (a1 : Progress) (a2 : (List Int)) : Option (Int × Int × (List Work)) :=
  Option.bind (disconnect_check a0 a1 a2) fun x1 =>
    if (x1 != 0) = true then some (0, x1, [])
    else
      Option.bind (slices_Clone_Work_Work a1.Works) fun x2 =>
        Option.bind (loopO (disconnect_Step_L1 a0 a1 a2) (0, x2)) fun x22 =>
          Option.bind (disconnect_begin a0 (Progress.mk (W (a1.Time + 1)) x22)) fun x23 =>
            some (W (a1.Time + 1), 0, x23)
noncomputable def c40 : Con D := ⟨40, [.lf (.sl 4), .lf (.int .i64), .lf (.sl 6), .lf (.sl 0)], [.lf (.int .i64), .lf (.int .i64), .lf (.sl 6)], [.agg [.h 0 [0]], .agg [.h 1 [], .h 2 [0]], .one (.h 3 [0])], [], [.agg [.h 0 [], .own 1000], .one (.h 1 [])], [(1000, .sl 6 62 2 [])], fun h => disconnect_Step h.1 ⟨h.2.1, h.2.2.1⟩ h.2.2.2⟩
theorem c40_ok : ConOk Try.prog T c40 := fn_ok (Φ := [c50, c58, c65, c66]) (rs := [.cell 6 39, .tmp 7]) (an := (.n none .o (.n none .o (.n none .o (.n none (.n none .o (.n none (.loop ⟨[.lf (.int .i64), .lf (.sl 6)], [(31, .one (.h 0 []))], [(3032, .sl 6 62 1 [])], [3032], 3600⟩ true [(.exit 0, ⟨[.lf (.sl 6)], [], [(3032, .sl 6 62 0 [])], [3032], 3600⟩)] (.n none .o (.n none .o (.n none (.n none (.n none .o (.n none .o (.n none (.n none .o (.n (some (true, [(.normal, ⟨[.lf (.sl 6)], [], [(3032, .sl 6 62 0 [])], [3032], 4818⟩)])) .o (.n none (.r (some (true, [(.normal, ⟨[.lf .bool], [(46, .one (.h 0 [])), (51, .one (.any)), (52, .one (.any)), (53, .one (.any)), (54, .one (.any)), (55, .one (.any)), (56, .one (.any)), (57, .one (.any))], [], [], 4818⟩)])) .nil) (.n (some (true, [(.normal, ⟨[.lf (.sl 6)], [], [(3032, .sl 6 62 0 [])], [3032], 4883⟩)])) .o (.n none .o (.n (some (true, [(.normal, ⟨[.lf (.sl 6)], [], [(3032, .sl 6 62 0 [])], [3032], 5139⟩)])) .o (.n none .o (.n (some (true, [(.normal, ⟨[.lf (.sl 6)], [], [(3032, .sl 6 62 0 [])], [3032], 5843⟩)])) .o .o)))))))) .o))) .o) .o)))) .o)) .o))))) pOk repOk (AllC.mem (⟨c50_ok, c58_ok, c65_ok, c66_ok, trivial⟩ : AllC _ _ [c50, c58, c65, c66])) hmix Try.call40 Try.func40 rfl rfl (by kernel_rfl) (fun h => by kernel_rfl)

noncomputable def dynposref31_Step_L1 (a0 : List
  Stage) (a2 : List
  Int) : Int × Int →
  Option
    (Int × Int ⊕
      Int ⊕
        Int ×
          Int ×
            List
              Work) := fun x3 =>
  if decide (x3.1 < len a2) = true then
    Option.bind (idx a2 x3.1) fun x4 =>
      Option.bind (dynposref31_in x4 0 (W (len a0 - 1))) fun x5 =>
        if (!x5) = true then some (.inr (.inr (0, 1, [])))
        else some (.inl (W (x3.1 + 1), x3.2))
  else some (.inr (.inl x3.2))
noncomputable def dynposref31_Step_L2 (a0 : List
  Stage) (a1 : Progress) (a2 : List
  Int) : Int × List Work →
  Option
    (Int × List Work ⊕
      List
        Work) := fun x9 =>
  if decide (x9.1 < len a1.Works) = true then
    Option.bind
      (Option.bind (idx a1.Works x9.1) fun x10 =>
        if (x10.State != 1) = true then some x9.2
        else
          Option.bind (idx a0 x9.1) fun x11 =>
            Option.bind
              (Option.bind (dynposref01_Has a2 x9.1) fun x12 =>
                if x12 = true then some (decide (x10.Tries < x11.Tries)) else some false)
              fun x13 =>
              Option.bind
                (if x13 = true then
                  Option.bind (idx x9.2 x9.1) fun x23 =>
                    Option.bind (idx x9.2 x9.1) fun x24 =>
                      Option.bind
                        (setO x9.2 x9.1
                          (Work.mk 1 (W (a1.Time + 1)) (W (x10.Tries + 1))))
                        fun x25 => some x25
                else
                  Option.bind (dynposref01_Has a2 x9.1) fun x14 =>
                    Option.bind
                      (if x14 = true then
                        Option.bind (idx x9.2 x9.1) fun x19 =>
                          Option.bind (idx x9.2 x9.1) fun x20 =>
                            Option.bind (setO x9.2 x9.1 (Work.mk 3 x20.Since x20.Tries)) fun x21 =>
                              some x21
                      else
                        Option.bind
                          (if decide (W (x10.Since + x11.Ticks) ≤ W (a1.Time + 1)) = true then
                            Option.bind (idx x9.2 x9.1) fun x15 =>
                              Option.bind (idx x9.2 x9.1) fun x16 =>
                                Option.bind (setO x9.2 x9.1 (Work.mk 2 x16.Since x16.Tries)) fun x17 =>
                                  some x17
                          else some x9.2)
                          fun x18 => some x18)
                      fun x22 => some x22)
                fun x26 => some x26)
      fun x27 => some (.inl (W (x9.1 + 1), x27))
  else some (.inr x9.2)
noncomputable def dynposref31_Step_L3 (a0 : List
  Stage) (a1 : Progress) (x28 : List
  Work) : Int × List Work →
  Option
    (Int × List Work ⊕
      List
        Work) := fun x29 =>
  if decide (x29.1 < len x28) = true then
    Option.bind (idx x29.2 x29.1) fun x30 =>
      Option.bind
        (if (x30.State == 0) = true then
          Option.bind (idx a0 x29.1) fun x31 => Option.bind (dynposref31_ready x31 x29.2) fun x32 => some x32
        else some false)
        fun x33 =>
        Option.bind
          (if x33 = true then
            Option.bind (idx x29.2 x29.1) fun x34 =>
              Option.bind (idx x29.2 x29.1) fun x35 =>
                Option.bind (setO x29.2 x29.1 (Work.mk 1 (W (a1.Time + 1)) 1))
                  fun x36 => some x36
          else some x29.2)
          fun x37 => some (.inl (W (x29.1 + 1), x37))
  else some (.inr x29.2)
noncomputable def dynposref31_Step (a0 : (List Stage)) (a1 : Progress) (a2 : (List Int)) : Option (Int × Int × (List Work)) :=
  Option.bind (dynposref31_Check a0) fun x1 =>
    if (x1 != 0) = true then some (0, x1, [])
    else
      Option.bind (dynposref31_Valid a0 a1) fun x2 =>
        if (!x2) = true then some (0, 67, [])
        else
          Option.bind (loopO (dynposref31_Step_L1 a0 a2) (0, 0)) fun x6 =>
            Sum.elim
              (fun x7 =>
                if (a1.Time == 2147483648) = true then some (0, 16, [])
                else
                  Option.bind (app [] a1.Works) fun x8 =>
                    Option.bind (loopO (dynposref31_Step_L2 a0 a1 a2) (0, x8)) fun x28 =>
                      Option.bind (loopO (dynposref31_Step_L3 a0 a1 x28) (0, x28)) fun x38 =>
                        some (W (a1.Time + 1), 0, x38))
              (fun x39 => some x39) x6
noncomputable def c41 : Con D := ⟨41, [.lf (.sl 4), .lf (.int .i64), .lf (.sl 6), .lf (.sl 0)], [.lf (.int .i64), .lf (.int .i64), .lf (.sl 6)], [.agg [.h 0 [0]], .agg [.h 1 [], .h 2 [0]], .one (.h 3 [0])], [], [.agg [.h 0 [], .own 1000], .one (.h 1 [])], [(1000, .sl 6 62 2 [0])], fun h => dynposref31_Step h.1 ⟨h.2.1, h.2.2.1⟩ h.2.2.2⟩
theorem c41_ok : ConOk Try.prog T c41 := fn_ok (Φ := [c20, c34, c55, c57, c61]) (rs := [.cell 6 39, .tmp 7]) (an := (.n none .o (.n none .o (.n none .o (.n none (.n none .o (.n none (.loop ⟨[.lf (.int .i64), .lf (.int .i64)], [(30, .one (.h 0 []))], [(2128, .box [.h 1 [], .nils])], [2128], 3088⟩ false [(.exit 0, ⟨[.lf (.int .i64)], [], [(2128, .box [.h 0 [], .nils])], [2128], 3088⟩)] .o) .o)) (.n none .o (.n none .o (.n none (.n none .o (.n none (.loop ⟨[.lf (.int .i64), .lf (.sl 6)], [(57, .one (.h 0 []))], [(3601, .sl 6 62 1 [0])], [3601], 4177⟩ true [(.exit 2, ⟨[.lf (.sl 6)], [], [(3601, .sl 6 62 0 [0])], [3601], 4177⟩)] (.n none .o (.n none .o (.n none (.n (some (true, [(.normal, ⟨[.lf (.sl 6)], [], [(3601, .sl 6 62 0 [0])], [3601], 4307⟩)])) (.n none .o (.n none .o (.n none .o (.n none (.n none (.r (some (true, [(.normal, ⟨[.lf .bool], [(70, .one (.h 0 [])), (75, .one (.any)), (76, .one (.any)), (77, .one (.any)), (78, .one (.any)), (79, .one (.any))], [], [], 5331⟩)])) .nil) (.n (some (true, [(.normal, ⟨[.lf (.sl 6)], [], [(3601, .sl 6 62 0 [0])], [3601], 5396⟩)])) .o (.n none .o (.n (some (true, [(.normal, ⟨[.lf (.sl 6)], [], [(3601, .sl 6 62 0 [0])], [3601], 5652⟩)])) .o (.n none .o (.n (some (true, [(.normal, ⟨[.lf (.sl 6)], [], [(3601, .sl 6 62 0 [0])], [3601], 6228⟩)])) .o .o)))))) .o)))) .o) .o)))) .o)) (.n none (.n none .o (.n none (.loop ⟨[.lf (.int .i64), .lf (.sl 6)], [(118, .one (.h 0 []))], [(3601, .sl 6 62 1 [0])], [3601], 4498⟩ true [(.exit 5, ⟨[.lf (.sl 6)], [], [(3601, .sl 6 62 0 [0])], [3601], 4498⟩)] (.n none .o (.n none .o (.n none (.n none (.n none .o (.n none (.r (some (true, [(.normal, ⟨[.lf .bool], [(127, .one (.any)), (128, .one (.any)), (129, .one (.any)), (130, .one (.any)), (131, .one (.any)), (132, .one (.any)), (133, .one (.any)), (134, .one (.any)), (135, .one (.h 0 []))], [], [], 5012⟩)])) .nil) (.n (some (true, [(.normal, ⟨[.lf (.sl 6)], [], [(3601, .sl 6 62 0 [0])], [3601], 5077⟩)])) .o .o))) .o) .o)))) .o)) .o))))))))) pOk repOk (AllC.mem (⟨c20_ok, c34_ok, c55_ok, c57_ok, c61_ok, trivial⟩ : AllC _ _ [c20, c34, c55, c57, c61])) hmix Try.call41 Try.func41 rfl rfl (by kernel_rfl) (fun h => by kernel_rfl)

end Rx
end Go.Proofs.Ytnpnaopnhgkapaa
