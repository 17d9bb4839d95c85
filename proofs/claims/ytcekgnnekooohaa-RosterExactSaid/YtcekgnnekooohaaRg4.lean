/- Plain functions, walks. Written by a program (wip/gen). -/
import Derived.Test.YtcekgnnekooohaaRt
import Derived.Test.YtcekgnnekooohaaRg2
import Derived.Test.YtcekgnnekooohaaRg3
set_option linter.unusedVariables false
set_option maxRecDepth 100000
namespace Go.Proofs.Ytcekgnnekooohaa
open Go Go.RowKit Dp
namespace Rx

noncomputable def dynposref19_Step (a0 : Board) (a1 : Table) (a2 : Power) (a3 : Int) (a4 : Int) (a5 : Roster) : Option (Int × Int × Int × (List Act)) :=
  Option.bind (dynposref15_State a0 a2) fun x1 =>
    if (x1 != 0) = true then some (0, 0, x1, [])
    else
      Option.bind
        (Option.bind (dynposref19_Valid a1) fun x2 =>
          if (!x2) = true then some true
          else
            if decide (a4 < 0) = true then some true
            else
              if decide (a4 > 2147483648) = true then some true
              else
                if decide (a5.High < (-1)) = true then some true
                else
                  if decide (a5.High > a4) = true then some true
                  else if decide (a5.Low < (-1)) = true then some true else some (decide (a5.Low > a4)))
        fun x3 =>
        if x3 = true then some (0, 0, 1, [])
        else
          Option.bind (if decide (a3 < 0) = true then some true else some (decide (a3 ≥ a0.Buses))) fun x4 =>
            if x4 = true then some (0, 0, 10, [])
            else
              Option.bind (dynposref19_Low a0 a1 a2 a3) fun x5 =>
                Option.bind (dynposref19_High a0 a1 a2 a3) fun x6 =>
                  Option.bind (dynposref19_since x6 a5.High a4) fun x7 =>
                    Option.bind (dynposref19_since x5.2 a5.Low a4) fun x8 =>
                      Option.bind (dynposref19_Next a0 a2 a3) fun x9 =>
                        Option.bind
                          (if decide (x7 ≥ 0) = true then
                            if decide (W (a4 - x7) ≥ a1.Delay) = true then some x9.2 else some false
                          else some false)
                          fun x10 =>
                          if x10 = true then
                            Option.bind (idx a2.Sources x9.1) fun x14 =>
                              if (x14.State == 0) = true then
                                some (x7, x8, 0, [Act.mk 3 x9.1 0])
                              else
                                if (x14.State == 2) = true then
                                  Option.bind (dynposref16_Leader a0 a2 a3) fun x15 =>
                                    Option.bind (dynposref15_Connected a0 a2 x15.1) fun x16 =>
                                      Option.bind (dynposref15_Find a0 2 x9.1) fun x17 =>
                                        Option.bind (idx x17 0) fun x18 =>
                                          some
                                            ((-1), x8, 0,
                                              [Act.mk 6 x9.1 x16.1,
                                                Act.mk 1 x18 0])
                                else some (x7, x8, 0, [])
                          else
                            Option.bind
                              (if decide (x8 ≥ 0) = true then some (decide (W (a4 - x8) ≥ a1.Delay))
                              else some false)
                              fun x11 =>
                              if x11 = true then
                                Option.bind (dynposref15_Find a0 2 x5.1) fun x12 =>
                                  Option.bind (idx x12 0) fun x13 =>
                                    some
                                      (x7, (-1), 0,
                                        [Act.mk 2 x13 0,
                                          Act.mk 4 x5.1 0])
                              else some (x7, x8, 0, [])
noncomputable def c20 : Con D := ⟨20, [.lf (.int .i64), .lf (.sl 4), .lf (.sl 5), .lf (.sl 6), .lf (.int .i64), .lf (.int .i64), .lf (.int .i64), .lf (.int .i64), .lf (.int .i64), .lf (.sl 1), .lf (.sl 8), .lf (.sl 0), .lf (.sl 9), .lf (.int .i64), .lf (.int .i64), .lf (.int .i64), .lf (.int .i64)], [.lf (.int .i64), .lf (.int .i64), .lf (.int .i64), .lf (.sl 14)], [.agg [.h 0 [], .h 1 [0], .h 2 [0], .h 3 [0], .h 4 [], .h 5 []], .agg [.h 6 [], .h 7 [], .h 8 []], .agg [.h 9 [0], .h 10 [0], .h 11 [0], .h 12 [0]], .one (.h 13 []), .one (.h 14 []), .agg [.h 15 [], .h 16 []]], [], [.agg [.h 0 [], .h 1 []], .one (.own 1000), .one (.h 2 [])], [(1000, .sl 14 72 3 [])], fun h => dynposref19_Step ⟨h.1, h.2.1, h.2.2.1, h.2.2.2.1, h.2.2.2.2.1, h.2.2.2.2.2.1⟩ ⟨h.2.2.2.2.2.2.1, h.2.2.2.2.2.2.2.1, h.2.2.2.2.2.2.2.2.1⟩ ⟨h.2.2.2.2.2.2.2.2.2.1, h.2.2.2.2.2.2.2.2.2.2.1, h.2.2.2.2.2.2.2.2.2.2.2.1, h.2.2.2.2.2.2.2.2.2.2.2.2.1⟩ h.2.2.2.2.2.2.2.2.2.2.2.2.2.1 h.2.2.2.2.2.2.2.2.2.2.2.2.2.2.1 ⟨h.2.2.2.2.2.2.2.2.2.2.2.2.2.2.2.1, h.2.2.2.2.2.2.2.2.2.2.2.2.2.2.2.2⟩⟩
theorem c20_ok : ConOk Try.prog T c20 := fn_ok (Φ := [c12, c14, c16, c18, c36, c40, c48, c49, c50]) (rs := [.cell 12 36, .tmp 13, .tmp 14]) (an := (.n none .o (.n none .o (.n none (.n none (.r (some (true, [(.normal, ⟨[.lf .bool], [(63, .one (.h 0 []))], [], [], 2896⟩)])) .nil) .o) (.n none (.n none (.r (some (true, [(.normal, ⟨[.lf .bool], [(72, .one (.h 0 []))], [], [], 2961⟩)])) .nil) .o) (.n none .o (.n none .o (.n none .o (.n none .o (.n none (.n none (.r (some (true, [(.normal, ⟨[.lf .bool], [(119, .one (.h 0 []))], [], [], 5394⟩)])) .nil) .o) (.n none (.n none (.r (some (true, [(.normal, ⟨[.lf .bool], [(172, .one (.h 0 []))], [], [], 5459⟩)])) .nil) .o) .o))))))))))) pOk repOk (AllC.mem (⟨c12_ok, c14_ok, c16_ok, c18_ok, c36_ok, c40_ok, c48_ok, c49_ok, c50_ok, trivial⟩ : AllC _ _ [c12, c14, c16, c18, c36, c40, c48, c49, c50])) hmix Try.call20 Try.func20 rfl rfl (by kernel_rfl) (fun h => by kernel_rfl)

noncomputable def dynposref18_Acts_L1 (a0 : List
  Act) (a1 : List
  Act) : Int →
  Option
    (Int ⊕
      Unit ⊕
        Bool) := fun x1 =>
  if decide (x1 < len a0) = true then
    Option.bind (idx a0 x1) fun x2 =>
      Option.bind (idx a1 x1) fun x3 =>
        if (!(x2.Kind == x3.Kind && (x2.Unit == x3.Unit && x2.Value == x3.Value))) = true then
          some (.inr (.inr false))
        else some (.inl (W (x1 + 1)))
  else some (.inr (.inl ()))
noncomputable def dynposref18_Acts (a0 : (List Act)) (a1 : (List Act)) : Option (Bool) :=
  if (len a0 != len a1) = true then some false
  else
    Option.bind (loopO (dynposref18_Acts_L1 a0 a1) 0) fun x4 =>
      Sum.elim (fun x5 => some true) (fun x6 => some x6) x4
noncomputable def c21 : Con D := ⟨21, [.lf (.sl 14), .lf (.sl 14)], [.lf .bool], [.one (.h 0 [0]), .one (.h 1 [0])], [], [.one (.h 0 [])], [], fun h => dynposref18_Acts h.1 h.2⟩
theorem c21_ok : ConOk Try.prog T c21 := fn_ok (Φ := []) (rs := [.tmp 4]) (an := (.n none .o (.n none .o (.n none (.n none .o (.n none (.loop ⟨[.lf (.int .i64)], [(13, .one (.h 0 []))], [], [], 2640⟩ false [(.exit 0, ⟨[], [], [], [], 2640⟩)] .o) .o)) .o)))) pOk repOk (AllC.mem (l := []) trivial) hmix Try.call21 Try.func21 rfl rfl (by kernel_rfl) (fun h => by kernel_rfl)

noncomputable def dynposref15_CopyV (a0 : Power) : Option ((List Bool) × (List Running) × (List Int) × (List Part) × (List Bool) × (List Running) × (List Int) × (List Part)) :=
  Option.bind (app [] a0.Closed) fun x1 =>
    Option.bind (app [] a0.Sources) fun x2 =>
      Option.bind (app [] a0.Limits) fun x3 =>
        Option.bind (app [] a0.Broken) fun x4 => some (a0.Closed, a0.Sources, a0.Limits, a0.Broken, x1, x2, x3, x4)
noncomputable def c25_1 : Con D := ⟨25, [.lf (.sl 1), .lf (.sl 8), .lf (.sl 0), .lf (.sl 9)], [.lf (.sl 1), .lf (.sl 8), .lf (.sl 0), .lf (.sl 9), .lf (.sl 1), .lf (.sl 8), .lf (.sl 0), .lf (.sl 9)], [.agg [.own 1000, .own 1001, .own 1002, .own 1003]], [(1000, .sl 1 4 0 [0]), (1001, .sl 8 70 1 [0]), (1002, .sl 0 3 2 [0]), (1003, .sl 9 80 3 [0])], [.agg [.own 1004, .own 1005, .own 1006, .own 1007]], [(1000, .sl 1 4 0 [0]), (1001, .sl 8 70 1 [0]), (1002, .sl 0 3 2 [0]), (1003, .sl 9 80 3 [0]), (1004, .sl 1 4 4 [0]), (1005, .sl 8 70 5 [0]), (1006, .sl 0 3 6 [0]), (1007, .sl 9 80 7 [0])], fun h => dynposref15_CopyV ⟨h.1, h.2.1, h.2.2.1, h.2.2.2⟩⟩
theorem c25_1_ok : ConOk Try.prog T c25_1 := fn_ok (Φ := []) (rs := [.cell 2 32]) (an := .o) pOk repOk (AllC.mem (l := []) trivial) hmix Try.call25 Try.func25 rfl rfl (by kernel_rfl) (fun h => by kernel_rfl)

noncomputable def dynposref16_follow_L2 (x1 : List Bool ×
  List Running ×
    List Int ×
      List Part ×
        List Bool ×
          List Running ×
            List Int ×
              List
                Part) (x4 : Island) : Int × List Running →
  Option
    (Int × List Running ⊕
      List
        Running) := fun x5 =>
  if decide (x5.1 < len x4.Sources) = true then
    Option.bind (idx x4.Sources x5.1) fun x6 =>
      Option.bind (idx x4.Sources 0) fun x7 =>
        Option.bind (idx x1.2.1 x7) fun x8 =>
          Option.bind (idx x4.Sources 0) fun x9 =>
            Option.bind (idx x1.2.1 x9) fun x10 =>
              Option.bind (idx x5.2 x6) fun x11 =>
                Option.bind (idx x5.2 x6) fun x12 =>
                  Option.bind (setO x5.2 x6 (Running.mk x12.State x12.Since x8.Frequency x12.Phase)) fun x13 =>
                    Option.bind (idx x13 x6) fun x14 =>
                      Option.bind (idx x13 x6) fun x15 =>
                        Option.bind (setO x13 x6 (Running.mk x15.State x15.Since x15.Frequency x10.Phase)) fun x16 =>
                          some (.inl (W (x5.1 + 1), x16))
  else some (.inr x5.2)
noncomputable def dynposref16_follow_L1 (x1 : List Bool ×
  List Running ×
    List Int ×
      List Part ×
        List Bool ×
          List Running ×
            List Int ×
              List
                Part) (x2 : List
  Island) : Int × List Running →
  Option
    (Int × List Running ⊕
      List
        Running) := fun x3 =>
  if decide (x3.1 < len x2) = true then
    Option.bind (idx x2 x3.1) fun x4 =>
      Option.bind (loopO (dynposref16_follow_L2 x1 x4) (0, x3.2)) fun x17 =>
        some (.inl (W (x3.1 + 1), x17))
  else some (.inr x3.2)
noncomputable def dynposref16_follow (a0 : Board) (a1 : Power) : Option ((List Breaker) × (List Source) × (List Consumer) × (List Bool) × (List Running) × (List Int) × (List Part) × (List Bool) × (List Running) × (List Int) × (List Part)) :=
  Option.bind (dynposref15_CopyV a1) fun x1 =>
    Option.bind (dynposref15_Islands a0 (Power.mk x1.1 x1.2.1 x1.2.2.1 x1.2.2.2.1)) fun x2 =>
      Option.bind (loopO (dynposref16_follow_L1 x1 x2) (0, x1.2.2.2.2.2.1)) fun x18 =>
        some
          (a0.Breakers, a0.Sources, a0.Consumers, x1.1, x1.2.1, x1.2.2.1, x1.2.2.2.1,
            x1.2.2.2.2.1, x18, x1.2.2.2.2.2.2.1, x1.2.2.2.2.2.2.2)
noncomputable def c76_2 : Con D := ⟨76, [.lf (.int .i64), .lf (.sl 4), .lf (.sl 5), .lf (.sl 6), .lf (.int .i64), .lf (.int .i64), .lf (.sl 1), .lf (.sl 8), .lf (.sl 0), .lf (.sl 9)], [.lf (.sl 4), .lf (.sl 5), .lf (.sl 6), .lf (.sl 1), .lf (.sl 8), .lf (.sl 0), .lf (.sl 9), .lf (.sl 1), .lf (.sl 8), .lf (.sl 0), .lf (.sl 9)], [.agg [.h 0 [], .own 1000, .own 1001, .own 1002, .h 4 [], .h 5 []], .agg [.own 1003, .own 1004, .own 1005, .own 1006]], [(1000, .sl 4 66 1 [0]), (1001, .sl 5 68 2 [0]), (1002, .sl 6 64 3 [0]), (1003, .sl 1 4 6 [0]), (1004, .sl 8 70 7 [0]), (1005, .sl 0 3 8 [0]), (1006, .sl 9 80 9 [0])], [.agg [.own 1007, .own 1008, .own 1009, .own 1010]], [(1000, .sl 4 66 0 [0]), (1001, .sl 5 68 1 [0]), (1002, .sl 6 64 2 [0]), (1003, .sl 1 4 3 [0]), (1004, .sl 8 70 4 [0]), (1005, .sl 0 3 5 [0]), (1006, .sl 9 80 6 [0]), (1007, .sl 1 4 7 [0]), (1008, .sl 8 70 8 [0]), (1009, .sl 0 3 9 [0]), (1010, .sl 9 80 10 [0])], fun h => dynposref16_follow ⟨h.1, h.2.1, h.2.2.1, h.2.2.2.1, h.2.2.2.2.1, h.2.2.2.2.2.1⟩ ⟨h.2.2.2.2.2.2.1, h.2.2.2.2.2.2.2.1, h.2.2.2.2.2.2.2.2.1, h.2.2.2.2.2.2.2.2.2⟩⟩
theorem c76_2_ok : ConOk Try.prog T c76_2 := fn_ok (Φ := [c25_1, c94]) (rs := [.cell 4 32]) (an := (.n none .o (.n none .o (.n none (.n none .o (.n none (.loop ⟨[.lf (.int .i64), .lf (.sl 8)], [(16, .one (.h 0 []))], [(2265, .sl 8 70 1 [0])], [2265], 2832⟩ true [(.exit 0, ⟨[.lf (.sl 8)], [], [(2265, .sl 8 70 0 [0])], [2265], 2832⟩)] (.n none .o (.n none .o (.n none (.n none (.n none .o (.n none .o (.n none (.loop ⟨[.lf (.int .i64), .lf (.sl 8)], [(23, .one (.h 0 []))], [(2265, .sl 8 70 1 [0])], [2265], 3474⟩ true [(.exit 2, ⟨[.lf (.sl 8)], [], [(2265, .sl 8 70 0 [0])], [2265], 3474⟩)] .o) .o))) .o) .o)))) .o)) .o)))) pOk repOk (AllC.mem (⟨c25_1_ok, c94_ok, trivial⟩ : AllC _ _ [c25_1, c94])) hmix Try.call76 Try.func76 rfl rfl (by kernel_rfl) (fun h => by kernel_rfl)

noncomputable def dynposref16_Follow (a0 : Board) (a1 : Power) : Option (Int × (List Breaker) × (List Source) × (List Consumer) × (List Bool) × (List Running) × (List Int) × (List Part) × (List Bool) × (List Running) × (List Int) × (List Part)) :=
  Option.bind (dynposref15_State a0 a1) fun x1 =>
    if (x1 != 0) = true then
      some (x1, a0.Breakers, a0.Sources, a0.Consumers, a1.Closed, a1.Sources, a1.Limits, a1.Broken, [], [], [], [])
    else
      Option.bind (dynposref16_follow a0 a1) fun x2 =>
        some
          (0, x2.1, x2.2.1, x2.2.2.1, x2.2.2.2.1, x2.2.2.2.2.1,
            x2.2.2.2.2.2.1, x2.2.2.2.2.2.2.1, x2.2.2.2.2.2.2.2.1,
            x2.2.2.2.2.2.2.2.2.1, x2.2.2.2.2.2.2.2.2.2.1,
            x2.2.2.2.2.2.2.2.2.2.2)
noncomputable def c52_2 : Con D := ⟨52, [.lf (.int .i64), .lf (.sl 4), .lf (.sl 5), .lf (.sl 6), .lf (.int .i64), .lf (.int .i64), .lf (.sl 1), .lf (.sl 8), .lf (.sl 0), .lf (.sl 9)], [.lf (.int .i64), .lf (.sl 4), .lf (.sl 5), .lf (.sl 6), .lf (.sl 1), .lf (.sl 8), .lf (.sl 0), .lf (.sl 9), .lf (.sl 1), .lf (.sl 8), .lf (.sl 0), .lf (.sl 9)], [.agg [.h 0 [], .own 1000, .own 1001, .own 1002, .h 4 [], .h 5 []], .agg [.own 1003, .own 1004, .own 1005, .own 1006]], [(1000, .sl 4 66 1 [0]), (1001, .sl 5 68 2 [0]), (1002, .sl 6 64 3 [0]), (1003, .sl 1 4 6 [0]), (1004, .sl 8 70 7 [0]), (1005, .sl 0 3 8 [0]), (1006, .sl 9 80 9 [0])], [.agg [.own 1007, .own 1008, .own 1009, .own 1010], .one (.h 0 [])], [(1000, .sl 4 66 1 [0]), (1001, .sl 5 68 2 [0]), (1002, .sl 6 64 3 [0]), (1003, .sl 1 4 4 [0]), (1004, .sl 8 70 5 [0]), (1005, .sl 0 3 6 [0]), (1006, .sl 9 80 7 [0]), (1007, .sl 1 4 8 [0]), (1008, .sl 8 70 9 [0]), (1009, .sl 0 3 10 [0]), (1010, .sl 9 80 11 [0])], fun h => dynposref16_Follow ⟨h.1, h.2.1, h.2.2.1, h.2.2.2.1, h.2.2.2.2.1, h.2.2.2.2.2.1⟩ ⟨h.2.2.2.2.2.2.1, h.2.2.2.2.2.2.2.1, h.2.2.2.2.2.2.2.2.1, h.2.2.2.2.2.2.2.2.2⟩⟩
theorem c52_2_ok : ConOk Try.prog T c52_2 := fn_ok (Φ := [c48, c76_2]) (rs := [.cell 4 32, .tmp 5]) (an := .o) pOk repOk (AllC.mem (⟨c48_ok, c76_2_ok, trivial⟩ : AllC _ _ [c48, c76_2])) hmix Try.call52 Try.func52 rfl rfl (by kernel_rfl) (fun h => by kernel_rfl)

noncomputable def Src_Followed (a0 : Src) (a1 : Board) : Option ((List Int) × Int × (List Breaker) × (List Source) × (List Consumer) × (List Bool) × (List Running) × (List Int) × (List Part)) :=
  Option.bind (Src_Power a0 a1) fun x1 =>
    Option.bind
      (dynposref16_Follow
        (Board.mk a1.Buses x1.2.2.1 x1.2.2.2.1 x1.2.2.2.2.1 a1.Phase a1.Frequency)
        (Power.mk x1.2.2.2.2.2.1 x1.2.2.2.2.2.2.1 x1.2.2.2.2.2.2.2.1
          x1.2.2.2.2.2.2.2.2))
      fun x2 =>
      some
        (x1.1, x1.2.1, x2.2.1, x2.2.2.1, x2.2.2.2.1, x2.2.2.2.2.2.2.2.2.1,
          x2.2.2.2.2.2.2.2.2.2.1, x2.2.2.2.2.2.2.2.2.2.2.1,
          x2.2.2.2.2.2.2.2.2.2.2.2)
noncomputable def c24_1 : Con D := ⟨24, [.lf (.sl 0), .lf (.int .i64), .lf (.int .i64), .lf (.sl 4), .lf (.sl 5), .lf (.sl 6), .lf (.int .i64), .lf (.int .i64)], [.lf (.sl 0), .lf (.int .i64), .lf (.sl 4), .lf (.sl 5), .lf (.sl 6), .lf (.sl 1), .lf (.sl 8), .lf (.sl 0), .lf (.sl 9)], [.one (.ptr 1000 0), .agg [.h 2 [], .own 1001, .own 1002, .own 1003, .h 6 [], .h 7 []]], [(1000, .box [.h 0 [0], .h 1 []]), (1001, .sl 4 66 3 [0]), (1002, .sl 5 68 4 [0]), (1003, .sl 6 64 5 [0])], [.agg [.own 1004, .own 1005, .own 1006, .own 1007]], [(1000, .box [.h 0 [0], .h 1 []]), (1001, .sl 4 66 2 [0]), (1002, .sl 5 68 3 [0]), (1003, .sl 6 64 4 [0]), (1004, .sl 1 4 5 [0]), (1005, .sl 8 70 6 [0]), (1006, .sl 0 3 7 [0]), (1007, .sl 9 80 8 [0])], fun h => Src_Followed ⟨h.1, h.2.1⟩ ⟨h.2.2.1, h.2.2.2.1, h.2.2.2.2.1, h.2.2.2.2.2.1, h.2.2.2.2.2.2.1, h.2.2.2.2.2.2.2⟩⟩
theorem c24_1_ok : ConOk Try.prog T c24_1 := fn_ok (Φ := [c52_2, c53_1]) (rs := [.cell 4 32]) (an := .o) pOk repOk (AllC.mem (⟨c52_2_ok, c53_1_ok, trivial⟩ : AllC _ _ [c52_2, c53_1])) hmix Try.call24 Try.func24 rfl rfl (by kernel_rfl) (fun h => by kernel_rfl)

noncomputable def dynposlaw19_world (a0 : Src) : Option (Int × Int × Int × Int × Int × Int × (List Int) × Int × (List Breaker) × (List Source) × (List Consumer) × (List Bool) × (List Running) × (List Int) × (List Part)) :=
  Option.bind (Src_Board a0) fun x1 =>
    Option.bind (Src_Table (Src.mk x1.2.2.2.1 x1.2.2.2.2.1)) fun x2 =>
      Option.bind
        (Src_Followed (Src.mk x2.2.2.2.1 x2.2.2.2.2)
          (Board.mk x1.1 x1.2.2.2.2.2.1 x1.2.2.2.2.2.2.1 x1.2.2.2.2.2.2.2
            x1.2.1 x1.2.2.1))
        fun x3 =>
        some
          (x1.1, x1.2.1, x1.2.2.1, x2.1, x2.2.1, x2.2.2.1, x3.1, x3.2.1, x3.2.2.1,
            x3.2.2.2.1, x3.2.2.2.2.1, x3.2.2.2.2.2.1, x3.2.2.2.2.2.2.1,
            x3.2.2.2.2.2.2.2.1, x3.2.2.2.2.2.2.2.2)
noncomputable def c7 : Con D := ⟨7, [.lf (.sl 0), .lf (.int .i64)], [.lf (.int .i64), .lf (.int .i64), .lf (.int .i64), .lf (.int .i64), .lf (.int .i64), .lf (.int .i64), .lf (.sl 0), .lf (.int .i64), .lf (.sl 4), .lf (.sl 5), .lf (.sl 6), .lf (.sl 1), .lf (.sl 8), .lf (.sl 0), .lf (.sl 9)], [.one (.ptr 1000 0)], [(1000, .box [.h 0 [0], .h 1 []])], [.agg [.h 0 [], .own 1001, .own 1002, .own 1003, .h 1 [], .h 2 []], .agg [.h 3 [], .h 4 [], .h 5 []], .agg [.own 1004, .own 1005, .own 1006, .own 1007]], [(1000, .box [.h 6 [0, 1], .h 7 []]), (1001, .sl 4 66 8 [0, 1]), (1002, .sl 5 68 9 [0, 1]), (1003, .sl 6 64 10 [0, 1]), (1004, .sl 1 4 11 [0, 1]), (1005, .sl 8 70 12 [0, 1]), (1006, .sl 0 3 13 [0, 1]), (1007, .sl 9 80 14 [0, 1])], fun h => dynposlaw19_world ⟨h.1, h.2⟩⟩
theorem c7_ok : ConOk Try.prog T c7 := fn_ok (Φ := [c22, c23, c24_1]) (rs := [.cell 2 27, .cell 3 34, .cell 4 32]) (an := .o) pOk repOk (AllC.mem (⟨c22_ok, c23_ok, c24_1_ok, trivial⟩ : AllC _ _ [c22, c23, c24_1])) hmix Try.call7 Try.func7 rfl rfl (by kernel_rfl) (fun h => by kernel_rfl)

noncomputable def Src_BentPower_v1_L1 (x1 : List Bool ×
  List Running ×
    List Int ×
      List Part ×
        List Bool ×
          List Running ×
            List Int ×
              List
                Part) : Int × List Bool →
  Option
    (Int × List Bool ⊕
      List
        Bool) := fun x3 =>
  if decide (x3.1 < len x1.2.2.2.2.1) = true then
    Option.bind (idx x3.2 x3.1) fun x4 =>
      Option.bind (idx x3.2 x3.1) fun x5 =>
        Option.bind (setO x3.2 x3.1 true) fun x6 => some (.inl (W (x3.1 + 1), x6))
  else some (.inr x3.2)
noncomputable def Src_BentPower_v1 (a0 : Src) (a1 : Power) : Option ((List Int) × Int × (List Bool) × (List Running) × (List Int) × (List Part) × (List Bool) × (List Running) × (List Int) × (List Part)) :=
  Option.bind (dynposref15_CopyV a1) fun x1 =>
    Option.bind (Src_N a0 6) fun x2 =>
      Option.bind
        (if (x2.1 == 0) = true then
          Option.bind (app x1.2.2.2.2.1 [true]) fun x33 =>
            some
              (x2.2.1, x2.2.2, x1.2.2.2.2.2.1, x1.2.2.2.2.2.2.1, x33,
                x1.2.2.2.2.2.2.2)
        else
          Option.bind
            (if (x2.1 == 1) = true then
              Option.bind
                (if decide (len x1.2.2.2.2.2.1 > 0) = true then
                  Option.bind (Src_N (Src.mk x2.2.1 x2.2.2) (len x1.2.2.2.2.2.1)) fun x26 =>
                    Option.bind (Src_Range (Src.mk x26.2.1 x26.2.2) (-1) 5) fun x27 =>
                      Option.bind (idx x1.2.2.2.2.2.1 x26.1) fun x28 =>
                        Option.bind (idx x1.2.2.2.2.2.1 x26.1) fun x29 =>
                          Option.bind
                            (setO x1.2.2.2.2.2.1 x26.1
                              (Running.mk x27.1 x29.Since x29.Frequency x29.Phase))
                            fun x30 => some (x27.2.1, x27.2.2, x30)
                else some (x2.2.1, x2.2.2, x1.2.2.2.2.2.1))
                fun x31 =>
                some
                  (x31.1, x31.2.1, x1.2.2.2.2.1, x31.2.2, x1.2.2.2.2.2.2.1,
                    x1.2.2.2.2.2.2.2)
            else
              Option.bind
                (if (x2.1 == 2) = true then
                  Option.bind
                    (if decide (len x1.2.2.2.2.2.1 > 0) = true then
                      Option.bind (Src_N (Src.mk x2.2.1 x2.2.2) (len x1.2.2.2.2.2.1)) fun x19 =>
                        Option.bind (Src_Odd (Src.mk x19.2.1 x19.2.2)) fun x20 =>
                          Option.bind (idx x1.2.2.2.2.2.1 x19.1) fun x21 =>
                            Option.bind (idx x1.2.2.2.2.2.1 x19.1) fun x22 =>
                              Option.bind
                                (setO x1.2.2.2.2.2.1 x19.1
                                  (Running.mk x22.State x22.Since x22.Frequency x20.1))
                                fun x23 => some (x20.2.1, x20.2.2, x23)
                    else some (x2.2.1, x2.2.2, x1.2.2.2.2.2.1))
                    fun x24 =>
                    some
                      (x24.1, x24.2.1, x1.2.2.2.2.1, x24.2.2, x1.2.2.2.2.2.2.1,
                        x1.2.2.2.2.2.2.2)
                else
                  Option.bind
                    (if (x2.1 == 3) = true then
                      Option.bind
                        (if decide (len x1.2.2.2.2.2.2.1 > 0) = true then
                          Option.bind (Src_N (Src.mk x2.2.1 x2.2.2) (len x1.2.2.2.2.2.2.1))
                            fun x12 =>
                            Option.bind (Src_Odd (Src.mk x12.2.1 x12.2.2)) fun x13 =>
                              Option.bind (idx x1.2.2.2.2.2.2.1 x12.1) fun x14 =>
                                Option.bind (idx x1.2.2.2.2.2.2.1 x12.1) fun x15 =>
                                  Option.bind (setO x1.2.2.2.2.2.2.1 x12.1 x13.1) fun x16 =>
                                    some (x13.2.1, x13.2.2, x16)
                        else some (x2.2.1, x2.2.2, x1.2.2.2.2.2.2.1))
                        fun x17 =>
                        some (x17.1, x17.2.1, x1.2.2.2.2.1, x17.2.2, x1.2.2.2.2.2.2.2)
                    else
                      Option.bind
                        (if (x2.1 == 4) = true then
                          Option.bind (Src_Range (Src.mk x2.2.1 x2.2.2) 0 5) fun x8 =>
                            Option.bind (Src_Range (Src.mk x8.2.1 x8.2.2) (-1) 5)
                              fun x9 =>
                              Option.bind (app x1.2.2.2.2.2.2.2 [Part.mk x8.1 x9.1]) fun x10 =>
                                some (x9.2.1, x9.2.2, x1.2.2.2.2.1, x10)
                        else
                          Option.bind (loopO (Src_BentPower_v1_L1 x1) (0, x1.2.2.2.2.1)) fun x7 =>
                            some (x2.2.1, x2.2.2, x7, x1.2.2.2.2.2.2.2))
                        fun x11 =>
                        some (x11.1, x11.2.1, x11.2.2.1, x1.2.2.2.2.2.2.1, x11.2.2.2))
                    fun x18 =>
                    some
                      (x18.1, x18.2.1, x18.2.2.1, x1.2.2.2.2.2.1, x18.2.2.2.1,
                        x18.2.2.2.2))
                fun x25 =>
                some
                  (x25.1, x25.2.1, x25.2.2.1, x25.2.2.2.1, x25.2.2.2.2.1,
                    x25.2.2.2.2.2))
            fun x32 =>
            some
              (x32.1, x32.2.1, x32.2.2.2.1, x32.2.2.2.2.1, x32.2.2.1,
                x32.2.2.2.2.2))
        fun x34 =>
        some
          (x34.1, x34.2.1, x1.1, x1.2.1, x1.2.2.1, x1.2.2.2.1, x34.2.2.2.2.1,
            x34.2.2.1, x34.2.2.2.1, x34.2.2.2.2.2)
noncomputable def c8_1 : Con D := ⟨8, [.lf (.sl 0), .lf (.int .i64), .lf (.sl 1), .lf (.sl 8), .lf (.sl 0), .lf (.sl 9)], [.lf (.sl 0), .lf (.int .i64), .lf (.sl 1), .lf (.sl 8), .lf (.sl 0), .lf (.sl 9), .lf (.sl 1), .lf (.sl 8), .lf (.sl 0), .lf (.sl 9)], [.one (.ptr 1000 0), .agg [.own 1001, .own 1002, .own 1003, .own 1004]], [(1000, .box [.h 0 [0], .h 1 []]), (1001, .sl 1 4 2 [0]), (1002, .sl 8 70 3 [0]), (1003, .sl 0 3 4 [0]), (1004, .sl 9 80 5 [0])], [.agg [.own 1005, .own 1006, .own 1007, .own 1008]], [(1000, .box [.h 0 [0], .h 1 []]), (1001, .sl 1 4 2 [0]), (1002, .sl 8 70 3 [0]), (1003, .sl 0 3 4 [0]), (1004, .sl 9 80 5 [0]), (1005, .sl 1 4 6 [0]), (1006, .sl 8 70 7 [0]), (1007, .sl 0 3 8 [0]), (1008, .sl 9 80 9 [0])], fun h => Src_BentPower_v1 ⟨h.1, h.2.1⟩ ⟨h.2.2.1, h.2.2.2.1, h.2.2.2.2.1, h.2.2.2.2.2⟩⟩
theorem c8_1_ok : ConOk Try.prog T c8_1 := fn_ok (Φ := [c9, c10, c25_1, c26]) (rs := [.cell 4 32]) (an := (.n none .o (.n none .o (.n none (.n none .o (.n none (.n none .o (.n (some (true, [(.normal, ⟨[.lf (.sl 0), .lf (.int .i64), .lf (.sl 8), .lf (.sl 0), .lf (.sl 1), .lf (.sl 9)], [], [(1000, .box [.h 0 [0], .h 1 []]), (2201, .sl 8 70 2 [0]), (2202, .sl 0 3 3 [0]), (2256, .box [.own 2640, .own 2201, .own 2202, .own 2641]), (2640, .sl 1 4 4 [0]), (2641, .sl 9 80 5 [0])], [1000, 2200, 2201, 2202, 2203, 2256], 2704⟩)])) .o (.n none .o (.n (some (true, [(.normal, ⟨[.lf (.sl 0), .lf (.int .i64), .lf (.sl 1), .lf (.sl 8), .lf (.sl 0), .lf (.sl 9)], [], [(1000, .box [.h 0 [0], .h 1 []]), (2200, .sl 1 4 2 [0]), (2201, .sl 8 70 3 [0]), (2202, .sl 0 3 4 [0]), (2256, .box [.own 2200, .own 2201, .own 2202, .own 2768]), (2768, .sl 9 80 5 [0])], [1000, 2200, 2201, 2202, 2203, 2256], 2832⟩)])) (.n none .o (.n (some (true, [(.normal, ⟨[.lf (.sl 0), .lf (.int .i64), .lf (.sl 8)], [], [(1000, .box [.h 0 [0], .h 1 []]), (2201, .sl 8 70 2 [0])], [1000, 2201], 3088⟩)])) .o .o)) (.n none .o (.n (some (true, [(.normal, ⟨[.lf (.sl 0), .lf (.int .i64), .lf (.sl 1), .lf (.sl 8), .lf (.sl 0), .lf (.sl 9)], [], [(1000, .box [.h 0 [0], .h 1 []]), (2200, .sl 1 4 2 [0]), (2201, .sl 8 70 3 [0]), (2202, .sl 0 3 4 [0]), (2256, .box [.own 2200, .own 2201, .own 2202, .own 2896]), (2896, .sl 9 80 5 [0])], [1000, 2200, 2201, 2202, 2203, 2256], 2960⟩)])) (.n none .o (.n (some (true, [(.normal, ⟨[.lf (.sl 0), .lf (.int .i64), .lf (.sl 8)], [], [(1000, .box [.h 0 [0], .h 1 []]), (2201, .sl 8 70 2 [0])], [1000, 2201], 3216⟩)])) .o .o)) (.n none .o (.n (some (true, [(.normal, ⟨[.lf (.sl 0), .lf (.int .i64), .lf (.sl 1), .lf (.sl 0), .lf (.sl 9)], [], [(1000, .box [.h 0 [0], .h 1 []]), (2200, .sl 1 4 2 [0]), (2202, .sl 0 3 3 [0]), (2256, .box [.own 2200, .own 2201, .own 2202, .own 3024]), (3024, .sl 9 80 4 [0])], [1000, 2200, 2202, 2203, 2256], 3088⟩)])) (.n none .o (.n (some (true, [(.normal, ⟨[.lf (.sl 0), .lf (.int .i64), .lf (.sl 0)], [], [(1000, .box [.h 0 [0], .h 1 []]), (2202, .sl 0 3 2 [0])], [1000, 2202], 3344⟩)])) .o .o)) (.n none .o (.n (some (true, [(.normal, ⟨[.lf (.sl 0), .lf (.int .i64), .lf (.sl 1), .lf (.sl 9)], [], [(1000, .box [.h 0 [0], .h 1 []]), (2200, .sl 1 4 2 [0]), (2256, .box [.own 2200, .own 2201, .own 2202, .own 3152]), (3152, .sl 9 80 3 [0])], [1000, 2200, 2203, 2256], 3216⟩)])) .o (.n none .o (.n none (.loop ⟨[.lf (.int .i64), .lf (.sl 1)], [(14, .one (.h 0 []))], [(2200, .sl 1 4 1 [0])], [2200], 3472⟩ true [(.exit 1, ⟨[.lf (.sl 1)], [], [(2200, .sl 1 4 0 [0])], [2200], 3472⟩)] .o) .o)))))))))))) .o)) .o)))) pOk repOk (AllC.mem (⟨c9_ok, c10_ok, c25_1_ok, c26_ok, trivial⟩ : AllC _ _ [c9, c10, c25_1, c26])) hmix Try.call8 Try.func8 rfl rfl (by kernel_rfl) (fun h => by kernel_rfl)

noncomputable def dynposref15_Copy_v2 (a0 : Power) : Option ((List Running) × (List Int) × (List Part) × (List Bool) × (List Running) × (List Int) × (List Part)) :=
  Option.bind (app [] a0.Closed) fun x1 =>
    Option.bind (app [] a0.Sources) fun x2 =>
      Option.bind (app [] a0.Limits) fun x3 =>
        Option.bind (app [] a0.Broken) fun x4 => some (a0.Sources, a0.Limits, a0.Broken, x1, x2, x3, x4)
noncomputable def c25_2 : Con D := ⟨25, [.lf (.sl 1), .lf (.sl 8), .lf (.sl 0), .lf (.sl 9)], [.lf (.sl 8), .lf (.sl 0), .lf (.sl 9), .lf (.sl 1), .lf (.sl 8), .lf (.sl 0), .lf (.sl 9)], [.agg [.h 0 [0], .own 1000, .own 1001, .own 1002]], [(1000, .sl 8 70 1 [0]), (1001, .sl 0 3 2 [0]), (1002, .sl 9 80 3 [0])], [.agg [.own 1003, .own 1004, .own 1005, .own 1006]], [(1000, .sl 8 70 0 [0]), (1001, .sl 0 3 1 [0]), (1002, .sl 9 80 2 [0]), (1003, .sl 1 4 3 [0]), (1004, .sl 8 70 4 [0]), (1005, .sl 0 3 5 [0]), (1006, .sl 9 80 6 [0])], fun h => dynposref15_Copy_v2 ⟨h.1, h.2.1, h.2.2.1, h.2.2.2⟩⟩
theorem c25_2_ok : ConOk Try.prog T c25_2 := fn_ok (Φ := []) (rs := [.cell 2 32]) (an := .o) pOk repOk (AllC.mem (l := []) trivial) hmix Try.call25 Try.func25 rfl rfl (by kernel_rfl) (fun h => by kernel_rfl)

noncomputable def Src_BentPower_v2_L1 (x1 : List Running ×
  List Int ×
    List Part ×
      List Bool ×
        List Running ×
          List Int ×
            List
              Part) : Int × List Bool →
  Option
    (Int × List Bool ⊕
      List
        Bool) := fun x3 =>
  if decide (x3.1 < len x1.2.2.2.1) = true then
    Option.bind (idx x3.2 x3.1) fun x4 =>
      Option.bind (idx x3.2 x3.1) fun x5 =>
        Option.bind (setO x3.2 x3.1 true) fun x6 => some (.inl (W (x3.1 + 1), x6))
  else some (.inr x3.2)
noncomputable def Src_BentPower_v2 (a0 : Src) (a1 : Power) : Option ((List Int) × Int × (List Running) × (List Int) × (List Part) × (List Bool) × (List Running) × (List Int) × (List Part)) :=
  Option.bind (dynposref15_Copy_v2 a1) fun x1 =>
    Option.bind (Src_N a0 6) fun x2 =>
      Option.bind
        (if (x2.1 == 0) = true then
          Option.bind (app x1.2.2.2.1 [true]) fun x33 =>
            some
              (x2.2.1, x2.2.2, x1.2.2.2.2.1, x1.2.2.2.2.2.1, x33,
                x1.2.2.2.2.2.2)
        else
          Option.bind
            (if (x2.1 == 1) = true then
              Option.bind
                (if decide (len x1.2.2.2.2.1 > 0) = true then
                  Option.bind (Src_N (Src.mk x2.2.1 x2.2.2) (len x1.2.2.2.2.1)) fun x26 =>
                    Option.bind (Src_Range (Src.mk x26.2.1 x26.2.2) (-1) 5) fun x27 =>
                      Option.bind (idx x1.2.2.2.2.1 x26.1) fun x28 =>
                        Option.bind (idx x1.2.2.2.2.1 x26.1) fun x29 =>
                          Option.bind
                            (setO x1.2.2.2.2.1 x26.1 (Running.mk x27.1 x29.Since x29.Frequency x29.Phase))
                            fun x30 => some (x27.2.1, x27.2.2, x30)
                else some (x2.2.1, x2.2.2, x1.2.2.2.2.1))
                fun x31 =>
                some
                  (x31.1, x31.2.1, x1.2.2.2.1, x31.2.2, x1.2.2.2.2.2.1,
                    x1.2.2.2.2.2.2)
            else
              Option.bind
                (if (x2.1 == 2) = true then
                  Option.bind
                    (if decide (len x1.2.2.2.2.1 > 0) = true then
                      Option.bind (Src_N (Src.mk x2.2.1 x2.2.2) (len x1.2.2.2.2.1)) fun x19 =>
                        Option.bind (Src_Odd (Src.mk x19.2.1 x19.2.2)) fun x20 =>
                          Option.bind (idx x1.2.2.2.2.1 x19.1) fun x21 =>
                            Option.bind (idx x1.2.2.2.2.1 x19.1) fun x22 =>
                              Option.bind
                                (setO x1.2.2.2.2.1 x19.1
                                  (Running.mk x22.State x22.Since x22.Frequency x20.1))
                                fun x23 => some (x20.2.1, x20.2.2, x23)
                    else some (x2.2.1, x2.2.2, x1.2.2.2.2.1))
                    fun x24 =>
                    some
                      (x24.1, x24.2.1, x1.2.2.2.1, x24.2.2, x1.2.2.2.2.2.1,
                        x1.2.2.2.2.2.2)
                else
                  Option.bind
                    (if (x2.1 == 3) = true then
                      Option.bind
                        (if decide (len x1.2.2.2.2.2.1 > 0) = true then
                          Option.bind (Src_N (Src.mk x2.2.1 x2.2.2) (len x1.2.2.2.2.2.1)) fun x12 =>
                            Option.bind (Src_Odd (Src.mk x12.2.1 x12.2.2)) fun x13 =>
                              Option.bind (idx x1.2.2.2.2.2.1 x12.1) fun x14 =>
                                Option.bind (idx x1.2.2.2.2.2.1 x12.1) fun x15 =>
                                  Option.bind (setO x1.2.2.2.2.2.1 x12.1 x13.1) fun x16 =>
                                    some (x13.2.1, x13.2.2, x16)
                        else some (x2.2.1, x2.2.2, x1.2.2.2.2.2.1))
                        fun x17 =>
                        some (x17.1, x17.2.1, x1.2.2.2.1, x17.2.2, x1.2.2.2.2.2.2)
                    else
                      Option.bind
                        (if (x2.1 == 4) = true then
                          Option.bind (Src_Range (Src.mk x2.2.1 x2.2.2) 0 5) fun x8 =>
                            Option.bind (Src_Range (Src.mk x8.2.1 x8.2.2) (-1) 5)
                              fun x9 =>
                              Option.bind (app x1.2.2.2.2.2.2 [Part.mk x8.1 x9.1]) fun x10 =>
                                some (x9.2.1, x9.2.2, x1.2.2.2.1, x10)
                        else
                          Option.bind (loopO (Src_BentPower_v2_L1 x1) (0, x1.2.2.2.1)) fun x7 =>
                            some (x2.2.1, x2.2.2, x7, x1.2.2.2.2.2.2))
                        fun x11 =>
                        some (x11.1, x11.2.1, x11.2.2.1, x1.2.2.2.2.2.1, x11.2.2.2))
                    fun x18 =>
                    some
                      (x18.1, x18.2.1, x18.2.2.1, x1.2.2.2.2.1, x18.2.2.2.1,
                        x18.2.2.2.2))
                fun x25 =>
                some
                  (x25.1, x25.2.1, x25.2.2.1, x25.2.2.2.1, x25.2.2.2.2.1,
                    x25.2.2.2.2.2))
            fun x32 =>
            some
              (x32.1, x32.2.1, x32.2.2.2.1, x32.2.2.2.2.1, x32.2.2.1,
                x32.2.2.2.2.2))
        fun x34 =>
        some
          (x34.1, x34.2.1, x1.1, x1.2.1, x1.2.2.1, x34.2.2.2.2.1, x34.2.2.1,
            x34.2.2.2.1, x34.2.2.2.2.2)
noncomputable def c8_2 : Con D := ⟨8, [.lf (.sl 0), .lf (.int .i64), .lf (.sl 1), .lf (.sl 8), .lf (.sl 0), .lf (.sl 9)], [.lf (.sl 0), .lf (.int .i64), .lf (.sl 8), .lf (.sl 0), .lf (.sl 9), .lf (.sl 1), .lf (.sl 8), .lf (.sl 0), .lf (.sl 9)], [.one (.ptr 1000 0), .agg [.h 2 [0], .own 1001, .own 1002, .own 1003]], [(1000, .box [.h 0 [0], .h 1 []]), (1001, .sl 8 70 3 [0]), (1002, .sl 0 3 4 [0]), (1003, .sl 9 80 5 [0])], [.agg [.own 1004, .own 1005, .own 1006, .own 1007]], [(1000, .box [.h 0 [0], .h 1 []]), (1001, .sl 8 70 2 [0]), (1002, .sl 0 3 3 [0]), (1003, .sl 9 80 4 [0]), (1004, .sl 1 4 5 [0]), (1005, .sl 8 70 6 [0]), (1006, .sl 0 3 7 [0]), (1007, .sl 9 80 8 [0])], fun h => Src_BentPower_v2 ⟨h.1, h.2.1⟩ ⟨h.2.2.1, h.2.2.2.1, h.2.2.2.2.1, h.2.2.2.2.2⟩⟩
theorem c8_2_ok : ConOk Try.prog T c8_2 := fn_ok (Φ := [c9, c10, c25_2, c26]) (rs := [.cell 4 32]) (an := (.n none .o (.n none .o (.n none (.n none .o (.n none (.n none .o (.n (some (true, [(.normal, ⟨[.lf (.sl 0), .lf (.int .i64), .lf (.sl 8), .lf (.sl 0), .lf (.sl 1), .lf (.sl 9)], [], [(1000, .box [.h 0 [0], .h 1 []]), (2201, .sl 8 70 2 [0]), (2202, .sl 0 3 3 [0]), (2256, .box [.own 2640, .own 2201, .own 2202, .own 2641]), (2640, .sl 1 4 4 [0]), (2641, .sl 9 80 5 [0])], [1000, 2200, 2201, 2202, 2203, 2256], 2704⟩)])) .o (.n none .o (.n (some (true, [(.normal, ⟨[.lf (.sl 0), .lf (.int .i64), .lf (.sl 1), .lf (.sl 8), .lf (.sl 0), .lf (.sl 9)], [], [(1000, .box [.h 0 [0], .h 1 []]), (2200, .sl 1 4 2 [0]), (2201, .sl 8 70 3 [0]), (2202, .sl 0 3 4 [0]), (2256, .box [.own 2200, .own 2201, .own 2202, .own 2768]), (2768, .sl 9 80 5 [0])], [1000, 2200, 2201, 2202, 2203, 2256], 2832⟩)])) (.n none .o (.n (some (true, [(.normal, ⟨[.lf (.sl 0), .lf (.int .i64), .lf (.sl 8)], [], [(1000, .box [.h 0 [0], .h 1 []]), (2201, .sl 8 70 2 [0])], [1000, 2201], 3088⟩)])) .o .o)) (.n none .o (.n (some (true, [(.normal, ⟨[.lf (.sl 0), .lf (.int .i64), .lf (.sl 1), .lf (.sl 8), .lf (.sl 0), .lf (.sl 9)], [], [(1000, .box [.h 0 [0], .h 1 []]), (2200, .sl 1 4 2 [0]), (2201, .sl 8 70 3 [0]), (2202, .sl 0 3 4 [0]), (2256, .box [.own 2200, .own 2201, .own 2202, .own 2896]), (2896, .sl 9 80 5 [0])], [1000, 2200, 2201, 2202, 2203, 2256], 2960⟩)])) (.n none .o (.n (some (true, [(.normal, ⟨[.lf (.sl 0), .lf (.int .i64), .lf (.sl 8)], [], [(1000, .box [.h 0 [0], .h 1 []]), (2201, .sl 8 70 2 [0])], [1000, 2201], 3216⟩)])) .o .o)) (.n none .o (.n (some (true, [(.normal, ⟨[.lf (.sl 0), .lf (.int .i64), .lf (.sl 1), .lf (.sl 0), .lf (.sl 9)], [], [(1000, .box [.h 0 [0], .h 1 []]), (2200, .sl 1 4 2 [0]), (2202, .sl 0 3 3 [0]), (2256, .box [.own 2200, .own 2201, .own 2202, .own 3024]), (3024, .sl 9 80 4 [0])], [1000, 2200, 2202, 2203, 2256], 3088⟩)])) (.n none .o (.n (some (true, [(.normal, ⟨[.lf (.sl 0), .lf (.int .i64), .lf (.sl 0)], [], [(1000, .box [.h 0 [0], .h 1 []]), (2202, .sl 0 3 2 [0])], [1000, 2202], 3344⟩)])) .o .o)) (.n none .o (.n (some (true, [(.normal, ⟨[.lf (.sl 0), .lf (.int .i64), .lf (.sl 1), .lf (.sl 9)], [], [(1000, .box [.h 0 [0], .h 1 []]), (2200, .sl 1 4 2 [0]), (2256, .box [.own 2200, .own 2201, .own 2202, .own 3152]), (3152, .sl 9 80 3 [0])], [1000, 2200, 2203, 2256], 3216⟩)])) .o (.n none .o (.n none (.loop ⟨[.lf (.int .i64), .lf (.sl 1)], [(14, .one (.h 0 []))], [(2200, .sl 1 4 1 [0])], [2200], 3472⟩ true [(.exit 1, ⟨[.lf (.sl 1)], [], [(2200, .sl 1 4 0 [0])], [2200], 3472⟩)] .o) .o)))))))))))) .o)) .o)))) pOk repOk (AllC.mem (⟨c9_ok, c10_ok, c25_2_ok, c26_ok, trivial⟩ : AllC _ _ [c9, c10, c25_2, c26])) hmix Try.call8 Try.func8 rfl rfl (by kernel_rfl) (fun h => by kernel_rfl)

noncomputable def dynposref15_Copy_v3 (a0 : Power) : Option ((List Int) × (List Part) × (List Bool) × (List Running) × (List Int) × (List Part)) :=
  Option.bind (app [] a0.Closed) fun x1 =>
    Option.bind (app [] a0.Sources) fun x2 =>
      Option.bind (app [] a0.Limits) fun x3 =>
        Option.bind (app [] a0.Broken) fun x4 => some (a0.Limits, a0.Broken, x1, x2, x3, x4)
noncomputable def c25_3 : Con D := ⟨25, [.lf (.sl 1), .lf (.sl 8), .lf (.sl 0), .lf (.sl 9)], [.lf (.sl 0), .lf (.sl 9), .lf (.sl 1), .lf (.sl 8), .lf (.sl 0), .lf (.sl 9)], [.agg [.h 0 [0], .h 1 [0], .own 1000, .own 1001]], [(1000, .sl 0 3 2 [0]), (1001, .sl 9 80 3 [0])], [.agg [.own 1002, .own 1003, .own 1004, .own 1005]], [(1000, .sl 0 3 0 [0]), (1001, .sl 9 80 1 [0]), (1002, .sl 1 4 2 [0]), (1003, .sl 8 70 3 [0]), (1004, .sl 0 3 4 [0]), (1005, .sl 9 80 5 [0])], fun h => dynposref15_Copy_v3 ⟨h.1, h.2.1, h.2.2.1, h.2.2.2⟩⟩
theorem c25_3_ok : ConOk Try.prog T c25_3 := fn_ok (Φ := []) (rs := [.cell 2 32]) (an := .o) pOk repOk (AllC.mem (l := []) trivial) hmix Try.call25 Try.func25 rfl rfl (by kernel_rfl) (fun h => by kernel_rfl)

noncomputable def Src_BentPower_v3_L1 (x1 : List Int ×
  List Part ×
    List Bool ×
      List Running ×
        List Int ×
          List
            Part) : Int × List Bool →
  Option
    (Int × List Bool ⊕
      List
        Bool) := fun x3 =>
  if decide (x3.1 < len x1.2.2.1) = true then
    Option.bind (idx x3.2 x3.1) fun x4 =>
      Option.bind (idx x3.2 x3.1) fun x5 =>
        Option.bind (setO x3.2 x3.1 true) fun x6 => some (.inl (W (x3.1 + 1), x6))
  else some (.inr x3.2)
noncomputable def Src_BentPower_v3 (a0 : Src) (a1 : Power) : Option ((List Int) × Int × (List Int) × (List Part) × (List Bool) × (List Running) × (List Int) × (List Part)) :=
  Option.bind (dynposref15_Copy_v3 a1) fun x1 =>
    Option.bind (Src_N a0 6) fun x2 =>
      Option.bind
        (if (x2.1 == 0) = true then
          Option.bind (app x1.2.2.1 [true]) fun x33 =>
            some (x2.2.1, x2.2.2, x1.2.2.2.1, x1.2.2.2.2.1, x33, x1.2.2.2.2.2)
        else
          Option.bind
            (if (x2.1 == 1) = true then
              Option.bind
                (if decide (len x1.2.2.2.1 > 0) = true then
                  Option.bind (Src_N (Src.mk x2.2.1 x2.2.2) (len x1.2.2.2.1)) fun x26 =>
                    Option.bind (Src_Range (Src.mk x26.2.1 x26.2.2) (-1) 5) fun x27 =>
                      Option.bind (idx x1.2.2.2.1 x26.1) fun x28 =>
                        Option.bind (idx x1.2.2.2.1 x26.1) fun x29 =>
                          Option.bind
                            (setO x1.2.2.2.1 x26.1 (Running.mk x27.1 x29.Since x29.Frequency x29.Phase))
                            fun x30 => some (x27.2.1, x27.2.2, x30)
                else some (x2.2.1, x2.2.2, x1.2.2.2.1))
                fun x31 =>
                some (x31.1, x31.2.1, x1.2.2.1, x31.2.2, x1.2.2.2.2.1, x1.2.2.2.2.2)
            else
              Option.bind
                (if (x2.1 == 2) = true then
                  Option.bind
                    (if decide (len x1.2.2.2.1 > 0) = true then
                      Option.bind (Src_N (Src.mk x2.2.1 x2.2.2) (len x1.2.2.2.1)) fun x19 =>
                        Option.bind (Src_Odd (Src.mk x19.2.1 x19.2.2)) fun x20 =>
                          Option.bind (idx x1.2.2.2.1 x19.1) fun x21 =>
                            Option.bind (idx x1.2.2.2.1 x19.1) fun x22 =>
                              Option.bind
                                (setO x1.2.2.2.1 x19.1 (Running.mk x22.State x22.Since x22.Frequency x20.1))
                                fun x23 => some (x20.2.1, x20.2.2, x23)
                    else some (x2.2.1, x2.2.2, x1.2.2.2.1))
                    fun x24 =>
                    some
                      (x24.1, x24.2.1, x1.2.2.1, x24.2.2, x1.2.2.2.2.1,
                        x1.2.2.2.2.2)
                else
                  Option.bind
                    (if (x2.1 == 3) = true then
                      Option.bind
                        (if decide (len x1.2.2.2.2.1 > 0) = true then
                          Option.bind (Src_N (Src.mk x2.2.1 x2.2.2) (len x1.2.2.2.2.1)) fun x12 =>
                            Option.bind (Src_Odd (Src.mk x12.2.1 x12.2.2)) fun x13 =>
                              Option.bind (idx x1.2.2.2.2.1 x12.1) fun x14 =>
                                Option.bind (idx x1.2.2.2.2.1 x12.1) fun x15 =>
                                  Option.bind (setO x1.2.2.2.2.1 x12.1 x13.1) fun x16 =>
                                    some (x13.2.1, x13.2.2, x16)
                        else some (x2.2.1, x2.2.2, x1.2.2.2.2.1))
                        fun x17 => some (x17.1, x17.2.1, x1.2.2.1, x17.2.2, x1.2.2.2.2.2)
                    else
                      Option.bind
                        (if (x2.1 == 4) = true then
                          Option.bind (Src_Range (Src.mk x2.2.1 x2.2.2) 0 5) fun x8 =>
                            Option.bind (Src_Range (Src.mk x8.2.1 x8.2.2) (-1) 5)
                              fun x9 =>
                              Option.bind (app x1.2.2.2.2.2 [Part.mk x8.1 x9.1]) fun x10 =>
                                some (x9.2.1, x9.2.2, x1.2.2.1, x10)
                        else
                          Option.bind (loopO (Src_BentPower_v3_L1 x1) (0, x1.2.2.1)) fun x7 =>
                            some (x2.2.1, x2.2.2, x7, x1.2.2.2.2.2))
                        fun x11 =>
                        some (x11.1, x11.2.1, x11.2.2.1, x1.2.2.2.2.1, x11.2.2.2))
                    fun x18 =>
                    some
                      (x18.1, x18.2.1, x18.2.2.1, x1.2.2.2.1, x18.2.2.2.1,
                        x18.2.2.2.2))
                fun x25 =>
                some
                  (x25.1, x25.2.1, x25.2.2.1, x25.2.2.2.1, x25.2.2.2.2.1,
                    x25.2.2.2.2.2))
            fun x32 =>
            some
              (x32.1, x32.2.1, x32.2.2.2.1, x32.2.2.2.2.1, x32.2.2.1,
                x32.2.2.2.2.2))
        fun x34 =>
        some
          (x34.1, x34.2.1, x1.1, x1.2.1, x34.2.2.2.2.1, x34.2.2.1, x34.2.2.2.1,
            x34.2.2.2.2.2)
noncomputable def c8_3 : Con D := ⟨8, [.lf (.sl 0), .lf (.int .i64), .lf (.sl 1), .lf (.sl 8), .lf (.sl 0), .lf (.sl 9)], [.lf (.sl 0), .lf (.int .i64), .lf (.sl 0), .lf (.sl 9), .lf (.sl 1), .lf (.sl 8), .lf (.sl 0), .lf (.sl 9)], [.one (.ptr 1000 0), .agg [.h 2 [0], .h 3 [0], .own 1001, .own 1002]], [(1000, .box [.h 0 [0], .h 1 []]), (1001, .sl 0 3 4 [0]), (1002, .sl 9 80 5 [0])], [.agg [.own 1003, .own 1004, .own 1005, .own 1006]], [(1000, .box [.h 0 [0], .h 1 []]), (1001, .sl 0 3 2 [0]), (1002, .sl 9 80 3 [0]), (1003, .sl 1 4 4 [0]), (1004, .sl 8 70 5 [0]), (1005, .sl 0 3 6 [0]), (1006, .sl 9 80 7 [0])], fun h => Src_BentPower_v3 ⟨h.1, h.2.1⟩ ⟨h.2.2.1, h.2.2.2.1, h.2.2.2.2.1, h.2.2.2.2.2⟩⟩
theorem c8_3_ok : ConOk Try.prog T c8_3 := fn_ok (Φ := [c9, c10, c25_3, c26]) (rs := [.cell 4 32]) (an := (.n none .o (.n none .o (.n none (.n none .o (.n none (.n none .o (.n (some (true, [(.normal, ⟨[.lf (.sl 0), .lf (.int .i64), .lf (.sl 8), .lf (.sl 0), .lf (.sl 1), .lf (.sl 9)], [], [(1000, .box [.h 0 [0], .h 1 []]), (2201, .sl 8 70 2 [0]), (2202, .sl 0 3 3 [0]), (2256, .box [.own 2640, .own 2201, .own 2202, .own 2641]), (2640, .sl 1 4 4 [0]), (2641, .sl 9 80 5 [0])], [1000, 2200, 2201, 2202, 2203, 2256], 2704⟩)])) .o (.n none .o (.n (some (true, [(.normal, ⟨[.lf (.sl 0), .lf (.int .i64), .lf (.sl 1), .lf (.sl 8), .lf (.sl 0), .lf (.sl 9)], [], [(1000, .box [.h 0 [0], .h 1 []]), (2200, .sl 1 4 2 [0]), (2201, .sl 8 70 3 [0]), (2202, .sl 0 3 4 [0]), (2256, .box [.own 2200, .own 2201, .own 2202, .own 2768]), (2768, .sl 9 80 5 [0])], [1000, 2200, 2201, 2202, 2203, 2256], 2832⟩)])) (.n none .o (.n (some (true, [(.normal, ⟨[.lf (.sl 0), .lf (.int .i64), .lf (.sl 8)], [], [(1000, .box [.h 0 [0], .h 1 []]), (2201, .sl 8 70 2 [0])], [1000, 2201], 3088⟩)])) .o .o)) (.n none .o (.n (some (true, [(.normal, ⟨[.lf (.sl 0), .lf (.int .i64), .lf (.sl 1), .lf (.sl 8), .lf (.sl 0), .lf (.sl 9)], [], [(1000, .box [.h 0 [0], .h 1 []]), (2200, .sl 1 4 2 [0]), (2201, .sl 8 70 3 [0]), (2202, .sl 0 3 4 [0]), (2256, .box [.own 2200, .own 2201, .own 2202, .own 2896]), (2896, .sl 9 80 5 [0])], [1000, 2200, 2201, 2202, 2203, 2256], 2960⟩)])) (.n none .o (.n (some (true, [(.normal, ⟨[.lf (.sl 0), .lf (.int .i64), .lf (.sl 8)], [], [(1000, .box [.h 0 [0], .h 1 []]), (2201, .sl 8 70 2 [0])], [1000, 2201], 3216⟩)])) .o .o)) (.n none .o (.n (some (true, [(.normal, ⟨[.lf (.sl 0), .lf (.int .i64), .lf (.sl 1), .lf (.sl 0), .lf (.sl 9)], [], [(1000, .box [.h 0 [0], .h 1 []]), (2200, .sl 1 4 2 [0]), (2202, .sl 0 3 3 [0]), (2256, .box [.own 2200, .own 2201, .own 2202, .own 3024]), (3024, .sl 9 80 4 [0])], [1000, 2200, 2202, 2203, 2256], 3088⟩)])) (.n none .o (.n (some (true, [(.normal, ⟨[.lf (.sl 0), .lf (.int .i64), .lf (.sl 0)], [], [(1000, .box [.h 0 [0], .h 1 []]), (2202, .sl 0 3 2 [0])], [1000, 2202], 3344⟩)])) .o .o)) (.n none .o (.n (some (true, [(.normal, ⟨[.lf (.sl 0), .lf (.int .i64), .lf (.sl 1), .lf (.sl 9)], [], [(1000, .box [.h 0 [0], .h 1 []]), (2200, .sl 1 4 2 [0]), (2256, .box [.own 2200, .own 2201, .own 2202, .own 3152]), (3152, .sl 9 80 3 [0])], [1000, 2200, 2203, 2256], 3216⟩)])) .o (.n none .o (.n none (.loop ⟨[.lf (.int .i64), .lf (.sl 1)], [(14, .one (.h 0 []))], [(2200, .sl 1 4 1 [0])], [2200], 3472⟩ true [(.exit 1, ⟨[.lf (.sl 1)], [], [(2200, .sl 1 4 0 [0])], [2200], 3472⟩)] .o) .o)))))))))))) .o)) .o)))) pOk repOk (AllC.mem (⟨c9_ok, c10_ok, c25_3_ok, c26_ok, trivial⟩ : AllC _ _ [c9, c10, c25_3, c26])) hmix Try.call8 Try.func8 rfl rfl (by kernel_rfl) (fun h => by kernel_rfl)

noncomputable def dynposref15_Copy_v4 (a0 : Power) : Option ((List Part) × (List Bool) × (List Running) × (List Int) × (List Part)) :=
  Option.bind (app [] a0.Closed) fun x1 =>
    Option.bind (app [] a0.Sources) fun x2 =>
      Option.bind (app [] a0.Limits) fun x3 => Option.bind (app [] a0.Broken) fun x4 => some (a0.Broken, x1, x2, x3, x4)
noncomputable def c25_4 : Con D := ⟨25, [.lf (.sl 1), .lf (.sl 8), .lf (.sl 0), .lf (.sl 9)], [.lf (.sl 9), .lf (.sl 1), .lf (.sl 8), .lf (.sl 0), .lf (.sl 9)], [.agg [.h 0 [0], .h 1 [0], .h 2 [0], .own 1000]], [(1000, .sl 9 80 3 [0])], [.agg [.own 1001, .own 1002, .own 1003, .own 1004]], [(1000, .sl 9 80 0 [0]), (1001, .sl 1 4 1 [0]), (1002, .sl 8 70 2 [0]), (1003, .sl 0 3 3 [0]), (1004, .sl 9 80 4 [0])], fun h => dynposref15_Copy_v4 ⟨h.1, h.2.1, h.2.2.1, h.2.2.2⟩⟩
theorem c25_4_ok : ConOk Try.prog T c25_4 := fn_ok (Φ := []) (rs := [.cell 2 32]) (an := .o) pOk repOk (AllC.mem (l := []) trivial) hmix Try.call25 Try.func25 rfl rfl (by kernel_rfl) (fun h => by kernel_rfl)

noncomputable def Src_BentPower_v4_L1 (x1 : List Part ×
  List Bool ×
    List Running ×
      List Int ×
        List
          Part) : Int × List Bool →
  Option
    (Int × List Bool ⊕
      List
        Bool) := fun x3 =>
  if decide (x3.1 < len x1.2.1) = true then
    Option.bind (idx x3.2 x3.1) fun x4 =>
      Option.bind (idx x3.2 x3.1) fun x5 =>
        Option.bind (setO x3.2 x3.1 true) fun x6 => some (.inl (W (x3.1 + 1), x6))
  else some (.inr x3.2)
noncomputable def Src_BentPower_v4 (a0 : Src) (a1 : Power) : Option ((List Int) × Int × (List Part) × (List Bool) × (List Running) × (List Int) × (List Part)) :=
  Option.bind (dynposref15_Copy_v4 a1) fun x1 =>
    Option.bind (Src_N a0 6) fun x2 =>
      Option.bind
        (if (x2.1 == 0) = true then
          Option.bind (app x1.2.1 [true]) fun x33 =>
            some (x2.2.1, x2.2.2, x1.2.2.1, x1.2.2.2.1, x33, x1.2.2.2.2)
        else
          Option.bind
            (if (x2.1 == 1) = true then
              Option.bind
                (if decide (len x1.2.2.1 > 0) = true then
                  Option.bind (Src_N (Src.mk x2.2.1 x2.2.2) (len x1.2.2.1)) fun x26 =>
                    Option.bind (Src_Range (Src.mk x26.2.1 x26.2.2) (-1) 5) fun x27 =>
                      Option.bind (idx x1.2.2.1 x26.1) fun x28 =>
                        Option.bind (idx x1.2.2.1 x26.1) fun x29 =>
                          Option.bind
                            (setO x1.2.2.1 x26.1 (Running.mk x27.1 x29.Since x29.Frequency x29.Phase))
                            fun x30 => some (x27.2.1, x27.2.2, x30)
                else some (x2.2.1, x2.2.2, x1.2.2.1))
                fun x31 => some (x31.1, x31.2.1, x1.2.1, x31.2.2, x1.2.2.2.1, x1.2.2.2.2)
            else
              Option.bind
                (if (x2.1 == 2) = true then
                  Option.bind
                    (if decide (len x1.2.2.1 > 0) = true then
                      Option.bind (Src_N (Src.mk x2.2.1 x2.2.2) (len x1.2.2.1)) fun x19 =>
                        Option.bind (Src_Odd (Src.mk x19.2.1 x19.2.2)) fun x20 =>
                          Option.bind (idx x1.2.2.1 x19.1) fun x21 =>
                            Option.bind (idx x1.2.2.1 x19.1) fun x22 =>
                              Option.bind
                                (setO x1.2.2.1 x19.1 (Running.mk x22.State x22.Since x22.Frequency x20.1))
                                fun x23 => some (x20.2.1, x20.2.2, x23)
                    else some (x2.2.1, x2.2.2, x1.2.2.1))
                    fun x24 =>
                    some (x24.1, x24.2.1, x1.2.1, x24.2.2, x1.2.2.2.1, x1.2.2.2.2)
                else
                  Option.bind
                    (if (x2.1 == 3) = true then
                      Option.bind
                        (if decide (len x1.2.2.2.1 > 0) = true then
                          Option.bind (Src_N (Src.mk x2.2.1 x2.2.2) (len x1.2.2.2.1)) fun x12 =>
                            Option.bind (Src_Odd (Src.mk x12.2.1 x12.2.2)) fun x13 =>
                              Option.bind (idx x1.2.2.2.1 x12.1) fun x14 =>
                                Option.bind (idx x1.2.2.2.1 x12.1) fun x15 =>
                                  Option.bind (setO x1.2.2.2.1 x12.1 x13.1) fun x16 =>
                                    some (x13.2.1, x13.2.2, x16)
                        else some (x2.2.1, x2.2.2, x1.2.2.2.1))
                        fun x17 => some (x17.1, x17.2.1, x1.2.1, x17.2.2, x1.2.2.2.2)
                    else
                      Option.bind
                        (if (x2.1 == 4) = true then
                          Option.bind (Src_Range (Src.mk x2.2.1 x2.2.2) 0 5) fun x8 =>
                            Option.bind (Src_Range (Src.mk x8.2.1 x8.2.2) (-1) 5)
                              fun x9 =>
                              Option.bind (app x1.2.2.2.2 [Part.mk x8.1 x9.1]) fun x10 =>
                                some (x9.2.1, x9.2.2, x1.2.1, x10)
                        else
                          Option.bind (loopO (Src_BentPower_v4_L1 x1) (0, x1.2.1)) fun x7 =>
                            some (x2.2.1, x2.2.2, x7, x1.2.2.2.2))
                        fun x11 => some (x11.1, x11.2.1, x11.2.2.1, x1.2.2.2.1, x11.2.2.2))
                    fun x18 =>
                    some
                      (x18.1, x18.2.1, x18.2.2.1, x1.2.2.1, x18.2.2.2.1, x18.2.2.2.2))
                fun x25 =>
                some
                  (x25.1, x25.2.1, x25.2.2.1, x25.2.2.2.1, x25.2.2.2.2.1,
                    x25.2.2.2.2.2))
            fun x32 =>
            some
              (x32.1, x32.2.1, x32.2.2.2.1, x32.2.2.2.2.1, x32.2.2.1,
                x32.2.2.2.2.2))
        fun x34 =>
        some
          (x34.1, x34.2.1, x1.1, x34.2.2.2.2.1, x34.2.2.1, x34.2.2.2.1,
            x34.2.2.2.2.2)
noncomputable def c8_4 : Con D := ⟨8, [.lf (.sl 0), .lf (.int .i64), .lf (.sl 1), .lf (.sl 8), .lf (.sl 0), .lf (.sl 9)], [.lf (.sl 0), .lf (.int .i64), .lf (.sl 9), .lf (.sl 1), .lf (.sl 8), .lf (.sl 0), .lf (.sl 9)], [.one (.ptr 1000 0), .agg [.h 2 [0], .h 3 [0], .h 4 [0], .own 1001]], [(1000, .box [.h 0 [0], .h 1 []]), (1001, .sl 9 80 5 [0])], [.agg [.own 1002, .own 1003, .own 1004, .own 1005]], [(1000, .box [.h 0 [0], .h 1 []]), (1001, .sl 9 80 2 [0]), (1002, .sl 1 4 3 [0]), (1003, .sl 8 70 4 [0]), (1004, .sl 0 3 5 [0]), (1005, .sl 9 80 6 [0])], fun h => Src_BentPower_v4 ⟨h.1, h.2.1⟩ ⟨h.2.2.1, h.2.2.2.1, h.2.2.2.2.1, h.2.2.2.2.2⟩⟩
theorem c8_4_ok : ConOk Try.prog T c8_4 := fn_ok (Φ := [c9, c10, c25_4, c26]) (rs := [.cell 4 32]) (an := (.n none .o (.n none .o (.n none (.n none .o (.n none (.n none .o (.n (some (true, [(.normal, ⟨[.lf (.sl 0), .lf (.int .i64), .lf (.sl 8), .lf (.sl 0), .lf (.sl 1), .lf (.sl 9)], [], [(1000, .box [.h 0 [0], .h 1 []]), (2201, .sl 8 70 2 [0]), (2202, .sl 0 3 3 [0]), (2256, .box [.own 2640, .own 2201, .own 2202, .own 2641]), (2640, .sl 1 4 4 [0]), (2641, .sl 9 80 5 [0])], [1000, 2200, 2201, 2202, 2203, 2256], 2704⟩)])) .o (.n none .o (.n (some (true, [(.normal, ⟨[.lf (.sl 0), .lf (.int .i64), .lf (.sl 1), .lf (.sl 8), .lf (.sl 0), .lf (.sl 9)], [], [(1000, .box [.h 0 [0], .h 1 []]), (2200, .sl 1 4 2 [0]), (2201, .sl 8 70 3 [0]), (2202, .sl 0 3 4 [0]), (2256, .box [.own 2200, .own 2201, .own 2202, .own 2768]), (2768, .sl 9 80 5 [0])], [1000, 2200, 2201, 2202, 2203, 2256], 2832⟩)])) (.n none .o (.n (some (true, [(.normal, ⟨[.lf (.sl 0), .lf (.int .i64), .lf (.sl 8)], [], [(1000, .box [.h 0 [0], .h 1 []]), (2201, .sl 8 70 2 [0])], [1000, 2201], 3088⟩)])) .o .o)) (.n none .o (.n (some (true, [(.normal, ⟨[.lf (.sl 0), .lf (.int .i64), .lf (.sl 1), .lf (.sl 8), .lf (.sl 0), .lf (.sl 9)], [], [(1000, .box [.h 0 [0], .h 1 []]), (2200, .sl 1 4 2 [0]), (2201, .sl 8 70 3 [0]), (2202, .sl 0 3 4 [0]), (2256, .box [.own 2200, .own 2201, .own 2202, .own 2896]), (2896, .sl 9 80 5 [0])], [1000, 2200, 2201, 2202, 2203, 2256], 2960⟩)])) (.n none .o (.n (some (true, [(.normal, ⟨[.lf (.sl 0), .lf (.int .i64), .lf (.sl 8)], [], [(1000, .box [.h 0 [0], .h 1 []]), (2201, .sl 8 70 2 [0])], [1000, 2201], 3216⟩)])) .o .o)) (.n none .o (.n (some (true, [(.normal, ⟨[.lf (.sl 0), .lf (.int .i64), .lf (.sl 1), .lf (.sl 0), .lf (.sl 9)], [], [(1000, .box [.h 0 [0], .h 1 []]), (2200, .sl 1 4 2 [0]), (2202, .sl 0 3 3 [0]), (2256, .box [.own 2200, .own 2201, .own 2202, .own 3024]), (3024, .sl 9 80 4 [0])], [1000, 2200, 2202, 2203, 2256], 3088⟩)])) (.n none .o (.n (some (true, [(.normal, ⟨[.lf (.sl 0), .lf (.int .i64), .lf (.sl 0)], [], [(1000, .box [.h 0 [0], .h 1 []]), (2202, .sl 0 3 2 [0])], [1000, 2202], 3344⟩)])) .o .o)) (.n none .o (.n (some (true, [(.normal, ⟨[.lf (.sl 0), .lf (.int .i64), .lf (.sl 1), .lf (.sl 9)], [], [(1000, .box [.h 0 [0], .h 1 []]), (2200, .sl 1 4 2 [0]), (2256, .box [.own 2200, .own 2201, .own 2202, .own 3152]), (3152, .sl 9 80 3 [0])], [1000, 2200, 2203, 2256], 3216⟩)])) .o (.n none .o (.n none (.loop ⟨[.lf (.int .i64), .lf (.sl 1)], [(14, .one (.h 0 []))], [(2200, .sl 1 4 1 [0])], [2200], 3472⟩ true [(.exit 1, ⟨[.lf (.sl 1)], [], [(2200, .sl 1 4 0 [0])], [2200], 3472⟩)] .o) .o)))))))))))) .o)) .o)))) pOk repOk (AllC.mem (⟨c9_ok, c10_ok, c25_4_ok, c26_ok, trivial⟩ : AllC _ _ [c9, c10, c25_4, c26])) hmix Try.call8 Try.func8 rfl rfl (by kernel_rfl) (fun h => by kernel_rfl)

noncomputable def dynposref15_Copy (a0 : Power) : Option ((List Bool) × (List Running) × (List Int) × (List Part)) :=
  Option.bind (app [] a0.Closed) fun x1 =>
    Option.bind (app [] a0.Sources) fun x2 =>
      Option.bind (app [] a0.Limits) fun x3 => Option.bind (app [] a0.Broken) fun x4 => some (x1, x2, x3, x4)
noncomputable def c25 : Con D := ⟨25, [.lf (.sl 1), .lf (.sl 8), .lf (.sl 0), .lf (.sl 9)], [.lf (.sl 1), .lf (.sl 8), .lf (.sl 0), .lf (.sl 9)], [.agg [.h 0 [0], .h 1 [0], .h 2 [0], .h 3 [0]]], [], [.agg [.own 1000, .own 1001, .own 1002, .own 1003]], [(1000, .sl 1 4 0 [0]), (1001, .sl 8 70 1 [0]), (1002, .sl 0 3 2 [0]), (1003, .sl 9 80 3 [0])], fun h => dynposref15_Copy ⟨h.1, h.2.1, h.2.2.1, h.2.2.2⟩⟩
theorem c25_ok : ConOk Try.prog T c25 := fn_ok (Φ := []) (rs := [.cell 2 32]) (an := .o) pOk repOk (AllC.mem (l := []) trivial) hmix Try.call25 Try.func25 rfl rfl (by kernel_rfl) (fun h => by kernel_rfl)

end Rx
end Go.Proofs.Ytcekgnnekooohaa
