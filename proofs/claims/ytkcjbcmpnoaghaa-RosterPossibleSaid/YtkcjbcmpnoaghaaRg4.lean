/- Plain functions, walks. Written by a program (wip/gen). -/
import Derived.Test.YtkcjbcmpnoaghaaRt
import Derived.Test.YtkcjbcmpnoaghaaRg1
import Derived.Test.YtkcjbcmpnoaghaaRg2
import Derived.Test.YtkcjbcmpnoaghaaRg3
set_option linter.unusedVariables false
set_option maxRecDepth 100000
namespace Go.Proofs.Ytkcjbcmpnoaghaa
open Go Go.RowKit Dp
namespace Rx

noncomputable def dynposlaw19_RosterHelps_L2 (x2 : Int ×
  Int ×
    Int ×
      Int ×
        Int ×
          Int ×
            List Int ×
              Int ×
                List Breaker ×
                  List Source ×
                    List Consumer ×
                      List Bool ×
                        List Running ×
                          List Int ×
                            List
                              Part) (x4 : Bool ×
  List Int ×
    List Int ×
      List
        Int) (x5 : Int ×
  Bool) : Int →
  Option
    (Int ⊕
      Unit ⊕
        Unit ⊕
          Int ⊕
            Unit ⊕
              Bool) := fun x14 =>
  if decide (x14 < len x2.2.2.2.2.2.2.2.2.2.2.2.2.1) = true then
    Option.bind (idx x2.2.2.2.2.2.2.2.2.2.2.2.2.1 x14) fun x15 =>
      Option.bind
        (dynposref15_Find
          (Board.mk x2.1 x2.2.2.2.2.2.2.2.2.1 x2.2.2.2.2.2.2.2.2.2.1
            x2.2.2.2.2.2.2.2.2.2.2.1 x2.2.1 x2.2.2.1)
          2 x14)
        fun x16 =>
        Option.bind (idx x16 0) fun x17 =>
          Option.bind
            (dynposref15_Connected
              (Board.mk x2.1 x2.2.2.2.2.2.2.2.2.1 x2.2.2.2.2.2.2.2.2.2.1
                x2.2.2.2.2.2.2.2.2.2.2.1 x2.2.1 x2.2.2.1)
              (Power.mk x2.2.2.2.2.2.2.2.2.2.2.2.1
                x2.2.2.2.2.2.2.2.2.2.2.2.2.1
                x2.2.2.2.2.2.2.2.2.2.2.2.2.2.1
                x2.2.2.2.2.2.2.2.2.2.2.2.2.2.2)
              x14)
            fun x18 =>
            Option.bind
              (if (x15.State == 2) = true then
                if (!x18.2) = true then
                  Option.bind
                    (dynposref15_Broken
                      (Power.mk x2.2.2.2.2.2.2.2.2.2.2.2.1
                        x2.2.2.2.2.2.2.2.2.2.2.2.2.1
                        x2.2.2.2.2.2.2.2.2.2.2.2.2.2.1
                        x2.2.2.2.2.2.2.2.2.2.2.2.2.2.2)
                      1 x14)
                    fun x19 =>
                    if (!x19) = true then
                      Option.bind
                        (dynposref15_Broken
                          (Power.mk x2.2.2.2.2.2.2.2.2.2.2.2.1
                            x2.2.2.2.2.2.2.2.2.2.2.2.2.1
                            x2.2.2.2.2.2.2.2.2.2.2.2.2.2.1
                            x2.2.2.2.2.2.2.2.2.2.2.2.2.2.2)
                          2 x17)
                        fun x20 =>
                        if (!x20) = true then
                          Option.bind (idx x2.2.2.2.2.2.2.2.2.1 x17) fun x21 =>
                            Option.bind
                              (dynposref15_Broken
                                (Power.mk x2.2.2.2.2.2.2.2.2.2.2.2.1
                                  x2.2.2.2.2.2.2.2.2.2.2.2.2.1
                                  x2.2.2.2.2.2.2.2.2.2.2.2.2.2.1
                                  x2.2.2.2.2.2.2.2.2.2.2.2.2.2.2)
                                3 x21.A)
                              fun x22 =>
                              if (!x22) = true then
                                Option.bind (idx x2.2.2.2.2.2.2.2.2.1 x17) fun x23 =>
                                  Option.bind (dynposref01_Has x4.2.1 x23.A) fun x24 =>
                                    if x24 = true then
                                      Option.bind (idx x2.2.2.2.2.2.2.2.2.2.2.2.2.1 x5.1)
                                        fun x25 =>
                                        if (x25.State != 2) = true then some true
                                        else some (decide (x14 < x5.1))
                                    else some false
                              else some false
                        else some false
                    else some false
                else some false
              else some false)
              fun x26 =>
              if x26 = true then some (.inr (.inr (.inr (.inr (.inr false)))))
              else some (.inl (W (x14 + 1)))
  else some (.inr (.inl ()))
noncomputable def dynposlaw19_RosterHelps_L1 (x2 : Int ×
  Int ×
    Int ×
      Int ×
        Int ×
          Int ×
            List Int ×
              Int ×
                List Breaker ×
                  List Source ×
                    List Consumer ×
                      List Bool ×
                        List Running ×
                          List Int ×
                            List
                              Part) : Int →
  Option
    (Int ⊕
      Unit ⊕
        Bool) := fun x3 =>
  if decide (x3 < x2.1) = true then
    Option.bind
      (dynposref15_Of
        (Board.mk x2.1 x2.2.2.2.2.2.2.2.2.1 x2.2.2.2.2.2.2.2.2.2.1
          x2.2.2.2.2.2.2.2.2.2.2.1 x2.2.1 x2.2.2.1)
        (Power.mk x2.2.2.2.2.2.2.2.2.2.2.2.1
          x2.2.2.2.2.2.2.2.2.2.2.2.2.1
          x2.2.2.2.2.2.2.2.2.2.2.2.2.2.1
          x2.2.2.2.2.2.2.2.2.2.2.2.2.2.2)
        x3)
      fun x4 =>
      Option.bind
        (roster_Next
          (Board.mk x2.1 x2.2.2.2.2.2.2.2.2.1 x2.2.2.2.2.2.2.2.2.2.1
            x2.2.2.2.2.2.2.2.2.2.2.1 x2.2.1 x2.2.2.1)
          (Power.mk x2.2.2.2.2.2.2.2.2.2.2.2.1
            x2.2.2.2.2.2.2.2.2.2.2.2.2.1
            x2.2.2.2.2.2.2.2.2.2.2.2.2.2.1
            x2.2.2.2.2.2.2.2.2.2.2.2.2.2.2)
          x3)
        fun x5 =>
        Option.bind
          (if x5.2 = true then
            Option.bind
              (dynposref15_Find
                (Board.mk x2.1 x2.2.2.2.2.2.2.2.2.1 x2.2.2.2.2.2.2.2.2.2.1
                  x2.2.2.2.2.2.2.2.2.2.2.1 x2.2.1 x2.2.2.1)
                2 x5.1)
              fun x6 =>
              Option.bind
                (dynposref15_Connected
                  (Board.mk x2.1 x2.2.2.2.2.2.2.2.2.1 x2.2.2.2.2.2.2.2.2.2.1
                    x2.2.2.2.2.2.2.2.2.2.2.1 x2.2.1 x2.2.2.1)
                  (Power.mk x2.2.2.2.2.2.2.2.2.2.2.2.1
                    x2.2.2.2.2.2.2.2.2.2.2.2.2.1
                    x2.2.2.2.2.2.2.2.2.2.2.2.2.2.1
                    x2.2.2.2.2.2.2.2.2.2.2.2.2.2.2)
                  x5.1)
                fun x7 =>
                Option.bind
                  (if (len x6 != 1) = true then some true
                  else
                    if x7.2 = true then some true
                    else
                      Option.bind
                        (dynposref15_Broken
                          (Power.mk x2.2.2.2.2.2.2.2.2.2.2.2.1
                            x2.2.2.2.2.2.2.2.2.2.2.2.2.1
                            x2.2.2.2.2.2.2.2.2.2.2.2.2.2.1
                            x2.2.2.2.2.2.2.2.2.2.2.2.2.2.2)
                          1 x5.1)
                        fun x8 =>
                        if x8 = true then some true
                        else
                          Option.bind (idx x6 0) fun x9 =>
                            Option.bind (idx x2.2.2.2.2.2.2.2.2.1 x9) fun x10 =>
                              Option.bind (dynposref01_Has x4.2.1 x10.A) fun x11 =>
                                if (!x11) = true then some true
                                else
                                  Option.bind (idx x2.2.2.2.2.2.2.2.2.2.2.2.2.1 x5.1)
                                    fun x12 => some (x12.State == 3))
                  fun x13 =>
                  if x13 = true then some (.inr (.inr (.inr false)))
                  else
                    Option.bind (loopO (dynposlaw19_RosterHelps_L2 x2 x4 x5) 0) fun x27 =>
                      Sum.elim (fun x28 => some (.inl ())) (fun x29 => some x29) x27
          else some (.inl ()))
          fun x30 =>
          Sum.elim
            (fun x31 =>
              Option.bind
                (roster_Step
                  (Board.mk x2.1 x2.2.2.2.2.2.2.2.2.1 x2.2.2.2.2.2.2.2.2.2.1
                    x2.2.2.2.2.2.2.2.2.2.2.1 x2.2.1 x2.2.2.1)
                  (Table.mk x2.2.2.2.1 x2.2.2.2.2.1 x2.2.2.2.2.2.1)
                  (Power.mk x2.2.2.2.2.2.2.2.2.2.2.2.1
                    x2.2.2.2.2.2.2.2.2.2.2.2.2.1
                    x2.2.2.2.2.2.2.2.2.2.2.2.2.2.1
                    x2.2.2.2.2.2.2.2.2.2.2.2.2.2.2)
                  x3 10 (Roster.mk 1 1))
                fun x32 =>
                Option.bind
                  (if (x32.2.2.1 != 0) = true then some true
                  else
                    if (len x4.2.2.1 == 0) = true then
                      if decide (len x32.2.2.2 > 0) = true then some true
                      else some !(x32.1 == (-1) && x32.2.1 == (-1))
                    else some false)
                  fun x33 =>
                  if x33 = true then some (.inr (.inr false)) else some (.inl (W (x3 + 1))))
            (fun x34 => some x34) x30
  else some (.inr (.inl ()))
noncomputable def dynposlaw19_RosterHelps (a0 : (List Int)) : Option (Bool) :=
  Option.bind (dynposmake_New a0) fun x1 =>
    Option.bind (dynposlaw19_world (Src.mk x1.1 x1.2)) fun x2 =>
      Option.bind (loopO (dynposlaw19_RosterHelps_L1 x2) 0) fun x35 =>
        Sum.elim (fun x36 => Option.bind dynposlaw19_sane fun x37 => some x37) (fun x38 => some x38) x35
noncomputable def c3 : Con D := ⟨3, [.lf (.sl 0)], [.lf .bool], [.one (.h 0 [0])], [], [.one (.h 0 [])], [], fun h => dynposlaw19_RosterHelps h⟩
theorem c3_ok : ConOk Try.prog T c3 := fn_ok (Φ := [c7, c8, c9, c10, c11, c12, c13, c14, c15, c16]) (rs := [.tmp 2]) (an := (.n none .o (.n none .o (.n none .o (.n none (.n none .o (.n none (.loop ⟨[.lf (.int .i64)], [(7, .one (.h 0 []))], [], [], 3152⟩ false [(.exit 0, ⟨[], [], [], [], 3152⟩)] (.n none .o (.n none (.n none (.n none .o (.n none .o (.n none (.n none .o (.n (some (false, [(.normal, ⟨[], [], [], [], 4753⟩)])) (.n none .o (.n none .o (.n none (.n none (.r (some (true, [(.normal, ⟨[.lf .bool], [(66, .one (.any)), (69, .one (.any)), (70, .one (.any)), (71, .one (.any)), (74, .one (.any)), (75, .one (.any)), (76, .one (.any)), (77, .one (.any)), (78, .one (.any)), (79, .one (.any)), (80, .one (.any)), (81, .one (.any)), (82, .one (.any)), (83, .one (.any)), (84, .one (.any)), (85, .one (.any)), (88, .one (.any)), (89, .one (.any)), (90, .one (.any)), (91, .one (.any)), (92, .one (.any)), (93, .one (.any)), (94, .one (.any)), (95, .one (.h 0 []))], [], [], 5585⟩)])) .nil) .o) (.n none .o (.n none (.loop ⟨[.lf (.int .i64)], [(99, .one (.h 0 []))], [], [], 5906⟩ false [(.exit 2, ⟨[], [], [], [], 5906⟩)] (.n none .o (.n none .o (.n none (.n none (.n none .o (.n none .o (.n none .o (.n none (.r (some (true, [(.normal, ⟨[.lf .bool], [(120, .one (.any)), (121, .one (.any)), (124, .one (.any)), (125, .one (.any)), (126, .one (.any)), (127, .one (.any)), (130, .one (.any)), (131, .one (.any)), (132, .one (.any)), (133, .one (.any)), (136, .one (.any)), (137, .one (.any)), (138, .one (.any)), (139, .one (.any)), (140, .one (.any)), (141, .one (.any)), (142, .one (.any)), (143, .one (.any)), (144, .one (.any)), (147, .one (.any)), (148, .one (.any)), (149, .one (.any)), (150, .one (.any)), (151, .one (.any)), (152, .one (.any)), (153, .one (.any)), (154, .one (.any)), (155, .one (.any)), (158, .one (.any)), (159, .one (.any)), (160, .one (.any)), (161, .one (.any)), (162, .one (.any)), (163, .one (.any)), (164, .one (.any)), (165, .one (.any)), (166, .one (.any)), (167, .one (.any)), (168, .one (.any)), (169, .one (.any)), (170, .one (.h 0 []))], [], [], 7379⟩)])) .nil) .o)))) .o) .o)))) .o))))) .o)) (.n none .o (.n none (.r (some (true, [(.normal, ⟨[.lf .bool], [(185, .one (.any)), (186, .one (.any)), (187, .one (.any)), (188, .one (.any)), (189, .one (.any)), (190, .one (.any)), (191, .one (.any)), (192, .one (.any)), (193, .one (.any)), (194, .one (.any)), (195, .one (.any)), (196, .one (.any)), (197, .one (.any)), (198, .one (.any)), (199, .one (.h 0 []))], [], [], 5713⟩)])) .nil) .o))))) .o) .o))) .o)) .o))))) pOk repOk (AllC.mem (⟨c7_ok, c8_ok, c9_ok, c10_ok, c11_ok, c12_ok, c13_ok, c14_ok, c15_ok, c16_ok, trivial⟩ : AllC _ _ [c7, c8, c9, c10, c11, c12, c13, c14, c15, c16])) hmix Try.call3 Try.func3 rfl rfl (by kernel_rfl) (fun h => by kernel_rfl)

noncomputable def dynposref16_follow_v1_L2 (x1 : List Bool ×
  List Running ×
    List Int ×
      List Part ×
        List Bool ×
          List Running ×
            List Int ×
              List
                Part) (x4 : Island) : Int × List Running →
  Option
    (Int × List Running ⊕
      List
        Running) := fun x5 =>
  if decide (x5.1 < len x4.Sources) = true then
    Option.bind (idx x4.Sources x5.1) fun x6 =>
      Option.bind (idx x4.Sources 0) fun x7 =>
        Option.bind (idx x1.2.1 x7) fun x8 =>
          Option.bind (idx x4.Sources 0) fun x9 =>
            Option.bind (idx x1.2.1 x9) fun x10 =>
              Option.bind (idx x5.2 x6) fun x11 =>
                Option.bind (idx x5.2 x6) fun x12 =>
                  Option.bind (setO x5.2 x6 (Running.mk x12.State x12.Since x8.Frequency x12.Phase)) fun x13 =>
                    Option.bind (idx x13 x6) fun x14 =>
                      Option.bind (idx x13 x6) fun x15 =>
                        Option.bind (setO x13 x6 (Running.mk x15.State x15.Since x15.Frequency x10.Phase)) fun x16 =>
                          some (.inl (W (x5.1 + 1), x16))
  else some (.inr x5.2)
noncomputable def dynposref16_follow_v1_L1 (x1 : List Bool ×
  List Running ×
    List Int ×
      List Part ×
        List Bool ×
          List Running ×
            List Int ×
              List
                Part) (x2 : List
  Island) : Int × List Running →
  Option
    (Int × List Running ⊕
      List
        Running) := fun x3 =>
  if decide (x3.1 < len x2) = true then
    Option.bind (idx x2 x3.1) fun x4 =>
      Option.bind (loopO (dynposref16_follow_v1_L2 x1 x4) (0, x3.2)) fun x17 =>
        some (.inl (W (x3.1 + 1), x17))
  else some (.inr x3.2)
noncomputable def dynposref16_follow_v1 (a0 : Board) (a1 : Power) : Option ((List Bool) × (List Running) × (List Int) × (List Part) × (List Bool) × (List Running) × (List Int) × (List Part)) :=
  Option.bind (dynposref15_Copy a1) fun x1 =>
    Option.bind (dynposref15_Islands a0 (Power.mk x1.1 x1.2.1 x1.2.2.1 x1.2.2.2.1)) fun x2 =>
      Option.bind (loopO (dynposref16_follow_v1_L1 x1 x2) (0, x1.2.2.2.2.2.1)) fun x18 =>
        some
          (x1.1, x1.2.1, x1.2.2.1, x1.2.2.2.1, x1.2.2.2.2.1, x18,
            x1.2.2.2.2.2.2.1, x1.2.2.2.2.2.2.2)
noncomputable def c90_1 : Con D := ⟨90, [.lf (.int .i64), .lf (.sl 5), .lf (.sl 6), .lf (.sl 7), .lf (.int .i64), .lf (.int .i64), .lf (.sl 1), .lf (.sl 10), .lf (.sl 0), .lf (.sl 11)], [.lf (.sl 1), .lf (.sl 10), .lf (.sl 0), .lf (.sl 11), .lf (.sl 1), .lf (.sl 10), .lf (.sl 0), .lf (.sl 11)], [.agg [.h 0 [], .h 1 [0], .h 2 [0], .h 3 [0], .h 4 [], .h 5 []], .agg [.own 1000, .own 1001, .own 1002, .own 1003]], [(1000, .sl 1 4 6 [0]), (1001, .sl 10 51 7 [0]), (1002, .sl 0 3 8 [0]), (1003, .sl 11 91 9 [0])], [.agg [.own 1004, .own 1005, .own 1006, .own 1007]], [(1000, .sl 1 4 0 [0]), (1001, .sl 10 51 1 [0]), (1002, .sl 0 3 2 [0]), (1003, .sl 11 91 3 [0]), (1004, .sl 1 4 4 [0]), (1005, .sl 10 51 5 [0]), (1006, .sl 0 3 6 [0]), (1007, .sl 11 91 7 [0])], fun h => dynposref16_follow_v1 ⟨h.1, h.2.1, h.2.2.1, h.2.2.2.1, h.2.2.2.2.1, h.2.2.2.2.2.1⟩ ⟨h.2.2.2.2.2.2.1, h.2.2.2.2.2.2.2.1, h.2.2.2.2.2.2.2.2.1, h.2.2.2.2.2.2.2.2.2⟩⟩
theorem c90_1_ok : ConOk Try.prog T c90_1 := fn_ok (Φ := [c32, c106]) (rs := [.cell 4 36]) (an := (.n none .o (.n none .o (.n none (.n none .o (.n none (.loop ⟨[.lf (.int .i64), .lf (.sl 10)], [(16, .one (.h 0 []))], [(2265, .sl 10 51 1 [0])], [2265], 2832⟩ true [(.exit 0, ⟨[.lf (.sl 10)], [], [(2265, .sl 10 51 0 [0])], [2265], 2832⟩)] (.n none .o (.n none .o (.n none (.n none (.n none .o (.n none .o (.n none (.loop ⟨[.lf (.int .i64), .lf (.sl 10)], [(23, .one (.h 0 []))], [(2265, .sl 10 51 1 [0])], [2265], 3474⟩ true [(.exit 2, ⟨[.lf (.sl 10)], [], [(2265, .sl 10 51 0 [0])], [2265], 3474⟩)] .o) .o))) .o) .o)))) .o)) .o)))) pOk repOk (AllC.mem (⟨c32_ok, c106_ok, trivial⟩ : AllC _ _ [c32, c106])) hmix Try.call90 Try.func90 rfl rfl (by kernel_rfl) (fun h => by kernel_rfl)

noncomputable def dynposref15_Copy_v1 (a0 : Power) : Option ((List Bool) × (List Running) × (List Int) × (List Part)) :=
  Option.bind (app [] a0.Closed) fun x1 =>
    Option.bind (app [] a0.Sources) fun x2 =>
      Option.bind (app [] a0.Limits) fun x3 => Option.bind (app [] a0.Broken) fun x4 => some (x1, x2, x3, x4)
noncomputable def c32_1 : Con D := ⟨32, [.lf (.sl 1), .lf (.sl 10), .lf (.sl 0), .lf (.sl 11)], [.lf (.sl 1), .lf (.sl 10), .lf (.sl 0), .lf (.sl 11)], [.agg [.h 0 [0], .h 1 [0], .h 2 [0], .h 3 [0]]], [], [.agg [.own 1000, .own 1001, .own 1002, .own 1003]], [(1000, .sl 1 4 0 [0]), (1001, .sl 10 51 1 [0]), (1002, .sl 0 3 2 [0]), (1003, .sl 11 91 3 [0])], fun h => dynposref15_Copy_v1 ⟨h.1, h.2.1, h.2.2.1, h.2.2.2⟩⟩
theorem c32_1_ok : ConOk Try.prog T c32_1 := fn_ok (Φ := []) (rs := [.cell 2 36]) (an := .o) pOk repOk (AllC.mem (l := []) trivial) hmix Try.call32 Try.func32 rfl rfl (by kernel_rfl) (fun h => by kernel_rfl)

noncomputable def dynposref16_Match_L1 (a1 : Power) (x3 : Int ×
  Bool) (x8 : List
  Int) : Int × List Running →
  Option
    (Int × List Running ⊕
      List
        Running) := fun x10 =>
  if decide (x10.1 < len x8) = true then
    Option.bind (idx x8 x10.1) fun x11 =>
      Option.bind (idx a1.Sources x3.1) fun x12 =>
        Option.bind (idx a1.Sources x3.1) fun x13 =>
          Option.bind (idx x10.2 x11) fun x14 =>
            Option.bind (idx x10.2 x11) fun x15 =>
              Option.bind (setO x10.2 x11 (Running.mk x15.State x15.Since x12.Frequency x15.Phase)) fun x16 =>
                Option.bind (idx x16 x11) fun x17 =>
                  Option.bind (idx x16 x11) fun x18 =>
                    Option.bind (setO x16 x11 (Running.mk x18.State x18.Since x18.Frequency x13.Phase)) fun x19 =>
                      some (.inl (W (x10.1 + 1), x19))
  else some (.inr x10.2)
noncomputable def dynposref16_Match (a0 : Board) (a1 : Power) (a2 : Int) (a3 : Int) : Option (Int × (List Bool) × (List Running) × (List Int) × (List Part)) :=
  Option.bind (dynposref15_State a0 a1) fun x1 =>
    if (x1 != 0) = true then some (x1, [], [], [], [])
    else
      Option.bind
        (if decide (a2 < 0) = true then some true
        else
          if decide (a2 ≥ len a0.Sources) = true then some true
          else if decide (a3 < 0) = true then some true else some (decide (a3 ≥ a0.Buses)))
        fun x2 =>
        if x2 = true then some (10, [], [], [], [])
        else
          Option.bind (dynposref16_Leader a0 a1 a3) fun x3 =>
            Option.bind
              (Option.bind (idx a1.Sources a2) fun x4 =>
                if (x4.State != 2) = true then some true else some !x3.2)
              fun x5 =>
              if x5 = true then some (11, [], [], [], [])
              else
                Option.bind (dynposref15_Connected a0 a1 a2) fun x6 =>
                  Option.bind
                    (if x6.2 = true then Option.bind (dynposref15_Of a0 a1 x6.1) fun x7 => some x7.2.2.1
                    else some [a2])
                    fun x8 =>
                    Option.bind (dynposref15_Copy_v1 a1) fun x9 =>
                      Option.bind (loopO (dynposref16_Match_L1 a1 x3 x8) (0, x9.2.1)) fun x20 =>
                        some (0, x9.1, x20, x9.2.2.1, x9.2.2.2)
noncomputable def c61 : Con D := ⟨61, [.lf (.int .i64), .lf (.sl 5), .lf (.sl 6), .lf (.sl 7), .lf (.int .i64), .lf (.int .i64), .lf (.sl 1), .lf (.sl 10), .lf (.sl 0), .lf (.sl 11), .lf (.int .i64), .lf (.int .i64)], [.lf (.int .i64), .lf (.sl 1), .lf (.sl 10), .lf (.sl 0), .lf (.sl 11)], [.agg [.h 0 [], .h 1 [0], .h 2 [0], .h 3 [0], .h 4 [], .h 5 []], .agg [.h 6 [0], .h 7 [0], .h 8 [0], .h 9 [0]], .one (.h 10 []), .one (.h 11 [])], [], [.agg [.own 1000, .own 1001, .own 1002, .own 1003], .one (.h 0 [])], [(1000, .sl 1 4 1 [0]), (1001, .sl 10 51 2 [0]), (1002, .sl 0 3 3 [0]), (1003, .sl 11 91 4 [0])], fun h => dynposref16_Match ⟨h.1, h.2.1, h.2.2.1, h.2.2.2.1, h.2.2.2.2.1, h.2.2.2.2.2.1⟩ ⟨h.2.2.2.2.2.2.1, h.2.2.2.2.2.2.2.1, h.2.2.2.2.2.2.2.2.1, h.2.2.2.2.2.2.2.2.2.1⟩ h.2.2.2.2.2.2.2.2.2.2.1 h.2.2.2.2.2.2.2.2.2.2.2⟩
theorem c61_ok : ConOk Try.prog T c61 := fn_ok (Φ := [c9, c12, c32_1, c38, c60]) (rs := [.cell 8 36, .tmp 9]) (an := (.n none .o (.n none .o (.n none (.n none (.r (some (true, [(.normal, ⟨[.lf .bool], [(46, .one (.h 0 []))], [], [], 2704⟩)])) .nil) .o) (.n none .o (.n none (.n none (.r (some (true, [(.normal, ⟨[.lf .bool], [(65, .one (.h 0 []))], [], [], 3345⟩)])) .nil) .o) (.n none .o (.n none (.n none .o (.n none .o (.n (some (true, [(.normal, ⟨[.lf (.sl 0)], [(13, .one (.own 4178))], [(4178, .sl 0 3 0 [])], [3410], 4242⟩)])) .o .o))) (.n none .o (.n none (.n none .o (.n none (.loop ⟨[.lf (.int .i64), .lf (.sl 10)], [(90, .one (.h 0 []))], [(4316, .sl 10 51 1 [0])], [4316], 4755⟩ true [(.exit 0, ⟨[.lf (.sl 10)], [], [(4316, .sl 10 51 0 [0])], [4316], 4755⟩)] .o) .o)) .o)))))))))) pOk repOk (AllC.mem (⟨c9_ok, c12_ok, c32_1_ok, c38_ok, c60_ok, trivial⟩ : AllC _ _ [c9, c12, c32_1, c38, c60])) hmix Try.call61 Try.func61 rfl rfl (by kernel_rfl) (fun h => by kernel_rfl)

noncomputable def dynposref16_Close (a0 : Board) (a1 : Power) (a2 : Int) : Option (Int × (List Bool) × (List Running) × (List Int) × (List Part)) :=
  Option.bind (dynposref16_May a0 a1 a2) fun x1 =>
    if (x1 != 0) = true then some (x1, [], [], [], [])
    else
      Option.bind (dynposref15_Copy_v1 a1) fun x2 =>
        Option.bind (idx x2.1 a2) fun x3 =>
          Option.bind (idx x2.1 a2) fun x4 =>
            Option.bind (setO x2.1 a2 true) fun x5 =>
              Option.bind (dynposref16_follow_v1 a0 (Power.mk x5 x2.2.1 x2.2.2.1 x2.2.2.2)) fun x6 =>
                some
                  (0, x6.2.2.2.2.1, x6.2.2.2.2.2.1, x6.2.2.2.2.2.2.1,
                    x6.2.2.2.2.2.2.2)
noncomputable def c62 : Con D := ⟨62, [.lf (.int .i64), .lf (.sl 5), .lf (.sl 6), .lf (.sl 7), .lf (.int .i64), .lf (.int .i64), .lf (.sl 1), .lf (.sl 10), .lf (.sl 0), .lf (.sl 11), .lf (.int .i64)], [.lf (.int .i64), .lf (.sl 1), .lf (.sl 10), .lf (.sl 0), .lf (.sl 11)], [.agg [.h 0 [], .h 1 [0], .h 2 [0], .h 3 [0], .h 4 [], .h 5 []], .agg [.h 6 [0], .h 7 [0], .h 8 [0], .h 9 [0]], .one (.h 10 [])], [], [.agg [.own 1000, .own 1001, .own 1002, .own 1003], .one (.h 0 [])], [(1000, .sl 1 4 1 [0]), (1001, .sl 10 51 2 [0]), (1002, .sl 0 3 3 [0]), (1003, .sl 11 91 4 [0])], fun h => dynposref16_Close ⟨h.1, h.2.1, h.2.2.1, h.2.2.2.1, h.2.2.2.2.1, h.2.2.2.2.2.1⟩ ⟨h.2.2.2.2.2.2.1, h.2.2.2.2.2.2.2.1, h.2.2.2.2.2.2.2.2.1, h.2.2.2.2.2.2.2.2.2.1⟩ h.2.2.2.2.2.2.2.2.2.2⟩
theorem c62_ok : ConOk Try.prog T c62 := fn_ok (Φ := [c32_1, c89, c90_1]) (rs := [.cell 6 36, .tmp 7]) (an := .o) pOk repOk (AllC.mem (⟨c32_1_ok, c89_ok, c90_1_ok, trivial⟩ : AllC _ _ [c32_1, c89, c90_1])) hmix Try.call62 Try.func62 rfl rfl (by kernel_rfl) (fun h => by kernel_rfl)

noncomputable def dynposref16_Open (a0 : Board) (a1 : Power) (a2 : Int) : Option (Int × (List Bool) × (List Running) × (List Int) × (List Part)) :=
  Option.bind (dynposref15_State a0 a1) fun x1 =>
    if (x1 != 0) = true then some (x1, [], [], [], [])
    else
      Option.bind (if decide (a2 < 0) = true then some true else some (decide (a2 ≥ len a0.Breakers)))
        fun x2 =>
        if x2 = true then some (10, [], [], [], [])
        else
          Option.bind
            (Option.bind (idx a1.Closed a2) fun x3 =>
              if (!x3) = true then some true
              else Option.bind (dynposref15_Broken a1 2 a2) fun x4 => some x4)
            fun x5 =>
            if x5 = true then some (11, [], [], [], [])
            else
              Option.bind (dynposref15_Copy_v1 a1) fun x6 =>
                Option.bind (idx x6.1 a2) fun x7 =>
                  Option.bind (idx x6.1 a2) fun x8 =>
                    Option.bind (setO x6.1 a2 false) fun x9 =>
                      some (0, x9, x6.2.1, x6.2.2.1, x6.2.2.2)
noncomputable def c63 : Con D := ⟨63, [.lf (.int .i64), .lf (.sl 5), .lf (.sl 6), .lf (.sl 7), .lf (.int .i64), .lf (.int .i64), .lf (.sl 1), .lf (.sl 10), .lf (.sl 0), .lf (.sl 11), .lf (.int .i64)], [.lf (.int .i64), .lf (.sl 1), .lf (.sl 10), .lf (.sl 0), .lf (.sl 11)], [.agg [.h 0 [], .h 1 [0], .h 2 [0], .h 3 [0], .h 4 [], .h 5 []], .agg [.h 6 [0], .h 7 [0], .h 8 [0], .h 9 [0]], .one (.h 10 [])], [], [.agg [.own 1000, .own 1001, .own 1002, .own 1003], .one (.h 0 [])], [(1000, .sl 1 4 1 [0]), (1001, .sl 10 51 2 [0]), (1002, .sl 0 3 3 [0]), (1003, .sl 11 91 4 [0])], fun h => dynposref16_Open ⟨h.1, h.2.1, h.2.2.1, h.2.2.2.1, h.2.2.2.2.1, h.2.2.2.2.2.1⟩ ⟨h.2.2.2.2.2.2.1, h.2.2.2.2.2.2.2.1, h.2.2.2.2.2.2.2.2.1, h.2.2.2.2.2.2.2.2.2.1⟩ h.2.2.2.2.2.2.2.2.2.2⟩
theorem c63_ok : ConOk Try.prog T c63 := fn_ok (Φ := [c13, c32_1, c38]) (rs := [.cell 6 36, .tmp 7]) (an := (.n none .o (.n none .o (.n none (.n none (.r (some (true, [(.normal, ⟨[.lf .bool], [(25, .one (.h 0 []))], [], [], 2704⟩)])) .nil) .o) (.n none (.n none (.r (some (true, [(.normal, ⟨[.lf .bool], [(37, .one (.h 0 []))], [], [], 2769⟩)])) .nil) .o) .o))))) pOk repOk (AllC.mem (⟨c13_ok, c32_1_ok, c38_ok, trivial⟩ : AllC _ _ [c13, c32_1, c38])) hmix Try.call63 Try.func63 rfl rfl (by kernel_rfl) (fun h => by kernel_rfl)

noncomputable def dynposlaw19_carry (a0 : Board) (a1 : Power) (a2 : Act) : Option ((List Bool) × (List Running) × (List Int) × (List Part) × Int) :=
  if (a2.Kind == 6) = true then
    Option.bind (dynposref16_Match a0 a1 a2.Unit a2.Value) fun x20 =>
      some (x20.2.1, x20.2.2.1, x20.2.2.2.1, x20.2.2.2.2, x20.1)
  else
    if (a2.Kind == 1) = true then
      Option.bind (dynposref16_Close a0 a1 a2.Unit) fun x19 =>
        some (x19.2.1, x19.2.2.1, x19.2.2.2.1, x19.2.2.2.2, x19.1)
    else
      if (a2.Kind == 2) = true then
        Option.bind (dynposref16_Open a0 a1 a2.Unit) fun x18 =>
          some (x18.2.1, x18.2.2.1, x18.2.2.2.1, x18.2.2.2.2, x18.1)
      else
        Option.bind
          (if decide (a2.Unit < 0) = true then some true else some (decide (a2.Unit ≥ len a1.Sources)))
          fun x1 =>
          if x1 = true then some (a1.Closed, a1.Sources, a1.Limits, a1.Broken, 10)
          else
            Option.bind (dynposref15_Copy_v1 a1) fun x2 =>
              Option.bind
                (if (a2.Kind == 3) = true then
                  Option.bind (idx a1.Sources a2.Unit) fun x11 =>
                    if (x11.State != 0) = true then
                      some (.inr (a1.Closed, a1.Sources, a1.Limits, a1.Broken, 11))
                    else
                      Option.bind (idx x2.2.1 a2.Unit) fun x12 =>
                        Option.bind (idx x2.2.1 a2.Unit) fun x13 =>
                          Option.bind
                            (setO x2.2.1 a2.Unit (Running.mk 1 x13.Since x13.Frequency x13.Phase))
                            fun x14 => some (.inl x14)
                else
                  if (a2.Kind == 4) = true then
                    Option.bind
                      (Option.bind (idx a1.Sources a2.Unit) fun x3 =>
                        if (x3.State != 2) = true then some true
                        else
                          Option.bind (dynposref15_Find a0 2 a2.Unit) fun x4 =>
                            Option.bind (idx x4 0) fun x5 =>
                              Option.bind (idx a1.Closed x5) fun x6 => some x6)
                      fun x7 =>
                      if x7 = true then some (.inr (a1.Closed, a1.Sources, a1.Limits, a1.Broken, 11))
                      else
                        Option.bind (idx x2.2.1 a2.Unit) fun x8 =>
                          Option.bind (idx x2.2.1 a2.Unit) fun x9 =>
                            Option.bind
                              (setO x2.2.1 a2.Unit (Running.mk 0 x9.Since x9.Frequency x9.Phase))
                              fun x10 => some (.inl x10)
                  else some (.inr (a1.Closed, a1.Sources, a1.Limits, a1.Broken, 1)))
                fun x15 =>
                Sum.elim (fun x16 => some (x2.1, x16, x2.2.2.1, x2.2.2.2, 0))
                  (fun x17 => some x17) x15
noncomputable def c30 : Con D := ⟨30, [.lf (.int .i64), .lf (.sl 5), .lf (.sl 6), .lf (.sl 7), .lf (.int .i64), .lf (.int .i64), .lf (.sl 1), .lf (.sl 10), .lf (.sl 0), .lf (.sl 11), .lf (.int .i64), .lf (.int .i64), .lf (.int .i64)], [.lf (.sl 1), .lf (.sl 10), .lf (.sl 0), .lf (.sl 11), .lf (.int .i64)], [.agg [.h 0 [], .h 1 [0], .h 2 [0], .h 3 [0], .h 4 [], .h 5 []], .agg [.h 6 [0], .h 7 [0], .h 8 [0], .h 9 [0]], .agg [.h 10 [], .h 11 [], .h 12 []]], [], [.agg [.h 0 [0, 1], .h 1 [0, 1], .h 2 [0, 1], .h 3 [0, 1]], .one (.h 4 [])], [], fun h => dynposlaw19_carry ⟨h.1, h.2.1, h.2.2.1, h.2.2.2.1, h.2.2.2.2.1, h.2.2.2.2.2.1⟩ ⟨h.2.2.2.2.2.2.1, h.2.2.2.2.2.2.2.1, h.2.2.2.2.2.2.2.2.1, h.2.2.2.2.2.2.2.2.2.1⟩ ⟨h.2.2.2.2.2.2.2.2.2.2.1, h.2.2.2.2.2.2.2.2.2.2.2.1, h.2.2.2.2.2.2.2.2.2.2.2.2⟩⟩
theorem c30_ok : ConOk Try.prog T c30 := fn_ok (Φ := [c11, c32_1, c61, c62, c63]) (rs := [.cell 6 36, .tmp 7]) (an := (.n none .o (.n none .o (.n none (.n none (.r (some (true, [(.normal, ⟨[.lf .bool], [(50, .one (.h 0 []))], [], [], 2896⟩)])) .nil) .o) (.n none .o (.n none (.n none .o (.n none (.n none .o (.n (some (false, [(.normal, ⟨[.lf (.sl 10)], [], [(2192, .box [.nils, .nils, .nils, .nils]), (2970, .sl 10 51 0 [0])], [2192, 2970], 3473⟩)])) .o (.n none .o (.n none (.n none (.n none (.r (some (true, [(.normal, ⟨[.lf .bool], [(95, .one (.h 0 []))], [], [], 3601⟩)])) .nil) .o) .o) .o)))) .o)) .o)))))) pOk repOk (AllC.mem (⟨c11_ok, c32_1_ok, c61_ok, c62_ok, c63_ok, trivial⟩ : AllC _ _ [c11, c32_1, c61, c62, c63])) hmix Try.call30 Try.func30 rfl rfl (by kernel_rfl) (fun h => by kernel_rfl)

noncomputable def dynposref16_Bad_L2 (a0 : Board) (a1 : Power) (a2 : Power) (x4 : Int) : Int →
  Option
    (Int ⊕
      Unit ⊕
        Int ⊕
          Unit ⊕
            Bool) := fun x5 =>
  if decide (x5 < x4) = true then
    Option.bind
      (Option.bind (dynposref15_Connected a0 a1 x4) fun x6 =>
        Option.bind (dynposref15_Connected a0 a1 x5) fun x7 =>
          Option.bind (dynposref15_Connected a0 a2 x4) fun x8 =>
            Option.bind (dynposref15_Connected a0 a2 x5) fun x9 =>
              Option.bind (if (!x8.2) = true then some true else some !x9.2) fun x10 =>
                if x10 = true then some (.inl ())
                else
                  Option.bind (dynposref15_Of a0 a2 x8.1) fun x11 =>
                    Option.bind (dynposref01_Has x11.2.1 x9.1) fun x12 =>
                      if (!x12) = true then some (.inl ())
                      else
                        Option.bind (if x6.2 = true then some x7.2 else some false) fun x13 =>
                          Option.bind
                            (if x13 = true then
                              Option.bind (dynposref15_Of a0 a1 x6.1) fun x14 =>
                                Option.bind (dynposref01_Has x14.2.1 x7.1) fun x15 =>
                                  if x15 = true then some (.inr (.inl ())) else some (.inl ())
                            else some (.inl ()))
                            fun x16 =>
                            Sum.elim
                              (fun x17 =>
                                Option.bind (idx a1.Sources x4) fun x18 =>
                                  Option.bind (idx a1.Sources x5) fun x19 =>
                                    Option.bind (dynposref16_Agree a0 x18 x19) fun x20 =>
                                      if (!x20) = true then some (.inr (.inr (.inr (.inr (.inr true)))))
                                      else some (.inl ()))
                              (fun x21 => some x21) x16)
      fun x22 => Sum.elim (fun x23 => some (.inl (W (x5 + 1)))) (fun x24 => some x24) x22
  else some (.inr (.inl ()))
noncomputable def dynposref16_Bad_L1 (a0 : Board) (a1 : Power) (a2 : Power) : Int →
  Option
    (Int ⊕
      Unit ⊕
        Bool) := fun x4 =>
  if decide (x4 < len a0.Sources) = true then
    Option.bind (loopO (dynposref16_Bad_L2 a0 a1 a2 x4) 0) fun x25 =>
      Sum.elim (fun x26 => some (.inl (W (x4 + 1)))) (fun x27 => some x27) x25
  else some (.inr (.inl ()))
noncomputable def dynposref16_Bad (a0 : Board) (a1 : Power) (a2 : Power) : Option (Bool) :=
  Option.bind
    (Option.bind (dynposref15_State a0 a1) fun x1 =>
      if (x1 != 0) = true then some true
      else Option.bind (dynposref15_State a0 a2) fun x2 => some (x2 != 0))
    fun x3 =>
    if x3 = true then some false
    else
      Option.bind (loopO (dynposref16_Bad_L1 a0 a1 a2) 0) fun x28 =>
        Sum.elim (fun x29 => some false) (fun x30 => some x30) x28
noncomputable def c31 : Con D := ⟨31, [.lf (.int .i64), .lf (.sl 5), .lf (.sl 6), .lf (.sl 7), .lf (.int .i64), .lf (.int .i64), .lf (.sl 1), .lf (.sl 10), .lf (.sl 0), .lf (.sl 11), .lf (.sl 1), .lf (.sl 10), .lf (.sl 0), .lf (.sl 11)], [.lf .bool], [.agg [.h 0 [], .h 1 [0], .h 2 [0], .h 3 [0], .h 4 [], .h 5 []], .agg [.h 6 [0], .h 7 [0], .h 8 [0], .h 9 [0]], .agg [.h 10 [0], .h 11 [0], .h 12 [0], .h 13 [0]]], [], [.one (.h 0 [])], [], fun h => dynposref16_Bad ⟨h.1, h.2.1, h.2.2.1, h.2.2.2.1, h.2.2.2.2.1, h.2.2.2.2.2.1⟩ ⟨h.2.2.2.2.2.2.1, h.2.2.2.2.2.2.2.1, h.2.2.2.2.2.2.2.2.1, h.2.2.2.2.2.2.2.2.2.1⟩ ⟨h.2.2.2.2.2.2.2.2.2.2.1, h.2.2.2.2.2.2.2.2.2.2.2.1, h.2.2.2.2.2.2.2.2.2.2.2.2.1, h.2.2.2.2.2.2.2.2.2.2.2.2.2⟩⟩
theorem c31_ok : ConOk Try.prog T c31 := fn_ok (Φ := [c9, c12, c14, c38, c64]) (rs := [.tmp 6]) (an := (.n none .o (.n none (.n none (.r (some (true, [(.normal, ⟨[.lf .bool], [(30, .one (.h 0 []))], [], [], 2320⟩)])) .nil) .o) (.n none (.n none .o (.n none (.loop ⟨[.lf (.int .i64)], [(34, .one (.h 0 []))], [], [], 2641⟩ false [(.exit 0, ⟨[], [], [], [], 2641⟩)] (.n none .o (.n none .o (.n none (.n none (.n none .o (.n none .o (.n none (.loop ⟨[.lf (.int .i64)], [(8, .one (.h 0 []))], [], [], 2962⟩ false [(.exit 2, ⟨[], [], [], [], 2962⟩)] (.n none .o (.n none (.n (some (false, [(.normal, ⟨[], [(73, .one (.any)), (74, .one (.any))], [], [], 3219⟩)])) (.n none .o (.n none .o (.n none .o (.n none .o (.n none (.n none (.r (some (true, [(.normal, ⟨[.lf .bool], [(73, .one (.any)), (74, .one (.any)), (75, .one (.h 0 []))], [], [], 5523⟩)])) .nil) .o) (.n none .o (.n none .o (.n none (.n none (.r (some (true, [(.normal, ⟨[.lf .bool], [(90, .one (.any)), (91, .one (.h 0 []))], [], [], 6548⟩)])) .nil) (.n (some (false, [(.normal, ⟨[], [], [], [], 6613⟩)])) .o .o)) .o)))))))) .o) .o))) .o))) .o) .o)))) .o)) .o)))) pOk repOk (AllC.mem (⟨c9_ok, c12_ok, c14_ok, c38_ok, c64_ok, trivial⟩ : AllC _ _ [c9, c12, c14, c38, c64])) hmix Try.call31 Try.func31 rfl rfl (by kernel_rfl) (fun h => by kernel_rfl)

noncomputable def dynposlaw19_RosterPossible_L2 (x2 : Int ×
  Int ×
    Int ×
      Int ×
        Int ×
          Int ×
            List Int ×
              Int ×
                List Breaker ×
                  List Source ×
                    List Consumer ×
                      List Bool ×
                        List Running ×
                          List Int ×
                            List
                              Part) (x6 : Int ×
  Int ×
    Int ×
      List
        Act) : Int × List Bool × List Running × List Int × List Part →
  Option
    (Int × List Bool × List Running × List Int × List Part ⊕
      List Bool × List Running × List Int × List Part ⊕
        Int × List Int × Int ⊕
          List Int × Int ⊕
            Bool) := fun x8 =>
  if decide (x8.1 < len x6.2.2.2) = true then
    Option.bind (idx x6.2.2.2 x8.1) fun x9 =>
      Option.bind
        (dynposlaw19_carry
          (Board.mk x2.1 x2.2.2.2.2.2.2.2.2.1 x2.2.2.2.2.2.2.2.2.2.1
            x2.2.2.2.2.2.2.2.2.2.2.1 x2.2.1 x2.2.2.1)
          (Power.mk x8.2.1 x8.2.2.1 x8.2.2.2.1 x8.2.2.2.2) x9)
        fun x10 =>
        Option.bind
          (if (x10.2.2.2.2 != 0) = true then some true
          else
            Option.bind
              (dynposref16_Bad
                (Board.mk x2.1 x2.2.2.2.2.2.2.2.2.1 x2.2.2.2.2.2.2.2.2.2.1
                  x2.2.2.2.2.2.2.2.2.2.2.1 x2.2.1 x2.2.2.1)
                (Power.mk x8.2.1 x8.2.2.1 x8.2.2.2.1 x8.2.2.2.2)
                (Power.mk x10.1 x10.2.1 x10.2.2.1 x10.2.2.2.1))
              fun x11 => some x11)
          fun x12 =>
          if x12 = true then some (.inr (.inr (.inr (.inr false))))
          else some (.inl (W (x8.1 + 1), x10.1, x10.2.1, x10.2.2.1, x10.2.2.2.1))
  else some (.inr (.inl (x8.2.1, x8.2.2.1, x8.2.2.2.1, x8.2.2.2.2)))
noncomputable def dynposlaw19_RosterPossible_L1 (x2 : Int ×
  Int ×
    Int ×
      Int ×
        Int ×
          Int ×
            List Int ×
              Int ×
                List Breaker ×
                  List Source ×
                    List Consumer ×
                      List Bool ×
                        List Running ×
                          List Int ×
                            List
                              Part) : Int × List Int × Int →
  Option
    (Int × List Int × Int ⊕
      List Int × Int ⊕
        Bool) := fun x3 =>
  if decide (x3.1 < x2.1) = true then
    Option.bind (Src_Range (Src.mk x3.2.1 x3.2.2) (-1) 10) fun x4 =>
      Option.bind (Src_Range (Src.mk x4.2.1 x4.2.2) (-1) 10) fun x5 =>
        Option.bind
          (roster_Step
            (Board.mk x2.1 x2.2.2.2.2.2.2.2.2.1 x2.2.2.2.2.2.2.2.2.2.1
              x2.2.2.2.2.2.2.2.2.2.2.1 x2.2.1 x2.2.2.1)
            (Table.mk x2.2.2.2.1 x2.2.2.2.2.1 x2.2.2.2.2.2.1)
            (Power.mk x2.2.2.2.2.2.2.2.2.2.2.2.1
              x2.2.2.2.2.2.2.2.2.2.2.2.2.1
              x2.2.2.2.2.2.2.2.2.2.2.2.2.2.1
              x2.2.2.2.2.2.2.2.2.2.2.2.2.2.2)
            x3.1 10 (Roster.mk x4.1 x5.1))
          fun x6 =>
          Option.bind
            (if (x6.2.2.1 != 0) = true then some true
            else some (decide (len x6.2.2.2 > 2)))
            fun x7 =>
            if x7 = true then some (.inr (.inr false))
            else
              Option.bind
                (loopO (dynposlaw19_RosterPossible_L2 x2 x6)
                  (0, x2.2.2.2.2.2.2.2.2.2.2.2.1,
                    x2.2.2.2.2.2.2.2.2.2.2.2.2.1,
                    x2.2.2.2.2.2.2.2.2.2.2.2.2.2.1,
                    x2.2.2.2.2.2.2.2.2.2.2.2.2.2.2))
                fun x13 =>
                Sum.elim (fun x14 => some (.inl (W (x3.1 + 1), x5.2.1, x5.2.2)))
                  (fun x15 => some x15) x13
  else some (.inr (.inl (x3.2.1, x3.2.2)))
noncomputable def dynposlaw19_RosterPossible (a0 : (List Int)) : Option (Bool) :=
  Option.bind (dynposmake_New a0) fun x1 =>
    Option.bind (dynposlaw19_world (Src.mk x1.1 x1.2)) fun x2 =>
      Option.bind
        (loopO (dynposlaw19_RosterPossible_L1 x2)
          (0, x2.2.2.2.2.2.2.1, x2.2.2.2.2.2.2.2.1))
        fun x16 => Sum.elim (fun x17 => Option.bind dynposlaw19_sane fun x18 => some x18) (fun x19 => some x19) x16
noncomputable def c5 : Con D := ⟨5, [.lf (.sl 0)], [.lf .bool], [.one (.h 0 [0])], [], [.one (.h 0 [])], [], fun h => dynposlaw19_RosterPossible h⟩
theorem c5_ok : ConOk Try.prog T c5 := fn_ok (Φ := [c7, c8, c15, c16, c19, c30, c31]) (rs := [.tmp 2]) (an := (.n none .o (.n none .o (.n none .o (.n none (.n none .o (.n none (.f [2328, 2329, 2330, 2331, 2332, 2333, 2334] (.loop ⟨[.lf (.int .i64), .lf (.sl 0), .lf (.int .i64)], [(7, .one (.h 0 []))], [(2136, .box [.h 1 [0, 1], .h 2 []])], [2136], 3152⟩ false [(.exit 0, ⟨[.lf (.sl 0), .lf (.int .i64)], [], [(2136, .box [.h 0 [0, 1], .h 1 []])], [2136], 3152⟩)] (.n none .o (.n none (.n none (.n none .o (.n none (.n none (.r (some (true, [(.normal, ⟨[.lf .bool], [(47, .one (.any)), (48, .one (.any)), (49, .one (.any)), (50, .one (.h 0 []))], [], [], 4627⟩)])) .nil) .o) (.n none .o (.n none .o (.n none (.loop ⟨[.lf (.int .i64), .lf (.sl 1), .lf (.sl 10), .lf (.sl 0), .lf (.sl 11)], [(54, .one (.h 0 []))], [(4692, .box [.h 1 [0, 1], .h 2 [0, 1], .h 3 [0, 1], .h 4 [0, 1]])], [4692], 5076⟩ false [(.exit 2, ⟨[.lf (.sl 1), .lf (.sl 10), .lf (.sl 0), .lf (.sl 11)], [], [(4692, .box [.h 0 [0, 1], .h 1 [0, 1], .h 2 [0, 1], .h 3 [0, 1]])], [4692], 5076⟩)] (.n none .o (.n none .o (.n none (.n none (.n none .o (.n none .o (.n none (.n none (.r (some (true, [(.normal, ⟨[.lf .bool], [(68, .one (.any)), (69, .one (.any)), (70, .one (.any)), (71, .one (.any)), (72, .one (.h 0 []))], [], [], 6105⟩)])) .nil) .o) .o))) .o) .o)))) .o))))) .o) .o)))) .o)) .o))))) pOk repOk (AllC.mem (⟨c7_ok, c8_ok, c15_ok, c16_ok, c19_ok, c30_ok, c31_ok, trivial⟩ : AllC _ _ [c7, c8, c15, c16, c19, c30, c31])) hmix Try.call5 Try.func5 rfl rfl (by kernel_rfl) (fun h => by kernel_rfl)

noncomputable def dynposref17_Load_L1 (a1 : Power) (x1 : Bool ×
  List Int ×
    List Int ×
      List
        Int) : Int × Int →
  Option
    (Int × Int ⊕
      Int) := fun x3 =>
  if decide (x3.2 < len x1.2.2.2) = true then
    Option.bind (idx x1.2.2.2 x3.2) fun x4 =>
      Option.bind (idx a1.Limits x4) fun x5 => some (.inl (W (x3.1 + x5), W (x3.2 + 1)))
  else some (.inr x3.1)
noncomputable def dynposref17_Load (a0 : Board) (a1 : Power) (a2 : Int) : Option (Int) :=
  Option.bind (dynposref15_Of a0 a1 a2) fun x1 =>
    Option.bind (if (!x1.1) = true then some true else some (len x1.2.2.1 == 0)) fun x2 =>
      if x2 = true then some 0
      else Option.bind (loopO (dynposref17_Load_L1 a1 x1) (0, 0)) fun x6 => some x6
noncomputable def c56 : Con D := ⟨56, [.lf (.int .i64), .lf (.sl 5), .lf (.sl 6), .lf (.sl 7), .lf (.int .i64), .lf (.int .i64), .lf (.sl 1), .lf (.sl 10), .lf (.sl 0), .lf (.sl 11), .lf (.int .i64)], [.lf (.int .i64)], [.agg [.h 0 [], .h 1 [0], .h 2 [0], .h 3 [0], .h 4 [], .h 5 []], .agg [.h 6 [0], .h 7 [0], .h 8 [0], .h 9 [0]], .one (.h 10 [])], [], [.one (.h 0 [])], [], fun h => dynposref17_Load ⟨h.1, h.2.1, h.2.2.1, h.2.2.2.1, h.2.2.2.2.1, h.2.2.2.2.2.1⟩ ⟨h.2.2.2.2.2.2.1, h.2.2.2.2.2.2.2.1, h.2.2.2.2.2.2.2.2.1, h.2.2.2.2.2.2.2.2.2.1⟩ h.2.2.2.2.2.2.2.2.2.2⟩
theorem c56_ok : ConOk Try.prog T c56 := fn_ok (Φ := [c9]) (rs := [.tmp 6]) (an := (.n none .o (.n none .o (.n none (.n none (.r (some (true, [(.normal, ⟨[.lf .bool], [(26, .one (.h 0 []))], [], [], 2896⟩)])) .nil) .o) (.n none .o (.n none (.n none .o (.n none (.loop ⟨[.lf (.int .i64), .lf (.int .i64)], [(9, .one (.h 0 [])), (30, .one (.h 1 []))], [], [], 3281⟩ true [(.exit 0, ⟨[.lf (.int .i64)], [(9, .one (.h 0 []))], [], [], 3281⟩)] .o) .o)) .o)))))) pOk repOk (AllC.mem (⟨c9_ok, trivial⟩ : AllC _ _ [c9])) hmix Try.call56 Try.func56 rfl rfl (by kernel_rfl) (fun h => by kernel_rfl)

noncomputable def dynposref17_Rating_L1 (a0 : Board) (x1 : Bool ×
  List Int ×
    List Int ×
      List
        Int) : Int × Int →
  Option
    (Int × Int ⊕
      Int) := fun x2 =>
  if decide (x2.2 < len x1.2.2.1) = true then
    Option.bind (idx x1.2.2.1 x2.2) fun x3 =>
      Option.bind (idx a0.Sources x3) fun x4 => some (.inl (W (x2.1 + x4.Rating), W (x2.2 + 1)))
  else some (.inr x2.1)
noncomputable def dynposref17_Rating (a0 : Board) (a1 : Power) (a2 : Int) : Option (Int) :=
  Option.bind (dynposref15_Of a0 a1 a2) fun x1 =>
    Option.bind (loopO (dynposref17_Rating_L1 a0 x1) (0, 0)) fun x5 => some x5
noncomputable def c57 : Con D := ⟨57, [.lf (.int .i64), .lf (.sl 5), .lf (.sl 6), .lf (.sl 7), .lf (.int .i64), .lf (.int .i64), .lf (.sl 1), .lf (.sl 10), .lf (.sl 0), .lf (.sl 11), .lf (.int .i64)], [.lf (.int .i64)], [.agg [.h 0 [], .h 1 [0], .h 2 [0], .h 3 [0], .h 4 [], .h 5 []], .agg [.h 6 [0], .h 7 [0], .h 8 [0], .h 9 [0]], .one (.h 10 [])], [], [.one (.h 0 [])], [], fun h => dynposref17_Rating ⟨h.1, h.2.1, h.2.2.1, h.2.2.2.1, h.2.2.2.2.1, h.2.2.2.2.2.1⟩ ⟨h.2.2.2.2.2.2.1, h.2.2.2.2.2.2.2.1, h.2.2.2.2.2.2.2.2.1, h.2.2.2.2.2.2.2.2.2.1⟩ h.2.2.2.2.2.2.2.2.2.2⟩
theorem c57_ok : ConOk Try.prog T c57 := fn_ok (Φ := [c9]) (rs := [.tmp 6]) (an := (.n none .o (.n none .o (.n none .o (.n none (.n none .o (.n none (.loop ⟨[.lf (.int .i64), .lf (.int .i64)], [(9, .one (.h 0 [])), (22, .one (.h 1 []))], [], [], 3216⟩ true [(.exit 0, ⟨[.lf (.int .i64)], [(9, .one (.h 0 []))], [], [], 3216⟩)] .o) .o)) .o))))) pOk repOk (AllC.mem (⟨c9_ok, trivial⟩ : AllC _ _ [c9])) hmix Try.call57 Try.func57 rfl rfl (by kernel_rfl) (fun h => by kernel_rfl)

noncomputable def dynposref17_Overloaded (a0 : Board) (a1 : Power) (a2 : Int) : Option (Bool) :=
  Option.bind (dynposref17_Load a0 a1 a2) fun x1 =>
    Option.bind (dynposref17_Rating a0 a1 a2) fun x2 => some (decide (x1 > x2))
noncomputable def c33 : Con D := ⟨33, [.lf (.int .i64), .lf (.sl 5), .lf (.sl 6), .lf (.sl 7), .lf (.int .i64), .lf (.int .i64), .lf (.sl 1), .lf (.sl 10), .lf (.sl 0), .lf (.sl 11), .lf (.int .i64)], [.lf .bool], [.agg [.h 0 [], .h 1 [0], .h 2 [0], .h 3 [0], .h 4 [], .h 5 []], .agg [.h 6 [0], .h 7 [0], .h 8 [0], .h 9 [0]], .one (.h 10 [])], [], [.one (.h 0 [])], [], fun h => dynposref17_Overloaded ⟨h.1, h.2.1, h.2.2.1, h.2.2.2.1, h.2.2.2.2.1, h.2.2.2.2.2.1⟩ ⟨h.2.2.2.2.2.2.1, h.2.2.2.2.2.2.2.1, h.2.2.2.2.2.2.2.2.1, h.2.2.2.2.2.2.2.2.2.1⟩ h.2.2.2.2.2.2.2.2.2.2⟩
theorem c33_ok : ConOk Try.prog T c33 := fn_ok (Φ := [c56, c57]) (rs := [.tmp 6]) (an := .o) pOk repOk (AllC.mem (⟨c56_ok, c57_ok, trivial⟩ : AllC _ _ [c56, c57])) hmix Try.call33 Try.func33 rfl rfl (by kernel_rfl) (fun h => by kernel_rfl)

noncomputable def dynposref15_Live (a0 : Board) (a1 : Power) (a2 : Int) : Option (Bool) :=
  Option.bind (dynposref15_Of a0 a1 a2) fun x1 =>
    Option.bind (if x1.1 = true then some (decide (len x1.2.2.1 > 0)) else some false) fun x2 =>
      some x2
noncomputable def c34 : Con D := ⟨34, [.lf (.int .i64), .lf (.sl 5), .lf (.sl 6), .lf (.sl 7), .lf (.int .i64), .lf (.int .i64), .lf (.sl 1), .lf (.sl 10), .lf (.sl 0), .lf (.sl 11), .lf (.int .i64)], [.lf .bool], [.agg [.h 0 [], .h 1 [0], .h 2 [0], .h 3 [0], .h 4 [], .h 5 []], .agg [.h 6 [0], .h 7 [0], .h 8 [0], .h 9 [0]], .one (.h 10 [])], [], [.one (.h 0 [])], [], fun h => dynposref15_Live ⟨h.1, h.2.1, h.2.2.1, h.2.2.2.1, h.2.2.2.2.1, h.2.2.2.2.2.1⟩ ⟨h.2.2.2.2.2.2.1, h.2.2.2.2.2.2.2.1, h.2.2.2.2.2.2.2.2.1, h.2.2.2.2.2.2.2.2.2.1⟩ h.2.2.2.2.2.2.2.2.2.2⟩
theorem c34_ok : ConOk Try.prog T c34 := fn_ok (Φ := [c9]) (rs := [.tmp 6]) (an := (.n none .o (.n none .o (.n none (.r (some (true, [(.normal, ⟨[.lf .bool], [(6, .one (.h 0 []))], [], [], 2896⟩)])) .nil) .o)))) pOk repOk (AllC.mem (⟨c9_ok, trivial⟩ : AllC _ _ [c9])) hmix Try.call34 Try.func34 rfl rfl (by kernel_rfl) (fun h => by kernel_rfl)

noncomputable def dynposlaw19_RosterCalm_L1 (x2 : Int ×
  Int ×
    Int ×
      Int ×
        Int ×
          Int ×
            List Int ×
              Int ×
                List Breaker ×
                  List Source ×
                    List Consumer ×
                      List Bool ×
                        List Running ×
                          List Int ×
                            List
                              Part) : Int ×
    List Int × Int × List Bool × List Running × List Int × List Part × Int × Int × Int →
  Option
    (Int × List Int × Int × List Bool × List Running × List Int × List Part × Int × Int × Int ⊕
      List Int × Int × List Bool × List Running × List Int × List Part × Int × Int × Int ⊕
        Bool) := fun x3 =>
  if decide (x3.1 < x2.1) = true then
    Option.bind
      (roster_Low
        (Board.mk x2.1 x2.2.2.2.2.2.2.2.2.1 x2.2.2.2.2.2.2.2.2.2.1
          x2.2.2.2.2.2.2.2.2.2.2.1 x2.2.1 x2.2.2.1)
        (Table.mk x3.2.2.2.2.2.2.2.1 x3.2.2.2.2.2.2.2.2.1
          x3.2.2.2.2.2.2.2.2.2)
        (Power.mk x3.2.2.2.1 x3.2.2.2.2.1 x3.2.2.2.2.2.1 x3.2.2.2.2.2.2.1)
        x3.1)
      fun x4 =>
      Option.bind
        (if x4.2 = true then
          Option.bind
            (dynposref15_Copy
              (Power.mk x3.2.2.2.1 x3.2.2.2.2.1 x3.2.2.2.2.2.1
                x3.2.2.2.2.2.2.1))
            fun x5 =>
            Option.bind
              (dynposref15_Find
                (Board.mk x2.1 x2.2.2.2.2.2.2.2.2.1 x2.2.2.2.2.2.2.2.2.2.1
                  x2.2.2.2.2.2.2.2.2.2.2.1 x2.2.1 x2.2.2.1)
                2 x4.1)
              fun x6 =>
              Option.bind (idx x6 0) fun x7 =>
                Option.bind (idx x5.2.2.2.2.1 x7) fun x8 =>
                  Option.bind (idx x5.2.2.2.2.1 x7) fun x9 =>
                    Option.bind (setO x5.2.2.2.2.1 x7 false) fun x10 =>
                      Option.bind
                        (dynposref15_Connected
                          (Board.mk x2.1 x2.2.2.2.2.2.2.2.2.1
                            x2.2.2.2.2.2.2.2.2.2.1 x2.2.2.2.2.2.2.2.2.2.2.1
                            x2.2.1 x2.2.2.1)
                          (Power.mk x5.1 x5.2.1 x5.2.2.1 x5.2.2.2.1) x4.1)
                        fun x11 =>
                        Option.bind
                          (Option.bind
                            (roster_High
                              (Board.mk x2.1 x2.2.2.2.2.2.2.2.2.1
                                x2.2.2.2.2.2.2.2.2.2.1
                                x2.2.2.2.2.2.2.2.2.2.2.1 x2.2.1 x2.2.2.1)
                              (Table.mk x3.2.2.2.2.2.2.2.1 x3.2.2.2.2.2.2.2.2.1
                                x3.2.2.2.2.2.2.2.2.2)
                              (Power.mk x10 x5.2.2.2.2.2.1 x5.2.2.2.2.2.2.1
                                x5.2.2.2.2.2.2.2)
                              x11.1)
                            fun x12 =>
                            if x12 = true then some true
                            else
                              Option.bind
                                (dynposref17_Overloaded
                                  (Board.mk x2.1 x2.2.2.2.2.2.2.2.2.1
                                    x2.2.2.2.2.2.2.2.2.2.1
                                    x2.2.2.2.2.2.2.2.2.2.2.1 x2.2.1 x2.2.2.1)
                                  (Power.mk x10 x5.2.2.2.2.2.1 x5.2.2.2.2.2.2.1
                                    x5.2.2.2.2.2.2.2)
                                  x11.1)
                                fun x13 =>
                                if x13 = true then some true
                                else
                                  Option.bind
                                    (dynposref15_Live
                                      (Board.mk x2.1 x2.2.2.2.2.2.2.2.2.1
                                        x2.2.2.2.2.2.2.2.2.2.1
                                        x2.2.2.2.2.2.2.2.2.2.2.1 x2.2.1 x2.2.2.1)
                                      (Power.mk x10 x5.2.2.2.2.2.1 x5.2.2.2.2.2.2.1
                                        x5.2.2.2.2.2.2.2)
                                      x11.1)
                                    fun x14 =>
                                    if (!x14) = true then some true
                                    else
                                      Option.bind
                                        (roster_High
                                          (Board.mk x2.1 x2.2.2.2.2.2.2.2.2.1
                                            x2.2.2.2.2.2.2.2.2.2.1
                                            x2.2.2.2.2.2.2.2.2.2.2.1 x2.2.1 x2.2.2.1)
                                          (Table.mk x3.2.2.2.2.2.2.2.1
                                            x3.2.2.2.2.2.2.2.2.1
                                            x3.2.2.2.2.2.2.2.2.2)
                                          (Power.mk x5.1 x5.2.1 x5.2.2.1 x5.2.2.2.1) x3.1)
                                        fun x15 => some x15)
                          fun x16 =>
                          if x16 = true then some (.inr (.inr (.inr false)))
                          else some (.inl (x5.1, x5.2.1, x5.2.2.1, x5.2.2.2.1))
        else
          some
            (.inl
              (x3.2.2.2.1, x3.2.2.2.2.1, x3.2.2.2.2.2.1, x3.2.2.2.2.2.2.1)))
        fun x17 =>
        Sum.elim
          (fun x18 =>
            Option.bind (Src_Range (Src.mk x3.2.1 x3.2.2.1) 7 10) fun x19 =>
              Option.bind (Src_Range (Src.mk x19.2.1 x19.2.2) 7 10) fun x20 =>
                Option.bind
                  (roster_Step
                    (Board.mk x2.1 x2.2.2.2.2.2.2.2.2.1 x2.2.2.2.2.2.2.2.2.2.1
                      x2.2.2.2.2.2.2.2.2.2.2.1 x2.2.1 x2.2.2.1)
                    (Table.mk x3.2.2.2.2.2.2.2.1 x3.2.2.2.2.2.2.2.2.1 4)
                    (Power.mk x18.1 x18.2.1 x18.2.2.1 x18.2.2.2) x3.1 10
                    (Roster.mk x19.1 x20.1))
                  fun x21 =>
                  Option.bind
                    (roster_Step
                      (Board.mk x2.1 x2.2.2.2.2.2.2.2.2.1 x2.2.2.2.2.2.2.2.2.2.1
                        x2.2.2.2.2.2.2.2.2.2.2.1 x2.2.1 x2.2.2.1)
                      (Table.mk x3.2.2.2.2.2.2.2.1 x3.2.2.2.2.2.2.2.2.1 4)
                      (Power.mk x18.1 x18.2.1 x18.2.2.1 x18.2.2.2) x3.1 10
                      (Roster.mk (-1) (-1)))
                    fun x22 =>
                    Option.bind
                      (if (x21.2.2.1 != 0) = true then some true
                      else
                        if (x22.2.2.1 != 0) = true then some true
                        else
                          if decide (len x21.2.2.2 > 0) = true then some true
                          else some (decide (len x22.2.2.2 > 0)))
                      fun x23 =>
                      if x23 = true then some (.inr (.inr false))
                      else
                        some
                          (.inl
                            (W (x3.1 + 1), x20.2.1, x20.2.2, x18.1, x18.2.1, x18.2.2.1,
                              x18.2.2.2, x3.2.2.2.2.2.2.2.1,
                              x3.2.2.2.2.2.2.2.2.1, 4)))
          (fun x24 => some x24) x17
  else
    some
      (.inr
        (.inl
          (x3.2.1, x3.2.2.1, x3.2.2.2.1, x3.2.2.2.2.1, x3.2.2.2.2.2.1,
            x3.2.2.2.2.2.2.1, x3.2.2.2.2.2.2.2.1, x3.2.2.2.2.2.2.2.2.1,
            x3.2.2.2.2.2.2.2.2.2)))
noncomputable def dynposlaw19_RosterCalm (a0 : (List Int)) : Option (Bool) :=
  Option.bind (dynposmake_New a0) fun x1 =>
    Option.bind (dynposlaw19_world (Src.mk x1.1 x1.2)) fun x2 =>
      Option.bind
        (loopO (dynposlaw19_RosterCalm_L1 x2)
          (0, x2.2.2.2.2.2.2.1, x2.2.2.2.2.2.2.2.1,
            x2.2.2.2.2.2.2.2.2.2.2.2.1, x2.2.2.2.2.2.2.2.2.2.2.2.2.1,
            x2.2.2.2.2.2.2.2.2.2.2.2.2.2.1,
            x2.2.2.2.2.2.2.2.2.2.2.2.2.2.2, x2.2.2.2.1, x2.2.2.2.2.1,
            x2.2.2.2.2.2.1))
        fun x25 => Sum.elim (fun x26 => Option.bind dynposlaw19_sane fun x27 => some x27) (fun x28 => some x28) x25
noncomputable def c6 : Con D := ⟨6, [.lf (.sl 0)], [.lf .bool], [.one (.h 0 [0])], [], [.one (.h 0 [])], [], fun h => dynposlaw19_RosterCalm h⟩
theorem c6_ok : ConOk Try.prog T c6 := fn_ok (Φ := [c7, c8, c11, c12, c15, c16, c19, c23, c26, c32, c33, c34]) (rs := [.tmp 2]) (an := (.n none .o (.n none .o (.n none .o (.n none (.n none .o (.n none (.loop ⟨[.lf (.int .i64), .lf (.sl 0), .lf (.int .i64), .lf (.sl 1), .lf (.sl 10), .lf (.sl 0), .lf (.sl 11), .lf (.int .i64), .lf (.int .i64), .lf (.int .i64)], [(7, .one (.h 0 []))], [(2136, .box [.h 1 [0, 1], .h 2 []]), (2331, .sl 1 4 3 [0, 1]), (2332, .sl 10 51 4 [0, 1]), (2333, .sl 0 3 5 [0, 1]), (2334, .sl 11 91 6 [0, 1]), (2704, .box [.h 7 [], .h 8 [], .h 9 []])], [2136, 2331, 2332, 2333, 2334, 2704], 3152⟩ false [(.exit 0, ⟨[.lf (.sl 0), .lf (.int .i64), .lf (.sl 1), .lf (.sl 10), .lf (.sl 0), .lf (.sl 11), .lf (.int .i64), .lf (.int .i64), .lf (.int .i64)], [], [(2136, .box [.h 0 [0, 1], .h 1 []]), (2331, .sl 1 4 2 [0, 1]), (2332, .sl 10 51 3 [0, 1]), (2333, .sl 0 3 4 [0, 1]), (2334, .sl 11 91 5 [0, 1]), (2704, .box [.h 6 [], .h 7 [], .h 8 []])], [2136, 2331, 2332, 2333, 2334, 2704], 3152⟩)] (.n none .o (.n none (.n none (.n none .o (.n none (.n none .o (.n (some (false, [(.normal, ⟨[.lf (.sl 1), .lf (.sl 10), .lf (.sl 0), .lf (.sl 11)], [], [(2331, .sl 1 4 0 [0, 1]), (2332, .sl 10 51 1 [0, 1]), (2333, .sl 0 3 2 [0, 1]), (2334, .sl 11 91 3 [0, 1])], [2331, 2332, 2333, 2334], 4186⟩)])) (.n none .o (.n none .o (.n none .o (.n none (.r (some (true, [(.normal, ⟨[.lf .bool], [(65, .one (.any)), (66, .one (.any)), (67, .one (.any)), (68, .one (.any)), (71, .one (.any)), (72, .one (.any)), (73, .one (.any)), (74, .one (.any)), (75, .one (.any)), (78, .one (.any)), (79, .one (.any)), (80, .one (.any)), (81, .one (.any)), (82, .one (.any)), (83, .one (.h 0 []))], [], [], 5594⟩)])) .nil) .o)))) .o)) (.n none .o (.n none .o (.n none .o (.n none (.r (some (true, [(.normal, ⟨[.lf .bool], [(112, .one (.any)), (113, .one (.any)), (116, .one (.any)), (117, .one (.any)), (118, .one (.any)), (121, .one (.any)), (122, .one (.any)), (123, .one (.any)), (124, .one (.h 0 []))], [], [], 6430⟩)])) .nil) .o)))))) .o) .o))) .o)) .o))))) pOk repOk (AllC.mem (⟨c7_ok, c8_ok, c11_ok, c12_ok, c15_ok, c16_ok, c19_ok, c23_ok, c26_ok, c32_ok, c33_ok, c34_ok, trivial⟩ : AllC _ _ [c7, c8, c11, c12, c15, c16, c19, c23, c26, c32, c33, c34])) hmix Try.call6 Try.func6 rfl rfl (by kernel_rfl) (fun h => by kernel_rfl)

end Rx
end Go.Proofs.Ytkcjbcmpnoaghaa
