/- Plain functions, walks. Written by a program (wip/gen). -/
import Derived.Test.YtdfkfohpgakihaaRt
import Derived.Test.YtdfkfohpgakihaaRg1
import Derived.Test.YtdfkfohpgakihaaRg2
import Derived.Test.YtdfkfohpgakihaaRg3
set_option linter.unusedVariables false
set_option maxRecDepth 100000
namespace Go.Proofs.Ytdfkfohpgakihaa
open Go Go.RowKit Dp
namespace Rx

noncomputable def dynposlaw16_SyncFollows_L2 (x2 : Int ×
  Int ×
    Int ×
      List Int ×
        Int ×
          List Breaker ×
            List Source ×
              List Consumer ×
                List Bool ×
                  List Running ×
                    List Int ×
                      List
                        Part) (x3 : Int ×
  List Bool ×
    List Running ×
      List Int ×
        List
          Part) (x12 : Island) : Int →
  Option
    (Int ⊕
      Unit ⊕
        Int ⊕
          Unit ⊕
            Bool) := fun x13 =>
  if decide (x13 < len x12.Sources) = true then
    Option.bind (idx x12.Sources x13) fun x14 =>
      Option.bind (idx x12.Buses 0) fun x15 =>
        Option.bind
          (sync_Leader
            (Board.mk x2.1 x2.2.2.2.2.2.1 x2.2.2.2.2.2.2.1
              x2.2.2.2.2.2.2.2.1 x2.2.1 x2.2.2.1)
            (Power.mk x3.2.1 x3.2.2.1 x3.2.2.2.1 x3.2.2.2.2) x15)
          fun x16 =>
          Option.bind
            (if (!x16.2) = true then some true
            else
              Option.bind (idx x12.Sources 0) fun x17 =>
                if (x16.1 != x17) = true then some true
                else
                  Option.bind (idx x3.2.2.1 x14) fun x18 =>
                    Option.bind (idx x3.2.2.1 x16.1) fun x19 =>
                      if (x18.Phase != x19.Phase) = true then some true
                      else
                        Option.bind (idx x3.2.2.1 x14) fun x20 =>
                          Option.bind (idx x3.2.2.1 x16.1) fun x21 =>
                            if (x20.Frequency != x21.Frequency) = true then some true
                            else
                              Option.bind (idx x3.2.2.1 x14) fun x22 =>
                                Option.bind (idx x3.2.2.1 x16.1) fun x23 =>
                                  Option.bind
                                    (sync_Agree
                                      (Board.mk x2.1 x2.2.2.2.2.2.1 x2.2.2.2.2.2.2.1
                                        x2.2.2.2.2.2.2.2.1 x2.2.1 x2.2.2.1)
                                      x22 x23)
                                    fun x24 => some !x24)
            fun x25 =>
            if x25 = true then some (.inr (.inr (.inr (.inr false))))
            else some (.inl (W (x13 + 1)))
  else some (.inr (.inl ()))
noncomputable def dynposlaw16_SyncFollows_L1 (x2 : Int ×
  Int ×
    Int ×
      List Int ×
        Int ×
          List Breaker ×
            List Source ×
              List Consumer ×
                List Bool ×
                  List Running ×
                    List Int ×
                      List
                        Part) (x3 : Int ×
  List Bool ×
    List Running ×
      List Int ×
        List
          Part) (x10 : List
  Island) : Int →
  Option
    (Int ⊕
      Unit ⊕
        Bool) := fun x11 =>
  if decide (x11 < len x10) = true then
    Option.bind (idx x10 x11) fun x12 =>
      Option.bind (loopO (dynposlaw16_SyncFollows_L2 x2 x3 x12) 0) fun x26 =>
        Sum.elim (fun x27 => some (.inl (W (x11 + 1)))) (fun x28 => some x28) x26
  else some (.inr (.inl ()))
noncomputable def dynposlaw16_SyncFollows (a0 : (List Int)) : Option (Bool) :=
  Option.bind (dynposmake_New a0) fun x1 =>
    Option.bind (dynposlaw16_world (Src.mk x1.1 x1.2)) fun x2 =>
      Option.bind
        (sync_Follow
          (Board.mk x2.1 x2.2.2.2.2.2.1 x2.2.2.2.2.2.2.1 x2.2.2.2.2.2.2.2.1
            x2.2.1 x2.2.2.1)
          (Power.mk x2.2.2.2.2.2.2.2.2.1 x2.2.2.2.2.2.2.2.2.2.1
            x2.2.2.2.2.2.2.2.2.2.2.1 x2.2.2.2.2.2.2.2.2.2.2.2))
        fun x3 =>
        Option.bind
          (sync_Follow
            (Board.mk x2.1 x2.2.2.2.2.2.1 x2.2.2.2.2.2.2.1
              x2.2.2.2.2.2.2.2.1 x2.2.1 x2.2.2.1)
            (Power.mk x3.2.1 x3.2.2.1 x3.2.2.2.1 x3.2.2.2.2))
          fun x4 =>
          Option.bind
            (sync_Turn
              (Board.mk x2.1 x2.2.2.2.2.2.1 x2.2.2.2.2.2.2.1
                x2.2.2.2.2.2.2.2.1 x2.2.1 x2.2.2.1)
              (Power.mk x3.2.1 x3.2.2.1 x3.2.2.2.1 x3.2.2.2.2))
            fun x5 =>
            Option.bind
              (sync_Follow
                (Board.mk x2.1 x2.2.2.2.2.2.1 x2.2.2.2.2.2.2.1
                  x2.2.2.2.2.2.2.2.1 x2.2.1 x2.2.2.1)
                (Power.mk x5.2.1 x5.2.2.1 x5.2.2.2.1 x5.2.2.2.2))
              fun x6 =>
              Option.bind
                (if (x3.1 != 0) = true then some true
                else
                  if (x4.1 != 0) = true then some true
                  else
                    if (x5.1 != 0) = true then some true
                    else
                      if (x6.1 != 0) = true then some true
                      else
                        Option.bind
                          (dynposref15_Same (Power.mk x3.2.1 x3.2.2.1 x3.2.2.2.1 x3.2.2.2.2)
                            (Power.mk x4.2.1 x4.2.2.1 x4.2.2.2.1 x4.2.2.2.2))
                          fun x7 =>
                          if (!x7) = true then some true
                          else
                            Option.bind
                              (dynposref15_Same
                                (Power.mk x5.2.1 x5.2.2.1 x5.2.2.2.1 x5.2.2.2.2)
                                (Power.mk x6.2.1 x6.2.2.1 x6.2.2.2.1 x6.2.2.2.2))
                              fun x8 => some !x8)
                fun x9 =>
                if x9 = true then some false
                else
                  Option.bind
                    (dynposref15_Islands
                      (Board.mk x2.1 x2.2.2.2.2.2.1 x2.2.2.2.2.2.2.1
                        x2.2.2.2.2.2.2.2.1 x2.2.1 x2.2.2.1)
                      (Power.mk x3.2.1 x3.2.2.1 x3.2.2.2.1 x3.2.2.2.2))
                    fun x10 =>
                    Option.bind (loopO (dynposlaw16_SyncFollows_L1 x2 x3 x10) 0) fun x29 =>
                      Sum.elim (fun x30 => Option.bind dynposlaw16_sane fun x31 => some x31) (fun x32 => some x32) x29
noncomputable def c3 : Con D := ⟨3, [.lf (.sl 0)], [.lf .bool], [.one (.h 0 [0])], [], [.one (.h 0 [])], [], fun h => dynposlaw16_SyncFollows h⟩
theorem c3_ok : ConOk Try.prog T c3 := fn_ok (Φ := [c9, c10, c11, c12, c13, c14, c15, c16, c17]) (rs := [.tmp 2]) (an := (.n none .o (.n none .o (.n none .o (.n none .o (.n none .o (.n none .o (.n none .o (.n none (.n none (.r (some (true, [(.normal, ⟨[.lf .bool], [(76, .one (.h 0 []))], [], [], 5200⟩)])) .nil) .o) (.n none (.n none .o (.n none (.loop ⟨[.lf (.int .i64)], [(81, .one (.h 0 []))], [], [], 5585⟩ false [(.exit 0, ⟨[], [], [], [], 5585⟩)] (.n none .o (.n none .o (.n none (.n none (.n none .o (.n none .o (.n none (.loop ⟨[.lf (.int .i64)], [(88, .one (.h 0 []))], [], [], 6226⟩ false [(.exit 2, ⟨[], [], [], [], 6226⟩)] (.n none .o (.n none .o (.n none (.n none (.n none .o (.n none .o (.n none (.r (some (true, [(.normal, ⟨[.lf .bool], [(105, .one (.any)), (106, .one (.any)), (107, .one (.any)), (108, .one (.any)), (109, .one (.any)), (110, .one (.any)), (113, .one (.any)), (114, .one (.any)), (115, .one (.any)), (116, .one (.any)), (117, .one (.any)), (118, .one (.any)), (119, .one (.any)), (120, .one (.any)), (121, .one (.any)), (122, .one (.any)), (123, .one (.any)), (124, .one (.any)), (125, .one (.any)), (128, .one (.any)), (129, .one (.any)), (130, .one (.any)), (131, .one (.any)), (132, .one (.any)), (133, .one (.any)), (134, .one (.any)), (135, .one (.any)), (136, .one (.any)), (137, .one (.any)), (138, .one (.any)), (139, .one (.any)), (140, .one (.any)), (143, .one (.any)), (144, .one (.any)), (145, .one (.any)), (146, .one (.any)), (147, .one (.any)), (148, .one (.any)), (149, .one (.any)), (150, .one (.any)), (151, .one (.any)), (152, .one (.any)), (153, .one (.any)), (154, .one (.any)), (155, .one (.any)), (156, .one (.h 0 []))], [], [], 7315⟩)])) .nil) .o))) .o) .o)))) .o))) .o) .o)))) .o)) .o)))))))))) pOk repOk (AllC.mem (⟨c9_ok, c10_ok, c11_ok, c12_ok, c13_ok, c14_ok, c15_ok, c16_ok, c17_ok, trivial⟩ : AllC _ _ [c9, c10, c11, c12, c13, c14, c15, c16, c17])) hmix Try.call3 Try.func3 rfl rfl (by kernel_rfl) (fun h => by kernel_rfl)

noncomputable def dynposref02_Norm (a0 : Int) : Option (Int) :=
  Option.bind (remO a0 3600) fun x1 =>
    Option.bind (remO (W (x1 + 3600)) 3600) fun x2 => some x2
noncomputable def c20 : Con D := ⟨20, [.lf (.int .i64)], [.lf (.int .i64)], [.one (.h 0 [])], [], [.one (.h 0 [])], [], fun h => dynposref02_Norm h⟩
theorem c20_ok : ConOk Try.prog T c20 := fn_ok (Φ := []) (rs := [.tmp 2]) (an := .o) pOk repOk (AllC.mem (l := []) trivial) hmix Try.call20 Try.func20 rfl rfl (by kernel_rfl) (fun h => by kernel_rfl)

noncomputable def dynposlaw16_SyncTurns_L1 : Int × List Bool × List Running × List Int × List Part →
  Option
    (Int × List Bool × List Running × List Int × List Part ⊕
      List Bool × List Running × List Int × List Part ⊕ Bool) := fun x11 => none
noncomputable def dynposlaw16_SyncTurns (a0 : (List Int)) (a1 : Int) : Option (Bool) :=
  Option.bind dynposlaw16_pair fun x1 =>
    Option.bind (dynposmake_New a0) fun x2 =>
      Option.bind (Src_Range (Src.mk x2.1 x2.2) 4900 5100) fun x3 =>
        Option.bind (Src_Range (Src.mk x3.2.1 x3.2.2) 4900 5100) fun x4 =>
          Option.bind (idx x1.2.2.2.2.2.2 0) fun x5 =>
            Option.bind (idx x1.2.2.2.2.2.2 0) fun x6 =>
              Option.bind (setO x1.2.2.2.2.2.2 0 (Running.mk x6.State x6.Since x3.1 x6.Phase))
                fun x7 =>
                Option.bind (idx x7 1) fun x8 =>
                  Option.bind (idx x7 1) fun x9 =>
                    Option.bind (setO x7 1 (Running.mk x9.State x9.Since x4.1 x9.Phase)) fun x10 =>
                      Option.bind
                        (loopO dynposlaw16_SyncTurns_L1 (0, x1.2.2.2.2.2.1, x10, [], []))
                        fun x12 => Sum.elim (fun x13 => none) (fun x14 => some x14) x12
noncomputable def c4 : Con D := ⟨4, [.lf (.sl 0), .lf (.int .u8)], [.lf .bool], [.one (.h 0 [0]), .one (.h 1 [])], [], [.one (.h 0 [])], [], fun h => dynposlaw16_SyncTurns h.1 h.2⟩
theorem c4_ok : ConOk Try.prog T c4 := fn_ok (Φ := [c9, c12, c17, c18, c19, c20]) (rs := [.tmp 4]) (an := (.n none .o (.n none .o (.n none .o (.n none .o (.n none .o (.n none .o (.n none (.n none .o (.n none (.f [2074, 2075] (.loop ⟨[.lf (.int .i64), .lf (.sl 1), .lf (.sl 9), .lf (.sl 0), .lf (.sl 10)], [(11, .one (.h 0 []))], [(3984, .box [.h 1 [1], .h 2 [1], .own 4176, .own 4177]), (4176, .sl 0 3 3 []), (4177, .sl 10 65 4 [])], [3984], 4240⟩ false [(.exit 0, ⟨[.lf (.sl 1), .lf (.sl 9), .lf (.sl 0), .lf (.sl 10)], [], [(3984, .box [.h 0 [1], .h 1 [1], .own 4176, .own 4177]), (4176, .sl 0 3 2 []), (4177, .sl 10 65 3 [])], [3984], 4240⟩)] (.n none .o (.n none (.n none (.n none .o (.n none (.n none (.r (some (true, [(.normal, ⟨[.lf .bool], [(53, .one (.any)), (54, .one (.any)), (55, .one (.any)), (56, .one (.any)), (57, .one (.h 0 []))], [], [], 5205⟩)])) .nil) .o) .o)) .o) .o)))) .o)) (.n none .o (.n none .o (.n none (.r (some (true, [(.normal, ⟨[.lf .bool], [(4, .one (.h 0 []))], [], [], 5588⟩)])) .nil) .o))))))))))) pOk repOk (AllC.mem (⟨c9_ok, c12_ok, c17_ok, c18_ok, c19_ok, c20_ok, trivial⟩ : AllC _ _ [c9, c12, c17, c18, c19, c20])) hmix Try.call4 Try.func4 rfl rfl (by kernel_rfl) (fun h => by kernel_rfl)

noncomputable def dynposref15_Copy (a0 : Power) : Option ((List Bool) × (List Running) × (List Int) × (List Part) × (List Bool) × (List Running) × (List Int) × (List Part)) :=
  Option.bind (app [] a0.Closed) fun x1 =>
    Option.bind (app [] a0.Sources) fun x2 =>
      Option.bind (app [] a0.Limits) fun x3 =>
        Option.bind (app [] a0.Broken) fun x4 => some (a0.Closed, a0.Sources, a0.Limits, a0.Broken, x1, x2, x3, x4)
noncomputable def c84 : Con D := ⟨84, [.lf (.sl 1), .lf (.sl 9), .lf (.sl 0), .lf (.sl 10)], [.lf (.sl 1), .lf (.sl 9), .lf (.sl 0), .lf (.sl 10), .lf (.sl 1), .lf (.sl 9), .lf (.sl 0), .lf (.sl 10)], [.agg [.own 1000, .own 1001, .own 1002, .own 1003]], [(1000, .sl 1 4 0 [0]), (1001, .sl 9 48 1 [0]), (1002, .sl 0 3 2 [0]), (1003, .sl 10 65 3 [0])], [.agg [.own 1004, .own 1005, .own 1006, .own 1007]], [(1000, .sl 1 4 0 [0]), (1001, .sl 9 48 1 [0]), (1002, .sl 0 3 2 [0]), (1003, .sl 10 65 3 [0]), (1004, .sl 1 4 4 [0]), (1005, .sl 9 48 5 [0]), (1006, .sl 0 3 6 [0]), (1007, .sl 10 65 7 [0])], fun h => dynposref15_Copy ⟨h.1, h.2.1, h.2.2.1, h.2.2.2⟩⟩
theorem c84_ok : ConOk Try.prog T c84 := fn_ok (Φ := []) (rs := [.cell 2 34]) (an := .o) pOk repOk (AllC.mem (l := []) trivial) hmix Try.call84 Try.func84 rfl rfl (by kernel_rfl) (fun h => by kernel_rfl)

noncomputable def dynposref16_follow_L2 (x1 : List Bool ×
  List Running ×
    List Int ×
      List Part ×
        List Bool ×
          List Running ×
            List Int ×
              List
                Part) (x4 : Island) : Int × List Running →
  Option
    (Int × List Running ⊕
      List
        Running) := fun x5 =>
  if decide (x5.1 < len x4.Sources) = true then
    Option.bind (idx x4.Sources x5.1) fun x6 =>
      Option.bind (idx x4.Sources 0) fun x7 =>
        Option.bind (idx x1.2.1 x7) fun x8 =>
          Option.bind (idx x4.Sources 0) fun x9 =>
            Option.bind (idx x1.2.1 x9) fun x10 =>
              Option.bind (idx x5.2 x6) fun x11 =>
                Option.bind (idx x5.2 x6) fun x12 =>
                  Option.bind (setO x5.2 x6 (Running.mk x12.State x12.Since x8.Frequency x12.Phase)) fun x13 =>
                    Option.bind (idx x13 x6) fun x14 =>
                      Option.bind (idx x13 x6) fun x15 =>
                        Option.bind (setO x13 x6 (Running.mk x15.State x15.Since x15.Frequency x10.Phase)) fun x16 =>
                          some (.inl (W (x5.1 + 1), x16))
  else some (.inr x5.2)
noncomputable def dynposref16_follow_L1 (x1 : List Bool ×
  List Running ×
    List Int ×
      List Part ×
        List Bool ×
          List Running ×
            List Int ×
              List
                Part) (x2 : List
  Island) : Int × List Running →
  Option
    (Int × List Running ⊕
      List
        Running) := fun x3 =>
  if decide (x3.1 < len x2) = true then
    Option.bind (idx x2 x3.1) fun x4 =>
      Option.bind (loopO (dynposref16_follow_L2 x1 x4) (0, x3.2)) fun x17 =>
        some (.inl (W (x3.1 + 1), x17))
  else some (.inr x3.2)
noncomputable def dynposref16_follow (a0 : Board) (a1 : Power) : Option ((List Breaker) × (List Source) × (List Consumer) × (List Bool) × (List Running) × (List Int) × (List Part) × (List Bool) × (List Running) × (List Int) × (List Part)) :=
  Option.bind (dynposref15_Copy a1) fun x1 =>
    Option.bind (dynposref15_Islands a0 (Power.mk x1.1 x1.2.1 x1.2.2.1 x1.2.2.2.1)) fun x2 =>
      Option.bind (loopO (dynposref16_follow_L1 x1 x2) (0, x1.2.2.2.2.2.1)) fun x18 =>
        some
          (a0.Breakers, a0.Sources, a0.Consumers, x1.1, x1.2.1, x1.2.2.1, x1.2.2.2.1,
            x1.2.2.2.2.1, x18, x1.2.2.2.2.2.2.1, x1.2.2.2.2.2.2.2)
noncomputable def c53 : Con D := ⟨53, [.lf (.int .i64), .lf (.sl 5), .lf (.sl 6), .lf (.sl 7), .lf (.int .i64), .lf (.int .i64), .lf (.sl 1), .lf (.sl 9), .lf (.sl 0), .lf (.sl 10)], [.lf (.sl 5), .lf (.sl 6), .lf (.sl 7), .lf (.sl 1), .lf (.sl 9), .lf (.sl 0), .lf (.sl 10), .lf (.sl 1), .lf (.sl 9), .lf (.sl 0), .lf (.sl 10)], [.agg [.h 0 [], .own 1000, .own 1001, .own 1002, .h 4 [], .h 5 []], .agg [.own 1003, .own 1004, .own 1005, .own 1006]], [(1000, .sl 5 59 1 [0]), (1001, .sl 6 76 2 [0]), (1002, .sl 7 79 3 [0]), (1003, .sl 1 4 6 [0]), (1004, .sl 9 48 7 [0]), (1005, .sl 0 3 8 [0]), (1006, .sl 10 65 9 [0])], [.agg [.own 1007, .own 1008, .own 1009, .own 1010]], [(1000, .sl 5 59 0 [0]), (1001, .sl 6 76 1 [0]), (1002, .sl 7 79 2 [0]), (1003, .sl 1 4 3 [0]), (1004, .sl 9 48 4 [0]), (1005, .sl 0 3 5 [0]), (1006, .sl 10 65 6 [0]), (1007, .sl 1 4 7 [0]), (1008, .sl 9 48 8 [0]), (1009, .sl 0 3 9 [0]), (1010, .sl 10 65 10 [0])], fun h => dynposref16_follow ⟨h.1, h.2.1, h.2.2.1, h.2.2.2.1, h.2.2.2.2.1, h.2.2.2.2.2.1⟩ ⟨h.2.2.2.2.2.2.1, h.2.2.2.2.2.2.2.1, h.2.2.2.2.2.2.2.2.1, h.2.2.2.2.2.2.2.2.2⟩⟩
theorem c53_ok : ConOk Try.prog T c53 := fn_ok (Φ := [c14, c84]) (rs := [.cell 4 34]) (an := (.n none .o (.n none .o (.n none (.n none .o (.n none (.loop ⟨[.lf (.int .i64), .lf (.sl 9)], [(16, .one (.h 0 []))], [(2265, .sl 9 48 1 [0])], [2265], 2832⟩ true [(.exit 0, ⟨[.lf (.sl 9)], [], [(2265, .sl 9 48 0 [0])], [2265], 2832⟩)] (.n none .o (.n none .o (.n none (.n none (.n none .o (.n none .o (.n none (.loop ⟨[.lf (.int .i64), .lf (.sl 9)], [(23, .one (.h 0 []))], [(2265, .sl 9 48 1 [0])], [2265], 3474⟩ true [(.exit 2, ⟨[.lf (.sl 9)], [], [(2265, .sl 9 48 0 [0])], [2265], 3474⟩)] .o) .o))) .o) .o)))) .o)) .o)))) pOk repOk (AllC.mem (⟨c14_ok, c84_ok, trivial⟩ : AllC _ _ [c14, c84])) hmix Try.call53 Try.func53 rfl rfl (by kernel_rfl) (fun h => by kernel_rfl)

noncomputable def dynposref16_Follow (a0 : Board) (a1 : Power) : Option (Int × (List Breaker) × (List Source) × (List Consumer) × (List Bool) × (List Running) × (List Int) × (List Part) × (List Bool) × (List Running) × (List Int) × (List Part)) :=
  Option.bind (dynposref15_State a0 a1) fun x1 =>
    if (x1 != 0) = true then
      some (x1, a0.Breakers, a0.Sources, a0.Consumers, a1.Closed, a1.Sources, a1.Limits, a1.Broken, [], [], [], [])
    else
      Option.bind (dynposref16_follow a0 a1) fun x2 =>
        some
          (0, x2.1, x2.2.1, x2.2.2.1, x2.2.2.2.1, x2.2.2.2.2.1,
            x2.2.2.2.2.2.1, x2.2.2.2.2.2.2.1, x2.2.2.2.2.2.2.2.1,
            x2.2.2.2.2.2.2.2.2.1, x2.2.2.2.2.2.2.2.2.2.1,
            x2.2.2.2.2.2.2.2.2.2.2)
noncomputable def c28 : Con D := ⟨28, [.lf (.int .i64), .lf (.sl 5), .lf (.sl 6), .lf (.sl 7), .lf (.int .i64), .lf (.int .i64), .lf (.sl 1), .lf (.sl 9), .lf (.sl 0), .lf (.sl 10)], [.lf (.int .i64), .lf (.sl 5), .lf (.sl 6), .lf (.sl 7), .lf (.sl 1), .lf (.sl 9), .lf (.sl 0), .lf (.sl 10), .lf (.sl 1), .lf (.sl 9), .lf (.sl 0), .lf (.sl 10)], [.agg [.h 0 [], .own 1000, .own 1001, .own 1002, .h 4 [], .h 5 []], .agg [.own 1003, .own 1004, .own 1005, .own 1006]], [(1000, .sl 5 59 1 [0]), (1001, .sl 6 76 2 [0]), (1002, .sl 7 79 3 [0]), (1003, .sl 1 4 6 [0]), (1004, .sl 9 48 7 [0]), (1005, .sl 0 3 8 [0]), (1006, .sl 10 65 9 [0])], [.agg [.own 1007, .own 1008, .own 1009, .own 1010], .one (.h 0 [])], [(1000, .sl 5 59 1 [0]), (1001, .sl 6 76 2 [0]), (1002, .sl 7 79 3 [0]), (1003, .sl 1 4 4 [0]), (1004, .sl 9 48 5 [0]), (1005, .sl 0 3 6 [0]), (1006, .sl 10 65 7 [0]), (1007, .sl 1 4 8 [0]), (1008, .sl 9 48 9 [0]), (1009, .sl 0 3 10 [0]), (1010, .sl 10 65 11 [0])], fun h => dynposref16_Follow ⟨h.1, h.2.1, h.2.2.1, h.2.2.2.1, h.2.2.2.2.1, h.2.2.2.2.2.1⟩ ⟨h.2.2.2.2.2.2.1, h.2.2.2.2.2.2.2.1, h.2.2.2.2.2.2.2.2.1, h.2.2.2.2.2.2.2.2.2⟩⟩
theorem c28_ok : ConOk Try.prog T c28 := fn_ok (Φ := [c27, c53]) (rs := [.cell 4 34, .tmp 5]) (an := .o) pOk repOk (AllC.mem (⟨c27_ok, c53_ok, trivial⟩ : AllC _ _ [c27, c53])) hmix Try.call28 Try.func28 rfl rfl (by kernel_rfl) (fun h => by kernel_rfl)

noncomputable def Src_Followed (a0 : Src) (a1 : Board) : Option ((List Int) × Int × (List Breaker) × (List Source) × (List Consumer) × (List Bool) × (List Running) × (List Int) × (List Part)) :=
  Option.bind (Src_Power a0 a1) fun x1 =>
    Option.bind
      (dynposref16_Follow
        (Board.mk a1.Buses x1.2.2.1 x1.2.2.2.1 x1.2.2.2.2.1 a1.Phase a1.Frequency)
        (Power.mk x1.2.2.2.2.2.1 x1.2.2.2.2.2.2.1 x1.2.2.2.2.2.2.2.1
          x1.2.2.2.2.2.2.2.2))
      fun x2 =>
      some
        (x1.1, x1.2.1, x2.2.1, x2.2.2.1, x2.2.2.2.1, x2.2.2.2.2.2.2.2.2.1,
          x2.2.2.2.2.2.2.2.2.2.1, x2.2.2.2.2.2.2.2.2.2.2.1,
          x2.2.2.2.2.2.2.2.2.2.2.2)
noncomputable def c22 : Con D := ⟨22, [.lf (.sl 0), .lf (.int .i64), .lf (.int .i64), .lf (.sl 5), .lf (.sl 6), .lf (.sl 7), .lf (.int .i64), .lf (.int .i64)], [.lf (.sl 0), .lf (.int .i64), .lf (.sl 5), .lf (.sl 6), .lf (.sl 7), .lf (.sl 1), .lf (.sl 9), .lf (.sl 0), .lf (.sl 10)], [.one (.ptr 1000 0), .agg [.h 2 [], .own 1001, .own 1002, .own 1003, .h 6 [], .h 7 []]], [(1000, .box [.h 0 [0], .h 1 []]), (1001, .sl 5 59 3 [0]), (1002, .sl 6 76 4 [0]), (1003, .sl 7 79 5 [0])], [.agg [.own 1004, .own 1005, .own 1006, .own 1007]], [(1000, .box [.h 0 [0], .h 1 []]), (1001, .sl 5 59 2 [0]), (1002, .sl 6 76 3 [0]), (1003, .sl 7 79 4 [0]), (1004, .sl 1 4 5 [0]), (1005, .sl 9 48 6 [0]), (1006, .sl 0 3 7 [0]), (1007, .sl 10 65 8 [0])], fun h => Src_Followed ⟨h.1, h.2.1⟩ ⟨h.2.2.1, h.2.2.2.1, h.2.2.2.2.1, h.2.2.2.2.2.1, h.2.2.2.2.2.2.1, h.2.2.2.2.2.2.2⟩⟩
theorem c22_ok : ConOk Try.prog T c22 := fn_ok (Φ := [c28, c33]) (rs := [.cell 4 34]) (an := .o) pOk repOk (AllC.mem (⟨c28_ok, c33_ok, trivial⟩ : AllC _ _ [c28, c33])) hmix Try.call22 Try.func22 rfl rfl (by kernel_rfl) (fun h => by kernel_rfl)

noncomputable def sync_Open (a0 : Board) (a1 : Power) (a2 : Int) : Option (Int × (List Bool) × (List Running) × (List Int) × (List Part)) :=
  Option.bind (board_State a0 a1) fun x1 =>
    if (x1 != 0) = true then some (x1, [], [], [], [])
    else
      Option.bind (if decide (a2 < 0) = true then some true else some (decide (a2 ≥ len a0.Breakers)))
        fun x2 =>
        if x2 = true then some (10, [], [], [], [])
        else
          Option.bind
            (Option.bind (idx a1.Closed a2) fun x3 =>
              if (!x3) = true then some true else Option.bind (board_Broken a1 2 a2) fun x4 => some x4)
            fun x5 =>
            if x5 = true then some (11, [], [], [], [])
            else
              Option.bind (states_Clone a1) fun x6 =>
                Option.bind (idx x6.1 a2) fun x7 =>
                  Option.bind (idx x6.1 a2) fun x8 =>
                    Option.bind (setO x6.1 a2 false) fun x9 =>
                      some (0, x9, x6.2.1, x6.2.2.1, x6.2.2.2)
noncomputable def c25 : Con D := ⟨25, [.lf (.int .i64), .lf (.sl 5), .lf (.sl 6), .lf (.sl 7), .lf (.int .i64), .lf (.int .i64), .lf (.sl 1), .lf (.sl 9), .lf (.sl 0), .lf (.sl 10), .lf (.int .i64)], [.lf (.int .i64), .lf (.sl 1), .lf (.sl 9), .lf (.sl 0), .lf (.sl 10)], [.agg [.h 0 [], .h 1 [0], .h 2 [0], .h 3 [0], .h 4 [], .h 5 []], .agg [.h 6 [0], .h 7 [0], .h 8 [0], .h 9 [0]], .one (.h 10 [])], [], [.agg [.own 1000, .own 1001, .own 1002, .own 1003], .one (.h 0 [])], [(1000, .sl 1 4 1 []), (1001, .sl 9 48 2 []), (1002, .sl 0 3 3 []), (1003, .sl 10 65 4 [])], fun h => sync_Open ⟨h.1, h.2.1, h.2.2.1, h.2.2.2.1, h.2.2.2.2.1, h.2.2.2.2.2.1⟩ ⟨h.2.2.2.2.2.2.1, h.2.2.2.2.2.2.2.1, h.2.2.2.2.2.2.2.2.1, h.2.2.2.2.2.2.2.2.2.1⟩ h.2.2.2.2.2.2.2.2.2.2⟩
theorem c25_ok : ConOk Try.prog T c25 := fn_ok (Φ := [c34, c35, c47]) (rs := [.cell 6 34, .tmp 7]) (an := (.n none .o (.n none (.n none .o (.n none (.n none .o (.n none .o (.n none (.r (some (true, [(.normal, ⟨[.lf .bool], [(18, .one (.h 0 []))], [], [], 2768⟩)])) .nil) (.n none .o (.n none (.r (some (true, [(.normal, ⟨[.lf .bool], [(29, .one (.h 0 []))], [], [], 2833⟩)])) .nil) .o))))) .o)) .o))) pOk repOk (AllC.mem (⟨c34_ok, c35_ok, c47_ok, trivial⟩ : AllC _ _ [c34, c35, c47])) hmix Try.call25 Try.func25 rfl rfl (by kernel_rfl) (fun h => by kernel_rfl)

noncomputable def dynposlaw16_SyncConsumers_L1 (x2 : Int ×
  Int ×
    Int ×
      List Int ×
        Int ×
          List Breaker ×
            List Source ×
              List
                Consumer) (x3 : List Int ×
  Int ×
    List Breaker ×
      List Source ×
        List Consumer ×
          List Bool ×
            List Running ×
              List Int ×
                List
                  Part) : Int →
  Option
    (Int ⊕
      Unit ⊕
        Bool) := fun x4 =>
  if decide (x4 < len x3.2.2.1) = true then
    Option.bind
      (Option.bind (idx x3.2.2.1 x4) fun x5 =>
        Option.bind
          (sync_May (Board.mk x2.1 x3.2.2.1 x3.2.2.2.1 x3.2.2.2.2.1 x2.2.1 x2.2.2.1)
            (Power.mk x3.2.2.2.2.2.1 x3.2.2.2.2.2.2.1 x3.2.2.2.2.2.2.2.1
              x3.2.2.2.2.2.2.2.2)
            x4)
          fun x6 =>
          Option.bind (if (x5.Kind == 3) = true then some (x6 == 12) else some false) fun x7 =>
            if x7 = true then some (.inr (.inr (.inr false)))
            else
              Option.bind
                (sync_Close
                  (Board.mk x2.1 x3.2.2.1 x3.2.2.2.1 x3.2.2.2.2.1 x2.2.1 x2.2.2.1)
                  (Power.mk x3.2.2.2.2.2.1 x3.2.2.2.2.2.2.1 x3.2.2.2.2.2.2.2.1
                    x3.2.2.2.2.2.2.2.2)
                  x4)
                fun x8 =>
                if (x8.1 != x6) = true then some (.inr (.inr (.inr false)))
                else
                  if (x8.1 != 0) = true then some (.inl ())
                  else
                    Option.bind (app [] x3.2.2.2.2.2.1) fun x9 =>
                      Option.bind (idx x9 x4) fun x10 =>
                        Option.bind (idx x9 x4) fun x11 =>
                          Option.bind (setO x9 x4 true) fun x12 =>
                            Option.bind
                              (sync_Open
                                (Board.mk x2.1 x3.2.2.1 x3.2.2.2.1 x3.2.2.2.2.1 x2.2.1
                                  x2.2.2.1)
                                (Power.mk x8.2.1 x8.2.2.1 x8.2.2.2.1 x8.2.2.2.2) x4)
                              fun x13 =>
                              Option.bind
                                (Option.bind (dynposref01_Bools x8.2.1 x12) fun x14 =>
                                  if (!x14) = true then some true
                                  else
                                    if (x13.1 != 0) = true then some true
                                    else
                                      Option.bind (dynposref01_Bools x13.2.1 x3.2.2.2.2.2.1) fun x15 =>
                                        if (!x15) = true then some true
                                        else
                                          Option.bind
                                            (dynposref15_State
                                              (Board.mk x2.1 x3.2.2.1 x3.2.2.2.1 x3.2.2.2.2.1
                                                x2.2.1 x2.2.2.1)
                                              (Power.mk x8.2.1 x8.2.2.1 x8.2.2.2.1
                                                x8.2.2.2.2))
                                            fun x16 => some (x16 != 0))
                                fun x17 =>
                                if x17 = true then some (.inr (.inr (.inr false)))
                                else some (.inl ()))
      fun x18 => Sum.elim (fun x19 => some (.inl (W (x4 + 1)))) (fun x20 => some x20) x18
  else some (.inr (.inl ()))
noncomputable def dynposlaw16_SyncConsumers (a0 : (List Int)) : Option (Bool) :=
  Option.bind (dynposmake_New a0) fun x1 =>
    Option.bind (Src_Board (Src.mk x1.1 x1.2)) fun x2 =>
      Option.bind
        (Src_Followed (Src.mk x2.2.2.2.1 x2.2.2.2.2.1)
          (Board.mk x2.1 x2.2.2.2.2.2.1 x2.2.2.2.2.2.2.1 x2.2.2.2.2.2.2.2
            x2.2.1 x2.2.2.1))
        fun x3 =>
        Option.bind (loopO (dynposlaw16_SyncConsumers_L1 x2 x3) 0) fun x21 =>
          Sum.elim (fun x22 => Option.bind dynposlaw16_sane fun x23 => some x23) (fun x24 => some x24) x21
noncomputable def c5 : Con D := ⟨5, [.lf (.sl 0)], [.lf .bool], [.one (.h 0 [0])], [], [.one (.h 0 [])], [], fun h => dynposlaw16_SyncConsumers h⟩
theorem c5_ok : ConOk Try.prog T c5 := fn_ok (Φ := [c9, c17, c21, c22, c23, c24, c25, c26, c27]) (rs := [.tmp 2]) (an := (.n none .o (.n none .o (.n none .o (.n none .o (.n none (.n none .o (.n none (.loop ⟨[.lf (.int .i64)], [(24, .one (.h 0 []))], [], [], 3152⟩ false [(.exit 0, ⟨[], [], [], [], 3152⟩)] (.n none .o (.n none .o (.n none (.n (some (false, [(.normal, ⟨[], [(37, .one (.any)), (38, .one (.any))], [], [], 3281⟩)])) (.n none .o (.n none .o (.n none (.n none (.r (some (true, [(.normal, ⟨[.lf .bool], [(37, .one (.any)), (38, .one (.any)), (39, .one (.h 0 []))], [], [], 3985⟩)])) .nil) .o) (.n none .o (.n none .o (.n none .o (.n none .o (.n none .o (.n none .o (.n none (.r (some (true, [(.normal, ⟨[.lf .bool], [(71, .one (.any)), (72, .one (.any)), (75, .one (.any)), (76, .one (.any)), (77, .one (.any)), (78, .one (.any)), (79, .one (.any)), (80, .one (.any)), (83, .one (.any)), (84, .one (.any)), (85, .one (.any)), (86, .one (.any)), (87, .one (.h 0 []))], [], [], 6162⟩)])) .nil) .o)))))))))) .o) .o)))) .o)) .o)))))) pOk repOk (AllC.mem (⟨c9_ok, c17_ok, c21_ok, c22_ok, c23_ok, c24_ok, c25_ok, c26_ok, c27_ok, trivial⟩ : AllC _ _ [c9, c17, c21, c22, c23, c24, c25, c26, c27])) hmix Try.call5 Try.func5 rfl rfl (by kernel_rfl) (fun h => by kernel_rfl)

noncomputable def dynposlaw16_SyncBroken_L2 (x2 : Int ×
  Int ×
    Int ×
      List Int ×
        Int ×
          List Breaker ×
            List Source ×
              List
                Consumer) (x3 : List Int ×
  Int ×
    List Breaker ×
      List Source ×
        List Consumer ×
          List Bool ×
            List Running ×
              List Int ×
                List
                  Part) (x5 : Part) : Int →
  Option
    (Int ⊕
      Unit ⊕
        Int ⊕
          Unit ⊕
            Bool) := fun x6 =>
  if decide (x6 < len x3.2.2.1) = true then
    Option.bind (idx x3.2.2.1 x6) fun x7 =>
      Option.bind
        (if (x5.Kind == 2) = true then
          if (x5.Number == x6) = true then some true
          else
            if (x5.Kind == 3) = true then
              if (x7.A == x5.Number) = true then some true
              else
                if (x7.Kind == 1) = true then
                  if (x7.B == x5.Number) = true then some true
                  else
                    if (x5.Kind == 1) = true then
                      if (x7.Kind == 2) = true then
                        if (x7.B == x5.Number) = true then some true
                        else
                          if (x5.Kind == 4) = true then
                            if (x7.Kind == 3) = true then some (x7.B == x5.Number) else some false
                          else some false
                      else
                        if (x5.Kind == 4) = true then
                          if (x7.Kind == 3) = true then some (x7.B == x5.Number) else some false
                        else some false
                    else
                      if (x5.Kind == 4) = true then
                        if (x7.Kind == 3) = true then some (x7.B == x5.Number) else some false
                      else some false
                else
                  if (x5.Kind == 1) = true then
                    if (x7.Kind == 2) = true then
                      if (x7.B == x5.Number) = true then some true
                      else
                        if (x5.Kind == 4) = true then
                          if (x7.Kind == 3) = true then some (x7.B == x5.Number) else some false
                        else some false
                    else
                      if (x5.Kind == 4) = true then
                        if (x7.Kind == 3) = true then some (x7.B == x5.Number) else some false
                      else some false
                  else
                    if (x5.Kind == 4) = true then
                      if (x7.Kind == 3) = true then some (x7.B == x5.Number) else some false
                    else some false
            else
              if (x5.Kind == 1) = true then
                if (x7.Kind == 2) = true then
                  if (x7.B == x5.Number) = true then some true
                  else
                    if (x5.Kind == 4) = true then
                      if (x7.Kind == 3) = true then some (x7.B == x5.Number) else some false
                    else some false
                else
                  if (x5.Kind == 4) = true then
                    if (x7.Kind == 3) = true then some (x7.B == x5.Number) else some false
                  else some false
              else
                if (x5.Kind == 4) = true then
                  if (x7.Kind == 3) = true then some (x7.B == x5.Number) else some false
                else some false
        else
          if (x5.Kind == 3) = true then
            if (x7.A == x5.Number) = true then some true
            else
              if (x7.Kind == 1) = true then
                if (x7.B == x5.Number) = true then some true
                else
                  if (x5.Kind == 1) = true then
                    if (x7.Kind == 2) = true then
                      if (x7.B == x5.Number) = true then some true
                      else
                        if (x5.Kind == 4) = true then
                          if (x7.Kind == 3) = true then some (x7.B == x5.Number) else some false
                        else some false
                    else
                      if (x5.Kind == 4) = true then
                        if (x7.Kind == 3) = true then some (x7.B == x5.Number) else some false
                      else some false
                  else
                    if (x5.Kind == 4) = true then
                      if (x7.Kind == 3) = true then some (x7.B == x5.Number) else some false
                    else some false
              else
                if (x5.Kind == 1) = true then
                  if (x7.Kind == 2) = true then
                    if (x7.B == x5.Number) = true then some true
                    else
                      if (x5.Kind == 4) = true then
                        if (x7.Kind == 3) = true then some (x7.B == x5.Number) else some false
                      else some false
                  else
                    if (x5.Kind == 4) = true then
                      if (x7.Kind == 3) = true then some (x7.B == x5.Number) else some false
                    else some false
                else
                  if (x5.Kind == 4) = true then
                    if (x7.Kind == 3) = true then some (x7.B == x5.Number) else some false
                  else some false
          else
            if (x5.Kind == 1) = true then
              if (x7.Kind == 2) = true then
                if (x7.B == x5.Number) = true then some true
                else
                  if (x5.Kind == 4) = true then
                    if (x7.Kind == 3) = true then some (x7.B == x5.Number) else some false
                  else some false
              else
                if (x5.Kind == 4) = true then
                  if (x7.Kind == 3) = true then some (x7.B == x5.Number) else some false
                else some false
            else
              if (x5.Kind == 4) = true then
                if (x7.Kind == 3) = true then some (x7.B == x5.Number) else some false
              else some false)
        fun x8 =>
        Option.bind
          (if x8 = true then
            Option.bind
              (sync_May
                (Board.mk x2.1 x3.2.2.1 x3.2.2.2.1 x3.2.2.2.2.1 x2.2.1 x2.2.2.1)
                (Power.mk x3.2.2.2.2.2.1 x3.2.2.2.2.2.2.1 x3.2.2.2.2.2.2.2.1
                  x3.2.2.2.2.2.2.2.2)
                x6)
              fun x9 => some (x9 != 11)
          else some false)
          fun x10 =>
          if x10 = true then some (.inr (.inr (.inr (.inr false))))
          else
            Option.bind
              (sync_Open
                (Board.mk x2.1 x3.2.2.1 x3.2.2.2.1 x3.2.2.2.2.1 x2.2.1 x2.2.2.1)
                (Power.mk x3.2.2.2.2.2.1 x3.2.2.2.2.2.2.1 x3.2.2.2.2.2.2.2.1
                  x3.2.2.2.2.2.2.2.2)
                x6)
              fun x11 =>
              Option.bind
                (if (x5.Kind == 2) = true then
                  if (x5.Number == x6) = true then some (x11.1 != 11) else some false
                else some false)
                fun x12 =>
                if x12 = true then some (.inr (.inr (.inr (.inr false))))
                else some (.inl (W (x6 + 1)))
  else some (.inr (.inl ()))
noncomputable def dynposlaw16_SyncBroken_L1 (x2 : Int ×
  Int ×
    Int ×
      List Int ×
        Int ×
          List Breaker ×
            List Source ×
              List
                Consumer) (x3 : List Int ×
  Int ×
    List Breaker ×
      List Source ×
        List Consumer ×
          List Bool ×
            List Running ×
              List Int ×
                List
                  Part) : Int →
  Option
    (Int ⊕
      Unit ⊕
        Bool) := fun x4 =>
  if decide (x4 < len x3.2.2.2.2.2.2.2.2) = true then
    Option.bind (idx x3.2.2.2.2.2.2.2.2 x4) fun x5 =>
      Option.bind (loopO (dynposlaw16_SyncBroken_L2 x2 x3 x5) 0) fun x13 =>
        Sum.elim (fun x14 => some (.inl (W (x4 + 1)))) (fun x15 => some x15) x13
  else some (.inr (.inl ()))
noncomputable def dynposlaw16_SyncBroken (a0 : (List Int)) : Option (Bool) :=
  Option.bind (dynposmake_New a0) fun x1 =>
    Option.bind (Src_Board (Src.mk x1.1 x1.2)) fun x2 =>
      Option.bind
        (Src_Followed (Src.mk x2.2.2.2.1 x2.2.2.2.2.1)
          (Board.mk x2.1 x2.2.2.2.2.2.1 x2.2.2.2.2.2.2.1 x2.2.2.2.2.2.2.2
            x2.2.1 x2.2.2.1))
        fun x3 =>
        Option.bind (loopO (dynposlaw16_SyncBroken_L1 x2 x3) 0) fun x16 =>
          Sum.elim (fun x17 => Option.bind dynposlaw16_sane fun x18 => some x18) (fun x19 => some x19) x16
noncomputable def c6 : Con D := ⟨6, [.lf (.sl 0)], [.lf .bool], [.one (.h 0 [0])], [], [.one (.h 0 [])], [], fun h => dynposlaw16_SyncBroken h⟩
theorem c6_ok : ConOk Try.prog T c6 := fn_ok (Φ := [c9, c17, c21, c22, c23, c25]) (rs := [.tmp 2]) (an := (.n none .o (.n none .o (.n none .o (.n none .o (.n none (.n none .o (.n none (.loop ⟨[.lf (.int .i64)], [(23, .one (.h 0 []))], [], [], 3152⟩ false [(.exit 0, ⟨[], [], [], [], 3152⟩)] (.n none .o (.n none .o (.n none (.n none (.n none .o (.n none .o (.n none (.loop ⟨[.lf (.int .i64)], [(30, .one (.h 0 []))], [], [], 3793⟩ false [(.exit 2, ⟨[], [], [], [], 3793⟩)] (.n none .o (.n none .o (.n none (.n none (.n none .o (.n none (.r (some (true, [(.normal, ⟨[.lf .bool], [(10, .one (.h 0 [])), (39, .one (.any)), (40, .one (.any)), (41, .one (.any)), (42, .one (.any)), (45, .one (.any)), (46, .one (.any)), (47, .one (.any)), (48, .one (.any)), (49, .one (.any)), (50, .one (.any)), (51, .one (.any)), (52, .one (.any)), (53, .one (.any)), (54, .one (.any)), (55, .one (.any)), (56, .one (.any)), (57, .one (.any)), (58, .one (.any)), (59, .one (.any)), (60, .one (.any)), (61, .one (.any)), (62, .one (.any)), (63, .one (.any)), (64, .one (.any)), (65, .one (.any)), (66, .one (.any)), (69, .one (.any)), (70, .one (.any)), (71, .one (.any)), (72, .one (.any)), (73, .one (.any)), (74, .one (.any)), (75, .one (.any)), (76, .one (.any)), (77, .one (.any)), (78, .one (.any)), (79, .one (.any)), (80, .one (.any)), (81, .one (.any)), (82, .one (.any)), (83, .one (.any)), (86, .one (.any)), (87, .one (.any)), (88, .one (.any)), (89, .one (.any)), (90, .one (.any)), (91, .one (.any)), (92, .one (.any)), (93, .one (.any)), (94, .one (.any)), (95, .one (.any)), (96, .one (.any)), (97, .one (.any)), (98, .one (.any)), (99, .one (.any)), (100, .one (.any))], [], [], 4306⟩)])) .nil) (.n none (.n none (.r (some (true, [(.normal, ⟨[.lf .bool], [(104, .one (.any)), (105, .one (.any)), (106, .one (.any)), (107, .one (.any)), (108, .one (.any)), (109, .one (.h 0 []))], [], [], 4371⟩)])) .nil) .o) (.n none .o (.n none (.r (some (true, [(.normal, ⟨[.lf .bool], [(121, .one (.any)), (122, .one (.any)), (123, .one (.any)), (124, .one (.any)), (127, .one (.any)), (128, .one (.any)), (129, .one (.h 0 []))], [], [], 5076⟩)])) .nil) .o))))) .o) .o)))) .o))) .o) .o)))) .o)) .o)))))) pOk repOk (AllC.mem (⟨c9_ok, c17_ok, c21_ok, c22_ok, c23_ok, c25_ok, trivial⟩ : AllC _ _ [c9, c17, c21, c22, c23, c25])) hmix Try.call6 Try.func6 rfl rfl (by kernel_rfl) (fun h => by kernel_rfl)

noncomputable def dynposref02_Diff (a0 : Int) (a1 : Int) : Option (Int) :=
  Option.bind (dynposref02_Norm a1) fun x1 =>
    Option.bind (dynposref02_Norm a0) fun x2 =>
      Option.bind (dynposref02_Norm (W (x1 - x2))) fun x3 =>
        Option.bind (if decide (x3 > 1800) = true then some (W (x3 - 3600)) else some x3) fun x4 =>
          some x4
noncomputable def c54 : Con D := ⟨54, [.lf (.int .i64), .lf (.int .i64)], [.lf (.int .i64)], [.one (.h 0 []), .one (.h 1 [])], [], [.one (.h 0 [])], [], fun h => dynposref02_Diff h.1 h.2⟩
theorem c54_ok : ConOk Try.prog T c54 := fn_ok (Φ := [c20]) (rs := [.tmp 4]) (an := (.n none .o (.n none .o (.n none (.n none .o (.n (some (true, [(.normal, ⟨[.lf (.int .i64)], [(5, .one (.h 0 []))], [], [], 2704⟩)])) .o .o)) .o)))) pOk repOk (AllC.mem (⟨c20_ok, trivial⟩ : AllC _ _ [c20])) hmix Try.call54 Try.func54 rfl rfl (by kernel_rfl) (fun h => by kernel_rfl)

noncomputable def dynposref16_Agree_L1 (a1 : Running) (a2 : Running) : Int →
  Option
    (Int ⊕
      Unit ⊕
        Bool) := fun x1 =>
  if decide (x1 < 2) = true then
    Option.bind (idx [a1.Frequency, a2.Frequency] x1) fun x2 =>
      Option.bind (if decide (x2 < 0) = true then some true else some (decide (x2 > 6000)))
        fun x3 => if x3 = true then some (.inr (.inr false)) else some (.inl (W (x1 + 1)))
  else some (.inr (.inl ()))
noncomputable def dynposref16_Agree (a0 : Board) (a1 : Running) (a2 : Running) : Option (Bool) :=
  Option.bind (loopO (dynposref16_Agree_L1 a1 a2) 0) fun x4 =>
    Sum.elim
      (fun x5 =>
        Option.bind (dynposref02_Diff a1.Phase a2.Phase) fun x6 =>
          Option.bind
            (if decide (W (a1.Frequency - a2.Frequency) ≥ W (-a0.Frequency)) = true then
              if decide (W (a1.Frequency - a2.Frequency) ≤ a0.Frequency) = true then
                if decide (x6 ≥ W (-a0.Phase)) = true then some (decide (x6 ≤ a0.Phase)) else some false
              else some false
            else some false)
            fun x7 => some x7)
      (fun x8 => some x8) x4
noncomputable def c29 : Con D := ⟨29, [.lf (.int .i64), .lf (.sl 5), .lf (.sl 6), .lf (.sl 7), .lf (.int .i64), .lf (.int .i64), .lf (.int .i64), .lf (.int .i64), .lf (.int .i64), .lf (.int .i64), .lf (.int .i64), .lf (.int .i64), .lf (.int .i64), .lf (.int .i64)], [.lf .bool], [.agg [.h 0 [], .h 1 [0], .h 2 [0], .h 3 [0], .h 4 [], .h 5 []], .agg [.h 6 [], .h 7 [], .h 8 [], .h 9 []], .agg [.h 10 [], .h 11 [], .h 12 [], .h 13 []]], [], [.one (.h 0 [])], [], fun h => dynposref16_Agree ⟨h.1, h.2.1, h.2.2.1, h.2.2.2.1, h.2.2.2.2.1, h.2.2.2.2.2.1⟩ ⟨h.2.2.2.2.2.2.1, h.2.2.2.2.2.2.2.1, h.2.2.2.2.2.2.2.2.1, h.2.2.2.2.2.2.2.2.2.1⟩ ⟨h.2.2.2.2.2.2.2.2.2.2.1, h.2.2.2.2.2.2.2.2.2.2.2.1, h.2.2.2.2.2.2.2.2.2.2.2.2.1, h.2.2.2.2.2.2.2.2.2.2.2.2.2⟩⟩
theorem c29_ok : ConOk Try.prog T c29 := fn_ok (Φ := [c54]) (rs := [.tmp 6]) (an := (.n none .o (.n none (.n none .o (.n none (.loop ⟨[.lf (.int .i64)], [(16, .one (.h 0 []))], [], [], 2704⟩ false [(.exit 0, ⟨[], [], [], [], 2704⟩)] (.n none .o (.n none .o (.n none (.n none (.n none .o (.n none (.r (some (true, [(.normal, ⟨[.lf .bool], [(22, .one (.any)), (23, .one (.any)), (24, .one (.h 0 []))], [], [], 2961⟩)])) .nil) .o)) .o) .o)))) .o)) (.n none .o (.n none (.r (some (true, [(.normal, ⟨[.lf .bool], [(6, .one (.h 0 []))], [], [], 3536⟩)])) .nil) .o))))) pOk repOk (AllC.mem (⟨c54_ok, trivial⟩ : AllC _ _ [c54])) hmix Try.call29 Try.func29 rfl rfl (by kernel_rfl) (fun h => by kernel_rfl)

noncomputable def dynposlaw16_SyncRefuses_L1 (x3 : List Int ×
  Int ×
    List Breaker ×
      List Source ×
        List Consumer ×
          List Bool ×
            List Running ×
              List Int ×
                List
                  Part) : Int × List Int →
  Option
    (Int × List Int ⊕
      List
        Int) := fun x4 =>
  if decide (x4.1 < len x3.2.2.1) = true then
    Option.bind (idx x3.2.2.1 x4.1) fun x5 =>
      Option.bind
        (if (x5.Kind == 1) = true then Option.bind (app x4.2 [x4.1]) fun x6 => some x6 else some x4.2)
        fun x7 => some (.inl (W (x4.1 + 1), x7))
  else some (.inr x4.2)
noncomputable def dynposlaw16_SyncRefuses (a0 : (List Int)) (a1 : Int) : Option (Bool) :=
  Option.bind (dynposmake_New a0) fun x1 =>
    Option.bind (Src_Board (Src.mk x1.1 x1.2)) fun x2 =>
      Option.bind
        (Src_Followed (Src.mk x2.2.2.2.1 x2.2.2.2.2.1)
          (Board.mk x2.1 x2.2.2.2.2.2.1 x2.2.2.2.2.2.2.1 x2.2.2.2.2.2.2.2
            x2.2.1 x2.2.2.1))
        fun x3 =>
        Option.bind (loopO (dynposlaw16_SyncRefuses_L1 x3) (0, [])) fun x8 =>
          if (len x8 == 0) = true then Option.bind dynposlaw16_sane fun x34 => some x34
          else
            Option.bind (remO (W a1) (len x8)) fun x9 =>
              Option.bind (idx x8 x9) fun x10 =>
                Option.bind (idx x3.2.2.2.2.2.1 x10) fun x11 =>
                  Option.bind (idx x3.2.2.2.2.2.1 x10) fun x12 =>
                    Option.bind (setO x3.2.2.2.2.2.1 x10 false) fun x13 =>
                      Option.bind
                        (dynposref16_Follow
                          (Board.mk x2.1 x3.2.2.1 x3.2.2.2.1 x3.2.2.2.2.1 x2.2.1
                            x2.2.2.1)
                          (Power.mk x13 x3.2.2.2.2.2.2.1 x3.2.2.2.2.2.2.2.1 []))
                        fun x14 =>
                        Option.bind (idx x14.2.1 x10) fun x15 =>
                          Option.bind
                            (sync_Leader
                              (Board.mk x2.1 x14.2.1 x14.2.2.1 x14.2.2.2.1 x2.2.1
                                x2.2.2.1)
                              (Power.mk x14.2.2.2.2.2.2.2.2.1
                                x14.2.2.2.2.2.2.2.2.2.1
                                x14.2.2.2.2.2.2.2.2.2.2.1
                                x14.2.2.2.2.2.2.2.2.2.2.2)
                              x15.A)
                            fun x16 =>
                            Option.bind
                              (sync_Leader
                                (Board.mk x2.1 x14.2.1 x14.2.2.1 x14.2.2.2.1 x2.2.1
                                  x2.2.2.1)
                                (Power.mk x14.2.2.2.2.2.2.2.2.1
                                  x14.2.2.2.2.2.2.2.2.2.1
                                  x14.2.2.2.2.2.2.2.2.2.2.1
                                  x14.2.2.2.2.2.2.2.2.2.2.2)
                                x15.B)
                              fun x17 =>
                              Option.bind
                                (sync_May
                                  (Board.mk x2.1 x14.2.1 x14.2.2.1 x14.2.2.2.1 x2.2.1
                                    x2.2.2.1)
                                  (Power.mk x14.2.2.2.2.2.2.2.2.1
                                    x14.2.2.2.2.2.2.2.2.2.1
                                    x14.2.2.2.2.2.2.2.2.2.2.1
                                    x14.2.2.2.2.2.2.2.2.2.2.2)
                                  x10)
                                fun x18 =>
                                Option.bind (if (!x16.2) = true then some true else some !x17.2) fun x19 =>
                                  if x19 = true then
                                    Option.bind
                                      (if (x18 == 0) = true then
                                        Option.bind dynposlaw16_sane fun x32 => some x32
                                      else some false)
                                      fun x33 => some x33
                                  else
                                    Option.bind
                                      (if (x16.1 == x17.1) = true then
                                        if (!(x18 == 0) == true) = true then some true
                                        else
                                          if (x18 != 0) = true then some (x18 != 12) else some false
                                      else
                                        Option.bind (idx x14.2.2.2.2.2.2.2.2.2.1 x16.1) fun x20 =>
                                          Option.bind (idx x14.2.2.2.2.2.2.2.2.2.1 x17.1)
                                            fun x21 =>
                                            Option.bind
                                              (dynposref16_Agree
                                                (Board.mk x2.1 x14.2.1 x14.2.2.1 x14.2.2.2.1
                                                  x2.2.1 x2.2.2.1)
                                                x20 x21)
                                              fun x22 =>
                                              if (!(x18 == 0) == x22) = true then some true
                                              else
                                                if (x18 != 0) = true then some (x18 != 12)
                                                else some false)
                                      fun x23 =>
                                      if x23 = true then some false
                                      else
                                        Option.bind
                                          (sync_Match
                                            (Board.mk x2.1 x14.2.1 x14.2.2.1 x14.2.2.2.1 x2.2.1
                                              x2.2.2.1)
                                            (Power.mk x14.2.2.2.2.2.2.2.2.1
                                              x14.2.2.2.2.2.2.2.2.2.1
                                              x14.2.2.2.2.2.2.2.2.2.2.1
                                              x14.2.2.2.2.2.2.2.2.2.2.2)
                                            x17.1 x15.A)
                                          fun x24 =>
                                          Option.bind
                                            (if (x24.1 != 0) = true then some true
                                            else
                                              Option.bind
                                                (sync_May
                                                  (Board.mk x2.1 x14.2.1 x14.2.2.1 x14.2.2.2.1
                                                    x2.2.1 x2.2.2.1)
                                                  (Power.mk x24.2.1 x24.2.2.1 x24.2.2.2.1
                                                    x24.2.2.2.2)
                                                  x10)
                                                fun x25 => some (x25 != 0))
                                            fun x26 =>
                                            if x26 = true then some false
                                            else
                                              Option.bind
                                                (sync_Close
                                                  (Board.mk x2.1 x14.2.1 x14.2.2.1 x14.2.2.2.1
                                                    x2.2.1 x2.2.2.1)
                                                  (Power.mk x24.2.1 x24.2.2.1 x24.2.2.2.1
                                                    x24.2.2.2.2)
                                                  x10)
                                                fun x27 =>
                                                Option.bind
                                                  (sync_Open
                                                    (Board.mk x2.1 x14.2.1 x14.2.2.1 x14.2.2.2.1
                                                      x2.2.1 x2.2.2.1)
                                                    (Power.mk x27.2.1 x27.2.2.1 x27.2.2.2.1
                                                      x27.2.2.2.2)
                                                    x10)
                                                  fun x28 =>
                                                  Option.bind
                                                    (if (x27.1 == 0) = true then
                                                      if (x28.1 == 0) = true then
                                                        Option.bind
                                                          (dynposref01_Bools x28.2.1
                                                            x14.2.2.2.2.2.2.2.2.1)
                                                          fun x29 =>
                                                          if x29 = true then
                                                            Option.bind dynposlaw16_sane fun x30 => some x30
                                                          else some false
                                                      else some false
                                                    else some false)
                                                    fun x31 => some x31
noncomputable def c7 : Con D := ⟨7, [.lf (.sl 0), .lf (.int .u8)], [.lf .bool], [.one (.h 0 [0]), .one (.h 1 [])], [], [.one (.h 0 [])], [], fun h => dynposlaw16_SyncRefuses h.1 h.2⟩
theorem c7_ok : ConOk Try.prog T c7 := fn_ok (Φ := [c9, c15, c17, c21, c22, c23, c24, c25, c26, c28, c29, c30]) (rs := [.tmp 4]) (an := (.n none .o (.n none .o (.n none .o (.n none .o (.n none .o (.n none .o (.n none (.n none .o (.n none (.loop ⟨[.lf (.int .i64), .lf (.sl 0)], [(8, .one (.own 3280)), (35, .one (.h 0 []))], [(3280, .sl 0 3 1 [])], [], 3344⟩ true [(.exit 0, ⟨[.lf (.sl 0)], [(8, .one (.own 3280))], [(3280, .sl 0 3 0 [])], [], 3344⟩)] (.n none .o (.n none .o (.n none (.n none (.n none .o (.n none .o (.n (some (true, [(.normal, ⟨[.lf (.sl 0)], [(8, .one (.own 3986))], [(3986, .sl 0 3 0 [])], [3280], 4050⟩)])) .o .o))) .o) .o)))) .o)) (.n none .o (.n none .o (.n none .o (.n none .o (.n none .o (.n none .o (.n none .o (.n none .o (.n none (.n none (.r (some (true, [(.normal, ⟨[.lf .bool], [(100, .one (.h 0 []))], [], [], 6993⟩)])) .nil) (.n none (.n none (.r (some (true, [(.normal, ⟨[.lf .bool], [(4, .one (.h 0 []))], [], [], 7058⟩)])) .nil) .o) .o)) (.n none (.n none (.r (some (true, [(.normal, ⟨[.lf .bool], [(133, .one (.h 0 []))], [], [], 7058⟩)])) .nil) .o) (.n none .o (.n none (.n none (.r (some (true, [(.normal, ⟨[.lf .bool], [(151, .one (.h 0 []))], [], [], 7891⟩)])) .nil) .o) (.n none .o (.n none .o (.n none (.r (some (true, [(.normal, ⟨[.lf .bool], [(4, .one (.h 0 []))], [], [], 9236⟩)])) .nil) .o))))))))))))))))))))))) pOk repOk (AllC.mem (⟨c9_ok, c15_ok, c17_ok, c21_ok, c22_ok, c23_ok, c24_ok, c25_ok, c26_ok, c28_ok, c29_ok, c30_ok, trivial⟩ : AllC _ _ [c9, c15, c17, c21, c22, c23, c24, c25, c26, c28, c29, c30])) hmix Try.call7 Try.func7 rfl rfl (by kernel_rfl) (fun h => by kernel_rfl)

end Rx
end Go.Proofs.Ytdfkfohpgakihaa
