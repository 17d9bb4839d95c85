/- Plain functions, walks. Written by a program (wip/gen). -/
import Derived.Test.YtcekgnnekooohaaRt
set_option linter.unusedVariables false
set_option maxRecDepth 100000
namespace Go.Proofs.Ytcekgnnekooohaa
open Go Go.RowKit Dp
namespace Rx

noncomputable def dynposmake_Small_L1 (a0 : Board) : Int →
  Option
    (Int ⊕
      Unit ⊕
        Bool) := fun x1 =>
  if decide (x1 < len a0.Consumers) = true then
    Option.bind (idx a0.Consumers x1) fun x2 =>
      if decide (len x2.Needs > 8) = true then some (.inr (.inr false))
      else some (.inl (W (x1 + 1)))
  else some (.inr (.inl ()))
noncomputable def dynposmake_Small (a0 : Board) (a1 : Power) : Option (Bool) :=
  Option.bind (loopO (dynposmake_Small_L1 a0) 0) fun x3 =>
    Sum.elim
      (fun x4 =>
        Option.bind
          (if decide (len a0.Breakers ≤ 14) = true then
            if decide (len a0.Sources ≤ 10) = true then
              if decide (len a0.Consumers ≤ 8) = true then
                if decide (len a1.Closed ≤ 14) = true then
                  if decide (len a1.Sources ≤ 10) = true then
                    if decide (len a1.Limits ≤ 10) = true then some (decide (len a1.Broken ≤ 10))
                    else some false
                  else some false
                else some false
              else some false
            else some false
          else some false)
          fun x5 => some x5)
      (fun x6 => some x6) x3
noncomputable def c4 : Con D := ⟨4, [.lf (.int .i64), .lf (.sl 4), .lf (.sl 5), .lf (.sl 6), .lf (.int .i64), .lf (.int .i64), .lf (.sl 1), .lf (.sl 8), .lf (.sl 0), .lf (.sl 9)], [.lf .bool], [.agg [.h 0 [], .h 1 [0], .h 2 [0], .h 3 [0], .h 4 [], .h 5 []], .agg [.h 6 [0], .h 7 [0], .h 8 [0], .h 9 [0]]], [], [.one (.h 0 [])], [], fun h => dynposmake_Small ⟨h.1, h.2.1, h.2.2.1, h.2.2.2.1, h.2.2.2.2.1, h.2.2.2.2.2.1⟩ ⟨h.2.2.2.2.2.2.1, h.2.2.2.2.2.2.2.1, h.2.2.2.2.2.2.2.2.1, h.2.2.2.2.2.2.2.2.2⟩⟩
theorem c4_ok : ConOk Try.prog T c4 := fn_ok (Φ := []) (rs := [.tmp 4]) (an := (.n none .o (.n none (.n none .o (.n none (.loop ⟨[.lf (.int .i64)], [(10, .one (.h 0 []))], [], [], 2512⟩ false [(.exit 0, ⟨[], [], [], [], 2512⟩)] .o) .o)) (.n none (.r (some (true, [(.normal, ⟨[.lf .bool], [(4, .one (.h 0 []))], [], [], 2576⟩)])) .nil) .o)))) pOk repOk (AllC.mem (l := []) trivial) hmix Try.call4 Try.func4 rfl rfl (by kernel_rfl) (fun h => by kernel_rfl)

noncomputable def board_in (a0 : Int) (a1 : Int) (a2 : Int) : Option (Bool) := Option.bind (if decide (a0 ≥ a1) = true then some (decide (a0 ≤ a2)) else some false) fun x1 => some x1
noncomputable def c69 : Con D := ⟨69, [.lf (.int .i64), .lf (.int .i64), .lf (.int .i64)], [.lf .bool], [.one (.h 0 []), .one (.h 1 []), .one (.h 2 [])], [], [.one (.h 0 [])], [], fun h => board_in h.1 h.2.1 h.2.2⟩
theorem c69_ok : ConOk Try.prog T c69 := fn_ok (Φ := []) (rs := [.tmp 6]) (an := (.n none .o (.n none (.r (some (true, [(.normal, ⟨[.lf .bool], [(6, .one (.h 0 []))], [], [], 2128⟩)])) .nil) .o))) pOk repOk (AllC.mem (l := []) trivial) hmix Try.call69 Try.func69 rfl rfl (by kernel_rfl) (fun h => by kernel_rfl)

noncomputable def slices_Index_int_int_L1 (a0 : List
  Int) (a1 : Int) : Int →
  Option
    (Int ⊕
      Unit ⊕
        Int) := fun x1 =>
  if decide (x1 < len a0) = true then
    Option.bind (idx a0 x1) fun x2 =>
      if (a1 == x2) = true then some (.inr (.inr x1)) else some (.inl (W (x1 + 1)))
  else some (.inr (.inl ()))
noncomputable def slices_Index_int_int (a0 : (List Int)) (a1 : Int) : Option (Int) :=
  Option.bind (loopO (slices_Index_int_int_L1 a0 a1) 0) fun x3 =>
    Sum.elim (fun x4 => some (-1)) (fun x5 => some x5) x3
noncomputable def c82 : Con D := ⟨82, [.lf (.sl 0), .lf (.int .i64)], [.lf (.int .i64)], [.one (.h 0 [0]), .one (.h 1 [])], [], [.one (.h 0 [])], [], fun h => slices_Index_int_int h.1 h.2⟩
theorem c82_ok : ConOk Try.prog T c82 := fn_ok (Φ := []) (rs := [.tmp 4]) (an := (.n none .o (.n none (.n none .o (.n none (.loop ⟨[.lf (.int .i64)], [(8, .one (.h 0 []))], [], [], 2320⟩ false [(.exit 0, ⟨[], [], [], [], 2320⟩)] .o) .o)) .o))) pOk repOk (AllC.mem (l := []) trivial) hmix Try.call82 Try.func82 rfl rfl (by kernel_rfl) (fun h => by kernel_rfl)

noncomputable def slices_Contains_int_int (a0 : (List Int)) (a1 : Int) : Option (Bool) := Option.bind (slices_Index_int_int a0 a1) fun x1 => some (decide (x1 ≥ 0))
noncomputable def c55 : Con D := ⟨55, [.lf (.sl 0), .lf (.int .i64)], [.lf .bool], [.one (.h 0 [0]), .one (.h 1 [])], [], [.one (.h 0 [])], [], fun h => slices_Contains_int_int h.1 h.2⟩
theorem c55_ok : ConOk Try.prog T c55 := fn_ok (Φ := [c82]) (rs := [.tmp 4]) (an := .o) pOk repOk (AllC.mem (⟨c82_ok, trivial⟩ : AllC _ _ [c82])) hmix Try.call55 Try.func55 rfl rfl (by kernel_rfl) (fun h => by kernel_rfl)

noncomputable def board_breakers_1 (a0 : (List Int)) : Option (Bool) := some (len a0 == 0)
noncomputable def c98 : Con D := ⟨98, [.lf (.sl 0)], [.lf .bool], [.one (.h 0 [0])], [], [.one (.h 0 [])], [], fun h => board_breakers_1 h⟩
theorem c98_ok : ConOk Try.prog T c98 := fn_ok (Φ := []) (rs := [.tmp 2]) (an := .o) pOk repOk (AllC.mem (l := []) trivial) hmix Try.call98 Try.func98 rfl rfl (by kernel_rfl) (fun h => by kernel_rfl)

noncomputable def slices_IndexFunc_int_int_L1 (a0 : List
  (List
    Int)) : Int →
  Option
    (Int ⊕
      Unit ⊕
        Int) := fun x1 =>
  if decide (x1 < len a0) = true then
    Option.bind (idx a0 x1) fun x2 =>
      Option.bind (board_breakers_1 x2) fun x3 =>
        if x3 = true then some (.inr (.inr x1)) else some (.inl (W (x1 + 1)))
  else some (.inr (.inl ()))
noncomputable def slices_IndexFunc_int_int (a0 : (List (List Int))) : Option (Int) :=
  Option.bind (loopO (slices_IndexFunc_int_int_L1 a0) 0) fun x4 =>
    Sum.elim (fun x5 => some (-1)) (fun x6 => some x6) x4
noncomputable def c100 : Con D := ⟨100, [.lf (.sl 12)], [.lf (.int .i64)], [.one (.h 0 [0]), .one (.fn 98 [])], [], [.one (.h 0 [])], [], fun h => slices_IndexFunc_int_int h⟩
theorem c100_ok : ConOk Try.prog T c100 := fn_ok (Φ := [c98]) (rs := [.tmp 4]) (an := (.n none .o (.n none (.n none .o (.n none (.loop ⟨[.lf (.int .i64)], [(8, .one (.h 0 []))], [], [], 2320⟩ false [(.exit 0, ⟨[], [], [], [], 2320⟩)] .o) .o)) .o))) pOk repOk (AllC.mem (⟨c98_ok, trivial⟩ : AllC _ _ [c98])) hmix Try.call100 Try.func100 rfl rfl (by kernel_rfl) (fun h => by kernel_rfl)

noncomputable def slices_ContainsFunc_int_int (a0 : (List (List Int))) : Option (Bool) := Option.bind (slices_IndexFunc_int_int a0) fun x1 => some (decide (x1 ≥ 0))
noncomputable def c97 : Con D := ⟨97, [.lf (.sl 12)], [.lf .bool], [.one (.h 0 [0]), .one (.fn 98 [])], [], [.one (.h 0 [])], [], fun h => slices_ContainsFunc_int_int h⟩
theorem c97_ok : ConOk Try.prog T c97 := fn_ok (Φ := [c100]) (rs := [.tmp 4]) (an := .o) pOk repOk (AllC.mem (⟨c100_ok, trivial⟩ : AllC _ _ [c100])) hmix Try.call97 Try.func97 rfl rfl (by kernel_rfl) (fun h => by kernel_rfl)

noncomputable def board_breakers_L1 (a0 : Board) : Int × List Int × List (List Int) →
  Option
    (Int × List Int × List (List Int) ⊕
      List Int × List (List Int) ⊕
        Bool) := fun x3 =>
  if decide (x3.1 < len a0.Breakers) = true then
    Option.bind (idx a0.Breakers x3.1) fun x4 =>
      Option.bind (board_in x4.A 0 (W (a0.Buses - 1))) fun x5 =>
        if (!x5) = true then some (.inr (.inr false))
        else
          Option.bind
            (if (x4.Kind == 1) = true then
              Option.bind (board_in x4.B (W (x4.A + 1)) (W (a0.Buses - 1))) fun x6 => some x6
            else some false)
            fun x7 =>
            Option.bind
              (if x7 = true then some (.inl (x3.2.1, x3.2.2))
              else
                Option.bind
                  (if (x4.Kind == 2) = true then
                    Option.bind (board_in x4.B 0 (W (len x3.2.1 - 1))) fun x8 =>
                      if x8 = true then Option.bind (idx x3.2.1 x4.B) fun x9 => some (x9 == 0)
                      else some false
                  else some false)
                  fun x10 =>
                  Option.bind
                    (if x10 = true then
                      Option.bind (idx x3.2.1 x4.B) fun x23 =>
                        Option.bind (idx x3.2.1 x4.B) fun x24 =>
                          Option.bind (idx x3.2.1 x4.B) fun x25 =>
                            Option.bind (setO x3.2.1 x4.B (W (x23 + 1))) fun x26 =>
                              some (.inl (x26, x3.2.2))
                    else
                      Option.bind
                        (if (x4.Kind == 3) = true then
                          Option.bind (board_in x4.B 0 (W (len x3.2.2 - 1))) fun x11 =>
                            if x11 = true then
                              Option.bind (idx x3.2.2 x4.B) fun x12 =>
                                Option.bind (idx x3.2.2 x4.B) fun x13 =>
                                  Option.bind (slices_Contains_int_int x13 x4.A) fun x14 => some (!x14, x3.2.2)
                            else some (false, x3.2.2)
                        else some (false, x3.2.2))
                        fun x15 =>
                        if x15.1 = true then
                          Option.bind (idx x15.2 x4.B) fun x16 =>
                            Option.bind (idx x15.2 x4.B) fun x17 =>
                              Option.bind (idx x15.2 x4.B) fun x18 =>
                                Option.bind (app x18 [x4.A]) fun x19 =>
                                  Option.bind (setO x15.2 x4.B x19) fun x20 =>
                                    Option.bind (idx x20 x4.B) fun x21 =>
                                      Option.bind (eqO x4.B x4.B) fun x22 => some (.inl (x3.2.1, x20))
                        else some (.inr (.inr (.inr (.inr false)))))
                    fun x27 => Sum.elim (fun x28 => some (.inl (x28.1, x28.2))) (fun x29 => some x29) x27)
              fun x30 =>
              Sum.elim (fun x31 => some (.inl (W (x3.1 + 1), x31.1, x31.2))) (fun x32 => some x32)
                x30
  else some (.inr (.inl (x3.2.1, x3.2.2)))
noncomputable def board_breakers (a0 : Board) : Option (Bool) :=
  Option.bind (mkZ 0 (len a0.Sources)) fun x1 =>
    Option.bind (mkZ [] (len a0.Consumers)) fun x2 =>
      Option.bind (loopO (board_breakers_L1 a0) (0, x1, x2)) fun x33 =>
        Sum.elim
          (fun x34 =>
            Option.bind
              (Option.bind (slices_Contains_int_int x34.1 0) fun x35 =>
                if (!x35) = true then Option.bind (slices_ContainsFunc_int_int x34.2) fun x36 => some !x36
                else some false)
              fun x37 => some x37)
          (fun x38 => some x38) x33
noncomputable def c87 : Con D := ⟨87, [.lf (.int .i64), .lf (.sl 4), .lf (.sl 5), .lf (.sl 6), .lf (.int .i64), .lf (.int .i64)], [.lf .bool], [.agg [.h 0 [], .h 1 [0], .h 2 [0], .h 3 [0], .h 4 [], .h 5 []]], [], [.one (.h 0 [])], [], fun h => board_breakers ⟨h.1, h.2.1, h.2.2.1, h.2.2.2.1, h.2.2.2.2.1, h.2.2.2.2.2⟩⟩
theorem c87_ok : ConOk Try.prog T c87 := fn_ok (Φ := [c55, c69, c97]) (rs := [.tmp 2]) (an := (.n none .o (.n none .o (.n none (.n none .o (.n none (.loop ⟨[.lf (.int .i64), .lf (.sl 0), .lf (.sl 12)], [(18, .one (.h 0 []))], [(2320, .sl 0 3 1 []), (2576, .kid 12 22 3 0 2)], [2320, 2576], 3088⟩ false [(.exit 0, ⟨[.lf (.sl 0), .lf (.sl 12)], [], [(2320, .sl 0 3 0 []), (2576, .kid 12 22 3 0 1)], [2320, 2576], 3088⟩)] (.n none .o (.n none .o (.n none (.n none (.n none .o (.n none .o (.n none (.n none (.r (some (true, [(.normal, ⟨[.lf .bool], [(29, .one (.h 0 [])), (34, .one (.any)), (35, .one (.any)), (36, .one (.any)), (37, .one (.any)), (38, .one (.any)), (39, .one (.any)), (40, .one (.any)), (41, .one (.any)), (42, .one (.any))], [], [], 3923⟩)])) .nil) (.n (some (false, [(.normal, ⟨[.lf (.sl 0), .lf (.sl 12)], [], [(2320, .sl 0 3 0 []), (2576, .kid 12 22 3 0 1)], [2320, 2576], 3988⟩)])) .o (.n none (.r (some (true, [(.normal, ⟨[.lf .bool], [(44, .one (.h 0 [])), (49, .one (.any)), (50, .one (.any)), (51, .one (.any)), (52, .one (.any)), (53, .one (.any)), (54, .one (.any)), (57, .one (.any)), (58, .one (.any)), (59, .one (.any)), (60, .one (.any)), (61, .one (.any)), (62, .one (.any))], [], [], 3988⟩)])) .nil) (.n (some (false, [(.normal, ⟨[.lf (.sl 0), .lf (.sl 12)], [], [(2320, .sl 0 3 0 []), (2576, .kid 12 22 3 0 1)], [2320, 2576], 4053⟩)])) .o (.n none (.r (some (true, [(.normal, ⟨[.lf .bool, .lf (.sl 12)], [(71, .one (.h 0 [])), (76, .one (.any)), (77, .one (.any)), (78, .one (.any)), (79, .one (.any)), (80, .one (.any)), (81, .one (.any)), (84, .one (.any)), (85, .one (.any)), (86, .one (.any)), (87, .one (.any)), (88, .one (.any)), (89, .one (.any)), (90, .one (.any)), (91, .one (.any)), (92, .one (.any))], [(2576, .kid 12 22 3 0 1)], [2576], 4053⟩)])) .nil) .o))))) .o))) .o) .o)))) .o)) (.n none (.r (some (true, [(.normal, ⟨[.lf .bool], [(2, .one (.h 0 []))], [], [], 3154⟩)])) .nil) .o))))) pOk repOk (AllC.mem (⟨c55_ok, c69_ok, c97_ok, trivial⟩ : AllC _ _ [c55, c69, c97])) hmix Try.call87 Try.func87 rfl rfl (by kernel_rfl) (fun h => by kernel_rfl)

noncomputable def board_source (a0 : Source) : Option (Bool) :=
  Option.bind
    (Option.bind (board_in a0.Rating 1 50000) fun x1 =>
      if x1 = true then
        Option.bind (board_in a0.Least 0 a0.Rating) fun x2 =>
          if x2 = true then Option.bind (board_in a0.Start 0 600) fun x3 => some x3
          else some false
      else some false)
    fun x4 => some x4
noncomputable def c88 : Con D := ⟨88, [.lf (.int .i64), .lf (.int .i64), .lf (.int .i64)], [.lf .bool], [.agg [.h 0 [], .h 1 [], .h 2 []]], [], [.one (.h 0 [])], [], fun h => board_source ⟨h.1, h.2.1, h.2.2⟩⟩
theorem c88_ok : ConOk Try.prog T c88 := fn_ok (Φ := [c69]) (rs := [.tmp 2]) (an := (.n none .o (.n none (.r (some (true, [(.normal, ⟨[.lf .bool], [(2, .one (.h 0 []))], [], [], 2192⟩)])) .nil) .o))) pOk repOk (AllC.mem (⟨c69_ok, trivial⟩ : AllC _ _ [c69])) hmix Try.call88 Try.func88 rfl rfl (by kernel_rfl) (fun h => by kernel_rfl)

noncomputable def board_consumer_L1 (a0 : Consumer) (a1 : Int) : Int →
  Option
    (Int ⊕
      Unit ⊕
        Bool) := fun x1 =>
  if decide (x1 < len a0.Needs) = true then
    Option.bind (idx a0.Needs x1) fun x2 =>
      Option.bind
        (Option.bind (board_in x2 0 (W (a1 - 1))) fun x3 =>
          if (!x3) = true then some true
          else
            if decide (x1 > 0) = true then
              Option.bind (idx a0.Needs (W (x1 - 1))) fun x4 => some (decide (x4 ≥ x2))
            else some false)
        fun x5 => if x5 = true then some (.inr (.inr false)) else some (.inl (W (x1 + 1)))
  else some (.inr (.inl ()))
noncomputable def board_consumer (a0 : Consumer) (a1 : Int) : Option (Bool) :=
  Option.bind (loopO (board_consumer_L1 a0 a1) 0) fun x6 =>
    Sum.elim
      (fun x7 =>
        Option.bind
          (Option.bind (board_in a0.Load 0 50000) fun x8 =>
            if x8 = true then
              Option.bind (board_in a0.Least 0 a0.Load) fun x9 =>
                if x9 = true then
                  Option.bind (board_in a0.Preference 0 15) fun x10 =>
                    if x10 = true then
                      Option.bind (board_in a0.Thruster (-1) 7) fun x11 =>
                        if x11 = true then some (decide (len a0.Needs ≤ 4)) else some false
                    else some false
                else some false
            else some false)
          fun x12 => some x12)
      (fun x13 => some x13) x6
noncomputable def c89 : Con D := ⟨89, [.lf (.int .i64), .lf (.int .i64), .lf (.int .i64), .lf (.int .i64), .lf (.sl 0), .lf (.int .i64)], [.lf .bool], [.agg [.h 0 [], .h 1 [], .h 2 [], .h 3 [], .h 4 [0]], .one (.h 5 [])], [], [.one (.h 0 [])], [], fun h => board_consumer ⟨h.1, h.2.1, h.2.2.1, h.2.2.2.1, h.2.2.2.2.1⟩ h.2.2.2.2.2⟩
theorem c89_ok : ConOk Try.prog T c89 := fn_ok (Φ := [c69]) (rs := [.tmp 4]) (an := (.n none .o (.n none (.n none .o (.n none (.loop ⟨[.lf (.int .i64)], [(10, .one (.h 0 []))], [], [], 2448⟩ false [(.exit 0, ⟨[], [], [], [], 2448⟩)] (.n none .o (.n none .o (.n none (.n none (.n none .o (.n none (.r (some (true, [(.normal, ⟨[.lf .bool], [(21, .one (.any)), (22, .one (.any)), (23, .one (.any)), (24, .one (.any)), (25, .one (.any)), (26, .one (.any)), (27, .one (.any)), (28, .one (.any)), (29, .one (.any)), (30, .one (.any)), (31, .one (.any)), (32, .one (.any)), (33, .one (.h 0 []))], [], [], 2897⟩)])) .nil) .o)) .o) .o)))) .o)) (.n none (.r (some (true, [(.normal, ⟨[.lf .bool], [(4, .one (.h 0 []))], [], [], 2512⟩)])) .nil) .o)))) pOk repOk (AllC.mem (⟨c69_ok, trivial⟩ : AllC _ _ [c69])) hmix Try.call89 Try.func89 rfl rfl (by kernel_rfl) (fun h => by kernel_rfl)

noncomputable def board_Check_L1 (a0 : Board) : Bool × Int →
  Option
    (Bool × Int ⊕
      Bool) := fun x7 =>
  if decide (x7.2 < len a0.Sources) = true then
    Option.bind (idx a0.Sources x7.2) fun x8 =>
      Option.bind (if x7.1 = true then Option.bind (board_source x8) fun x9 => some x9 else some false) fun x10 =>
        some (.inl (x10, W (x7.2 + 1)))
  else some (.inr x7.1)
noncomputable def board_Check_L2 (a0 : Board) : Bool × Int →
  Option
    (Bool × Int ⊕
      Bool) := fun x12 =>
  if decide (x12.2 < len a0.Consumers) = true then
    Option.bind (idx a0.Consumers x12.2) fun x13 =>
      Option.bind (if x12.1 = true then Option.bind (board_consumer x13 x12.2) fun x14 => some x14 else some false)
        fun x15 => some (.inl (x15, W (x12.2 + 1)))
  else some (.inr x12.1)
noncomputable def board_Check (a0 : Board) : Option (Int) :=
  Option.bind
    (Option.bind (board_in a0.Buses 1 6) fun x1 =>
      if (!x1) = true then some true
      else
        if decide (len a0.Breakers > 24) = true then some true
        else
          if decide (len a0.Sources > 8) = true then some true
          else some (decide (len a0.Consumers > 16)))
    fun x2 =>
    if x2 = true then some 2
    else
      Option.bind
        (Option.bind (board_breakers a0) fun x3 =>
          if x3 = true then
            Option.bind (board_in a0.Phase 0 1800) fun x4 =>
              if x4 = true then Option.bind (board_in a0.Frequency 0 6000) fun x5 => some x5
              else some false
          else some false)
        fun x6 =>
        Option.bind (loopO (board_Check_L1 a0) (x6, 0)) fun x11 =>
          Option.bind (loopO (board_Check_L2 a0) (x11, 0)) fun x16 =>
            if (!x16) = true then some 14 else some 0
noncomputable def c64 : Con D := ⟨64, [.lf (.int .i64), .lf (.sl 4), .lf (.sl 5), .lf (.sl 6), .lf (.int .i64), .lf (.int .i64)], [.lf (.int .i64)], [.agg [.h 0 [], .h 1 [0], .h 2 [0], .h 3 [0], .h 4 [], .h 5 []]], [], [.one (.h 0 [])], [], fun h => board_Check ⟨h.1, h.2.1, h.2.2.1, h.2.2.2.1, h.2.2.2.2.1, h.2.2.2.2.2⟩⟩
theorem c64_ok : ConOk Try.prog T c64 := fn_ok (Φ := [c69, c87, c88, c89]) (rs := [.tmp 2]) (an := (.n none .o (.n none (.n none (.r (some (true, [(.normal, ⟨[.lf .bool], [(29, .one (.h 0 []))], [], [], 2192⟩)])) .nil) .o) (.n none (.r (some (true, [(.normal, ⟨[.lf .bool], [(3, .one (.h 0 []))], [], [], 2257⟩)])) .nil) (.n none (.n none .o (.n none (.loop ⟨[.lf .bool, .lf (.int .i64)], [(3, .one (.h 0 [])), (45, .one (.h 1 []))], [], [], 2578⟩ true [(.exit 0, ⟨[.lf .bool], [(3, .one (.h 0 []))], [], [], 2578⟩)] (.n none .o (.n none .o (.n none (.n none (.n none .o (.r (some (true, [(.normal, ⟨[.lf .bool], [(3, .one (.h 0 [])), (51, .one (.any)), (52, .one (.any))], [], [], 2964⟩)])) .nil)) .o) .o)))) .o)) (.n none (.n none .o (.n none (.loop ⟨[.lf .bool, .lf (.int .i64)], [(3, .one (.h 0 [])), (58, .one (.h 1 []))], [], [], 2899⟩ true [(.exit 2, ⟨[.lf .bool], [(3, .one (.h 0 []))], [], [], 2899⟩)] (.n none .o (.n none .o (.n none (.n none (.n none .o (.r (some (true, [(.normal, ⟨[.lf .bool], [(3, .one (.h 0 [])), (65, .one (.any)), (66, .one (.any)), (67, .one (.any))], [], [], 3413⟩)])) .nil)) .o) .o)))) .o)) .o)))))) pOk repOk (AllC.mem (⟨c69_ok, c87_ok, c88_ok, c89_ok, trivial⟩ : AllC _ _ [c69, c87, c88, c89])) hmix Try.call64 Try.func64 rfl rfl (by kernel_rfl) (fun h => by kernel_rfl)

noncomputable def board_size (a0 : Board) (a1 : Int) : Option (Int) :=
  if (a1 == 1) = true then some (len a0.Sources)
  else
    if (a1 == 2) = true then some (len a0.Breakers)
    else
      if (a1 == 3) = true then some a0.Buses
      else if (a1 == 4) = true then some (len a0.Consumers) else some 0
noncomputable def c90 : Con D := ⟨90, [.lf (.int .i64), .lf (.sl 4), .lf (.sl 5), .lf (.sl 6), .lf (.int .i64), .lf (.int .i64), .lf (.int .i64)], [.lf (.int .i64)], [.agg [.h 0 [], .h 1 [0], .h 2 [0], .h 3 [0], .h 4 [], .h 5 []], .one (.h 6 [])], [], [.one (.h 0 [])], [], fun h => board_size ⟨h.1, h.2.1, h.2.2.1, h.2.2.2.1, h.2.2.2.2.1, h.2.2.2.2.2.1⟩ h.2.2.2.2.2.2⟩
theorem c90_ok : ConOk Try.prog T c90 := fn_ok (Φ := []) (rs := [.tmp 4]) (an := .o) pOk repOk (AllC.mem (l := []) trivial) hmix Try.call90 Try.func90 rfl rfl (by kernel_rfl) (fun h => by kernel_rfl)

noncomputable def cmp_isNaN_int (a0 : Int) : Option (Bool) := some (a0 != a0)
noncomputable def c99 : Con D := ⟨99, [.lf (.int .i64)], [.lf .bool], [.one (.h 0 [])], [], [.one (.h 0 [])], [], fun h => cmp_isNaN_int h⟩
theorem c99_ok : ConOk Try.prog T c99 := fn_ok (Φ := []) (rs := [.tmp 2]) (an := .o) pOk repOk (AllC.mem (l := []) trivial) hmix Try.call99 Try.func99 rfl rfl (by kernel_rfl) (fun h => by kernel_rfl)

noncomputable def cmp_Compare_int (a0 : Int) (a1 : Int) : Option (Int) :=
  Option.bind (cmp_isNaN_int a0) fun x1 =>
    Option.bind (cmp_isNaN_int a1) fun x2 =>
      if x1 = true then if x2 = true then some 0 else some (-1)
      else
        if x2 = true then some 1
        else
          if decide (a0 < a1) = true then some (-1)
          else if decide (a0 > a1) = true then some 1 else some 0
noncomputable def c92 : Con D := ⟨92, [.lf (.int .i64), .lf (.int .i64)], [.lf (.int .i64)], [.one (.h 0 []), .one (.h 1 [])], [], [.one (.h 0 [])], [], fun h => cmp_Compare_int h.1 h.2⟩
theorem c92_ok : ConOk Try.prog T c92 := fn_ok (Φ := [c99]) (rs := [.tmp 4]) (an := .o) pOk repOk (AllC.mem (⟨c99_ok, trivial⟩ : AllC _ _ [c99])) hmix Try.call92 Try.func92 rfl rfl (by kernel_rfl) (fun h => by kernel_rfl)

noncomputable def cmp_Or_int_L1 (a0 : List
  Int) : Int →
  Option
    (Int ⊕
      Unit ⊕
        Int) := fun x1 =>
  if decide (x1 < len a0) = true then
    Option.bind (idx a0 x1) fun x2 =>
      if (x2 != 0) = true then some (.inr (.inr x2)) else some (.inl (W (x1 + 1)))
  else some (.inr (.inl ()))
noncomputable def cmp_Or_int (a0 : (List Int)) : Option (Int) :=
  Option.bind (loopO (cmp_Or_int_L1 a0) 0) fun x3 =>
    Sum.elim (fun x4 => some 0) (fun x5 => some x5) x3
noncomputable def c91 : Con D := ⟨91, [.lf (.sl 0)], [.lf (.int .i64)], [.one (.h 0 [0])], [], [.one (.h 0 [])], [], fun h => cmp_Or_int h⟩
theorem c91_ok : ConOk Try.prog T c91 := fn_ok (Φ := []) (rs := [.tmp 2]) (an := (.n none .o (.n none .o (.n none (.n none .o (.n none (.loop ⟨[.lf (.int .i64)], [(8, .one (.h 0 []))], [], [], 2384⟩ false [(.exit 0, ⟨[], [], [], [], 2384⟩)] .o) .o)) .o)))) pOk repOk (AllC.mem (l := []) trivial) hmix Try.call91 Try.func91 rfl rfl (by kernel_rfl) (fun h => by kernel_rfl)

noncomputable def board_broken_L1 (a0 : Board) (a1 : List
  Part) : Int →
  Option
    (Int ⊕
      Unit ⊕
        Bool) := fun x1 =>
  if decide (x1 < len a1) = true then
    Option.bind (idx a1 x1) fun x2 =>
      Option.bind
        (Option.bind (board_size a0 x2.Kind) fun x3 =>
          Option.bind (board_in x2.Number 0 (W (x3 - 1))) fun x4 =>
            if (!x4) = true then some true
            else
              if decide (x1 > 0) = true then
                Option.bind (idx a1 (W (x1 - 1))) fun x5 =>
                  Option.bind (cmp_Compare_int x5.Kind x2.Kind) fun x6 =>
                    Option.bind (idx a1 (W (x1 - 1))) fun x7 =>
                      Option.bind (cmp_Compare_int x7.Number x2.Number) fun x8 =>
                        Option.bind (cmp_Or_int [x6, x8]) fun x9 => some (decide (x9 ≥ 0))
              else some false)
        fun x10 => if x10 = true then some (.inr (.inr false)) else some (.inl (W (x1 + 1)))
  else some (.inr (.inl ()))
noncomputable def board_broken (a0 : Board) (a1 : (List Part)) : Option (Bool) :=
  Option.bind (loopO (board_broken_L1 a0 a1) 0) fun x11 =>
    Sum.elim (fun x12 => some (decide (len a1 ≤ 32))) (fun x13 => some x13) x11
noncomputable def c65 : Con D := ⟨65, [.lf (.int .i64), .lf (.sl 4), .lf (.sl 5), .lf (.sl 6), .lf (.int .i64), .lf (.int .i64), .lf (.sl 9)], [.lf .bool], [.agg [.h 0 [], .h 1 [0], .h 2 [0], .h 3 [0], .h 4 [], .h 5 []], .one (.h 6 [0])], [], [.one (.h 0 [])], [], fun h => board_broken ⟨h.1, h.2.1, h.2.2.1, h.2.2.2.1, h.2.2.2.2.1, h.2.2.2.2.2.1⟩ h.2.2.2.2.2.2⟩
theorem c65_ok : ConOk Try.prog T c65 := fn_ok (Φ := [c69, c90, c91, c92]) (rs := [.tmp 4]) (an := (.n none .o (.n none (.n none .o (.n none (.loop ⟨[.lf (.int .i64)], [(9, .one (.h 0 []))], [], [], 2384⟩ false [(.exit 0, ⟨[], [], [], [], 2384⟩)] (.n none .o (.n none .o (.n none (.n none (.n none .o (.n none (.r (some (true, [(.normal, ⟨[.lf .bool], [(24, .one (.any)), (25, .one (.any)), (26, .one (.any)), (27, .one (.any)), (28, .one (.any)), (29, .one (.any)), (30, .one (.any)), (31, .one (.any)), (32, .one (.any)), (33, .one (.any)), (34, .one (.any)), (35, .one (.any)), (36, .one (.any)), (37, .one (.any)), (38, .one (.any)), (39, .one (.any)), (40, .one (.any)), (41, .one (.any)), (42, .one (.any)), (43, .one (.any)), (44, .one (.any)), (45, .one (.any)), (46, .one (.any)), (47, .one (.any)), (48, .one (.any)), (49, .one (.h 0 []))], [], [], 2897⟩)])) .nil) .o)) .o) .o)))) .o)) .o))) pOk repOk (AllC.mem (⟨c69_ok, c90_ok, c91_ok, c92_ok, trivial⟩ : AllC _ _ [c69, c90, c91, c92])) hmix Try.call65 Try.func65 rfl rfl (by kernel_rfl) (fun h => by kernel_rfl)

noncomputable def board_running (a0 : Running) : Option (Bool) :=
  Option.bind
    (Option.bind (board_in a0.State 0 3) fun x1 =>
      if x1 = true then
        Option.bind (board_in a0.Since 0 2147483648) fun x2 =>
          if x2 = true then
            Option.bind (board_in a0.Frequency 0 6000) fun x3 =>
              if x3 = true then Option.bind (board_in a0.Phase 0 3599) fun x4 => some x4
              else some false
          else some false
      else some false)
    fun x5 => some x5
noncomputable def c68 : Con D := ⟨68, [.lf (.int .i64), .lf (.int .i64), .lf (.int .i64), .lf (.int .i64)], [.lf .bool], [.agg [.h 0 [], .h 1 [], .h 2 [], .h 3 []]], [], [.one (.h 0 [])], [], fun h => board_running ⟨h.1, h.2.1, h.2.2.1, h.2.2.2⟩⟩
theorem c68_ok : ConOk Try.prog T c68 := fn_ok (Φ := [c69]) (rs := [.tmp 2]) (an := (.n none .o (.n none (.r (some (true, [(.normal, ⟨[.lf .bool], [(2, .one (.h 0 []))], [], [], 2192⟩)])) .nil) .o))) pOk repOk (AllC.mem (⟨c69_ok, trivial⟩ : AllC _ _ [c69])) hmix Try.call68 Try.func68 rfl rfl (by kernel_rfl) (fun h => by kernel_rfl)

noncomputable def board_State_1 (a0 : Running) : Option (Bool) := Option.bind (board_running a0) fun x1 => some !x1
noncomputable def c67 : Con D := ⟨67, [.lf (.int .i64), .lf (.int .i64), .lf (.int .i64), .lf (.int .i64)], [.lf .bool], [.agg [.h 0 [], .h 1 [], .h 2 [], .h 3 []]], [], [.one (.h 0 [])], [], fun h => board_State_1 ⟨h.1, h.2.1, h.2.2.1, h.2.2.2⟩⟩
theorem c67_ok : ConOk Try.prog T c67 := fn_ok (Φ := [c68]) (rs := [.tmp 2]) (an := .o) pOk repOk (AllC.mem (⟨c68_ok, trivial⟩ : AllC _ _ [c68])) hmix Try.call67 Try.func67 rfl rfl (by kernel_rfl) (fun h => by kernel_rfl)

noncomputable def slices_IndexFunc_Running_Running_L1 (a0 : List
  Running) : Int →
  Option
    (Int ⊕
      Unit ⊕
        Int) := fun x1 =>
  if decide (x1 < len a0) = true then
    Option.bind (idx a0 x1) fun x2 =>
      Option.bind (board_State_1 x2) fun x3 =>
        if x3 = true then some (.inr (.inr x1)) else some (.inl (W (x1 + 1)))
  else some (.inr (.inl ()))
noncomputable def slices_IndexFunc_Running_Running (a0 : (List Running)) : Option (Int) :=
  Option.bind (loopO (slices_IndexFunc_Running_Running_L1 a0) 0) fun x4 =>
    Sum.elim (fun x5 => some (-1)) (fun x6 => some x6) x4
noncomputable def c93 : Con D := ⟨93, [.lf (.sl 8)], [.lf (.int .i64)], [.one (.h 0 [0]), .one (.fn 67 [])], [], [.one (.h 0 [])], [], fun h => slices_IndexFunc_Running_Running h⟩
theorem c93_ok : ConOk Try.prog T c93 := fn_ok (Φ := [c67]) (rs := [.tmp 4]) (an := (.n none .o (.n none (.n none .o (.n none (.loop ⟨[.lf (.int .i64)], [(8, .one (.h 0 []))], [], [], 2320⟩ false [(.exit 0, ⟨[], [], [], [], 2320⟩)] .o) .o)) .o))) pOk repOk (AllC.mem (⟨c67_ok, trivial⟩ : AllC _ _ [c67])) hmix Try.call93 Try.func93 rfl rfl (by kernel_rfl) (fun h => by kernel_rfl)

noncomputable def slices_ContainsFunc_Running_Running (a0 : (List Running)) : Option (Bool) := Option.bind (slices_IndexFunc_Running_Running a0) fun x1 => some (decide (x1 ≥ 0))
noncomputable def c66 : Con D := ⟨66, [.lf (.sl 8)], [.lf .bool], [.one (.h 0 [0]), .one (.fn 67 [])], [], [.one (.h 0 [])], [], fun h => slices_ContainsFunc_Running_Running h⟩
theorem c66_ok : ConOk Try.prog T c66 := fn_ok (Φ := [c93]) (rs := [.tmp 4]) (an := .o) pOk repOk (AllC.mem (⟨c93_ok, trivial⟩ : AllC _ _ [c93])) hmix Try.call66 Try.func66 rfl rfl (by kernel_rfl) (fun h => by kernel_rfl)

noncomputable def board_closed_L1 (a0 : Board) (a1 : Power) (a2 : Int) : Int × Int →
  Option
    (Int × Int ⊕
      Int) := fun x1 =>
  if decide (x1.2 < len a0.Breakers) = true then
    Option.bind (idx a0.Breakers x1.2) fun x2 =>
      Option.bind
        (if (x2.Kind == 3) = true then
          if (x2.B == a2) = true then Option.bind (idx a1.Closed x1.2) fun x3 => some x3 else some false
        else some false)
        fun x4 =>
        Option.bind (if x4 = true then some (W (x1.1 + 1)) else some x1.1) fun x5 =>
          some (.inl (x5, W (x1.2 + 1)))
  else some (.inr x1.1)
noncomputable def board_closed (a0 : Board) (a1 : Power) (a2 : Int) : Option (Int) := Option.bind (loopO (board_closed_L1 a0 a1 a2) (0, 0)) fun x6 => some x6
noncomputable def c70 : Con D := ⟨70, [.lf (.int .i64), .lf (.sl 4), .lf (.sl 5), .lf (.sl 6), .lf (.int .i64), .lf (.int .i64), .lf (.sl 1), .lf (.sl 8), .lf (.sl 0), .lf (.sl 9), .lf (.int .i64)], [.lf (.int .i64)], [.agg [.h 0 [], .h 1 [0], .h 2 [0], .h 3 [0], .h 4 [], .h 5 []], .agg [.h 6 [0], .h 7 [0], .h 8 [0], .h 9 [0]], .one (.h 10 [])], [], [.one (.h 0 [])], [], fun h => board_closed ⟨h.1, h.2.1, h.2.2.1, h.2.2.2.1, h.2.2.2.2.1, h.2.2.2.2.2.1⟩ ⟨h.2.2.2.2.2.2.1, h.2.2.2.2.2.2.2.1, h.2.2.2.2.2.2.2.2.1, h.2.2.2.2.2.2.2.2.2.1⟩ h.2.2.2.2.2.2.2.2.2.2⟩
theorem c70_ok : ConOk Try.prog T c70 := fn_ok (Φ := []) (rs := [.tmp 6]) (an := (.n none .o (.n none .o (.n none (.n none .o (.n none (.loop ⟨[.lf (.int .i64), .lf (.int .i64)], [(7, .one (.h 0 [])), (13, .one (.h 1 []))], [], [], 2576⟩ true [(.exit 0, ⟨[.lf (.int .i64)], [(7, .one (.h 0 []))], [], [], 2576⟩)] (.n none .o (.n none .o (.n none (.n none (.n none .o (.n none (.r (some (true, [(.normal, ⟨[.lf .bool], [(22, .one (.any)), (23, .one (.any)), (24, .one (.any)), (25, .one (.any)), (28, .one (.any)), (29, .one (.any)), (30, .one (.any)), (31, .one (.any)), (32, .one (.any)), (33, .one (.h 0 []))], [], [], 3090⟩)])) .nil) (.n (some (true, [(.normal, ⟨[.lf (.int .i64)], [(7, .one (.h 0 []))], [], [], 3155⟩)])) .o .o))) .o) .o)))) .o)) .o)))) pOk repOk (AllC.mem (l := []) trivial) hmix Try.call70 Try.func70 rfl rfl (by kernel_rfl) (fun h => by kernel_rfl)

noncomputable def board_State_L1 (a0 : Board) (a1 : Power) : Bool × Int →
  Option
    (Bool × Int ⊕
      Bool) := fun x6 =>
  if decide (x6.2 < len a1.Limits) = true then
    Option.bind (idx a1.Limits x6.2) fun x7 =>
      Option.bind
        (if x6.1 = true then
          Option.bind (idx a0.Consumers x6.2) fun x8 =>
            Option.bind (board_in x7 0 x8.Load) fun x9 =>
              if x9 = true then Option.bind (board_closed a0 a1 x6.2) fun x10 => some (decide (x10 ≤ 1))
              else some false
        else some false)
        fun x11 => some (.inl (x11, W (x6.2 + 1)))
  else some (.inr x6.1)
noncomputable def board_State (a0 : Board) (a1 : Power) : Option (Int) :=
  Option.bind (board_Check a0) fun x1 =>
    if (x1 != 0) = true then some x1
    else
      Option.bind
        (if (len a1.Closed != len a0.Breakers) = true then some true
        else if (len a1.Sources != len a0.Sources) = true then some true else some (len a1.Limits != len a0.Consumers))
        fun x2 =>
        if x2 = true then some 8
        else
          Option.bind
            (Option.bind (board_broken a0 a1.Broken) fun x3 =>
              if x3 = true then Option.bind (slices_ContainsFunc_Running_Running a1.Sources) fun x4 => some !x4
              else some false)
            fun x5 =>
            Option.bind (loopO (board_State_L1 a0 a1) (x5, 0)) fun x12 =>
              if (!x12) = true then some 11 else some 0
noncomputable def c45 : Con D := ⟨45, [.lf (.int .i64), .lf (.sl 4), .lf (.sl 5), .lf (.sl 6), .lf (.int .i64), .lf (.int .i64), .lf (.sl 1), .lf (.sl 8), .lf (.sl 0), .lf (.sl 9)], [.lf (.int .i64)], [.agg [.h 0 [], .h 1 [0], .h 2 [0], .h 3 [0], .h 4 [], .h 5 []], .agg [.h 6 [0], .h 7 [0], .h 8 [0], .h 9 [0]]], [], [.one (.h 0 [])], [], fun h => board_State ⟨h.1, h.2.1, h.2.2.1, h.2.2.2.1, h.2.2.2.2.1, h.2.2.2.2.2.1⟩ ⟨h.2.2.2.2.2.2.1, h.2.2.2.2.2.2.2.1, h.2.2.2.2.2.2.2.2.1, h.2.2.2.2.2.2.2.2.2⟩⟩
theorem c45_ok : ConOk Try.prog T c45 := fn_ok (Φ := [c64, c65, c66, c69, c70]) (rs := [.tmp 4]) (an := (.n none .o (.n none .o (.n none (.n none (.r (some (true, [(.normal, ⟨[.lf .bool], [(38, .one (.h 0 []))], [], [], 2576⟩)])) .nil) .o) (.n none (.r (some (true, [(.normal, ⟨[.lf .bool], [(6, .one (.h 0 []))], [], [], 2641⟩)])) .nil) (.n none (.n none .o (.n none (.loop ⟨[.lf .bool, .lf (.int .i64)], [(6, .one (.h 0 [])), (52, .one (.h 1 []))], [], [], 2962⟩ true [(.exit 0, ⟨[.lf .bool], [(6, .one (.h 0 []))], [], [], 2962⟩)] (.n none .o (.n none .o (.n none (.n none (.n none .o (.r (some (true, [(.normal, ⟨[.lf .bool], [(6, .one (.h 0 [])), (59, .one (.any)), (60, .one (.any)), (61, .one (.any)), (62, .one (.any)), (63, .one (.any)), (64, .one (.any)), (65, .one (.any)), (66, .one (.any)), (69, .one (.any)), (70, .one (.any)), (71, .one (.any)), (72, .one (.any)), (73, .one (.any))], [], [], 3412⟩)])) .nil)) .o) .o)))) .o)) .o)))))) pOk repOk (AllC.mem (⟨c64_ok, c65_ok, c66_ok, c69_ok, c70_ok, trivial⟩ : AllC _ _ [c64, c65, c66, c69, c70])) hmix Try.call45 Try.func45 rfl rfl (by kernel_rfl) (fun h => by kernel_rfl)

noncomputable def roster_Valid (a0 : Table) : Option (Bool) :=
  Option.bind
    (if decide (a0.Stop ≥ 1) = true then
      if decide (a0.Stop ≤ 99) = true then
        if decide (a0.Start > a0.Stop) = true then
          if decide (a0.Start ≤ 100) = true then
            if decide (a0.Delay ≥ 0) = true then some (decide (a0.Delay ≤ 600)) else some false
          else some false
        else some false
      else some false
    else some false)
    fun x1 => some x1
noncomputable def c11 : Con D := ⟨11, [.lf (.int .i64), .lf (.int .i64), .lf (.int .i64)], [.lf .bool], [.agg [.h 0 [], .h 1 [], .h 2 []]], [], [.one (.h 0 [])], [], fun h => roster_Valid ⟨h.1, h.2.1, h.2.2⟩⟩
theorem c11_ok : ConOk Try.prog T c11 := fn_ok (Φ := []) (rs := [.tmp 2]) (an := (.n none .o (.n none (.r (some (true, [(.normal, ⟨[.lf .bool], [(2, .one (.h 0 []))], [], [], 2192⟩)])) .nil) .o))) pOk repOk (AllC.mem (l := []) trivial) hmix Try.call11 Try.func11 rfl rfl (by kernel_rfl) (fun h => by kernel_rfl)

noncomputable def roster_Step_1 (a0 : Int) (a1 : Int) : Option (Bool) :=
  Option.bind (if decide (a0 ≥ (-1)) = true then some (decide (a0 ≤ a1)) else some false) fun x1 => some x1
noncomputable def c44 : Con D := ⟨44, [.lf (.int .i64), .el 0], [.lf .bool], [.one (.h 0 []), .one (.rp 1 0 [0])], [], [.one (.h 0 [])], [], fun h => roster_Step_1 h.1 h.2⟩
theorem c44_ok : ConOk Try.prog T c44 := fn_ok (Φ := []) (rs := [.tmp 3]) (an := (.n none .o (.n none (.r (some (true, [(.normal, ⟨[.lf .bool], [(3, .one (.h 0 []))], [], [], 2128⟩)])) .nil) .o))) pOk repOk (AllC.mem (l := []) trivial) hmix Try.call44 Try.func44 rfl rfl (by kernel_rfl) (fun h => by kernel_rfl)

noncomputable def board_groups_L1 (x1 : List
  Int) : Int × List Int →
  Option
    (Int × List Int ⊕
      List
        Int) := fun x2 =>
  if decide (x2.1 < len x1) = true then
    Option.bind (idx x2.2 x2.1) fun x3 =>
      Option.bind (idx x2.2 x2.1) fun x4 =>
        Option.bind (setO x2.2 x2.1 x2.1) fun x5 => some (.inl (W (x2.1 + 1), x5))
  else some (.inr x2.2)
noncomputable def board_groups_L3 (a0 : Board) (a1 : Power) : Int × List Int →
  Option
    (Int × List Int ⊕
      List
        Int) := fun x8 =>
  if decide (x8.1 < len a0.Breakers) = true then
    Option.bind (idx a0.Breakers x8.1) fun x9 =>
      Option.bind
        (if (x9.Kind == 1) = true then Option.bind (idx a1.Closed x8.1) fun x10 => some x10 else some false)
        fun x11 =>
        Option.bind
          (if x11 = true then
            Option.bind (idx x8.2 x9.A) fun x12 =>
              Option.bind (idx x8.2 x9.B) fun x13 =>
                Option.bind (idx x8.2 x9.A) fun x14 =>
                  Option.bind (idx x8.2 x9.A) fun x15 =>
                    Option.bind (setO x8.2 x9.A (imin x12 x13)) fun x16 =>
                      Option.bind (idx x16 x9.B) fun x17 =>
                        Option.bind (idx x16 x9.B) fun x18 =>
                          Option.bind (setO x16 x9.B (imin x12 x13)) fun x19 => some x19
          else some x8.2)
          fun x20 => some (.inl (W (x8.1 + 1), x20))
  else some (.inr x8.2)
noncomputable def board_groups_L2 (a0 : Board) (a1 : Power) (x6 : List
  Int) : Int × List Int →
  Option
    (Int × List Int ⊕
      List
        Int) := fun x7 =>
  if decide (x7.1 < len x6) = true then
    Option.bind (loopO (board_groups_L3 a0 a1) (0, x7.2)) fun x21 =>
      some (.inl (W (x7.1 + 1), x21))
  else some (.inr x7.2)
noncomputable def board_groups (a0 : Board) (a1 : Power) : Option ((List Int)) :=
  Option.bind (mkZ 0 a0.Buses) fun x1 =>
    Option.bind (loopO (board_groups_L1 x1) (0, x1)) fun x6 =>
      Option.bind (loopO (board_groups_L2 a0 a1 x6) (0, x6)) fun x22 => some x22
noncomputable def c77 : Con D := ⟨77, [.lf (.int .i64), .lf (.sl 4), .lf (.sl 5), .lf (.sl 6), .lf (.int .i64), .lf (.int .i64), .lf (.sl 1), .lf (.sl 8), .lf (.sl 0), .lf (.sl 9)], [.lf (.sl 0)], [.agg [.h 0 [], .h 1 [0], .h 2 [0], .h 3 [0], .h 4 [], .h 5 []], .agg [.h 6 [0], .h 7 [0], .h 8 [0], .h 9 [0]]], [], [.one (.own 1000)], [(1000, .sl 0 3 0 [])], fun h => board_groups ⟨h.1, h.2.1, h.2.2.1, h.2.2.2.1, h.2.2.2.2.1, h.2.2.2.2.2.1⟩ ⟨h.2.2.2.2.2.2.1, h.2.2.2.2.2.2.2.1, h.2.2.2.2.2.2.2.2.1, h.2.2.2.2.2.2.2.2.2⟩⟩
theorem c77_ok : ConOk Try.prog T c77 := fn_ok (Φ := []) (rs := [.tmp 4]) (an := (.n none .o (.n none .o (.n none (.n none .o (.n none (.loop ⟨[.lf (.int .i64), .lf (.sl 0)], [(15, .one (.h 0 []))], [(2320, .sl 0 3 1 [])], [2320], 2704⟩ true [(.exit 0, ⟨[.lf (.sl 0)], [], [(2320, .sl 0 3 0 [])], [2320], 2704⟩)] .o) .o)) (.n none (.n none .o (.n none (.loop ⟨[.lf (.int .i64), .lf (.sl 0)], [(25, .one (.h 0 []))], [(2320, .sl 0 3 1 [])], [2320], 2961⟩ true [(.exit 2, ⟨[.lf (.sl 0)], [], [(2320, .sl 0 3 0 [])], [2320], 2961⟩)] (.n none .o (.n none .o (.n none (.n none (.n none .o (.n none (.loop ⟨[.lf (.int .i64), .lf (.sl 0)], [(30, .one (.h 0 []))], [(2320, .sl 0 3 1 [])], [2320], 3347⟩ true [(.exit 4, ⟨[.lf (.sl 0)], [], [(2320, .sl 0 3 0 [])], [2320], 3347⟩)] (.n none .o (.n none .o (.n none (.n none (.n none .o (.n none (.r (some (true, [(.normal, ⟨[.lf .bool], [(39, .one (.any)), (40, .one (.any)), (41, .one (.any)), (42, .one (.any)), (43, .one (.any)), (44, .one (.h 0 []))], [], [], 3861⟩)])) .nil) (.n (some (true, [(.normal, ⟨[.lf (.sl 0)], [], [(2320, .sl 0 3 0 [])], [2320], 3926⟩)])) .o .o))) .o) .o)))) .o)) .o) .o)))) .o)) .o))))) pOk repOk (AllC.mem (l := []) trivial) hmix Try.call77 Try.func77 rfl rfl (by kernel_rfl) (fun h => by kernel_rfl)

noncomputable def board_led_L1 (a0 : Board) (a1 : Power) (a2 : Int) (a3 : Int) : Int →
  Option
    (Int ⊕
      Unit ⊕
        Int ×
          Bool) := fun x1 =>
  if decide (x1 < len a0.Breakers) = true then
    Option.bind (idx a0.Breakers x1) fun x2 =>
      Option.bind
        (if (x2.Kind == a2) = true then
          if (x2.B == a3) = true then Option.bind (idx a1.Closed x1) fun x3 => some x3 else some false
        else some false)
        fun x4 => if x4 = true then some (.inr (.inr (x2.A, true))) else some (.inl (W (x1 + 1)))
  else some (.inr (.inl ()))
noncomputable def board_led (a0 : Board) (a1 : Power) (a2 : Int) (a3 : Int) : Option (Int × Bool) :=
  Option.bind (loopO (board_led_L1 a0 a1 a2 a3) 0) fun x5 =>
    Sum.elim (fun x6 => some (0, false)) (fun x7 => some x7) x5
noncomputable def c95 : Con D := ⟨95, [.lf (.int .i64), .lf (.sl 4), .lf (.sl 5), .lf (.sl 6), .lf (.int .i64), .lf (.int .i64), .lf (.sl 1), .lf (.sl 8), .lf (.sl 0), .lf (.sl 9), .lf (.int .i64), .lf (.int .i64)], [.lf (.int .i64), .lf .bool], [.agg [.h 0 [], .h 1 [0], .h 2 [0], .h 3 [0], .h 4 [], .h 5 []], .agg [.h 6 [0], .h 7 [0], .h 8 [0], .h 9 [0]], .one (.h 10 []), .one (.h 11 [])], [], [.one (.h 0 []), .one (.h 1 [])], [], fun h => board_led ⟨h.1, h.2.1, h.2.2.1, h.2.2.2.1, h.2.2.2.2.1, h.2.2.2.2.2.1⟩ ⟨h.2.2.2.2.2.2.1, h.2.2.2.2.2.2.2.1, h.2.2.2.2.2.2.2.2.1, h.2.2.2.2.2.2.2.2.2.1⟩ h.2.2.2.2.2.2.2.2.2.2.1 h.2.2.2.2.2.2.2.2.2.2.2⟩
theorem c95_ok : ConOk Try.prog T c95 := fn_ok (Φ := []) (rs := [.tmp 8, .tmp 9]) (an := (.n none .o (.n none (.n none .o (.n none (.loop ⟨[.lf (.int .i64)], [(15, .one (.h 0 []))], [], [], 2576⟩ false [(.exit 0, ⟨[], [], [], [], 2576⟩)] (.n none .o (.n none .o (.n none (.n none (.n none .o (.n none (.r (some (true, [(.normal, ⟨[.lf .bool], [(25, .one (.any)), (26, .one (.any)), (27, .one (.any)), (28, .one (.any)), (31, .one (.any)), (32, .one (.any)), (33, .one (.any)), (34, .one (.any)), (35, .one (.any)), (36, .one (.h 0 []))], [], [], 3089⟩)])) .nil) .o)) .o) .o)))) .o)) .o))) pOk repOk (AllC.mem (l := []) trivial) hmix Try.call95 Try.func95 rfl rfl (by kernel_rfl) (fun h => by kernel_rfl)

noncomputable def board_connected (a0 : Board) (a1 : Power) (a2 : Int) : Option (Int × Bool) :=
  Option.bind
    (Option.bind (board_in a2 0 (W (len a1.Sources - 1))) fun x1 =>
      if (!x1) = true then some true else Option.bind (idx a1.Sources a2) fun x2 => some (x2.State != 2))
    fun x3 =>
    if x3 = true then some (0, false)
    else Option.bind (board_led a0 a1 2 a2) fun x4 => some (x4.1, x4.2)
noncomputable def c78 : Con D := ⟨78, [.lf (.int .i64), .lf (.sl 4), .lf (.sl 5), .lf (.sl 6), .lf (.int .i64), .lf (.int .i64), .lf (.sl 1), .lf (.sl 8), .lf (.sl 0), .lf (.sl 9), .lf (.int .i64)], [.lf (.int .i64), .lf .bool], [.agg [.h 0 [], .h 1 [0], .h 2 [0], .h 3 [0], .h 4 [], .h 5 []], .agg [.h 6 [0], .h 7 [0], .h 8 [0], .h 9 [0]], .one (.h 10 [])], [], [.one (.h 0 []), .one (.h 1 [])], [], fun h => board_connected ⟨h.1, h.2.1, h.2.2.1, h.2.2.2.1, h.2.2.2.2.1, h.2.2.2.2.2.1⟩ ⟨h.2.2.2.2.2.2.1, h.2.2.2.2.2.2.2.1, h.2.2.2.2.2.2.2.2.1, h.2.2.2.2.2.2.2.2.2.1⟩ h.2.2.2.2.2.2.2.2.2.2⟩
theorem c78_ok : ConOk Try.prog T c78 := fn_ok (Φ := [c69, c95]) (rs := [.tmp 6, .tmp 7]) (an := (.n none .o (.n none (.n none (.r (some (true, [(.normal, ⟨[.lf .bool], [(23, .one (.h 0 []))], [], [], 2320⟩)])) .nil) .o) .o))) pOk repOk (AllC.mem (⟨c69_ok, c95_ok, trivial⟩ : AllC _ _ [c69, c95])) hmix Try.call78 Try.func78 rfl rfl (by kernel_rfl) (fun h => by kernel_rfl)

noncomputable def board_fed (a0 : Board) (a1 : Power) (a2 : Int) : Option (Int × Bool) := Option.bind (board_led a0 a1 3 a2) fun x1 => some (x1.1, x1.2)
noncomputable def c79 : Con D := ⟨79, [.lf (.int .i64), .lf (.sl 4), .lf (.sl 5), .lf (.sl 6), .lf (.int .i64), .lf (.int .i64), .lf (.sl 1), .lf (.sl 8), .lf (.sl 0), .lf (.sl 9), .lf (.int .i64)], [.lf (.int .i64), .lf .bool], [.agg [.h 0 [], .h 1 [0], .h 2 [0], .h 3 [0], .h 4 [], .h 5 []], .agg [.h 6 [0], .h 7 [0], .h 8 [0], .h 9 [0]], .one (.h 10 [])], [], [.one (.h 0 []), .one (.h 1 [])], [], fun h => board_fed ⟨h.1, h.2.1, h.2.2.1, h.2.2.2.1, h.2.2.2.2.1, h.2.2.2.2.2.1⟩ ⟨h.2.2.2.2.2.2.1, h.2.2.2.2.2.2.2.1, h.2.2.2.2.2.2.2.2.1, h.2.2.2.2.2.2.2.2.2.1⟩ h.2.2.2.2.2.2.2.2.2.2⟩
theorem c79_ok : ConOk Try.prog T c79 := fn_ok (Φ := [c95]) (rs := [.tmp 6, .tmp 7]) (an := .o) pOk repOk (AllC.mem (⟨c95_ok, trivial⟩ : AllC _ _ [c95])) hmix Try.call79 Try.func79 rfl rfl (by kernel_rfl) (fun h => by kernel_rfl)

noncomputable def board_Islands_1 (a0 : Island) : Option (Bool) := some (len a0.Buses == 0)
noncomputable def c81 : Con D := ⟨81, [.lf (.sl 0), .lf (.sl 0), .lf (.sl 0)], [.lf .bool], [.agg [.h 0 [0], .h 1 [0], .h 2 [0]]], [], [.one (.h 0 [])], [], fun h => board_Islands_1 ⟨h.1, h.2.1, h.2.2⟩⟩
theorem c81_ok : ConOk Try.prog T c81 := fn_ok (Φ := []) (rs := [.tmp 2]) (an := .o) pOk repOk (AllC.mem (l := []) trivial) hmix Try.call81 Try.func81 rfl rfl (by kernel_rfl) (fun h => by kernel_rfl)

noncomputable def slices_IndexFunc_Island_Island_L1 (a0 : List
  Island) : Int →
  Option
    (Int ⊕
      Unit ⊕
        Int) := fun x1 =>
  if decide (x1 < len a0) = true then
    Option.bind (idx a0 x1) fun x2 =>
      Option.bind (board_Islands_1 x2) fun x3 =>
        if x3 = true then some (.inr (.inr x1)) else some (.inl (W (x1 + 1)))
  else some (.inr (.inl ()))
noncomputable def slices_IndexFunc_Island_Island (a0 : (List Island)) : Option (Int) :=
  Option.bind (loopO (slices_IndexFunc_Island_Island_L1 a0) 0) fun x4 =>
    Sum.elim (fun x5 => some (-1)) (fun x6 => some x6) x4
noncomputable def c96 : Con D := ⟨96, [.lf (.sl 13)], [.lf (.int .i64)], [.one (.h 0 [0]), .one (.fn 81 [])], [], [.one (.h 0 [])], [], fun h => slices_IndexFunc_Island_Island h⟩
theorem c96_ok : ConOk Try.prog T c96 := fn_ok (Φ := [c81]) (rs := [.tmp 4]) (an := (.n none .o (.n none (.n none .o (.n none (.loop ⟨[.lf (.int .i64)], [(8, .one (.h 0 []))], [], [], 2320⟩ false [(.exit 0, ⟨[], [], [], [], 2320⟩)] .o) .o)) .o))) pOk repOk (AllC.mem (⟨c81_ok, trivial⟩ : AllC _ _ [c81])) hmix Try.call96 Try.func96 rfl rfl (by kernel_rfl) (fun h => by kernel_rfl)

noncomputable def slices_DeleteFunc_Island_Island_L1 : Int × Int × List Island →
  Option
    (Int × Int × List Island ⊕
      Int ×
        List
          Island) := fun x2 =>
  if decide (x2.2.1 < len x2.2.2) = true then
    Option.bind (idx x2.2.2 x2.2.1) fun x3 =>
      Option.bind (board_Islands_1 x3) fun x4 =>
        Option.bind
          (if (!x4) = true then
            Option.bind (idx x2.2.2 x2.1) fun x5 =>
              Option.bind (idx x2.2.2 x2.1) fun x6 =>
                Option.bind (setO x2.2.2 x2.1 x3) fun x7 => some (W (x2.1 + 1), x7)
          else some (x2.1, x2.2.2))
          fun x8 => some (.inl (x8.1, W (x2.2.1 + 1), x8.2))
  else some (.inr (x2.1, x2.2.2))
noncomputable def slices_DeleteFunc_Island_Island (a0 : (List Island)) : Option ((List Island)) :=
  Option.bind (slices_IndexFunc_Island_Island a0) fun x1 =>
    if (x1 == (-1)) = true then some a0
    else
      Option.bind (loopO slices_DeleteFunc_Island_Island_L1 (x1, W (x1 + 1), a0)) fun x9 =>
        Option.bind (slc x9.2 x9.1 (len x9.2)) fun x10 =>
          Option.bind (slc (clrT (Island.mk [] [] []) x9.2 x9.1) 0 x9.1) fun x11 => some x11
noncomputable def c80 : Con D := ⟨80, [.lf (.sl 13)], [.lf (.sl 13)], [.one (.own 1000), .one (.fn 81 [])], [(1000, .sl 13 82 0 [0])], [.one (.own 1001)], [(1001, .sl 13 82 0 [0])], fun h => slices_DeleteFunc_Island_Island h⟩
theorem c80_ok : ConOk Try.prog T c80 := fn_ok (Φ := [c81, c96]) (rs := [.tmp 4]) (an := (.n none .o (.n none .o (.n none .o (.n none (.n none .o (.n none (.loop ⟨[.lf (.int .i64), .lf (.int .i64), .lf (.sl 13)], [(5, .one (.h 0 [])), (6, .one (.h 1 []))], [(1000, .sl 13 82 2 [0])], [1000], 2704⟩ true [(.exit 0, ⟨[.lf (.int .i64), .lf (.sl 13)], [(5, .one (.h 0 []))], [(1000, .sl 13 82 1 [0])], [1000], 2704⟩)] (.n none .o (.n none (.n none (.n none .o (.n none .o (.n (some (true, [(.normal, ⟨[.lf (.int .i64), .lf (.sl 13)], [(5, .one (.h 0 []))], [(1000, .sl 13 82 1 [0])], [1000], 3667⟩)])) .o .o))) .o) .o))) .o)) .o))))) pOk repOk (AllC.mem (⟨c81_ok, c96_ok, trivial⟩ : AllC _ _ [c81, c96])) hmix Try.call80 Try.func80 rfl rfl (by kernel_rfl) (fun h => by kernel_rfl)

noncomputable def board_Islands_L1 (x2 : List
  Int) : Int × List Island →
  Option
    (Int × List Island ⊕
      List
        Island) := fun x4 =>
  if decide (x4.1 < len x2) = true then
    Option.bind (idx x2 x4.1) fun x5 =>
      Option.bind (idx x4.2 x5) fun x6 =>
        Option.bind (idx x4.2 x5) fun x7 =>
          Option.bind (idx x4.2 x5) fun x8 =>
            Option.bind (app x8.Buses [x4.1]) fun x9 =>
              Option.bind (setO x4.2 x5 (Island.mk x9 x8.Sources x8.Consumers)) fun x10 =>
                Option.bind (idx x10 x5) fun x11 =>
                  Option.bind (eqO x5 x5) fun x12 => some (.inl (W (x4.1 + 1), x10))
  else some (.inr x4.2)
noncomputable def board_Islands_L2 (a0 : Board) (a1 : Power) (x2 : List
  Int) : Int × List Island →
  Option
    (Int × List Island ⊕
      List
        Island) := fun x14 =>
  if decide (x14.1 < len a0.Sources) = true then
    Option.bind (board_connected a0 a1 x14.1) fun x15 =>
      Option.bind
        (if x15.2 = true then
          Option.bind (idx x2 x15.1) fun x16 =>
            Option.bind (idx x2 x15.1) fun x17 =>
              Option.bind (idx x14.2 x17) fun x18 =>
                Option.bind (idx x14.2 x17) fun x19 =>
                  Option.bind (idx x14.2 x17) fun x20 =>
                    Option.bind (app x20.Sources [x14.1]) fun x21 =>
                      Option.bind (setO x14.2 x17 (Island.mk x20.Buses x21 x20.Consumers)) fun x22 =>
                        Option.bind (idx x22 x16) fun x23 => Option.bind (eqO x16 x17) fun x24 => some x22
        else some x14.2)
        fun x25 => some (.inl (W (x14.1 + 1), x25))
  else some (.inr x14.2)
noncomputable def board_Islands_L3 (a0 : Board) (a1 : Power) (x2 : List
  Int) : Int × List Island →
  Option
    (Int × List Island ⊕
      List
        Island) := fun x27 =>
  if decide (x27.1 < len a0.Consumers) = true then
    Option.bind (board_fed a0 a1 x27.1) fun x28 =>
      Option.bind
        (if x28.2 = true then
          Option.bind (idx x2 x28.1) fun x29 =>
            Option.bind (idx x2 x28.1) fun x30 =>
              Option.bind (idx x27.2 x30) fun x31 =>
                Option.bind (idx x27.2 x30) fun x32 =>
                  Option.bind (idx x27.2 x30) fun x33 =>
                    Option.bind (app x33.Consumers [x27.1]) fun x34 =>
                      Option.bind (setO x27.2 x30 (Island.mk x33.Buses x33.Sources x34)) fun x35 =>
                        Option.bind (idx x35 x29) fun x36 => Option.bind (eqO x29 x30) fun x37 => some x35
        else some x27.2)
        fun x38 => some (.inl (W (x27.1 + 1), x38))
  else some (.inr x27.2)
noncomputable def board_Islands (a0 : Board) (a1 : Power) : Option ((List Island)) :=
  Option.bind (board_State a0 a1) fun x1 =>
    if (x1 != 0) = true then some []
    else
      Option.bind (board_groups a0 a1) fun x2 =>
        Option.bind (mkZ (Island.mk [] [] []) a0.Buses) fun x3 =>
          Option.bind (loopO (board_Islands_L1 x2) (0, x3)) fun x13 =>
            Option.bind (loopO (board_Islands_L2 a0 a1 x2) (0, x13)) fun x26 =>
              Option.bind (loopO (board_Islands_L3 a0 a1 x2) (0, x26)) fun x39 =>
                Option.bind (slices_DeleteFunc_Island_Island x39) fun x40 => some x40
noncomputable def c54 : Con D := ⟨54, [.lf (.int .i64), .lf (.sl 4), .lf (.sl 5), .lf (.sl 6), .lf (.int .i64), .lf (.int .i64), .lf (.sl 1), .lf (.sl 8), .lf (.sl 0), .lf (.sl 9)], [.lf (.sl 13)], [.agg [.h 0 [], .h 1 [0], .h 2 [0], .h 3 [0], .h 4 [], .h 5 []], .agg [.h 6 [0], .h 7 [0], .h 8 [0], .h 9 [0]]], [], [.one (.own 1000)], [(1000, .sl 13 82 0 [1])], fun h => board_Islands ⟨h.1, h.2.1, h.2.2.1, h.2.2.2.1, h.2.2.2.2.1, h.2.2.2.2.2.1⟩ ⟨h.2.2.2.2.2.2.1, h.2.2.2.2.2.2.2.1, h.2.2.2.2.2.2.2.2.1, h.2.2.2.2.2.2.2.2.2⟩⟩
theorem c54_ok : ConOk Try.prog T c54 := fn_ok (Φ := [c45, c77, c78, c79, c80]) (rs := [.tmp 4]) (an := (.n none .o (.n none .o (.n none .o (.n none .o (.n none (.n none .o (.n none (.loop ⟨[.lf (.int .i64), .lf (.sl 13)], [(27, .one (.h 0 []))], [(2832, .kid 13 82 3 0 1)], [2832], 3216⟩ true [(.exit 0, ⟨[.lf (.sl 13)], [], [(2832, .kid 13 82 3 0 0)], [2832], 3216⟩)] .o) .o)) (.n none (.n none .o (.n none (.loop ⟨[.lf (.int .i64), .lf (.sl 13)], [(48, .one (.h 0 []))], [(2832, .kid 13 82 3 0 1)], [2832], 3537⟩ true [(.exit 2, ⟨[.lf (.sl 13)], [], [(2832, .kid 13 82 3 0 0)], [2832], 3537⟩)] (.n none .o (.n none .o (.n none (.n none (.n none .o (.n none .o (.n none .o (.n (some (true, [(.normal, ⟨[.lf (.sl 13)], [], [(2832, .kid 13 82 3 0 0)], [2832], 4435⟩)])) .o .o)))) .o) .o)))) .o)) (.n none (.n none .o (.n none (.loop ⟨[.lf (.int .i64), .lf (.sl 13)], [(81, .one (.h 0 []))], [(2832, .kid 13 82 3 0 1)], [2832], 3858⟩ true [(.exit 4, ⟨[.lf (.sl 13)], [], [(2832, .kid 13 82 3 0 0)], [2832], 3858⟩)] (.n none .o (.n none .o (.n none (.n none (.n none .o (.n none .o (.n none .o (.n (some (true, [(.normal, ⟨[.lf (.sl 13)], [], [(2832, .kid 13 82 3 0 0)], [2832], 4756⟩)])) .o .o)))) .o) .o)))) .o)) (.n none (.r none (.thaw 1 [2832] .nil)) .o))))))))) pOk repOk (AllC.mem (⟨c45_ok, c77_ok, c78_ok, c79_ok, c80_ok, trivial⟩ : AllC _ _ [c45, c77, c78, c79, c80])) hmix Try.call54 Try.func54 rfl rfl (by kernel_rfl) (fun h => by kernel_rfl)

noncomputable def board_Of_L1 (a2 : Int) (x1 : List
  Island) : Int →
  Option
    (Int ⊕
      Unit ⊕
        List Int ×
          List Int ×
            List Int ×
              Bool) := fun x2 =>
  if decide (x2 < len x1) = true then
    Option.bind (idx x1 x2) fun x3 =>
      Option.bind (slices_Contains_int_int x3.Buses a2) fun x4 =>
        if x4 = true then some (.inr (.inr (x3.Buses, x3.Sources, x3.Consumers, true)))
        else some (.inl (W (x2 + 1)))
  else some (.inr (.inl ()))
noncomputable def board_Of (a0 : Board) (a1 : Power) (a2 : Int) : Option ((List Int) × (List Int) × (List Int) × Bool) :=
  Option.bind (board_Islands a0 a1) fun x1 =>
    Option.bind (loopO (board_Of_L1 a2 x1) 0) fun x5 =>
      Sum.elim (fun x6 => some ([], [], [], false)) (fun x7 => some x7) x5
noncomputable def c28 : Con D := ⟨28, [.lf (.int .i64), .lf (.sl 4), .lf (.sl 5), .lf (.sl 6), .lf (.int .i64), .lf (.int .i64), .lf (.sl 1), .lf (.sl 8), .lf (.sl 0), .lf (.sl 9), .lf (.int .i64)], [.lf (.sl 0), .lf (.sl 0), .lf (.sl 0), .lf .bool], [.agg [.h 0 [], .h 1 [0], .h 2 [0], .h 3 [0], .h 4 [], .h 5 []], .agg [.h 6 [0], .h 7 [0], .h 8 [0], .h 9 [0]], .one (.h 10 [])], [], [.agg [.h 0 [1], .h 1 [1], .h 2 [1]], .one (.h 3 [])], [], fun h => board_Of ⟨h.1, h.2.1, h.2.2.1, h.2.2.2.1, h.2.2.2.2.1, h.2.2.2.2.2.1⟩ ⟨h.2.2.2.2.2.2.1, h.2.2.2.2.2.2.2.1, h.2.2.2.2.2.2.2.2.1, h.2.2.2.2.2.2.2.2.2.1⟩ h.2.2.2.2.2.2.2.2.2.2⟩
theorem c28_ok : ConOk Try.prog T c28 := fn_ok (Φ := [c54, c55]) (rs := [.cell 6 82, .tmp 7]) (an := (.n none .o (.n none (.n none .o (.n none (.loop ⟨[.lf (.int .i64)], [(14, .one (.h 0 []))], [(2128, .box [.nils, .nils, .nils])], [2128], 2640⟩ false [(.exit 0, ⟨[], [], [(2128, .box [.nils, .nils, .nils])], [2128], 2640⟩)] .o) .o)) .o))) pOk repOk (AllC.mem (⟨c54_ok, c55_ok, trivial⟩ : AllC _ _ [c54, c55])) hmix Try.call28 Try.func28 rfl rfl (by kernel_rfl) (fun h => by kernel_rfl)

noncomputable def slices_Backward_int_int (a0 : (List Int)) : Option ((List Int)) := some a0
noncomputable def c29 : Con D := ⟨29, [.lf (.sl 0)], [.lf (.sl 0)], [.one (.h 0 [0])], [], [.one (.fn 56 [.ptr 1000 0])], [(1000, .box [.h 0 [0]])], fun h => slices_Backward_int_int h⟩
theorem c29_ok : ConOk Try.prog T c29 := fn_ok (Φ := []) (rs := [.tmp 2]) (an := .o) pOk repOk (AllC.mem (l := []) trivial) hmix Try.call29 Try.func29 rfl rfl (by kernel_rfl) (fun h => by kernel_rfl)

noncomputable def roster_breaker_1 (a0 : Breaker) (a1 : Int) : Option (Bool) := Option.bind (if (a0.Kind == 2) = true then some (a0.B == a1) else some false) fun x1 => some x1
noncomputable def c59 : Con D := ⟨59, [.lf (.int .i64), .lf (.int .i64), .lf (.int .i64), .el 0], [.lf .bool], [.agg [.h 0 [], .h 1 [], .h 2 []], .one (.rp 3 0 [0])], [], [.one (.h 0 [])], [], fun h => roster_breaker_1 ⟨h.1, h.2.1, h.2.2.1⟩ h.2.2.2⟩
theorem c59_ok : ConOk Try.prog T c59 := fn_ok (Φ := []) (rs := [.tmp 3]) (an := (.n none .o (.n none (.r (some (true, [(.normal, ⟨[.lf .bool], [(3, .one (.h 0 []))], [], [], 2192⟩)])) .nil) .o))) pOk repOk (AllC.mem (l := []) trivial) hmix Try.call59 Try.func59 rfl rfl (by kernel_rfl) (fun h => by kernel_rfl)

noncomputable def slices_IndexFunc_Breaker_Breaker_L1 (a0 : List
  Breaker) (a1 : Int) : Int →
  Option
    (Int ⊕
      Unit ⊕
        Int) := fun x1 =>
  if decide (x1 < len a0) = true then
    Option.bind (idx a0 x1) fun x2 =>
      Option.bind (roster_breaker_1 x2 a1) fun x3 =>
        if x3 = true then some (.inr (.inr x1)) else some (.inl (W (x1 + 1)))
  else some (.inr (.inl ()))
noncomputable def slices_IndexFunc_Breaker_Breaker (a0 : (List Breaker)) (a1 : Int) : Option (Int) :=
  Option.bind (loopO (slices_IndexFunc_Breaker_Breaker_L1 a0 a1) 0) fun x4 =>
    Sum.elim (fun x5 => some (-1)) (fun x6 => some x6) x4
noncomputable def c58 : Con D := ⟨58, [.lf (.sl 4), .el 0], [.lf (.int .i64)], [.one (.h 0 [0]), .one (.fn 59 [.rp 1 0 [0]])], [], [.one (.h 0 [])], [], fun h => slices_IndexFunc_Breaker_Breaker h.1 h.2⟩
theorem c58_ok : ConOk Try.prog T c58 := fn_ok (Φ := [c59]) (rs := [.tmp 4]) (an := (.n none .o (.n none (.n none .o (.n none (.loop ⟨[.lf (.int .i64)], [(8, .one (.h 0 []))], [], [], 2320⟩ false [(.exit 0, ⟨[], [], [], [], 2320⟩)] .o) .o)) .o))) pOk repOk (AllC.mem (⟨c59_ok, trivial⟩ : AllC _ _ [c59])) hmix Try.call58 Try.func58 rfl rfl (by kernel_rfl) (fun h => by kernel_rfl)

noncomputable def roster_breaker (a0 : Board) (a1 : Int) : Option (Int) := Option.bind (slices_IndexFunc_Breaker_Breaker a0.Breakers a1) fun x1 => some x1
noncomputable def c31 : Con D := ⟨31, [.lf (.int .i64), .lf (.sl 4), .lf (.sl 5), .lf (.sl 6), .lf (.int .i64), .lf (.int .i64), .lf (.int .i64)], [.lf (.int .i64)], [.agg [.h 0 [], .h 1 [0], .h 2 [0], .h 3 [0], .h 4 [], .h 5 []], .one (.h 6 [])], [], [.one (.h 0 [])], [], fun h => roster_breaker ⟨h.1, h.2.1, h.2.2.1, h.2.2.2.1, h.2.2.2.2.1, h.2.2.2.2.2.1⟩ h.2.2.2.2.2.2⟩
theorem c31_ok : ConOk Try.prog T c31 := fn_ok (Φ := [c58]) (rs := [.tmp 4]) (an := .o) pOk repOk (AllC.mem (⟨c58_ok, trivial⟩ : AllC _ _ [c58])) hmix Try.call31 Try.func31 rfl rfl (by kernel_rfl) (fun h => by kernel_rfl)

noncomputable def slices_Index_Part_Part_L1 (a0 : List
  Part) (a1 : Part) : Int →
  Option
    (Int ⊕
      Unit ⊕
        Int) := fun x1 =>
  if decide (x1 < len a0) = true then
    Option.bind (idx a0 x1) fun x2 =>
      if (a1.Kind == x2.Kind && a1.Number == x2.Number) = true then some (.inr (.inr x1))
      else some (.inl (W (x1 + 1)))
  else some (.inr (.inl ()))
noncomputable def slices_Index_Part_Part (a0 : (List Part)) (a1 : Part) : Option (Int) :=
  Option.bind (loopO (slices_Index_Part_Part_L1 a0 a1) 0) fun x3 =>
    Sum.elim (fun x4 => some (-1)) (fun x5 => some x5) x3
noncomputable def c83 : Con D := ⟨83, [.lf (.sl 9), .lf (.int .i64), .lf (.int .i64)], [.lf (.int .i64)], [.one (.h 0 [0]), .agg [.h 1 [], .h 2 []]], [], [.one (.h 0 [])], [], fun h => slices_Index_Part_Part h.1 ⟨h.2.1, h.2.2⟩⟩
theorem c83_ok : ConOk Try.prog T c83 := fn_ok (Φ := []) (rs := [.tmp 4]) (an := (.n none .o (.n none (.n none .o (.n none (.loop ⟨[.lf (.int .i64)], [(8, .one (.h 0 []))], [], [], 2384⟩ false [(.exit 0, ⟨[], [], [], [], 2384⟩)] .o) .o)) .o))) pOk repOk (AllC.mem (l := []) trivial) hmix Try.call83 Try.func83 rfl rfl (by kernel_rfl) (fun h => by kernel_rfl)

noncomputable def slices_Contains_Part_Part (a0 : (List Part)) (a1 : Part) : Option (Bool) := Option.bind (slices_Index_Part_Part a0 a1) fun x1 => some (decide (x1 ≥ 0))
noncomputable def c57 : Con D := ⟨57, [.lf (.sl 9), .lf (.int .i64), .lf (.int .i64)], [.lf .bool], [.one (.h 0 [0]), .agg [.h 1 [], .h 2 []]], [], [.one (.h 0 [])], [], fun h => slices_Contains_Part_Part h.1 ⟨h.2.1, h.2.2⟩⟩
theorem c57_ok : ConOk Try.prog T c57 := fn_ok (Φ := [c83]) (rs := [.tmp 4]) (an := .o) pOk repOk (AllC.mem (⟨c83_ok, trivial⟩ : AllC _ _ [c83])) hmix Try.call57 Try.func57 rfl rfl (by kernel_rfl) (fun h => by kernel_rfl)

end Rx
end Go.Proofs.Ytcekgnnekooohaa
