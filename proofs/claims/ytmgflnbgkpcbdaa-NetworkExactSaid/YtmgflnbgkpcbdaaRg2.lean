/- Plain functions, walks. Written by a program (wip/gen). -/
import Derived.Test.YtmgflnbgkpcbdaaRt
import Derived.Test.YtmgflnbgkpcbdaaRg1
set_option linter.unusedVariables false
set_option maxRecDepth 100000
namespace Go.Proofs.Ytmgflnbgkpcbdaa
open Go Go.RowKit Dp
namespace Rx

noncomputable def network_Deliver_L1 (a2 : List
  Port) : Int × List Port →
  Option
    (Int × List Port ⊕
      List
        Port) := fun x5 =>
  if decide (x5.1 < len a2) = true then
    Option.bind (idx a2 x5.1) fun x6 =>
      Option.bind (network_copyPort x6) fun x7 =>
        Option.bind (app x5.2 [Port.mk x7.1 x7.2]) fun x8 => some (.inl (W (x5.1 + 1), x8))
  else some (.inr x5.2)
noncomputable def network_Deliver_L3 (a0 : Net) (x11 : Message) (x12 : Int) : Int × List Message × List Port →
  Option
    (Int × List Message × List Port ⊕
      List Message ×
        List
          Port) := fun x13 =>
  if decide (x13.1 < x12) = true then
    Option.bind (idx x13.2.2 (W (W (x11.To * a0.Nodes) + x11.From))) fun x14 =>
      Option.bind (network_Accept x14 x11.Number) fun x15 =>
        Option.bind
          (if x15.2.1 = true then
            Option.bind (idx x13.2.2 (W (W (x11.To * a0.Nodes) + x11.From))) fun x16 =>
              Option.bind (idx x13.2.2 (W (W (x11.To * a0.Nodes) + x11.From))) fun x17 =>
                Option.bind (setO x13.2.2 (W (W (x11.To * a0.Nodes) + x11.From)) (Port.mk x15.1 x15.2.2))
                  fun x18 => Option.bind (app x13.2.1 [x11]) fun x19 => some (x19, x18)
          else some (x13.2.1, x13.2.2))
          fun x20 => some (.inl (W (x13.1 + 1), x20.1, x20.2))
  else some (.inr (x13.2.1, x13.2.2))
noncomputable def network_Deliver_L2 (a0 : Net) (a1 : List
  Part) (a3 : List
  Message) : Int × List Message × List Port →
  Option
    (Int × List Message × List Port ⊕
      List Message ×
        List
          Port) := fun x10 =>
  if decide (x10.1 < len a3) = true then
    Option.bind (idx a3 x10.1) fun x11 =>
      Option.bind (network_Copies a0 a1 x11.From x11.To) fun x12 =>
        Option.bind (loopO (network_Deliver_L3 a0 x11 x12) (0, x10.2.1, x10.2.2)) fun x21 =>
          some (.inl (W (x10.1 + 1), x21.1, x21.2))
  else some (.inr (x10.2.1, x10.2.2))
noncomputable def network_Deliver (a0 : Net) (a1 : (List Part)) (a2 : (List Port)) (a3 : (List Message)) : Option (Int × (List Port) × (List Message)) :=
  Option.bind (network_Check a0) fun x1 =>
    if (x1 != 0) = true then some (x1, [], [])
    else
      if (len a2 != W (a0.Nodes * a0.Nodes)) = true then some (8, [], [])
      else
        Option.bind
          (Option.bind (slices_ContainsFunc_Message_Message a3 a0) fun x2 =>
            if x2 = true then some true else Option.bind (slices_ContainsFunc_Port_Port a2) fun x3 => some x3)
          fun x4 =>
          if x4 = true then some (1, [], [])
          else
            if decide (len a3 > 60) = true then some (2, [], [])
            else
              Option.bind (loopO (network_Deliver_L1 a2) (0, [])) fun x9 =>
                Option.bind (loopO (network_Deliver_L2 a0 a1 a3) (0, [], x9)) fun x22 =>
                  some (0, x22.2, x22.1)
noncomputable def c24 : Con D := ⟨24, [.lf (.int .i64), .lf (.sl 4), .lf (.sl 5), .lf (.sl 6), .lf (.sl 7)], [.lf (.int .i64), .lf (.sl 6), .lf (.sl 7)], [.agg [.h 0 [], .h 1 [0]], .one (.h 2 [0]), .one (.h 3 [0]), .one (.h 4 [0])], [], [.one (.own 1000), .one (.own 1001), .one (.h 0 [])], [(1000, .sl 6 28 1 [1]), (1001, .sl 7 65 2 [])], fun h => network_Deliver ⟨h.1, h.2.1⟩ h.2.2.1 h.2.2.2.1 h.2.2.2.2⟩
theorem c24_ok : ConOk Try.prog T c24 := fn_ok (Φ := [c11, c18, c29, c46, c47, c49]) (rs := [.tmp 8, .tmp 9, .tmp 10]) (an := (.n none .o (.n none .o (.n none .o (.n none (.n none (.n none .o (.n none .o (.n none (.r (some (true, [(.normal, ⟨[.lf .bool], [(37, .one (.h 0 []))], [], [], 3344⟩)])) .nil) .o))) .o) (.n none .o (.n none (.n none .o (.n none (.loop ⟨[.lf (.int .i64), .lf (.sl 6)], [(13, .one (.own 3857)), (51, .one (.h 0 []))], [(3857, .sl 6 28 1 [1])], [], 3921⟩ true [(.exit 1, ⟨[.lf (.sl 6)], [(13, .one (.own 3857))], [(3857, .sl 6 28 0 [1])], [], 3921⟩)] .o) .o)) (.n none .o (.n none (.n none .o (.n none (.loop ⟨[.lf (.int .i64), .lf (.sl 7), .lf (.sl 6)], [(16, .one (.own 4178)), (63, .one (.h 0 []))], [(4178, .sl 7 65 1 []), (3857, .sl 6 28 2 [1])], [3857], 4242⟩ true [(.exit 3, ⟨[.lf (.sl 7), .lf (.sl 6)], [(16, .one (.own 4178))], [(4178, .sl 7 65 0 []), (3857, .sl 6 28 1 [1])], [3857], 4242⟩)] (.n none .o (.n none .o (.n none (.n none (.n none .o (.n none .o (.n none .o (.n none (.loop ⟨[.lf (.int .i64), .lf (.sl 7), .lf (.sl 6)], [(16, .one (.own 5653)), (82, .one (.h 0 []))], [(5653, .sl 7 65 1 []), (3857, .sl 6 28 2 [1])], [3857, 4178], 5717⟩ true [(.exit 5, ⟨[.lf (.sl 7), .lf (.sl 6)], [(16, .one (.own 5653))], [(5653, .sl 7 65 0 []), (3857, .sl 6 28 1 [1])], [3857, 4178], 5717⟩)] (.n none .o (.n none .o (.n none (.n none (.n none .o (.n none .o (.n (some (true, [(.normal, ⟨[.lf (.sl 7), .lf (.sl 6)], [(16, .one (.own 6680))], [(6680, .sl 7 65 0 []), (3857, .sl 6 28 1 [1])], [3857, 5653, 6176], 6744⟩)])) .o .o))) .o) .o)))) .o)))) .o) .o)))) .o)) .o))))))))) pOk repOk (AllC.mem (⟨c11_ok, c18_ok, c29_ok, c46_ok, c47_ok, c49_ok, trivial⟩ : AllC _ _ [c11, c18, c29, c46, c47, c49])) hmix Try.call24 Try.func24 rfl rfl (by kernel_rfl) (fun h => by kernel_rfl)

noncomputable def dynposref32_Same_L1 (a0 : Port) (a1 : Port) : Int →
  Option
    (Int ⊕
      Unit ⊕
        Bool) := fun x2 =>
  if decide (x2 < len a0.Below) = true then
    Option.bind (idx a0.Below x2) fun x3 =>
      Option.bind (idx a1.Below x2) fun x4 =>
        if (x3 != x4) = true then some (.inr (.inr false)) else some (.inl (W (x2 + 1)))
  else some (.inr (.inl ()))
noncomputable def dynposref32_Same (a0 : Port) (a1 : Port) : Option (Bool) :=
  Option.bind (if (a0.High != a1.High) = true then some true else some (len a0.Below != len a1.Below)) fun x1 =>
    if x1 = true then some false
    else
      Option.bind (loopO (dynposref32_Same_L1 a0 a1) 0) fun x5 =>
        Sum.elim (fun x6 => some true) (fun x7 => some x7) x5
noncomputable def c31 : Con D := ⟨31, [.lf (.int .i64), .lf (.sl 0), .lf (.int .i64), .lf (.sl 0)], [.lf .bool], [.agg [.h 0 [], .h 1 [0]], .agg [.h 2 [], .h 3 [0]]], [], [.one (.h 0 [])], [], fun h => dynposref32_Same ⟨h.1, h.2.1⟩ ⟨h.2.2.1, h.2.2.2⟩⟩
theorem c31_ok : ConOk Try.prog T c31 := fn_ok (Φ := []) (rs := [.tmp 4]) (an := (.n none .o (.n none (.n none (.r (some (true, [(.normal, ⟨[.lf .bool], [(19, .one (.h 0 []))], [], [], 2256⟩)])) .nil) .o) (.n none (.n none .o (.n none (.loop ⟨[.lf (.int .i64)], [(23, .one (.h 0 []))], [], [], 2577⟩ false [(.exit 0, ⟨[], [], [], [], 2577⟩)] .o) .o)) .o)))) pOk repOk (AllC.mem (l := []) trivial) hmix Try.call31 Try.func31 rfl rfl (by kernel_rfl) (fun h => by kernel_rfl)

noncomputable def dynposlaw32_sane : Option (Bool) := Option.bind
  (network_Ports
    (Net.mk 2
      [Cable.mk 0 0 1, Cable.mk 1 0 1]))
  fun x1 =>
  Option.bind
    (network_Deliver
      (Net.mk 2
        [Cable.mk 0 0 1, Cable.mk 1 0 1])
      [] x1 [Message.mk 0 1 1 0])
    fun x2 =>
    Option.bind (network_Accept (Port.mk 0 []) 5) fun x3 =>
      Option.bind (network_Accept (Port.mk x3.1 x3.2.2) 3) fun x4 =>
        Option.bind (network_Accept (Port.mk x4.1 x4.2.2) 5) fun x5 =>
          Option.bind
            (if (x2.1 == 0) = true then
              if (len x2.2.2 == 1) = true then
                if (len x2.2.1 == 4) = true then
                  Option.bind (idx x2.2.1 2) fun x6 =>
                    if (x6.High == 1) = true then
                      if x3.2.1 = true then
                        if x4.2.1 = true then
                          if (!x5.2.1) = true then
                            Option.bind
                              (dynposref32_Same (Port.mk x4.1 x4.2.2) (Port.mk 5 [3]))
                              fun x7 =>
                              if x7 = true then
                                Option.bind
                                  (network_Copies
                                    (Net.mk 2
                                      [Cable.mk 0 0 1,
                                        Cable.mk 1 0 1])
                                    [Part.mk 8 0] 0 1)
                                  fun x8 => some (x8 == 1)
                              else some false
                          else some false
                        else some false
                      else some false
                    else some false
                else some false
              else some false
            else some false)
            fun x9 => some x9
noncomputable def c4 : Con D := ⟨4, [], [.lf .bool], [], [], [.one (.h 0 [])], [], fun h => dynposlaw32_sane⟩
theorem c4_ok : ConOk Try.prog T c4 := fn_ok (Φ := [c14, c18, c24, c29, c31]) (rs := [.tmp 0]) (an := (.n none .o (.n none .o (.n none .o (.n none .o (.n none .o (.n none .o (.n none (.r (some (true, [(.normal, ⟨[.lf .bool], [(0, .one (.h 0 []))], [], [], 4880⟩)])) .nil) .o)))))))) pOk repOk (AllC.mem (⟨c14_ok, c18_ok, c24_ok, c29_ok, c31_ok, trivial⟩ : AllC _ _ [c14, c18, c24, c29, c31])) hmix Try.call4 Try.func4 rfl rfl (by kernel_rfl) (fun h => by kernel_rfl)

noncomputable def dynposmake_New (a0 : (List Int)) : Option ((List Int) × Int) := Option.bind (slc a0 0 (imin (len a0) 600)) fun x1 => some (x1, 0)
noncomputable def c5 : Con D := ⟨5, [.lf (.sl 0)], [.lf (.sl 0), .lf (.int .i64)], [.one (.h 0 [0])], [], [.one (.ptr 1000 0)], [(1000, .box [.h 0 [0], .h 1 []])], fun h => dynposmake_New h⟩
theorem c5_ok : ConOk Try.prog T c5 := fn_ok (Φ := []) (rs := [.tmp 2]) (an := .o) pOk repOk (AllC.mem (l := []) trivial) hmix Try.call5 Try.func5 rfl rfl (by kernel_rfl) (fun h => by kernel_rfl)

noncomputable def dynposmake_Mod (a0 : Int) (a1 : Int) : Option (Int) :=
  if decide (a1 < 1) = true then some 0
  else Option.bind (remO a0 a1) fun x1 => Option.bind (remO (W (x1 + a1)) a1) fun x2 => some x2
noncomputable def c32 : Con D := ⟨32, [.lf (.int .i64), .lf (.int .i64)], [.lf (.int .i64)], [.one (.h 0 []), .one (.h 1 [])], [], [.one (.h 0 [])], [], fun h => dynposmake_Mod h.1 h.2⟩
theorem c32_ok : ConOk Try.prog T c32 := fn_ok (Φ := []) (rs := [.tmp 4]) (an := .o) pOk repOk (AllC.mem (l := []) trivial) hmix Try.call32 Try.func32 rfl rfl (by kernel_rfl) (fun h => by kernel_rfl)

noncomputable def Src_N (a0 : Src) (a1 : Int) : Option (Int × (List Int) × Int) :=
  if decide (a0.At ≥ len a0.L) = true then some (0, a0.L, a0.At)
  else
    Option.bind (idx a0.L (W (W (a0.At + 1) - 1))) fun x1 =>
      Option.bind (dynposmake_Mod x1 a1) fun x2 => some (x2, a0.L, W (a0.At + 1))
noncomputable def c8 : Con D := ⟨8, [.lf (.sl 0), .lf (.int .i64), .lf (.int .i64)], [.lf (.int .i64), .lf (.sl 0), .lf (.int .i64)], [.one (.ptr 1000 0), .one (.h 2 [])], [(1000, .box [.h 0 [0], .h 1 []])], [.one (.h 0 [])], [(1000, .box [.h 1 [0], .h 2 []])], fun h => Src_N ⟨h.1, h.2.1⟩ h.2.2⟩
theorem c8_ok : ConOk Try.prog T c8 := fn_ok (Φ := [c32]) (rs := [.tmp 4]) (an := .o) pOk repOk (AllC.mem (⟨c32_ok, trivial⟩ : AllC _ _ [c32])) hmix Try.call8 Try.func8 rfl rfl (by kernel_rfl) (fun h => by kernel_rfl)

noncomputable def Src_Range (a0 : Src) (a1 : Int) (a2 : Int) : Option (Int × (List Int) × Int) :=
  Option.bind (Src_N a0 (W (W (a2 - a1) + 1))) fun x1 => some (W (a1 + x1.1), x1.2.1, x1.2.2)
noncomputable def c9 : Con D := ⟨9, [.lf (.sl 0), .lf (.int .i64), .lf (.int .i64), .lf (.int .i64)], [.lf (.int .i64), .lf (.sl 0), .lf (.int .i64)], [.one (.ptr 1000 0), .one (.h 2 []), .one (.h 3 [])], [(1000, .box [.h 0 [0], .h 1 []])], [.one (.h 0 [])], [(1000, .box [.h 1 [0], .h 2 []])], fun h => Src_Range ⟨h.1, h.2.1⟩ h.2.2.1 h.2.2.2⟩
theorem c9_ok : ConOk Try.prog T c9 := fn_ok (Φ := [c8]) (rs := [.tmp 6]) (an := .o) pOk repOk (AllC.mem (⟨c8_ok, trivial⟩ : AllC _ _ [c8])) hmix Try.call9 Try.func9 rfl rfl (by kernel_rfl) (fun h => by kernel_rfl)

noncomputable def Src_Net_L3 (x2 : Int ×
  List Int ×
    Int ×
      Int ×
        List
          Cable) (x3 : Int ×
  List Int ×
    Int ×
      Int ×
        List
          Cable) : Int × List Int × Int × Int × List Cable →
  Option
    (Int × List Int × Int × Int × List Cable ⊕
      List Int ×
        Int ×
          Int ×
            List
              Cable) := fun x4 =>
  if decide (x4.1 < x4.2.2.2.1) = true then
    Option.bind (Src_N (Src.mk x4.2.1 x4.2.2.1) 2) fun x5 =>
      Option.bind
        (if (x5.1 == 1) = true then
          Option.bind (app x4.2.2.2.2 [Cable.mk x2.1 x3.1 x4.1]) fun x6 => some (x4.2.2.2.1, x6)
        else some (x4.2.2.2.1, x4.2.2.2.2))
        fun x7 => some (.inl (W (x4.1 + 1), x5.2.1, x5.2.2, x7.1, x7.2))
  else some (.inr (x4.2.1, x4.2.2.1, x4.2.2.2.1, x4.2.2.2.2))
noncomputable def Src_Net_L2 (x2 : Int ×
  List Int ×
    Int ×
      Int ×
        List
          Cable) : Int × List Int × Int × Int × List Cable →
  Option
    (Int × List Int × Int × Int × List Cable ⊕
      List Int ×
        Int ×
          Int ×
            List
              Cable) := fun x3 =>
  if decide (x3.1 < x3.2.2.2.1) = true then
    Option.bind
      (loopO (Src_Net_L3 x2 x3)
        (W (x3.1 + 1), x3.2.1, x3.2.2.1, x3.2.2.2.1, x3.2.2.2.2))
      fun x8 => some (.inl (W (x3.1 + 1), x8.1, x8.2.1, x8.2.2.1, x8.2.2.2))
  else some (.inr (x3.2.1, x3.2.2.1, x3.2.2.2.1, x3.2.2.2.2))
noncomputable def Src_Net_L1 : Int × List Int × Int × Int × List Cable →
  Option
    (Int × List Int × Int × Int × List Cable ⊕
      List Int ×
        Int ×
          Int ×
            List
              Cable) := fun x2 =>
  if decide (x2.1 < 2) = true then
    Option.bind
      (loopO (Src_Net_L2 x2) (0, x2.2.1, x2.2.2.1, x2.2.2.2.1, x2.2.2.2.2))
      fun x9 => some (.inl (W (x2.1 + 1), x9.1, x9.2.1, x9.2.2.1, x9.2.2.2))
  else some (.inr (x2.2.1, x2.2.2.1, x2.2.2.2.1, x2.2.2.2.2))
noncomputable def Src_Net (a0 : Src) : Option (Int × (List Int) × Int × (List Cable)) :=
  Option.bind (Src_Range a0 1 5) fun x1 =>
    Option.bind (loopO Src_Net_L1 (0, x1.2.1, x1.2.2, x1.1, [])) fun x10 =>
      some (x10.2.2.1, x10.1, x10.2.1, x10.2.2.2)
noncomputable def c6 : Con D := ⟨6, [.lf (.sl 0), .lf (.int .i64)], [.lf (.int .i64), .lf (.sl 0), .lf (.int .i64), .lf (.sl 4)], [.one (.ptr 1000 0)], [(1000, .box [.h 0 [0], .h 1 []])], [.agg [.h 0 [], .own 1001]], [(1000, .box [.h 1 [0], .h 2 []]), (1001, .sl 4 38 3 [])], fun h => Src_Net ⟨h.1, h.2⟩⟩
theorem c6_ok : ConOk Try.prog T c6 := fn_ok (Φ := [c8, c9]) (rs := [.cell 2 25]) (an := (.n none .o (.n none .o (.n none (.n none .o (.n none (.loop ⟨[.lf (.int .i64), .lf (.sl 0), .lf (.int .i64), .lf (.int .i64), .lf (.sl 4)], [(4, .one (.h 0 []))], [(1000, .box [.h 1 [0], .h 2 []]), (2256, .box [.h 3 [], .own 2448]), (2448, .sl 4 38 4 [])], [1000, 2256], 2512⟩ true [(.exit 0, ⟨[.lf (.sl 0), .lf (.int .i64), .lf (.int .i64), .lf (.sl 4)], [], [(1000, .box [.h 0 [0], .h 1 []]), (2256, .box [.h 2 [], .own 2448]), (2448, .sl 4 38 3 [])], [1000, 2256], 2512⟩)] (.n none .o (.n none (.n none (.n none .o (.n none (.loop ⟨[.lf (.int .i64), .lf (.sl 0), .lf (.int .i64), .lf (.int .i64), .lf (.sl 4)], [(5, .one (.h 0 []))], [(1000, .box [.h 1 [0], .h 2 []]), (2256, .box [.h 3 [], .own 2709]), (2709, .sl 4 38 4 [])], [1000, 2256, 2448], 2773⟩ true [(.exit 2, ⟨[.lf (.sl 0), .lf (.int .i64), .lf (.int .i64), .lf (.sl 4)], [], [(1000, .box [.h 0 [0], .h 1 []]), (2256, .box [.h 2 [], .own 2709]), (2709, .sl 4 38 3 [])], [1000, 2256, 2448], 2773⟩)] (.n none .o (.n none (.n none (.n none .o (.n none (.loop ⟨[.lf (.int .i64), .lf (.sl 0), .lf (.int .i64), .lf (.int .i64), .lf (.sl 4)], [(6, .one (.h 0 []))], [(1000, .box [.h 1 [0], .h 2 []]), (2256, .box [.h 3 [], .own 3226]), (3226, .sl 4 38 4 [])], [1000, 2256, 2709], 3290⟩ true [(.exit 4, ⟨[.lf (.sl 0), .lf (.int .i64), .lf (.int .i64), .lf (.sl 4)], [], [(1000, .box [.h 0 [0], .h 1 []]), (2256, .box [.h 2 [], .own 3226]), (3226, .sl 4 38 3 [])], [1000, 2256, 2709], 3290⟩)] (.n none .o (.n none (.n none (.n none .o (.n (some (true, [(.normal, ⟨[.lf (.int .i64), .lf (.sl 4)], [], [(2256, .box [.h 0 [], .own 3743]), (3743, .sl 4 38 1 [])], [2256, 3226], 3807⟩)])) .o .o)) .o) .o))) .o)) .o) .o))) .o)) .o) .o))) .o)) .o)))) pOk repOk (AllC.mem (⟨c8_ok, c9_ok, trivial⟩ : AllC _ _ [c8, c9])) hmix Try.call6 Try.func6 rfl rfl (by kernel_rfl) (fun h => by kernel_rfl)

noncomputable def Src_Some_L1 (a1 : Int) (a2 : Int) : Int × List Int × List Int × Int →
  Option
    (Int × List Int × List Int × Int ⊕
      List Int ×
        List Int ×
          Int) := fun x1 =>
  if decide (x1.1 < a1) = true then
    Option.bind (Src_N (Src.mk x1.2.2.1 x1.2.2.2) a2) fun x2 =>
      Option.bind
        (if (x2.1 == W (a2 - 1)) = true then Option.bind (app x1.2.1 [x1.1]) fun x3 => some x3
        else some x1.2.1)
        fun x4 => some (.inl (W (x1.1 + 1), x4, x2.2.1, x2.2.2))
  else some (.inr (x1.2.1, x1.2.2.1, x1.2.2.2))
noncomputable def Src_Some (a0 : Src) (a1 : Int) (a2 : Int) : Option ((List Int) × Int × (List Int)) :=
  Option.bind (loopO (Src_Some_L1 a1 a2) (0, [], a0.L, a0.At)) fun x5 => some (x5.2.1, x5.2.2, x5.1)
noncomputable def c20 : Con D := ⟨20, [.lf (.sl 0), .lf (.int .i64), .lf (.int .i64), .lf (.int .i64)], [.lf (.sl 0), .lf (.int .i64), .lf (.sl 0)], [.one (.ptr 1000 0), .one (.h 2 []), .one (.h 3 [])], [(1000, .box [.h 0 [0], .h 1 []])], [.one (.own 1001)], [(1000, .box [.h 0 [0], .h 1 []]), (1001, .sl 0 3 2 [])], fun h => Src_Some ⟨h.1, h.2.1⟩ h.2.2.1 h.2.2.2⟩
theorem c20_ok : ConOk Try.prog T c20 := fn_ok (Φ := [c8]) (rs := [.tmp 6]) (an := (.n none .o (.n none .o (.n none (.n none .o (.n none (.loop ⟨[.lf (.int .i64), .lf (.sl 0), .lf (.sl 0), .lf (.int .i64)], [(7, .one (.own 2192)), (8, .one (.h 0 []))], [(2192, .sl 0 3 1 []), (1000, .box [.h 2 [0], .h 3 []])], [1000], 2256⟩ true [(.exit 0, ⟨[.lf (.sl 0), .lf (.sl 0), .lf (.int .i64)], [(7, .one (.own 2192))], [(2192, .sl 0 3 0 []), (1000, .box [.h 1 [0], .h 2 []])], [1000], 2256⟩)] (.n none .o (.n none (.n none (.n none .o (.n (some (true, [(.normal, ⟨[.lf (.sl 0)], [(7, .one (.own 2836))], [(2836, .sl 0 3 0 [])], [2192], 2900⟩)])) .o .o)) .o) .o))) .o)) .o)))) pOk repOk (AllC.mem (⟨c8_ok, trivial⟩ : AllC _ _ [c8])) hmix Try.call20 Try.func20 rfl rfl (by kernel_rfl) (fun h => by kernel_rfl)

noncomputable def Src_Cables_L1 (x1 : List Int ×
  Int ×
    List
      Int) : Int × List Part →
  Option
    (Int × List Part ⊕
      List
        Part) := fun x2 =>
  if decide (x2.1 < len x1.2.2) = true then
    Option.bind (idx x1.2.2 x2.1) fun x3 =>
      Option.bind (app x2.2 [Part.mk 8 x3]) fun x4 => some (.inl (W (x2.1 + 1), x4))
  else some (.inr x2.2)
noncomputable def Src_Cables (a0 : Src) (a1 : Net) : Option ((List Int) × Int × (List Cable) × (List Part)) :=
  Option.bind (Src_Some a0 (len a1.Cables) 3) fun x1 =>
    Option.bind (loopO (Src_Cables_L1 x1) (0, [])) fun x5 => some (x1.1, x1.2.1, a1.Cables, x5)
noncomputable def c7_1 : Con D := ⟨7, [.lf (.sl 0), .lf (.int .i64), .lf (.int .i64), .lf (.sl 4)], [.lf (.sl 0), .lf (.int .i64), .lf (.sl 4), .lf (.sl 5)], [.one (.ptr 1000 0), .agg [.h 2 [], .own 1001]], [(1000, .box [.h 0 [0], .h 1 []]), (1001, .sl 4 38 3 [0])], [.one (.own 1002)], [(1000, .box [.h 0 [0], .h 1 []]), (1001, .sl 4 38 2 [0]), (1002, .sl 5 67 3 [])], fun h => Src_Cables ⟨h.1, h.2.1⟩ ⟨h.2.2.1, h.2.2.2⟩⟩
theorem c7_1_ok : ConOk Try.prog T c7_1 := fn_ok (Φ := [c20]) (rs := [.tmp 4]) (an := (.n none .o (.n none .o (.n none (.n none .o (.n none (.loop ⟨[.lf (.int .i64), .lf (.sl 5)], [(5, .one (.own 2640)), (14, .one (.h 0 []))], [(2640, .sl 5 67 1 [])], [], 2704⟩ true [(.exit 0, ⟨[.lf (.sl 5)], [(5, .one (.own 2640))], [(2640, .sl 5 67 0 [])], [], 2704⟩)] .o) .o)) .o)))) pOk repOk (AllC.mem (⟨c20_ok, trivial⟩ : AllC _ _ [c20])) hmix Try.call7 Try.func7 rfl rfl (by kernel_rfl) (fun h => by kernel_rfl)

noncomputable def dynposref32_in (a0 : Int) (a1 : Int) (a2 : Int) : Option (Bool) := Option.bind (if decide (a0 ≥ a1) = true then some (decide (a0 ≤ a2)) else some false) fun x1 => some x1
noncomputable def c34 : Con D := ⟨34, [.lf (.int .i64), .lf (.int .i64), .lf (.int .i64)], [.lf .bool], [.one (.h 0 []), .one (.h 1 []), .one (.h 2 [])], [], [.one (.h 0 [])], [], fun h => dynposref32_in h.1 h.2.1 h.2.2⟩
theorem c34_ok : ConOk Try.prog T c34 := fn_ok (Φ := []) (rs := [.tmp 6]) (an := (.n none .o (.n none (.r (some (true, [(.normal, ⟨[.lf .bool], [(6, .one (.h 0 []))], [], [], 2128⟩)])) .nil) .o))) pOk repOk (AllC.mem (l := []) trivial) hmix Try.call34 Try.func34 rfl rfl (by kernel_rfl) (fun h => by kernel_rfl)

noncomputable def dynposref32_before (a0 : Cable) (a1 : Cable) : Option (Bool) :=
  if (a0.Net != a1.Net) = true then some (decide (a0.Net < a1.Net))
  else
    Option.bind
      (if decide (a0.A < a1.A) = true then some true
      else if (a0.A == a1.A) = true then some (decide (a0.B < a1.B)) else some false)
      fun x1 => some x1
noncomputable def c35 : Con D := ⟨35, [.lf (.int .i64), .lf (.int .i64), .lf (.int .i64), .lf (.int .i64), .lf (.int .i64), .lf (.int .i64)], [.lf .bool], [.agg [.h 0 [], .h 1 [], .h 2 []], .agg [.h 3 [], .h 4 [], .h 5 []]], [], [.one (.h 0 [])], [], fun h => dynposref32_before ⟨h.1, h.2.1, h.2.2.1⟩ ⟨h.2.2.2.1, h.2.2.2.2.1, h.2.2.2.2.2⟩⟩
theorem c35_ok : ConOk Try.prog T c35 := fn_ok (Φ := []) (rs := [.tmp 4]) (an := (.n none .o (.n none .o (.n none (.r (some (true, [(.normal, ⟨[.lf .bool], [(4, .one (.h 0 []))], [], [], 2576⟩)])) .nil) .o)))) pOk repOk (AllC.mem (l := []) trivial) hmix Try.call35 Try.func35 rfl rfl (by kernel_rfl) (fun h => by kernel_rfl)

noncomputable def dynposref32_Check_L1 (a0 : Net) : Int →
  Option
    (Int ⊕
      Unit ⊕
        Int) := fun x3 =>
  if decide (x3 < len a0.Cables) = true then
    Option.bind (idx a0.Cables x3) fun x4 =>
      Option.bind
        (Option.bind (dynposref32_in x4.Net 0 1) fun x5 =>
          if (!x5) = true then some true
          else
            Option.bind (dynposref32_in x4.A 0 (W (a0.Nodes - 1))) fun x6 =>
              if (!x6) = true then some true
              else
                Option.bind (dynposref32_in x4.B (W (x4.A + 1)) (W (a0.Nodes - 1))) fun x7 =>
                  if (!x7) = true then some true
                  else
                    if decide (x3 > 0) = true then
                      Option.bind (idx a0.Cables (W (x3 - 1))) fun x8 =>
                        Option.bind (dynposref32_before x8 x4) fun x9 => some !x9
                    else some false)
        fun x10 => if x10 = true then some (.inr (.inr 68)) else some (.inl (W (x3 + 1)))
  else some (.inr (.inl ()))
noncomputable def dynposref32_Check (a0 : Net) : Option (Int) :=
  Option.bind
    (Option.bind (dynposref32_in a0.Nodes 1 8) fun x1 =>
      if (!x1) = true then some true else some (decide (len a0.Cables > 24)))
    fun x2 =>
    if x2 = true then some 68
    else
      Option.bind (loopO (dynposref32_Check_L1 a0) 0) fun x11 =>
        Sum.elim (fun x12 => some 0) (fun x13 => some x13) x11
noncomputable def c12 : Con D := ⟨12, [.lf (.int .i64), .lf (.sl 4)], [.lf (.int .i64)], [.agg [.h 0 [], .h 1 [0]]], [], [.one (.h 0 [])], [], fun h => dynposref32_Check ⟨h.1, h.2⟩⟩
theorem c12_ok : ConOk Try.prog T c12 := fn_ok (Φ := [c34, c35]) (rs := [.tmp 2]) (an := (.n none .o (.n none (.n none (.r (some (true, [(.normal, ⟨[.lf .bool], [(14, .one (.h 0 []))], [], [], 2192⟩)])) .nil) .o) (.n none (.n none .o (.n none (.loop ⟨[.lf (.int .i64)], [(18, .one (.h 0 []))], [], [], 2513⟩ false [(.exit 0, ⟨[], [], [], [], 2513⟩)] (.n none .o (.n none .o (.n none (.n none (.n none .o (.n none (.r (some (true, [(.normal, ⟨[.lf .bool], [(28, .one (.any)), (29, .one (.any)), (30, .one (.any)), (31, .one (.any)), (32, .one (.any)), (33, .one (.any)), (34, .one (.any)), (37, .one (.any)), (38, .one (.any)), (39, .one (.any)), (40, .one (.any)), (41, .one (.any)), (42, .one (.any)), (43, .one (.any)), (44, .one (.any)), (45, .one (.any)), (46, .one (.any)), (49, .one (.any)), (50, .one (.any)), (51, .one (.any)), (52, .one (.any)), (53, .one (.any)), (54, .one (.any)), (55, .one (.any)), (56, .one (.any)), (57, .one (.any)), (58, .one (.any)), (59, .one (.any)), (60, .one (.any)), (61, .one (.any)), (62, .one (.h 0 []))], [], [], 3026⟩)])) .nil) .o)) .o) .o)))) .o)) .o)))) pOk repOk (AllC.mem (⟨c34_ok, c35_ok, trivial⟩ : AllC _ _ [c34, c35])) hmix Try.call12 Try.func12 rfl rfl (by kernel_rfl) (fun h => by kernel_rfl)

noncomputable def dynposref32_Ports (a0 : Net) : Option ((List Port)) :=
  Option.bind (dynposref32_Check a0) fun x1 =>
    if (x1 != 0) = true then some []
    else Option.bind (mkZ (Port.mk 0 []) (W (a0.Nodes * a0.Nodes))) fun x2 => some x2
noncomputable def c15 : Con D := ⟨15, [.lf (.int .i64), .lf (.sl 4)], [.lf (.sl 6)], [.agg [.h 0 [], .h 1 [0]]], [], [.one (.own 1000)], [(1000, .sl 6 28 0 [])], fun h => dynposref32_Ports ⟨h.1, h.2⟩⟩
theorem c15_ok : ConOk Try.prog T c15 := fn_ok (Φ := [c12]) (rs := [.tmp 2]) (an := .o) pOk repOk (AllC.mem (⟨c12_ok, trivial⟩ : AllC _ _ [c12])) hmix Try.call15 Try.func15 rfl rfl (by kernel_rfl) (fun h => by kernel_rfl)

noncomputable def Src_Pick_v1 (a0 : Src) (a1 : (List Int)) : Option (Int × (List Int) × Int × (List Int)) :=
  Option.bind (Src_N a0 (len a1)) fun x1 => Option.bind (idx a1 x1.1) fun x2 => some (x2, x1.2.1, x1.2.2, a1)
noncomputable def c44_1 : Con D := ⟨44, [.lf (.sl 0), .lf (.int .i64), .lf (.sl 0)], [.lf (.int .i64), .lf (.sl 0), .lf (.int .i64), .lf (.sl 0)], [.one (.ptr 1000 0), .one (.own 1001)], [(1000, .box [.h 0 [0], .h 1 []]), (1001, .sl 0 3 2 [0])], [.one (.h 0 [])], [(1000, .box [.h 1 [0], .h 2 []]), (1001, .sl 0 3 3 [0])], fun h => Src_Pick_v1 ⟨h.1, h.2.1⟩ h.2.2⟩
theorem c44_1_ok : ConOk Try.prog T c44_1 := fn_ok (Φ := [c8]) (rs := [.tmp 4]) (an := .o) pOk repOk (AllC.mem (⟨c8_ok, trivial⟩ : AllC _ _ [c8])) hmix Try.call44 Try.func44 rfl rfl (by kernel_rfl) (fun h => by kernel_rfl)

noncomputable def dynposref32_Port_L1 (a0 : Port) : Int →
  Option
    (Int ⊕
      Unit ⊕
        Bool) := fun x3 =>
  if decide (x3 < len a0.Below) = true then
    Option.bind (idx a0.Below x3) fun x4 =>
      Option.bind
        (Option.bind
          (dynposref32_in x4 (imax 1 (W (W (a0.High - 32) + 1)))
            (W (a0.High - 1)))
          fun x5 =>
          if (!x5) = true then some true
          else
            if decide (x3 > 0) = true then
              Option.bind (idx a0.Below (W (x3 - 1))) fun x6 => some (decide (x4 ≤ x6))
            else some false)
        fun x7 => if x7 = true then some (.inr (.inr false)) else some (.inl (W (x3 + 1)))
  else some (.inr (.inl ()))
noncomputable def dynposref32_Port (a0 : Port) : Option (Bool) :=
  Option.bind
    (Option.bind (dynposref32_in a0.High 0 2147483648) fun x1 =>
      if (!x1) = true then some true else some (decide (len a0.Below > 31)))
    fun x2 =>
    if x2 = true then some false
    else
      Option.bind (loopO (dynposref32_Port_L1 a0) 0) fun x8 =>
        Sum.elim (fun x9 => some true) (fun x10 => some x10) x8
noncomputable def c28 : Con D := ⟨28, [.lf (.int .i64), .lf (.sl 0)], [.lf .bool], [.agg [.h 0 [], .h 1 [0]]], [], [.one (.h 0 [])], [], fun h => dynposref32_Port ⟨h.1, h.2⟩⟩
theorem c28_ok : ConOk Try.prog T c28 := fn_ok (Φ := [c34]) (rs := [.tmp 2]) (an := (.n none .o (.n none (.n none (.r (some (true, [(.normal, ⟨[.lf .bool], [(14, .one (.h 0 []))], [], [], 2192⟩)])) .nil) .o) (.n none (.n none .o (.n none (.loop ⟨[.lf (.int .i64)], [(18, .one (.h 0 []))], [], [], 2513⟩ false [(.exit 0, ⟨[], [], [], [], 2513⟩)] (.n none .o (.n none .o (.n none (.n none (.n none .o (.n none (.r (some (true, [(.normal, ⟨[.lf .bool], [(35, .one (.any)), (36, .one (.any)), (37, .one (.any)), (38, .one (.any)), (39, .one (.any)), (40, .one (.any)), (41, .one (.any)), (42, .one (.any)), (43, .one (.any)), (44, .one (.any)), (45, .one (.any)), (46, .one (.any)), (47, .one (.h 0 []))], [], [], 2962⟩)])) .nil) .o)) .o) .o)))) .o)) .o)))) pOk repOk (AllC.mem (⟨c34_ok, trivial⟩ : AllC _ _ [c34])) hmix Try.call28 Try.func28 rfl rfl (by kernel_rfl) (fun h => by kernel_rfl)

noncomputable def dynposref32_whole_L1 (a0 : List
  Part) (a1 : Int) : Int →
  Option
    (Int ⊕
      Unit ⊕
        Bool) := fun x1 =>
  if decide (x1 < len a0) = true then
    Option.bind (idx a0 x1) fun x2 =>
      Option.bind (if (x2.Kind == 8) = true then some (x2.Number == a1) else some false) fun x3 =>
        if x3 = true then some (.inr (.inr false)) else some (.inl (W (x1 + 1)))
  else some (.inr (.inl ()))
noncomputable def dynposref32_whole (a0 : (List Part)) (a1 : Int) : Option (Bool) :=
  Option.bind (loopO (dynposref32_whole_L1 a0 a1) 0) fun x4 =>
    Sum.elim (fun x5 => some true) (fun x6 => some x6) x4
noncomputable def c38 : Con D := ⟨38, [.lf (.sl 5), .lf (.int .i64)], [.lf .bool], [.one (.h 0 [0]), .one (.h 1 [])], [], [.one (.h 0 [])], [], fun h => dynposref32_whole h.1 h.2⟩
theorem c38_ok : ConOk Try.prog T c38 := fn_ok (Φ := []) (rs := [.tmp 4]) (an := (.n none .o (.n none (.n none .o (.n none (.loop ⟨[.lf (.int .i64)], [(9, .one (.h 0 []))], [], [], 2320⟩ false [(.exit 0, ⟨[], [], [], [], 2320⟩)] (.n none .o (.n none .o (.n none (.n none (.n none .o (.n none (.r (some (true, [(.normal, ⟨[.lf .bool], [(17, .one (.any)), (18, .one (.any)), (19, .one (.any)), (20, .one (.any)), (21, .one (.h 0 []))], [], [], 2705⟩)])) .nil) .o)) .o) .o)))) .o)) .o))) pOk repOk (AllC.mem (l := []) trivial) hmix Try.call38 Try.func38 rfl rfl (by kernel_rfl) (fun h => by kernel_rfl)

noncomputable def dynposref32_Reach_L2 (a0 : Net) (a1 : List
  Part) (a2 : Int) : Int × List Bool →
  Option
    (Int × List Bool ⊕
      List
        Bool) := fun x11 =>
  if decide (x11.1 < len a0.Cables) = true then
    Option.bind (idx a0.Cables x11.1) fun x12 =>
      Option.bind
        (if (x12.Net == a2) = true then
          Option.bind (dynposref32_whole a1 x11.1) fun x13 =>
            if x13 = true then
              Option.bind (idx x11.2 x12.A) fun x14 =>
                if x14 = true then some true else Option.bind (idx x11.2 x12.B) fun x15 => some x15
            else some false
        else some false)
        fun x16 =>
        Option.bind
          (if x16 = true then
            Option.bind (idx x11.2 x12.A) fun x17 =>
              Option.bind (idx x11.2 x12.A) fun x18 =>
                Option.bind (setO x11.2 x12.A true) fun x19 =>
                  Option.bind (idx x19 x12.B) fun x20 =>
                    Option.bind (idx x19 x12.B) fun x21 => Option.bind (setO x19 x12.B true) fun x22 => some x22
          else some x11.2)
          fun x23 => some (.inl (W (x11.1 + 1), x23))
  else some (.inr x11.2)
noncomputable def dynposref32_Reach_L1 (a0 : Net) (a1 : List
  Part) (a2 : Int) : Int × List Bool →
  Option
    (Int × List Bool ⊕
      List
        Bool) := fun x10 =>
  if decide (x10.1 < a0.Nodes) = true then
    Option.bind (loopO (dynposref32_Reach_L2 a0 a1 a2) (0, x10.2)) fun x24 =>
      some (.inl (W (x10.1 + 1), x24))
  else some (.inr x10.2)
noncomputable def dynposref32_Reach (a0 : Net) (a1 : (List Part)) (a2 : Int) (a3 : Int) (a4 : Int) : Option (Bool) :=
  Option.bind
    (Option.bind (dynposref32_Check a0) fun x1 =>
      if (x1 != 0) = true then some true
      else
        Option.bind (dynposref32_in a2 0 1) fun x2 =>
          if (!x2) = true then some true
          else
            Option.bind (dynposref32_in a3 0 (W (a0.Nodes - 1))) fun x3 =>
              if (!x3) = true then some true
              else Option.bind (dynposref32_in a4 0 (W (a0.Nodes - 1))) fun x4 => some !x4)
    fun x5 =>
    if x5 = true then some false
    else
      Option.bind (mkZ false a0.Nodes) fun x6 =>
        Option.bind (idx x6 a3) fun x7 =>
          Option.bind (idx x6 a3) fun x8 =>
            Option.bind (setO x6 a3 true) fun x9 =>
              Option.bind (loopO (dynposref32_Reach_L1 a0 a1 a2) (0, x9)) fun x25 =>
                Option.bind (idx x25 a4) fun x26 => some x26
noncomputable def c17 : Con D := ⟨17, [.lf (.int .i64), .lf (.sl 4), .lf (.sl 5), .lf (.int .i64), .lf (.int .i64), .lf (.int .i64)], [.lf .bool], [.agg [.h 0 [], .h 1 [0]], .one (.h 2 [0]), .one (.h 3 []), .one (.h 4 []), .one (.h 5 [])], [], [.one (.h 0 [])], [], fun h => dynposref32_Reach ⟨h.1, h.2.1⟩ h.2.2.1 h.2.2.2.1 h.2.2.2.2.1 h.2.2.2.2.2⟩
theorem c17_ok : ConOk Try.prog T c17 := fn_ok (Φ := [c12, c34, c38]) (rs := [.tmp 10]) (an := (.n none .o (.n none (.n none (.r (some (true, [(.normal, ⟨[.lf .bool], [(37, .one (.h 0 []))], [], [], 2192⟩)])) .nil) .o) (.n none .o (.n none .o (.n none (.n none .o (.n none (.loop ⟨[.lf (.int .i64), .lf (.sl 1)], [(46, .one (.h 0 []))], [(2321, .sl 1 4 1 [])], [2321], 2961⟩ true [(.exit 0, ⟨[.lf (.sl 1)], [], [(2321, .sl 1 4 0 [])], [2321], 2961⟩)] (.n none .o (.n none .o (.n none (.n none (.n none .o (.n none (.loop ⟨[.lf (.int .i64), .lf (.sl 1)], [(51, .one (.h 0 []))], [(2321, .sl 1 4 1 [])], [2321], 3347⟩ true [(.exit 2, ⟨[.lf (.sl 1)], [], [(2321, .sl 1 4 0 [])], [2321], 3347⟩)] (.n none .o (.n none .o (.n none (.n none (.n none .o (.n none (.r (some (true, [(.normal, ⟨[.lf .bool], [(61, .one (.any)), (62, .one (.any)), (63, .one (.any)), (66, .one (.any)), (67, .one (.any)), (68, .one (.any)), (69, .one (.any)), (70, .one (.any)), (71, .one (.any)), (72, .one (.any)), (73, .one (.any)), (74, .one (.any)), (75, .one (.any)), (76, .one (.any)), (77, .one (.any)), (78, .one (.h 0 []))], [], [], 3861⟩)])) .nil) (.n (some (true, [(.normal, ⟨[.lf (.sl 1)], [], [(2321, .sl 1 4 0 [])], [2321], 3926⟩)])) .o .o))) .o) .o)))) .o)) .o) .o)))) .o)) .o)))))) pOk repOk (AllC.mem (⟨c12_ok, c34_ok, c38_ok, trivial⟩ : AllC _ _ [c12, c34, c38])) hmix Try.call17 Try.func17 rfl rfl (by kernel_rfl) (fun h => by kernel_rfl)

noncomputable def dynposref32_Copies_L1 (a0 : Net) (a1 : List
  Part) (a2 : Int) (a3 : Int) : Int × Int →
  Option
    (Int × Int ⊕
      Int) := fun x1 =>
  if decide (x1.2 < 2) = true then
    Option.bind (dynposref32_Reach a0 a1 x1.2 a2 a3) fun x2 =>
      Option.bind (if x2 = true then some (W (x1.1 + 1)) else some x1.1) fun x3 =>
        some (.inl (x3, W (x1.2 + 1)))
  else some (.inr x1.1)
noncomputable def dynposref32_Copies (a0 : Net) (a1 : (List Part)) (a2 : Int) (a3 : Int) : Option (Int) := Option.bind (loopO (dynposref32_Copies_L1 a0 a1 a2 a3) (0, 0)) fun x4 => some x4
noncomputable def c19 : Con D := ⟨19, [.lf (.int .i64), .lf (.sl 4), .lf (.sl 5), .lf (.int .i64), .lf (.int .i64)], [.lf (.int .i64)], [.agg [.h 0 [], .h 1 [0]], .one (.h 2 [0]), .one (.h 3 []), .one (.h 4 [])], [], [.one (.h 0 [])], [], fun h => dynposref32_Copies ⟨h.1, h.2.1⟩ h.2.2.1 h.2.2.2.1 h.2.2.2.2⟩
theorem c19_ok : ConOk Try.prog T c19 := fn_ok (Φ := [c17]) (rs := [.tmp 8]) (an := (.n none .o (.n none .o (.n none (.n none .o (.n none (.loop ⟨[.lf (.int .i64), .lf (.int .i64)], [(9, .one (.h 0 [])), (10, .one (.h 1 []))], [], [], 2320⟩ true [(.exit 0, ⟨[.lf (.int .i64)], [(9, .one (.h 0 []))], [], [], 2320⟩)] (.n none .o (.n none (.n none (.n none .o (.n (some (true, [(.normal, ⟨[.lf (.int .i64)], [(9, .one (.h 0 []))], [], [], 2898⟩)])) .o .o)) .o) .o))) .o)) .o)))) pOk repOk (AllC.mem (⟨c17_ok, trivial⟩ : AllC _ _ [c17])) hmix Try.call19 Try.func19 rfl rfl (by kernel_rfl) (fun h => by kernel_rfl)

noncomputable def dynposref32_has_L1 (a0 : List
  Int) (a1 : Int) : Int →
  Option
    (Int ⊕
      Unit ⊕
        Bool) := fun x1 =>
  if decide (x1 < len a0) = true then
    Option.bind (idx a0 x1) fun x2 =>
      if (x2 == a1) = true then some (.inr (.inr true)) else some (.inl (W (x1 + 1)))
  else some (.inr (.inl ()))
noncomputable def dynposref32_has (a0 : (List Int)) (a1 : Int) : Option (Bool) :=
  Option.bind (loopO (dynposref32_has_L1 a0 a1) 0) fun x3 =>
    Sum.elim (fun x4 => some false) (fun x5 => some x5) x3
noncomputable def c43 : Con D := ⟨43, [.lf (.sl 0), .lf (.int .i64)], [.lf .bool], [.one (.h 0 [0]), .one (.h 1 [])], [], [.one (.h 0 [])], [], fun h => dynposref32_has h.1 h.2⟩
theorem c43_ok : ConOk Try.prog T c43 := fn_ok (Φ := []) (rs := [.tmp 4]) (an := (.n none .o (.n none (.n none .o (.n none (.loop ⟨[.lf (.int .i64)], [(9, .one (.h 0 []))], [], [], 2320⟩ false [(.exit 0, ⟨[], [], [], [], 2320⟩)] .o) .o)) .o))) pOk repOk (AllC.mem (l := []) trivial) hmix Try.call43 Try.func43 rfl rfl (by kernel_rfl) (fun h => by kernel_rfl)

noncomputable def dynposref32_Accept_L1 (a0 : Port) (a1 : Int) : Int × List Int →
  Option
    (Int × List Int ⊕
      List
        Int) := fun x5 =>
  if decide (x5.1 < imax a0.High a1) = true then
    Option.bind
      (Option.bind (dynposref32_has a0.Below x5.1) fun x6 =>
        if x6 = true then some true else if (x5.1 == a0.High) = true then some true else some (x5.1 == a1))
      fun x7 =>
      Option.bind (if x7 = true then Option.bind (app x5.2 [x5.1]) fun x8 => some x8 else some x5.2) fun x9 =>
        some (.inl (W (x5.1 + 1), x9))
  else some (.inr x5.2)
noncomputable def dynposref32_Accept (a0 : Port) (a1 : Int) : Option (Int × (List Int) × Bool) :=
  Option.bind
    (Option.bind (dynposref32_Port a0) fun x1 =>
      if (!x1) = true then some true
      else
        Option.bind (dynposref32_in a1 1 2147483648) fun x2 =>
          if (!x2) = true then some true
          else
            if (a1 == a0.High) = true then some true
            else
              Option.bind (dynposref32_has a0.Below a1) fun x3 =>
                if x3 = true then some true else some (decide (a1 ≤ W (a0.High - 32))))
    fun x4 =>
    if x4 = true then some (a0.High, a0.Below, false)
    else
      Option.bind
        (loopO (dynposref32_Accept_L1 a0 a1)
          (imax 1 (W (W (imax a0.High a1 - 32) + 1)), []))
        fun x10 => some (imax a0.High a1, x10, true)
noncomputable def c30 : Con D := ⟨30, [.lf (.int .i64), .lf (.sl 0), .lf (.int .i64)], [.lf (.int .i64), .lf (.sl 0), .lf .bool], [.agg [.h 0 [], .h 1 [0]], .one (.h 2 [])], [], [.agg [.h 0 [], .h 1 [0, 1]], .one (.h 2 [])], [], fun h => dynposref32_Accept ⟨h.1, h.2.1⟩ h.2.2⟩
theorem c30_ok : ConOk Try.prog T c30 := fn_ok (Φ := [c28, c34, c43]) (rs := [.cell 4 28, .tmp 5]) (an := (.n none .o (.n none (.n none (.r (some (true, [(.normal, ⟨[.lf .bool], [(35, .one (.h 0 []))], [], [], 2256⟩)])) .nil) .o) (.n none .o (.n none .o (.n none (.n none .o (.n none (.loop ⟨[.lf (.int .i64), .lf (.sl 0)], [(7, .one (.own 2961)), (8, .one (.h 0 []))], [(2961, .sl 0 3 1 [])], [], 3025⟩ true [(.exit 0, ⟨[.lf (.sl 0)], [(7, .one (.own 2961))], [(2961, .sl 0 3 0 [])], [], 3025⟩)] (.n none .o (.n none (.n none (.n none (.r (some (true, [(.normal, ⟨[.lf .bool], [(55, .one (.any)), (56, .one (.any)), (57, .one (.any)), (58, .one (.any)), (61, .one (.any)), (62, .one (.any)), (63, .one (.any)), (64, .one (.h 0 []))], [], [], 3283⟩)])) .nil) (.n (some (true, [(.normal, ⟨[.lf (.sl 0)], [(7, .one (.own 3284))], [(3284, .sl 0 3 0 [])], [2961], 3348⟩)])) .o .o)) .o) .o))) .o)) .o)))))) pOk repOk (AllC.mem (⟨c28_ok, c34_ok, c43_ok, trivial⟩ : AllC _ _ [c28, c34, c43])) hmix Try.call30 Try.func30 rfl rfl (by kernel_rfl) (fun h => by kernel_rfl)

noncomputable def Src_Messages_v1_L1 (a1 : Net) : Int × List Message × List Int × Int →
  Option
    (Int × List Message × List Int × Int ⊕
      List Message ×
        List Int ×
          Int) := fun x2 =>
  if decide (x2.1 > 0) = true then
    Option.bind (Src_N (Src.mk x2.2.2.1 x2.2.2.2) a1.Nodes) fun x3 =>
      Option.bind (Src_N (Src.mk x3.2.1 x3.2.2) a1.Nodes) fun x4 =>
        Option.bind
          (Src_Pick_v1 (Src.mk x4.2.1 x4.2.2)
            [1, 2, 3, 5, 31, 32, 33, 40,
              70])
          fun x5 =>
          Option.bind (Src_N (Src.mk x5.2.1 x5.2.2.1) 9) fun x6 =>
            Option.bind (app x2.2.1 [Message.mk x3.1 x4.1 x5.1 x6.1]) fun x7 =>
              some (.inl (W (x2.1 - 1), x7, x6.2.1, x6.2.2))
  else some (.inr (x2.2.1, x2.2.2.1, x2.2.2.2))
noncomputable def Src_Messages_v1 (a0 : Src) (a1 : Net) (a2 : Int) : Option ((List Int) × Int × (List Cable) × (List Message)) :=
  Option.bind (Src_N a0 (W (a2 + 1))) fun x1 =>
    Option.bind (loopO (Src_Messages_v1_L1 a1) (x1.1, [], x1.2.1, x1.2.2)) fun x8 =>
      some (x8.2.1, x8.2.2, a1.Cables, x8.1)
noncomputable def c23_1 : Con D := ⟨23, [.lf (.sl 0), .lf (.int .i64), .lf (.int .i64), .lf (.sl 4), .lf (.int .i64)], [.lf (.sl 0), .lf (.int .i64), .lf (.sl 4), .lf (.sl 7)], [.one (.ptr 1000 0), .agg [.h 2 [], .own 1001], .one (.h 4 [])], [(1000, .box [.h 0 [0], .h 1 []]), (1001, .sl 4 38 3 [0])], [.one (.own 1002)], [(1000, .box [.h 0 [0], .h 1 []]), (1001, .sl 4 38 2 [0]), (1002, .sl 7 65 3 [])], fun h => Src_Messages_v1 ⟨h.1, h.2.1⟩ ⟨h.2.2.1, h.2.2.2.1⟩ h.2.2.2.2⟩
theorem c23_1_ok : ConOk Try.prog T c23_1 := fn_ok (Φ := [c8, c44_1]) (rs := [.tmp 6]) (an := (.n none .o (.n none .o (.n none (.n none .o (.n none (.loop ⟨[.lf (.int .i64), .lf (.sl 7), .lf (.sl 0), .lf (.int .i64)], [(7, .one (.own 2512)), (8, .one (.h 0 []))], [(2512, .sl 7 65 1 []), (1000, .box [.h 2 [0], .h 3 []])], [1000], 2576⟩ true [(.exit 0, ⟨[.lf (.sl 7), .lf (.sl 0), .lf (.int .i64)], [(7, .one (.own 2512))], [(2512, .sl 7 65 0 []), (1000, .box [.h 1 [0], .h 2 []])], [1000], 2576⟩)] .o) .o)) .o)))) pOk repOk (AllC.mem (⟨c8_ok, c44_1_ok, trivial⟩ : AllC _ _ [c8, c44_1])) hmix Try.call23 Try.func23 rfl rfl (by kernel_rfl) (fun h => by kernel_rfl)

noncomputable def dynposref32_Deliver_v2_L1 (a0 : Net) (a2 : List
  Port) (a3 : List
  Message) : Int →
  Option
    (Int ⊕
      Unit ⊕
        Int ×
          List Cable ×
            List Port ×
              List Message ×
                List Port ×
                  List
                    Message) := fun x2 =>
  if decide (x2 < len a3) = true then
    Option.bind (idx a3 x2) fun x3 =>
      Option.bind
        (Option.bind (dynposref32_in x3.From 0 (W (a0.Nodes - 1))) fun x4 =>
          if (!x4) = true then some true
          else Option.bind (dynposref32_in x3.To 0 (W (a0.Nodes - 1))) fun x5 => some !x5)
        fun x6 =>
        if x6 = true then some (.inr (.inr (1, a0.Cables, a2, a3, [], [])))
        else some (.inl (W (x2 + 1)))
  else some (.inr (.inl ()))
noncomputable def dynposref32_Deliver_v2_L2 (a0 : Net) (a2 : List
  Port) (a3 : List
  Message) : Int →
  Option
    (Int ⊕
      Unit ⊕
        Int ×
          List Cable ×
            List Port ×
              List Message ×
                List Port ×
                  List
                    Message) := fun x9 =>
  if decide (x9 < len a2) = true then
    Option.bind (idx a2 x9) fun x10 =>
      Option.bind (dynposref32_Port x10) fun x11 =>
        if (!x11) = true then some (.inr (.inr (1, a0.Cables, a2, a3, [], [])))
        else some (.inl (W (x9 + 1)))
  else some (.inr (.inl ()))
noncomputable def dynposref32_Deliver_v2_L4 (a0 : Net) (x16 : Message) (x17 : Int) : Int × List Message × List Port →
  Option
    (Int × List Message × List Port ⊕
      List Message ×
        List
          Port) := fun x18 =>
  if decide (x18.1 < x17) = true then
    Option.bind (idx x18.2.2 (W (W (x16.To * a0.Nodes) + x16.From))) fun x19 =>
      Option.bind (dynposref32_Accept x19 x16.Number) fun x20 =>
        Option.bind
          (if x20.2.2 = true then
            Option.bind (idx x18.2.2 (W (W (x16.To * a0.Nodes) + x16.From))) fun x21 =>
              Option.bind (idx x18.2.2 (W (W (x16.To * a0.Nodes) + x16.From))) fun x22 =>
                Option.bind (setO x18.2.2 (W (W (x16.To * a0.Nodes) + x16.From)) (Port.mk x20.1 x20.2.1))
                  fun x23 => Option.bind (app x18.2.1 [x16]) fun x24 => some (x24, x23)
          else some (x18.2.1, x18.2.2))
          fun x25 => some (.inl (W (x18.1 + 1), x25.1, x25.2))
  else some (.inr (x18.2.1, x18.2.2))
noncomputable def dynposref32_Deliver_v2_L3 (a0 : Net) (a1 : List
  Part) (a3 : List
  Message) : Int × List Message × List Port →
  Option
    (Int × List Message × List Port ⊕
      List Message ×
        List
          Port) := fun x15 =>
  if decide (x15.1 < len a3) = true then
    Option.bind (idx a3 x15.1) fun x16 =>
      Option.bind (dynposref32_Copies a0 a1 x16.From x16.To) fun x17 =>
        Option.bind (loopO (dynposref32_Deliver_v2_L4 a0 x16 x17) (0, x15.2.1, x15.2.2)) fun x26 =>
          some (.inl (W (x15.1 + 1), x26.1, x26.2))
  else some (.inr (x15.2.1, x15.2.2))
noncomputable def dynposref32_Deliver_v2 (a0 : Net) (a1 : (List Part)) (a2 : (List Port)) (a3 : (List Message)) : Option (Int × (List Cable) × (List Port) × (List Message) × (List Port) × (List Message)) :=
  Option.bind (dynposref32_Check a0) fun x1 =>
    if (x1 != 0) = true then some (x1, a0.Cables, a2, a3, [], [])
    else
      if (len a2 != W (a0.Nodes * a0.Nodes)) = true then some (8, a0.Cables, a2, a3, [], [])
      else
        Option.bind (loopO (dynposref32_Deliver_v2_L1 a0 a2 a3) 0) fun x7 =>
          Sum.elim
            (fun x8 =>
              Option.bind (loopO (dynposref32_Deliver_v2_L2 a0 a2 a3) 0) fun x12 =>
                Sum.elim
                  (fun x13 =>
                    if decide (len a3 > 60) = true then some (2, a0.Cables, a2, a3, [], [])
                    else
                      Option.bind (app [] a2) fun x14 =>
                        Option.bind (loopO (dynposref32_Deliver_v2_L3 a0 a1 a3) (0, [], x14)) fun x27 =>
                          some (0, a0.Cables, a2, a3, x27.2, x27.1))
                  (fun x28 => some x28) x12)
            (fun x29 => some x29) x7
noncomputable def c25_2 : Con D := ⟨25, [.lf (.int .i64), .lf (.sl 4), .lf (.sl 5), .lf (.sl 6), .lf (.sl 7)], [.lf (.int .i64), .lf (.sl 4), .lf (.sl 6), .lf (.sl 7), .lf (.sl 6), .lf (.sl 7)], [.agg [.h 0 [], .own 1000], .one (.h 2 [0]), .one (.own 1001), .one (.own 1002)], [(1000, .sl 4 38 1 [0]), (1001, .sl 6 28 3 [0]), (1002, .sl 7 65 4 [0])], [.one (.own 1003), .one (.own 1004), .one (.h 0 [])], [(1000, .sl 4 38 1 [0]), (1001, .sl 6 28 2 [0]), (1002, .sl 7 65 3 [0]), (1003, .sl 6 28 4 [0, 1]), (1004, .sl 7 65 5 [])], fun h => dynposref32_Deliver_v2 ⟨h.1, h.2.1⟩ h.2.2.1 h.2.2.2.1 h.2.2.2.2⟩
theorem c25_2_ok : ConOk Try.prog T c25_2 := fn_ok (Φ := [c12, c19, c28, c30, c34]) (rs := [.tmp 8, .tmp 9, .tmp 10]) (an := (.n none .o (.n none .o (.n none .o (.n none (.n none .o (.n none (.loop ⟨[.lf (.int .i64)], [(38, .one (.h 0 []))], [], [], 3344⟩ false [(.exit 0, ⟨[], [], [], [], 3344⟩)] (.n none .o (.n none .o (.n none (.n none (.n none .o (.n none (.r (some (true, [(.normal, ⟨[.lf .bool], [(50, .one (.any)), (51, .one (.any)), (52, .one (.any)), (53, .one (.any)), (54, .one (.any)), (55, .one (.any)), (56, .one (.any)), (57, .one (.h 0 []))], [], [], 3729⟩)])) .nil) .o)) .o) .o)))) .o)) (.n none (.n none .o (.n none (.loop ⟨[.lf (.int .i64)], [(61, .one (.h 0 []))], [], [], 3600⟩ false [(.exit 2, ⟨[], [], [], [], 3600⟩)] .o) .o)) (.n none .o (.n none .o (.n none .o (.n none (.n none .o (.n none (.loop ⟨[.lf (.int .i64), .lf (.sl 7), .lf (.sl 6)], [(17, .one (.own 4240)), (76, .one (.h 0 []))], [(4240, .sl 7 65 1 []), (3856, .sl 6 28 2 [0, 1])], [3856], 4304⟩ true [(.exit 4, ⟨[.lf (.sl 7), .lf (.sl 6)], [(17, .one (.own 4240))], [(4240, .sl 7 65 0 []), (3856, .sl 6 28 1 [0, 1])], [3856], 4304⟩)] (.n none .o (.n none .o (.n none (.n none (.n none .o (.n none .o (.n none .o (.n none (.loop ⟨[.lf (.int .i64), .lf (.sl 7), .lf (.sl 6)], [(17, .one (.own 5715)), (95, .one (.h 0 []))], [(5715, .sl 7 65 1 []), (3856, .sl 6 28 2 [0, 1])], [3856, 4240], 5779⟩ true [(.exit 6, ⟨[.lf (.sl 7), .lf (.sl 6)], [(17, .one (.own 5715))], [(5715, .sl 7 65 0 []), (3856, .sl 6 28 1 [0, 1])], [3856, 4240], 5779⟩)] (.n none .o (.n none .o (.n none (.n none (.n none .o (.n none .o (.n (some (true, [(.normal, ⟨[.lf (.sl 7), .lf (.sl 6)], [(17, .one (.own 6742))], [(6742, .sl 7 65 0 []), (3856, .sl 6 28 1 [0, 1])], [3856, 5715], 6806⟩)])) .o .o))) .o) .o)))) .o)))) .o) .o)))) .o)) .o)))))))))) pOk repOk (AllC.mem (⟨c12_ok, c19_ok, c28_ok, c30_ok, c34_ok, trivial⟩ : AllC _ _ [c12, c19, c28, c30, c34])) hmix Try.call25 Try.func25 rfl rfl (by kernel_rfl) (fun h => by kernel_rfl)

noncomputable def Src_Ports_v1 (a0 : Src) (a1 : Net) : Option ((List Int) × Int × (List Cable) × (List Port)) :=
  Option.bind (dynposref32_Ports a1) fun x1 =>
    Option.bind (Src_Messages_v1 a0 a1 6) fun x2 =>
      Option.bind (dynposref32_Deliver_v2 (Net.mk a1.Nodes x2.2.2.1) [] x1 x2.2.2.2) fun x3 =>
        some (x2.1, x2.2.1, x3.2.1, x3.2.2.2.2.1)
noncomputable def c10_1 : Con D := ⟨10, [.lf (.sl 0), .lf (.int .i64), .lf (.int .i64), .lf (.sl 4)], [.lf (.sl 0), .lf (.int .i64), .lf (.sl 4), .lf (.sl 6)], [.one (.ptr 1000 0), .agg [.h 2 [], .own 1001]], [(1000, .box [.h 0 [0], .h 1 []]), (1001, .sl 4 38 3 [0])], [.one (.own 1002)], [(1000, .box [.h 0 [0], .h 1 []]), (1001, .sl 4 38 2 [0]), (1002, .sl 6 28 3 [0, 1])], fun h => Src_Ports_v1 ⟨h.1, h.2.1⟩ ⟨h.2.2.1, h.2.2.2⟩⟩
theorem c10_1_ok : ConOk Try.prog T c10_1 := fn_ok (Φ := [c15, c23_1, c25_2]) (rs := [.tmp 4]) (an := .o) pOk repOk (AllC.mem (⟨c15_ok, c23_1_ok, c25_2_ok, trivial⟩ : AllC _ _ [c15, c23_1, c25_2])) hmix Try.call10 Try.func10 rfl rfl (by kernel_rfl) (fun h => by kernel_rfl)

noncomputable def dynposref32_All_L1 (a0 : List
  Port) (a1 : List
  Port) : Int →
  Option
    (Int ⊕
      Unit ⊕
        Bool) := fun x1 =>
  if decide (x1 < len a0) = true then
    Option.bind (idx a0 x1) fun x2 =>
      Option.bind (idx a1 x1) fun x3 =>
        Option.bind (dynposref32_Same x2 x3) fun x4 =>
          if (!x4) = true then some (.inr (.inr false)) else some (.inl (W (x1 + 1)))
  else some (.inr (.inl ()))
noncomputable def dynposref32_All (a0 : (List Port)) (a1 : (List Port)) : Option (Bool) :=
  if (len a0 != len a1) = true then some false
  else
    Option.bind (loopO (dynposref32_All_L1 a0 a1) 0) fun x5 =>
      Sum.elim (fun x6 => some true) (fun x7 => some x7) x5
noncomputable def c13 : Con D := ⟨13, [.lf (.sl 6), .lf (.sl 6)], [.lf .bool], [.one (.h 0 [0]), .one (.h 1 [0])], [], [.one (.h 0 [])], [], fun h => dynposref32_All h.1 h.2⟩
theorem c13_ok : ConOk Try.prog T c13 := fn_ok (Φ := [c31]) (rs := [.tmp 4]) (an := (.n none .o (.n none .o (.n none (.n none .o (.n none (.loop ⟨[.lf (.int .i64)], [(13, .one (.h 0 []))], [], [], 2640⟩ false [(.exit 0, ⟨[], [], [], [], 2640⟩)] .o) .o)) .o)))) pOk repOk (AllC.mem (⟨c31_ok, trivial⟩ : AllC _ _ [c31])) hmix Try.call13 Try.func13 rfl rfl (by kernel_rfl) (fun h => by kernel_rfl)

noncomputable def network_Cut_1 (a0 : Cable) (a1 : (List Int)) : Option (Bool) :=
  Option.bind (slices_Contains_int_int a1 a0.A) fun x1 =>
    Option.bind (slices_Contains_int_int a1 a0.B) fun x2 => some !x1 == x2
noncomputable def c41 : Con D := ⟨41, [.lf (.int .i64), .lf (.int .i64), .lf (.int .i64), .el 11], [.lf .bool], [.agg [.h 0 [], .h 1 [], .h 2 []], .one (.rp 3 11 [0])], [], [.one (.h 0 [])], [], fun h => network_Cut_1 ⟨h.1, h.2.1, h.2.2.1⟩ h.2.2.2⟩
theorem c41_ok : ConOk Try.prog T c41 := fn_ok (Φ := [c42]) (rs := [.tmp 3]) (an := .o) pOk repOk (AllC.mem (⟨c42_ok, trivial⟩ : AllC _ _ [c42])) hmix Try.call41 Try.func41 rfl rfl (by kernel_rfl) (fun h => by kernel_rfl)

noncomputable def slices_IndexFunc_Cable_Cable_L1 (a0 : List
  Cable) (a1 : List
  Int) : Int →
  Option
    (Int ⊕
      Unit ⊕
        Int) := fun x1 =>
  if decide (x1 < len a0) = true then
    Option.bind (idx a0 x1) fun x2 =>
      Option.bind (network_Cut_1 x2 a1) fun x3 =>
        if x3 = true then some (.inr (.inr x1)) else some (.inl (W (x1 + 1)))
  else some (.inr (.inl ()))
noncomputable def slices_IndexFunc_Cable_Cable (a0 : (List Cable)) (a1 : (List Int)) : Option (Int) :=
  Option.bind (loopO (slices_IndexFunc_Cable_Cable_L1 a0 a1) 0) fun x4 =>
    Sum.elim (fun x5 => some (-1)) (fun x6 => some x6) x4
noncomputable def c60 : Con D := ⟨60, [.lf (.sl 4), .el 11], [.lf (.int .i64)], [.one (.h 0 [0]), .one (.fn 41 [.rp 1 11 [0]])], [], [.one (.h 0 [])], [], fun h => slices_IndexFunc_Cable_Cable h.1 h.2⟩
theorem c60_ok : ConOk Try.prog T c60 := fn_ok (Φ := [c41]) (rs := [.tmp 4]) (an := (.n none .o (.n none (.n none .o (.n none (.loop ⟨[.lf (.int .i64)], [(8, .one (.h 0 []))], [], [], 2320⟩ false [(.exit 0, ⟨[], [], [], [], 2320⟩)] .o) .o)) .o))) pOk repOk (AllC.mem (⟨c41_ok, trivial⟩ : AllC _ _ [c41])) hmix Try.call60 Try.func60 rfl rfl (by kernel_rfl) (fun h => by kernel_rfl)

noncomputable def slices_ContainsFunc_Cable_Cable (a0 : (List Cable)) (a1 : (List Int)) : Option (Bool) := Option.bind (slices_IndexFunc_Cable_Cable a0 a1) fun x1 => some (decide (x1 ≥ 0))
noncomputable def c40 : Con D := ⟨40, [.lf (.sl 4), .el 11], [.lf .bool], [.one (.h 0 [0]), .one (.fn 41 [.rp 1 11 [0]])], [], [.one (.h 0 [])], [], fun h => slices_ContainsFunc_Cable_Cable h.1 h.2⟩
theorem c40_ok : ConOk Try.prog T c40 := fn_ok (Φ := [c60]) (rs := [.tmp 4]) (an := .o) pOk repOk (AllC.mem (⟨c60_ok, trivial⟩ : AllC _ _ [c60])) hmix Try.call40 Try.func40 rfl rfl (by kernel_rfl) (fun h => by kernel_rfl)

noncomputable def network_Cut (a0 : Net) (a1 : (List Part)) (a2 : Int) (a3 : (List Int)) : Option (Bool) :=
  Option.bind
    (Option.bind (network_right a0 a2 a3) fun x1 =>
      if (!x1) = true then some true
      else
        Option.bind (network_ascending a3) fun x2 =>
          if (!x2) = true then some true
          else if (len a3 == 0) = true then some true else some (len a3 == a0.Nodes))
    fun x3 =>
    if x3 = true then some false
    else
      Option.bind (network_whole a0 a1 a2) fun x4 =>
        Option.bind (slices_ContainsFunc_Cable_Cable x4 a3) fun x5 => some !x5
noncomputable def c21 : Con D := ⟨21, [.lf (.int .i64), .lf (.sl 4), .lf (.sl 5), .lf (.int .i64), .lf (.sl 0)], [.lf .bool], [.agg [.h 0 [], .h 1 [0]], .one (.h 2 [0]), .one (.h 3 []), .one (.h 4 [0])], [], [.one (.h 0 [])], [], fun h => network_Cut ⟨h.1, h.2.1⟩ h.2.2.1 h.2.2.2.1 h.2.2.2.2⟩
theorem c21_ok : ConOk Try.prog T c21 := fn_ok (Φ := [c36, c37, c39, c40]) (rs := [.tmp 8]) (an := (.n none .o (.n none (.n none (.r (some (true, [(.normal, ⟨[.lf .bool], [(30, .one (.h 0 []))], [], [], 2256⟩)])) .nil) .o) .o))) pOk repOk (AllC.mem (⟨c36_ok, c37_ok, c39_ok, c40_ok, trivial⟩ : AllC _ _ [c36, c37, c39, c40])) hmix Try.call21 Try.func21 rfl rfl (by kernel_rfl) (fun h => by kernel_rfl)

noncomputable def dynposref32_Cut_L1 (a0 : Net) (a3 : List
  Int) : Int →
  Option
    (Int ⊕
      Unit ⊕
        Bool) := fun x4 =>
  if decide (x4 < len a3) = true then
    Option.bind (idx a3 x4) fun x5 =>
      Option.bind
        (Option.bind (dynposref32_in x5 0 (W (a0.Nodes - 1))) fun x6 =>
          if (!x6) = true then some true
          else
            if decide (x4 > 0) = true then
              Option.bind (idx a3 (W (x4 - 1))) fun x7 => some (decide (x5 ≤ x7))
            else some false)
        fun x8 => if x8 = true then some (.inr (.inr false)) else some (.inl (W (x4 + 1)))
  else some (.inr (.inl ()))
noncomputable def dynposref32_Cut_L2 (a0 : Net) (a1 : List
  Part) (a2 : Int) (a3 : List
  Int) : Int →
  Option
    (Int ⊕
      Unit ⊕
        Bool) := fun x11 =>
  if decide (x11 < len a0.Cables) = true then
    Option.bind (idx a0.Cables x11) fun x12 =>
      Option.bind
        (if (x12.Net == a2) = true then
          Option.bind (dynposref32_whole a1 x11) fun x13 =>
            if x13 = true then
              Option.bind (dynposref32_has a3 x12.A) fun x14 =>
                Option.bind (dynposref32_has a3 x12.B) fun x15 => some !x14 == x15
            else some false
        else some false)
        fun x16 => if x16 = true then some (.inr (.inr false)) else some (.inl (W (x11 + 1)))
  else some (.inr (.inl ()))
noncomputable def dynposref32_Cut (a0 : Net) (a1 : (List Part)) (a2 : Int) (a3 : (List Int)) : Option (Bool) :=
  Option.bind
    (Option.bind (dynposref32_Check a0) fun x1 =>
      if (x1 != 0) = true then some true
      else
        Option.bind (dynposref32_in a2 0 1) fun x2 =>
          if (!x2) = true then some true
          else if (len a3 == 0) = true then some true else some (decide (len a3 ≥ a0.Nodes)))
    fun x3 =>
    if x3 = true then some false
    else
      Option.bind (loopO (dynposref32_Cut_L1 a0 a3) 0) fun x9 =>
        Sum.elim
          (fun x10 =>
            Option.bind (loopO (dynposref32_Cut_L2 a0 a1 a2 a3) 0) fun x17 =>
              Sum.elim (fun x18 => some true) (fun x19 => some x19) x17)
          (fun x20 => some x20) x9
noncomputable def c22 : Con D := ⟨22, [.lf (.int .i64), .lf (.sl 4), .lf (.sl 5), .lf (.int .i64), .lf (.sl 0)], [.lf .bool], [.agg [.h 0 [], .h 1 [0]], .one (.h 2 [0]), .one (.h 3 []), .one (.h 4 [0])], [], [.one (.h 0 [])], [], fun h => dynposref32_Cut ⟨h.1, h.2.1⟩ h.2.2.1 h.2.2.2.1 h.2.2.2.2⟩
theorem c22_ok : ConOk Try.prog T c22 := fn_ok (Φ := [c12, c34, c38, c43]) (rs := [.tmp 8]) (an := (.n none .o (.n none (.n none (.r (some (true, [(.normal, ⟨[.lf .bool], [(32, .one (.h 0 []))], [], [], 2192⟩)])) .nil) .o) (.n none (.n none .o (.n none (.loop ⟨[.lf (.int .i64)], [(35, .one (.h 0 []))], [], [], 2449⟩ false [(.exit 0, ⟨[], [], [], [], 2449⟩)] (.n none .o (.n none .o (.n none (.n none (.n none .o (.n none (.r (some (true, [(.normal, ⟨[.lf .bool], [(47, .one (.any)), (48, .one (.any)), (49, .one (.any)), (50, .one (.any)), (51, .one (.any)), (52, .one (.any)), (53, .one (.any)), (54, .one (.any)), (55, .one (.any)), (56, .one (.any)), (57, .one (.any)), (58, .one (.h 0 []))], [], [], 2898⟩)])) .nil) .o)) .o) .o)))) .o)) (.n none (.n none .o (.n none (.loop ⟨[.lf (.int .i64)], [(63, .one (.h 0 []))], [], [], 2769⟩ false [(.exit 2, ⟨[], [], [], [], 2769⟩)] (.n none .o (.n none .o (.n none (.n none (.n none .o (.n none (.r (some (true, [(.normal, ⟨[.lf .bool], [(73, .one (.any)), (74, .one (.any)), (75, .one (.any)), (78, .one (.any)), (79, .one (.any)), (80, .one (.any)), (81, .one (.any)), (82, .one (.any)), (83, .one (.any)), (84, .one (.any)), (85, .one (.any)), (86, .one (.any)), (87, .one (.h 0 []))], [], [], 3282⟩)])) .nil) .o)) .o) .o)))) .o)) .o))))) pOk repOk (AllC.mem (⟨c12_ok, c34_ok, c38_ok, c43_ok, trivial⟩ : AllC _ _ [c12, c34, c38, c43])) hmix Try.call22 Try.func22 rfl rfl (by kernel_rfl) (fun h => by kernel_rfl)

noncomputable def Src_Messages_L1 (a1 : Net) : Int × List Message × List Int × Int →
  Option
    (Int × List Message × List Int × Int ⊕
      List Message ×
        List Int ×
          Int) := fun x2 =>
  if decide (x2.1 > 0) = true then
    Option.bind (Src_N (Src.mk x2.2.2.1 x2.2.2.2) a1.Nodes) fun x3 =>
      Option.bind (Src_N (Src.mk x3.2.1 x3.2.2) a1.Nodes) fun x4 =>
        Option.bind
          (Src_Pick_v1 (Src.mk x4.2.1 x4.2.2)
            [1, 2, 3, 5, 31, 32, 33, 40,
              70])
          fun x5 =>
          Option.bind (Src_N (Src.mk x5.2.1 x5.2.2.1) 9) fun x6 =>
            Option.bind (app x2.2.1 [Message.mk x3.1 x4.1 x5.1 x6.1]) fun x7 =>
              some (.inl (W (x2.1 - 1), x7, x6.2.1, x6.2.2))
  else some (.inr (x2.2.1, x2.2.2.1, x2.2.2.2))
noncomputable def Src_Messages (a0 : Src) (a1 : Net) (a2 : Int) : Option ((List Int) × Int × (List Message)) :=
  Option.bind (Src_N a0 (W (a2 + 1))) fun x1 =>
    Option.bind (loopO (Src_Messages_L1 a1) (x1.1, [], x1.2.1, x1.2.2)) fun x8 =>
      some (x8.2.1, x8.2.2, x8.1)
noncomputable def c23 : Con D := ⟨23, [.lf (.sl 0), .lf (.int .i64), .lf (.int .i64), .lf (.sl 4), .lf (.int .i64)], [.lf (.sl 0), .lf (.int .i64), .lf (.sl 7)], [.one (.ptr 1000 0), .agg [.h 2 [], .h 3 [0]], .one (.h 4 [])], [(1000, .box [.h 0 [0], .h 1 []])], [.one (.own 1001)], [(1000, .box [.h 0 [0], .h 1 []]), (1001, .sl 7 65 2 [])], fun h => Src_Messages ⟨h.1, h.2.1⟩ ⟨h.2.2.1, h.2.2.2.1⟩ h.2.2.2.2⟩
theorem c23_ok : ConOk Try.prog T c23 := fn_ok (Φ := [c8, c44_1]) (rs := [.tmp 6]) (an := (.n none .o (.n none .o (.n none (.n none .o (.n none (.loop ⟨[.lf (.int .i64), .lf (.sl 7), .lf (.sl 0), .lf (.int .i64)], [(7, .one (.own 2512)), (8, .one (.h 0 []))], [(2512, .sl 7 65 1 []), (1000, .box [.h 2 [0], .h 3 []])], [1000], 2576⟩ true [(.exit 0, ⟨[.lf (.sl 7), .lf (.sl 0), .lf (.int .i64)], [(7, .one (.own 2512))], [(2512, .sl 7 65 0 []), (1000, .box [.h 1 [0], .h 2 []])], [1000], 2576⟩)] .o) .o)) .o)))) pOk repOk (AllC.mem (⟨c8_ok, c44_1_ok, trivial⟩ : AllC _ _ [c8, c44_1])) hmix Try.call23 Try.func23 rfl rfl (by kernel_rfl) (fun h => by kernel_rfl)

end Rx
end Go.Proofs.Ytmgflnbgkpcbdaa
