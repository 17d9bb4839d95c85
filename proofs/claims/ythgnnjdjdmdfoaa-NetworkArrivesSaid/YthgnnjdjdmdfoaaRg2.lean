/- Plain functions, walks. Written by a program (wip/gen). -/
import Derived.Test.YthgnnjdjdmdfoaaRt
import Derived.Test.YthgnnjdjdmdfoaaRg1
set_option linter.unusedVariables false
set_option maxRecDepth 100000
namespace Go.Proofs.Ythgnnjdjdmdfoaa
open Go Go.RowKit Dp
namespace Rx

noncomputable def network_Deliver_L1 (a2 : List
  Port) : Int × List Port →
  Option
    (Int × List Port ⊕
      List
        Port) := fun x5 =>
  if decide (x5.1 < len a2) = true then
    Option.bind (idx a2 x5.1) fun x6 =>
      Option.bind (network_copyPort x6) fun x7 =>
        Option.bind (app x5.2 [Port.mk x7.1 x7.2]) fun x8 => some (.inl (W (x5.1 + 1), x8))
  else some (.inr x5.2)
noncomputable def network_Deliver_L3 (a0 : Net) (x11 : Message) (x12 : Int) : Int × List Message × List Port →
  Option
    (Int × List Message × List Port ⊕
      List Message ×
        List
          Port) := fun x13 =>
  if decide (x13.1 < x12) = true then
    Option.bind (idx x13.2.2 (W (W (x11.To * a0.Nodes) + x11.From))) fun x14 =>
      Option.bind (network_Accept x14 x11.Number) fun x15 =>
        Option.bind
          (if x15.2.1 = true then
            Option.bind (idx x13.2.2 (W (W (x11.To * a0.Nodes) + x11.From))) fun x16 =>
              Option.bind (idx x13.2.2 (W (W (x11.To * a0.Nodes) + x11.From))) fun x17 =>
                Option.bind (setO x13.2.2 (W (W (x11.To * a0.Nodes) + x11.From)) (Port.mk x15.1 x15.2.2))
                  fun x18 => Option.bind (app x13.2.1 [x11]) fun x19 => some (x19, x18)
          else some (x13.2.1, x13.2.2))
          fun x20 => some (.inl (W (x13.1 + 1), x20.1, x20.2))
  else some (.inr (x13.2.1, x13.2.2))
noncomputable def network_Deliver_L2 (a0 : Net) (a1 : List
  Part) (a3 : List
  Message) : Int × List Message × List Port →
  Option
    (Int × List Message × List Port ⊕
      List Message ×
        List
          Port) := fun x10 =>
  if decide (x10.1 < len a3) = true then
    Option.bind (idx a3 x10.1) fun x11 =>
      Option.bind (network_Copies a0 a1 x11.From x11.To) fun x12 =>
        Option.bind (loopO (network_Deliver_L3 a0 x11 x12) (0, x10.2.1, x10.2.2)) fun x21 =>
          some (.inl (W (x10.1 + 1), x21.1, x21.2))
  else some (.inr (x10.2.1, x10.2.2))
noncomputable def network_Deliver (a0 : Net) (a1 : (List Part)) (a2 : (List Port)) (a3 : (List Message)) : Option (Int × (List Port) × (List Message)) :=
  Option.bind (network_Check a0) fun x1 =>
    if (x1 != 0) = true then some (x1, [], [])
    else
      if (len a2 != W (a0.Nodes * a0.Nodes)) = true then some (8, [], [])
      else
        Option.bind
          (Option.bind (slices_ContainsFunc_Message_Message a3 a0) fun x2 =>
            if x2 = true then some true else Option.bind (slices_ContainsFunc_Port_Port a2) fun x3 => some x3)
          fun x4 =>
          if x4 = true then some (1, [], [])
          else
            if decide (len a3 > 60) = true then some (2, [], [])
            else
              Option.bind (loopO (network_Deliver_L1 a2) (0, [])) fun x9 =>
                Option.bind (loopO (network_Deliver_L2 a0 a1 a3) (0, [], x9)) fun x22 =>
                  some (0, x22.2, x22.1)
noncomputable def c13 : Con D := ⟨13, [.lf (.int .i64), .lf (.sl 3), .lf (.sl 7), .lf (.sl 5), .lf (.sl 6)], [.lf (.int .i64), .lf (.sl 5), .lf (.sl 6)], [.agg [.h 0 [], .h 1 [0]], .one (.h 2 [0]), .one (.h 3 [0]), .one (.h 4 [0])], [], [.one (.own 1000), .one (.own 1001), .one (.h 0 [])], [(1000, .sl 5 52 1 [1]), (1001, .sl 6 41 2 [])], fun h => network_Deliver ⟨h.1, h.2.1⟩ h.2.2.1 h.2.2.2.1 h.2.2.2.2⟩
theorem c13_ok : ConOk Try.prog T c13 := fn_ok (Φ := [c18, c21, c26, c40, c41, c43]) (rs := [.tmp 8, .tmp 9, .tmp 10]) (an := (.n none .o (.n none .o (.n none .o (.n none (.n none (.n none .o (.n none .o (.n none (.r (some (true, [(.normal, ⟨[.lf .bool], [(37, .one (.h 0 []))], [], [], 3344⟩)])) .nil) .o))) .o) (.n none .o (.n none (.n none .o (.n none (.loop ⟨[.lf (.int .i64), .lf (.sl 5)], [(13, .one (.own 3857)), (51, .one (.h 0 []))], [(3857, .sl 5 52 1 [1])], [], 3921⟩ true [(.exit 1, ⟨[.lf (.sl 5)], [(13, .one (.own 3857))], [(3857, .sl 5 52 0 [1])], [], 3921⟩)] .o) .o)) (.n none .o (.n none (.n none .o (.n none (.loop ⟨[.lf (.int .i64), .lf (.sl 6), .lf (.sl 5)], [(16, .one (.own 4178)), (63, .one (.h 0 []))], [(4178, .sl 6 41 1 []), (3857, .sl 5 52 2 [1])], [3857], 4242⟩ true [(.exit 3, ⟨[.lf (.sl 6), .lf (.sl 5)], [(16, .one (.own 4178))], [(4178, .sl 6 41 0 []), (3857, .sl 5 52 1 [1])], [3857], 4242⟩)] (.n none .o (.n none .o (.n none (.n none (.n none .o (.n none .o (.n none .o (.n none (.loop ⟨[.lf (.int .i64), .lf (.sl 6), .lf (.sl 5)], [(16, .one (.own 5653)), (82, .one (.h 0 []))], [(5653, .sl 6 41 1 []), (3857, .sl 5 52 2 [1])], [3857, 4178], 5717⟩ true [(.exit 5, ⟨[.lf (.sl 6), .lf (.sl 5)], [(16, .one (.own 5653))], [(5653, .sl 6 41 0 []), (3857, .sl 5 52 1 [1])], [3857, 4178], 5717⟩)] (.n none .o (.n none .o (.n none (.n none (.n none .o (.n none .o (.n (some (true, [(.normal, ⟨[.lf (.sl 6), .lf (.sl 5)], [(16, .one (.own 6680))], [(6680, .sl 6 41 0 []), (3857, .sl 5 52 1 [1])], [3857, 5653, 6176], 6744⟩)])) .o .o))) .o) .o)))) .o)))) .o) .o)))) .o)) .o))))))))) pOk repOk (AllC.mem (⟨c18_ok, c21_ok, c26_ok, c40_ok, c41_ok, c43_ok, trivial⟩ : AllC _ _ [c18, c21, c26, c40, c41, c43])) hmix Try.call13 Try.func13 rfl rfl (by kernel_rfl) (fun h => by kernel_rfl)

noncomputable def dynposref32_Same_L1 (a0 : Port) (a1 : Port) : Int →
  Option
    (Int ⊕
      Unit ⊕
        Bool) := fun x2 =>
  if decide (x2 < len a0.Below) = true then
    Option.bind (idx a0.Below x2) fun x3 =>
      Option.bind (idx a1.Below x2) fun x4 =>
        if (x3 != x4) = true then some (.inr (.inr false)) else some (.inl (W (x2 + 1)))
  else some (.inr (.inl ()))
noncomputable def dynposref32_Same (a0 : Port) (a1 : Port) : Option (Bool) :=
  Option.bind (if (a0.High != a1.High) = true then some true else some (len a0.Below != len a1.Below)) fun x1 =>
    if x1 = true then some false
    else
      Option.bind (loopO (dynposref32_Same_L1 a0 a1) 0) fun x5 =>
        Sum.elim (fun x6 => some true) (fun x7 => some x7) x5
noncomputable def c23 : Con D := ⟨23, [.lf (.int .i64), .lf (.sl 0), .lf (.int .i64), .lf (.sl 0)], [.lf .bool], [.agg [.h 0 [], .h 1 [0]], .agg [.h 2 [], .h 3 [0]]], [], [.one (.h 0 [])], [], fun h => dynposref32_Same ⟨h.1, h.2.1⟩ ⟨h.2.2.1, h.2.2.2⟩⟩
theorem c23_ok : ConOk Try.prog T c23 := fn_ok (Φ := []) (rs := [.tmp 4]) (an := (.n none .o (.n none (.n none (.r (some (true, [(.normal, ⟨[.lf .bool], [(19, .one (.h 0 []))], [], [], 2256⟩)])) .nil) .o) (.n none (.n none .o (.n none (.loop ⟨[.lf (.int .i64)], [(23, .one (.h 0 []))], [], [], 2577⟩ false [(.exit 0, ⟨[], [], [], [], 2577⟩)] .o) .o)) .o)))) pOk repOk (AllC.mem (l := []) trivial) hmix Try.call23 Try.func23 rfl rfl (by kernel_rfl) (fun h => by kernel_rfl)

noncomputable def dynposlaw32_sane : Option (Bool) := Option.bind
  (network_Ports
    (Net.mk 2
      [Cable.mk 0 0 1, Cable.mk 1 0 1]))
  fun x1 =>
  Option.bind
    (network_Deliver
      (Net.mk 2
        [Cable.mk 0 0 1, Cable.mk 1 0 1])
      [] x1 [Message.mk 0 1 1 0])
    fun x2 =>
    Option.bind (network_Accept (Port.mk 0 []) 5) fun x3 =>
      Option.bind (network_Accept (Port.mk x3.1 x3.2.2) 3) fun x4 =>
        Option.bind (network_Accept (Port.mk x4.1 x4.2.2) 5) fun x5 =>
          Option.bind
            (if (x2.1 == 0) = true then
              if (len x2.2.2 == 1) = true then
                if (len x2.2.1 == 4) = true then
                  Option.bind (idx x2.2.1 2) fun x6 =>
                    if (x6.High == 1) = true then
                      if x3.2.1 = true then
                        if x4.2.1 = true then
                          if (!x5.2.1) = true then
                            Option.bind
                              (dynposref32_Same (Port.mk x4.1 x4.2.2) (Port.mk 5 [3]))
                              fun x7 =>
                              if x7 = true then
                                Option.bind
                                  (network_Copies
                                    (Net.mk 2
                                      [Cable.mk 0 0 1,
                                        Cable.mk 1 0 1])
                                    [Part.mk 8 0] 0 1)
                                  fun x8 => some (x8 == 1)
                              else some false
                          else some false
                        else some false
                      else some false
                    else some false
                else some false
              else some false
            else some false)
            fun x9 => some x9
noncomputable def c9 : Con D := ⟨9, [], [.lf .bool], [], [], [.one (.h 0 [])], [], fun h => dynposlaw32_sane⟩
theorem c9_ok : ConOk Try.prog T c9 := fn_ok (Φ := [c12, c13, c18, c21, c23]) (rs := [.tmp 0]) (an := (.n none .o (.n none .o (.n none .o (.n none .o (.n none .o (.n none .o (.n none (.r (some (true, [(.normal, ⟨[.lf .bool], [(0, .one (.h 0 []))], [], [], 4880⟩)])) .nil) .o)))))))) pOk repOk (AllC.mem (⟨c12_ok, c13_ok, c18_ok, c21_ok, c23_ok, trivial⟩ : AllC _ _ [c12, c13, c18, c21, c23])) hmix Try.call9 Try.func9 rfl rfl (by kernel_rfl) (fun h => by kernel_rfl)

noncomputable def dynposmake_New (a0 : (List Int)) : Option ((List Int) × Int) := Option.bind (slc a0 0 (imin (len a0) 600)) fun x1 => some (x1, 0)
noncomputable def c10 : Con D := ⟨10, [.lf (.sl 0)], [.lf (.sl 0), .lf (.int .i64)], [.one (.h 0 [0])], [], [.one (.ptr 1000 0)], [(1000, .box [.h 0 [0], .h 1 []])], fun h => dynposmake_New h⟩
theorem c10_ok : ConOk Try.prog T c10 := fn_ok (Φ := []) (rs := [.tmp 2]) (an := .o) pOk repOk (AllC.mem (l := []) trivial) hmix Try.call10 Try.func10 rfl rfl (by kernel_rfl) (fun h => by kernel_rfl)

noncomputable def dynposmake_Mod (a0 : Int) (a1 : Int) : Option (Int) :=
  if decide (a1 < 1) = true then some 0
  else Option.bind (remO a0 a1) fun x1 => Option.bind (remO (W (x1 + a1)) a1) fun x2 => some x2
noncomputable def c44 : Con D := ⟨44, [.lf (.int .i64), .lf (.int .i64)], [.lf (.int .i64)], [.one (.h 0 []), .one (.h 1 [])], [], [.one (.h 0 [])], [], fun h => dynposmake_Mod h.1 h.2⟩
theorem c44_ok : ConOk Try.prog T c44 := fn_ok (Φ := []) (rs := [.tmp 4]) (an := .o) pOk repOk (AllC.mem (l := []) trivial) hmix Try.call44 Try.func44 rfl rfl (by kernel_rfl) (fun h => by kernel_rfl)

noncomputable def Src_N (a0 : Src) (a1 : Int) : Option (Int × (List Int) × Int) :=
  if decide (a0.At ≥ len a0.L) = true then some (0, a0.L, a0.At)
  else
    Option.bind (idx a0.L (W (W (a0.At + 1) - 1))) fun x1 =>
      Option.bind (dynposmake_Mod x1 a1) fun x2 => some (x2, a0.L, W (a0.At + 1))
noncomputable def c16 : Con D := ⟨16, [.lf (.sl 0), .lf (.int .i64), .lf (.int .i64)], [.lf (.int .i64), .lf (.sl 0), .lf (.int .i64)], [.one (.ptr 1000 0), .one (.h 2 [])], [(1000, .box [.h 0 [0], .h 1 []])], [.one (.h 0 [])], [(1000, .box [.h 1 [0], .h 2 []])], fun h => Src_N ⟨h.1, h.2.1⟩ h.2.2⟩
theorem c16_ok : ConOk Try.prog T c16 := fn_ok (Φ := [c44]) (rs := [.tmp 4]) (an := .o) pOk repOk (AllC.mem (⟨c44_ok, trivial⟩ : AllC _ _ [c44])) hmix Try.call16 Try.func16 rfl rfl (by kernel_rfl) (fun h => by kernel_rfl)

noncomputable def Src_Range (a0 : Src) (a1 : Int) (a2 : Int) : Option (Int × (List Int) × Int) :=
  Option.bind (Src_N a0 (W (W (a2 - a1) + 1))) fun x1 => some (W (a1 + x1.1), x1.2.1, x1.2.2)
noncomputable def c24 : Con D := ⟨24, [.lf (.sl 0), .lf (.int .i64), .lf (.int .i64), .lf (.int .i64)], [.lf (.int .i64), .lf (.sl 0), .lf (.int .i64)], [.one (.ptr 1000 0), .one (.h 2 []), .one (.h 3 [])], [(1000, .box [.h 0 [0], .h 1 []])], [.one (.h 0 [])], [(1000, .box [.h 1 [0], .h 2 []])], fun h => Src_Range ⟨h.1, h.2.1⟩ h.2.2.1 h.2.2.2⟩
theorem c24_ok : ConOk Try.prog T c24 := fn_ok (Φ := [c16]) (rs := [.tmp 6]) (an := .o) pOk repOk (AllC.mem (⟨c16_ok, trivial⟩ : AllC _ _ [c16])) hmix Try.call24 Try.func24 rfl rfl (by kernel_rfl) (fun h => by kernel_rfl)

noncomputable def Src_Net_L3 (x2 : Int ×
  List Int ×
    Int ×
      Int ×
        List
          Cable) (x3 : Int ×
  List Int ×
    Int ×
      Int ×
        List
          Cable) : Int × List Int × Int × Int × List Cable →
  Option
    (Int × List Int × Int × Int × List Cable ⊕
      List Int ×
        Int ×
          Int ×
            List
              Cable) := fun x4 =>
  if decide (x4.1 < x4.2.2.2.1) = true then
    Option.bind (Src_N (Src.mk x4.2.1 x4.2.2.1) 2) fun x5 =>
      Option.bind
        (if (x5.1 == 1) = true then
          Option.bind (app x4.2.2.2.2 [Cable.mk x2.1 x3.1 x4.1]) fun x6 => some (x4.2.2.2.1, x6)
        else some (x4.2.2.2.1, x4.2.2.2.2))
        fun x7 => some (.inl (W (x4.1 + 1), x5.2.1, x5.2.2, x7.1, x7.2))
  else some (.inr (x4.2.1, x4.2.2.1, x4.2.2.2.1, x4.2.2.2.2))
noncomputable def Src_Net_L2 (x2 : Int ×
  List Int ×
    Int ×
      Int ×
        List
          Cable) : Int × List Int × Int × Int × List Cable →
  Option
    (Int × List Int × Int × Int × List Cable ⊕
      List Int ×
        Int ×
          Int ×
            List
              Cable) := fun x3 =>
  if decide (x3.1 < x3.2.2.2.1) = true then
    Option.bind
      (loopO (Src_Net_L3 x2 x3)
        (W (x3.1 + 1), x3.2.1, x3.2.2.1, x3.2.2.2.1, x3.2.2.2.2))
      fun x8 => some (.inl (W (x3.1 + 1), x8.1, x8.2.1, x8.2.2.1, x8.2.2.2))
  else some (.inr (x3.2.1, x3.2.2.1, x3.2.2.2.1, x3.2.2.2.2))
noncomputable def Src_Net_L1 : Int × List Int × Int × Int × List Cable →
  Option
    (Int × List Int × Int × Int × List Cable ⊕
      List Int ×
        Int ×
          Int ×
            List
              Cable) := fun x2 =>
  if decide (x2.1 < 2) = true then
    Option.bind
      (loopO (Src_Net_L2 x2) (0, x2.2.1, x2.2.2.1, x2.2.2.2.1, x2.2.2.2.2))
      fun x9 => some (.inl (W (x2.1 + 1), x9.1, x9.2.1, x9.2.2.1, x9.2.2.2))
  else some (.inr (x2.2.1, x2.2.2.1, x2.2.2.2.1, x2.2.2.2.2))
noncomputable def Src_Net (a0 : Src) : Option (Int × (List Int) × Int × (List Cable)) :=
  Option.bind (Src_Range a0 1 5) fun x1 =>
    Option.bind (loopO Src_Net_L1 (0, x1.2.1, x1.2.2, x1.1, [])) fun x10 =>
      some (x10.2.2.1, x10.1, x10.2.1, x10.2.2.2)
noncomputable def c11 : Con D := ⟨11, [.lf (.sl 0), .lf (.int .i64)], [.lf (.int .i64), .lf (.sl 0), .lf (.int .i64), .lf (.sl 3)], [.one (.ptr 1000 0)], [(1000, .box [.h 0 [0], .h 1 []])], [.agg [.h 0 [], .own 1001]], [(1000, .box [.h 1 [0], .h 2 []]), (1001, .sl 3 49 3 [])], fun h => Src_Net ⟨h.1, h.2⟩⟩
theorem c11_ok : ConOk Try.prog T c11 := fn_ok (Φ := [c16, c24]) (rs := [.cell 2 28]) (an := (.n none .o (.n none .o (.n none (.n none .o (.n none (.loop ⟨[.lf (.int .i64), .lf (.sl 0), .lf (.int .i64), .lf (.int .i64), .lf (.sl 3)], [(4, .one (.h 0 []))], [(1000, .box [.h 1 [0], .h 2 []]), (2256, .box [.h 3 [], .own 2448]), (2448, .sl 3 49 4 [])], [1000, 2256], 2512⟩ true [(.exit 0, ⟨[.lf (.sl 0), .lf (.int .i64), .lf (.int .i64), .lf (.sl 3)], [], [(1000, .box [.h 0 [0], .h 1 []]), (2256, .box [.h 2 [], .own 2448]), (2448, .sl 3 49 3 [])], [1000, 2256], 2512⟩)] (.n none .o (.n none (.n none (.n none .o (.n none (.loop ⟨[.lf (.int .i64), .lf (.sl 0), .lf (.int .i64), .lf (.int .i64), .lf (.sl 3)], [(5, .one (.h 0 []))], [(1000, .box [.h 1 [0], .h 2 []]), (2256, .box [.h 3 [], .own 2709]), (2709, .sl 3 49 4 [])], [1000, 2256, 2448], 2773⟩ true [(.exit 2, ⟨[.lf (.sl 0), .lf (.int .i64), .lf (.int .i64), .lf (.sl 3)], [], [(1000, .box [.h 0 [0], .h 1 []]), (2256, .box [.h 2 [], .own 2709]), (2709, .sl 3 49 3 [])], [1000, 2256, 2448], 2773⟩)] (.n none .o (.n none (.n none (.n none .o (.n none (.loop ⟨[.lf (.int .i64), .lf (.sl 0), .lf (.int .i64), .lf (.int .i64), .lf (.sl 3)], [(6, .one (.h 0 []))], [(1000, .box [.h 1 [0], .h 2 []]), (2256, .box [.h 3 [], .own 3226]), (3226, .sl 3 49 4 [])], [1000, 2256, 2709], 3290⟩ true [(.exit 4, ⟨[.lf (.sl 0), .lf (.int .i64), .lf (.int .i64), .lf (.sl 3)], [], [(1000, .box [.h 0 [0], .h 1 []]), (2256, .box [.h 2 [], .own 3226]), (3226, .sl 3 49 3 [])], [1000, 2256, 2709], 3290⟩)] (.n none .o (.n none (.n none (.n none .o (.n (some (true, [(.normal, ⟨[.lf (.int .i64), .lf (.sl 3)], [], [(2256, .box [.h 0 [], .own 3743]), (3743, .sl 3 49 1 [])], [2256, 3226], 3807⟩)])) .o .o)) .o) .o))) .o)) .o) .o))) .o)) .o) .o))) .o)) .o)))) pOk repOk (AllC.mem (⟨c16_ok, c24_ok, trivial⟩ : AllC _ _ [c16, c24])) hmix Try.call11 Try.func11 rfl rfl (by kernel_rfl) (fun h => by kernel_rfl)

noncomputable def Src_Some_L1 (a1 : Int) (a2 : Int) : Int × List Int × List Int × Int →
  Option
    (Int × List Int × List Int × Int ⊕
      List Int ×
        List Int ×
          Int) := fun x1 =>
  if decide (x1.1 < a1) = true then
    Option.bind (Src_N (Src.mk x1.2.2.1 x1.2.2.2) a2) fun x2 =>
      Option.bind
        (if (x2.1 == W (a2 - 1)) = true then Option.bind (app x1.2.1 [x1.1]) fun x3 => some x3
        else some x1.2.1)
        fun x4 => some (.inl (W (x1.1 + 1), x4, x2.2.1, x2.2.2))
  else some (.inr (x1.2.1, x1.2.2.1, x1.2.2.2))
noncomputable def Src_Some (a0 : Src) (a1 : Int) (a2 : Int) : Option ((List Int) × Int × (List Int)) :=
  Option.bind (loopO (Src_Some_L1 a1 a2) (0, [], a0.L, a0.At)) fun x5 => some (x5.2.1, x5.2.2, x5.1)
noncomputable def c32 : Con D := ⟨32, [.lf (.sl 0), .lf (.int .i64), .lf (.int .i64), .lf (.int .i64)], [.lf (.sl 0), .lf (.int .i64), .lf (.sl 0)], [.one (.ptr 1000 0), .one (.h 2 []), .one (.h 3 [])], [(1000, .box [.h 0 [0], .h 1 []])], [.one (.own 1001)], [(1000, .box [.h 0 [0], .h 1 []]), (1001, .sl 0 3 2 [])], fun h => Src_Some ⟨h.1, h.2.1⟩ h.2.2.1 h.2.2.2⟩
theorem c32_ok : ConOk Try.prog T c32 := fn_ok (Φ := [c16]) (rs := [.tmp 6]) (an := (.n none .o (.n none .o (.n none (.n none .o (.n none (.loop ⟨[.lf (.int .i64), .lf (.sl 0), .lf (.sl 0), .lf (.int .i64)], [(7, .one (.own 2192)), (8, .one (.h 0 []))], [(2192, .sl 0 3 1 []), (1000, .box [.h 2 [0], .h 3 []])], [1000], 2256⟩ true [(.exit 0, ⟨[.lf (.sl 0), .lf (.sl 0), .lf (.int .i64)], [(7, .one (.own 2192))], [(2192, .sl 0 3 0 []), (1000, .box [.h 1 [0], .h 2 []])], [1000], 2256⟩)] (.n none .o (.n none (.n none (.n none .o (.n (some (true, [(.normal, ⟨[.lf (.sl 0)], [(7, .one (.own 2836))], [(2836, .sl 0 3 0 [])], [2192], 2900⟩)])) .o .o)) .o) .o))) .o)) .o)))) pOk repOk (AllC.mem (⟨c16_ok, trivial⟩ : AllC _ _ [c16])) hmix Try.call32 Try.func32 rfl rfl (by kernel_rfl) (fun h => by kernel_rfl)

noncomputable def Src_Cables_L1 (x1 : List Int ×
  Int ×
    List
      Int) : Int × List Part →
  Option
    (Int × List Part ⊕
      List
        Part) := fun x2 =>
  if decide (x2.1 < len x1.2.2) = true then
    Option.bind (idx x1.2.2 x2.1) fun x3 =>
      Option.bind (app x2.2 [Part.mk 8 x3]) fun x4 => some (.inl (W (x2.1 + 1), x4))
  else some (.inr x2.2)
noncomputable def Src_Cables (a0 : Src) (a1 : Net) : Option ((List Int) × Int × (List Cable) × (List Part)) :=
  Option.bind (Src_Some a0 (len a1.Cables) 3) fun x1 =>
    Option.bind (loopO (Src_Cables_L1 x1) (0, [])) fun x5 => some (x1.1, x1.2.1, a1.Cables, x5)
noncomputable def c14 : Con D := ⟨14, [.lf (.sl 0), .lf (.int .i64), .lf (.int .i64), .lf (.sl 3)], [.lf (.sl 0), .lf (.int .i64), .lf (.sl 3), .lf (.sl 7)], [.one (.ptr 1000 0), .agg [.h 2 [], .own 1001]], [(1000, .box [.h 0 [0], .h 1 []]), (1001, .sl 3 49 3 [0])], [.one (.own 1002)], [(1000, .box [.h 0 [0], .h 1 []]), (1001, .sl 3 49 2 [0]), (1002, .sl 7 71 3 [])], fun h => Src_Cables ⟨h.1, h.2.1⟩ ⟨h.2.2.1, h.2.2.2⟩⟩
theorem c14_ok : ConOk Try.prog T c14 := fn_ok (Φ := [c32]) (rs := [.tmp 4]) (an := (.n none .o (.n none .o (.n none (.n none .o (.n none (.loop ⟨[.lf (.int .i64), .lf (.sl 7)], [(5, .one (.own 2640)), (14, .one (.h 0 []))], [(2640, .sl 7 71 1 [])], [], 2704⟩ true [(.exit 0, ⟨[.lf (.sl 7)], [(5, .one (.own 2640))], [(2640, .sl 7 71 0 [])], [], 2704⟩)] .o) .o)) .o)))) pOk repOk (AllC.mem (⟨c32_ok, trivial⟩ : AllC _ _ [c32])) hmix Try.call14 Try.func14 rfl rfl (by kernel_rfl) (fun h => by kernel_rfl)

noncomputable def Src_Pick (a0 : Src) (a1 : (List Int)) : Option (Int × (List Int) × Int × (List Int)) :=
  Option.bind (Src_N a0 (len a1)) fun x1 => Option.bind (idx a1 x1.1) fun x2 => some (x2, x1.2.1, x1.2.2, a1)
noncomputable def c17 : Con D := ⟨17, [.lf (.sl 0), .lf (.int .i64), .lf (.sl 0)], [.lf (.int .i64), .lf (.sl 0), .lf (.int .i64), .lf (.sl 0)], [.one (.ptr 1000 0), .one (.own 1001)], [(1000, .box [.h 0 [0], .h 1 []]), (1001, .sl 0 3 2 [0])], [.one (.h 0 [])], [(1000, .box [.h 1 [0], .h 2 []]), (1001, .sl 0 3 3 [0])], fun h => Src_Pick ⟨h.1, h.2.1⟩ h.2.2⟩
theorem c17_ok : ConOk Try.prog T c17 := fn_ok (Φ := [c16]) (rs := [.tmp 4]) (an := .o) pOk repOk (AllC.mem (⟨c16_ok, trivial⟩ : AllC _ _ [c16])) hmix Try.call17 Try.func17 rfl rfl (by kernel_rfl) (fun h => by kernel_rfl)

noncomputable def dynposref32_Messages_L1 (a0 : List
  Message) (a1 : List
  Message) : Int →
  Option
    (Int ⊕
      Unit ⊕
        Bool) := fun x1 =>
  if decide (x1 < len a0) = true then
    Option.bind (idx a0 x1) fun x2 =>
      Option.bind (idx a1 x1) fun x3 =>
        if (!(x2.From == x3.From && (x2.To == x3.To && (x2.Number == x3.Number && x2.Value == x3.Value)))) = true then
          some (.inr (.inr false))
        else some (.inl (W (x1 + 1)))
  else some (.inr (.inl ()))
noncomputable def dynposref32_Messages (a0 : (List Message)) (a1 : (List Message)) : Option (Bool) :=
  if (len a0 != len a1) = true then some false
  else
    Option.bind (loopO (dynposref32_Messages_L1 a0 a1) 0) fun x4 =>
      Sum.elim (fun x5 => some true) (fun x6 => some x6) x4
noncomputable def c19 : Con D := ⟨19, [.lf (.sl 6), .lf (.sl 6)], [.lf .bool], [.one (.h 0 [0]), .one (.h 1 [0])], [], [.one (.h 0 [])], [], fun h => dynposref32_Messages h.1 h.2⟩
theorem c19_ok : ConOk Try.prog T c19 := fn_ok (Φ := []) (rs := [.tmp 4]) (an := (.n none .o (.n none .o (.n none (.n none .o (.n none (.loop ⟨[.lf (.int .i64)], [(13, .one (.h 0 []))], [], [], 2640⟩ false [(.exit 0, ⟨[], [], [], [], 2640⟩)] .o) .o)) .o)))) pOk repOk (AllC.mem (l := []) trivial) hmix Try.call19 Try.func19 rfl rfl (by kernel_rfl) (fun h => by kernel_rfl)

noncomputable def dynposlaw32_NetworkArrives_L1 (x4 : Int ×
  List Int ×
    Int) (x5 : Int ×
  List Int ×
    Int) : Int × Int × List Message × List Int × Int →
  Option
    (Int × Int × List Message × List Int × Int ⊕
      List Message ×
        List Int ×
          Int) := fun x7 =>
  if decide (x7.2.1 > 0) = true then
    Option.bind
      (Src_Pick (Src.mk x7.2.2.2.1 x7.2.2.2.2) [1, 1, 2, 50])
      fun x8 =>
      Option.bind (app x7.2.2.1 [Message.mk x4.1 x5.1 (W (x7.1 + x8.1)) x7.2.1]) fun x9 =>
        some (.inl (W (x7.1 + x8.1), W (x7.2.1 - 1), x9, x8.2.1, x8.2.2.1))
  else some (.inr (x7.2.2.1, x7.2.2.2.1, x7.2.2.2.2))
noncomputable def dynposlaw32_NetworkArrives (a0 : (List Int)) : Option (Bool) :=
  if decide (len a0 > 600) = true then Option.bind dynposlaw32_sane fun x19 => some x19
  else
    Option.bind (dynposmake_New a0) fun x1 =>
      Option.bind (Src_Net (Src.mk x1.1 x1.2)) fun x2 =>
        Option.bind (Src_Cables (Src.mk x2.2.1 x2.2.2.1) (Net.mk x2.1 x2.2.2.2)) fun x3 =>
          Option.bind (Src_N (Src.mk x3.1 x3.2.1) x2.1) fun x4 =>
            Option.bind (Src_N (Src.mk x4.2.1 x4.2.2) x2.1) fun x5 =>
              Option.bind (Src_N (Src.mk x5.2.1 x5.2.2) 12) fun x6 =>
                Option.bind
                  (loopO (dynposlaw32_NetworkArrives_L1 x4 x5) (0, x6.1, [], x6.2.1, x6.2.2))
                  fun x10 =>
                  Option.bind (network_Ports (Net.mk x2.1 x3.2.2.1)) fun x11 =>
                    Option.bind (network_Deliver (Net.mk x2.1 x3.2.2.1) x3.2.2.2 x11 x10.1) fun x12 =>
                      Option.bind (network_Copies (Net.mk x2.1 x3.2.2.1) x3.2.2.2 x4.1 x5.1)
                        fun x13 =>
                        if (x13 == 0) = true then
                          Option.bind
                            (if (x12.1 == 0) = true then
                              if (len x12.2.2 == 0) = true then
                                Option.bind dynposlaw32_sane fun x17 => some x17
                              else some false
                            else some false)
                            fun x18 => some x18
                        else
                          Option.bind
                            (if (x12.1 == 0) = true then
                              Option.bind (dynposref32_Messages x12.2.2 x10.1) fun x14 =>
                                if x14 = true then Option.bind dynposlaw32_sane fun x15 => some x15 else some false
                            else some false)
                            fun x16 => some x16
noncomputable def c4 : Con D := ⟨4, [.lf (.sl 0)], [.lf .bool], [.one (.h 0 [0])], [], [.one (.h 0 [])], [], fun h => dynposlaw32_NetworkArrives h⟩
theorem c4_ok : ConOk Try.prog T c4 := fn_ok (Φ := [c9, c10, c11, c12, c13, c14, c16, c17, c18, c19]) (rs := [.tmp 2]) (an := (.n none .o (.n none .o (.n none .o (.n none .o (.n none .o (.n none .o (.n none .o (.n none .o (.n none (.n none .o (.n none (.loop ⟨[.lf (.int .i64), .lf (.int .i64), .lf (.sl 6), .lf (.sl 0), .lf (.int .i64)], [(8, .one (.own 3920)), (9, .one (.h 0 [])), (10, .one (.h 1 []))], [(3920, .sl 6 41 2 []), (2328, .box [.h 3 [0], .h 4 []])], [2328], 3984⟩ true [(.exit 0, ⟨[.lf (.sl 6), .lf (.sl 0), .lf (.int .i64)], [(8, .one (.own 3920))], [(3920, .sl 6 41 0 []), (2328, .box [.h 1 [0], .h 2 []])], [2328], 3984⟩)] .o) .o)) (.n none .o (.n none (.n none .o (.n none (.n none (.r (some (true, [(.normal, ⟨[.lf .bool], [(2, .one (.h 0 []))], [], [], 5267⟩)])) .nil) .o) .o)) (.n none (.r (some (true, [(.normal, ⟨[.lf .bool], [(2, .one (.h 0 []))], [], [], 5267⟩)])) .nil) .o))))))))))))) pOk repOk (AllC.mem (⟨c9_ok, c10_ok, c11_ok, c12_ok, c13_ok, c14_ok, c16_ok, c17_ok, c18_ok, c19_ok, trivial⟩ : AllC _ _ [c9, c10, c11, c12, c13, c14, c16, c17, c18, c19])) hmix Try.call4 Try.func4 rfl rfl (by kernel_rfl) (fun h => by kernel_rfl)

noncomputable def dynposlaw32_NetworkBreaks_L2 (x2 : Int ×
  List Int ×
    Int ×
      List
        Cable) (x3 : List Int ×
  Int ×
    List Cable ×
      List
        Part) (x5 : List Int ×
  Int ×
    List Cable ×
      List
        Part) (x6 : List
  Part) (x7 : Int) : Int →
  Option
    (Int ⊕
      Unit ⊕
        Int ⊕
          Unit ⊕
            Bool) := fun x8 =>
  if decide (x8 < x2.1) = true then
    Option.bind (network_Copies (Net.mk x2.1 x5.2.2.1) x6 x7 x8) fun x9 =>
      Option.bind (network_Copies (Net.mk x2.1 x5.2.2.1) x3.2.2.2 x7 x8) fun x10 =>
        if decide (x9 > x10) = true then some (.inr (.inr (.inr (.inr false))))
        else some (.inl (W (x8 + 1)))
  else some (.inr (.inl ()))
noncomputable def dynposlaw32_NetworkBreaks_L1 (x2 : Int ×
  List Int ×
    Int ×
      List
        Cable) (x3 : List Int ×
  Int ×
    List Cable ×
      List
        Part) (x5 : List Int ×
  Int ×
    List Cable ×
      List
        Part) (x6 : List
  Part) : Int →
  Option
    (Int ⊕
      Unit ⊕
        Bool) := fun x7 =>
  if decide (x7 < x2.1) = true then
    Option.bind (loopO (dynposlaw32_NetworkBreaks_L2 x2 x3 x5 x6 x7) 0) fun x11 =>
      Sum.elim (fun x12 => some (.inl (W (x7 + 1)))) (fun x13 => some x13) x11
  else some (.inr (.inl ()))
noncomputable def dynposlaw32_NetworkBreaks_L3 (x2 : Int ×
  List Int ×
    Int ×
      List
        Cable) (x5 : List Int ×
  Int ×
    List Cable ×
      List
        Part) : Int →
  Option
    (Int ⊕
      Unit ⊕
        Bool) := fun x16 =>
  if decide (x16 < len x5.2.2.1) = true then
    Option.bind (idx x5.2.2.1 x16) fun x17 =>
      Option.bind (network_Reach (Net.mk x2.1 x5.2.2.1) [] x17.Net x17.A x17.B) fun x18 =>
        if (!x18) = true then some (.inr (.inr false)) else some (.inl (W (x16 + 1)))
  else some (.inr (.inl ()))
noncomputable def dynposlaw32_NetworkBreaks (a0 : (List Int)) : Option (Bool) :=
  if decide (len a0 > 600) = true then Option.bind dynposlaw32_sane fun x24 => some x24
  else
    Option.bind (dynposmake_New a0) fun x1 =>
      Option.bind (Src_Net (Src.mk x1.1 x1.2)) fun x2 =>
        Option.bind (Src_Cables (Src.mk x2.2.1 x2.2.2.1) (Net.mk x2.1 x2.2.2.2)) fun x3 =>
          Option.bind (app [] x3.2.2.2) fun x4 =>
            Option.bind (Src_Cables (Src.mk x3.1 x3.2.1) (Net.mk x2.1 x3.2.2.1)) fun x5 =>
              Option.bind (app x4 x5.2.2.2) fun x6 =>
                Option.bind (loopO (dynposlaw32_NetworkBreaks_L1 x2 x3 x5 x6) 0) fun x14 =>
                  Sum.elim
                    (fun x15 =>
                      Option.bind (loopO (dynposlaw32_NetworkBreaks_L3 x2 x5) 0) fun x19 =>
                        Sum.elim (fun x20 => Option.bind dynposlaw32_sane fun x21 => some x21) (fun x22 => some x22)
                          x19)
                    (fun x23 => some x23) x14
noncomputable def c5 : Con D := ⟨5, [.lf (.sl 0)], [.lf .bool], [.one (.h 0 [0])], [], [.one (.h 0 [])], [], fun h => dynposlaw32_NetworkBreaks h⟩
theorem c5_ok : ConOk Try.prog T c5 := fn_ok (Φ := [c9, c10, c11, c14, c18, c20]) (rs := [.tmp 2]) (an := (.n none .o (.n none .o (.n none .o (.n none .o (.n none .o (.n none .o (.n none (.n none .o (.n none (.loop ⟨[.lf (.int .i64)], [(7, .one (.h 0 []))], [], [], 3536⟩ false [(.exit 0, ⟨[], [], [], [], 3536⟩)] (.n none .o (.n none (.n none (.n none .o (.n none (.loop ⟨[.lf (.int .i64)], [(8, .one (.h 0 []))], [], [], 3921⟩ false [(.exit 2, ⟨[], [], [], [], 3921⟩)] .o) .o)) .o) .o))) .o)) (.n none (.n none .o (.n none (.loop ⟨[.lf (.int .i64)], [(54, .one (.h 0 []))], [], [], 3856⟩ false [(.exit 4, ⟨[], [], [], [], 3856⟩)] .o) .o)) .o))))))))) pOk repOk (AllC.mem (⟨c9_ok, c10_ok, c11_ok, c14_ok, c18_ok, c20_ok, trivial⟩ : AllC _ _ [c9, c10, c11, c14, c18, c20])) hmix Try.call5 Try.func5 rfl rfl (by kernel_rfl) (fun h => by kernel_rfl)

noncomputable def network_Cut_1 (a0 : Cable) (a1 : (List Int)) : Option (Bool) :=
  Option.bind (slices_Contains_int_int a1 a0.A) fun x1 =>
    Option.bind (slices_Contains_int_int a1 a0.B) fun x2 => some !x1 == x2
noncomputable def c59 : Con D := ⟨59, [.lf (.int .i64), .lf (.int .i64), .lf (.int .i64), .el 9], [.lf .bool], [.agg [.h 0 [], .h 1 [], .h 2 []], .one (.rp 3 9 [0])], [], [.one (.h 0 [])], [], fun h => network_Cut_1 ⟨h.1, h.2.1, h.2.2.1⟩ h.2.2.2⟩
theorem c59_ok : ConOk Try.prog T c59 := fn_ok (Φ := [c46]) (rs := [.tmp 3]) (an := .o) pOk repOk (AllC.mem (⟨c46_ok, trivial⟩ : AllC _ _ [c46])) hmix Try.call59 Try.func59 rfl rfl (by kernel_rfl) (fun h => by kernel_rfl)

noncomputable def slices_IndexFunc_Cable_Cable_L1 (a0 : List
  Cable) (a1 : List
  Int) : Int →
  Option
    (Int ⊕
      Unit ⊕
        Int) := fun x1 =>
  if decide (x1 < len a0) = true then
    Option.bind (idx a0 x1) fun x2 =>
      Option.bind (network_Cut_1 x2 a1) fun x3 =>
        if x3 = true then some (.inr (.inr x1)) else some (.inl (W (x1 + 1)))
  else some (.inr (.inl ()))
noncomputable def slices_IndexFunc_Cable_Cable (a0 : (List Cable)) (a1 : (List Int)) : Option (Int) :=
  Option.bind (loopO (slices_IndexFunc_Cable_Cable_L1 a0 a1) 0) fun x4 =>
    Sum.elim (fun x5 => some (-1)) (fun x6 => some x6) x4
noncomputable def c74 : Con D := ⟨74, [.lf (.sl 3), .el 9], [.lf (.int .i64)], [.one (.h 0 [0]), .one (.fn 59 [.rp 1 9 [0]])], [], [.one (.h 0 [])], [], fun h => slices_IndexFunc_Cable_Cable h.1 h.2⟩
theorem c74_ok : ConOk Try.prog T c74 := fn_ok (Φ := [c59]) (rs := [.tmp 4]) (an := (.n none .o (.n none (.n none .o (.n none (.loop ⟨[.lf (.int .i64)], [(8, .one (.h 0 []))], [], [], 2320⟩ false [(.exit 0, ⟨[], [], [], [], 2320⟩)] .o) .o)) .o))) pOk repOk (AllC.mem (⟨c59_ok, trivial⟩ : AllC _ _ [c59])) hmix Try.call74 Try.func74 rfl rfl (by kernel_rfl) (fun h => by kernel_rfl)

noncomputable def slices_ContainsFunc_Cable_Cable (a0 : (List Cable)) (a1 : (List Int)) : Option (Bool) := Option.bind (slices_IndexFunc_Cable_Cable a0 a1) fun x1 => some (decide (x1 ≥ 0))
noncomputable def c58 : Con D := ⟨58, [.lf (.sl 3), .el 9], [.lf .bool], [.one (.h 0 [0]), .one (.fn 59 [.rp 1 9 [0]])], [], [.one (.h 0 [])], [], fun h => slices_ContainsFunc_Cable_Cable h.1 h.2⟩
theorem c58_ok : ConOk Try.prog T c58 := fn_ok (Φ := [c74]) (rs := [.tmp 4]) (an := .o) pOk repOk (AllC.mem (⟨c74_ok, trivial⟩ : AllC _ _ [c74])) hmix Try.call58 Try.func58 rfl rfl (by kernel_rfl) (fun h => by kernel_rfl)

noncomputable def network_Cut (a0 : Net) (a1 : (List Part)) (a2 : Int) (a3 : (List Int)) : Option (Bool) :=
  Option.bind
    (Option.bind (network_right a0 a2 a3) fun x1 =>
      if (!x1) = true then some true
      else
        Option.bind (network_ascending a3) fun x2 =>
          if (!x2) = true then some true
          else if (len a3 == 0) = true then some true else some (len a3 == a0.Nodes))
    fun x3 =>
    if x3 = true then some false
    else
      Option.bind (network_whole a0 a1 a2) fun x4 =>
        Option.bind (slices_ContainsFunc_Cable_Cable x4 a3) fun x5 => some !x5
noncomputable def c33 : Con D := ⟨33, [.lf (.int .i64), .lf (.sl 3), .lf (.sl 7), .lf (.int .i64), .lf (.sl 0)], [.lf .bool], [.agg [.h 0 [], .h 1 [0]], .one (.h 2 [0]), .one (.h 3 []), .one (.h 4 [0])], [], [.one (.h 0 [])], [], fun h => network_Cut ⟨h.1, h.2.1⟩ h.2.2.1 h.2.2.2.1 h.2.2.2.2⟩
theorem c33_ok : ConOk Try.prog T c33 := fn_ok (Φ := [c39, c45, c51, c58]) (rs := [.tmp 8]) (an := (.n none .o (.n none (.n none (.r (some (true, [(.normal, ⟨[.lf .bool], [(30, .one (.h 0 []))], [], [], 2256⟩)])) .nil) .o) .o))) pOk repOk (AllC.mem (⟨c39_ok, c45_ok, c51_ok, c58_ok, trivial⟩ : AllC _ _ [c39, c45, c51, c58])) hmix Try.call33 Try.func33 rfl rfl (by kernel_rfl) (fun h => by kernel_rfl)

noncomputable def dynposlaw32_NetworkReaches_L3 (x2 : Int ×
  List Int ×
    Int ×
      List
        Cable) (x3 : List Int ×
  Int ×
    List Cable ×
      List
        Part) (x4 : Int ×
  List Int ×
    Int) (x5 : Int) (x6 : Int ×
  List
    Int) (x7 : Bool) : Int →
  Option
    (Int ⊕
      Unit ⊕
        Int × List Int ⊕
          List Int ⊕
            Int ⊕
              Unit ⊕
                Bool) := fun x11 =>
  if decide (x11 < x2.1) = true then
    Option.bind
      (if x7 = true then
        Option.bind (network_Reach (Net.mk x2.1 x3.2.2.1) x3.2.2.2 x4.1 x6.1 x11) fun x12 =>
          if x12 = true then
            Option.bind (network_Reach (Net.mk x2.1 x3.2.2.1) x3.2.2.2 x4.1 x5 x11) fun x13 => some !x13
          else some false
      else some false)
      fun x14 =>
      if x14 = true then some (.inr (.inr (.inr (.inr (.inr (.inr false))))))
      else some (.inl (W (x11 + 1)))
  else some (.inr (.inl ()))
noncomputable def dynposlaw32_NetworkReaches_L2 (x2 : Int ×
  List Int ×
    Int ×
      List
        Cable) (x3 : List Int ×
  Int ×
    List Cable ×
      List
        Part) (x4 : Int ×
  List Int ×
    Int) (x5 : Int) : Int × List Int →
  Option
    (Int × List Int ⊕
      List Int ⊕
        Int ⊕
          Unit ⊕
            Bool) := fun x6 =>
  if decide (x6.1 < x2.1) = true then
    Option.bind (network_Reach (Net.mk x2.1 x3.2.2.1) x3.2.2.2 x4.1 x5 x6.1) fun x7 =>
      Option.bind (network_Reach (Net.mk x2.1 x3.2.2.1) x3.2.2.2 x4.1 x6.1 x5) fun x8 =>
        if (!x7 == x8) = true then some (.inr (.inr (.inr (.inr false))))
        else
          Option.bind (if x7 = true then Option.bind (app x6.2 [x6.1]) fun x9 => some x9 else some x6.2)
            fun x10 =>
            Option.bind (loopO (dynposlaw32_NetworkReaches_L3 x2 x3 x4 x5 x6 x7) 0) fun x15 =>
              Sum.elim (fun x16 => some (.inl (W (x6.1 + 1), x10))) (fun x17 => some x17) x15
  else some (.inr (.inl x6.2))
noncomputable def dynposlaw32_NetworkReaches_L1 (x2 : Int ×
  List Int ×
    Int ×
      List
        Cable) (x3 : List Int ×
  Int ×
    List Cable ×
      List
        Part) (x4 : Int ×
  List Int ×
    Int) : Int →
  Option
    (Int ⊕
      Unit ⊕
        Bool) := fun x5 =>
  if decide (x5 < x2.1) = true then
    Option.bind (loopO (dynposlaw32_NetworkReaches_L2 x2 x3 x4 x5) (0, [])) fun x18 =>
      Sum.elim
        (fun x19 =>
          Option.bind (network_Cut (Net.mk x2.1 x3.2.2.1) x3.2.2.2 x4.1 x19) fun x20 =>
            if (!x20 == decide (len x19 < x2.1)) = true then some (.inr (.inr false))
            else some (.inl (W (x5 + 1))))
        (fun x21 => some x21) x18
  else some (.inr (.inl ()))
noncomputable def dynposlaw32_NetworkReaches (a0 : (List Int)) : Option (Bool) :=
  if decide (len a0 > 600) = true then Option.bind dynposlaw32_sane fun x26 => some x26
  else
    Option.bind (dynposmake_New a0) fun x1 =>
      Option.bind (Src_Net (Src.mk x1.1 x1.2)) fun x2 =>
        Option.bind (Src_Cables (Src.mk x2.2.1 x2.2.2.1) (Net.mk x2.1 x2.2.2.2)) fun x3 =>
          Option.bind (Src_N (Src.mk x3.1 x3.2.1) 2) fun x4 =>
            Option.bind (loopO (dynposlaw32_NetworkReaches_L1 x2 x3 x4) 0) fun x22 =>
              Sum.elim (fun x23 => Option.bind dynposlaw32_sane fun x24 => some x24) (fun x25 => some x25) x22
noncomputable def c8 : Con D := ⟨8, [.lf (.sl 0)], [.lf .bool], [.one (.h 0 [0])], [], [.one (.h 0 [])], [], fun h => dynposlaw32_NetworkReaches h⟩
theorem c8_ok : ConOk Try.prog T c8 := fn_ok (Φ := [c9, c10, c11, c14, c16, c20, c33]) (rs := [.tmp 2]) (an := (.n none .o (.n none .o (.n none .o (.n none .o (.n none .o (.n none .o (.n none (.n none .o (.n none (.loop ⟨[.lf (.int .i64)], [(7, .one (.h 0 []))], [], [], 3280⟩ false [(.exit 0, ⟨[], [], [], [], 3280⟩)] (.n none .o (.n none (.n none (.n none .o (.n none (.n none .o (.n none (.loop ⟨[.lf (.int .i64), .lf (.sl 0)], [(8, .one (.own 3665)), (9, .one (.h 0 []))], [(3665, .sl 0 3 1 [])], [], 3729⟩ false [(.exit 2, ⟨[.lf (.sl 0)], [(8, .one (.own 3665))], [(3665, .sl 0 3 0 [])], [], 3729⟩)] (.n none .o (.n none (.n none (.n none .o (.n none .o (.n none (.n none .o (.n (some (true, [(.normal, ⟨[.lf (.sl 0)], [(8, .one (.own 5011))], [(5011, .sl 0 3 0 [])], [3665], 5075⟩)])) .o .o)) (.n none .o (.n none (.loop ⟨[.lf (.int .i64)], [(11, .one (.h 0 []))], [], [], 5204⟩ false [(.exit 4, ⟨[], [], [], [], 5204⟩)] (.n none .o (.n none (.n none (.n none (.r (some (true, [(.normal, ⟨[.lf .bool], [(64, .one (.any)), (65, .one (.any)), (66, .one (.any)), (67, .one (.any)), (68, .one (.any)), (69, .one (.any)), (72, .one (.any)), (73, .one (.any)), (74, .one (.any)), (75, .one (.any)), (76, .one (.any)), (77, .one (.any)), (78, .one (.any)), (79, .one (.h 0 []))], [], [], 5525⟩)])) .nil) .o) .o) .o))) .o))))) .o) .o))) .o)) .o)) .o) .o))) .o)) .o)))))))) pOk repOk (AllC.mem (⟨c9_ok, c10_ok, c11_ok, c14_ok, c16_ok, c20_ok, c33_ok, trivial⟩ : AllC _ _ [c9, c10, c11, c14, c16, c20, c33])) hmix Try.call8 Try.func8 rfl rfl (by kernel_rfl) (fun h => by kernel_rfl)

end Rx
end Go.Proofs.Ythgnnjdjdmdfoaa
