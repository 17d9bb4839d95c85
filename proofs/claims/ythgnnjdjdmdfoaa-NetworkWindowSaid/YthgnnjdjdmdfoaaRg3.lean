/- Plain functions, walks. Written by a program (wip/gen). -/
import Derived.Test.YthgnnjdjdmdfoaaRt
import Derived.Test.YthgnnjdjdmdfoaaRg1
import Derived.Test.YthgnnjdjdmdfoaaRg2
set_option linter.unusedVariables false
set_option maxRecDepth 100000
namespace Go.Proofs.Ythgnnjdjdmdfoaa
open Go Go.RowKit Dp
namespace Rx

noncomputable def dynposref32_Deliver_L1 (a0 : Net) (a2 : List
  Port) (a3 : List
  Message) : Int →
  Option
    (Int ⊕
      Unit ⊕
        Int ×
          List Cable ×
            List Port ×
              List Message ×
                List Port ×
                  List
                    Message) := fun x2 =>
  if decide (x2 < len a3) = true then
    Option.bind (idx a3 x2) fun x3 =>
      Option.bind
        (Option.bind (dynposref32_in x3.From 0 (W (a0.Nodes - 1))) fun x4 =>
          if (!x4) = true then some true
          else Option.bind (dynposref32_in x3.To 0 (W (a0.Nodes - 1))) fun x5 => some !x5)
        fun x6 =>
        if x6 = true then some (.inr (.inr (1, a0.Cables, a2, a3, [], [])))
        else some (.inl (W (x2 + 1)))
  else some (.inr (.inl ()))
noncomputable def dynposref32_Deliver_L2 (a0 : Net) (a2 : List
  Port) (a3 : List
  Message) : Int →
  Option
    (Int ⊕
      Unit ⊕
        Int ×
          List Cable ×
            List Port ×
              List Message ×
                List Port ×
                  List
                    Message) := fun x9 =>
  if decide (x9 < len a2) = true then
    Option.bind (idx a2 x9) fun x10 =>
      Option.bind (dynposref32_Port x10) fun x11 =>
        if (!x11) = true then some (.inr (.inr (1, a0.Cables, a2, a3, [], [])))
        else some (.inl (W (x9 + 1)))
  else some (.inr (.inl ()))
noncomputable def dynposref32_Deliver_L4 (a0 : Net) (x16 : Message) (x17 : Int) : Int × List Message × List Port →
  Option
    (Int × List Message × List Port ⊕
      List Message ×
        List
          Port) := fun x18 =>
  if decide (x18.1 < x17) = true then
    Option.bind (idx x18.2.2 (W (W (x16.To * a0.Nodes) + x16.From))) fun x19 =>
      Option.bind (dynposref32_Accept x19 x16.Number) fun x20 =>
        Option.bind
          (if x20.2.2 = true then
            Option.bind (idx x18.2.2 (W (W (x16.To * a0.Nodes) + x16.From))) fun x21 =>
              Option.bind (idx x18.2.2 (W (W (x16.To * a0.Nodes) + x16.From))) fun x22 =>
                Option.bind (setO x18.2.2 (W (W (x16.To * a0.Nodes) + x16.From)) (Port.mk x20.1 x20.2.1))
                  fun x23 => Option.bind (app x18.2.1 [x16]) fun x24 => some (x24, x23)
          else some (x18.2.1, x18.2.2))
          fun x25 => some (.inl (W (x18.1 + 1), x25.1, x25.2))
  else some (.inr (x18.2.1, x18.2.2))
noncomputable def dynposref32_Deliver_L3 (a0 : Net) (a1 : List
  Part) (a3 : List
  Message) : Int × List Message × List Port →
  Option
    (Int × List Message × List Port ⊕
      List Message ×
        List
          Port) := fun x15 =>
  if decide (x15.1 < len a3) = true then
    Option.bind (idx a3 x15.1) fun x16 =>
      Option.bind (dynposref32_Copies a0 a1 x16.From x16.To) fun x17 =>
        Option.bind (loopO (dynposref32_Deliver_L4 a0 x16 x17) (0, x15.2.1, x15.2.2)) fun x26 =>
          some (.inl (W (x15.1 + 1), x26.1, x26.2))
  else some (.inr (x15.2.1, x15.2.2))
noncomputable def dynposref32_Deliver (a0 : Net) (a1 : (List Part)) (a2 : (List Port)) (a3 : (List Message)) : Option (Int × (List Cable) × (List Port) × (List Message) × (List Port) × (List Message)) :=
  Option.bind (dynposref32_Check a0) fun x1 =>
    if (x1 != 0) = true then some (x1, a0.Cables, a2, a3, [], [])
    else
      if (len a2 != W (a0.Nodes * a0.Nodes)) = true then some (8, a0.Cables, a2, a3, [], [])
      else
        Option.bind (loopO (dynposref32_Deliver_L1 a0 a2 a3) 0) fun x7 =>
          Sum.elim
            (fun x8 =>
              Option.bind (loopO (dynposref32_Deliver_L2 a0 a2 a3) 0) fun x12 =>
                Sum.elim
                  (fun x13 =>
                    if decide (len a3 > 60) = true then some (2, a0.Cables, a2, a3, [], [])
                    else
                      Option.bind (app [] a2) fun x14 =>
                        Option.bind (loopO (dynposref32_Deliver_L3 a0 a1 a3) (0, [], x14)) fun x27 =>
                          some (0, a0.Cables, a2, a3, x27.2, x27.1))
                  (fun x28 => some x28) x12)
            (fun x29 => some x29) x7
noncomputable def c35 : Con D := ⟨35, [.lf (.int .i64), .lf (.sl 3), .lf (.sl 7), .lf (.sl 5), .lf (.sl 6)], [.lf (.int .i64), .lf (.sl 3), .lf (.sl 5), .lf (.sl 6), .lf (.sl 5), .lf (.sl 6)], [.agg [.h 0 [], .own 1000], .one (.h 2 [0]), .one (.own 1001), .one (.own 1002)], [(1000, .sl 3 49 1 [0]), (1001, .sl 5 52 3 [0]), (1002, .sl 6 41 4 [0])], [.one (.own 1003), .one (.own 1004), .one (.h 0 [])], [(1000, .sl 3 49 1 [0]), (1001, .sl 5 52 2 [0]), (1002, .sl 6 41 3 [0]), (1003, .sl 5 52 4 [0, 1]), (1004, .sl 6 41 5 [])], fun h => dynposref32_Deliver ⟨h.1, h.2.1⟩ h.2.2.1 h.2.2.2.1 h.2.2.2.2⟩
theorem c35_ok : ConOk Try.prog T c35 := fn_ok (Φ := [c27, c31, c36, c37, c55]) (rs := [.tmp 8, .tmp 9, .tmp 10]) (an := (.n none .o (.n none .o (.n none .o (.n none (.n none .o (.n none (.loop ⟨[.lf (.int .i64)], [(38, .one (.h 0 []))], [], [], 3344⟩ false [(.exit 0, ⟨[], [], [], [], 3344⟩)] (.n none .o (.n none .o (.n none (.n none (.n none .o (.n none (.r (some (true, [(.normal, ⟨[.lf .bool], [(50, .one (.any)), (51, .one (.any)), (52, .one (.any)), (53, .one (.any)), (54, .one (.any)), (55, .one (.any)), (56, .one (.any)), (57, .one (.h 0 []))], [], [], 3729⟩)])) .nil) .o)) .o) .o)))) .o)) (.n none (.n none .o (.n none (.loop ⟨[.lf (.int .i64)], [(61, .one (.h 0 []))], [], [], 3600⟩ false [(.exit 2, ⟨[], [], [], [], 3600⟩)] .o) .o)) (.n none .o (.n none .o (.n none .o (.n none (.n none .o (.n none (.loop ⟨[.lf (.int .i64), .lf (.sl 6), .lf (.sl 5)], [(17, .one (.own 4240)), (76, .one (.h 0 []))], [(4240, .sl 6 41 1 []), (3856, .sl 5 52 2 [0, 1])], [3856], 4304⟩ true [(.exit 4, ⟨[.lf (.sl 6), .lf (.sl 5)], [(17, .one (.own 4240))], [(4240, .sl 6 41 0 []), (3856, .sl 5 52 1 [0, 1])], [3856], 4304⟩)] (.n none .o (.n none .o (.n none (.n none (.n none .o (.n none .o (.n none .o (.n none (.loop ⟨[.lf (.int .i64), .lf (.sl 6), .lf (.sl 5)], [(17, .one (.own 5715)), (95, .one (.h 0 []))], [(5715, .sl 6 41 1 []), (3856, .sl 5 52 2 [0, 1])], [3856, 4240], 5779⟩ true [(.exit 6, ⟨[.lf (.sl 6), .lf (.sl 5)], [(17, .one (.own 5715))], [(5715, .sl 6 41 0 []), (3856, .sl 5 52 1 [0, 1])], [3856, 4240], 5779⟩)] (.n none .o (.n none .o (.n none (.n none (.n none .o (.n none .o (.n (some (true, [(.normal, ⟨[.lf (.sl 6), .lf (.sl 5)], [(17, .one (.own 6742))], [(6742, .sl 6 41 0 []), (3856, .sl 5 52 1 [0, 1])], [3856, 5715], 6806⟩)])) .o .o))) .o) .o)))) .o)))) .o) .o)))) .o)) .o)))))))))) pOk repOk (AllC.mem (⟨c27_ok, c31_ok, c36_ok, c37_ok, c55_ok, trivial⟩ : AllC _ _ [c27, c31, c36, c37, c55])) hmix Try.call35 Try.func35 rfl rfl (by kernel_rfl) (fun h => by kernel_rfl)

noncomputable def Src_Ports (a0 : Src) (a1 : Net) : Option ((List Int) × Int × (List Cable) × (List Port)) :=
  Option.bind (dynposref32_Ports a1) fun x1 =>
    Option.bind (Src_Messages a0 a1 6) fun x2 =>
      Option.bind (dynposref32_Deliver (Net.mk a1.Nodes x2.2.2.1) [] x1 x2.2.2.2) fun x3 =>
        some (x2.1, x2.2.1, x3.2.1, x3.2.2.2.2.1)
noncomputable def c25 : Con D := ⟨25, [.lf (.sl 0), .lf (.int .i64), .lf (.int .i64), .lf (.sl 3)], [.lf (.sl 0), .lf (.int .i64), .lf (.sl 3), .lf (.sl 5)], [.one (.ptr 1000 0), .agg [.h 2 [], .own 1001]], [(1000, .box [.h 0 [0], .h 1 []]), (1001, .sl 3 49 3 [0])], [.one (.own 1002)], [(1000, .box [.h 0 [0], .h 1 []]), (1001, .sl 3 49 2 [0]), (1002, .sl 5 52 3 [0, 1])], fun h => Src_Ports ⟨h.1, h.2.1⟩ ⟨h.2.2.1, h.2.2.2⟩⟩
theorem c25_ok : ConOk Try.prog T c25 := fn_ok (Φ := [c15, c29, c35]) (rs := [.tmp 4]) (an := .o) pOk repOk (AllC.mem (⟨c15_ok, c29_ok, c35_ok, trivial⟩ : AllC _ _ [c15, c29, c35])) hmix Try.call25 Try.func25 rfl rfl (by kernel_rfl) (fun h => by kernel_rfl)

noncomputable def dynposref32_All_L1 (a0 : List
  Port) (a1 : List
  Port) : Int →
  Option
    (Int ⊕
      Unit ⊕
        Bool) := fun x1 =>
  if decide (x1 < len a0) = true then
    Option.bind (idx a0 x1) fun x2 =>
      Option.bind (idx a1 x1) fun x3 =>
        Option.bind (dynposref32_Same x2 x3) fun x4 =>
          if (!x4) = true then some (.inr (.inr false)) else some (.inl (W (x1 + 1)))
  else some (.inr (.inl ()))
noncomputable def dynposref32_All (a0 : (List Port)) (a1 : (List Port)) : Option (Bool) :=
  if (len a0 != len a1) = true then some false
  else
    Option.bind (loopO (dynposref32_All_L1 a0 a1) 0) fun x5 =>
      Sum.elim (fun x6 => some true) (fun x7 => some x7) x5
noncomputable def c28 : Con D := ⟨28, [.lf (.sl 5), .lf (.sl 5)], [.lf .bool], [.one (.h 0 [0]), .one (.h 1 [0])], [], [.one (.h 0 [])], [], fun h => dynposref32_All h.1 h.2⟩
theorem c28_ok : ConOk Try.prog T c28 := fn_ok (Φ := [c23]) (rs := [.tmp 4]) (an := (.n none .o (.n none .o (.n none (.n none .o (.n none (.loop ⟨[.lf (.int .i64)], [(13, .one (.h 0 []))], [], [], 2640⟩ false [(.exit 0, ⟨[], [], [], [], 2640⟩)] .o) .o)) .o)))) pOk repOk (AllC.mem (⟨c23_ok, trivial⟩ : AllC _ _ [c23])) hmix Try.call28 Try.func28 rfl rfl (by kernel_rfl) (fun h => by kernel_rfl)

noncomputable def network_Cut_1 (a0 : Cable) (a1 : (List Int)) : Option (Bool) :=
  Option.bind (slices_Contains_int_int a1 a0.A) fun x1 =>
    Option.bind (slices_Contains_int_int a1 a0.B) fun x2 => some !x1 == x2
noncomputable def c59 : Con D := ⟨59, [.lf (.int .i64), .lf (.int .i64), .lf (.int .i64), .el 13], [.lf .bool], [.agg [.h 0 [], .h 1 [], .h 2 []], .one (.rp 3 13 [0])], [], [.one (.h 0 [])], [], fun h => network_Cut_1 ⟨h.1, h.2.1, h.2.2.1⟩ h.2.2.2⟩
theorem c59_ok : ConOk Try.prog T c59 := fn_ok (Φ := [c46]) (rs := [.tmp 3]) (an := .o) pOk repOk (AllC.mem (⟨c46_ok, trivial⟩ : AllC _ _ [c46])) hmix Try.call59 Try.func59 rfl rfl (by kernel_rfl) (fun h => by kernel_rfl)

noncomputable def slices_IndexFunc_Cable_Cable_L1 (a0 : List
  Cable) (a1 : List
  Int) : Int →
  Option
    (Int ⊕
      Unit ⊕
        Int) := fun x1 =>
  if decide (x1 < len a0) = true then
    Option.bind (idx a0 x1) fun x2 =>
      Option.bind (network_Cut_1 x2 a1) fun x3 =>
        if x3 = true then some (.inr (.inr x1)) else some (.inl (W (x1 + 1)))
  else some (.inr (.inl ()))
noncomputable def slices_IndexFunc_Cable_Cable (a0 : (List Cable)) (a1 : (List Int)) : Option (Int) :=
  Option.bind (loopO (slices_IndexFunc_Cable_Cable_L1 a0 a1) 0) fun x4 =>
    Sum.elim (fun x5 => some (-1)) (fun x6 => some x6) x4
noncomputable def c74 : Con D := ⟨74, [.lf (.sl 3), .el 13], [.lf (.int .i64)], [.one (.h 0 [0]), .one (.fn 59 [.rp 1 13 [0]])], [], [.one (.h 0 [])], [], fun h => slices_IndexFunc_Cable_Cable h.1 h.2⟩
theorem c74_ok : ConOk Try.prog T c74 := fn_ok (Φ := [c59]) (rs := [.tmp 4]) (an := (.n none .o (.n none (.n none .o (.n none (.loop ⟨[.lf (.int .i64)], [(8, .one (.h 0 []))], [], [], 2320⟩ false [(.exit 0, ⟨[], [], [], [], 2320⟩)] .o) .o)) .o))) pOk repOk (AllC.mem (⟨c59_ok, trivial⟩ : AllC _ _ [c59])) hmix Try.call74 Try.func74 rfl rfl (by kernel_rfl) (fun h => by kernel_rfl)

noncomputable def slices_ContainsFunc_Cable_Cable (a0 : (List Cable)) (a1 : (List Int)) : Option (Bool) := Option.bind (slices_IndexFunc_Cable_Cable a0 a1) fun x1 => some (decide (x1 ≥ 0))
noncomputable def c58 : Con D := ⟨58, [.lf (.sl 3), .el 13], [.lf .bool], [.one (.h 0 [0]), .one (.fn 59 [.rp 1 13 [0]])], [], [.one (.h 0 [])], [], fun h => slices_ContainsFunc_Cable_Cable h.1 h.2⟩
theorem c58_ok : ConOk Try.prog T c58 := fn_ok (Φ := [c74]) (rs := [.tmp 4]) (an := .o) pOk repOk (AllC.mem (⟨c74_ok, trivial⟩ : AllC _ _ [c74])) hmix Try.call58 Try.func58 rfl rfl (by kernel_rfl) (fun h => by kernel_rfl)

noncomputable def network_Cut (a0 : Net) (a1 : (List Part)) (a2 : Int) (a3 : (List Int)) : Option (Bool) :=
  Option.bind
    (Option.bind (network_right a0 a2 a3) fun x1 =>
      if (!x1) = true then some true
      else
        Option.bind (network_ascending a3) fun x2 =>
          if (!x2) = true then some true
          else if (len a3 == 0) = true then some true else some (len a3 == a0.Nodes))
    fun x3 =>
    if x3 = true then some false
    else
      Option.bind (network_whole a0 a1 a2) fun x4 =>
        Option.bind (slices_ContainsFunc_Cable_Cable x4 a3) fun x5 => some !x5
noncomputable def c33 : Con D := ⟨33, [.lf (.int .i64), .lf (.sl 3), .lf (.sl 7), .lf (.int .i64), .lf (.sl 0)], [.lf .bool], [.agg [.h 0 [], .h 1 [0]], .one (.h 2 [0]), .one (.h 3 []), .one (.h 4 [0])], [], [.one (.h 0 [])], [], fun h => network_Cut ⟨h.1, h.2.1⟩ h.2.2.1 h.2.2.2.1 h.2.2.2.2⟩
theorem c33_ok : ConOk Try.prog T c33 := fn_ok (Φ := [c39, c45, c51, c58]) (rs := [.tmp 8]) (an := (.n none .o (.n none (.n none (.r (some (true, [(.normal, ⟨[.lf .bool], [(30, .one (.h 0 []))], [], [], 2256⟩)])) .nil) .o) .o))) pOk repOk (AllC.mem (⟨c39_ok, c45_ok, c51_ok, c58_ok, trivial⟩ : AllC _ _ [c39, c45, c51, c58])) hmix Try.call33 Try.func33 rfl rfl (by kernel_rfl) (fun h => by kernel_rfl)

noncomputable def dynposlaw32_NetworkReaches_L3 (x2 : Int ×
  List Int ×
    Int ×
      List
        Cable) (x3 : List Int ×
  Int ×
    List Cable ×
      List
        Part) (x4 : Int ×
  List Int ×
    Int) (x5 : Int) (x6 : Int ×
  List
    Int) (x7 : Bool) : Int →
  Option
    (Int ⊕
      Unit ⊕
        Int × List Int ⊕
          List Int ⊕
            Int ⊕
              Unit ⊕
                Bool) := fun x11 =>
  if decide (x11 < x2.1) = true then
    Option.bind
      (if x7 = true then
        Option.bind (network_Reach (Net.mk x2.1 x3.2.2.1) x3.2.2.2 x4.1 x6.1 x11) fun x12 =>
          if x12 = true then
            Option.bind (network_Reach (Net.mk x2.1 x3.2.2.1) x3.2.2.2 x4.1 x5 x11) fun x13 => some !x13
          else some false
      else some false)
      fun x14 =>
      if x14 = true then some (.inr (.inr (.inr (.inr (.inr (.inr false))))))
      else some (.inl (W (x11 + 1)))
  else some (.inr (.inl ()))
noncomputable def dynposlaw32_NetworkReaches_L2 (x2 : Int ×
  List Int ×
    Int ×
      List
        Cable) (x3 : List Int ×
  Int ×
    List Cable ×
      List
        Part) (x4 : Int ×
  List Int ×
    Int) (x5 : Int) : Int × List Int →
  Option
    (Int × List Int ⊕
      List Int ⊕
        Int ⊕
          Unit ⊕
            Bool) := fun x6 =>
  if decide (x6.1 < x2.1) = true then
    Option.bind (network_Reach (Net.mk x2.1 x3.2.2.1) x3.2.2.2 x4.1 x5 x6.1) fun x7 =>
      Option.bind (network_Reach (Net.mk x2.1 x3.2.2.1) x3.2.2.2 x4.1 x6.1 x5) fun x8 =>
        if (!x7 == x8) = true then some (.inr (.inr (.inr (.inr false))))
        else
          Option.bind (if x7 = true then Option.bind (app x6.2 [x6.1]) fun x9 => some x9 else some x6.2)
            fun x10 =>
            Option.bind (loopO (dynposlaw32_NetworkReaches_L3 x2 x3 x4 x5 x6 x7) 0) fun x15 =>
              Sum.elim (fun x16 => some (.inl (W (x6.1 + 1), x10))) (fun x17 => some x17) x15
  else some (.inr (.inl x6.2))
noncomputable def dynposlaw32_NetworkReaches_L1 (x2 : Int ×
  List Int ×
    Int ×
      List
        Cable) (x3 : List Int ×
  Int ×
    List Cable ×
      List
        Part) (x4 : Int ×
  List Int ×
    Int) : Int →
  Option
    (Int ⊕
      Unit ⊕
        Bool) := fun x5 =>
  if decide (x5 < x2.1) = true then
    Option.bind (loopO (dynposlaw32_NetworkReaches_L2 x2 x3 x4 x5) (0, [])) fun x18 =>
      Sum.elim
        (fun x19 =>
          Option.bind (network_Cut (Net.mk x2.1 x3.2.2.1) x3.2.2.2 x4.1 x19) fun x20 =>
            if (!x20 == decide (len x19 < x2.1)) = true then some (.inr (.inr false))
            else some (.inl (W (x5 + 1))))
        (fun x21 => some x21) x18
  else some (.inr (.inl ()))
noncomputable def dynposlaw32_NetworkReaches (a0 : (List Int)) : Option (Bool) :=
  if decide (len a0 > 600) = true then Option.bind dynposlaw32_sane fun x26 => some x26
  else
    Option.bind (dynposmake_New a0) fun x1 =>
      Option.bind (Src_Net (Src.mk x1.1 x1.2)) fun x2 =>
        Option.bind (Src_Cables (Src.mk x2.2.1 x2.2.2.1) (Net.mk x2.1 x2.2.2.2)) fun x3 =>
          Option.bind (Src_N (Src.mk x3.1 x3.2.1) 2) fun x4 =>
            Option.bind (loopO (dynposlaw32_NetworkReaches_L1 x2 x3 x4) 0) fun x22 =>
              Sum.elim (fun x23 => Option.bind dynposlaw32_sane fun x24 => some x24) (fun x25 => some x25) x22
noncomputable def c8 : Con D := ⟨8, [.lf (.sl 0)], [.lf .bool], [.one (.h 0 [0])], [], [.one (.h 0 [])], [], fun h => dynposlaw32_NetworkReaches h⟩
theorem c8_ok : ConOk Try.prog T c8 := fn_ok (Φ := [c9, c10, c11, c14, c16, c20, c33]) (rs := [.tmp 2]) (an := (.n none .o (.n none .o (.n none .o (.n none .o (.n none .o (.n none .o (.n none (.n none .o (.n none (.loop ⟨[.lf (.int .i64)], [(7, .one (.h 0 []))], [], [], 3280⟩ false [(.exit 0, ⟨[], [], [], [], 3280⟩)] (.n none .o (.n none (.n none (.n none .o (.n none (.n none .o (.n none (.loop ⟨[.lf (.int .i64), .lf (.sl 0)], [(8, .one (.own 3665)), (9, .one (.h 0 []))], [(3665, .sl 0 3 1 [])], [], 3729⟩ false [(.exit 2, ⟨[.lf (.sl 0)], [(8, .one (.own 3665))], [(3665, .sl 0 3 0 [])], [], 3729⟩)] (.n none .o (.n none (.n none (.n none .o (.n none .o (.n none (.n none .o (.n (some (true, [(.normal, ⟨[.lf (.sl 0)], [(8, .one (.own 5011))], [(5011, .sl 0 3 0 [])], [3665], 5075⟩)])) .o .o)) (.n none .o (.n none (.loop ⟨[.lf (.int .i64)], [(11, .one (.h 0 []))], [], [], 5204⟩ false [(.exit 4, ⟨[], [], [], [], 5204⟩)] (.n none .o (.n none (.n none (.n none (.r (some (true, [(.normal, ⟨[.lf .bool], [(64, .one (.any)), (65, .one (.any)), (66, .one (.any)), (67, .one (.any)), (68, .one (.any)), (69, .one (.any)), (72, .one (.any)), (73, .one (.any)), (74, .one (.any)), (75, .one (.any)), (76, .one (.any)), (77, .one (.any)), (78, .one (.any)), (79, .one (.h 0 []))], [], [], 5525⟩)])) .nil) .o) .o) .o))) .o))))) .o) .o))) .o)) .o)) .o) .o))) .o)) .o)))))))) pOk repOk (AllC.mem (⟨c9_ok, c10_ok, c11_ok, c14_ok, c16_ok, c20_ok, c33_ok, trivial⟩ : AllC _ _ [c9, c10, c11, c14, c16, c20, c33])) hmix Try.call8 Try.func8 rfl rfl (by kernel_rfl) (fun h => by kernel_rfl)

end Rx
end Go.Proofs.Ythgnnjdjdmdfoaa
