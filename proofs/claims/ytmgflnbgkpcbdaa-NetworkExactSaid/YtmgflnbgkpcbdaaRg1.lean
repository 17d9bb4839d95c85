/- Plain functions, walks. Written by a program (wip/gen). -/
import Derived.Test.YtmgflnbgkpcbdaaRt
import Derived.Test.YtmgflnbgkpcbdaaHi
set_option linter.unusedVariables false
set_option maxRecDepth 100000
namespace Go.Proofs.Ytmgflnbgkpcbdaa
open Go Go.RowKit Dp
namespace Rx

noncomputable def cmp_isNaN_int (a0 : Int) : Option (Bool) := some (a0 != a0)
noncomputable def c70 : Con D := ⟨70, [.lf (.int .i64)], [.lf .bool], [.one (.h 0 [])], [], [.one (.h 0 [])], [], fun h => cmp_isNaN_int h⟩
theorem c70_ok : ConOk Try.prog T c70 := fn_ok (Φ := []) (rs := [.tmp 2]) (an := .o) pOk repOk (AllC.mem (l := []) trivial) hmix Try.call70 Try.func70 rfl rfl (by kernel_rfl) (fun h => by kernel_rfl)

noncomputable def cmp_Compare_int (a0 : Int) (a1 : Int) : Option (Int) :=
  Option.bind (cmp_isNaN_int a0) fun x1 =>
    Option.bind (cmp_isNaN_int a1) fun x2 =>
      if x1 = true then if x2 = true then some 0 else some (-1)
      else
        if x2 = true then some 1
        else
          if decide (a0 < a1) = true then some (-1)
          else if decide (a0 > a1) = true then some 1 else some 0
noncomputable def c57 : Con D := ⟨57, [.lf (.int .i64), .lf (.int .i64)], [.lf (.int .i64)], [.one (.h 0 []), .one (.h 1 [])], [], [.one (.h 0 [])], [], fun h => cmp_Compare_int h.1 h.2⟩
theorem c57_ok : ConOk Try.prog T c57 := fn_ok (Φ := [c70]) (rs := [.tmp 4]) (an := .o) pOk repOk (AllC.mem (⟨c70_ok, trivial⟩ : AllC _ _ [c70])) hmix Try.call57 Try.func57 rfl rfl (by kernel_rfl) (fun h => by kernel_rfl)

noncomputable def cmp_Or_int_L1 (a0 : List
  Int) : Int →
  Option
    (Int ⊕
      Unit ⊕
        Int) := fun x1 =>
  if decide (x1 < len a0) = true then
    Option.bind (idx a0 x1) fun x2 =>
      if (x2 != 0) = true then some (.inr (.inr x2)) else some (.inl (W (x1 + 1)))
  else some (.inr (.inl ()))
noncomputable def cmp_Or_int (a0 : (List Int)) : Option (Int) :=
  Option.bind (loopO (cmp_Or_int_L1 a0) 0) fun x3 =>
    Sum.elim (fun x4 => some 0) (fun x5 => some x5) x3
noncomputable def c56 : Con D := ⟨56, [.lf (.sl 0)], [.lf (.int .i64)], [.one (.h 0 [0])], [], [.one (.h 0 [])], [], fun h => cmp_Or_int h⟩
theorem c56_ok : ConOk Try.prog T c56 := fn_ok (Φ := []) (rs := [.tmp 2]) (an := (.n none .o (.n none .o (.n none (.n none .o (.n none (.loop ⟨[.lf (.int .i64)], [(8, .one (.h 0 []))], [], [], 2384⟩ false [(.exit 0, ⟨[], [], [], [], 2384⟩)] .o) .o)) .o)))) pOk repOk (AllC.mem (l := []) trivial) hmix Try.call56 Try.func56 rfl rfl (by kernel_rfl) (fun h => by kernel_rfl)

noncomputable def network_compare (a0 : Cable) (a1 : Cable) : Option (Int) :=
  Option.bind (cmp_Compare_int a0.Net a1.Net) fun x1 =>
    Option.bind (cmp_Compare_int a0.A a1.A) fun x2 =>
      Option.bind (cmp_Compare_int a0.B a1.B) fun x3 => Option.bind (cmp_Or_int [x1, x2, x3]) fun x4 => some x4
noncomputable def c33 : Con D := ⟨33, [.lf (.int .i64), .lf (.int .i64), .lf (.int .i64), .lf (.int .i64), .lf (.int .i64), .lf (.int .i64)], [.lf (.int .i64)], [.agg [.h 0 [], .h 1 [], .h 2 []], .agg [.h 3 [], .h 4 [], .h 5 []]], [], [.one (.h 0 [])], [], fun h => network_compare ⟨h.1, h.2.1, h.2.2.1⟩ ⟨h.2.2.2.1, h.2.2.2.2.1, h.2.2.2.2.2⟩⟩
theorem c33_ok : ConOk Try.prog T c33 := fn_ok (Φ := [c56, c57]) (rs := [.tmp 4]) (an := .o) pOk repOk (AllC.mem (⟨c56_ok, c57_ok, trivial⟩ : AllC _ _ [c56, c57])) hmix Try.call33 Try.func33 rfl rfl (by kernel_rfl) (fun h => by kernel_rfl)

noncomputable def network_Check_L1 (a0 : Net) : Int →
  Option
    (Int ⊕
      Unit ⊕
        Int) := fun x2 =>
  if decide (x2 < len a0.Cables) = true then
    Option.bind (idx a0.Cables x2) fun x3 =>
      Option.bind
        (if decide (x3.Net < 0) = true then some true
        else
          if decide (x3.Net ≥ 2) = true then some true
          else
            if decide (x3.A < 0) = true then some true
            else if decide (x3.A ≥ x3.B) = true then some true else some (decide (x3.B ≥ a0.Nodes)))
        fun x4 =>
        if x4 = true then some (.inr (.inr 68))
        else
          Option.bind
            (if decide (x2 > 0) = true then
              Option.bind (idx a0.Cables (W (x2 - 1))) fun x5 =>
                Option.bind (network_compare x5 x3) fun x6 => some (decide (x6 ≥ 0))
            else some false)
            fun x7 =>
            if x7 = true then some (.inr (.inr 68)) else some (.inl (W (x2 + 1)))
  else some (.inr (.inl ()))
noncomputable def network_Check (a0 : Net) : Option (Int) :=
  Option.bind
    (if decide (a0.Nodes < 1) = true then some true
    else if decide (a0.Nodes > 8) = true then some true else some (decide (len a0.Cables > 24)))
    fun x1 =>
    if x1 = true then some 68
    else
      Option.bind (loopO (network_Check_L1 a0) 0) fun x8 =>
        Sum.elim (fun x9 => some 0) (fun x10 => some x10) x8
noncomputable def c11 : Con D := ⟨11, [.lf (.int .i64), .lf (.sl 4)], [.lf (.int .i64)], [.agg [.h 0 [], .h 1 [0]]], [], [.one (.h 0 [])], [], fun h => network_Check ⟨h.1, h.2⟩⟩
theorem c11_ok : ConOk Try.prog T c11 := fn_ok (Φ := [c33]) (rs := [.tmp 2]) (an := (.n none .o (.n none (.n none (.r (some (true, [(.normal, ⟨[.lf .bool], [(18, .one (.h 0 []))], [], [], 2192⟩)])) .nil) .o) (.n none (.n none .o (.n none (.loop ⟨[.lf (.int .i64)], [(22, .one (.h 0 []))], [], [], 2513⟩ false [(.exit 0, ⟨[], [], [], [], 2513⟩)] (.n none .o (.n none .o (.n none (.n none (.n none .o (.n none (.n none (.r (some (true, [(.normal, ⟨[.lf .bool], [(31, .one (.any)), (32, .one (.any)), (33, .one (.any)), (36, .one (.any)), (37, .one (.any)), (38, .one (.any)), (41, .one (.any)), (42, .one (.any)), (43, .one (.any)), (44, .one (.any)), (45, .one (.any)), (48, .one (.any)), (49, .one (.any)), (50, .one (.any)), (51, .one (.any)), (52, .one (.any)), (53, .one (.h 0 []))], [], [], 3026⟩)])) .nil) .o) (.n none (.r (some (true, [(.normal, ⟨[.lf .bool], [(57, .one (.any)), (58, .one (.any)), (59, .one (.any)), (60, .one (.any)), (61, .one (.any)), (62, .one (.any)), (63, .one (.any)), (64, .one (.any)), (65, .one (.any)), (66, .one (.h 0 []))], [], [], 3091⟩)])) .nil) .o))) .o) .o)))) .o)) .o)))) pOk repOk (AllC.mem (⟨c33_ok, trivial⟩ : AllC _ _ [c33])) hmix Try.call11 Try.func11 rfl rfl (by kernel_rfl) (fun h => by kernel_rfl)

noncomputable def network_Ports (a0 : Net) : Option ((List Port)) :=
  Option.bind (network_Check a0) fun x1 =>
    if (x1 != 0) = true then some []
    else Option.bind (mkZ (Port.mk 0 []) (W (a0.Nodes * a0.Nodes))) fun x2 => some x2
noncomputable def c14 : Con D := ⟨14, [.lf (.int .i64), .lf (.sl 4)], [.lf (.sl 6)], [.agg [.h 0 [], .h 1 [0]]], [], [.one (.own 1000)], [(1000, .sl 6 28 0 [])], fun h => network_Ports ⟨h.1, h.2⟩⟩
theorem c14_ok : ConOk Try.prog T c14 := fn_ok (Φ := [c11]) (rs := [.tmp 2]) (an := .o) pOk repOk (AllC.mem (⟨c11_ok, trivial⟩ : AllC _ _ [c11])) hmix Try.call14 Try.func14 rfl rfl (by kernel_rfl) (fun h => by kernel_rfl)

noncomputable def network_right_1 (a0 : Int) (a1 : Net) : Option (Bool) :=
  Option.bind (if decide (a0 < 0) = true then some true else some (decide (a0 ≥ a1.Nodes))) fun x1 => some x1
noncomputable def c58 : Con D := ⟨58, [.lf (.int .i64), .el 3], [.lf .bool], [.one (.h 0 []), .one (.rp 1 3 [0])], [], [.one (.h 0 [])], [], fun h => network_right_1 h.1 h.2⟩
theorem c58_ok : ConOk Try.prog T c58 := fn_ok (Φ := []) (rs := [.tmp 3]) (an := (.n none .o (.n none (.r (some (true, [(.normal, ⟨[.lf .bool], [(3, .one (.h 0 []))], [], [], 2128⟩)])) .nil) .o))) pOk repOk (AllC.mem (l := []) trivial) hmix Try.call58 Try.func58 rfl rfl (by kernel_rfl) (fun h => by kernel_rfl)

noncomputable def slices_IndexFunc_int_int_L1 (a0 : List
  Int) (a1 : Net) : Int →
  Option
    (Int ⊕
      Unit ⊕
        Int) := fun x1 =>
  if decide (x1 < len a0) = true then
    Option.bind (idx a0 x1) fun x2 =>
      Option.bind (network_right_1 x2 a1) fun x3 =>
        if x3 = true then some (.inr (.inr x1)) else some (.inl (W (x1 + 1)))
  else some (.inr (.inl ()))
noncomputable def slices_IndexFunc_int_int (a0 : (List Int)) (a1 : Net) : Option (Int) :=
  Option.bind (loopO (slices_IndexFunc_int_int_L1 a0 a1) 0) fun x4 =>
    Sum.elim (fun x5 => some (-1)) (fun x6 => some x6) x4
noncomputable def c65 : Con D := ⟨65, [.lf (.sl 0), .el 3], [.lf (.int .i64)], [.one (.h 0 [0]), .one (.fn 58 [.rp 1 3 [0]])], [], [.one (.h 0 [])], [], fun h => slices_IndexFunc_int_int h.1 h.2⟩
theorem c65_ok : ConOk Try.prog T c65 := fn_ok (Φ := [c58]) (rs := [.tmp 4]) (an := (.n none .o (.n none (.n none .o (.n none (.loop ⟨[.lf (.int .i64)], [(8, .one (.h 0 []))], [], [], 2320⟩ false [(.exit 0, ⟨[], [], [], [], 2320⟩)] .o) .o)) .o))) pOk repOk (AllC.mem (⟨c58_ok, trivial⟩ : AllC _ _ [c58])) hmix Try.call65 Try.func65 rfl rfl (by kernel_rfl) (fun h => by kernel_rfl)

noncomputable def slices_ContainsFunc_int_int (a0 : (List Int)) (a1 : Net) : Option (Bool) := Option.bind (slices_IndexFunc_int_int a0 a1) fun x1 => some (decide (x1 ≥ 0))
noncomputable def c50 : Con D := ⟨50, [.lf (.sl 0), .el 3], [.lf .bool], [.one (.h 0 [0]), .one (.fn 58 [.rp 1 3 [0]])], [], [.one (.h 0 [])], [], fun h => slices_ContainsFunc_int_int h.1 h.2⟩
theorem c50_ok : ConOk Try.prog T c50 := fn_ok (Φ := [c65]) (rs := [.tmp 4]) (an := .o) pOk repOk (AllC.mem (⟨c65_ok, trivial⟩ : AllC _ _ [c65])) hmix Try.call50 Try.func50 rfl rfl (by kernel_rfl) (fun h => by kernel_rfl)

noncomputable def network_right (a0 : Net) (a1 : Int) (a2 : (List Int)) : Option (Bool) :=
  Option.bind
    (Option.bind (network_Check a0) fun x1 =>
      if (x1 == 0) = true then
        if decide (a1 ≥ 0) = true then
          if decide (a1 < 2) = true then Option.bind (slices_ContainsFunc_int_int a2 a0) fun x2 => some !x2
          else some false
        else some false
      else some false)
    fun x3 => some x3
noncomputable def c36 : Con D := ⟨36, [.lf (.int .i64), .lf (.sl 4), .lf (.int .i64), .lf (.sl 0)], [.lf .bool], [.agg [.h 0 [], .h 1 [0]], .one (.h 2 []), .one (.h 3 [0])], [], [.one (.h 0 [])], [], fun h => network_right ⟨h.1, h.2.1⟩ h.2.2.1 h.2.2.2⟩
theorem c36_ok : ConOk Try.prog T c36 := fn_ok (Φ := [c11, c50]) (rs := [.tmp 6]) (an := (.n none .o (.n none (.r (some (true, [(.normal, ⟨[.lf .bool], [(6, .one (.h 0 []))], [], [], 2192⟩)])) .nil) .o))) pOk repOk (AllC.mem (⟨c11_ok, c50_ok, trivial⟩ : AllC _ _ [c11, c50])) hmix Try.call36 Try.func36 rfl rfl (by kernel_rfl) (fun h => by kernel_rfl)

noncomputable def network_Deliver_1 (a0 : Message) (a1 : Net) : Option (Bool) := Option.bind (network_right a1 0 [a0.From, a0.To]) fun x1 => some !x1
noncomputable def c45 : Con D := ⟨45, [.lf (.int .i64), .lf (.int .i64), .lf (.int .i64), .lf (.int .i64), .el 3], [.lf .bool], [.agg [.h 0 [], .h 1 [], .h 2 [], .h 3 []], .one (.rp 4 3 [0])], [], [.one (.h 0 [])], [], fun h => network_Deliver_1 ⟨h.1, h.2.1, h.2.2.1, h.2.2.2.1⟩ h.2.2.2.2⟩
theorem c45_ok : ConOk Try.prog T c45 := fn_ok (Φ := [c36]) (rs := [.tmp 3]) (an := .o) pOk repOk (AllC.mem (⟨c36_ok, trivial⟩ : AllC _ _ [c36])) hmix Try.call45 Try.func45 rfl rfl (by kernel_rfl) (fun h => by kernel_rfl)

noncomputable def slices_IndexFunc_Message_Message_L1 (a0 : List
  Message) (a1 : Net) : Int →
  Option
    (Int ⊕
      Unit ⊕
        Int) := fun x1 =>
  if decide (x1 < len a0) = true then
    Option.bind (idx a0 x1) fun x2 =>
      Option.bind (network_Deliver_1 x2 a1) fun x3 =>
        if x3 = true then some (.inr (.inr x1)) else some (.inl (W (x1 + 1)))
  else some (.inr (.inl ()))
noncomputable def slices_IndexFunc_Message_Message (a0 : (List Message)) (a1 : Net) : Option (Int) :=
  Option.bind (loopO (slices_IndexFunc_Message_Message_L1 a0 a1) 0) fun x4 =>
    Sum.elim (fun x5 => some (-1)) (fun x6 => some x6) x4
noncomputable def c62 : Con D := ⟨62, [.lf (.sl 7), .el 3], [.lf (.int .i64)], [.one (.h 0 [0]), .one (.fn 45 [.rp 1 3 [0]])], [], [.one (.h 0 [])], [], fun h => slices_IndexFunc_Message_Message h.1 h.2⟩
theorem c62_ok : ConOk Try.prog T c62 := fn_ok (Φ := [c45]) (rs := [.tmp 4]) (an := (.n none .o (.n none (.n none .o (.n none (.loop ⟨[.lf (.int .i64)], [(8, .one (.h 0 []))], [], [], 2320⟩ false [(.exit 0, ⟨[], [], [], [], 2320⟩)] .o) .o)) .o))) pOk repOk (AllC.mem (⟨c45_ok, trivial⟩ : AllC _ _ [c45])) hmix Try.call62 Try.func62 rfl rfl (by kernel_rfl) (fun h => by kernel_rfl)

noncomputable def slices_ContainsFunc_Message_Message (a0 : (List Message)) (a1 : Net) : Option (Bool) := Option.bind (slices_IndexFunc_Message_Message a0 a1) fun x1 => some (decide (x1 ≥ 0))
noncomputable def c46 : Con D := ⟨46, [.lf (.sl 7), .el 3], [.lf .bool], [.one (.h 0 [0]), .one (.fn 45 [.rp 1 3 [0]])], [], [.one (.h 0 [])], [], fun h => slices_ContainsFunc_Message_Message h.1 h.2⟩
theorem c46_ok : ConOk Try.prog T c46 := fn_ok (Φ := [c62]) (rs := [.tmp 4]) (an := .o) pOk repOk (AllC.mem (⟨c62_ok, trivial⟩ : AllC _ _ [c62])) hmix Try.call46 Try.func46 rfl rfl (by kernel_rfl) (fun h => by kernel_rfl)

noncomputable def network_ascending_L1 (a0 : List
  Int) : Int →
  Option
    (Int ⊕
      Unit ⊕
        Bool) := fun x1 =>
  if decide (x1 < len a0) = true then
    Option.bind (idx a0 (W (x1 - 1))) fun x2 =>
      Option.bind (idx a0 x1) fun x3 =>
        if decide (x2 ≥ x3) = true then some (.inr (.inr false)) else some (.inl (W (x1 + 1)))
  else some (.inr (.inl ()))
noncomputable def network_ascending (a0 : (List Int)) : Option (Bool) :=
  Option.bind (loopO (network_ascending_L1 a0) 1) fun x4 =>
    Sum.elim (fun x5 => some true) (fun x6 => some x6) x4
noncomputable def c39 : Con D := ⟨39, [.lf (.sl 0)], [.lf .bool], [.one (.h 0 [0])], [], [.one (.h 0 [])], [], fun h => network_ascending h⟩
theorem c39_ok : ConOk Try.prog T c39 := fn_ok (Φ := []) (rs := [.tmp 2]) (an := (.n none .o (.n none (.n none .o (.n none (.loop ⟨[.lf (.int .i64)], [(3, .one (.h 0 []))], [], [], 2192⟩ false [(.exit 0, ⟨[], [], [], [], 2192⟩)] .o) .o)) .o))) pOk repOk (AllC.mem (l := []) trivial) hmix Try.call39 Try.func39 rfl rfl (by kernel_rfl) (fun h => by kernel_rfl)

noncomputable def network_Port_1 (a0 : Int) (a1 : Port) : Option (Bool) :=
  Option.bind
    (if decide (a0 < imax 1 (W (W (a1.High - 32) + 1))) = true then some true
    else some (decide (a0 ≥ a1.High)))
    fun x1 => some x1
noncomputable def c51 : Con D := ⟨51, [.lf (.int .i64), .el 6], [.lf .bool], [.one (.h 0 []), .one (.rp 1 6 [0])], [], [.one (.h 0 [])], [], fun h => network_Port_1 h.1 h.2⟩
theorem c51_ok : ConOk Try.prog T c51 := fn_ok (Φ := []) (rs := [.tmp 3]) (an := (.n none .o (.n none (.r (some (true, [(.normal, ⟨[.lf .bool], [(3, .one (.h 0 []))], [], [], 2128⟩)])) .nil) .o))) pOk repOk (AllC.mem (l := []) trivial) hmix Try.call51 Try.func51 rfl rfl (by kernel_rfl) (fun h => by kernel_rfl)

noncomputable def slices_IndexFunc_int_int_v1_L1 (a0 : List
  Int) (a1 : Port) : Int →
  Option
    (Int ⊕
      Unit ⊕
        Int) := fun x1 =>
  if decide (x1 < len a0) = true then
    Option.bind (idx a0 x1) fun x2 =>
      Option.bind (network_Port_1 x2 a1) fun x3 =>
        if x3 = true then some (.inr (.inr x1)) else some (.inl (W (x1 + 1)))
  else some (.inr (.inl ()))
noncomputable def slices_IndexFunc_int_int_v1 (a0 : (List Int)) (a1 : Port) : Option (Int) :=
  Option.bind (loopO (slices_IndexFunc_int_int_v1_L1 a0 a1) 0) fun x4 =>
    Sum.elim (fun x5 => some (-1)) (fun x6 => some x6) x4
noncomputable def c65_1 : Con D := ⟨65, [.lf (.sl 0), .el 6], [.lf (.int .i64)], [.one (.h 0 [0]), .one (.fn 51 [.rp 1 6 [0]])], [], [.one (.h 0 [])], [], fun h => slices_IndexFunc_int_int_v1 h.1 h.2⟩
theorem c65_1_ok : ConOk Try.prog T c65_1 := fn_ok (Φ := [c51]) (rs := [.tmp 4]) (an := (.n none .o (.n none (.n none .o (.n none (.loop ⟨[.lf (.int .i64)], [(8, .one (.h 0 []))], [], [], 2320⟩ false [(.exit 0, ⟨[], [], [], [], 2320⟩)] .o) .o)) .o))) pOk repOk (AllC.mem (⟨c51_ok, trivial⟩ : AllC _ _ [c51])) hmix Try.call65 Try.func65 rfl rfl (by kernel_rfl) (fun h => by kernel_rfl)

noncomputable def slices_ContainsFunc_int_int_v1 (a0 : (List Int)) (a1 : Port) : Option (Bool) := Option.bind (slices_IndexFunc_int_int_v1 a0 a1) fun x1 => some (decide (x1 ≥ 0))
noncomputable def c50_1 : Con D := ⟨50, [.lf (.sl 0), .el 6], [.lf .bool], [.one (.h 0 [0]), .one (.fn 51 [.rp 1 6 [0]])], [], [.one (.h 0 [])], [], fun h => slices_ContainsFunc_int_int_v1 h.1 h.2⟩
theorem c50_1_ok : ConOk Try.prog T c50_1 := fn_ok (Φ := [c65_1]) (rs := [.tmp 4]) (an := .o) pOk repOk (AllC.mem (⟨c65_1_ok, trivial⟩ : AllC _ _ [c65_1])) hmix Try.call50 Try.func50 rfl rfl (by kernel_rfl) (fun h => by kernel_rfl)

noncomputable def network_Port (a0 : Port) : Option (Bool) :=
  Option.bind
    (if decide (a0.High < 0) = true then some true
    else
      if decide (a0.High > 2147483648) = true then some true
      else
        if decide (len a0.Below ≥ 32) = true then some true
        else Option.bind (network_ascending a0.Below) fun x1 => some !x1)
    fun x2 =>
    if x2 = true then some false else Option.bind (slices_ContainsFunc_int_int_v1 a0.Below a0) fun x3 => some !x3
noncomputable def c27 : Con D := ⟨27, [.lf (.int .i64), .lf (.sl 0)], [.lf .bool], [.agg [.h 0 [], .h 1 [0]]], [], [.one (.h 0 [])], [], fun h => network_Port ⟨h.1, h.2⟩⟩
theorem c27_ok : ConOk Try.prog T c27 := fn_ok (Φ := [c39, c50_1]) (rs := [.tmp 2]) (an := (.n none .o (.n none (.n none (.r (some (true, [(.normal, ⟨[.lf .bool], [(22, .one (.h 0 []))], [], [], 2192⟩)])) .nil) .o) .o))) pOk repOk (AllC.mem (⟨c39_ok, c50_1_ok, trivial⟩ : AllC _ _ [c39, c50_1])) hmix Try.call27 Try.func27 rfl rfl (by kernel_rfl) (fun h => by kernel_rfl)

noncomputable def network_Deliver_2 (a0 : Port) : Option (Bool) := Option.bind (network_Port a0) fun x1 => some !x1
noncomputable def c48 : Con D := ⟨48, [.lf (.int .i64), .lf (.sl 0)], [.lf .bool], [.agg [.h 0 [], .h 1 [0]]], [], [.one (.h 0 [])], [], fun h => network_Deliver_2 ⟨h.1, h.2⟩⟩
theorem c48_ok : ConOk Try.prog T c48 := fn_ok (Φ := [c27]) (rs := [.tmp 2]) (an := .o) pOk repOk (AllC.mem (⟨c27_ok, trivial⟩ : AllC _ _ [c27])) hmix Try.call48 Try.func48 rfl rfl (by kernel_rfl) (fun h => by kernel_rfl)

noncomputable def slices_IndexFunc_Port_Port_L1 (a0 : List
  Port) : Int →
  Option
    (Int ⊕
      Unit ⊕
        Int) := fun x1 =>
  if decide (x1 < len a0) = true then
    Option.bind (idx a0 x1) fun x2 =>
      Option.bind (network_Deliver_2 x2) fun x3 =>
        if x3 = true then some (.inr (.inr x1)) else some (.inl (W (x1 + 1)))
  else some (.inr (.inl ()))
noncomputable def slices_IndexFunc_Port_Port (a0 : (List Port)) : Option (Int) :=
  Option.bind (loopO (slices_IndexFunc_Port_Port_L1 a0) 0) fun x4 =>
    Sum.elim (fun x5 => some (-1)) (fun x6 => some x6) x4
noncomputable def c63 : Con D := ⟨63, [.lf (.sl 6)], [.lf (.int .i64)], [.one (.h 0 [0]), .one (.fn 48 [])], [], [.one (.h 0 [])], [], fun h => slices_IndexFunc_Port_Port h⟩
theorem c63_ok : ConOk Try.prog T c63 := fn_ok (Φ := [c48]) (rs := [.tmp 4]) (an := (.n none .o (.n none (.n none .o (.n none (.loop ⟨[.lf (.int .i64)], [(8, .one (.h 0 []))], [], [], 2320⟩ false [(.exit 0, ⟨[], [], [], [], 2320⟩)] .o) .o)) .o))) pOk repOk (AllC.mem (⟨c48_ok, trivial⟩ : AllC _ _ [c48])) hmix Try.call63 Try.func63 rfl rfl (by kernel_rfl) (fun h => by kernel_rfl)

noncomputable def slices_ContainsFunc_Port_Port (a0 : (List Port)) : Option (Bool) := Option.bind (slices_IndexFunc_Port_Port a0) fun x1 => some (decide (x1 ≥ 0))
noncomputable def c47 : Con D := ⟨47, [.lf (.sl 6)], [.lf .bool], [.one (.h 0 [0]), .one (.fn 48 [])], [], [.one (.h 0 [])], [], fun h => slices_ContainsFunc_Port_Port h⟩
theorem c47_ok : ConOk Try.prog T c47 := fn_ok (Φ := [c63]) (rs := [.tmp 4]) (an := .o) pOk repOk (AllC.mem (⟨c63_ok, trivial⟩ : AllC _ _ [c63])) hmix Try.call47 Try.func47 rfl rfl (by kernel_rfl) (fun h => by kernel_rfl)

noncomputable def slices_Clone_int_int (a0 : (List Int)) : Option ((List Int)) := app [] a0
noncomputable def c64 : Con D := ⟨64, [.lf (.sl 0)], [.lf (.sl 0)], [.one (.h 0 [0])], [], [.one (.own 1000)], [(1000, .sl 0 3 0 [])], fun h => slices_Clone_int_int h⟩
theorem c64_ok : ConOk Try.prog T c64 := by
  refine ⟨Try.call64, rfl, rfl, rfl, rfl, fun xs0 r0 hr0 avs obs has hobs γ w vs hv _ => ?_⟩
  cases has
  match vs, hv with
  | [], hv => exact hv.elim
  | _ :: _ :: _, hv => exact hv.2.elim
  | [v], hv =>
  obtain ⟨xs, hxs⟩ : ∃ xs : List (D 0), xs = xs0 := ⟨_, rfl⟩
  obtain ⟨r, hrr⟩ : ∃ r : List (D 0), r = r0 := ⟨_, rfl⟩
  have g0 : Rv (In γ.o [0]) w v xs := by rw [hxs]; exact hv.1.1
  have hr : app ([] : List (D 0)) xs = some r := by rw [hxs, hrr]; exact hr0
  subst hrr
  have hT := slr22.2
  refine enter (l := [v]) Try.func64 rfl Try.ntmps64 rfl ?_
  refine CW.sub (L' := [(0, v)]) ⟨rfl, trivial⟩ ?_
  refine CW.sr fun K1 hK1 => ?_
  refine WL.p (.slice none 0 0) rfl rfl ?_
  refine WL.nx hK1 ?_
  refine CW.seq fun K2 hK2 => ?_
  refine CW.sr fun K3 hK3 => ?_
  refine WL.p v rfl rfl ?_
  obtain ⟨a, m, q, rfl, hn⟩ := rvSlice g0
  refine WL.stepE (OW.isNil slr22.1 rfl) rfl ?_
  refine WL.nx hK3 ?_
  cases a with
  | none =>
    refine CW.cond (b := true) rfl (fun _ => ?_) (fun h => nomatch h)
    refine CW.sr fun K4 hK4 => ?_
    refine WL.p (.slice none 0 0) rfl rfl ?_
    refine WL.nx hK4 ?_
    rw [hn rfl] at hr
    obtain rfl := app_nil hr
    exact CW.rets (vs := [.slice none 0 0]) Try.results64 ⟨rfl, trivial⟩ ⟨_, rfl, end_own (n := 0) (e := 3) (q := 1000) (K := []) (M := []) (N := []) rfl rfl rfl (by simp) (by simp) (Evo.refl _ _ γ.o w) (Ow.nil _ _ _ _ _) (fun x hx => by simp at hx <;> omega)⟩ (fun _ _ h => h)
  | some a =>
    refine CW.cond (b := false) rfl (fun h => nomatch h) (fun _ => ?_)
    refine CW.skip ?_
    refine hK2 _ _ ?_
    refine CW.sr fun K5 hK5 => ?_
    refine WL.step (OW.buildSlice (o := γ.o) (k := 1000) (K := []) (xs := ([] : List (D 0))) slr22.1 hT rfl trivial rfl rfl) rfl ?_
    rintro v1 w1 ⟨o1, ev1, h1⟩
    have g0 := g0.evo ev1 rfl
    refine WL.p (.slice (some a) m q) rfl rfl ?_
    refine WL.step (OW.append (K := []) slr22.1 hT rfl rfl h1 (@Els.flat (D 0) _ flat0 _ _ _ _ _ g0.els) hr rfl) rfl ?_
    rintro v2 w2 ⟨o2, ev2, h2⟩
    refine WL.p v2 rfl rfl ?_
    refine WL.nx hK5 ?_
    exact CW.rets (vs := [v2]) Try.results64 ⟨rfl, trivial⟩ ⟨_, rfl, end_own (n := 0) (e := 3) (q := 1000) (K := []) (M := [1000]) (N := [1000]) rfl rfl rfl (by simp) (by simp) ((ev1.weaken (by simp) (by simp)).trans ev2) h2 (fun x hx => by simp at hx <;> omega)⟩ (fun _ _ h => h)

noncomputable def network_copyPort (a0 : Port) : Option (Int × (List Int)) := Option.bind (slices_Clone_int_int a0.Below) fun x1 => some (a0.High, x1)
noncomputable def c49 : Con D := ⟨49, [.lf (.int .i64), .lf (.sl 0)], [.lf (.int .i64), .lf (.sl 0)], [.agg [.h 0 [], .h 1 [0]]], [], [.agg [.h 0 [], .own 1000]], [(1000, .sl 0 3 1 [])], fun h => network_copyPort ⟨h.1, h.2⟩⟩
theorem c49_ok : ConOk Try.prog T c49 := fn_ok (Φ := [c64]) (rs := [.cell 2 28]) (an := .o) pOk repOk (AllC.mem (⟨c64_ok, trivial⟩ : AllC _ _ [c64])) hmix Try.call49 Try.func49 rfl rfl (by kernel_rfl) (fun h => by kernel_rfl)

noncomputable def slices_Index_Part_Part_L1 (a0 : List
  Part) (a1 : Part) : Int →
  Option
    (Int ⊕
      Unit ⊕
        Int) := fun x1 =>
  if decide (x1 < len a0) = true then
    Option.bind (idx a0 x1) fun x2 =>
      if (a1.Kind == x2.Kind && a1.Number == x2.Number) = true then some (.inr (.inr x1))
      else some (.inl (W (x1 + 1)))
  else some (.inr (.inl ()))
noncomputable def slices_Index_Part_Part (a0 : (List Part)) (a1 : Part) : Option (Int) :=
  Option.bind (loopO (slices_Index_Part_Part_L1 a0 a1) 0) fun x3 =>
    Sum.elim (fun x4 => some (-1)) (fun x5 => some x5) x3
noncomputable def c71 : Con D := ⟨71, [.lf (.sl 5), .lf (.int .i64), .lf (.int .i64)], [.lf (.int .i64)], [.one (.h 0 [0]), .agg [.h 1 [], .h 2 []]], [], [.one (.h 0 [])], [], fun h => slices_Index_Part_Part h.1 ⟨h.2.1, h.2.2⟩⟩
theorem c71_ok : ConOk Try.prog T c71 := fn_ok (Φ := []) (rs := [.tmp 4]) (an := (.n none .o (.n none (.n none .o (.n none (.loop ⟨[.lf (.int .i64)], [(8, .one (.h 0 []))], [], [], 2384⟩ false [(.exit 0, ⟨[], [], [], [], 2384⟩)] .o) .o)) .o))) pOk repOk (AllC.mem (l := []) trivial) hmix Try.call71 Try.func71 rfl rfl (by kernel_rfl) (fun h => by kernel_rfl)

noncomputable def slices_Contains_Part_Part (a0 : (List Part)) (a1 : Part) : Option (Bool) := Option.bind (slices_Index_Part_Part a0 a1) fun x1 => some (decide (x1 ≥ 0))
noncomputable def c59 : Con D := ⟨59, [.lf (.sl 5), .lf (.int .i64), .lf (.int .i64)], [.lf .bool], [.one (.h 0 [0]), .agg [.h 1 [], .h 2 []]], [], [.one (.h 0 [])], [], fun h => slices_Contains_Part_Part h.1 ⟨h.2.1, h.2.2⟩⟩
theorem c59_ok : ConOk Try.prog T c59 := fn_ok (Φ := [c71]) (rs := [.tmp 4]) (an := .o) pOk repOk (AllC.mem (⟨c71_ok, trivial⟩ : AllC _ _ [c71])) hmix Try.call59 Try.func59 rfl rfl (by kernel_rfl) (fun h => by kernel_rfl)

noncomputable def network_whole_L1 (a0 : Net) (a1 : List
  Part) (a2 : Int) : Int × List Cable →
  Option
    (Int × List Cable ⊕
      List
        Cable) := fun x1 =>
  if decide (x1.1 < len a0.Cables) = true then
    Option.bind (idx a0.Cables x1.1) fun x2 =>
      Option.bind
        (if (x2.Net == a2) = true then
          Option.bind (slices_Contains_Part_Part a1 (Part.mk 8 x1.1)) fun x3 => some !x3
        else some false)
        fun x4 =>
        Option.bind (if x4 = true then Option.bind (app x1.2 [x2]) fun x5 => some x5 else some x1.2) fun x6 =>
          some (.inl (W (x1.1 + 1), x6))
  else some (.inr x1.2)
noncomputable def network_whole (a0 : Net) (a1 : (List Part)) (a2 : Int) : Option ((List Cable)) := Option.bind (loopO (network_whole_L1 a0 a1 a2) (0, [])) fun x7 => some x7
noncomputable def c37 : Con D := ⟨37, [.lf (.int .i64), .lf (.sl 4), .lf (.sl 5), .lf (.int .i64)], [.lf (.sl 4)], [.agg [.h 0 [], .h 1 [0]], .one (.h 2 [0]), .one (.h 3 [])], [], [.one (.own 1000)], [(1000, .sl 4 38 0 [])], fun h => network_whole ⟨h.1, h.2.1⟩ h.2.2.1 h.2.2.2⟩
theorem c37_ok : ConOk Try.prog T c37 := fn_ok (Φ := [c59]) (rs := [.tmp 6]) (an := (.n none .o (.n none .o (.n none (.n none .o (.n none (.loop ⟨[.lf (.int .i64), .lf (.sl 4)], [(7, .one (.own 2448)), (13, .one (.h 0 []))], [(2448, .sl 4 38 1 [])], [], 2512⟩ true [(.exit 0, ⟨[.lf (.sl 4)], [(7, .one (.own 2448))], [(2448, .sl 4 38 0 [])], [], 2512⟩)] (.n none .o (.n none .o (.n none (.n none (.n none .o (.n none (.r (some (true, [(.normal, ⟨[.lf .bool], [(23, .one (.any)), (24, .one (.any)), (25, .one (.any)), (26, .one (.any)), (27, .one (.any)), (28, .one (.h 0 []))], [], [], 3026⟩)])) .nil) (.n (some (true, [(.normal, ⟨[.lf (.sl 4)], [(7, .one (.own 3027))], [(3027, .sl 4 38 0 [])], [2448], 3091⟩)])) .o .o))) .o) .o)))) .o)) .o)))) pOk repOk (AllC.mem (⟨c59_ok, trivial⟩ : AllC _ _ [c59])) hmix Try.call37 Try.func37 rfl rfl (by kernel_rfl) (fun h => by kernel_rfl)

noncomputable def network_Reach_L2 (x6 : List
  Cable) : Int × List Bool →
  Option
    (Int × List Bool ⊕
      List Bool ⊕
        List
          Bool) := fun x8 =>
  if decide (x8.1 < len x6) = true then
    Option.bind (idx x6 x8.1) fun x9 =>
      Option.bind (idx x8.2 x9.A) fun x10 =>
        Option.bind (idx x8.2 x9.B) fun x11 =>
          if (!x10 == x11) = true then
            Option.bind (idx x8.2 x9.A) fun x12 =>
              Option.bind (idx x8.2 x9.A) fun x13 =>
                Option.bind (setO x8.2 x9.A true) fun x14 =>
                  Option.bind (idx x14 x9.B) fun x15 =>
                    Option.bind (idx x14 x9.B) fun x16 =>
                      Option.bind (setO x14 x9.B true) fun x17 => some (.inr (.inr x17))
          else some (.inl (W (x8.1 + 1), x8.2))
  else some (.inr (.inl x8.2))
noncomputable def network_Reach_L1 (a4 : Int) (x6 : List
  Cable) : List Bool →
  Option
    (List Bool ⊕
      Bool) := fun x7 =>
  Option.bind (loopO (network_Reach_L2 x6) (0, x7)) fun x18 =>
    Sum.elim (fun x19 => Option.bind (idx x19 a4) fun x20 => some (.inr x20)) (fun x21 => some (.inl x21)) x18
noncomputable def network_Reach (a0 : Net) (a1 : (List Part)) (a2 : Int) (a3 : Int) (a4 : Int) : Option (Bool) :=
  Option.bind (network_right a0 a2 [a3, a4]) fun x1 =>
    if (!x1) = true then some false
    else
      Option.bind (mkZ false a0.Nodes) fun x2 =>
        Option.bind (idx x2 a3) fun x3 =>
          Option.bind (idx x2 a3) fun x4 =>
            Option.bind (setO x2 a3 true) fun x5 =>
              Option.bind (network_whole a0 a1 a2) fun x6 =>
                Option.bind (loopO (network_Reach_L1 a4 x6) x5) fun x22 => some x22
noncomputable def c16 : Con D := ⟨16, [.lf (.int .i64), .lf (.sl 4), .lf (.sl 5), .lf (.int .i64), .lf (.int .i64), .lf (.int .i64)], [.lf .bool], [.agg [.h 0 [], .h 1 [0]], .one (.h 2 [0]), .one (.h 3 []), .one (.h 4 []), .one (.h 5 [])], [], [.one (.h 0 [])], [], fun h => network_Reach ⟨h.1, h.2.1⟩ h.2.2.1 h.2.2.2.1 h.2.2.2.2.1 h.2.2.2.2.2⟩
theorem c16_ok : ConOk Try.prog T c16 := fn_ok (Φ := [c36, c37]) (rs := [.tmp 10]) (an := (.n none .o (.n none (.n none .o (.n none .o (.n none .o (.n none .o (.lab ⟨[.lf (.sl 1)], [], [(2704, .sl 1 4 0 [])], [2704], 3472⟩ false [] (.n none (.n none .o (.n none (.loop ⟨[.lf (.int .i64), .lf (.sl 1)], [(34, .one (.h 0 []))], [(2704, .sl 1 4 1 [])], [2704], 3729⟩ true [(.exit 0, ⟨[.lf (.sl 1)], [], [(2704, .sl 1 4 0 [])], [2704], 3729⟩), (.goto 0, ⟨[.lf (.sl 1)], [], [(2704, .sl 1 4 0 [])], [2704], 3729⟩)] .o) .o)) .o)))))) .o))) pOk repOk (AllC.mem (⟨c36_ok, c37_ok, trivial⟩ : AllC _ _ [c36, c37])) hmix Try.call16 Try.func16 rfl rfl (by kernel_rfl) (fun h => by kernel_rfl)

noncomputable def network_Copies_L1 (a0 : Net) (a1 : List
  Part) (a2 : Int) (a3 : Int) : Int × Int →
  Option
    (Int × Int ⊕
      Int) := fun x1 =>
  if decide (x1.2 < 2) = true then
    Option.bind (network_Reach a0 a1 x1.2 a2 a3) fun x2 =>
      Option.bind (if x2 = true then some (W (x1.1 + 1)) else some x1.1) fun x3 =>
        some (.inl (x3, W (x1.2 + 1)))
  else some (.inr x1.1)
noncomputable def network_Copies (a0 : Net) (a1 : (List Part)) (a2 : Int) (a3 : Int) : Option (Int) := Option.bind (loopO (network_Copies_L1 a0 a1 a2 a3) (0, 0)) fun x4 => some x4
noncomputable def c18 : Con D := ⟨18, [.lf (.int .i64), .lf (.sl 4), .lf (.sl 5), .lf (.int .i64), .lf (.int .i64)], [.lf (.int .i64)], [.agg [.h 0 [], .h 1 [0]], .one (.h 2 [0]), .one (.h 3 []), .one (.h 4 [])], [], [.one (.h 0 [])], [], fun h => network_Copies ⟨h.1, h.2.1⟩ h.2.2.1 h.2.2.2.1 h.2.2.2.2⟩
theorem c18_ok : ConOk Try.prog T c18 := fn_ok (Φ := [c16]) (rs := [.tmp 8]) (an := (.n none .o (.n none .o (.n none (.n none .o (.n none (.loop ⟨[.lf (.int .i64), .lf (.int .i64)], [(9, .one (.h 0 [])), (11, .one (.h 1 []))], [], [], 2320⟩ true [(.exit 0, ⟨[.lf (.int .i64)], [(9, .one (.h 0 []))], [], [], 2320⟩)] (.n none .o (.n none .o (.n none (.n none (.n none .o (.n none .o (.n (some (true, [(.normal, ⟨[.lf (.int .i64)], [(9, .one (.h 0 []))], [], [], 2962⟩)])) .o .o))) .o) .o)))) .o)) .o)))) pOk repOk (AllC.mem (⟨c16_ok, trivial⟩ : AllC _ _ [c16])) hmix Try.call18 Try.func18 rfl rfl (by kernel_rfl) (fun h => by kernel_rfl)

noncomputable def slices_Index_int_int_L1 (a0 : List
  Int) (a1 : Int) : Int →
  Option
    (Int ⊕
      Unit ⊕
        Int) := fun x1 =>
  if decide (x1 < len a0) = true then
    Option.bind (idx a0 x1) fun x2 =>
      if (a1 == x2) = true then some (.inr (.inr x1)) else some (.inl (W (x1 + 1)))
  else some (.inr (.inl ()))
noncomputable def slices_Index_int_int (a0 : (List Int)) (a1 : Int) : Option (Int) :=
  Option.bind (loopO (slices_Index_int_int_L1 a0 a1) 0) fun x3 =>
    Sum.elim (fun x4 => some (-1)) (fun x5 => some x5) x3
noncomputable def c61 : Con D := ⟨61, [.lf (.sl 0), .lf (.int .i64)], [.lf (.int .i64)], [.one (.h 0 [0]), .one (.h 1 [])], [], [.one (.h 0 [])], [], fun h => slices_Index_int_int h.1 h.2⟩
theorem c61_ok : ConOk Try.prog T c61 := fn_ok (Φ := []) (rs := [.tmp 4]) (an := (.n none .o (.n none (.n none .o (.n none (.loop ⟨[.lf (.int .i64)], [(8, .one (.h 0 []))], [], [], 2320⟩ false [(.exit 0, ⟨[], [], [], [], 2320⟩)] .o) .o)) .o))) pOk repOk (AllC.mem (l := []) trivial) hmix Try.call61 Try.func61 rfl rfl (by kernel_rfl) (fun h => by kernel_rfl)

noncomputable def slices_Contains_int_int (a0 : (List Int)) (a1 : Int) : Option (Bool) := Option.bind (slices_Index_int_int a0 a1) fun x1 => some (decide (x1 ≥ 0))
noncomputable def c42 : Con D := ⟨42, [.lf (.sl 0), .lf (.int .i64)], [.lf .bool], [.one (.h 0 [0]), .one (.h 1 [])], [], [.one (.h 0 [])], [], fun h => slices_Contains_int_int h.1 h.2⟩
theorem c42_ok : ConOk Try.prog T c42 := fn_ok (Φ := [c61]) (rs := [.tmp 4]) (an := .o) pOk repOk (AllC.mem (⟨c61_ok, trivial⟩ : AllC _ _ [c61])) hmix Try.call42 Try.func42 rfl rfl (by kernel_rfl) (fun h => by kernel_rfl)

noncomputable def cmp_Less_int (a0 : Int) (a1 : Int) : Option (Bool) :=
  Option.bind
    (Option.bind (cmp_isNaN_int a0) fun x1 =>
      if x1 = true then
        Option.bind (cmp_isNaN_int a1) fun x2 => if (!x2) = true then some true else some (decide (a0 < a1))
      else some (decide (a0 < a1)))
    fun x3 => some x3
noncomputable def c66 : Con D := ⟨66, [.lf (.int .i64), .lf (.int .i64)], [.lf .bool], [.one (.h 0 []), .one (.h 1 [])], [], [.one (.h 0 [])], [], fun h => cmp_Less_int h.1 h.2⟩
theorem c66_ok : ConOk Try.prog T c66 := fn_ok (Φ := [c70]) (rs := [.tmp 4]) (an := (.n none .o (.n none (.r (some (true, [(.normal, ⟨[.lf .bool], [(4, .one (.h 0 []))], [], [], 2128⟩)])) .nil) .o))) pOk repOk (AllC.mem (⟨c70_ok, trivial⟩ : AllC _ _ [c70])) hmix Try.call66 Try.func66 rfl rfl (by kernel_rfl) (fun h => by kernel_rfl)

noncomputable def slices_isNaN_int (a0 : Int) : Option (Bool) := some (a0 != a0)
noncomputable def c67 : Con D := ⟨67, [.lf (.int .i64)], [.lf .bool], [.one (.h 0 [])], [], [.one (.h 0 [])], [], fun h => slices_isNaN_int h⟩
theorem c67_ok : ConOk Try.prog T c67 := fn_ok (Φ := []) (rs := [.tmp 2]) (an := .o) pOk repOk (AllC.mem (l := []) trivial) hmix Try.call67 Try.func67 rfl rfl (by kernel_rfl) (fun h => by kernel_rfl)

noncomputable def slices_BinarySearch_int_int_L1 (a0 : List
  Int) (a1 : Int) : Int × Int →
  Option
    (Int × Int ⊕
      Int) := fun x1 =>
  if decide (x1.1 < x1.2) = true then
    Option.bind (shrO 64 (iwrap IntKind.u64 (W (x1.1 + x1.2))) 1) fun x2 =>
      Option.bind (idx a0 (W x2)) fun x3 =>
        Option.bind (cmp_Less_int x3 a1) fun x4 =>
          Option.bind (if x4 = true then some (W (W x2 + 1), x1.2) else some (x1.1, W x2)) fun x5 =>
            some (.inl (x5.1, x5.2))
  else some (.inr x1.1)
noncomputable def slices_BinarySearch_int_int (a0 : (List Int)) (a1 : Int) : Option (Int × Bool) :=
  Option.bind (loopO (slices_BinarySearch_int_int_L1 a0 a1) (0, len a0)) fun x6 =>
    Option.bind
      (if decide (x6 < len a0) = true then
        Option.bind (idx a0 x6) fun x7 =>
          if (x7 == a1) = true then some (x6, true)
          else
            Option.bind (idx a0 x6) fun x8 =>
              Option.bind (slices_isNaN_int x8) fun x9 =>
                if x9 = true then Option.bind (slices_isNaN_int a1) fun x10 => some (x6, x10) else some (x6, false)
      else some (x6, false))
      fun x11 => some (x11.1, x11.2)
noncomputable def c52 : Con D := ⟨52, [.lf (.sl 0), .lf (.int .i64)], [.lf (.int .i64), .lf .bool], [.one (.h 0 [0]), .one (.h 1 [])], [], [.one (.h 0 []), .one (.h 1 [])], [], fun h => slices_BinarySearch_int_int h.1 h.2⟩
theorem c52_ok : ConOk Try.prog T c52 := fn_ok (Φ := [c66, c67]) (rs := [.tmp 4, .tmp 5]) (an := (.n none .o (.n none .o (.n none .o (.n none (.n none (.loop ⟨[.lf (.int .i64), .lf (.int .i64)], [(7, .one (.h 0 [])), (8, .one (.h 1 []))], [], [], 2576⟩ true [(.exit 0, ⟨[.lf (.int .i64)], [(7, .one (.h 0 []))], [], [], 2576⟩)] (.n none .o (.n none (.n none .o (.n none .o (.n (some (true, [(.normal, ⟨[.lf (.int .i64), .lf (.int .i64)], [(7, .one (.h 0 [])), (8, .one (.h 1 []))], [], [], 3666⟩)])) .o .o))) .o))) .o) (.n none (.r (some (true, [(.normal, ⟨[.lf (.int .i64), .lf .bool], [(4, .one (.h 0 [])), (5, .one (.h 1 []))], [], [], 2641⟩)])) .nil) .o)))))) pOk repOk (AllC.mem (⟨c66_ok, c67_ok, trivial⟩ : AllC _ _ [c66, c67])) hmix Try.call52 Try.func52 rfl rfl (by kernel_rfl) (fun h => by kernel_rfl)

noncomputable def slices_Insert_int_int (a0 : (List Int)) (a1 : Int) (a2 : (List Int)) : Option ((List Int)) := insO a0 a1 a2
noncomputable def c53 : Con D := ⟨53, [.lf (.sl 0), .lf (.int .i64), .lf (.sl 0)], [.lf (.sl 0)], [.one (.own 1000), .one (.h 1 []), .one (.own 1001)], [(1000, .sl 0 3 0 [0]), (1001, .sl 0 3 2 [0])], [.one (.own 1002)], [(1002, .sl 0 3 0 [])], fun h => slices_Insert_int_int h.1 h.2.1 h.2.2⟩

theorem c53_ok : ConOk Try.prog T c53 := by
  refine ⟨Try.call53, rfl, rfl, rfl, rfl, fun h0 r0 hr0 avs obs has hobs γ w vs hv hO => ?_⟩
  cases has
  cases hobs
  match vs, hv with
  | [], hv => exact hv.elim
  | [_], hv => exact hv.2.elim
  | [_, _], hv => exact hv.2.2.elim
  | _ :: _ :: _ :: _ :: _, hv => exact hv.2.2.2.elim
  | [v1, v2, v3], hv =>
  obtain ⟨xs, hxs⟩ : ∃ xs : List (D 0), xs = h0.1 := ⟨_, rfl⟩
  obtain ⟨iz, hiz⟩ : ∃ iz : Int, iz = h0.2.1 := ⟨_, rfl⟩
  obtain ⟨ys, hys⟩ : ∃ ys : List (D 0), ys = h0.2.2 := ⟨_, rfl⟩
  obtain ⟨r, hrr⟩ : ∃ r : List (D 0), r = r0 := ⟨_, rfl⟩
  have hr : insO xs iz ys = some r := by rw [hxs, hiz, hys, hrr]; exact hr0
  have g1 : Ow 3 γ.o 1000 [0] w v1 xs := by rw [hxs, hv.1.2.1]; exact (hO.ob 1000 _ rfl).2.2.1
  have g3 : Ow 3 γ.o 1001 [0] w v3 ys := by rw [hys, hv.2.2.1.2.1]; exact (hO.ob 1001 _ rfl).2.2.1
  have g2 : v2 = .int .i64 iz := by rw [hiz]; exact hv.2.1.1
  subst hrr
  clear hr0 hv hO hxs hiz hys
  haveI : Flat (D 0) := flat0
  have hT := slr22.2
  have hu := slr22.1
  obtain ⟨b1, b2, b3, b4, b5, rfl⟩ := ins_some hr
  obtain ⟨q, rfl⟩ : ∃ q : Nat, iz = (q : Int) := ⟨iz.toNat, by omega⟩
  have hq : q ≤ xs.length := by omega
  have hm : 0 < ys.length := List.length_pos_iff.2 b3
  obtain ⟨p, cap, rfl, hnc, hcm⟩ := Ow.shape g1
  obtain ⟨bv, capv, rfl⟩ := Ow.shape1 g3 b3
  subst g2
  have hcm' : cap ≤ maxLen := hcm
  have hWn : W ((xs.length : Int) + (ys.length : Int)) = ((xs.length + ys.length : Nat) : Int) := by rw [W_in (by omega) (by omega)]; omega
  have hWq : W ((q : Int) + (ys.length : Int)) = ((q + ys.length : Nat) : Int) := by rw [W_in (by omega) (by omega)]; omega
  refine enter (l := [.slice p xs.length cap, .int .i64 q, .slice (some ⟨bv, 0, none⟩) ys.length capv]) Try.func53 rfl Try.ntmps53 rfl ?_
  refine CW.sub (L' := [(0, .slice p xs.length cap), (1, .int .i64 q), (2, .slice (some ⟨bv, 0, none⟩) ys.length capv)]) ⟨rfl, rfl, rfl, trivial⟩ ?_
  refine CW.sr fun K0 hK0 => ?_
  refine WL.p (.slice none 0 0) rfl rfl ?_
  refine WL.nx hK0 ?_
  refine CW.sr fun K1 hK1 => ?_
  refine WL.p (.slice p xs.length cap) rfl rfl ?_
  refine WL.p (.int .i64 q) rfl rfl ?_
  refine WL.stepP (OW.tlAny hu hT rfl rfl hq hnc) rfl fun _ _ => ?_
  refine WL.nx hK1 ?_
  refine CW.sr fun K2 hK2 => ?_
  refine WL.p (.slice (some ⟨bv, 0, none⟩) ys.length capv) rfl rfl ?_
  refine WL.stepE (OW.lenHead hu rfl) rfl ?_
  refine WL.p (.int .i64 ys.length) rfl rfl ?_
  refine WL.nx hK2 ?_
  refine CW.seq fun K3 hK3 => ?_
  refine CW.sr fun K4 hK4 => ?_
  refine WL.p (.int .i64 ys.length) rfl rfl ?_
  refine WL.pe (v' := .bool false) rfl (congrArg Value.bool (beq_eq_false_iff_ne.2 (by omega))) rfl ?_
  refine WL.nx hK4 ?_
  refine CW.cond (b := false) rfl (fun h => nomatch h) (fun _ => ?_)
  refine CW.skip ?_
  refine hK3 _ _ ?_
  refine CW.sr fun K5 hK5 => ?_
  refine WL.p (.slice p xs.length cap) rfl rfl ?_
  refine WL.stepE (OW.lenHead hu rfl) rfl ?_
  refine WL.p (.int .i64 xs.length) rfl rfl ?_
  refine WL.nx hK5 ?_
  refine CW.seq fun K6 hK6 => ?_
  refine CW.sr fun K7 hK7 => ?_
  refine WL.p (.int .i64 q) rfl rfl ?_
  refine WL.p (.int .i64 xs.length) rfl rfl ?_
  by_cases hqn : q = xs.length
  · refine WL.pe (v' := .bool true) rfl (congrArg Value.bool (beq_iff_eq.2 (by omega))) rfl ?_
    refine WL.nx hK7 ?_
    refine CW.cond (b := true) rfl (fun _ => ?_) (fun h => nomatch h)
    refine CW.sr fun K8 hK8 => ?_
    refine WL.p (.slice p xs.length cap) rfl rfl ?_
    refine WL.p (.slice (some ⟨bv, 0, none⟩) ys.length capv) rfl rfl ?_
    refine WL.step (OW.append (K := [0]) hu hT rfl rfl g1 g3.els b4 rfl) rfl ?_
    rintro v' w' ⟨o', ev, how⟩
    refine WL.p v' rfl rfl ?_
    refine WL.nx hK8 ?_
    have hres : xs.take (q : Int).toNat ++ ys ++ xs.drop (q : Int).toNat = xs ++ ys := by
      rw [Int.toNat_natCast, hqn, List.take_length, List.drop_length, List.append_nil]
    rw [← hres] at how
    exact CW.rets (vs := [v']) Try.results53 ⟨rfl, trivial⟩ ⟨_, rfl, end_row (n := 0) (e := 3) (q := 1002) (k := 1000) (K := []) (M := [1000]) (N := [1000]) rfl rfl rfl (by omega) (by omega) (by simp) (by simp) ev how (fun x hx => by simp at hx)⟩ (fun _ _ h => h)
  refine WL.pe (v' := .bool false) rfl (congrArg Value.bool (beq_eq_false_iff_ne.2 (by omega))) rfl ?_
  refine WL.nx hK7 ?_
  refine CW.cond (b := false) rfl (fun h => nomatch h) (fun _ => ?_)
  refine CW.skip ?_
  refine hK6 _ _ ?_
  obtain ⟨b, rfl⟩ := Ow.block g1 (fun h => by rw [h] at hq hqn; simp at hq hqn; omega)
  obtain ⟨c1, c2, S, r1, r2, r3, r4, r5, r6, r7, _, _, _⟩ := Ow.split g1 hq
  obtain ⟨z1, cv, Sv, s1, s2, s3, s4, s5, s6, s7, _, _, _⟩ := Ow.split g3 (Nat.zero_le _)
  have hz1 : z1.flatten = [] := List.eq_nil_of_length_eq_zero (by rw [s4]; omega)
  rw [hz1] at s1
  rw [List.drop_zero] at s3
  have hbv : bv ≠ b := fun h => by rw [h, r7] at s7; cases s7
  have hbl : b < w.heap.size := (Array.getElem?_eq_some_iff.1 r1).1
  have hbvl : bv < w.heap.size := (Array.getElem?_eq_some_iff.1 s1).1
  have hsz : 0 < Rep.sz (D 0) := Rep.pos
  have hcv : cv.flatten.length = min ys.length (xs.length + ys.length - q) * Rep.sz (D 0) := by rw [s5, Nat.min_eq_left (by omega)]; rfl
  have hqt : ((q : Int)).toNat = q := Int.toNat_natCast q
  have hfin : All2 (Rep.rd (In γ.o [0]) w) (c1 ++ cv ++ c2) (xs.take (q : Int).toNat ++ ys ++ xs.drop (q : Int).toNat) := by rw [hqt]; exact (r2.append s3).append r3
  have hlen : (xs.take (q : Int).toNat ++ ys ++ xs.drop (q : Int).toNat).length = xs.length + ys.length := by rw [hqt]; simp; omega
  refine CW.seq fun K9 hK9 => ?_
  refine CW.sr fun K10 hK10 => ?_
  refine WL.p (.int .i64 xs.length) rfl rfl ?_
  refine WL.p (.int .i64 ys.length) rfl rfl ?_
  refine WL.pe (v' := .int .i64 ((xs.length + ys.length : Nat) : Int)) rfl (congrArg _ hWn) rfl ?_
  refine WL.p (.slice (some ⟨b, 0, none⟩) xs.length cap) rfl rfl ?_
  refine WL.stepE (OW.cap hu rfl hcm) rfl ?_
  by_cases hg : cap < xs.length + ys.length
  · refine WL.pe (v' := .bool true) rfl (congrArg Value.bool (decide_eq_true (by omega))) rfl ?_
    refine WL.nx hK10 ?_
    refine CW.cond (b := true) rfl (fun _ => ?_) (fun h => nomatch h)
    refine CW.sr fun K11 hK11 => ?_
    refine WL.p (.slice (some ⟨b, 0, none⟩) xs.length cap) rfl rfl ?_
    refine WL.p (.int .i64 q) rfl rfl ?_
    refine WL.stepE (OW.pre hu hT rfl rfl (by omega)) rfl ?_
    refine WL.p (.int .i64 xs.length) rfl rfl ?_
    refine WL.p (.int .i64 ys.length) rfl rfl ?_
    refine WL.pe (v' := .int .i64 ((xs.length + ys.length : Nat) : Int)) rfl (congrArg _ hWn) rfl ?_
    refine WL.p (.int .i64 q) rfl rfl ?_
    refine WL.pe (v' := .int .i64 ((xs.length + ys.length - q : Nat) : Int)) rfl (congrArg _ (by rw [W_in (by omega) (by omega)]; omega)) rfl ?_
    refine WL.step (OW.appZ (A := c1.flatten) (B := c2.flatten ++ S) hu hT Try.underlying3 rfl rfl (by rw [← List.append_assoc]; exact r1) r4 (by omega) (by omega) (by omega)) rfl ?_
    rintro v' w' ⟨G, Z, rfl, hG1, hG2, hZ, rfl⟩
    rw [show q + (xs.length + ys.length - q) = xs.length + ys.length by omega] at hG1 ⊢
    obtain ⟨Y, X, S2, rfl, hY, hX, hS2⟩ := cut3 Z (ys.length * Rep.sz (D 0)) ((xs.length - q) * Rep.sz (D 0)) (by rw [hZ, ← Nat.add_mul]; exact Nat.mul_le_mul_right _ (by omega))
    refine WL.p (.slice (some ⟨w.heap.size, 0, none⟩) (xs.length + ys.length) G) rfl rfl ?_
    refine WL.nx hK11 ?_
    obtain ⟨w1, hw1⟩ : ∃ w1, w1 = w.drew.alloc (.cells (c1.flatten ++ (Y ++ X ++ S2)).toArray 3) := ⟨_, rfl⟩
    rw [← hw1]
    have hN1 : w1.heap[w.heap.size]? = some (.cells (c1.flatten ++ Y ++ (X ++ S2)).toArray 3 (0, 0)) := by rw [hw1, show c1.flatten ++ Y ++ (X ++ S2) = c1.flatten ++ (Y ++ X ++ S2) by simp only [List.append_assoc]]; exact heap_alloc_new w.drew _
    have hO1 : ∀ x, x < w.heap.size → w1.heap[x]? = w.heap[x]? := fun x hx => by rw [hw1]; exact Below.heap_alloc w.drew _ x hx
    have ev1 : Evo [] [1000] γ.o w (grow γ.o w 1000) w1 := by rw [hw1]; exact Evo.fresh 1000 ((Below.refl _ _).drew.alloc (Nat.le_refl _) _)
    refine CW.sr fun K12 hK12 => ?_
    refine WL.p (.slice (some ⟨w.heap.size, 0, none⟩) (xs.length + ys.length) G) rfl rfl ?_
    refine WL.p (.int .i64 q) rfl rfl ?_
    refine WL.stepE (OW.tl hu hT rfl rfl (by omega) hG1 (by omega)) rfl ?_
    refine WL.p (.slice (some ⟨bv, 0, none⟩) ys.length capv) rfl rfl ?_
    refine WL.step (OW.copyRow (A := c1.flatten) (X := Y) (B := X ++ S2) (src := cv.flatten) hu hT rfl rfl hN1 r4 (by rw [hY, s5]; rfl) hcv (row_cells (A := []) (B := Sv) (by rw [hO1 _ hbvl]; exact s1) rfl) (oneCells s3)) rfl ?_
    rintro v2 w2 hw2
    have hN2 : w2.heap[w.heap.size]? = some (.cells (c1.flatten ++ cv.flatten ++ X ++ S2).toArray 3 (0, 0)) := by rw [hw2, List.append_assoc _ X S2]; exact setRow_heap _ _ _ _ _ _ hN1
    have hO2 : ∀ x, x < w.heap.size → w2.heap[x]? = w.heap[x]? := fun x hx => by rw [hw2, setRow_other _ _ _ _ (by omega)]; exact hO1 x hx
    have ev2 : Evo [1000] [1000] γ.o w (grow γ.o w 1000) w2 := by rw [hw2]; exact (ev1.weaken (by simp) (by simp)).trans (evo_row _ (grow_new _ _ _ _ (Nat.le_refl _)))
    clear hw2 hw1 hO1 ev1
    refine WL.nx hK12 ?_
    refine CW.seq fun K13 hK13 => ?_
    refine CW.draw hmix 8 [46, 47, 48, 49, 50, 51, 52, 53] [.slice (some ⟨w.heap.size, 0, none⟩) (xs.length + ys.length) G, .int .i64 q, .int .i64 ys.length, .int .i64 ((q + ys.length : Nat) : Int), .slice (some ⟨w.heap.size, (q + ys.length) * Rep.sz (D 0), none⟩) (xs.length + ys.length - (q + ys.length)) (G - (q + ys.length)), .slice (some ⟨b, 0, none⟩) xs.length cap, .int .i64 q, .slice (some ⟨b, q * Rep.sz (D 0), none⟩) (xs.length - q) (cap - q)] rfl rfl ⟨OW.pv rfl, OW.pv rfl, OW.pv rfl, OW.pvE rfl (congrArg _ hWq), OW.tl hu hT rfl rfl (by omega) hG1 (by omega), OW.pv rfl, OW.pv rfl, OW.tl hu hT rfl rfl hq hnc (by omega), trivial⟩ ?_
    refine WL.step (OW.copyRow (A := c1.flatten ++ cv.flatten) (X := X) (B := S2) (src := c2.flatten) hu hT rfl rfl hN2 (by rw [List.length_append, r4, s5, ← Nat.add_mul]; rfl) (by rw [hX, r5]) (by rw [r5]; congr 1; rw [Nat.min_eq_left] <;> omega) (row_cells (A := c1.flatten) (B := S) (by rw [show w2.drew.heap = w2.heap from rfl, hO2 _ hbl]; exact r1) r4) (oneCells r3)) rfl ?_
    rintro v3 w3 hw3
    have hN3 : w3.heap[w.heap.size]? = some (.cells ((c1 ++ cv ++ c2).flatten ++ S2).toArray 3 (0, 0)) := by rw [hw3, List.flatten_append, List.flatten_append]; exact setRow_heap w2.drew _ _ _ _ _ hN2
    have ev3 : Evo [1000] [1000] γ.o w (grow γ.o w 1000) w3 := by rw [hw3]; exact ev2.trans (evo_drew (evo_row _ (grow_new _ _ _ _ (Nat.le_refl _))))
    refine WL.nx hK13 ?_
    refine CW.sr fun K14 hK14 => ?_
    refine WL.p (.slice (some ⟨w.heap.size, 0, none⟩) (xs.length + ys.length) G) rfl rfl ?_
    refine WL.p (.slice (some ⟨w.heap.size, 0, none⟩) (xs.length + ys.length) G) rfl rfl ?_
    refine WL.nx hK14 ?_
    have how : Ow 3 (grow γ.o w 1000) 1000 [] w3 (.slice (some ⟨w.heap.size, 0, none⟩) (xs.take (q : Int).toNat ++ ys ++ xs.drop (q : Int).toNat).length G) (xs.take (q : Int).toNat ++ ys ++ xs.drop (q : Int).toNat) :=
      Ow.of_row hN3 (grow_new _ _ _ _ (Nat.le_refl _)) hfin (by rw [hlen]; exact hG1) hG2 (by rw [hS2, hlen, ← Nat.add_mul, show (Y ++ X ++ S2).length = (G - q) * Rep.sz (D 0) from hZ, ← Nat.sub_mul]; congr 1; omega)
    rw [hlen] at how
    exact CW.rets (vs := [.slice (some ⟨w.heap.size, 0, none⟩) (xs.length + ys.length) G]) Try.results53 ⟨rfl, trivial⟩ ⟨_, rfl, end_row (n := 0) (e := 3) (q := 1002) (k := 1000) (K := []) (M := [1000]) (N := [1000]) rfl rfl rfl (by omega) (by omega) (by simp) (by simp) ev3 how (fun x hx => by simp at hx)⟩ (fun _ _ h => h)
  refine WL.pe (v' := .bool false) rfl (congrArg Value.bool (decide_eq_false (by omega))) rfl ?_
  refine WL.nx hK10 ?_
  refine CW.cond (b := false) rfl (fun h => nomatch h) (fun _ => ?_)
  refine CW.skip ?_
  refine hK9 _ _ ?_
  obtain ⟨Y, X, S2, hS, hY, hX, hS2⟩ := cut3 (c2.flatten ++ S) (ys.length * Rep.sz (D 0)) ((xs.length - q) * Rep.sz (D 0)) (by rw [List.length_append, r5, r6, ← Nat.add_mul, ← Nat.add_mul]; exact Nat.mul_le_mul_right _ (by omega))
  have hrow : c1.flatten ++ c2.flatten ++ S = c1.flatten ++ Y ++ X ++ S2 := by rw [List.append_assoc, hS]; simp only [List.append_assoc]
  refine CW.sr fun K15 hK15 => ?_
  refine WL.p (.slice (some ⟨b, 0, none⟩) xs.length cap) rfl rfl ?_
  refine WL.p (.int .i64 xs.length) rfl rfl ?_
  refine WL.p (.int .i64 ys.length) rfl rfl ?_
  refine WL.pe (v' := .int .i64 ((xs.length + ys.length : Nat) : Int)) rfl (congrArg _ hWn) rfl ?_
  refine WL.stepE (OW.pre hu hT rfl rfl (by omega)) rfl ?_
  refine WL.p (.slice (some ⟨b, 0, none⟩) (xs.length + ys.length) cap) rfl rfl ?_
  refine WL.nx hK15 ?_
  refine CW.seq fun K16 hK16 => ?_
  refine CW.sr fun K17 hK17 => ?_
  refine WL.p (.slice (some ⟨bv, 0, none⟩) ys.length capv) rfl rfl ?_
  refine WL.p (.slice (some ⟨b, 0, none⟩) (xs.length + ys.length) cap) rfl rfl ?_
  refine WL.p (.int .i64 q) rfl rfl ?_
  refine WL.p (.int .i64 ys.length) rfl rfl ?_
  refine WL.pe (v' := .int .i64 ((q + ys.length : Nat) : Int)) rfl (congrArg _ hWq) rfl ?_
  refine WL.stepE (OW.tl hu hT rfl rfl (by omega) (by omega) (by omega)) rfl ?_
  refine WL.stepE (OW.overlaps (f := 68) (fn := Try.f68) (tR := 4) hu hT Try.func68 rfl rfl rfl rfl rfl rfl hbv s1 r1 (by simp only [List.size_toArray, List.length_append, r4, r5, r6, ← Nat.add_mul]; exact Nat.ne_of_gt (Nat.mul_pos (by omega) hsz))) rfl ?_
  refine WL.p (.bool true) rfl rfl ?_
  refine WL.nx hK17 ?_
  refine CW.cond (b := true) rfl (fun _ => ?_) (fun h => nomatch h)
  rw [hrow] at r1
  refine CW.seq fun K18 hK18 => ?_
  refine CW.draw hmix 8 [69, 70, 71, 72, 73, 74, 75, 76] [.slice (some ⟨b, 0, none⟩) (xs.length + ys.length) cap, .int .i64 q, .int .i64 ys.length, .int .i64 ((q + ys.length : Nat) : Int), .slice (some ⟨b, (q + ys.length) * Rep.sz (D 0), none⟩) (xs.length + ys.length - (q + ys.length)) (cap - (q + ys.length)), .slice (some ⟨b, 0, none⟩) (xs.length + ys.length) cap, .int .i64 q, .slice (some ⟨b, q * Rep.sz (D 0), none⟩) (xs.length + ys.length - q) (cap - q)] rfl rfl ⟨OW.pv rfl, OW.pv rfl, OW.pv rfl, OW.pvE rfl (congrArg _ hWq), OW.tl hu hT rfl rfl (by omega) (by omega) (by omega), OW.pv rfl, OW.pv rfl, OW.tl hu hT rfl rfl (by omega) (by omega) (by omega), trivial⟩ ?_
  refine WL.step (OW.copyRow (A := c1.flatten ++ Y) (X := X) (B := S2) (src := c2.flatten) hu hT rfl rfl r1 (by rw [List.length_append, r4, hY, ← Nat.add_mul]) (by rw [hX, r5]) (by rw [r5]; congr 1; rw [Nat.min_eq_right] <;> omega) (row_cells (A := c1.flatten) (B := S) (by rw [← hrow] at r1; exact r1) r4) (oneCells r3)) rfl ?_
  rintro v2 w2 hw2
  have hN2 : w2.heap[b]? = some (.cells (c1.flatten ++ Y ++ (c2.flatten ++ S2)).toArray 3 (0, 0)) := by rw [hw2, ← List.append_assoc]; exact setRow_heap w.drew _ _ _ _ _ r1
  have hV2 : w2.heap[bv]? = w.heap[bv]? := by rw [hw2]; exact setRow_other w.drew _ _ _ hbv
  have ev2 : Evo [1000] [1000] γ.o w γ.o w2 := by rw [hw2]; exact evo_drew (evo_row _ r7)
  clear hw2
  refine WL.nx hK18 ?_
  refine CW.sr fun K19 hK19 => ?_
  refine WL.p (.slice (some ⟨b, 0, none⟩) (xs.length + ys.length) cap) rfl rfl ?_
  refine WL.p (.int .i64 q) rfl rfl ?_
  refine WL.stepE (OW.tl hu hT rfl rfl (by omega) (by omega) (by omega)) rfl ?_
  refine WL.p (.slice (some ⟨bv, 0, none⟩) ys.length capv) rfl rfl ?_
  refine WL.step (OW.copyRow (A := c1.flatten) (X := Y) (B := c2.flatten ++ S2) (src := cv.flatten) hu hT rfl rfl hN2 r4 (by rw [hY, s5]; rfl) hcv (row_cells (A := []) (B := Sv) (by rw [hV2]; exact s1) rfl) (oneCells s3)) rfl ?_
  rintro v3 w3 hw3
  have hN3 : w3.heap[b]? = some (.cells ((c1 ++ cv ++ c2).flatten ++ S2).toArray 3 (0, 0)) := by rw [hw3, List.flatten_append, List.flatten_append, List.append_assoc _ c2.flatten S2]; exact setRow_heap _ _ _ _ _ _ hN2
  have ev3 : Evo [1000] [1000] γ.o w γ.o w3 := by rw [hw3]; exact ev2.trans (evo_row _ r7)
  refine WL.nx hK19 ?_
  refine CW.sr fun K20 hK20 => ?_
  refine WL.p (.slice (some ⟨b, 0, none⟩) (xs.length + ys.length) cap) rfl rfl ?_
  refine WL.p (.slice (some ⟨b, 0, none⟩) (xs.length + ys.length) cap) rfl rfl ?_
  refine WL.nx hK20 ?_
  have how : Ow 3 γ.o 1000 [] w3 (.slice (some ⟨b, 0, none⟩) (xs.take (q : Int).toNat ++ ys ++ xs.drop (q : Int).toNat).length cap) (xs.take (q : Int).toNat ++ ys ++ xs.drop (q : Int).toNat) :=
    Ow.of_row hN3 r7 hfin (by rw [hlen]; omega) hcm (by rw [hS2, hlen, List.length_append, r5, r6, ← Nat.add_mul, ← Nat.add_mul, ← Nat.sub_mul]; congr 1; omega)
  rw [hlen] at how
  exact CW.rets (vs := [.slice (some ⟨b, 0, none⟩) (xs.length + ys.length) cap]) Try.results53 ⟨rfl, trivial⟩ ⟨_, rfl, end_row (n := 0) (e := 3) (q := 1002) (k := 1000) (K := []) (M := [1000]) (N := [1000]) rfl rfl rfl (by omega) (by omega) (by simp) (by simp) ev3 how (fun x hx => by simp at hx)⟩ (fun _ _ h => h)

noncomputable def network_Accept_1 (a0 : Int) (a1 : Int) : Option (Bool × Int) := some (decide (a0 ≤ W (a1 - 32)), a1)
noncomputable def c55 : Con D := ⟨55, [.lf (.int .i64), .lf (.int .i64)], [.lf .bool, .lf (.int .i64)], [.one (.h 0 []), .one (.ptr 1000 0)], [(1000, .box [.h 1 [], .junk])], [.one (.h 0 [])], [(1000, .box [.h 1 [], .junk])], fun h => network_Accept_1 h.1 h.2⟩
theorem c55_ok : ConOk Try.prog T c55 := fn_ok (Φ := []) (rs := [.tmp 3]) (an := .o) pOk repOk (AllC.mem (l := []) trivial) hmix Try.call55 Try.func55 rfl rfl (by kernel_rfl) (fun h => by kernel_rfl)

noncomputable def slices_IndexFunc_int_int_v2_L1 (a0 : List
  Int) : Int × Int →
  Option
    (Int × Int ⊕
      Int ⊕
        Int ×
          Int) := fun x1 =>
  if decide (x1.1 < len a0) = true then
    Option.bind (idx a0 x1.1) fun x2 =>
      Option.bind (network_Accept_1 x2 x1.2) fun x3 =>
        if x3.1 = true then some (.inr (.inr (x1.1, x3.2)))
        else some (.inl (W (x1.1 + 1), x3.2))
  else some (.inr (.inl x1.2))
noncomputable def slices_IndexFunc_int_int_v2 (a0 : (List Int)) (a1 : Int) : Option (Int × Int) :=
  Option.bind (loopO (slices_IndexFunc_int_int_v2_L1 a0) (0, a1)) fun x4 =>
    Sum.elim (fun x5 => some ((-1), x5)) (fun x6 => some x6) x4
noncomputable def c65_2 : Con D := ⟨65, [.lf (.sl 0), .lf (.int .i64)], [.lf (.int .i64), .lf (.int .i64)], [.one (.h 0 [0]), .one (.fn 55 [.ptr 1000 0])], [(1000, .box [.h 1 [], .junk])], [.one (.h 0 [])], [(1000, .box [.h 1 [], .junk])], fun h => slices_IndexFunc_int_int_v2 h.1 h.2⟩
theorem c65_2_ok : ConOk Try.prog T c65_2 := fn_ok (Φ := [c55]) (rs := [.tmp 4]) (an := (.n none .o (.n none (.n none .o (.n none (.loop ⟨[.lf (.int .i64), .lf (.int .i64)], [(8, .one (.h 0 []))], [(1000, .box [.h 1 [], .junk])], [1000], 2320⟩ false [(.exit 0, ⟨[.lf (.int .i64)], [], [(1000, .box [.h 0 [], .junk])], [1000], 2320⟩)] .o) .o)) .o))) pOk repOk (AllC.mem (⟨c55_ok, trivial⟩ : AllC _ _ [c55])) hmix Try.call65 Try.func65 rfl rfl (by kernel_rfl) (fun h => by kernel_rfl)

noncomputable def slices_DeleteFunc_int_int_L1 : Int × Int × List Int × Int →
  Option
    (Int × Int × List Int × Int ⊕
      Int ×
        List Int ×
          Int) := fun x2 =>
  if decide (x2.2.1 < len x2.2.2.1) = true then
    Option.bind (idx x2.2.2.1 x2.2.1) fun x3 =>
      Option.bind (network_Accept_1 x3 x2.2.2.2) fun x4 =>
        Option.bind
          (if (!x4.1) = true then
            Option.bind (idx x2.2.2.1 x2.1) fun x5 =>
              Option.bind (idx x2.2.2.1 x2.1) fun x6 =>
                Option.bind (setO x2.2.2.1 x2.1 x3) fun x7 => some (W (x2.1 + 1), x7)
          else some (x2.1, x2.2.2.1))
          fun x8 => some (.inl (x8.1, W (x2.2.1 + 1), x8.2, x4.2))
  else some (.inr (x2.1, x2.2.2.1, x2.2.2.2))
noncomputable def slices_DeleteFunc_int_int (a0 : (List Int)) (a1 : Int) : Option (Int × (List Int)) :=
  Option.bind (slices_IndexFunc_int_int_v2 a0 a1) fun x1 =>
    if (x1.1 == (-1)) = true then some (x1.2, a0)
    else
      Option.bind (loopO slices_DeleteFunc_int_int_L1 (x1.1, W (x1.1 + 1), a0, x1.2)) fun x9 =>
        Option.bind (slc x9.2.1 x9.1 (len x9.2.1)) fun x10 =>
          Option.bind (slc (clrT 0 x9.2.1 x9.1) 0 x9.1) fun x11 =>
            some (x9.2.2, x11)
noncomputable def c54 : Con D := ⟨54, [.lf (.sl 0), .lf (.int .i64)], [.lf (.int .i64), .lf (.sl 0)], [.one (.own 1000), .one (.fn 55 [.ptr 1001 0])], [(1000, .sl 0 3 0 [0]), (1001, .box [.h 1 [], .junk])], [.one (.own 1002)], [(1001, .box [.h 0 [], .junk]), (1002, .sl 0 3 1 [0])], fun h => slices_DeleteFunc_int_int h.1 h.2⟩
theorem c54_ok : ConOk Try.prog T c54 := fn_ok (Φ := [c55, c65_2]) (rs := [.tmp 4]) (an := (.n none .o (.n none .o (.n none .o (.n none (.n none .o (.n none (.loop ⟨[.lf (.int .i64), .lf (.int .i64), .lf (.sl 0), .lf (.int .i64)], [(5, .one (.h 0 [])), (6, .one (.h 1 []))], [(1000, .sl 0 3 2 [0]), (1001, .box [.h 3 [], .junk])], [1000, 1001], 2704⟩ true [(.exit 0, ⟨[.lf (.int .i64), .lf (.sl 0), .lf (.int .i64)], [(5, .one (.h 0 []))], [(1000, .sl 0 3 1 [0]), (1001, .box [.h 2 [], .junk])], [1000, 1001], 2704⟩)] (.n none .o (.n none (.n none (.n none .o (.n none .o (.n (some (true, [(.normal, ⟨[.lf (.int .i64), .lf (.sl 0)], [(5, .one (.h 0 []))], [(1000, .sl 0 3 1 [0])], [1000], 3604⟩)])) .o .o))) .o) .o))) .o)) .o))))) pOk repOk (AllC.mem (⟨c55_ok, c65_2_ok, trivial⟩ : AllC _ _ [c55, c65_2])) hmix Try.call54 Try.func54 rfl rfl (by kernel_rfl) (fun h => by kernel_rfl)

noncomputable def network_Accept (a0 : Port) (a1 : Int) : Option (Int × Bool × (List Int)) :=
  Option.bind (network_copyPort a0) fun x1 =>
    Option.bind
      (Option.bind (network_Port a0) fun x2 =>
        if (!x2) = true then some true
        else
          if decide (a1 < 1) = true then some true
          else
            if decide (a1 > 2147483648) = true then some true
            else
              if (a1 == a0.High) = true then some true
              else
                if decide (a1 ≤ W (a0.High - 32)) = true then some true
                else Option.bind (slices_Contains_int_int a0.Below a1) fun x3 => some x3)
      fun x4 =>
      if x4 = true then some (x1.1, false, x1.2)
      else
        Option.bind (if decide (a1 > x1.1) = true then some (x1.1, a1) else some (a1, x1.1)) fun x5 =>
          Option.bind
            (if decide (x5.1 > 0) = true then
              Option.bind (slices_BinarySearch_int_int x1.2 x5.1) fun x6 =>
                Option.bind (slices_Insert_int_int x1.2 x6.1 [x5.1]) fun x7 => some (x5.2, x7)
            else some (x5.2, x1.2))
            fun x8 => Option.bind (slices_DeleteFunc_int_int x8.2 x8.1) fun x9 => some (x9.1, true, x9.2)
noncomputable def c29 : Con D := ⟨29, [.lf (.int .i64), .lf (.sl 0), .lf (.int .i64)], [.lf (.int .i64), .lf .bool, .lf (.sl 0)], [.agg [.h 0 [], .h 1 [0]], .one (.h 2 [])], [], [.agg [.h 0 [], .own 1000], .one (.h 1 [])], [(1000, .sl 0 3 2 [])], fun h => network_Accept ⟨h.1, h.2.1⟩ h.2.2⟩
theorem c29_ok : ConOk Try.prog T c29 := fn_ok (Φ := [c27, c42, c49, c52, c53, c54]) (rs := [.cell 4 28, .tmp 5]) (an := (.n none .o (.n none .o (.n none (.n none (.r (some (true, [(.normal, ⟨[.lf .bool], [(41, .one (.h 0 []))], [], [], 2512⟩)])) .nil) .o) (.n none .o (.n none (.n none .o (.n (some (true, [(.normal, ⟨[.lf (.int .i64), .lf (.int .i64)], [(7, .one (.h 0 []))], [(2320, .box [.h 1 [], .own 2264])], [2320], 2961⟩)])) .o .o)) (.n none (.n none .o (.n (some (true, [(.normal, ⟨[.lf (.int .i64), .lf (.sl 0)], [], [(2320, .box [.h 0 [], .own 3091]), (3091, .sl 0 3 1 [])], [2264, 2320], 3155⟩)])) .o .o)) .o))))))) pOk repOk (AllC.mem (⟨c27_ok, c42_ok, c49_ok, c52_ok, c53_ok, c54_ok, trivial⟩ : AllC _ _ [c27, c42, c49, c52, c53, c54])) hmix Try.call29 Try.func29 rfl rfl (by kernel_rfl) (fun h => by kernel_rfl)

end Rx
end Go.Proofs.Ytmgflnbgkpcbdaa
