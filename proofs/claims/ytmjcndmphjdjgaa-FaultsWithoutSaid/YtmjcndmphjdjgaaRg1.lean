/- Plain functions, walks. Written by a program (wip/gen). -/
import Derived.Test.YtmjcndmphjdjgaaRt
import Derived.Test.YtmjcndmphjdjgaaRf
set_option linter.unusedVariables false
set_option maxRecDepth 100000
namespace Go.Proofs.Ytmjcndmphjdjgaa
open Go Go.RowKit Dp
namespace Rx

noncomputable def design_Valid (a0 : Part) : Option (Bool) :=
  Option.bind
    (if decide (a0.Kind ≥ 1) = true then
      if decide (a0.Kind ≤ 9) = true then
        if decide (a0.Number ≥ 0) = true then some (decide (a0.Number ≤ 63)) else some false
      else some false
    else some false)
    fun x1 => some x1
noncomputable def c87 : Con D := ⟨87, [.lf (.int .i64), .lf (.int .i64)], [.lf .bool], [.agg [.h 0 [], .h 1 []]], [], [.one (.h 0 [])], [], fun h => design_Valid ⟨h.1, h.2⟩⟩
theorem c87_ok : ConOk Try.prog T c87 := fn_ok (Φ := []) (rs := [.tmp 2]) (an := (.n none .o (.n none (.r (some (true, [(.normal, ⟨[.lf .bool], [(2, .one (.h 0 []))], [], [], 2192⟩)])) .nil) .o))) pOk repOk (AllC.mem (l := []) trivial) hmix Try.call87 Try.func87 rfl rfl (by kernel_rfl) (fun h => by kernel_rfl)

noncomputable def faults_right (a0 : Fault) : Option (Bool) :=
  Option.bind
    (if decide (a0.Time ≥ 0) = true then
      if decide (a0.Time ≤ 2147483648) = true then
        if (a0.Kind == 1) = true then Option.bind (design_Valid a0.Part) fun x2 => some x2
        else
          if (a0.Kind == 2) = true then Option.bind (design_Valid a0.Part) fun x1 => some x1 else some false
      else some false
    else some false)
    fun x3 => some x3
noncomputable def c76 : Con D := ⟨76, [.lf (.int .i64), .lf (.int .i64), .lf (.int .i64), .lf (.int .i64)], [.lf .bool], [.agg [.h 0 [], .h 1 [], .h 2 [], .h 3 []]], [], [.one (.h 0 [])], [], fun h => faults_right ⟨h.1, h.2.1, ⟨h.2.2.1, h.2.2.2⟩⟩⟩
theorem c76_ok : ConOk Try.prog T c76 := fn_ok (Φ := [c87]) (rs := [.tmp 2]) (an := (.n none .o (.n none (.r (some (true, [(.normal, ⟨[.lf .bool], [(2, .one (.h 0 []))], [], [], 2192⟩)])) .nil) .o))) pOk repOk (AllC.mem (⟨c87_ok, trivial⟩ : AllC _ _ [c87])) hmix Try.call76 Try.func76 rfl rfl (by kernel_rfl) (fun h => by kernel_rfl)

noncomputable def faults_wrong_1 (a0 : Fault) : Option (Bool) := Option.bind (faults_right a0) fun x1 => some !x1
noncomputable def c75 : Con D := ⟨75, [.lf (.int .i64), .lf (.int .i64), .lf (.int .i64), .lf (.int .i64)], [.lf .bool], [.agg [.h 0 [], .h 1 [], .h 2 [], .h 3 []]], [], [.one (.h 0 [])], [], fun h => faults_wrong_1 ⟨h.1, h.2.1, ⟨h.2.2.1, h.2.2.2⟩⟩⟩
theorem c75_ok : ConOk Try.prog T c75 := fn_ok (Φ := [c76]) (rs := [.tmp 2]) (an := .o) pOk repOk (AllC.mem (⟨c76_ok, trivial⟩ : AllC _ _ [c76])) hmix Try.call75 Try.func75 rfl rfl (by kernel_rfl) (fun h => by kernel_rfl)

noncomputable def slices_IndexFunc_Fault_Fault_L1 (a0 : List
  Fault) : Int →
  Option
    (Int ⊕
      Unit ⊕
        Int) := fun x1 =>
  if decide (x1 < len a0) = true then
    Option.bind (idx a0 x1) fun x2 =>
      Option.bind (faults_wrong_1 x2) fun x3 =>
        if x3 = true then some (.inr (.inr x1)) else some (.inl (W (x1 + 1)))
  else some (.inr (.inl ()))
noncomputable def slices_IndexFunc_Fault_Fault (a0 : (List Fault)) : Option (Int) :=
  Option.bind (loopO (slices_IndexFunc_Fault_Fault_L1 a0) 0) fun x4 =>
    Sum.elim (fun x5 => some (-1)) (fun x6 => some x6) x4
noncomputable def c80 : Con D := ⟨80, [.lf (.sl 4)], [.lf (.int .i64)], [.one (.h 0 [0]), .one (.fn 75 [])], [], [.one (.h 0 [])], [], fun h => slices_IndexFunc_Fault_Fault h⟩
theorem c80_ok : ConOk Try.prog T c80 := fn_ok (Φ := [c75]) (rs := [.tmp 4]) (an := (.n none .o (.n none (.n none .o (.n none (.loop ⟨[.lf (.int .i64)], [(8, .one (.h 0 []))], [], [], 2320⟩ false [(.exit 0, ⟨[], [], [], [], 2320⟩)] .o) .o)) .o))) pOk repOk (AllC.mem (⟨c75_ok, trivial⟩ : AllC _ _ [c75])) hmix Try.call80 Try.func80 rfl rfl (by kernel_rfl) (fun h => by kernel_rfl)

noncomputable def slices_ContainsFunc_Fault_Fault (a0 : (List Fault)) : Option (Bool) := Option.bind (slices_IndexFunc_Fault_Fault a0) fun x1 => some (decide (x1 ≥ 0))
noncomputable def c74 : Con D := ⟨74, [.lf (.sl 4)], [.lf .bool], [.one (.h 0 [0]), .one (.fn 75 [])], [], [.one (.h 0 [])], [], fun h => slices_ContainsFunc_Fault_Fault h⟩
theorem c74_ok : ConOk Try.prog T c74 := fn_ok (Φ := [c80]) (rs := [.tmp 4]) (an := .o) pOk repOk (AllC.mem (⟨c80_ok, trivial⟩ : AllC _ _ [c80])) hmix Try.call74 Try.func74 rfl rfl (by kernel_rfl) (fun h => by kernel_rfl)

noncomputable def faults_wrong (a0 : (List Fault)) : Option (Bool) := Option.bind (slices_ContainsFunc_Fault_Fault a0) fun x1 => some x1
noncomputable def c46 : Con D := ⟨46, [.lf (.sl 4)], [.lf .bool], [.one (.h 0 [0])], [], [.one (.h 0 [])], [], fun h => faults_wrong h⟩
theorem c46_ok : ConOk Try.prog T c46 := fn_ok (Φ := [c74]) (rs := [.tmp 2]) (an := .o) pOk repOk (AllC.mem (⟨c74_ok, trivial⟩ : AllC _ _ [c74])) hmix Try.call46 Try.func46 rfl rfl (by kernel_rfl) (fun h => by kernel_rfl)

noncomputable def cmp_isNaN_int (a0 : Int) : Option (Bool) := some (a0 != a0)
noncomputable def c86 : Con D := ⟨86, [.lf (.int .i64)], [.lf .bool], [.one (.h 0 [])], [], [.one (.h 0 [])], [], fun h => cmp_isNaN_int h⟩
theorem c86_ok : ConOk Try.prog T c86 := fn_ok (Φ := []) (rs := [.tmp 2]) (an := .o) pOk repOk (AllC.mem (l := []) trivial) hmix Try.call86 Try.func86 rfl rfl (by kernel_rfl) (fun h => by kernel_rfl)

noncomputable def cmp_Compare_int (a0 : Int) (a1 : Int) : Option (Int) :=
  Option.bind (cmp_isNaN_int a0) fun x1 =>
    Option.bind (cmp_isNaN_int a1) fun x2 =>
      if x1 = true then if x2 = true then some 0 else some (-1)
      else
        if x2 = true then some 1
        else
          if decide (a0 < a1) = true then some (-1)
          else if decide (a0 > a1) = true then some 1 else some 0
noncomputable def c72 : Con D := ⟨72, [.lf (.int .i64), .lf (.int .i64)], [.lf (.int .i64)], [.one (.h 0 []), .one (.h 1 [])], [], [.one (.h 0 [])], [], fun h => cmp_Compare_int h.1 h.2⟩
theorem c72_ok : ConOk Try.prog T c72 := fn_ok (Φ := [c86]) (rs := [.tmp 4]) (an := .o) pOk repOk (AllC.mem (⟨c86_ok, trivial⟩ : AllC _ _ [c86])) hmix Try.call72 Try.func72 rfl rfl (by kernel_rfl) (fun h => by kernel_rfl)

noncomputable def cmp_Or_int_L1 (a0 : List
  Int) : Int →
  Option
    (Int ⊕
      Unit ⊕
        Int) := fun x1 =>
  if decide (x1 < len a0) = true then
    Option.bind (idx a0 x1) fun x2 =>
      if (x2 != 0) = true then some (.inr (.inr x2)) else some (.inl (W (x1 + 1)))
  else some (.inr (.inl ()))
noncomputable def cmp_Or_int (a0 : (List Int)) : Option (Int) :=
  Option.bind (loopO (cmp_Or_int_L1 a0) 0) fun x3 =>
    Sum.elim (fun x4 => some 0) (fun x5 => some x5) x3
noncomputable def c71 : Con D := ⟨71, [.lf (.sl 0)], [.lf (.int .i64)], [.one (.h 0 [0])], [], [.one (.h 0 [])], [], fun h => cmp_Or_int h⟩
theorem c71_ok : ConOk Try.prog T c71 := fn_ok (Φ := []) (rs := [.tmp 2]) (an := (.n none .o (.n none .o (.n none (.n none .o (.n none (.loop ⟨[.lf (.int .i64)], [(8, .one (.h 0 []))], [], [], 2384⟩ false [(.exit 0, ⟨[], [], [], [], 2384⟩)] .o) .o)) .o)))) pOk repOk (AllC.mem (l := []) trivial) hmix Try.call71 Try.func71 rfl rfl (by kernel_rfl) (fun h => by kernel_rfl)

noncomputable def design_Compare (a0 : Part) (a1 : Part) : Option (Int) :=
  Option.bind (cmp_Compare_int a0.Kind a1.Kind) fun x1 =>
    Option.bind (cmp_Compare_int a0.Number a1.Number) fun x2 => Option.bind (cmp_Or_int [x1, x2]) fun x3 => some x3
noncomputable def c73 : Con D := ⟨73, [.lf (.int .i64), .lf (.int .i64), .lf (.int .i64), .lf (.int .i64)], [.lf (.int .i64)], [.agg [.h 0 [], .h 1 []], .agg [.h 2 [], .h 3 []]], [], [.one (.h 0 [])], [], fun h => design_Compare ⟨h.1, h.2.1⟩ ⟨h.2.2.1, h.2.2.2⟩⟩
theorem c73_ok : ConOk Try.prog T c73 := fn_ok (Φ := [c71, c72]) (rs := [.tmp 4]) (an := .o) pOk repOk (AllC.mem (⟨c71_ok, c72_ok, trivial⟩ : AllC _ _ [c71, c72])) hmix Try.call73 Try.func73 rfl rfl (by kernel_rfl) (fun h => by kernel_rfl)

noncomputable def faults_compare (a0 : Fault) (a1 : Fault) : Option (Int) :=
  Option.bind (cmp_Compare_int a0.Time a1.Time) fun x1 =>
    Option.bind (design_Compare a0.Part a1.Part) fun x2 => Option.bind (cmp_Or_int [x1, x2]) fun x3 => some x3
noncomputable def c45 : Con D := ⟨45, [.lf (.int .i64), .lf (.int .i64), .lf (.int .i64), .lf (.int .i64), .lf (.int .i64), .lf (.int .i64), .lf (.int .i64), .lf (.int .i64)], [.lf (.int .i64)], [.agg [.h 0 [], .h 1 [], .h 2 [], .h 3 []], .agg [.h 4 [], .h 5 [], .h 6 [], .h 7 []]], [], [.one (.h 0 [])], [], fun h => faults_compare ⟨h.1, h.2.1, ⟨h.2.2.1, h.2.2.2.1⟩⟩ ⟨h.2.2.2.2.1, h.2.2.2.2.2.1, ⟨h.2.2.2.2.2.2.1, h.2.2.2.2.2.2.2⟩⟩⟩
theorem c45_ok : ConOk Try.prog T c45 := fn_ok (Φ := [c71, c72, c73]) (rs := [.tmp 4]) (an := .o) pOk repOk (AllC.mem (⟨c71_ok, c72_ok, c73_ok, trivial⟩ : AllC _ _ [c71, c72, c73])) hmix Try.call45 Try.func45 rfl rfl (by kernel_rfl) (fun h => by kernel_rfl)

noncomputable def slices_Backward_Fault_Fault (a0 : (List Fault)) : Option ((List Fault)) := some a0
noncomputable def c77 : Con D := ⟨77, [.lf (.sl 4)], [.lf (.sl 4)], [.one (.h 0 [0])], [], [.one (.fn 88 [.ptr 1000 0])], [(1000, .box [.h 0 [0]])], fun h => slices_Backward_Fault_Fault h⟩
theorem c77_ok : ConOk Try.prog T c77 := fn_ok (Φ := []) (rs := [.tmp 2]) (an := .o) pOk repOk (AllC.mem (l := []) trivial) hmix Try.call77 Try.func77 rfl rfl (by kernel_rfl) (fun h => by kernel_rfl)

theorem bk88 : BkOk Try.prog T (88, 4) := ⟨Try.f88, 26, 50, 3, 4, 101, .st 4, rfl, Try.call88, Try.func88, by kernel_rfl, rfl, rfl, rfl, rfl, rfl, rfl, rfl⟩
noncomputable def faults_last_L1 (a1 : Part) (x1 : List
  Fault) : Int × Int →
  Option
    (Int × Int ⊕
      Int ⊕
        Int) := fun x2 =>
  if decide (x2.1 < 0) = true then some (.inr (.inl x2.2))
  else
    Option.bind (idx x1 x2.1) fun x3 =>
      if (x3.Part.Kind == a1.Kind && x3.Part.Number == a1.Number) = true then some (.inr (.inr x3.Kind))
      else some (.inl (x2.1 - 1, x2.2))
noncomputable def faults_last (a0 : (List Fault)) (a1 : Part) : Option (Int) :=
  Option.bind (slices_Backward_Fault_Fault a0) fun x1 =>
    Option.bind (loopO (faults_last_L1 a1 x1) (len x1 - 1, 0)) fun x4 =>
      Sum.elim (fun x5 => some 2) (fun x6 => some x6) x4
noncomputable def c48 : Con D := ⟨48, [.lf (.sl 4), .lf (.int .i64), .lf (.int .i64)], [.lf (.int .i64)], [.one (.h 0 [0]), .agg [.h 1 [], .h 2 []]], [], [.one (.h 0 [])], [], fun h => faults_last h.1 ⟨h.2.1, h.2.2⟩⟩
theorem c48_ok : ConOk Try.prog T c48 := fnR_ok (Bk := [(88, 4)]) (Φ := [c77]) (rs := [.cell 4 3]) (an := (.n none .o (.n none (.n none .o (.loop ⟨[.lf (.int .i64), .lf (.int .i64)], [(9, .one (.h 0 []))], [(2064, .box [.h 1 []])], [2064], 2320⟩ false [(.exit 0, ⟨[.lf (.int .i64)], [], [(2064, .box [.h 0 []])], [2064], 2320⟩)] (.n none .o .o))) .o))) pOk repOk (AllC.mem (⟨c77_ok, trivial⟩ : AllC _ _ [c77])) hmix (fun q hq => (List.mem_singleton.1 hq) ▸ bk88) Try.call48 Try.func48 rfl rfl (by kernel_rfl) (fun h => by kernel_rfl)

noncomputable def faults_other (a0 : Int) : Option (Int) := some (W (3 - a0))
noncomputable def c47 : Con D := ⟨47, [.lf (.int .i64)], [.lf (.int .i64)], [.one (.h 0 [])], [], [.one (.h 0 [])], [], fun h => faults_other h⟩
theorem c47_ok : ConOk Try.prog T c47 := fn_ok (Φ := []) (rs := [.tmp 2]) (an := .o) pOk repOk (AllC.mem (l := []) trivial) hmix Try.call47 Try.func47 rfl rfl (by kernel_rfl) (fun h => by kernel_rfl)

noncomputable def faults_Check_L1 (a0 : List
  Fault) : Int →
  Option
    (Int ⊕
      Unit ⊕
        Int) := fun x2 =>
  if decide (x2 < len a0) = true then
    Option.bind (idx a0 (W (x2 - 1))) fun x3 =>
      Option.bind (idx a0 x2) fun x4 =>
        Option.bind (faults_compare x3 x4) fun x5 =>
          if decide (x5 ≥ 0) = true then some (.inr (.inr 7))
          else some (.inl (W (x2 + 1)))
  else some (.inr (.inl ()))
noncomputable def faults_Check_L2 (a0 : List
  Fault) : Int →
  Option
    (Int ⊕
      Unit ⊕
        Int) := fun x8 =>
  if decide (x8 < len a0) = true then
    Option.bind (idx a0 x8) fun x9 =>
      Option.bind (slc a0 0 x8) fun x10 =>
        Option.bind (faults_last x10 x9.Part) fun x11 =>
          Option.bind (faults_other x11) fun x12 =>
            if (x9.Kind != x12) = true then some (.inr (.inr 70))
            else some (.inl (W (x8 + 1)))
  else some (.inr (.inl ()))
noncomputable def faults_Check (a0 : (List Fault)) : Option (Int) :=
  if decide (len a0 > 24) = true then some 2
  else
    Option.bind (faults_wrong a0) fun x1 =>
      if x1 = true then some 1
      else
        Option.bind (loopO (faults_Check_L1 a0) 1) fun x6 =>
          Sum.elim
            (fun x7 =>
              Option.bind (loopO (faults_Check_L2 a0) 0) fun x13 =>
                Sum.elim (fun x14 => some 0) (fun x15 => some x15) x13)
            (fun x16 => some x16) x6
noncomputable def c14 : Con D := ⟨14, [.lf (.sl 4)], [.lf (.int .i64)], [.one (.h 0 [0])], [], [.one (.h 0 [])], [], fun h => faults_Check h⟩
theorem c14_ok : ConOk Try.prog T c14 := fn_ok (Φ := [c45, c46, c47, c48]) (rs := [.tmp 2]) (an := (.n none .o (.n none .o (.n none (.n none .o (.n none (.loop ⟨[.lf (.int .i64)], [(3, .one (.h 0 []))], [], [], 2640⟩ false [(.exit 1, ⟨[], [], [], [], 2640⟩)] .o) .o)) (.n none (.n none .o (.n none (.loop ⟨[.lf (.int .i64)], [(32, .one (.h 0 []))], [], [], 2896⟩ false [(.exit 3, ⟨[], [], [], [], 2896⟩)] .o) .o)) .o))))) pOk repOk (AllC.mem (⟨c45_ok, c46_ok, c47_ok, c48_ok, trivial⟩ : AllC _ _ [c45, c46, c47, c48])) hmix Try.call14 Try.func14 rfl rfl (by kernel_rfl) (fun h => by kernel_rfl)

noncomputable def cmp_Or_Errno_L1 (a0 : List
  Int) : Int →
  Option
    (Int ⊕
      Unit ⊕
        Int) := fun x1 =>
  if decide (x1 < len a0) = true then
    Option.bind (idx a0 x1) fun x2 =>
      if (x2 != 0) = true then some (.inr (.inr x2)) else some (.inl (W (x1 + 1)))
  else some (.inr (.inl ()))
noncomputable def cmp_Or_Errno (a0 : (List Int)) : Option (Int) :=
  Option.bind (loopO (cmp_Or_Errno_L1 a0) 0) fun x3 =>
    Sum.elim (fun x4 => some 0) (fun x5 => some x5) x3
noncomputable def c38 : Con D := ⟨38, [.lf (.sl 0)], [.lf (.int .i64)], [.one (.h 0 [0])], [], [.one (.h 0 [])], [], fun h => cmp_Or_Errno h⟩
theorem c38_ok : ConOk Try.prog T c38 := fn_ok (Φ := []) (rs := [.tmp 2]) (an := (.n none .o (.n none .o (.n none (.n none .o (.n none (.loop ⟨[.lf (.int .i64)], [(8, .one (.h 0 []))], [], [], 2384⟩ false [(.exit 0, ⟨[], [], [], [], 2384⟩)] .o) .o)) .o)))) pOk repOk (AllC.mem (l := []) trivial) hmix Try.call38 Try.func38 rfl rfl (by kernel_rfl) (fun h => by kernel_rfl)

noncomputable def slices_Grow_Fault_Fault (a0 : Int) : Option ((List Fault)) :=
  if decide (a0 < 0) = true then none
  else
    Option.bind
      (if decide (W (a0 - W (0 - 0)) > 0) = true then
        Option.bind (slc ([] : List Unit) 0 0) fun x1 =>
          Option.bind
            (mkP (Fault.mk 0 0 (Part.mk 0 0))
              (W (a0 - W (0 - 0))))
            fun x2 => Option.bind (slc x2 0 0) fun x3 => some x3
      else some [])
      fun x4 => some x4
noncomputable def c64 : Con D := ⟨64, [.lf (.int .i64)], [.lf (.sl 4)], [.one (.nils), .one (.h 0 [])], [], [.one (.own 1000)], [(1000, .sl 4 50 0 [])], fun h => slices_Grow_Fault_Fault h⟩
theorem c64_ok : ConOk Try.prog T c64 := fn_ok (Φ := []) (rs := [.tmp 4]) (an := (.n none .o (.n none .o (.n none (.n none .o (.n none .o (.n (some (true, [(.normal, ⟨[.lf (.sl 4)], [(0, .one (.own 2832))], [(2832, .sl 4 50 0 [])], [], 2896⟩)])) .o .o))) .o)))) pOk repOk (AllC.mem (l := []) trivial) hmix Try.call64 Try.func64 rfl rfl (by kernel_rfl) (fun h => by kernel_rfl)

noncomputable def slices_Concat_Fault_Fault_v1_L1 (a0 : List
  (List
    Fault)) : Int × Int →
  Option
    (Int × Int ⊕
      Int) := fun x1 =>
  if decide (x1.2 < len a0) = true then
    Option.bind (idx a0 x1.2) fun x2 =>
      if decide (W (x1.1 + len x2) < 0) = true then none
      else some (.inl (W (x1.1 + len x2), W (x1.2 + 1)))
  else some (.inr x1.1)
noncomputable def slices_Concat_Fault_Fault_v1_L2 (a0 : List
  (List
    Fault)) : Int × List Fault →
  Option
    (Int × List Fault ⊕
      List
        Fault) := fun x5 =>
  if decide (x5.1 < len a0) = true then
    Option.bind (idx a0 x5.1) fun x6 =>
      Option.bind (app x5.2 x6) fun x7 => some (.inl (W (x5.1 + 1), x7))
  else some (.inr x5.2)
noncomputable def slices_Concat_Fault_Fault_v1 (a0 : (List (List Fault))) : Option ((List (List Fault)) × (List Fault)) :=
  Option.bind (loopO (slices_Concat_Fault_Fault_v1_L1 a0) (0, 0)) fun x3 =>
    Option.bind (slices_Grow_Fault_Fault x3) fun x4 =>
      Option.bind (loopO (slices_Concat_Fault_Fault_v1_L2 a0) (0, x4)) fun x8 => some (a0, x8)
noncomputable def c39_1 : Con D := ⟨39, [.lf (.sl 5)], [.lf (.sl 5), .lf (.sl 4)], [.one (.own 1000)], [(1000, .sl 5 26 0 [0])], [.one (.own 1001)], [(1000, .sl 5 26 0 [0]), (1001, .sl 4 50 1 [0])], fun h => slices_Concat_Fault_Fault_v1 h⟩
theorem c39_1_ok : ConOk Try.prog T c39_1 := fn_ok (Φ := [c64]) (rs := [.tmp 2]) (an := (.n none .o (.n none .o (.n none (.n none .o (.n none (.loop ⟨[.lf (.int .i64), .lf (.int .i64)], [(3, .one (.h 0 [])), (11, .one (.h 1 []))], [], [], 2384⟩ true [(.exit 0, ⟨[.lf (.int .i64)], [(3, .one (.h 0 []))], [], [], 2384⟩)] .o) .o)) (.n none .o (.n none (.n none .o (.n none (.loop ⟨[.lf (.int .i64), .lf (.sl 4)], [(6, .one (.own 2769)), (27, .one (.h 0 []))], [(2769, .sl 4 50 1 [0])], [2457], 2833⟩ true [(.exit 2, ⟨[.lf (.sl 4)], [(6, .one (.own 2769))], [(2769, .sl 4 50 0 [0])], [2457], 2833⟩)] .o) .o)) .o)))))) pOk repOk (AllC.mem (⟨c64_ok, trivial⟩ : AllC _ _ [c64])) hmix Try.call39 Try.func39 rfl rfl (by kernel_rfl) (fun h => by kernel_rfl)

noncomputable def faults_until_1 (a0 : Fault) (a1 : Int) : Option (Int) := if decide (a0.Time > a1) = true then some 1 else some (-1)
noncomputable def c84 : Con D := ⟨84, [.lf (.int .i64), .lf (.int .i64), .lf (.int .i64), .lf (.int .i64), .lf (.int .i64)], [.lf (.int .i64)], [.agg [.h 0 [], .h 1 [], .h 2 [], .h 3 []], .one (.h 4 [])], [], [.one (.h 0 [])], [], fun h => faults_until_1 ⟨h.1, h.2.1, ⟨h.2.2.1, h.2.2.2.1⟩⟩ h.2.2.2.2⟩
theorem c84_ok : ConOk Try.prog T c84 := fn_ok (Φ := []) (rs := [.tmp 4]) (an := .o) pOk repOk (AllC.mem (l := []) trivial) hmix Try.call84 Try.func84 rfl rfl (by kernel_rfl) (fun h => by kernel_rfl)

noncomputable def slices_BinarySearchFunc_Fault_Fault_int_L1 (a0 : List
  Fault) (a1 : Int) : Int × Int →
  Option
    (Int × Int ⊕
      Int) := fun x1 =>
  if decide (x1.1 < x1.2) = true then
    Option.bind (shrO 64 (iwrap IntKind.u64 (W (x1.1 + x1.2))) 1) fun x2 =>
      Option.bind (idx a0 (W x2)) fun x3 =>
        Option.bind (faults_until_1 x3 a1) fun x4 =>
          Option.bind
            (if decide (x4 < 0) = true then some (W (W x2 + 1), x1.2) else some (x1.1, W x2))
            fun x5 => some (.inl (x5.1, x5.2))
  else some (.inr x1.1)
noncomputable def slices_BinarySearchFunc_Fault_Fault_int (a0 : (List Fault)) (a1 : Int) : Option (Int × Bool) :=
  Option.bind (loopO (slices_BinarySearchFunc_Fault_Fault_int_L1 a0 a1) (0, len a0)) fun x6 =>
    Option.bind
      (if decide (x6 < len a0) = true then
        Option.bind (idx a0 x6) fun x7 => Option.bind (faults_until_1 x7 a1) fun x8 => some (x6, x8 == 0)
      else some (x6, false))
      fun x9 => some (x9.1, x9.2)
noncomputable def c83 : Con D := ⟨83, [.lf (.sl 4), .lf (.int .i64)], [.lf (.int .i64), .lf .bool], [.one (.h 0 [0]), .one (.h 1 []), .one (.fn 84 [])], [], [.one (.h 0 []), .one (.h 1 [])], [], fun h => slices_BinarySearchFunc_Fault_Fault_int h.1 h.2⟩
theorem c83_ok : ConOk Try.prog T c83 := fn_ok (Φ := [c84]) (rs := [.tmp 6, .tmp 7]) (an := (.n none .o (.n none .o (.n none .o (.n none (.n none (.loop ⟨[.lf (.int .i64), .lf (.int .i64)], [(9, .one (.h 0 [])), (10, .one (.h 1 []))], [], [], 2576⟩ true [(.exit 0, ⟨[.lf (.int .i64)], [(9, .one (.h 0 []))], [], [], 2576⟩)] (.n none .o (.n none (.n none .o (.n none .o (.n (some (true, [(.normal, ⟨[.lf (.int .i64), .lf (.int .i64)], [(9, .one (.h 0 [])), (10, .one (.h 1 []))], [], [], 3794⟩)])) .o .o))) .o))) .o) (.n none (.r (some (true, [(.normal, ⟨[.lf (.int .i64), .lf .bool], [(6, .one (.h 0 [])), (7, .one (.h 1 []))], [], [], 2641⟩)])) .nil) .o)))))) pOk repOk (AllC.mem (⟨c84_ok, trivial⟩ : AllC _ _ [c84])) hmix Try.call83 Try.func83 rfl rfl (by kernel_rfl) (fun h => by kernel_rfl)

noncomputable def faults_until (a0 : (List Fault)) (a1 : Int) : Option ((List Fault)) :=
  Option.bind (slices_BinarySearchFunc_Fault_Fault_int a0 a1) fun x1 =>
    Option.bind (slc a0 0 x1.1) fun x2 => some x2
noncomputable def c66 : Con D := ⟨66, [.lf (.sl 4), .lf (.int .i64)], [.lf (.sl 4)], [.one (.h 0 [0]), .one (.h 1 [])], [], [.one (.h 0 [0])], [], fun h => faults_until h.1 h.2⟩
theorem c66_ok : ConOk Try.prog T c66 := fn_ok (Φ := [c83]) (rs := [.tmp 4]) (an := .o) pOk repOk (AllC.mem (⟨c83_ok, trivial⟩ : AllC _ _ [c83])) hmix Try.call66 Try.func66 rfl rfl (by kernel_rfl) (fun h => by kernel_rfl)

noncomputable def faults_active_1 (a0 : Fault) (a1 : (List Fault)) : Option (Bool) := Option.bind (faults_last a1 a0.Part) fun x1 => some (x1 == 1)
noncomputable def c67 : Con D := ⟨67, [.lf (.int .i64), .lf (.int .i64), .lf (.int .i64), .lf (.int .i64), .el 5], [.lf .bool], [.agg [.h 0 [], .h 1 [], .h 2 [], .h 3 []], .one (.rp 4 5 [0])], [], [.one (.h 0 [])], [], fun h => faults_active_1 ⟨h.1, h.2.1, ⟨h.2.2.1, h.2.2.2.1⟩⟩ h.2.2.2.2⟩
theorem c67_ok : ConOk Try.prog T c67 := fn_ok (Φ := [c48]) (rs := [.tmp 3]) (an := .o) pOk repOk (AllC.mem (⟨c48_ok, trivial⟩ : AllC _ _ [c48])) hmix Try.call67 Try.func67 rfl rfl (by kernel_rfl) (fun h => by kernel_rfl)

noncomputable def faults_parts_1 (a0 : Fault) (a1 : (List Fault)) : Option (Int × Int × Bool × (List Fault)) := Option.bind (faults_active_1 a0 a1) fun x1 => some (a0.Part.Kind, a0.Part.Number, x1, a1)
noncomputable def c79 : Con D := ⟨79, [.lf (.int .i64), .lf (.int .i64), .lf (.int .i64), .lf (.int .i64), .el 5], [.lf (.int .i64), .lf (.int .i64), .lf .bool, .el 5], [.agg [.h 0 [], .h 1 [], .h 2 [], .h 3 []], .one (.ptr 1000 0)], [(1000, .box [.fn 67 [.rp 4 5 [0]]])], [.agg [.h 0 [], .h 1 []], .one (.h 2 [])], [(1000, .box [.fn 67 [.rp 3 5 [0]]])], fun h => faults_parts_1 ⟨h.1, h.2.1, ⟨h.2.2.1, h.2.2.2.1⟩⟩ h.2.2.2.2⟩
theorem c79_ok : ConOk Try.prog T c79 := fn_ok (Φ := [c67]) (rs := [.cell 3 41, .tmp 4]) (an := .o) pOk repOk (AllC.mem (⟨c67_ok, trivial⟩ : AllC _ _ [c67])) hmix Try.call79 Try.func79 rfl rfl (by kernel_rfl) (fun h => by kernel_rfl)

noncomputable def slices_insertionSortCmpFunc_Part_L2 (a1 : Int) : Int × List Part →
  Option
    (Int × List Part ⊕
      List
        Part) := fun x2 =>
  Option.bind
    (if decide (x2.1 > a1) = true then
      Option.bind (idx x2.2 x2.1) fun x3 =>
        Option.bind (idx x2.2 (W (x2.1 - 1))) fun x4 =>
          Option.bind (design_Compare x3 x4) fun x5 => some (decide (x5 < 0))
    else some false)
    fun x6 =>
    if x6 = true then
      Option.bind (idx x2.2 (W (x2.1 - 1))) fun x7 =>
        Option.bind (idx x2.2 x2.1) fun x8 =>
          Option.bind (idx x2.2 x2.1) fun x9 =>
            Option.bind (idx x2.2 x2.1) fun x10 =>
              Option.bind (setO x2.2 x2.1 x7) fun x11 =>
                Option.bind (idx x11 (W (x2.1 - 1))) fun x12 =>
                  Option.bind (idx x11 (W (x2.1 - 1))) fun x13 =>
                    Option.bind (setO x11 (W (x2.1 - 1)) x8) fun x14 =>
                      some (.inl (W (x2.1 - 1), x14))
    else some (.inr x2.2)
noncomputable def slices_insertionSortCmpFunc_Part_L1 (a1 : Int) (a2 : Int) : Int × List Part →
  Option
    (Int × List Part ⊕
      List
        Part) := fun x1 =>
  if decide (x1.1 < a2) = true then
    Option.bind (loopO (slices_insertionSortCmpFunc_Part_L2 a1) (x1.1, x1.2)) fun x15 =>
      some (.inl (W (x1.1 + 1), x15))
  else some (.inr x1.2)
noncomputable def slices_insertionSortCmpFunc_Part (a0 : (List Part)) (a1 : Int) (a2 : Int) : Option ((List Part)) :=
  Option.bind (loopO (slices_insertionSortCmpFunc_Part_L1 a1 a2) (W (a1 + 1), a0)) fun x16 => some x16
noncomputable def c96 : Con D := ⟨96, [.lf (.sl 3), .lf (.int .i64), .lf (.int .i64)], [.lf (.sl 3)], [.one (.own 1000), .one (.h 1 []), .one (.h 2 []), .one (.fn 73 [])], [(1000, .sl 3 41 0 [0])], [], [(1000, .sl 3 41 0 [0])], fun h => slices_insertionSortCmpFunc_Part h.1 h.2.1 h.2.2⟩
theorem c96_ok : ConOk Try.prog T c96 := fn_ok (Φ := [c73]) (rs := []) (an := (.n none .o (.n none (.loop ⟨[.lf (.int .i64), .lf (.sl 3)], [(8, .one (.h 0 []))], [(1000, .sl 3 41 1 [0])], [1000], 2256⟩ true [(.exit 0, ⟨[.lf (.sl 3)], [], [(1000, .sl 3 41 0 [0])], [1000], 2256⟩)] (.n none .o (.n none (.n none (.n none .o (.n none (.loop ⟨[.lf (.int .i64), .lf (.sl 3)], [(9, .one (.h 0 []))], [(1000, .sl 3 41 1 [0])], [1000], 2642⟩ true [(.exit 2, ⟨[.lf (.sl 3)], [(22, .one (.any)), (23, .one (.any)), (24, .one (.any)), (25, .one (.any)), (26, .one (.any)), (27, .one (.any)), (28, .one (.any)), (29, .one (.any)), (30, .one (.any)), (31, .one (.any)), (32, .one (.any)), (33, .one (.any))], [(1000, .sl 3 41 0 [0])], [1000], 2642⟩)] (.n none (.n none (.r (some (true, [(.normal, ⟨[.lf .bool], [(22, .one (.any)), (23, .one (.any)), (24, .one (.any)), (25, .one (.any)), (26, .one (.any)), (27, .one (.any)), (28, .one (.any)), (29, .one (.any)), (30, .one (.any)), (31, .one (.any)), (32, .one (.any)), (33, .one (.any)), (34, .one (.h 0 []))], [], [], 2708⟩)])) .nil) .o) .o)) .o)) .o) .o))) .o))) pOk repOk (AllC.mem (⟨c73_ok, trivial⟩ : AllC _ _ [c73])) hmix Try.call96 Try.func96 rfl rfl (by kernel_rfl) (fun h => by kernel_rfl)

def c97 : Con D := ⟨97, [.lf (.sl 3), .lf (.int .i64), .lf (.int .i64), .lf (.int .i64)], [], [.one (.h 0 [0]), .one (.h 1 []), .one (.h 2 []), .one (.h 3 []), .one (.fn 73 [])], [], [], [], fun h => none⟩
theorem c97_ok : ConOk Try.prog T c97 := none_ok Try.call97 rfl (fun h => rfl)

noncomputable def slices_stableCmpFunc_Part_L1 (a1 : Int) : Int × Int × List Part →
  Option
    (Int × Int × List Part ⊕
      Int ×
        List
          Part) := fun x1 =>
  if decide (x1.2.1 ≤ a1) = true then
    Option.bind (slices_insertionSortCmpFunc_Part x1.2.2 x1.1 x1.2.1) fun x2 =>
      some (.inl (x1.2.1, W (x1.2.1 + 20), x2))
  else some (.inr (x1.1, x1.2.2))
noncomputable def slices_stableCmpFunc_Part_L3 (a1 : Int) : Int × Int →
  Option (Int × Int ⊕ Int) := fun x6 => if decide (x6.2 ≤ a1) = true then none else some (.inr x6.1)
noncomputable def slices_stableCmpFunc_Part_L2 (a1 : Int) : Int →
  Option
    (Int ⊕
      Unit) := fun x5 =>
  if decide (x5 < a1) = true then
    Option.bind (loopO (slices_stableCmpFunc_Part_L3 a1) (0, W (2 * x5))) fun x8 =>
      Option.bind (if decide (W (x8 + x5) < a1) = true then none else some ()) fun x10 =>
        some (.inl (W (x5 * 2)))
  else some (.inr ())
noncomputable def slices_stableCmpFunc_Part (a0 : (List Part)) (a1 : Int) : Option ((List Part)) :=
  Option.bind (loopO (slices_stableCmpFunc_Part_L1 a1) (0, 20, a0)) fun x3 =>
    Option.bind (slices_insertionSortCmpFunc_Part x3.2 x3.1 a1) fun x4 =>
      Option.bind (loopO (slices_stableCmpFunc_Part_L2 a1) 20) fun x11 => some x4
noncomputable def c94 : Con D := ⟨94, [.lf (.sl 3), .lf (.int .i64)], [.lf (.sl 3)], [.one (.own 1000), .one (.h 1 []), .one (.fn 73 [])], [(1000, .sl 3 41 0 [0])], [], [(1000, .sl 3 41 0 [0])], fun h => slices_stableCmpFunc_Part h.1 h.2⟩
theorem c94_ok : ConOk Try.prog T c94 := fn_ok (Φ := [c96, c97]) (rs := []) (an := (.n none .o (.n none .o (.n none (.n none (.loop ⟨[.lf (.int .i64), .lf (.int .i64), .lf (.sl 3)], [(7, .one (.h 0 [])), (8, .one (.h 1 []))], [(1000, .sl 3 41 2 [0])], [1000], 2320⟩ true [(.exit 0, ⟨[.lf (.int .i64), .lf (.sl 3)], [(7, .one (.h 0 []))], [(1000, .sl 3 41 1 [0])], [1000], 2320⟩)] .o) .o) (.n none .o (.n none (.loop ⟨[.lf (.int .i64)], [(6, .one (.h 0 []))], [], [], 2706⟩ true [(.exit 2, ⟨[], [], [], [], 2706⟩)] (.n none .o (.n none (.n none .o (.n none (.n none (.loop ⟨[.lf (.int .i64), .lf (.int .i64)], [(7, .one (.h 0 [])), (8, .one (.h 1 []))], [], [], 3219⟩ true [(.exit 4, ⟨[.lf (.int .i64)], [(7, .one (.h 0 []))], [], [], 3219⟩)] .o) .o) (.n none (.n none .o (.n none .o (.n (some (true, [(.normal, ⟨[], [], [], [], 3732⟩)])) .o .o))) .o))) .o))) .o)))))) pOk repOk (AllC.mem (⟨c96_ok, c97_ok, trivial⟩ : AllC _ _ [c96, c97])) hmix Try.call94 Try.func94 rfl rfl (by kernel_rfl) (fun h => by kernel_rfl)

noncomputable def slices_SortStableFunc_Part_Part (a0 : (List Part)) : Option ((List Part)) := Option.bind (slices_stableCmpFunc_Part a0 (len a0)) fun x1 => some x1
noncomputable def c89 : Con D := ⟨89, [.lf (.sl 3)], [.lf (.sl 3)], [.one (.own 1000), .one (.fn 73 [])], [(1000, .sl 3 41 0 [0])], [], [(1000, .sl 3 41 0 [0])], fun h => slices_SortStableFunc_Part_Part h⟩
theorem c89_ok : ConOk Try.prog T c89 := fn_ok (Φ := [c94]) (rs := []) (an := .o) pOk repOk (AllC.mem (⟨c94_ok, trivial⟩ : AllC _ _ [c94])) hmix Try.call89 Try.func89 rfl rfl (by kernel_rfl) (fun h => by kernel_rfl)

noncomputable def api_Part__1 (a0 : Part) (a1 : Part) : Option (Bool) := Option.bind (design_Compare a0 a1) fun x1 => some (x1 == 0)
noncomputable def c91 : Con D := ⟨91, [.lf (.int .i64), .lf (.int .i64), .lf (.int .i64), .lf (.int .i64)], [.lf .bool], [.agg [.h 0 [], .h 1 []], .agg [.h 2 [], .h 3 []], .one (.ptr 1000 0)], [(1000, .box [.fn 73 []])], [.one (.h 0 [])], [(1000, .box [.fn 73 []])], fun h => api_Part__1 ⟨h.1, h.2.1⟩ ⟨h.2.2.1, h.2.2.2⟩⟩
theorem c91_ok : ConOk Try.prog T c91 := fn_ok (Φ := [c73]) (rs := [.tmp 5]) (an := .o) pOk repOk (AllC.mem (⟨c73_ok, trivial⟩ : AllC _ _ [c73])) hmix Try.call91 Try.func91 rfl rfl (by kernel_rfl) (fun h => by kernel_rfl)

noncomputable def slices_CompactFunc_Part_Part_L2 (x1 : Int ×
  List
    Part) : Int × Int × List Part →
  Option
    (Int × Int × List Part ⊕
      Int ×
        List
          Part) := fun x6 =>
  if decide (x6.2.1 < len x6.2.2 - x1.1) = true then
    Option.bind (idx (drpI x6.2.2 x1.1) x6.2.1) fun x7 =>
      Option.bind (idx (drpI x6.2.2 x1.1) (W (x6.2.1 - 1))) fun x8 =>
        Option.bind (api_Part__1 x7 x8) fun x9 =>
          Option.bind
            (if (!x9) = true then
              Option.bind (idx (drpI x6.2.2 x1.1) x6.2.1) fun x10 =>
                Option.bind (idx x6.2.2 x6.1) fun x11 =>
                  Option.bind (idx x6.2.2 x6.1) fun x12 =>
                    Option.bind (setO x6.2.2 x6.1 x10) fun x13 => some (W (x6.1 + 1), x13)
            else some (x6.1, x6.2.2))
            fun x14 => some (.inl (x14.1, W (x6.2.1 + 1), x14.2))
  else some (.inr (x6.1, x6.2.2))
noncomputable def slices_CompactFunc_Part_Part_L1 : Int × List Part →
  Option
    (Int × List Part ⊕
      List Part ⊕
        List
          Part) := fun x1 =>
  if decide (x1.1 < len x1.2) = true then
    Option.bind (idx x1.2 x1.1) fun x2 =>
      Option.bind (idx x1.2 (W (x1.1 - 1))) fun x3 =>
        Option.bind (api_Part__1 x2 x3) fun x4 =>
          if x4 = true then
            Option.bind (slc x1.2 x1.1 (len x1.2)) fun x5 =>
              Option.bind (loopO (slices_CompactFunc_Part_Part_L2 x1) (x1.1, 1, x1.2)) fun x15 =>
                Option.bind (slc x15.2 x15.1 (len x15.2)) fun x16 =>
                  Option.bind (slc (clrT (Part.mk 0 0) x15.2 x15.1) 0 x15.1)
                    fun x17 => some (.inr (.inr x17))
          else some (.inl (W (x1.1 + 1), x1.2))
  else some (.inr (.inl x1.2))
noncomputable def slices_CompactFunc_Part_Part (a0 : (List Part)) : Option ((List Part)) :=
  if decide (len a0 < 2) = true then some a0
  else
    Option.bind (loopO slices_CompactFunc_Part_Part_L1 (1, a0)) fun x18 =>
      Sum.elim (fun x19 => some x19) (fun x20 => some x20) x18
noncomputable def c90 : Con D := ⟨90, [.lf (.sl 3)], [.lf (.sl 3)], [.one (.own 1000), .one (.fn 91 [.ptr 1001 0])], [(1000, .sl 3 41 0 [0]), (1001, .box [.fn 73 []])], [.one (.own 1002)], [(1001, .box [.fn 73 []]), (1002, .sl 3 41 0 [0])], fun h => slices_CompactFunc_Part_Part h⟩
theorem c90_ok : ConOk Try.prog T c90 := fn_ok (Φ := [c91]) (rs := [.tmp 4]) (an := (.n none .o (.n none .o (.n none (.n none .o (.n none (.loop ⟨[.lf (.int .i64), .lf (.sl 3)], [(5, .one (.h 0 []))], [(1000, .sl 3 41 1 [0]), (1001, .box [.fn 73 []])], [1000, 1001], 2384⟩ false [(.exit 0, ⟨[.lf (.sl 3)], [], [(1000, .sl 3 41 0 [0]), (1001, .box [.fn 73 []])], [1000, 1001], 2384⟩)] (.n none .o (.n none (.n none (.n none .o (.n none (.n none .o (.n none (.n none .o (.n none (.loop ⟨[.lf (.int .i64), .lf (.int .i64), .lf (.sl 3)], [(5, .one (.h 0 [])), (7, .one (.h 1 []))], [(1000, .sl 3 41 2 [0]), (1001, .box [.fn 73 []])], [1000, 1001], 3730⟩ true [(.exit 2, ⟨[.lf (.int .i64), .lf (.sl 3)], [(5, .one (.h 0 []))], [(1000, .sl 3 41 1 [0]), (1001, .box [.fn 73 []])], [1000, 1001], 3730⟩)] (.n none .o (.n none (.n none (.n none .o (.n (some (true, [(.normal, ⟨[.lf (.int .i64), .lf (.sl 3)], [(5, .one (.h 0 []))], [(1000, .sl 3 41 1 [0])], [1000], 4821⟩)])) .o .o)) .o) .o))) .o)) .o)) .o)) .o) .o))) .o)) .o)))) pOk repOk (AllC.mem (⟨c91_ok, trivial⟩ : AllC _ _ [c91])) hmix Try.call90 Try.func90 rfl rfl (by kernel_rfl) (fun h => by kernel_rfl)

noncomputable def faults_collect_Fault_Part_L1 (a0 : List
  Fault) : Int × List Part × List Fault →
  Option
    (Int × List Part × List Fault ⊕
      List Part ×
        List
          Fault) := fun x1 =>
  if decide (x1.1 < len a0) = true then
    Option.bind (idx a0 x1.1) fun x2 =>
      Option.bind (faults_parts_1 x2 x1.2.2) fun x3 =>
        Option.bind
          (if x3.2.2.1 = true then Option.bind (app x1.2.1 [Part.mk x3.1 x3.2.1]) fun x4 => some x4
          else some x1.2.1)
          fun x5 => some (.inl (W (x1.1 + 1), x5, x3.2.2.2))
  else some (.inr (x1.2.1, x1.2.2))
noncomputable def faults_collect_Fault_Part (a0 : (List Fault)) (a1 : (List Fault)) : Option ((List Fault) × (List Part)) :=
  Option.bind (loopO (faults_collect_Fault_Part_L1 a0) (0, [], a1)) fun x6 =>
    Option.bind (slices_SortStableFunc_Part_Part x6.1) fun x7 =>
      Option.bind (slices_CompactFunc_Part_Part x7) fun x8 => some (x6.2, x8)
noncomputable def c78 : Con D := ⟨78, [.lf (.sl 4), .el 5], [.el 5, .lf (.sl 3)], [.one (.h 0 [0]), .one (.fn 79 [.ptr 1000 0]), .one (.fn 73 [])], [(1000, .box [.fn 67 [.rp 1 5 [0]]])], [.one (.own 1001)], [(1000, .box [.fn 67 [.rp 0 5 [0]]]), (1001, .sl 3 41 1 [])], fun h => faults_collect_Fault_Part h.1 h.2⟩
theorem c78_ok : ConOk Try.prog T c78 := fn_ok (Φ := [c79, c89, c90]) (rs := [.tmp 6]) (an := (.n none .o (.n none .o (.n none (.n none .o (.n none (.loop ⟨[.lf (.int .i64), .lf (.sl 3), .el 5], [(7, .one (.own 2384)), (14, .one (.h 0 []))], [(2384, .sl 3 41 1 []), (1000, .box [.fn 67 [.rp 2 5 [0]]])], [1000], 2448⟩ true [(.exit 0, ⟨[.lf (.sl 3), .el 5], [(7, .one (.own 2384))], [(2384, .sl 3 41 0 []), (1000, .box [.fn 67 [.rp 1 5 [0]]])], [1000], 2448⟩)] (.n none .o (.n none .o (.n none (.n none (.n none .o (.n none .o (.n none .o (.n (some (true, [(.normal, ⟨[.lf (.sl 3)], [(7, .one (.own 3411))], [(3411, .sl 3 41 0 [])], [2384], 3475⟩)])) .o .o)))) .o) .o)))) .o)) .o)))) pOk repOk (AllC.mem (⟨c79_ok, c89_ok, c90_ok, trivial⟩ : AllC _ _ [c79, c89, c90])) hmix Try.call78 Try.func78 rfl rfl (by kernel_rfl) (fun h => by kernel_rfl)

noncomputable def faults_parts (a0 : (List Fault)) (a1 : (List Fault)) : Option ((List Part)) := Option.bind (faults_collect_Fault_Part a0 a1) fun x1 => some x1.2
noncomputable def c50 : Con D := ⟨50, [.lf (.sl 4), .el 5], [.lf (.sl 3)], [.one (.h 0 [0]), .one (.fn 67 [.rp 1 5 [0]])], [], [.one (.own 1000)], [(1000, .sl 3 41 0 [])], fun h => faults_parts h.1 h.2⟩
theorem c50_ok : ConOk Try.prog T c50 := fn_ok (Φ := [c78]) (rs := [.tmp 4]) (an := .o) pOk repOk (AllC.mem (⟨c78_ok, trivial⟩ : AllC _ _ [c78])) hmix Try.call50 Try.func50 rfl rfl (by kernel_rfl) (fun h => by kernel_rfl)

noncomputable def faults_active (a0 : (List Fault)) (a1 : Int) : Option ((List Part)) := Option.bind (faults_until a0 a1) fun x1 => Option.bind (faults_parts x1 x1) fun x2 => some x2
noncomputable def c41 : Con D := ⟨41, [.lf (.sl 4), .lf (.int .i64)], [.lf (.sl 3)], [.one (.h 0 [0]), .one (.h 1 [])], [], [.one (.own 1000)], [(1000, .sl 3 41 0 [])], fun h => faults_active h.1 h.2⟩
theorem c41_ok : ConOk Try.prog T c41 := fn_ok (Φ := [c50, c66]) (rs := [.tmp 4]) (an := .o) pOk repOk (AllC.mem (⟨c50_ok, c66_ok, trivial⟩ : AllC _ _ [c50, c66])) hmix Try.call41 Try.func41 rfl rfl (by kernel_rfl) (fun h => by kernel_rfl)

noncomputable def slices_Index_Part_Part_L1 (a0 : List
  Part) (a1 : Part) : Int →
  Option
    (Int ⊕
      Unit ⊕
        Int) := fun x1 =>
  if decide (x1 < len a0) = true then
    Option.bind (idx a0 x1) fun x2 =>
      if (a1.Kind == x2.Kind && a1.Number == x2.Number) = true then some (.inr (.inr x1))
      else some (.inl (W (x1 + 1)))
  else some (.inr (.inl ()))
noncomputable def slices_Index_Part_Part (a0 : (List Part)) (a1 : Part) : Option (Int) :=
  Option.bind (loopO (slices_Index_Part_Part_L1 a0 a1) 0) fun x3 =>
    Sum.elim (fun x4 => some (-1)) (fun x5 => some x5) x3
noncomputable def c82 : Con D := ⟨82, [.lf (.sl 3), .lf (.int .i64), .lf (.int .i64)], [.lf (.int .i64)], [.one (.h 0 [0]), .agg [.h 1 [], .h 2 []]], [], [.one (.h 0 [])], [], fun h => slices_Index_Part_Part h.1 ⟨h.2.1, h.2.2⟩⟩
theorem c82_ok : ConOk Try.prog T c82 := fn_ok (Φ := []) (rs := [.tmp 4]) (an := (.n none .o (.n none (.n none .o (.n none (.loop ⟨[.lf (.int .i64)], [(8, .one (.h 0 []))], [], [], 2384⟩ false [(.exit 0, ⟨[], [], [], [], 2384⟩)] .o) .o)) .o))) pOk repOk (AllC.mem (l := []) trivial) hmix Try.call82 Try.func82 rfl rfl (by kernel_rfl) (fun h => by kernel_rfl)

noncomputable def slices_Contains_Part_Part (a0 : (List Part)) (a1 : Part) : Option (Bool) := Option.bind (slices_Index_Part_Part a0 a1) fun x1 => some (decide (x1 ≥ 0))
noncomputable def c65 : Con D := ⟨65, [.lf (.sl 3), .lf (.int .i64), .lf (.int .i64)], [.lf .bool], [.one (.h 0 [0]), .agg [.h 1 [], .h 2 []]], [], [.one (.h 0 [])], [], fun h => slices_Contains_Part_Part h.1 ⟨h.2.1, h.2.2⟩⟩
theorem c65_ok : ConOk Try.prog T c65 := fn_ok (Φ := [c82]) (rs := [.tmp 4]) (an := .o) pOk repOk (AllC.mem (⟨c82_ok, trivial⟩ : AllC _ _ [c82])) hmix Try.call65 Try.func65 rfl rfl (by kernel_rfl) (fun h => by kernel_rfl)

noncomputable def design_Has (a0 : (List Part)) (a1 : Part) : Option (Bool) := Option.bind (slices_Contains_Part_Part a0 a1) fun x1 => some x1
noncomputable def c40 : Con D := ⟨40, [.lf (.sl 3), .lf (.int .i64), .lf (.int .i64)], [.lf .bool], [.one (.h 0 [0]), .agg [.h 1 [], .h 2 []]], [], [.one (.h 0 [])], [], fun h => design_Has h.1 ⟨h.2.1, h.2.2⟩⟩
theorem c40_ok : ConOk Try.prog T c40 := fn_ok (Φ := [c65]) (rs := [.tmp 4]) (an := .o) pOk repOk (AllC.mem (⟨c65_ok, trivial⟩ : AllC _ _ [c65])) hmix Try.call40 Try.func40 rfl rfl (by kernel_rfl) (fun h => by kernel_rfl)

noncomputable def faults_Merge_1 (a0 : Fault) : Option (Int × Int × Int × Int × Bool) := some (a0.Time, a0.Kind, a0.Part.Kind, a0.Part.Number, true)
noncomputable def c44 : Con D := ⟨44, [.lf (.int .i64), .lf (.int .i64), .lf (.int .i64), .lf (.int .i64)], [.lf (.int .i64), .lf (.int .i64), .lf (.int .i64), .lf (.int .i64), .lf .bool], [.agg [.h 0 [], .h 1 [], .h 2 [], .h 3 []]], [], [.agg [.h 0 [], .h 1 [], .h 2 [], .h 3 []], .one (.h 4 [])], [], fun h => faults_Merge_1 ⟨h.1, h.2.1, ⟨h.2.2.1, h.2.2.2⟩⟩⟩
theorem c44_ok : ConOk Try.prog T c44 := fn_ok (Φ := []) (rs := [.cell 2 50, .tmp 3]) (an := .o) pOk repOk (AllC.mem (l := []) trivial) hmix Try.call44 Try.func44 rfl rfl (by kernel_rfl) (fun h => by kernel_rfl)

noncomputable def slices_insertionSortCmpFunc_Fault_L2 (a1 : Int) : Int × List Fault →
  Option
    (Int × List Fault ⊕
      List
        Fault) := fun x2 =>
  Option.bind
    (if decide (x2.1 > a1) = true then
      Option.bind (idx x2.2 x2.1) fun x3 =>
        Option.bind (idx x2.2 (W (x2.1 - 1))) fun x4 =>
          Option.bind (faults_compare x3 x4) fun x5 => some (decide (x5 < 0))
    else some false)
    fun x6 =>
    if x6 = true then
      Option.bind (idx x2.2 (W (x2.1 - 1))) fun x7 =>
        Option.bind (idx x2.2 x2.1) fun x8 =>
          Option.bind (idx x2.2 x2.1) fun x9 =>
            Option.bind (idx x2.2 x2.1) fun x10 =>
              Option.bind (setO x2.2 x2.1 x7) fun x11 =>
                Option.bind (idx x11 (W (x2.1 - 1))) fun x12 =>
                  Option.bind (idx x11 (W (x2.1 - 1))) fun x13 =>
                    Option.bind (setO x11 (W (x2.1 - 1)) x8) fun x14 =>
                      some (.inl (W (x2.1 - 1), x14))
    else some (.inr x2.2)
noncomputable def slices_insertionSortCmpFunc_Fault_L1 (a1 : Int) (a2 : Int) : Int × List Fault →
  Option
    (Int × List Fault ⊕
      List
        Fault) := fun x1 =>
  if decide (x1.1 < a2) = true then
    Option.bind (loopO (slices_insertionSortCmpFunc_Fault_L2 a1) (x1.1, x1.2)) fun x15 =>
      some (.inl (W (x1.1 + 1), x15))
  else some (.inr x1.2)
noncomputable def slices_insertionSortCmpFunc_Fault (a0 : (List Fault)) (a1 : Int) (a2 : Int) : Option ((List Fault)) :=
  Option.bind (loopO (slices_insertionSortCmpFunc_Fault_L1 a1 a2) (W (a1 + 1), a0)) fun x16 => some x16
noncomputable def c92 : Con D := ⟨92, [.lf (.sl 4), .lf (.int .i64), .lf (.int .i64)], [.lf (.sl 4)], [.one (.own 1000), .one (.h 1 []), .one (.h 2 []), .one (.fn 45 [])], [(1000, .sl 4 50 0 [0])], [], [(1000, .sl 4 50 0 [0])], fun h => slices_insertionSortCmpFunc_Fault h.1 h.2.1 h.2.2⟩
theorem c92_ok : ConOk Try.prog T c92 := fn_ok (Φ := [c45]) (rs := []) (an := (.n none .o (.n none (.loop ⟨[.lf (.int .i64), .lf (.sl 4)], [(8, .one (.h 0 []))], [(1000, .sl 4 50 1 [0])], [1000], 2256⟩ true [(.exit 0, ⟨[.lf (.sl 4)], [], [(1000, .sl 4 50 0 [0])], [1000], 2256⟩)] (.n none .o (.n none (.n none (.n none .o (.n none (.loop ⟨[.lf (.int .i64), .lf (.sl 4)], [(9, .one (.h 0 []))], [(1000, .sl 4 50 1 [0])], [1000], 2642⟩ true [(.exit 2, ⟨[.lf (.sl 4)], [(22, .one (.any)), (23, .one (.any)), (24, .one (.any)), (25, .one (.any)), (26, .one (.any)), (27, .one (.any)), (28, .one (.any)), (29, .one (.any)), (30, .one (.any)), (31, .one (.any)), (32, .one (.any)), (33, .one (.any))], [(1000, .sl 4 50 0 [0])], [1000], 2642⟩)] (.n none (.n none (.r (some (true, [(.normal, ⟨[.lf .bool], [(22, .one (.any)), (23, .one (.any)), (24, .one (.any)), (25, .one (.any)), (26, .one (.any)), (27, .one (.any)), (28, .one (.any)), (29, .one (.any)), (30, .one (.any)), (31, .one (.any)), (32, .one (.any)), (33, .one (.any)), (34, .one (.h 0 []))], [], [], 2708⟩)])) .nil) .o) .o)) .o)) .o) .o))) .o))) pOk repOk (AllC.mem (⟨c45_ok, trivial⟩ : AllC _ _ [c45])) hmix Try.call92 Try.func92 rfl rfl (by kernel_rfl) (fun h => by kernel_rfl)

def c93 : Con D := ⟨93, [.lf (.sl 4), .lf (.int .i64), .lf (.int .i64), .lf (.int .i64)], [], [.one (.h 0 [0]), .one (.h 1 []), .one (.h 2 []), .one (.h 3 []), .one (.fn 45 [])], [], [], [], fun h => none⟩
theorem c93_ok : ConOk Try.prog T c93 := none_ok Try.call93 rfl (fun h => rfl)

noncomputable def slices_stableCmpFunc_Fault_L1 (a1 : Int) : Int × Int × List Fault →
  Option
    (Int × Int × List Fault ⊕
      Int ×
        List
          Fault) := fun x1 =>
  if decide (x1.2.1 ≤ a1) = true then
    Option.bind (slices_insertionSortCmpFunc_Fault x1.2.2 x1.1 x1.2.1) fun x2 =>
      some (.inl (x1.2.1, W (x1.2.1 + 20), x2))
  else some (.inr (x1.1, x1.2.2))
noncomputable def slices_stableCmpFunc_Fault_L3 (a1 : Int) : Int × Int →
  Option (Int × Int ⊕ Int) := fun x6 => if decide (x6.2 ≤ a1) = true then none else some (.inr x6.1)
noncomputable def slices_stableCmpFunc_Fault_L2 (a1 : Int) : Int →
  Option
    (Int ⊕
      Unit) := fun x5 =>
  if decide (x5 < a1) = true then
    Option.bind (loopO (slices_stableCmpFunc_Fault_L3 a1) (0, W (2 * x5))) fun x8 =>
      Option.bind (if decide (W (x8 + x5) < a1) = true then none else some ()) fun x10 =>
        some (.inl (W (x5 * 2)))
  else some (.inr ())
noncomputable def slices_stableCmpFunc_Fault (a0 : (List Fault)) (a1 : Int) : Option ((List Fault)) :=
  Option.bind (loopO (slices_stableCmpFunc_Fault_L1 a1) (0, 20, a0)) fun x3 =>
    Option.bind (slices_insertionSortCmpFunc_Fault x3.2 x3.1 a1) fun x4 =>
      Option.bind (loopO (slices_stableCmpFunc_Fault_L2 a1) 20) fun x11 => some x4
noncomputable def c85 : Con D := ⟨85, [.lf (.sl 4), .lf (.int .i64)], [.lf (.sl 4)], [.one (.own 1000), .one (.h 1 []), .one (.fn 45 [])], [(1000, .sl 4 50 0 [0])], [], [(1000, .sl 4 50 0 [0])], fun h => slices_stableCmpFunc_Fault h.1 h.2⟩
theorem c85_ok : ConOk Try.prog T c85 := fn_ok (Φ := [c92, c93]) (rs := []) (an := (.n none .o (.n none .o (.n none (.n none (.loop ⟨[.lf (.int .i64), .lf (.int .i64), .lf (.sl 4)], [(7, .one (.h 0 [])), (8, .one (.h 1 []))], [(1000, .sl 4 50 2 [0])], [1000], 2320⟩ true [(.exit 0, ⟨[.lf (.int .i64), .lf (.sl 4)], [(7, .one (.h 0 []))], [(1000, .sl 4 50 1 [0])], [1000], 2320⟩)] .o) .o) (.n none .o (.n none (.loop ⟨[.lf (.int .i64)], [(6, .one (.h 0 []))], [], [], 2706⟩ true [(.exit 2, ⟨[], [], [], [], 2706⟩)] (.n none .o (.n none (.n none .o (.n none (.n none (.loop ⟨[.lf (.int .i64), .lf (.int .i64)], [(7, .one (.h 0 [])), (8, .one (.h 1 []))], [], [], 3219⟩ true [(.exit 4, ⟨[.lf (.int .i64)], [(7, .one (.h 0 []))], [], [], 3219⟩)] .o) .o) (.n none (.n none .o (.n none .o (.n (some (true, [(.normal, ⟨[], [], [], [], 3732⟩)])) .o .o))) .o))) .o))) .o)))))) pOk repOk (AllC.mem (⟨c92_ok, c93_ok, trivial⟩ : AllC _ _ [c92, c93])) hmix Try.call85 Try.func85 rfl rfl (by kernel_rfl) (fun h => by kernel_rfl)

noncomputable def slices_SortStableFunc_Fault_Fault (a0 : (List Fault)) : Option ((List Fault)) := Option.bind (slices_stableCmpFunc_Fault a0 (len a0)) fun x1 => some x1
noncomputable def c68 : Con D := ⟨68, [.lf (.sl 4)], [.lf (.sl 4)], [.one (.own 1000), .one (.fn 45 [])], [(1000, .sl 4 50 0 [0])], [], [(1000, .sl 4 50 0 [0])], fun h => slices_SortStableFunc_Fault_Fault h⟩
theorem c68_ok : ConOk Try.prog T c68 := fn_ok (Φ := [c85]) (rs := []) (an := .o) pOk repOk (AllC.mem (⟨c85_ok, trivial⟩ : AllC _ _ [c85])) hmix Try.call68 Try.func68 rfl rfl (by kernel_rfl) (fun h => by kernel_rfl)

noncomputable def api_Fault__1 (a0 : Fault) (a1 : Fault) : Option (Bool) := Option.bind (faults_compare a0 a1) fun x1 => some (x1 == 0)
noncomputable def c70 : Con D := ⟨70, [.lf (.int .i64), .lf (.int .i64), .lf (.int .i64), .lf (.int .i64), .lf (.int .i64), .lf (.int .i64), .lf (.int .i64), .lf (.int .i64)], [.lf .bool], [.agg [.h 0 [], .h 1 [], .h 2 [], .h 3 []], .agg [.h 4 [], .h 5 [], .h 6 [], .h 7 []], .one (.ptr 1000 0)], [(1000, .box [.fn 45 []])], [.one (.h 0 [])], [(1000, .box [.fn 45 []])], fun h => api_Fault__1 ⟨h.1, h.2.1, ⟨h.2.2.1, h.2.2.2.1⟩⟩ ⟨h.2.2.2.2.1, h.2.2.2.2.2.1, ⟨h.2.2.2.2.2.2.1, h.2.2.2.2.2.2.2⟩⟩⟩
theorem c70_ok : ConOk Try.prog T c70 := fn_ok (Φ := [c45]) (rs := [.tmp 5]) (an := .o) pOk repOk (AllC.mem (⟨c45_ok, trivial⟩ : AllC _ _ [c45])) hmix Try.call70 Try.func70 rfl rfl (by kernel_rfl) (fun h => by kernel_rfl)

noncomputable def slices_CompactFunc_Fault_Fault_L2 (x1 : Int ×
  List
    Fault) : Int × Int × List Fault →
  Option
    (Int × Int × List Fault ⊕
      Int ×
        List
          Fault) := fun x6 =>
  if decide (x6.2.1 < len x6.2.2 - x1.1) = true then
    Option.bind (idx (drpI x6.2.2 x1.1) x6.2.1) fun x7 =>
      Option.bind (idx (drpI x6.2.2 x1.1) (W (x6.2.1 - 1))) fun x8 =>
        Option.bind (api_Fault__1 x7 x8) fun x9 =>
          Option.bind
            (if (!x9) = true then
              Option.bind (idx (drpI x6.2.2 x1.1) x6.2.1) fun x10 =>
                Option.bind (idx x6.2.2 x6.1) fun x11 =>
                  Option.bind (idx x6.2.2 x6.1) fun x12 =>
                    Option.bind (setO x6.2.2 x6.1 x10) fun x13 => some (W (x6.1 + 1), x13)
            else some (x6.1, x6.2.2))
            fun x14 => some (.inl (x14.1, W (x6.2.1 + 1), x14.2))
  else some (.inr (x6.1, x6.2.2))
noncomputable def slices_CompactFunc_Fault_Fault_L1 : Int × List Fault →
  Option
    (Int × List Fault ⊕
      List Fault ⊕
        List
          Fault) := fun x1 =>
  if decide (x1.1 < len x1.2) = true then
    Option.bind (idx x1.2 x1.1) fun x2 =>
      Option.bind (idx x1.2 (W (x1.1 - 1))) fun x3 =>
        Option.bind (api_Fault__1 x2 x3) fun x4 =>
          if x4 = true then
            Option.bind (slc x1.2 x1.1 (len x1.2)) fun x5 =>
              Option.bind (loopO (slices_CompactFunc_Fault_Fault_L2 x1) (x1.1, 1, x1.2)) fun x15 =>
                Option.bind (slc x15.2 x15.1 (len x15.2)) fun x16 =>
                  Option.bind
                    (slc
                      (clrT (Fault.mk 0 0 (Part.mk 0 0)) x15.2
                        x15.1)
                      0 x15.1)
                    fun x17 => some (.inr (.inr x17))
          else some (.inl (W (x1.1 + 1), x1.2))
  else some (.inr (.inl x1.2))
noncomputable def slices_CompactFunc_Fault_Fault (a0 : (List Fault)) : Option ((List Fault)) :=
  if decide (len a0 < 2) = true then some a0
  else
    Option.bind (loopO slices_CompactFunc_Fault_Fault_L1 (1, a0)) fun x18 =>
      Sum.elim (fun x19 => some x19) (fun x20 => some x20) x18
noncomputable def c69 : Con D := ⟨69, [.lf (.sl 4)], [.lf (.sl 4)], [.one (.own 1000), .one (.fn 70 [.ptr 1001 0])], [(1000, .sl 4 50 0 [0]), (1001, .box [.fn 45 []])], [.one (.own 1002)], [(1001, .box [.fn 45 []]), (1002, .sl 4 50 0 [0])], fun h => slices_CompactFunc_Fault_Fault h⟩
theorem c69_ok : ConOk Try.prog T c69 := fn_ok (Φ := [c70]) (rs := [.tmp 4]) (an := (.n none .o (.n none .o (.n none (.n none .o (.n none (.loop ⟨[.lf (.int .i64), .lf (.sl 4)], [(5, .one (.h 0 []))], [(1000, .sl 4 50 1 [0]), (1001, .box [.fn 45 []])], [1000, 1001], 2384⟩ false [(.exit 0, ⟨[.lf (.sl 4)], [], [(1000, .sl 4 50 0 [0]), (1001, .box [.fn 45 []])], [1000, 1001], 2384⟩)] (.n none .o (.n none (.n none (.n none .o (.n none (.n none .o (.n none (.n none .o (.n none (.loop ⟨[.lf (.int .i64), .lf (.int .i64), .lf (.sl 4)], [(5, .one (.h 0 [])), (7, .one (.h 1 []))], [(1000, .sl 4 50 2 [0]), (1001, .box [.fn 45 []])], [1000, 1001], 3730⟩ true [(.exit 2, ⟨[.lf (.int .i64), .lf (.sl 4)], [(5, .one (.h 0 []))], [(1000, .sl 4 50 1 [0]), (1001, .box [.fn 45 []])], [1000, 1001], 3730⟩)] (.n none .o (.n none (.n none (.n none .o (.n (some (true, [(.normal, ⟨[.lf (.int .i64), .lf (.sl 4)], [(5, .one (.h 0 []))], [(1000, .sl 4 50 1 [0])], [1000], 4821⟩)])) .o .o)) .o) .o))) .o)) .o)) .o)) .o) .o))) .o)) .o)))) pOk repOk (AllC.mem (⟨c70_ok, trivial⟩ : AllC _ _ [c70])) hmix Try.call69 Try.func69 rfl rfl (by kernel_rfl) (fun h => by kernel_rfl)

noncomputable def faults_collect_Fault_Fault_L1 (a0 : List
  Fault) : Int × List Fault →
  Option
    (Int × List Fault ⊕
      List
        Fault) := fun x1 =>
  if decide (x1.1 < len a0) = true then
    Option.bind (idx a0 x1.1) fun x2 =>
      Option.bind (faults_Merge_1 x2) fun x3 =>
        Option.bind
          (if x3.2.2.2.2 = true then
            Option.bind (app x1.2 [Fault.mk x3.1 x3.2.1 (Part.mk x3.2.2.1 x3.2.2.2.1)]) fun x4 =>
              some x4
          else some x1.2)
          fun x5 => some (.inl (W (x1.1 + 1), x5))
  else some (.inr x1.2)
noncomputable def faults_collect_Fault_Fault (a0 : (List Fault)) : Option ((List Fault)) :=
  Option.bind (loopO (faults_collect_Fault_Fault_L1 a0) (0, [])) fun x6 =>
    Option.bind (slices_SortStableFunc_Fault_Fault x6) fun x7 =>
      Option.bind (slices_CompactFunc_Fault_Fault x7) fun x8 => some x8
noncomputable def c43 : Con D := ⟨43, [.lf (.sl 4)], [.lf (.sl 4)], [.one (.h 0 [0]), .one (.fn 44 []), .one (.fn 45 [])], [], [.one (.own 1000)], [(1000, .sl 4 50 0 [])], fun h => faults_collect_Fault_Fault h⟩
theorem c43_ok : ConOk Try.prog T c43 := fn_ok (Φ := [c44, c68, c69]) (rs := [.tmp 6]) (an := (.n none .o (.n none .o (.n none (.n none .o (.n none (.loop ⟨[.lf (.int .i64), .lf (.sl 4)], [(7, .one (.own 2384)), (14, .one (.h 0 []))], [(2384, .sl 4 50 1 [])], [], 2448⟩ true [(.exit 0, ⟨[.lf (.sl 4)], [(7, .one (.own 2384))], [(2384, .sl 4 50 0 [])], [], 2448⟩)] (.n none .o (.n none .o (.n none (.n none (.n none .o (.n none .o (.n none .o (.n (some (true, [(.normal, ⟨[.lf (.sl 4)], [(7, .one (.own 3410))], [(3410, .sl 4 50 0 [])], [2384], 3474⟩)])) .o .o)))) .o) .o)))) .o)) .o)))) pOk repOk (AllC.mem (⟨c44_ok, c68_ok, c69_ok, trivial⟩ : AllC _ _ [c44, c68, c69])) hmix Try.call43 Try.func43 rfl rfl (by kernel_rfl) (fun h => by kernel_rfl)

noncomputable def faults_turns_L1 (a0 : List
  Fault) : Int × List Fault →
  Option
    (Int × List Fault ⊕
      List
        Fault) := fun x1 =>
  if decide (x1.1 < len a0) = true then
    Option.bind (idx a0 x1.1) fun x2 =>
      Option.bind (faults_last x1.2 x2.Part) fun x3 =>
        Option.bind (faults_other x3) fun x4 =>
          Option.bind (if (x2.Kind == x4) = true then Option.bind (app x1.2 [x2]) fun x5 => some x5 else some x1.2)
            fun x6 => some (.inl (W (x1.1 + 1), x6))
  else some (.inr x1.2)
noncomputable def faults_turns (a0 : (List Fault)) : Option ((List Fault)) := Option.bind (loopO (faults_turns_L1 a0) (0, [])) fun x7 => some x7
noncomputable def c42 : Con D := ⟨42, [.lf (.sl 4)], [.lf (.sl 4)], [.one (.h 0 [0])], [], [.one (.own 1000)], [(1000, .sl 4 50 0 [])], fun h => faults_turns h⟩
theorem c42_ok : ConOk Try.prog T c42 := fn_ok (Φ := [c47, c48]) (rs := [.tmp 2]) (an := (.n none .o (.n none .o (.n none (.n none .o (.n none (.loop ⟨[.lf (.int .i64), .lf (.sl 4)], [(3, .one (.own 2320)), (8, .one (.h 0 []))], [(2320, .sl 4 50 1 [])], [], 2384⟩ true [(.exit 0, ⟨[.lf (.sl 4)], [(3, .one (.own 2320))], [(2320, .sl 4 50 0 [])], [], 2384⟩)] (.n none .o (.n none .o (.n none (.n none (.n none .o (.n none .o (.n (some (true, [(.normal, ⟨[.lf (.sl 4)], [(3, .one (.own 3218))], [(3218, .sl 4 50 0 [])], [2320], 3282⟩)])) .o .o))) .o) .o)))) .o)) .o)))) pOk repOk (AllC.mem (⟨c47_ok, c48_ok, trivial⟩ : AllC _ _ [c47, c48])) hmix Try.call42 Try.func42 rfl rfl (by kernel_rfl) (fun h => by kernel_rfl)

noncomputable def faults_Merge_L1 (a0 : List
  Fault) (a1 : List
  Fault) (x4 : List (List Fault) ×
  List
    Fault) : Int × List Fault →
  Option
    (Int × List Fault ⊕
      List
        Fault) := fun x5 =>
  if decide (x5.1 < len x4.2) = true then
    Option.bind (idx x4.2 x5.1) fun x6 =>
      Option.bind
        (Option.bind (faults_active a0 x6.Time) fun x7 =>
          Option.bind (design_Has x7 x6.Part) fun x8 =>
            if x8 = true then some true
            else
              Option.bind (faults_active a1 x6.Time) fun x9 => Option.bind (design_Has x9 x6.Part) fun x10 => some x10)
        fun x11 =>
        Option.bind (if x11 = true then some 1 else some 2) fun x12 =>
          Option.bind (app x5.2 [Fault.mk x6.Time x12 x6.Part]) fun x13 =>
            some (.inl (W (x5.1 + 1), x13))
  else some (.inr x5.2)
noncomputable def faults_Merge (a0 : (List Fault)) (a1 : (List Fault)) : Option (Int × (List Fault)) :=
  Option.bind (faults_Check a0) fun x1 =>
    Option.bind (faults_Check a1) fun x2 =>
      Option.bind (cmp_Or_Errno [x1, x2]) fun x3 =>
        if (x3 != 0) = true then some (x3, [])
        else
          Option.bind (slices_Concat_Fault_Fault_v1 [a0, a1]) fun x4 =>
            Option.bind (loopO (faults_Merge_L1 a0 a1 x4) (0, [])) fun x14 =>
              Option.bind (faults_collect_Fault_Fault x14) fun x15 =>
                Option.bind (faults_turns x15) fun x16 =>
                  if decide (len x16 > 24) = true then some (2, []) else some (0, x16)
noncomputable def c12 : Con D := ⟨12, [.lf (.sl 4), .lf (.sl 4)], [.lf (.int .i64), .lf (.sl 4)], [.one (.h 0 [0]), .one (.h 1 [0])], [], [.one (.own 1000), .one (.h 0 [])], [(1000, .sl 4 50 1 [])], fun h => faults_Merge h.1 h.2⟩
theorem c12_ok : ConOk Try.prog T c12 := fn_ok (Φ := [c14, c38, c39_1, c40, c41, c42, c43]) (rs := [.tmp 4, .tmp 5]) (an := (.n none .o (.n none .o (.n none .o (.n none (.n none .o (.n none (.loop ⟨[.lf (.int .i64), .lf (.sl 4)], [(7, .one (.own 3152)), (26, .one (.h 0 []))], [(3152, .sl 4 50 1 [])], [], 3216⟩ true [(.exit 0, ⟨[.lf (.sl 4)], [(7, .one (.own 3152))], [(3152, .sl 4 50 0 [])], [], 3216⟩)] (.n none .o (.n none .o (.n none (.n none (.n none .o (.n none .o (.n none (.n none (.r (some (true, [(.normal, ⟨[.lf .bool], [(38, .one (.any)), (39, .one (.any)), (40, .one (.any)), (41, .one (.any)), (42, .one (.any)), (43, .one (.any)), (44, .one (.any)), (45, .one (.h 0 []))], [], [], 3666⟩)])) .nil) (.n (some (true, [(.normal, ⟨[.lf (.int .i64)], [(10, .one (.h 0 []))], [], [], 3731⟩)])) .o .o)) .o))) .o) .o)))) .o)) .o))))) pOk repOk (AllC.mem (⟨c14_ok, c38_ok, c39_1_ok, c40_ok, c41_ok, c42_ok, c43_ok, trivial⟩ : AllC _ _ [c14, c38, c39_1, c40, c41, c42, c43])) hmix Try.call12 Try.func12 rfl rfl (by kernel_rfl) (fun h => by kernel_rfl)

noncomputable def dynposref34_Same_L1 (a0 : List
  Fault) (a1 : List
  Fault) : Int →
  Option
    (Int ⊕
      Unit ⊕
        Bool) := fun x1 =>
  if decide (x1 < len a0) = true then
    Option.bind (idx a0 x1) fun x2 =>
      Option.bind (idx a1 x1) fun x3 =>
        if
            (!(x2.Time == x3.Time &&
                  (x2.Kind == x3.Kind && (x2.Part.Kind == x3.Part.Kind && x2.Part.Number == x3.Part.Number)))) =
              true then
          some (.inr (.inr false))
        else some (.inl (W (x1 + 1)))
  else some (.inr (.inl ()))
noncomputable def dynposref34_Same (a0 : (List Fault)) (a1 : (List Fault)) : Option (Bool) :=
  if (len a0 != len a1) = true then some false
  else
    Option.bind (loopO (dynposref34_Same_L1 a0 a1) 0) fun x4 =>
      Sum.elim (fun x5 => some true) (fun x6 => some x6) x4
noncomputable def c13 : Con D := ⟨13, [.lf (.sl 4), .lf (.sl 4)], [.lf .bool], [.one (.h 0 [0]), .one (.h 1 [0])], [], [.one (.h 0 [])], [], fun h => dynposref34_Same h.1 h.2⟩
theorem c13_ok : ConOk Try.prog T c13 := fn_ok (Φ := []) (rs := [.tmp 4]) (an := (.n none .o (.n none .o (.n none (.n none .o (.n none (.loop ⟨[.lf (.int .i64)], [(13, .one (.h 0 []))], [], [], 2640⟩ false [(.exit 0, ⟨[], [], [], [], 2640⟩)] .o) .o)) .o)))) pOk repOk (AllC.mem (l := []) trivial) hmix Try.call13 Try.func13 rfl rfl (by kernel_rfl) (fun h => by kernel_rfl)

noncomputable def faults_Active (a0 : (List Fault)) (a1 : Int) : Option ((List Part)) :=
  Option.bind (faults_Check a0) fun x1 =>
    if (x1 != 0) = true then some [] else Option.bind (faults_active a0 a1) fun x2 => some x2
noncomputable def c16 : Con D := ⟨16, [.lf (.sl 4), .lf (.int .i64)], [.lf (.sl 3)], [.one (.h 0 [0]), .one (.h 1 [])], [], [.one (.own 1000)], [(1000, .sl 3 41 0 [])], fun h => faults_Active h.1 h.2⟩
theorem c16_ok : ConOk Try.prog T c16 := fn_ok (Φ := [c14, c41]) (rs := [.tmp 4]) (an := .o) pOk repOk (AllC.mem (⟨c14_ok, c41_ok, trivial⟩ : AllC _ _ [c14, c41])) hmix Try.call16 Try.func16 rfl rfl (by kernel_rfl) (fun h => by kernel_rfl)

noncomputable def dynposlaw34_sane : Option (Bool) := Option.bind
  (faults_Merge
    [Fault.mk 5 1 (Part.mk 5 1),
      Fault.mk 9 2 (Part.mk 5 1)]
    [Fault.mk 7 1 (Part.mk 5 1),
      Fault.mk 12 2 (Part.mk 5 1)])
  fun x1 =>
  Option.bind
    (if (x1.1 == 0) = true then
      Option.bind
        (dynposref34_Same x1.2
          [Fault.mk 5 1 (Part.mk 5 1),
            Fault.mk 12 2 (Part.mk 5 1)])
        fun x2 =>
        if x2 = true then
          Option.bind (faults_Active x1.2 11) fun x3 =>
            if (len x3 == 1) = true then
              Option.bind (faults_Active x1.2 12) fun x4 => some (len x4 == 0)
            else some false
        else some false
    else some false)
    fun x5 => some x5
noncomputable def c9 : Con D := ⟨9, [], [.lf .bool], [], [], [.one (.h 0 [])], [], fun h => dynposlaw34_sane⟩
theorem c9_ok : ConOk Try.prog T c9 := fn_ok (Φ := [c12, c13, c16]) (rs := [.tmp 0]) (an := (.n none .o (.n none .o (.n none .o (.n none (.r (some (true, [(.normal, ⟨[.lf .bool], [(0, .one (.h 0 []))], [], [], 3344⟩)])) .nil) .o))))) pOk repOk (AllC.mem (⟨c12_ok, c13_ok, c16_ok, trivial⟩ : AllC _ _ [c12, c13, c16])) hmix Try.call9 Try.func9 rfl rfl (by kernel_rfl) (fun h => by kernel_rfl)

noncomputable def dynposmake_New (a0 : (List Int)) : Option ((List Int) × Int) := Option.bind (slc a0 0 (imin (len a0) 600)) fun x1 => some (x1, 0)
noncomputable def c10 : Con D := ⟨10, [.lf (.sl 0)], [.lf (.sl 0), .lf (.int .i64)], [.one (.h 0 [0])], [], [.one (.ptr 1000 0)], [(1000, .box [.h 0 [0], .h 1 []])], fun h => dynposmake_New h⟩
theorem c10_ok : ConOk Try.prog T c10 := fn_ok (Φ := []) (rs := [.tmp 2]) (an := .o) pOk repOk (AllC.mem (l := []) trivial) hmix Try.call10 Try.func10 rfl rfl (by kernel_rfl) (fun h => by kernel_rfl)

end Rx
end Go.Proofs.Ytmjcndmphjdjgaa
