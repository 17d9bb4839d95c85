/- Plain functions, walks. Written by a program (wip/gen). -/
import Derived.Test.YtkgfdplcjdidhaaRt
import Derived.Test.YtkgfdplcjdidhaaRf
set_option linter.unusedVariables false
set_option maxRecDepth 100000
namespace Go.Proofs.Ytkgfdplcjdidhaa
open Go Go.RowKit Dp
namespace Rx

noncomputable def design_Valid (a0 : Part) : Option (Bool) :=
  Option.bind
    (if decide (a0.Kind ≥ 1) = true then
      if decide (a0.Kind ≤ 9) = true then
        if decide (a0.Number ≥ 0) = true then some (decide (a0.Number ≤ 63)) else some false
      else some false
    else some false)
    fun x1 => some x1
noncomputable def c76 : Con D := ⟨76, [.lf (.int .i64), .lf (.int .i64)], [.lf .bool], [.agg [.h 0 [], .h 1 []]], [], [.one (.h 0 [])], [], fun h => design_Valid ⟨h.1, h.2⟩⟩
theorem c76_ok : ConOk Try.prog T c76 := fn_ok (Φ := []) (rs := [.tmp 2]) (an := (.n none .o (.n none (.r (some (true, [(.normal, ⟨[.lf .bool], [(2, .one (.h 0 []))], [], [], 2192⟩)])) .nil) .o))) pOk repOk (AllC.mem (l := []) trivial) hmix Try.call76 Try.func76 rfl rfl (by kernel_rfl) (fun h => by kernel_rfl)

noncomputable def faults_right (a0 : Fault) : Option (Bool) :=
  Option.bind
    (if decide (a0.Time ≥ 0) = true then
      if decide (a0.Time ≤ 2147483648) = true then
        if (a0.Kind == 1) = true then Option.bind (design_Valid a0.Part) fun x2 => some x2
        else
          if (a0.Kind == 2) = true then Option.bind (design_Valid a0.Part) fun x1 => some x1 else some false
      else some false
    else some false)
    fun x3 => some x3
noncomputable def c60 : Con D := ⟨60, [.lf (.int .i64), .lf (.int .i64), .lf (.int .i64), .lf (.int .i64)], [.lf .bool], [.agg [.h 0 [], .h 1 [], .h 2 [], .h 3 []]], [], [.one (.h 0 [])], [], fun h => faults_right ⟨h.1, h.2.1, ⟨h.2.2.1, h.2.2.2⟩⟩⟩
theorem c60_ok : ConOk Try.prog T c60 := fn_ok (Φ := [c76]) (rs := [.tmp 2]) (an := (.n none .o (.n none (.r (some (true, [(.normal, ⟨[.lf .bool], [(2, .one (.h 0 []))], [], [], 2192⟩)])) .nil) .o))) pOk repOk (AllC.mem (⟨c76_ok, trivial⟩ : AllC _ _ [c76])) hmix Try.call60 Try.func60 rfl rfl (by kernel_rfl) (fun h => by kernel_rfl)

noncomputable def faults_wrong_1 (a0 : Fault) : Option (Bool) := Option.bind (faults_right a0) fun x1 => some !x1
noncomputable def c59 : Con D := ⟨59, [.lf (.int .i64), .lf (.int .i64), .lf (.int .i64), .lf (.int .i64)], [.lf .bool], [.agg [.h 0 [], .h 1 [], .h 2 [], .h 3 []]], [], [.one (.h 0 [])], [], fun h => faults_wrong_1 ⟨h.1, h.2.1, ⟨h.2.2.1, h.2.2.2⟩⟩⟩
theorem c59_ok : ConOk Try.prog T c59 := fn_ok (Φ := [c60]) (rs := [.tmp 2]) (an := .o) pOk repOk (AllC.mem (⟨c60_ok, trivial⟩ : AllC _ _ [c60])) hmix Try.call59 Try.func59 rfl rfl (by kernel_rfl) (fun h => by kernel_rfl)

noncomputable def slices_IndexFunc_Fault_Fault_L1 (a0 : List
  Fault) : Int →
  Option
    (Int ⊕
      Unit ⊕
        Int) := fun x1 =>
  if decide (x1 < len a0) = true then
    Option.bind (idx a0 x1) fun x2 =>
      Option.bind (faults_wrong_1 x2) fun x3 =>
        if x3 = true then some (.inr (.inr x1)) else some (.inl (W (x1 + 1)))
  else some (.inr (.inl ()))
noncomputable def slices_IndexFunc_Fault_Fault (a0 : (List Fault)) : Option (Int) :=
  Option.bind (loopO (slices_IndexFunc_Fault_Fault_L1 a0) 0) fun x4 =>
    Sum.elim (fun x5 => some (-1)) (fun x6 => some x6) x4
noncomputable def c75 : Con D := ⟨75, [.lf (.sl 3)], [.lf (.int .i64)], [.one (.h 0 [0]), .one (.fn 59 [])], [], [.one (.h 0 [])], [], fun h => slices_IndexFunc_Fault_Fault h⟩
theorem c75_ok : ConOk Try.prog T c75 := fn_ok (Φ := [c59]) (rs := [.tmp 4]) (an := (.n none .o (.n none (.n none .o (.n none (.loop ⟨[.lf (.int .i64)], [(8, .one (.h 0 []))], [], [], 2320⟩ false [(.exit 0, ⟨[], [], [], [], 2320⟩)] .o) .o)) .o))) pOk repOk (AllC.mem (⟨c59_ok, trivial⟩ : AllC _ _ [c59])) hmix Try.call75 Try.func75 rfl rfl (by kernel_rfl) (fun h => by kernel_rfl)

noncomputable def slices_ContainsFunc_Fault_Fault (a0 : (List Fault)) : Option (Bool) := Option.bind (slices_IndexFunc_Fault_Fault a0) fun x1 => some (decide (x1 ≥ 0))
noncomputable def c58 : Con D := ⟨58, [.lf (.sl 3)], [.lf .bool], [.one (.h 0 [0]), .one (.fn 59 [])], [], [.one (.h 0 [])], [], fun h => slices_ContainsFunc_Fault_Fault h⟩
theorem c58_ok : ConOk Try.prog T c58 := fn_ok (Φ := [c75]) (rs := [.tmp 4]) (an := .o) pOk repOk (AllC.mem (⟨c75_ok, trivial⟩ : AllC _ _ [c75])) hmix Try.call58 Try.func58 rfl rfl (by kernel_rfl) (fun h => by kernel_rfl)

noncomputable def faults_wrong (a0 : (List Fault)) : Option (Bool) := Option.bind (slices_ContainsFunc_Fault_Fault a0) fun x1 => some x1
noncomputable def c30 : Con D := ⟨30, [.lf (.sl 3)], [.lf .bool], [.one (.h 0 [0])], [], [.one (.h 0 [])], [], fun h => faults_wrong h⟩
theorem c30_ok : ConOk Try.prog T c30 := fn_ok (Φ := [c58]) (rs := [.tmp 2]) (an := .o) pOk repOk (AllC.mem (⟨c58_ok, trivial⟩ : AllC _ _ [c58])) hmix Try.call30 Try.func30 rfl rfl (by kernel_rfl) (fun h => by kernel_rfl)

noncomputable def cmp_isNaN_int (a0 : Int) : Option (Bool) := some (a0 != a0)
noncomputable def c77 : Con D := ⟨77, [.lf (.int .i64)], [.lf .bool], [.one (.h 0 [])], [], [.one (.h 0 [])], [], fun h => cmp_isNaN_int h⟩
theorem c77_ok : ConOk Try.prog T c77 := fn_ok (Φ := []) (rs := [.tmp 2]) (an := .o) pOk repOk (AllC.mem (l := []) trivial) hmix Try.call77 Try.func77 rfl rfl (by kernel_rfl) (fun h => by kernel_rfl)

noncomputable def cmp_Compare_int (a0 : Int) (a1 : Int) : Option (Int) :=
  Option.bind (cmp_isNaN_int a0) fun x1 =>
    Option.bind (cmp_isNaN_int a1) fun x2 =>
      if x1 = true then if x2 = true then some 0 else some (-1)
      else
        if x2 = true then some 1
        else
          if decide (a0 < a1) = true then some (-1)
          else if decide (a0 > a1) = true then some 1 else some 0
noncomputable def c62 : Con D := ⟨62, [.lf (.int .i64), .lf (.int .i64)], [.lf (.int .i64)], [.one (.h 0 []), .one (.h 1 [])], [], [.one (.h 0 [])], [], fun h => cmp_Compare_int h.1 h.2⟩
theorem c62_ok : ConOk Try.prog T c62 := fn_ok (Φ := [c77]) (rs := [.tmp 4]) (an := .o) pOk repOk (AllC.mem (⟨c77_ok, trivial⟩ : AllC _ _ [c77])) hmix Try.call62 Try.func62 rfl rfl (by kernel_rfl) (fun h => by kernel_rfl)

noncomputable def cmp_Or_int_L1 (a0 : List
  Int) : Int →
  Option
    (Int ⊕
      Unit ⊕
        Int) := fun x1 =>
  if decide (x1 < len a0) = true then
    Option.bind (idx a0 x1) fun x2 =>
      if (x2 != 0) = true then some (.inr (.inr x2)) else some (.inl (W (x1 + 1)))
  else some (.inr (.inl ()))
noncomputable def cmp_Or_int (a0 : (List Int)) : Option (Int) :=
  Option.bind (loopO (cmp_Or_int_L1 a0) 0) fun x3 =>
    Sum.elim (fun x4 => some 0) (fun x5 => some x5) x3
noncomputable def c61 : Con D := ⟨61, [.lf (.sl 0)], [.lf (.int .i64)], [.one (.h 0 [0])], [], [.one (.h 0 [])], [], fun h => cmp_Or_int h⟩
theorem c61_ok : ConOk Try.prog T c61 := fn_ok (Φ := []) (rs := [.tmp 2]) (an := (.n none .o (.n none .o (.n none (.n none .o (.n none (.loop ⟨[.lf (.int .i64)], [(8, .one (.h 0 []))], [], [], 2384⟩ false [(.exit 0, ⟨[], [], [], [], 2384⟩)] .o) .o)) .o)))) pOk repOk (AllC.mem (l := []) trivial) hmix Try.call61 Try.func61 rfl rfl (by kernel_rfl) (fun h => by kernel_rfl)

noncomputable def design_Compare (a0 : Part) (a1 : Part) : Option (Int) :=
  Option.bind (cmp_Compare_int a0.Kind a1.Kind) fun x1 =>
    Option.bind (cmp_Compare_int a0.Number a1.Number) fun x2 => Option.bind (cmp_Or_int [x1, x2]) fun x3 => some x3
noncomputable def c63 : Con D := ⟨63, [.lf (.int .i64), .lf (.int .i64), .lf (.int .i64), .lf (.int .i64)], [.lf (.int .i64)], [.agg [.h 0 [], .h 1 []], .agg [.h 2 [], .h 3 []]], [], [.one (.h 0 [])], [], fun h => design_Compare ⟨h.1, h.2.1⟩ ⟨h.2.2.1, h.2.2.2⟩⟩
theorem c63_ok : ConOk Try.prog T c63 := fn_ok (Φ := [c61, c62]) (rs := [.tmp 4]) (an := .o) pOk repOk (AllC.mem (⟨c61_ok, c62_ok, trivial⟩ : AllC _ _ [c61, c62])) hmix Try.call63 Try.func63 rfl rfl (by kernel_rfl) (fun h => by kernel_rfl)

noncomputable def faults_compare (a0 : Fault) (a1 : Fault) : Option (Int) :=
  Option.bind (cmp_Compare_int a0.Time a1.Time) fun x1 =>
    Option.bind (design_Compare a0.Part a1.Part) fun x2 => Option.bind (cmp_Or_int [x1, x2]) fun x3 => some x3
noncomputable def c31 : Con D := ⟨31, [.lf (.int .i64), .lf (.int .i64), .lf (.int .i64), .lf (.int .i64), .lf (.int .i64), .lf (.int .i64), .lf (.int .i64), .lf (.int .i64)], [.lf (.int .i64)], [.agg [.h 0 [], .h 1 [], .h 2 [], .h 3 []], .agg [.h 4 [], .h 5 [], .h 6 [], .h 7 []]], [], [.one (.h 0 [])], [], fun h => faults_compare ⟨h.1, h.2.1, ⟨h.2.2.1, h.2.2.2.1⟩⟩ ⟨h.2.2.2.2.1, h.2.2.2.2.2.1, ⟨h.2.2.2.2.2.2.1, h.2.2.2.2.2.2.2⟩⟩⟩
theorem c31_ok : ConOk Try.prog T c31 := fn_ok (Φ := [c61, c62, c63]) (rs := [.tmp 4]) (an := .o) pOk repOk (AllC.mem (⟨c61_ok, c62_ok, c63_ok, trivial⟩ : AllC _ _ [c61, c62, c63])) hmix Try.call31 Try.func31 rfl rfl (by kernel_rfl) (fun h => by kernel_rfl)

noncomputable def slices_Backward_Fault_Fault (a0 : (List Fault)) : Option ((List Fault)) := some a0
noncomputable def c64 : Con D := ⟨64, [.lf (.sl 3)], [.lf (.sl 3)], [.one (.h 0 [0])], [], [.one (.fn 78 [.ptr 1000 0])], [(1000, .box [.h 0 [0]])], fun h => slices_Backward_Fault_Fault h⟩
theorem c64_ok : ConOk Try.prog T c64 := fn_ok (Φ := []) (rs := [.tmp 2]) (an := .o) pOk repOk (AllC.mem (l := []) trivial) hmix Try.call64 Try.func64 rfl rfl (by kernel_rfl) (fun h => by kernel_rfl)

theorem bk78 : BkOk Try.prog T (78, 3) := ⟨Try.f78, 23, 32, 3, 4, 93, .st 3, rfl, Try.call78, Try.func78, by kernel_rfl, rfl, rfl, rfl, rfl, rfl, rfl, rfl⟩
noncomputable def faults_last_L1 (a1 : Part) (x1 : List
  Fault) : Int × Int →
  Option
    (Int × Int ⊕
      Int ⊕
        Int) := fun x2 =>
  if decide (x2.1 < 0) = true then some (.inr (.inl x2.2))
  else
    Option.bind (idx x1 x2.1) fun x3 =>
      if (x3.Part.Kind == a1.Kind && x3.Part.Number == a1.Number) = true then some (.inr (.inr x3.Kind))
      else some (.inl (x2.1 - 1, x2.2))
noncomputable def faults_last (a0 : (List Fault)) (a1 : Part) : Option (Int) :=
  Option.bind (slices_Backward_Fault_Fault a0) fun x1 =>
    Option.bind (loopO (faults_last_L1 a1 x1) (len x1 - 1, 0)) fun x4 =>
      Sum.elim (fun x5 => some 2) (fun x6 => some x6) x4
noncomputable def c33 : Con D := ⟨33, [.lf (.sl 3), .lf (.int .i64), .lf (.int .i64)], [.lf (.int .i64)], [.one (.h 0 [0]), .agg [.h 1 [], .h 2 []]], [], [.one (.h 0 [])], [], fun h => faults_last h.1 ⟨h.2.1, h.2.2⟩⟩
theorem c33_ok : ConOk Try.prog T c33 := fnR_ok (Bk := [(78, 3)]) (Φ := [c64]) (rs := [.cell 4 3]) (an := (.n none .o (.n none (.n none .o (.loop ⟨[.lf (.int .i64), .lf (.int .i64)], [(9, .one (.h 0 []))], [(2064, .box [.h 1 []])], [2064], 2320⟩ false [(.exit 0, ⟨[.lf (.int .i64)], [], [(2064, .box [.h 0 []])], [2064], 2320⟩)] (.n none .o .o))) .o))) pOk repOk (AllC.mem (⟨c64_ok, trivial⟩ : AllC _ _ [c64])) hmix (fun q hq => (List.mem_singleton.1 hq) ▸ bk78) Try.call33 Try.func33 rfl rfl (by kernel_rfl) (fun h => by kernel_rfl)

noncomputable def faults_other (a0 : Int) : Option (Int) := some (W (3 - a0))
noncomputable def c32 : Con D := ⟨32, [.lf (.int .i64)], [.lf (.int .i64)], [.one (.h 0 [])], [], [.one (.h 0 [])], [], fun h => faults_other h⟩
theorem c32_ok : ConOk Try.prog T c32 := fn_ok (Φ := []) (rs := [.tmp 2]) (an := .o) pOk repOk (AllC.mem (l := []) trivial) hmix Try.call32 Try.func32 rfl rfl (by kernel_rfl) (fun h => by kernel_rfl)

noncomputable def faults_Check_L1 (a0 : List
  Fault) : Int →
  Option
    (Int ⊕
      Unit ⊕
        Int) := fun x2 =>
  if decide (x2 < len a0) = true then
    Option.bind (idx a0 (W (x2 - 1))) fun x3 =>
      Option.bind (idx a0 x2) fun x4 =>
        Option.bind (faults_compare x3 x4) fun x5 =>
          if decide (x5 ≥ 0) = true then some (.inr (.inr 7))
          else some (.inl (W (x2 + 1)))
  else some (.inr (.inl ()))
noncomputable def faults_Check_L2 (a0 : List
  Fault) : Int →
  Option
    (Int ⊕
      Unit ⊕
        Int) := fun x8 =>
  if decide (x8 < len a0) = true then
    Option.bind (idx a0 x8) fun x9 =>
      Option.bind (slc a0 0 x8) fun x10 =>
        Option.bind (faults_last x10 x9.Part) fun x11 =>
          Option.bind (faults_other x11) fun x12 =>
            if (x9.Kind != x12) = true then some (.inr (.inr 70))
            else some (.inl (W (x8 + 1)))
  else some (.inr (.inl ()))
noncomputable def faults_Check (a0 : (List Fault)) : Option (Int) :=
  if decide (len a0 > 24) = true then some 2
  else
    Option.bind (faults_wrong a0) fun x1 =>
      if x1 = true then some 1
      else
        Option.bind (loopO (faults_Check_L1 a0) 1) fun x6 =>
          Sum.elim
            (fun x7 =>
              Option.bind (loopO (faults_Check_L2 a0) 0) fun x13 =>
                Sum.elim (fun x14 => some 0) (fun x15 => some x15) x13)
            (fun x16 => some x16) x6
noncomputable def c9 : Con D := ⟨9, [.lf (.sl 3)], [.lf (.int .i64)], [.one (.h 0 [0])], [], [.one (.h 0 [])], [], fun h => faults_Check h⟩
theorem c9_ok : ConOk Try.prog T c9 := fn_ok (Φ := [c30, c31, c32, c33]) (rs := [.tmp 2]) (an := (.n none .o (.n none .o (.n none (.n none .o (.n none (.loop ⟨[.lf (.int .i64)], [(3, .one (.h 0 []))], [], [], 2640⟩ false [(.exit 1, ⟨[], [], [], [], 2640⟩)] .o) .o)) (.n none (.n none .o (.n none (.loop ⟨[.lf (.int .i64)], [(32, .one (.h 0 []))], [], [], 2896⟩ false [(.exit 3, ⟨[], [], [], [], 2896⟩)] .o) .o)) .o))))) pOk repOk (AllC.mem (⟨c30_ok, c31_ok, c32_ok, c33_ok, trivial⟩ : AllC _ _ [c30, c31, c32, c33])) hmix Try.call9 Try.func9 rfl rfl (by kernel_rfl) (fun h => by kernel_rfl)

noncomputable def cmp_Or_Errno_L1 (a0 : List
  Int) : Int →
  Option
    (Int ⊕
      Unit ⊕
        Int) := fun x1 =>
  if decide (x1 < len a0) = true then
    Option.bind (idx a0 x1) fun x2 =>
      if (x2 != 0) = true then some (.inr (.inr x2)) else some (.inl (W (x1 + 1)))
  else some (.inr (.inl ()))
noncomputable def cmp_Or_Errno (a0 : (List Int)) : Option (Int) :=
  Option.bind (loopO (cmp_Or_Errno_L1 a0) 0) fun x3 =>
    Sum.elim (fun x4 => some 0) (fun x5 => some x5) x3
noncomputable def c51 : Con D := ⟨51, [.lf (.sl 0)], [.lf (.int .i64)], [.one (.h 0 [0])], [], [.one (.h 0 [])], [], fun h => cmp_Or_Errno h⟩
theorem c51_ok : ConOk Try.prog T c51 := fn_ok (Φ := []) (rs := [.tmp 2]) (an := (.n none .o (.n none .o (.n none (.n none .o (.n none (.loop ⟨[.lf (.int .i64)], [(8, .one (.h 0 []))], [], [], 2384⟩ false [(.exit 0, ⟨[], [], [], [], 2384⟩)] .o) .o)) .o)))) pOk repOk (AllC.mem (l := []) trivial) hmix Try.call51 Try.func51 rfl rfl (by kernel_rfl) (fun h => by kernel_rfl)

noncomputable def slices_Grow_Fault_Fault (a0 : Int) : Option ((List Fault)) :=
  if decide (a0 < 0) = true then none
  else
    Option.bind
      (if decide (W (a0 - W (0 - 0)) > 0) = true then
        Option.bind (slc ([] : List Unit) 0 0) fun x1 =>
          Option.bind
            (mkP (Fault.mk 0 0 (Part.mk 0 0))
              (W (a0 - W (0 - 0))))
            fun x2 => Option.bind (slc x2 0 0) fun x3 => some x3
      else some [])
      fun x4 => some x4
noncomputable def c73 : Con D := ⟨73, [.lf (.int .i64)], [.lf (.sl 3)], [.one (.nils), .one (.h 0 [])], [], [.one (.own 1000)], [(1000, .sl 3 32 0 [])], fun h => slices_Grow_Fault_Fault h⟩
theorem c73_ok : ConOk Try.prog T c73 := fn_ok (Φ := []) (rs := [.tmp 4]) (an := (.n none .o (.n none .o (.n none (.n none .o (.n none .o (.n (some (true, [(.normal, ⟨[.lf (.sl 3)], [(0, .one (.own 2832))], [(2832, .sl 3 32 0 [])], [], 2896⟩)])) .o .o))) .o)))) pOk repOk (AllC.mem (l := []) trivial) hmix Try.call73 Try.func73 rfl rfl (by kernel_rfl) (fun h => by kernel_rfl)

noncomputable def slices_Concat_Fault_Fault_v1_L1 (a0 : List
  (List
    Fault)) : Int × Int →
  Option
    (Int × Int ⊕
      Int) := fun x1 =>
  if decide (x1.2 < len a0) = true then
    Option.bind (idx a0 x1.2) fun x2 =>
      if decide (W (x1.1 + len x2) < 0) = true then none
      else some (.inl (W (x1.1 + len x2), W (x1.2 + 1)))
  else some (.inr x1.1)
noncomputable def slices_Concat_Fault_Fault_v1_L2 (a0 : List
  (List
    Fault)) : Int × List Fault →
  Option
    (Int × List Fault ⊕
      List
        Fault) := fun x5 =>
  if decide (x5.1 < len a0) = true then
    Option.bind (idx a0 x5.1) fun x6 =>
      Option.bind (app x5.2 x6) fun x7 => some (.inl (W (x5.1 + 1), x7))
  else some (.inr x5.2)
noncomputable def slices_Concat_Fault_Fault_v1 (a0 : (List (List Fault))) : Option ((List (List Fault)) × (List Fault)) :=
  Option.bind (loopO (slices_Concat_Fault_Fault_v1_L1 a0) (0, 0)) fun x3 =>
    Option.bind (slices_Grow_Fault_Fault x3) fun x4 =>
      Option.bind (loopO (slices_Concat_Fault_Fault_v1_L2 a0) (0, x4)) fun x8 => some (a0, x8)
noncomputable def c52_1 : Con D := ⟨52, [.lf (.sl 5)], [.lf (.sl 5), .lf (.sl 3)], [.one (.own 1000)], [(1000, .sl 5 23 0 [0])], [.one (.own 1001)], [(1000, .sl 5 23 0 [0]), (1001, .sl 3 32 1 [0])], fun h => slices_Concat_Fault_Fault_v1 h⟩
theorem c52_1_ok : ConOk Try.prog T c52_1 := fn_ok (Φ := [c73]) (rs := [.tmp 2]) (an := (.n none .o (.n none .o (.n none (.n none .o (.n none (.loop ⟨[.lf (.int .i64), .lf (.int .i64)], [(3, .one (.h 0 [])), (11, .one (.h 1 []))], [], [], 2384⟩ true [(.exit 0, ⟨[.lf (.int .i64)], [(3, .one (.h 0 []))], [], [], 2384⟩)] .o) .o)) (.n none .o (.n none (.n none .o (.n none (.loop ⟨[.lf (.int .i64), .lf (.sl 3)], [(6, .one (.own 2769)), (27, .one (.h 0 []))], [(2769, .sl 3 32 1 [0])], [2457], 2833⟩ true [(.exit 2, ⟨[.lf (.sl 3)], [(6, .one (.own 2769))], [(2769, .sl 3 32 0 [0])], [2457], 2833⟩)] .o) .o)) .o)))))) pOk repOk (AllC.mem (⟨c73_ok, trivial⟩ : AllC _ _ [c73])) hmix Try.call52 Try.func52 rfl rfl (by kernel_rfl) (fun h => by kernel_rfl)

noncomputable def faults_until_1 (a0 : Fault) (a1 : Int) : Option (Int) := if decide (a0.Time > a1) = true then some 1 else some (-1)
noncomputable def c84 : Con D := ⟨84, [.lf (.int .i64), .lf (.int .i64), .lf (.int .i64), .lf (.int .i64), .lf (.int .i64)], [.lf (.int .i64)], [.agg [.h 0 [], .h 1 [], .h 2 [], .h 3 []], .one (.h 4 [])], [], [.one (.h 0 [])], [], fun h => faults_until_1 ⟨h.1, h.2.1, ⟨h.2.2.1, h.2.2.2.1⟩⟩ h.2.2.2.2⟩
theorem c84_ok : ConOk Try.prog T c84 := fn_ok (Φ := []) (rs := [.tmp 4]) (an := .o) pOk repOk (AllC.mem (l := []) trivial) hmix Try.call84 Try.func84 rfl rfl (by kernel_rfl) (fun h => by kernel_rfl)

noncomputable def slices_BinarySearchFunc_Fault_Fault_int_L1 (a0 : List
  Fault) (a1 : Int) : Int × Int →
  Option
    (Int × Int ⊕
      Int) := fun x1 =>
  if decide (x1.1 < x1.2) = true then
    Option.bind (shrO 64 (iwrap IntKind.u64 (W (x1.1 + x1.2))) 1) fun x2 =>
      Option.bind (idx a0 (W x2)) fun x3 =>
        Option.bind (faults_until_1 x3 a1) fun x4 =>
          Option.bind
            (if decide (x4 < 0) = true then some (W (W x2 + 1), x1.2) else some (x1.1, W x2))
            fun x5 => some (.inl (x5.1, x5.2))
  else some (.inr x1.1)
noncomputable def slices_BinarySearchFunc_Fault_Fault_int (a0 : (List Fault)) (a1 : Int) : Option (Int × Bool) :=
  Option.bind (loopO (slices_BinarySearchFunc_Fault_Fault_int_L1 a0 a1) (0, len a0)) fun x6 =>
    Option.bind
      (if decide (x6 < len a0) = true then
        Option.bind (idx a0 x6) fun x7 => Option.bind (faults_until_1 x7 a1) fun x8 => some (x6, x8 == 0)
      else some (x6, false))
      fun x9 => some (x9.1, x9.2)
noncomputable def c83 : Con D := ⟨83, [.lf (.sl 3), .lf (.int .i64)], [.lf (.int .i64), .lf .bool], [.one (.h 0 [0]), .one (.h 1 []), .one (.fn 84 [])], [], [.one (.h 0 []), .one (.h 1 [])], [], fun h => slices_BinarySearchFunc_Fault_Fault_int h.1 h.2⟩
theorem c83_ok : ConOk Try.prog T c83 := fn_ok (Φ := [c84]) (rs := [.tmp 6, .tmp 7]) (an := (.n none .o (.n none .o (.n none .o (.n none (.n none (.loop ⟨[.lf (.int .i64), .lf (.int .i64)], [(9, .one (.h 0 [])), (10, .one (.h 1 []))], [], [], 2576⟩ true [(.exit 0, ⟨[.lf (.int .i64)], [(9, .one (.h 0 []))], [], [], 2576⟩)] (.n none .o (.n none (.n none .o (.n none .o (.n (some (true, [(.normal, ⟨[.lf (.int .i64), .lf (.int .i64)], [(9, .one (.h 0 [])), (10, .one (.h 1 []))], [], [], 3794⟩)])) .o .o))) .o))) .o) (.n none (.r (some (true, [(.normal, ⟨[.lf (.int .i64), .lf .bool], [(6, .one (.h 0 [])), (7, .one (.h 1 []))], [], [], 2641⟩)])) .nil) .o)))))) pOk repOk (AllC.mem (⟨c84_ok, trivial⟩ : AllC _ _ [c84])) hmix Try.call83 Try.func83 rfl rfl (by kernel_rfl) (fun h => by kernel_rfl)

noncomputable def faults_until (a0 : (List Fault)) (a1 : Int) : Option ((List Fault)) :=
  Option.bind (slices_BinarySearchFunc_Fault_Fault_int a0 a1) fun x1 =>
    Option.bind (slc a0 0 x1.1) fun x2 => some x2
noncomputable def c71 : Con D := ⟨71, [.lf (.sl 3), .lf (.int .i64)], [.lf (.sl 3)], [.one (.h 0 [0]), .one (.h 1 [])], [], [.one (.h 0 [0])], [], fun h => faults_until h.1 h.2⟩
theorem c71_ok : ConOk Try.prog T c71 := fn_ok (Φ := [c83]) (rs := [.tmp 4]) (an := .o) pOk repOk (AllC.mem (⟨c83_ok, trivial⟩ : AllC _ _ [c83])) hmix Try.call71 Try.func71 rfl rfl (by kernel_rfl) (fun h => by kernel_rfl)

noncomputable def faults_active_1 (a0 : Fault) (a1 : (List Fault)) : Option (Bool) := Option.bind (faults_last a1 a0.Part) fun x1 => some (x1 == 1)
noncomputable def c72 : Con D := ⟨72, [.lf (.int .i64), .lf (.int .i64), .lf (.int .i64), .lf (.int .i64), .el 5], [.lf .bool], [.agg [.h 0 [], .h 1 [], .h 2 [], .h 3 []], .one (.rp 4 5 [0])], [], [.one (.h 0 [])], [], fun h => faults_active_1 ⟨h.1, h.2.1, ⟨h.2.2.1, h.2.2.2.1⟩⟩ h.2.2.2.2⟩
theorem c72_ok : ConOk Try.prog T c72 := fn_ok (Φ := [c33]) (rs := [.tmp 3]) (an := .o) pOk repOk (AllC.mem (⟨c33_ok, trivial⟩ : AllC _ _ [c33])) hmix Try.call72 Try.func72 rfl rfl (by kernel_rfl) (fun h => by kernel_rfl)

noncomputable def faults_parts_1 (a0 : Fault) (a1 : (List Fault)) : Option (Int × Int × Bool × (List Fault)) := Option.bind (faults_active_1 a0 a1) fun x1 => some (a0.Part.Kind, a0.Part.Number, x1, a1)
noncomputable def c67 : Con D := ⟨67, [.lf (.int .i64), .lf (.int .i64), .lf (.int .i64), .lf (.int .i64), .el 5], [.lf (.int .i64), .lf (.int .i64), .lf .bool, .el 5], [.agg [.h 0 [], .h 1 [], .h 2 [], .h 3 []], .one (.ptr 1000 0)], [(1000, .box [.fn 72 [.rp 4 5 [0]]])], [.agg [.h 0 [], .h 1 []], .one (.h 2 [])], [(1000, .box [.fn 72 [.rp 3 5 [0]]])], fun h => faults_parts_1 ⟨h.1, h.2.1, ⟨h.2.2.1, h.2.2.2.1⟩⟩ h.2.2.2.2⟩
theorem c67_ok : ConOk Try.prog T c67 := fn_ok (Φ := [c72]) (rs := [.cell 3 25, .tmp 4]) (an := .o) pOk repOk (AllC.mem (⟨c72_ok, trivial⟩ : AllC _ _ [c72])) hmix Try.call67 Try.func67 rfl rfl (by kernel_rfl) (fun h => by kernel_rfl)

noncomputable def slices_insertionSortCmpFunc_Part_L2 (a1 : Int) : Int × List Part →
  Option
    (Int × List Part ⊕
      List
        Part) := fun x2 =>
  Option.bind
    (if decide (x2.1 > a1) = true then
      Option.bind (idx x2.2 x2.1) fun x3 =>
        Option.bind (idx x2.2 (W (x2.1 - 1))) fun x4 =>
          Option.bind (design_Compare x3 x4) fun x5 => some (decide (x5 < 0))
    else some false)
    fun x6 =>
    if x6 = true then
      Option.bind (idx x2.2 (W (x2.1 - 1))) fun x7 =>
        Option.bind (idx x2.2 x2.1) fun x8 =>
          Option.bind (idx x2.2 x2.1) fun x9 =>
            Option.bind (idx x2.2 x2.1) fun x10 =>
              Option.bind (setO x2.2 x2.1 x7) fun x11 =>
                Option.bind (idx x11 (W (x2.1 - 1))) fun x12 =>
                  Option.bind (idx x11 (W (x2.1 - 1))) fun x13 =>
                    Option.bind (setO x11 (W (x2.1 - 1)) x8) fun x14 =>
                      some (.inl (W (x2.1 - 1), x14))
    else some (.inr x2.2)
noncomputable def slices_insertionSortCmpFunc_Part_L1 (a1 : Int) (a2 : Int) : Int × List Part →
  Option
    (Int × List Part ⊕
      List
        Part) := fun x1 =>
  if decide (x1.1 < a2) = true then
    Option.bind (loopO (slices_insertionSortCmpFunc_Part_L2 a1) (x1.1, x1.2)) fun x15 =>
      some (.inl (W (x1.1 + 1), x15))
  else some (.inr x1.2)
noncomputable def slices_insertionSortCmpFunc_Part (a0 : (List Part)) (a1 : Int) (a2 : Int) : Option ((List Part)) :=
  Option.bind (loopO (slices_insertionSortCmpFunc_Part_L1 a1 a2) (W (a1 + 1), a0)) fun x16 => some x16
noncomputable def c89 : Con D := ⟨89, [.lf (.sl 4), .lf (.int .i64), .lf (.int .i64)], [.lf (.sl 4)], [.one (.own 1000), .one (.h 1 []), .one (.h 2 []), .one (.fn 63 [])], [(1000, .sl 4 25 0 [0])], [], [(1000, .sl 4 25 0 [0])], fun h => slices_insertionSortCmpFunc_Part h.1 h.2.1 h.2.2⟩
theorem c89_ok : ConOk Try.prog T c89 := fn_ok (Φ := [c63]) (rs := []) (an := (.n none .o (.n none (.loop ⟨[.lf (.int .i64), .lf (.sl 4)], [(8, .one (.h 0 []))], [(1000, .sl 4 25 1 [0])], [1000], 2256⟩ true [(.exit 0, ⟨[.lf (.sl 4)], [], [(1000, .sl 4 25 0 [0])], [1000], 2256⟩)] (.n none .o (.n none (.n none (.n none .o (.n none (.loop ⟨[.lf (.int .i64), .lf (.sl 4)], [(9, .one (.h 0 []))], [(1000, .sl 4 25 1 [0])], [1000], 2642⟩ true [(.exit 2, ⟨[.lf (.sl 4)], [(22, .one (.any)), (23, .one (.any)), (24, .one (.any)), (25, .one (.any)), (26, .one (.any)), (27, .one (.any)), (28, .one (.any)), (29, .one (.any)), (30, .one (.any)), (31, .one (.any)), (32, .one (.any)), (33, .one (.any))], [(1000, .sl 4 25 0 [0])], [1000], 2642⟩)] (.n none (.n none (.r (some (true, [(.normal, ⟨[.lf .bool], [(22, .one (.any)), (23, .one (.any)), (24, .one (.any)), (25, .one (.any)), (26, .one (.any)), (27, .one (.any)), (28, .one (.any)), (29, .one (.any)), (30, .one (.any)), (31, .one (.any)), (32, .one (.any)), (33, .one (.any)), (34, .one (.h 0 []))], [], [], 2708⟩)])) .nil) .o) .o)) .o)) .o) .o))) .o))) pOk repOk (AllC.mem (⟨c63_ok, trivial⟩ : AllC _ _ [c63])) hmix Try.call89 Try.func89 rfl rfl (by kernel_rfl) (fun h => by kernel_rfl)

noncomputable def slices_swapRangeCmpFunc_Part_L1 (a1 : Int) (a2 : Int) (a3 : Int) : Int × List Part →
  Option
    (Int × List Part ⊕
      List
        Part) := fun x1 =>
  if decide (x1.1 < a3) = true then
    Option.bind (idx x1.2 (W (a2 + x1.1))) fun x2 =>
      Option.bind (idx x1.2 (W (a1 + x1.1))) fun x3 =>
        Option.bind (idx x1.2 (W (a1 + x1.1))) fun x4 =>
          Option.bind (idx x1.2 (W (a1 + x1.1))) fun x5 =>
            Option.bind (setO x1.2 (W (a1 + x1.1)) x2) fun x6 =>
              Option.bind (idx x6 (W (a2 + x1.1))) fun x7 =>
                Option.bind (idx x6 (W (a2 + x1.1))) fun x8 =>
                  Option.bind (setO x6 (W (a2 + x1.1)) x3) fun x9 => some (.inl (W (x1.1 + 1), x9))
  else some (.inr x1.2)
noncomputable def slices_swapRangeCmpFunc_Part (a0 : (List Part)) (a1 : Int) (a2 : Int) (a3 : Int) : Option ((List Part)) := Option.bind (loopO (slices_swapRangeCmpFunc_Part_L1 a1 a2 a3) (0, a0)) fun x10 => some x10
noncomputable def c94 : Con D := ⟨94, [.lf (.sl 4), .lf (.int .i64), .lf (.int .i64), .lf (.int .i64)], [.lf (.sl 4)], [.one (.own 1000), .one (.h 1 []), .one (.h 2 []), .one (.h 3 []), .one (.fn 63 [])], [(1000, .sl 4 25 0 [0])], [], [(1000, .sl 4 25 0 [0])], fun h => slices_swapRangeCmpFunc_Part h.1 h.2.1 h.2.2.1 h.2.2.2⟩
theorem c94_ok : ConOk Try.prog T c94 := fn_ok (Φ := []) (rs := []) (an := (.n none .o (.n none (.loop ⟨[.lf (.int .i64), .lf (.sl 4)], [(10, .one (.h 0 []))], [(1000, .sl 4 25 1 [0])], [1000], 2128⟩ true [(.exit 0, ⟨[.lf (.sl 4)], [], [(1000, .sl 4 25 0 [0])], [1000], 2128⟩)] .o) .o))) pOk repOk (AllC.mem (l := []) trivial) hmix Try.call94 Try.func94 rfl rfl (by kernel_rfl) (fun h => by kernel_rfl)

noncomputable def slices_rotateCmpFunc_Part_L1 (a2 : Int) : Int × Int × List Part →
  Option
    (Int × Int × List Part ⊕
      Int ×
        List
          Part) := fun x1 =>
  if (x1.1 != x1.2.1) = true then
    Option.bind
      (if decide (x1.1 > x1.2.1) = true then
        Option.bind (slices_swapRangeCmpFunc_Part x1.2.2 (W (a2 - x1.1)) a2 x1.2.1) fun x3 =>
          some (W (x1.1 - x1.2.1), x1.2.1, x3)
      else
        Option.bind
          (slices_swapRangeCmpFunc_Part x1.2.2 (W (a2 - x1.1)) (W (W (a2 + x1.2.1) - x1.1)) x1.1)
          fun x2 => some (x1.1, W (x1.2.1 - x1.1), x2))
      fun x4 => some (.inl (x4.1, x4.2.1, x4.2.2))
  else some (.inr (x1.1, x1.2.2))
noncomputable def slices_rotateCmpFunc_Part (a0 : (List Part)) (a1 : Int) (a2 : Int) (a3 : Int) : Option ((List Part)) :=
  Option.bind (loopO (slices_rotateCmpFunc_Part_L1 a2) (W (a2 - a1), W (a3 - a2), a0)) fun x5 =>
    Option.bind (slices_swapRangeCmpFunc_Part x5.2 (W (a2 - x5.1)) a2 x5.1) fun x6 => some x6
noncomputable def c92 : Con D := ⟨92, [.lf (.sl 4), .lf (.int .i64), .lf (.int .i64), .lf (.int .i64)], [.lf (.sl 4)], [.one (.own 1000), .one (.h 1 []), .one (.h 2 []), .one (.h 3 []), .one (.fn 63 [])], [(1000, .sl 4 25 0 [0])], [], [(1000, .sl 4 25 0 [0])], fun h => slices_rotateCmpFunc_Part h.1 h.2.1 h.2.2.1 h.2.2.2⟩
theorem c92_ok : ConOk Try.prog T c92 := fn_ok (Φ := [c94]) (rs := []) (an := (.n none .o (.n none .o (.n none (.n none (.loop ⟨[.lf (.int .i64), .lf (.int .i64), .lf (.sl 4)], [(10, .one (.h 0 [])), (11, .one (.h 1 []))], [(1000, .sl 4 25 2 [0])], [1000], 2576⟩ true [(.exit 0, ⟨[.lf (.int .i64), .lf (.sl 4)], [(10, .one (.h 0 []))], [(1000, .sl 4 25 1 [0])], [1000], 2576⟩)] (.n none .o (.n none (.n none .o (.n (some (true, [(.normal, ⟨[.lf (.int .i64), .lf (.int .i64), .lf (.sl 4)], [(10, .one (.h 0 [])), (11, .one (.h 1 []))], [(1000, .sl 4 25 2 [0])], [1000], 3027⟩)])) .o .o)) .o))) .o) .o)))) pOk repOk (AllC.mem (⟨c94_ok, trivial⟩ : AllC _ _ [c94])) hmix Try.call92 Try.func92 rfl rfl (by kernel_rfl) (fun h => by kernel_rfl)

noncomputable def slices_symMergeCmpFunc_Part_L1 (F : ((List Part)) → (Int) → (Int) → (Int) → Option ((List Part))) (a0 : List
  Part) (a2 : Int) (x1 : Int) : Int × Int →
  Option
    (Int × Int ⊕
      Int) := fun x3 =>
  if decide (x3.1 < x3.2) = true then
    Option.bind (shrO 64 (iwrap IntKind.u64 (W (x3.1 + x3.2))) 1) fun x4 =>
      Option.bind (idx a0 (W (W (W (W x1 + a2) - 1) - W x4))) fun x5 =>
        Option.bind (idx a0 (W x4)) fun x6 =>
          Option.bind (design_Compare x5 x6) fun x7 =>
            Option.bind
              (if (!decide (x7 < 0)) = true then some (W (W x4 + 1), x3.2)
              else some (x3.1, W x4))
              fun x8 => some (.inl (x8.1, x8.2))
  else some (.inr x3.1)
noncomputable def slices_symMergeCmpFunc_Part_L2 (F : ((List Part)) → (Int) → (Int) → (Int) → Option ((List Part))) (a0 : List
  Part) (a2 : Int) : Int × Int →
  Option
    (Int × Int ⊕
      Int) := fun x19 =>
  if decide (x19.1 < x19.2) = true then
    Option.bind (shrO 64 (iwrap IntKind.u64 (W (x19.1 + x19.2))) 1) fun x20 =>
      Option.bind (idx a0 a2) fun x21 =>
        Option.bind (idx a0 (W x20)) fun x22 =>
          Option.bind (design_Compare x21 x22) fun x23 =>
            Option.bind
              (if (!decide (x23 < 0)) = true then some (W (W x20 + 1), x19.2)
              else some (x19.1, W x20))
              fun x24 => some (.inl (x24.1, x24.2))
  else some (.inr x19.1)
noncomputable def slices_symMergeCmpFunc_Part_L3 (F : ((List Part)) → (Int) → (Int) → (Int) → Option ((List Part))) (x25 : Int) : Int × List Part →
  Option
    (Int × List Part ⊕
      List
        Part) := fun x26 =>
  if decide (x26.1 > x25) = true then
    Option.bind (idx x26.2 (W (x26.1 - 1))) fun x27 =>
      Option.bind (idx x26.2 x26.1) fun x28 =>
        Option.bind (idx x26.2 x26.1) fun x29 =>
          Option.bind (idx x26.2 x26.1) fun x30 =>
            Option.bind (setO x26.2 x26.1 x27) fun x31 =>
              Option.bind (idx x31 (W (x26.1 - 1))) fun x32 =>
                Option.bind (idx x31 (W (x26.1 - 1))) fun x33 =>
                  Option.bind (setO x31 (W (x26.1 - 1)) x28) fun x34 =>
                    some (.inl (W (x26.1 - 1), x34))
  else some (.inr x26.2)
noncomputable def slices_symMergeCmpFunc_Part_L4 (F : ((List Part)) → (Int) → (Int) → (Int) → Option ((List Part))) (a0 : List
  Part) (a1 : Int) : Int × Int →
  Option
    (Int × Int ⊕
      Int) := fun x36 =>
  if decide (x36.1 < x36.2) = true then
    Option.bind (shrO 64 (iwrap IntKind.u64 (W (x36.1 + x36.2))) 1) fun x37 =>
      Option.bind (idx a0 (W x37)) fun x38 =>
        Option.bind (idx a0 a1) fun x39 =>
          Option.bind (design_Compare x38 x39) fun x40 =>
            Option.bind
              (if decide (x40 < 0) = true then some (W (W x37 + 1), x36.2)
              else some (x36.1, W x37))
              fun x41 => some (.inl (x41.1, x41.2))
  else some (.inr x36.1)
noncomputable def slices_symMergeCmpFunc_Part_L5 (F : ((List Part)) → (Int) → (Int) → (Int) → Option ((List Part))) (x42 : Int) : Int × List Part →
  Option
    (Int × List Part ⊕
      List
        Part) := fun x43 =>
  if decide (x43.1 < W (x42 - 1)) = true then
    Option.bind (idx x43.2 (W (x43.1 + 1))) fun x44 =>
      Option.bind (idx x43.2 x43.1) fun x45 =>
        Option.bind (idx x43.2 x43.1) fun x46 =>
          Option.bind (idx x43.2 x43.1) fun x47 =>
            Option.bind (setO x43.2 x43.1 x44) fun x48 =>
              Option.bind (idx x48 (W (x43.1 + 1))) fun x49 =>
                Option.bind (idx x48 (W (x43.1 + 1))) fun x50 =>
                  Option.bind (setO x48 (W (x43.1 + 1)) x45) fun x51 =>
                    some (.inl (W (x43.1 + 1), x51))
  else some (.inr x43.2)
noncomputable def slices_symMergeCmpFunc_Part_S (F : ((List Part)) → (Int) → (Int) → (Int) → Option ((List Part))) (a0 : (List Part)) (a1 : Int) (a2 : Int) (a3 : Int) : Option ((List Part)) :=
  if (W (a2 - a1) == 1) = true then
    Option.bind (loopO (slices_symMergeCmpFunc_Part_L4 F a0 a1) (a2, a3)) fun x42 =>
      Option.bind (loopO (slices_symMergeCmpFunc_Part_L5 F x42) (a1, a0)) fun x52 => some x52
  else
    if (W (a3 - a2) == 1) = true then
      Option.bind (loopO (slices_symMergeCmpFunc_Part_L2 F a0 a2) (a1, a2)) fun x25 =>
        Option.bind (loopO (slices_symMergeCmpFunc_Part_L3 F x25) (a2, a0)) fun x35 => some x35
    else
      Option.bind (shrO 64 (iwrap IntKind.u64 (W (a1 + a3))) 1) fun x1 =>
        Option.bind (if decide (a2 > W x1) = true then some (W (W (W x1 + a2) - a3), W x1) else some (a1, a2)) fun x2 =>
          Option.bind (loopO (slices_symMergeCmpFunc_Part_L1 F a0 a2 x1) (x2.1, x2.2)) fun x9 =>
            Option.bind (if decide (x9 < a2) = true then some (decide (a2 < W (W (W x1 + a2) - x9))) else some false)
              fun x10 =>
              Option.bind
                (if x10 = true then
                  Option.bind (slices_rotateCmpFunc_Part a0 x9 a2 (W (W (W x1 + a2) - x9))) fun x11 => some x11
                else some a0)
                fun x12 =>
                Option.bind (if decide (a1 < x9) = true then some (decide (x9 < W x1)) else some false) fun x13 =>
                  Option.bind
                    (if x13 = true then Option.bind (F x12 a1 x9 (W x1)) fun x14 => some x14
                    else some x12)
                    fun x15 =>
                    Option.bind
                      (if decide (W x1 < W (W (W x1 + a2) - x9)) = true then some (decide (W (W (W x1 + a2) - x9) < a3))
                      else some false)
                      fun x16 =>
                      Option.bind
                        (if x16 = true then
                          Option.bind (F x15 (W x1) (W (W (W x1 + a2) - x9)) a3) fun x17 =>
                            some x17
                        else some x15)
                        fun x18 => some x18
/-- it calls itself: of so many calls below one another -/
noncomputable def slices_symMergeCmpFunc_Part_R (n : Nat) : ((List Part)) → (Int) → (Int) → (Int) → Option ((List Part)) := Nat.rec (motive := fun _ => ((List Part)) → (Int) → (Int) → (Int) → Option ((List Part))) (fun _ _ _ _ => none) (fun _ F => slices_symMergeCmpFunc_Part_S F) n
noncomputable def slices_symMergeCmpFunc_Part (a0 : (List Part)) (a1 : Int) (a2 : Int) (a3 : Int) : Option ((List Part)) := slices_symMergeCmpFunc_Part_R 64 a0 a1 a2 a3
noncomputable def c90_k (n : Nat) : Con D := ⟨90, [.lf (.sl 4), .lf (.int .i64), .lf (.int .i64), .lf (.int .i64)], [.lf (.sl 4)], [.one (.own 1000), .one (.h 1 []), .one (.h 2 []), .one (.h 3 []), .one (.fn 63 [])], [(1000, .sl 4 25 0 [0])], [], [(1000, .sl 4 25 0 [0])], fun h => slices_symMergeCmpFunc_Part_R n h.1 h.2.1 h.2.2.1 h.2.2.2⟩
noncomputable def c90 : Con D := c90_k 64
theorem c90_k_ok : ∀ n, ConOk Try.prog T (c90_k n)
  | 0 => none_ok Try.call90 rfl (fun h => rfl)
  | n + 1 => fn_ok (Φ := [c63, c90_k n, c92]) (rs := []) (an := (.n none (.n none .o (.n none (.n none .o (.n none .o (.n none (.n none (.loop ⟨[.lf (.int .i64), .lf (.int .i64)], [(10, .one (.h 0 [])), (11, .one (.h 1 []))], [], [], 2576⟩ true [(.exit 0, ⟨[.lf (.int .i64)], [(10, .one (.h 0 []))], [], [], 2576⟩)] (.n none .o (.n none (.n none .o (.n none .o (.n (some (true, [(.normal, ⟨[.lf (.int .i64), .lf (.int .i64)], [(10, .one (.h 0 [])), (11, .one (.h 1 []))], [], [], 3986⟩)])) .o .o))) .o))) .o) (.n none (.n none .o (.n none (.loop ⟨[.lf (.int .i64), .lf (.sl 4)], [(13, .one (.h 0 []))], [(1000, .sl 4 25 1 [0])], [1000], 2769⟩ true [(.exit 2, ⟨[.lf (.sl 4)], [], [(1000, .sl 4 25 0 [0])], [1000], 2769⟩)] .o) .o)) .o)))) .o)) (.n none (.n none .o (.n none (.n none .o (.n none .o (.n none (.n none (.loop ⟨[.lf (.int .i64), .lf (.int .i64)], [(14, .one (.h 0 [])), (15, .one (.h 1 []))], [], [], 2832⟩ true [(.exit 4, ⟨[.lf (.int .i64)], [(14, .one (.h 0 []))], [], [], 2832⟩)] (.n none .o (.n none (.n none .o (.n none .o (.n (some (true, [(.normal, ⟨[.lf (.int .i64), .lf (.int .i64)], [(14, .one (.h 0 [])), (15, .one (.h 1 []))], [], [], 4306⟩)])) .o .o))) .o))) .o) (.n none (.n none .o (.n none (.loop ⟨[.lf (.int .i64), .lf (.sl 4)], [(17, .one (.h 0 []))], [(1000, .sl 4 25 1 [0])], [1000], 3025⟩ true [(.exit 6, ⟨[.lf (.sl 4)], [], [(1000, .sl 4 25 0 [0])], [1000], 3025⟩)] .o) .o)) .o)))) .o)) (.n none .o (.n none .o (.n none .o (.n none (.n none .o (.n (some (true, [(.normal, ⟨[.lf (.int .i64), .lf (.int .i64)], [(20, .one (.h 0 [])), (21, .one (.h 1 []))], [], [], 3600⟩)])) .o .o)) (.n none .o (.n none (.n none (.loop ⟨[.lf (.int .i64), .lf (.int .i64)], [(20, .one (.h 0 [])), (21, .one (.h 1 []))], [], [], 3858⟩ true [(.exit 8, ⟨[.lf (.int .i64)], [(20, .one (.h 0 []))], [], [], 3858⟩)] (.n none .o (.n none (.n none .o (.n none .o (.n (some (true, [(.normal, ⟨[.lf (.int .i64), .lf (.int .i64)], [(20, .one (.h 0 [])), (21, .one (.h 1 []))], [], [], 5460⟩)])) .o .o))) .o))) .o) (.n none .o (.n none (.n none (.r (some (true, [(.normal, ⟨[.lf .bool], [(185, .one (.h 0 []))], [], [], 4179⟩)])) .nil) (.n (some (true, [(.normal, ⟨[.lf (.sl 4)], [], [(1000, .sl 4 25 0 [0])], [1000], 4244⟩)])) .o .o)) (.n none (.n none (.r (some (true, [(.normal, ⟨[.lf .bool], [(199, .one (.h 0 []))], [], [], 4309⟩)])) .nil) (.n (some (true, [(.normal, ⟨[.lf (.sl 4)], [], [(1000, .sl 4 25 0 [0])], [1000], 4374⟩)])) .o .o)) (.n none (.r (some (true, [(.normal, ⟨[.lf .bool], [(213, .one (.h 0 []))], [], [], 4439⟩)])) .nil) (.n (some (true, [(.normal, ⟨[.lf (.sl 4)], [], [(1000, .sl 4 25 0 [0])], [1000], 4504⟩)])) .o .o)))))))))))))) pOk repOk (AllC.mem (⟨c63_ok, c90_k_ok n, c92_ok, trivial⟩ : AllC _ _ [c63, c90_k n, c92])) hmix Try.call90 Try.func90 rfl rfl (by kernel_rfl) (fun h => by kernel_rfl)
theorem c90_ok : ConOk Try.prog T c90 := c90_k_ok 64

noncomputable def slices_stableCmpFunc_Part_L1 (a1 : Int) : Int × Int × List Part →
  Option
    (Int × Int × List Part ⊕
      Int ×
        List
          Part) := fun x1 =>
  if decide (x1.2.1 ≤ a1) = true then
    Option.bind (slices_insertionSortCmpFunc_Part x1.2.2 x1.1 x1.2.1) fun x2 =>
      some (.inl (x1.2.1, W (x1.2.1 + 20), x2))
  else some (.inr (x1.1, x1.2.2))
noncomputable def slices_stableCmpFunc_Part_L3 (a1 : Int) (x5 : Int ×
  List
    Part) : Int × Int × List Part →
  Option
    (Int × Int × List Part ⊕
      Int ×
        List
          Part) := fun x6 =>
  if decide (x6.2.1 ≤ a1) = true then
    Option.bind (slices_symMergeCmpFunc_Part x6.2.2 x6.1 (W (x6.1 + x5.1)) x6.2.1) fun x7 =>
      some (.inl (x6.2.1, W (x6.2.1 + W (2 * x5.1)), x7))
  else some (.inr (x6.1, x6.2.2))
noncomputable def slices_stableCmpFunc_Part_L2 (a1 : Int) : Int × List Part →
  Option
    (Int × List Part ⊕
      List
        Part) := fun x5 =>
  if decide (x5.1 < a1) = true then
    Option.bind (loopO (slices_stableCmpFunc_Part_L3 a1 x5) (0, W (2 * x5.1), x5.2)) fun x8 =>
      Option.bind
        (if decide (W (x8.1 + x5.1) < a1) = true then
          Option.bind (slices_symMergeCmpFunc_Part x8.2 x8.1 (W (x8.1 + x5.1)) a1) fun x9 => some x9
        else some x8.2)
        fun x10 => some (.inl (W (x5.1 * 2), x10))
  else some (.inr x5.2)
noncomputable def slices_stableCmpFunc_Part (a0 : (List Part)) (a1 : Int) : Option ((List Part)) :=
  Option.bind (loopO (slices_stableCmpFunc_Part_L1 a1) (0, 20, a0)) fun x3 =>
    Option.bind (slices_insertionSortCmpFunc_Part x3.2 x3.1 a1) fun x4 =>
      Option.bind (loopO (slices_stableCmpFunc_Part_L2 a1) (20, x4)) fun x11 => some x11
noncomputable def c86 : Con D := ⟨86, [.lf (.sl 4), .lf (.int .i64)], [.lf (.sl 4)], [.one (.own 1000), .one (.h 1 []), .one (.fn 63 [])], [(1000, .sl 4 25 0 [0])], [], [(1000, .sl 4 25 0 [0])], fun h => slices_stableCmpFunc_Part h.1 h.2⟩
theorem c86_ok : ConOk Try.prog T c86 := fn_ok (Φ := [c89, c90]) (rs := []) (an := (.n none .o (.n none .o (.n none (.n none (.loop ⟨[.lf (.int .i64), .lf (.int .i64), .lf (.sl 4)], [(7, .one (.h 0 [])), (8, .one (.h 1 []))], [(1000, .sl 4 25 2 [0])], [1000], 2320⟩ true [(.exit 0, ⟨[.lf (.int .i64), .lf (.sl 4)], [(7, .one (.h 0 []))], [(1000, .sl 4 25 1 [0])], [1000], 2320⟩)] .o) .o) (.n none .o (.n none (.loop ⟨[.lf (.int .i64), .lf (.sl 4)], [(6, .one (.h 0 []))], [(1000, .sl 4 25 1 [0])], [1000], 2706⟩ true [(.exit 2, ⟨[.lf (.sl 4)], [], [(1000, .sl 4 25 0 [0])], [1000], 2706⟩)] (.n none .o (.n none (.n none .o (.n none (.n none (.loop ⟨[.lf (.int .i64), .lf (.int .i64), .lf (.sl 4)], [(7, .one (.h 0 [])), (8, .one (.h 1 []))], [(1000, .sl 4 25 2 [0])], [1000], 3220⟩ true [(.exit 4, ⟨[.lf (.int .i64), .lf (.sl 4)], [(7, .one (.h 0 []))], [(1000, .sl 4 25 1 [0])], [1000], 3220⟩)] .o) .o) (.n none (.n none .o (.n none .o (.n (some (true, [(.normal, ⟨[.lf (.sl 4)], [], [(1000, .sl 4 25 0 [0])], [1000], 3734⟩)])) .o .o))) .o))) .o))) .o)))))) pOk repOk (AllC.mem (⟨c89_ok, c90_ok, trivial⟩ : AllC _ _ [c89, c90])) hmix Try.call86 Try.func86 rfl rfl (by kernel_rfl) (fun h => by kernel_rfl)

noncomputable def slices_SortStableFunc_Part_Part (a0 : (List Part)) : Option ((List Part)) := Option.bind (slices_stableCmpFunc_Part a0 (len a0)) fun x1 => some x1
noncomputable def c79 : Con D := ⟨79, [.lf (.sl 4)], [.lf (.sl 4)], [.one (.own 1000), .one (.fn 63 [])], [(1000, .sl 4 25 0 [0])], [], [(1000, .sl 4 25 0 [0])], fun h => slices_SortStableFunc_Part_Part h⟩
theorem c79_ok : ConOk Try.prog T c79 := fn_ok (Φ := [c86]) (rs := []) (an := .o) pOk repOk (AllC.mem (⟨c86_ok, trivial⟩ : AllC _ _ [c86])) hmix Try.call79 Try.func79 rfl rfl (by kernel_rfl) (fun h => by kernel_rfl)

noncomputable def api_Part__1 (a0 : Part) (a1 : Part) : Option (Bool) := Option.bind (design_Compare a0 a1) fun x1 => some (x1 == 0)
noncomputable def c81 : Con D := ⟨81, [.lf (.int .i64), .lf (.int .i64), .lf (.int .i64), .lf (.int .i64)], [.lf .bool], [.agg [.h 0 [], .h 1 []], .agg [.h 2 [], .h 3 []], .one (.ptr 1000 0)], [(1000, .box [.fn 63 []])], [.one (.h 0 [])], [(1000, .box [.fn 63 []])], fun h => api_Part__1 ⟨h.1, h.2.1⟩ ⟨h.2.2.1, h.2.2.2⟩⟩
theorem c81_ok : ConOk Try.prog T c81 := fn_ok (Φ := [c63]) (rs := [.tmp 5]) (an := .o) pOk repOk (AllC.mem (⟨c63_ok, trivial⟩ : AllC _ _ [c63])) hmix Try.call81 Try.func81 rfl rfl (by kernel_rfl) (fun h => by kernel_rfl)

noncomputable def slices_CompactFunc_Part_Part_L2 (x1 : Int ×
  List
    Part) : Int × Int × List Part →
  Option
    (Int × Int × List Part ⊕
      Int ×
        List
          Part) := fun x6 =>
  if decide (x6.2.1 < len x6.2.2 - x1.1) = true then
    Option.bind (idx (drpI x6.2.2 x1.1) x6.2.1) fun x7 =>
      Option.bind (idx (drpI x6.2.2 x1.1) (W (x6.2.1 - 1))) fun x8 =>
        Option.bind (api_Part__1 x7 x8) fun x9 =>
          Option.bind
            (if (!x9) = true then
              Option.bind (idx (drpI x6.2.2 x1.1) x6.2.1) fun x10 =>
                Option.bind (idx x6.2.2 x6.1) fun x11 =>
                  Option.bind (idx x6.2.2 x6.1) fun x12 =>
                    Option.bind (setO x6.2.2 x6.1 x10) fun x13 => some (W (x6.1 + 1), x13)
            else some (x6.1, x6.2.2))
            fun x14 => some (.inl (x14.1, W (x6.2.1 + 1), x14.2))
  else some (.inr (x6.1, x6.2.2))
noncomputable def slices_CompactFunc_Part_Part_L1 : Int × List Part →
  Option
    (Int × List Part ⊕
      List Part ⊕
        List
          Part) := fun x1 =>
  if decide (x1.1 < len x1.2) = true then
    Option.bind (idx x1.2 x1.1) fun x2 =>
      Option.bind (idx x1.2 (W (x1.1 - 1))) fun x3 =>
        Option.bind (api_Part__1 x2 x3) fun x4 =>
          if x4 = true then
            Option.bind (slc x1.2 x1.1 (len x1.2)) fun x5 =>
              Option.bind (loopO (slices_CompactFunc_Part_Part_L2 x1) (x1.1, 1, x1.2)) fun x15 =>
                Option.bind (slc x15.2 x15.1 (len x15.2)) fun x16 =>
                  Option.bind (slc (clrT (Part.mk 0 0) x15.2 x15.1) 0 x15.1)
                    fun x17 => some (.inr (.inr x17))
          else some (.inl (W (x1.1 + 1), x1.2))
  else some (.inr (.inl x1.2))
noncomputable def slices_CompactFunc_Part_Part (a0 : (List Part)) : Option ((List Part)) :=
  if decide (len a0 < 2) = true then some a0
  else
    Option.bind (loopO slices_CompactFunc_Part_Part_L1 (1, a0)) fun x18 =>
      Sum.elim (fun x19 => some x19) (fun x20 => some x20) x18
noncomputable def c80 : Con D := ⟨80, [.lf (.sl 4)], [.lf (.sl 4)], [.one (.own 1000), .one (.fn 81 [.ptr 1001 0])], [(1000, .sl 4 25 0 [0]), (1001, .box [.fn 63 []])], [.one (.own 1002)], [(1001, .box [.fn 63 []]), (1002, .sl 4 25 0 [0])], fun h => slices_CompactFunc_Part_Part h⟩
theorem c80_ok : ConOk Try.prog T c80 := fn_ok (Φ := [c81]) (rs := [.tmp 4]) (an := (.n none .o (.n none .o (.n none (.n none .o (.n none (.loop ⟨[.lf (.int .i64), .lf (.sl 4)], [(5, .one (.h 0 []))], [(1000, .sl 4 25 1 [0]), (1001, .box [.fn 63 []])], [1000, 1001], 2384⟩ false [(.exit 0, ⟨[.lf (.sl 4)], [], [(1000, .sl 4 25 0 [0]), (1001, .box [.fn 63 []])], [1000, 1001], 2384⟩)] (.n none .o (.n none (.n none (.n none .o (.n none (.n none .o (.n none (.n none .o (.n none (.loop ⟨[.lf (.int .i64), .lf (.int .i64), .lf (.sl 4)], [(5, .one (.h 0 [])), (7, .one (.h 1 []))], [(1000, .sl 4 25 2 [0]), (1001, .box [.fn 63 []])], [1000, 1001], 3730⟩ true [(.exit 2, ⟨[.lf (.int .i64), .lf (.sl 4)], [(5, .one (.h 0 []))], [(1000, .sl 4 25 1 [0]), (1001, .box [.fn 63 []])], [1000, 1001], 3730⟩)] (.n none .o (.n none (.n none (.n none .o (.n (some (true, [(.normal, ⟨[.lf (.int .i64), .lf (.sl 4)], [(5, .one (.h 0 []))], [(1000, .sl 4 25 1 [0])], [1000], 4821⟩)])) .o .o)) .o) .o))) .o)) .o)) .o)) .o) .o))) .o)) .o)))) pOk repOk (AllC.mem (⟨c81_ok, trivial⟩ : AllC _ _ [c81])) hmix Try.call80 Try.func80 rfl rfl (by kernel_rfl) (fun h => by kernel_rfl)

noncomputable def faults_collect_Fault_Part_L1 (a0 : List
  Fault) : Int × List Part × List Fault →
  Option
    (Int × List Part × List Fault ⊕
      List Part ×
        List
          Fault) := fun x1 =>
  if decide (x1.1 < len a0) = true then
    Option.bind (idx a0 x1.1) fun x2 =>
      Option.bind (faults_parts_1 x2 x1.2.2) fun x3 =>
        Option.bind
          (if x3.2.2.1 = true then Option.bind (app x1.2.1 [Part.mk x3.1 x3.2.1]) fun x4 => some x4
          else some x1.2.1)
          fun x5 => some (.inl (W (x1.1 + 1), x5, x3.2.2.2))
  else some (.inr (x1.2.1, x1.2.2))
noncomputable def faults_collect_Fault_Part (a0 : (List Fault)) (a1 : (List Fault)) : Option ((List Fault) × (List Part)) :=
  Option.bind (loopO (faults_collect_Fault_Part_L1 a0) (0, [], a1)) fun x6 =>
    Option.bind (slices_SortStableFunc_Part_Part x6.1) fun x7 =>
      Option.bind (slices_CompactFunc_Part_Part x7) fun x8 => some (x6.2, x8)
noncomputable def c66 : Con D := ⟨66, [.lf (.sl 3), .el 5], [.el 5, .lf (.sl 4)], [.one (.h 0 [0]), .one (.fn 67 [.ptr 1000 0]), .one (.fn 63 [])], [(1000, .box [.fn 72 [.rp 1 5 [0]]])], [.one (.own 1001)], [(1000, .box [.fn 72 [.rp 0 5 [0]]]), (1001, .sl 4 25 1 [])], fun h => faults_collect_Fault_Part h.1 h.2⟩
theorem c66_ok : ConOk Try.prog T c66 := fn_ok (Φ := [c67, c79, c80]) (rs := [.tmp 6]) (an := (.n none .o (.n none .o (.n none (.n none .o (.n none (.loop ⟨[.lf (.int .i64), .lf (.sl 4), .el 5], [(7, .one (.own 2384)), (14, .one (.h 0 []))], [(2384, .sl 4 25 1 []), (1000, .box [.fn 72 [.rp 2 5 [0]]])], [1000], 2448⟩ true [(.exit 0, ⟨[.lf (.sl 4), .el 5], [(7, .one (.own 2384))], [(2384, .sl 4 25 0 []), (1000, .box [.fn 72 [.rp 1 5 [0]]])], [1000], 2448⟩)] (.n none .o (.n none .o (.n none (.n none (.n none .o (.n none .o (.n none .o (.n (some (true, [(.normal, ⟨[.lf (.sl 4)], [(7, .one (.own 3411))], [(3411, .sl 4 25 0 [])], [2384], 3475⟩)])) .o .o)))) .o) .o)))) .o)) .o)))) pOk repOk (AllC.mem (⟨c67_ok, c79_ok, c80_ok, trivial⟩ : AllC _ _ [c67, c79, c80])) hmix Try.call66 Try.func66 rfl rfl (by kernel_rfl) (fun h => by kernel_rfl)

noncomputable def faults_parts (a0 : (List Fault)) (a1 : (List Fault)) : Option ((List Part)) := Option.bind (faults_collect_Fault_Part a0 a1) fun x1 => some x1.2
noncomputable def c36 : Con D := ⟨36, [.lf (.sl 3), .el 5], [.lf (.sl 4)], [.one (.h 0 [0]), .one (.fn 72 [.rp 1 5 [0]])], [], [.one (.own 1000)], [(1000, .sl 4 25 0 [])], fun h => faults_parts h.1 h.2⟩
theorem c36_ok : ConOk Try.prog T c36 := fn_ok (Φ := [c66]) (rs := [.tmp 4]) (an := .o) pOk repOk (AllC.mem (⟨c66_ok, trivial⟩ : AllC _ _ [c66])) hmix Try.call36 Try.func36 rfl rfl (by kernel_rfl) (fun h => by kernel_rfl)

noncomputable def faults_active (a0 : (List Fault)) (a1 : Int) : Option ((List Part)) := Option.bind (faults_until a0 a1) fun x1 => Option.bind (faults_parts x1 x1) fun x2 => some x2
noncomputable def c50 : Con D := ⟨50, [.lf (.sl 3), .lf (.int .i64)], [.lf (.sl 4)], [.one (.h 0 [0]), .one (.h 1 [])], [], [.one (.own 1000)], [(1000, .sl 4 25 0 [])], fun h => faults_active h.1 h.2⟩
theorem c50_ok : ConOk Try.prog T c50 := fn_ok (Φ := [c36, c71]) (rs := [.tmp 4]) (an := .o) pOk repOk (AllC.mem (⟨c36_ok, c71_ok, trivial⟩ : AllC _ _ [c36, c71])) hmix Try.call50 Try.func50 rfl rfl (by kernel_rfl) (fun h => by kernel_rfl)

noncomputable def slices_Index_Part_Part_L1 (a0 : List
  Part) (a1 : Part) : Int →
  Option
    (Int ⊕
      Unit ⊕
        Int) := fun x1 =>
  if decide (x1 < len a0) = true then
    Option.bind (idx a0 x1) fun x2 =>
      if (a1.Kind == x2.Kind && a1.Number == x2.Number) = true then some (.inr (.inr x1))
      else some (.inl (W (x1 + 1)))
  else some (.inr (.inl ()))
noncomputable def slices_Index_Part_Part (a0 : (List Part)) (a1 : Part) : Option (Int) :=
  Option.bind (loopO (slices_Index_Part_Part_L1 a0 a1) 0) fun x3 =>
    Sum.elim (fun x4 => some (-1)) (fun x5 => some x5) x3
noncomputable def c85 : Con D := ⟨85, [.lf (.sl 4), .lf (.int .i64), .lf (.int .i64)], [.lf (.int .i64)], [.one (.h 0 [0]), .agg [.h 1 [], .h 2 []]], [], [.one (.h 0 [])], [], fun h => slices_Index_Part_Part h.1 ⟨h.2.1, h.2.2⟩⟩
theorem c85_ok : ConOk Try.prog T c85 := fn_ok (Φ := []) (rs := [.tmp 4]) (an := (.n none .o (.n none (.n none .o (.n none (.loop ⟨[.lf (.int .i64)], [(8, .one (.h 0 []))], [], [], 2384⟩ false [(.exit 0, ⟨[], [], [], [], 2384⟩)] .o) .o)) .o))) pOk repOk (AllC.mem (l := []) trivial) hmix Try.call85 Try.func85 rfl rfl (by kernel_rfl) (fun h => by kernel_rfl)

noncomputable def slices_Contains_Part_Part (a0 : (List Part)) (a1 : Part) : Option (Bool) := Option.bind (slices_Index_Part_Part a0 a1) fun x1 => some (decide (x1 ≥ 0))
noncomputable def c74 : Con D := ⟨74, [.lf (.sl 4), .lf (.int .i64), .lf (.int .i64)], [.lf .bool], [.one (.h 0 [0]), .agg [.h 1 [], .h 2 []]], [], [.one (.h 0 [])], [], fun h => slices_Contains_Part_Part h.1 ⟨h.2.1, h.2.2⟩⟩
theorem c74_ok : ConOk Try.prog T c74 := fn_ok (Φ := [c85]) (rs := [.tmp 4]) (an := .o) pOk repOk (AllC.mem (⟨c85_ok, trivial⟩ : AllC _ _ [c85])) hmix Try.call74 Try.func74 rfl rfl (by kernel_rfl) (fun h => by kernel_rfl)

noncomputable def design_Has (a0 : (List Part)) (a1 : Part) : Option (Bool) := Option.bind (slices_Contains_Part_Part a0 a1) fun x1 => some x1
noncomputable def c53 : Con D := ⟨53, [.lf (.sl 4), .lf (.int .i64), .lf (.int .i64)], [.lf .bool], [.one (.h 0 [0]), .agg [.h 1 [], .h 2 []]], [], [.one (.h 0 [])], [], fun h => design_Has h.1 ⟨h.2.1, h.2.2⟩⟩
theorem c53_ok : ConOk Try.prog T c53 := fn_ok (Φ := [c74]) (rs := [.tmp 4]) (an := .o) pOk repOk (AllC.mem (⟨c74_ok, trivial⟩ : AllC _ _ [c74])) hmix Try.call53 Try.func53 rfl rfl (by kernel_rfl) (fun h => by kernel_rfl)

noncomputable def faults_Merge_1 (a0 : Fault) : Option (Int × Int × Int × Int × Bool) := some (a0.Time, a0.Kind, a0.Part.Kind, a0.Part.Number, true)
noncomputable def c54 : Con D := ⟨54, [.lf (.int .i64), .lf (.int .i64), .lf (.int .i64), .lf (.int .i64)], [.lf (.int .i64), .lf (.int .i64), .lf (.int .i64), .lf (.int .i64), .lf .bool], [.agg [.h 0 [], .h 1 [], .h 2 [], .h 3 []]], [], [.agg [.h 0 [], .h 1 [], .h 2 [], .h 3 []], .one (.h 4 [])], [], fun h => faults_Merge_1 ⟨h.1, h.2.1, ⟨h.2.2.1, h.2.2.2⟩⟩⟩
theorem c54_ok : ConOk Try.prog T c54 := fn_ok (Φ := []) (rs := [.cell 2 32, .tmp 3]) (an := .o) pOk repOk (AllC.mem (l := []) trivial) hmix Try.call54 Try.func54 rfl rfl (by kernel_rfl) (fun h => by kernel_rfl)

noncomputable def slices_insertionSortCmpFunc_Fault_L2 (a1 : Int) : Int × List Fault →
  Option
    (Int × List Fault ⊕
      List
        Fault) := fun x2 =>
  Option.bind
    (if decide (x2.1 > a1) = true then
      Option.bind (idx x2.2 x2.1) fun x3 =>
        Option.bind (idx x2.2 (W (x2.1 - 1))) fun x4 =>
          Option.bind (faults_compare x3 x4) fun x5 => some (decide (x5 < 0))
    else some false)
    fun x6 =>
    if x6 = true then
      Option.bind (idx x2.2 (W (x2.1 - 1))) fun x7 =>
        Option.bind (idx x2.2 x2.1) fun x8 =>
          Option.bind (idx x2.2 x2.1) fun x9 =>
            Option.bind (idx x2.2 x2.1) fun x10 =>
              Option.bind (setO x2.2 x2.1 x7) fun x11 =>
                Option.bind (idx x11 (W (x2.1 - 1))) fun x12 =>
                  Option.bind (idx x11 (W (x2.1 - 1))) fun x13 =>
                    Option.bind (setO x11 (W (x2.1 - 1)) x8) fun x14 =>
                      some (.inl (W (x2.1 - 1), x14))
    else some (.inr x2.2)
noncomputable def slices_insertionSortCmpFunc_Fault_L1 (a1 : Int) (a2 : Int) : Int × List Fault →
  Option
    (Int × List Fault ⊕
      List
        Fault) := fun x1 =>
  if decide (x1.1 < a2) = true then
    Option.bind (loopO (slices_insertionSortCmpFunc_Fault_L2 a1) (x1.1, x1.2)) fun x15 =>
      some (.inl (W (x1.1 + 1), x15))
  else some (.inr x1.2)
noncomputable def slices_insertionSortCmpFunc_Fault (a0 : (List Fault)) (a1 : Int) (a2 : Int) : Option ((List Fault)) :=
  Option.bind (loopO (slices_insertionSortCmpFunc_Fault_L1 a1 a2) (W (a1 + 1), a0)) fun x16 => some x16
noncomputable def c87 : Con D := ⟨87, [.lf (.sl 3), .lf (.int .i64), .lf (.int .i64)], [.lf (.sl 3)], [.one (.own 1000), .one (.h 1 []), .one (.h 2 []), .one (.fn 31 [])], [(1000, .sl 3 32 0 [0])], [], [(1000, .sl 3 32 0 [0])], fun h => slices_insertionSortCmpFunc_Fault h.1 h.2.1 h.2.2⟩
theorem c87_ok : ConOk Try.prog T c87 := fn_ok (Φ := [c31]) (rs := []) (an := (.n none .o (.n none (.loop ⟨[.lf (.int .i64), .lf (.sl 3)], [(8, .one (.h 0 []))], [(1000, .sl 3 32 1 [0])], [1000], 2256⟩ true [(.exit 0, ⟨[.lf (.sl 3)], [], [(1000, .sl 3 32 0 [0])], [1000], 2256⟩)] (.n none .o (.n none (.n none (.n none .o (.n none (.loop ⟨[.lf (.int .i64), .lf (.sl 3)], [(9, .one (.h 0 []))], [(1000, .sl 3 32 1 [0])], [1000], 2642⟩ true [(.exit 2, ⟨[.lf (.sl 3)], [(22, .one (.any)), (23, .one (.any)), (24, .one (.any)), (25, .one (.any)), (26, .one (.any)), (27, .one (.any)), (28, .one (.any)), (29, .one (.any)), (30, .one (.any)), (31, .one (.any)), (32, .one (.any)), (33, .one (.any))], [(1000, .sl 3 32 0 [0])], [1000], 2642⟩)] (.n none (.n none (.r (some (true, [(.normal, ⟨[.lf .bool], [(22, .one (.any)), (23, .one (.any)), (24, .one (.any)), (25, .one (.any)), (26, .one (.any)), (27, .one (.any)), (28, .one (.any)), (29, .one (.any)), (30, .one (.any)), (31, .one (.any)), (32, .one (.any)), (33, .one (.any)), (34, .one (.h 0 []))], [], [], 2708⟩)])) .nil) .o) .o)) .o)) .o) .o))) .o))) pOk repOk (AllC.mem (⟨c31_ok, trivial⟩ : AllC _ _ [c31])) hmix Try.call87 Try.func87 rfl rfl (by kernel_rfl) (fun h => by kernel_rfl)

noncomputable def slices_swapRangeCmpFunc_Fault_L1 (a1 : Int) (a2 : Int) (a3 : Int) : Int × List Fault →
  Option
    (Int × List Fault ⊕
      List
        Fault) := fun x1 =>
  if decide (x1.1 < a3) = true then
    Option.bind (idx x1.2 (W (a2 + x1.1))) fun x2 =>
      Option.bind (idx x1.2 (W (a1 + x1.1))) fun x3 =>
        Option.bind (idx x1.2 (W (a1 + x1.1))) fun x4 =>
          Option.bind (idx x1.2 (W (a1 + x1.1))) fun x5 =>
            Option.bind (setO x1.2 (W (a1 + x1.1)) x2) fun x6 =>
              Option.bind (idx x6 (W (a2 + x1.1))) fun x7 =>
                Option.bind (idx x6 (W (a2 + x1.1))) fun x8 =>
                  Option.bind (setO x6 (W (a2 + x1.1)) x3) fun x9 => some (.inl (W (x1.1 + 1), x9))
  else some (.inr x1.2)
noncomputable def slices_swapRangeCmpFunc_Fault (a0 : (List Fault)) (a1 : Int) (a2 : Int) (a3 : Int) : Option ((List Fault)) := Option.bind (loopO (slices_swapRangeCmpFunc_Fault_L1 a1 a2 a3) (0, a0)) fun x10 => some x10
noncomputable def c93 : Con D := ⟨93, [.lf (.sl 3), .lf (.int .i64), .lf (.int .i64), .lf (.int .i64)], [.lf (.sl 3)], [.one (.own 1000), .one (.h 1 []), .one (.h 2 []), .one (.h 3 []), .one (.fn 31 [])], [(1000, .sl 3 32 0 [0])], [], [(1000, .sl 3 32 0 [0])], fun h => slices_swapRangeCmpFunc_Fault h.1 h.2.1 h.2.2.1 h.2.2.2⟩
theorem c93_ok : ConOk Try.prog T c93 := fn_ok (Φ := []) (rs := []) (an := (.n none .o (.n none (.loop ⟨[.lf (.int .i64), .lf (.sl 3)], [(10, .one (.h 0 []))], [(1000, .sl 3 32 1 [0])], [1000], 2128⟩ true [(.exit 0, ⟨[.lf (.sl 3)], [], [(1000, .sl 3 32 0 [0])], [1000], 2128⟩)] .o) .o))) pOk repOk (AllC.mem (l := []) trivial) hmix Try.call93 Try.func93 rfl rfl (by kernel_rfl) (fun h => by kernel_rfl)

noncomputable def slices_rotateCmpFunc_Fault_L1 (a2 : Int) : Int × Int × List Fault →
  Option
    (Int × Int × List Fault ⊕
      Int ×
        List
          Fault) := fun x1 =>
  if (x1.1 != x1.2.1) = true then
    Option.bind
      (if decide (x1.1 > x1.2.1) = true then
        Option.bind (slices_swapRangeCmpFunc_Fault x1.2.2 (W (a2 - x1.1)) a2 x1.2.1) fun x3 =>
          some (W (x1.1 - x1.2.1), x1.2.1, x3)
      else
        Option.bind
          (slices_swapRangeCmpFunc_Fault x1.2.2 (W (a2 - x1.1)) (W (W (a2 + x1.2.1) - x1.1)) x1.1)
          fun x2 => some (x1.1, W (x1.2.1 - x1.1), x2))
      fun x4 => some (.inl (x4.1, x4.2.1, x4.2.2))
  else some (.inr (x1.1, x1.2.2))
noncomputable def slices_rotateCmpFunc_Fault (a0 : (List Fault)) (a1 : Int) (a2 : Int) (a3 : Int) : Option ((List Fault)) :=
  Option.bind (loopO (slices_rotateCmpFunc_Fault_L1 a2) (W (a2 - a1), W (a3 - a2), a0)) fun x5 =>
    Option.bind (slices_swapRangeCmpFunc_Fault x5.2 (W (a2 - x5.1)) a2 x5.1) fun x6 => some x6
noncomputable def c91 : Con D := ⟨91, [.lf (.sl 3), .lf (.int .i64), .lf (.int .i64), .lf (.int .i64)], [.lf (.sl 3)], [.one (.own 1000), .one (.h 1 []), .one (.h 2 []), .one (.h 3 []), .one (.fn 31 [])], [(1000, .sl 3 32 0 [0])], [], [(1000, .sl 3 32 0 [0])], fun h => slices_rotateCmpFunc_Fault h.1 h.2.1 h.2.2.1 h.2.2.2⟩
theorem c91_ok : ConOk Try.prog T c91 := fn_ok (Φ := [c93]) (rs := []) (an := (.n none .o (.n none .o (.n none (.n none (.loop ⟨[.lf (.int .i64), .lf (.int .i64), .lf (.sl 3)], [(10, .one (.h 0 [])), (11, .one (.h 1 []))], [(1000, .sl 3 32 2 [0])], [1000], 2576⟩ true [(.exit 0, ⟨[.lf (.int .i64), .lf (.sl 3)], [(10, .one (.h 0 []))], [(1000, .sl 3 32 1 [0])], [1000], 2576⟩)] (.n none .o (.n none (.n none .o (.n (some (true, [(.normal, ⟨[.lf (.int .i64), .lf (.int .i64), .lf (.sl 3)], [(10, .one (.h 0 [])), (11, .one (.h 1 []))], [(1000, .sl 3 32 2 [0])], [1000], 3027⟩)])) .o .o)) .o))) .o) .o)))) pOk repOk (AllC.mem (⟨c93_ok, trivial⟩ : AllC _ _ [c93])) hmix Try.call91 Try.func91 rfl rfl (by kernel_rfl) (fun h => by kernel_rfl)

end Rx
end Go.Proofs.Ytkgfdplcjdidhaa
