/- Plain functions, walks. Written by a program (wip/gen). -/
import Derived.Test.YtkgfdplcjdidhaaRt
import Derived.Test.YtkgfdplcjdidhaaRg1
set_option linter.unusedVariables false
set_option maxRecDepth 100000
namespace Go.Proofs.Ytkgfdplcjdidhaa
open Go Go.RowKit Dp
namespace Rx

noncomputable def slices_symMergeCmpFunc_Fault_L1 (F : ((List Fault)) → (Int) → (Int) → (Int) → Option ((List Fault))) (a0 : List
  Fault) (a2 : Int) (x1 : Int) : Int × Int →
  Option
    (Int × Int ⊕
      Int) := fun x3 =>
  if decide (x3.1 < x3.2) = true then
    Option.bind (shrO 64 (iwrap IntKind.u64 (W (x3.1 + x3.2))) 1) fun x4 =>
      Option.bind (idx a0 (W (W (W (W x1 + a2) - 1) - W x4))) fun x5 =>
        Option.bind (idx a0 (W x4)) fun x6 =>
          Option.bind (faults_compare x5 x6) fun x7 =>
            Option.bind
              (if (!decide (x7 < 0)) = true then some (W (W x4 + 1), x3.2)
              else some (x3.1, W x4))
              fun x8 => some (.inl (x8.1, x8.2))
  else some (.inr x3.1)
noncomputable def slices_symMergeCmpFunc_Fault_L2 (F : ((List Fault)) → (Int) → (Int) → (Int) → Option ((List Fault))) (a0 : List
  Fault) (a2 : Int) : Int × Int →
  Option
    (Int × Int ⊕
      Int) := fun x19 =>
  if decide (x19.1 < x19.2) = true then
    Option.bind (shrO 64 (iwrap IntKind.u64 (W (x19.1 + x19.2))) 1) fun x20 =>
      Option.bind (idx a0 a2) fun x21 =>
        Option.bind (idx a0 (W x20)) fun x22 =>
          Option.bind (faults_compare x21 x22) fun x23 =>
            Option.bind
              (if (!decide (x23 < 0)) = true then some (W (W x20 + 1), x19.2)
              else some (x19.1, W x20))
              fun x24 => some (.inl (x24.1, x24.2))
  else some (.inr x19.1)
noncomputable def slices_symMergeCmpFunc_Fault_L3 (F : ((List Fault)) → (Int) → (Int) → (Int) → Option ((List Fault))) (x25 : Int) : Int × List Fault →
  Option
    (Int × List Fault ⊕
      List
        Fault) := fun x26 =>
  if decide (x26.1 > x25) = true then
    Option.bind (idx x26.2 (W (x26.1 - 1))) fun x27 =>
      Option.bind (idx x26.2 x26.1) fun x28 =>
        Option.bind (idx x26.2 x26.1) fun x29 =>
          Option.bind (idx x26.2 x26.1) fun x30 =>
            Option.bind (setO x26.2 x26.1 x27) fun x31 =>
              Option.bind (idx x31 (W (x26.1 - 1))) fun x32 =>
                Option.bind (idx x31 (W (x26.1 - 1))) fun x33 =>
                  Option.bind (setO x31 (W (x26.1 - 1)) x28) fun x34 =>
                    some (.inl (W (x26.1 - 1), x34))
  else some (.inr x26.2)
noncomputable def slices_symMergeCmpFunc_Fault_L4 (F : ((List Fault)) → (Int) → (Int) → (Int) → Option ((List Fault))) (a0 : List
  Fault) (a1 : Int) : Int × Int →
  Option
    (Int × Int ⊕
      Int) := fun x36 =>
  if decide (x36.1 < x36.2) = true then
    Option.bind (shrO 64 (iwrap IntKind.u64 (W (x36.1 + x36.2))) 1) fun x37 =>
      Option.bind (idx a0 (W x37)) fun x38 =>
        Option.bind (idx a0 a1) fun x39 =>
          Option.bind (faults_compare x38 x39) fun x40 =>
            Option.bind
              (if decide (x40 < 0) = true then some (W (W x37 + 1), x36.2)
              else some (x36.1, W x37))
              fun x41 => some (.inl (x41.1, x41.2))
  else some (.inr x36.1)
noncomputable def slices_symMergeCmpFunc_Fault_L5 (F : ((List Fault)) → (Int) → (Int) → (Int) → Option ((List Fault))) (x42 : Int) : Int × List Fault →
  Option
    (Int × List Fault ⊕
      List
        Fault) := fun x43 =>
  if decide (x43.1 < W (x42 - 1)) = true then
    Option.bind (idx x43.2 (W (x43.1 + 1))) fun x44 =>
      Option.bind (idx x43.2 x43.1) fun x45 =>
        Option.bind (idx x43.2 x43.1) fun x46 =>
          Option.bind (idx x43.2 x43.1) fun x47 =>
            Option.bind (setO x43.2 x43.1 x44) fun x48 =>
              Option.bind (idx x48 (W (x43.1 + 1))) fun x49 =>
                Option.bind (idx x48 (W (x43.1 + 1))) fun x50 =>
                  Option.bind (setO x48 (W (x43.1 + 1)) x45) fun x51 =>
                    some (.inl (W (x43.1 + 1), x51))
  else some (.inr x43.2)
noncomputable def slices_symMergeCmpFunc_Fault_S (F : ((List Fault)) → (Int) → (Int) → (Int) → Option ((List Fault))) (a0 : (List Fault)) (a1 : Int) (a2 : Int) (a3 : Int) : Option ((List Fault)) :=
  if (W (a2 - a1) == 1) = true then
    Option.bind (loopO (slices_symMergeCmpFunc_Fault_L4 F a0 a1) (a2, a3)) fun x42 =>
      Option.bind (loopO (slices_symMergeCmpFunc_Fault_L5 F x42) (a1, a0)) fun x52 => some x52
  else
    if (W (a3 - a2) == 1) = true then
      Option.bind (loopO (slices_symMergeCmpFunc_Fault_L2 F a0 a2) (a1, a2)) fun x25 =>
        Option.bind (loopO (slices_symMergeCmpFunc_Fault_L3 F x25) (a2, a0)) fun x35 => some x35
    else
      Option.bind (shrO 64 (iwrap IntKind.u64 (W (a1 + a3))) 1) fun x1 =>
        Option.bind (if decide (a2 > W x1) = true then some (W (W (W x1 + a2) - a3), W x1) else some (a1, a2)) fun x2 =>
          Option.bind (loopO (slices_symMergeCmpFunc_Fault_L1 F a0 a2 x1) (x2.1, x2.2)) fun x9 =>
            Option.bind (if decide (x9 < a2) = true then some (decide (a2 < W (W (W x1 + a2) - x9))) else some false)
              fun x10 =>
              Option.bind
                (if x10 = true then
                  Option.bind (slices_rotateCmpFunc_Fault a0 x9 a2 (W (W (W x1 + a2) - x9))) fun x11 => some x11
                else some a0)
                fun x12 =>
                Option.bind (if decide (a1 < x9) = true then some (decide (x9 < W x1)) else some false) fun x13 =>
                  Option.bind
                    (if x13 = true then Option.bind (F x12 a1 x9 (W x1)) fun x14 => some x14
                    else some x12)
                    fun x15 =>
                    Option.bind
                      (if decide (W x1 < W (W (W x1 + a2) - x9)) = true then some (decide (W (W (W x1 + a2) - x9) < a3))
                      else some false)
                      fun x16 =>
                      Option.bind
                        (if x16 = true then
                          Option.bind (F x15 (W x1) (W (W (W x1 + a2) - x9)) a3) fun x17 =>
                            some x17
                        else some x15)
                        fun x18 => some x18
/-- it calls itself: of so many calls below one another -/
noncomputable def slices_symMergeCmpFunc_Fault_R (n : Nat) : ((List Fault)) → (Int) → (Int) → (Int) → Option ((List Fault)) := Nat.rec (motive := fun _ => ((List Fault)) → (Int) → (Int) → (Int) → Option ((List Fault))) (fun _ _ _ _ => none) (fun _ F => slices_symMergeCmpFunc_Fault_S F) n
noncomputable def slices_symMergeCmpFunc_Fault (a0 : (List Fault)) (a1 : Int) (a2 : Int) (a3 : Int) : Option ((List Fault)) := slices_symMergeCmpFunc_Fault_R 64 a0 a1 a2 a3
noncomputable def c88_k (n : Nat) : Con D := ⟨88, [.lf (.sl 3), .lf (.int .i64), .lf (.int .i64), .lf (.int .i64)], [.lf (.sl 3)], [.one (.own 1000), .one (.h 1 []), .one (.h 2 []), .one (.h 3 []), .one (.fn 31 [])], [(1000, .sl 3 32 0 [0])], [], [(1000, .sl 3 32 0 [0])], fun h => slices_symMergeCmpFunc_Fault_R n h.1 h.2.1 h.2.2.1 h.2.2.2⟩
noncomputable def c88 : Con D := c88_k 64
theorem c88_k_ok : ∀ n, ConOk Try.prog T (c88_k n)
  | 0 => none_ok Try.call88 rfl (fun h => rfl)
  | n + 1 => fn_ok (Φ := [c31, c88_k n, c91]) (rs := []) (an := (.n none (.n none .o (.n none (.n none .o (.n none .o (.n none (.n none (.loop ⟨[.lf (.int .i64), .lf (.int .i64)], [(10, .one (.h 0 [])), (11, .one (.h 1 []))], [], [], 2576⟩ true [(.exit 0, ⟨[.lf (.int .i64)], [(10, .one (.h 0 []))], [], [], 2576⟩)] (.n none .o (.n none (.n none .o (.n none .o (.n (some (true, [(.normal, ⟨[.lf (.int .i64), .lf (.int .i64)], [(10, .one (.h 0 [])), (11, .one (.h 1 []))], [], [], 3986⟩)])) .o .o))) .o))) .o) (.n none (.n none .o (.n none (.loop ⟨[.lf (.int .i64), .lf (.sl 3)], [(13, .one (.h 0 []))], [(1000, .sl 3 32 1 [0])], [1000], 2769⟩ true [(.exit 2, ⟨[.lf (.sl 3)], [], [(1000, .sl 3 32 0 [0])], [1000], 2769⟩)] .o) .o)) .o)))) .o)) (.n none (.n none .o (.n none (.n none .o (.n none .o (.n none (.n none (.loop ⟨[.lf (.int .i64), .lf (.int .i64)], [(14, .one (.h 0 [])), (15, .one (.h 1 []))], [], [], 2832⟩ true [(.exit 4, ⟨[.lf (.int .i64)], [(14, .one (.h 0 []))], [], [], 2832⟩)] (.n none .o (.n none (.n none .o (.n none .o (.n (some (true, [(.normal, ⟨[.lf (.int .i64), .lf (.int .i64)], [(14, .one (.h 0 [])), (15, .one (.h 1 []))], [], [], 4306⟩)])) .o .o))) .o))) .o) (.n none (.n none .o (.n none (.loop ⟨[.lf (.int .i64), .lf (.sl 3)], [(17, .one (.h 0 []))], [(1000, .sl 3 32 1 [0])], [1000], 3025⟩ true [(.exit 6, ⟨[.lf (.sl 3)], [], [(1000, .sl 3 32 0 [0])], [1000], 3025⟩)] .o) .o)) .o)))) .o)) (.n none .o (.n none .o (.n none .o (.n none (.n none .o (.n (some (true, [(.normal, ⟨[.lf (.int .i64), .lf (.int .i64)], [(20, .one (.h 0 [])), (21, .one (.h 1 []))], [], [], 3600⟩)])) .o .o)) (.n none .o (.n none (.n none (.loop ⟨[.lf (.int .i64), .lf (.int .i64)], [(20, .one (.h 0 [])), (21, .one (.h 1 []))], [], [], 3858⟩ true [(.exit 8, ⟨[.lf (.int .i64)], [(20, .one (.h 0 []))], [], [], 3858⟩)] (.n none .o (.n none (.n none .o (.n none .o (.n (some (true, [(.normal, ⟨[.lf (.int .i64), .lf (.int .i64)], [(20, .one (.h 0 [])), (21, .one (.h 1 []))], [], [], 5460⟩)])) .o .o))) .o))) .o) (.n none .o (.n none (.n none (.r (some (true, [(.normal, ⟨[.lf .bool], [(185, .one (.h 0 []))], [], [], 4179⟩)])) .nil) (.n (some (true, [(.normal, ⟨[.lf (.sl 3)], [], [(1000, .sl 3 32 0 [0])], [1000], 4244⟩)])) .o .o)) (.n none (.n none (.r (some (true, [(.normal, ⟨[.lf .bool], [(199, .one (.h 0 []))], [], [], 4309⟩)])) .nil) (.n (some (true, [(.normal, ⟨[.lf (.sl 3)], [], [(1000, .sl 3 32 0 [0])], [1000], 4374⟩)])) .o .o)) (.n none (.r (some (true, [(.normal, ⟨[.lf .bool], [(213, .one (.h 0 []))], [], [], 4439⟩)])) .nil) (.n (some (true, [(.normal, ⟨[.lf (.sl 3)], [], [(1000, .sl 3 32 0 [0])], [1000], 4504⟩)])) .o .o)))))))))))))) pOk repOk (AllC.mem (⟨c31_ok, c88_k_ok n, c91_ok, trivial⟩ : AllC _ _ [c31, c88_k n, c91])) hmix Try.call88 Try.func88 rfl rfl (by kernel_rfl) (fun h => by kernel_rfl)
theorem c88_ok : ConOk Try.prog T c88 := c88_k_ok 64

noncomputable def slices_stableCmpFunc_Fault_L1 (a1 : Int) : Int × Int × List Fault →
  Option
    (Int × Int × List Fault ⊕
      Int ×
        List
          Fault) := fun x1 =>
  if decide (x1.2.1 ≤ a1) = true then
    Option.bind (slices_insertionSortCmpFunc_Fault x1.2.2 x1.1 x1.2.1) fun x2 =>
      some (.inl (x1.2.1, W (x1.2.1 + 20), x2))
  else some (.inr (x1.1, x1.2.2))
noncomputable def slices_stableCmpFunc_Fault_L3 (a1 : Int) (x5 : Int ×
  List
    Fault) : Int × Int × List Fault →
  Option
    (Int × Int × List Fault ⊕
      Int ×
        List
          Fault) := fun x6 =>
  if decide (x6.2.1 ≤ a1) = true then
    Option.bind (slices_symMergeCmpFunc_Fault x6.2.2 x6.1 (W (x6.1 + x5.1)) x6.2.1) fun x7 =>
      some (.inl (x6.2.1, W (x6.2.1 + W (2 * x5.1)), x7))
  else some (.inr (x6.1, x6.2.2))
noncomputable def slices_stableCmpFunc_Fault_L2 (a1 : Int) : Int × List Fault →
  Option
    (Int × List Fault ⊕
      List
        Fault) := fun x5 =>
  if decide (x5.1 < a1) = true then
    Option.bind (loopO (slices_stableCmpFunc_Fault_L3 a1 x5) (0, W (2 * x5.1), x5.2)) fun x8 =>
      Option.bind
        (if decide (W (x8.1 + x5.1) < a1) = true then
          Option.bind (slices_symMergeCmpFunc_Fault x8.2 x8.1 (W (x8.1 + x5.1)) a1) fun x9 => some x9
        else some x8.2)
        fun x10 => some (.inl (W (x5.1 * 2), x10))
  else some (.inr x5.2)
noncomputable def slices_stableCmpFunc_Fault (a0 : (List Fault)) (a1 : Int) : Option ((List Fault)) :=
  Option.bind (loopO (slices_stableCmpFunc_Fault_L1 a1) (0, 20, a0)) fun x3 =>
    Option.bind (slices_insertionSortCmpFunc_Fault x3.2 x3.1 a1) fun x4 =>
      Option.bind (loopO (slices_stableCmpFunc_Fault_L2 a1) (20, x4)) fun x11 => some x11
noncomputable def c82 : Con D := ⟨82, [.lf (.sl 3), .lf (.int .i64)], [.lf (.sl 3)], [.one (.own 1000), .one (.h 1 []), .one (.fn 31 [])], [(1000, .sl 3 32 0 [0])], [], [(1000, .sl 3 32 0 [0])], fun h => slices_stableCmpFunc_Fault h.1 h.2⟩
theorem c82_ok : ConOk Try.prog T c82 := fn_ok (Φ := [c87, c88]) (rs := []) (an := (.n none .o (.n none .o (.n none (.n none (.loop ⟨[.lf (.int .i64), .lf (.int .i64), .lf (.sl 3)], [(7, .one (.h 0 [])), (8, .one (.h 1 []))], [(1000, .sl 3 32 2 [0])], [1000], 2320⟩ true [(.exit 0, ⟨[.lf (.int .i64), .lf (.sl 3)], [(7, .one (.h 0 []))], [(1000, .sl 3 32 1 [0])], [1000], 2320⟩)] .o) .o) (.n none .o (.n none (.loop ⟨[.lf (.int .i64), .lf (.sl 3)], [(6, .one (.h 0 []))], [(1000, .sl 3 32 1 [0])], [1000], 2706⟩ true [(.exit 2, ⟨[.lf (.sl 3)], [], [(1000, .sl 3 32 0 [0])], [1000], 2706⟩)] (.n none .o (.n none (.n none .o (.n none (.n none (.loop ⟨[.lf (.int .i64), .lf (.int .i64), .lf (.sl 3)], [(7, .one (.h 0 [])), (8, .one (.h 1 []))], [(1000, .sl 3 32 2 [0])], [1000], 3220⟩ true [(.exit 4, ⟨[.lf (.int .i64), .lf (.sl 3)], [(7, .one (.h 0 []))], [(1000, .sl 3 32 1 [0])], [1000], 3220⟩)] .o) .o) (.n none (.n none .o (.n none .o (.n (some (true, [(.normal, ⟨[.lf (.sl 3)], [], [(1000, .sl 3 32 0 [0])], [1000], 3734⟩)])) .o .o))) .o))) .o))) .o)))))) pOk repOk (AllC.mem (⟨c87_ok, c88_ok, trivial⟩ : AllC _ _ [c87, c88])) hmix Try.call82 Try.func82 rfl rfl (by kernel_rfl) (fun h => by kernel_rfl)

noncomputable def slices_SortStableFunc_Fault_Fault (a0 : (List Fault)) : Option ((List Fault)) := Option.bind (slices_stableCmpFunc_Fault a0 (len a0)) fun x1 => some x1
noncomputable def c68 : Con D := ⟨68, [.lf (.sl 3)], [.lf (.sl 3)], [.one (.own 1000), .one (.fn 31 [])], [(1000, .sl 3 32 0 [0])], [], [(1000, .sl 3 32 0 [0])], fun h => slices_SortStableFunc_Fault_Fault h⟩
theorem c68_ok : ConOk Try.prog T c68 := fn_ok (Φ := [c82]) (rs := []) (an := .o) pOk repOk (AllC.mem (⟨c82_ok, trivial⟩ : AllC _ _ [c82])) hmix Try.call68 Try.func68 rfl rfl (by kernel_rfl) (fun h => by kernel_rfl)

noncomputable def api_Fault__1 (a0 : Fault) (a1 : Fault) : Option (Bool) := Option.bind (faults_compare a0 a1) fun x1 => some (x1 == 0)
noncomputable def c70 : Con D := ⟨70, [.lf (.int .i64), .lf (.int .i64), .lf (.int .i64), .lf (.int .i64), .lf (.int .i64), .lf (.int .i64), .lf (.int .i64), .lf (.int .i64)], [.lf .bool], [.agg [.h 0 [], .h 1 [], .h 2 [], .h 3 []], .agg [.h 4 [], .h 5 [], .h 6 [], .h 7 []], .one (.ptr 1000 0)], [(1000, .box [.fn 31 []])], [.one (.h 0 [])], [(1000, .box [.fn 31 []])], fun h => api_Fault__1 ⟨h.1, h.2.1, ⟨h.2.2.1, h.2.2.2.1⟩⟩ ⟨h.2.2.2.2.1, h.2.2.2.2.2.1, ⟨h.2.2.2.2.2.2.1, h.2.2.2.2.2.2.2⟩⟩⟩
theorem c70_ok : ConOk Try.prog T c70 := fn_ok (Φ := [c31]) (rs := [.tmp 5]) (an := .o) pOk repOk (AllC.mem (⟨c31_ok, trivial⟩ : AllC _ _ [c31])) hmix Try.call70 Try.func70 rfl rfl (by kernel_rfl) (fun h => by kernel_rfl)

noncomputable def slices_CompactFunc_Fault_Fault_L2 (x1 : Int ×
  List
    Fault) : Int × Int × List Fault →
  Option
    (Int × Int × List Fault ⊕
      Int ×
        List
          Fault) := fun x6 =>
  if decide (x6.2.1 < len x6.2.2 - x1.1) = true then
    Option.bind (idx (drpI x6.2.2 x1.1) x6.2.1) fun x7 =>
      Option.bind (idx (drpI x6.2.2 x1.1) (W (x6.2.1 - 1))) fun x8 =>
        Option.bind (api_Fault__1 x7 x8) fun x9 =>
          Option.bind
            (if (!x9) = true then
              Option.bind (idx (drpI x6.2.2 x1.1) x6.2.1) fun x10 =>
                Option.bind (idx x6.2.2 x6.1) fun x11 =>
                  Option.bind (idx x6.2.2 x6.1) fun x12 =>
                    Option.bind (setO x6.2.2 x6.1 x10) fun x13 => some (W (x6.1 + 1), x13)
            else some (x6.1, x6.2.2))
            fun x14 => some (.inl (x14.1, W (x6.2.1 + 1), x14.2))
  else some (.inr (x6.1, x6.2.2))
noncomputable def slices_CompactFunc_Fault_Fault_L1 : Int × List Fault →
  Option
    (Int × List Fault ⊕
      List Fault ⊕
        List
          Fault) := fun x1 =>
  if decide (x1.1 < len x1.2) = true then
    Option.bind (idx x1.2 x1.1) fun x2 =>
      Option.bind (idx x1.2 (W (x1.1 - 1))) fun x3 =>
        Option.bind (api_Fault__1 x2 x3) fun x4 =>
          if x4 = true then
            Option.bind (slc x1.2 x1.1 (len x1.2)) fun x5 =>
              Option.bind (loopO (slices_CompactFunc_Fault_Fault_L2 x1) (x1.1, 1, x1.2)) fun x15 =>
                Option.bind (slc x15.2 x15.1 (len x15.2)) fun x16 =>
                  Option.bind
                    (slc
                      (clrT (Fault.mk 0 0 (Part.mk 0 0)) x15.2
                        x15.1)
                      0 x15.1)
                    fun x17 => some (.inr (.inr x17))
          else some (.inl (W (x1.1 + 1), x1.2))
  else some (.inr (.inl x1.2))
noncomputable def slices_CompactFunc_Fault_Fault (a0 : (List Fault)) : Option ((List Fault)) :=
  if decide (len a0 < 2) = true then some a0
  else
    Option.bind (loopO slices_CompactFunc_Fault_Fault_L1 (1, a0)) fun x18 =>
      Sum.elim (fun x19 => some x19) (fun x20 => some x20) x18
noncomputable def c69 : Con D := ⟨69, [.lf (.sl 3)], [.lf (.sl 3)], [.one (.own 1000), .one (.fn 70 [.ptr 1001 0])], [(1000, .sl 3 32 0 [0]), (1001, .box [.fn 31 []])], [.one (.own 1002)], [(1001, .box [.fn 31 []]), (1002, .sl 3 32 0 [0])], fun h => slices_CompactFunc_Fault_Fault h⟩
theorem c69_ok : ConOk Try.prog T c69 := fn_ok (Φ := [c70]) (rs := [.tmp 4]) (an := (.n none .o (.n none .o (.n none (.n none .o (.n none (.loop ⟨[.lf (.int .i64), .lf (.sl 3)], [(5, .one (.h 0 []))], [(1000, .sl 3 32 1 [0]), (1001, .box [.fn 31 []])], [1000, 1001], 2384⟩ false [(.exit 0, ⟨[.lf (.sl 3)], [], [(1000, .sl 3 32 0 [0]), (1001, .box [.fn 31 []])], [1000, 1001], 2384⟩)] (.n none .o (.n none (.n none (.n none .o (.n none (.n none .o (.n none (.n none .o (.n none (.loop ⟨[.lf (.int .i64), .lf (.int .i64), .lf (.sl 3)], [(5, .one (.h 0 [])), (7, .one (.h 1 []))], [(1000, .sl 3 32 2 [0]), (1001, .box [.fn 31 []])], [1000, 1001], 3730⟩ true [(.exit 2, ⟨[.lf (.int .i64), .lf (.sl 3)], [(5, .one (.h 0 []))], [(1000, .sl 3 32 1 [0]), (1001, .box [.fn 31 []])], [1000, 1001], 3730⟩)] (.n none .o (.n none (.n none (.n none .o (.n (some (true, [(.normal, ⟨[.lf (.int .i64), .lf (.sl 3)], [(5, .one (.h 0 []))], [(1000, .sl 3 32 1 [0])], [1000], 4821⟩)])) .o .o)) .o) .o))) .o)) .o)) .o)) .o) .o))) .o)) .o)))) pOk repOk (AllC.mem (⟨c70_ok, trivial⟩ : AllC _ _ [c70])) hmix Try.call69 Try.func69 rfl rfl (by kernel_rfl) (fun h => by kernel_rfl)

noncomputable def faults_collect_Fault_Fault_L1 (a0 : List
  Fault) : Int × List Fault →
  Option
    (Int × List Fault ⊕
      List
        Fault) := fun x1 =>
  if decide (x1.1 < len a0) = true then
    Option.bind (idx a0 x1.1) fun x2 =>
      Option.bind (faults_Merge_1 x2) fun x3 =>
        Option.bind
          (if x3.2.2.2.2 = true then
            Option.bind (app x1.2 [Fault.mk x3.1 x3.2.1 (Part.mk x3.2.2.1 x3.2.2.2.1)]) fun x4 =>
              some x4
          else some x1.2)
          fun x5 => some (.inl (W (x1.1 + 1), x5))
  else some (.inr x1.2)
noncomputable def faults_collect_Fault_Fault (a0 : (List Fault)) : Option ((List Fault)) :=
  Option.bind (loopO (faults_collect_Fault_Fault_L1 a0) (0, [])) fun x6 =>
    Option.bind (slices_SortStableFunc_Fault_Fault x6) fun x7 =>
      Option.bind (slices_CompactFunc_Fault_Fault x7) fun x8 => some x8
noncomputable def c42 : Con D := ⟨42, [.lf (.sl 3)], [.lf (.sl 3)], [.one (.h 0 [0]), .one (.fn 54 []), .one (.fn 31 [])], [], [.one (.own 1000)], [(1000, .sl 3 32 0 [])], fun h => faults_collect_Fault_Fault h⟩
theorem c42_ok : ConOk Try.prog T c42 := fn_ok (Φ := [c54, c68, c69]) (rs := [.tmp 6]) (an := (.n none .o (.n none .o (.n none (.n none .o (.n none (.loop ⟨[.lf (.int .i64), .lf (.sl 3)], [(7, .one (.own 2384)), (14, .one (.h 0 []))], [(2384, .sl 3 32 1 [])], [], 2448⟩ true [(.exit 0, ⟨[.lf (.sl 3)], [(7, .one (.own 2384))], [(2384, .sl 3 32 0 [])], [], 2448⟩)] (.n none .o (.n none .o (.n none (.n none (.n none .o (.n none .o (.n none .o (.n (some (true, [(.normal, ⟨[.lf (.sl 3)], [(7, .one (.own 3410))], [(3410, .sl 3 32 0 [])], [2384], 3474⟩)])) .o .o)))) .o) .o)))) .o)) .o)))) pOk repOk (AllC.mem (⟨c54_ok, c68_ok, c69_ok, trivial⟩ : AllC _ _ [c54, c68, c69])) hmix Try.call42 Try.func42 rfl rfl (by kernel_rfl) (fun h => by kernel_rfl)

noncomputable def faults_turns_L1 (a0 : List
  Fault) : Int × List Fault →
  Option
    (Int × List Fault ⊕
      List
        Fault) := fun x1 =>
  if decide (x1.1 < len a0) = true then
    Option.bind (idx a0 x1.1) fun x2 =>
      Option.bind (faults_last x1.2 x2.Part) fun x3 =>
        Option.bind (faults_other x3) fun x4 =>
          Option.bind (if (x2.Kind == x4) = true then Option.bind (app x1.2 [x2]) fun x5 => some x5 else some x1.2)
            fun x6 => some (.inl (W (x1.1 + 1), x6))
  else some (.inr x1.2)
noncomputable def faults_turns (a0 : (List Fault)) : Option ((List Fault)) := Option.bind (loopO (faults_turns_L1 a0) (0, [])) fun x7 => some x7
noncomputable def c41 : Con D := ⟨41, [.lf (.sl 3)], [.lf (.sl 3)], [.one (.h 0 [0])], [], [.one (.own 1000)], [(1000, .sl 3 32 0 [])], fun h => faults_turns h⟩
theorem c41_ok : ConOk Try.prog T c41 := fn_ok (Φ := [c32, c33]) (rs := [.tmp 2]) (an := (.n none .o (.n none .o (.n none (.n none .o (.n none (.loop ⟨[.lf (.int .i64), .lf (.sl 3)], [(3, .one (.own 2320)), (8, .one (.h 0 []))], [(2320, .sl 3 32 1 [])], [], 2384⟩ true [(.exit 0, ⟨[.lf (.sl 3)], [(3, .one (.own 2320))], [(2320, .sl 3 32 0 [])], [], 2384⟩)] (.n none .o (.n none .o (.n none (.n none (.n none .o (.n none .o (.n (some (true, [(.normal, ⟨[.lf (.sl 3)], [(3, .one (.own 3218))], [(3218, .sl 3 32 0 [])], [2320], 3282⟩)])) .o .o))) .o) .o)))) .o)) .o)))) pOk repOk (AllC.mem (⟨c32_ok, c33_ok, trivial⟩ : AllC _ _ [c32, c33])) hmix Try.call41 Try.func41 rfl rfl (by kernel_rfl) (fun h => by kernel_rfl)

noncomputable def faults_Merge_L1 (a0 : List
  Fault) (a1 : List
  Fault) (x4 : List (List Fault) ×
  List
    Fault) : Int × List Fault →
  Option
    (Int × List Fault ⊕
      List
        Fault) := fun x5 =>
  if decide (x5.1 < len x4.2) = true then
    Option.bind (idx x4.2 x5.1) fun x6 =>
      Option.bind
        (Option.bind (faults_active a0 x6.Time) fun x7 =>
          Option.bind (design_Has x7 x6.Part) fun x8 =>
            if x8 = true then some true
            else
              Option.bind (faults_active a1 x6.Time) fun x9 => Option.bind (design_Has x9 x6.Part) fun x10 => some x10)
        fun x11 =>
        Option.bind (if x11 = true then some 1 else some 2) fun x12 =>
          Option.bind (app x5.2 [Fault.mk x6.Time x12 x6.Part]) fun x13 =>
            some (.inl (W (x5.1 + 1), x13))
  else some (.inr x5.2)
noncomputable def faults_Merge (a0 : (List Fault)) (a1 : (List Fault)) : Option (Int × (List Fault)) :=
  Option.bind (faults_Check a0) fun x1 =>
    Option.bind (faults_Check a1) fun x2 =>
      Option.bind (cmp_Or_Errno [x1, x2]) fun x3 =>
        if (x3 != 0) = true then some (x3, [])
        else
          Option.bind (slices_Concat_Fault_Fault_v1 [a0, a1]) fun x4 =>
            Option.bind (loopO (faults_Merge_L1 a0 a1 x4) (0, [])) fun x14 =>
              Option.bind (faults_collect_Fault_Fault x14) fun x15 =>
                Option.bind (faults_turns x15) fun x16 =>
                  if decide (len x16 > 24) = true then some (2, []) else some (0, x16)
noncomputable def c21 : Con D := ⟨21, [.lf (.sl 3), .lf (.sl 3)], [.lf (.int .i64), .lf (.sl 3)], [.one (.h 0 [0]), .one (.h 1 [0])], [], [.one (.own 1000), .one (.h 0 [])], [(1000, .sl 3 32 1 [])], fun h => faults_Merge h.1 h.2⟩
theorem c21_ok : ConOk Try.prog T c21 := fn_ok (Φ := [c9, c41, c42, c50, c51, c52_1, c53]) (rs := [.tmp 4, .tmp 5]) (an := (.n none .o (.n none .o (.n none .o (.n none (.n none .o (.n none (.loop ⟨[.lf (.int .i64), .lf (.sl 3)], [(7, .one (.own 3152)), (26, .one (.h 0 []))], [(3152, .sl 3 32 1 [])], [], 3216⟩ true [(.exit 0, ⟨[.lf (.sl 3)], [(7, .one (.own 3152))], [(3152, .sl 3 32 0 [])], [], 3216⟩)] (.n none .o (.n none .o (.n none (.n none (.n none .o (.n none .o (.n none (.n none (.r (some (true, [(.normal, ⟨[.lf .bool], [(38, .one (.any)), (39, .one (.any)), (40, .one (.any)), (41, .one (.any)), (42, .one (.any)), (43, .one (.any)), (44, .one (.any)), (45, .one (.h 0 []))], [], [], 3666⟩)])) .nil) (.n (some (true, [(.normal, ⟨[.lf (.int .i64)], [(10, .one (.h 0 []))], [], [], 3731⟩)])) .o .o)) .o))) .o) .o)))) .o)) .o))))) pOk repOk (AllC.mem (⟨c9_ok, c41_ok, c42_ok, c50_ok, c51_ok, c52_1_ok, c53_ok, trivial⟩ : AllC _ _ [c9, c41, c42, c50, c51, c52_1, c53])) hmix Try.call21 Try.func21 rfl rfl (by kernel_rfl) (fun h => by kernel_rfl)

noncomputable def dynposref34_Same_L1 (a0 : List
  Fault) (a1 : List
  Fault) : Int →
  Option
    (Int ⊕
      Unit ⊕
        Bool) := fun x1 =>
  if decide (x1 < len a0) = true then
    Option.bind (idx a0 x1) fun x2 =>
      Option.bind (idx a1 x1) fun x3 =>
        if
            (!(x2.Time == x3.Time &&
                  (x2.Kind == x3.Kind && (x2.Part.Kind == x3.Part.Kind && x2.Part.Number == x3.Part.Number)))) =
              true then
          some (.inr (.inr false))
        else some (.inl (W (x1 + 1)))
  else some (.inr (.inl ()))
noncomputable def dynposref34_Same (a0 : (List Fault)) (a1 : (List Fault)) : Option (Bool) :=
  if (len a0 != len a1) = true then some false
  else
    Option.bind (loopO (dynposref34_Same_L1 a0 a1) 0) fun x4 =>
      Sum.elim (fun x5 => some true) (fun x6 => some x6) x4
noncomputable def c16 : Con D := ⟨16, [.lf (.sl 3), .lf (.sl 3)], [.lf .bool], [.one (.h 0 [0]), .one (.h 1 [0])], [], [.one (.h 0 [])], [], fun h => dynposref34_Same h.1 h.2⟩
theorem c16_ok : ConOk Try.prog T c16 := fn_ok (Φ := []) (rs := [.tmp 4]) (an := (.n none .o (.n none .o (.n none (.n none .o (.n none (.loop ⟨[.lf (.int .i64)], [(13, .one (.h 0 []))], [], [], 2640⟩ false [(.exit 0, ⟨[], [], [], [], 2640⟩)] .o) .o)) .o)))) pOk repOk (AllC.mem (l := []) trivial) hmix Try.call16 Try.func16 rfl rfl (by kernel_rfl) (fun h => by kernel_rfl)

noncomputable def faults_Active (a0 : (List Fault)) (a1 : Int) : Option ((List Part)) :=
  Option.bind (faults_Check a0) fun x1 =>
    if (x1 != 0) = true then some [] else Option.bind (faults_active a0 a1) fun x2 => some x2
noncomputable def c19 : Con D := ⟨19, [.lf (.sl 3), .lf (.int .i64)], [.lf (.sl 4)], [.one (.h 0 [0]), .one (.h 1 [])], [], [.one (.own 1000)], [(1000, .sl 4 25 0 [])], fun h => faults_Active h.1 h.2⟩
theorem c19_ok : ConOk Try.prog T c19 := fn_ok (Φ := [c9, c50]) (rs := [.tmp 4]) (an := .o) pOk repOk (AllC.mem (⟨c9_ok, c50_ok, trivial⟩ : AllC _ _ [c9, c50])) hmix Try.call19 Try.func19 rfl rfl (by kernel_rfl) (fun h => by kernel_rfl)

noncomputable def dynposlaw34_sane : Option (Bool) := Option.bind
  (faults_Merge
    [Fault.mk 5 1 (Part.mk 5 1),
      Fault.mk 9 2 (Part.mk 5 1)]
    [Fault.mk 7 1 (Part.mk 5 1),
      Fault.mk 12 2 (Part.mk 5 1)])
  fun x1 =>
  Option.bind
    (if (x1.1 == 0) = true then
      Option.bind
        (dynposref34_Same x1.2
          [Fault.mk 5 1 (Part.mk 5 1),
            Fault.mk 12 2 (Part.mk 5 1)])
        fun x2 =>
        if x2 = true then
          Option.bind (faults_Active x1.2 11) fun x3 =>
            if (len x3 == 1) = true then
              Option.bind (faults_Active x1.2 12) fun x4 => some (len x4 == 0)
            else some false
        else some false
    else some false)
    fun x5 => some x5
noncomputable def c4 : Con D := ⟨4, [], [.lf .bool], [], [], [.one (.h 0 [])], [], fun h => dynposlaw34_sane⟩
theorem c4_ok : ConOk Try.prog T c4 := fn_ok (Φ := [c16, c19, c21]) (rs := [.tmp 0]) (an := (.n none .o (.n none .o (.n none .o (.n none (.r (some (true, [(.normal, ⟨[.lf .bool], [(0, .one (.h 0 []))], [], [], 3344⟩)])) .nil) .o))))) pOk repOk (AllC.mem (⟨c16_ok, c19_ok, c21_ok, trivial⟩ : AllC _ _ [c16, c19, c21])) hmix Try.call4 Try.func4 rfl rfl (by kernel_rfl) (fun h => by kernel_rfl)

noncomputable def dynposmake_New (a0 : (List Int)) : Option ((List Int) × Int) := Option.bind (slc a0 0 (imin (len a0) 600)) fun x1 => some (x1, 0)
noncomputable def c5 : Con D := ⟨5, [.lf (.sl 0)], [.lf (.sl 0), .lf (.int .i64)], [.one (.h 0 [0])], [], [.one (.ptr 1000 0)], [(1000, .box [.h 0 [0], .h 1 []])], fun h => dynposmake_New h⟩
theorem c5_ok : ConOk Try.prog T c5 := fn_ok (Φ := []) (rs := [.tmp 2]) (an := .o) pOk repOk (AllC.mem (l := []) trivial) hmix Try.call5 Try.func5 rfl rfl (by kernel_rfl) (fun h => by kernel_rfl)

noncomputable def dynposmake_Mod (a0 : Int) (a1 : Int) : Option (Int) :=
  if decide (a1 < 1) = true then some 0
  else Option.bind (remO a0 a1) fun x1 => Option.bind (remO (W (x1 + a1)) a1) fun x2 => some x2
noncomputable def c29 : Con D := ⟨29, [.lf (.int .i64), .lf (.int .i64)], [.lf (.int .i64)], [.one (.h 0 []), .one (.h 1 [])], [], [.one (.h 0 [])], [], fun h => dynposmake_Mod h.1 h.2⟩
theorem c29_ok : ConOk Try.prog T c29 := fn_ok (Φ := []) (rs := [.tmp 4]) (an := .o) pOk repOk (AllC.mem (l := []) trivial) hmix Try.call29 Try.func29 rfl rfl (by kernel_rfl) (fun h => by kernel_rfl)

noncomputable def Src_N (a0 : Src) (a1 : Int) : Option (Int × (List Int) × Int) :=
  if decide (a0.At ≥ len a0.L) = true then some (0, a0.L, a0.At)
  else
    Option.bind (idx a0.L (W (W (a0.At + 1) - 1))) fun x1 =>
      Option.bind (dynposmake_Mod x1 a1) fun x2 => some (x2, a0.L, W (a0.At + 1))
noncomputable def c7 : Con D := ⟨7, [.lf (.sl 0), .lf (.int .i64), .lf (.int .i64)], [.lf (.int .i64), .lf (.sl 0), .lf (.int .i64)], [.one (.ptr 1000 0), .one (.h 2 [])], [(1000, .box [.h 0 [0], .h 1 []])], [.one (.h 0 [])], [(1000, .box [.h 1 [0], .h 2 []])], fun h => Src_N ⟨h.1, h.2.1⟩ h.2.2⟩
theorem c7_ok : ConOk Try.prog T c7 := fn_ok (Φ := [c29]) (rs := [.tmp 4]) (an := .o) pOk repOk (AllC.mem (⟨c29_ok, trivial⟩ : AllC _ _ [c29])) hmix Try.call7 Try.func7 rfl rfl (by kernel_rfl) (fun h => by kernel_rfl)

noncomputable def Src_Range (a0 : Src) (a1 : Int) (a2 : Int) : Option (Int × (List Int) × Int) :=
  Option.bind (Src_N a0 (W (W (a2 - a1) + 1))) fun x1 => some (W (a1 + x1.1), x1.2.1, x1.2.2)
noncomputable def c23 : Con D := ⟨23, [.lf (.sl 0), .lf (.int .i64), .lf (.int .i64), .lf (.int .i64)], [.lf (.int .i64), .lf (.sl 0), .lf (.int .i64)], [.one (.ptr 1000 0), .one (.h 2 []), .one (.h 3 [])], [(1000, .box [.h 0 [0], .h 1 []])], [.one (.h 0 [])], [(1000, .box [.h 1 [0], .h 2 []])], fun h => Src_Range ⟨h.1, h.2.1⟩ h.2.2.1 h.2.2.2⟩
theorem c23_ok : ConOk Try.prog T c23 := fn_ok (Φ := [c7]) (rs := [.tmp 6]) (an := .o) pOk repOk (AllC.mem (⟨c7_ok, trivial⟩ : AllC _ _ [c7])) hmix Try.call23 Try.func23 rfl rfl (by kernel_rfl) (fun h => by kernel_rfl)

noncomputable def Src_Part (a0 : Src) : Option (Int × Int × (List Int) × Int) :=
  Option.bind (Src_Range a0 1 9) fun x1 =>
    Option.bind (Src_N (Src.mk x1.2.1 x1.2.2) 4) fun x2 =>
      some (x1.1, x2.1, x2.2.1, x2.2.2)
noncomputable def c26 : Con D := ⟨26, [.lf (.sl 0), .lf (.int .i64)], [.lf (.int .i64), .lf (.int .i64), .lf (.sl 0), .lf (.int .i64)], [.one (.ptr 1000 0)], [(1000, .box [.h 0 [0], .h 1 []])], [.agg [.h 0 [], .h 1 []]], [(1000, .box [.h 2 [0], .h 3 []])], fun h => Src_Part ⟨h.1, h.2⟩⟩
theorem c26_ok : ConOk Try.prog T c26 := fn_ok (Φ := [c7, c23]) (rs := [.cell 2 25]) (an := .o) pOk repOk (AllC.mem (⟨c7_ok, c23_ok, trivial⟩ : AllC _ _ [c7, c23])) hmix Try.call26 Try.func26 rfl rfl (by kernel_rfl) (fun h => by kernel_rfl)

noncomputable def Src_AnyFaults_L1 : Int × List Fault × List Int × Int →
  Option
    (Int × List Fault × List Int × Int ⊕
      List Fault ×
        List Int ×
          Int) := fun x2 =>
  if decide (x2.1 > 0) = true then
    Option.bind (Src_N (Src.mk x2.2.2.1 x2.2.2.2) 8) fun x3 =>
      Option.bind (Src_Range (Src.mk x3.2.1 x3.2.2) 1 2) fun x4 =>
        Option.bind (Src_Part (Src.mk x4.2.1 x4.2.2)) fun x5 =>
          Option.bind (app x2.2.1 [Fault.mk x3.1 x4.1 (Part.mk x5.1 x5.2.1)]) fun x6 =>
            some (.inl (W (x2.1 - 1), x6, x5.2.2.1, x5.2.2.2))
  else some (.inr (x2.2.1, x2.2.2.1, x2.2.2.2))
noncomputable def Src_AnyFaults (a0 : Src) (a1 : Int) : Option ((List Int) × Int × (List Fault)) :=
  Option.bind (Src_N a0 (W (a1 + 1))) fun x1 =>
    Option.bind (loopO Src_AnyFaults_L1 (x1.1, [], x1.2.1, x1.2.2)) fun x7 =>
      some (x7.2.1, x7.2.2, x7.1)
noncomputable def c8 : Con D := ⟨8, [.lf (.sl 0), .lf (.int .i64), .lf (.int .i64)], [.lf (.sl 0), .lf (.int .i64), .lf (.sl 3)], [.one (.ptr 1000 0), .one (.h 2 [])], [(1000, .box [.h 0 [0], .h 1 []])], [.one (.own 1001)], [(1000, .box [.h 0 [0], .h 1 []]), (1001, .sl 3 32 2 [])], fun h => Src_AnyFaults ⟨h.1, h.2.1⟩ h.2.2⟩
theorem c8_ok : ConOk Try.prog T c8 := fn_ok (Φ := [c7, c23, c26]) (rs := [.tmp 4]) (an := (.n none .o (.n none .o (.n none (.n none .o (.n none (.loop ⟨[.lf (.int .i64), .lf (.sl 3), .lf (.sl 0), .lf (.int .i64)], [(5, .one (.own 2448)), (6, .one (.h 0 []))], [(2448, .sl 3 32 1 []), (1000, .box [.h 2 [0], .h 3 []])], [1000], 2512⟩ true [(.exit 0, ⟨[.lf (.sl 3), .lf (.sl 0), .lf (.int .i64)], [(5, .one (.own 2448))], [(2448, .sl 3 32 0 []), (1000, .box [.h 1 [0], .h 2 []])], [1000], 2512⟩)] .o) .o)) .o)))) pOk repOk (AllC.mem (⟨c7_ok, c23_ok, c26_ok, trivial⟩ : AllC _ _ [c7, c23, c26])) hmix Try.call8 Try.func8 rfl rfl (by kernel_rfl) (fun h => by kernel_rfl)

noncomputable def dynposref26_Valid (a0 : Part) : Option (Bool) :=
  Option.bind
    (if decide (a0.Kind ≥ 1) = true then
      if decide (a0.Kind ≤ 9) = true then
        if decide (a0.Number ≥ 0) = true then some (decide (a0.Number ≤ 63)) else some false
      else some false
    else some false)
    fun x1 => some x1
noncomputable def c65 : Con D := ⟨65, [.lf (.int .i64), .lf (.int .i64)], [.lf .bool], [.agg [.h 0 [], .h 1 []]], [], [.one (.h 0 [])], [], fun h => dynposref26_Valid ⟨h.1, h.2⟩⟩
theorem c65_ok : ConOk Try.prog T c65 := fn_ok (Φ := []) (rs := [.tmp 2]) (an := (.n none .o (.n none (.r (some (true, [(.normal, ⟨[.lf .bool], [(2, .one (.h 0 []))], [], [], 2192⟩)])) .nil) .o))) pOk repOk (AllC.mem (l := []) trivial) hmix Try.call65 Try.func65 rfl rfl (by kernel_rfl) (fun h => by kernel_rfl)

noncomputable def dynposref34_Right (a0 : Fault) : Option (Bool) :=
  Option.bind
    (if decide (a0.Time ≥ 0) = true then
      if decide (a0.Time ≤ 2147483648) = true then
        if (a0.Kind == 1) = true then Option.bind (dynposref26_Valid a0.Part) fun x2 => some x2
        else
          if (a0.Kind == 2) = true then Option.bind (dynposref26_Valid a0.Part) fun x1 => some x1
          else some false
      else some false
    else some false)
    fun x3 => some x3
noncomputable def c34 : Con D := ⟨34, [.lf (.int .i64), .lf (.int .i64), .lf (.int .i64), .lf (.int .i64)], [.lf .bool], [.agg [.h 0 [], .h 1 [], .h 2 [], .h 3 []]], [], [.one (.h 0 [])], [], fun h => dynposref34_Right ⟨h.1, h.2.1, ⟨h.2.2.1, h.2.2.2⟩⟩⟩
theorem c34_ok : ConOk Try.prog T c34 := fn_ok (Φ := [c65]) (rs := [.tmp 2]) (an := (.n none .o (.n none (.r (some (true, [(.normal, ⟨[.lf .bool], [(2, .one (.h 0 []))], [], [], 2192⟩)])) .nil) .o))) pOk repOk (AllC.mem (⟨c65_ok, trivial⟩ : AllC _ _ [c65])) hmix Try.call34 Try.func34 rfl rfl (by kernel_rfl) (fun h => by kernel_rfl)

noncomputable def dynposref34_times_L2 (x1 : Int ×
  List
    Int) (x2 : Fault) : Int →
  Option
    (Int ⊕
      Int) := fun x3 =>
  Option.bind
    (if decide (x3 < len x1.2) = true then Option.bind (idx x1.2 x3) fun x4 => some (decide (x4 < x2.Time))
    else some false)
    fun x5 => if x5 = true then some (.inl (W (x3 + 1))) else some (.inr x3)
noncomputable def dynposref34_times_L1 (a0 : List
  Fault) : Int × List Int →
  Option
    (Int × List Int ⊕
      List
        Int) := fun x1 =>
  if decide (x1.1 < len a0) = true then
    Option.bind (idx a0 x1.1) fun x2 =>
      Option.bind (loopO (dynposref34_times_L2 x1 x2) 0) fun x6 =>
        Option.bind
          (if (x6 == len x1.2) = true then some true else Option.bind (idx x1.2 x6) fun x7 => some (x7 != x2.Time))
          fun x8 =>
          Option.bind
            (if x8 = true then
              Option.bind (slc x1.2 0 x6) fun x9 =>
                Option.bind (slc x1.2 x6 (len x1.2)) fun x10 =>
                  Option.bind (app [x2.Time] (drpI x1.2 x6)) fun x11 =>
                    Option.bind (app (takI x1.2 x6) x11) fun x12 => some x12
            else some x1.2)
            fun x13 => some (.inl (W (x1.1 + 1), x13))
  else some (.inr x1.2)
noncomputable def dynposref34_times (a0 : (List Fault)) : Option ((List Int)) := Option.bind (loopO (dynposref34_times_L1 a0) (0, [])) fun x14 => some x14
noncomputable def c44 : Con D := ⟨44, [.lf (.sl 3)], [.lf (.sl 0)], [.one (.h 0 [0])], [], [.one (.own 1000)], [(1000, .sl 0 3 0 [])], fun h => dynposref34_times h⟩
theorem c44_ok : ConOk Try.prog T c44 := fn_ok (Φ := []) (rs := [.tmp 2]) (an := (.n none .o (.n none .o (.n none (.n none .o (.n none (.loop ⟨[.lf (.int .i64), .lf (.sl 0)], [(3, .one (.own 2320)), (9, .one (.h 0 []))], [(2320, .sl 0 3 1 [])], [], 2384⟩ true [(.exit 0, ⟨[.lf (.sl 0)], [(3, .one (.own 2320))], [(2320, .sl 0 3 0 [])], [], 2384⟩)] (.n none .o (.n none .o (.n none (.n none (.n none .o (.n none .o (.n none (.n none (.loop ⟨[.lf (.int .i64)], [(6, .one (.h 0 []))], [], [], 2834⟩ true [(.exit 2, ⟨[.lf (.int .i64)], [(6, .one (.h 0 [])), (18, .one (.any)), (19, .one (.any)), (20, .one (.any)), (21, .one (.any)), (22, .one (.any)), (23, .one (.any)), (24, .one (.any))], [], [], 2834⟩)] (.n none (.n none (.r (some (true, [(.normal, ⟨[.lf .bool], [(18, .one (.any)), (19, .one (.any)), (20, .one (.any)), (21, .one (.any)), (22, .one (.any)), (23, .one (.any)), (24, .one (.any)), (25, .one (.h 0 []))], [], [], 2899⟩)])) .nil) .o) .o)) .o) (.n none (.r (some (true, [(.normal, ⟨[.lf .bool], [(33, .one (.any)), (34, .one (.any)), (35, .one (.any)), (36, .one (.any)), (37, .one (.any)), (38, .one (.any)), (39, .one (.any)), (40, .one (.h 0 []))], [], [], 2899⟩)])) .nil) (.n (some (true, [(.normal, ⟨[.lf (.sl 0)], [(3, .one (.own 2900))], [(2900, .sl 0 3 0 [])], [2320], 2964⟩)])) .o .o))))) .o) .o)))) .o)) .o)))) pOk repOk (AllC.mem (l := []) trivial) hmix Try.call44 Try.func44 rfl rfl (by kernel_rfl) (fun h => by kernel_rfl)

noncomputable def dynposref26_Less (a0 : Part) (a1 : Part) : Option (Bool) :=
  Option.bind
    (if decide (a0.Kind < a1.Kind) = true then some true
    else if (a0.Kind == a1.Kind) = true then some (decide (a0.Number < a1.Number)) else some false)
    fun x1 => some x1
noncomputable def c35 : Con D := ⟨35, [.lf (.int .i64), .lf (.int .i64), .lf (.int .i64), .lf (.int .i64)], [.lf .bool], [.agg [.h 0 [], .h 1 []], .agg [.h 2 [], .h 3 []]], [], [.one (.h 0 [])], [], fun h => dynposref26_Less ⟨h.1, h.2.1⟩ ⟨h.2.2.1, h.2.2.2⟩⟩
theorem c35_ok : ConOk Try.prog T c35 := fn_ok (Φ := []) (rs := [.tmp 4]) (an := (.n none .o (.n none (.r (some (true, [(.normal, ⟨[.lf .bool], [(4, .one (.h 0 []))], [], [], 2256⟩)])) .nil) .o))) pOk repOk (AllC.mem (l := []) trivial) hmix Try.call35 Try.func35 rfl rfl (by kernel_rfl) (fun h => by kernel_rfl)

noncomputable def dynposref26_With_L1 (a0 : List
  Part) (a1 : Part) : Int →
  Option
    (Int ⊕
      Int) := fun x1 =>
  Option.bind
    (if decide (x1 < len a0) = true then
      Option.bind (idx a0 x1) fun x2 => Option.bind (dynposref26_Less x2 a1) fun x3 => some x3
    else some false)
    fun x4 => if x4 = true then some (.inl (W (x1 + 1))) else some (.inr x1)
noncomputable def dynposref26_With (a0 : (List Part)) (a1 : Part) : Option ((List Part)) :=
  Option.bind (loopO (dynposref26_With_L1 a0 a1) 0) fun x5 =>
    Option.bind
      (if decide (x5 < len a0) = true then
        Option.bind (idx a0 x5) fun x6 => some (x6.Kind == a1.Kind && x6.Number == a1.Number)
      else some false)
      fun x7 =>
      if x7 = true then some a0
      else
        Option.bind (slc a0 0 x5) fun x8 =>
          Option.bind (slc a0 x5 (len a0)) fun x9 =>
            Option.bind (app [a1] (drpI a0 x5)) fun x10 => Option.bind (app (takI a0 x5) x10) fun x11 => some x11
noncomputable def c46 : Con D := ⟨46, [.lf (.sl 4), .lf (.int .i64), .lf (.int .i64)], [.lf (.sl 4)], [.one (.own 1000), .agg [.h 1 [], .h 2 []]], [(1000, .sl 4 25 0 [0])], [.one (.own 1001)], [(1001, .sl 4 25 0 [0])], fun h => dynposref26_With h.1 ⟨h.2.1, h.2.2⟩⟩
theorem c46_ok : ConOk Try.prog T c46 := fn_ok (Φ := [c35]) (rs := [.tmp 4]) (an := (.n none .o (.n none .o (.n none (.n none (.loop ⟨[.lf (.int .i64)], [(5, .one (.h 0 []))], [], [], 2256⟩ true [(.exit 0, ⟨[.lf (.int .i64)], [(5, .one (.h 0 []))], [], [], 2256⟩)] (.n none (.n none (.r (some (true, [(.normal, ⟨[.lf .bool], [(11, .one (.any)), (12, .one (.any)), (13, .one (.any)), (14, .one (.any)), (15, .one (.any)), (16, .one (.any)), (17, .one (.h 0 []))], [], [], 2321⟩)])) .nil) .o) .o)) .o) (.n none (.n none (.r (some (true, [(.normal, ⟨[.lf .bool], [(31, .one (.h 0 []))], [], [], 2321⟩)])) .nil) .o) .o))))) pOk repOk (AllC.mem (⟨c35_ok, trivial⟩ : AllC _ _ [c35])) hmix Try.call46 Try.func46 rfl rfl (by kernel_rfl) (fun h => by kernel_rfl)

noncomputable def dynposref34_parts_L1 (a0 : List
  Fault) : Int × List Part →
  Option
    (Int × List Part ⊕
      List
        Part) := fun x1 =>
  if decide (x1.1 < len a0) = true then
    Option.bind (idx a0 x1.1) fun x2 =>
      Option.bind (dynposref26_With x1.2 x2.Part) fun x3 => some (.inl (W (x1.1 + 1), x3))
  else some (.inr x1.2)
noncomputable def dynposref34_parts (a0 : (List Fault)) : Option ((List Part)) := Option.bind (loopO (dynposref34_parts_L1 a0) (0, [])) fun x4 => some x4
noncomputable def c38 : Con D := ⟨38, [.lf (.sl 3)], [.lf (.sl 4)], [.one (.h 0 [0])], [], [.one (.own 1000)], [(1000, .sl 4 25 0 [])], fun h => dynposref34_parts h⟩
theorem c38_ok : ConOk Try.prog T c38 := fn_ok (Φ := [c46]) (rs := [.tmp 2]) (an := (.n none .o (.n none .o (.n none (.n none .o (.n none (.loop ⟨[.lf (.int .i64), .lf (.sl 4)], [(3, .one (.own 2320)), (8, .one (.h 0 []))], [(2320, .sl 4 25 1 [])], [], 2384⟩ true [(.exit 0, ⟨[.lf (.sl 4)], [(3, .one (.own 2320))], [(2320, .sl 4 25 0 [])], [], 2384⟩)] .o) .o)) .o)))) pOk repOk (AllC.mem (⟨c46_ok, trivial⟩ : AllC _ _ [c46])) hmix Try.call38 Try.func38 rfl rfl (by kernel_rfl) (fun h => by kernel_rfl)

noncomputable def dynposref26_Has_L1 (a0 : List
  Part) (a1 : Part) : Int →
  Option
    (Int ⊕
      Unit ⊕
        Bool) := fun x1 =>
  if decide (x1 < len a0) = true then
    Option.bind (idx a0 x1) fun x2 =>
      if (x2.Kind == a1.Kind && x2.Number == a1.Number) = true then some (.inr (.inr true))
      else some (.inl (W (x1 + 1)))
  else some (.inr (.inl ()))
noncomputable def dynposref26_Has (a0 : (List Part)) (a1 : Part) : Option (Bool) :=
  Option.bind (loopO (dynposref26_Has_L1 a0 a1) 0) fun x3 =>
    Sum.elim (fun x4 => some false) (fun x5 => some x5) x3
noncomputable def c45 : Con D := ⟨45, [.lf (.sl 4), .lf (.int .i64), .lf (.int .i64)], [.lf .bool], [.one (.h 0 [0]), .agg [.h 1 [], .h 2 []]], [], [.one (.h 0 [])], [], fun h => dynposref26_Has h.1 ⟨h.2.1, h.2.2⟩⟩
theorem c45_ok : ConOk Try.prog T c45 := fn_ok (Φ := []) (rs := [.tmp 4]) (an := (.n none .o (.n none (.n none .o (.n none (.loop ⟨[.lf (.int .i64)], [(9, .one (.h 0 []))], [], [], 2384⟩ false [(.exit 0, ⟨[], [], [], [], 2384⟩)] .o) .o)) .o))) pOk repOk (AllC.mem (l := []) trivial) hmix Try.call45 Try.func45 rfl rfl (by kernel_rfl) (fun h => by kernel_rfl)

noncomputable def dynposref34_without_L1 (a0 : List
  Part) (a1 : Part) : Int × List Part →
  Option
    (Int × List Part ⊕
      List
        Part) := fun x1 =>
  if decide (x1.1 < len a0) = true then
    Option.bind (idx a0 x1.1) fun x2 =>
      Option.bind
        (if (!(x2.Kind == a1.Kind && x2.Number == a1.Number)) = true then
          Option.bind (app x1.2 [x2]) fun x3 => some x3
        else some x1.2)
        fun x4 => some (.inl (W (x1.1 + 1), x4))
  else some (.inr x1.2)
noncomputable def dynposref34_without (a0 : (List Part)) (a1 : Part) : Option ((List Part)) := Option.bind (loopO (dynposref34_without_L1 a0 a1) (0, [])) fun x5 => some x5
noncomputable def c47 : Con D := ⟨47, [.lf (.sl 4), .lf (.int .i64), .lf (.int .i64)], [.lf (.sl 4)], [.one (.h 0 [0]), .agg [.h 1 [], .h 2 []]], [], [.one (.own 1000)], [(1000, .sl 4 25 0 [])], fun h => dynposref34_without h.1 ⟨h.2.1, h.2.2⟩⟩
theorem c47_ok : ConOk Try.prog T c47 := fn_ok (Φ := []) (rs := [.tmp 4]) (an := (.n none .o (.n none .o (.n none (.n none .o (.n none (.loop ⟨[.lf (.int .i64), .lf (.sl 4)], [(5, .one (.own 2384)), (10, .one (.h 0 []))], [(2384, .sl 4 25 1 [])], [], 2448⟩ true [(.exit 0, ⟨[.lf (.sl 4)], [(5, .one (.own 2384))], [(2384, .sl 4 25 0 [])], [], 2448⟩)] (.n none .o (.n none .o (.n none (.n none (.n none .o (.n none .o (.n (some (true, [(.normal, ⟨[.lf (.sl 4)], [(5, .one (.own 2962))], [(2962, .sl 4 25 0 [])], [2384], 3026⟩)])) .o .o))) .o) .o)))) .o)) .o)))) pOk repOk (AllC.mem (l := []) trivial) hmix Try.call47 Try.func47 rfl rfl (by kernel_rfl) (fun h => by kernel_rfl)

noncomputable def dynposref34_Normal_L1 (a0 : List
  Fault) : Int →
  Option
    (Int ⊕
      Unit ⊕
        Int ×
          List
            Fault) := fun x1 =>
  if decide (x1 < len a0) = true then
    Option.bind (idx a0 x1) fun x2 =>
      Option.bind (dynposref34_Right x2) fun x3 =>
        if (!x3) = true then some (.inr (.inr (1, []))) else some (.inl (W (x1 + 1)))
  else some (.inr (.inl ()))
noncomputable def dynposref34_Normal_L4 (a0 : List
  Fault) (x8 : Int) (x11 : Part) : Int × Int →
  Option
    (Int × Int ⊕
      Int) := fun x12 =>
  if decide (x12.2 < len a0) = true then
    Option.bind (idx a0 x12.2) fun x13 =>
      Option.bind
        (if (x13.Time == x8) = true then some (x13.Part.Kind == x11.Kind && x13.Part.Number == x11.Number)
        else some false)
        fun x14 =>
        Option.bind (if x14 = true then some x13.Kind else some x12.1) fun x15 =>
          some (.inl (x15, W (x12.2 + 1)))
  else some (.inr x12.1)
noncomputable def dynposref34_Normal_L3 (a0 : List
  Fault) (x8 : Int) (x9 : List
  Part) : Int × List Fault × List Part →
  Option
    (Int × List Fault × List Part ⊕
      List Fault ×
        List
          Part) := fun x10 =>
  if decide (x10.1 < len x9) = true then
    Option.bind
      (Option.bind (idx x9 x10.1) fun x11 =>
        Option.bind (loopO (dynposref34_Normal_L4 a0 x8 x11) (0, 0)) fun x16 =>
          Option.bind
            (if (x16 == 0) = true then some true
            else Option.bind (dynposref26_Has x10.2.2 x11) fun x17 => some ((x16 == 1) == x17))
            fun x18 =>
            if x18 = true then some (x10.2.1, x10.2.2)
            else
              Option.bind (app x10.2.1 [Fault.mk x8 x16 x11]) fun x19 =>
                Option.bind
                  (if (x16 == 1) = true then
                    Option.bind (dynposref26_With x10.2.2 x11) fun x21 => some x21
                  else Option.bind (dynposref34_without x10.2.2 x11) fun x20 => some x20)
                  fun x22 => some (x19, x22))
      fun x23 => some (.inl (W (x10.1 + 1), x23.1, x23.2))
  else some (.inr (x10.2.1, x10.2.2))
noncomputable def dynposref34_Normal_L2 (a0 : List
  Fault) (x6 : List
  Int) : Int × List Fault × List Part →
  Option
    (Int × List Fault × List Part ⊕
      List
        Fault) := fun x7 =>
  if decide (x7.1 < len x6) = true then
    Option.bind (idx x6 x7.1) fun x8 =>
      Option.bind (dynposref34_parts a0) fun x9 =>
        Option.bind (loopO (dynposref34_Normal_L3 a0 x8 x9) (0, x7.2.1, x7.2.2)) fun x24 =>
          some (.inl (W (x7.1 + 1), x24.1, x24.2))
  else some (.inr x7.2.1)
noncomputable def dynposref34_Normal (a0 : (List Fault)) : Option (Int × (List Fault)) :=
  Option.bind (loopO (dynposref34_Normal_L1 a0) 0) fun x4 =>
    Sum.elim
      (fun x5 =>
        if decide (len a0 > 60) = true then some (2, [])
        else
          Option.bind (dynposref34_times a0) fun x6 =>
            Option.bind (loopO (dynposref34_Normal_L2 a0 x6) (0, [], [])) fun x25 =>
              if decide (len x25 > 24) = true then some (2, []) else some (0, x25))
      (fun x26 => some x26) x4
noncomputable def c15 : Con D := ⟨15, [.lf (.sl 3)], [.lf (.int .i64), .lf (.sl 3)], [.one (.h 0 [0])], [], [.one (.own 1000), .one (.h 0 [])], [(1000, .sl 3 32 1 [])], fun h => dynposref34_Normal h⟩
theorem c15_ok : ConOk Try.prog T c15 := fn_ok (Φ := [c34, c38, c44, c45, c46, c47]) (rs := [.tmp 2, .tmp 3]) (an := (.n none .o (.n none (.n none .o (.n none (.loop ⟨[.lf (.int .i64)], [(17, .one (.h 0 []))], [], [], 2384⟩ false [(.exit 0, ⟨[], [], [], [], 2384⟩)] .o) .o)) (.n none .o (.n none .o (.n none .o (.n none (.n none .o (.n none (.loop ⟨[.lf (.int .i64), .lf (.sl 3), .lf (.sl 4)], [(6, .one (.own 2960)), (7, .one (.own 2961)), (31, .one (.h 0 []))], [(2960, .sl 3 32 1 []), (2961, .sl 4 25 2 [])], [], 3024⟩ true [(.exit 2, ⟨[.lf (.sl 3)], [(6, .one (.own 2960))], [(2960, .sl 3 32 0 [])], [], 3024⟩)] (.n none .o (.n none .o (.n none (.n none (.n none .o (.n none .o (.n none (.loop ⟨[.lf (.int .i64), .lf (.sl 3), .lf (.sl 4)], [(6, .one (.own 3539)), (7, .one (.own 3540)), (38, .one (.h 0 []))], [(3539, .sl 3 32 1 []), (3540, .sl 4 25 2 [])], [2960, 2961], 3603⟩ true [(.exit 4, ⟨[.lf (.sl 3), .lf (.sl 4)], [(6, .one (.own 3539)), (7, .one (.own 3540))], [(3539, .sl 3 32 0 []), (3540, .sl 4 25 1 [])], [2960, 2961], 3603⟩)] (.n none .o (.n none .o (.n none (.n (some (true, [(.normal, ⟨[.lf (.sl 3), .lf (.sl 4)], [(6, .one (.own 3670)), (7, .one (.own 3671)), (64, .one (.any)), (65, .one (.any)), (66, .one (.any)), (67, .one (.any)), (68, .one (.any)), (69, .one (.any))], [(3670, .sl 3 32 0 []), (3671, .sl 4 25 1 [])], [3539, 3540], 3734⟩)])) (.n none .o (.n none .o (.n none (.n none .o (.n none (.loop ⟨[.lf (.int .i64), .lf (.int .i64)], [(12, .one (.h 0 [])), (44, .one (.h 1 []))], [], [], 4246⟩ true [(.exit 6, ⟨[.lf (.int .i64)], [(12, .one (.h 0 []))], [], [], 4246⟩)] (.n none .o (.n none .o (.n none (.n none (.n none .o (.n none (.r (some (true, [(.normal, ⟨[.lf .bool], [(53, .one (.any)), (54, .one (.any)), (55, .one (.any)), (56, .one (.any)), (57, .one (.h 0 []))], [], [], 4632⟩)])) .nil) (.n (some (true, [(.normal, ⟨[.lf (.int .i64)], [(12, .one (.h 0 []))], [], [], 4697⟩)])) .o .o))) .o) .o)))) .o)) (.n none (.n none (.r (some (true, [(.normal, ⟨[.lf .bool], [(64, .one (.any)), (65, .one (.any)), (66, .one (.any)), (67, .one (.any)), (68, .one (.any)), (69, .one (.any)), (70, .one (.h 0 []))], [], [], 4311⟩)])) .nil) .o) (.n none .o (.n none .o (.n (some (true, [(.normal, ⟨[.lf (.sl 4)], [(7, .one (.own 4952))], [(4952, .sl 4 25 0 [])], [3540], 5016⟩)])) .o .o))))))) .o) .o)))) .o))) .o) .o)))) .o)) .o))))))) pOk repOk (AllC.mem (⟨c34_ok, c38_ok, c44_ok, c45_ok, c46_ok, c47_ok, trivial⟩ : AllC _ _ [c34, c38, c44, c45, c46, c47])) hmix Try.call15 Try.func15 rfl rfl (by kernel_rfl) (fun h => by kernel_rfl)

noncomputable def Src_Faults (a0 : Src) (a1 : Int) : Option ((List Int) × Int × (List Fault)) :=
  Option.bind (Src_AnyFaults a0 a1) fun x1 =>
    Option.bind (dynposref34_Normal x1.2.2) fun x2 => some (x1.1, x1.2.1, x2.2)
noncomputable def c6 : Con D := ⟨6, [.lf (.sl 0), .lf (.int .i64), .lf (.int .i64)], [.lf (.sl 0), .lf (.int .i64), .lf (.sl 3)], [.one (.ptr 1000 0), .one (.h 2 [])], [(1000, .box [.h 0 [0], .h 1 []])], [.one (.own 1001)], [(1000, .box [.h 0 [0], .h 1 []]), (1001, .sl 3 32 2 [])], fun h => Src_Faults ⟨h.1, h.2.1⟩ h.2.2⟩
theorem c6_ok : ConOk Try.prog T c6 := fn_ok (Φ := [c8, c15]) (rs := [.tmp 4]) (an := .o) pOk repOk (AllC.mem (⟨c8_ok, c15_ok, trivial⟩ : AllC _ _ [c8, c15])) hmix Try.call6 Try.func6 rfl rfl (by kernel_rfl) (fun h => by kernel_rfl)

noncomputable def dynposref34_Check_L1 (a0 : List
  Fault) : Int →
  Option
    (Int ⊕
      Unit ⊕
        Int) := fun x1 =>
  if decide (x1 < len a0) = true then
    Option.bind (idx a0 x1) fun x2 =>
      Option.bind (dynposref34_Right x2) fun x3 =>
        if (!x3) = true then some (.inr (.inr 1)) else some (.inl (W (x1 + 1)))
  else some (.inr (.inl ()))
noncomputable def dynposref34_Check_L2 (a0 : List
  Fault) : Int →
  Option
    (Int ⊕
      Unit ⊕
        Int) := fun x6 =>
  if decide (x6 < len a0) = true then
    Option.bind
      (Option.bind (idx a0 (W (x6 - 1))) fun x7 =>
        Option.bind (idx a0 x6) fun x8 =>
          if decide (x7.Time < x8.Time) = true then some !true
          else
            Option.bind (idx a0 (W (x6 - 1))) fun x9 =>
              Option.bind (idx a0 x6) fun x10 =>
                if (x9.Time == x10.Time) = true then
                  Option.bind (idx a0 (W (x6 - 1))) fun x11 =>
                    Option.bind (idx a0 x6) fun x12 =>
                      Option.bind (dynposref26_Less x11.Part x12.Part) fun x13 => some !x13
                else some !false)
      fun x14 => if x14 = true then some (.inr (.inr 7)) else some (.inl (W (x6 + 1)))
  else some (.inr (.inl ()))
noncomputable def dynposref34_Check_L4 (x18 : Fault) (x19 : List
  Fault) : Bool × Int →
  Option
    (Bool × Int ⊕
      Bool) := fun x20 =>
  if decide (x20.2 < len x19) = true then
    Option.bind (idx x19 x20.2) fun x21 =>
      Option.bind
        (if (x21.Part.Kind == x18.Part.Kind && x21.Part.Number == x18.Part.Number) = true then
          some (x21.Kind == 1)
        else some x20.1)
        fun x22 => some (.inl (x22, W (x20.2 + 1)))
  else some (.inr x20.1)
noncomputable def dynposref34_Check_L3 (a0 : List
  Fault) : Int →
  Option
    (Int ⊕
      Unit ⊕
        Int) := fun x17 =>
  if decide (x17 < len a0) = true then
    Option.bind (idx a0 x17) fun x18 =>
      Option.bind (slc a0 0 x17) fun x19 =>
        Option.bind (loopO (dynposref34_Check_L4 x18 x19) (false, 0)) fun x23 =>
          if (x23 == (x18.Kind == 1)) = true then some (.inr (.inr 70))
          else some (.inl (W (x17 + 1)))
  else some (.inr (.inl ()))
noncomputable def dynposref34_Check (a0 : (List Fault)) : Option (Int) :=
  if decide (len a0 > 24) = true then some 2
  else
    Option.bind (loopO (dynposref34_Check_L1 a0) 0) fun x4 =>
      Sum.elim
        (fun x5 =>
          Option.bind (loopO (dynposref34_Check_L2 a0) 1) fun x15 =>
            Sum.elim
              (fun x16 =>
                Option.bind (loopO (dynposref34_Check_L3 a0) 0) fun x24 =>
                  Sum.elim (fun x25 => some 0) (fun x26 => some x26) x24)
              (fun x27 => some x27) x15)
        (fun x28 => some x28) x4
noncomputable def c10 : Con D := ⟨10, [.lf (.sl 3)], [.lf (.int .i64)], [.one (.h 0 [0])], [], [.one (.h 0 [])], [], fun h => dynposref34_Check h⟩
theorem c10_ok : ConOk Try.prog T c10 := fn_ok (Φ := [c34, c35]) (rs := [.tmp 2]) (an := (.n none .o (.n none .o (.n none (.n none .o (.n none (.loop ⟨[.lf (.int .i64)], [(16, .one (.h 0 []))], [], [], 2512⟩ false [(.exit 0, ⟨[], [], [], [], 2512⟩)] .o) .o)) (.n none (.n none .o (.n none (.loop ⟨[.lf (.int .i64)], [(5, .one (.h 0 []))], [], [], 2640⟩ false [(.exit 2, ⟨[], [], [], [], 2640⟩)] (.n none .o (.n none (.n none (.n none (.r (some (true, [(.normal, ⟨[.lf .bool], [(43, .one (.any)), (44, .one (.any)), (45, .one (.any)), (46, .one (.any)), (47, .one (.any)), (48, .one (.any)), (49, .one (.any)), (50, .one (.any)), (51, .one (.any)), (52, .one (.any)), (53, .one (.any)), (54, .one (.any)), (55, .one (.any)), (56, .one (.any)), (57, .one (.any)), (58, .one (.any)), (59, .one (.any)), (60, .one (.any)), (61, .one (.any)), (62, .one (.any)), (63, .one (.any)), (64, .one (.any)), (65, .one (.any)), (66, .one (.any)), (67, .one (.any)), (68, .one (.any)), (70, .one (.h 0 []))], [], [], 2961⟩)])) .nil) .o) .o) .o))) .o)) (.n none (.n none .o (.n none (.loop ⟨[.lf (.int .i64)], [(73, .one (.h 0 []))], [], [], 2896⟩ false [(.exit 4, ⟨[], [], [], [], 2896⟩)] (.n none .o (.n none .o (.n none (.n none (.n none .o (.n none .o (.n none (.n none .o (.n none (.loop ⟨[.lf .bool, .lf (.int .i64)], [(8, .one (.h 0 [])), (82, .one (.h 1 []))], [], [], 3793⟩ true [(.exit 6, ⟨[.lf .bool], [(8, .one (.h 0 []))], [], [], 3793⟩)] (.n none .o (.n none .o (.n none (.n none (.n none .o (.n none .o (.n (some (true, [(.normal, ⟨[.lf .bool], [(8, .one (.h 0 []))], [], [], 4499⟩)])) .o .o))) .o) .o)))) .o)) .o))) .o) .o)))) .o)) .o)))))) pOk repOk (AllC.mem (⟨c34_ok, c35_ok, trivial⟩ : AllC _ _ [c34, c35])) hmix Try.call10 Try.func10 rfl rfl (by kernel_rfl) (fun h => by kernel_rfl)

noncomputable def faults_Parts_1 (a0 : Fault) : Option (Bool) := some true
noncomputable def c37 : Con D := ⟨37, [.lf (.int .i64), .lf (.int .i64), .lf (.int .i64), .lf (.int .i64)], [.lf .bool], [.agg [.h 0 [], .h 1 [], .h 2 [], .h 3 []]], [], [.one (.h 0 [])], [], fun h => faults_Parts_1 ⟨h.1, h.2.1, ⟨h.2.2.1, h.2.2.2⟩⟩⟩
theorem c37_ok : ConOk Try.prog T c37 := fn_ok (Φ := []) (rs := [.tmp 2]) (an := .o) pOk repOk (AllC.mem (l := []) trivial) hmix Try.call37 Try.func37 rfl rfl (by kernel_rfl) (fun h => by kernel_rfl)

noncomputable def faults_parts_1_v2 (a0 : Fault) : Option (Int × Int × Bool) := Option.bind (faults_Parts_1 a0) fun x1 => some (a0.Part.Kind, a0.Part.Number, x1)
noncomputable def c67_1 : Con D := ⟨67, [.lf (.int .i64), .lf (.int .i64), .lf (.int .i64), .lf (.int .i64)], [.lf (.int .i64), .lf (.int .i64), .lf .bool], [.agg [.h 0 [], .h 1 [], .h 2 [], .h 3 []], .one (.ptr 1000 0)], [(1000, .box [.fn 37 []])], [.agg [.h 0 [], .h 1 []], .one (.h 2 [])], [(1000, .box [.fn 37 []])], fun h => faults_parts_1_v2 ⟨h.1, h.2.1, ⟨h.2.2.1, h.2.2.2⟩⟩⟩
theorem c67_1_ok : ConOk Try.prog T c67_1 := fn_ok (Φ := [c37]) (rs := [.cell 3 25, .tmp 4]) (an := .o) pOk repOk (AllC.mem (⟨c37_ok, trivial⟩ : AllC _ _ [c37])) hmix Try.call67 Try.func67 rfl rfl (by kernel_rfl) (fun h => by kernel_rfl)

noncomputable def faults_collect_Fault_Part_v2_L1 (a0 : List
  Fault) : Int × List Part →
  Option
    (Int × List Part ⊕
      List
        Part) := fun x1 =>
  if decide (x1.1 < len a0) = true then
    Option.bind (idx a0 x1.1) fun x2 =>
      Option.bind (faults_parts_1_v2 x2) fun x3 =>
        Option.bind
          (if x3.2.2 = true then Option.bind (app x1.2 [Part.mk x3.1 x3.2.1]) fun x4 => some x4
          else some x1.2)
          fun x5 => some (.inl (W (x1.1 + 1), x5))
  else some (.inr x1.2)
noncomputable def faults_collect_Fault_Part_v2 (a0 : (List Fault)) : Option ((List Part)) :=
  Option.bind (loopO (faults_collect_Fault_Part_v2_L1 a0) (0, [])) fun x6 =>
    Option.bind (slices_SortStableFunc_Part_Part x6) fun x7 =>
      Option.bind (slices_CompactFunc_Part_Part x7) fun x8 => some x8
noncomputable def c66_1 : Con D := ⟨66, [.lf (.sl 3)], [.lf (.sl 4)], [.one (.h 0 [0]), .one (.fn 67 [.ptr 1000 0]), .one (.fn 63 [])], [(1000, .box [.fn 37 []])], [.one (.own 1001)], [(1000, .box [.fn 37 []]), (1001, .sl 4 25 0 [])], fun h => faults_collect_Fault_Part_v2 h⟩
theorem c66_1_ok : ConOk Try.prog T c66_1 := fn_ok (Φ := [c67_1, c79, c80]) (rs := [.tmp 6]) (an := (.n none .o (.n none .o (.n none (.n none .o (.n none (.loop ⟨[.lf (.int .i64), .lf (.sl 4)], [(7, .one (.own 2384)), (14, .one (.h 0 []))], [(2384, .sl 4 25 1 []), (1000, .box [.fn 37 []])], [1000], 2448⟩ true [(.exit 0, ⟨[.lf (.sl 4)], [(7, .one (.own 2384))], [(2384, .sl 4 25 0 []), (1000, .box [.fn 37 []])], [1000], 2448⟩)] (.n none .o (.n none .o (.n none (.n none (.n none .o (.n none .o (.n none .o (.n (some (true, [(.normal, ⟨[.lf (.sl 4)], [(7, .one (.own 3410))], [(3410, .sl 4 25 0 [])], [2384], 3474⟩)])) .o .o)))) .o) .o)))) .o)) .o)))) pOk repOk (AllC.mem (⟨c67_1_ok, c79_ok, c80_ok, trivial⟩ : AllC _ _ [c67_1, c79, c80])) hmix Try.call66 Try.func66 rfl rfl (by kernel_rfl) (fun h => by kernel_rfl)

noncomputable def faults_parts_v2 (a0 : (List Fault)) : Option ((List Part)) := Option.bind (faults_collect_Fault_Part_v2 a0) fun x1 => some x1
noncomputable def c36_1 : Con D := ⟨36, [.lf (.sl 3)], [.lf (.sl 4)], [.one (.h 0 [0]), .one (.fn 37 [])], [], [.one (.own 1000)], [(1000, .sl 4 25 0 [])], fun h => faults_parts_v2 h⟩
theorem c36_1_ok : ConOk Try.prog T c36_1 := fn_ok (Φ := [c66_1]) (rs := [.tmp 4]) (an := .o) pOk repOk (AllC.mem (⟨c66_1_ok, trivial⟩ : AllC _ _ [c66_1])) hmix Try.call36 Try.func36 rfl rfl (by kernel_rfl) (fun h => by kernel_rfl)

noncomputable def faults_Parts (a0 : (List Fault)) : Option ((List Part)) :=
  Option.bind (faults_Check a0) fun x1 =>
    if (x1 != 0) = true then some [] else Option.bind (faults_parts_v2 a0) fun x2 => some x2
noncomputable def c12 : Con D := ⟨12, [.lf (.sl 3)], [.lf (.sl 4)], [.one (.h 0 [0])], [], [.one (.own 1000)], [(1000, .sl 4 25 0 [])], fun h => faults_Parts h⟩
theorem c12_ok : ConOk Try.prog T c12 := fn_ok (Φ := [c9, c36_1]) (rs := [.tmp 2]) (an := .o) pOk repOk (AllC.mem (⟨c9_ok, c36_1_ok, trivial⟩ : AllC _ _ [c9, c36_1])) hmix Try.call12 Try.func12 rfl rfl (by kernel_rfl) (fun h => by kernel_rfl)

end Rx
end Go.Proofs.Ytkgfdplcjdidhaa
