/- Plain functions, walks. Written by a program (wip/gen). -/
import Derived.Test.YtnpnaopnhgkapaaRt
import Derived.Test.YtnpnaopnhgkapaaHi
set_option linter.unusedVariables false
set_option maxRecDepth 100000
namespace Go.Proofs.Ytnpnaopnhgkapaa
open Go Go.RowKit Dp
namespace Rx

noncomputable def design_Word_L1 (x3 : List
  U8) : Int →
  Option
    (Int ⊕
      Unit ⊕
        Bool) := fun x4 =>
  if decide (x4 < len x3) = true then
    Option.bind (idx x3 x4) fun x5 =>
      Option.bind (if decide (x5.n ≥ 97) = true then some (decide (x5.n ≤ 122)) else some false)
        fun x6 =>
        Option.bind
          (if (!x6) = true then
            if (x4 == 0) = true then some true
            else
              if (x5.n != 45) = true then
                if decide (x5.n < 48) = true then some true else some (decide (x5.n > 57))
              else some false
          else some false)
          fun x7 => if x7 = true then some (.inr (.inr false)) else some (.inl (W (x4 + 1)))
  else some (.inr (.inl ()))
noncomputable def design_Word (a0 : ByteArray) : Option (Bool) :=
  Option.bind (if decide (sLen a0 < 1) = true then some true else some (decide (sLen a0 > 12)))
    fun x1 =>
    if x1 = true then some false
    else
      Option.bind (sBys (fun x2 => U8.mk x2) a0) fun x3 =>
        Option.bind (loopO (design_Word_L1 x3) 0) fun x8 =>
          Sum.elim (fun x9 => some true) (fun x10 => some x10) x8
noncomputable def c54 : Con D := ⟨54, [.lf .str], [.lf .bool], [.one (.h 0 [])], [], [.one (.h 0 [])], [], fun h => design_Word h⟩
theorem c54_ok : ConOk Try.prog T c54 := fn_ok (Φ := []) (rs := [.tmp 2]) (an := (.n none .o (.n none (.n none (.r (some (true, [(.normal, ⟨[.lf .bool], [(13, .one (.h 0 []))], [], [], 2128⟩)])) .nil) .o) (.n none (.n none .o (.n none (.loop ⟨[.lf (.int .i64)], [(17, .one (.h 0 []))], [], [], 2449⟩ false [(.exit 0, ⟨[], [], [], [], 2449⟩)] (.n none .o (.n none .o (.n none (.n none (.n none .o (.n none (.r (some (true, [(.normal, ⟨[.lf .bool], [(5, .one (.h 0 [])), (25, .one (.any)), (26, .one (.any))], [], [], 2898⟩)])) .nil) (.n none (.r (some (true, [(.normal, ⟨[.lf .bool], [(31, .one (.any)), (32, .one (.any)), (33, .one (.any)), (34, .one (.any)), (35, .one (.any)), (36, .one (.any)), (37, .one (.any)), (38, .one (.any)), (39, .one (.any)), (40, .one (.any)), (41, .one (.any)), (42, .one (.any)), (43, .one (.any)), (44, .one (.any)), (45, .one (.h 0 []))], [], [], 2963⟩)])) .nil) .o))) .o) .o)))) .o)) .o)))) pOk repOk (AllC.mem (l := []) trivial) hmix Try.call54 Try.func54 rfl rfl (by kernel_rfl) (fun h => by kernel_rfl)

noncomputable def disconnect_Check_L2 (x2 : Int ×
  List
    (ByteArray ×
      Bool)) (x3 : Stage) : Int × Int →
  Option
    (Int × Int ⊕
      Unit ⊕
        Int × List (ByteArray × Bool) ⊕
          List (ByteArray × Bool) ⊕
            Int) := fun x8 =>
  if decide (x8.2 < len x3.Needs) = true then
    Option.bind (idx x3.Needs x8.2) fun x9 =>
      Option.bind (if decide (x9 ≤ x8.1) = true then some true else some (decide (x9 ≥ x2.1))) fun x10 =>
        if x10 = true then some (.inr (.inr (.inr (.inr 67))))
        else some (.inl (x9, W (x8.2 + 1)))
  else some (.inr (.inl ()))
noncomputable def disconnect_Check_L1 (a0 : List
  Stage) : Int × List (ByteArray × Bool) →
  Option
    (Int × List (ByteArray × Bool) ⊕
      List (ByteArray × Bool) ⊕
        Int) := fun x2 =>
  if decide (x2.1 < len a0) = true then
    Option.bind (idx a0 x2.1) fun x3 =>
      Option.bind
        (Option.bind (design_Word x3.Name) fun x4 =>
          if (!x4) = true then some true
          else
            if mget (fun x5 => x5.1 == x3.Name) (fun x6 => x6.2) false x2.2 = true then some true
            else
              if decide (x3.Ticks < 1) = true then some true
              else
                if decide (x3.Ticks > 600) = true then some true
                else
                  if decide (x3.Tries < 1) = true then some true else some (decide (x3.Tries > 3)))
        fun x7 =>
        if x7 = true then some (.inr (.inr 67))
        else
          Option.bind (loopO (disconnect_Check_L2 x2 x3) ((-1), 0)) fun x11 =>
            Sum.elim
              (fun x12 =>
                some (.inl (W (x2.1 + 1), mput (fun x13 => x13.1 == x3.Name) (x3.Name, true) x2.2)))
              (fun x14 => some x14) x11
  else some (.inr (.inl x2.2))
noncomputable def disconnect_Check (a0 : (List Stage)) : Option (Int) :=
  Option.bind (if decide (len a0 < 1) = true then some true else some (decide (len a0 > 12)))
    fun x1 =>
    if x1 = true then some 67
    else
      Option.bind (loopO (disconnect_Check_L1 a0) (0, [])) fun x15 =>
        Sum.elim (fun x16 => some 0) (fun x17 => some x17) x15
noncomputable def c19 : Con D := ⟨19, [.lf (.sl 4)], [.lf (.int .i64)], [.agg [.h 0 [0]]], [], [.one (.h 0 [])], [], fun h => disconnect_Check h⟩
theorem c19_ok : ConOk Try.prog T c19 := fn_ok (Φ := [c54]) (rs := [.tmp 2]) (an := (.n none .o (.n none (.n none (.r (some (true, [(.normal, ⟨[.lf .bool], [(18, .one (.h 0 []))], [], [], 2192⟩)])) .nil) .o) (.n none .o (.n none (.n none .o (.n none (.loop ⟨[.lf (.int .i64), .lf (.sl 7)], [(23, .one (.h 0 []))], [(2193, .mp 7 1)], [2193], 2641⟩ false [(.exit 0, ⟨[.lf (.sl 7)], [], [(2193, .mp 7 0)], [2193], 2641⟩)] (.n none .o (.n none .o (.n none (.n none (.n none .o (.n none (.n none (.r (some (true, [(.normal, ⟨[.lf .bool], [(33, .one (.any)), (34, .one (.any)), (35, .one (.any)), (36, .one (.any)), (39, .one (.any)), (40, .one (.any)), (41, .one (.any)), (44, .one (.any)), (45, .one (.any)), (46, .one (.any)), (49, .one (.any)), (50, .one (.any)), (51, .one (.any)), (54, .one (.any)), (55, .one (.any)), (56, .one (.any)), (57, .one (.h 0 []))], [], [], 3155⟩)])) .nil) .o) (.n none .o (.n none .o (.n none .o (.n none (.loop ⟨[.lf (.int .i64), .lf (.int .i64)], [(6, .one (.h 0 [])), (64, .one (.h 1 []))], [], [], 3796⟩ false [(.exit 2, ⟨[], [], [], [], 3796⟩)] (.n none .o (.n none .o (.n none (.n none (.n none .o (.n none (.n none (.r (some (true, [(.normal, ⟨[.lf .bool], [(72, .one (.any)), (73, .one (.any)), (74, .one (.any)), (75, .one (.h 0 []))], [], [], 4118⟩)])) .nil) .o) .o)) .o) .o)))) .o)))))) .o) .o)))) .o)) .o))))) pOk repOk (AllC.mem (⟨c54_ok, trivial⟩ : AllC _ _ [c54])) hmix Try.call19 Try.func19 rfl rfl (by kernel_rfl) (fun h => by kernel_rfl)

noncomputable def disconnect_ready_1 (a0 : Int) (a1 : (List Work)) : Option (Bool) := Option.bind (idx a1 a0) fun x1 => some (x1.State != 2)
noncomputable def c72 : Con D := ⟨72, [.lf (.int .i64), .el 9], [.lf .bool], [.one (.h 0 []), .one (.rp 1 9 [0])], [], [.one (.h 0 [])], [], fun h => disconnect_ready_1 h.1 h.2⟩
theorem c72_ok : ConOk Try.prog T c72 := fn_ok (Φ := []) (rs := [.tmp 3]) (an := .o) pOk repOk (AllC.mem (l := []) trivial) hmix Try.call72 Try.func72 rfl rfl (by kernel_rfl) (fun h => by kernel_rfl)

noncomputable def slices_IndexFunc_int_int_L1 (a0 : List
  Int) (a1 : List
  Work) : Int →
  Option
    (Int ⊕
      Unit ⊕
        Int) := fun x1 =>
  if decide (x1 < len a0) = true then
    Option.bind (idx a0 x1) fun x2 =>
      Option.bind (disconnect_ready_1 x2 a1) fun x3 =>
        if x3 = true then some (.inr (.inr x1)) else some (.inl (W (x1 + 1)))
  else some (.inr (.inl ()))
noncomputable def slices_IndexFunc_int_int (a0 : (List Int)) (a1 : (List Work)) : Option (Int) :=
  Option.bind (loopO (slices_IndexFunc_int_int_L1 a0 a1) 0) fun x4 =>
    Sum.elim (fun x5 => some (-1)) (fun x6 => some x6) x4
noncomputable def c77 : Con D := ⟨77, [.lf (.sl 0), .el 9], [.lf (.int .i64)], [.one (.h 0 [0]), .one (.fn 72 [.rp 1 9 [0]])], [], [.one (.h 0 [])], [], fun h => slices_IndexFunc_int_int h.1 h.2⟩
theorem c77_ok : ConOk Try.prog T c77 := fn_ok (Φ := [c72]) (rs := [.tmp 4]) (an := (.n none .o (.n none (.n none .o (.n none (.loop ⟨[.lf (.int .i64)], [(8, .one (.h 0 []))], [], [], 2320⟩ false [(.exit 0, ⟨[], [], [], [], 2320⟩)] .o) .o)) .o))) pOk repOk (AllC.mem (⟨c72_ok, trivial⟩ : AllC _ _ [c72])) hmix Try.call77 Try.func77 rfl rfl (by kernel_rfl) (fun h => by kernel_rfl)

noncomputable def slices_ContainsFunc_int_int (a0 : (List Int)) (a1 : (List Work)) : Option (Bool) := Option.bind (slices_IndexFunc_int_int a0 a1) fun x1 => some (decide (x1 ≥ 0))
noncomputable def c71 : Con D := ⟨71, [.lf (.sl 0), .el 9], [.lf .bool], [.one (.h 0 [0]), .one (.fn 72 [.rp 1 9 [0]])], [], [.one (.h 0 [])], [], fun h => slices_ContainsFunc_int_int h.1 h.2⟩
theorem c71_ok : ConOk Try.prog T c71 := fn_ok (Φ := [c77]) (rs := [.tmp 4]) (an := .o) pOk repOk (AllC.mem (⟨c77_ok, trivial⟩ : AllC _ _ [c77])) hmix Try.call71 Try.func71 rfl rfl (by kernel_rfl) (fun h => by kernel_rfl)

noncomputable def disconnect_ready (a0 : Stage) (a1 : (List Work)) : Option (Bool) := Option.bind (slices_ContainsFunc_int_int a0.Needs a1) fun x1 => some !x1
noncomputable def c60 : Con D := ⟨60, [.lf .str, .lf (.int .i64), .lf (.int .i64), .lf (.sl 0), .lf (.sl 6)], [.lf .bool], [.agg [.h 0 [], .h 1 [], .h 2 [], .h 3 [0]], .one (.h 4 [0])], [], [.one (.h 0 [])], [], fun h => disconnect_ready ⟨h.1, h.2.1, h.2.2.1, h.2.2.2.1⟩ h.2.2.2.2⟩
theorem c60_ok : ConOk Try.prog T c60 := fn_ok (Φ := [c71]) (rs := [.tmp 4]) (an := .o) pOk repOk (AllC.mem (⟨c71_ok, trivial⟩ : AllC _ _ [c71])) hmix Try.call60 Try.func60 rfl rfl (by kernel_rfl) (fun h => by kernel_rfl)

noncomputable def disconnect_begin_L1 (a0 : List
  Stage) (a1 : Progress) : Int × List Work →
  Option
    (Int × List Work ⊕
      List
        Work) := fun x1 =>
  if decide (x1.1 < len a0) = true then
    Option.bind (idx a0 x1.1) fun x2 =>
      Option.bind
        (Option.bind (idx x1.2 x1.1) fun x3 =>
          if (x3.State == 0) = true then Option.bind (disconnect_ready x2 x1.2) fun x4 => some x4
          else some false)
        fun x5 =>
        Option.bind
          (if x5 = true then
            Option.bind (idx x1.2 x1.1) fun x6 =>
              Option.bind (idx x1.2 x1.1) fun x7 =>
                Option.bind (setO x1.2 x1.1 (Work.mk 1 a1.Time 1)) fun x8 => some x8
          else some x1.2)
          fun x9 => some (.inl (W (x1.1 + 1), x9))
  else some (.inr x1.2)
noncomputable def disconnect_begin (a0 : (List Stage)) (a1 : Progress) : Option ((List Work)) := Option.bind (loopO (disconnect_begin_L1 a0 a1) (0, a1.Works)) fun x10 => some x10
noncomputable def c58 : Con D := ⟨58, [.lf (.sl 4), .lf (.int .i64), .lf (.sl 6)], [.lf (.sl 6)], [.agg [.h 0 [0]], .agg [.h 1 [], .own 1000]], [(1000, .sl 6 62 2 [])], [], [(1000, .sl 6 62 0 [])], fun h => disconnect_begin h.1 ⟨h.2.1, h.2.2⟩⟩
theorem c58_ok : ConOk Try.prog T c58 := fn_ok (Φ := [c60]) (rs := []) (an := (.n none .o (.n none .o (.n none (.loop ⟨[.lf (.int .i64), .lf (.sl 6)], [(9, .one (.h 0 []))], [(1000, .sl 6 62 1 [])], [1000], 2448⟩ true [(.exit 0, ⟨[.lf (.sl 6)], [], [(1000, .sl 6 62 0 [])], [1000], 2448⟩)] (.n none .o (.n none .o (.n none (.n none (.n none .o (.n none (.r (some (true, [(.normal, ⟨[.lf .bool], [(22, .one (.any)), (23, .one (.any)), (24, .one (.any)), (25, .one (.any)), (26, .one (.h 0 []))], [], [], 2962⟩)])) .nil) (.n (some (true, [(.normal, ⟨[.lf (.sl 6)], [], [(1000, .sl 6 62 0 [])], [1000], 3027⟩)])) .o .o))) .o) .o)))) .o)))) pOk repOk (AllC.mem (⟨c60_ok, trivial⟩ : AllC _ _ [c60])) hmix Try.call58 Try.func58 rfl rfl (by kernel_rfl) (fun h => by kernel_rfl)

noncomputable def disconnect_New (a0 : (List Stage)) (a1 : Int) : Option (Int × Int × (List Work)) :=
  Option.bind (disconnect_Check a0) fun x1 =>
    if (x1 != 0) = true then some (0, x1, [])
    else
      Option.bind (if decide (a1 < 0) = true then some true else some (decide (a1 > 2147483648)))
        fun x2 =>
        if x2 = true then some (0, 1, [])
        else
          Option.bind (mkZ (Work.mk 0 0 0) (len a0)) fun x3 =>
            Option.bind (disconnect_begin a0 (Progress.mk a1 x3)) fun x4 => some (a1, 0, x4)
noncomputable def c27 : Con D := ⟨27, [.lf (.sl 4), .lf (.int .i64)], [.lf (.int .i64), .lf (.int .i64), .lf (.sl 6)], [.agg [.h 0 [0]], .one (.h 1 [])], [], [.agg [.h 0 [], .own 1000], .one (.h 1 [])], [(1000, .sl 6 62 2 [])], fun h => disconnect_New h.1 h.2⟩
theorem c27_ok : ConOk Try.prog T c27 := fn_ok (Φ := [c19, c58]) (rs := [.cell 4 39, .tmp 5]) (an := (.n none .o (.n none .o (.n none (.n none (.r (some (true, [(.normal, ⟨[.lf .bool], [(19, .one (.h 0 []))], [], [], 2576⟩)])) .nil) .o) .o)))) pOk repOk (AllC.mem (⟨c19_ok, c58_ok, trivial⟩ : AllC _ _ [c19, c58])) hmix Try.call27 Try.func27 rfl rfl (by kernel_rfl) (fun h => by kernel_rfl)

noncomputable def disconnect_work (a0 : Stage) (a1 : Work) (a2 : Int) (a3 : Bool) : Option (Bool) :=
  Option.bind (if decide (a1.Tries ≥ 1) = true then some (decide (a1.Tries ≤ a0.Tries)) else some false)
    fun x1 =>
    if (a1.State == 0) = true then
      Option.bind
        (if (a1.State == 0 && (a1.Since == 0 && a1.Tries == 0)) = true then some !a3
        else some false)
        fun x5 => some x5
    else
      if (a1.State == 1) = true then
        Option.bind
          (if a3 = true then
            if x1 = true then
              if decide (a1.Since ≥ imax 0 (W (W (a2 - a0.Ticks) + 1))) = true then
                some (decide (a1.Since ≤ a2))
              else some false
            else some false
          else some false)
          fun x4 => some x4
      else
        if (a1.State == 2) = true then
          Option.bind
            (if a3 = true then
              if x1 = true then
                if decide (a1.Since ≥ 0) = true then some (decide (a1.Since ≤ W (a2 - a0.Ticks)))
                else some false
              else some false
            else some false)
            fun x3 => some x3
        else
          if (a1.State == 3) = true then
            Option.bind
              (if a3 = true then
                if (a1.Tries == a0.Tries) = true then
                  if decide (a1.Since ≥ 0) = true then some (decide (a1.Since ≤ a2)) else some false
                else some false
              else some false)
              fun x2 => some x2
          else some false
noncomputable def c59 : Con D := ⟨59, [.lf .str, .lf (.int .i64), .lf (.int .i64), .lf (.sl 0), .lf (.int .i64), .lf (.int .i64), .lf (.int .i64), .lf (.int .i64), .lf .bool], [.lf .bool], [.agg [.h 0 [], .h 1 [], .h 2 [], .h 3 [0]], .agg [.h 4 [], .h 5 [], .h 6 []], .one (.h 7 []), .one (.h 8 [])], [], [.one (.h 0 [])], [], fun h => disconnect_work ⟨h.1, h.2.1, h.2.2.1, h.2.2.2.1⟩ ⟨h.2.2.2.2.1, h.2.2.2.2.2.1, h.2.2.2.2.2.2.1⟩ h.2.2.2.2.2.2.2.1 h.2.2.2.2.2.2.2.2⟩
theorem c59_ok : ConOk Try.prog T c59 := fn_ok (Φ := []) (rs := [.tmp 8]) (an := (.n none .o (.n none (.r (some (true, [(.normal, ⟨[.lf .bool], [(9, .one (.h 0 []))], [], [], 2256⟩)])) .nil) (.n none (.n none .o (.n none (.n none .o (.n none (.n none (.r (some (true, [(.normal, ⟨[.lf .bool], [(8, .one (.h 0 []))], [], [], 2577⟩)])) .nil) .o) (.n none .o (.n none (.n none (.r (some (true, [(.normal, ⟨[.lf .bool], [(8, .one (.h 0 []))], [], [], 2705⟩)])) .nil) .o) (.n none .o (.n none (.n none (.r (some (true, [(.normal, ⟨[.lf .bool], [(8, .one (.h 0 []))], [], [], 2833⟩)])) .nil) .o) (.n none .o (.n none (.n none (.r (some (true, [(.normal, ⟨[.lf .bool], [(8, .one (.h 0 []))], [], [], 2961⟩)])) .nil) .o) .o)))))))) .o)) .o)))) pOk repOk (AllC.mem (l := []) trivial) hmix Try.call59 Try.func59 rfl rfl (by kernel_rfl) (fun h => by kernel_rfl)

noncomputable def disconnect_Valid_L1 (a0 : List
  Stage) (a1 : Progress) : Int →
  Option
    (Int ⊕
      Unit ⊕
        Bool) := fun x3 =>
  if decide (x3 < len a0) = true then
    Option.bind (idx a0 x3) fun x4 =>
      Option.bind (idx a1.Works x3) fun x5 =>
        Option.bind (disconnect_ready x4 a1.Works) fun x6 =>
          Option.bind (disconnect_work x4 x5 a1.Time x6) fun x7 =>
            if (!x7) = true then some (.inr (.inr false)) else some (.inl (W (x3 + 1)))
  else some (.inr (.inl ()))
noncomputable def disconnect_Valid (a0 : (List Stage)) (a1 : Progress) : Option (Bool) :=
  Option.bind
    (Option.bind (disconnect_Check a0) fun x1 =>
      if (x1 != 0) = true then some true
      else
        if decide (a1.Time < 0) = true then some true
        else if decide (a1.Time > 2147483648) = true then some true else some (len a1.Works != len a0))
    fun x2 =>
    if x2 = true then some false
    else
      Option.bind (loopO (disconnect_Valid_L1 a0 a1) 0) fun x8 =>
        Sum.elim (fun x9 => some true) (fun x10 => some x10) x8
noncomputable def c33 : Con D := ⟨33, [.lf (.sl 4), .lf (.int .i64), .lf (.sl 6)], [.lf .bool], [.agg [.h 0 [0]], .agg [.h 1 [], .h 2 [0]]], [], [.one (.h 0 [])], [], fun h => disconnect_Valid h.1 ⟨h.2.1, h.2.2⟩⟩
theorem c33_ok : ConOk Try.prog T c33 := fn_ok (Φ := [c19, c59, c60]) (rs := [.tmp 4]) (an := (.n none .o (.n none (.n none (.r (some (true, [(.normal, ⟨[.lf .bool], [(28, .one (.h 0 []))], [], [], 2256⟩)])) .nil) .o) (.n none (.n none .o (.n none (.loop ⟨[.lf (.int .i64)], [(32, .one (.h 0 []))], [], [], 2577⟩ false [(.exit 0, ⟨[], [], [], [], 2577⟩)] .o) .o)) .o)))) pOk repOk (AllC.mem (⟨c19_ok, c59_ok, c60_ok, trivial⟩ : AllC _ _ [c19, c59, c60])) hmix Try.call33 Try.func33 rfl rfl (by kernel_rfl) (fun h => by kernel_rfl)

noncomputable def disconnect_Stuck_1 (a0 : Work) : Option (Bool) := some (a0.State == 3)
noncomputable def c64 : Con D := ⟨64, [.lf (.int .i64), .lf (.int .i64), .lf (.int .i64)], [.lf .bool], [.agg [.h 0 [], .h 1 [], .h 2 []]], [], [.one (.h 0 [])], [], fun h => disconnect_Stuck_1 ⟨h.1, h.2.1, h.2.2⟩⟩
theorem c64_ok : ConOk Try.prog T c64 := fn_ok (Φ := []) (rs := [.tmp 2]) (an := .o) pOk repOk (AllC.mem (l := []) trivial) hmix Try.call64 Try.func64 rfl rfl (by kernel_rfl) (fun h => by kernel_rfl)

noncomputable def slices_IndexFunc_Work_Work_L1 (a0 : List
  Work) : Int →
  Option
    (Int ⊕
      Unit ⊕
        Int) := fun x1 =>
  if decide (x1 < len a0) = true then
    Option.bind (idx a0 x1) fun x2 =>
      Option.bind (disconnect_Stuck_1 x2) fun x3 =>
        if x3 = true then some (.inr (.inr x1)) else some (.inl (W (x1 + 1)))
  else some (.inr (.inl ()))
noncomputable def slices_IndexFunc_Work_Work (a0 : (List Work)) : Option (Int) :=
  Option.bind (loopO (slices_IndexFunc_Work_Work_L1 a0) 0) fun x4 =>
    Sum.elim (fun x5 => some (-1)) (fun x6 => some x6) x4
noncomputable def c73 : Con D := ⟨73, [.lf (.sl 6)], [.lf (.int .i64)], [.one (.h 0 [0]), .one (.fn 64 [])], [], [.one (.h 0 [])], [], fun h => slices_IndexFunc_Work_Work h⟩
theorem c73_ok : ConOk Try.prog T c73 := fn_ok (Φ := [c64]) (rs := [.tmp 4]) (an := (.n none .o (.n none (.n none .o (.n none (.loop ⟨[.lf (.int .i64)], [(8, .one (.h 0 []))], [], [], 2320⟩ false [(.exit 0, ⟨[], [], [], [], 2320⟩)] .o) .o)) .o))) pOk repOk (AllC.mem (⟨c64_ok, trivial⟩ : AllC _ _ [c64])) hmix Try.call73 Try.func73 rfl rfl (by kernel_rfl) (fun h => by kernel_rfl)

noncomputable def slices_ContainsFunc_Work_Work (a0 : (List Work)) : Option (Bool) := Option.bind (slices_IndexFunc_Work_Work a0) fun x1 => some (decide (x1 ≥ 0))
noncomputable def c62 : Con D := ⟨62, [.lf (.sl 6)], [.lf .bool], [.one (.h 0 [0]), .one (.fn 64 [])], [], [.one (.h 0 [])], [], fun h => slices_ContainsFunc_Work_Work h⟩
theorem c62_ok : ConOk Try.prog T c62 := fn_ok (Φ := [c73]) (rs := [.tmp 4]) (an := .o) pOk repOk (AllC.mem (⟨c73_ok, trivial⟩ : AllC _ _ [c73])) hmix Try.call62 Try.func62 rfl rfl (by kernel_rfl) (fun h => by kernel_rfl)

noncomputable def disconnect_Stuck (a0 : Progress) : Option (Bool) := Option.bind (slices_ContainsFunc_Work_Work a0.Works) fun x1 => some x1
noncomputable def c37 : Con D := ⟨37, [.lf (.int .i64), .lf (.sl 6)], [.lf .bool], [.agg [.h 0 [], .h 1 [0]]], [], [.one (.h 0 [])], [], fun h => disconnect_Stuck ⟨h.1, h.2⟩⟩
theorem c37_ok : ConOk Try.prog T c37 := fn_ok (Φ := [c62]) (rs := [.tmp 2]) (an := .o) pOk repOk (AllC.mem (⟨c62_ok, trivial⟩ : AllC _ _ [c62])) hmix Try.call37 Try.func37 rfl rfl (by kernel_rfl) (fun h => by kernel_rfl)

noncomputable def disconnect_ends_L2 (x2 : Int ×
  List
    Int) (x3 : Stage) : Int × List Int →
  Option
    (Int × List Int ⊕
      List
        Int) := fun x5 =>
  if decide (x5.1 < len x3.Needs) = true then
    Option.bind (idx x3.Needs x5.1) fun x6 =>
      Option.bind (idx x5.2 x2.1) fun x7 =>
        Option.bind (idx x5.2 x6) fun x8 =>
          Option.bind (idx x5.2 x2.1) fun x9 =>
            Option.bind (idx x5.2 x2.1) fun x10 =>
              Option.bind (setO x5.2 x2.1 (imax x7 x8)) fun x11 => some (.inl (W (x5.1 + 1), x11))
  else some (.inr x5.2)
noncomputable def disconnect_ends_L1 (a0 : List
  Stage) (a1 : Progress) : Int × List Int →
  Option
    (Int × List Int ⊕
      List
        Int) := fun x2 =>
  if decide (x2.1 < len a0) = true then
    Option.bind (idx a0 x2.1) fun x3 =>
      Option.bind (idx a1.Works x2.1) fun x4 =>
        Option.bind
          (if (x4.State == 1) = true then
            Option.bind (idx x2.2 x2.1) fun x18 =>
              Option.bind (idx x2.2 x2.1) fun x19 =>
                Option.bind (setO x2.2 x2.1 (W (W (x4.Since + x3.Ticks) - a1.Time))) fun x20 => some x20
          else
            Option.bind
              (if (x4.State == 0) = true then
                Option.bind (loopO (disconnect_ends_L2 x2 x3) (0, x2.2)) fun x12 =>
                  Option.bind (idx x12 x2.1) fun x13 =>
                    Option.bind (idx x12 x2.1) fun x14 =>
                      Option.bind (idx x12 x2.1) fun x15 =>
                        Option.bind (setO x12 x2.1 (W (x13 + x3.Ticks))) fun x16 => some x16
              else some x2.2)
              fun x17 => some x17)
          fun x21 => some (.inl (W (x2.1 + 1), x21))
  else some (.inr x2.2)
noncomputable def disconnect_ends (a0 : (List Stage)) (a1 : Progress) : Option ((List Int)) :=
  Option.bind (mkZ 0 (len a0)) fun x1 =>
    Option.bind (loopO (disconnect_ends_L1 a0 a1) (0, x1)) fun x22 => some x22
noncomputable def c44 : Con D := ⟨44, [.lf (.sl 4), .lf (.int .i64), .lf (.sl 6)], [.lf (.sl 0)], [.agg [.h 0 [0]], .agg [.h 1 [], .h 2 [0]]], [], [.one (.own 1000)], [(1000, .sl 0 3 0 [])], fun h => disconnect_ends h.1 ⟨h.2.1, h.2.2⟩⟩
theorem c44_ok : ConOk Try.prog T c44 := fn_ok (Φ := []) (rs := [.tmp 4]) (an := (.n none .o (.n none .o (.n none (.n none .o (.n none (.loop ⟨[.lf (.int .i64), .lf (.sl 0)], [(18, .one (.h 0 []))], [(2384, .sl 0 3 1 [])], [2384], 2832⟩ true [(.exit 0, ⟨[.lf (.sl 0)], [], [(2384, .sl 0 3 0 [])], [2384], 2832⟩)] (.n none .o (.n none .o (.n none (.n none (.n none .o (.n none .o (.n none .o (.n none (.n none .o (.n (some (true, [(.normal, ⟨[.lf (.sl 0)], [], [(2384, .sl 0 3 0 [])], [2384], 4050⟩)])) .o (.n none .o (.n (some (true, [(.normal, ⟨[.lf (.sl 0)], [], [(2384, .sl 0 3 0 [])], [2384], 4178⟩)])) (.n none (.n none .o (.n none (.loop ⟨[.lf (.int .i64), .lf (.sl 0)], [(48, .one (.h 0 []))], [(2384, .sl 0 3 1 [])], [2384], 4434⟩ true [(.exit 3, ⟨[.lf (.sl 0)], [], [(2384, .sl 0 3 0 [])], [2384], 4434⟩)] .o) .o)) .o) .o)))) .o)))) .o) .o)))) .o)) .o)))) pOk repOk (AllC.mem (l := []) trivial) hmix Try.call44 Try.func44 rfl rfl (by kernel_rfl) (fun h => by kernel_rfl)

noncomputable def slices_Max_int_int_L1 (a0 : List
  Int) : Int × Int →
  Option
    (Int × Int ⊕
      Int) := fun x2 =>
  if decide (x2.2 < len a0) = true then
    Option.bind (idx a0 x2.2) fun x3 => some (.inl (imax x2.1 x3, W (x2.2 + 1)))
  else some (.inr x2.1)
noncomputable def slices_Max_int_int (a0 : (List Int)) : Option (Int) :=
  if decide (len a0 < 1) = true then none
  else
    Option.bind (idx a0 0) fun x1 =>
      Option.bind (loopO (slices_Max_int_int_L1 a0) (x1, 1)) fun x4 => some x4
noncomputable def c45 : Con D := ⟨45, [.lf (.sl 0)], [.lf (.int .i64)], [.one (.h 0 [0])], [], [.one (.h 0 [])], [], fun h => slices_Max_int_int h⟩
theorem c45_ok : ConOk Try.prog T c45 := fn_ok (Φ := []) (rs := [.tmp 2]) (an := (.n none .o (.n none .o (.n none .o (.n none (.n none .o (.n none (.loop ⟨[.lf (.int .i64), .lf (.int .i64)], [(3, .one (.h 0 [])), (4, .one (.h 1 []))], [], [], 2640⟩ true [(.exit 0, ⟨[.lf (.int .i64)], [(3, .one (.h 0 []))], [], [], 2640⟩)] .o) .o)) .o))))) pOk repOk (AllC.mem (l := []) trivial) hmix Try.call45 Try.func45 rfl rfl (by kernel_rfl) (fun h => by kernel_rfl)

noncomputable def disconnect_Left (a0 : (List Stage)) (a1 : Progress) : Option (Int × Bool) :=
  Option.bind
    (Option.bind (disconnect_Valid a0 a1) fun x1 =>
      if (!x1) = true then some true else Option.bind (disconnect_Stuck a1) fun x2 => some x2)
    fun x3 =>
    if x3 = true then some (0, false)
    else Option.bind (disconnect_ends a0 a1) fun x4 => Option.bind (slices_Max_int_int x4) fun x5 => some (x5, true)
noncomputable def c31 : Con D := ⟨31, [.lf (.sl 4), .lf (.int .i64), .lf (.sl 6)], [.lf (.int .i64), .lf .bool], [.agg [.h 0 [0]], .agg [.h 1 [], .h 2 [0]]], [], [.one (.h 0 []), .one (.h 1 [])], [], fun h => disconnect_Left h.1 ⟨h.2.1, h.2.2⟩⟩
theorem c31_ok : ConOk Try.prog T c31 := fn_ok (Φ := [c33, c37, c44, c45]) (rs := [.tmp 4, .tmp 5]) (an := (.n none .o (.n none (.n none (.r (some (true, [(.normal, ⟨[.lf .bool], [(13, .one (.h 0 []))], [], [], 2320⟩)])) .nil) .o) .o))) pOk repOk (AllC.mem (⟨c33_ok, c37_ok, c44_ok, c45_ok, trivial⟩ : AllC _ _ [c33, c37, c44, c45])) hmix Try.call31 Try.func31 rfl rfl (by kernel_rfl) (fun h => by kernel_rfl)

noncomputable def disconnect_Length (a0 : (List Stage)) : Option (Int) :=
  Option.bind (disconnect_New a0 0) fun x1 =>
    if (x1.2.1 != 0) = true then some 0
    else
      Option.bind (disconnect_ends a0 (Progress.mk x1.1 x1.2.2)) fun x2 =>
        Option.bind (slices_Max_int_int x2) fun x3 => some x3
noncomputable def c15 : Con D := ⟨15, [.lf (.sl 4)], [.lf (.int .i64)], [.agg [.h 0 [0]]], [], [.one (.h 0 [])], [], fun h => disconnect_Length h⟩
theorem c15_ok : ConOk Try.prog T c15 := fn_ok (Φ := [c27, c44, c45]) (rs := [.tmp 2]) (an := .o) pOk repOk (AllC.mem (⟨c27_ok, c44_ok, c45_ok, trivial⟩ : AllC _ _ [c27, c44, c45])) hmix Try.call15 Try.func15 rfl rfl (by kernel_rfl) (fun h => by kernel_rfl)

noncomputable def slices_Clone_int_int (a0 : (List Int)) : Option ((List Int)) := app [] a0
noncomputable def c48 : Con D := ⟨48, [.lf (.sl 0)], [.lf (.sl 0)], [.one (.h 0 [0])], [], [.one (.own 1000)], [(1000, .sl 0 3 0 [])], fun h => slices_Clone_int_int h⟩
theorem c48_ok : ConOk Try.prog T c48 := by
  refine ⟨Try.call48, rfl, rfl, rfl, rfl, fun xs0 r0 hr0 avs obs has hobs γ w vs hv _ => ?_⟩
  cases has
  match vs, hv with
  | [], hv => exact hv.elim
  | _ :: _ :: _, hv => exact hv.2.elim
  | [v], hv =>
  obtain ⟨xs, hxs⟩ : ∃ xs : List (D 0), xs = xs0 := ⟨_, rfl⟩
  obtain ⟨r, hrr⟩ : ∃ r : List (D 0), r = r0 := ⟨_, rfl⟩
  have g0 : Rv (In γ.o [0]) w v xs := by rw [hxs]; exact hv.1.1
  have hr : app ([] : List (D 0)) xs = some r := by rw [hxs, hrr]; exact hr0
  subst hrr
  have hT := slr22.2
  refine enter (l := [v]) Try.func48 rfl Try.ntmps48 rfl ?_
  refine CW.sub (L' := [(0, v)]) ⟨rfl, trivial⟩ ?_
  refine CW.sr fun K1 hK1 => ?_
  refine WL.p (.slice none 0 0) rfl rfl ?_
  refine WL.nx hK1 ?_
  refine CW.seq fun K2 hK2 => ?_
  refine CW.sr fun K3 hK3 => ?_
  refine WL.p v rfl rfl ?_
  obtain ⟨a, m, q, rfl, hn⟩ := rvSlice g0
  refine WL.stepE (OW.isNil slr22.1 rfl) rfl ?_
  refine WL.nx hK3 ?_
  cases a with
  | none =>
    refine CW.cond (b := true) rfl (fun _ => ?_) (fun h => nomatch h)
    refine CW.sr fun K4 hK4 => ?_
    refine WL.p (.slice none 0 0) rfl rfl ?_
    refine WL.nx hK4 ?_
    rw [hn rfl] at hr
    obtain rfl := app_nil hr
    exact CW.rets (vs := [.slice none 0 0]) Try.results48 ⟨rfl, trivial⟩ ⟨_, rfl, end_own (n := 0) (e := 3) (q := 1000) (K := []) (M := []) (N := []) rfl rfl rfl (by simp) (by simp) (Evo.refl _ _ γ.o w) (Ow.nil _ _ _ _ _) (fun x hx => by simp at hx <;> omega)⟩ (fun _ _ h => h)
  | some a =>
    refine CW.cond (b := false) rfl (fun h => nomatch h) (fun _ => ?_)
    refine CW.skip ?_
    refine hK2 _ _ ?_
    refine CW.sr fun K5 hK5 => ?_
    refine WL.step (OW.buildSlice (o := γ.o) (k := 1000) (K := []) (xs := ([] : List (D 0))) slr22.1 hT rfl trivial rfl rfl) rfl ?_
    rintro v1 w1 ⟨o1, ev1, h1⟩
    have g0 := g0.evo ev1 rfl
    refine WL.p (.slice (some a) m q) rfl rfl ?_
    refine WL.step (OW.append (K := []) slr22.1 hT rfl rfl h1 (@Els.flat (D 0) _ flat0 _ _ _ _ _ g0.els) hr rfl) rfl ?_
    rintro v2 w2 ⟨o2, ev2, h2⟩
    refine WL.p v2 rfl rfl ?_
    refine WL.nx hK5 ?_
    exact CW.rets (vs := [v2]) Try.results48 ⟨rfl, trivial⟩ ⟨_, rfl, end_own (n := 0) (e := 3) (q := 1000) (K := []) (M := [1000]) (N := [1000]) rfl rfl rfl (by simp) (by simp) ((ev1.weaken (by simp) (by simp)).trans ev2) h2 (fun x hx => by simp at hx <;> omega)⟩ (fun _ _ h => h)

noncomputable def slices_Insert_int_int (a0 : (List Int)) (a1 : Int) (a2 : (List Int)) : Option ((List Int)) := insO a0 a1 a2
noncomputable def c47 : Con D := ⟨47, [.lf (.sl 0), .lf (.int .i64), .lf (.sl 0)], [.lf (.sl 0)], [.one (.own 1000), .one (.h 1 []), .one (.own 1001)], [(1000, .sl 0 3 0 []), (1001, .sl 0 3 2 [])], [.one (.own 1002)], [(1002, .sl 0 3 0 [])], fun h => slices_Insert_int_int h.1 h.2.1 h.2.2⟩

theorem c47_ok : ConOk Try.prog T c47 := by
  refine ⟨Try.call47, rfl, rfl, rfl, rfl, fun h0 r0 hr0 avs obs has hobs γ w vs hv hO => ?_⟩
  cases has
  cases hobs
  match vs, hv with
  | [], hv => exact hv.elim
  | [_], hv => exact hv.2.elim
  | [_, _], hv => exact hv.2.2.elim
  | _ :: _ :: _ :: _ :: _, hv => exact hv.2.2.2.elim
  | [v1, v2, v3], hv =>
  obtain ⟨xs, hxs⟩ : ∃ xs : List (D 0), xs = h0.1 := ⟨_, rfl⟩
  obtain ⟨iz, hiz⟩ : ∃ iz : Int, iz = h0.2.1 := ⟨_, rfl⟩
  obtain ⟨ys, hys⟩ : ∃ ys : List (D 0), ys = h0.2.2 := ⟨_, rfl⟩
  obtain ⟨r, hrr⟩ : ∃ r : List (D 0), r = r0 := ⟨_, rfl⟩
  have hr : insO xs iz ys = some r := by rw [hxs, hiz, hys, hrr]; exact hr0
  have g1 : Ow 3 γ.o 1000 [0] w v1 xs := by rw [hxs, hv.1.2.1]; exact (hO.ob 1000 _ rfl).2.2.1
  have g3 : Ow 3 γ.o 1001 [0] w v3 ys := by rw [hys, hv.2.2.1.2.1]; exact (hO.ob 1001 _ rfl).2.2.1
  have g2 : v2 = .int .i64 iz := by rw [hiz]; exact hv.2.1.1
  subst hrr
  clear hr0 hv hO hxs hiz hys
  haveI : Flat (D 0) := flat0
  have hT := slr22.2
  have hu := slr22.1
  obtain ⟨b1, b2, b3, b4, b5, rfl⟩ := ins_some hr
  obtain ⟨q, rfl⟩ : ∃ q : Nat, iz = (q : Int) := ⟨iz.toNat, by omega⟩
  have hq : q ≤ xs.length := by omega
  have hm : 0 < ys.length := List.length_pos_iff.2 b3
  obtain ⟨p, cap, rfl, hnc, hcm⟩ := Ow.shape g1
  obtain ⟨bv, capv, rfl⟩ := Ow.shape1 g3 b3
  subst g2
  have hcm' : cap ≤ maxLen := hcm
  have hWn : W ((xs.length : Int) + (ys.length : Int)) = ((xs.length + ys.length : Nat) : Int) := by rw [W_in (by omega) (by omega)]; omega
  have hWq : W ((q : Int) + (ys.length : Int)) = ((q + ys.length : Nat) : Int) := by rw [W_in (by omega) (by omega)]; omega
  refine enter (l := [.slice p xs.length cap, .int .i64 q, .slice (some ⟨bv, 0, none⟩) ys.length capv]) Try.func47 rfl Try.ntmps47 rfl ?_
  refine CW.sub (L' := [(0, .slice p xs.length cap), (1, .int .i64 q), (2, .slice (some ⟨bv, 0, none⟩) ys.length capv)]) ⟨rfl, rfl, rfl, trivial⟩ ?_
  refine CW.sr fun K0 hK0 => ?_
  refine WL.p (.slice none 0 0) rfl rfl ?_
  refine WL.nx hK0 ?_
  refine CW.sr fun K1 hK1 => ?_
  refine WL.p (.slice p xs.length cap) rfl rfl ?_
  refine WL.p (.int .i64 q) rfl rfl ?_
  refine WL.stepP (OW.tlAny hu hT rfl rfl hq hnc) rfl fun _ _ => ?_
  refine WL.nx hK1 ?_
  refine CW.sr fun K2 hK2 => ?_
  refine WL.p (.slice (some ⟨bv, 0, none⟩) ys.length capv) rfl rfl ?_
  refine WL.stepE (OW.lenHead hu rfl) rfl ?_
  refine WL.p (.int .i64 ys.length) rfl rfl ?_
  refine WL.nx hK2 ?_
  refine CW.seq fun K3 hK3 => ?_
  refine CW.sr fun K4 hK4 => ?_
  refine WL.p (.int .i64 ys.length) rfl rfl ?_
  refine WL.pe (v' := .bool false) rfl (congrArg Value.bool (beq_eq_false_iff_ne.2 (by omega))) rfl ?_
  refine WL.nx hK4 ?_
  refine CW.cond (b := false) rfl (fun h => nomatch h) (fun _ => ?_)
  refine CW.skip ?_
  refine hK3 _ _ ?_
  refine CW.sr fun K5 hK5 => ?_
  refine WL.p (.slice p xs.length cap) rfl rfl ?_
  refine WL.stepE (OW.lenHead hu rfl) rfl ?_
  refine WL.p (.int .i64 xs.length) rfl rfl ?_
  refine WL.nx hK5 ?_
  refine CW.seq fun K6 hK6 => ?_
  refine CW.sr fun K7 hK7 => ?_
  refine WL.p (.int .i64 q) rfl rfl ?_
  refine WL.p (.int .i64 xs.length) rfl rfl ?_
  by_cases hqn : q = xs.length
  · refine WL.pe (v' := .bool true) rfl (congrArg Value.bool (beq_iff_eq.2 (by omega))) rfl ?_
    refine WL.nx hK7 ?_
    refine CW.cond (b := true) rfl (fun _ => ?_) (fun h => nomatch h)
    refine CW.sr fun K8 hK8 => ?_
    refine WL.p (.slice p xs.length cap) rfl rfl ?_
    refine WL.p (.slice (some ⟨bv, 0, none⟩) ys.length capv) rfl rfl ?_
    refine WL.step (OW.append (K := [0]) hu hT rfl rfl g1 g3.els b4 rfl) rfl ?_
    rintro v' w' ⟨o', ev, how⟩
    refine WL.p v' rfl rfl ?_
    refine WL.nx hK8 ?_
    have hres : xs.take (q : Int).toNat ++ ys ++ xs.drop (q : Int).toNat = xs ++ ys := by
      rw [Int.toNat_natCast, hqn, List.take_length, List.drop_length, List.append_nil]
    rw [← hres] at how
    exact CW.rets (vs := [v']) Try.results47 ⟨rfl, trivial⟩ ⟨_, rfl, end_row (n := 0) (e := 3) (q := 1002) (k := 1000) (K := []) (M := [1000]) (N := [1000]) rfl rfl rfl (by omega) (by omega) (by simp) (by simp) ev how (fun x hx => by simp at hx)⟩ (fun _ _ h => h)
  refine WL.pe (v' := .bool false) rfl (congrArg Value.bool (beq_eq_false_iff_ne.2 (by omega))) rfl ?_
  refine WL.nx hK7 ?_
  refine CW.cond (b := false) rfl (fun h => nomatch h) (fun _ => ?_)
  refine CW.skip ?_
  refine hK6 _ _ ?_
  obtain ⟨b, rfl⟩ := Ow.block g1 (fun h => by rw [h] at hq hqn; simp at hq hqn; omega)
  obtain ⟨c1, c2, S, r1, r2, r3, r4, r5, r6, r7, _, _, _⟩ := Ow.split g1 hq
  obtain ⟨z1, cv, Sv, s1, s2, s3, s4, s5, s6, s7, _, _, _⟩ := Ow.split g3 (Nat.zero_le _)
  have hz1 : z1.flatten = [] := List.eq_nil_of_length_eq_zero (by rw [s4]; omega)
  rw [hz1] at s1
  rw [List.drop_zero] at s3
  have hbv : bv ≠ b := fun h => by rw [h, r7] at s7; cases s7
  have hbl : b < w.heap.size := (Array.getElem?_eq_some_iff.1 r1).1
  have hbvl : bv < w.heap.size := (Array.getElem?_eq_some_iff.1 s1).1
  have hsz : 0 < Rep.sz (D 0) := Rep.pos
  have hcv : cv.flatten.length = min ys.length (xs.length + ys.length - q) * Rep.sz (D 0) := by rw [s5, Nat.min_eq_left (by omega)]; rfl
  have hqt : ((q : Int)).toNat = q := Int.toNat_natCast q
  have hfin : All2 (Rep.rd (In γ.o [0]) w) (c1 ++ cv ++ c2) (xs.take (q : Int).toNat ++ ys ++ xs.drop (q : Int).toNat) := by rw [hqt]; exact (r2.append s3).append r3
  have hlen : (xs.take (q : Int).toNat ++ ys ++ xs.drop (q : Int).toNat).length = xs.length + ys.length := by rw [hqt]; simp; omega
  refine CW.seq fun K9 hK9 => ?_
  refine CW.sr fun K10 hK10 => ?_
  refine WL.p (.int .i64 xs.length) rfl rfl ?_
  refine WL.p (.int .i64 ys.length) rfl rfl ?_
  refine WL.pe (v' := .int .i64 ((xs.length + ys.length : Nat) : Int)) rfl (congrArg _ hWn) rfl ?_
  refine WL.p (.slice (some ⟨b, 0, none⟩) xs.length cap) rfl rfl ?_
  refine WL.stepE (OW.cap hu rfl hcm) rfl ?_
  by_cases hg : cap < xs.length + ys.length
  · refine WL.pe (v' := .bool true) rfl (congrArg Value.bool (decide_eq_true (by omega))) rfl ?_
    refine WL.nx hK10 ?_
    refine CW.cond (b := true) rfl (fun _ => ?_) (fun h => nomatch h)
    refine CW.sr fun K11 hK11 => ?_
    refine WL.p (.slice (some ⟨b, 0, none⟩) xs.length cap) rfl rfl ?_
    refine WL.p (.int .i64 q) rfl rfl ?_
    refine WL.stepE (OW.pre hu hT rfl rfl (by omega)) rfl ?_
    refine WL.p (.int .i64 xs.length) rfl rfl ?_
    refine WL.p (.int .i64 ys.length) rfl rfl ?_
    refine WL.pe (v' := .int .i64 ((xs.length + ys.length : Nat) : Int)) rfl (congrArg _ hWn) rfl ?_
    refine WL.p (.int .i64 q) rfl rfl ?_
    refine WL.pe (v' := .int .i64 ((xs.length + ys.length - q : Nat) : Int)) rfl (congrArg _ (by rw [W_in (by omega) (by omega)]; omega)) rfl ?_
    refine WL.step (OW.appZ (A := c1.flatten) (B := c2.flatten ++ S) hu hT Try.underlying3 rfl rfl (by rw [← List.append_assoc]; exact r1) r4 (by omega) (by omega) (by omega)) rfl ?_
    rintro v' w' ⟨G, Z, rfl, hG1, hG2, hZ, rfl⟩
    rw [show q + (xs.length + ys.length - q) = xs.length + ys.length by omega] at hG1 ⊢
    obtain ⟨Y, X, S2, rfl, hY, hX, hS2⟩ := cut3 Z (ys.length * Rep.sz (D 0)) ((xs.length - q) * Rep.sz (D 0)) (by rw [hZ, ← Nat.add_mul]; exact Nat.mul_le_mul_right _ (by omega))
    refine WL.p (.slice (some ⟨w.heap.size, 0, none⟩) (xs.length + ys.length) G) rfl rfl ?_
    refine WL.nx hK11 ?_
    obtain ⟨w1, hw1⟩ : ∃ w1, w1 = w.drew.alloc (.cells (c1.flatten ++ (Y ++ X ++ S2)).toArray 3) := ⟨_, rfl⟩
    rw [← hw1]
    have hN1 : w1.heap[w.heap.size]? = some (.cells (c1.flatten ++ Y ++ (X ++ S2)).toArray 3 (0, 0)) := by rw [hw1, show c1.flatten ++ Y ++ (X ++ S2) = c1.flatten ++ (Y ++ X ++ S2) by simp only [List.append_assoc]]; exact heap_alloc_new w.drew _
    have hO1 : ∀ x, x < w.heap.size → w1.heap[x]? = w.heap[x]? := fun x hx => by rw [hw1]; exact Below.heap_alloc w.drew _ x hx
    have ev1 : Evo [] [1000] γ.o w (grow γ.o w 1000) w1 := by rw [hw1]; exact Evo.fresh 1000 ((Below.refl _ _).drew.alloc (Nat.le_refl _) _)
    refine CW.sr fun K12 hK12 => ?_
    refine WL.p (.slice (some ⟨w.heap.size, 0, none⟩) (xs.length + ys.length) G) rfl rfl ?_
    refine WL.p (.int .i64 q) rfl rfl ?_
    refine WL.stepE (OW.tl hu hT rfl rfl (by omega) hG1 (by omega)) rfl ?_
    refine WL.p (.slice (some ⟨bv, 0, none⟩) ys.length capv) rfl rfl ?_
    refine WL.step (OW.copyRow (A := c1.flatten) (X := Y) (B := X ++ S2) (src := cv.flatten) hu hT rfl rfl hN1 r4 (by rw [hY, s5]; rfl) hcv (row_cells (A := []) (B := Sv) (by rw [hO1 _ hbvl]; exact s1) rfl) (oneCells s3)) rfl ?_
    rintro v2 w2 hw2
    have hN2 : w2.heap[w.heap.size]? = some (.cells (c1.flatten ++ cv.flatten ++ X ++ S2).toArray 3 (0, 0)) := by rw [hw2, List.append_assoc _ X S2]; exact setRow_heap _ _ _ _ _ _ hN1
    have hO2 : ∀ x, x < w.heap.size → w2.heap[x]? = w.heap[x]? := fun x hx => by rw [hw2, setRow_other _ _ _ _ (by omega)]; exact hO1 x hx
    have ev2 : Evo [1000] [1000] γ.o w (grow γ.o w 1000) w2 := by rw [hw2]; exact (ev1.weaken (by simp) (by simp)).trans (evo_row _ (grow_new _ _ _ _ (Nat.le_refl _)))
    clear hw2 hw1 hO1 ev1
    refine WL.nx hK12 ?_
    refine CW.seq fun K13 hK13 => ?_
    refine CW.draw hmix 8 [46, 47, 48, 49, 50, 51, 52, 53] [.slice (some ⟨w.heap.size, 0, none⟩) (xs.length + ys.length) G, .int .i64 q, .int .i64 ys.length, .int .i64 ((q + ys.length : Nat) : Int), .slice (some ⟨w.heap.size, (q + ys.length) * Rep.sz (D 0), none⟩) (xs.length + ys.length - (q + ys.length)) (G - (q + ys.length)), .slice (some ⟨b, 0, none⟩) xs.length cap, .int .i64 q, .slice (some ⟨b, q * Rep.sz (D 0), none⟩) (xs.length - q) (cap - q)] rfl rfl ⟨OW.pv rfl, OW.pv rfl, OW.pv rfl, OW.pvE rfl (congrArg _ hWq), OW.tl hu hT rfl rfl (by omega) hG1 (by omega), OW.pv rfl, OW.pv rfl, OW.tl hu hT rfl rfl hq hnc (by omega), trivial⟩ ?_
    refine WL.step (OW.copyRow (A := c1.flatten ++ cv.flatten) (X := X) (B := S2) (src := c2.flatten) hu hT rfl rfl hN2 (by rw [List.length_append, r4, s5, ← Nat.add_mul]; rfl) (by rw [hX, r5]) (by rw [r5]; congr 1; rw [Nat.min_eq_left] <;> omega) (row_cells (A := c1.flatten) (B := S) (by rw [show w2.drew.heap = w2.heap from rfl, hO2 _ hbl]; exact r1) r4) (oneCells r3)) rfl ?_
    rintro v3 w3 hw3
    have hN3 : w3.heap[w.heap.size]? = some (.cells ((c1 ++ cv ++ c2).flatten ++ S2).toArray 3 (0, 0)) := by rw [hw3, List.flatten_append, List.flatten_append]; exact setRow_heap w2.drew _ _ _ _ _ hN2
    have ev3 : Evo [1000] [1000] γ.o w (grow γ.o w 1000) w3 := by rw [hw3]; exact ev2.trans (evo_drew (evo_row _ (grow_new _ _ _ _ (Nat.le_refl _))))
    refine WL.nx hK13 ?_
    refine CW.sr fun K14 hK14 => ?_
    refine WL.p (.slice (some ⟨w.heap.size, 0, none⟩) (xs.length + ys.length) G) rfl rfl ?_
    refine WL.p (.slice (some ⟨w.heap.size, 0, none⟩) (xs.length + ys.length) G) rfl rfl ?_
    refine WL.nx hK14 ?_
    have how : Ow 3 (grow γ.o w 1000) 1000 [] w3 (.slice (some ⟨w.heap.size, 0, none⟩) (xs.take (q : Int).toNat ++ ys ++ xs.drop (q : Int).toNat).length G) (xs.take (q : Int).toNat ++ ys ++ xs.drop (q : Int).toNat) :=
      Ow.of_row hN3 (grow_new _ _ _ _ (Nat.le_refl _)) hfin (by rw [hlen]; exact hG1) hG2 (by rw [hS2, hlen, ← Nat.add_mul, show (Y ++ X ++ S2).length = (G - q) * Rep.sz (D 0) from hZ, ← Nat.sub_mul]; congr 1; omega)
    rw [hlen] at how
    exact CW.rets (vs := [.slice (some ⟨w.heap.size, 0, none⟩) (xs.length + ys.length) G]) Try.results47 ⟨rfl, trivial⟩ ⟨_, rfl, end_row (n := 0) (e := 3) (q := 1002) (k := 1000) (K := []) (M := [1000]) (N := [1000]) rfl rfl rfl (by omega) (by omega) (by simp) (by simp) ev3 how (fun x hx => by simp at hx)⟩ (fun _ _ h => h)
  refine WL.pe (v' := .bool false) rfl (congrArg Value.bool (decide_eq_false (by omega))) rfl ?_
  refine WL.nx hK10 ?_
  refine CW.cond (b := false) rfl (fun h => nomatch h) (fun _ => ?_)
  refine CW.skip ?_
  refine hK9 _ _ ?_
  obtain ⟨Y, X, S2, hS, hY, hX, hS2⟩ := cut3 (c2.flatten ++ S) (ys.length * Rep.sz (D 0)) ((xs.length - q) * Rep.sz (D 0)) (by rw [List.length_append, r5, r6, ← Nat.add_mul, ← Nat.add_mul]; exact Nat.mul_le_mul_right _ (by omega))
  have hrow : c1.flatten ++ c2.flatten ++ S = c1.flatten ++ Y ++ X ++ S2 := by rw [List.append_assoc, hS]; simp only [List.append_assoc]
  refine CW.sr fun K15 hK15 => ?_
  refine WL.p (.slice (some ⟨b, 0, none⟩) xs.length cap) rfl rfl ?_
  refine WL.p (.int .i64 xs.length) rfl rfl ?_
  refine WL.p (.int .i64 ys.length) rfl rfl ?_
  refine WL.pe (v' := .int .i64 ((xs.length + ys.length : Nat) : Int)) rfl (congrArg _ hWn) rfl ?_
  refine WL.stepE (OW.pre hu hT rfl rfl (by omega)) rfl ?_
  refine WL.p (.slice (some ⟨b, 0, none⟩) (xs.length + ys.length) cap) rfl rfl ?_
  refine WL.nx hK15 ?_
  refine CW.seq fun K16 hK16 => ?_
  refine CW.sr fun K17 hK17 => ?_
  refine WL.p (.slice (some ⟨bv, 0, none⟩) ys.length capv) rfl rfl ?_
  refine WL.p (.slice (some ⟨b, 0, none⟩) (xs.length + ys.length) cap) rfl rfl ?_
  refine WL.p (.int .i64 q) rfl rfl ?_
  refine WL.p (.int .i64 ys.length) rfl rfl ?_
  refine WL.pe (v' := .int .i64 ((q + ys.length : Nat) : Int)) rfl (congrArg _ hWq) rfl ?_
  refine WL.stepE (OW.tl hu hT rfl rfl (by omega) (by omega) (by omega)) rfl ?_
  refine WL.stepE (OW.overlaps (f := 67) (fn := Try.f67) (tR := 4) hu hT Try.func67 rfl rfl rfl rfl rfl rfl hbv s1 r1 (by simp only [List.size_toArray, List.length_append, r4, r5, r6, ← Nat.add_mul]; exact Nat.ne_of_gt (Nat.mul_pos (by omega) hsz))) rfl ?_
  refine WL.p (.bool true) rfl rfl ?_
  refine WL.nx hK17 ?_
  refine CW.cond (b := true) rfl (fun _ => ?_) (fun h => nomatch h)
  rw [hrow] at r1
  refine CW.seq fun K18 hK18 => ?_
  refine CW.draw hmix 8 [69, 70, 71, 72, 73, 74, 75, 76] [.slice (some ⟨b, 0, none⟩) (xs.length + ys.length) cap, .int .i64 q, .int .i64 ys.length, .int .i64 ((q + ys.length : Nat) : Int), .slice (some ⟨b, (q + ys.length) * Rep.sz (D 0), none⟩) (xs.length + ys.length - (q + ys.length)) (cap - (q + ys.length)), .slice (some ⟨b, 0, none⟩) (xs.length + ys.length) cap, .int .i64 q, .slice (some ⟨b, q * Rep.sz (D 0), none⟩) (xs.length + ys.length - q) (cap - q)] rfl rfl ⟨OW.pv rfl, OW.pv rfl, OW.pv rfl, OW.pvE rfl (congrArg _ hWq), OW.tl hu hT rfl rfl (by omega) (by omega) (by omega), OW.pv rfl, OW.pv rfl, OW.tl hu hT rfl rfl (by omega) (by omega) (by omega), trivial⟩ ?_
  refine WL.step (OW.copyRow (A := c1.flatten ++ Y) (X := X) (B := S2) (src := c2.flatten) hu hT rfl rfl r1 (by rw [List.length_append, r4, hY, ← Nat.add_mul]) (by rw [hX, r5]) (by rw [r5]; congr 1; rw [Nat.min_eq_right] <;> omega) (row_cells (A := c1.flatten) (B := S) (by rw [← hrow] at r1; exact r1) r4) (oneCells r3)) rfl ?_
  rintro v2 w2 hw2
  have hN2 : w2.heap[b]? = some (.cells (c1.flatten ++ Y ++ (c2.flatten ++ S2)).toArray 3 (0, 0)) := by rw [hw2, ← List.append_assoc]; exact setRow_heap w.drew _ _ _ _ _ r1
  have hV2 : w2.heap[bv]? = w.heap[bv]? := by rw [hw2]; exact setRow_other w.drew _ _ _ hbv
  have ev2 : Evo [1000] [1000] γ.o w γ.o w2 := by rw [hw2]; exact evo_drew (evo_row _ r7)
  clear hw2
  refine WL.nx hK18 ?_
  refine CW.sr fun K19 hK19 => ?_
  refine WL.p (.slice (some ⟨b, 0, none⟩) (xs.length + ys.length) cap) rfl rfl ?_
  refine WL.p (.int .i64 q) rfl rfl ?_
  refine WL.stepE (OW.tl hu hT rfl rfl (by omega) (by omega) (by omega)) rfl ?_
  refine WL.p (.slice (some ⟨bv, 0, none⟩) ys.length capv) rfl rfl ?_
  refine WL.step (OW.copyRow (A := c1.flatten) (X := Y) (B := c2.flatten ++ S2) (src := cv.flatten) hu hT rfl rfl hN2 r4 (by rw [hY, s5]; rfl) hcv (row_cells (A := []) (B := Sv) (by rw [hV2]; exact s1) rfl) (oneCells s3)) rfl ?_
  rintro v3 w3 hw3
  have hN3 : w3.heap[b]? = some (.cells ((c1 ++ cv ++ c2).flatten ++ S2).toArray 3 (0, 0)) := by rw [hw3, List.flatten_append, List.flatten_append, List.append_assoc _ c2.flatten S2]; exact setRow_heap _ _ _ _ _ _ hN2
  have ev3 : Evo [1000] [1000] γ.o w γ.o w3 := by rw [hw3]; exact ev2.trans (evo_row _ r7)
  refine WL.nx hK19 ?_
  refine CW.sr fun K20 hK20 => ?_
  refine WL.p (.slice (some ⟨b, 0, none⟩) (xs.length + ys.length) cap) rfl rfl ?_
  refine WL.p (.slice (some ⟨b, 0, none⟩) (xs.length + ys.length) cap) rfl rfl ?_
  refine WL.nx hK20 ?_
  have how : Ow 3 γ.o 1000 [] w3 (.slice (some ⟨b, 0, none⟩) (xs.take (q : Int).toNat ++ ys ++ xs.drop (q : Int).toNat).length cap) (xs.take (q : Int).toNat ++ ys ++ xs.drop (q : Int).toNat) :=
    Ow.of_row hN3 r7 hfin (by rw [hlen]; omega) hcm (by rw [hS2, hlen, List.length_append, r5, r6, ← Nat.add_mul, ← Nat.add_mul, ← Nat.sub_mul]; congr 1; omega)
  rw [hlen] at how
  exact CW.rets (vs := [.slice (some ⟨b, 0, none⟩) (xs.length + ys.length) cap]) Try.results47 ⟨rfl, trivial⟩ ⟨_, rfl, end_row (n := 0) (e := 3) (q := 1002) (k := 1000) (K := []) (M := [1000]) (N := [1000]) rfl rfl rfl (by omega) (by omega) (by simp) (by simp) ev3 how (fun x hx => by simp at hx)⟩ (fun _ _ h => h)

noncomputable def cmp_isNaN_int (a0 : Int) : Option (Bool) := some (a0 != a0)
noncomputable def c76 : Con D := ⟨76, [.lf (.int .i64)], [.lf .bool], [.one (.h 0 [])], [], [.one (.h 0 [])], [], fun h => cmp_isNaN_int h⟩
theorem c76_ok : ConOk Try.prog T c76 := fn_ok (Φ := []) (rs := [.tmp 2]) (an := .o) pOk repOk (AllC.mem (l := []) trivial) hmix Try.call76 Try.func76 rfl rfl (by kernel_rfl) (fun h => by kernel_rfl)

noncomputable def cmp_Compare_int (a0 : Int) (a1 : Int) : Option (Int) :=
  Option.bind (cmp_isNaN_int a0) fun x1 =>
    Option.bind (cmp_isNaN_int a1) fun x2 =>
      if x1 = true then if x2 = true then some 0 else some (-1)
      else
        if x2 = true then some 1
        else
          if decide (a0 < a1) = true then some (-1)
          else if decide (a0 > a1) = true then some 1 else some 0
noncomputable def c69 : Con D := ⟨69, [.lf (.int .i64), .lf (.int .i64)], [.lf (.int .i64)], [.one (.h 0 []), .one (.h 1 [])], [], [.one (.h 0 [])], [], fun h => cmp_Compare_int h.1 h.2⟩
theorem c69_ok : ConOk Try.prog T c69 := fn_ok (Φ := [c76]) (rs := [.tmp 4]) (an := .o) pOk repOk (AllC.mem (⟨c76_ok, trivial⟩ : AllC _ _ [c76])) hmix Try.call69 Try.func69 rfl rfl (by kernel_rfl) (fun h => by kernel_rfl)

noncomputable def slices_Compare_int_int_L1 (a0 : List
  Int) (a1 : List
  Int) : Int →
  Option
    (Int ⊕
      Unit ⊕
        Int) := fun x1 =>
  if decide (x1 < len a0) = true then
    Option.bind (idx a0 x1) fun x2 =>
      if decide (x1 ≥ len a1) = true then some (.inr (.inr 1))
      else
        Option.bind (idx a1 x1) fun x3 =>
          Option.bind (cmp_Compare_int x2 x3) fun x4 =>
            if (x4 != 0) = true then some (.inr (.inr x4)) else some (.inl (W (x1 + 1)))
  else some (.inr (.inl ()))
noncomputable def slices_Compare_int_int (a0 : (List Int)) (a1 : (List Int)) : Option (Int) :=
  Option.bind (loopO (slices_Compare_int_int_L1 a0 a1) 0) fun x5 =>
    Sum.elim (fun x6 => if decide (len a0 < len a1) = true then some (-1) else some 0)
      (fun x7 => some x7) x5
noncomputable def c49 : Con D := ⟨49, [.lf (.sl 0), .lf (.sl 0)], [.lf (.int .i64)], [.one (.h 0 [0]), .one (.h 1 [0])], [], [.one (.h 0 [])], [], fun h => slices_Compare_int_int h.1 h.2⟩
theorem c49_ok : ConOk Try.prog T c49 := fn_ok (Φ := [c69]) (rs := [.tmp 4]) (an := (.n none .o (.n none (.n none .o (.n none (.loop ⟨[.lf (.int .i64)], [(11, .one (.h 0 []))], [], [], 2320⟩ false [(.exit 0, ⟨[], [], [], [], 2320⟩)] .o) .o)) .o))) pOk repOk (AllC.mem (⟨c69_ok, trivial⟩ : AllC _ _ [c69])) hmix Try.call49 Try.func49 rfl rfl (by kernel_rfl) (fun h => by kernel_rfl)

noncomputable def disconnect_Path_1_v3_L1 (F : (Int) → ((List Int)) → ((List Int)) → ((List Stage)) → ((List Int)) → (Bool) → Option ((List Int) × (List Int) × (List Stage) × (List Int) × Bool)) (x3 : Int) (x4 : Stage) (x5 : Stage) : Int ×
    List Int × List Stage × List Int × Bool × List Int →
  Option
    (Int × List Int × List Stage × List Int × Bool × List Int ⊕
      List Int ×
        List Stage ×
          List Int ×
            Bool ×
              List
                Int) := fun x6 =>
  if decide (x6.1 < len x5.Needs) = true then
    Option.bind (idx x5.Needs x6.1) fun x7 =>
      Option.bind (idx x6.2.1 x7) fun x8 =>
        Option.bind
          (if (x8 == W (x3 - x4.Ticks)) = true then
            Option.bind
              (F x7 x6.2.2.2.2.2 x6.2.1 x6.2.2.1 x6.2.2.2.1
                x6.2.2.2.2.1)
              fun x9 => some (x9.2.1, x9.2.2.1, x9.2.2.2.1, x9.2.2.2.2, x9.1)
          else some (x6.2.1, x6.2.2.1, x6.2.2.2.1, x6.2.2.2.2.1, x6.2.2.2.2.2))
          fun x10 =>
          some
            (.inl
              (W (x6.1 + 1), x10.1, x10.2.1, x10.2.2.1, x10.2.2.2.1,
                x10.2.2.2.2))
  else some (.inr (x6.2.1, x6.2.2.1, x6.2.2.2.1, x6.2.2.2.2.1, x6.2.2.2.2.2))
noncomputable def disconnect_Path_1_v3_S (F : (Int) → ((List Int)) → ((List Int)) → ((List Stage)) → ((List Int)) → (Bool) → Option ((List Int) × (List Int) × (List Stage) × (List Int) × Bool)) (a0 : Int) (a1 : (List Int)) (a2 : (List Int)) (a3 : (List Stage)) (a4 : (List Int)) (a5 : Bool) : Option ((List Int) × (List Int) × (List Stage) × (List Int) × Bool) :=
  Option.bind (slices_Clone_int_int a1) fun x1 =>
    Option.bind (slices_Insert_int_int x1 0 [a0]) fun x2 =>
      Option.bind (idx a2 a0) fun x3 =>
        Option.bind (idx a3 a0) fun x4 =>
          if (W (x3 - x4.Ticks) == 0) = true then
            Option.bind
              (if a5 = true then some true
              else Option.bind (slices_Compare_int_int x2 a4) fun x12 => some (decide (x12 < 0)))
              fun x13 =>
              Option.bind (if x13 = true then Option.bind (neO x2) fun x14 => some (x2, false) else some (a4, a5))
                fun x15 => some (a1, a2, a3, x15.1, x15.2)
          else
            Option.bind (idx a3 a0) fun x5 =>
              Option.bind (loopO (disconnect_Path_1_v3_L1 F x3 x4 x5) (0, a2, a3, a4, a5, x2)) fun x11 =>
                some (a1, x11.1, x11.2.1, x11.2.2.1, x11.2.2.2.1)
/-- it calls itself: of so many calls below one another -/
noncomputable def disconnect_Path_1_v3_R (n : Nat) : (Int) → ((List Int)) → ((List Int)) → ((List Stage)) → ((List Int)) → (Bool) → Option ((List Int) × (List Int) × (List Stage) × (List Int) × Bool) := Nat.rec (motive := fun _ => (Int) → ((List Int)) → ((List Int)) → ((List Stage)) → ((List Int)) → (Bool) → Option ((List Int) × (List Int) × (List Stage) × (List Int) × Bool)) (fun _ _ _ _ _ _ => none) (fun _ F => disconnect_Path_1_v3_S F) n
noncomputable def disconnect_Path_1_v3 (a0 : Int) (a1 : (List Int)) (a2 : (List Int)) (a3 : (List Stage)) (a4 : (List Int)) (a5 : Bool) : Option ((List Int) × (List Int) × (List Stage) × (List Int) × Bool) := disconnect_Path_1_v3_R 64 a0 a1 a2 a3 a4 a5
noncomputable def c46_3_k (n : Nat) : Con D := ⟨46, [.lf (.int .i64), .lf (.sl 0), .lf (.sl 0), .lf (.sl 4), .lf (.sl 0), .lf .bool], [.lf (.sl 0), .lf (.sl 0), .lf (.sl 4), .lf (.sl 0), .lf .bool], [.one (.h 0 []), .one (.own 1000), .one (.ptr 1001 0), .one (.ptr 1003 0), .one (.ptr 1005 0), .one (.ptr 1006 0)], [(1000, .sl 0 3 1 []), (1001, .box [.own 1002]), (1002, .sl 0 3 2 []), (1003, .box [.own 1004]), (1004, .sl 4 34 3 [0]), (1005, .box [.hb 4 5 [0]]), (1006, .box [.fn 46 [.ptr 1001 0, .ptr 1003 0, .ptr 1005 0, .ptr 1006 0]])], [], [(1000, .sl 0 3 0 []), (1001, .box [.own 1002]), (1002, .sl 0 3 1 []), (1003, .box [.own 1004]), (1004, .sl 4 34 2 [0, 1]), (1005, .box [.hb 3 4 [0, 1]]), (1006, .box [.fn 46 [.ptr 1001 0, .ptr 1003 0, .ptr 1005 0, .ptr 1006 0]])], fun h => disconnect_Path_1_v3_R n h.1 h.2.1 h.2.2.1 h.2.2.2.1 h.2.2.2.2.1 h.2.2.2.2.2⟩
noncomputable def c46_3 : Con D := c46_3_k 64
theorem c46_3_k_ok : ∀ n, ConOk Try.prog T (c46_3_k n)
  | 0 => none_ok Try.call46 rfl (fun h => rfl)
  | n + 1 => fn_ok (Φ := [c46_3_k n, c47, c48, c49]) (rs := []) (an := (.n none .o (.n none .o (.n none (.n none .o (.n none (.n none (.n none (.r (some (true, [(.normal, ⟨[.lf .bool], [(36, .one (.h 0 []))], [], [], 3344⟩)])) .nil) (.n (some (true, [(.normal, ⟨[.lf (.sl 0), .lf .bool], [], [(1005, .box [.hb 0 1 [0, 1]])], [1005, 2264], 3409⟩)])) .o .o)) .o) .o)) (.n none .o (.n none (.loop ⟨[.lf (.int .i64), .lf (.sl 0), .lf (.sl 4), .lf (.sl 0), .lf .bool, .lf (.sl 0)], [(45, .one (.h 0 []))], [(1001, .box [.own 1002]), (1002, .sl 0 3 1 []), (1003, .box [.own 1004]), (1004, .sl 4 34 2 [0, 1]), (1005, .box [.hb 3 4 [0, 1]]), (1006, .box [.fn 46 [.ptr 1001 0, .ptr 1003 0, .ptr 1005 0, .ptr 1006 0]]), (2264, .sl 0 3 5 [])], [1001, 1002, 1003, 1004, 1005, 1006, 2264], 3856⟩ true [(.exit 0, ⟨[.lf (.sl 0), .lf (.sl 4), .lf (.sl 0), .lf .bool, .lf (.sl 0)], [], [(1001, .box [.own 1002]), (1002, .sl 0 3 0 []), (1003, .box [.own 1004]), (1004, .sl 4 34 1 [0, 1]), (1005, .box [.hb 2 3 [0, 1]]), (1006, .box [.fn 46 [.ptr 1001 0, .ptr 1003 0, .ptr 1005 0, .ptr 1006 0]]), (2264, .sl 0 3 4 [])], [1001, 1002, 1003, 1004, 1005, 1006, 2264], 3856⟩)] (.n none .o (.n none .o (.n none (.n none (.n none .o (.n none .o (.n (some (true, [(.normal, ⟨[.lf (.sl 0), .lf (.sl 4), .lf (.sl 0), .lf .bool, .lf (.sl 0)], [], [(1001, .box [.own 1002]), (1002, .sl 0 3 0 []), (1003, .box [.own 1004]), (1004, .sl 4 34 1 [0, 1]), (1005, .box [.hb 2 3 [0, 1]]), (1006, .box [.fn 46 [.ptr 1001 0, .ptr 1003 0, .ptr 1005 0, .ptr 1006 0]]), (2264, .sl 0 3 4 [])], [1001, 1002, 1003, 1004, 1005, 1006, 2264], 4566⟩)])) .o .o))) .o) .o)))) .o)))))) pOk repOk (AllC.mem (⟨c46_3_k_ok n, c47_ok, c48_ok, c49_ok, trivial⟩ : AllC _ _ [c46_3_k n, c47, c48, c49])) hmix Try.call46 Try.func46 rfl rfl (by kernel_rfl) (fun h => by kernel_rfl)
theorem c46_3_ok : ConOk Try.prog T c46_3 := c46_3_k_ok 64

noncomputable def disconnect_Path_v1_L1 (x2 : List
  Int) (x3 : Int) : Int × List Stage × List Int × List Int × Bool →
  Option
    (Int × List Stage × List Int × List Int × Bool ⊕
      List Stage ×
        List Int ×
          List Int ×
            Bool) := fun x4 =>
  if decide (x4.1 < len x2) = true then
    Option.bind (idx x4.2.2.1 x4.1) fun x5 =>
      Option.bind
        (if (x5 == x3) = true then
          Option.bind (disconnect_Path_1_v3 x4.1 [] x4.2.2.1 x4.2.1 x4.2.2.2.1 x4.2.2.2.2)
            fun x6 => some (x6.2.2.1, x6.2.1, x6.2.2.2.1, x6.2.2.2.2)
        else some (x4.2.1, x4.2.2.1, x4.2.2.2.1, x4.2.2.2.2))
        fun x7 => some (.inl (W (x4.1 + 1), x7.1, x7.2.1, x7.2.2.1, x7.2.2.2))
  else some (.inr (x4.2.1, x4.2.2.1, x4.2.2.2.1, x4.2.2.2.2))
noncomputable def disconnect_Path_v1 (a0 : (List Stage)) : Option ((List Int) × (List Stage)) :=
  Option.bind (disconnect_New a0 0) fun x1 =>
    if (x1.2.1 != 0) = true then some ([], a0)
    else
      Option.bind (disconnect_ends a0 (Progress.mk x1.1 x1.2.2)) fun x2 =>
        Option.bind (slices_Max_int_int x2) fun x3 =>
          Option.bind (loopO (disconnect_Path_v1_L1 x2 x3) (0, a0, x2, [], true)) fun x8 =>
            some (x8.2.2.1, x8.1)
noncomputable def c12_1 : Con D := ⟨12, [.lf (.sl 4)], [.lf (.sl 0), .lf (.sl 4)], [.agg [.own 1000]], [(1000, .sl 4 34 0 [0])], [.one (.h 0 [0, 1])], [(1000, .sl 4 34 1 [0, 1])], fun h => disconnect_Path_v1 h⟩
theorem c12_1_ok : ConOk Try.prog T c12_1 := fn_ok (Φ := [c27, c44, c45, c46_3]) (rs := [.tmp 2]) (an := (.n none .o (.n none .o (.n none .o (.n none .o (.n none .o (.n none .o (.n none .o (.n none .o (.n none (.n none .o (.n none (.loop ⟨[.lf (.int .i64), .lf (.sl 4), .lf (.sl 0), .lf (.sl 0), .lf .bool], [(25, .one (.h 0 []))], [(1000, .sl 4 34 1 [0, 1]), (2000, .box [.own 1000]), (2904, .sl 0 3 2 []), (2960, .box [.own 2904]), (3280, .box [.hb 3 4 [0, 1]]), (3344, .box [.fn 46 [.ptr 2960 0, .ptr 2000 0, .ptr 3280 0, .ptr 3344 0]])], [1000, 2000, 2904, 2960, 3280, 3344], 3792⟩ true [(.exit 0, ⟨[.lf (.sl 4), .lf (.sl 0), .lf (.sl 0), .lf .bool], [], [(1000, .sl 4 34 0 [0, 1]), (2000, .box [.own 1000]), (2904, .sl 0 3 1 []), (2960, .box [.own 2904]), (3280, .box [.hb 2 3 [0, 1]]), (3344, .box [.fn 46 [.ptr 2960 0, .ptr 2000 0, .ptr 3280 0, .ptr 3344 0]])], [1000, 2000, 2904, 2960, 3280, 3344], 3792⟩)] (.n none .o (.n none .o (.n none (.n none (.n none .o (.n none .o (.n (some (true, [(.normal, ⟨[.lf (.sl 4), .lf (.sl 0), .lf (.sl 0), .lf .bool], [], [(1000, .sl 4 34 0 [0, 1]), (2000, .box [.own 1000]), (2904, .sl 0 3 1 []), (2960, .box [.own 2904]), (3280, .box [.hb 2 3 [0, 1]]), (3344, .box [.fn 46 [.ptr 2960 0, .ptr 2000 0, .ptr 3280 0, .ptr 3344 0]])], [1000, 2000, 2904, 2960, 3280, 3344], 4437⟩)])) .o .o))) .o) .o)))) .o)) .o)))))))))) pOk repOk (AllC.mem (⟨c27_ok, c44_ok, c45_ok, c46_3_ok, trivial⟩ : AllC _ _ [c27, c44, c45, c46_3])) hmix Try.call12 Try.func12 rfl rfl (by kernel_rfl) (fun h => by kernel_rfl)

noncomputable def dynposref01_Ints_L1 (a0 : List
  Int) (a1 : List
  Int) : Int →
  Option
    (Int ⊕
      Unit ⊕
        Bool) := fun x1 =>
  if decide (x1 < len a0) = true then
    Option.bind (idx a0 x1) fun x2 =>
      Option.bind (idx a1 x1) fun x3 =>
        if (x2 != x3) = true then some (.inr (.inr false)) else some (.inl (W (x1 + 1)))
  else some (.inr (.inl ()))
noncomputable def dynposref01_Ints (a0 : (List Int)) (a1 : (List Int)) : Option (Bool) :=
  if (len a0 != len a1) = true then some false
  else
    Option.bind (loopO (dynposref01_Ints_L1 a0 a1) 0) fun x4 =>
      Sum.elim (fun x5 => some true) (fun x6 => some x6) x4
noncomputable def c23 : Con D := ⟨23, [.lf (.sl 0), .lf (.sl 0)], [.lf .bool], [.one (.h 0 [0]), .one (.h 1 [0])], [], [.one (.h 0 [])], [], fun h => dynposref01_Ints h.1 h.2⟩
theorem c23_ok : ConOk Try.prog T c23 := fn_ok (Φ := []) (rs := [.tmp 4]) (an := (.n none .o (.n none .o (.n none (.n none .o (.n none (.loop ⟨[.lf (.int .i64)], [(13, .one (.h 0 []))], [], [], 2640⟩ false [(.exit 0, ⟨[], [], [], [], 2640⟩)] .o) .o)) .o)))) pOk repOk (AllC.mem (l := []) trivial) hmix Try.call23 Try.func23 rfl rfl (by kernel_rfl) (fun h => by kernel_rfl)

noncomputable def slices_Index_int_int_L1 (a0 : List
  Int) (a1 : Int) : Int →
  Option
    (Int ⊕
      Unit ⊕
        Int) := fun x1 =>
  if decide (x1 < len a0) = true then
    Option.bind (idx a0 x1) fun x2 =>
      if (a1 == x2) = true then some (.inr (.inr x1)) else some (.inl (W (x1 + 1)))
  else some (.inr (.inl ()))
noncomputable def slices_Index_int_int (a0 : (List Int)) (a1 : Int) : Option (Int) :=
  Option.bind (loopO (slices_Index_int_int_L1 a0 a1) 0) fun x3 =>
    Sum.elim (fun x4 => some (-1)) (fun x5 => some x5) x3
noncomputable def c70 : Con D := ⟨70, [.lf (.sl 0), .lf (.int .i64)], [.lf (.int .i64)], [.one (.h 0 [0]), .one (.h 1 [])], [], [.one (.h 0 [])], [], fun h => slices_Index_int_int h.1 h.2⟩
theorem c70_ok : ConOk Try.prog T c70 := fn_ok (Φ := []) (rs := [.tmp 4]) (an := (.n none .o (.n none (.n none .o (.n none (.loop ⟨[.lf (.int .i64)], [(8, .one (.h 0 []))], [], [], 2320⟩ false [(.exit 0, ⟨[], [], [], [], 2320⟩)] .o) .o)) .o))) pOk repOk (AllC.mem (l := []) trivial) hmix Try.call70 Try.func70 rfl rfl (by kernel_rfl) (fun h => by kernel_rfl)

noncomputable def slices_Contains_int_int (a0 : (List Int)) (a1 : Int) : Option (Bool) := Option.bind (slices_Index_int_int a0 a1) fun x1 => some (decide (x1 ≥ 0))
noncomputable def c50 : Con D := ⟨50, [.lf (.sl 0), .lf (.int .i64)], [.lf .bool], [.one (.h 0 [0]), .one (.h 1 [])], [], [.one (.h 0 [])], [], fun h => slices_Contains_int_int h.1 h.2⟩
theorem c50_ok : ConOk Try.prog T c50 := fn_ok (Φ := [c70]) (rs := [.tmp 4]) (an := .o) pOk repOk (AllC.mem (⟨c70_ok, trivial⟩ : AllC _ _ [c70])) hmix Try.call50 Try.func50 rfl rfl (by kernel_rfl) (fun h => by kernel_rfl)

end Rx
end Go.Proofs.Ytnpnaopnhgkapaa
