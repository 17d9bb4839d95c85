/- Plain functions, walks. Written by a program (wip/gen). -/
import Derived.Test.YtnpnaopnhgkapaaRt
import Derived.Test.YtnpnaopnhgkapaaHc
import Derived.Test.YtnpnaopnhgkapaaRg1
set_option linter.unusedVariables false
set_option maxRecDepth 100000
namespace Go.Proofs.Ytnpnaopnhgkapaa
open Go Go.RowKit Dp
namespace Rx

noncomputable def disconnect_Proves_L1 (a0 : List
  Stage) (a1 : List
  Int) : Int × Int →
  Option
    (Int × Int ⊕
      Int ⊕
        Bool) := fun x3 =>
  if decide (x3.2 < len a1) = true then
    Option.bind (idx a1 x3.2) fun x4 =>
      Option.bind (if decide (x4 < 0) = true then some true else some (decide (x4 ≥ len a0))) fun x5 =>
        if x5 = true then some (.inr (.inr false))
        else
          Option.bind (idx a0 x4) fun x6 =>
            Option.bind
              (if (x3.2 == 0) = true then
                if decide (len x6.Needs > 0) = true then some true
                else
                  if decide (x3.2 > 0) = true then
                    Option.bind (idx a1 (W (x3.2 - 1))) fun x9 =>
                      Option.bind (slices_Contains_int_int x6.Needs x9) fun x10 => some !x10
                  else some false
              else
                if decide (x3.2 > 0) = true then
                  Option.bind (idx a1 (W (x3.2 - 1))) fun x7 =>
                    Option.bind (slices_Contains_int_int x6.Needs x7) fun x8 => some !x8
                else some false)
              fun x11 =>
              if x11 = true then some (.inr (.inr false))
              else Option.bind (idx a0 x4) fun x12 => some (.inl (W (x3.1 + x12.Ticks), W (x3.2 + 1)))
  else some (.inr (.inl x3.1))
noncomputable def disconnect_Proves (a0 : (List Stage)) (a1 : (List Int)) : Option (Bool) :=
  Option.bind
    (Option.bind (disconnect_Check a0) fun x1 =>
      if (x1 != 0) = true then some true else some (len a1 == 0))
    fun x2 =>
    if x2 = true then some false
    else
      Option.bind (loopO (disconnect_Proves_L1 a0 a1) (0, 0)) fun x13 =>
        Sum.elim (fun x14 => Option.bind (disconnect_Length a0) fun x15 => some (x14 == x15)) (fun x16 => some x16) x13
noncomputable def c13 : Con D := ⟨13, [.lf (.sl 4), .lf (.sl 0)], [.lf .bool], [.agg [.h 0 [0]], .one (.h 1 [0])], [], [.one (.h 0 [])], [], fun h => disconnect_Proves h.1 h.2⟩
theorem c13_ok : ConOk Try.prog T c13 := fn_ok (Φ := [c15, c19, c50]) (rs := [.tmp 4]) (an := (.n none .o (.n none (.n none (.r (some (true, [(.normal, ⟨[.lf .bool], [(16, .one (.h 0 []))], [], [], 2192⟩)])) .nil) .o) (.n none .o (.n none (.n none .o (.n none (.loop ⟨[.lf (.int .i64), .lf (.int .i64)], [(5, .one (.h 0 [])), (19, .one (.h 1 []))], [], [], 2513⟩ false [(.exit 0, ⟨[.lf (.int .i64)], [(5, .one (.h 0 []))], [], [], 2513⟩)] (.n none .o (.n none .o (.n none (.n none (.n none .o (.n none (.n none (.r (some (true, [(.normal, ⟨[.lf .bool], [(27, .one (.any)), (28, .one (.any)), (29, .one (.any)), (30, .one (.any)), (31, .one (.any)), (32, .one (.h 0 []))], [], [], 2963⟩)])) .nil) .o) (.n none .o (.n none (.n none (.r (some (true, [(.normal, ⟨[.lf .bool], [(42, .one (.any)), (43, .one (.any)), (44, .one (.any)), (47, .one (.any)), (48, .one (.any)), (49, .one (.any)), (50, .one (.any)), (51, .one (.any)), (52, .one (.any)), (53, .one (.any)), (54, .one (.any)), (55, .one (.any)), (56, .one (.any)), (57, .one (.any)), (58, .one (.any)), (59, .one (.h 0 []))], [], [], 3476⟩)])) .nil) .o) .o)))) .o) .o)))) .o)) .o))))) pOk repOk (AllC.mem (⟨c15_ok, c19_ok, c50_ok, trivial⟩ : AllC _ _ [c15, c19, c50])) hmix Try.call13 Try.func13 rfl rfl (by kernel_rfl) (fun h => by kernel_rfl)

noncomputable def slices_Clone_Stage_Stage (a0 : (List Stage)) : Option ((List Stage)) := app [] a0
noncomputable def c52 : Con D := ⟨52, [.lf (.sl 4)], [.lf (.sl 4)], [.one (.h 0 [0])], [], [.one (.own 1000)], [(1000, .sl 4 34 0 [0])], fun h => slices_Clone_Stage_Stage h⟩
theorem c52_ok : ConOk Try.prog T c52 := by
  refine ⟨Try.call52, rfl, rfl, rfl, rfl, fun xs0 r0 hr0 avs obs has hobs γ w vs hv _ => ?_⟩
  cases has
  match vs, hv with
  | [], hv => exact hv.elim
  | _ :: _ :: _, hv => exact hv.2.elim
  | [v], hv =>
  obtain ⟨xs, hxs⟩ : ∃ xs : List (D 4), xs = xs0 := ⟨_, rfl⟩
  obtain ⟨r, hrr⟩ : ∃ r : List (D 4), r = r0 := ⟨_, rfl⟩
  have g0 : Rv (In γ.o [0]) w v xs := by rw [hxs]; exact hv.1.1
  have hr : app ([] : List (D 4)) xs = some r := by rw [hxs, hrr]; exact hr0
  subst hrr
  have hT := slr26.2
  refine enter (l := [v]) Try.func52 rfl Try.ntmps52 rfl ?_
  refine CW.sub (L' := [(0, v)]) ⟨rfl, trivial⟩ ?_
  refine CW.sr fun K1 hK1 => ?_
  refine WL.p (.slice none 0 0) rfl rfl ?_
  refine WL.nx hK1 ?_
  refine CW.seq fun K2 hK2 => ?_
  refine CW.sr fun K3 hK3 => ?_
  refine WL.p v rfl rfl ?_
  obtain ⟨a, m, q, rfl, hn⟩ := rvSlice g0
  refine WL.stepE (OW.isNil slr26.1 rfl) rfl ?_
  refine WL.nx hK3 ?_
  cases a with
  | none =>
    refine CW.cond (b := true) rfl (fun _ => ?_) (fun h => nomatch h)
    refine CW.sr fun K4 hK4 => ?_
    refine WL.p (.slice none 0 0) rfl rfl ?_
    refine WL.nx hK4 ?_
    rw [hn rfl] at hr
    obtain rfl := app_nil hr
    exact CW.rets (vs := [.slice none 0 0]) Try.results52 ⟨rfl, trivial⟩ ⟨_, rfl, end_own (n := 4) (e := 34) (q := 1000) (K := [0]) (M := []) (N := []) rfl rfl rfl (by simp) (by simp) (Evo.refl _ _ γ.o w) (Ow.nil _ _ _ _ _) (fun x hx => by simp at hx <;> omega)⟩ (fun _ _ h => h)
  | some a =>
    refine CW.cond (b := false) rfl (fun h => nomatch h) (fun _ => ?_)
    refine CW.skip ?_
    refine hK2 _ _ ?_
    refine CW.sr fun K5 hK5 => ?_
    refine WL.step (OW.buildSlice (o := γ.o) (k := 1000) (K := [0]) (xs := ([] : List (D 4))) slr26.1 hT rfl trivial rfl rfl) rfl ?_
    rintro v1 w1 ⟨o1, ev1, h1⟩
    have g0 := g0.evo ev1 rfl
    refine WL.p (.slice (some a) m q) rfl rfl ?_
    refine WL.step (OW.append (K := [0]) slr26.1 hT rfl rfl h1 g0.els hr rfl) rfl ?_
    rintro v2 w2 ⟨o2, ev2, h2⟩
    refine WL.p v2 rfl rfl ?_
    refine WL.nx hK5 ?_
    exact CW.rets (vs := [v2]) Try.results52 ⟨rfl, trivial⟩ ⟨_, rfl, end_own (n := 4) (e := 34) (q := 1000) (K := [0]) (M := [1000]) (N := [1000]) rfl rfl rfl (by simp) (by simp) ((ev1.weaken (by simp) (by simp)).trans ev2) h2 (fun x hx => by simp at hx <;> omega)⟩ (fun _ _ h => h)

noncomputable def disconnect_Longest_L1 (x2 : List
  Stage) : Int × List Stage →
  Option
    (Int × List Stage ⊕
      List
        Stage) := fun x3 =>
  if decide (x3.1 < len x2) = true then
    Option.bind (idx x3.2 x3.1) fun x4 =>
      Option.bind (idx x3.2 x3.1) fun x5 =>
        Option.bind (idx x3.2 x3.1) fun x6 =>
          Option.bind (idx x3.2 x3.1) fun x7 =>
            Option.bind (setO x3.2 x3.1 (Stage.mk x7.Name (W (x4.Ticks * x5.Tries)) x7.Tries x7.Needs)) fun x8 =>
              some (.inl (W (x3.1 + 1), x8))
  else some (.inr x3.2)
noncomputable def disconnect_Longest (a0 : (List Stage)) : Option (Int) :=
  Option.bind (disconnect_New a0 0) fun x1 =>
    if (x1.2.1 != 0) = true then some 0
    else
      Option.bind (slices_Clone_Stage_Stage a0) fun x2 =>
        Option.bind (loopO (disconnect_Longest_L1 x2) (0, x2)) fun x9 =>
          Option.bind (disconnect_ends x9 (Progress.mk x1.1 x1.2.2)) fun x10 =>
            Option.bind (slices_Max_int_int x10) fun x11 => some x11
noncomputable def c16 : Con D := ⟨16, [.lf (.sl 4)], [.lf (.int .i64)], [.agg [.h 0 [0]]], [], [.one (.h 0 [])], [], fun h => disconnect_Longest h⟩
theorem c16_ok : ConOk Try.prog T c16 := fn_ok (Φ := [c27, c44, c45, c52]) (rs := [.tmp 2]) (an := (.n none .o (.n none .o (.n none .o (.n none .o (.n none (.n none .o (.n none (.loop ⟨[.lf (.int .i64), .lf (.sl 4)], [(21, .one (.h 0 []))], [(2904, .sl 4 34 1 [0])], [2904], 3472⟩ true [(.exit 0, ⟨[.lf (.sl 4)], [], [(2904, .sl 4 34 0 [0])], [2904], 3472⟩)] .o) .o)) .o)))))) pOk repOk (AllC.mem (⟨c27_ok, c44_ok, c45_ok, c52_ok, trivial⟩ : AllC _ _ [c27, c44, c45, c52])) hmix Try.call16 Try.func16 rfl rfl (by kernel_rfl) (fun h => by kernel_rfl)

noncomputable def disconnect_Done_1 (a0 : Work) : Option (Bool) := some (a0.State != 2)
noncomputable def c63 : Con D := ⟨63, [.lf (.int .i64), .lf (.int .i64), .lf (.int .i64)], [.lf .bool], [.agg [.h 0 [], .h 1 [], .h 2 []]], [], [.one (.h 0 [])], [], fun h => disconnect_Done_1 ⟨h.1, h.2.1, h.2.2⟩⟩
theorem c63_ok : ConOk Try.prog T c63 := fn_ok (Φ := []) (rs := [.tmp 2]) (an := .o) pOk repOk (AllC.mem (l := []) trivial) hmix Try.call63 Try.func63 rfl rfl (by kernel_rfl) (fun h => by kernel_rfl)

noncomputable def slices_IndexFunc_Work_Work_v1_L1 (a0 : List
  Work) : Int →
  Option
    (Int ⊕
      Unit ⊕
        Int) := fun x1 =>
  if decide (x1 < len a0) = true then
    Option.bind (idx a0 x1) fun x2 =>
      Option.bind (disconnect_Done_1 x2) fun x3 =>
        if x3 = true then some (.inr (.inr x1)) else some (.inl (W (x1 + 1)))
  else some (.inr (.inl ()))
noncomputable def slices_IndexFunc_Work_Work_v1 (a0 : (List Work)) : Option (Int) :=
  Option.bind (loopO (slices_IndexFunc_Work_Work_v1_L1 a0) 0) fun x4 =>
    Sum.elim (fun x5 => some (-1)) (fun x6 => some x6) x4
noncomputable def c73_1 : Con D := ⟨73, [.lf (.sl 6)], [.lf (.int .i64)], [.one (.h 0 [0]), .one (.fn 63 [])], [], [.one (.h 0 [])], [], fun h => slices_IndexFunc_Work_Work_v1 h⟩
theorem c73_1_ok : ConOk Try.prog T c73_1 := fn_ok (Φ := [c63]) (rs := [.tmp 4]) (an := (.n none .o (.n none (.n none .o (.n none (.loop ⟨[.lf (.int .i64)], [(8, .one (.h 0 []))], [], [], 2320⟩ false [(.exit 0, ⟨[], [], [], [], 2320⟩)] .o) .o)) .o))) pOk repOk (AllC.mem (⟨c63_ok, trivial⟩ : AllC _ _ [c63])) hmix Try.call73 Try.func73 rfl rfl (by kernel_rfl) (fun h => by kernel_rfl)

noncomputable def slices_ContainsFunc_Work_Work_v1 (a0 : (List Work)) : Option (Bool) := Option.bind (slices_IndexFunc_Work_Work_v1 a0) fun x1 => some (decide (x1 ≥ 0))
noncomputable def c62_1 : Con D := ⟨62, [.lf (.sl 6)], [.lf .bool], [.one (.h 0 [0]), .one (.fn 63 [])], [], [.one (.h 0 [])], [], fun h => slices_ContainsFunc_Work_Work_v1 h⟩
theorem c62_1_ok : ConOk Try.prog T c62_1 := fn_ok (Φ := [c73_1]) (rs := [.tmp 4]) (an := .o) pOk repOk (AllC.mem (⟨c73_1_ok, trivial⟩ : AllC _ _ [c73_1])) hmix Try.call62 Try.func62 rfl rfl (by kernel_rfl) (fun h => by kernel_rfl)

noncomputable def disconnect_Done (a0 : Progress) : Option (Bool) :=
  Option.bind
    (if decide (len a0.Works > 0) = true then
      Option.bind (slices_ContainsFunc_Work_Work_v1 a0.Works) fun x1 => some !x1
    else some false)
    fun x2 => some x2
noncomputable def c35 : Con D := ⟨35, [.lf (.int .i64), .lf (.sl 6)], [.lf .bool], [.agg [.h 0 [], .h 1 [0]]], [], [.one (.h 0 [])], [], fun h => disconnect_Done ⟨h.1, h.2⟩⟩
theorem c35_ok : ConOk Try.prog T c35 := fn_ok (Φ := [c62_1]) (rs := [.tmp 2]) (an := (.n none .o (.n none (.r (some (true, [(.normal, ⟨[.lf .bool], [(2, .one (.h 0 []))], [], [], 2192⟩)])) .nil) .o))) pOk repOk (AllC.mem (⟨c62_1_ok, trivial⟩ : AllC _ _ [c62_1])) hmix Try.call35 Try.func35 rfl rfl (by kernel_rfl) (fun h => by kernel_rfl)

noncomputable def dynposlaw31_sane : Option (Bool) := Option.bind
  (disconnect_New
    [Stage.mk (bsL [97]) 2 1 [], Stage.mk (bsL [98]) 3 2 [],
      Stage.mk (bsL [99]) 4 1 [0, 1]]
    5)
  fun x1 =>
  Option.bind
    (disconnect_Left
      [Stage.mk (bsL [97]) 2 1 [], Stage.mk (bsL [98]) 3 2 [],
        Stage.mk (bsL [99]) 4 1 [0, 1]]
      (Progress.mk x1.1 x1.2.2))
    fun x2 =>
    Option.bind
      (if (x1.2.1 == 0) = true then
        if x2.2 = true then
          if (x2.1 == 7) = true then
            Option.bind
              (disconnect_Length
                [Stage.mk (bsL [97]) 2 1 [], Stage.mk (bsL [98]) 3 2 [],
                  Stage.mk (bsL [99]) 4 1 [0, 1]])
              fun x3 =>
              if (x3 == 7) = true then
                Option.bind
                  (disconnect_Path_v1
                    [Stage.mk (bsL [97]) 2 1 [],
                      Stage.mk (bsL [98]) 3 2 [],
                      Stage.mk (bsL [99]) 4 1 [0, 1]])
                  fun x4 =>
                  Option.bind (dynposref01_Ints x4.1 [1, 2]) fun x5 =>
                    if x5 = true then
                      Option.bind (disconnect_Proves x4.2 [1, 2]) fun x6 =>
                        if x6 = true then
                          Option.bind (disconnect_Proves x4.2 [0, 2]) fun x7 =>
                            if (!x7) = true then
                              Option.bind (disconnect_Longest x4.2) fun x8 =>
                                if (x8 == 10) = true then
                                  Option.bind (disconnect_Done (Progress.mk x1.1 x1.2.2)) fun x9 =>
                                    if (!x9) = true then
                                      Option.bind (disconnect_Stuck (Progress.mk x1.1 x1.2.2)) fun x10 =>
                                        some (!x10, x4.2)
                                    else some (false, x4.2)
                                else some (false, x4.2)
                            else some (false, x4.2)
                        else some (false, x4.2)
                    else some (false, x4.2)
              else
                some
                  (false,
                    [Stage.mk (bsL [97]) 2 1 [],
                      Stage.mk (bsL [98]) 3 2 [],
                      Stage.mk (bsL [99]) 4 1 [0, 1]])
          else
            some
              (false,
                [Stage.mk (bsL [97]) 2 1 [], Stage.mk (bsL [98]) 3 2 [],
                  Stage.mk (bsL [99]) 4 1 [0, 1]])
        else
          some
            (false,
              [Stage.mk (bsL [97]) 2 1 [], Stage.mk (bsL [98]) 3 2 [],
                Stage.mk (bsL [99]) 4 1 [0, 1]])
      else
        some
          (false,
            [Stage.mk (bsL [97]) 2 1 [], Stage.mk (bsL [98]) 3 2 [],
              Stage.mk (bsL [99]) 4 1 [0, 1]]))
      fun x11 => some x11.1
noncomputable def c9 : Con D := ⟨9, [], [.lf .bool], [], [], [.one (.h 0 [])], [], fun h => dynposlaw31_sane⟩
theorem c9_ok : ConOk Try.prog T c9 := fn_ok (Φ := [c12_1, c13, c15, c16, c23, c27, c31, c35, c37]) (rs := [.tmp 0]) (an := (.n none .o (.n none .o (.n none .o (.n none .o (.n none (.r (some (true, [(.normal, ⟨[.lf .bool, .lf (.sl 4)], [(0, .one (.h 0 []))], [(2320, .sl 4 34 1 [1])], [2320], 3664⟩)])) .nil) .o)))))) pOk repOk (AllC.mem (⟨c12_1_ok, c13_ok, c15_ok, c16_ok, c23_ok, c27_ok, c31_ok, c35_ok, c37_ok, trivial⟩ : AllC _ _ [c12_1, c13, c15, c16, c23, c27, c31, c35, c37])) hmix Try.call9 Try.func9 rfl rfl (by kernel_rfl) (fun h => by kernel_rfl)

noncomputable def dynposmake_New (a0 : (List Int)) : Option ((List Int) × Int) := Option.bind (slc a0 0 (imin (len a0) 600)) fun x1 => some (x1, 0)
noncomputable def c10 : Con D := ⟨10, [.lf (.sl 0)], [.lf (.sl 0), .lf (.int .i64)], [.one (.h 0 [0])], [], [.one (.ptr 1000 0)], [(1000, .box [.h 0 [0], .h 1 []])], fun h => dynposmake_New h⟩
theorem c10_ok : ConOk Try.prog T c10 := fn_ok (Φ := []) (rs := [.tmp 2]) (an := .o) pOk repOk (AllC.mem (l := []) trivial) hmix Try.call10 Try.func10 rfl rfl (by kernel_rfl) (fun h => by kernel_rfl)

noncomputable def dynposmake_Mod (a0 : Int) (a1 : Int) : Option (Int) :=
  if decide (a1 < 1) = true then some 0
  else Option.bind (remO a0 a1) fun x1 => Option.bind (remO (W (x1 + a1)) a1) fun x2 => some x2
noncomputable def c51 : Con D := ⟨51, [.lf (.int .i64), .lf (.int .i64)], [.lf (.int .i64)], [.one (.h 0 []), .one (.h 1 [])], [], [.one (.h 0 [])], [], fun h => dynposmake_Mod h.1 h.2⟩
theorem c51_ok : ConOk Try.prog T c51 := fn_ok (Φ := []) (rs := [.tmp 4]) (an := .o) pOk repOk (AllC.mem (l := []) trivial) hmix Try.call51 Try.func51 rfl rfl (by kernel_rfl) (fun h => by kernel_rfl)

noncomputable def Src_N (a0 : Src) (a1 : Int) : Option (Int × (List Int) × Int) :=
  if decide (a0.At ≥ len a0.L) = true then some (0, a0.L, a0.At)
  else
    Option.bind (idx a0.L (W (W (a0.At + 1) - 1))) fun x1 =>
      Option.bind (dynposmake_Mod x1 a1) fun x2 => some (x2, a0.L, W (a0.At + 1))
noncomputable def c14 : Con D := ⟨14, [.lf (.sl 0), .lf (.int .i64), .lf (.int .i64)], [.lf (.int .i64), .lf (.sl 0), .lf (.int .i64)], [.one (.ptr 1000 0), .one (.h 2 [])], [(1000, .box [.h 0 [0], .h 1 []])], [.one (.h 0 [])], [(1000, .box [.h 1 [0], .h 2 []])], fun h => Src_N ⟨h.1, h.2.1⟩ h.2.2⟩
theorem c14_ok : ConOk Try.prog T c14 := fn_ok (Φ := [c51]) (rs := [.tmp 4]) (an := .o) pOk repOk (AllC.mem (⟨c51_ok, trivial⟩ : AllC _ _ [c51])) hmix Try.call14 Try.func14 rfl rfl (by kernel_rfl) (fun h => by kernel_rfl)

noncomputable def Src_Pick_v1 (a0 : Src) (a1 : (List Int)) : Option (Int × (List Int) × Int × (List Int)) :=
  Option.bind (Src_N a0 (len a1)) fun x1 => Option.bind (idx a1 x1.1) fun x2 => some (x2, x1.2.1, x1.2.2, a1)
noncomputable def c42_1 : Con D := ⟨42, [.lf (.sl 0), .lf (.int .i64), .lf (.sl 0)], [.lf (.int .i64), .lf (.sl 0), .lf (.int .i64), .lf (.sl 0)], [.one (.ptr 1000 0), .one (.own 1001)], [(1000, .box [.h 0 [0], .h 1 []]), (1001, .sl 0 3 2 [])], [.one (.h 0 [])], [(1000, .box [.h 1 [0], .h 2 []]), (1001, .sl 0 3 3 [])], fun h => Src_Pick_v1 ⟨h.1, h.2.1⟩ h.2.2⟩
theorem c42_1_ok : ConOk Try.prog T c42_1 := fn_ok (Φ := [c14]) (rs := [.tmp 4]) (an := .o) pOk repOk (AllC.mem (⟨c14_ok, trivial⟩ : AllC _ _ [c14])) hmix Try.call42 Try.func42 rfl rfl (by kernel_rfl) (fun h => by kernel_rfl)

noncomputable def Src_Range (a0 : Src) (a1 : Int) (a2 : Int) : Option (Int × (List Int) × Int) :=
  Option.bind (Src_N a0 (W (W (a2 - a1) + 1))) fun x1 => some (W (a1 + x1.1), x1.2.1, x1.2.2)
noncomputable def c43 : Con D := ⟨43, [.lf (.sl 0), .lf (.int .i64), .lf (.int .i64), .lf (.int .i64)], [.lf (.int .i64), .lf (.sl 0), .lf (.int .i64)], [.one (.ptr 1000 0), .one (.h 2 []), .one (.h 3 [])], [(1000, .box [.h 0 [0], .h 1 []])], [.one (.h 0 [])], [(1000, .box [.h 1 [0], .h 2 []])], fun h => Src_Range ⟨h.1, h.2.1⟩ h.2.2.1 h.2.2.2⟩
theorem c43_ok : ConOk Try.prog T c43 := fn_ok (Φ := [c14]) (rs := [.tmp 6]) (an := .o) pOk repOk (AllC.mem (⟨c14_ok, trivial⟩ : AllC _ _ [c14])) hmix Try.call43 Try.func43 rfl rfl (by kernel_rfl) (fun h => by kernel_rfl)

noncomputable def Src_Some_L1 (a1 : Int) (a2 : Int) : Int × List Int × List Int × Int →
  Option
    (Int × List Int × List Int × Int ⊕
      List Int ×
        List Int ×
          Int) := fun x1 =>
  if decide (x1.1 < a1) = true then
    Option.bind (Src_N (Src.mk x1.2.2.1 x1.2.2.2) a2) fun x2 =>
      Option.bind
        (if (x2.1 == W (a2 - 1)) = true then Option.bind (app x1.2.1 [x1.1]) fun x3 => some x3
        else some x1.2.1)
        fun x4 => some (.inl (W (x1.1 + 1), x4, x2.2.1, x2.2.2))
  else some (.inr (x1.2.1, x1.2.2.1, x1.2.2.2))
noncomputable def Src_Some (a0 : Src) (a1 : Int) (a2 : Int) : Option ((List Int) × Int × (List Int)) :=
  Option.bind (loopO (Src_Some_L1 a1 a2) (0, [], a0.L, a0.At)) fun x5 => some (x5.2.1, x5.2.2, x5.1)
noncomputable def c25 : Con D := ⟨25, [.lf (.sl 0), .lf (.int .i64), .lf (.int .i64), .lf (.int .i64)], [.lf (.sl 0), .lf (.int .i64), .lf (.sl 0)], [.one (.ptr 1000 0), .one (.h 2 []), .one (.h 3 [])], [(1000, .box [.h 0 [0], .h 1 []])], [.one (.own 1001)], [(1000, .box [.h 0 [0], .h 1 []]), (1001, .sl 0 3 2 [])], fun h => Src_Some ⟨h.1, h.2.1⟩ h.2.2.1 h.2.2.2⟩
theorem c25_ok : ConOk Try.prog T c25 := fn_ok (Φ := [c14]) (rs := [.tmp 6]) (an := (.n none .o (.n none .o (.n none (.n none .o (.n none (.loop ⟨[.lf (.int .i64), .lf (.sl 0), .lf (.sl 0), .lf (.int .i64)], [(7, .one (.own 2192)), (8, .one (.h 0 []))], [(2192, .sl 0 3 1 []), (1000, .box [.h 2 [0], .h 3 []])], [1000], 2256⟩ true [(.exit 0, ⟨[.lf (.sl 0), .lf (.sl 0), .lf (.int .i64)], [(7, .one (.own 2192))], [(2192, .sl 0 3 0 []), (1000, .box [.h 1 [0], .h 2 []])], [1000], 2256⟩)] (.n none .o (.n none (.n none (.n none .o (.n (some (true, [(.normal, ⟨[.lf (.sl 0)], [(7, .one (.own 2836))], [(2836, .sl 0 3 0 [])], [2192], 2900⟩)])) .o .o)) .o) .o))) .o)) .o)))) pOk repOk (AllC.mem (⟨c14_ok, trivial⟩ : AllC _ _ [c14])) hmix Try.call25 Try.func25 rfl rfl (by kernel_rfl) (fun h => by kernel_rfl)

noncomputable def Src_Sequence_L1 : Int × List Int × Int × List Stage →
  Option
    (Int × List Int × Int × List Stage ⊕
      List Int ×
        Int ×
          List
            Stage) := fun x1 =>
  Option.bind
    (Option.bind (Src_N (Src.mk x1.2.1 x1.2.2.1) 5) fun x2 =>
      if decide (x1.1 ≤ x2.1) = true then some (true, x2.2.1, x2.2.2)
      else some (x1.1 == 0, x2.2.1, x2.2.2))
    fun x3 =>
    if x3.1 = true then
      if (x1.1 == 12) = true then some (.inr (x3.2.1, x3.2.2, x1.2.2.2))
      else
        Option.bind (sApp (bsL [115]) (bysS (fun x4 => x4.n) [U8.mk (iwrap IntKind.u8 (W (97 + x1.1)))]))
          fun x5 =>
          Option.bind (Src_Pick_v1 (Src.mk x3.2.1 x3.2.2) [1, 2, 3, 7])
            fun x6 =>
            Option.bind (Src_Range (Src.mk x6.2.1 x6.2.2.1) 1 3) fun x7 =>
              Option.bind (Src_Some (Src.mk x7.2.1 x7.2.2) x1.1 2) fun x8 =>
                Option.bind (app x1.2.2.2 [Stage.mk x5 x6.1 x7.1 x8.2.2]) fun x9 =>
                  some (.inl (W (x1.1 + 1), x8.1, x8.2.1, x9))
    else some (.inr (x3.2.1, x3.2.2, x1.2.2.2))
noncomputable def Src_Sequence (a0 : Src) : Option ((List Int) × Int × (List Stage)) :=
  Option.bind (loopO Src_Sequence_L1 (0, a0.L, a0.At, [])) fun x10 => some (x10.1, x10.2.1, x10.2.2)
noncomputable def c11 : Con D := ⟨11, [.lf (.sl 0), .lf (.int .i64)], [.lf (.sl 0), .lf (.int .i64), .lf (.sl 4)], [.one (.ptr 1000 0)], [(1000, .box [.h 0 [0], .h 1 []])], [.agg [.own 1001]], [(1000, .box [.h 0 [0], .h 1 []]), (1001, .sl 4 34 2 [1])], fun h => Src_Sequence ⟨h.1, h.2⟩⟩
theorem c11_ok : ConOk Try.prog T c11 := fn_ok (Φ := [c14, c25, c42_1, c43]) (rs := [.cell 2 28]) (an := (.n none .o (.n none .o (.n none (.n none .o (.n none (.loop ⟨[.lf (.int .i64), .lf (.sl 0), .lf (.int .i64), .lf (.sl 4)], [(4, .one (.h 0 []))], [(1000, .box [.h 1 [0], .h 2 []]), (2064, .box [.own 2192]), (2192, .sl 4 34 3 [1])], [1000, 2064], 2256⟩ true [(.exit 0, ⟨[.lf (.sl 0), .lf (.int .i64), .lf (.sl 4)], [], [(1000, .box [.h 0 [0], .h 1 []]), (2064, .box [.own 2192]), (2192, .sl 4 34 2 [1])], [1000, 2064], 2256⟩)] (.n none (.n none (.r (some (true, [(.normal, ⟨[.lf .bool, .lf (.sl 0), .lf (.int .i64)], [(10, .one (.any)), (11, .one (.any)), (12, .one (.h 0 []))], [(1000, .box [.h 1 [0], .h 2 []])], [1000], 2324⟩)])) .nil) .o) .o)) .o)) .o)))) pOk repOk (AllC.mem (⟨c14_ok, c25_ok, c42_1_ok, c43_ok, trivial⟩ : AllC _ _ [c14, c25, c42_1, c43])) hmix Try.call11 Try.func11 rfl rfl (by kernel_rfl) (fun h => by kernel_rfl)

noncomputable def Src_Text_v1 (a0 : Src) (a1 : (List ByteArray)) : Option (ByteArray × (List Int) × Int × (List ByteArray)) :=
  Option.bind (Src_N a0 (len a1)) fun x1 => Option.bind (idx a1 x1.1) fun x2 => some (x2, x1.2.1, x1.2.2, a1)
noncomputable def c53_1 : Con D := ⟨53, [.lf (.sl 0), .lf (.int .i64), .lf (.sl 2)], [.lf .str, .lf (.sl 0), .lf (.int .i64), .lf (.sl 2)], [.one (.ptr 1000 0), .one (.own 1001)], [(1000, .box [.h 0 [0], .h 1 []]), (1001, .sl 2 9 2 [])], [.one (.h 0 [])], [(1000, .box [.h 1 [0], .h 2 []]), (1001, .sl 2 9 3 [])], fun h => Src_Text_v1 ⟨h.1, h.2.1⟩ h.2.2⟩
theorem c53_1_ok : ConOk Try.prog T c53_1 := fn_ok (Φ := [c14]) (rs := [.tmp 4]) (an := .o) pOk repOk (AllC.mem (⟨c14_ok, trivial⟩ : AllC _ _ [c14])) hmix Try.call53 Try.func53 rfl rfl (by kernel_rfl) (fun h => by kernel_rfl)

noncomputable def dynposref31_in (a0 : Int) (a1 : Int) (a2 : Int) : Option (Bool) := Option.bind (if decide (a0 ≥ a1) = true then some (decide (a0 ≤ a2)) else some false) fun x1 => some x1
noncomputable def c55 : Con D := ⟨55, [.lf (.int .i64), .lf (.int .i64), .lf (.int .i64)], [.lf .bool], [.one (.h 0 []), .one (.h 1 []), .one (.h 2 [])], [], [.one (.h 0 [])], [], fun h => dynposref31_in h.1 h.2.1 h.2.2⟩
theorem c55_ok : ConOk Try.prog T c55 := fn_ok (Φ := []) (rs := [.tmp 6]) (an := (.n none .o (.n none (.r (some (true, [(.normal, ⟨[.lf .bool], [(6, .one (.h 0 []))], [], [], 2128⟩)])) .nil) .o))) pOk repOk (AllC.mem (l := []) trivial) hmix Try.call55 Try.func55 rfl rfl (by kernel_rfl) (fun h => by kernel_rfl)

noncomputable def dynposref26_Word_L1 (a0 : ByteArray) : Int →
  Option
    (Int ⊕
      Unit ⊕
        Bool) := fun x4 =>
  if decide (x4 < sLen a0) = true then
    Option.bind
      (Option.bind (sIdx a0 x4) fun x5 =>
        if decide (x5 ≥ 97) = true then
          Option.bind (sIdx a0 x4) fun x10 =>
            if decide (x10 ≤ 122) = true then some !true
            else
              Option.bind (sIdx a0 x4) fun x11 =>
                if decide (x11 ≥ 48) = true then
                  Option.bind (sIdx a0 x4) fun x13 =>
                    if decide (x13 ≤ 57) = true then some !true
                    else Option.bind (sIdx a0 x4) fun x14 => some !x14 == 45
                else Option.bind (sIdx a0 x4) fun x12 => some !x12 == 45
        else
          Option.bind (sIdx a0 x4) fun x6 =>
            if decide (x6 ≥ 48) = true then
              Option.bind (sIdx a0 x4) fun x8 =>
                if decide (x8 ≤ 57) = true then some !true
                else Option.bind (sIdx a0 x4) fun x9 => some !x9 == 45
            else Option.bind (sIdx a0 x4) fun x7 => some !x7 == 45)
      fun x15 => if x15 = true then some (.inr (.inr false)) else some (.inl (W (x4 + 1)))
  else some (.inr (.inl ()))
noncomputable def dynposref26_Word (a0 : ByteArray) : Option (Bool) :=
  Option.bind
    (if (sLen a0 == 0) = true then some true
    else
      if decide (sLen a0 > 12) = true then some true
      else
        Option.bind (sIdx a0 0) fun x1 =>
          if decide (x1 < 97) = true then some true
          else Option.bind (sIdx a0 0) fun x2 => some (decide (x2 > 122)))
    fun x3 =>
    if x3 = true then some false
    else
      Option.bind (loopO (dynposref26_Word_L1 a0) 0) fun x16 =>
        Sum.elim (fun x17 => some true) (fun x18 => some x18) x16
noncomputable def c56 : Con D := ⟨56, [.lf .str], [.lf .bool], [.one (.h 0 [])], [], [.one (.h 0 [])], [], fun h => dynposref26_Word h⟩
theorem c56_ok : ConOk Try.prog T c56 := fn_ok (Φ := []) (rs := [.tmp 2]) (an := (.n none .o (.n none (.n none (.r (some (true, [(.normal, ⟨[.lf .bool], [(21, .one (.h 0 []))], [], [], 2128⟩)])) .nil) .o) (.n none (.n none .o (.n none (.loop ⟨[.lf (.int .i64)], [(3, .one (.h 0 []))], [], [], 2257⟩ false [(.exit 0, ⟨[], [], [], [], 2257⟩)] (.n none .o (.n none (.n none (.n none (.r (some (true, [(.normal, ⟨[.lf .bool], [(33, .one (.any)), (34, .one (.any)), (35, .one (.any)), (36, .one (.any)), (39, .one (.any)), (40, .one (.any)), (41, .one (.any)), (42, .one (.any)), (43, .one (.any)), (44, .one (.any)), (45, .one (.any)), (46, .one (.any)), (47, .one (.any)), (48, .one (.any)), (51, .one (.any)), (52, .one (.any)), (53, .one (.any)), (54, .one (.any)), (56, .one (.h 0 []))], [], [], 2578⟩)])) .nil) .o) .o) .o))) .o)) .o)))) pOk repOk (AllC.mem (l := []) trivial) hmix Try.call56 Try.func56 rfl rfl (by kernel_rfl) (fun h => by kernel_rfl)

noncomputable def dynposref31_Check_L2 (a0 : List
  Stage) (x2 : Int) (x3 : Stage) : Int →
  Option
    (Int ⊕
      Unit ⊕
        Int ⊕
          Unit ⊕
            Int) := fun x8 =>
  if decide (x8 < x2) = true then
    Option.bind (idx a0 x8) fun x9 =>
      if (x9.Name == x3.Name) = true then some (.inr (.inr (.inr (.inr 67))))
      else some (.inl (W (x8 + 1)))
  else some (.inr (.inl ()))
noncomputable def dynposref31_Check_L3 (x2 : Int) (x3 : Stage) : Int →
  Option
    (Int ⊕
      Unit ⊕
        Int ⊕
          Unit ⊕
            Int) := fun x12 =>
  if decide (x12 < len x3.Needs) = true then
    Option.bind (idx x3.Needs x12) fun x13 =>
      Option.bind
        (Option.bind (dynposref31_in x13 0 (W (x2 - 1))) fun x14 =>
          if (!x14) = true then some true
          else
            if decide (x12 > 0) = true then
              Option.bind (idx x3.Needs (W (x12 - 1))) fun x15 => some (decide (x13 ≤ x15))
            else some false)
        fun x16 =>
        if x16 = true then some (.inr (.inr (.inr (.inr 67))))
        else some (.inl (W (x12 + 1)))
  else some (.inr (.inl ()))
noncomputable def dynposref31_Check_L1 (a0 : List
  Stage) : Int →
  Option
    (Int ⊕
      Unit ⊕
        Int) := fun x2 =>
  if decide (x2 < len a0) = true then
    Option.bind (idx a0 x2) fun x3 =>
      Option.bind
        (Option.bind (dynposref26_Word x3.Name) fun x4 =>
          if (!x4) = true then some true
          else
            Option.bind (dynposref31_in x3.Ticks 1 600) fun x5 =>
              if (!x5) = true then some true
              else Option.bind (dynposref31_in x3.Tries 1 3) fun x6 => some !x6)
        fun x7 =>
        if x7 = true then some (.inr (.inr 67))
        else
          Option.bind (loopO (dynposref31_Check_L2 a0 x2 x3) 0) fun x10 =>
            Sum.elim
              (fun x11 =>
                Option.bind (loopO (dynposref31_Check_L3 x2 x3) 0) fun x17 =>
                  Sum.elim (fun x18 => some (.inl (W (x2 + 1)))) (fun x19 => some x19) x17)
              (fun x20 => some x20) x10
  else some (.inr (.inl ()))
noncomputable def dynposref31_Check (a0 : (List Stage)) : Option (Int) :=
  Option.bind (dynposref31_in (len a0) 1 12) fun x1 =>
    if (!x1) = true then some 67
    else
      Option.bind (loopO (dynposref31_Check_L1 a0) 0) fun x21 =>
        Sum.elim (fun x22 => some 0) (fun x23 => some x23) x21
noncomputable def c20 : Con D := ⟨20, [.lf (.sl 4)], [.lf (.int .i64)], [.agg [.h 0 [0]]], [], [.one (.h 0 [])], [], fun h => dynposref31_Check h⟩
theorem c20_ok : ConOk Try.prog T c20 := fn_ok (Φ := [c55, c56]) (rs := [.tmp 2]) (an := (.n none .o (.n none .o (.n none (.n none .o (.n none (.loop ⟨[.lf (.int .i64)], [(16, .one (.h 0 []))], [], [], 2768⟩ false [(.exit 0, ⟨[], [], [], [], 2768⟩)] (.n none .o (.n none .o (.n none (.n none (.n none .o (.n none (.n none (.r (some (true, [(.normal, ⟨[.lf .bool], [(26, .one (.any)), (27, .one (.any)), (28, .one (.any)), (29, .one (.any)), (32, .one (.any)), (33, .one (.any)), (34, .one (.any)), (35, .one (.any)), (36, .one (.h 0 []))], [], [], 3281⟩)])) .nil) .o) (.n none (.n none .o (.n none (.loop ⟨[.lf (.int .i64)], [(5, .one (.h 0 []))], [], [], 3410⟩ false [(.exit 2, ⟨[], [], [], [], 3410⟩)] .o) .o)) (.n none .o (.n none (.loop ⟨[.lf (.int .i64)], [(54, .one (.h 0 []))], [], [], 3730⟩ false [(.exit 4, ⟨[], [], [], [], 3730⟩)] (.n none .o (.n none .o (.n none (.n none (.n none .o (.n none (.r (some (true, [(.normal, ⟨[.lf .bool], [(65, .one (.any)), (66, .one (.any)), (67, .one (.any)), (68, .one (.any)), (69, .one (.any)), (70, .one (.any)), (71, .one (.any)), (72, .one (.any)), (73, .one (.any)), (74, .one (.any)), (75, .one (.any)), (76, .one (.any)), (77, .one (.h 0 []))], [], [], 4179⟩)])) .nil) .o)) .o) .o)))) .o))))) .o) .o)))) .o)) .o)))) pOk repOk (AllC.mem (⟨c55_ok, c56_ok, trivial⟩ : AllC _ _ [c55, c56])) hmix Try.call20 Try.func20 rfl rfl (by kernel_rfl) (fun h => by kernel_rfl)

noncomputable def dynposref31_New_L1 (a0 : List
  Stage) (a1 : Int) : Int × Int × List Work →
  Option
    (Int × Int × List Work ⊕
      Int ×
        List
          Work) := fun x3 =>
  if decide (x3.1 < len a0) = true then
    Option.bind (idx a0 x3.1) fun x4 =>
      Option.bind
        (if (len x4.Needs == 0) = true then some (1, a1, 1)
        else some (0, 0, 0))
        fun x5 =>
        Option.bind (app x3.2.2 [Work.mk x5.1 x5.2.1 x5.2.2]) fun x6 =>
          some (.inl (W (x3.1 + 1), x3.2.1, x6))
  else some (.inr (x3.2.1, x3.2.2))
noncomputable def dynposref31_New (a0 : (List Stage)) (a1 : Int) : Option (Int × Int × (List Work)) :=
  Option.bind (dynposref31_Check a0) fun x1 =>
    if (x1 != 0) = true then some (0, x1, [])
    else
      Option.bind (dynposref31_in a1 0 2147483648) fun x2 =>
        if (!x2) = true then some (0, 1, [])
        else
          Option.bind (loopO (dynposref31_New_L1 a0 a1) (0, a1, [])) fun x7 =>
            some (x7.1, 0, x7.2)
noncomputable def c28 : Con D := ⟨28, [.lf (.sl 4), .lf (.int .i64)], [.lf (.int .i64), .lf (.int .i64), .lf (.sl 6)], [.agg [.h 0 [0]], .one (.h 1 [])], [], [.agg [.h 0 [], .own 1000], .one (.h 1 [])], [(1000, .sl 6 62 2 [])], fun h => dynposref31_New h.1 h.2⟩
theorem c28_ok : ConOk Try.prog T c28 := fn_ok (Φ := [c20, c55]) (rs := [.cell 4 39, .tmp 5]) (an := (.n none .o (.n none .o (.n none .o (.n none .o (.n none (.n none .o (.n none (.loop ⟨[.lf (.int .i64), .lf (.int .i64), .lf (.sl 6)], [(26, .one (.h 0 []))], [(2832, .box [.h 1 [], .own 3216]), (3216, .sl 6 62 2 [])], [2832], 3280⟩ true [(.exit 0, ⟨[.lf (.int .i64), .lf (.sl 6)], [], [(2832, .box [.h 0 [], .own 3216]), (3216, .sl 6 62 1 [])], [2832], 3280⟩)] (.n none .o (.n none .o (.n none (.n none (.n none .o (.n none .o (.n none (.n none .o (.n (some (true, [(.normal, ⟨[.lf (.int .i64), .lf (.int .i64), .lf (.int .i64)], [], [(3667, .box [.h 0 [], .h 1 [], .h 2 []])], [3667], 4115⟩)])) .o .o)) .o))) .o) .o)))) .o)) .o)))))) pOk repOk (AllC.mem (⟨c20_ok, c55_ok, trivial⟩ : AllC _ _ [c20, c55])) hmix Try.call28 Try.func28 rfl rfl (by kernel_rfl) (fun h => by kernel_rfl)

noncomputable def Src_Fails (a0 : Src) (a1 : (List Stage)) : Option ((List Int) × Int × (List Int)) := Option.bind (Src_Some a0 (len a1) 5) fun x1 => some (x1.1, x1.2.1, x1.2.2)
noncomputable def c39 : Con D := ⟨39, [.lf (.sl 0), .lf (.int .i64), .lf (.sl 4)], [.lf (.sl 0), .lf (.int .i64), .lf (.sl 0)], [.one (.ptr 1000 0), .agg [.h 2 [0]]], [(1000, .box [.h 0 [0], .h 1 []])], [.one (.own 1001)], [(1000, .box [.h 0 [0], .h 1 []]), (1001, .sl 0 3 2 [])], fun h => Src_Fails ⟨h.1, h.2.1⟩ h.2.2⟩
theorem c39_ok : ConOk Try.prog T c39 := fn_ok (Φ := [c25]) (rs := [.tmp 4]) (an := .o) pOk repOk (AllC.mem (⟨c25_ok, trivial⟩ : AllC _ _ [c25])) hmix Try.call39 Try.func39 rfl rfl (by kernel_rfl) (fun h => by kernel_rfl)

noncomputable def dynposref31_ready_L1 (a0 : Stage) (a1 : List
  Work) : Int →
  Option
    (Int ⊕
      Unit ⊕
        Bool) := fun x1 =>
  if decide (x1 < len a0.Needs) = true then
    Option.bind (idx a0.Needs x1) fun x2 =>
      Option.bind (idx a1 x2) fun x3 =>
        if (x3.State != 2) = true then some (.inr (.inr false))
        else some (.inl (W (x1 + 1)))
  else some (.inr (.inl ()))
noncomputable def dynposref31_ready (a0 : Stage) (a1 : (List Work)) : Option (Bool) :=
  Option.bind (loopO (dynposref31_ready_L1 a0 a1) 0) fun x4 =>
    Sum.elim (fun x5 => some true) (fun x6 => some x6) x4
noncomputable def c61 : Con D := ⟨61, [.lf .str, .lf (.int .i64), .lf (.int .i64), .lf (.sl 0), .lf (.sl 6)], [.lf .bool], [.agg [.h 0 [], .h 1 [], .h 2 [], .h 3 [0]], .one (.h 4 [0])], [], [.one (.h 0 [])], [], fun h => dynposref31_ready ⟨h.1, h.2.1, h.2.2.1, h.2.2.2.1⟩ h.2.2.2.2⟩
theorem c61_ok : ConOk Try.prog T c61 := fn_ok (Φ := []) (rs := [.tmp 4]) (an := (.n none .o (.n none (.n none .o (.n none (.loop ⟨[.lf (.int .i64)], [(10, .one (.h 0 []))], [], [], 2448⟩ false [(.exit 0, ⟨[], [], [], [], 2448⟩)] .o) .o)) .o))) pOk repOk (AllC.mem (l := []) trivial) hmix Try.call61 Try.func61 rfl rfl (by kernel_rfl) (fun h => by kernel_rfl)

noncomputable def dynposref31_Valid_L1 (a0 : List
  Stage) (a1 : Progress) : Int →
  Option
    (Int ⊕
      Unit ⊕
        Bool) := fun x4 =>
  if decide (x4 < len a1.Works) = true then
    Option.bind (idx a1.Works x4) fun x5 =>
      Option.bind (idx a0 x4) fun x6 =>
        Option.bind (dynposref31_ready x6 a1.Works) fun x7 =>
          if (x7 == (x5.State == 0)) = true then some (.inr (.inr false))
          else
            Option.bind
              (if (x5.State == 0) = true then
                Option.bind (if (x5.Since != 0) = true then some true else some (x5.Tries != 0))
                  fun x22 => if x22 = true then some (.inr (.inr (.inr false))) else some (.inl ())
              else
                Option.bind
                  (if (x5.State == 1) = true then
                    Option.bind
                      (Option.bind
                        (dynposref31_in x5.Since (imax 0 (W (W (a1.Time - x6.Ticks) + 1)))
                          a1.Time)
                        fun x16 =>
                        if (!x16) = true then some true
                        else Option.bind (dynposref31_in x5.Tries 1 x6.Tries) fun x17 => some !x17)
                      fun x18 =>
                      if x18 = true then some (.inr (.inr (.inr (.inr false))))
                      else some (.inl ())
                  else
                    Option.bind
                      (if (x5.State == 2) = true then
                        Option.bind
                          (Option.bind (dynposref31_in x5.Since 0 (W (a1.Time - x6.Ticks))) fun x10 =>
                            if (!x10) = true then some true
                            else Option.bind (dynposref31_in x5.Tries 1 x6.Tries) fun x11 => some !x11)
                          fun x12 =>
                          if x12 = true then some (.inr (.inr (.inr (.inr (.inr false)))))
                          else some (.inl ())
                      else
                        if (x5.State == 3) = true then
                          Option.bind
                            (Option.bind (dynposref31_in x5.Since 0 a1.Time) fun x8 =>
                              if (!x8) = true then some true else some (x5.Tries != x6.Tries))
                            fun x9 =>
                            if x9 = true then some (.inr (.inr (.inr (.inr (.inr false)))))
                            else some (.inl ())
                        else some (.inr (.inr (.inr (.inr (.inr false))))))
                      fun x13 => Sum.elim (fun x14 => some (.inl ())) (fun x15 => some x15) x13)
                  fun x19 => Sum.elim (fun x20 => some (.inl ())) (fun x21 => some x21) x19)
              fun x23 => Sum.elim (fun x24 => some (.inl (W (x4 + 1)))) (fun x25 => some x25) x23
  else some (.inr (.inl ()))
noncomputable def dynposref31_Valid (a0 : (List Stage)) (a1 : Progress) : Option (Bool) :=
  Option.bind
    (Option.bind (dynposref31_Check a0) fun x1 =>
      if (x1 != 0) = true then some true
      else
        Option.bind (dynposref31_in a1.Time 0 2147483648) fun x2 =>
          if (!x2) = true then some true else some (len a1.Works != len a0))
    fun x3 =>
    if x3 = true then some false
    else
      Option.bind (loopO (dynposref31_Valid_L1 a0 a1) 0) fun x26 =>
        Sum.elim (fun x27 => some true) (fun x28 => some x28) x26
noncomputable def c34 : Con D := ⟨34, [.lf (.sl 4), .lf (.int .i64), .lf (.sl 6)], [.lf .bool], [.agg [.h 0 [0]], .agg [.h 1 [], .h 2 [0]]], [], [.one (.h 0 [])], [], fun h => dynposref31_Valid h.1 ⟨h.2.1, h.2.2⟩⟩
theorem c34_ok : ConOk Try.prog T c34 := fn_ok (Φ := [c20, c55, c61]) (rs := [.tmp 4]) (an := (.n none .o (.n none (.n none (.r (some (true, [(.normal, ⟨[.lf .bool], [(25, .one (.h 0 []))], [], [], 2256⟩)])) .nil) .o) (.n none (.n none .o (.n none (.loop ⟨[.lf (.int .i64)], [(29, .one (.h 0 []))], [], [], 2577⟩ false [(.exit 0, ⟨[], [], [], [], 2577⟩)] (.n none .o (.n none .o (.n none (.n none (.n none .o (.n none .o (.n none .o (.n none .o (.n none (.n none .o (.n (some (false, [(.normal, ⟨[], [], [], [], 4306⟩)])) (.n none (.r (some (true, [(.normal, ⟨[.lf .bool], [(55, .one (.any)), (56, .one (.any)), (57, .one (.any)), (58, .one (.h 0 []))], [], [], 4306⟩)])) .nil) .o) (.n none .o (.n (some (false, [(.normal, ⟨[], [], [], [], 4434⟩)])) (.n none (.r (some (true, [(.normal, ⟨[.lf .bool], [(75, .one (.any)), (76, .one (.any)), (77, .one (.any)), (78, .one (.any)), (79, .one (.any)), (80, .one (.any)), (81, .one (.h 0 []))], [], [], 4434⟩)])) .nil) .o) (.n none .o (.n (some (false, [(.normal, ⟨[], [], [], [], 4562⟩)])) (.n none (.r (some (true, [(.normal, ⟨[.lf .bool], [(94, .one (.any)), (95, .one (.any)), (96, .one (.any)), (97, .one (.any)), (98, .one (.any)), (99, .one (.any)), (100, .one (.h 0 []))], [], [], 4562⟩)])) .nil) .o) (.n none .o (.n none (.n none (.r (some (true, [(.normal, ⟨[.lf .bool], [(110, .one (.any)), (111, .one (.any)), (112, .one (.any)), (113, .one (.any)), (114, .one (.any)), (115, .one (.h 0 []))], [], [], 4690⟩)])) .nil) .o) .o)))))))) .o))))) .o) .o)))) .o)) .o)))) pOk repOk (AllC.mem (⟨c20_ok, c55_ok, c61_ok, trivial⟩ : AllC _ _ [c20, c55, c61])) hmix Try.call34 Try.func34 rfl rfl (by kernel_rfl) (fun h => by kernel_rfl)

noncomputable def dynposref01_Has_L1 (a0 : List
  Int) (a1 : Int) : Int →
  Option
    (Int ⊕
      Unit ⊕
        Bool) := fun x1 =>
  if decide (x1 < len a0) = true then
    Option.bind (idx a0 x1) fun x2 =>
      if (x2 == a1) = true then some (.inr (.inr true)) else some (.inl (W (x1 + 1)))
  else some (.inr (.inl ()))
noncomputable def dynposref01_Has (a0 : (List Int)) (a1 : Int) : Option (Bool) :=
  Option.bind (loopO (dynposref01_Has_L1 a0 a1) 0) fun x3 =>
    Sum.elim (fun x4 => some false) (fun x5 => some x5) x3
noncomputable def c57 : Con D := ⟨57, [.lf (.sl 0), .lf (.int .i64)], [.lf .bool], [.one (.h 0 [0]), .one (.h 1 [])], [], [.one (.h 0 [])], [], fun h => dynposref01_Has h.1 h.2⟩
theorem c57_ok : ConOk Try.prog T c57 := fn_ok (Φ := []) (rs := [.tmp 4]) (an := (.n none .o (.n none (.n none .o (.n none (.loop ⟨[.lf (.int .i64)], [(9, .one (.h 0 []))], [], [], 2320⟩ false [(.exit 0, ⟨[], [], [], [], 2320⟩)] .o) .o)) .o))) pOk repOk (AllC.mem (l := []) trivial) hmix Try.call57 Try.func57 rfl rfl (by kernel_rfl) (fun h => by kernel_rfl)

noncomputable def dynposref31_Step_v1_L1 (a0 : List
  Stage) (a1 : Progress) (a2 : List
  Int) : Int × Int →
  Option
    (Int × Int ⊕
      Int ⊕
        Int ×
          Int ×
            List Work ×
              List Int ×
                List
                  Work) := fun x3 =>
  if decide (x3.1 < len a2) = true then
    Option.bind (idx a2 x3.1) fun x4 =>
      Option.bind (dynposref31_in x4 0 (W (len a0 - 1))) fun x5 =>
        if (!x5) = true then some (.inr (.inr (0, 1, a1.Works, a2, [])))
        else some (.inl (W (x3.1 + 1), x3.2))
  else some (.inr (.inl x3.2))
noncomputable def dynposref31_Step_v1_L2 (a0 : List
  Stage) (a1 : Progress) (a2 : List
  Int) : Int × List Work →
  Option
    (Int × List Work ⊕
      List
        Work) := fun x9 =>
  if decide (x9.1 < len a1.Works) = true then
    Option.bind
      (Option.bind (idx a1.Works x9.1) fun x10 =>
        if (x10.State != 1) = true then some x9.2
        else
          Option.bind (idx a0 x9.1) fun x11 =>
            Option.bind
              (Option.bind (dynposref01_Has a2 x9.1) fun x12 =>
                if x12 = true then some (decide (x10.Tries < x11.Tries)) else some false)
              fun x13 =>
              Option.bind
                (if x13 = true then
                  Option.bind (idx x9.2 x9.1) fun x23 =>
                    Option.bind (idx x9.2 x9.1) fun x24 =>
                      Option.bind
                        (setO x9.2 x9.1
                          (Work.mk 1 (W (a1.Time + 1)) (W (x10.Tries + 1))))
                        fun x25 => some x25
                else
                  Option.bind (dynposref01_Has a2 x9.1) fun x14 =>
                    Option.bind
                      (if x14 = true then
                        Option.bind (idx x9.2 x9.1) fun x19 =>
                          Option.bind (idx x9.2 x9.1) fun x20 =>
                            Option.bind (setO x9.2 x9.1 (Work.mk 3 x20.Since x20.Tries)) fun x21 =>
                              some x21
                      else
                        Option.bind
                          (if decide (W (x10.Since + x11.Ticks) ≤ W (a1.Time + 1)) = true then
                            Option.bind (idx x9.2 x9.1) fun x15 =>
                              Option.bind (idx x9.2 x9.1) fun x16 =>
                                Option.bind (setO x9.2 x9.1 (Work.mk 2 x16.Since x16.Tries)) fun x17 =>
                                  some x17
                          else some x9.2)
                          fun x18 => some x18)
                      fun x22 => some x22)
                fun x26 => some x26)
      fun x27 => some (.inl (W (x9.1 + 1), x27))
  else some (.inr x9.2)
noncomputable def dynposref31_Step_v1_L3 (a0 : List
  Stage) (a1 : Progress) (x28 : List
  Work) : Int × List Work →
  Option
    (Int × List Work ⊕
      List
        Work) := fun x29 =>
  if decide (x29.1 < len x28) = true then
    Option.bind (idx x29.2 x29.1) fun x30 =>
      Option.bind
        (if (x30.State == 0) = true then
          Option.bind (idx a0 x29.1) fun x31 => Option.bind (dynposref31_ready x31 x29.2) fun x32 => some x32
        else some false)
        fun x33 =>
        Option.bind
          (if x33 = true then
            Option.bind (idx x29.2 x29.1) fun x34 =>
              Option.bind (idx x29.2 x29.1) fun x35 =>
                Option.bind (setO x29.2 x29.1 (Work.mk 1 (W (a1.Time + 1)) 1))
                  fun x36 => some x36
          else some x29.2)
          fun x37 => some (.inl (W (x29.1 + 1), x37))
  else some (.inr x29.2)
noncomputable def dynposref31_Step_v1 (a0 : (List Stage)) (a1 : Progress) (a2 : (List Int)) : Option (Int × Int × (List Work) × (List Int) × (List Work)) :=
  Option.bind (dynposref31_Check a0) fun x1 =>
    if (x1 != 0) = true then some (0, x1, a1.Works, a2, [])
    else
      Option.bind (dynposref31_Valid a0 a1) fun x2 =>
        if (!x2) = true then some (0, 67, a1.Works, a2, [])
        else
          Option.bind (loopO (dynposref31_Step_v1_L1 a0 a1 a2) (0, 0)) fun x6 =>
            Sum.elim
              (fun x7 =>
                if (a1.Time == 2147483648) = true then some (0, 16, a1.Works, a2, [])
                else
                  Option.bind (app [] a1.Works) fun x8 =>
                    Option.bind (loopO (dynposref31_Step_v1_L2 a0 a1 a2) (0, x8)) fun x28 =>
                      Option.bind (loopO (dynposref31_Step_v1_L3 a0 a1 x28) (0, x28)) fun x38 =>
                        some (W (a1.Time + 1), 0, a1.Works, a2, x38))
              (fun x39 => some x39) x6
noncomputable def c41_1 : Con D := ⟨41, [.lf (.sl 4), .lf (.int .i64), .lf (.sl 6), .lf (.sl 0)], [.lf (.int .i64), .lf (.int .i64), .lf (.sl 6), .lf (.sl 0), .lf (.sl 6)], [.agg [.h 0 [0]], .agg [.h 1 [], .own 1000], .one (.own 1001)], [(1000, .sl 6 62 2 []), (1001, .sl 0 3 3 [])], [.agg [.h 0 [], .own 1002], .one (.h 1 [])], [(1000, .sl 6 62 2 []), (1001, .sl 0 3 3 []), (1002, .sl 6 62 4 [])], fun h => dynposref31_Step_v1 h.1 ⟨h.2.1, h.2.2.1⟩ h.2.2.2⟩
theorem c41_1_ok : ConOk Try.prog T c41_1 := fn_ok (Φ := [c20, c34, c55, c57, c61]) (rs := [.cell 6 39, .tmp 7]) (an := (.n none .o (.n none .o (.n none .o (.n none (.n none .o (.n none (.loop ⟨[.lf (.int .i64), .lf (.int .i64)], [(30, .one (.h 0 []))], [(2128, .box [.h 1 [], .nils])], [2128], 3088⟩ false [(.exit 0, ⟨[.lf (.int .i64)], [], [(2128, .box [.h 0 [], .nils])], [2128], 3088⟩)] .o) .o)) (.n none .o (.n none .o (.n none (.n none .o (.n none (.loop ⟨[.lf (.int .i64), .lf (.sl 6)], [(57, .one (.h 0 []))], [(3601, .sl 6 62 1 [])], [3601], 4177⟩ true [(.exit 2, ⟨[.lf (.sl 6)], [], [(3601, .sl 6 62 0 [])], [3601], 4177⟩)] (.n none .o (.n none .o (.n none (.n (some (true, [(.normal, ⟨[.lf (.sl 6)], [], [(3601, .sl 6 62 0 [])], [3601], 4307⟩)])) (.n none .o (.n none .o (.n none .o (.n none (.n none (.r (some (true, [(.normal, ⟨[.lf .bool], [(70, .one (.h 0 [])), (75, .one (.any)), (76, .one (.any)), (77, .one (.any)), (78, .one (.any)), (79, .one (.any))], [], [], 5331⟩)])) .nil) (.n (some (true, [(.normal, ⟨[.lf (.sl 6)], [], [(3601, .sl 6 62 0 [])], [3601], 5396⟩)])) .o (.n none .o (.n (some (true, [(.normal, ⟨[.lf (.sl 6)], [], [(3601, .sl 6 62 0 [])], [3601], 5652⟩)])) .o (.n none .o (.n (some (true, [(.normal, ⟨[.lf (.sl 6)], [], [(3601, .sl 6 62 0 [])], [3601], 6228⟩)])) .o .o)))))) .o)))) .o) .o)))) .o)) (.n none (.n none .o (.n none (.loop ⟨[.lf (.int .i64), .lf (.sl 6)], [(118, .one (.h 0 []))], [(3601, .sl 6 62 1 [])], [3601], 4498⟩ true [(.exit 5, ⟨[.lf (.sl 6)], [], [(3601, .sl 6 62 0 [])], [3601], 4498⟩)] (.n none .o (.n none .o (.n none (.n none (.n none .o (.n none (.r (some (true, [(.normal, ⟨[.lf .bool], [(127, .one (.any)), (128, .one (.any)), (129, .one (.any)), (130, .one (.any)), (131, .one (.any)), (132, .one (.any)), (133, .one (.any)), (134, .one (.any)), (135, .one (.h 0 []))], [], [], 5012⟩)])) .nil) (.n (some (true, [(.normal, ⟨[.lf (.sl 6)], [], [(3601, .sl 6 62 0 [])], [3601], 5077⟩)])) .o .o))) .o) .o)))) .o)) .o))))))))) pOk repOk (AllC.mem (⟨c20_ok, c34_ok, c55_ok, c57_ok, c61_ok, trivial⟩ : AllC _ _ [c20, c34, c55, c57, c61])) hmix Try.call41 Try.func41 rfl rfl (by kernel_rfl) (fun h => by kernel_rfl)

noncomputable def dynposref31_Step_v2_L1 (a0 : List
  Stage) (a2 : List
  Int) : Int × Int →
  Option
    (Int × Int ⊕
      Int ⊕
        Int ×
          Int ×
            List Int ×
              List
                Work) := fun x3 =>
  if decide (x3.1 < len a2) = true then
    Option.bind (idx a2 x3.1) fun x4 =>
      Option.bind (dynposref31_in x4 0 (W (len a0 - 1))) fun x5 =>
        if (!x5) = true then some (.inr (.inr (0, 1, a2, [])))
        else some (.inl (W (x3.1 + 1), x3.2))
  else some (.inr (.inl x3.2))
noncomputable def dynposref31_Step_v2_L2 (a0 : List
  Stage) (a1 : Progress) (a2 : List
  Int) : Int × List Work →
  Option
    (Int × List Work ⊕
      List
        Work) := fun x9 =>
  if decide (x9.1 < len a1.Works) = true then
    Option.bind
      (Option.bind (idx a1.Works x9.1) fun x10 =>
        if (x10.State != 1) = true then some x9.2
        else
          Option.bind (idx a0 x9.1) fun x11 =>
            Option.bind
              (Option.bind (dynposref01_Has a2 x9.1) fun x12 =>
                if x12 = true then some (decide (x10.Tries < x11.Tries)) else some false)
              fun x13 =>
              Option.bind
                (if x13 = true then
                  Option.bind (idx x9.2 x9.1) fun x23 =>
                    Option.bind (idx x9.2 x9.1) fun x24 =>
                      Option.bind
                        (setO x9.2 x9.1
                          (Work.mk 1 (W (a1.Time + 1)) (W (x10.Tries + 1))))
                        fun x25 => some x25
                else
                  Option.bind (dynposref01_Has a2 x9.1) fun x14 =>
                    Option.bind
                      (if x14 = true then
                        Option.bind (idx x9.2 x9.1) fun x19 =>
                          Option.bind (idx x9.2 x9.1) fun x20 =>
                            Option.bind (setO x9.2 x9.1 (Work.mk 3 x20.Since x20.Tries)) fun x21 =>
                              some x21
                      else
                        Option.bind
                          (if decide (W (x10.Since + x11.Ticks) ≤ W (a1.Time + 1)) = true then
                            Option.bind (idx x9.2 x9.1) fun x15 =>
                              Option.bind (idx x9.2 x9.1) fun x16 =>
                                Option.bind (setO x9.2 x9.1 (Work.mk 2 x16.Since x16.Tries)) fun x17 =>
                                  some x17
                          else some x9.2)
                          fun x18 => some x18)
                      fun x22 => some x22)
                fun x26 => some x26)
      fun x27 => some (.inl (W (x9.1 + 1), x27))
  else some (.inr x9.2)
noncomputable def dynposref31_Step_v2_L3 (a0 : List
  Stage) (a1 : Progress) (x28 : List
  Work) : Int × List Work →
  Option
    (Int × List Work ⊕
      List
        Work) := fun x29 =>
  if decide (x29.1 < len x28) = true then
    Option.bind (idx x29.2 x29.1) fun x30 =>
      Option.bind
        (if (x30.State == 0) = true then
          Option.bind (idx a0 x29.1) fun x31 => Option.bind (dynposref31_ready x31 x29.2) fun x32 => some x32
        else some false)
        fun x33 =>
        Option.bind
          (if x33 = true then
            Option.bind (idx x29.2 x29.1) fun x34 =>
              Option.bind (idx x29.2 x29.1) fun x35 =>
                Option.bind (setO x29.2 x29.1 (Work.mk 1 (W (a1.Time + 1)) 1))
                  fun x36 => some x36
          else some x29.2)
          fun x37 => some (.inl (W (x29.1 + 1), x37))
  else some (.inr x29.2)
noncomputable def dynposref31_Step_v2 (a0 : (List Stage)) (a1 : Progress) (a2 : (List Int)) : Option (Int × Int × (List Int) × (List Work)) :=
  Option.bind (dynposref31_Check a0) fun x1 =>
    if (x1 != 0) = true then some (0, x1, a2, [])
    else
      Option.bind (dynposref31_Valid a0 a1) fun x2 =>
        if (!x2) = true then some (0, 67, a2, [])
        else
          Option.bind (loopO (dynposref31_Step_v2_L1 a0 a2) (0, 0)) fun x6 =>
            Sum.elim
              (fun x7 =>
                if (a1.Time == 2147483648) = true then some (0, 16, a2, [])
                else
                  Option.bind (app [] a1.Works) fun x8 =>
                    Option.bind (loopO (dynposref31_Step_v2_L2 a0 a1 a2) (0, x8)) fun x28 =>
                      Option.bind (loopO (dynposref31_Step_v2_L3 a0 a1 x28) (0, x28)) fun x38 =>
                        some (W (a1.Time + 1), 0, a2, x38))
              (fun x39 => some x39) x6
noncomputable def c41_2 : Con D := ⟨41, [.lf (.sl 4), .lf (.int .i64), .lf (.sl 6), .lf (.sl 0)], [.lf (.int .i64), .lf (.int .i64), .lf (.sl 0), .lf (.sl 6)], [.agg [.h 0 [0]], .agg [.h 1 [], .h 2 [0]], .one (.own 1000)], [(1000, .sl 0 3 3 [])], [.agg [.h 0 [], .own 1001], .one (.h 1 [])], [(1000, .sl 0 3 2 []), (1001, .sl 6 62 3 [0])], fun h => dynposref31_Step_v2 h.1 ⟨h.2.1, h.2.2.1⟩ h.2.2.2⟩
theorem c41_2_ok : ConOk Try.prog T c41_2 := fn_ok (Φ := [c20, c34, c55, c57, c61]) (rs := [.cell 6 39, .tmp 7]) (an := (.n none .o (.n none .o (.n none .o (.n none (.n none .o (.n none (.loop ⟨[.lf (.int .i64), .lf (.int .i64)], [(30, .one (.h 0 []))], [(2128, .box [.h 1 [], .nils])], [2128], 3088⟩ false [(.exit 0, ⟨[.lf (.int .i64)], [], [(2128, .box [.h 0 [], .nils])], [2128], 3088⟩)] .o) .o)) (.n none .o (.n none .o (.n none (.n none .o (.n none (.loop ⟨[.lf (.int .i64), .lf (.sl 6)], [(57, .one (.h 0 []))], [(3601, .sl 6 62 1 [0])], [3601], 4177⟩ true [(.exit 2, ⟨[.lf (.sl 6)], [], [(3601, .sl 6 62 0 [0])], [3601], 4177⟩)] (.n none .o (.n none .o (.n none (.n (some (true, [(.normal, ⟨[.lf (.sl 6)], [], [(3601, .sl 6 62 0 [0])], [3601], 4307⟩)])) (.n none .o (.n none .o (.n none .o (.n none (.n none (.r (some (true, [(.normal, ⟨[.lf .bool], [(70, .one (.h 0 [])), (75, .one (.any)), (76, .one (.any)), (77, .one (.any)), (78, .one (.any)), (79, .one (.any))], [], [], 5331⟩)])) .nil) (.n (some (true, [(.normal, ⟨[.lf (.sl 6)], [], [(3601, .sl 6 62 0 [0])], [3601], 5396⟩)])) .o (.n none .o (.n (some (true, [(.normal, ⟨[.lf (.sl 6)], [], [(3601, .sl 6 62 0 [0])], [3601], 5652⟩)])) .o (.n none .o (.n (some (true, [(.normal, ⟨[.lf (.sl 6)], [], [(3601, .sl 6 62 0 [0])], [3601], 6228⟩)])) .o .o)))))) .o)))) .o) .o)))) .o)) (.n none (.n none .o (.n none (.loop ⟨[.lf (.int .i64), .lf (.sl 6)], [(118, .one (.h 0 []))], [(3601, .sl 6 62 1 [0])], [3601], 4498⟩ true [(.exit 5, ⟨[.lf (.sl 6)], [], [(3601, .sl 6 62 0 [0])], [3601], 4498⟩)] (.n none .o (.n none .o (.n none (.n none (.n none .o (.n none (.r (some (true, [(.normal, ⟨[.lf .bool], [(127, .one (.any)), (128, .one (.any)), (129, .one (.any)), (130, .one (.any)), (131, .one (.any)), (132, .one (.any)), (133, .one (.any)), (134, .one (.any)), (135, .one (.h 0 []))], [], [], 5012⟩)])) .nil) (.n (some (true, [(.normal, ⟨[.lf (.sl 6)], [], [(3601, .sl 6 62 0 [0])], [3601], 5077⟩)])) .o .o))) .o) .o)))) .o)) .o))))))))) pOk repOk (AllC.mem (⟨c20_ok, c34_ok, c55_ok, c57_ok, c61_ok, trivial⟩ : AllC _ _ [c20, c34, c55, c57, c61])) hmix Try.call41 Try.func41 rfl rfl (by kernel_rfl) (fun h => by kernel_rfl)

noncomputable def Src_Progress_L1 (a1 : List
  Stage) : Int × List Int × Int × Int × List Work →
  Option
    (Int × List Int × Int × Int × List Work ⊕
      List Int ×
        Int ×
          Int ×
            List
              Work) := fun x4 =>
  if decide (x4.1 > 0) = true then
    Option.bind (Src_Fails (Src.mk x4.2.1 x4.2.2.1) a1) fun x5 =>
      Option.bind (dynposref31_Step_v2 a1 (Progress.mk x4.2.2.2.1 x4.2.2.2.2) x5.2.2) fun x6 =>
        some (.inl (W (x4.1 - 1), x5.1, x5.2.1, x6.1, x6.2.2.2))
  else some (.inr (x4.2.1, x4.2.2.1, x4.2.2.2.1, x4.2.2.2.2))
noncomputable def Src_Progress (a0 : Src) (a1 : (List Stage)) (a2 : Int) : Option (Int × (List Work) × (List Int) × Int) :=
  Option.bind (Src_N a0 5) fun x1 =>
    Option.bind (dynposref31_New a1 x1.1) fun x2 =>
      Option.bind (Src_N (Src.mk x1.2.1 x1.2.2) (W (a2 + 1))) fun x3 =>
        Option.bind (loopO (Src_Progress_L1 a1) (x3.1, x3.2.1, x3.2.2, x2.1, x2.2.2)) fun x7 =>
          some (x7.2.2.1, x7.2.2.2, x7.1, x7.2.1)
noncomputable def c18 : Con D := ⟨18, [.lf (.sl 0), .lf (.int .i64), .lf (.sl 4), .lf (.int .i64)], [.lf (.int .i64), .lf (.sl 6), .lf (.sl 0), .lf (.int .i64)], [.one (.ptr 1000 0), .agg [.h 2 [0]], .one (.h 3 [])], [(1000, .box [.h 0 [0], .h 1 []])], [.agg [.h 0 [], .h 1 [0, 1]]], [(1000, .box [.h 2 [0], .h 3 []])], fun h => Src_Progress ⟨h.1, h.2.1⟩ h.2.2.1 h.2.2.2⟩
theorem c18_ok : ConOk Try.prog T c18 := fn_ok (Φ := [c14, c28, c39, c41_1, c41_2]) (rs := [.cell 6 39]) (an := (.n none .o (.n none .o (.n none (.n none .o (.n none (.f [2328] (.loop ⟨[.lf (.int .i64), .lf (.sl 0), .lf (.int .i64), .lf (.int .i64), .lf (.sl 6)], [(9, .one (.h 0 []))], [(1000, .box [.h 1 [0], .h 2 []]), (2576, .box [.h 3 [], .h 4 [0, 1]])], [1000, 2576], 3152⟩ true [(.exit 0, ⟨[.lf (.sl 0), .lf (.int .i64), .lf (.int .i64), .lf (.sl 6)], [], [(1000, .box [.h 0 [0], .h 1 []]), (2576, .box [.h 2 [], .h 3 [0, 1]])], [1000, 2576], 3152⟩)] .o)) .o)) .o)))) pOk repOk (AllC.mem (⟨c14_ok, c28_ok, c39_ok, c41_1_ok, c41_2_ok, trivial⟩ : AllC _ _ [c14, c28, c39, c41_1, c41_2])) hmix Try.call18 Try.func18 rfl rfl (by kernel_rfl) (fun h => by kernel_rfl)

end Rx
end Go.Proofs.Ytnpnaopnhgkapaa
