/- Plain functions, walks. Written by a program (wip/gen). -/
import Derived.Test.YtnpnaopnhgkapaaRt
import Derived.Test.YtnpnaopnhgkapaaHc
import Derived.Test.YtnpnaopnhgkapaaRg1
import Derived.Test.YtnpnaopnhgkapaaRg2
set_option linter.unusedVariables false
set_option maxRecDepth 100000
namespace Go.Proofs.Ytnpnaopnhgkapaa
open Go Go.RowKit Dp
namespace Rx

noncomputable def Src_Progress_v1_L1 : Int × List Int × Int × List Stage × Int × List Work →
  Option
    (Int × List Int × Int × List Stage × Int × List Work ⊕
      List Int ×
        Int ×
          List Stage ×
            Int ×
              List
                Work) := fun x4 =>
  if decide (x4.1 > 0) = true then
    Option.bind (Src_Fails_v1 (Src.mk x4.2.1 x4.2.2.1) x4.2.2.2.1) fun x5 =>
      Option.bind
        (dynposref31_Step_v4 x5.2.2.1 (Progress.mk x4.2.2.2.2.1 x4.2.2.2.2.2) x5.2.2.2)
        fun x6 =>
        some (.inl (W (x4.1 - 1), x5.1, x5.2.1, x6.2.2.1, x6.1, x6.2.2.2.2))
  else some (.inr (x4.2.1, x4.2.2.1, x4.2.2.2.1, x4.2.2.2.2.1, x4.2.2.2.2.2))
noncomputable def Src_Progress_v1 (a0 : Src) (a1 : (List Stage)) (a2 : Int) : Option (Int × (List Work) × (List Int) × Int × (List Stage)) :=
  Option.bind (Src_N a0 5) fun x1 =>
    Option.bind (dynposref31_New a1 x1.1) fun x2 =>
      Option.bind (Src_N (Src.mk x1.2.1 x1.2.2) (W (a2 + 1))) fun x3 =>
        Option.bind (loopO Src_Progress_v1_L1 (x3.1, x3.2.1, x3.2.2, a1, x2.1, x2.2.2)) fun x7 =>
          some (x7.2.2.2.1, x7.2.2.2.2, x7.1, x7.2.1, x7.2.2.1)
noncomputable def c18_1 : Con D := ⟨18, [.lf (.sl 0), .lf (.int .i64), .lf (.sl 3), .lf (.int .i64)], [.lf (.int .i64), .lf (.sl 6), .lf (.sl 0), .lf (.int .i64), .lf (.sl 3)], [.one (.ptr 1000 0), .agg [.own 1001], .one (.h 3 [])], [(1000, .box [.h 0 [0], .h 1 []]), (1001, .sl 3 34 2 [0])], [.agg [.h 0 [], .h 1 [0, 1]]], [(1000, .box [.h 2 [0, 1], .h 3 []]), (1001, .sl 3 34 4 [0, 1])], fun h => Src_Progress_v1 ⟨h.1, h.2.1⟩ h.2.2.1 h.2.2.2⟩
theorem c18_1_ok : ConOk Try.prog T c18_1 := fn_ok (Φ := [c14, c28, c39_1, c41_3, c41_4]) (rs := [.cell 6 39]) (an := (.n none .o (.n none .o (.n none (.n none .o (.n none (.f [2328] (.loop ⟨[.lf (.int .i64), .lf (.sl 0), .lf (.int .i64), .lf (.sl 3), .lf (.int .i64), .lf (.sl 6)], [(9, .one (.h 0 []))], [(1000, .box [.h 1 [0, 1], .h 2 []]), (1001, .sl 3 34 3 [0, 1]), (2576, .box [.h 4 [], .h 5 [0, 1]])], [1000, 1001, 2576], 3152⟩ true [(.exit 0, ⟨[.lf (.sl 0), .lf (.int .i64), .lf (.sl 3), .lf (.int .i64), .lf (.sl 6)], [], [(1000, .box [.h 0 [0, 1], .h 1 []]), (1001, .sl 3 34 2 [0, 1]), (2576, .box [.h 3 [], .h 4 [0, 1]])], [1000, 1001, 2576], 3152⟩)] .o)) .o)) .o)))) pOk repOk (AllC.mem (⟨c14_ok, c28_ok, c39_1_ok, c41_3_ok, c41_4_ok, trivial⟩ : AllC _ _ [c14, c28, c39_1, c41_3, c41_4])) hmix Try.call18 Try.func18 rfl rfl (by kernel_rfl) (fun h => by kernel_rfl)

noncomputable def disconnect_check_1 (a0 : Int) (a1 : Sequence) : Option (Bool) :=
  Option.bind (if decide (a0 < 0) = true then some true else some (decide (a0 ≥ len a1.Stages))) fun x1 =>
    some x1
noncomputable def c74 : Con D := ⟨74, [.lf (.int .i64), .el 4], [.lf .bool], [.one (.h 0 []), .one (.rp 1 4 [0])], [], [.one (.h 0 [])], [], fun h => disconnect_check_1 h.1 h.2⟩
theorem c74_ok : ConOk Try.prog T c74 := fn_ok (Φ := []) (rs := [.tmp 3]) (an := (.n none .o (.n none (.r (some (true, [(.normal, ⟨[.lf .bool], [(3, .one (.h 0 []))], [], [], 2128⟩)])) .nil) .o))) pOk repOk (AllC.mem (l := []) trivial) hmix Try.call74 Try.func74 rfl rfl (by kernel_rfl) (fun h => by kernel_rfl)

noncomputable def slices_IndexFunc_int_int_v1_L1 (a0 : List
  Int) (a1 : Sequence) : Int →
  Option
    (Int ⊕
      Unit ⊕
        Int) := fun x1 =>
  if decide (x1 < len a0) = true then
    Option.bind (idx a0 x1) fun x2 =>
      Option.bind (disconnect_check_1 x2 a1) fun x3 =>
        if x3 = true then some (.inr (.inr x1)) else some (.inl (W (x1 + 1)))
  else some (.inr (.inl ()))
noncomputable def slices_IndexFunc_int_int_v1 (a0 : (List Int)) (a1 : Sequence) : Option (Int) :=
  Option.bind (loopO (slices_IndexFunc_int_int_v1_L1 a0 a1) 0) fun x4 =>
    Sum.elim (fun x5 => some (-1)) (fun x6 => some x6) x4
noncomputable def c77_1 : Con D := ⟨77, [.lf (.sl 0), .el 4], [.lf (.int .i64)], [.one (.h 0 [0]), .one (.fn 74 [.rp 1 4 [0]])], [], [.one (.h 0 [])], [], fun h => slices_IndexFunc_int_int_v1 h.1 h.2⟩
theorem c77_1_ok : ConOk Try.prog T c77_1 := fn_ok (Φ := [c74]) (rs := [.tmp 4]) (an := (.n none .o (.n none (.n none .o (.n none (.loop ⟨[.lf (.int .i64)], [(8, .one (.h 0 []))], [], [], 2320⟩ false [(.exit 0, ⟨[], [], [], [], 2320⟩)] .o) .o)) .o))) pOk repOk (AllC.mem (⟨c74_ok, trivial⟩ : AllC _ _ [c74])) hmix Try.call77 Try.func77 rfl rfl (by kernel_rfl) (fun h => by kernel_rfl)

noncomputable def slices_ContainsFunc_int_int_v1 (a0 : (List Int)) (a1 : Sequence) : Option (Bool) := Option.bind (slices_IndexFunc_int_int_v1 a0 a1) fun x1 => some (decide (x1 ≥ 0))
noncomputable def c71_1 : Con D := ⟨71, [.lf (.sl 0), .el 4], [.lf .bool], [.one (.h 0 [0]), .one (.fn 74 [.rp 1 4 [0]])], [], [.one (.h 0 [])], [], fun h => slices_ContainsFunc_int_int_v1 h.1 h.2⟩
theorem c71_1_ok : ConOk Try.prog T c71_1 := fn_ok (Φ := [c77_1]) (rs := [.tmp 4]) (an := .o) pOk repOk (AllC.mem (⟨c77_1_ok, trivial⟩ : AllC _ _ [c77_1])) hmix Try.call71 Try.func71 rfl rfl (by kernel_rfl) (fun h => by kernel_rfl)

noncomputable def disconnect_check (a0 : (List Stage)) (a1 : Progress) (a2 : (List Int)) : Option (Int) :=
  Option.bind (disconnect_Check a0) fun x1 =>
    if (x1 != 0) = true then some x1
    else
      Option.bind (disconnect_Valid a0 a1) fun x2 =>
        if (!x2) = true then some 67
        else
          Option.bind (slices_ContainsFunc_int_int_v1 a2 (Sequence.mk a0)) fun x3 =>
            if x3 = true then some 1
            else if (a1.Time == 2147483648) = true then some 16 else some 0
noncomputable def c65 : Con D := ⟨65, [.lf (.sl 3), .lf (.int .i64), .lf (.sl 6), .lf (.sl 0)], [.lf (.int .i64)], [.agg [.h 0 [0]], .agg [.h 1 [], .h 2 [0]], .one (.h 3 [0])], [], [.one (.h 0 [])], [], fun h => disconnect_check h.1 ⟨h.2.1, h.2.2.1⟩ h.2.2.2⟩
theorem c65_ok : ConOk Try.prog T c65 := fn_ok (Φ := [c19, c33, c71_1]) (rs := [.tmp 6]) (an := .o) pOk repOk (AllC.mem (⟨c19_ok, c33_ok, c71_1_ok, trivial⟩ : AllC _ _ [c19, c33, c71_1])) hmix Try.call65 Try.func65 rfl rfl (by kernel_rfl) (fun h => by kernel_rfl)

noncomputable def slices_Clone_Work_Work (a0 : (List Work)) : Option ((List Work)) := app [] a0
noncomputable def c66 : Con D := ⟨66, [.lf (.sl 6)], [.lf (.sl 6)], [.one (.h 0 [0])], [], [.one (.own 1000)], [(1000, .sl 6 62 0 [])], fun h => slices_Clone_Work_Work h⟩
theorem c66_ok : ConOk Try.prog T c66 := by
  refine ⟨Try.call66, rfl, rfl, rfl, rfl, fun xs0 r0 hr0 avs obs has hobs γ w vs hv _ => ?_⟩
  cases has
  match vs, hv with
  | [], hv => exact hv.elim
  | _ :: _ :: _, hv => exact hv.2.elim
  | [v], hv =>
  obtain ⟨xs, hxs⟩ : ∃ xs : List (D 6), xs = xs0 := ⟨_, rfl⟩
  obtain ⟨r, hrr⟩ : ∃ r : List (D 6), r = r0 := ⟨_, rfl⟩
  have g0 : Rv (In γ.o [0]) w v xs := by rw [hxs]; exact hv.1.1
  have hr : app ([] : List (D 6)) xs = some r := by rw [hxs, hrr]; exact hr0
  subst hrr
  have hT := slr37.2
  refine enter (l := [v]) Try.func66 rfl Try.ntmps66 rfl ?_
  refine CW.sub (L' := [(0, v)]) ⟨rfl, trivial⟩ ?_
  refine CW.sr fun K1 hK1 => ?_
  refine WL.p (.slice none 0 0) rfl rfl ?_
  refine WL.nx hK1 ?_
  refine CW.seq fun K2 hK2 => ?_
  refine CW.sr fun K3 hK3 => ?_
  refine WL.p v rfl rfl ?_
  obtain ⟨a, m, q, rfl, hn⟩ := rvSlice g0
  refine WL.stepE (OW.isNil slr37.1 rfl) rfl ?_
  refine WL.nx hK3 ?_
  cases a with
  | none =>
    refine CW.cond (b := true) rfl (fun _ => ?_) (fun h => nomatch h)
    refine CW.sr fun K4 hK4 => ?_
    refine WL.p (.slice none 0 0) rfl rfl ?_
    refine WL.nx hK4 ?_
    rw [hn rfl] at hr
    obtain rfl := app_nil hr
    exact CW.rets (vs := [.slice none 0 0]) Try.results66 ⟨rfl, trivial⟩ ⟨_, rfl, end_own (n := 6) (e := 62) (q := 1000) (K := []) (M := []) (N := []) rfl rfl rfl (by simp) (by simp) (Evo.refl _ _ γ.o w) (Ow.nil _ _ _ _ _) (fun x hx => by simp at hx <;> omega)⟩ (fun _ _ h => h)
  | some a =>
    refine CW.cond (b := false) rfl (fun h => nomatch h) (fun _ => ?_)
    refine CW.skip ?_
    refine hK2 _ _ ?_
    refine CW.sr fun K5 hK5 => ?_
    refine WL.step (OW.buildSlice (o := γ.o) (k := 1000) (K := []) (xs := ([] : List (D 6))) slr37.1 hT rfl trivial rfl rfl) rfl ?_
    rintro v1 w1 ⟨o1, ev1, h1⟩
    have g0 := g0.evo ev1 rfl
    refine WL.p (.slice (some a) m q) rfl rfl ?_
    refine WL.step (OW.append (K := []) slr37.1 hT rfl rfl h1 (@Els.flat (D 6) _ flat6 _ _ _ _ _ g0.els) hr rfl) rfl ?_
    rintro v2 w2 ⟨o2, ev2, h2⟩
    refine WL.p v2 rfl rfl ?_
    refine WL.nx hK5 ?_
    exact CW.rets (vs := [v2]) Try.results66 ⟨rfl, trivial⟩ ⟨_, rfl, end_own (n := 6) (e := 62) (q := 1000) (K := []) (M := [1000]) (N := [1000]) rfl rfl rfl (by simp) (by simp) ((ev1.weaken (by simp) (by simp)).trans ev2) h2 (fun x hx => by simp at hx <;> omega)⟩ (fun _ _ h => h)

noncomputable def disconnect_Step_v2_L1 (a0 : List
  Stage) (a1 : Progress) (a2 : List
  Int) : Int × List Work →
  Option
    (Int × List Work ⊕
      List
        Work) := fun x3 =>
  if decide (x3.1 < len a0) = true then
    Option.bind (idx a0 x3.1) fun x4 =>
      Option.bind (idx x3.2 x3.1) fun x5 =>
        Option.bind
          (if (x5.State != 1) = true then some x3.2
          else
            Option.bind
              (Option.bind (slices_Contains_int_int a2 x3.1) fun x6 =>
                if x6 = true then some (decide (x5.Tries < x4.Tries)) else some false)
              fun x7 =>
              Option.bind
                (if x7 = true then
                  Option.bind (idx x3.2 x3.1) fun x15 =>
                    Option.bind (setO x3.2 x3.1 (Work.mk x15.State (W (a1.Time + 1)) x15.Tries))
                      fun x16 =>
                      Option.bind (idx x16 x3.1) fun x17 =>
                        Option.bind (idx x16 x3.1) fun x18 =>
                          Option.bind (setO x16 x3.1 (Work.mk x18.State x18.Since (W (x17.Tries + 1))))
                            fun x19 => some x19
                else
                  Option.bind (slices_Contains_int_int a2 x3.1) fun x8 =>
                    Option.bind
                      (if x8 = true then
                        Option.bind (idx x3.2 x3.1) fun x12 =>
                          Option.bind (setO x3.2 x3.1 (Work.mk 3 x12.Since x12.Tries)) fun x13 =>
                            some x13
                      else
                        Option.bind
                          (if decide (W (x5.Since + x4.Ticks) ≤ W (a1.Time + 1)) = true then
                            Option.bind (idx x3.2 x3.1) fun x9 =>
                              Option.bind (setO x3.2 x3.1 (Work.mk 2 x9.Since x9.Tries)) fun x10 =>
                                some x10
                          else some x3.2)
                          fun x11 => some x11)
                      fun x14 => some x14)
                fun x20 => some x20)
          fun x21 => some (.inl (W (x3.1 + 1), x21))
  else some (.inr x3.2)
noncomputable def disconnect_Step_v2 (a0 : (List Stage)) (a1 : Progress) (a2 : (List Int)) : Option (Int × Int × (List Stage) × (List Work) × (List Int) × (List Work)) :=
  Option.bind (disconnect_check a0 a1 a2) fun x1 =>
    if (x1 != 0) = true then some (0, x1, a0, a1.Works, a2, [])
    else
      Option.bind (slices_Clone_Work_Work a1.Works) fun x2 =>
        Option.bind (loopO (disconnect_Step_v2_L1 a0 a1 a2) (0, x2)) fun x22 =>
          Option.bind (disconnect_begin_v1 a0 (Progress.mk (W (a1.Time + 1)) x22)) fun x23 =>
            some (W (a1.Time + 1), 0, x23.1, a1.Works, a2, x23.2)
noncomputable def c40_2 : Con D := ⟨40, [.lf (.sl 3), .lf (.int .i64), .lf (.sl 6), .lf (.sl 0)], [.lf (.int .i64), .lf (.int .i64), .lf (.sl 3), .lf (.sl 6), .lf (.sl 0), .lf (.sl 6)], [.agg [.own 1000], .agg [.h 1 [], .own 1001], .one (.own 1002)], [(1000, .sl 3 34 0 [0]), (1001, .sl 6 62 2 [0]), (1002, .sl 0 3 3 [0])], [.agg [.h 0 [], .own 1003], .one (.h 1 [])], [(1000, .sl 3 34 2 [0]), (1001, .sl 6 62 3 [0]), (1002, .sl 0 3 4 [0]), (1003, .sl 6 62 5 [0])], fun h => disconnect_Step_v2 h.1 ⟨h.2.1, h.2.2.1⟩ h.2.2.2⟩
theorem c40_2_ok : ConOk Try.prog T c40_2 := fn_ok (Φ := [c50, c58_1, c65, c66]) (rs := [.cell 6 39, .tmp 7]) (an := (.n none .o (.n none .o (.n none .o (.n none (.n none .o (.n none (.loop ⟨[.lf (.int .i64), .lf (.sl 6)], [(31, .one (.h 0 []))], [(3032, .sl 6 62 1 [])], [3032], 3600⟩ true [(.exit 0, ⟨[.lf (.sl 6)], [], [(3032, .sl 6 62 0 [])], [3032], 3600⟩)] (.n none .o (.n none .o (.n none (.n none (.n none .o (.n none .o (.n none (.n none .o (.n (some (true, [(.normal, ⟨[.lf (.sl 6)], [], [(3032, .sl 6 62 0 [])], [3032], 4818⟩)])) .o (.n none (.r (some (true, [(.normal, ⟨[.lf .bool], [(46, .one (.h 0 [])), (51, .one (.any)), (52, .one (.any)), (53, .one (.any)), (54, .one (.any)), (55, .one (.any)), (56, .one (.any)), (57, .one (.any))], [], [], 4818⟩)])) .nil) (.n (some (true, [(.normal, ⟨[.lf (.sl 6)], [], [(3032, .sl 6 62 0 [])], [3032], 4883⟩)])) .o (.n none .o (.n (some (true, [(.normal, ⟨[.lf (.sl 6)], [], [(3032, .sl 6 62 0 [])], [3032], 5139⟩)])) .o (.n none .o (.n (some (true, [(.normal, ⟨[.lf (.sl 6)], [], [(3032, .sl 6 62 0 [])], [3032], 5843⟩)])) .o .o)))))))) .o))) .o) .o)))) .o)) .o))))) pOk repOk (AllC.mem (⟨c50_ok, c58_1_ok, c65_ok, c66_ok, trivial⟩ : AllC _ _ [c50, c58_1, c65, c66])) hmix Try.call40 Try.func40 rfl rfl (by kernel_rfl) (fun h => by kernel_rfl)

noncomputable def disconnect_Step_v3_L1 (a0 : List
  Stage) (a1 : Progress) (a2 : List
  Int) : Int × List Work →
  Option
    (Int × List Work ⊕
      List
        Work) := fun x3 =>
  if decide (x3.1 < len a0) = true then
    Option.bind (idx a0 x3.1) fun x4 =>
      Option.bind (idx x3.2 x3.1) fun x5 =>
        Option.bind
          (if (x5.State != 1) = true then some x3.2
          else
            Option.bind
              (Option.bind (slices_Contains_int_int a2 x3.1) fun x6 =>
                if x6 = true then some (decide (x5.Tries < x4.Tries)) else some false)
              fun x7 =>
              Option.bind
                (if x7 = true then
                  Option.bind (idx x3.2 x3.1) fun x15 =>
                    Option.bind (setO x3.2 x3.1 (Work.mk x15.State (W (a1.Time + 1)) x15.Tries))
                      fun x16 =>
                      Option.bind (idx x16 x3.1) fun x17 =>
                        Option.bind (idx x16 x3.1) fun x18 =>
                          Option.bind (setO x16 x3.1 (Work.mk x18.State x18.Since (W (x17.Tries + 1))))
                            fun x19 => some x19
                else
                  Option.bind (slices_Contains_int_int a2 x3.1) fun x8 =>
                    Option.bind
                      (if x8 = true then
                        Option.bind (idx x3.2 x3.1) fun x12 =>
                          Option.bind (setO x3.2 x3.1 (Work.mk 3 x12.Since x12.Tries)) fun x13 =>
                            some x13
                      else
                        Option.bind
                          (if decide (W (x5.Since + x4.Ticks) ≤ W (a1.Time + 1)) = true then
                            Option.bind (idx x3.2 x3.1) fun x9 =>
                              Option.bind (setO x3.2 x3.1 (Work.mk 2 x9.Since x9.Tries)) fun x10 =>
                                some x10
                          else some x3.2)
                          fun x11 => some x11)
                      fun x14 => some x14)
                fun x20 => some x20)
          fun x21 => some (.inl (W (x3.1 + 1), x21))
  else some (.inr x3.2)
noncomputable def disconnect_Step_v3 (a0 : (List Stage)) (a1 : Progress) (a2 : (List Int)) : Option (Int × Int × (List Stage) × (List Int) × (List Work)) :=
  Option.bind (disconnect_check a0 a1 a2) fun x1 =>
    if (x1 != 0) = true then some (0, x1, a0, a2, [])
    else
      Option.bind (slices_Clone_Work_Work a1.Works) fun x2 =>
        Option.bind (loopO (disconnect_Step_v3_L1 a0 a1 a2) (0, x2)) fun x22 =>
          Option.bind (disconnect_begin_v1 a0 (Progress.mk (W (a1.Time + 1)) x22)) fun x23 =>
            some (W (a1.Time + 1), 0, x23.1, a2, x23.2)
noncomputable def c40_3 : Con D := ⟨40, [.lf (.sl 3), .lf (.int .i64), .lf (.sl 6), .lf (.sl 0)], [.lf (.int .i64), .lf (.int .i64), .lf (.sl 3), .lf (.sl 0), .lf (.sl 6)], [.agg [.own 1000], .agg [.h 1 [], .h 2 [0]], .one (.own 1001)], [(1000, .sl 3 34 0 [0]), (1001, .sl 0 3 3 [0])], [.agg [.h 0 [], .own 1002], .one (.h 1 [])], [(1000, .sl 3 34 2 [0]), (1001, .sl 0 3 3 [0]), (1002, .sl 6 62 4 [0])], fun h => disconnect_Step_v3 h.1 ⟨h.2.1, h.2.2.1⟩ h.2.2.2⟩
theorem c40_3_ok : ConOk Try.prog T c40_3 := fn_ok (Φ := [c50, c58_1, c65, c66]) (rs := [.cell 6 39, .tmp 7]) (an := (.n none .o (.n none .o (.n none .o (.n none (.n none .o (.n none (.loop ⟨[.lf (.int .i64), .lf (.sl 6)], [(31, .one (.h 0 []))], [(3032, .sl 6 62 1 [])], [3032], 3600⟩ true [(.exit 0, ⟨[.lf (.sl 6)], [], [(3032, .sl 6 62 0 [])], [3032], 3600⟩)] (.n none .o (.n none .o (.n none (.n none (.n none .o (.n none .o (.n none (.n none .o (.n (some (true, [(.normal, ⟨[.lf (.sl 6)], [], [(3032, .sl 6 62 0 [])], [3032], 4818⟩)])) .o (.n none (.r (some (true, [(.normal, ⟨[.lf .bool], [(46, .one (.h 0 [])), (51, .one (.any)), (52, .one (.any)), (53, .one (.any)), (54, .one (.any)), (55, .one (.any)), (56, .one (.any)), (57, .one (.any))], [], [], 4818⟩)])) .nil) (.n (some (true, [(.normal, ⟨[.lf (.sl 6)], [], [(3032, .sl 6 62 0 [])], [3032], 4883⟩)])) .o (.n none .o (.n (some (true, [(.normal, ⟨[.lf (.sl 6)], [], [(3032, .sl 6 62 0 [])], [3032], 5139⟩)])) .o (.n none .o (.n (some (true, [(.normal, ⟨[.lf (.sl 6)], [], [(3032, .sl 6 62 0 [])], [3032], 5843⟩)])) .o .o)))))))) .o))) .o) .o)))) .o)) .o))))) pOk repOk (AllC.mem (⟨c50_ok, c58_1_ok, c65_ok, c66_ok, trivial⟩ : AllC _ _ [c50, c58_1, c65, c66])) hmix Try.call40 Try.func40 rfl rfl (by kernel_rfl) (fun h => by kernel_rfl)

noncomputable def dynposlaw31_DisconnectEnds_L1 : Int × List Stage × Int × List Work →
  Option
    (Int × List Stage × Int × List Work ⊕
      List Stage × Int × List Work ⊕
        Bool) := fun x5 =>
  if decide (x5.1 > 0) = true then
    Option.bind (disconnect_Done (Progress.mk x5.2.2.1 x5.2.2.2)) fun x6 =>
      if x6 = true then some (.inr (.inr false))
      else
        Option.bind (disconnect_Step_v3 x5.2.1 (Progress.mk x5.2.2.1 x5.2.2.2) []) fun x7 =>
          Option.bind (disconnect_Left x7.2.2.1 (Progress.mk x7.1 x7.2.2.2.2)) fun x8 =>
            Option.bind
              (if (x7.2.1 != 0) = true then some true
              else
                if (!x8.2) = true then some true
                else
                  if (x8.1 != W (x5.1 - 1)) = true then some true
                  else
                    Option.bind (disconnect_Valid x7.2.2.1 (Progress.mk x7.1 x7.2.2.2.2)) fun x9 =>
                      some !x9)
              fun x10 =>
              if x10 = true then some (.inr (.inr false))
              else some (.inl (W (x5.1 - 1), x7.2.2.1, x7.1, x7.2.2.2.2))
  else some (.inr (.inl (x5.2.1, x5.2.2.1, x5.2.2.2)))
noncomputable def dynposlaw31_DisconnectEnds (a0 : (List Int)) : Option (Bool) :=
  if decide (len a0 > 600) = true then Option.bind dynposlaw31_sane fun x20 => some x20
  else
    Option.bind (dynposmake_New a0) fun x1 =>
      Option.bind (Src_Sequence (Src.mk x1.1 x1.2)) fun x2 =>
        Option.bind (Src_Progress_v1 (Src.mk x2.1 x2.2.1) x2.2.2 10) fun x3 =>
          Option.bind (disconnect_Left x3.2.2.2.2 (Progress.mk x3.1 x3.2.1)) fun x4 =>
            if (!x4.2) = true then
              Option.bind
                (Option.bind (disconnect_Stuck (Progress.mk x3.1 x3.2.1)) fun x17 =>
                  if x17 = true then Option.bind dynposlaw31_sane fun x18 => some x18 else some false)
                fun x19 => some x19
            else
              Option.bind (loopO dynposlaw31_DisconnectEnds_L1 (x4.1, x3.2.2.2.2, x3.1, x3.2.1))
                fun x11 =>
                Sum.elim
                  (fun x12 =>
                    Option.bind
                      (Option.bind (disconnect_Done (Progress.mk x12.2.1 x12.2.2)) fun x13 =>
                        if x13 = true then Option.bind dynposlaw31_sane fun x14 => some x14 else some false)
                      fun x15 => some x15)
                  (fun x16 => some x16) x11
noncomputable def c5 : Con D := ⟨5, [.lf (.sl 0)], [.lf .bool], [.one (.h 0 [0])], [], [.one (.h 0 [])], [], fun h => dynposlaw31_DisconnectEnds h⟩
theorem c5_ok : ConOk Try.prog T c5 := fn_ok (Φ := [c9, c10, c11, c18_1, c31, c33, c35, c37, c40_3]) (rs := [.tmp 2]) (an := (.n none .o (.n none .o (.n none .o (.n none .o (.n none .o (.n none .o (.n none (.n none .o (.n none (.n none (.r (some (true, [(.normal, ⟨[.lf .bool], [(2, .one (.h 0 []))], [], [], 3728⟩)])) .nil) .o) .o)) (.n none (.n none (.loop ⟨[.lf (.int .i64), .lf (.sl 3), .lf (.int .i64), .lf (.sl 6)], [(6, .one (.h 0 []))], [(2520, .sl 3 34 1 [0, 1]), (2896, .box [.h 2 [], .h 3 [0, 1]])], [2520, 2896], 3728⟩ false [(.exit 0, ⟨[.lf (.sl 3), .lf (.int .i64), .lf (.sl 6)], [], [(2520, .sl 3 34 0 [0, 1]), (2896, .box [.h 1 [], .h 2 [0, 1]])], [2520, 2896], 3728⟩)] (.n none .o (.n none (.n none (.n none .o (.n none .o (.n none .o (.n none (.n none (.r (some (true, [(.normal, ⟨[.lf .bool], [(57, .one (.any)), (58, .one (.any)), (61, .one (.any)), (62, .one (.any)), (63, .one (.any)), (64, .one (.any)), (67, .one (.any)), (68, .one (.any)), (69, .one (.any)), (70, .one (.any)), (71, .one (.h 0 []))], [], [], 5140⟩)])) .nil) .o) .o)))) .o) .o))) .o) (.n none (.r (some (true, [(.normal, ⟨[.lf .bool], [(2, .one (.h 0 []))], [], [], 3795⟩)])) .nil) .o)))))))))) pOk repOk (AllC.mem (⟨c9_ok, c10_ok, c11_ok, c18_1_ok, c31_ok, c33_ok, c35_ok, c37_ok, c40_3_ok, trivial⟩ : AllC _ _ [c9, c10, c11, c18_1, c31, c33, c35, c37, c40_3])) hmix Try.call5 Try.func5 rfl rfl (by kernel_rfl) (fun h => by kernel_rfl)

noncomputable def dynposlaw31_DisconnectLongest_L2 (x5 : Int ×
  List Int ×
    Int ×
      List Stage ×
        Int ×
          List
            Work) : Int × List Int × List Int × Int →
  Option
    (Int × List Int × List Int × Int ⊕
      List Int ×
        List Int ×
          Int) := fun x8 =>
  if decide (x8.1 < len x5.2.2.2.2.2) = true then
    Option.bind (idx x5.2.2.2.2.2 x8.1) fun x9 =>
      Option.bind
        (if (x9.State == 1) = true then
          Option.bind (idx x5.2.2.2.1 x8.1) fun x10 =>
            if decide (x9.Tries < x10.Tries) = true then
              Option.bind (Src_N (Src.mk x8.2.2.1 x8.2.2.2) 3) fun x11 =>
                some (x11.1 == 2, x11.2.1, x11.2.2)
            else some (false, x8.2.2.1, x8.2.2.2)
        else some (false, x8.2.2.1, x8.2.2.2))
        fun x12 =>
        Option.bind
          (if x12.1 = true then Option.bind (app x8.2.1 [x8.1]) fun x13 => some x13 else some x8.2.1)
          fun x14 => some (.inl (W (x8.1 + 1), x14, x12.2.1, x12.2.2))
  else some (.inr (x8.2.1, x8.2.2.1, x8.2.2.2))
noncomputable def dynposlaw31_DisconnectLongest_L1 : Int × List Int × Int × List Stage × Int × List Work →
  Option
    (Int × List Int × Int × List Stage × Int × List Work ⊕
      List Int × Int × List Stage × Int × List Work ⊕
        Bool) := fun x5 =>
  Option.bind
    (if decide (x5.1 > 0) = true then
      Option.bind (disconnect_Done (Progress.mk x5.2.2.2.2.1 x5.2.2.2.2.2)) fun x6 => some !x6
    else some false)
    fun x7 =>
    if x7 = true then
      Option.bind (loopO (dynposlaw31_DisconnectLongest_L2 x5) (0, [], x5.2.1, x5.2.2.1)) fun x15 =>
        Option.bind
          (disconnect_Step_v3 x5.2.2.2.1 (Progress.mk x5.2.2.2.2.1 x5.2.2.2.2.2) x15.1)
          fun x16 =>
          if (x16.2.1 != 0) = true then some (.inr (.inr false))
          else
            some
              (.inl
                (W (x5.1 - 1), x15.2.1, x15.2.2, x16.2.2.1, x16.1, x16.2.2.2.2))
    else
      some
        (.inr
          (.inl (x5.2.1, x5.2.2.1, x5.2.2.2.1, x5.2.2.2.2.1, x5.2.2.2.2.2)))
noncomputable def dynposlaw31_DisconnectLongest (a0 : (List Int)) : Option (Bool) :=
  if decide (len a0 > 600) = true then Option.bind dynposlaw31_sane fun x24 => some x24
  else
    Option.bind (dynposmake_New a0) fun x1 =>
      Option.bind (Src_Sequence (Src.mk x1.1 x1.2)) fun x2 =>
        Option.bind (disconnect_New_v1 x2.2.2 0) fun x3 =>
          if (x3.2.1 != 0) = true then some false
          else
            Option.bind (disconnect_Longest x3.2.2.1) fun x4 =>
              Option.bind
                (loopO dynposlaw31_DisconnectLongest_L1
                  (x4, x2.1, x2.2.1, x3.2.2.1, x3.1, x3.2.2.2))
                fun x17 =>
                Sum.elim
                  (fun x18 =>
                    Option.bind
                      (Option.bind (disconnect_Done (Progress.mk x18.2.2.2.1 x18.2.2.2.2)) fun x19 =>
                        if x19 = true then
                          Option.bind (disconnect_Stuck (Progress.mk x18.2.2.2.1 x18.2.2.2.2))
                            fun x20 =>
                            if (!x20) = true then Option.bind dynposlaw31_sane fun x21 => some x21 else some false
                        else some false)
                      fun x22 => some x22)
                  (fun x23 => some x23) x17
noncomputable def c6 : Con D := ⟨6, [.lf (.sl 0)], [.lf .bool], [.one (.h 0 [0])], [], [.one (.h 0 [])], [], fun h => dynposlaw31_DisconnectLongest h⟩
theorem c6_ok : ConOk Try.prog T c6 := fn_ok (Φ := [c9, c10, c11, c14, c16, c27_1, c35, c37, c40_2, c40_3]) (rs := [.tmp 2]) (an := (.n none .o (.n none .o (.n none .o (.n none .o (.n none .o (.n none .o (.n none (.n none .o (.n none (.f [2776] (.loop ⟨[.lf (.int .i64), .lf (.sl 0), .lf (.int .i64), .lf (.sl 3), .lf (.int .i64), .lf (.sl 6)], [(7, .one (.h 0 []))], [(2328, .box [.h 1 [0], .h 2 []]), (2520, .sl 3 34 3 [1]), (3024, .box [.h 4 [], .h 5 [1]])], [2328, 2520, 3024], 3600⟩ false [(.exit 0, ⟨[.lf (.sl 0), .lf (.int .i64), .lf (.sl 3), .lf (.int .i64), .lf (.sl 6)], [], [(2328, .box [.h 0 [0], .h 1 []]), (2520, .sl 3 34 2 [1]), (3024, .box [.h 3 [], .h 4 [1]])], [2328, 2520, 3024], 3600⟩)] (.n none (.n none (.r (some (true, [(.normal, ⟨[.lf .bool], [(31, .one (.any)), (32, .one (.any)), (33, .one (.any)), (34, .one (.h 0 []))], [], [], 3670⟩)])) .nil) .o) (.n none (.n none (.n none .o (.n none (.n none .o (.n none (.loop ⟨[.lf (.int .i64), .lf (.sl 0), .lf (.sl 0), .lf (.int .i64)], [(8, .one (.own 3991)), (40, .one (.h 0 []))], [(3991, .sl 0 3 1 []), (2328, .box [.h 2 [0], .h 3 []])], [2328], 4055⟩ true [(.exit 2, ⟨[.lf (.sl 0), .lf (.sl 0), .lf (.int .i64)], [(8, .one (.own 3991))], [(3991, .sl 0 3 0 []), (2328, .box [.h 1 [0], .h 2 []])], [2328], 4055⟩)] (.n none .o (.n none .o (.n none (.n none (.n none .o (.n none (.r (some (true, [(.normal, ⟨[.lf .bool, .lf (.sl 0), .lf (.int .i64)], [(49, .one (.any)), (50, .one (.any)), (51, .one (.any)), (52, .one (.any)), (53, .one (.any)), (54, .one (.any)), (55, .one (.any)), (56, .one (.any)), (57, .one (.any)), (60, .one (.any)), (61, .one (.any)), (62, .one (.any)), (63, .one (.h 0 []))], [(2328, .box [.h 1 [0], .h 2 []])], [2328], 4571⟩)])) .nil) (.n (some (true, [(.normal, ⟨[.lf (.sl 0)], [(8, .one (.own 4574))], [(4574, .sl 0 3 0 [])], [3991], 4638⟩)])) .o .o))) .o) .o)))) .o)) .o)) .o) .o)))) .o)) (.n none (.r (some (true, [(.normal, ⟨[.lf .bool], [(2, .one (.h 0 []))], [], [], 3669⟩)])) .nil) .o))))))))) pOk repOk (AllC.mem (⟨c9_ok, c10_ok, c11_ok, c14_ok, c16_ok, c27_1_ok, c35_ok, c37_ok, c40_2_ok, c40_3_ok, trivial⟩ : AllC _ _ [c9, c10, c11, c14, c16, c27_1, c35, c37, c40_2, c40_3])) hmix Try.call6 Try.func6 rfl rfl (by kernel_rfl) (fun h => by kernel_rfl)

noncomputable def dynposlaw31_DisconnectKeeps_L3 (x7 : Int ×
  Int ×
    List Stage ×
      List Int ×
        List
          Work) (x11 : Work) (x16 : Stage) : Int →
  Option
    (Int ⊕
      Unit ⊕
        Int ⊕
          Unit ⊕
            Int × List Int × Int × List Stage × Int × List Work ⊕
              List Int × Int × List Stage × Int × List Work ⊕
                Bool) := fun x17 =>
  if decide (x17 < len x16.Needs) = true then
    Option.bind (idx x16.Needs x17) fun x18 =>
      Option.bind
        (if (x11.State != 0) = true then
          Option.bind (idx x7.2.2.2.2 x18) fun x19 => some (x19.State != 2)
        else some false)
        fun x20 =>
        if x20 = true then some (.inr (.inr (.inr (.inr (.inr (.inr false))))))
        else some (.inl (W (x17 + 1)))
  else some (.inr (.inl ()))
noncomputable def dynposlaw31_DisconnectKeeps_L2 (x5 : Int ×
  List Int ×
    Int ×
      List Stage ×
        Int ×
          List
            Work) (x7 : Int ×
  Int ×
    List Stage ×
      List Int ×
        List
          Work) : Int →
  Option
    (Int ⊕
      Unit ⊕
        Int × List Int × Int × List Stage × Int × List Work ⊕
          List Int × Int × List Stage × Int × List Work ⊕
            Bool) := fun x10 =>
  if decide (x10 < len x7.2.2.2.2) = true then
    Option.bind (idx x7.2.2.2.2 x10) fun x11 =>
      Option.bind (idx x5.2.2.2.2.2 x10) fun x12 =>
        Option.bind
          (if (x12.State == 2) = true then
            Option.bind (idx x5.2.2.2.2.2 x10) fun x14 =>
              some !(x11.State == x14.State && (x11.Since == x14.Since && x11.Tries == x14.Tries))
          else
            if (x12.State == 3) = true then
              Option.bind (idx x5.2.2.2.2.2 x10) fun x13 =>
                some !(x11.State == x13.State && (x11.Since == x13.Since && x11.Tries == x13.Tries))
            else some false)
          fun x15 =>
          if x15 = true then some (.inr (.inr (.inr (.inr false))))
          else
            Option.bind (idx x7.2.2.1 x10) fun x16 =>
              Option.bind (loopO (dynposlaw31_DisconnectKeeps_L3 x7 x11 x16) 0) fun x21 =>
                Sum.elim (fun x22 => some (.inl (W (x10 + 1)))) (fun x23 => some x23) x21
  else some (.inr (.inl ()))
noncomputable def dynposlaw31_DisconnectKeeps_L1 : Int × List Int × Int × List Stage × Int × List Work →
  Option
    (Int × List Int × Int × List Stage × Int × List Work ⊕
      List Int × Int × List Stage × Int × List Work ⊕
        Bool) := fun x5 =>
  if decide (x5.1 < 14) = true then
    Option.bind (Src_Fails_v1 (Src.mk x5.2.1 x5.2.2.1) x5.2.2.2.1) fun x6 =>
      Option.bind
        (disconnect_Step_v3 x6.2.2.1 (Progress.mk x5.2.2.2.2.1 x5.2.2.2.2.2) x6.2.2.2)
        fun x7 =>
        Option.bind
          (if (x7.2.1 != 0) = true then some true
          else Option.bind (disconnect_Valid x7.2.2.1 (Progress.mk x7.1 x7.2.2.2.2)) fun x8 => some !x8)
          fun x9 =>
          if x9 = true then some (.inr (.inr false))
          else
            Option.bind (loopO (dynposlaw31_DisconnectKeeps_L2 x5 x7) 0) fun x24 =>
              Sum.elim
                (fun x25 =>
                  some
                    (.inl
                      (W (x5.1 + 1), x6.1, x6.2.1, x7.2.2.1, x7.1, x7.2.2.2.2)))
                (fun x26 => some x26) x24
  else
    some
      (.inr
        (.inl (x5.2.1, x5.2.2.1, x5.2.2.2.1, x5.2.2.2.2.1, x5.2.2.2.2.2)))
noncomputable def dynposlaw31_DisconnectKeeps (a0 : (List Int)) : Option (Bool) :=
  if decide (len a0 > 600) = true then Option.bind dynposlaw31_sane fun x31 => some x31
  else
    Option.bind (dynposmake_New a0) fun x1 =>
      Option.bind (Src_Sequence (Src.mk x1.1 x1.2)) fun x2 =>
        Option.bind (Src_N (Src.mk x2.1 x2.2.1) 5) fun x3 =>
          Option.bind (disconnect_New_v1 x2.2.2 x3.1) fun x4 =>
            if (x4.2.1 != 0) = true then some false
            else
              Option.bind
                (loopO dynposlaw31_DisconnectKeeps_L1
                  (0, x3.2.1, x3.2.2, x4.2.2.1, x4.1, x4.2.2.2))
                fun x27 =>
                Sum.elim (fun x28 => Option.bind dynposlaw31_sane fun x29 => some x29) (fun x30 => some x30) x27
noncomputable def c7 : Con D := ⟨7, [.lf (.sl 0)], [.lf .bool], [.one (.h 0 [0])], [], [.one (.h 0 [])], [], fun h => dynposlaw31_DisconnectKeeps h⟩
theorem c7_ok : ConOk Try.prog T c7 := fn_ok (Φ := [c9, c10, c11, c14, c27_1, c33, c39_1, c40_2, c40_3]) (rs := [.tmp 2]) (an := (.n none .o (.n none .o (.n none .o (.n none .o (.n none .o (.n none .o (.n none (.n none .o (.n none (.f [2904] (.loop ⟨[.lf (.int .i64), .lf (.sl 0), .lf (.int .i64), .lf (.sl 3), .lf (.int .i64), .lf (.sl 6)], [(7, .one (.h 0 []))], [(2328, .box [.h 1 [0, 1], .h 2 []]), (2520, .sl 3 34 3 [0, 1]), (3152, .box [.h 4 [], .h 5 [0, 1]])], [2328, 2520, 3152], 3600⟩ false [(.exit 0, ⟨[.lf (.sl 0), .lf (.int .i64), .lf (.sl 3), .lf (.int .i64), .lf (.sl 6)], [], [(2328, .box [.h 0 [0, 1], .h 1 []]), (2520, .sl 3 34 2 [0, 1]), (3152, .box [.h 3 [], .h 4 [0, 1]])], [2328, 2520, 3152], 3600⟩)] (.n none .o (.n none (.n none (.n none .o (.n none (.n none (.r (some (true, [(.normal, ⟨[.lf .bool], [(48, .one (.any)), (49, .one (.any)), (50, .one (.any)), (51, .one (.any)), (52, .one (.h 0 []))], [], [], 4566⟩)])) .nil) .o) (.n none (.n none .o (.n none (.loop ⟨[.lf (.int .i64)], [(56, .one (.h 0 []))], [], [], 4887⟩ false [(.exit 2, ⟨[], [], [], [], 4887⟩)] (.n none .o (.n none .o (.n none (.n none (.n none .o (.n none (.n none .o (.n none (.r (some (true, [(.normal, ⟨[.lf .bool], [(70, .one (.any)), (71, .one (.any)), (74, .one (.any)), (75, .one (.any)), (76, .one (.any)), (77, .one (.any)), (78, .one (.any)), (79, .one (.any)), (80, .one (.any)), (81, .one (.h 0 []))], [], [], 5848⟩)])) .nil) .o)) (.n none .o (.n none (.loop ⟨[.lf (.int .i64)], [(89, .one (.h 0 []))], [], [], 6425⟩ false [(.exit 4, ⟨[], [], [], [], 6425⟩)] (.n none .o (.n none .o (.n none (.n none (.n none .o (.n none (.r (some (true, [(.normal, ⟨[.lf .bool], [(97, .one (.any)), (98, .one (.any)), (99, .one (.any)), (100, .one (.any)), (101, .one (.any)), (102, .one (.any)), (103, .one (.any)), (104, .one (.h 0 []))], [], [], 6746⟩)])) .nil) .o)) .o) .o)))) .o)))) .o) .o)))) .o)) .o))) .o) .o)))) .o)) .o)))))))) pOk repOk (AllC.mem (⟨c9_ok, c10_ok, c11_ok, c14_ok, c27_1_ok, c33_ok, c39_1_ok, c40_2_ok, c40_3_ok, trivial⟩ : AllC _ _ [c9, c10, c11, c14, c27_1, c33, c39_1, c40_2, c40_3])) hmix Try.call7 Try.func7 rfl rfl (by kernel_rfl) (fun h => by kernel_rfl)

noncomputable def dynposlaw31_DisconnectStuck_L1 (x4 : Int ×
  List Int ×
    Int) : Int × List Stage × Int × List Work →
  Option
    (Int × List Stage × Int × List Work ⊕
      List Stage × Int × List Work ⊕
        Bool) := fun x5 =>
  if decide (x5.1 < 60) = true then
    Option.bind (disconnect_Step_v3 x5.2.1 (Progress.mk x5.2.2.1 x5.2.2.2) [x4.1]) fun x6 =>
      Option.bind
        (if (x6.2.1 != 0) = true then some true
        else Option.bind (disconnect_Done (Progress.mk x6.1 x6.2.2.2.2)) fun x7 => some x7)
        fun x8 =>
        if x8 = true then some (.inr (.inr false))
        else some (.inl (W (x5.1 + 1), x6.2.2.1, x6.1, x6.2.2.2.2))
  else some (.inr (.inl (x5.2.1, x5.2.2.1, x5.2.2.2)))
noncomputable def dynposlaw31_DisconnectStuck (a0 : (List Int)) : Option (Bool) :=
  if decide (len a0 > 600) = true then Option.bind dynposlaw31_sane fun x16 => some x16
  else
    Option.bind (dynposmake_New a0) fun x1 =>
      Option.bind (Src_Sequence (Src.mk x1.1 x1.2)) fun x2 =>
        Option.bind (disconnect_New_v1 x2.2.2 0) fun x3 =>
          Option.bind (Src_N (Src.mk x2.1 x2.2.1) (len x3.2.2.1)) fun x4 =>
            Option.bind
              (loopO (dynposlaw31_DisconnectStuck_L1 x4) (0, x3.2.2.1, x3.1, x3.2.2.2))
              fun x9 =>
              Sum.elim
                (fun x10 =>
                  Option.bind (disconnect_Left x10.1 (Progress.mk x10.2.1 x10.2.2)) fun x11 =>
                    Option.bind
                      (Option.bind (disconnect_Stuck (Progress.mk x10.2.1 x10.2.2)) fun x12 =>
                        if (!x11.2 == x12) = true then Option.bind dynposlaw31_sane fun x13 => some x13
                        else some false)
                      fun x14 => some x14)
                (fun x15 => some x15) x9
noncomputable def c8 : Con D := ⟨8, [.lf (.sl 0)], [.lf .bool], [.one (.h 0 [0])], [], [.one (.h 0 [])], [], fun h => dynposlaw31_DisconnectStuck h⟩
theorem c8_ok : ConOk Try.prog T c8 := fn_ok (Φ := [c9, c10, c11, c14, c27_1, c31, c35, c37, c40_2, c40_3]) (rs := [.tmp 2]) (an := (.n none .o (.n none .o (.n none .o (.n none .o (.n none .o (.n none .o (.n none (.n none .o (.n none (.f [2776] (.loop ⟨[.lf (.int .i64), .lf (.sl 3), .lf (.int .i64), .lf (.sl 6)], [(8, .one (.h 0 []))], [(2520, .sl 3 34 1 [1]), (3024, .box [.h 2 [], .h 3 [1]])], [2520, 3024], 3728⟩ false [(.exit 0, ⟨[.lf (.sl 3), .lf (.int .i64), .lf (.sl 6)], [], [(2520, .sl 3 34 0 [1]), (3024, .box [.h 1 [], .h 2 [1]])], [2520, 3024], 3728⟩)] (.n none .o (.n none (.n none (.n none .o (.n none (.n none (.r (some (true, [(.normal, ⟨[.lf .bool], [(46, .one (.any)), (47, .one (.any)), (48, .one (.h 0 []))], [], [], 4628⟩)])) .nil) .o) .o)) .o) .o)))) .o)) (.n none .o (.n none (.r (some (true, [(.normal, ⟨[.lf .bool], [(2, .one (.h 0 []))], [], [], 4307⟩)])) .nil) .o)))))))))) pOk repOk (AllC.mem (⟨c9_ok, c10_ok, c11_ok, c14_ok, c27_1_ok, c31_ok, c35_ok, c37_ok, c40_2_ok, c40_3_ok, trivial⟩ : AllC _ _ [c9, c10, c11, c14, c27_1, c31, c35, c37, c40_2, c40_3])) hmix Try.call8 Try.func8 rfl rfl (by kernel_rfl) (fun h => by kernel_rfl)

end Rx
end Go.Proofs.Ytnpnaopnhgkapaa
