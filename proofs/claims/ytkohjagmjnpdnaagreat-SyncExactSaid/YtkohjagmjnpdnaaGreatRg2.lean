/- Plain functions, walks. Written by a program (wip/gen). -/
import Derived.Test.YtkohjagmjnpdnaaGreatRt
import Derived.Test.YtkohjagmjnpdnaaGreatHc
import Derived.Test.YtkohjagmjnpdnaaGreatRg1
set_option linter.unusedVariables false
set_option maxRecDepth 100000
namespace Go.Proofs.YtkohjagmjnpdnaaGreat
open Go Go.RowKit Dp
namespace Rx

noncomputable def slices_Clone_Running_Running (a0 : (List Running)) : Option ((List Running)) := app [] a0
noncomputable def c78 : Con D := ⟨78, [.lf (.sl 8)], [.lf (.sl 8)], [.one (.h 0 [0])], [], [.one (.own 1000)], [(1000, .sl 8 34 0 [])], fun h => slices_Clone_Running_Running h⟩
theorem c78_ok : ConOk Tryz.prog T c78 := by
  refine ⟨Tryz.call78, rfl, rfl, rfl, rfl, fun xs0 r0 hr0 avs obs has hobs γ w vs hv _ => ?_⟩
  cases has
  match vs, hv with
  | [], hv => exact hv.elim
  | _ :: _ :: _, hv => exact hv.2.elim
  | [v], hv =>
  obtain ⟨xs, hxs⟩ : ∃ xs : List (D 8), xs = xs0 := ⟨_, rfl⟩
  obtain ⟨r, hrr⟩ : ∃ r : List (D 8), r = r0 := ⟨_, rfl⟩
  have g0 : Rv (In γ.o [0]) w v xs := by rw [hxs]; exact hv.1.1
  have hr : app ([] : List (D 8)) xs = some r := by rw [hxs, hrr]; exact hr0
  subst hrr
  have hT := slr29.2
  refine enter (l := [v]) Tryz.func78 rfl Tryz.ntmps78 rfl ?_
  refine CW.sub (L' := [(0, v)]) ⟨rfl, trivial⟩ ?_
  refine CW.sr fun K1 hK1 => ?_
  refine WL.p (.slice none 0 0) rfl rfl ?_
  refine WL.nx hK1 ?_
  refine CW.seq fun K2 hK2 => ?_
  refine CW.sr fun K3 hK3 => ?_
  refine WL.p v rfl rfl ?_
  obtain ⟨a, m, q, rfl, hn⟩ := rvSlice g0
  refine WL.stepE (OW.isNil slr29.1 rfl) rfl ?_
  refine WL.nx hK3 ?_
  cases a with
  | none =>
    refine CW.cond (b := true) rfl (fun _ => ?_) (fun h => nomatch h)
    refine CW.sr fun K4 hK4 => ?_
    refine WL.p (.slice none 0 0) rfl rfl ?_
    refine WL.nx hK4 ?_
    rw [hn rfl] at hr
    obtain rfl := app_nil hr
    exact CW.rets (vs := [.slice none 0 0]) Tryz.results78 ⟨rfl, trivial⟩ ⟨_, rfl, end_own (n := 8) (e := 34) (q := 1000) (K := []) (M := []) (N := []) rfl rfl rfl (by simp) (by simp) (Evo.refl _ _ γ.o w) (Ow.nil _ _ _ _ _) (fun x hx => by simp at hx <;> omega)⟩ (fun _ _ h => h)
  | some a =>
    refine CW.cond (b := false) rfl (fun h => nomatch h) (fun _ => ?_)
    refine CW.skip ?_
    refine hK2 _ _ ?_
    refine CW.sr fun K5 hK5 => ?_
    refine WL.step (OW.buildSlice (o := γ.o) (k := 1000) (K := []) (xs := ([] : List (D 8))) slr29.1 hT rfl trivial rfl rfl) rfl ?_
    rintro v1 w1 ⟨o1, ev1, h1⟩
    have g0 := g0.evo ev1 rfl
    refine WL.p (.slice (some a) m q) rfl rfl ?_
    refine WL.step (OW.append (K := []) slr29.1 hT rfl rfl h1 (@Els.flat (D 8) _ flat8 _ _ _ _ _ g0.els) hr rfl) rfl ?_
    rintro v2 w2 ⟨o2, ev2, h2⟩
    refine WL.p v2 rfl rfl ?_
    refine WL.nx hK5 ?_
    exact CW.rets (vs := [v2]) Tryz.results78 ⟨rfl, trivial⟩ ⟨_, rfl, end_own (n := 8) (e := 34) (q := 1000) (K := []) (M := [1000]) (N := [1000]) rfl rfl rfl (by simp) (by simp) ((ev1.weaken (by simp) (by simp)).trans ev2) h2 (fun x hx => by simp at hx <;> omega)⟩ (fun _ _ h => h)

noncomputable def slices_Clone_int_int (a0 : (List Int)) : Option ((List Int)) := app [] a0
noncomputable def c79 : Con D := ⟨79, [.lf (.sl 0)], [.lf (.sl 0)], [.one (.h 0 [0])], [], [.one (.own 1000)], [(1000, .sl 0 3 0 [])], fun h => slices_Clone_int_int h⟩
theorem c79_ok : ConOk Tryz.prog T c79 := by
  refine ⟨Tryz.call79, rfl, rfl, rfl, rfl, fun xs0 r0 hr0 avs obs has hobs γ w vs hv _ => ?_⟩
  cases has
  match vs, hv with
  | [], hv => exact hv.elim
  | _ :: _ :: _, hv => exact hv.2.elim
  | [v], hv =>
  obtain ⟨xs, hxs⟩ : ∃ xs : List (D 0), xs = xs0 := ⟨_, rfl⟩
  obtain ⟨r, hrr⟩ : ∃ r : List (D 0), r = r0 := ⟨_, rfl⟩
  have g0 : Rv (In γ.o [0]) w v xs := by rw [hxs]; exact hv.1.1
  have hr : app ([] : List (D 0)) xs = some r := by rw [hxs, hrr]; exact hr0
  subst hrr
  have hT := slr22.2
  refine enter (l := [v]) Tryz.func79 rfl Tryz.ntmps79 rfl ?_
  refine CW.sub (L' := [(0, v)]) ⟨rfl, trivial⟩ ?_
  refine CW.sr fun K1 hK1 => ?_
  refine WL.p (.slice none 0 0) rfl rfl ?_
  refine WL.nx hK1 ?_
  refine CW.seq fun K2 hK2 => ?_
  refine CW.sr fun K3 hK3 => ?_
  refine WL.p v rfl rfl ?_
  obtain ⟨a, m, q, rfl, hn⟩ := rvSlice g0
  refine WL.stepE (OW.isNil slr22.1 rfl) rfl ?_
  refine WL.nx hK3 ?_
  cases a with
  | none =>
    refine CW.cond (b := true) rfl (fun _ => ?_) (fun h => nomatch h)
    refine CW.sr fun K4 hK4 => ?_
    refine WL.p (.slice none 0 0) rfl rfl ?_
    refine WL.nx hK4 ?_
    rw [hn rfl] at hr
    obtain rfl := app_nil hr
    exact CW.rets (vs := [.slice none 0 0]) Tryz.results79 ⟨rfl, trivial⟩ ⟨_, rfl, end_own (n := 0) (e := 3) (q := 1000) (K := []) (M := []) (N := []) rfl rfl rfl (by simp) (by simp) (Evo.refl _ _ γ.o w) (Ow.nil _ _ _ _ _) (fun x hx => by simp at hx <;> omega)⟩ (fun _ _ h => h)
  | some a =>
    refine CW.cond (b := false) rfl (fun h => nomatch h) (fun _ => ?_)
    refine CW.skip ?_
    refine hK2 _ _ ?_
    refine CW.sr fun K5 hK5 => ?_
    refine WL.step (OW.buildSlice (o := γ.o) (k := 1000) (K := []) (xs := ([] : List (D 0))) slr22.1 hT rfl trivial rfl rfl) rfl ?_
    rintro v1 w1 ⟨o1, ev1, h1⟩
    have g0 := g0.evo ev1 rfl
    refine WL.p (.slice (some a) m q) rfl rfl ?_
    refine WL.step (OW.append (K := []) slr22.1 hT rfl rfl h1 (@Els.flat (D 0) _ flat0 _ _ _ _ _ g0.els) hr rfl) rfl ?_
    rintro v2 w2 ⟨o2, ev2, h2⟩
    refine WL.p v2 rfl rfl ?_
    refine WL.nx hK5 ?_
    exact CW.rets (vs := [v2]) Tryz.results79 ⟨rfl, trivial⟩ ⟨_, rfl, end_own (n := 0) (e := 3) (q := 1000) (K := []) (M := [1000]) (N := [1000]) rfl rfl rfl (by simp) (by simp) ((ev1.weaken (by simp) (by simp)).trans ev2) h2 (fun x hx => by simp at hx <;> omega)⟩ (fun _ _ h => h)

noncomputable def slices_Clone_Part_Part (a0 : (List Part)) : Option ((List Part)) := app [] a0
noncomputable def c80 : Con D := ⟨80, [.lf (.sl 9)], [.lf (.sl 9)], [.one (.h 0 [0])], [], [.one (.own 1000)], [(1000, .sl 9 70 0 [])], fun h => slices_Clone_Part_Part h⟩
theorem c80_ok : ConOk Tryz.prog T c80 := by
  refine ⟨Tryz.call80, rfl, rfl, rfl, rfl, fun xs0 r0 hr0 avs obs has hobs γ w vs hv _ => ?_⟩
  cases has
  match vs, hv with
  | [], hv => exact hv.elim
  | _ :: _ :: _, hv => exact hv.2.elim
  | [v], hv =>
  obtain ⟨xs, hxs⟩ : ∃ xs : List (D 9), xs = xs0 := ⟨_, rfl⟩
  obtain ⟨r, hrr⟩ : ∃ r : List (D 9), r = r0 := ⟨_, rfl⟩
  have g0 : Rv (In γ.o [0]) w v xs := by rw [hxs]; exact hv.1.1
  have hr : app ([] : List (D 9)) xs = some r := by rw [hxs, hrr]; exact hr0
  subst hrr
  have hT := slr30.2
  refine enter (l := [v]) Tryz.func80 rfl Tryz.ntmps80 rfl ?_
  refine CW.sub (L' := [(0, v)]) ⟨rfl, trivial⟩ ?_
  refine CW.sr fun K1 hK1 => ?_
  refine WL.p (.slice none 0 0) rfl rfl ?_
  refine WL.nx hK1 ?_
  refine CW.seq fun K2 hK2 => ?_
  refine CW.sr fun K3 hK3 => ?_
  refine WL.p v rfl rfl ?_
  obtain ⟨a, m, q, rfl, hn⟩ := rvSlice g0
  refine WL.stepE (OW.isNil slr30.1 rfl) rfl ?_
  refine WL.nx hK3 ?_
  cases a with
  | none =>
    refine CW.cond (b := true) rfl (fun _ => ?_) (fun h => nomatch h)
    refine CW.sr fun K4 hK4 => ?_
    refine WL.p (.slice none 0 0) rfl rfl ?_
    refine WL.nx hK4 ?_
    rw [hn rfl] at hr
    obtain rfl := app_nil hr
    exact CW.rets (vs := [.slice none 0 0]) Tryz.results80 ⟨rfl, trivial⟩ ⟨_, rfl, end_own (n := 9) (e := 70) (q := 1000) (K := []) (M := []) (N := []) rfl rfl rfl (by simp) (by simp) (Evo.refl _ _ γ.o w) (Ow.nil _ _ _ _ _) (fun x hx => by simp at hx <;> omega)⟩ (fun _ _ h => h)
  | some a =>
    refine CW.cond (b := false) rfl (fun h => nomatch h) (fun _ => ?_)
    refine CW.skip ?_
    refine hK2 _ _ ?_
    refine CW.sr fun K5 hK5 => ?_
    refine WL.step (OW.buildSlice (o := γ.o) (k := 1000) (K := []) (xs := ([] : List (D 9))) slr30.1 hT rfl trivial rfl rfl) rfl ?_
    rintro v1 w1 ⟨o1, ev1, h1⟩
    have g0 := g0.evo ev1 rfl
    refine WL.p (.slice (some a) m q) rfl rfl ?_
    refine WL.step (OW.append (K := []) slr30.1 hT rfl rfl h1 (@Els.flat (D 9) _ flat9 _ _ _ _ _ g0.els) hr rfl) rfl ?_
    rintro v2 w2 ⟨o2, ev2, h2⟩
    refine WL.p v2 rfl rfl ?_
    refine WL.nx hK5 ?_
    exact CW.rets (vs := [v2]) Tryz.results80 ⟨rfl, trivial⟩ ⟨_, rfl, end_own (n := 9) (e := 70) (q := 1000) (K := []) (M := [1000]) (N := [1000]) rfl rfl rfl (by simp) (by simp) ((ev1.weaken (by simp) (by simp)).trans ev2) h2 (fun x hx => by simp at hx <;> omega)⟩ (fun _ _ h => h)

noncomputable def states_Clone (a0 : Power) : Option ((List Bool) × (List Running) × (List Int) × (List Part)) :=
  Option.bind (slices_Clone_bool_bool a0.Closed) fun x1 =>
    Option.bind (slices_Clone_Running_Running a0.Sources) fun x2 =>
      Option.bind (slices_Clone_int_int a0.Limits) fun x3 =>
        Option.bind (slices_Clone_Part_Part a0.Broken) fun x4 => some (x1, x2, x3, x4)
noncomputable def c51 : Con D := ⟨51, [.lf (.sl 1), .lf (.sl 8), .lf (.sl 0), .lf (.sl 9)], [.lf (.sl 1), .lf (.sl 8), .lf (.sl 0), .lf (.sl 9)], [.agg [.h 0 [0], .h 1 [0], .h 2 [0], .h 3 [0]]], [], [.agg [.own 1000, .own 1001, .own 1002, .own 1003]], [(1000, .sl 1 4 0 []), (1001, .sl 8 34 1 []), (1002, .sl 0 3 2 []), (1003, .sl 9 70 3 [])], fun h => states_Clone ⟨h.1, h.2.1, h.2.2.1, h.2.2.2⟩⟩
theorem c51_ok : ConOk Tryz.prog T c51 := fn_ok (Φ := [c77, c78, c79, c80]) (rs := [.cell 2 32]) (an := .o) pOk repOk (AllC.mem (⟨c77_ok, c78_ok, c79_ok, c80_ok, trivial⟩ : AllC _ _ [c77, c78, c79, c80])) hmix Tryz.call51 Tryz.func51 rfl rfl (by kernel_rfl) (fun h => by kernel_rfl)

noncomputable def board_Connected (a0 : Board) (a1 : Power) (a2 : Int) : Option (Int × Bool) :=
  Option.bind (board_State a0 a1) fun x1 =>
    if (x1 != 0) = true then some (0, false)
    else Option.bind (board_connected a0 a1 a2) fun x2 => some (x2.1, x2.2)
noncomputable def c58 : Con D := ⟨58, [.lf (.int .i64), .lf (.sl 4), .lf (.sl 5), .lf (.sl 6), .lf (.int .i64), .lf (.int .i64), .lf (.sl 1), .lf (.sl 8), .lf (.sl 0), .lf (.sl 9), .lf (.int .i64)], [.lf (.int .i64), .lf .bool], [.agg [.h 0 [], .h 1 [0], .h 2 [0], .h 3 [0], .h 4 [], .h 5 []], .agg [.h 6 [0], .h 7 [0], .h 8 [0], .h 9 [0]], .one (.h 10 [])], [], [.one (.h 0 []), .one (.h 1 [])], [], fun h => board_Connected ⟨h.1, h.2.1, h.2.2.1, h.2.2.2.1, h.2.2.2.2.1, h.2.2.2.2.2.1⟩ ⟨h.2.2.2.2.2.2.1, h.2.2.2.2.2.2.2.1, h.2.2.2.2.2.2.2.2.1, h.2.2.2.2.2.2.2.2.2.1⟩ h.2.2.2.2.2.2.2.2.2.2⟩
theorem c58_ok : ConOk Tryz.prog T c58 := fn_ok (Φ := [c43, c83]) (rs := [.tmp 6, .tmp 7]) (an := .o) pOk repOk (AllC.mem (⟨c43_ok, c83_ok, trivial⟩ : AllC _ _ [c43, c83])) hmix Tryz.call58 Tryz.func58 rfl rfl (by kernel_rfl) (fun h => by kernel_rfl)

noncomputable def sync_set_L1 (a1 : List
  Int) (a2 : Running) : Int × List Running →
  Option
    (Int × List Running ⊕
      List
        Running) := fun x1 =>
  if decide (x1.1 < len a1) = true then
    Option.bind (idx a1 x1.1) fun x2 =>
      Option.bind (idx x1.2 x2) fun x3 =>
        Option.bind (idx x1.2 x2) fun x4 =>
          Option.bind (setO x1.2 x2 (Running.mk x4.State x4.Since a2.Frequency x4.Phase)) fun x5 =>
            Option.bind (idx x5 x2) fun x6 =>
              Option.bind (idx x5 x2) fun x7 =>
                Option.bind (setO x5 x2 (Running.mk x7.State x7.Since x7.Frequency a2.Phase)) fun x8 =>
                  some (.inl (W (x1.1 + 1), x8))
  else some (.inr x1.2)
noncomputable def sync_set (a0 : Power) (a1 : (List Int)) (a2 : Running) : Option ((List Bool) × (List Running) × (List Int) × (List Part)) :=
  Option.bind (loopO (sync_set_L1 a1 a2) (0, a0.Sources)) fun x9 =>
    some (a0.Closed, x9, a0.Limits, a0.Broken)
noncomputable def c59_1 : Con D := ⟨59, [.lf (.sl 1), .lf (.sl 8), .lf (.sl 0), .lf (.sl 9), .lf (.sl 0), .lf (.int .i64), .lf (.int .i64), .lf (.int .i64), .lf (.int .i64)], [.lf (.sl 1), .lf (.sl 8), .lf (.sl 0), .lf (.sl 9)], [.agg [.own 1000, .own 1001, .own 1002, .own 1003], .one (.h 4 [0]), .agg [.h 5 [], .h 6 [], .h 7 [], .h 8 []]], [(1000, .sl 1 4 0 [0]), (1001, .sl 8 34 1 [0]), (1002, .sl 0 3 2 [0]), (1003, .sl 9 70 3 [0])], [], [(1000, .sl 1 4 0 [0]), (1001, .sl 8 34 1 [0]), (1002, .sl 0 3 2 [0]), (1003, .sl 9 70 3 [0])], fun h => sync_set ⟨h.1, h.2.1, h.2.2.1, h.2.2.2.1⟩ h.2.2.2.2.1 ⟨h.2.2.2.2.2.1, h.2.2.2.2.2.2.1, h.2.2.2.2.2.2.2.1, h.2.2.2.2.2.2.2.2⟩⟩
theorem c59_1_ok : ConOk Tryz.prog T c59_1 := fn_ok (Φ := []) (rs := []) (an := (.n none .o (.n none .o (.n none (.loop ⟨[.lf (.int .i64), .lf (.sl 8)], [(10, .one (.h 0 []))], [(1001, .sl 8 34 1 [0])], [1001], 2384⟩ true [(.exit 0, ⟨[.lf (.sl 8)], [], [(1001, .sl 8 34 0 [0])], [1001], 2384⟩)] .o) .o)))) pOk repOk (AllC.mem (l := []) trivial) hmix Tryz.call59 Tryz.func59 rfl rfl (by kernel_rfl) (fun h => by kernel_rfl)

noncomputable def sync_Match (a0 : Board) (a1 : Power) (a2 : Int) (a3 : Int) : Option (Int × (List Bool) × (List Running) × (List Int) × (List Part)) :=
  Option.bind (board_State a0 a1) fun x1 =>
    if (x1 != 0) = true then some (x1, [], [], [], [])
    else
      Option.bind
        (if decide (a2 < 0) = true then some true
        else
          if decide (a2 ≥ len a0.Sources) = true then some true
          else if decide (a3 < 0) = true then some true else some (decide (a3 ≥ a0.Buses)))
        fun x2 =>
        if x2 = true then some (10, [], [], [], [])
        else
          Option.bind (sync_Leader a0 a1 a3) fun x3 =>
            Option.bind
              (if (!x3.2) = true then some true
              else Option.bind (idx a1.Sources a2) fun x4 => some (x4.State != 2))
              fun x5 =>
              if x5 = true then some (11, [], [], [], [])
              else
                Option.bind (states_Clone a1) fun x6 =>
                  Option.bind (board_Connected a0 a1 a2) fun x7 =>
                    Option.bind
                      (if x7.2 = true then Option.bind (board_Of a0 a1 x7.1) fun x8 => some x8.2.1
                      else some [a2])
                      fun x9 =>
                      Option.bind (idx a1.Sources x3.1) fun x10 =>
                        Option.bind (sync_set (Power.mk x6.1 x6.2.1 x6.2.2.1 x6.2.2.2) x9 x10)
                          fun x11 => some (0, x11.1, x11.2.1, x11.2.2.1, x11.2.2.2)
noncomputable def c25 : Con D := ⟨25, [.lf (.int .i64), .lf (.sl 4), .lf (.sl 5), .lf (.sl 6), .lf (.int .i64), .lf (.int .i64), .lf (.sl 1), .lf (.sl 8), .lf (.sl 0), .lf (.sl 9), .lf (.int .i64), .lf (.int .i64)], [.lf (.int .i64), .lf (.sl 1), .lf (.sl 8), .lf (.sl 0), .lf (.sl 9)], [.agg [.h 0 [], .h 1 [0], .h 2 [0], .h 3 [0], .h 4 [], .h 5 []], .agg [.h 6 [0], .h 7 [0], .h 8 [0], .h 9 [0]], .one (.h 10 []), .one (.h 11 [])], [], [.agg [.own 1000, .own 1001, .own 1002, .own 1003], .one (.h 0 [])], [(1000, .sl 1 4 1 [1]), (1001, .sl 8 34 2 [1]), (1002, .sl 0 3 3 [1]), (1003, .sl 9 70 4 [1])], fun h => sync_Match ⟨h.1, h.2.1, h.2.2.1, h.2.2.2.1, h.2.2.2.2.1, h.2.2.2.2.2.1⟩ ⟨h.2.2.2.2.2.2.1, h.2.2.2.2.2.2.2.1, h.2.2.2.2.2.2.2.2.1, h.2.2.2.2.2.2.2.2.2.1⟩ h.2.2.2.2.2.2.2.2.2.2.1 h.2.2.2.2.2.2.2.2.2.2.2⟩
theorem c25_ok : ConOk Tryz.prog T c25 := fn_ok (Φ := [c14, c41, c43, c51, c58, c59_1]) (rs := [.cell 8 32, .tmp 9]) (an := (.n none .o (.n none .o (.n none (.n none (.r (some (true, [(.normal, ⟨[.lf .bool], [(44, .one (.h 0 []))], [], [], 2704⟩)])) .nil) .o) (.n none .o (.n none (.n none (.r (some (true, [(.normal, ⟨[.lf .bool], [(63, .one (.h 0 []))], [], [], 3345⟩)])) .nil) .o) (.n none .o (.n none .o (.n none (.n none .o (.n none .o (.n (some (true, [(.normal, ⟨[.lf (.sl 0)], [(14, .one (.h 0 [1]))], [], [3666], 4498⟩)])) .o .o))) .o))))))))) pOk repOk (AllC.mem (⟨c14_ok, c41_ok, c43_ok, c51_ok, c58_ok, c59_1_ok, trivial⟩ : AllC _ _ [c14, c41, c43, c51, c58, c59_1])) hmix Tryz.call25 Tryz.func25 rfl rfl (by kernel_rfl) (fun h => by kernel_rfl)

noncomputable def slices_Index_Part_Part_L1 (a0 : List
  Part) (a1 : Part) : Int →
  Option
    (Int ⊕
      Unit ⊕
        Int) := fun x1 =>
  if decide (x1 < len a0) = true then
    Option.bind (idx a0 x1) fun x2 =>
      if (a1.Kind == x2.Kind && a1.Number == x2.Number) = true then some (.inr (.inr x1))
      else some (.inl (W (x1 + 1)))
  else some (.inr (.inl ()))
noncomputable def slices_Index_Part_Part (a0 : (List Part)) (a1 : Part) : Option (Int) :=
  Option.bind (loopO (slices_Index_Part_Part_L1 a0 a1) 0) fun x3 =>
    Sum.elim (fun x4 => some (-1)) (fun x5 => some x5) x3
noncomputable def c98 : Con D := ⟨98, [.lf (.sl 9), .lf (.int .i64), .lf (.int .i64)], [.lf (.int .i64)], [.one (.h 0 [0]), .agg [.h 1 [], .h 2 []]], [], [.one (.h 0 [])], [], fun h => slices_Index_Part_Part h.1 ⟨h.2.1, h.2.2⟩⟩
theorem c98_ok : ConOk Tryz.prog T c98 := fn_ok (Φ := []) (rs := [.tmp 4]) (an := (.n none .o (.n none (.n none .o (.n none (.loop ⟨[.lf (.int .i64)], [(8, .one (.h 0 []))], [], [], 2384⟩ false [(.exit 0, ⟨[], [], [], [], 2384⟩)] .o) .o)) .o))) pOk repOk (AllC.mem (l := []) trivial) hmix Tryz.call98 Tryz.func98 rfl rfl (by kernel_rfl) (fun h => by kernel_rfl)

noncomputable def slices_Contains_Part_Part (a0 : (List Part)) (a1 : Part) : Option (Bool) := Option.bind (slices_Index_Part_Part a0 a1) fun x1 => some (decide (x1 ≥ 0))
noncomputable def c82 : Con D := ⟨82, [.lf (.sl 9), .lf (.int .i64), .lf (.int .i64)], [.lf .bool], [.one (.h 0 [0]), .agg [.h 1 [], .h 2 []]], [], [.one (.h 0 [])], [], fun h => slices_Contains_Part_Part h.1 ⟨h.2.1, h.2.2⟩⟩
theorem c82_ok : ConOk Tryz.prog T c82 := fn_ok (Φ := [c98]) (rs := [.tmp 4]) (an := .o) pOk repOk (AllC.mem (⟨c98_ok, trivial⟩ : AllC _ _ [c98])) hmix Tryz.call82 Tryz.func82 rfl rfl (by kernel_rfl) (fun h => by kernel_rfl)

noncomputable def board_Broken (a0 : Power) (a1 : Int) (a2 : Int) : Option (Bool) := Option.bind (slices_Contains_Part_Part a0.Broken (Part.mk a1 a2)) fun x1 => some x1
noncomputable def c57 : Con D := ⟨57, [.lf (.sl 1), .lf (.sl 8), .lf (.sl 0), .lf (.sl 9), .lf (.int .i64), .lf (.int .i64)], [.lf .bool], [.agg [.h 0 [0], .h 1 [0], .h 2 [0], .h 3 [0]], .one (.h 4 []), .one (.h 5 [])], [], [.one (.h 0 [])], [], fun h => board_Broken ⟨h.1, h.2.1, h.2.2.1, h.2.2.2.1⟩ h.2.2.2.2.1 h.2.2.2.2.2⟩
theorem c57_ok : ConOk Tryz.prog T c57 := fn_ok (Φ := [c82]) (rs := [.tmp 6]) (an := .o) pOk repOk (AllC.mem (⟨c82_ok, trivial⟩ : AllC _ _ [c82])) hmix Tryz.call57 Tryz.func57 rfl rfl (by kernel_rfl) (fun h => by kernel_rfl)

noncomputable def board_Fed (a0 : Board) (a1 : Power) (a2 : Int) : Option (Int × Bool) :=
  Option.bind (board_State a0 a1) fun x1 =>
    if (x1 != 0) = true then some (0, false)
    else Option.bind (board_fed a0 a1 a2) fun x2 => some (x2.1, x2.2)
noncomputable def c72 : Con D := ⟨72, [.lf (.int .i64), .lf (.sl 4), .lf (.sl 5), .lf (.sl 6), .lf (.int .i64), .lf (.int .i64), .lf (.sl 1), .lf (.sl 8), .lf (.sl 0), .lf (.sl 9), .lf (.int .i64)], [.lf (.int .i64), .lf .bool], [.agg [.h 0 [], .h 1 [0], .h 2 [0], .h 3 [0], .h 4 [], .h 5 []], .agg [.h 6 [0], .h 7 [0], .h 8 [0], .h 9 [0]], .one (.h 10 [])], [], [.one (.h 0 []), .one (.h 1 [])], [], fun h => board_Fed ⟨h.1, h.2.1, h.2.2.1, h.2.2.2.1, h.2.2.2.2.1, h.2.2.2.2.2.1⟩ ⟨h.2.2.2.2.2.2.1, h.2.2.2.2.2.2.2.1, h.2.2.2.2.2.2.2.2.1, h.2.2.2.2.2.2.2.2.2.1⟩ h.2.2.2.2.2.2.2.2.2.2⟩
theorem c72_ok : ConOk Tryz.prog T c72 := fn_ok (Φ := [c43, c85]) (rs := [.tmp 6, .tmp 7]) (an := .o) pOk repOk (AllC.mem (⟨c43_ok, c85_ok, trivial⟩ : AllC _ _ [c43, c85])) hmix Tryz.call72 Tryz.func72 rfl rfl (by kernel_rfl) (fun h => by kernel_rfl)

noncomputable def sync_sound (a0 : Board) (a1 : Power) (a2 : Int) : Option (Bool) :=
  Option.bind (idx a0.Breakers a2) fun x1 =>
    Option.bind
      (Option.bind (idx a1.Closed a2) fun x2 =>
        if x2 = true then some true
        else
          Option.bind (board_Broken a1 2 a2) fun x3 =>
            if x3 = true then some true else Option.bind (board_Broken a1 3 x1.A) fun x4 => some x4)
      fun x5 =>
      if x5 = true then some false
      else
        if (x1.Kind == 1) = true then Option.bind (board_Broken a1 3 x1.B) fun x12 => some !x12
        else
          if (x1.Kind == 2) = true then
            Option.bind
              (Option.bind (board_Broken a1 1 x1.B) fun x9 =>
                if (!x9) = true then Option.bind (idx a1.Sources x1.B) fun x10 => some (x10.State == 2)
                else some false)
              fun x11 => some x11
          else
            Option.bind (board_Fed a0 a1 x1.B) fun x6 =>
              Option.bind
                (Option.bind (board_Broken a1 4 x1.B) fun x7 =>
                  if (!x7) = true then some !x6.2 else some false)
                fun x8 => some x8
noncomputable def c44 : Con D := ⟨44, [.lf (.int .i64), .lf (.sl 4), .lf (.sl 5), .lf (.sl 6), .lf (.int .i64), .lf (.int .i64), .lf (.sl 1), .lf (.sl 8), .lf (.sl 0), .lf (.sl 9), .lf (.int .i64)], [.lf .bool], [.agg [.h 0 [], .h 1 [0], .h 2 [0], .h 3 [0], .h 4 [], .h 5 []], .agg [.h 6 [0], .h 7 [0], .h 8 [0], .h 9 [0]], .one (.h 10 [])], [], [.one (.h 0 [])], [], fun h => sync_sound ⟨h.1, h.2.1, h.2.2.1, h.2.2.2.1, h.2.2.2.2.1, h.2.2.2.2.2.1⟩ ⟨h.2.2.2.2.2.2.1, h.2.2.2.2.2.2.2.1, h.2.2.2.2.2.2.2.2.1, h.2.2.2.2.2.2.2.2.2.1⟩ h.2.2.2.2.2.2.2.2.2.2⟩
theorem c44_ok : ConOk Tryz.prog T c44 := fn_ok (Φ := [c57, c72]) (rs := [.tmp 6]) (an := (.n none .o (.n none .o (.n none (.n none (.r (some (true, [(.normal, ⟨[.lf .bool], [(30, .one (.h 0 []))], [], [], 2704⟩)])) .nil) .o) (.n none (.n none .o (.n none (.n none .o (.n none .o (.n none .o (.n none (.n none (.r (some (true, [(.normal, ⟨[.lf .bool], [(6, .one (.h 0 []))], [], [], 3153⟩)])) .nil) .o) .o)))) .o)) (.n none .o (.n none (.r (some (true, [(.normal, ⟨[.lf .bool], [(6, .one (.h 0 []))], [], [], 3793⟩)])) .nil) .o))))))) pOk repOk (AllC.mem (⟨c57_ok, c72_ok, trivial⟩ : AllC _ _ [c57, c72])) hmix Tryz.call44 Tryz.func44 rfl rfl (by kernel_rfl) (fun h => by kernel_rfl)

noncomputable def angle_Norm (a0 : Int) : Option (Int) :=
  Option.bind (remO a0 3600) fun x1 =>
    Option.bind (if decide (x1 < 0) = true then some (W (x1 + 3600)) else some x1) fun x2 => some x2
noncomputable def c61 : Con D := ⟨61, [.lf (.int .i64)], [.lf (.int .i64)], [.one (.h 0 [])], [], [.one (.h 0 [])], [], fun h => angle_Norm h⟩
theorem c61_ok : ConOk Tryz.prog T c61 := fn_ok (Φ := []) (rs := [.tmp 2]) (an := (.n none .o (.n none .o (.n none (.n none .o (.n (some (true, [(.normal, ⟨[.lf (.int .i64)], [(0, .one (.h 0 []))], [], [], 2448⟩)])) .o .o)) .o)))) pOk repOk (AllC.mem (l := []) trivial) hmix Tryz.call61 Tryz.func61 rfl rfl (by kernel_rfl) (fun h => by kernel_rfl)

noncomputable def angle_Diff (a0 : Int) (a1 : Int) : Option (Int) :=
  Option.bind (angle_Norm a1) fun x1 =>
    Option.bind (angle_Norm a0) fun x2 =>
      Option.bind (angle_Norm (W (x1 - x2))) fun x3 =>
        Option.bind (if decide (x3 > 1800) = true then some (W (x3 - 3600)) else some x3) fun x4 =>
          some x4
noncomputable def c35 : Con D := ⟨35, [.lf (.int .i64), .lf (.int .i64)], [.lf (.int .i64)], [.one (.h 0 []), .one (.h 1 [])], [], [.one (.h 0 [])], [], fun h => angle_Diff h.1 h.2⟩
theorem c35_ok : ConOk Tryz.prog T c35 := fn_ok (Φ := [c61]) (rs := [.tmp 4]) (an := (.n none .o (.n none .o (.n none (.n none .o (.n (some (true, [(.normal, ⟨[.lf (.int .i64)], [(5, .one (.h 0 []))], [], [], 2704⟩)])) .o .o)) .o)))) pOk repOk (AllC.mem (⟨c61_ok, trivial⟩ : AllC _ _ [c61])) hmix Tryz.call35 Tryz.func35 rfl rfl (by kernel_rfl) (fun h => by kernel_rfl)

noncomputable def sync_Agree (a0 : Board) (a1 : Running) (a2 : Running) : Option (Bool) :=
  Option.bind
    (if decide (imin a1.Frequency a2.Frequency < 0) = true then some true
    else some (decide (imax a1.Frequency a2.Frequency > 6000)))
    fun x1 =>
    if x1 = true then some false
    else
      Option.bind (angle_Diff a1.Phase a2.Phase) fun x2 =>
        Option.bind
          (if
              decide (imax (W (a1.Frequency - a2.Frequency)) (W (a2.Frequency - a1.Frequency)) ≤ a0.Frequency) =
                true then
            some (decide (imax x2 (W (-x2)) ≤ a0.Phase))
          else some false)
          fun x3 => some x3
noncomputable def c9 : Con D := ⟨9, [.lf (.int .i64), .lf (.sl 4), .lf (.sl 5), .lf (.sl 6), .lf (.int .i64), .lf (.int .i64), .lf (.int .i64), .lf (.int .i64), .lf (.int .i64), .lf (.int .i64), .lf (.int .i64), .lf (.int .i64), .lf (.int .i64), .lf (.int .i64)], [.lf .bool], [.agg [.h 0 [], .h 1 [0], .h 2 [0], .h 3 [0], .h 4 [], .h 5 []], .agg [.h 6 [], .h 7 [], .h 8 [], .h 9 []], .agg [.h 10 [], .h 11 [], .h 12 [], .h 13 []]], [], [.one (.h 0 [])], [], fun h => sync_Agree ⟨h.1, h.2.1, h.2.2.1, h.2.2.2.1, h.2.2.2.2.1, h.2.2.2.2.2.1⟩ ⟨h.2.2.2.2.2.2.1, h.2.2.2.2.2.2.2.1, h.2.2.2.2.2.2.2.2.1, h.2.2.2.2.2.2.2.2.2.1⟩ ⟨h.2.2.2.2.2.2.2.2.2.2.1, h.2.2.2.2.2.2.2.2.2.2.2.1, h.2.2.2.2.2.2.2.2.2.2.2.2.1, h.2.2.2.2.2.2.2.2.2.2.2.2.2⟩⟩
theorem c9_ok : ConOk Tryz.prog T c9 := fn_ok (Φ := [c35]) (rs := [.tmp 6]) (an := (.n none .o (.n none (.n none (.r (some (true, [(.normal, ⟨[.lf .bool], [(22, .one (.h 0 []))], [], [], 2320⟩)])) .nil) .o) (.n none .o (.n none .o (.n none (.r (some (true, [(.normal, ⟨[.lf .bool], [(6, .one (.h 0 []))], [], [], 3537⟩)])) .nil) .o)))))) pOk repOk (AllC.mem (⟨c35_ok, trivial⟩ : AllC _ _ [c35])) hmix Tryz.call9 Tryz.func9 rfl rfl (by kernel_rfl) (fun h => by kernel_rfl)

noncomputable def sync_synchronous (a0 : Board) (a1 : Power) (a2 : Breaker) : Option (Bool) :=
  Option.bind (sync_Leader a0 a1 a2.A) fun x1 =>
    if (!x1.2) = true then some true
    else
      if (a2.Kind == 1) = true then
        Option.bind (sync_Leader a0 a1 a2.B) fun x5 =>
          Option.bind
            (if (!x5.2) = true then some true
            else
              Option.bind (idx a1.Sources x1.1) fun x6 =>
                Option.bind (idx a1.Sources x5.1) fun x7 => Option.bind (sync_Agree a0 x6 x7) fun x8 => some x8)
            fun x9 => some x9
      else
        if (a2.Kind == 2) = true then
          Option.bind (idx a1.Sources x1.1) fun x2 =>
            Option.bind (idx a1.Sources a2.B) fun x3 => Option.bind (sync_Agree a0 x2 x3) fun x4 => some x4
        else some true
noncomputable def c46 : Con D := ⟨46, [.lf (.int .i64), .lf (.sl 4), .lf (.sl 5), .lf (.sl 6), .lf (.int .i64), .lf (.int .i64), .lf (.sl 1), .lf (.sl 8), .lf (.sl 0), .lf (.sl 9), .lf (.int .i64), .lf (.int .i64), .lf (.int .i64)], [.lf .bool], [.agg [.h 0 [], .h 1 [0], .h 2 [0], .h 3 [0], .h 4 [], .h 5 []], .agg [.h 6 [0], .h 7 [0], .h 8 [0], .h 9 [0]], .agg [.h 10 [], .h 11 [], .h 12 []]], [], [.one (.h 0 [])], [], fun h => sync_synchronous ⟨h.1, h.2.1, h.2.2.1, h.2.2.2.1, h.2.2.2.2.1, h.2.2.2.2.2.1⟩ ⟨h.2.2.2.2.2.2.1, h.2.2.2.2.2.2.2.1, h.2.2.2.2.2.2.2.2.1, h.2.2.2.2.2.2.2.2.2.1⟩ ⟨h.2.2.2.2.2.2.2.2.2.2.1, h.2.2.2.2.2.2.2.2.2.2.2.1, h.2.2.2.2.2.2.2.2.2.2.2.2⟩⟩
theorem c46_ok : ConOk Tryz.prog T c46 := fn_ok (Φ := [c9, c14]) (rs := [.tmp 6]) (an := (.n none .o (.n none .o (.n none .o (.n none (.n none .o (.n none (.n none .o (.n none (.n none .o (.n none (.r (some (true, [(.normal, ⟨[.lf .bool], [(6, .one (.h 0 []))], [], [], 3984⟩)])) .nil) .o)) .o)) .o)) .o))))) pOk repOk (AllC.mem (⟨c9_ok, c14_ok, trivial⟩ : AllC _ _ [c9, c14])) hmix Tryz.call46 Tryz.func46 rfl rfl (by kernel_rfl) (fun h => by kernel_rfl)

noncomputable def sync_May (a0 : Board) (a1 : Power) (a2 : Int) : Option (Int) :=
  Option.bind (board_State a0 a1) fun x1 =>
    if (x1 != 0) = true then some x1
    else
      Option.bind (if decide (a2 < 0) = true then some true else some (decide (a2 ≥ len a0.Breakers)))
        fun x2 =>
        if x2 = true then some 10
        else
          Option.bind (sync_sound a0 a1 a2) fun x3 =>
            if (!x3) = true then some 11
            else
              Option.bind (idx a0.Breakers a2) fun x4 =>
                Option.bind (board_Of a0 a1 x4.A) fun x5 =>
                  Option.bind
                    (if (x4.Kind == 1) = true then
                      Option.bind (slices_Contains_int_int x5.1 x4.B) fun x6 => some x6
                    else some false)
                    fun x7 =>
                    Option.bind
                      (if (!x7) = true then Option.bind (sync_synchronous a0 a1 x4) fun x8 => some !x8 else some false)
                      fun x9 => if x9 = true then some 12 else some 0
noncomputable def c16 : Con D := ⟨16, [.lf (.int .i64), .lf (.sl 4), .lf (.sl 5), .lf (.sl 6), .lf (.int .i64), .lf (.int .i64), .lf (.sl 1), .lf (.sl 8), .lf (.sl 0), .lf (.sl 9), .lf (.int .i64)], [.lf (.int .i64)], [.agg [.h 0 [], .h 1 [0], .h 2 [0], .h 3 [0], .h 4 [], .h 5 []], .agg [.h 6 [0], .h 7 [0], .h 8 [0], .h 9 [0]], .one (.h 10 [])], [], [.one (.h 0 [])], [], fun h => sync_May ⟨h.1, h.2.1, h.2.2.1, h.2.2.2.1, h.2.2.2.2.1, h.2.2.2.2.2.1⟩ ⟨h.2.2.2.2.2.2.1, h.2.2.2.2.2.2.2.1, h.2.2.2.2.2.2.2.2.1, h.2.2.2.2.2.2.2.2.2.1⟩ h.2.2.2.2.2.2.2.2.2.2⟩
theorem c16_ok : ConOk Tryz.prog T c16 := fn_ok (Φ := [c41, c43, c44, c45, c46]) (rs := [.tmp 6]) (an := (.n none .o (.n none (.n none .o (.n none (.n none .o (.n none .o (.n none (.r (some (true, [(.normal, ⟨[.lf .bool], [(19, .one (.h 0 []))], [], [], 2704⟩)])) .nil) .o))) .o)) (.n none .o (.n none .o (.n none (.r (some (true, [(.normal, ⟨[.lf .bool], [(11, .one (.h 0 []))], [], [], 4305⟩)])) .nil) (.n none (.n none (.r (some (true, [(.normal, ⟨[.lf .bool], [(66, .one (.h 0 []))], [], [], 4370⟩)])) .nil) .o) .o))))))) pOk repOk (AllC.mem (⟨c41_ok, c43_ok, c44_ok, c45_ok, c46_ok, trivial⟩ : AllC _ _ [c41, c43, c44, c45, c46])) hmix Tryz.call16 Tryz.func16 rfl rfl (by kernel_rfl) (fun h => by kernel_rfl)

noncomputable def sync_Follow_L1 (a1 : Power) (x3 : List
  Island) : Int × List Bool × List Running × List Int × List Part →
  Option
    (Int × List Bool × List Running × List Int × List Part ⊕
      List Bool ×
        List Running ×
          List Int ×
            List
              Part) := fun x4 =>
  if decide (x4.1 < len x3) = true then
    Option.bind (idx x3 x4.1) fun x5 =>
      Option.bind
        (if decide (len x5.Sources > 0) = true then
          Option.bind (idx x5.Sources 0) fun x6 =>
            Option.bind (idx a1.Sources x6) fun x7 =>
              Option.bind
                (sync_set (Power.mk x4.2.1 x4.2.2.1 x4.2.2.2.1 x4.2.2.2.2) x5.Sources x7)
                fun x8 => some (x8.1, x8.2.1, x8.2.2.1, x8.2.2.2)
        else some (x4.2.1, x4.2.2.1, x4.2.2.2.1, x4.2.2.2.2))
        fun x9 => some (.inl (W (x4.1 + 1), x9.1, x9.2.1, x9.2.2.1, x9.2.2.2))
  else some (.inr (x4.2.1, x4.2.2.1, x4.2.2.2.1, x4.2.2.2.2))
noncomputable def sync_Follow (a0 : Board) (a1 : Power) : Option (Int × (List Bool) × (List Running) × (List Int) × (List Part)) :=
  Option.bind (board_State a0 a1) fun x1 =>
    if (x1 != 0) = true then some (x1, [], [], [], [])
    else
      Option.bind (states_Clone a1) fun x2 =>
        Option.bind (board_Islands a0 a1) fun x3 =>
          Option.bind (loopO (sync_Follow_L1 a1 x3) (0, x2.1, x2.2.1, x2.2.2.1, x2.2.2.2))
            fun x10 => some (0, x10.1, x10.2.1, x10.2.2.1, x10.2.2.2)
noncomputable def c27 : Con D := ⟨27, [.lf (.int .i64), .lf (.sl 4), .lf (.sl 5), .lf (.sl 6), .lf (.int .i64), .lf (.int .i64), .lf (.sl 1), .lf (.sl 8), .lf (.sl 0), .lf (.sl 9)], [.lf (.int .i64), .lf (.sl 1), .lf (.sl 8), .lf (.sl 0), .lf (.sl 9)], [.agg [.h 0 [], .h 1 [0], .h 2 [0], .h 3 [0], .h 4 [], .h 5 []], .agg [.h 6 [0], .h 7 [0], .h 8 [0], .h 9 [0]]], [], [.agg [.own 1000, .own 1001, .own 1002, .own 1003], .one (.h 0 [])], [(1000, .sl 1 4 1 [1]), (1001, .sl 8 34 2 [1]), (1002, .sl 0 3 3 [1]), (1003, .sl 9 70 4 [1])], fun h => sync_Follow ⟨h.1, h.2.1, h.2.2.1, h.2.2.2.1, h.2.2.2.2.1, h.2.2.2.2.2.1⟩ ⟨h.2.2.2.2.2.2.1, h.2.2.2.2.2.2.2.1, h.2.2.2.2.2.2.2.2.1, h.2.2.2.2.2.2.2.2.2⟩⟩
theorem c27_ok : ConOk Tryz.prog T c27 := fn_ok (Φ := [c43, c51, c59_1, c60]) (rs := [.cell 4 32, .tmp 5]) (an := (.n none .o (.n none .o (.n none .o (.n none (.n none .o (.n none (.loop ⟨[.lf (.int .i64), .lf (.sl 1), .lf (.sl 8), .lf (.sl 0), .lf (.sl 9)], [(23, .one (.h 0 []))], [(2712, .sl 1 4 1 [1]), (2713, .sl 8 34 2 [1]), (2714, .sl 0 3 3 [1]), (2715, .sl 9 70 4 [1])], [2712, 2713, 2714, 2715], 3280⟩ true [(.exit 0, ⟨[.lf (.sl 1), .lf (.sl 8), .lf (.sl 0), .lf (.sl 9)], [], [(2712, .sl 1 4 0 [1]), (2713, .sl 8 34 1 [1]), (2714, .sl 0 3 2 [1]), (2715, .sl 9 70 3 [1])], [2712, 2713, 2714, 2715], 3280⟩)] (.n none .o (.n none .o (.n none (.n none (.n none .o (.n none .o (.n (some (true, [(.normal, ⟨[.lf (.sl 1), .lf (.sl 8), .lf (.sl 0), .lf (.sl 9)], [], [(2712, .sl 1 4 0 [1]), (2713, .sl 8 34 1 [1]), (2714, .sl 0 3 2 [1]), (2715, .sl 9 70 3 [1])], [2712, 2713, 2714, 2715], 3925⟩)])) .o .o))) .o) .o)))) .o)) .o))))) pOk repOk (AllC.mem (⟨c43_ok, c51_ok, c59_1_ok, c60_ok, trivial⟩ : AllC _ _ [c43, c51, c59_1, c60])) hmix Tryz.call27 Tryz.func27 rfl rfl (by kernel_rfl) (fun h => by kernel_rfl)

noncomputable def sync_Close (a0 : Board) (a1 : Power) (a2 : Int) : Option (Int × (List Bool) × (List Running) × (List Int) × (List Part)) :=
  Option.bind (sync_May a0 a1 a2) fun x1 =>
    if (x1 != 0) = true then some (x1, [], [], [], [])
    else
      Option.bind (states_Clone a1) fun x2 =>
        Option.bind (idx x2.1 a2) fun x3 =>
          Option.bind (idx x2.1 a2) fun x4 =>
            Option.bind (setO x2.1 a2 true) fun x5 =>
              Option.bind (sync_Follow a0 (Power.mk x5 x2.2.1 x2.2.2.1 x2.2.2.2)) fun x6 =>
                some (x6.1, x6.2.1, x6.2.2.1, x6.2.2.2.1, x6.2.2.2.2)
noncomputable def c18 : Con D := ⟨18, [.lf (.int .i64), .lf (.sl 4), .lf (.sl 5), .lf (.sl 6), .lf (.int .i64), .lf (.int .i64), .lf (.sl 1), .lf (.sl 8), .lf (.sl 0), .lf (.sl 9), .lf (.int .i64)], [.lf (.int .i64), .lf (.sl 1), .lf (.sl 8), .lf (.sl 0), .lf (.sl 9)], [.agg [.h 0 [], .h 1 [0], .h 2 [0], .h 3 [0], .h 4 [], .h 5 []], .agg [.h 6 [0], .h 7 [0], .h 8 [0], .h 9 [0]], .one (.h 10 [])], [], [.agg [.own 1000, .own 1001, .own 1002, .own 1003], .one (.h 0 [])], [(1000, .sl 1 4 1 [1]), (1001, .sl 8 34 2 [1]), (1002, .sl 0 3 3 [1]), (1003, .sl 9 70 4 [1])], fun h => sync_Close ⟨h.1, h.2.1, h.2.2.1, h.2.2.2.1, h.2.2.2.2.1, h.2.2.2.2.2.1⟩ ⟨h.2.2.2.2.2.2.1, h.2.2.2.2.2.2.2.1, h.2.2.2.2.2.2.2.2.1, h.2.2.2.2.2.2.2.2.2.1⟩ h.2.2.2.2.2.2.2.2.2.2⟩
theorem c18_ok : ConOk Tryz.prog T c18 := fn_ok (Φ := [c16, c27, c51]) (rs := [.cell 6 32, .tmp 7]) (an := .o) pOk repOk (AllC.mem (⟨c16_ok, c27_ok, c51_ok, trivial⟩ : AllC _ _ [c16, c27, c51])) hmix Tryz.call18 Tryz.func18 rfl rfl (by kernel_rfl) (fun h => by kernel_rfl)

noncomputable def sync_together (a0 : Board) (a1 : Power) (a2 : Int) (a3 : Int) : Option (Bool) :=
  Option.bind (board_Connected a0 a1 a2) fun x1 =>
    if (!x1.2) = true then some false
    else
      Option.bind (board_Of a0 a1 x1.1) fun x2 =>
        Option.bind (slices_Contains_int_int x2.2.1 a3) fun x3 => some x3
noncomputable def c55 : Con D := ⟨55, [.lf (.int .i64), .lf (.sl 4), .lf (.sl 5), .lf (.sl 6), .lf (.int .i64), .lf (.int .i64), .lf (.sl 1), .lf (.sl 8), .lf (.sl 0), .lf (.sl 9), .lf (.int .i64), .lf (.int .i64)], [.lf .bool], [.agg [.h 0 [], .h 1 [0], .h 2 [0], .h 3 [0], .h 4 [], .h 5 []], .agg [.h 6 [0], .h 7 [0], .h 8 [0], .h 9 [0]], .one (.h 10 []), .one (.h 11 [])], [], [.one (.h 0 [])], [], fun h => sync_together ⟨h.1, h.2.1, h.2.2.1, h.2.2.2.1, h.2.2.2.2.1, h.2.2.2.2.2.1⟩ ⟨h.2.2.2.2.2.2.1, h.2.2.2.2.2.2.2.1, h.2.2.2.2.2.2.2.2.1, h.2.2.2.2.2.2.2.2.2.1⟩ h.2.2.2.2.2.2.2.2.2.2.1 h.2.2.2.2.2.2.2.2.2.2.2⟩
theorem c55_ok : ConOk Tryz.prog T c55 := fn_ok (Φ := [c41, c45, c58]) (rs := [.tmp 8]) (an := .o) pOk repOk (AllC.mem (⟨c41_ok, c45_ok, c58_ok, trivial⟩ : AllC _ _ [c41, c45, c58])) hmix Tryz.call55 Tryz.func55 rfl rfl (by kernel_rfl) (fun h => by kernel_rfl)

noncomputable def sync_Bad_L2 (a0 : Board) (a1 : Power) (a2 : Power) (x4 : Int) : Int →
  Option
    (Int ⊕
      Unit ⊕
        Int ⊕
          Unit ⊕
            Bool) := fun x5 =>
  if decide (x5 < x4) = true then
    Option.bind
      (Option.bind (sync_together a0 a2 x4 x5) fun x6 =>
        if x6 = true then
          Option.bind (sync_together a0 a1 x4 x5) fun x7 =>
            if (!x7) = true then
              Option.bind (idx a1.Sources x4) fun x8 =>
                Option.bind (idx a1.Sources x5) fun x9 => Option.bind (sync_Agree a0 x8 x9) fun x10 => some !x10
            else some false
        else some false)
      fun x11 =>
      if x11 = true then some (.inr (.inr (.inr (.inr true)))) else some (.inl (W (x5 + 1)))
  else some (.inr (.inl ()))
noncomputable def sync_Bad_L1 (a0 : Board) (a1 : Power) (a2 : Power) : Int →
  Option
    (Int ⊕
      Unit ⊕
        Bool) := fun x4 =>
  if decide (x4 < len a0.Sources) = true then
    Option.bind (loopO (sync_Bad_L2 a0 a1 a2 x4) 0) fun x12 =>
      Sum.elim (fun x13 => some (.inl (W (x4 + 1)))) (fun x14 => some x14) x12
  else some (.inr (.inl ()))
noncomputable def sync_Bad (a0 : Board) (a1 : Power) (a2 : Power) : Option (Bool) :=
  Option.bind
    (Option.bind (board_State a0 a1) fun x1 =>
      if (x1 != 0) = true then some true
      else Option.bind (board_State a0 a2) fun x2 => some (x2 != 0))
    fun x3 =>
    if x3 = true then some false
    else
      Option.bind (loopO (sync_Bad_L1 a0 a1 a2) 0) fun x15 =>
        Sum.elim (fun x16 => some false) (fun x17 => some x17) x15
noncomputable def c21 : Con D := ⟨21, [.lf (.int .i64), .lf (.sl 4), .lf (.sl 5), .lf (.sl 6), .lf (.int .i64), .lf (.int .i64), .lf (.sl 1), .lf (.sl 8), .lf (.sl 0), .lf (.sl 9), .lf (.sl 1), .lf (.sl 8), .lf (.sl 0), .lf (.sl 9)], [.lf .bool], [.agg [.h 0 [], .h 1 [0], .h 2 [0], .h 3 [0], .h 4 [], .h 5 []], .agg [.h 6 [0], .h 7 [0], .h 8 [0], .h 9 [0]], .agg [.h 10 [0], .h 11 [0], .h 12 [0], .h 13 [0]]], [], [.one (.h 0 [])], [], fun h => sync_Bad ⟨h.1, h.2.1, h.2.2.1, h.2.2.2.1, h.2.2.2.2.1, h.2.2.2.2.2.1⟩ ⟨h.2.2.2.2.2.2.1, h.2.2.2.2.2.2.2.1, h.2.2.2.2.2.2.2.2.1, h.2.2.2.2.2.2.2.2.2.1⟩ ⟨h.2.2.2.2.2.2.2.2.2.2.1, h.2.2.2.2.2.2.2.2.2.2.2.1, h.2.2.2.2.2.2.2.2.2.2.2.2.1, h.2.2.2.2.2.2.2.2.2.2.2.2.2⟩⟩
theorem c21_ok : ConOk Tryz.prog T c21 := fn_ok (Φ := [c9, c43, c55]) (rs := [.tmp 6]) (an := (.n none .o (.n none (.n none (.r (some (true, [(.normal, ⟨[.lf .bool], [(18, .one (.h 0 []))], [], [], 2320⟩)])) .nil) .o) (.n none (.n none .o (.n none (.loop ⟨[.lf (.int .i64)], [(22, .one (.h 0 []))], [], [], 2641⟩ false [(.exit 0, ⟨[], [], [], [], 2641⟩)] (.n none .o (.n none .o (.n none (.n none (.n none .o (.n none .o (.n none (.loop ⟨[.lf (.int .i64)], [(26, .one (.h 0 []))], [], [], 3026⟩ false [(.exit 2, ⟨[], [], [], [], 3026⟩)] (.n none .o (.n none .o (.n none (.n none (.n none .o (.n none (.r (some (true, [(.normal, ⟨[.lf .bool], [(35, .one (.any)), (36, .one (.any)), (37, .one (.any)), (38, .one (.any)), (39, .one (.any)), (40, .one (.any)), (43, .one (.any)), (44, .one (.any)), (45, .one (.any)), (46, .one (.any)), (47, .one (.any)), (48, .one (.any)), (49, .one (.any)), (50, .one (.any)), (51, .one (.any)), (52, .one (.any)), (53, .one (.any)), (54, .one (.any)), (55, .one (.any)), (56, .one (.h 0 []))], [], [], 3283⟩)])) .nil) .o)) .o) .o)))) .o))) .o) .o)))) .o)) .o)))) pOk repOk (AllC.mem (⟨c9_ok, c43_ok, c55_ok, trivial⟩ : AllC _ _ [c9, c43, c55])) hmix Tryz.call21 Tryz.func21 rfl rfl (by kernel_rfl) (fun h => by kernel_rfl)

noncomputable def dynposlaw16_sane : Option (Bool) := Option.bind dynposlaw16_pair fun x1 =>
  Option.bind
    (sync_Match (Board.mk x1.1 x1.2.2.2.1 x1.2.2.2.2.1 [] x1.2.1 x1.2.2.1)
      (Power.mk x1.2.2.2.2.2.1 x1.2.2.2.2.2.2 [] []) 1 0)
    fun x2 =>
    Option.bind
      (sync_Close (Board.mk x1.1 x1.2.2.2.1 x1.2.2.2.2.1 [] x1.2.1 x1.2.2.1)
        (Power.mk x2.2.1 x2.2.2.1 x2.2.2.2.1 x2.2.2.2.2) 0)
      fun x3 =>
      Option.bind
        (Option.bind
          (sync_May (Board.mk x1.1 x1.2.2.2.1 x1.2.2.2.2.1 [] x1.2.1 x1.2.2.1)
            (Power.mk x1.2.2.2.2.2.1 x1.2.2.2.2.2.2 [] []) 0)
          fun x4 =>
          if (x4 == 12) = true then
            if (x2.1 == 0) = true then
              if (x3.1 == 0) = true then
                if (len x3.2.1 == 3) = true then
                  Option.bind (idx x3.2.1 0) fun x5 =>
                    if x5 = true then
                      Option.bind
                        (sync_Bad
                          (Board.mk x1.1 x1.2.2.2.1 x1.2.2.2.2.1 [] x1.2.1 x1.2.2.1)
                          (Power.mk x2.2.1 x2.2.2.1 x2.2.2.2.1 x2.2.2.2.2)
                          (Power.mk x3.2.1 x3.2.2.1 x3.2.2.2.1 x3.2.2.2.2))
                        fun x6 => some !x6
                    else some false
                else some false
              else some false
            else some false
          else some false)
        fun x7 => some x7
noncomputable def c5 : Con D := ⟨5, [], [.lf .bool], [], [], [.one (.h 0 [])], [], fun h => dynposlaw16_sane⟩
theorem c5_ok : ConOk Tryz.prog T c5 := fn_ok (Φ := [c16, c18, c21, c25, c31]) (rs := [.tmp 0]) (an := (.n none .o (.n none .o (.n none .o (.n none .o (.n none (.r (some (true, [(.normal, ⟨[.lf .bool], [(0, .one (.h 0 []))], [], [], 3792⟩)])) .nil) .o)))))) pOk repOk (AllC.mem (⟨c16_ok, c18_ok, c21_ok, c25_ok, c31_ok, trivial⟩ : AllC _ _ [c16, c18, c21, c25, c31])) hmix Tryz.call5 Tryz.func5 rfl rfl (by kernel_rfl) (fun h => by kernel_rfl)

noncomputable def dynposmake_New (a0 : (List Int)) : Option ((List Int) × Int) := Option.bind (slc a0 0 (imin (len a0) 600)) fun x1 => some (x1, 0)
noncomputable def c6 : Con D := ⟨6, [.lf (.sl 0)], [.lf (.sl 0), .lf (.int .i64)], [.one (.h 0 [0])], [], [.one (.ptr 1000 0)], [(1000, .box [.h 0 [0], .h 1 []])], fun h => dynposmake_New h⟩
theorem c6_ok : ConOk Tryz.prog T c6 := fn_ok (Φ := []) (rs := [.tmp 2]) (an := .o) pOk repOk (AllC.mem (l := []) trivial) hmix Tryz.call6 Tryz.func6 rfl rfl (by kernel_rfl) (fun h => by kernel_rfl)

noncomputable def dynposmake_Mod (a0 : Int) (a1 : Int) : Option (Int) :=
  if decide (a1 < 1) = true then some 0
  else Option.bind (remO a0 a1) fun x1 => Option.bind (remO (W (x1 + a1)) a1) fun x2 => some x2
noncomputable def c40 : Con D := ⟨40, [.lf (.int .i64), .lf (.int .i64)], [.lf (.int .i64)], [.one (.h 0 []), .one (.h 1 [])], [], [.one (.h 0 [])], [], fun h => dynposmake_Mod h.1 h.2⟩
theorem c40_ok : ConOk Tryz.prog T c40 := fn_ok (Φ := []) (rs := [.tmp 4]) (an := .o) pOk repOk (AllC.mem (l := []) trivial) hmix Tryz.call40 Tryz.func40 rfl rfl (by kernel_rfl) (fun h => by kernel_rfl)

noncomputable def Src_N (a0 : Src) (a1 : Int) : Option (Int × (List Int) × Int) :=
  if decide (a0.At ≥ len a0.L) = true then some (0, a0.L, a0.At)
  else
    Option.bind (idx a0.L (W (W (a0.At + 1) - 1))) fun x1 =>
      Option.bind (dynposmake_Mod x1 a1) fun x2 => some (x2, a0.L, W (a0.At + 1))
noncomputable def c13 : Con D := ⟨13, [.lf (.sl 0), .lf (.int .i64), .lf (.int .i64)], [.lf (.int .i64), .lf (.sl 0), .lf (.int .i64)], [.one (.ptr 1000 0), .one (.h 2 [])], [(1000, .box [.h 0 [0], .h 1 []])], [.one (.h 0 [])], [(1000, .box [.h 1 [0], .h 2 []])], fun h => Src_N ⟨h.1, h.2.1⟩ h.2.2⟩
theorem c13_ok : ConOk Tryz.prog T c13 := fn_ok (Φ := [c40]) (rs := [.tmp 4]) (an := .o) pOk repOk (AllC.mem (⟨c40_ok, trivial⟩ : AllC _ _ [c40])) hmix Tryz.call13 Tryz.func13 rfl rfl (by kernel_rfl) (fun h => by kernel_rfl)

noncomputable def Src_Range (a0 : Src) (a1 : Int) (a2 : Int) : Option (Int × (List Int) × Int) :=
  Option.bind (Src_N a0 (W (W (a2 - a1) + 1))) fun x1 => some (W (a1 + x1.1), x1.2.1, x1.2.2)
noncomputable def c38 : Con D := ⟨38, [.lf (.sl 0), .lf (.int .i64), .lf (.int .i64), .lf (.int .i64)], [.lf (.int .i64), .lf (.sl 0), .lf (.int .i64)], [.one (.ptr 1000 0), .one (.h 2 []), .one (.h 3 [])], [(1000, .box [.h 0 [0], .h 1 []])], [.one (.h 0 [])], [(1000, .box [.h 1 [0], .h 2 []])], fun h => Src_Range ⟨h.1, h.2.1⟩ h.2.2.1 h.2.2.2⟩
theorem c38_ok : ConOk Tryz.prog T c38 := fn_ok (Φ := [c13]) (rs := [.tmp 6]) (an := .o) pOk repOk (AllC.mem (⟨c13_ok, trivial⟩ : AllC _ _ [c13])) hmix Tryz.call38 Tryz.func38 rfl rfl (by kernel_rfl) (fun h => by kernel_rfl)

noncomputable def Src_Pick (a0 : Src) (a1 : (List Int)) : Option (Int × (List Int) × Int × (List Int)) :=
  Option.bind (Src_N a0 (len a1)) fun x1 => Option.bind (idx a1 x1.1) fun x2 => some (x2, x1.2.1, x1.2.2, a1)
noncomputable def c33_1 : Con D := ⟨33, [.lf (.sl 0), .lf (.int .i64), .lf (.sl 0)], [.lf (.int .i64), .lf (.sl 0), .lf (.int .i64), .lf (.sl 0)], [.one (.ptr 1000 0), .one (.own 1001)], [(1000, .box [.h 0 [0], .h 1 []]), (1001, .sl 0 3 2 [0])], [.one (.h 0 [])], [(1000, .box [.h 1 [0], .h 2 []]), (1001, .sl 0 3 3 [0])], fun h => Src_Pick ⟨h.1, h.2.1⟩ h.2.2⟩
theorem c33_1_ok : ConOk Tryz.prog T c33_1 := fn_ok (Φ := [c13]) (rs := [.tmp 4]) (an := .o) pOk repOk (AllC.mem (⟨c13_ok, trivial⟩ : AllC _ _ [c13])) hmix Tryz.call33 Tryz.func33 rfl rfl (by kernel_rfl) (fun h => by kernel_rfl)

noncomputable def Src_Board_L1 : Int × List Int × Int × Int × Int × Int × List Breaker →
  Option
    (Int × List Int × Int × Int × Int × Int × List Breaker ⊕
      List Int ×
        Int ×
          Int ×
            Int ×
              Int ×
                List
                  Breaker) := fun x4 =>
  if decide (x4.1 < x4.2.2.2.1) = true then
    Option.bind (Src_N (Src.mk x4.2.1 x4.2.2.1) 6) fun x5 =>
      Option.bind
        (if decide (x5.1 < 5) = true then
          Option.bind (Src_N (Src.mk x5.2.1 x5.2.2) x4.1) fun x6 =>
            Option.bind (app x4.2.2.2.2.2.2 [Breaker.mk 1 x6.1 x4.1]) fun x7 =>
              some (x6.2.1, x6.2.2, x4.2.2.2.1, x4.2.2.2.2.1, x4.2.2.2.2.2.1, x7)
        else
          some
            (x5.2.1, x5.2.2, x4.2.2.2.1, x4.2.2.2.2.1, x4.2.2.2.2.2.1,
              x4.2.2.2.2.2.2))
        fun x8 =>
        some
          (.inl
            (W (x4.1 + 1), x8.1, x8.2.1, x8.2.2.1, x8.2.2.2.1, x8.2.2.2.2.1,
              x8.2.2.2.2.2))
  else
    some
      (.inr
        (x4.2.1, x4.2.2.1, x4.2.2.2.1, x4.2.2.2.2.1, x4.2.2.2.2.2.1,
          x4.2.2.2.2.2.2))
noncomputable def Src_Board_L2 : Int × List Int × Int × Int × Int × Int × List Breaker × List Source →
  Option
    (Int × List Int × Int × Int × Int × Int × List Breaker × List Source ⊕
      List Int ×
        Int ×
          Int ×
            Int ×
              Int ×
                List Breaker ×
                  List
                    Source) := fun x15 =>
  if decide (x15.1 > 0) = true then
    Option.bind (Src_N (Src.mk x15.2.1 x15.2.2.1) x15.2.2.2.1) fun x16 =>
      Option.bind
        (app x15.2.2.2.2.2.2.1 [Breaker.mk 2 x16.1 (len x15.2.2.2.2.2.2.2)])
        fun x17 =>
        Option.bind (Src_Pick (Src.mk x16.2.1 x16.2.2) [10, 50, 100])
          fun x18 =>
          Option.bind (Src_Pick (Src.mk x18.2.1 x18.2.2.1) [0, 5, x18.1]) fun x19 =>
            Option.bind (Src_Pick (Src.mk x19.2.1 x19.2.2.1) [0, 1, 3])
              fun x20 =>
              Option.bind (app x15.2.2.2.2.2.2.2 [Source.mk x18.1 x19.1 x20.1]) fun x21 =>
                some
                  (.inl
                    (W (x15.1 - 1), x20.2.1, x20.2.2.1, x15.2.2.2.1,
                      x15.2.2.2.2.1, x15.2.2.2.2.2.1, x17, x21))
  else
    some
      (.inr
        (x15.2.1, x15.2.2.1, x15.2.2.2.1, x15.2.2.2.2.1, x15.2.2.2.2.2.1,
          x15.2.2.2.2.2.2.1, x15.2.2.2.2.2.2.2))
noncomputable def Src_Board_L3 : Int × List Int × Int × Int × Int × Int × List Breaker × List Consumer →
  Option
    (Int × List Int × Int × Int × Int × Int × List Breaker × List Consumer ⊕
      List Int ×
        Int ×
          Int ×
            Int ×
              Int ×
                List Breaker ×
                  List
                    Consumer) := fun x24 =>
  if decide (x24.1 > 0) = true then
    Option.bind (Src_N (Src.mk x24.2.1 x24.2.2.1) x24.2.2.2.1) fun x25 =>
      Option.bind
        (app x24.2.2.2.2.2.2.1 [Breaker.mk 3 x25.1 (len x24.2.2.2.2.2.2.2)])
        fun x26 =>
        Option.bind
          (if decide (x24.2.2.2.1 > 1) = true then
            Option.bind (Src_N (Src.mk x25.2.1 x25.2.2) 4) fun x27 =>
              some (x27.1 == 3, x27.2.1, x27.2.2)
          else some (false, x25.2.1, x25.2.2))
          fun x28 =>
          Option.bind
            (if x28.1 = true then
              Option.bind (remO (W (x25.1 + 1)) x24.2.2.2.1) fun x29 =>
                Option.bind (app x26 [Breaker.mk 3 x29 (len x24.2.2.2.2.2.2.2)]) fun x30 =>
                  some (x24.2.2.2.1, x24.2.2.2.2.1, x24.2.2.2.2.2.1, x30)
            else some (x24.2.2.2.1, x24.2.2.2.2.1, x24.2.2.2.2.2.1, x26))
            fun x31 =>
            Option.bind
              (Src_Pick (Src.mk x28.2.1 x28.2.2) [0, 5, 20, 40])
              fun x32 =>
              Option.bind (quoO x32.1 2) fun x33 =>
                Option.bind (Src_Pick (Src.mk x32.2.1 x32.2.2.1) [0, x33, x32.1]) fun x34 =>
                  Option.bind (Src_N (Src.mk x34.2.1 x34.2.2.1) 3) fun x35 =>
                    Option.bind (Src_Range (Src.mk x35.2.1 x35.2.2) (-1) 2) fun x36 =>
                      Option.bind
                        (if decide (len x24.2.2.2.2.2.2.2 > 0) = true then
                          Option.bind (Src_N (Src.mk x36.2.1 x36.2.2) 4) fun x37 =>
                            some (x37.1 == 3, x37.2.1, x37.2.2)
                        else some (false, x36.2.1, x36.2.2))
                        fun x38 =>
                        Option.bind
                          (if x38.1 = true then
                            Option.bind (Src_N (Src.mk x38.2.1 x38.2.2) (len x24.2.2.2.2.2.2.2))
                              fun x39 => some (x39.2.1, x39.2.2, x32.1, x34.1, x35.1, x36.1, [x39.1])
                          else some (x38.2.1, x38.2.2, x32.1, x34.1, x35.1, x36.1, []))
                          fun x40 =>
                          Option.bind
                            (app x24.2.2.2.2.2.2.2
                              [Consumer.mk x40.2.2.1 x40.2.2.2.1 x40.2.2.2.2.1
                                  x40.2.2.2.2.2.1 x40.2.2.2.2.2.2])
                            fun x41 =>
                            some
                              (.inl
                                (W (x24.1 - 1), x40.1, x40.2.1, x31.1, x31.2.1, x31.2.2.1,
                                  x31.2.2.2, x41))
  else
    some
      (.inr
        (x24.2.1, x24.2.2.1, x24.2.2.2.1, x24.2.2.2.2.1, x24.2.2.2.2.2.1,
          x24.2.2.2.2.2.2.1, x24.2.2.2.2.2.2.2))
noncomputable def Src_Board (a0 : Src) : Option (Int × Int × Int × (List Int) × Int × (List Breaker) × (List Source) × (List Consumer)) :=
  Option.bind (Src_Range a0 1 4) fun x1 =>
    Option.bind (Src_Pick (Src.mk x1.2.1 x1.2.2) [0, 50, 200, 1800])
      fun x2 =>
      Option.bind (Src_Pick (Src.mk x2.2.1 x2.2.2.1) [0, 10, 50]) fun x3 =>
        Option.bind (loopO Src_Board_L1 (1, x3.2.1, x3.2.2.1, x1.1, x2.1, x3.1, [])) fun x9 =>
          Option.bind
            (if decide (x9.2.2.1 > 2) = true then
              Option.bind (Src_N (Src.mk x9.1 x9.2.1) 2) fun x10 =>
                some (x10.1 == 1, x10.2.1, x10.2.2)
            else some (false, x9.1, x9.2.1))
            fun x11 =>
            Option.bind
              (if x11.1 = true then
                Option.bind
                  (app x9.2.2.2.2.2
                    [Breaker.mk 1 0 (W (x9.2.2.1 - 1))])
                  fun x12 => some (x9.2.2.1, x9.2.2.2.1, x9.2.2.2.2.1, x12)
              else some (x9.2.2.1, x9.2.2.2.1, x9.2.2.2.2.1, x9.2.2.2.2.2))
              fun x13 =>
              Option.bind (Src_N (Src.mk x11.2.1 x11.2.2) 5) fun x14 =>
                Option.bind
                  (loopO Src_Board_L2
                    (x14.1, x14.2.1, x14.2.2, x13.1, x13.2.1, x13.2.2.1, x13.2.2.2, []))
                  fun x22 =>
                  Option.bind (Src_N (Src.mk x22.1 x22.2.1) 6) fun x23 =>
                    Option.bind
                      (loopO Src_Board_L3
                        (x23.1, x23.2.1, x23.2.2, x22.2.2.1, x22.2.2.2.1,
                          x22.2.2.2.2.1, x22.2.2.2.2.2.1, []))
                      fun x42 =>
                      some
                        (x42.2.2.1, x42.2.2.2.1, x42.2.2.2.2.1, x42.1, x42.2.1,
                          x42.2.2.2.2.2.1, x22.2.2.2.2.2.2, x42.2.2.2.2.2.2)
noncomputable def c32 : Con D := ⟨32, [.lf (.sl 0), .lf (.int .i64)], [.lf (.int .i64), .lf (.int .i64), .lf (.int .i64), .lf (.sl 0), .lf (.int .i64), .lf (.sl 4), .lf (.sl 5), .lf (.sl 6)], [.one (.ptr 1000 0)], [(1000, .box [.h 0 [0], .h 1 []])], [.agg [.h 0 [], .own 1001, .own 1002, .own 1003, .h 1 [], .h 2 []]], [(1000, .box [.h 3 [0], .h 4 []]), (1001, .sl 4 67 5 []), (1002, .sl 5 91 6 []), (1003, .sl 6 61 7 [1])], fun h => Src_Board ⟨h.1, h.2⟩⟩
theorem c32_ok : ConOk Tryz.prog T c32 := fn_ok (Φ := [c13, c33_1, c38]) (rs := [.cell 2 27]) (an := (.n none .o (.n none .o (.n none (.n none .o (.n none (.loop ⟨[.lf (.int .i64), .lf (.sl 0), .lf (.int .i64), .lf (.int .i64), .lf (.int .i64), .lf (.int .i64), .lf (.sl 4)], [(4, .one (.h 0 []))], [(1000, .box [.h 1 [0], .h 2 []]), (2640, .box [.h 3 [], .own 2832, .nils, .nils, .h 4 [], .h 5 []]), (2832, .sl 4 67 6 [])], [1000, 2640], 2896⟩ true [(.exit 0, ⟨[.lf (.sl 0), .lf (.int .i64), .lf (.int .i64), .lf (.int .i64), .lf (.int .i64), .lf (.sl 4)], [], [(1000, .box [.h 0 [0], .h 1 []]), (2640, .box [.h 2 [], .own 2832, .nils, .nils, .h 3 [], .h 4 []]), (2832, .sl 4 67 5 [])], [1000, 2640], 2896⟩)] (.n none .o (.n none (.n none (.n none .o (.n (some (true, [(.normal, ⟨[.lf (.sl 0), .lf (.int .i64), .lf (.int .i64), .lf (.int .i64), .lf (.int .i64), .lf (.sl 4)], [], [(1000, .box [.h 0 [0], .h 1 []]), (2640, .box [.h 2 [], .own 3351, .nils, .nils, .h 3 [], .h 4 []]), (3351, .sl 4 67 5 [])], [1000, 2640, 2832], 3415⟩)])) .o .o)) .o) .o))) .o)) (.n none (.n none (.r (some (true, [(.normal, ⟨[.lf .bool, .lf (.sl 0), .lf (.int .i64)], [(47, .one (.h 0 []))], [(1000, .box [.h 1 [0], .h 2 []])], [1000], 2966⟩)])) .nil) (.n (some (true, [(.normal, ⟨[.lf (.int .i64), .lf (.int .i64), .lf (.int .i64), .lf (.sl 4)], [], [(2640, .box [.h 0 [], .own 2969, .nils, .nils, .h 1 [], .h 2 []]), (2969, .sl 4 67 3 [])], [2640, 2832], 3033⟩)])) .o .o)) (.n none (.n none .o (.n none (.loop ⟨[.lf (.int .i64), .lf (.sl 0), .lf (.int .i64), .lf (.int .i64), .lf (.int .i64), .lf (.int .i64), .lf (.sl 4), .lf (.sl 5)], [(5, .one (.h 0 []))], [(1000, .box [.h 1 [0], .h 2 []]), (2640, .box [.h 3 [], .own 3229, .own 3230, .nils, .h 4 [], .h 5 []]), (3229, .sl 4 67 6 []), (3230, .sl 5 91 7 [])], [1000, 2640, 2969], 3293⟩ true [(.exit 2, ⟨[.lf (.sl 0), .lf (.int .i64), .lf (.int .i64), .lf (.int .i64), .lf (.int .i64), .lf (.sl 4), .lf (.sl 5)], [], [(1000, .box [.h 0 [0], .h 1 []]), (2640, .box [.h 2 [], .own 3229, .own 3230, .nils, .h 3 [], .h 4 []]), (3229, .sl 4 67 5 []), (3230, .sl 5 91 6 [])], [1000, 2640, 2969], 3293⟩)] .o) .o)) (.n none (.n none .o (.n none (.loop ⟨[.lf (.int .i64), .lf (.sl 0), .lf (.int .i64), .lf (.int .i64), .lf (.int .i64), .lf (.int .i64), .lf (.sl 4), .lf (.sl 6)], [(7, .one (.h 0 []))], [(1000, .box [.h 1 [0], .h 2 []]), (2640, .box [.h 3 [], .own 3492, .own 3230, .own 3493, .h 4 [], .h 5 []]), (3492, .sl 4 67 6 []), (3493, .sl 6 61 7 [1])], [1000, 2640, 3229], 3556⟩ true [(.exit 4, ⟨[.lf (.sl 0), .lf (.int .i64), .lf (.int .i64), .lf (.int .i64), .lf (.int .i64), .lf (.sl 4), .lf (.sl 6)], [], [(1000, .box [.h 0 [0], .h 1 []]), (2640, .box [.h 2 [], .own 3492, .own 3230, .own 3493, .h 3 [], .h 4 []]), (3492, .sl 4 67 5 []), (3493, .sl 6 61 6 [1])], [1000, 2640, 3229], 3556⟩)] (.n none .o (.n none (.n none (.n none .o (.n none .o (.n none .o (.n none (.n none (.r (some (true, [(.normal, ⟨[.lf .bool, .lf (.sl 0), .lf (.int .i64)], [(118, .one (.any)), (119, .one (.any)), (120, .one (.any)), (121, .one (.h 0 []))], [(1000, .box [.h 1 [0], .h 2 []])], [1000], 4908⟩)])) .nil) (.n (some (true, [(.normal, ⟨[.lf (.int .i64), .lf (.int .i64), .lf (.int .i64), .lf (.sl 4)], [], [(2640, .box [.h 0 [], .own 4911, .own 3230, .own 3493, .h 1 [], .h 2 []]), (4911, .sl 4 67 3 [])], [2640, 4652], 4975⟩)])) .o .o)) (.n none .o (.n none .o (.n none (.n none (.r (some (true, [(.normal, ⟨[.lf .bool, .lf (.sl 0), .lf (.int .i64)], [(152, .one (.any)), (153, .one (.any)), (154, .one (.any)), (155, .one (.h 0 []))], [(1000, .box [.h 1 [0], .h 2 []])], [1000], 6195⟩)])) .nil) (.n (some (true, [(.normal, ⟨[.lf (.sl 0), .lf (.int .i64), .lf (.int .i64), .lf (.int .i64), .lf (.int .i64), .lf (.int .i64), .lf (.sl 0)], [], [(1000, .box [.h 0 [0], .h 1 []]), (6003, .box [.h 2 [], .h 3 [], .h 4 [], .h 5 [], .own 6198]), (6198, .sl 0 3 6 [])], [1000, 6003], 6262⟩)])) .o .o)) .o))))))) .o) .o))) .o)) .o))))))) pOk repOk (AllC.mem (⟨c13_ok, c33_1_ok, c38_ok, trivial⟩ : AllC _ _ [c13, c33_1, c38])) hmix Tryz.call32 Tryz.func32 rfl rfl (by kernel_rfl) (fun h => by kernel_rfl)

noncomputable def dynposref15_within (a0 : Int) (a1 : Int) (a2 : Int) : Option (Bool) := Option.bind (if decide (a0 ≥ a1) = true then some (decide (a0 ≤ a2)) else some false) fun x1 => some x1
noncomputable def c63 : Con D := ⟨63, [.lf (.int .i64), .lf (.int .i64), .lf (.int .i64)], [.lf .bool], [.one (.h 0 []), .one (.h 1 []), .one (.h 2 [])], [], [.one (.h 0 [])], [], fun h => dynposref15_within h.1 h.2.1 h.2.2⟩
theorem c63_ok : ConOk Tryz.prog T c63 := fn_ok (Φ := []) (rs := [.tmp 6]) (an := (.n none .o (.n none (.r (some (true, [(.normal, ⟨[.lf .bool], [(6, .one (.h 0 []))], [], [], 2128⟩)])) .nil) .o))) pOk repOk (AllC.mem (l := []) trivial) hmix Tryz.call63 Tryz.func63 rfl rfl (by kernel_rfl) (fun h => by kernel_rfl)

noncomputable def dynposref15_Exists (a0 : Board) (a1 : Part) : Option (Bool) :=
  if (a1.Kind == 1) = true then
    Option.bind (dynposref15_within a1.Number 0 (W (len a0.Sources - 1))) fun x4 => some x4
  else
    if (a1.Kind == 2) = true then
      Option.bind (dynposref15_within a1.Number 0 (W (len a0.Breakers - 1))) fun x3 => some x3
    else
      if (a1.Kind == 3) = true then
        Option.bind (dynposref15_within a1.Number 0 (W (a0.Buses - 1))) fun x2 => some x2
      else
        if (a1.Kind == 4) = true then
          Option.bind (dynposref15_within a1.Number 0 (W (len a0.Consumers - 1))) fun x1 =>
            some x1
        else some false
noncomputable def c34 : Con D := ⟨34, [.lf (.int .i64), .lf (.sl 4), .lf (.sl 5), .lf (.sl 6), .lf (.int .i64), .lf (.int .i64), .lf (.int .i64), .lf (.int .i64)], [.lf .bool], [.agg [.h 0 [], .h 1 [0], .h 2 [0], .h 3 [0], .h 4 [], .h 5 []], .agg [.h 6 [], .h 7 []]], [], [.one (.h 0 [])], [], fun h => dynposref15_Exists ⟨h.1, h.2.1, h.2.2.1, h.2.2.2.1, h.2.2.2.2.1, h.2.2.2.2.2.1⟩ ⟨h.2.2.2.2.2.2.1, h.2.2.2.2.2.2.2⟩⟩
theorem c34_ok : ConOk Tryz.prog T c34 := fn_ok (Φ := [c63]) (rs := [.tmp 4]) (an := .o) pOk repOk (AllC.mem (⟨c63_ok, trivial⟩ : AllC _ _ [c63])) hmix Tryz.call34 Tryz.func34 rfl rfl (by kernel_rfl) (fun h => by kernel_rfl)

end Rx
end Go.Proofs.YtkohjagmjnpdnaaGreat
