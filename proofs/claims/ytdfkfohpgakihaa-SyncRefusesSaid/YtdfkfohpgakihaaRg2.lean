/- Plain functions, walks. Written by a program (wip/gen). -/
import Derived.Test.YtdfkfohpgakihaaRt
import Derived.Test.YtdfkfohpgakihaaHc
import Derived.Test.YtdfkfohpgakihaaRg1
set_option linter.unusedVariables false
set_option maxRecDepth 100000
namespace Go.Proofs.Ytdfkfohpgakihaa
open Go Go.RowKit Dp
namespace Rx

noncomputable def slices_Clone_bool_bool (a0 : (List Bool)) : Option ((List Bool)) := app [] a0
noncomputable def c65 : Con D := ⟨65, [.lf (.sl 1)], [.lf (.sl 1)], [.one (.h 0 [0])], [], [.one (.own 1000)], [(1000, .sl 1 4 0 [])], fun h => slices_Clone_bool_bool h⟩
theorem c65_ok : ConOk Try.prog T c65 := by
  refine ⟨Try.call65, rfl, rfl, rfl, rfl, fun xs0 r0 hr0 avs obs has hobs γ w vs hv _ => ?_⟩
  cases has
  match vs, hv with
  | [], hv => exact hv.elim
  | _ :: _ :: _, hv => exact hv.2.elim
  | [v], hv =>
  obtain ⟨xs, hxs⟩ : ∃ xs : List (D 1), xs = xs0 := ⟨_, rfl⟩
  obtain ⟨r, hrr⟩ : ∃ r : List (D 1), r = r0 := ⟨_, rfl⟩
  have g0 : Rv (In γ.o [0]) w v xs := by rw [hxs]; exact hv.1.1
  have hr : app ([] : List (D 1)) xs = some r := by rw [hxs, hrr]; exact hr0
  subst hrr
  have hT := slr30.2
  refine enter (l := [v]) Try.func65 rfl Try.ntmps65 rfl ?_
  refine CW.sub (L' := [(0, v)]) ⟨rfl, trivial⟩ ?_
  refine CW.sr fun K1 hK1 => ?_
  refine WL.p (.slice none 0 0) rfl rfl ?_
  refine WL.nx hK1 ?_
  refine CW.seq fun K2 hK2 => ?_
  refine CW.sr fun K3 hK3 => ?_
  refine WL.p v rfl rfl ?_
  obtain ⟨a, m, q, rfl, hn⟩ := rvSlice g0
  refine WL.stepE (OW.isNil slr30.1 rfl) rfl ?_
  refine WL.nx hK3 ?_
  cases a with
  | none =>
    refine CW.cond (b := true) rfl (fun _ => ?_) (fun h => nomatch h)
    refine CW.sr fun K4 hK4 => ?_
    refine WL.p (.slice none 0 0) rfl rfl ?_
    refine WL.nx hK4 ?_
    rw [hn rfl] at hr
    obtain rfl := app_nil hr
    exact CW.rets (vs := [.slice none 0 0]) Try.results65 ⟨rfl, trivial⟩ ⟨_, rfl, end_own (n := 1) (e := 4) (q := 1000) (K := []) (M := []) (N := []) rfl rfl rfl (by simp) (by simp) (Evo.refl _ _ γ.o w) (Ow.nil _ _ _ _ _) (fun x hx => by simp at hx <;> omega)⟩ (fun _ _ h => h)
  | some a =>
    refine CW.cond (b := false) rfl (fun h => nomatch h) (fun _ => ?_)
    refine CW.skip ?_
    refine hK2 _ _ ?_
    refine CW.sr fun K5 hK5 => ?_
    refine WL.step (OW.buildSlice (o := γ.o) (k := 1000) (K := []) (xs := ([] : List (D 1))) slr30.1 hT rfl trivial rfl rfl) rfl ?_
    rintro v1 w1 ⟨o1, ev1, h1⟩
    have g0 := g0.evo ev1 rfl
    refine WL.p (.slice (some a) m q) rfl rfl ?_
    refine WL.step (OW.append (K := []) slr30.1 hT rfl rfl h1 (@Els.flat (D 1) _ flat1 _ _ _ _ _ g0.els) hr rfl) rfl ?_
    rintro v2 w2 ⟨o2, ev2, h2⟩
    refine WL.p v2 rfl rfl ?_
    refine WL.nx hK5 ?_
    exact CW.rets (vs := [v2]) Try.results65 ⟨rfl, trivial⟩ ⟨_, rfl, end_own (n := 1) (e := 4) (q := 1000) (K := []) (M := [1000]) (N := [1000]) rfl rfl rfl (by simp) (by simp) ((ev1.weaken (by simp) (by simp)).trans ev2) h2 (fun x hx => by simp at hx <;> omega)⟩ (fun _ _ h => h)

noncomputable def slices_Clone_Running_Running (a0 : (List Running)) : Option ((List Running)) := app [] a0
noncomputable def c66 : Con D := ⟨66, [.lf (.sl 9)], [.lf (.sl 9)], [.one (.h 0 [0])], [], [.one (.own 1000)], [(1000, .sl 9 48 0 [])], fun h => slices_Clone_Running_Running h⟩
theorem c66_ok : ConOk Try.prog T c66 := by
  refine ⟨Try.call66, rfl, rfl, rfl, rfl, fun xs0 r0 hr0 avs obs has hobs γ w vs hv _ => ?_⟩
  cases has
  match vs, hv with
  | [], hv => exact hv.elim
  | _ :: _ :: _, hv => exact hv.2.elim
  | [v], hv =>
  obtain ⟨xs, hxs⟩ : ∃ xs : List (D 9), xs = xs0 := ⟨_, rfl⟩
  obtain ⟨r, hrr⟩ : ∃ r : List (D 9), r = r0 := ⟨_, rfl⟩
  have g0 : Rv (In γ.o [0]) w v xs := by rw [hxs]; exact hv.1.1
  have hr : app ([] : List (D 9)) xs = some r := by rw [hxs, hrr]; exact hr0
  subst hrr
  have hT := slr31.2
  refine enter (l := [v]) Try.func66 rfl Try.ntmps66 rfl ?_
  refine CW.sub (L' := [(0, v)]) ⟨rfl, trivial⟩ ?_
  refine CW.sr fun K1 hK1 => ?_
  refine WL.p (.slice none 0 0) rfl rfl ?_
  refine WL.nx hK1 ?_
  refine CW.seq fun K2 hK2 => ?_
  refine CW.sr fun K3 hK3 => ?_
  refine WL.p v rfl rfl ?_
  obtain ⟨a, m, q, rfl, hn⟩ := rvSlice g0
  refine WL.stepE (OW.isNil slr31.1 rfl) rfl ?_
  refine WL.nx hK3 ?_
  cases a with
  | none =>
    refine CW.cond (b := true) rfl (fun _ => ?_) (fun h => nomatch h)
    refine CW.sr fun K4 hK4 => ?_
    refine WL.p (.slice none 0 0) rfl rfl ?_
    refine WL.nx hK4 ?_
    rw [hn rfl] at hr
    obtain rfl := app_nil hr
    exact CW.rets (vs := [.slice none 0 0]) Try.results66 ⟨rfl, trivial⟩ ⟨_, rfl, end_own (n := 9) (e := 48) (q := 1000) (K := []) (M := []) (N := []) rfl rfl rfl (by simp) (by simp) (Evo.refl _ _ γ.o w) (Ow.nil _ _ _ _ _) (fun x hx => by simp at hx <;> omega)⟩ (fun _ _ h => h)
  | some a =>
    refine CW.cond (b := false) rfl (fun h => nomatch h) (fun _ => ?_)
    refine CW.skip ?_
    refine hK2 _ _ ?_
    refine CW.sr fun K5 hK5 => ?_
    refine WL.step (OW.buildSlice (o := γ.o) (k := 1000) (K := []) (xs := ([] : List (D 9))) slr31.1 hT rfl trivial rfl rfl) rfl ?_
    rintro v1 w1 ⟨o1, ev1, h1⟩
    have g0 := g0.evo ev1 rfl
    refine WL.p (.slice (some a) m q) rfl rfl ?_
    refine WL.step (OW.append (K := []) slr31.1 hT rfl rfl h1 (@Els.flat (D 9) _ flat9 _ _ _ _ _ g0.els) hr rfl) rfl ?_
    rintro v2 w2 ⟨o2, ev2, h2⟩
    refine WL.p v2 rfl rfl ?_
    refine WL.nx hK5 ?_
    exact CW.rets (vs := [v2]) Try.results66 ⟨rfl, trivial⟩ ⟨_, rfl, end_own (n := 9) (e := 48) (q := 1000) (K := []) (M := [1000]) (N := [1000]) rfl rfl rfl (by simp) (by simp) ((ev1.weaken (by simp) (by simp)).trans ev2) h2 (fun x hx => by simp at hx <;> omega)⟩ (fun _ _ h => h)

noncomputable def slices_Clone_int_int (a0 : (List Int)) : Option ((List Int)) := app [] a0
noncomputable def c67 : Con D := ⟨67, [.lf (.sl 0)], [.lf (.sl 0)], [.one (.h 0 [0])], [], [.one (.own 1000)], [(1000, .sl 0 3 0 [])], fun h => slices_Clone_int_int h⟩
theorem c67_ok : ConOk Try.prog T c67 := by
  refine ⟨Try.call67, rfl, rfl, rfl, rfl, fun xs0 r0 hr0 avs obs has hobs γ w vs hv _ => ?_⟩
  cases has
  match vs, hv with
  | [], hv => exact hv.elim
  | _ :: _ :: _, hv => exact hv.2.elim
  | [v], hv =>
  obtain ⟨xs, hxs⟩ : ∃ xs : List (D 0), xs = xs0 := ⟨_, rfl⟩
  obtain ⟨r, hrr⟩ : ∃ r : List (D 0), r = r0 := ⟨_, rfl⟩
  have g0 : Rv (In γ.o [0]) w v xs := by rw [hxs]; exact hv.1.1
  have hr : app ([] : List (D 0)) xs = some r := by rw [hxs, hrr]; exact hr0
  subst hrr
  have hT := slr22.2
  refine enter (l := [v]) Try.func67 rfl Try.ntmps67 rfl ?_
  refine CW.sub (L' := [(0, v)]) ⟨rfl, trivial⟩ ?_
  refine CW.sr fun K1 hK1 => ?_
  refine WL.p (.slice none 0 0) rfl rfl ?_
  refine WL.nx hK1 ?_
  refine CW.seq fun K2 hK2 => ?_
  refine CW.sr fun K3 hK3 => ?_
  refine WL.p v rfl rfl ?_
  obtain ⟨a, m, q, rfl, hn⟩ := rvSlice g0
  refine WL.stepE (OW.isNil slr22.1 rfl) rfl ?_
  refine WL.nx hK3 ?_
  cases a with
  | none =>
    refine CW.cond (b := true) rfl (fun _ => ?_) (fun h => nomatch h)
    refine CW.sr fun K4 hK4 => ?_
    refine WL.p (.slice none 0 0) rfl rfl ?_
    refine WL.nx hK4 ?_
    rw [hn rfl] at hr
    obtain rfl := app_nil hr
    exact CW.rets (vs := [.slice none 0 0]) Try.results67 ⟨rfl, trivial⟩ ⟨_, rfl, end_own (n := 0) (e := 3) (q := 1000) (K := []) (M := []) (N := []) rfl rfl rfl (by simp) (by simp) (Evo.refl _ _ γ.o w) (Ow.nil _ _ _ _ _) (fun x hx => by simp at hx <;> omega)⟩ (fun _ _ h => h)
  | some a =>
    refine CW.cond (b := false) rfl (fun h => nomatch h) (fun _ => ?_)
    refine CW.skip ?_
    refine hK2 _ _ ?_
    refine CW.sr fun K5 hK5 => ?_
    refine WL.step (OW.buildSlice (o := γ.o) (k := 1000) (K := []) (xs := ([] : List (D 0))) slr22.1 hT rfl trivial rfl rfl) rfl ?_
    rintro v1 w1 ⟨o1, ev1, h1⟩
    have g0 := g0.evo ev1 rfl
    refine WL.p (.slice (some a) m q) rfl rfl ?_
    refine WL.step (OW.append (K := []) slr22.1 hT rfl rfl h1 (@Els.flat (D 0) _ flat0 _ _ _ _ _ g0.els) hr rfl) rfl ?_
    rintro v2 w2 ⟨o2, ev2, h2⟩
    refine WL.p v2 rfl rfl ?_
    refine WL.nx hK5 ?_
    exact CW.rets (vs := [v2]) Try.results67 ⟨rfl, trivial⟩ ⟨_, rfl, end_own (n := 0) (e := 3) (q := 1000) (K := []) (M := [1000]) (N := [1000]) rfl rfl rfl (by simp) (by simp) ((ev1.weaken (by simp) (by simp)).trans ev2) h2 (fun x hx => by simp at hx <;> omega)⟩ (fun _ _ h => h)

noncomputable def slices_Clone_Part_Part (a0 : (List Part)) : Option ((List Part)) := app [] a0
noncomputable def c68 : Con D := ⟨68, [.lf (.sl 10)], [.lf (.sl 10)], [.one (.h 0 [0])], [], [.one (.own 1000)], [(1000, .sl 10 65 0 [])], fun h => slices_Clone_Part_Part h⟩
theorem c68_ok : ConOk Try.prog T c68 := by
  refine ⟨Try.call68, rfl, rfl, rfl, rfl, fun xs0 r0 hr0 avs obs has hobs γ w vs hv _ => ?_⟩
  cases has
  match vs, hv with
  | [], hv => exact hv.elim
  | _ :: _ :: _, hv => exact hv.2.elim
  | [v], hv =>
  obtain ⟨xs, hxs⟩ : ∃ xs : List (D 10), xs = xs0 := ⟨_, rfl⟩
  obtain ⟨r, hrr⟩ : ∃ r : List (D 10), r = r0 := ⟨_, rfl⟩
  have g0 : Rv (In γ.o [0]) w v xs := by rw [hxs]; exact hv.1.1
  have hr : app ([] : List (D 10)) xs = some r := by rw [hxs, hrr]; exact hr0
  subst hrr
  have hT := slr32.2
  refine enter (l := [v]) Try.func68 rfl Try.ntmps68 rfl ?_
  refine CW.sub (L' := [(0, v)]) ⟨rfl, trivial⟩ ?_
  refine CW.sr fun K1 hK1 => ?_
  refine WL.p (.slice none 0 0) rfl rfl ?_
  refine WL.nx hK1 ?_
  refine CW.seq fun K2 hK2 => ?_
  refine CW.sr fun K3 hK3 => ?_
  refine WL.p v rfl rfl ?_
  obtain ⟨a, m, q, rfl, hn⟩ := rvSlice g0
  refine WL.stepE (OW.isNil slr32.1 rfl) rfl ?_
  refine WL.nx hK3 ?_
  cases a with
  | none =>
    refine CW.cond (b := true) rfl (fun _ => ?_) (fun h => nomatch h)
    refine CW.sr fun K4 hK4 => ?_
    refine WL.p (.slice none 0 0) rfl rfl ?_
    refine WL.nx hK4 ?_
    rw [hn rfl] at hr
    obtain rfl := app_nil hr
    exact CW.rets (vs := [.slice none 0 0]) Try.results68 ⟨rfl, trivial⟩ ⟨_, rfl, end_own (n := 10) (e := 65) (q := 1000) (K := []) (M := []) (N := []) rfl rfl rfl (by simp) (by simp) (Evo.refl _ _ γ.o w) (Ow.nil _ _ _ _ _) (fun x hx => by simp at hx <;> omega)⟩ (fun _ _ h => h)
  | some a =>
    refine CW.cond (b := false) rfl (fun h => nomatch h) (fun _ => ?_)
    refine CW.skip ?_
    refine hK2 _ _ ?_
    refine CW.sr fun K5 hK5 => ?_
    refine WL.step (OW.buildSlice (o := γ.o) (k := 1000) (K := []) (xs := ([] : List (D 10))) slr32.1 hT rfl trivial rfl rfl) rfl ?_
    rintro v1 w1 ⟨o1, ev1, h1⟩
    have g0 := g0.evo ev1 rfl
    refine WL.p (.slice (some a) m q) rfl rfl ?_
    refine WL.step (OW.append (K := []) slr32.1 hT rfl rfl h1 (@Els.flat (D 10) _ flat10 _ _ _ _ _ g0.els) hr rfl) rfl ?_
    rintro v2 w2 ⟨o2, ev2, h2⟩
    refine WL.p v2 rfl rfl ?_
    refine WL.nx hK5 ?_
    exact CW.rets (vs := [v2]) Try.results68 ⟨rfl, trivial⟩ ⟨_, rfl, end_own (n := 10) (e := 65) (q := 1000) (K := []) (M := [1000]) (N := [1000]) rfl rfl rfl (by simp) (by simp) ((ev1.weaken (by simp) (by simp)).trans ev2) h2 (fun x hx => by simp at hx <;> omega)⟩ (fun _ _ h => h)

noncomputable def states_Clone (a0 : Power) : Option ((List Bool) × (List Running) × (List Int) × (List Part)) :=
  Option.bind (slices_Clone_bool_bool a0.Closed) fun x1 =>
    Option.bind (slices_Clone_Running_Running a0.Sources) fun x2 =>
      Option.bind (slices_Clone_int_int a0.Limits) fun x3 =>
        Option.bind (slices_Clone_Part_Part a0.Broken) fun x4 => some (x1, x2, x3, x4)
noncomputable def c35 : Con D := ⟨35, [.lf (.sl 1), .lf (.sl 9), .lf (.sl 0), .lf (.sl 10)], [.lf (.sl 1), .lf (.sl 9), .lf (.sl 0), .lf (.sl 10)], [.agg [.h 0 [0], .h 1 [0], .h 2 [0], .h 3 [0]]], [], [.agg [.own 1000, .own 1001, .own 1002, .own 1003]], [(1000, .sl 1 4 0 []), (1001, .sl 9 48 1 []), (1002, .sl 0 3 2 []), (1003, .sl 10 65 3 [])], fun h => states_Clone ⟨h.1, h.2.1, h.2.2.1, h.2.2.2⟩⟩
theorem c35_ok : ConOk Try.prog T c35 := fn_ok (Φ := [c65, c66, c67, c68]) (rs := [.cell 2 34]) (an := .o) pOk repOk (AllC.mem (⟨c65_ok, c66_ok, c67_ok, c68_ok, trivial⟩ : AllC _ _ [c65, c66, c67, c68])) hmix Try.call35 Try.func35 rfl rfl (by kernel_rfl) (fun h => by kernel_rfl)

noncomputable def board_groups_L1 (x1 : List
  Int) : Int × List Int →
  Option
    (Int × List Int ⊕
      List
        Int) := fun x2 =>
  if decide (x2.1 < len x1) = true then
    Option.bind (idx x2.2 x2.1) fun x3 =>
      Option.bind (idx x2.2 x2.1) fun x4 =>
        Option.bind (setO x2.2 x2.1 x2.1) fun x5 => some (.inl (W (x2.1 + 1), x5))
  else some (.inr x2.2)
noncomputable def board_groups_L3 (a0 : Board) (a1 : Power) : Int × List Int →
  Option
    (Int × List Int ⊕
      List
        Int) := fun x8 =>
  if decide (x8.1 < len a0.Breakers) = true then
    Option.bind (idx a0.Breakers x8.1) fun x9 =>
      Option.bind
        (if (x9.Kind == 1) = true then Option.bind (idx a1.Closed x8.1) fun x10 => some x10 else some false)
        fun x11 =>
        Option.bind
          (if x11 = true then
            Option.bind (idx x8.2 x9.A) fun x12 =>
              Option.bind (idx x8.2 x9.B) fun x13 =>
                Option.bind (idx x8.2 x9.A) fun x14 =>
                  Option.bind (idx x8.2 x9.A) fun x15 =>
                    Option.bind (setO x8.2 x9.A (imin x12 x13)) fun x16 =>
                      Option.bind (idx x16 x9.B) fun x17 =>
                        Option.bind (idx x16 x9.B) fun x18 =>
                          Option.bind (setO x16 x9.B (imin x12 x13)) fun x19 => some x19
          else some x8.2)
          fun x20 => some (.inl (W (x8.1 + 1), x20))
  else some (.inr x8.2)
noncomputable def board_groups_L2 (a0 : Board) (a1 : Power) (x6 : List
  Int) : Int × List Int →
  Option
    (Int × List Int ⊕
      List
        Int) := fun x7 =>
  if decide (x7.1 < len x6) = true then
    Option.bind (loopO (board_groups_L3 a0 a1) (0, x7.2)) fun x21 =>
      some (.inl (W (x7.1 + 1), x21))
  else some (.inr x7.2)
noncomputable def board_groups (a0 : Board) (a1 : Power) : Option ((List Int)) :=
  Option.bind (mkZ 0 a0.Buses) fun x1 =>
    Option.bind (loopO (board_groups_L1 x1) (0, x1)) fun x6 =>
      Option.bind (loopO (board_groups_L2 a0 a1 x6) (0, x6)) fun x22 => some x22
noncomputable def c69 : Con D := ⟨69, [.lf (.int .i64), .lf (.sl 5), .lf (.sl 6), .lf (.sl 7), .lf (.int .i64), .lf (.int .i64), .lf (.sl 1), .lf (.sl 9), .lf (.sl 0), .lf (.sl 10)], [.lf (.sl 0)], [.agg [.h 0 [], .h 1 [0], .h 2 [0], .h 3 [0], .h 4 [], .h 5 []], .agg [.h 6 [0], .h 7 [0], .h 8 [0], .h 9 [0]]], [], [.one (.own 1000)], [(1000, .sl 0 3 0 [])], fun h => board_groups ⟨h.1, h.2.1, h.2.2.1, h.2.2.2.1, h.2.2.2.2.1, h.2.2.2.2.2.1⟩ ⟨h.2.2.2.2.2.2.1, h.2.2.2.2.2.2.2.1, h.2.2.2.2.2.2.2.2.1, h.2.2.2.2.2.2.2.2.2⟩⟩
theorem c69_ok : ConOk Try.prog T c69 := fn_ok (Φ := []) (rs := [.tmp 4]) (an := (.n none .o (.n none .o (.n none (.n none .o (.n none (.loop ⟨[.lf (.int .i64), .lf (.sl 0)], [(15, .one (.h 0 []))], [(2320, .sl 0 3 1 [])], [2320], 2704⟩ true [(.exit 0, ⟨[.lf (.sl 0)], [], [(2320, .sl 0 3 0 [])], [2320], 2704⟩)] .o) .o)) (.n none (.n none .o (.n none (.loop ⟨[.lf (.int .i64), .lf (.sl 0)], [(25, .one (.h 0 []))], [(2320, .sl 0 3 1 [])], [2320], 2961⟩ true [(.exit 2, ⟨[.lf (.sl 0)], [], [(2320, .sl 0 3 0 [])], [2320], 2961⟩)] (.n none .o (.n none .o (.n none (.n none (.n none .o (.n none (.loop ⟨[.lf (.int .i64), .lf (.sl 0)], [(30, .one (.h 0 []))], [(2320, .sl 0 3 1 [])], [2320], 3347⟩ true [(.exit 4, ⟨[.lf (.sl 0)], [], [(2320, .sl 0 3 0 [])], [2320], 3347⟩)] (.n none .o (.n none .o (.n none (.n none (.n none .o (.n none (.r (some (true, [(.normal, ⟨[.lf .bool], [(39, .one (.any)), (40, .one (.any)), (41, .one (.any)), (42, .one (.any)), (43, .one (.any)), (44, .one (.h 0 []))], [], [], 3861⟩)])) .nil) (.n (some (true, [(.normal, ⟨[.lf (.sl 0)], [], [(2320, .sl 0 3 0 [])], [2320], 3926⟩)])) .o .o))) .o) .o)))) .o)) .o) .o)))) .o)) .o))))) pOk repOk (AllC.mem (l := []) trivial) hmix Try.call69 Try.func69 rfl rfl (by kernel_rfl) (fun h => by kernel_rfl)

noncomputable def board_led_L1 (a0 : Board) (a1 : Power) (a2 : Int) (a3 : Int) : Int →
  Option
    (Int ⊕
      Unit ⊕
        Int ×
          Bool) := fun x1 =>
  if decide (x1 < len a0.Breakers) = true then
    Option.bind (idx a0.Breakers x1) fun x2 =>
      Option.bind
        (if (x2.Kind == a2) = true then
          if (x2.B == a3) = true then Option.bind (idx a1.Closed x1) fun x3 => some x3 else some false
        else some false)
        fun x4 => if x4 = true then some (.inr (.inr (x2.A, true))) else some (.inl (W (x1 + 1)))
  else some (.inr (.inl ()))
noncomputable def board_led (a0 : Board) (a1 : Power) (a2 : Int) (a3 : Int) : Option (Int × Bool) :=
  Option.bind (loopO (board_led_L1 a0 a1 a2 a3) 0) fun x5 =>
    Sum.elim (fun x6 => some (0, false)) (fun x7 => some x7) x5
noncomputable def c92 : Con D := ⟨92, [.lf (.int .i64), .lf (.sl 5), .lf (.sl 6), .lf (.sl 7), .lf (.int .i64), .lf (.int .i64), .lf (.sl 1), .lf (.sl 9), .lf (.sl 0), .lf (.sl 10), .lf (.int .i64), .lf (.int .i64)], [.lf (.int .i64), .lf .bool], [.agg [.h 0 [], .h 1 [0], .h 2 [0], .h 3 [0], .h 4 [], .h 5 []], .agg [.h 6 [0], .h 7 [0], .h 8 [0], .h 9 [0]], .one (.h 10 []), .one (.h 11 [])], [], [.one (.h 0 []), .one (.h 1 [])], [], fun h => board_led ⟨h.1, h.2.1, h.2.2.1, h.2.2.2.1, h.2.2.2.2.1, h.2.2.2.2.2.1⟩ ⟨h.2.2.2.2.2.2.1, h.2.2.2.2.2.2.2.1, h.2.2.2.2.2.2.2.2.1, h.2.2.2.2.2.2.2.2.2.1⟩ h.2.2.2.2.2.2.2.2.2.2.1 h.2.2.2.2.2.2.2.2.2.2.2⟩
theorem c92_ok : ConOk Try.prog T c92 := fn_ok (Φ := []) (rs := [.tmp 8, .tmp 9]) (an := (.n none .o (.n none (.n none .o (.n none (.loop ⟨[.lf (.int .i64)], [(15, .one (.h 0 []))], [], [], 2576⟩ false [(.exit 0, ⟨[], [], [], [], 2576⟩)] (.n none .o (.n none .o (.n none (.n none (.n none .o (.n none (.r (some (true, [(.normal, ⟨[.lf .bool], [(25, .one (.any)), (26, .one (.any)), (27, .one (.any)), (28, .one (.any)), (31, .one (.any)), (32, .one (.any)), (33, .one (.any)), (34, .one (.any)), (35, .one (.any)), (36, .one (.h 0 []))], [], [], 3089⟩)])) .nil) .o)) .o) .o)))) .o)) .o))) pOk repOk (AllC.mem (l := []) trivial) hmix Try.call92 Try.func92 rfl rfl (by kernel_rfl) (fun h => by kernel_rfl)

noncomputable def board_connected (a0 : Board) (a1 : Power) (a2 : Int) : Option (Int × Bool) :=
  Option.bind
    (Option.bind (board_in a2 0 (W (len a1.Sources - 1))) fun x1 =>
      if (!x1) = true then some true else Option.bind (idx a1.Sources a2) fun x2 => some (x2.State != 2))
    fun x3 =>
    if x3 = true then some (0, false)
    else Option.bind (board_led a0 a1 2 a2) fun x4 => some (x4.1, x4.2)
noncomputable def c70 : Con D := ⟨70, [.lf (.int .i64), .lf (.sl 5), .lf (.sl 6), .lf (.sl 7), .lf (.int .i64), .lf (.int .i64), .lf (.sl 1), .lf (.sl 9), .lf (.sl 0), .lf (.sl 10), .lf (.int .i64)], [.lf (.int .i64), .lf .bool], [.agg [.h 0 [], .h 1 [0], .h 2 [0], .h 3 [0], .h 4 [], .h 5 []], .agg [.h 6 [0], .h 7 [0], .h 8 [0], .h 9 [0]], .one (.h 10 [])], [], [.one (.h 0 []), .one (.h 1 [])], [], fun h => board_connected ⟨h.1, h.2.1, h.2.2.1, h.2.2.2.1, h.2.2.2.2.1, h.2.2.2.2.2.1⟩ ⟨h.2.2.2.2.2.2.1, h.2.2.2.2.2.2.2.1, h.2.2.2.2.2.2.2.2.1, h.2.2.2.2.2.2.2.2.2.1⟩ h.2.2.2.2.2.2.2.2.2.2⟩
theorem c70_ok : ConOk Try.prog T c70 := fn_ok (Φ := [c63, c92]) (rs := [.tmp 6, .tmp 7]) (an := (.n none .o (.n none (.n none (.r (some (true, [(.normal, ⟨[.lf .bool], [(23, .one (.h 0 []))], [], [], 2320⟩)])) .nil) .o) .o))) pOk repOk (AllC.mem (⟨c63_ok, c92_ok, trivial⟩ : AllC _ _ [c63, c92])) hmix Try.call70 Try.func70 rfl rfl (by kernel_rfl) (fun h => by kernel_rfl)

noncomputable def board_fed (a0 : Board) (a1 : Power) (a2 : Int) : Option (Int × Bool) := Option.bind (board_led a0 a1 3 a2) fun x1 => some (x1.1, x1.2)
noncomputable def c71 : Con D := ⟨71, [.lf (.int .i64), .lf (.sl 5), .lf (.sl 6), .lf (.sl 7), .lf (.int .i64), .lf (.int .i64), .lf (.sl 1), .lf (.sl 9), .lf (.sl 0), .lf (.sl 10), .lf (.int .i64)], [.lf (.int .i64), .lf .bool], [.agg [.h 0 [], .h 1 [0], .h 2 [0], .h 3 [0], .h 4 [], .h 5 []], .agg [.h 6 [0], .h 7 [0], .h 8 [0], .h 9 [0]], .one (.h 10 [])], [], [.one (.h 0 []), .one (.h 1 [])], [], fun h => board_fed ⟨h.1, h.2.1, h.2.2.1, h.2.2.2.1, h.2.2.2.2.1, h.2.2.2.2.2.1⟩ ⟨h.2.2.2.2.2.2.1, h.2.2.2.2.2.2.2.1, h.2.2.2.2.2.2.2.2.1, h.2.2.2.2.2.2.2.2.2.1⟩ h.2.2.2.2.2.2.2.2.2.2⟩
theorem c71_ok : ConOk Try.prog T c71 := fn_ok (Φ := [c92]) (rs := [.tmp 6, .tmp 7]) (an := .o) pOk repOk (AllC.mem (⟨c92_ok, trivial⟩ : AllC _ _ [c92])) hmix Try.call71 Try.func71 rfl rfl (by kernel_rfl) (fun h => by kernel_rfl)

noncomputable def board_Islands_1 (a0 : Island) : Option (Bool) := some (len a0.Buses == 0)
noncomputable def c73 : Con D := ⟨73, [.lf (.sl 0), .lf (.sl 0), .lf (.sl 0)], [.lf .bool], [.agg [.h 0 [0], .h 1 [0], .h 2 [0]]], [], [.one (.h 0 [])], [], fun h => board_Islands_1 ⟨h.1, h.2.1, h.2.2⟩⟩
theorem c73_ok : ConOk Try.prog T c73 := fn_ok (Φ := []) (rs := [.tmp 2]) (an := .o) pOk repOk (AllC.mem (l := []) trivial) hmix Try.call73 Try.func73 rfl rfl (by kernel_rfl) (fun h => by kernel_rfl)

noncomputable def slices_IndexFunc_Island_Island_L1 (a0 : List
  Island) : Int →
  Option
    (Int ⊕
      Unit ⊕
        Int) := fun x1 =>
  if decide (x1 < len a0) = true then
    Option.bind (idx a0 x1) fun x2 =>
      Option.bind (board_Islands_1 x2) fun x3 =>
        if x3 = true then some (.inr (.inr x1)) else some (.inl (W (x1 + 1)))
  else some (.inr (.inl ()))
noncomputable def slices_IndexFunc_Island_Island (a0 : (List Island)) : Option (Int) :=
  Option.bind (loopO (slices_IndexFunc_Island_Island_L1 a0) 0) fun x4 =>
    Sum.elim (fun x5 => some (-1)) (fun x6 => some x6) x4
noncomputable def c93 : Con D := ⟨93, [.lf (.sl 12)], [.lf (.int .i64)], [.one (.h 0 [0]), .one (.fn 73 [])], [], [.one (.h 0 [])], [], fun h => slices_IndexFunc_Island_Island h⟩
theorem c93_ok : ConOk Try.prog T c93 := fn_ok (Φ := [c73]) (rs := [.tmp 4]) (an := (.n none .o (.n none (.n none .o (.n none (.loop ⟨[.lf (.int .i64)], [(8, .one (.h 0 []))], [], [], 2320⟩ false [(.exit 0, ⟨[], [], [], [], 2320⟩)] .o) .o)) .o))) pOk repOk (AllC.mem (⟨c73_ok, trivial⟩ : AllC _ _ [c73])) hmix Try.call93 Try.func93 rfl rfl (by kernel_rfl) (fun h => by kernel_rfl)

noncomputable def slices_DeleteFunc_Island_Island_L1 : Int × Int × List Island →
  Option
    (Int × Int × List Island ⊕
      Int ×
        List
          Island) := fun x2 =>
  if decide (x2.2.1 < len x2.2.2) = true then
    Option.bind (idx x2.2.2 x2.2.1) fun x3 =>
      Option.bind (board_Islands_1 x3) fun x4 =>
        Option.bind
          (if (!x4) = true then
            Option.bind (idx x2.2.2 x2.1) fun x5 =>
              Option.bind (idx x2.2.2 x2.1) fun x6 =>
                Option.bind (setO x2.2.2 x2.1 x3) fun x7 => some (W (x2.1 + 1), x7)
          else some (x2.1, x2.2.2))
          fun x8 => some (.inl (x8.1, W (x2.2.1 + 1), x8.2))
  else some (.inr (x2.1, x2.2.2))
noncomputable def slices_DeleteFunc_Island_Island (a0 : (List Island)) : Option ((List Island)) :=
  Option.bind (slices_IndexFunc_Island_Island a0) fun x1 =>
    if (x1 == (-1)) = true then some a0
    else
      Option.bind (loopO slices_DeleteFunc_Island_Island_L1 (x1, W (x1 + 1), a0)) fun x9 =>
        Option.bind (slc x9.2 x9.1 (len x9.2)) fun x10 =>
          Option.bind (slc (clrT (Island.mk [] [] []) x9.2 x9.1) 0 x9.1) fun x11 => some x11
noncomputable def c72 : Con D := ⟨72, [.lf (.sl 12)], [.lf (.sl 12)], [.one (.own 1000), .one (.fn 73 [])], [(1000, .sl 12 44 0 [0])], [.one (.own 1001)], [(1001, .sl 12 44 0 [0])], fun h => slices_DeleteFunc_Island_Island h⟩
theorem c72_ok : ConOk Try.prog T c72 := fn_ok (Φ := [c73, c93]) (rs := [.tmp 4]) (an := (.n none .o (.n none .o (.n none .o (.n none (.n none .o (.n none (.loop ⟨[.lf (.int .i64), .lf (.int .i64), .lf (.sl 12)], [(5, .one (.h 0 [])), (6, .one (.h 1 []))], [(1000, .sl 12 44 2 [0])], [1000], 2704⟩ true [(.exit 0, ⟨[.lf (.int .i64), .lf (.sl 12)], [(5, .one (.h 0 []))], [(1000, .sl 12 44 1 [0])], [1000], 2704⟩)] (.n none .o (.n none (.n none (.n none .o (.n none .o (.n (some (true, [(.normal, ⟨[.lf (.int .i64), .lf (.sl 12)], [(5, .one (.h 0 []))], [(1000, .sl 12 44 1 [0])], [1000], 3667⟩)])) .o .o))) .o) .o))) .o)) .o))))) pOk repOk (AllC.mem (⟨c73_ok, c93_ok, trivial⟩ : AllC _ _ [c73, c93])) hmix Try.call72 Try.func72 rfl rfl (by kernel_rfl) (fun h => by kernel_rfl)

noncomputable def board_Islands_L1 (x2 : List
  Int) : Int × List Island →
  Option
    (Int × List Island ⊕
      List
        Island) := fun x4 =>
  if decide (x4.1 < len x2) = true then
    Option.bind (idx x2 x4.1) fun x5 =>
      Option.bind (idx x4.2 x5) fun x6 =>
        Option.bind (idx x4.2 x5) fun x7 =>
          Option.bind (idx x4.2 x5) fun x8 =>
            Option.bind (app x8.Buses [x4.1]) fun x9 =>
              Option.bind (setO x4.2 x5 (Island.mk x9 x8.Sources x8.Consumers)) fun x10 =>
                Option.bind (idx x10 x5) fun x11 =>
                  Option.bind (eqO x5 x5) fun x12 => some (.inl (W (x4.1 + 1), x10))
  else some (.inr x4.2)
noncomputable def board_Islands_L2 (a0 : Board) (a1 : Power) (x2 : List
  Int) : Int × List Island →
  Option
    (Int × List Island ⊕
      List
        Island) := fun x14 =>
  if decide (x14.1 < len a0.Sources) = true then
    Option.bind (board_connected a0 a1 x14.1) fun x15 =>
      Option.bind
        (if x15.2 = true then
          Option.bind (idx x2 x15.1) fun x16 =>
            Option.bind (idx x2 x15.1) fun x17 =>
              Option.bind (idx x14.2 x17) fun x18 =>
                Option.bind (idx x14.2 x17) fun x19 =>
                  Option.bind (idx x14.2 x17) fun x20 =>
                    Option.bind (app x20.Sources [x14.1]) fun x21 =>
                      Option.bind (setO x14.2 x17 (Island.mk x20.Buses x21 x20.Consumers)) fun x22 =>
                        Option.bind (idx x22 x16) fun x23 => Option.bind (eqO x16 x17) fun x24 => some x22
        else some x14.2)
        fun x25 => some (.inl (W (x14.1 + 1), x25))
  else some (.inr x14.2)
noncomputable def board_Islands_L3 (a0 : Board) (a1 : Power) (x2 : List
  Int) : Int × List Island →
  Option
    (Int × List Island ⊕
      List
        Island) := fun x27 =>
  if decide (x27.1 < len a0.Consumers) = true then
    Option.bind (board_fed a0 a1 x27.1) fun x28 =>
      Option.bind
        (if x28.2 = true then
          Option.bind (idx x2 x28.1) fun x29 =>
            Option.bind (idx x2 x28.1) fun x30 =>
              Option.bind (idx x27.2 x30) fun x31 =>
                Option.bind (idx x27.2 x30) fun x32 =>
                  Option.bind (idx x27.2 x30) fun x33 =>
                    Option.bind (app x33.Consumers [x27.1]) fun x34 =>
                      Option.bind (setO x27.2 x30 (Island.mk x33.Buses x33.Sources x34)) fun x35 =>
                        Option.bind (idx x35 x29) fun x36 => Option.bind (eqO x29 x30) fun x37 => some x35
        else some x27.2)
        fun x38 => some (.inl (W (x27.1 + 1), x38))
  else some (.inr x27.2)
noncomputable def board_Islands (a0 : Board) (a1 : Power) : Option ((List Island)) :=
  Option.bind (board_State a0 a1) fun x1 =>
    if (x1 != 0) = true then some []
    else
      Option.bind (board_groups a0 a1) fun x2 =>
        Option.bind (mkZ (Island.mk [] [] []) a0.Buses) fun x3 =>
          Option.bind (loopO (board_Islands_L1 x2) (0, x3)) fun x13 =>
            Option.bind (loopO (board_Islands_L2 a0 a1 x2) (0, x13)) fun x26 =>
              Option.bind (loopO (board_Islands_L3 a0 a1 x2) (0, x26)) fun x39 =>
                Option.bind (slices_DeleteFunc_Island_Island x39) fun x40 => some x40
noncomputable def c36 : Con D := ⟨36, [.lf (.int .i64), .lf (.sl 5), .lf (.sl 6), .lf (.sl 7), .lf (.int .i64), .lf (.int .i64), .lf (.sl 1), .lf (.sl 9), .lf (.sl 0), .lf (.sl 10)], [.lf (.sl 12)], [.agg [.h 0 [], .h 1 [0], .h 2 [0], .h 3 [0], .h 4 [], .h 5 []], .agg [.h 6 [0], .h 7 [0], .h 8 [0], .h 9 [0]]], [], [.one (.own 1000)], [(1000, .sl 12 44 0 [1])], fun h => board_Islands ⟨h.1, h.2.1, h.2.2.1, h.2.2.2.1, h.2.2.2.2.1, h.2.2.2.2.2.1⟩ ⟨h.2.2.2.2.2.2.1, h.2.2.2.2.2.2.2.1, h.2.2.2.2.2.2.2.2.1, h.2.2.2.2.2.2.2.2.2⟩⟩
theorem c36_ok : ConOk Try.prog T c36 := fn_ok (Φ := [c34, c69, c70, c71, c72]) (rs := [.tmp 4]) (an := (.n none .o (.n none .o (.n none .o (.n none .o (.n none (.n none .o (.n none (.loop ⟨[.lf (.int .i64), .lf (.sl 12)], [(27, .one (.h 0 []))], [(2832, .kid 12 44 3 0 1)], [2832], 3216⟩ true [(.exit 0, ⟨[.lf (.sl 12)], [], [(2832, .kid 12 44 3 0 0)], [2832], 3216⟩)] .o) .o)) (.n none (.n none .o (.n none (.loop ⟨[.lf (.int .i64), .lf (.sl 12)], [(48, .one (.h 0 []))], [(2832, .kid 12 44 3 0 1)], [2832], 3537⟩ true [(.exit 2, ⟨[.lf (.sl 12)], [], [(2832, .kid 12 44 3 0 0)], [2832], 3537⟩)] (.n none .o (.n none .o (.n none (.n none (.n none .o (.n none .o (.n none .o (.n (some (true, [(.normal, ⟨[.lf (.sl 12)], [], [(2832, .kid 12 44 3 0 0)], [2832], 4435⟩)])) .o .o)))) .o) .o)))) .o)) (.n none (.n none .o (.n none (.loop ⟨[.lf (.int .i64), .lf (.sl 12)], [(81, .one (.h 0 []))], [(2832, .kid 12 44 3 0 1)], [2832], 3858⟩ true [(.exit 4, ⟨[.lf (.sl 12)], [], [(2832, .kid 12 44 3 0 0)], [2832], 3858⟩)] (.n none .o (.n none .o (.n none (.n none (.n none .o (.n none .o (.n none .o (.n (some (true, [(.normal, ⟨[.lf (.sl 12)], [], [(2832, .kid 12 44 3 0 0)], [2832], 4756⟩)])) .o .o)))) .o) .o)))) .o)) (.n none (.r none (.thaw 1 [2832] .nil)) .o))))))))) pOk repOk (AllC.mem (⟨c34_ok, c69_ok, c70_ok, c71_ok, c72_ok, trivial⟩ : AllC _ _ [c34, c69, c70, c71, c72])) hmix Try.call36 Try.func36 rfl rfl (by kernel_rfl) (fun h => by kernel_rfl)

noncomputable def sync_set_L1 (a1 : List
  Int) (a2 : Running) : Int × List Running →
  Option
    (Int × List Running ⊕
      List
        Running) := fun x1 =>
  if decide (x1.1 < len a1) = true then
    Option.bind (idx a1 x1.1) fun x2 =>
      Option.bind (idx x1.2 x2) fun x3 =>
        Option.bind (idx x1.2 x2) fun x4 =>
          Option.bind (setO x1.2 x2 (Running.mk x4.State x4.Since a2.Frequency x4.Phase)) fun x5 =>
            Option.bind (idx x5 x2) fun x6 =>
              Option.bind (idx x5 x2) fun x7 =>
                Option.bind (setO x5 x2 (Running.mk x7.State x7.Since x7.Frequency a2.Phase)) fun x8 =>
                  some (.inl (W (x1.1 + 1), x8))
  else some (.inr x1.2)
noncomputable def sync_set (a0 : Power) (a1 : (List Int)) (a2 : Running) : Option ((List Bool) × (List Running) × (List Int) × (List Part)) :=
  Option.bind (loopO (sync_set_L1 a1 a2) (0, a0.Sources)) fun x9 => some (a0.Closed, x9, a0.Limits, a0.Broken)
noncomputable def c37 : Con D := ⟨37, [.lf (.sl 1), .lf (.sl 9), .lf (.sl 0), .lf (.sl 10), .lf (.sl 0), .lf (.int .i64), .lf (.int .i64), .lf (.int .i64), .lf (.int .i64)], [.lf (.sl 1), .lf (.sl 9), .lf (.sl 0), .lf (.sl 10)], [.agg [.own 1000, .own 1001, .own 1002, .own 1003], .one (.h 4 [0]), .agg [.h 5 [], .h 6 [], .h 7 [], .h 8 []]], [(1000, .sl 1 4 0 [0]), (1001, .sl 9 48 1 [0]), (1002, .sl 0 3 2 [0]), (1003, .sl 10 65 3 [0])], [], [(1000, .sl 1 4 0 [0]), (1001, .sl 9 48 1 [0]), (1002, .sl 0 3 2 [0]), (1003, .sl 10 65 3 [0])], fun h => sync_set ⟨h.1, h.2.1, h.2.2.1, h.2.2.2.1⟩ h.2.2.2.2.1 ⟨h.2.2.2.2.2.1, h.2.2.2.2.2.2.1, h.2.2.2.2.2.2.2.1, h.2.2.2.2.2.2.2.2⟩⟩
theorem c37_ok : ConOk Try.prog T c37 := fn_ok (Φ := []) (rs := []) (an := (.n none .o (.n none .o (.n none (.loop ⟨[.lf (.int .i64), .lf (.sl 9)], [(10, .one (.h 0 []))], [(1001, .sl 9 48 1 [0])], [1001], 2384⟩ true [(.exit 0, ⟨[.lf (.sl 9)], [], [(1001, .sl 9 48 0 [0])], [1001], 2384⟩)] .o) .o)))) pOk repOk (AllC.mem (l := []) trivial) hmix Try.call37 Try.func37 rfl rfl (by kernel_rfl) (fun h => by kernel_rfl)

noncomputable def sync_Follow_L1 (a1 : Power) (x3 : List
  Island) : Int × List Bool × List Running × List Int × List Part →
  Option
    (Int × List Bool × List Running × List Int × List Part ⊕
      List Bool ×
        List Running ×
          List Int ×
            List
              Part) := fun x4 =>
  if decide (x4.1 < len x3) = true then
    Option.bind (idx x3 x4.1) fun x5 =>
      Option.bind
        (if decide (len x5.Sources > 0) = true then
          Option.bind (idx x5.Sources 0) fun x6 =>
            Option.bind (idx a1.Sources x6) fun x7 =>
              Option.bind
                (sync_set (Power.mk x4.2.1 x4.2.2.1 x4.2.2.2.1 x4.2.2.2.2) x5.Sources x7)
                fun x8 => some (x8.1, x8.2.1, x8.2.2.1, x8.2.2.2)
        else some (x4.2.1, x4.2.2.1, x4.2.2.2.1, x4.2.2.2.2))
        fun x9 => some (.inl (W (x4.1 + 1), x9.1, x9.2.1, x9.2.2.1, x9.2.2.2))
  else some (.inr (x4.2.1, x4.2.2.1, x4.2.2.2.1, x4.2.2.2.2))
noncomputable def sync_Follow (a0 : Board) (a1 : Power) : Option (Int × (List Bool) × (List Running) × (List Int) × (List Part)) :=
  Option.bind (board_State a0 a1) fun x1 =>
    if (x1 != 0) = true then some (x1, [], [], [], [])
    else
      Option.bind (states_Clone a1) fun x2 =>
        Option.bind (board_Islands a0 a1) fun x3 =>
          Option.bind (loopO (sync_Follow_L1 a1 x3) (0, x2.1, x2.2.1, x2.2.2.1, x2.2.2.2))
            fun x10 => some (0, x10.1, x10.2.1, x10.2.2.1, x10.2.2.2)
noncomputable def c11 : Con D := ⟨11, [.lf (.int .i64), .lf (.sl 5), .lf (.sl 6), .lf (.sl 7), .lf (.int .i64), .lf (.int .i64), .lf (.sl 1), .lf (.sl 9), .lf (.sl 0), .lf (.sl 10)], [.lf (.int .i64), .lf (.sl 1), .lf (.sl 9), .lf (.sl 0), .lf (.sl 10)], [.agg [.h 0 [], .h 1 [0], .h 2 [0], .h 3 [0], .h 4 [], .h 5 []], .agg [.h 6 [0], .h 7 [0], .h 8 [0], .h 9 [0]]], [], [.agg [.own 1000, .own 1001, .own 1002, .own 1003], .one (.h 0 [])], [(1000, .sl 1 4 1 [1]), (1001, .sl 9 48 2 [1]), (1002, .sl 0 3 3 [1]), (1003, .sl 10 65 4 [1])], fun h => sync_Follow ⟨h.1, h.2.1, h.2.2.1, h.2.2.2.1, h.2.2.2.2.1, h.2.2.2.2.2.1⟩ ⟨h.2.2.2.2.2.2.1, h.2.2.2.2.2.2.2.1, h.2.2.2.2.2.2.2.2.1, h.2.2.2.2.2.2.2.2.2⟩⟩
theorem c11_ok : ConOk Try.prog T c11 := fn_ok (Φ := [c34, c35, c36, c37]) (rs := [.cell 4 34, .tmp 5]) (an := (.n none .o (.n none .o (.n none .o (.n none (.n none .o (.n none (.loop ⟨[.lf (.int .i64), .lf (.sl 1), .lf (.sl 9), .lf (.sl 0), .lf (.sl 10)], [(23, .one (.h 0 []))], [(2712, .sl 1 4 1 [1]), (2713, .sl 9 48 2 [1]), (2714, .sl 0 3 3 [1]), (2715, .sl 10 65 4 [1])], [2712, 2713, 2714, 2715], 3280⟩ true [(.exit 0, ⟨[.lf (.sl 1), .lf (.sl 9), .lf (.sl 0), .lf (.sl 10)], [], [(2712, .sl 1 4 0 [1]), (2713, .sl 9 48 1 [1]), (2714, .sl 0 3 2 [1]), (2715, .sl 10 65 3 [1])], [2712, 2713, 2714, 2715], 3280⟩)] (.n none .o (.n none .o (.n none (.n none (.n none .o (.n none .o (.n (some (true, [(.normal, ⟨[.lf (.sl 1), .lf (.sl 9), .lf (.sl 0), .lf (.sl 10)], [], [(2712, .sl 1 4 0 [1]), (2713, .sl 9 48 1 [1]), (2714, .sl 0 3 2 [1]), (2715, .sl 10 65 3 [1])], [2712, 2713, 2714, 2715], 3925⟩)])) .o .o))) .o) .o)))) .o)) .o))))) pOk repOk (AllC.mem (⟨c34_ok, c35_ok, c36_ok, c37_ok, trivial⟩ : AllC _ _ [c34, c35, c36, c37])) hmix Try.call11 Try.func11 rfl rfl (by kernel_rfl) (fun h => by kernel_rfl)

noncomputable def angle_Norm (a0 : Int) : Option (Int) :=
  Option.bind (remO a0 3600) fun x1 =>
    Option.bind (if decide (x1 < 0) = true then some (W (x1 + 3600)) else some x1) fun x2 => some x2
noncomputable def c38 : Con D := ⟨38, [.lf (.int .i64)], [.lf (.int .i64)], [.one (.h 0 [])], [], [.one (.h 0 [])], [], fun h => angle_Norm h⟩
theorem c38_ok : ConOk Try.prog T c38 := fn_ok (Φ := []) (rs := [.tmp 2]) (an := (.n none .o (.n none .o (.n none (.n none .o (.n (some (true, [(.normal, ⟨[.lf (.int .i64)], [(0, .one (.h 0 []))], [], [], 2448⟩)])) .o .o)) .o)))) pOk repOk (AllC.mem (l := []) trivial) hmix Try.call38 Try.func38 rfl rfl (by kernel_rfl) (fun h => by kernel_rfl)

noncomputable def sync_Turn_L1 (a1 : Power) : Int × List Running →
  Option
    (Int × List Running ⊕
      List
        Running) := fun x3 =>
  if decide (x3.1 < len a1.Sources) = true then
    Option.bind (idx a1.Sources x3.1) fun x4 =>
      Option.bind
        (if (x4.State == 2) = true then
          Option.bind (angle_Norm (W (x4.Phase + W (36 * W (x4.Frequency - 5000))))) fun x5 =>
            Option.bind (idx x3.2 x3.1) fun x6 =>
              Option.bind (idx x3.2 x3.1) fun x7 =>
                Option.bind (setO x3.2 x3.1 (Running.mk x7.State x7.Since x7.Frequency x5)) fun x8 => some x8
        else some x3.2)
        fun x9 => some (.inl (W (x3.1 + 1), x9))
  else some (.inr x3.2)
noncomputable def sync_Turn (a0 : Board) (a1 : Power) : Option (Int × (List Bool) × (List Running) × (List Int) × (List Part)) :=
  Option.bind (board_State a0 a1) fun x1 =>
    if (x1 != 0) = true then some (x1, [], [], [], [])
    else
      Option.bind (states_Clone a1) fun x2 =>
        Option.bind (loopO (sync_Turn_L1 a1) (0, x2.2.1)) fun x10 =>
          some (0, x2.1, x10, x2.2.2.1, x2.2.2.2)
noncomputable def c12 : Con D := ⟨12, [.lf (.int .i64), .lf (.sl 5), .lf (.sl 6), .lf (.sl 7), .lf (.int .i64), .lf (.int .i64), .lf (.sl 1), .lf (.sl 9), .lf (.sl 0), .lf (.sl 10)], [.lf (.int .i64), .lf (.sl 1), .lf (.sl 9), .lf (.sl 0), .lf (.sl 10)], [.agg [.h 0 [], .h 1 [0], .h 2 [0], .h 3 [0], .h 4 [], .h 5 []], .agg [.h 6 [0], .h 7 [0], .h 8 [0], .h 9 [0]]], [], [.agg [.own 1000, .own 1001, .own 1002, .own 1003], .one (.h 0 [])], [(1000, .sl 1 4 1 []), (1001, .sl 9 48 2 []), (1002, .sl 0 3 3 []), (1003, .sl 10 65 4 [])], fun h => sync_Turn ⟨h.1, h.2.1, h.2.2.1, h.2.2.2.1, h.2.2.2.2.1, h.2.2.2.2.2.1⟩ ⟨h.2.2.2.2.2.2.1, h.2.2.2.2.2.2.2.1, h.2.2.2.2.2.2.2.2.1, h.2.2.2.2.2.2.2.2.2⟩⟩
theorem c12_ok : ConOk Try.prog T c12 := fn_ok (Φ := [c34, c35, c38]) (rs := [.cell 4 34, .tmp 5]) (an := (.n none .o (.n none .o (.n none .o (.n none (.n none .o (.n none (.loop ⟨[.lf (.int .i64), .lf (.sl 9)], [(22, .one (.h 0 []))], [(2713, .sl 9 48 1 [])], [2713], 3216⟩ true [(.exit 0, ⟨[.lf (.sl 9)], [], [(2713, .sl 9 48 0 [])], [2713], 3216⟩)] (.n none .o (.n none .o (.n none (.n none (.n none .o (.n none .o (.n (some (true, [(.normal, ⟨[.lf (.sl 9)], [], [(2713, .sl 9 48 0 [])], [2713], 3922⟩)])) .o .o))) .o) .o)))) .o)) .o))))) pOk repOk (AllC.mem (⟨c34_ok, c35_ok, c38_ok, trivial⟩ : AllC _ _ [c34, c35, c38])) hmix Try.call12 Try.func12 rfl rfl (by kernel_rfl) (fun h => by kernel_rfl)

noncomputable def dynposref01_Bools_L1 (a0 : List
  Bool) (a1 : List
  Bool) : Int →
  Option
    (Int ⊕
      Unit ⊕
        Bool) := fun x1 =>
  if decide (x1 < len a0) = true then
    Option.bind (idx a0 x1) fun x2 =>
      Option.bind (idx a1 x1) fun x3 =>
        if (!x2 == x3) = true then some (.inr (.inr false)) else some (.inl (W (x1 + 1)))
  else some (.inr (.inl ()))
noncomputable def dynposref01_Bools (a0 : (List Bool)) (a1 : (List Bool)) : Option (Bool) :=
  if (len a0 != len a1) = true then some false
  else
    Option.bind (loopO (dynposref01_Bools_L1 a0 a1) 0) fun x4 =>
      Sum.elim (fun x5 => some true) (fun x6 => some x6) x4
noncomputable def c26 : Con D := ⟨26, [.lf (.sl 1), .lf (.sl 1)], [.lf .bool], [.one (.h 0 [0]), .one (.h 1 [0])], [], [.one (.h 0 [])], [], fun h => dynposref01_Bools h.1 h.2⟩
theorem c26_ok : ConOk Try.prog T c26 := fn_ok (Φ := []) (rs := [.tmp 4]) (an := (.n none .o (.n none .o (.n none (.n none .o (.n none (.loop ⟨[.lf (.int .i64)], [(13, .one (.h 0 []))], [], [], 2640⟩ false [(.exit 0, ⟨[], [], [], [], 2640⟩)] .o) .o)) .o)))) pOk repOk (AllC.mem (l := []) trivial) hmix Try.call26 Try.func26 rfl rfl (by kernel_rfl) (fun h => by kernel_rfl)

noncomputable def dynposref01_Ints_L1 (a0 : List
  Int) (a1 : List
  Int) : Int →
  Option
    (Int ⊕
      Unit ⊕
        Bool) := fun x1 =>
  if decide (x1 < len a0) = true then
    Option.bind (idx a0 x1) fun x2 =>
      Option.bind (idx a1 x1) fun x3 =>
        if (x2 != x3) = true then some (.inr (.inr false)) else some (.inl (W (x1 + 1)))
  else some (.inr (.inl ()))
noncomputable def dynposref01_Ints (a0 : (List Int)) (a1 : (List Int)) : Option (Bool) :=
  if (len a0 != len a1) = true then some false
  else
    Option.bind (loopO (dynposref01_Ints_L1 a0 a1) 0) fun x4 =>
      Sum.elim (fun x5 => some true) (fun x6 => some x6) x4
noncomputable def c39 : Con D := ⟨39, [.lf (.sl 0), .lf (.sl 0)], [.lf .bool], [.one (.h 0 [0]), .one (.h 1 [0])], [], [.one (.h 0 [])], [], fun h => dynposref01_Ints h.1 h.2⟩
theorem c39_ok : ConOk Try.prog T c39 := fn_ok (Φ := []) (rs := [.tmp 4]) (an := (.n none .o (.n none .o (.n none (.n none .o (.n none (.loop ⟨[.lf (.int .i64)], [(13, .one (.h 0 []))], [], [], 2640⟩ false [(.exit 0, ⟨[], [], [], [], 2640⟩)] .o) .o)) .o)))) pOk repOk (AllC.mem (l := []) trivial) hmix Try.call39 Try.func39 rfl rfl (by kernel_rfl) (fun h => by kernel_rfl)

noncomputable def dynposref15_Same_L1 (a0 : Power) (a1 : Power) : Int →
  Option
    (Int ⊕
      Unit ⊕
        Bool) := fun x4 =>
  if decide (x4 < len a0.Sources) = true then
    Option.bind (idx a0.Sources x4) fun x5 =>
      Option.bind (idx a1.Sources x4) fun x6 =>
        if
            (!(x5.State == x6.State &&
                  (x5.Since == x6.Since && (x5.Frequency == x6.Frequency && x5.Phase == x6.Phase)))) =
              true then
          some (.inr (.inr false))
        else some (.inl (W (x4 + 1)))
  else some (.inr (.inl ()))
noncomputable def dynposref15_Same_L2 (a0 : Power) (a1 : Power) : Int →
  Option
    (Int ⊕
      Unit ⊕
        Bool) := fun x9 =>
  if decide (x9 < len a0.Broken) = true then
    Option.bind (idx a0.Broken x9) fun x10 =>
      Option.bind (idx a1.Broken x9) fun x11 =>
        if (!(x10.Kind == x11.Kind && x10.Number == x11.Number)) = true then some (.inr (.inr false))
        else some (.inl (W (x9 + 1)))
  else some (.inr (.inl ()))
noncomputable def dynposref15_Same (a0 : Power) (a1 : Power) : Option (Bool) :=
  Option.bind
    (Option.bind (dynposref01_Bools a0.Closed a1.Closed) fun x1 =>
      if (!x1) = true then some true
      else
        Option.bind (dynposref01_Ints a0.Limits a1.Limits) fun x2 =>
          if (!x2) = true then some true
          else if (len a0.Sources != len a1.Sources) = true then some true else some (len a0.Broken != len a1.Broken))
    fun x3 =>
    if x3 = true then some false
    else
      Option.bind (loopO (dynposref15_Same_L1 a0 a1) 0) fun x7 =>
        Sum.elim
          (fun x8 =>
            Option.bind (loopO (dynposref15_Same_L2 a0 a1) 0) fun x12 =>
              Sum.elim (fun x13 => some true) (fun x14 => some x14) x12)
          (fun x15 => some x15) x7
noncomputable def c13 : Con D := ⟨13, [.lf (.sl 1), .lf (.sl 9), .lf (.sl 0), .lf (.sl 10), .lf (.sl 1), .lf (.sl 9), .lf (.sl 0), .lf (.sl 10)], [.lf .bool], [.agg [.h 0 [0], .h 1 [0], .h 2 [0], .h 3 [0]], .agg [.h 4 [0], .h 5 [0], .h 6 [0], .h 7 [0]]], [], [.one (.h 0 [])], [], fun h => dynposref15_Same ⟨h.1, h.2.1, h.2.2.1, h.2.2.2.1⟩ ⟨h.2.2.2.2.1, h.2.2.2.2.2.1, h.2.2.2.2.2.2.1, h.2.2.2.2.2.2.2⟩⟩
theorem c13_ok : ConOk Try.prog T c13 := fn_ok (Φ := [c26, c39]) (rs := [.tmp 4]) (an := (.n none .o (.n none (.n none (.r (some (true, [(.normal, ⟨[.lf .bool], [(38, .one (.h 0 []))], [], [], 2256⟩)])) .nil) .o) (.n none (.n none .o (.n none (.loop ⟨[.lf (.int .i64)], [(42, .one (.h 0 []))], [], [], 2577⟩ false [(.exit 0, ⟨[], [], [], [], 2577⟩)] .o) .o)) (.n none (.n none .o (.n none (.loop ⟨[.lf (.int .i64)], [(60, .one (.h 0 []))], [], [], 2897⟩ false [(.exit 2, ⟨[], [], [], [], 2897⟩)] .o) .o)) .o))))) pOk repOk (AllC.mem (⟨c26_ok, c39_ok, trivial⟩ : AllC _ _ [c26, c39])) hmix Try.call13 Try.func13 rfl rfl (by kernel_rfl) (fun h => by kernel_rfl)

noncomputable def dynposref15_of_L1 (a0 : Board) (a1 : Int) (a2 : Int) : Int × List Int →
  Option
    (Int × List Int ⊕
      List
        Int) := fun x1 =>
  if decide (x1.1 < len a0.Breakers) = true then
    Option.bind (idx a0.Breakers x1.1) fun x2 =>
      Option.bind
        (if (x2.Kind == a1) = true then
          if (x2.B == a2) = true then some true
          else if (a1 == 1) = true then some (x2.A == a2) else some false
        else some false)
        fun x3 =>
        Option.bind (if x3 = true then Option.bind (app x1.2 [x1.1]) fun x4 => some x4 else some x1.2) fun x5 =>
          some (.inl (W (x1.1 + 1), x5))
  else some (.inr x1.2)
noncomputable def dynposref15_of (a0 : Board) (a1 : Int) (a2 : Int) : Option ((List Int)) := Option.bind (loopO (dynposref15_of_L1 a0 a1 a2) (0, [])) fun x6 => some x6
noncomputable def c52 : Con D := ⟨52, [.lf (.int .i64), .lf (.sl 5), .lf (.sl 6), .lf (.sl 7), .lf (.int .i64), .lf (.int .i64), .lf (.int .i64), .lf (.int .i64)], [.lf (.sl 0)], [.agg [.h 0 [], .h 1 [0], .h 2 [0], .h 3 [0], .h 4 [], .h 5 []], .one (.h 6 []), .one (.h 7 [])], [], [.one (.own 1000)], [(1000, .sl 0 3 0 [])], fun h => dynposref15_of ⟨h.1, h.2.1, h.2.2.1, h.2.2.2.1, h.2.2.2.2.1, h.2.2.2.2.2.1⟩ h.2.2.2.2.2.2.1 h.2.2.2.2.2.2.2⟩
theorem c52_ok : ConOk Try.prog T c52 := fn_ok (Φ := []) (rs := [.tmp 6]) (an := (.n none .o (.n none .o (.n none (.n none .o (.n none (.loop ⟨[.lf (.int .i64), .lf (.sl 0)], [(7, .one (.own 2448)), (13, .one (.h 0 []))], [(2448, .sl 0 3 1 [])], [], 2512⟩ true [(.exit 0, ⟨[.lf (.sl 0)], [(7, .one (.own 2448))], [(2448, .sl 0 3 0 [])], [], 2512⟩)] (.n none .o (.n none .o (.n none (.n none (.n none .o (.n none (.r (some (true, [(.normal, ⟨[.lf .bool], [(23, .one (.any)), (24, .one (.any)), (25, .one (.any)), (26, .one (.any)), (27, .one (.any)), (28, .one (.any)), (29, .one (.any)), (30, .one (.any)), (31, .one (.any)), (32, .one (.any)), (33, .one (.any)), (34, .one (.any)), (35, .one (.any)), (36, .one (.any)), (37, .one (.h 0 []))], [], [], 3026⟩)])) .nil) (.n (some (true, [(.normal, ⟨[.lf (.sl 0)], [(7, .one (.own 3027))], [(3027, .sl 0 3 0 [])], [2448], 3091⟩)])) .o .o))) .o) .o)))) .o)) .o)))) pOk repOk (AllC.mem (l := []) trivial) hmix Try.call52 Try.func52 rfl rfl (by kernel_rfl) (fun h => by kernel_rfl)

noncomputable def dynposref15_breakers_L2 (x2 : Breaker) (x5 : List
  Breaker) : Int →
  Option
    (Int ⊕
      Unit ⊕
        Unit ⊕
          Unit ⊕
            Int ⊕
              Unit ⊕
                Bool) := fun x6 =>
  if decide (x6 < len x5) = true then
    Option.bind (idx x5 x6) fun x7 =>
      if (x7.Kind == x2.Kind && (x7.A == x2.A && x7.B == x2.B)) = true then
        some (.inr (.inr (.inr (.inr (.inr (.inr false))))))
      else some (.inl (W (x6 + 1)))
  else some (.inr (.inl ()))
noncomputable def dynposref15_breakers_L1 (a0 : Board) : Int →
  Option
    (Int ⊕
      Unit ⊕
        Bool) := fun x1 =>
  if decide (x1 < len a0.Breakers) = true then
    Option.bind (idx a0.Breakers x1) fun x2 =>
      Option.bind (dynposref15_within x2.A 0 (W (a0.Buses - 1))) fun x3 =>
        if (!x3) = true then some (.inr (.inr false))
        else
          Option.bind
            (if (x2.Kind == 1) = true then
              Option.bind (dynposref15_within x2.B (W (x2.A + 1)) (W (a0.Buses - 1))) fun x15 =>
                if (!x15) = true then some (.inr (.inr (.inr false))) else some (.inl ())
            else
              Option.bind
                (if (x2.Kind == 2) = true then
                  Option.bind (dynposref15_within x2.B 0 (W (len a0.Sources - 1))) fun x11 =>
                    if (!x11) = true then some (.inr (.inr (.inr (.inr false))))
                    else some (.inl ())
                else
                  if (x2.Kind == 3) = true then
                    Option.bind (dynposref15_within x2.B 0 (W (len a0.Consumers - 1))) fun x4 =>
                      if (!x4) = true then some (.inr (.inr (.inr (.inr false))))
                      else
                        Option.bind (slc a0.Breakers 0 x1) fun x5 =>
                          Option.bind (loopO (dynposref15_breakers_L2 x2 x5) 0) fun x8 =>
                            Sum.elim (fun x9 => some (.inl ())) (fun x10 => some x10) x8
                  else some (.inr (.inr (.inr (.inr false)))))
                fun x12 => Sum.elim (fun x13 => some (.inl ())) (fun x14 => some x14) x12)
            fun x16 => Sum.elim (fun x17 => some (.inl (W (x1 + 1)))) (fun x18 => some x18) x16
  else some (.inr (.inl ()))
noncomputable def dynposref15_breakers_L3 (a0 : Board) : Int →
  Option
    (Int ⊕
      Unit ⊕
        Bool) := fun x21 =>
  if decide (x21 < len a0.Sources) = true then
    Option.bind (dynposref15_of a0 2 x21) fun x22 =>
      if (len x22 != 1) = true then some (.inr (.inr false)) else some (.inl (W (x21 + 1)))
  else some (.inr (.inl ()))
noncomputable def dynposref15_breakers_L4 (a0 : Board) : Int →
  Option
    (Int ⊕
      Unit ⊕
        Bool) := fun x25 =>
  if decide (x25 < len a0.Consumers) = true then
    Option.bind (dynposref15_of a0 3 x25) fun x26 =>
      if decide (len x26 < 1) = true then some (.inr (.inr false))
      else some (.inl (W (x25 + 1)))
  else some (.inr (.inl ()))
noncomputable def dynposref15_breakers (a0 : Board) : Option (Bool) :=
  Option.bind (loopO (dynposref15_breakers_L1 a0) 0) fun x19 =>
    Sum.elim
      (fun x20 =>
        Option.bind (loopO (dynposref15_breakers_L3 a0) 0) fun x23 =>
          Sum.elim
            (fun x24 =>
              Option.bind (loopO (dynposref15_breakers_L4 a0) 0) fun x27 =>
                Sum.elim (fun x28 => some true) (fun x29 => some x29) x27)
            (fun x30 => some x30) x23)
      (fun x31 => some x31) x19
noncomputable def c81 : Con D := ⟨81, [.lf (.int .i64), .lf (.sl 5), .lf (.sl 6), .lf (.sl 7), .lf (.int .i64), .lf (.int .i64)], [.lf .bool], [.agg [.h 0 [], .h 1 [0], .h 2 [0], .h 3 [0], .h 4 [], .h 5 []]], [], [.one (.h 0 [])], [], fun h => dynposref15_breakers ⟨h.1, h.2.1, h.2.2.1, h.2.2.2.1, h.2.2.2.2.1, h.2.2.2.2.2⟩⟩
theorem c81_ok : ConOk Try.prog T c81 := fn_ok (Φ := [c49, c52]) (rs := [.tmp 2]) (an := (.n none .o (.n none (.n none .o (.n none (.loop ⟨[.lf (.int .i64)], [(12, .one (.h 0 []))], [], [], 2448⟩ false [(.exit 0, ⟨[], [], [], [], 2448⟩)] (.n none .o (.n none .o (.n none (.n none (.n none .o (.n none .o (.n none .o (.n none (.n none .o (.n (some (false, [(.normal, ⟨[], [], [], [], 3665⟩)])) .o (.n none .o (.n (some (false, [(.normal, ⟨[], [], [], [], 3793⟩)])) .o (.n none .o (.n none (.n none .o (.n none .o (.n none (.loop ⟨[.lf (.int .i64)], [(63, .one (.h 0 []))], [], [], 4817⟩ false [(.exit 3, ⟨[], [], [], [], 4817⟩)] .o) .o))) .o)))))) .o)))) .o) .o)))) .o)) (.n none (.n none .o (.n none (.loop ⟨[.lf (.int .i64)], [(75, .one (.h 0 []))], [], [], 2768⟩ false [(.exit 5, ⟨[], [], [], [], 2768⟩)] .o) .o)) (.n none (.n none .o (.n none (.loop ⟨[.lf (.int .i64)], [(87, .one (.h 0 []))], [], [], 3088⟩ false [(.exit 7, ⟨[], [], [], [], 3088⟩)] .o) .o)) .o))))) pOk repOk (AllC.mem (⟨c49_ok, c52_ok, trivial⟩ : AllC _ _ [c49, c52])) hmix Try.call81 Try.func81 rfl rfl (by kernel_rfl) (fun h => by kernel_rfl)

noncomputable def dynposref15_sources_L1 (a0 : Board) : Int →
  Option
    (Int ⊕
      Unit ⊕
        Bool) := fun x1 =>
  if decide (x1 < len a0.Sources) = true then
    Option.bind (idx a0.Sources x1) fun x2 =>
      Option.bind
        (Option.bind (dynposref15_within x2.Rating 1 50000) fun x3 =>
          if (!x3) = true then some true
          else
            Option.bind (dynposref15_within x2.Least 0 x2.Rating) fun x4 =>
              if (!x4) = true then some true
              else Option.bind (dynposref15_within x2.Start 0 600) fun x5 => some !x5)
        fun x6 => if x6 = true then some (.inr (.inr false)) else some (.inl (W (x1 + 1)))
  else some (.inr (.inl ()))
noncomputable def dynposref15_sources (a0 : Board) : Option (Bool) :=
  Option.bind (loopO (dynposref15_sources_L1 a0) 0) fun x7 =>
    Sum.elim (fun x8 => some true) (fun x9 => some x9) x7
noncomputable def c82 : Con D := ⟨82, [.lf (.int .i64), .lf (.sl 5), .lf (.sl 6), .lf (.sl 7), .lf (.int .i64), .lf (.int .i64)], [.lf .bool], [.agg [.h 0 [], .h 1 [0], .h 2 [0], .h 3 [0], .h 4 [], .h 5 []]], [], [.one (.h 0 [])], [], fun h => dynposref15_sources ⟨h.1, h.2.1, h.2.2.1, h.2.2.2.1, h.2.2.2.2.1, h.2.2.2.2.2⟩⟩
theorem c82_ok : ConOk Try.prog T c82 := fn_ok (Φ := [c49]) (rs := [.tmp 2]) (an := (.n none .o (.n none (.n none .o (.n none (.loop ⟨[.lf (.int .i64)], [(8, .one (.h 0 []))], [], [], 2448⟩ false [(.exit 0, ⟨[], [], [], [], 2448⟩)] (.n none .o (.n none .o (.n none (.n none (.n none .o (.n none (.r (some (true, [(.normal, ⟨[.lf .bool], [(17, .one (.any)), (18, .one (.any)), (19, .one (.any)), (20, .one (.any)), (21, .one (.any)), (22, .one (.any)), (25, .one (.any)), (26, .one (.any)), (27, .one (.any)), (28, .one (.any)), (29, .one (.h 0 []))], [], [], 2833⟩)])) .nil) .o)) .o) .o)))) .o)) .o))) pOk repOk (AllC.mem (⟨c49_ok, trivial⟩ : AllC _ _ [c49])) hmix Try.call82 Try.func82 rfl rfl (by kernel_rfl) (fun h => by kernel_rfl)

noncomputable def dynposref15_consumers_L2 (x1 : Int) (x2 : Consumer) : Int →
  Option
    (Int ⊕
      Unit ⊕
        Int ⊕
          Unit ⊕
            Bool) := fun x8 =>
  if decide (x8 < len x2.Needs) = true then
    Option.bind (idx x2.Needs x8) fun x9 =>
      Option.bind
        (Option.bind (dynposref15_within x9 0 (W (x1 - 1))) fun x10 =>
          if (!x10) = true then some true
          else
            if decide (x8 > 0) = true then
              Option.bind (idx x2.Needs (W (x8 - 1))) fun x11 => some (decide (x11 ≥ x9))
            else some false)
        fun x12 =>
        if x12 = true then some (.inr (.inr (.inr (.inr false)))) else some (.inl (W (x8 + 1)))
  else some (.inr (.inl ()))
noncomputable def dynposref15_consumers_L1 (a0 : Board) : Int →
  Option
    (Int ⊕
      Unit ⊕
        Bool) := fun x1 =>
  if decide (x1 < len a0.Consumers) = true then
    Option.bind (idx a0.Consumers x1) fun x2 =>
      Option.bind
        (Option.bind (dynposref15_within x2.Load 0 50000) fun x3 =>
          if (!x3) = true then some true
          else
            Option.bind (dynposref15_within x2.Least 0 x2.Load) fun x4 =>
              if (!x4) = true then some true
              else
                Option.bind (dynposref15_within x2.Preference 0 15) fun x5 =>
                  if (!x5) = true then some true
                  else
                    Option.bind (dynposref15_within x2.Thruster (-1) 7) fun x6 =>
                      if (!x6) = true then some true else some (decide (len x2.Needs > 4)))
        fun x7 =>
        if x7 = true then some (.inr (.inr false))
        else
          Option.bind (loopO (dynposref15_consumers_L2 x1 x2) 0) fun x13 =>
            Sum.elim (fun x14 => some (.inl (W (x1 + 1)))) (fun x15 => some x15) x13
  else some (.inr (.inl ()))
noncomputable def dynposref15_consumers (a0 : Board) : Option (Bool) :=
  Option.bind (loopO (dynposref15_consumers_L1 a0) 0) fun x16 =>
    Sum.elim (fun x17 => some true) (fun x18 => some x18) x16
noncomputable def c83 : Con D := ⟨83, [.lf (.int .i64), .lf (.sl 5), .lf (.sl 6), .lf (.sl 7), .lf (.int .i64), .lf (.int .i64)], [.lf .bool], [.agg [.h 0 [], .h 1 [0], .h 2 [0], .h 3 [0], .h 4 [], .h 5 []]], [], [.one (.h 0 [])], [], fun h => dynposref15_consumers ⟨h.1, h.2.1, h.2.2.1, h.2.2.2.1, h.2.2.2.2.1, h.2.2.2.2.2⟩⟩
theorem c83_ok : ConOk Try.prog T c83 := fn_ok (Φ := [c49]) (rs := [.tmp 2]) (an := (.n none .o (.n none (.n none .o (.n none (.loop ⟨[.lf (.int .i64)], [(10, .one (.h 0 []))], [], [], 2448⟩ false [(.exit 0, ⟨[], [], [], [], 2448⟩)] (.n none .o (.n none .o (.n none (.n none (.n none .o (.n none (.n none (.r (some (true, [(.normal, ⟨[.lf .bool], [(20, .one (.any)), (21, .one (.any)), (22, .one (.any)), (23, .one (.any)), (24, .one (.any)), (25, .one (.any)), (28, .one (.any)), (29, .one (.any)), (30, .one (.any)), (31, .one (.any)), (34, .one (.any)), (35, .one (.any)), (36, .one (.any)), (37, .one (.any)), (40, .one (.any)), (41, .one (.any)), (42, .one (.any)), (43, .one (.any)), (44, .one (.h 0 []))], [], [], 2961⟩)])) .nil) .o) (.n none .o (.n none (.loop ⟨[.lf (.int .i64)], [(48, .one (.h 0 []))], [], [], 3282⟩ false [(.exit 2, ⟨[], [], [], [], 3282⟩)] (.n none .o (.n none .o (.n none (.n none (.n none .o (.n none (.r (some (true, [(.normal, ⟨[.lf .bool], [(59, .one (.any)), (60, .one (.any)), (61, .one (.any)), (62, .one (.any)), (63, .one (.any)), (64, .one (.any)), (65, .one (.any)), (66, .one (.any)), (67, .one (.any)), (68, .one (.any)), (69, .one (.any)), (70, .one (.any)), (71, .one (.h 0 []))], [], [], 3731⟩)])) .nil) .o)) .o) .o)))) .o)))) .o) .o)))) .o)) .o))) pOk repOk (AllC.mem (⟨c49_ok, trivial⟩ : AllC _ _ [c49])) hmix Try.call83 Try.func83 rfl rfl (by kernel_rfl) (fun h => by kernel_rfl)

noncomputable def dynposref15_Check (a0 : Board) : Option (Int) :=
  Option.bind
    (if decide (a0.Buses < 1) = true then some true
    else
      if decide (a0.Buses > 6) = true then some true
      else
        if decide (len a0.Breakers > 24) = true then some true
        else
          if decide (len a0.Sources > 8) = true then some true
          else some (decide (len a0.Consumers > 16)))
    fun x1 =>
    if x1 = true then some 2
    else
      Option.bind
        (Option.bind (dynposref15_breakers a0) fun x2 =>
          if (!x2) = true then some true
          else
            Option.bind (dynposref15_sources a0) fun x3 =>
              if (!x3) = true then some true
              else
                Option.bind (dynposref15_consumers a0) fun x4 =>
                  if (!x4) = true then some true
                  else
                    if decide (a0.Phase < 0) = true then some true
                    else
                      if decide (a0.Phase > 1800) = true then some true
                      else
                        if decide (a0.Frequency < 0) = true then some true
                        else some (decide (a0.Frequency > 6000)))
        fun x5 => if x5 = true then some 14 else some 0
noncomputable def c48 : Con D := ⟨48, [.lf (.int .i64), .lf (.sl 5), .lf (.sl 6), .lf (.sl 7), .lf (.int .i64), .lf (.int .i64)], [.lf (.int .i64)], [.agg [.h 0 [], .h 1 [0], .h 2 [0], .h 3 [0], .h 4 [], .h 5 []]], [], [.one (.h 0 [])], [], fun h => dynposref15_Check ⟨h.1, h.2.1, h.2.2.1, h.2.2.2.1, h.2.2.2.2.1, h.2.2.2.2.2⟩⟩
theorem c48_ok : ConOk Try.prog T c48 := fn_ok (Φ := [c81, c82, c83]) (rs := [.tmp 2]) (an := (.n none .o (.n none (.n none (.r (some (true, [(.normal, ⟨[.lf .bool], [(28, .one (.h 0 []))], [], [], 2192⟩)])) .nil) .o) (.n none (.n none (.r (some (true, [(.normal, ⟨[.lf .bool], [(61, .one (.h 0 []))], [], [], 2257⟩)])) .nil) .o) .o)))) pOk repOk (AllC.mem (⟨c81_ok, c82_ok, c83_ok, trivial⟩ : AllC _ _ [c81, c82, c83])) hmix Try.call48 Try.func48 rfl rfl (by kernel_rfl) (fun h => by kernel_rfl)

noncomputable def dynposref15_Before (a0 : Part) (a1 : Part) : Option (Bool) :=
  Option.bind
    (if decide (a0.Kind < a1.Kind) = true then some true
    else if (a0.Kind == a1.Kind) = true then some (decide (a0.Number < a1.Number)) else some false)
    fun x1 => some x1
noncomputable def c51 : Con D := ⟨51, [.lf (.int .i64), .lf (.int .i64), .lf (.int .i64), .lf (.int .i64)], [.lf .bool], [.agg [.h 0 [], .h 1 []], .agg [.h 2 [], .h 3 []]], [], [.one (.h 0 [])], [], fun h => dynposref15_Before ⟨h.1, h.2.1⟩ ⟨h.2.2.1, h.2.2.2⟩⟩
theorem c51_ok : ConOk Try.prog T c51 := fn_ok (Φ := []) (rs := [.tmp 4]) (an := (.n none .o (.n none (.r (some (true, [(.normal, ⟨[.lf .bool], [(4, .one (.h 0 []))], [], [], 2256⟩)])) .nil) .o))) pOk repOk (AllC.mem (l := []) trivial) hmix Try.call51 Try.func51 rfl rfl (by kernel_rfl) (fun h => by kernel_rfl)

end Rx
end Go.Proofs.Ytdfkfohpgakihaa
