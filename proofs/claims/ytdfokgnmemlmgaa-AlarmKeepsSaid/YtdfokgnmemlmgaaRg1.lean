/- Plain functions, walks. Written by a program (wip/gen). -/
import Derived.Test.YtdfokgnmemlmgaaRt
import Derived.Test.YtdfokgnmemlmgaaHi
set_option linter.unusedVariables false
set_option maxRecDepth 100000
namespace Go.Proofs.Ytdfokgnmemlmgaa
open Go Go.RowKit Dp
namespace Rx

noncomputable def alarm_among (a0 : Int) (a1 : Int) (a2 : Int) : Option (Bool) := Option.bind (if decide (a0 ≥ a1) = true then some (decide (a0 ≤ a2)) else some false) fun x1 => some x1
noncomputable def c35 : Con D := ⟨35, [.lf (.int .i64), .lf (.int .i64), .lf (.int .i64)], [.lf .bool], [.one (.h 0 []), .one (.h 1 []), .one (.h 2 [])], [], [.one (.h 0 [])], [], fun h => alarm_among h.1 h.2.1 h.2.2⟩
theorem c35_ok : ConOk Try.prog T c35 := fn_ok (Φ := []) (rs := [.tmp 6]) (an := (.n none .o (.n none (.r (some (true, [(.normal, ⟨[.lf .bool], [(6, .one (.h 0 []))], [], [], 2128⟩)])) .nil) .o))) pOk repOk (AllC.mem (l := []) trivial) hmix Try.call35 Try.func35 rfl rfl (by kernel_rfl) (fun h => by kernel_rfl)

noncomputable def alarm_number (a0 : Int) : Option (Bool) := Option.bind (alarm_among a0 0 999) fun x1 => some x1
noncomputable def c36 : Con D := ⟨36, [.lf (.int .i64)], [.lf .bool], [.one (.h 0 [])], [], [.one (.h 0 [])], [], fun h => alarm_number h⟩
theorem c36_ok : ConOk Try.prog T c36 := fn_ok (Φ := [c35]) (rs := [.tmp 2]) (an := .o) pOk repOk (AllC.mem (⟨c35_ok, trivial⟩ : AllC _ _ [c35])) hmix Try.call36 Try.func36 rfl rfl (by kernel_rfl) (fun h => by kernel_rfl)

noncomputable def alarm_urgent (a0 : Int) : Option (Bool) := Option.bind (alarm_among a0 1 9) fun x1 => some x1
noncomputable def c37 : Con D := ⟨37, [.lf (.int .i64)], [.lf .bool], [.one (.h 0 [])], [], [.one (.h 0 [])], [], fun h => alarm_urgent h⟩
theorem c37_ok : ConOk Try.prog T c37 := fn_ok (Φ := [c35]) (rs := [.tmp 2]) (an := .o) pOk repOk (AllC.mem (⟨c35_ok, trivial⟩ : AllC _ _ [c35])) hmix Try.call37 Try.func37 rfl rfl (by kernel_rfl) (fun h => by kernel_rfl)

noncomputable def alarm_Check_L1 (a0 : List
  Alarm) (a1 : Int) : Int →
  Option
    (Int ⊕
      Unit ⊕
        Int) := fun x2 =>
  if decide (x2 < len a0) = true then
    Option.bind (idx a0 x2) fun x3 =>
      Option.bind
        (Option.bind (alarm_number x3.Number) fun x4 =>
          if (!x4) = true then some true
          else
            Option.bind (alarm_urgent x3.Urgency) fun x5 =>
              if (!x5) = true then some true
              else
                Option.bind (alarm_among x3.State 1 3) fun x6 =>
                  if (!x6) = true then some true
                  else
                    Option.bind (alarm_among x3.Since 0 a1) fun x7 =>
                      if (!x7) = true then some true
                      else
                        if decide (x2 > 0) = true then
                          Option.bind (idx a0 (W (x2 - 1))) fun x8 => some (decide (x8.Number ≥ x3.Number))
                        else some false)
        fun x9 => if x9 = true then some (.inr (.inr 71)) else some (.inl (W (x2 + 1)))
  else some (.inr (.inl ()))
noncomputable def alarm_Check (a0 : (List Alarm)) (a1 : Int) : Option (Int) :=
  Option.bind (alarm_among a1 0 2147483648) fun x1 =>
    if (!x1) = true then some 1
    else
      if decide (len a0 > 32) = true then some 2
      else
        Option.bind (loopO (alarm_Check_L1 a0 a1) 0) fun x10 =>
          Sum.elim (fun x11 => some 0) (fun x12 => some x12) x10
noncomputable def c17 : Con D := ⟨17, [.lf (.sl 3), .lf (.int .i64)], [.lf (.int .i64)], [.one (.h 0 [0]), .one (.h 1 [])], [], [.one (.h 0 [])], [], fun h => alarm_Check h.1 h.2⟩
theorem c17_ok : ConOk Try.prog T c17 := fn_ok (Φ := [c35, c36, c37]) (rs := [.tmp 4]) (an := (.n none .o (.n none .o (.n none .o (.n none (.n none .o (.n none (.loop ⟨[.lf (.int .i64)], [(15, .one (.h 0 []))], [], [], 2704⟩ false [(.exit 0, ⟨[], [], [], [], 2704⟩)] (.n none .o (.n none .o (.n none (.n none (.n none .o (.n none (.r (some (true, [(.normal, ⟨[.lf .bool], [(25, .one (.any)), (26, .one (.any)), (27, .one (.any)), (28, .one (.any)), (31, .one (.any)), (32, .one (.any)), (33, .one (.any)), (34, .one (.any)), (37, .one (.any)), (38, .one (.any)), (39, .one (.any)), (40, .one (.any)), (41, .one (.any)), (44, .one (.any)), (45, .one (.any)), (46, .one (.any)), (47, .one (.any)), (48, .one (.any)), (49, .one (.any)), (50, .one (.any)), (51, .one (.any)), (52, .one (.any)), (53, .one (.any)), (54, .one (.any)), (55, .one (.any)), (56, .one (.any)), (57, .one (.h 0 []))], [], [], 3217⟩)])) .nil) .o)) .o) .o)))) .o)) .o))))) pOk repOk (AllC.mem (⟨c35_ok, c36_ok, c37_ok, trivial⟩ : AllC _ _ [c35, c36, c37])) hmix Try.call17 Try.func17 rfl rfl (by kernel_rfl) (fun h => by kernel_rfl)

noncomputable def slices_Clone_Alarm_Alarm (a0 : (List Alarm)) : Option ((List Alarm)) := app [] a0
noncomputable def c31 : Con D := ⟨31, [.lf (.sl 3)], [.lf (.sl 3)], [.one (.h 0 [0])], [], [.one (.own 1000)], [(1000, .sl 3 32 0 [])], fun h => slices_Clone_Alarm_Alarm h⟩
theorem c31_ok : ConOk Try.prog T c31 := by
  refine ⟨Try.call31, rfl, rfl, rfl, rfl, fun xs0 r0 hr0 avs obs has hobs γ w vs hv _ => ?_⟩
  cases has
  match vs, hv with
  | [], hv => exact hv.elim
  | _ :: _ :: _, hv => exact hv.2.elim
  | [v], hv =>
  obtain ⟨xs, hxs⟩ : ∃ xs : List (D 3), xs = xs0 := ⟨_, rfl⟩
  obtain ⟨r, hrr⟩ : ∃ r : List (D 3), r = r0 := ⟨_, rfl⟩
  have g0 : Rv (In γ.o [0]) w v xs := by rw [hxs]; exact hv.1.1
  have hr : app ([] : List (D 3)) xs = some r := by rw [hxs, hrr]; exact hr0
  subst hrr
  have hT := slr26.2
  refine enter (l := [v]) Try.func31 rfl Try.ntmps31 rfl ?_
  refine CW.sub (L' := [(0, v)]) ⟨rfl, trivial⟩ ?_
  refine CW.sr fun K1 hK1 => ?_
  refine WL.p (.slice none 0 0) rfl rfl ?_
  refine WL.nx hK1 ?_
  refine CW.seq fun K2 hK2 => ?_
  refine CW.sr fun K3 hK3 => ?_
  refine WL.p v rfl rfl ?_
  obtain ⟨a, m, q, rfl, hn⟩ := rvSlice g0
  refine WL.stepE (OW.isNil slr26.1 rfl) rfl ?_
  refine WL.nx hK3 ?_
  cases a with
  | none =>
    refine CW.cond (b := true) rfl (fun _ => ?_) (fun h => nomatch h)
    refine CW.sr fun K4 hK4 => ?_
    refine WL.p (.slice none 0 0) rfl rfl ?_
    refine WL.nx hK4 ?_
    rw [hn rfl] at hr
    obtain rfl := app_nil hr
    exact CW.rets (vs := [.slice none 0 0]) Try.results31 ⟨rfl, trivial⟩ ⟨_, rfl, end_own (n := 3) (e := 32) (q := 1000) (K := []) (M := []) (N := []) rfl rfl rfl (by simp) (by simp) (Evo.refl _ _ γ.o w) (Ow.nil _ _ _ _ _) (fun x hx => by simp at hx <;> omega)⟩ (fun _ _ h => h)
  | some a =>
    refine CW.cond (b := false) rfl (fun h => nomatch h) (fun _ => ?_)
    refine CW.skip ?_
    refine hK2 _ _ ?_
    refine CW.sr fun K5 hK5 => ?_
    refine WL.step (OW.buildSlice (o := γ.o) (k := 1000) (K := []) (xs := ([] : List (D 3))) slr26.1 hT rfl trivial rfl rfl) rfl ?_
    rintro v1 w1 ⟨o1, ev1, h1⟩
    have g0 := g0.evo ev1 rfl
    refine WL.p (.slice (some a) m q) rfl rfl ?_
    refine WL.step (OW.append (K := []) slr26.1 hT rfl rfl h1 (@Els.flat (D 3) _ flat3 _ _ _ _ _ g0.els) hr rfl) rfl ?_
    rintro v2 w2 ⟨o2, ev2, h2⟩
    refine WL.p v2 rfl rfl ?_
    refine WL.nx hK5 ?_
    exact CW.rets (vs := [v2]) Try.results31 ⟨rfl, trivial⟩ ⟨_, rfl, end_own (n := 3) (e := 32) (q := 1000) (K := []) (M := [1000]) (N := [1000]) rfl rfl rfl (by simp) (by simp) ((ev1.weaken (by simp) (by simp)).trans ev2) h2 (fun x hx => by simp at hx <;> omega)⟩ (fun _ _ h => h)

noncomputable def alarm_open (a0 : (List Alarm)) (a1 : Int) : Option (Int × Int × (List Alarm)) :=
  Option.bind (alarm_Check a0 a1) fun x1 =>
    if (x1 != 0) = true then none
    else Option.bind (slices_Clone_Alarm_Alarm a0) fun x2 => some (0, a1, x2)
noncomputable def c28 : Con D := ⟨28, [.lf (.sl 3), .lf (.int .i64)], [.lf (.int .i64), .lf (.int .i64), .lf (.sl 3)], [.one (.h 0 [0]), .one (.h 1 [])], [], [.one (.ptr 1000 0), .one (.h 0 [])], [(1000, .box [.own 1001, .h 1 []]), (1001, .sl 3 32 2 [])], fun h => alarm_open h.1 h.2⟩
theorem c28_ok : ConOk Try.prog T c28 := fn_ok (Φ := [c17, c31]) (rs := [.tmp 4, .tmp 5]) (an := .o) pOk repOk (AllC.mem (⟨c17_ok, c31_ok, trivial⟩ : AllC _ _ [c17, c31])) hmix Try.call28 Try.func28 rfl rfl (by kernel_rfl) (fun h => by kernel_rfl)

noncomputable def cmp_isNaN_int (a0 : Int) : Option (Bool) := some (a0 != a0)
noncomputable def c46 : Con D := ⟨46, [.lf (.int .i64)], [.lf .bool], [.one (.h 0 [])], [], [.one (.h 0 [])], [], fun h => cmp_isNaN_int h⟩
theorem c46_ok : ConOk Try.prog T c46 := fn_ok (Φ := []) (rs := [.tmp 2]) (an := .o) pOk repOk (AllC.mem (l := []) trivial) hmix Try.call46 Try.func46 rfl rfl (by kernel_rfl) (fun h => by kernel_rfl)

noncomputable def cmp_Compare_int (a0 : Int) (a1 : Int) : Option (Int) :=
  Option.bind (cmp_isNaN_int a0) fun x1 =>
    Option.bind (cmp_isNaN_int a1) fun x2 =>
      if x1 = true then if x2 = true then some 0 else some (-1)
      else
        if x2 = true then some 1
        else
          if decide (a0 < a1) = true then some (-1)
          else if decide (a0 > a1) = true then some 1 else some 0
noncomputable def c27 : Con D := ⟨27, [.lf (.int .i64), .lf (.int .i64)], [.lf (.int .i64)], [.one (.h 0 []), .one (.h 1 [])], [], [.one (.h 0 [])], [], fun h => cmp_Compare_int h.1 h.2⟩
theorem c27_ok : ConOk Try.prog T c27 := fn_ok (Φ := [c46]) (rs := [.tmp 4]) (an := .o) pOk repOk (AllC.mem (⟨c46_ok, trivial⟩ : AllC _ _ [c46])) hmix Try.call27 Try.func27 rfl rfl (by kernel_rfl) (fun h => by kernel_rfl)

noncomputable def alarm_list__find_1 (a0 : Alarm) (a1 : Int) : Option (Int) := Option.bind (cmp_Compare_int a0.Number a1) fun x1 => some x1
noncomputable def c53 : Con D := ⟨53, [.lf (.int .i64), .lf (.int .i64), .lf (.int .i64), .lf (.int .i64), .lf (.int .i64)], [.lf (.int .i64)], [.agg [.h 0 [], .h 1 [], .h 2 [], .h 3 []], .one (.h 4 [])], [], [.one (.h 0 [])], [], fun h => alarm_list__find_1 ⟨h.1, h.2.1, h.2.2.1, h.2.2.2.1⟩ h.2.2.2.2⟩
theorem c53_ok : ConOk Try.prog T c53 := fn_ok (Φ := [c27]) (rs := [.tmp 4]) (an := .o) pOk repOk (AllC.mem (⟨c27_ok, trivial⟩ : AllC _ _ [c27])) hmix Try.call53 Try.func53 rfl rfl (by kernel_rfl) (fun h => by kernel_rfl)

noncomputable def slices_BinarySearchFunc_Alarm_Alarm_int_L1 (a0 : List
  Alarm) (a1 : Int) : Int × Int →
  Option
    (Int × Int ⊕
      Int) := fun x1 =>
  if decide (x1.1 < x1.2) = true then
    Option.bind (shrO 64 (iwrap IntKind.u64 (W (x1.1 + x1.2))) 1) fun x2 =>
      Option.bind (idx a0 (W x2)) fun x3 =>
        Option.bind (alarm_list__find_1 x3 a1) fun x4 =>
          Option.bind
            (if decide (x4 < 0) = true then some (W (W x2 + 1), x1.2) else some (x1.1, W x2))
            fun x5 => some (.inl (x5.1, x5.2))
  else some (.inr x1.1)
noncomputable def slices_BinarySearchFunc_Alarm_Alarm_int (a0 : (List Alarm)) (a1 : Int) : Option (Int × Bool) :=
  Option.bind (loopO (slices_BinarySearchFunc_Alarm_Alarm_int_L1 a0 a1) (0, len a0)) fun x6 =>
    Option.bind
      (if decide (x6 < len a0) = true then
        Option.bind (idx a0 x6) fun x7 => Option.bind (alarm_list__find_1 x7 a1) fun x8 => some (x6, x8 == 0)
      else some (x6, false))
      fun x9 => some (x9.1, x9.2)
noncomputable def c52 : Con D := ⟨52, [.lf (.sl 3), .lf (.int .i64)], [.lf (.int .i64), .lf .bool], [.one (.h 0 [0]), .one (.h 1 []), .one (.fn 53 [])], [], [.one (.h 0 []), .one (.h 1 [])], [], fun h => slices_BinarySearchFunc_Alarm_Alarm_int h.1 h.2⟩
theorem c52_ok : ConOk Try.prog T c52 := fn_ok (Φ := [c53]) (rs := [.tmp 6, .tmp 7]) (an := (.n none .o (.n none .o (.n none .o (.n none (.n none (.loop ⟨[.lf (.int .i64), .lf (.int .i64)], [(9, .one (.h 0 [])), (10, .one (.h 1 []))], [], [], 2576⟩ true [(.exit 0, ⟨[.lf (.int .i64)], [(9, .one (.h 0 []))], [], [], 2576⟩)] (.n none .o (.n none (.n none .o (.n none .o (.n (some (true, [(.normal, ⟨[.lf (.int .i64), .lf (.int .i64)], [(9, .one (.h 0 [])), (10, .one (.h 1 []))], [], [], 3794⟩)])) .o .o))) .o))) .o) (.n none (.r (some (true, [(.normal, ⟨[.lf (.int .i64), .lf .bool], [(6, .one (.h 0 [])), (7, .one (.h 1 []))], [], [], 2641⟩)])) .nil) .o)))))) pOk repOk (AllC.mem (⟨c53_ok, trivial⟩ : AllC _ _ [c53])) hmix Try.call52 Try.func52 rfl rfl (by kernel_rfl) (fun h => by kernel_rfl)

noncomputable def list_find (a0 : list) (a1 : Int) : Option (Int × Bool) := Option.bind (slices_BinarySearchFunc_Alarm_Alarm_int a0.l a1) fun x1 => some (x1.1, x1.2)
noncomputable def c47 : Con D := ⟨47, [.el 4, .lf (.int .i64)], [.lf (.int .i64), .lf .bool], [.one (.rp 0 4 [0]), .one (.h 2 [])], [], [.one (.h 0 []), .one (.h 1 [])], [], fun h => list_find h.1 h.2⟩
theorem c47_ok : ConOk Try.prog T c47 := fn_ok (Φ := [c52]) (rs := [.tmp 4, .tmp 5]) (an := .o) pOk repOk (AllC.mem (⟨c52_ok, trivial⟩ : AllC _ _ [c52])) hmix Try.call47 Try.func47 rfl rfl (by kernel_rfl) (fun h => by kernel_rfl)

noncomputable def slices_Insert_Alarm_Alarm (a0 : (List Alarm)) (a1 : Int) (a2 : (List Alarm)) : Option ((List Alarm)) := insO a0 a1 a2
noncomputable def c48 : Con D := ⟨48, [.lf (.sl 3), .lf (.int .i64), .lf (.sl 3)], [.lf (.sl 3)], [.one (.own 1000), .one (.h 1 []), .one (.own 1001)], [(1000, .sl 3 32 0 [0]), (1001, .sl 3 32 2 [0])], [.one (.own 1002)], [(1002, .sl 3 32 0 [])], fun h => slices_Insert_Alarm_Alarm h.1 h.2.1 h.2.2⟩

theorem c48_ok : ConOk Try.prog T c48 := by
  refine ⟨Try.call48, rfl, rfl, rfl, rfl, fun h0 r0 hr0 avs obs has hobs γ w vs hv hO => ?_⟩
  cases has
  cases hobs
  match vs, hv with
  | [], hv => exact hv.elim
  | [_], hv => exact hv.2.elim
  | [_, _], hv => exact hv.2.2.elim
  | _ :: _ :: _ :: _ :: _, hv => exact hv.2.2.2.elim
  | [v1, v2, v3], hv =>
  obtain ⟨xs, hxs⟩ : ∃ xs : List (D 3), xs = h0.1 := ⟨_, rfl⟩
  obtain ⟨iz, hiz⟩ : ∃ iz : Int, iz = h0.2.1 := ⟨_, rfl⟩
  obtain ⟨ys, hys⟩ : ∃ ys : List (D 3), ys = h0.2.2 := ⟨_, rfl⟩
  obtain ⟨r, hrr⟩ : ∃ r : List (D 3), r = r0 := ⟨_, rfl⟩
  have hr : insO xs iz ys = some r := by rw [hxs, hiz, hys, hrr]; exact hr0
  have g1 : Ow 32 γ.o 1000 [0] w v1 xs := by rw [hxs, hv.1.2.1]; exact (hO.ob 1000 _ rfl).2.2.1
  have g3 : Ow 32 γ.o 1001 [0] w v3 ys := by rw [hys, hv.2.2.1.2.1]; exact (hO.ob 1001 _ rfl).2.2.1
  have g2 : v2 = .int .i64 iz := by rw [hiz]; exact hv.2.1.1
  subst hrr
  clear hr0 hv hO hxs hiz hys
  haveI : Flat (D 3) := flat3
  have hT := slr26.2
  have hu := slr26.1
  obtain ⟨b1, b2, b3, b4, b5, rfl⟩ := ins_some hr
  obtain ⟨q, rfl⟩ : ∃ q : Nat, iz = (q : Int) := ⟨iz.toNat, by omega⟩
  have hq : q ≤ xs.length := by omega
  have hm : 0 < ys.length := List.length_pos_iff.2 b3
  obtain ⟨p, cap, rfl, hnc, hcm⟩ := Ow.shape g1
  obtain ⟨bv, capv, rfl⟩ := Ow.shape1 g3 b3
  subst g2
  have hcm' : cap ≤ maxLen := hcm
  have hWn : W ((xs.length : Int) + (ys.length : Int)) = ((xs.length + ys.length : Nat) : Int) := by rw [W_in (by omega) (by omega)]; omega
  have hWq : W ((q : Int) + (ys.length : Int)) = ((q + ys.length : Nat) : Int) := by rw [W_in (by omega) (by omega)]; omega
  refine enter (l := [.slice p xs.length cap, .int .i64 q, .slice (some ⟨bv, 0, none⟩) ys.length capv]) Try.func48 rfl Try.ntmps48 rfl ?_
  refine CW.sub (L' := [(0, .slice p xs.length cap), (1, .int .i64 q), (2, .slice (some ⟨bv, 0, none⟩) ys.length capv)]) ⟨rfl, rfl, rfl, trivial⟩ ?_
  refine CW.sr fun K0 hK0 => ?_
  refine WL.p (.slice none 0 0) rfl rfl ?_
  refine WL.nx hK0 ?_
  refine CW.sr fun K1 hK1 => ?_
  refine WL.p (.slice p xs.length cap) rfl rfl ?_
  refine WL.p (.int .i64 q) rfl rfl ?_
  refine WL.stepP (OW.tlAny hu hT rfl rfl hq hnc) rfl fun _ _ => ?_
  refine WL.nx hK1 ?_
  refine CW.sr fun K2 hK2 => ?_
  refine WL.p (.slice (some ⟨bv, 0, none⟩) ys.length capv) rfl rfl ?_
  refine WL.stepE (OW.lenHead hu rfl) rfl ?_
  refine WL.p (.int .i64 ys.length) rfl rfl ?_
  refine WL.nx hK2 ?_
  refine CW.seq fun K3 hK3 => ?_
  refine CW.sr fun K4 hK4 => ?_
  refine WL.p (.int .i64 ys.length) rfl rfl ?_
  refine WL.pe (v' := .bool false) rfl (congrArg Value.bool (beq_eq_false_iff_ne.2 (by omega))) rfl ?_
  refine WL.nx hK4 ?_
  refine CW.cond (b := false) rfl (fun h => nomatch h) (fun _ => ?_)
  refine CW.skip ?_
  refine hK3 _ _ ?_
  refine CW.sr fun K5 hK5 => ?_
  refine WL.p (.slice p xs.length cap) rfl rfl ?_
  refine WL.stepE (OW.lenHead hu rfl) rfl ?_
  refine WL.p (.int .i64 xs.length) rfl rfl ?_
  refine WL.nx hK5 ?_
  refine CW.seq fun K6 hK6 => ?_
  refine CW.sr fun K7 hK7 => ?_
  refine WL.p (.int .i64 q) rfl rfl ?_
  refine WL.p (.int .i64 xs.length) rfl rfl ?_
  by_cases hqn : q = xs.length
  · refine WL.pe (v' := .bool true) rfl (congrArg Value.bool (beq_iff_eq.2 (by omega))) rfl ?_
    refine WL.nx hK7 ?_
    refine CW.cond (b := true) rfl (fun _ => ?_) (fun h => nomatch h)
    refine CW.sr fun K8 hK8 => ?_
    refine WL.p (.slice p xs.length cap) rfl rfl ?_
    refine WL.p (.slice (some ⟨bv, 0, none⟩) ys.length capv) rfl rfl ?_
    refine WL.step (OW.append (K := [0]) hu hT rfl rfl g1 g3.els b4 rfl) rfl ?_
    rintro v' w' ⟨o', ev, how⟩
    refine WL.p v' rfl rfl ?_
    refine WL.nx hK8 ?_
    have hres : xs.take (q : Int).toNat ++ ys ++ xs.drop (q : Int).toNat = xs ++ ys := by
      rw [Int.toNat_natCast, hqn, List.take_length, List.drop_length, List.append_nil]
    rw [← hres] at how
    exact CW.rets (vs := [v']) Try.results48 ⟨rfl, trivial⟩ ⟨_, rfl, end_row (n := 3) (e := 32) (q := 1002) (k := 1000) (K := []) (M := [1000]) (N := [1000]) rfl rfl rfl (by omega) (by omega) (by simp) (by simp) ev how (fun x hx => by simp at hx)⟩ (fun _ _ h => h)
  refine WL.pe (v' := .bool false) rfl (congrArg Value.bool (beq_eq_false_iff_ne.2 (by omega))) rfl ?_
  refine WL.nx hK7 ?_
  refine CW.cond (b := false) rfl (fun h => nomatch h) (fun _ => ?_)
  refine CW.skip ?_
  refine hK6 _ _ ?_
  obtain ⟨b, rfl⟩ := Ow.block g1 (fun h => by rw [h] at hq hqn; simp at hq hqn; omega)
  obtain ⟨c1, c2, S, r1, r2, r3, r4, r5, r6, r7, _, _, _⟩ := Ow.split g1 hq
  obtain ⟨z1, cv, Sv, s1, s2, s3, s4, s5, s6, s7, _, _, _⟩ := Ow.split g3 (Nat.zero_le _)
  have hz1 : z1.flatten = [] := List.eq_nil_of_length_eq_zero (by rw [s4]; omega)
  rw [hz1] at s1
  rw [List.drop_zero] at s3
  have hbv : bv ≠ b := fun h => by rw [h, r7] at s7; cases s7
  have hbl : b < w.heap.size := (Array.getElem?_eq_some_iff.1 r1).1
  have hbvl : bv < w.heap.size := (Array.getElem?_eq_some_iff.1 s1).1
  have hsz : 0 < Rep.sz (D 3) := Rep.pos
  have hcv : cv.flatten.length = min ys.length (xs.length + ys.length - q) * Rep.sz (D 3) := by rw [s5, Nat.min_eq_left (by omega)]; rfl
  have hqt : ((q : Int)).toNat = q := Int.toNat_natCast q
  have hfin : All2 (Rep.rd (In γ.o [0]) w) (c1 ++ cv ++ c2) (xs.take (q : Int).toNat ++ ys ++ xs.drop (q : Int).toNat) := by rw [hqt]; exact (r2.append s3).append r3
  have hlen : (xs.take (q : Int).toNat ++ ys ++ xs.drop (q : Int).toNat).length = xs.length + ys.length := by rw [hqt]; simp; omega
  refine CW.seq fun K9 hK9 => ?_
  refine CW.sr fun K10 hK10 => ?_
  refine WL.p (.int .i64 xs.length) rfl rfl ?_
  refine WL.p (.int .i64 ys.length) rfl rfl ?_
  refine WL.pe (v' := .int .i64 ((xs.length + ys.length : Nat) : Int)) rfl (congrArg _ hWn) rfl ?_
  refine WL.p (.slice (some ⟨b, 0, none⟩) xs.length cap) rfl rfl ?_
  refine WL.stepE (OW.cap hu rfl hcm) rfl ?_
  by_cases hg : cap < xs.length + ys.length
  · refine WL.pe (v' := .bool true) rfl (congrArg Value.bool (decide_eq_true (by omega))) rfl ?_
    refine WL.nx hK10 ?_
    refine CW.cond (b := true) rfl (fun _ => ?_) (fun h => nomatch h)
    refine CW.sr fun K11 hK11 => ?_
    refine WL.p (.slice (some ⟨b, 0, none⟩) xs.length cap) rfl rfl ?_
    refine WL.p (.int .i64 q) rfl rfl ?_
    refine WL.stepE (OW.pre hu hT rfl rfl (by omega)) rfl ?_
    refine WL.p (.int .i64 xs.length) rfl rfl ?_
    refine WL.p (.int .i64 ys.length) rfl rfl ?_
    refine WL.pe (v' := .int .i64 ((xs.length + ys.length : Nat) : Int)) rfl (congrArg _ hWn) rfl ?_
    refine WL.p (.int .i64 q) rfl rfl ?_
    refine WL.pe (v' := .int .i64 ((xs.length + ys.length - q : Nat) : Int)) rfl (congrArg _ (by rw [W_in (by omega) (by omega)]; omega)) rfl ?_
    refine WL.step (OW.appZ (A := c1.flatten) (B := c2.flatten ++ S) hu hT Try.underlying3 rfl rfl (by rw [← List.append_assoc]; exact r1) r4 (by omega) (by omega) (by omega)) rfl ?_
    rintro v' w' ⟨G, Z, rfl, hG1, hG2, hZ, rfl⟩
    rw [show q + (xs.length + ys.length - q) = xs.length + ys.length by omega] at hG1 ⊢
    obtain ⟨Y, X, S2, rfl, hY, hX, hS2⟩ := cut3 Z (ys.length * Rep.sz (D 3)) ((xs.length - q) * Rep.sz (D 3)) (by rw [hZ, ← Nat.add_mul]; exact Nat.mul_le_mul_right _ (by omega))
    refine WL.p (.slice (some ⟨w.heap.size, 0, none⟩) (xs.length + ys.length) G) rfl rfl ?_
    refine WL.nx hK11 ?_
    obtain ⟨w1, hw1⟩ : ∃ w1, w1 = w.drew.alloc (.cells (c1.flatten ++ (Y ++ X ++ S2)).toArray 32) := ⟨_, rfl⟩
    rw [← hw1]
    have hN1 : w1.heap[w.heap.size]? = some (.cells (c1.flatten ++ Y ++ (X ++ S2)).toArray 32 (0, 0)) := by rw [hw1, show c1.flatten ++ Y ++ (X ++ S2) = c1.flatten ++ (Y ++ X ++ S2) by simp only [List.append_assoc]]; exact heap_alloc_new w.drew _
    have hO1 : ∀ x, x < w.heap.size → w1.heap[x]? = w.heap[x]? := fun x hx => by rw [hw1]; exact Below.heap_alloc w.drew _ x hx
    have ev1 : Evo [] [1000] γ.o w (grow γ.o w 1000) w1 := by rw [hw1]; exact Evo.fresh 1000 ((Below.refl _ _).drew.alloc (Nat.le_refl _) _)
    refine CW.sr fun K12 hK12 => ?_
    refine WL.p (.slice (some ⟨w.heap.size, 0, none⟩) (xs.length + ys.length) G) rfl rfl ?_
    refine WL.p (.int .i64 q) rfl rfl ?_
    refine WL.stepE (OW.tl hu hT rfl rfl (by omega) hG1 (by omega)) rfl ?_
    refine WL.p (.slice (some ⟨bv, 0, none⟩) ys.length capv) rfl rfl ?_
    refine WL.step (OW.copyRow (A := c1.flatten) (X := Y) (B := X ++ S2) (src := cv.flatten) hu hT rfl rfl hN1 r4 (by rw [hY, s5]; rfl) hcv (row_cells (A := []) (B := Sv) (by rw [hO1 _ hbvl]; exact s1) rfl) (oneCells s3)) rfl ?_
    rintro v2 w2 hw2
    have hN2 : w2.heap[w.heap.size]? = some (.cells (c1.flatten ++ cv.flatten ++ X ++ S2).toArray 32 (0, 0)) := by rw [hw2, List.append_assoc _ X S2]; exact setRow_heap _ _ _ _ _ _ hN1
    have hO2 : ∀ x, x < w.heap.size → w2.heap[x]? = w.heap[x]? := fun x hx => by rw [hw2, setRow_other _ _ _ _ (by omega)]; exact hO1 x hx
    have ev2 : Evo [1000] [1000] γ.o w (grow γ.o w 1000) w2 := by rw [hw2]; exact (ev1.weaken (by simp) (by simp)).trans (evo_row _ (grow_new _ _ _ _ (Nat.le_refl _)))
    clear hw2 hw1 hO1 ev1
    refine WL.nx hK12 ?_
    refine CW.seq fun K13 hK13 => ?_
    refine CW.draw hmix 8 [46, 47, 48, 49, 50, 51, 52, 53] [.slice (some ⟨w.heap.size, 0, none⟩) (xs.length + ys.length) G, .int .i64 q, .int .i64 ys.length, .int .i64 ((q + ys.length : Nat) : Int), .slice (some ⟨w.heap.size, (q + ys.length) * Rep.sz (D 3), none⟩) (xs.length + ys.length - (q + ys.length)) (G - (q + ys.length)), .slice (some ⟨b, 0, none⟩) xs.length cap, .int .i64 q, .slice (some ⟨b, q * Rep.sz (D 3), none⟩) (xs.length - q) (cap - q)] rfl rfl ⟨OW.pv rfl, OW.pv rfl, OW.pv rfl, OW.pvE rfl (congrArg _ hWq), OW.tl hu hT rfl rfl (by omega) hG1 (by omega), OW.pv rfl, OW.pv rfl, OW.tl hu hT rfl rfl hq hnc (by omega), trivial⟩ ?_
    refine WL.step (OW.copyRow (A := c1.flatten ++ cv.flatten) (X := X) (B := S2) (src := c2.flatten) hu hT rfl rfl hN2 (by rw [List.length_append, r4, s5, ← Nat.add_mul]; rfl) (by rw [hX, r5]) (by rw [r5]; congr 1; rw [Nat.min_eq_left] <;> omega) (row_cells (A := c1.flatten) (B := S) (by rw [show w2.drew.heap = w2.heap from rfl, hO2 _ hbl]; exact r1) r4) (oneCells r3)) rfl ?_
    rintro v3 w3 hw3
    have hN3 : w3.heap[w.heap.size]? = some (.cells ((c1 ++ cv ++ c2).flatten ++ S2).toArray 32 (0, 0)) := by rw [hw3, List.flatten_append, List.flatten_append]; exact setRow_heap w2.drew _ _ _ _ _ hN2
    have ev3 : Evo [1000] [1000] γ.o w (grow γ.o w 1000) w3 := by rw [hw3]; exact ev2.trans (evo_drew (evo_row _ (grow_new _ _ _ _ (Nat.le_refl _))))
    refine WL.nx hK13 ?_
    refine CW.sr fun K14 hK14 => ?_
    refine WL.p (.slice (some ⟨w.heap.size, 0, none⟩) (xs.length + ys.length) G) rfl rfl ?_
    refine WL.p (.slice (some ⟨w.heap.size, 0, none⟩) (xs.length + ys.length) G) rfl rfl ?_
    refine WL.nx hK14 ?_
    have how : Ow 32 (grow γ.o w 1000) 1000 [] w3 (.slice (some ⟨w.heap.size, 0, none⟩) (xs.take (q : Int).toNat ++ ys ++ xs.drop (q : Int).toNat).length G) (xs.take (q : Int).toNat ++ ys ++ xs.drop (q : Int).toNat) :=
      Ow.of_row hN3 (grow_new _ _ _ _ (Nat.le_refl _)) hfin (by rw [hlen]; exact hG1) hG2 (by rw [hS2, hlen, ← Nat.add_mul, show (Y ++ X ++ S2).length = (G - q) * Rep.sz (D 3) from hZ, ← Nat.sub_mul]; congr 1; omega)
    rw [hlen] at how
    exact CW.rets (vs := [.slice (some ⟨w.heap.size, 0, none⟩) (xs.length + ys.length) G]) Try.results48 ⟨rfl, trivial⟩ ⟨_, rfl, end_row (n := 3) (e := 32) (q := 1002) (k := 1000) (K := []) (M := [1000]) (N := [1000]) rfl rfl rfl (by omega) (by omega) (by simp) (by simp) ev3 how (fun x hx => by simp at hx)⟩ (fun _ _ h => h)
  refine WL.pe (v' := .bool false) rfl (congrArg Value.bool (decide_eq_false (by omega))) rfl ?_
  refine WL.nx hK10 ?_
  refine CW.cond (b := false) rfl (fun h => nomatch h) (fun _ => ?_)
  refine CW.skip ?_
  refine hK9 _ _ ?_
  obtain ⟨Y, X, S2, hS, hY, hX, hS2⟩ := cut3 (c2.flatten ++ S) (ys.length * Rep.sz (D 3)) ((xs.length - q) * Rep.sz (D 3)) (by rw [List.length_append, r5, r6, ← Nat.add_mul, ← Nat.add_mul]; exact Nat.mul_le_mul_right _ (by omega))
  have hrow : c1.flatten ++ c2.flatten ++ S = c1.flatten ++ Y ++ X ++ S2 := by rw [List.append_assoc, hS]; simp only [List.append_assoc]
  refine CW.sr fun K15 hK15 => ?_
  refine WL.p (.slice (some ⟨b, 0, none⟩) xs.length cap) rfl rfl ?_
  refine WL.p (.int .i64 xs.length) rfl rfl ?_
  refine WL.p (.int .i64 ys.length) rfl rfl ?_
  refine WL.pe (v' := .int .i64 ((xs.length + ys.length : Nat) : Int)) rfl (congrArg _ hWn) rfl ?_
  refine WL.stepE (OW.pre hu hT rfl rfl (by omega)) rfl ?_
  refine WL.p (.slice (some ⟨b, 0, none⟩) (xs.length + ys.length) cap) rfl rfl ?_
  refine WL.nx hK15 ?_
  refine CW.seq fun K16 hK16 => ?_
  refine CW.sr fun K17 hK17 => ?_
  refine WL.p (.slice (some ⟨bv, 0, none⟩) ys.length capv) rfl rfl ?_
  refine WL.p (.slice (some ⟨b, 0, none⟩) (xs.length + ys.length) cap) rfl rfl ?_
  refine WL.p (.int .i64 q) rfl rfl ?_
  refine WL.p (.int .i64 ys.length) rfl rfl ?_
  refine WL.pe (v' := .int .i64 ((q + ys.length : Nat) : Int)) rfl (congrArg _ hWq) rfl ?_
  refine WL.stepE (OW.tl hu hT rfl rfl (by omega) (by omega) (by omega)) rfl ?_
  refine WL.stepE (OW.overlaps (f := 54) (fn := Try.f54) (tR := 4) hu hT Try.func54 rfl rfl rfl rfl rfl rfl hbv s1 r1 (by simp only [List.size_toArray, List.length_append, r4, r5, r6, ← Nat.add_mul]; exact Nat.ne_of_gt (Nat.mul_pos (by omega) hsz))) rfl ?_
  refine WL.p (.bool true) rfl rfl ?_
  refine WL.nx hK17 ?_
  refine CW.cond (b := true) rfl (fun _ => ?_) (fun h => nomatch h)
  rw [hrow] at r1
  refine CW.seq fun K18 hK18 => ?_
  refine CW.draw hmix 8 [69, 70, 71, 72, 73, 74, 75, 76] [.slice (some ⟨b, 0, none⟩) (xs.length + ys.length) cap, .int .i64 q, .int .i64 ys.length, .int .i64 ((q + ys.length : Nat) : Int), .slice (some ⟨b, (q + ys.length) * Rep.sz (D 3), none⟩) (xs.length + ys.length - (q + ys.length)) (cap - (q + ys.length)), .slice (some ⟨b, 0, none⟩) (xs.length + ys.length) cap, .int .i64 q, .slice (some ⟨b, q * Rep.sz (D 3), none⟩) (xs.length + ys.length - q) (cap - q)] rfl rfl ⟨OW.pv rfl, OW.pv rfl, OW.pv rfl, OW.pvE rfl (congrArg _ hWq), OW.tl hu hT rfl rfl (by omega) (by omega) (by omega), OW.pv rfl, OW.pv rfl, OW.tl hu hT rfl rfl (by omega) (by omega) (by omega), trivial⟩ ?_
  refine WL.step (OW.copyRow (A := c1.flatten ++ Y) (X := X) (B := S2) (src := c2.flatten) hu hT rfl rfl r1 (by rw [List.length_append, r4, hY, ← Nat.add_mul]) (by rw [hX, r5]) (by rw [r5]; congr 1; rw [Nat.min_eq_right] <;> omega) (row_cells (A := c1.flatten) (B := S) (by rw [← hrow] at r1; exact r1) r4) (oneCells r3)) rfl ?_
  rintro v2 w2 hw2
  have hN2 : w2.heap[b]? = some (.cells (c1.flatten ++ Y ++ (c2.flatten ++ S2)).toArray 32 (0, 0)) := by rw [hw2, ← List.append_assoc]; exact setRow_heap w.drew _ _ _ _ _ r1
  have hV2 : w2.heap[bv]? = w.heap[bv]? := by rw [hw2]; exact setRow_other w.drew _ _ _ hbv
  have ev2 : Evo [1000] [1000] γ.o w γ.o w2 := by rw [hw2]; exact evo_drew (evo_row _ r7)
  clear hw2
  refine WL.nx hK18 ?_
  refine CW.sr fun K19 hK19 => ?_
  refine WL.p (.slice (some ⟨b, 0, none⟩) (xs.length + ys.length) cap) rfl rfl ?_
  refine WL.p (.int .i64 q) rfl rfl ?_
  refine WL.stepE (OW.tl hu hT rfl rfl (by omega) (by omega) (by omega)) rfl ?_
  refine WL.p (.slice (some ⟨bv, 0, none⟩) ys.length capv) rfl rfl ?_
  refine WL.step (OW.copyRow (A := c1.flatten) (X := Y) (B := c2.flatten ++ S2) (src := cv.flatten) hu hT rfl rfl hN2 r4 (by rw [hY, s5]; rfl) hcv (row_cells (A := []) (B := Sv) (by rw [hV2]; exact s1) rfl) (oneCells s3)) rfl ?_
  rintro v3 w3 hw3
  have hN3 : w3.heap[b]? = some (.cells ((c1 ++ cv ++ c2).flatten ++ S2).toArray 32 (0, 0)) := by rw [hw3, List.flatten_append, List.flatten_append, List.append_assoc _ c2.flatten S2]; exact setRow_heap _ _ _ _ _ _ hN2
  have ev3 : Evo [1000] [1000] γ.o w γ.o w3 := by rw [hw3]; exact ev2.trans (evo_row _ r7)
  refine WL.nx hK19 ?_
  refine CW.sr fun K20 hK20 => ?_
  refine WL.p (.slice (some ⟨b, 0, none⟩) (xs.length + ys.length) cap) rfl rfl ?_
  refine WL.p (.slice (some ⟨b, 0, none⟩) (xs.length + ys.length) cap) rfl rfl ?_
  refine WL.nx hK20 ?_
  have how : Ow 32 γ.o 1000 [] w3 (.slice (some ⟨b, 0, none⟩) (xs.take (q : Int).toNat ++ ys ++ xs.drop (q : Int).toNat).length cap) (xs.take (q : Int).toNat ++ ys ++ xs.drop (q : Int).toNat) :=
    Ow.of_row hN3 r7 hfin (by rw [hlen]; omega) hcm (by rw [hS2, hlen, List.length_append, r5, r6, ← Nat.add_mul, ← Nat.add_mul, ← Nat.sub_mul]; congr 1; omega)
  rw [hlen] at how
  exact CW.rets (vs := [.slice (some ⟨b, 0, none⟩) (xs.length + ys.length) cap]) Try.results48 ⟨rfl, trivial⟩ ⟨_, rfl, end_row (n := 3) (e := 32) (q := 1002) (k := 1000) (K := []) (M := [1000]) (N := [1000]) rfl rfl rfl (by omega) (by omega) (by simp) (by simp) ev3 how (fun x hx => by simp at hx)⟩ (fun _ _ h => h)

noncomputable def list_raise (a0 : list) (a1 : Int) (a2 : Int) : Option (Int × Int × (List Alarm)) :=
  Option.bind
    (Option.bind (alarm_number a1) fun x1 =>
      if (!x1) = true then some true else Option.bind (alarm_urgent a2) fun x2 => some !x2)
    fun x3 =>
    if x3 = true then some (1, a0.time, a0.l)
    else
      Option.bind (list_find a0 a1) fun x4 =>
        Option.bind
          (if x4.2 = true then Option.bind (idx a0.l x4.1) fun x5 => some (x5.State == 3) else some false)
          fun x6 =>
          Option.bind
            (if x6 = true then
              Option.bind (idx a0.l x4.1) fun x11 =>
                Option.bind (idx a0.l x4.1) fun x12 =>
                  Option.bind (setO a0.l x4.1 (Alarm.mk a1 a2 1 a0.time)) fun x13 =>
                    some (.inl (a0.time, x13))
            else
              Option.bind
                (if x4.2 = true then some (.inl (a0.time, a0.l))
                else
                  if (len a0.l == 32) = true then some (.inr (.inr (2, a0.time, a0.l)))
                  else
                    Option.bind (slices_Insert_Alarm_Alarm a0.l x4.1 [Alarm.mk a1 a2 1 a0.time]) fun x7 =>
                      some (.inl (a0.time, x7)))
                fun x8 => Sum.elim (fun x9 => some (.inl (x9.1, x9.2))) (fun x10 => some x10) x8)
            fun x14 => Sum.elim (fun x15 => some (0, x15.1, x15.2)) (fun x16 => some x16) x14
noncomputable def c29 : Con D := ⟨29, [.lf (.sl 3), .lf (.int .i64), .lf (.int .i64), .lf (.int .i64)], [.lf (.int .i64), .lf (.int .i64), .lf (.sl 3)], [.one (.ptr 1000 0), .one (.h 2 []), .one (.h 3 [])], [(1000, .box [.own 1001, .h 1 []]), (1001, .sl 3 32 0 [0])], [.one (.h 0 [])], [(1000, .box [.own 1002, .h 1 []]), (1002, .sl 3 32 2 [0])], fun h => list_raise ⟨h.1, h.2.1⟩ h.2.2.1 h.2.2.2⟩
theorem c29_ok : ConOk Try.prog T c29 := fn_ok (Φ := [c36, c37, c47, c48]) (rs := [.tmp 6]) (an := (.n none .o (.n none (.n none (.r (some (true, [(.normal, ⟨[.lf .bool], [(17, .one (.h 0 []))], [], [], 2128⟩)])) .nil) .o) (.n none .o (.n none .o (.n none (.n none (.n none (.r (some (true, [(.normal, ⟨[.lf .bool], [(42, .one (.h 0 []))], [], [], 3281⟩)])) .nil) (.n (some (false, [(.normal, ⟨[.lf (.int .i64), .lf (.sl 3)], [], [(1000, .box [.own 3282, .h 0 []]), (3282, .sl 3 32 1 [0])], [1000, 1001], 3346⟩)])) .o (.n none .o (.n (some (false, [(.normal, ⟨[.lf (.int .i64), .lf (.sl 3)], [], [(1000, .box [.own 3410, .h 0 []]), (3410, .sl 3 32 1 [0])], [1000, 1001], 3474⟩)])) .o .o)))) .o) .o)))))) pOk repOk (AllC.mem (⟨c36_ok, c37_ok, c47_ok, c48_ok, trivial⟩ : AllC _ _ [c36, c37, c47, c48])) hmix Try.call29 Try.func29 rfl rfl (by kernel_rfl) (fun h => by kernel_rfl)

noncomputable def alarm_Raise (a0 : (List Alarm)) (a1 : Int) (a2 : Int) (a3 : Int) : Option (Int × (List Alarm)) :=
  Option.bind (alarm_open a0 a3) fun x1 =>
    if (x1.1 != 0) = true then some (x1.1, [])
    else
      Option.bind (list_raise (list.mk x1.2.2 x1.2.1) a1 a2) fun x2 =>
        if (x2.1 != 0) = true then some (x2.1, []) else some (0, x2.2.2)
noncomputable def c13 : Con D := ⟨13, [.lf (.sl 3), .lf (.int .i64), .lf (.int .i64), .lf (.int .i64)], [.lf (.int .i64), .lf (.sl 3)], [.one (.h 0 [0]), .one (.h 1 []), .one (.h 2 []), .one (.h 3 [])], [], [.one (.own 1000), .one (.h 0 [])], [(1000, .sl 3 32 1 [])], fun h => alarm_Raise h.1 h.2.1 h.2.2.1 h.2.2.2⟩
theorem c13_ok : ConOk Try.prog T c13 := fn_ok (Φ := [c28, c29]) (rs := [.tmp 8, .tmp 9]) (an := .o) pOk repOk (AllC.mem (⟨c28_ok, c29_ok, trivial⟩ : AllC _ _ [c28, c29])) hmix Try.call13 Try.func13 rfl rfl (by kernel_rfl) (fun h => by kernel_rfl)

noncomputable def slices_Delete_Alarm_Alarm (a0 : (List Alarm)) (a1 : Int) (a2 : Int) : Option ((List Alarm)) := delO a0 a1 a2
noncomputable def c49 : Con D := ⟨49, [.lf (.sl 3), .lf (.int .i64), .lf (.int .i64)], [.lf (.sl 3)], [.one (.own 1000), .one (.h 1 []), .one (.h 2 [])], [(1000, .sl 3 32 0 [0])], [.one (.own 1001)], [(1001, .sl 3 32 0 [])], fun h => slices_Delete_Alarm_Alarm h.1 h.2.1 h.2.2⟩
theorem c49_ok : ConOk Try.prog T c49 := by
  refine ⟨Try.call49, rfl, rfl, rfl, rfl, fun h0 r0 hr0 avs obs has hobs γ w vs hv hO => ?_⟩
  cases has
  cases hobs
  match vs, hv with
  | [], hv => exact hv.elim
  | [_], hv => exact hv.2.elim
  | [_, _], hv => exact hv.2.2.elim
  | _ :: _ :: _ :: _ :: _, hv => exact hv.2.2.2.elim
  | [v1, v2, v3], hv =>
  obtain ⟨xs, hxs⟩ : ∃ xs : List (D 3), xs = h0.1 := ⟨_, rfl⟩
  obtain ⟨iz, hiz⟩ : ∃ iz : Int, iz = h0.2.1 := ⟨_, rfl⟩
  obtain ⟨jz, hjz⟩ : ∃ jz : Int, jz = h0.2.2 := ⟨_, rfl⟩
  obtain ⟨r, hrr⟩ : ∃ r : List (D 3), r = r0 := ⟨_, rfl⟩
  have hr : delO xs iz jz = some r := by rw [hxs, hiz, hjz, hrr]; exact hr0
  have g1 : Ow 32 γ.o 1000 [0] w v1 xs := by rw [hxs, hv.1.2.1]; exact (hO.ob 1000 _ rfl).2.2.1
  have g2 : v2 = .int .i64 iz := by rw [hiz]; exact hv.2.1.1
  have g3 : v3 = .int .i64 jz := by rw [hjz]; exact hv.2.2.1.1
  subst hrr
  clear hr0 hv hO hxs hiz hjz
  haveI : Flat (D 3) := flat3
  have hT := slr26.2
  have hu := slr26.1
  obtain ⟨b1, b2, b3, rfl⟩ := del_some hr
  obtain ⟨q, rfl⟩ : ∃ q : Nat, iz = (q : Int) := ⟨iz.toNat, by omega⟩
  obtain ⟨s, rfl⟩ : ∃ s : Nat, jz = (s : Int) := ⟨jz.toNat, by omega⟩
  have hqs : q ≤ s := by omega
  have hs : s ≤ xs.length := by omega
  obtain ⟨p, cap, rfl, hnc, hcm⟩ := Ow.shape g1
  subst g2 g3
  have hqt : ((q : Int)).toNat = q := Int.toNat_natCast q
  have hst : ((s : Int)).toNat = s := Int.toNat_natCast s
  refine enter (l := [.slice p xs.length cap, .int .i64 q, .int .i64 s]) Try.func49 rfl Try.ntmps49 rfl ?_
  refine CW.sub (L' := [(0, .slice p xs.length cap), (1, .int .i64 q), (2, .int .i64 s)]) ⟨rfl, rfl, rfl, trivial⟩ ?_
  refine CW.sr fun K0 hK0 => ?_
  refine WL.p (.slice none 0 0) rfl rfl ?_
  refine WL.nx hK0 ?_
  refine CW.sr fun K1 hK1 => ?_
  refine WL.p (.slice p xs.length cap) rfl rfl ?_
  refine WL.p (.int .i64 q) rfl rfl ?_
  refine WL.p (.int .i64 s) rfl rfl ?_
  refine WL.p (.slice p xs.length cap) rfl rfl ?_
  refine WL.stepE (OW.lenHead hu rfl) rfl ?_
  refine WL.stepP (OW.slice3 hu hT rfl rfl rfl rfl (by omega) (by omega) (by omega) (by omega)) rfl fun _ _ => ?_
  refine WL.nx hK1 ?_
  refine CW.seq fun K2 hK2 => ?_
  refine CW.sr fun K3 hK3 => ?_
  refine WL.p (.int .i64 q) rfl rfl ?_
  refine WL.p (.int .i64 s) rfl rfl ?_
  by_cases hqn : q = s
  · refine WL.pe (v' := .bool true) rfl (congrArg Value.bool (beq_iff_eq.2 (by omega))) rfl ?_
    refine WL.nx hK3 ?_
    refine CW.cond (b := true) rfl (fun _ => ?_) (fun h => nomatch h)
    refine CW.sr fun K8 hK8 => ?_
    refine WL.p (.slice p xs.length cap) rfl rfl ?_
    refine WL.p (.slice p xs.length cap) rfl rfl ?_
    refine WL.nx hK8 ?_
    have hres : xs.take (q : Int).toNat ++ xs.drop (s : Int).toNat = xs := by rw [hqt, hst, hqn, List.take_append_drop]
    have how := g1
    conv at how => rhs; rw [← hres]
    exact CW.rets (vs := [.slice p xs.length cap]) Try.results49 ⟨rfl, trivial⟩ ⟨_, rfl, end_row (n := 3) (e := 32) (q := 1001) (k := 1000) (K := []) (M := []) (N := []) rfl rfl rfl (by omega) (by omega) (by simp) (by simp) (Evo.refl _ _ γ.o w) how (fun x hx => by simp at hx)⟩ (fun _ _ h => h)
  refine WL.pe (v' := .bool false) rfl (congrArg Value.bool (beq_eq_false_iff_ne.2 (by omega))) rfl ?_
  refine WL.nx hK3 ?_
  refine CW.cond (b := false) rfl (fun h => nomatch h) (fun _ => ?_)
  refine CW.skip ?_
  refine hK2 _ _ ?_
  obtain ⟨b, rfl⟩ := Ow.block g1 (fun h => by rw [h] at hs; simp at hs; omega)
  obtain ⟨c1, c2, S, r1, r2, r3, r4, r5, r6, r7, _, _, _⟩ := Ow.split g1 (Nat.le_trans hqs hs)
  have r8 : All2 (Rep.rd (In γ.o [0]) w) (c2.drop (s - q)) (xs.drop s) := by
    have := r3.drop (s - q)
    rwa [List.drop_drop, show q + (s - q) = s by omega] at this
  have hc2 : c2.flatten = (c2.take (s - q)).flatten ++ (c2.drop (s - q)).flatten := by rw [← List.flatten_append, List.take_append_drop]
  have r9 : (c2.drop (s - q)).flatten.length = (xs.length - s) * Rep.sz (D 3) := by rw [flatLen r8, List.length_drop]
  have r10 : (c2.take (s - q)).flatten.length = (s - q) * Rep.sz (D 3) := by
    have h1 : (c2.take (s - q)).flatten.length + (c2.drop (s - q)).flatten.length = (xs.length - q) * Rep.sz (D 3) := by rw [← List.length_append, ← hc2, r5]
    have h2 : (xs.length - q) * Rep.sz (D 3) = (s - q) * Rep.sz (D 3) + (xs.length - s) * Rep.sz (D 3) := by rw [← Nat.add_mul]; congr 1; omega
    omega
  obtain ⟨X, Y, S2, hS, hX, hY, hS2⟩ := cut3 (c2.flatten ++ S) ((xs.length - s) * Rep.sz (D 3)) ((s - q) * Rep.sz (D 3)) (by rw [List.length_append, r5, r6, ← Nat.add_mul, ← Nat.add_mul]; exact Nat.mul_le_mul_right _ (by omega))
  have hrow : c1.flatten ++ c2.flatten ++ S = c1.flatten ++ X ++ (Y ++ S2) := by rw [List.append_assoc, hS]; simp only [List.append_assoc]
  have hrow2 : c1.flatten ++ c2.flatten ++ S = (c1.flatten ++ (c2.take (s - q)).flatten) ++ (c2.drop (s - q)).flatten ++ S := by rw [hc2]; simp only [List.append_assoc]
  have hfin : All2 (Rep.rd (In γ.o [0]) w) (c1 ++ c2.drop (s - q)) (xs.take (q : Int).toNat ++ xs.drop (s : Int).toNat) := by rw [hqt, hst]; exact r2.append r8
  have hlen : (xs.take (q : Int).toNat ++ xs.drop (s : Int).toNat).length = q + (xs.length - s) := by rw [hqt, hst]; simp; omega
  refine CW.sr fun K5 hK5 => ?_
  refine WL.p (.slice (some ⟨b, 0, none⟩) xs.length cap) rfl rfl ?_
  refine WL.stepE (OW.lenHead hu rfl) rfl ?_
  refine WL.p (.int .i64 xs.length) rfl rfl ?_
  refine WL.nx hK5 ?_
  refine CW.seq fun K6 hK6 => ?_
  refine CW.draw hmix 6 [20, 21, 22, 23, 24, 25] [.slice (some ⟨b, 0, none⟩) xs.length cap, .int .i64 q, .slice (some ⟨b, 0, none⟩) q cap, .slice (some ⟨b, 0, none⟩) xs.length cap, .int .i64 s, .slice (tlp b s cap (Rep.sz (D 3))) (xs.length - s) (cap - s)] rfl rfl ⟨OW.pv rfl, OW.pv rfl, OW.pre hu hT rfl rfl (by omega), OW.pv rfl, OW.pv rfl, OW.tl2 hu hT rfl rfl hs hnc, trivial⟩ ?_
  refine WL.step (OW.appRow (A := c1.flatten) (X := X) (B := Y ++ S2) (src := (c2.drop (s - q)).flatten) hu hT rfl rfl (by rw [← hrow]; exact r1) r4 (by rw [hX, r9]) r9 (fun hm => ⟨⟨b, s * Rep.sz (D 3), none⟩, by unfold tlp; rw [if_neg (by omega)], row_cells (A := c1.flatten ++ (c2.take (s - q)).flatten) (B := S) (by rw [← hrow2]; exact r1) (by rw [List.length_append, r4, r10, ← Nat.add_mul]; congr 1; omega)⟩) (oneCells r8) (by omega)) rfl ?_
  rintro v' w2 ⟨rfl, hw2⟩
  have hN2 : w2.heap[b]? = some (.cells (c1.flatten ++ (c2.drop (s - q)).flatten ++ Y ++ S2).toArray 32 (0, 0)) := by rw [hw2, List.append_assoc _ Y S2]; exact setRow_heap w.drew _ _ _ _ _ r1
  have ev2 : Evo [1000] [1000] γ.o w γ.o w2 := by rw [hw2]; exact evo_drew (evo_row _ r7)
  clear hw2
  refine WL.p (.slice (some ⟨b, 0, none⟩) (q + (xs.length - s)) cap) rfl rfl ?_
  refine WL.nx hK6 ?_
  refine CW.sr fun K7 hK7 => ?_
  refine WL.p (.slice (some ⟨b, 0, none⟩) (q + (xs.length - s)) cap) rfl rfl ?_
  refine WL.p (.slice (some ⟨b, 0, none⟩) (q + (xs.length - s)) cap) rfl rfl ?_
  refine WL.stepE (OW.lenHead hu rfl) rfl ?_
  refine WL.p (.int .i64 xs.length) rfl rfl ?_
  refine WL.stepE (OW.mid (l := q + (xs.length - s)) (h := xs.length) hu hT rfl rfl rfl (by omega) hnc) rfl ?_
  obtain ⟨k, hk⟩ : ∃ k, xs.length - (q + (xs.length - s)) = k + 1 := ⟨xs.length - (q + (xs.length - s)) - 1, by omega⟩
  rw [hk]
  refine WL.step0 (OW.clearRow (A := c1.flatten ++ (c2.drop (s - q)).flatten) (X := Y) (B := S2) hu hT rfl hN2 (by rw [List.length_append, r4, r9, ← Nat.add_mul]) (by rw [hY, ← hk]; congr 1; omega)) ?_
  rintro v3 w3 ⟨Z, hZ, hw3⟩
  have hN3 : w3.heap[b]? = some (.cells ((c1 ++ c2.drop (s - q)).flatten ++ (Z ++ S2)).toArray 32 (0, 0)) := by rw [hw3, List.flatten_append, ← List.append_assoc _ Z S2]; exact setRow_heap _ _ _ _ _ _ hN2
  have ev3 : Evo [1000] [1000] γ.o w γ.o w3 := by rw [hw3]; exact ev2.trans (evo_row _ r7)
  refine WL.nx hK7 ?_
  refine CW.sr fun K9 hK9 => ?_
  refine WL.p (.slice (some ⟨b, 0, none⟩) (q + (xs.length - s)) cap) rfl rfl ?_
  refine WL.p (.slice (some ⟨b, 0, none⟩) (q + (xs.length - s)) cap) rfl rfl ?_
  refine WL.nx hK9 ?_
  have how : Ow 32 γ.o 1000 [] w3 (.slice (some ⟨b, 0, none⟩) (xs.take (q : Int).toNat ++ xs.drop (s : Int).toNat).length cap) (xs.take (q : Int).toNat ++ xs.drop (s : Int).toNat) :=
    Ow.of_row hN3 r7 hfin (by rw [hlen]; omega) hcm (by rw [hlen, List.length_append, hZ, hY, hS2, List.length_append, r5, r6, ← Nat.add_mul, ← Nat.add_mul, ← Nat.sub_mul, ← Nat.add_mul]; congr 1; omega)
  rw [hlen] at how
  exact CW.rets (vs := [.slice (some ⟨b, 0, none⟩) (q + (xs.length - s)) cap]) Try.results49 ⟨rfl, trivial⟩ ⟨_, rfl, end_row (n := 3) (e := 32) (q := 1001) (k := 1000) (K := []) (M := [1000]) (N := [1000]) rfl rfl rfl (by omega) (by omega) (by simp) (by simp) ev3 how (fun x hx => by simp at hx)⟩ (fun _ _ h => h)

noncomputable def list_clear (a0 : list) (a1 : Int) : Option (Int × (List Alarm)) :=
  Option.bind (list_find a0 a1) fun x1 =>
    Option.bind
      (if (!x1.2) = true then some (a0.time, a0.l)
      else
        Option.bind (idx a0.l x1.1) fun x2 =>
          Option.bind
            (if (x2.State == 1) = true then
              Option.bind (idx a0.l x1.1) fun x6 =>
                Option.bind (idx a0.l x1.1) fun x7 =>
                  Option.bind (setO a0.l x1.1 (Alarm.mk x7.Number x7.Urgency 3 x7.Since)) fun x8 =>
                    some (a0.time, x8)
            else
              Option.bind (idx a0.l x1.1) fun x3 =>
                Option.bind
                  (if (x3.State == 2) = true then
                    Option.bind (slices_Delete_Alarm_Alarm a0.l x1.1 (W (x1.1 + 1))) fun x4 =>
                      some (a0.time, x4)
                  else some (a0.time, a0.l))
                  fun x5 => some (x5.1, x5.2))
            fun x9 => some (x9.1, x9.2))
      fun x10 => some (x10.1, x10.2)
noncomputable def c30 : Con D := ⟨30, [.lf (.sl 3), .lf (.int .i64), .lf (.int .i64)], [.lf (.int .i64), .lf (.sl 3)], [.one (.ptr 1000 0), .one (.h 2 [])], [(1000, .box [.own 1001, .h 1 []]), (1001, .sl 3 32 0 [0])], [], [(1000, .box [.own 1002, .h 0 []]), (1002, .sl 3 32 1 [0])], fun h => list_clear ⟨h.1, h.2.1⟩ h.2.2⟩
theorem c30_ok : ConOk Try.prog T c30 := fn_ok (Φ := [c47, c49]) (rs := []) (an := (.n none .o (.n none (.n none .o (.n (some (true, [(.normal, ⟨[.lf (.int .i64), .lf (.sl 3)], [], [(1000, .box [.own 2704, .h 0 []]), (2704, .sl 3 32 1 [0])], [1000, 1001], 2768⟩)])) .o (.n none .o (.n (some (true, [(.normal, ⟨[.lf (.int .i64), .lf (.sl 3)], [], [(1000, .box [.own 3344, .h 0 []]), (3344, .sl 3 32 1 [0])], [1000, 1001], 3408⟩)])) .o (.n none .o (.n (some (true, [(.normal, ⟨[.lf (.int .i64), .lf (.sl 3)], [], [(1000, .box [.own 3984, .h 0 []]), (3984, .sl 3 32 1 [0])], [1000, 1001], 4048⟩)])) .o .o)))))) .o))) pOk repOk (AllC.mem (⟨c47_ok, c49_ok, trivial⟩ : AllC _ _ [c47, c49])) hmix Try.call30 Try.func30 rfl rfl (by kernel_rfl) (fun h => by kernel_rfl)

noncomputable def alarm_Clear (a0 : (List Alarm)) (a1 : Int) (a2 : Int) : Option (Int × (List Alarm)) :=
  Option.bind (alarm_open a0 a2) fun x1 =>
    if (x1.1 != 0) = true then some (x1.1, [])
    else Option.bind (list_clear (list.mk x1.2.2 x1.2.1) a1) fun x2 => some (0, x2.2)
noncomputable def c21 : Con D := ⟨21, [.lf (.sl 3), .lf (.int .i64), .lf (.int .i64)], [.lf (.int .i64), .lf (.sl 3)], [.one (.h 0 [0]), .one (.h 1 []), .one (.h 2 [])], [], [.one (.own 1000), .one (.h 0 [])], [(1000, .sl 3 32 1 [])], fun h => alarm_Clear h.1 h.2.1 h.2.2⟩
theorem c21_ok : ConOk Try.prog T c21 := fn_ok (Φ := [c28, c30]) (rs := [.tmp 6, .tmp 7]) (an := .o) pOk repOk (AllC.mem (⟨c28_ok, c30_ok, trivial⟩ : AllC _ _ [c28, c30])) hmix Try.call21 Try.func21 rfl rfl (by kernel_rfl) (fun h => by kernel_rfl)

noncomputable def list_see (a0 : list) (a1 : Int) : Option (Int × Int × (List Alarm)) :=
  Option.bind (list_find a0 a1) fun x1 =>
    Option.bind
      (if (!x1.2) = true then some true else Option.bind (idx a0.l x1.1) fun x2 => some (x2.State == 2))
      fun x3 =>
      if x3 = true then some (71, a0.time, a0.l)
      else
        Option.bind (idx a0.l x1.1) fun x4 =>
          Option.bind
            (if (x4.State == 1) = true then
              Option.bind (idx a0.l x1.1) fun x6 =>
                Option.bind (idx a0.l x1.1) fun x7 =>
                  Option.bind (setO a0.l x1.1 (Alarm.mk x7.Number x7.Urgency 2 x7.Since)) fun x8 =>
                    some (a0.time, x8)
            else
              Option.bind (slices_Delete_Alarm_Alarm a0.l x1.1 (W (x1.1 + 1))) fun x5 =>
                some (a0.time, x5))
            fun x9 => some (0, x9.1, x9.2)
noncomputable def c39 : Con D := ⟨39, [.lf (.sl 3), .lf (.int .i64), .lf (.int .i64)], [.lf (.int .i64), .lf (.int .i64), .lf (.sl 3)], [.one (.ptr 1000 0), .one (.h 2 [])], [(1000, .box [.own 1001, .h 1 []]), (1001, .sl 3 32 0 [0])], [.one (.h 0 [])], [(1000, .box [.own 1002, .h 1 []]), (1002, .sl 3 32 2 [0])], fun h => list_see ⟨h.1, h.2.1⟩ h.2.2⟩
theorem c39_ok : ConOk Try.prog T c39 := fn_ok (Φ := [c47, c49]) (rs := [.tmp 4]) (an := (.n none .o (.n none .o (.n none (.n none (.n none (.r (some (true, [(.normal, ⟨[.lf .bool], [(24, .one (.h 0 []))], [], [], 2640⟩)])) .nil) (.n none .o (.n none .o (.n (some (true, [(.normal, ⟨[.lf (.int .i64), .lf (.sl 3)], [], [(1000, .box [.own 3281, .h 0 []]), (3281, .sl 3 32 1 [0])], [1000, 1001], 3345⟩)])) .o .o)))) .o) .o)))) pOk repOk (AllC.mem (⟨c47_ok, c49_ok, trivial⟩ : AllC _ _ [c47, c49])) hmix Try.call39 Try.func39 rfl rfl (by kernel_rfl) (fun h => by kernel_rfl)

noncomputable def alarm_See (a0 : (List Alarm)) (a1 : Int) (a2 : Int) : Option (Int × (List Alarm)) :=
  Option.bind (alarm_open a0 a2) fun x1 =>
    if (x1.1 != 0) = true then some (x1.1, [])
    else
      Option.bind (list_see (list.mk x1.2.2 x1.2.1) a1) fun x2 =>
        if (x2.1 != 0) = true then some (x2.1, []) else some (0, x2.2.2)
noncomputable def c19 : Con D := ⟨19, [.lf (.sl 3), .lf (.int .i64), .lf (.int .i64)], [.lf (.int .i64), .lf (.sl 3)], [.one (.h 0 [0]), .one (.h 1 []), .one (.h 2 [])], [], [.one (.own 1000), .one (.h 0 [])], [(1000, .sl 3 32 1 [])], fun h => alarm_See h.1 h.2.1 h.2.2⟩
theorem c19_ok : ConOk Try.prog T c19 := fn_ok (Φ := [c28, c39]) (rs := [.tmp 6, .tmp 7]) (an := .o) pOk repOk (AllC.mem (⟨c28_ok, c39_ok, trivial⟩ : AllC _ _ [c28, c39])) hmix Try.call19 Try.func19 rfl rfl (by kernel_rfl) (fun h => by kernel_rfl)

noncomputable def cmp_Or_int_L1 (a0 : List
  Int) : Int →
  Option
    (Int ⊕
      Unit ⊕
        Int) := fun x1 =>
  if decide (x1 < len a0) = true then
    Option.bind (idx a0 x1) fun x2 =>
      if (x2 != 0) = true then some (.inr (.inr x2)) else some (.inl (W (x1 + 1)))
  else some (.inr (.inl ()))
noncomputable def cmp_Or_int (a0 : (List Int)) : Option (Int) :=
  Option.bind (loopO (cmp_Or_int_L1 a0) 0) fun x3 =>
    Sum.elim (fun x4 => some 0) (fun x5 => some x5) x3
noncomputable def c26 : Con D := ⟨26, [.lf (.sl 0)], [.lf (.int .i64)], [.one (.h 0 [0])], [], [.one (.h 0 [])], [], fun h => cmp_Or_int h⟩
theorem c26_ok : ConOk Try.prog T c26 := fn_ok (Φ := []) (rs := [.tmp 2]) (an := (.n none .o (.n none .o (.n none (.n none .o (.n none (.loop ⟨[.lf (.int .i64)], [(8, .one (.h 0 []))], [], [], 2384⟩ false [(.exit 0, ⟨[], [], [], [], 2384⟩)] .o) .o)) .o)))) pOk repOk (AllC.mem (l := []) trivial) hmix Try.call26 Try.func26 rfl rfl (by kernel_rfl) (fun h => by kernel_rfl)

noncomputable def alarm_First_L1 (a0 : List
  Alarm) : Bool × Int × Int × Int × Int × Int →
  Option
    (Bool × Int × Int × Int × Int × Int ⊕
      Bool ×
        Int ×
          Int ×
            Int ×
              Int) := fun x1 =>
  if decide (x1.2.1 < len a0) = true then
    Option.bind (idx a0 x1.2.1) fun x2 =>
      Option.bind
        (if (x2.State != 3) = true then
          if (!x1.1) = true then some true
          else
            Option.bind (cmp_Compare_int x2.Since x1.2.2.2.2.2) fun x3 =>
              Option.bind (cmp_Compare_int x2.Number x1.2.2.1) fun x4 =>
                Option.bind (cmp_Or_int [x3, x4]) fun x5 => some (decide (x5 < 0))
        else some false)
        fun x6 =>
        Option.bind
          (if x6 = true then some (true, x2.Number, x2.Urgency, x2.State, x2.Since)
          else some (x1.1, x1.2.2.1, x1.2.2.2.1, x1.2.2.2.2.1, x1.2.2.2.2.2))
          fun x7 =>
          some
            (.inl
              (x7.1, W (x1.2.1 + 1), x7.2.1, x7.2.2.1, x7.2.2.2.1,
                x7.2.2.2.2))
  else some (.inr (x1.1, x1.2.2.1, x1.2.2.2.1, x1.2.2.2.2.1, x1.2.2.2.2.2))
noncomputable def alarm_First (a0 : (List Alarm)) : Option (Int × Bool) :=
  Option.bind (loopO (alarm_First_L1 a0) (false, 0, 0, 0, 0, 0))
    fun x8 => some (x8.2.1, x8.1)
noncomputable def c11 : Con D := ⟨11, [.lf (.sl 3)], [.lf (.int .i64), .lf .bool], [.one (.h 0 [0])], [], [.one (.h 0 []), .one (.h 1 [])], [], fun h => alarm_First h⟩
theorem c11_ok : ConOk Try.prog T c11 := fn_ok (Φ := [c26, c27]) (rs := [.tmp 2, .tmp 3]) (an := (.n none .o (.n none .o (.n none .o (.n none (.n none .o (.n none (.loop ⟨[.lf .bool, .lf (.int .i64), .lf (.int .i64), .lf (.int .i64), .lf (.int .i64), .lf (.int .i64)], [(5, .one (.h 0 [])), (10, .one (.h 1 []))], [(2128, .box [.h 2 [], .h 3 [], .h 4 [], .h 5 []])], [2128], 2512⟩ true [(.exit 0, ⟨[.lf .bool, .lf (.int .i64), .lf (.int .i64), .lf (.int .i64), .lf (.int .i64)], [(5, .one (.h 0 []))], [(2128, .box [.h 1 [], .h 2 [], .h 3 [], .h 4 []])], [2128], 2512⟩)] (.n none .o (.n none .o (.n none (.n none (.n none .o (.n none (.r (some (true, [(.normal, ⟨[.lf .bool], [(18, .one (.any)), (19, .one (.any)), (20, .one (.any)), (21, .one (.any)), (22, .one (.any)), (23, .one (.any)), (24, .one (.any)), (25, .one (.any)), (26, .one (.any)), (27, .one (.any)), (28, .one (.any)), (29, .one (.any)), (30, .one (.any)), (31, .one (.any)), (32, .one (.any)), (33, .one (.any)), (34, .one (.any)), (35, .one (.h 0 []))], [], [], 2902⟩)])) .nil) (.n (some (true, [(.normal, ⟨[.lf .bool, .lf (.int .i64), .lf (.int .i64), .lf (.int .i64), .lf (.int .i64)], [(5, .one (.h 0 []))], [(2128, .box [.h 1 [], .h 2 [], .h 3 [], .h 4 []])], [2128], 2967⟩)])) .o .o))) .o) .o)))) .o)) .o))))) pOk repOk (AllC.mem (⟨c26_ok, c27_ok, trivial⟩ : AllC _ _ [c26, c27])) hmix Try.call11 Try.func11 rfl rfl (by kernel_rfl) (fun h => by kernel_rfl)

noncomputable def dynposref35_Same_L1 (a0 : List
  Alarm) (a1 : List
  Alarm) : Int →
  Option
    (Int ⊕
      Unit ⊕
        Bool) := fun x1 =>
  if decide (x1 < len a0) = true then
    Option.bind (idx a0 x1) fun x2 =>
      Option.bind (idx a1 x1) fun x3 =>
        if
            (!(x2.Number == x3.Number &&
                  (x2.Urgency == x3.Urgency && (x2.State == x3.State && x2.Since == x3.Since)))) =
              true then
          some (.inr (.inr false))
        else some (.inl (W (x1 + 1)))
  else some (.inr (.inl ()))
noncomputable def dynposref35_Same (a0 : (List Alarm)) (a1 : (List Alarm)) : Option (Bool) :=
  if (len a0 != len a1) = true then some false
  else
    Option.bind (loopO (dynposref35_Same_L1 a0 a1) 0) fun x4 =>
      Sum.elim (fun x5 => some true) (fun x6 => some x6) x4
noncomputable def c14 : Con D := ⟨14, [.lf (.sl 3), .lf (.sl 3)], [.lf .bool], [.one (.h 0 [0]), .one (.h 1 [0])], [], [.one (.h 0 [])], [], fun h => dynposref35_Same h.1 h.2⟩
theorem c14_ok : ConOk Try.prog T c14 := fn_ok (Φ := []) (rs := [.tmp 4]) (an := (.n none .o (.n none .o (.n none (.n none .o (.n none (.loop ⟨[.lf (.int .i64)], [(13, .one (.h 0 []))], [], [], 2640⟩ false [(.exit 0, ⟨[], [], [], [], 2640⟩)] .o) .o)) .o)))) pOk repOk (AllC.mem (l := []) trivial) hmix Try.call14 Try.func14 rfl rfl (by kernel_rfl) (fun h => by kernel_rfl)

noncomputable def dynposlaw35_sane : Option (Bool) := Option.bind (alarm_Raise [] 5 2 10) fun x1 =>
  Option.bind (alarm_Clear x1.2 5 11) fun x2 =>
    Option.bind (alarm_See x2.2 5 12) fun x3 =>
      Option.bind (alarm_First x1.2) fun x4 =>
        Option.bind
          (if (x1.1 == 0) = true then
            if (x2.1 == 0) = true then
              if (x3.1 == 0) = true then
                Option.bind
                  (dynposref35_Same x2.2 [Alarm.mk 5 2 3 10])
                  fun x5 =>
                  if x5 = true then
                    if (len x3.2 == 0) = true then
                      if (x4.1 == 5) = true then some x4.2 else some false
                    else some false
                  else some false
              else some false
            else some false
          else some false)
          fun x6 => some x6
noncomputable def c8 : Con D := ⟨8, [], [.lf .bool], [], [], [.one (.h 0 [])], [], fun h => dynposlaw35_sane⟩
theorem c8_ok : ConOk Try.prog T c8 := fn_ok (Φ := [c11, c13, c14, c19, c21]) (rs := [.tmp 0]) (an := (.n none .o (.n none .o (.n none .o (.n none .o (.n none .o (.n none (.r (some (true, [(.normal, ⟨[.lf .bool], [(0, .one (.h 0 []))], [], [], 3856⟩)])) .nil) .o))))))) pOk repOk (AllC.mem (⟨c11_ok, c13_ok, c14_ok, c19_ok, c21_ok, trivial⟩ : AllC _ _ [c11, c13, c14, c19, c21])) hmix Try.call8 Try.func8 rfl rfl (by kernel_rfl) (fun h => by kernel_rfl)

noncomputable def dynposmake_New (a0 : (List Int)) : Option ((List Int) × Int) := Option.bind (slc a0 0 (imin (len a0) 600)) fun x1 => some (x1, 0)
noncomputable def c9 : Con D := ⟨9, [.lf (.sl 0)], [.lf (.sl 0), .lf (.int .i64)], [.one (.h 0 [0])], [], [.one (.ptr 1000 0)], [(1000, .box [.h 0 [0], .h 1 []])], fun h => dynposmake_New h⟩
theorem c9_ok : ConOk Try.prog T c9 := fn_ok (Φ := []) (rs := [.tmp 2]) (an := .o) pOk repOk (AllC.mem (l := []) trivial) hmix Try.call9 Try.func9 rfl rfl (by kernel_rfl) (fun h => by kernel_rfl)

noncomputable def dynposmake_Mod (a0 : Int) (a1 : Int) : Option (Int) :=
  if decide (a1 < 1) = true then some 0
  else Option.bind (remO a0 a1) fun x1 => Option.bind (remO (W (x1 + a1)) a1) fun x2 => some x2
noncomputable def c38 : Con D := ⟨38, [.lf (.int .i64), .lf (.int .i64)], [.lf (.int .i64)], [.one (.h 0 []), .one (.h 1 [])], [], [.one (.h 0 [])], [], fun h => dynposmake_Mod h.1 h.2⟩
theorem c38_ok : ConOk Try.prog T c38 := fn_ok (Φ := []) (rs := [.tmp 4]) (an := .o) pOk repOk (AllC.mem (l := []) trivial) hmix Try.call38 Try.func38 rfl rfl (by kernel_rfl) (fun h => by kernel_rfl)

noncomputable def Src_N (a0 : Src) (a1 : Int) : Option (Int × (List Int) × Int) :=
  if decide (a0.At ≥ len a0.L) = true then some (0, a0.L, a0.At)
  else
    Option.bind (idx a0.L (W (W (a0.At + 1) - 1))) fun x1 =>
      Option.bind (dynposmake_Mod x1 a1) fun x2 => some (x2, a0.L, W (a0.At + 1))
noncomputable def c18 : Con D := ⟨18, [.lf (.sl 0), .lf (.int .i64), .lf (.int .i64)], [.lf (.int .i64), .lf (.sl 0), .lf (.int .i64)], [.one (.ptr 1000 0), .one (.h 2 [])], [(1000, .box [.h 0 [0], .h 1 []])], [.one (.h 0 [])], [(1000, .box [.h 1 [0], .h 2 []])], fun h => Src_N ⟨h.1, h.2.1⟩ h.2.2⟩
theorem c18_ok : ConOk Try.prog T c18 := fn_ok (Φ := [c38]) (rs := [.tmp 4]) (an := .o) pOk repOk (AllC.mem (⟨c38_ok, trivial⟩ : AllC _ _ [c38])) hmix Try.call18 Try.func18 rfl rfl (by kernel_rfl) (fun h => by kernel_rfl)

noncomputable def Src_Some_L1 (a1 : Int) (a2 : Int) : Int × List Int × List Int × Int →
  Option
    (Int × List Int × List Int × Int ⊕
      List Int ×
        List Int ×
          Int) := fun x1 =>
  if decide (x1.1 < a1) = true then
    Option.bind (Src_N (Src.mk x1.2.2.1 x1.2.2.2) a2) fun x2 =>
      Option.bind
        (if (x2.1 == W (a2 - 1)) = true then Option.bind (app x1.2.1 [x1.1]) fun x3 => some x3
        else some x1.2.1)
        fun x4 => some (.inl (W (x1.1 + 1), x4, x2.2.1, x2.2.2))
  else some (.inr (x1.2.1, x1.2.2.1, x1.2.2.2))
noncomputable def Src_Some (a0 : Src) (a1 : Int) (a2 : Int) : Option ((List Int) × Int × (List Int)) :=
  Option.bind (loopO (Src_Some_L1 a1 a2) (0, [], a0.L, a0.At)) fun x5 => some (x5.2.1, x5.2.2, x5.1)
noncomputable def c34 : Con D := ⟨34, [.lf (.sl 0), .lf (.int .i64), .lf (.int .i64), .lf (.int .i64)], [.lf (.sl 0), .lf (.int .i64), .lf (.sl 0)], [.one (.ptr 1000 0), .one (.h 2 []), .one (.h 3 [])], [(1000, .box [.h 0 [0], .h 1 []])], [.one (.own 1001)], [(1000, .box [.h 0 [0], .h 1 []]), (1001, .sl 0 3 2 [])], fun h => Src_Some ⟨h.1, h.2.1⟩ h.2.2.1 h.2.2.2⟩
theorem c34_ok : ConOk Try.prog T c34 := fn_ok (Φ := [c18]) (rs := [.tmp 6]) (an := (.n none .o (.n none .o (.n none (.n none .o (.n none (.loop ⟨[.lf (.int .i64), .lf (.sl 0), .lf (.sl 0), .lf (.int .i64)], [(7, .one (.own 2192)), (8, .one (.h 0 []))], [(2192, .sl 0 3 1 []), (1000, .box [.h 2 [0], .h 3 []])], [1000], 2256⟩ true [(.exit 0, ⟨[.lf (.sl 0), .lf (.sl 0), .lf (.int .i64)], [(7, .one (.own 2192))], [(2192, .sl 0 3 0 []), (1000, .box [.h 1 [0], .h 2 []])], [1000], 2256⟩)] (.n none .o (.n none (.n none (.n none .o (.n (some (true, [(.normal, ⟨[.lf (.sl 0)], [(7, .one (.own 2836))], [(2836, .sl 0 3 0 [])], [2192], 2900⟩)])) .o .o)) .o) .o))) .o)) .o)))) pOk repOk (AllC.mem (⟨c18_ok, trivial⟩ : AllC _ _ [c18])) hmix Try.call34 Try.func34 rfl rfl (by kernel_rfl) (fun h => by kernel_rfl)

noncomputable def dynposlaw35_causes_L1 (x1 : List Int ×
  Int ×
    List
      Int) : Int × List Alarm →
  Option
    (Int × List Alarm ⊕
      List
        Alarm) := fun x2 =>
  if decide (x2.1 < len x1.2.2) = true then
    Option.bind (idx x1.2.2 x2.1) fun x3 =>
      Option.bind (remO x3 3) fun x4 =>
        Option.bind (app x2.2 [Alarm.mk x3 (W (1 + x4)) 0 0]) fun x5 =>
          some (.inl (W (x2.1 + 1), x5))
  else some (.inr x2.2)
noncomputable def dynposlaw35_causes (a0 : Src) : Option ((List Int) × Int × (List Alarm)) :=
  Option.bind (Src_Some a0 6 2) fun x1 =>
    Option.bind (loopO (dynposlaw35_causes_L1 x1) (0, [])) fun x6 => some (x1.1, x1.2.1, x6)
noncomputable def c16 : Con D := ⟨16, [.lf (.sl 0), .lf (.int .i64)], [.lf (.sl 0), .lf (.int .i64), .lf (.sl 3)], [.one (.ptr 1000 0)], [(1000, .box [.h 0 [0], .h 1 []])], [.one (.own 1001)], [(1000, .box [.h 0 [0], .h 1 []]), (1001, .sl 3 32 2 [])], fun h => dynposlaw35_causes ⟨h.1, h.2⟩⟩
theorem c16_ok : ConOk Try.prog T c16 := fn_ok (Φ := [c34]) (rs := [.tmp 2]) (an := (.n none .o (.n none .o (.n none (.n none .o (.n none (.loop ⟨[.lf (.int .i64), .lf (.sl 3)], [(3, .one (.own 2384)), (9, .one (.h 0 []))], [(2384, .sl 3 32 1 [])], [], 2448⟩ true [(.exit 0, ⟨[.lf (.sl 3)], [(3, .one (.own 2384))], [(2384, .sl 3 32 0 [])], [], 2448⟩)] .o) .o)) .o)))) pOk repOk (AllC.mem (⟨c34_ok, trivial⟩ : AllC _ _ [c34])) hmix Try.call16 Try.func16 rfl rfl (by kernel_rfl) (fun h => by kernel_rfl)

end Rx
end Go.Proofs.Ytdfokgnmemlmgaa
