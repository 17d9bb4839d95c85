import Derived.Test.YtfnphdhcgkondaaGreatRt
import Derived.Test.YtfnphdhcgkondaaGreatHc
import Derived.Test.YtfnphdhcgkondaaGreatRg1
set_option linter.unusedVariables false
set_option maxRecDepth 100000
namespace Go.Proofs.YtfnphdhcgkondaaGreat
open Go Go.RowKit Dp
namespace Rx
noncomputable def board_Islands_L1 (x2 : List
 Int) : Int × List Island →
 Option
 (Int × List Island ⊕
 List
 Island) := fun x4 =>
 if decide (x4.1 < len x2) = true then
 Option.bind (idx x2 x4.1) fun x5 =>
 Option.bind (idx x4.2 x5) fun x6 =>
 Option.bind (idx x4.2 x5) fun x7 =>
 Option.bind (idx x4.2 x5) fun x8 =>
 Option.bind (app x8.Buses [x4.1]) fun x9 =>
 Option.bind (setO x4.2 x5 (Island.mk x9 x8.Sources x8.Consumers)) fun x10 =>
 Option.bind (idx x10 x5) fun x11 =>
 Option.bind (eqO x5 x5) fun x12 => some (.inl (W (x4.1 + 1), x10))
 else some (.inr x4.2)
noncomputable def board_Islands_L2 (a0 : Board) (a1 : Power) (x2 : List
 Int) : Int × List Island →
 Option
 (Int × List Island ⊕
 List
 Island) := fun x14 =>
 if decide (x14.1 < len a0.Sources) = true then
 Option.bind (board_connected a0 a1 x14.1) fun x15 =>
 Option.bind
 (if x15.2 = true then
 Option.bind (idx x2 x15.1) fun x16 =>
 Option.bind (idx x2 x15.1) fun x17 =>
 Option.bind (idx x14.2 x17) fun x18 =>
 Option.bind (idx x14.2 x17) fun x19 =>
 Option.bind (idx x14.2 x17) fun x20 =>
 Option.bind (app x20.Sources [x14.1]) fun x21 =>
 Option.bind (setO x14.2 x17 (Island.mk x20.Buses x21 x20.Consumers)) fun x22 =>
 Option.bind (idx x22 x16) fun x23 => Option.bind (eqO x16 x17) fun x24 => some x22
 else some x14.2)
 fun x25 => some (.inl (W (x14.1 + 1), x25))
 else some (.inr x14.2)
noncomputable def board_Islands_L3 (a0 : Board) (a1 : Power) (x2 : List
 Int) : Int × List Island →
 Option
 (Int × List Island ⊕
 List
 Island) := fun x27 =>
 if decide (x27.1 < len a0.Consumers) = true then
 Option.bind (board_fed a0 a1 x27.1) fun x28 =>
 Option.bind
 (if x28.2 = true then
 Option.bind (idx x2 x28.1) fun x29 =>
 Option.bind (idx x2 x28.1) fun x30 =>
 Option.bind (idx x27.2 x30) fun x31 =>
 Option.bind (idx x27.2 x30) fun x32 =>
 Option.bind (idx x27.2 x30) fun x33 =>
 Option.bind (app x33.Consumers [x27.1]) fun x34 =>
 Option.bind (setO x27.2 x30 (Island.mk x33.Buses x33.Sources x34)) fun x35 =>
 Option.bind (idx x35 x29) fun x36 => Option.bind (eqO x29 x30) fun x37 => some x35
 else some x27.2)
 fun x38 => some (.inl (W (x27.1 + 1), x38))
 else some (.inr x27.2)
noncomputable def board_Islands (a0 : Board) (a1 : Power) : Option ((List Island)) :=
 Option.bind (board_State a0 a1) fun x1 =>
 if (x1 != 0) = true then some []
 else
 Option.bind (board_groups a0 a1) fun x2 =>
 Option.bind (mkZ (Island.mk [] [] []) a0.Buses) fun x3 =>
 Option.bind (loopO (board_Islands_L1 x2) (0, x3)) fun x13 =>
 Option.bind (loopO (board_Islands_L2 a0 a1 x2) (0, x13)) fun x26 =>
 Option.bind (loopO (board_Islands_L3 a0 a1 x2) (0, x26)) fun x39 =>
 Option.bind (slices_DeleteFunc_Island_Island x39) fun x40 => some x40
noncomputable def c73 : Con D := ⟨73, z1, z65, z5, [], z49, [(1000, .sl 13 54 0 [1])], fun h => board_Islands ⟨h.1, h.2.1, h.2.2.1, h.2.2.2.1, h.2.2.2.2.1, h.2.2.2.2.2.1⟩ ⟨h.2.2.2.2.2.2.1, h.2.2.2.2.2.2.2.1, h.2.2.2.2.2.2.2.2.1, h.2.2.2.2.2.2.2.2.2⟩⟩
theorem c73_ok : CK c73 := fo [c70, c100, c113, c114, c115] [.tmp 4] (.n none .o (.n none .o (.n none .o (.n none .o (.n none (.n none .o (.n none (.loop ⟨z53, [(27, .one (.h 0 []))], [(2832, .kid 13 54 3 0 1)], [2832], 3216⟩ true [(.exit 0, ⟨z65, [], [(2832, .kid 13 54 3 0 0)], [2832], 3216⟩)] .o) .o)) (.n none (.n none .o (.n none (.loop ⟨z53, [(48, .one (.h 0 []))], [(2832, .kid 13 54 3 0 1)], [2832], 3537⟩ true [(.exit 2, ⟨z65, [], [(2832, .kid 13 54 3 0 0)], [2832], 3537⟩)] (.n none .o (.n none .o (.n none (.n none (.n none .o (.n none .o (.n none .o (.n (some (true, [(.normal, ⟨z65, [], [(2832, .kid 13 54 3 0 0)], [2832], 4435⟩)])) .o .o)))) .o) .o)))) .o)) (.n none (.n none .o (.n none (.loop ⟨z53, [(81, .one (.h 0 []))], [(2832, .kid 13 54 3 0 1)], [2832], 3858⟩ true [(.exit 4, ⟨z65, [], [(2832, .kid 13 54 3 0 0)], [2832], 3858⟩)] (.n none .o (.n none .o (.n none (.n none (.n none .o (.n none .o (.n none .o (.n (some (true, [(.normal, ⟨z65, [], [(2832, .kid 13 54 3 0 0)], [2832], 4756⟩)])) .o .o)))) .o) .o)))) .o)) (.n none (.r none (.thaw 1 [2832] .nil)) .o)))))))) ⟨c70_ok, c100_ok, c113_ok, c114_ok, c115_ok, trivial⟩ Tryz.call73 Tryz.func73 rfl rfl (by kernel_rfl) fun h => by kernel_rfl
noncomputable def slices_Clone_int_int (a0 : (List Int)) : Option ((List Int)) := app [] a0
noncomputable def c75 : Con D := ⟨75, z28, z28, [.one (.h 0 [0])], [], z49, z29, fun h => slices_Clone_int_int h⟩
theorem c75_ok : CK c75 := by
 refine ⟨Tryz.call75, rfl, rfl, rfl, rfl, fun xs0 r0 hr0 avs obs has hobs γ w vs hv _ => ?_⟩
 cases has
 match vs, hv with
 | [], hv => exact hv.elim
 | _ :: _ :: _, hv => exact hv.2.elim
 | [v], hv =>
 obtain ⟨xs, hxs⟩ : ∃ xs : List (D 0), xs = xs0 := ⟨_, rfl⟩
 obtain ⟨r, hrr⟩ : ∃ r : List (D 0), r = r0 := ⟨_, rfl⟩
 have g0 : Rv (In γ.o [0]) w v xs := by rw [hxs]; exact hv.1.1
 have hr : app ([] : List (D 0)) xs = some r := by rw [hxs, hrr]; exact hr0
 subst hrr
 have hT := slr22.2
 refine enter (l := [v]) Tryz.func75 rfl Tryz.ntmps75 rfl ?_
 refine CW.sub (L' := [(0, v)]) ⟨rfl, trivial⟩ ?_
 refine CW.sr fun K1 hK1 => ?_
 refine WL.p (.slice none 0 0) rfl rfl ?_
 refine WL.nx hK1 ?_
 refine CW.seq fun K2 hK2 => ?_
 refine CW.sr fun K3 hK3 => ?_
 refine WL.p v rfl rfl ?_
 obtain ⟨a, m, q, rfl, hn⟩ := rvSlice g0
 refine WL.stepE (OW.isNil slr22.1 rfl) rfl ?_
 refine WL.nx hK3 ?_
 cases a with
 | none =>
 refine CW.cond (b := true) rfl (fun _ => ?_) (fun h => nomatch h)
 refine CW.sr fun K4 hK4 => ?_
 refine WL.p (.slice none 0 0) rfl rfl ?_
 refine WL.nx hK4 ?_
 rw [hn rfl] at hr
 obtain rfl := app_nil hr
 exact CW.rets (vs := [.slice none 0 0]) Tryz.results75 ⟨rfl, trivial⟩ ⟨_, rfl, end_own (n := 0) (e := 3) (q := 1000) (K := []) (M := []) (N := []) rfl rfl rfl (by simp) (by simp) (Evo.refl _ _ γ.o w) (Ow.nil _ _ _ _ _) (fun x hx => by simp at hx <;> omega)⟩ (fun _ _ h => h)
 | some a =>
 refine CW.cond (b := false) rfl (fun h => nomatch h) (fun _ => ?_)
 refine CW.skip ?_
 refine hK2 _ _ ?_
 refine CW.sr fun K5 hK5 => ?_
 refine WL.step (OW.buildSlice (o := γ.o) (k := 1000) (K := []) (xs := ([] : List (D 0))) slr22.1 hT rfl trivial rfl rfl) rfl ?_
 rintro v1 w1 ⟨o1, ev1, h1⟩
 have g0 := g0.evo ev1 rfl
 refine WL.p (.slice (some a) m q) rfl rfl ?_
 refine WL.step (OW.append (K := []) slr22.1 hT rfl rfl h1 (@Els.flat (D 0) _ flat0 _ _ _ _ _ g0.els) hr rfl) rfl ?_
 rintro v2 w2 ⟨o2, ev2, h2⟩
 refine WL.p v2 rfl rfl ?_
 refine WL.nx hK5 ?_
 exact CW.rets (vs := [v2]) Tryz.results75 ⟨rfl, trivial⟩ ⟨_, rfl, end_own (n := 0) (e := 3) (q := 1000) (K := []) (M := [1000]) (N := [1000]) rfl rfl rfl (by simp) (by simp) ((ev1.weaken (by simp) (by simp)).trans ev2) h2 (fun x hx => by simp at hx <;> omega)⟩ (fun _ _ h => h)
noncomputable def shed_relief__shed_1 (a0 : Int) (a1 : Island) : Option (Bool) := Option.bind (slices_Contains_int_int a1.Consumers a0) fun x1 => some !x1
noncomputable def c87 : Con D := ⟨87, [.lf (.int .i64), .el 13], [.lf .bool], [.one (.h 0 []), .one (.rp 1 13 [0])], [], z10, [], fun h => shed_relief__shed_1 h.1 h.2⟩
theorem c87_ok : CK c87 := fo [c77] [.tmp 3] .o ⟨c77_ok, trivial⟩ Tryz.call87 Tryz.func87 rfl rfl (by kernel_rfl) fun h => by kernel_rfl
noncomputable def board_Of_L1 (a2 : Int) (x1 : List
 Island) : Int →
 Option
 (Int ⊕
 Unit ⊕
 List Int ×
 List Int ×
 List Int ×
 Bool) := fun x2 =>
 if decide (x2 < len x1) = true then
 Option.bind (idx x1 x2) fun x3 =>
 Option.bind (slices_Contains_int_int x3.Buses a2) fun x4 =>
 if x4 = true then some (.inr (.inr (x3.Buses, x3.Sources, x3.Consumers, true)))
 else some (.inl (W (x2 + 1)))
 else some (.inr (.inl ()))
noncomputable def board_Of (a0 : Board) (a1 : Power) (a2 : Int) : Option ((List Int) × (List Int) × (List Int) × Bool) :=
 Option.bind (board_Islands a0 a1) fun x1 =>
 Option.bind (loopO (board_Of_L1 a2 x1) 0) fun x5 =>
 Sum.elim (fun x6 => some ([], [], [], false)) (fun x7 => some x7) x5
noncomputable def c101 : Con D := ⟨101, z0, [.lf (.sl 0), .lf (.sl 0), .lf (.sl 0), .lf .bool], z2, [], [.agg [.h 0 [1], .h 1 [1], .h 2 [1]], .one (.h 3 [])], [], fun h => board_Of ⟨h.1, h.2.1, h.2.2.1, h.2.2.2.1, h.2.2.2.2.1, h.2.2.2.2.2.1⟩ ⟨h.2.2.2.2.2.2.1, h.2.2.2.2.2.2.2.1, h.2.2.2.2.2.2.2.2.1, h.2.2.2.2.2.2.2.2.2.1⟩ h.2.2.2.2.2.2.2.2.2.2⟩
theorem c101_ok : CK c101 := fo [c73, c77] [.cell 6 54, .tmp 7] (.n none .o (.n none (.n none .o (.n none (.loop ⟨z9, [(14, .one (.h 0 []))], [(2128, .box [.nils, .nils, .nils])], [2128], 2640⟩ false [(.exit 0, ⟨[], [], [(2128, .box [.nils, .nils, .nils])], [2128], 2640⟩)] .o) .o)) .o)) ⟨c73_ok, c77_ok, trivial⟩ Tryz.call101 Tryz.func101 rfl rfl (by kernel_rfl) fun h => by kernel_rfl
noncomputable def balance_Load_L1 (a1 : Power) (x1 : List Int ×
 List Int ×
 List Int ×
 Bool) : Int × Int →
 Option
 (Int × Int ⊕
 Int) := fun x2 =>
 if decide (x2.2 < len x1.2.2.1) = true then
 Option.bind (idx x1.2.2.1 x2.2) fun x3 =>
 Option.bind
 (if decide (len x1.2.1 > 0) = true then
 Option.bind (idx a1.Limits x3) fun x4 => some (W (x2.1 + x4))
 else some x2.1)
 fun x5 => some (.inl (x5, W (x2.2 + 1)))
 else some (.inr x2.1)
noncomputable def balance_Load (a0 : Board) (a1 : Power) (a2 : Int) : Option (Int) :=
 Option.bind (board_Of a0 a1 a2) fun x1 =>
 Option.bind (loopO (balance_Load_L1 a1 x1) (0, 0)) fun x6 => some x6
noncomputable def c111 : Con D := ⟨111, z0, z9, z2, [], z10, [], fun h => balance_Load ⟨h.1, h.2.1, h.2.2.1, h.2.2.2.1, h.2.2.2.2.1, h.2.2.2.2.2.1⟩ ⟨h.2.2.2.2.2.2.1, h.2.2.2.2.2.2.2.1, h.2.2.2.2.2.2.2.2.1, h.2.2.2.2.2.2.2.2.2.1⟩ h.2.2.2.2.2.2.2.2.2.2⟩
theorem c111_ok : CK c111 := fo [c101] [.tmp 6] (.n none .o (.n none .o (.n none .o (.n none (.n none .o (.n none (.loop ⟨z41, [(9, .one (.h 0 [])), (22, .one (.h 1 []))], [], [], 3216⟩ true [(.exit 0, ⟨z9, [(9, .one (.h 0 []))], [], [], 3216⟩)] (.n none .o (.n none .o (.n none (.n none (.n none .o (.n none .o (.n (some (true, [(.normal, ⟨z9, [(9, .one (.h 0 []))], [], [], 3794⟩)])) .o .o))) .o) .o)))) .o)) .o)))) ⟨c101_ok, trivial⟩ Tryz.call111 Tryz.func111 rfl rfl (by kernel_rfl) fun h => by kernel_rfl
noncomputable def balance_Rating_L1 (a0 : Board) (x1 : List Int ×
 List Int ×
 List Int ×
 Bool) : Int × Int →
 Option
 (Int × Int ⊕
 Int) := fun x2 =>
 if decide (x2.2 < len x1.2.1) = true then
 Option.bind (idx x1.2.1 x2.2) fun x3 =>
 Option.bind (idx a0.Sources x3) fun x4 => some (.inl (W (x2.1 + x4.Rating), W (x2.2 + 1)))
 else some (.inr x2.1)
noncomputable def balance_Rating (a0 : Board) (a1 : Power) (a2 : Int) : Option (Int) :=
 Option.bind (board_Of a0 a1 a2) fun x1 =>
 Option.bind (loopO (balance_Rating_L1 a0 x1) (0, 0)) fun x5 => some x5
noncomputable def c112 : Con D := ⟨112, z0, z9, z2, [], z10, [], fun h => balance_Rating ⟨h.1, h.2.1, h.2.2.1, h.2.2.2.1, h.2.2.2.2.1, h.2.2.2.2.2.1⟩ ⟨h.2.2.2.2.2.2.1, h.2.2.2.2.2.2.2.1, h.2.2.2.2.2.2.2.2.1, h.2.2.2.2.2.2.2.2.2.1⟩ h.2.2.2.2.2.2.2.2.2.2⟩
theorem c112_ok : CK c112 := fo [c101] [.tmp 6] z32 ⟨c101_ok, trivial⟩ Tryz.call112 Tryz.func112 rfl rfl (by kernel_rfl) fun h => by kernel_rfl
noncomputable def relief_excess (a0 : relief) (a1 : Int) : Option (Int) :=
 Option.bind (balance_Load a0.board a0.power a1) fun x1 =>
 Option.bind (balance_Rating a0.board a0.power a1) fun x2 => some (imax 0 (W (x1 - x2)))
noncomputable def c127 : Con D := ⟨127, [.el 11, .lf (.int .i64)], z9, [.one (.rp 0 11 [0]), .one (.h 11 [])], [], z10, [], fun h => relief_excess h.1 h.2⟩
theorem c127_ok : CK c127 := fo [c111, c112] [.tmp 4] .o ⟨c111_ok, c112_ok, trivial⟩ Tryz.call127 Tryz.func127 rfl rfl (by kernel_rfl) fun h => by kernel_rfl
noncomputable def shed_relief__trip_1 (a0 : Breaker) (a1 : Int) : Option (Bool) := Option.bind (if (a0.Kind == 3) = true then some (a0.B == a1) else some false) fun x1 => some x1
noncomputable def c128 : Con D := ⟨128, [.lf (.int .i64), .lf (.int .i64), .lf (.int .i64), .el 0], [.lf .bool], [.agg [.h 0 [], .h 1 [], .h 2 []], .one (.rp 3 0 [0])], [], z10, [], fun h => shed_relief__trip_1 ⟨h.1, h.2.1, h.2.2.1⟩ h.2.2.2⟩
theorem c128_ok : CK c128 := fo [] [.tmp 3] z62 trivial Tryz.call128 Tryz.func128 rfl rfl (by kernel_rfl) fun h => by kernel_rfl
noncomputable def slices_Clone_bool_bool (a0 : (List Bool)) : Option ((List Bool)) := app [] a0
noncomputable def c121 : Con D := ⟨121, [.lf (.sl 1)], [.lf (.sl 1)], [.one (.h 0 [0])], [], z49, [(1000, .sl 1 4 0 [])], fun h => slices_Clone_bool_bool h⟩
theorem c121_ok : CK c121 := by
 refine ⟨Tryz.call121, rfl, rfl, rfl, rfl, fun xs0 r0 hr0 avs obs has hobs γ w vs hv _ => ?_⟩
 cases has
 match vs, hv with
 | [], hv => exact hv.elim
 | _ :: _ :: _, hv => exact hv.2.elim
 | [v], hv =>
 obtain ⟨xs, hxs⟩ : ∃ xs : List (D 1), xs = xs0 := ⟨_, rfl⟩
 obtain ⟨r, hrr⟩ : ∃ r : List (D 1), r = r0 := ⟨_, rfl⟩
 have g0 : Rv (In γ.o [0]) w v xs := by rw [hxs]; exact hv.1.1
 have hr : app ([] : List (D 1)) xs = some r := by rw [hxs, hrr]; exact hr0
 subst hrr
 have hT := slr30.2
 refine enter (l := [v]) Tryz.func121 rfl Tryz.ntmps121 rfl ?_
 refine CW.sub (L' := [(0, v)]) ⟨rfl, trivial⟩ ?_
 refine CW.sr fun K1 hK1 => ?_
 refine WL.p (.slice none 0 0) rfl rfl ?_
 refine WL.nx hK1 ?_
 refine CW.seq fun K2 hK2 => ?_
 refine CW.sr fun K3 hK3 => ?_
 refine WL.p v rfl rfl ?_
 obtain ⟨a, m, q, rfl, hn⟩ := rvSlice g0
 refine WL.stepE (OW.isNil slr30.1 rfl) rfl ?_
 refine WL.nx hK3 ?_
 cases a with
 | none =>
 refine CW.cond (b := true) rfl (fun _ => ?_) (fun h => nomatch h)
 refine CW.sr fun K4 hK4 => ?_
 refine WL.p (.slice none 0 0) rfl rfl ?_
 refine WL.nx hK4 ?_
 rw [hn rfl] at hr
 obtain rfl := app_nil hr
 exact CW.rets (vs := [.slice none 0 0]) Tryz.results121 ⟨rfl, trivial⟩ ⟨_, rfl, end_own (n := 1) (e := 4) (q := 1000) (K := []) (M := []) (N := []) rfl rfl rfl (by simp) (by simp) (Evo.refl _ _ γ.o w) (Ow.nil _ _ _ _ _) (fun x hx => by simp at hx <;> omega)⟩ (fun _ _ h => h)
 | some a =>
 refine CW.cond (b := false) rfl (fun h => nomatch h) (fun _ => ?_)
 refine CW.skip ?_
 refine hK2 _ _ ?_
 refine CW.sr fun K5 hK5 => ?_
 refine WL.step (OW.buildSlice (o := γ.o) (k := 1000) (K := []) (xs := ([] : List (D 1))) slr30.1 hT rfl trivial rfl rfl) rfl ?_
 rintro v1 w1 ⟨o1, ev1, h1⟩
 have g0 := g0.evo ev1 rfl
 refine WL.p (.slice (some a) m q) rfl rfl ?_
 refine WL.step (OW.append (K := []) slr30.1 hT rfl rfl h1 (@Els.flat (D 1) _ flat1 _ _ _ _ _ g0.els) hr rfl) rfl ?_
 rintro v2 w2 ⟨o2, ev2, h2⟩
 refine WL.p v2 rfl rfl ?_
 refine WL.nx hK5 ?_
 exact CW.rets (vs := [v2]) Tryz.results121 ⟨rfl, trivial⟩ ⟨_, rfl, end_own (n := 1) (e := 4) (q := 1000) (K := []) (M := [1000]) (N := [1000]) rfl rfl rfl (by simp) (by simp) ((ev1.weaken (by simp) (by simp)).trans ev2) h2 (fun x hx => by simp at hx <;> omega)⟩ (fun _ _ h => h)
noncomputable def slices_Clone_Running_Running (a0 : (List Running)) : Option ((List Running)) := app [] a0
noncomputable def c122 : Con D := ⟨122, [.lf (.sl 8)], [.lf (.sl 8)], [.one (.h 0 [0])], [], z49, [(1000, .sl 8 48 0 [])], fun h => slices_Clone_Running_Running h⟩
theorem c122_ok : CK c122 := by
 refine ⟨Tryz.call122, rfl, rfl, rfl, rfl, fun xs0 r0 hr0 avs obs has hobs γ w vs hv _ => ?_⟩
 cases has
 match vs, hv with
 | [], hv => exact hv.elim
 | _ :: _ :: _, hv => exact hv.2.elim
 | [v], hv =>
 obtain ⟨xs, hxs⟩ : ∃ xs : List (D 8), xs = xs0 := ⟨_, rfl⟩
 obtain ⟨r, hrr⟩ : ∃ r : List (D 8), r = r0 := ⟨_, rfl⟩
 have g0 : Rv (In γ.o [0]) w v xs := by rw [hxs]; exact hv.1.1
 have hr : app ([] : List (D 8)) xs = some r := by rw [hxs, hrr]; exact hr0
 subst hrr
 have hT := slr31.2
 refine enter (l := [v]) Tryz.func122 rfl Tryz.ntmps122 rfl ?_
 refine CW.sub (L' := [(0, v)]) ⟨rfl, trivial⟩ ?_
 refine CW.sr fun K1 hK1 => ?_
 refine WL.p (.slice none 0 0) rfl rfl ?_
 refine WL.nx hK1 ?_
 refine CW.seq fun K2 hK2 => ?_
 refine CW.sr fun K3 hK3 => ?_
 refine WL.p v rfl rfl ?_
 obtain ⟨a, m, q, rfl, hn⟩ := rvSlice g0
 refine WL.stepE (OW.isNil slr31.1 rfl) rfl ?_
 refine WL.nx hK3 ?_
 cases a with
 | none =>
 refine CW.cond (b := true) rfl (fun _ => ?_) (fun h => nomatch h)
 refine CW.sr fun K4 hK4 => ?_
 refine WL.p (.slice none 0 0) rfl rfl ?_
 refine WL.nx hK4 ?_
 rw [hn rfl] at hr
 obtain rfl := app_nil hr
 exact CW.rets (vs := [.slice none 0 0]) Tryz.results122 ⟨rfl, trivial⟩ ⟨_, rfl, end_own (n := 8) (e := 48) (q := 1000) (K := []) (M := []) (N := []) rfl rfl rfl (by simp) (by simp) (Evo.refl _ _ γ.o w) (Ow.nil _ _ _ _ _) (fun x hx => by simp at hx <;> omega)⟩ (fun _ _ h => h)
 | some a =>
 refine CW.cond (b := false) rfl (fun h => nomatch h) (fun _ => ?_)
 refine CW.skip ?_
 refine hK2 _ _ ?_
 refine CW.sr fun K5 hK5 => ?_
 refine WL.step (OW.buildSlice (o := γ.o) (k := 1000) (K := []) (xs := ([] : List (D 8))) slr31.1 hT rfl trivial rfl rfl) rfl ?_
 rintro v1 w1 ⟨o1, ev1, h1⟩
 have g0 := g0.evo ev1 rfl
 refine WL.p (.slice (some a) m q) rfl rfl ?_
 refine WL.step (OW.append (K := []) slr31.1 hT rfl rfl h1 (@Els.flat (D 8) _ flat8 _ _ _ _ _ g0.els) hr rfl) rfl ?_
 rintro v2 w2 ⟨o2, ev2, h2⟩
 refine WL.p v2 rfl rfl ?_
 refine WL.nx hK5 ?_
 exact CW.rets (vs := [v2]) Tryz.results122 ⟨rfl, trivial⟩ ⟨_, rfl, end_own (n := 8) (e := 48) (q := 1000) (K := []) (M := [1000]) (N := [1000]) rfl rfl rfl (by simp) (by simp) ((ev1.weaken (by simp) (by simp)).trans ev2) h2 (fun x hx => by simp at hx <;> omega)⟩ (fun _ _ h => h)
noncomputable def slices_Clone_Part_Part (a0 : (List Part)) : Option ((List Part)) := app [] a0
noncomputable def c123 : Con D := ⟨123, [.lf (.sl 9)], [.lf (.sl 9)], [.one (.h 0 [0])], [], z49, [(1000, .sl 9 84 0 [])], fun h => slices_Clone_Part_Part h⟩
theorem c123_ok : CK c123 := by
 refine ⟨Tryz.call123, rfl, rfl, rfl, rfl, fun xs0 r0 hr0 avs obs has hobs γ w vs hv _ => ?_⟩
 cases has
 match vs, hv with
 | [], hv => exact hv.elim
 | _ :: _ :: _, hv => exact hv.2.elim
 | [v], hv =>
 obtain ⟨xs, hxs⟩ : ∃ xs : List (D 9), xs = xs0 := ⟨_, rfl⟩
 obtain ⟨r, hrr⟩ : ∃ r : List (D 9), r = r0 := ⟨_, rfl⟩
 have g0 : Rv (In γ.o [0]) w v xs := by rw [hxs]; exact hv.1.1
 have hr : app ([] : List (D 9)) xs = some r := by rw [hxs, hrr]; exact hr0
 subst hrr
 have hT := slr32.2
 refine enter (l := [v]) Tryz.func123 rfl Tryz.ntmps123 rfl ?_
 refine CW.sub (L' := [(0, v)]) ⟨rfl, trivial⟩ ?_
 refine CW.sr fun K1 hK1 => ?_
 refine WL.p (.slice none 0 0) rfl rfl ?_
 refine WL.nx hK1 ?_
 refine CW.seq fun K2 hK2 => ?_
 refine CW.sr fun K3 hK3 => ?_
 refine WL.p v rfl rfl ?_
 obtain ⟨a, m, q, rfl, hn⟩ := rvSlice g0
 refine WL.stepE (OW.isNil slr32.1 rfl) rfl ?_
 refine WL.nx hK3 ?_
 cases a with
 | none =>
 refine CW.cond (b := true) rfl (fun _ => ?_) (fun h => nomatch h)
 refine CW.sr fun K4 hK4 => ?_
 refine WL.p (.slice none 0 0) rfl rfl ?_
 refine WL.nx hK4 ?_
 rw [hn rfl] at hr
 obtain rfl := app_nil hr
 exact CW.rets (vs := [.slice none 0 0]) Tryz.results123 ⟨rfl, trivial⟩ ⟨_, rfl, end_own (n := 9) (e := 84) (q := 1000) (K := []) (M := []) (N := []) rfl rfl rfl (by simp) (by simp) (Evo.refl _ _ γ.o w) (Ow.nil _ _ _ _ _) (fun x hx => by simp at hx <;> omega)⟩ (fun _ _ h => h)
 | some a =>
 refine CW.cond (b := false) rfl (fun h => nomatch h) (fun _ => ?_)
 refine CW.skip ?_
 refine hK2 _ _ ?_
 refine CW.sr fun K5 hK5 => ?_
 refine WL.step (OW.buildSlice (o := γ.o) (k := 1000) (K := []) (xs := ([] : List (D 9))) slr32.1 hT rfl trivial rfl rfl) rfl ?_
 rintro v1 w1 ⟨o1, ev1, h1⟩
 have g0 := g0.evo ev1 rfl
 refine WL.p (.slice (some a) m q) rfl rfl ?_
 refine WL.step (OW.append (K := []) slr32.1 hT rfl rfl h1 (@Els.flat (D 9) _ flat9 _ _ _ _ _ g0.els) hr rfl) rfl ?_
 rintro v2 w2 ⟨o2, ev2, h2⟩
 refine WL.p v2 rfl rfl ?_
 refine WL.nx hK5 ?_
 exact CW.rets (vs := [v2]) Tryz.results123 ⟨rfl, trivial⟩ ⟨_, rfl, end_own (n := 9) (e := 84) (q := 1000) (K := []) (M := [1000]) (N := [1000]) rfl rfl rfl (by simp) (by simp) ((ev1.weaken (by simp) (by simp)).trans ev2) h2 (fun x hx => by simp at hx <;> omega)⟩ (fun _ _ h => h)
noncomputable def states_Clone (a0 : Power) : Option ((List Bool) × (List Running) × (List Int) × (List Part)) :=
 Option.bind (slices_Clone_bool_bool a0.Closed) fun x1 =>
 Option.bind (slices_Clone_Running_Running a0.Sources) fun x2 =>
 Option.bind (slices_Clone_int_int a0.Limits) fun x3 =>
 Option.bind (slices_Clone_Part_Part a0.Broken) fun x4 => some (x1, x2, x3, x4)
noncomputable def c80 : Con D := ⟨80, z38, z38, [.agg [.h 0 [0], .h 1 [0], .h 2 [0], .h 3 [0]]], [], z70, z44, fun h => states_Clone ⟨h.1, h.2.1, h.2.2.1, h.2.2.2⟩⟩
theorem c80_ok : CK c80 := fo [c75, c121, c122, c123] [.cell 2 34] .o ⟨c75_ok, c121_ok, c122_ok, c123_ok, trivial⟩ Tryz.call80 Tryz.func80 rfl rfl (by kernel_rfl) fun h => by kernel_rfl
noncomputable def relief_lower_v3_L1 (a0 : relief) (a1 : List
 Int) (a2 : Int) : Int × Int × List Breaker × List Source × List Consumer × Int × Int × List Int × List Act →
 Option
 (Int × Int × List Breaker × List Source × List Consumer × Int × Int × List Int × List Act ⊕
 Int ×
 List Breaker ×
 List Source ×
 List Consumer ×
 Int ×
 Int ×
 List Int ×
 List
 Act) := fun x1 =>
 if decide (x1.1 < len a1) = true then
 Option.bind (idx a1 x1.1) fun x2 =>
 Option.bind
 (relief_excess
 (relief.mk
 (Board.mk x1.2.1 x1.2.2.1 x1.2.2.2.1 x1.2.2.2.2.1 x1.2.2.2.2.2.1
 x1.2.2.2.2.2.2.1)
 (Power.mk a0.power.Closed a0.power.Sources x1.2.2.2.2.2.2.2.1 a0.power.Broken)
 x1.2.2.2.2.2.2.2.2)
 a2)
 fun x3 =>
 Option.bind (idx x1.2.2.2.2.2.2.2.1 x2) fun x4 =>
 Option.bind (idx x1.2.2.2.2.1 x2) fun x5 =>
 Option.bind
 (if decide (imin x3 (W (x4 - x5.Least)) > 0) = true then
 Option.bind (idx x1.2.2.2.2.2.2.2.1 x2) fun x6 =>
 Option.bind (idx x1.2.2.2.2.2.2.2.1 x2) fun x7 =>
 Option.bind (idx x1.2.2.2.2.2.2.2.1 x2) fun x8 =>
 Option.bind (setO x1.2.2.2.2.2.2.2.1 x2 (W (x6 - imin x3 (W (x4 - x5.Least)))))
 fun x9 =>
 Option.bind (idx x9 x2) fun x10 =>
 Option.bind (app x1.2.2.2.2.2.2.2.2 [Act.mk 5 x2 x10]) fun x11 =>
 some
 (x1.2.1, x1.2.2.1, x1.2.2.2.1, x1.2.2.2.2.1,
 x1.2.2.2.2.2.1, x1.2.2.2.2.2.2.1, x9, x11)
 else
 some
 (x1.2.1, x1.2.2.1, x1.2.2.2.1, x1.2.2.2.2.1, x1.2.2.2.2.2.1,
 x1.2.2.2.2.2.2.1, x1.2.2.2.2.2.2.2.1,
 x1.2.2.2.2.2.2.2.2))
 fun x12 =>
 some
 (.inl
 (W (x1.1 + 1), x12.1, x12.2.1, x12.2.2.1, x12.2.2.2.1,
 x12.2.2.2.2.1, x12.2.2.2.2.2.1, x12.2.2.2.2.2.2.1,
 x12.2.2.2.2.2.2.2))
 else
 some
 (.inr
 (x1.2.1, x1.2.2.1, x1.2.2.2.1, x1.2.2.2.2.1, x1.2.2.2.2.2.1,
 x1.2.2.2.2.2.2.1, x1.2.2.2.2.2.2.2.1, x1.2.2.2.2.2.2.2.2))
noncomputable def relief_lower_v3 (a0 : relief) (a1 : (List Int)) (a2 : Int) : Option (Int × (List Breaker) × (List Source) × (List Consumer) × Int × Int × (List Bool) × (List Running) × (List Int) × (List Part) × (List Int) × (List Act)) :=
 Option.bind
 (loopO (relief_lower_v3_L1 a0 a1 a2)
 (0, a0.board.Buses, a0.board.Breakers, a0.board.Sources, a0.board.Consumers, a0.board.Phase,
 a0.board.Frequency, a0.power.Limits, a0.acts))
 fun x13 =>
 some
 (x13.1, x13.2.1, x13.2.2.1, x13.2.2.2.1, x13.2.2.2.2.1, x13.2.2.2.2.2.1,
 a0.power.Closed, a0.power.Sources, x13.2.2.2.2.2.2.1, a0.power.Broken, a1,
 x13.2.2.2.2.2.2.2)
noncomputable def c88_3 : Con D := ⟨88, z40, z27, [.one (.ptr 1000 0), .one (.own 1006), .one (.h 12 [])], z31, [], z30, fun h => relief_lower_v3 ⟨⟨h.1, h.2.1, h.2.2.1, h.2.2.2.1, h.2.2.2.2.1, h.2.2.2.2.2.1⟩, ⟨h.2.2.2.2.2.2.1, h.2.2.2.2.2.2.2.1, h.2.2.2.2.2.2.2.2.1, h.2.2.2.2.2.2.2.2.2.1⟩, h.2.2.2.2.2.2.2.2.2.2.1⟩ h.2.2.2.2.2.2.2.2.2.2.2.1 h.2.2.2.2.2.2.2.2.2.2.2.2⟩
theorem c88_3_ok : CK c88_3 := fo [c127] [] (.n none .o (.n none (.loop ⟨[.lf (.int .i64), .lf (.int .i64), .lf (.sl 4), .lf (.sl 5), .lf (.sl 6), .lf (.int .i64), .lf (.int .i64), .lf (.sl 0), .lf (.sl 10)], [(11, .one (.h 0 []))], [(1000, .box [.h 1 [], .h 2 [0], .h 3 [0], .h 4 [0], .h 5 [], .h 6 [], .own 1001, .own 1002, .own 1003, .own 1004, .own 2192]), (1003, .sl 0 3 7 []), (2192, .sl 10 74 8 [])], [1000, 1003, 1005], 2256⟩ true [(.exit 0, ⟨z64, [], [(1000, .box [.h 0 [], .h 1 [0], .h 2 [0], .h 3 [0], .h 4 [], .h 5 [], .own 1001, .own 1002, .own 1003, .own 1004, .own 2192]), (1003, .sl 0 3 6 []), (2192, .sl 10 74 7 [])], [1000, 1003, 1005], 2256⟩)] (.n none .o (.n none .o (.n none (.n none (.n none .o (.n none .o (.n none .o (.n (some (true, [(.normal, ⟨z64, [], [(1000, .box [.h 0 [], .h 1 [0], .h 2 [0], .h 3 [0], .h 4 [], .h 5 [], .own 1001, .own 1002, .own 1003, .own 1004, .own 4121]), (1003, .sl 0 3 6 []), (4121, .sl 10 74 7 [])], [1000, 1003, 2192], 4185⟩)])) .o .o)))) .o) .o)))) .o)) ⟨c127_ok, trivial⟩ Tryz.call88 Tryz.func88 rfl rfl (by kernel_rfl) fun h => by kernel_rfl
noncomputable def relief_open_v1 (a0 : relief) (a1 : Int) : Option (Int × (List Breaker) × (List Source) × (List Consumer) × Int × Int × (List Bool) × (List Running) × (List Int) × (List Part) × (List Act)) :=
 Option.bind (idx a0.power.Closed a1) fun x1 =>
 Option.bind (idx a0.power.Closed a1) fun x2 =>
 Option.bind (setO a0.power.Closed a1 false) fun x3 =>
 Option.bind (app a0.acts [Act.mk 2 a1 0]) fun x4 =>
 some
 (a0.board.Buses, a0.board.Breakers, a0.board.Sources, a0.board.Consumers, a0.board.Phase,
 a0.board.Frequency, x3, a0.power.Sources, a0.power.Limits, a0.power.Broken, x4)
noncomputable def c124_2 : Con D := ⟨124, z45, z4, [.one (.ptr 1000 0), .one (.h 11 [])], z11, [], z19, fun h => relief_open_v1 ⟨⟨h.1, h.2.1, h.2.2.1, h.2.2.2.1, h.2.2.2.2.1, h.2.2.2.2.2.1⟩, ⟨h.2.2.2.2.2.2.1, h.2.2.2.2.2.2.2.1, h.2.2.2.2.2.2.2.2.1, h.2.2.2.2.2.2.2.2.2.1⟩, h.2.2.2.2.2.2.2.2.2.2.1⟩ h.2.2.2.2.2.2.2.2.2.2.2⟩
theorem c124_2_ok : CK c124_2 := fo [] [] .o trivial Tryz.call124 Tryz.func124 rfl rfl (by kernel_rfl) fun h => by kernel_rfl
noncomputable def relief_sweep_v16_L1 (a0 : relief) (a1 : Int) : Int × List Int →
 Option
 (Int × List Int ⊕
 List
 Int) := fun x1 =>
 if decide (x1.1 < len a0.board.Breakers) = true then
 Option.bind (idx a0.board.Breakers x1.1) fun x2 =>
 Option.bind
 (Option.bind (idx a0.power.Closed x1.1) fun x3 =>
 if x3 = true then Option.bind (shed_relief__trip_1 x2 a1) fun x4 => some x4 else some false)
 fun x5 =>
 Option.bind (if x5 = true then Option.bind (app x1.2 [x1.1]) fun x6 => some x6 else some x1.2) fun x7 =>
 some (.inl (W (x1.1 + 1), x7))
 else some (.inr x1.2)
noncomputable def relief_sweep_v16_L2 (x8 : List
 Int) : Int ×
 Int ×
 List Breaker ×
 List Source × List Consumer × Int × Int × List Bool × List Running × List Int × List Part × List Act →
 Option
 (Int ×
 Int ×
 List Breaker ×
 List Source × List Consumer × Int × Int × List Bool × List Running × List Int × List Part × List Act ⊕
 Int ×
 List Breaker ×
 List Source ×
 List Consumer ×
 Int ×
 Int ×
 List Bool ×
 List Running ×
 List Int ×
 List Part ×
 List
 Act) := fun x9 =>
 if decide (x9.1 < len x8) = true then
 Option.bind (idx x8 x9.1) fun x10 =>
 Option.bind
 (relief_open_v1
 (relief.mk
 (Board.mk x9.2.1 x9.2.2.1 x9.2.2.2.1 x9.2.2.2.2.1 x9.2.2.2.2.2.1
 x9.2.2.2.2.2.2.1)
 (Power.mk x9.2.2.2.2.2.2.2.1 x9.2.2.2.2.2.2.2.2.1
 x9.2.2.2.2.2.2.2.2.2.1 x9.2.2.2.2.2.2.2.2.2.2.1)
 x9.2.2.2.2.2.2.2.2.2.2.2)
 x10)
 fun x11 =>
 some
 (.inl
 (W (x9.1 + 1), x11.1, x11.2.1, x11.2.2.1, x11.2.2.2.1,
 x11.2.2.2.2.1, x11.2.2.2.2.2.1, x11.2.2.2.2.2.2.1,
 x11.2.2.2.2.2.2.2.1, x11.2.2.2.2.2.2.2.2.1,
 x11.2.2.2.2.2.2.2.2.2.1, x11.2.2.2.2.2.2.2.2.2.2))
 else
 some
 (.inr
 (x9.2.1, x9.2.2.1, x9.2.2.2.1, x9.2.2.2.2.1, x9.2.2.2.2.2.1,
 x9.2.2.2.2.2.2.1, x9.2.2.2.2.2.2.2.1, x9.2.2.2.2.2.2.2.2.1,
 x9.2.2.2.2.2.2.2.2.2.1, x9.2.2.2.2.2.2.2.2.2.2.1,
 x9.2.2.2.2.2.2.2.2.2.2.2))
noncomputable def relief_sweep_v16 (a0 : relief) (a1 : Int) : Option (Int × (List Breaker) × (List Source) × (List Consumer) × Int × Int × (List Bool) × (List Running) × (List Int) × (List Part) × Int × (List Act)) :=
 Option.bind (loopO (relief_sweep_v16_L1 a0 a1) (0, [])) fun x8 =>
 Option.bind
 (loopO (relief_sweep_v16_L2 x8)
 (0, a0.board.Buses, a0.board.Breakers, a0.board.Sources, a0.board.Consumers, a0.board.Phase,
 a0.board.Frequency, a0.power.Closed, a0.power.Sources, a0.power.Limits, a0.power.Broken, a0.acts))
 fun x12 =>
 some
 (x12.1, x12.2.1, x12.2.2.1, x12.2.2.2.1, x12.2.2.2.2.1,
 x12.2.2.2.2.2.1, x12.2.2.2.2.2.2.1, x12.2.2.2.2.2.2.2.1,
 x12.2.2.2.2.2.2.2.2.1, x12.2.2.2.2.2.2.2.2.2.1, a1,
 x12.2.2.2.2.2.2.2.2.2.2)
noncomputable def c81_9 : Con D := ⟨81, z45, z46, [.one (.ptr 1000 0), .one (.fn 128 [.ptr 1006 0])], [(1000, .box [.h 0 [], .h 1 [0], .h 2 [0], .h 3 [0], .h 4 [], .h 5 [], .own 1001, .own 1002, .own 1003, .own 1004, .own 1005]), (1001, .sl 1 4 6 []), (1002, .sl 8 48 7 []), (1003, .sl 0 3 8 []), (1004, .sl 9 84 9 []), (1005, .sl 10 74 10 []), (1006, .box [.h 11 []])], [], [(1000, .box [.h 0 [], .h 1 [0], .h 2 [0], .h 3 [0], .h 4 [], .h 5 [], .own 1001, .own 1002, .own 1003, .own 1004, .own 1007]), (1001, .sl 1 4 6 []), (1002, .sl 8 48 7 []), (1003, .sl 0 3 8 []), (1004, .sl 9 84 9 []), (1006, .box [.h 10 []]), (1007, .sl 10 74 11 [])], fun h => relief_sweep_v16 ⟨⟨h.1, h.2.1, h.2.2.1, h.2.2.2.1, h.2.2.2.2.1, h.2.2.2.2.2.1⟩, ⟨h.2.2.2.2.2.2.1, h.2.2.2.2.2.2.2.1, h.2.2.2.2.2.2.2.2.1, h.2.2.2.2.2.2.2.2.2.1⟩, h.2.2.2.2.2.2.2.2.2.2.1⟩ h.2.2.2.2.2.2.2.2.2.2.2⟩
theorem c81_9_ok : CK c81_9 := fo [c124_2, c128] [] z6 ⟨c124_2_ok, c128_ok, trivial⟩ Tryz.call81 Tryz.func81 rfl rfl (by kernel_rfl) fun h => by kernel_rfl
noncomputable def relief_trip_v2_L1 (a1 : List
 Int) (a2 : Int) : Int ×
 Int ×
 List Breaker ×
 List Source × List Consumer × Int × Int × List Bool × List Running × List Int × List Part × List Act →
 Option
 (Int ×
 Int ×
 List Breaker ×
 List Source × List Consumer × Int × Int × List Bool × List Running × List Int × List Part × List Act ⊕
 Int ×
 List Breaker ×
 List Source ×
 List Consumer ×
 Int ×
 Int ×
 List Bool ×
 List Running ×
 List Int ×
 List Part ×
 List
 Act) := fun x1 =>
 if decide (x1.1 < len a1) = true then
 Option.bind (idx a1 x1.1) fun x2 =>
 Option.bind
 (Option.bind (idx x1.2.2.2.2.2.2.2.2.2.1 x2) fun x3 =>
 if decide (x3 > 0) = true then
 Option.bind
 (relief_excess
 (relief.mk
 (Board.mk x1.2.1 x1.2.2.1 x1.2.2.2.1 x1.2.2.2.2.1
 x1.2.2.2.2.2.1 x1.2.2.2.2.2.2.1)
 (Power.mk x1.2.2.2.2.2.2.2.1 x1.2.2.2.2.2.2.2.2.1
 x1.2.2.2.2.2.2.2.2.2.1 x1.2.2.2.2.2.2.2.2.2.2.1)
 x1.2.2.2.2.2.2.2.2.2.2.2)
 a2)
 fun x4 => some (decide (x4 > 0))
 else some false)
 fun x5 =>
 Option.bind
 (if x5 = true then
 Option.bind
 (relief_sweep_v16
 (relief.mk
 (Board.mk x1.2.1 x1.2.2.1 x1.2.2.2.1 x1.2.2.2.2.1
 x1.2.2.2.2.2.1 x1.2.2.2.2.2.2.1)
 (Power.mk x1.2.2.2.2.2.2.2.1 x1.2.2.2.2.2.2.2.2.1
 x1.2.2.2.2.2.2.2.2.2.1 x1.2.2.2.2.2.2.2.2.2.2.1)
 x1.2.2.2.2.2.2.2.2.2.2.2)
 x2)
 fun x6 =>
 some
 (x6.1, x6.2.1, x6.2.2.1, x6.2.2.2.1, x6.2.2.2.2.1,
 x6.2.2.2.2.2.1, x6.2.2.2.2.2.2.1, x6.2.2.2.2.2.2.2.1,
 x6.2.2.2.2.2.2.2.2.1, x6.2.2.2.2.2.2.2.2.2.1,
 x6.2.2.2.2.2.2.2.2.2.2.1, x6.2.2.2.2.2.2.2.2.2.2.2)
 else
 some
 (x1.2.1, x1.2.2.1, x1.2.2.2.1, x1.2.2.2.2.1, x1.2.2.2.2.2.1,
 x1.2.2.2.2.2.2.1, x1.2.2.2.2.2.2.2.1,
 x1.2.2.2.2.2.2.2.2.1, x1.2.2.2.2.2.2.2.2.2.1,
 x1.2.2.2.2.2.2.2.2.2.2.1, x2, x1.2.2.2.2.2.2.2.2.2.2.2))
 fun x7 =>
 some
 (.inl
 (W (x1.1 + 1), x7.1, x7.2.1, x7.2.2.1, x7.2.2.2.1, x7.2.2.2.2.1,
 x7.2.2.2.2.2.1, x7.2.2.2.2.2.2.1, x7.2.2.2.2.2.2.2.1,
 x7.2.2.2.2.2.2.2.2.1, x7.2.2.2.2.2.2.2.2.2.1,
 x7.2.2.2.2.2.2.2.2.2.2.2))
 else
 some
 (.inr
 (x1.2.1, x1.2.2.1, x1.2.2.2.1, x1.2.2.2.2.1, x1.2.2.2.2.2.1,
 x1.2.2.2.2.2.2.1, x1.2.2.2.2.2.2.2.1, x1.2.2.2.2.2.2.2.2.1,
 x1.2.2.2.2.2.2.2.2.2.1, x1.2.2.2.2.2.2.2.2.2.2.1,
 x1.2.2.2.2.2.2.2.2.2.2.2))
noncomputable def relief_trip_v2 (a0 : relief) (a1 : (List Int)) (a2 : Int) : Option (Int × (List Breaker) × (List Source) × (List Consumer) × Int × Int × (List Bool) × (List Running) × (List Int) × (List Part) × (List Int) × (List Act)) :=
 Option.bind
 (loopO (relief_trip_v2_L1 a1 a2)
 (0, a0.board.Buses, a0.board.Breakers, a0.board.Sources, a0.board.Consumers, a0.board.Phase,
 a0.board.Frequency, a0.power.Closed, a0.power.Sources, a0.power.Limits, a0.power.Broken, a0.acts))
 fun x8 =>
 some
 (x8.1, x8.2.1, x8.2.2.1, x8.2.2.2.1, x8.2.2.2.2.1, x8.2.2.2.2.2.1,
 x8.2.2.2.2.2.2.1, x8.2.2.2.2.2.2.2.1, x8.2.2.2.2.2.2.2.2.1,
 x8.2.2.2.2.2.2.2.2.2.1, a1, x8.2.2.2.2.2.2.2.2.2.2)
noncomputable def c89_2 : Con D := ⟨89, z40, z27, [.one (.ptr 1000 0), .one (.own 1006), .one (.h 12 [])], z31, [], z30, fun h => relief_trip_v2 ⟨⟨h.1, h.2.1, h.2.2.1, h.2.2.2.1, h.2.2.2.2.1, h.2.2.2.2.2.1⟩, ⟨h.2.2.2.2.2.2.1, h.2.2.2.2.2.2.2.1, h.2.2.2.2.2.2.2.2.1, h.2.2.2.2.2.2.2.2.2.1⟩, h.2.2.2.2.2.2.2.2.2.2.1⟩ h.2.2.2.2.2.2.2.2.2.2.2.1 h.2.2.2.2.2.2.2.2.2.2.2.2⟩
theorem c89_2_ok : CK c89_2 := fo [c81_9, c127] [] (.n none .o (.n none (.loop ⟨z25, [(10, .one (.h 0 []))], [(1000, .box [.h 1 [], .h 2 [0], .h 3 [0], .h 4 [0], .h 5 [], .h 6 [], .own 1001, .own 1002, .own 1003, .own 1004, .own 2192]), (1001, .sl 1 4 7 []), (1002, .sl 8 48 8 []), (1003, .sl 0 3 9 []), (1004, .sl 9 84 10 []), (2192, .sl 10 74 11 [])], [1000, 1001, 1002, 1003, 1004, 1005], 2256⟩ true [(.exit 0, ⟨z4, [], [(1000, .box [.h 0 [], .h 1 [0], .h 2 [0], .h 3 [0], .h 4 [], .h 5 [], .own 1001, .own 1002, .own 1003, .own 1004, .own 2192]), (1001, .sl 1 4 6 []), (1002, .sl 8 48 7 []), (1003, .sl 0 3 8 []), (1004, .sl 9 84 9 []), (2192, .sl 10 74 10 [])], [1000, 1001, 1002, 1003, 1004, 1005], 2256⟩)] (.n none .o (.n none .o (.n none (.n none (.n none .o (.n none (.r (some (true, [(.normal, ⟨[.lf .bool], [(24, .one (.any)), (25, .one (.any)), (26, .one (.any)), (27, .one (.any)), (28, .one (.h 0 []))], [], [], 2652⟩)])) .nil) (.n (some (true, [(.normal, ⟨z46, [], [(1000, .box [.h 0 [], .h 1 [0], .h 2 [0], .h 3 [0], .h 4 [], .h 5 [], .own 1001, .own 1002, .own 1003, .own 1004, .own 2653]), (1001, .sl 1 4 6 []), (1002, .sl 8 48 7 []), (1003, .sl 0 3 8 []), (1004, .sl 9 84 9 []), (2460, .box [.h 10 []]), (2653, .sl 10 74 11 [])], [1000, 1001, 1002, 1003, 1004, 2192, 2460], 2717⟩)])) .o .o))) .o) .o)))) .o)) ⟨c81_9_ok, c127_ok, trivial⟩ Tryz.call89 Tryz.func89 rfl rfl (by kernel_rfl) fun h => by kernel_rfl
noncomputable def dynposref01_Ints_L1 (a0 : List
 Int) (a1 : List
 Int) : Int →
 Option
 (Int ⊕
 Unit ⊕
 Bool) := fun x1 =>
 if decide (x1 < len a0) = true then
 Option.bind (idx a0 x1) fun x2 =>
 Option.bind (idx a1 x1) fun x3 =>
 if (x2 != x3) = true then some (.inr (.inr false)) else some (.inl (W (x1 + 1)))
 else some (.inr (.inl ()))
noncomputable def dynposref01_Ints (a0 : (List Int)) (a1 : (List Int)) : Option (Bool) :=
 if (len a0 != len a1) = true then some false
 else
 Option.bind (loopO (dynposref01_Ints_L1 a0 a1) 0) fun x4 =>
 Sum.elim (fun x5 => some true) (fun x6 => some x6) x4
noncomputable def c13 : Con D := ⟨13, [.lf (.sl 0), .lf (.sl 0)], [.lf .bool], z57, [], z10, [], fun h => dynposref01_Ints h.1 h.2⟩
theorem c13_ok : CK c13 := fo [] [.tmp 4] z14 trivial Tryz.call13 Tryz.func13 rfl rfl (by kernel_rfl) fun h => by kernel_rfl
noncomputable def dynposref18_Acts_L1 (a0 : List
 Act) (a1 : List
 Act) : Int →
 Option
 (Int ⊕
 Unit ⊕
 Bool) := fun x1 =>
 if decide (x1 < len a0) = true then
 Option.bind (idx a0 x1) fun x2 =>
 Option.bind (idx a1 x1) fun x3 =>
 if (!(x2.Kind == x3.Kind && (x2.Unit == x3.Unit && x2.Value == x3.Value))) = true then
 some (.inr (.inr false))
 else some (.inl (W (x1 + 1)))
 else some (.inr (.inl ()))
noncomputable def dynposref18_Acts (a0 : (List Act)) (a1 : (List Act)) : Option (Bool) :=
 if (len a0 != len a1) = true then some false
 else
 Option.bind (loopO (dynposref18_Acts_L1 a0 a1) 0) fun x4 =>
 Sum.elim (fun x5 => some true) (fun x6 => some x6) x4
noncomputable def c33 : Con D := ⟨33, [.lf (.sl 10), .lf (.sl 10)], [.lf .bool], z57, [], z10, [], fun h => dynposref18_Acts h.1 h.2⟩
theorem c33_ok : CK c33 := fo [] [.tmp 4] z14 trivial Tryz.call33 Tryz.func33 rfl rfl (by kernel_rfl) fun h => by kernel_rfl
noncomputable def slices_Index_Part_Part_L1 (a0 : List
 Part) (a1 : Part) : Int →
 Option
 (Int ⊕
 Unit ⊕
 Int) := fun x1 =>
 if decide (x1 < len a0) = true then
 Option.bind (idx a0 x1) fun x2 =>
 if (a1.Kind == x2.Kind && a1.Number == x2.Number) = true then some (.inr (.inr x1))
 else some (.inl (W (x1 + 1)))
 else some (.inr (.inl ()))
noncomputable def slices_Index_Part_Part (a0 : (List Part)) (a1 : Part) : Option (Int) :=
 Option.bind (loopO (slices_Index_Part_Part_L1 a0 a1) 0) fun x3 =>
 Sum.elim (fun x4 => some (-1)) (fun x5 => some x5) x3
noncomputable def c134 : Con D := ⟨134, [.lf (.sl 9), .lf (.int .i64), .lf (.int .i64)], z9, [.one (.h 0 [0]), .agg [.h 1 [], .h 2 []]], [], z10, [], fun h => slices_Index_Part_Part h.1 ⟨h.2.1, h.2.2⟩⟩
theorem c134_ok : CK c134 := fo [] [.tmp 4] z51 trivial Tryz.call134 Tryz.func134 rfl rfl (by kernel_rfl) fun h => by kernel_rfl
noncomputable def slices_Contains_Part_Part (a0 : (List Part)) (a1 : Part) : Option (Bool) := Option.bind (slices_Index_Part_Part a0 a1) fun x1 => some (decide (x1 ≥ 0))
noncomputable def c102 : Con D := ⟨102, [.lf (.sl 9), .lf (.int .i64), .lf (.int .i64)], [.lf .bool], [.one (.h 0 [0]), .agg [.h 1 [], .h 2 []]], [], z10, [], fun h => slices_Contains_Part_Part h.1 ⟨h.2.1, h.2.2⟩⟩
theorem c102_ok : CK c102 := fo [c134] [.tmp 4] .o ⟨c134_ok, trivial⟩ Tryz.call102 Tryz.func102 rfl rfl (by kernel_rfl) fun h => by kernel_rfl
noncomputable def board_Broken (a0 : Power) (a1 : Int) (a2 : Int) : Option (Bool) := Option.bind (slices_Contains_Part_Part a0.Broken (Part.mk a1 a2)) fun x1 => some x1
noncomputable def c65 : Con D := ⟨65, [.lf (.sl 1), .lf (.sl 8), .lf (.sl 0), .lf (.sl 9), .lf (.int .i64), .lf (.int .i64)], [.lf .bool], [.agg [.h 0 [0], .h 1 [0], .h 2 [0], .h 3 [0]], .one (.h 4 []), .one (.h 5 [])], [], z10, [], fun h => board_Broken ⟨h.1, h.2.1, h.2.2.1, h.2.2.2.1⟩ h.2.2.2.2.1 h.2.2.2.2.2⟩
theorem c65_ok : CK c65 := fo [c102] [.tmp 6] .o ⟨c102_ok, trivial⟩ Tryz.call65 Tryz.func65 rfl rfl (by kernel_rfl) fun h => by kernel_rfl
noncomputable def shed_relief__dangerous_1 (a0 : Int) (a1 : Int) (a2 : relief) : Option (Bool × relief) := Option.bind (board_Broken a2.power a0 a1) fun x1 => some (x1, a2)
noncomputable def c125 : Con D := ⟨125, [.lf (.int .i64), .lf (.int .i64), .el 11], [.lf .bool, .el 11], [.one (.h 0 []), .one (.h 1 []), .one (.ptr 1000 0)], [(1000, .box [.rp 2 11 [0]])], z10, [(1000, .box [.rp 1 11 [0]])], fun h => shed_relief__dangerous_1 h.1 h.2.1 h.2.2⟩
theorem c125_ok : CK c125 := fo [c65] [.tmp 5] .o ⟨c65_ok, trivial⟩ Tryz.call125 Tryz.func125 rfl rfl (by kernel_rfl) fun h => by kernel_rfl
noncomputable def relief_dangerous (a0 : relief) (a1 : Breaker) : Option (Bool) :=
 Option.bind (shed_relief__dangerous_1 3 a1.A a0) fun x1 =>
 if x1.1 = true then some true
 else
 if (a1.Kind == 1) = true then
 Option.bind (shed_relief__dangerous_1 3 a1.B x1.2) fun x6 => some x6.1
 else
 if (a1.Kind == 2) = true then
 Option.bind
 (Option.bind (shed_relief__dangerous_1 1 a1.B x1.2) fun x3 =>
 if x3.1 = true then some (true, x3.2)
 else Option.bind (idx x3.2.power.Sources a1.B) fun x4 => some (x4.State != 2, x3.2))
 fun x5 => some x5.1
 else Option.bind (shed_relief__dangerous_1 4 a1.B x1.2) fun x2 => some x2.1
noncomputable def c82 : Con D := ⟨82, [.el 11, .lf (.int .i64), .lf (.int .i64), .lf (.int .i64)], [.lf .bool], [.one (.rp 0 11 [0]), .agg [.h 11 [], .h 12 [], .h 13 []]], [], z10, [], fun h => relief_dangerous h.1 ⟨h.2.1, h.2.2.1, h.2.2.2⟩⟩
theorem c82_ok : CK c82 := fo [c125] [.tmp 4] (.n none .o (.n none .o (.n none (.n none (.n none .o (.n none .o (.n none .o (.n none .o (.n none .o (.n none (.n none (.r (some (true, [(.normal, ⟨[.lf .bool, .el 11], z66, [(2000, .box [.rp 1 11 [0]])], [2000], 3216⟩)])) .nil) .o) .o)))))) .o) .o))) ⟨c125_ok, trivial⟩ Tryz.call82 Tryz.func82 rfl rfl (by kernel_rfl) fun h => by kernel_rfl
noncomputable def board_Live (a0 : Board) (a1 : Power) (a2 : Int) : Option (Bool) := Option.bind (board_Of a0 a1 a2) fun x1 => some (decide (len x1.2.1 > 0))
noncomputable def c64 : Con D := ⟨64, z0, [.lf .bool], z2, [], z10, [], fun h => board_Live ⟨h.1, h.2.1, h.2.2.1, h.2.2.2.1, h.2.2.2.2.1, h.2.2.2.2.2.1⟩ ⟨h.2.2.2.2.2.2.1, h.2.2.2.2.2.2.2.1, h.2.2.2.2.2.2.2.2.1, h.2.2.2.2.2.2.2.2.2.1⟩ h.2.2.2.2.2.2.2.2.2.2⟩
theorem c64_ok : CK c64 := fo [c101] [.tmp 6] .o ⟨c101_ok, trivial⟩ Tryz.call64 Tryz.func64 rfl rfl (by kernel_rfl) fun h => by kernel_rfl
noncomputable def sync_set_L1 (a1 : List
 Int) (a2 : Running) : Int × List Running →
 Option
 (Int × List Running ⊕
 List
 Running) := fun x1 =>
 if decide (x1.1 < len a1) = true then
 Option.bind (idx a1 x1.1) fun x2 =>
 Option.bind (idx x1.2 x2) fun x3 =>
 Option.bind (idx x1.2 x2) fun x4 =>
 Option.bind (setO x1.2 x2 (Running.mk x4.State x4.Since a2.Frequency x4.Phase)) fun x5 =>
 Option.bind (idx x5 x2) fun x6 =>
 Option.bind (idx x5 x2) fun x7 =>
 Option.bind (setO x5 x2 (Running.mk x7.State x7.Since x7.Frequency a2.Phase)) fun x8 =>
 some (.inl (W (x1.1 + 1), x8))
 else some (.inr x1.2)
noncomputable def sync_set (a0 : Power) (a1 : (List Int)) (a2 : Running) : Option ((List Running)) := Option.bind (loopO (sync_set_L1 a1 a2) (0, a0.Sources)) fun x9 => some x9
noncomputable def c126 : Con D := ⟨126, [.lf (.sl 1), .lf (.sl 8), .lf (.sl 0), .lf (.sl 9), .lf (.sl 0), .lf (.int .i64), .lf (.int .i64), .lf (.int .i64), .lf (.int .i64)], [.lf (.sl 8)], [.agg [.h 0 [0], .own 1000, .h 2 [0], .h 3 [0]], .one (.h 4 [0]), .agg [.h 5 [], .h 6 [], .h 7 [], .h 8 []]], [(1000, .sl 8 48 1 [])], [], [(1000, .sl 8 48 0 [])], fun h => sync_set ⟨h.1, h.2.1, h.2.2.1, h.2.2.2.1⟩ h.2.2.2.2.1 ⟨h.2.2.2.2.2.1, h.2.2.2.2.2.2.1, h.2.2.2.2.2.2.2.1, h.2.2.2.2.2.2.2.2⟩⟩
theorem c126_ok : CK c126 := fo [] [] (.n none .o (.n none .o (.n none (.loop ⟨[.lf (.int .i64), .lf (.sl 8)], [(10, .one (.h 0 []))], [(1000, .sl 8 48 1 [])], [1000], 2384⟩ true [(.exit 0, ⟨[.lf (.sl 8)], [], [(1000, .sl 8 48 0 [])], [1000], 2384⟩)] .o) .o))) trivial Tryz.call126 Tryz.func126 rfl rfl (by kernel_rfl) fun h => by kernel_rfl
noncomputable def sync_Follow_L1 (a1 : Power) (x2 : List Bool ×
 List Running ×
 List Int ×
 List
 Part) (x3 : List
 Island) : Int × List Running →
 Option
 (Int × List Running ⊕
 List
 Running) := fun x4 =>
 if decide (x4.1 < len x3) = true then
 Option.bind (idx x3 x4.1) fun x5 =>
 Option.bind
 (if decide (len x5.Sources > 0) = true then
 Option.bind (idx x5.Sources 0) fun x6 =>
 Option.bind (idx a1.Sources x6) fun x7 =>
 Option.bind (sync_set (Power.mk x2.1 x4.2 x2.2.2.1 x2.2.2.2) x5.Sources x7) fun x8 =>
 some x8
 else some x4.2)
 fun x9 => some (.inl (W (x4.1 + 1), x9))
 else some (.inr x4.2)
noncomputable def sync_Follow (a0 : Board) (a1 : Power) : Option (Int × (List Bool) × (List Running) × (List Int) × (List Part)) :=
 Option.bind (board_State a0 a1) fun x1 =>
 if (x1 != 0) = true then some (x1, [], [], [], [])
 else
 Option.bind (states_Clone a1) fun x2 =>
 Option.bind (board_Islands a0 a1) fun x3 =>
 Option.bind (loopO (sync_Follow_L1 a1 x2 x3) (0, x2.2.1)) fun x10 =>
 some (0, x2.1, x10, x2.2.2.1, x2.2.2.2)
noncomputable def c84 : Con D := ⟨84, z1, [.lf (.int .i64), .lf (.sl 1), .lf (.sl 8), .lf (.sl 0), .lf (.sl 9)], z5, [], [.agg [.own 1000, .own 1001, .own 1002, .own 1003], .one (.h 0 [])], [(1000, .sl 1 4 1 []), (1001, .sl 8 48 2 []), (1002, .sl 0 3 3 []), (1003, .sl 9 84 4 [])], fun h => sync_Follow ⟨h.1, h.2.1, h.2.2.1, h.2.2.2.1, h.2.2.2.2.1, h.2.2.2.2.2.1⟩ ⟨h.2.2.2.2.2.2.1, h.2.2.2.2.2.2.2.1, h.2.2.2.2.2.2.2.2.1, h.2.2.2.2.2.2.2.2.2⟩⟩
theorem c84_ok : CK c84 := fo [c70, c73, c80, c126] [.cell 4 34, .tmp 5] (.n none .o (.n none .o (.n none .o (.n none (.n none .o (.n none (.loop ⟨[.lf (.int .i64), .lf (.sl 8)], [(23, .one (.h 0 []))], [(2713, .sl 8 48 1 [])], [2713], 3280⟩ true [(.exit 0, ⟨[.lf (.sl 8)], [], [(2713, .sl 8 48 0 [])], [2713], 3280⟩)] (.n none .o (.n none .o (.n none (.n none (.n none .o (.n none .o (.n (some (true, [(.normal, ⟨[.lf (.sl 8)], [], [(2713, .sl 8 48 0 [])], [2713], 3922⟩)])) .o .o))) .o) .o)))) .o)) .o)))) ⟨c70_ok, c73_ok, c80_ok, c126_ok, trivial⟩ Tryz.call84 Tryz.func84 rfl rfl (by kernel_rfl) fun h => by kernel_rfl
end Rx
end Go.Proofs.YtfnphdhcgkondaaGreat
