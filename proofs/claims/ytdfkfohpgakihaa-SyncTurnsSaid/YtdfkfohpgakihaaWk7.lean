/- Walks. Written by a program (wip/gen). -/
import Derived.Test.YtdfkfohpgakihaaHw
import Derived.Test.YtdfkfohpgakihaaWk6
set_option linter.unusedVariables false
set_option linter.unusedSimpArgs false
namespace Go.Proofs.Ytdfkfohpgakihaa
open Go Go.RowKit Dp

set_option maxRecDepth 100000

set_option maxHeartbeats 1000000 in
theorem slices_Clone_int_int_ok {a0 : (List Int)} {r : (List Int)} (hF : slices_Clone_int_int a0 = some r) {w0 : World} {p0 : Value} {S0 : Nat → Prop} (g0 : Rv S0 w0 p0 a0) :
    Calls Try.prog 67 #[p0] w0 (Ret fun v w' => ∃ (oc : Cls), En w0 (entM w0 [] [S0]) oc w' ∧ Ow 3 oc 100 [] w' v r) := by
 obtain ⟨e0, he0⟩ : ∃ e0, e0 = entM w0 [] [S0] := ⟨_, rfl⟩
 have hE := En.refl w0 e0
 have g0 := g0.argM he0 0 (K := [40]) rfl (nosep rfl) rfl
 rw [slices_Clone_int_int] at hF
 refine enter (l := [p0]) Try.func67 rfl Try.ntmps67 rfl ?_
 refine CW.sub (L' := [(0, p0)]) ⟨rfl, trivial⟩ ?_
 refine CW.sr fun K1 hK1 => ?_
 refine WL.p (.slice none 0 0) rfl rfl ?_
 refine WL.nx hK1 ?_
 refine CW.seq fun K2 hK2 => ?_
 refine CW.sr fun K3 hK3 => ?_
 refine WL.p p0 rfl rfl ?_
 obtain ⟨a, n, c, rfl, hn⟩ := rvSlice g0
 refine WL.stepE (OW.isNil Try.underlying22 rfl) rfl ?_
 refine WL.nx hK3 ?_
 cases a with
 | none =>
  refine CW.cond (b := true) rfl (fun _ => ?_) (fun h => nomatch h)
  refine CW.sr fun K4 hK4 => ?_
  refine WL.p (.slice none 0 0) rfl rfl ?_
  refine WL.nx hK4 ?_
  rw [hn rfl] at hF
  obtain rfl := app_nil hF
  exact CW.rets (vs := [.slice none 0 0]) Try.results67 ⟨rfl, trivial⟩ ⟨_, rfl, _, (hE.rn he0 101 [] rfl rfl), Ow.nil _ _ _ _ _⟩ (fun _ _ h => h)
 | some a =>
  refine CW.cond (b := false) rfl (fun h => nomatch h) (fun _ => ?_)
  refine CW.skip ?_
  refine hK2 _ _ ?_
  refine CW.sr fun K5 hK5 => ?_
  refine WL.step (OW.buildSlice (o := e0) (k := 100) (K := []) (xs := ([] : List Int)) Try.underlying22 ty3 rfl trivial rfl rfl) rfl ?_
  rintro v1 w1 ⟨o1, ev1, h1⟩
  have hE := hE.evo ev1 rfl rfl
  have g0 := g0.evo ev1 rfl
  refine WL.p (.slice (some a) n c) rfl rfl ?_
  refine WL.step (OW.append (K := []) Try.underlying22 ty3 rfl rfl h1 g0.els.flat hF rfl) rfl ?_
  rintro v2 w2 ⟨o2, ev2, h2⟩
  have hE := hE.evo ev2 rfl rfl
  refine WL.p v2 rfl rfl ?_
  refine WL.nx hK5 ?_
  exact CW.rets (vs := [v2]) Try.results67 ⟨rfl, trivial⟩ ⟨_, rfl, _, (hE.rn he0 101 [(100, 100)] rfl rfl), (h2.rn (c' := 100) (K' := []) rfl rfl)⟩ (fun _ _ h => h)

set_option maxHeartbeats 1000000 in
theorem slices_Clone_Part_Part_ok {a0 : (List Part)} {r : (List Part)} (hF : slices_Clone_Part_Part a0 = some r) {w0 : World} {p0 : Value} {S0 : Nat → Prop} (g0 : Rv S0 w0 p0 a0) :
    Calls Try.prog 68 #[p0] w0 (Ret fun v w' => ∃ (oc : Cls), En w0 (entM w0 [] [S0]) oc w' ∧ Ow 65 oc 100 [] w' v r) := by
 obtain ⟨e0, he0⟩ : ∃ e0, e0 = entM w0 [] [S0] := ⟨_, rfl⟩
 have hE := En.refl w0 e0
 have g0 := g0.argM he0 0 (K := [40]) rfl (nosep rfl) rfl
 rw [slices_Clone_Part_Part] at hF
 refine enter (l := [p0]) Try.func68 rfl Try.ntmps68 rfl ?_
 refine CW.sub (L' := [(0, p0)]) ⟨rfl, trivial⟩ ?_
 refine CW.sr fun K1 hK1 => ?_
 refine WL.p (.slice none 0 0) rfl rfl ?_
 refine WL.nx hK1 ?_
 refine CW.seq fun K2 hK2 => ?_
 refine CW.sr fun K3 hK3 => ?_
 refine WL.p p0 rfl rfl ?_
 obtain ⟨a, n, c, rfl, hn⟩ := rvSlice g0
 refine WL.stepE (OW.isNil Try.underlying32 rfl) rfl ?_
 refine WL.nx hK3 ?_
 cases a with
 | none =>
  refine CW.cond (b := true) rfl (fun _ => ?_) (fun h => nomatch h)
  refine CW.sr fun K4 hK4 => ?_
  refine WL.p (.slice none 0 0) rfl rfl ?_
  refine WL.nx hK4 ?_
  rw [hn rfl] at hF
  obtain rfl := app_nil hF
  exact CW.rets (vs := [.slice none 0 0]) Try.results68 ⟨rfl, trivial⟩ ⟨_, rfl, _, (hE.rn he0 101 [] rfl rfl), Ow.nil _ _ _ _ _⟩ (fun _ _ h => h)
 | some a =>
  refine CW.cond (b := false) rfl (fun h => nomatch h) (fun _ => ?_)
  refine CW.skip ?_
  refine hK2 _ _ ?_
  refine CW.sr fun K5 hK5 => ?_
  refine WL.step (OW.buildSlice (o := e0) (k := 100) (K := []) (xs := ([] : List Part)) Try.underlying32 ty65 rfl trivial rfl rfl) rfl ?_
  rintro v1 w1 ⟨o1, ev1, h1⟩
  have hE := hE.evo ev1 rfl rfl
  have g0 := g0.evo ev1 rfl
  refine WL.p (.slice (some a) n c) rfl rfl ?_
  refine WL.step (OW.append (K := []) Try.underlying32 ty65 rfl rfl h1 g0.els.flat hF rfl) rfl ?_
  rintro v2 w2 ⟨o2, ev2, h2⟩
  have hE := hE.evo ev2 rfl rfl
  refine WL.p v2 rfl rfl ?_
  refine WL.nx hK5 ?_
  exact CW.rets (vs := [v2]) Try.results68 ⟨rfl, trivial⟩ ⟨_, rfl, _, (hE.rn he0 101 [(100, 100)] rfl rfl), (h2.rn (c' := 100) (K' := []) rfl rfl)⟩ (fun _ _ h => h)

set_option maxHeartbeats 1000000 in
theorem states_Clone_ok {a0 : Power} {r : Power} (hF : states_Clone a0 = some r) {w0 : World} {p0 : Value} {S0 : Nat → Prop} (g0 : Rv S0 w0 p0 a0) :
    Calls Try.prog 35 #[p0] w0 (Ret fun v w' => ∃ (oc : Cls) (x0_0 : Value) (x0_1 : Value) (x0_2 : Value) (x0_3 : Value), En w0 (entM w0 [] [S0]) oc w' ∧ v = .agg #[x0_0, x0_1, x0_2, x0_3] ∧ Ow 4 oc 100 [] w' x0_0 r.Closed ∧ Ow 48 oc 101 [] w' x0_1 r.Sources ∧ Ow 3 oc 102 [] w' x0_2 r.Limits ∧ Ow 65 oc 103 [] w' x0_3 r.Broken) := by
 obtain ⟨e0, he0⟩ : ∃ e0, e0 = entM w0 [] [S0] := ⟨_, rfl⟩
 have hE := En.refl w0 e0
 have g0 := g0.argM he0 0 (K := [40]) rfl (nosep rfl) rfl
 obtain ⟨u1, u2, u3, u4, rfl, h5, h6, h7, h8⟩ := op34 g0
 rw [states_Clone] at hF
 refine enter (l := [.agg #[u1, u2, u3, u4]]) Try.func35 rfl Try.ntmps35 rfl ?_
 refine CW.sub (L' := [(0, .agg #[u1, u2, u3, u4])]) ⟨rfl, trivial⟩ ?_
 refine CW.sr fun K9 hK9 => ?_
 refine WL.step (OW.boxK (o := e0) 100 [u1, u2, u3, u4] rfl rfl) rfl ?_
 rintro _ w12 ⟨pa10, o11, rfl, ev13, hb14⟩
 have hE := hE.evo ev13 rfl rfl
 refine WL.step (OW.allocK (o := o11) Power 101 [.slice none 0 0, .slice none 0 0, .slice none 0 0, .slice none 0 0] ty34 rfl) rfl ?_
 rintro _ w17 ⟨pa15, o16, rfl, ev18, hb19⟩
 have hE := hE.evo ev18 rfl rfl
 have hb14 := hb14.evo ev18 rfl
 have h20 := Ow.nil (α := Bool) 4 o16 102 [] w17
 have h21 := Ow.nil (α := Running) 48 o16 103 [] w17
 have h22 := Ow.nil (α := Int) 3 o16 104 [] w17
 have h23 := Ow.nil (α := Part) 65 o16 105 [] w17
 refine WL.nx hK9 ?_
 refine CW.seq fun K24 hK24 => ?_
 obtain ⟨y25, q26, hF⟩ := bindE hF
 obtain ⟨y34, q35, hF⟩ := bindE hF
 obtain ⟨y43, q44, hF⟩ := bindE hF
 obtain ⟨y52, q53, hF⟩ := bindE hF
 have ev_ := Evo.drew o16 w17
 refine CW.anyS (N := [101, 106, 107, 108, 109, 110, 111, 112, 113]) hmix [sBk none none [] 100 (vk pa10) (vk ([u1, u2, u3, u4])), sBk none (some 13) [] 101 (vk pa15) (vk ([(.slice none 0 0), (.slice none 0 0), (.slice none 0 0), (.slice none 0 0)])), sOw (some 2) none [2] 4 107 [] (vn 0) y25, sOw (some 5) none [5] 48 109 [] (vn 0) y34, sOw (some 8) none [8] 3 111 [] (vn 0) y43, sOw (some 11) none [11] 65 113 [] (vn 0) y52, sBk (some 13) none [2, 5, 8, 11] 101 (vk pa15) (fun x_ => [(x_.getD 0 undef), (x_.getD 1 undef), (x_.getD 2 undef), (x_.getD 3 undef)])] [⟨[], [], [], [], vk (.pointer (some (pa10.add 0))), false⟩, ⟨[], [0], [0], [], vk u1, false⟩, ⟨[], [], [0, 1], [2], vn 0, false⟩, ⟨[], [], [], [], vk (.pointer (some (pa10.add 1))), false⟩, ⟨[], [0], [3], [], vk u2, false⟩, ⟨[], [], rg 0 5, [5], vn 0, false⟩, ⟨[], [], [], [], vk (.pointer (some (pa10.add 2))), false⟩, ⟨[], [0], [6], [], vk u3, false⟩, ⟨[], [], rg 0 8, [8], vn 0, false⟩, ⟨[], [], [], [], vk (.pointer (some (pa10.add 3))), false⟩, ⟨[], [0], [9], [], vk u4, false⟩, ⟨[], [], rg 0 11, [11], vn 0, false⟩, ⟨[], [2, 3, 4, 5], rg 0 12, [2, 5, 8, 11], fun x_ => .agg #[(x_.getD 0 undef), (x_.getD 1 undef), (x_.getD 2 undef), (x_.getD 3 undef)], false⟩, ⟨[101], [1, 2, 3, 4, 5], rg 0 13, [], vk undef, false⟩] [101] hE rfl (by kernel_rfl) (by kernel_rfl) ⟨hb14.evo ev_ rfl, hb19.evo ev_ rfl, trivial⟩ ⟨?_, ?_, ?_, ?_, ?_, ?_, ?_, ?_, ?_, ?_, ?_, ?_, ?_, ?_, trivial⟩ ?_
 ·intro vs64 o_ w_ hE 
  exact OW.q [(1, .pointer (some pa10))] ⟨rfl, trivial⟩ (OW.fldAddr (FldOk.at f34_0) rfl) (er rfl trivial)
 ·intro vs64 o_ w_ hE hb14
  have hb14 := tBk hb14
  exact OW.q [(3, .pointer (some (pa10.add 0)))] ⟨rfl, trivial⟩ (OW.loadK (off := 0) (List Bool) (u1) ty30 rfl hb14 rfl rfl) (er rfl trivial)
 ·intro vs64 o_ w_ hE 
  have hE := hE.1
  refine OW.r [(4, u1)] ⟨rfl, trivial⟩ (OW.call Try.call65 rfl (slices_Clone_bool_bool_ok q26 (h5.baseM hE rfl))) ?_
  rintro v33 w27 ⟨o31, hn_, h32⟩
  obtain ⟨o28, ev29, hA30⟩ := adopt (o := o_) (ks := []) (Ks := [[40]]) 106 ([(100, 107)]) [106, 107] hn_ MbOk.nil rfl rfl rfl rfl
  have h32 := h32.ad (c' := 107) (K' := []) hA30 rfl rfl
  exact ⟨o28, ev29.sub rfl rfl, rfl, h32, trivial⟩
 ·intro vs64 o_ w_ hE 
  exact OW.q [(1, .pointer (some pa10))] ⟨rfl, trivial⟩ (OW.fldAddr (FldOk.at f34_1) rfl) (er rfl trivial)
 ·intro vs64 o_ w_ hE hb14
  have hb14 := tBk hb14
  exact OW.q [(6, .pointer (some (pa10.add 1)))] ⟨rfl, trivial⟩ (OW.loadK (off := 1) (List Running) (u2) ty31 rfl hb14 rfl rfl) (er rfl trivial)
 ·intro vs64 o_ w_ hE 
  have hE := hE.1
  refine OW.r [(7, u2)] ⟨rfl, trivial⟩ (OW.call Try.call66 rfl (slices_Clone_Running_Running_ok q35 (h6.baseM hE rfl))) ?_
  rintro v42 w36 ⟨o40, hn_, h41⟩
  obtain ⟨o37, ev38, hA39⟩ := adopt (o := o_) (ks := []) (Ks := [[40]]) 108 ([(100, 109)]) [108, 109] hn_ MbOk.nil rfl rfl rfl rfl
  have h41 := h41.ad (c' := 109) (K' := []) hA39 rfl rfl
  exact ⟨o37, ev38.sub rfl rfl, rfl, h41, trivial⟩
 ·intro vs64 o_ w_ hE 
  exact OW.q [(1, .pointer (some pa10))] ⟨rfl, trivial⟩ (OW.fldAddr (FldOk.at f34_2) rfl) (er rfl trivial)
 ·intro vs64 o_ w_ hE hb14
  have hb14 := tBk hb14
  exact OW.q [(9, .pointer (some (pa10.add 2)))] ⟨rfl, trivial⟩ (OW.loadK (off := 2) (List Int) (u3) ty22 rfl hb14 rfl rfl) (er rfl trivial)
 ·intro vs64 o_ w_ hE 
  have hE := hE.1
  refine OW.r [(10, u3)] ⟨rfl, trivial⟩ (OW.call Try.call67 rfl (slices_Clone_int_int_ok q44 (h7.baseM hE rfl))) ?_
  rintro v51 w45 ⟨o49, hn_, h50⟩
  obtain ⟨o46, ev47, hA48⟩ := adopt (o := o_) (ks := []) (Ks := [[40]]) 110 ([(100, 111)]) [110, 111] hn_ MbOk.nil rfl rfl rfl rfl
  have h50 := h50.ad (c' := 111) (K' := []) hA48 rfl rfl
  exact ⟨o46, ev47.sub rfl rfl, rfl, h50, trivial⟩
 ·intro vs64 o_ w_ hE 
  exact OW.q [(1, .pointer (some pa10))] ⟨rfl, trivial⟩ (OW.fldAddr (FldOk.at f34_3) rfl) (er rfl trivial)
 ·intro vs64 o_ w_ hE hb14
  have hb14 := tBk hb14
  exact OW.q [(12, .pointer (some (pa10.add 3)))] ⟨rfl, trivial⟩ (OW.loadK (off := 3) (List Part) (u4) ty32 rfl hb14 rfl rfl) (er rfl trivial)
 ·intro vs64 o_ w_ hE 
  have hE := hE.1
  refine OW.r [(13, u4)] ⟨rfl, trivial⟩ (OW.call Try.call68 rfl (slices_Clone_Part_Part_ok q53 (h8.baseM hE rfl))) ?_
  rintro v60 w54 ⟨o58, hn_, h59⟩
  obtain ⟨o55, ev56, hA57⟩ := adopt (o := o_) (ks := []) (Ks := [[40]]) 112 ([(100, 113)]) [112, 113] hn_ MbOk.nil rfl rfl rfl rfl
  have h59 := h59.ad (c' := 113) (K' := []) hA57 rfl rfl
  exact ⟨o55, ev56.sub rfl rfl, rfl, h59, trivial⟩
 ·intro vs64 o_ w_ hE h32 h41 h50 h59
  have h32 := tOw h32
  have h41 := tOw h41
  have h50 := tOw h50
  have h59 := tOw h59
  exact OW.q [(5, (vs64 2)), (8, (vs64 5)), (11, (vs64 8)), (14, (vs64 11))] ⟨rfl, rfl, rfl, rfl, trivial⟩ (OW.buildK Power [(0, [(vs64 2)]), (1, [(vs64 5)]), (2, [(vs64 8)]), (3, [(vs64 11)])] [(vs64 2), (vs64 5), (vs64 8), (vs64 11)] st34 ty34 rfl ⟨rfl, (cells_one (h32.one)), rfl, (cells_one (h41.one)), rfl, (cells_one (h50.one)), rfl, (cells_one (h59.one)), trivial⟩ rfl) (er rfl trivial)
 ·intro vs64 o_ w_ hE hb19 h32 h41 h50 h59
  have hb19 := tBk hb19
  have h32 := tOw h32
  have h41 := tOw h41
  have h50 := tOw h50
  have h59 := tOw h59
  refine OW.r [(2, .pointer (some pa15)), (15, .agg #[(vs64 2), (vs64 5), (vs64 8), (vs64 11)])] ⟨rfl, rfl, trivial⟩ (OW.storeK0 Power [(vs64 2), (vs64 5), (vs64 8), (vs64 11)] [(vs64 2), (vs64 5), (vs64 8), (vs64 11)] ty34 rfl rfl hb19 rfl ⟨(h32.one), (h41.one), (h50.one), (h59.one), trivial⟩ rfl rfl rfl) ?_
  rintro _ w61 ⟨ev62, hb63⟩
  exact ⟨o_, ev62.sub rfl rfl, trivial, hb63, trivial⟩
 ·intro vs64 o66 w65 hE hb14 h32 h41 h50 h59 hb63
  obtain ⟨hE, evT_⟩ := hE
  have hb14 : Bk o66 100 w65 pa10 [u1, u2, u3, u4] := hb14
  have h32 : Ow 4 o66 107 [] w65 (vs64 2) y25 := h32
  have h41 : Ow 48 o66 109 [] w65 (vs64 5) y34 := h41
  have h50 : Ow 3 o66 111 [] w65 (vs64 8) y43 := h50
  have h59 : Ow 65 o66 113 [] w65 (vs64 11) y52 := h59
  have hb63 : Bk o66 101 w65 pa15 [(vs64 2), (vs64 5), (vs64 8), (vs64 11)] := hb63
  have h20 := h20.evo evT_ rfl
  have h21 := h21.evo evT_ rfl
  have h22 := h22.evo evT_ rfl
  have h23 := h23.evo evT_ rfl
  refine hK24 _ _ ?_
  obtain rfl := Option.some.inj hF
  exact CW.rets (vs := [.agg #[(vs64 2), (vs64 5), (vs64 8), (vs64 11)]]) Try.results35 ⟨ResIs.bk Power (.agg #[(vs64 2), (vs64 5), (vs64 8), (vs64 11)]) ty34 rfl hb63 rfl rfl, trivial⟩ ⟨_, rfl, _, ((vs64 2)), ((vs64 5)), ((vs64 8)), ((vs64 11)), (hE.rn he0 104 [(107, 100), (109, 101), (111, 102), (113, 103)] rfl rfl), rfl, (h32.rn (c' := 100) (K' := []) rfl rfl), (h41.rn (c' := 101) (K' := []) rfl rfl), (h50.rn (c' := 102) (K' := []) rfl rfl), (h59.rn (c' := 103) (K' := []) rfl rfl)⟩ (fun _ _ h => h)

set_option maxHeartbeats 1000000 in
theorem angle_Norm_ok {a0 : Int} {r : Int} (hF : angle_Norm a0 = some r) {w0 : World}  :
    Calls Try.prog 38 #[.int .i64 a0] w0 (Ret fun v w' => ∃ (oc : Cls), En w0 (entM w0 [] []) oc w' ∧ v = .int .i64 r) := by
 obtain ⟨e0, he0⟩ : ∃ e0, e0 = entM w0 [] [] := ⟨_, rfl⟩
 have hE := En.refl w0 e0
 rw [angle_Norm] at hF
 refine enter (l := [.int .i64 a0]) Try.func38 rfl Try.ntmps38 rfl ?_
 refine CW.sub (L' := [(0, .int .i64 a0)]) ⟨rfl, trivial⟩ ?_
 refine CW.sr fun K1 hK1 => ?_
 refine WL.p (.int .i64 0) rfl rfl ?_
 refine WL.nx hK1 ?_
 refine CW.sr fun K2 hK2 => ?_
 refine WL.p (.int .i64 a0) rfl rfl ?_
 obtain ⟨y3, q4, hF⟩ := bindE hF
 refine WL.stepE (OW.rem rfl rfl q4) rfl ?_
 refine WL.p (.int .i64 y3) rfl rfl ?_
 refine WL.nx hK2 ?_
 refine CW.seq fun K5 hK5 => ?_
 refine CW.sr fun K6 hK6 => ?_
 refine WL.p (.int .i64 y3) rfl rfl ?_
 refine WL.p (.bool ((decide (y3 < 0)))) rfl rfl ?_
 refine WL.nx hK6 ?_
 obtain ⟨x7, q8, hF⟩ := bindE hF
 have hJ11 : ∀ (w9 : World) (o10 : Cls), En w0 e0 o10 w9 → NK 10 K5 [(0, .int .i64 x7)] w9 := by
  intro w9 o10  hE
  refine hK5 _ _ ?_
  refine CW.sr fun K12 hK12 => ?_
  refine WL.p (.int .i64 x7) rfl rfl ?_
  refine WL.p (.int .i64 x7) rfl rfl ?_
  refine WL.nx hK12 ?_
  obtain rfl := Option.some.inj hF
  exact CW.rets (vs := [.int .i64 x7]) Try.results38 ⟨rfl, trivial⟩ ⟨_, rfl, _, (hE.rn he0 100 [] rfl rfl), rfl⟩ (fun _ _ h => h)
 refine CW.cond (b := (decide (y3 < 0))) rfl (fun hc13 => ?_) (fun hc13 => ?_)
 ·have q8 := iteT hc13 q8
  refine CW.region ?_
  refine WL.p (.int .i64 y3) rfl rfl ?_
  refine WL.p (.int .i64 ((W (y3 + 3600)))) rfl rfl ?_
  refine WL.p (.int .i64 ((W (y3 + 3600)))) rfl rfl ?_
  refine WL.nil ?_
  have e14 := Option.some.inj q8
  subst e14
  exact NK.sb (hJ11 w0 e0 hE) ⟨rfl, trivial⟩
 ·have q8 := iteF hc13 q8
  refine CW.skip ?_
  have e15 := Option.some.inj q8
  subst e15
  exact NK.sb (hJ11 w0 e0 hE) ⟨rfl, trivial⟩

set_option maxHeartbeats 1000000 in
theorem sync_Turn_ok {a0 : Board} {a1 : Power} {r : (Power × Int)} (hF : sync_Turn a0 a1 = some r) {w0 : World} {p0 : Value} {S0 : Nat → Prop} (g0 : Rv S0 w0 p0 a0) {p1 : Value} {S1 : Nat → Prop} (g1 : Rv S1 w0 p1 a1) :
    Calls Try.prog 12 #[p0, p1] w0 (Ret fun v w' => ∃ (oc : Cls) (x0_0 : Value) (x0_1 : Value) (x0_2 : Value) (x0_3 : Value), En w0 (entM w0 [] [S0, S1]) oc w' ∧ v = .tuple #[.agg #[x0_0, x0_1, x0_2, x0_3], .int .i64 r.2] ∧ Ow 4 oc 100 [] w' x0_0 r.1.Closed ∧ Ow 48 oc 101 [] w' x0_1 r.1.Sources ∧ Ow 3 oc 102 [] w' x0_2 r.1.Limits ∧ Ow 65 oc 103 [] w' x0_3 r.1.Broken) := by
 obtain ⟨e0, he0⟩ : ∃ e0, e0 = entM w0 [] [S0, S1] := ⟨_, rfl⟩
 have hE := En.refl w0 e0
 have g0 := g0.argM he0 0 (K := [40]) rfl (nosep rfl) rfl
 have g1 := g1.argM he0 1 (K := [40, 41]) rfl (nosep rfl) rfl
 obtain ⟨u1, u2, u3, rfl, h4, h5, h6⟩ := op29 g0
 obtain ⟨u7, u8, u9, u10, rfl, h11, h12, h13, h14⟩ := op34 g1
 rw [sync_Turn] at hF
 refine enter (l := [.agg #[.int .i64 a0.Buses, u1, u2, u3, .int .i64 a0.Phase, .int .i64 a0.Frequency], .agg #[u7, u8, u9, u10]]) Try.func12 rfl Try.ntmps12 rfl ?_
 refine CW.sub (L' := [(0, .agg #[.int .i64 a0.Buses, u1, u2, u3, .int .i64 a0.Phase, .int .i64 a0.Frequency]), (1, .agg #[u7, u8, u9, u10])]) ⟨rfl, rfl, trivial⟩ ?_
 refine CW.sr fun K15 hK15 => ?_
 refine WL.step (OW.boxK (o := e0) 100 [.int .i64 a0.Buses, u1, u2, u3, .int .i64 a0.Phase, .int .i64 a0.Frequency] rfl rfl) rfl ?_
 rintro _ w18 ⟨pa16, o17, rfl, ev19, hb20⟩
 have hE := hE.evo ev19 rfl rfl
 refine WL.step (OW.boxK (o := o17) 101 [u7, u8, u9, u10] rfl rfl) rfl ?_
 rintro _ w23 ⟨pa21, o22, rfl, ev24, hb25⟩
 have hE := hE.evo ev24 rfl rfl
 have hb20 := hb20.evo ev24 rfl
 refine WL.step (OW.allocK (o := o22) Power 102 [.slice none 0 0, .slice none 0 0, .slice none 0 0, .slice none 0 0] ty34 rfl) rfl ?_
 rintro _ w28 ⟨pa26, o27, rfl, ev29, hb30⟩
 have hE := hE.evo ev29 rfl rfl
 have hb20 := hb20.evo ev29 rfl
 have hb25 := hb25.evo ev29 rfl
 have h31 := Ow.nil (α := Bool) 4 o27 103 [] w28
 have h32 := Ow.nil (α := Running) 48 o27 104 [] w28
 have h33 := Ow.nil (α := Int) 3 o27 105 [] w28
 have h34 := Ow.nil (α := Part) 65 o27 106 [] w28
 refine WL.p (.int .i64 0) rfl rfl ?_
 refine WL.nx hK15 ?_
 refine CW.seq fun K35 hK35 => ?_
 refine CW.sr fun K36 hK36 => ?_
 refine WL.stepE (OW.loadK0 Board (.agg #[.int .i64 a0.Buses, u1, u2, u3, .int .i64 a0.Phase, .int .i64 a0.Frequency]) ty29 rfl hb20 rfl rfl) rfl ?_
 refine WL.stepE (OW.loadK0 Power (.agg #[u7, u8, u9, u10]) ty34 rfl hb25 rfl rfl) rfl ?_
 obtain ⟨y37, q38, hF⟩ := bindE hF
 refine WL.step (OW.call Try.call34 rfl (board_State_ok q38 (mk29 (x := a0) (h4.baseM hE rfl) (h5.baseM hE rfl) (h6.baseM hE rfl)) (mk34 (x := a1) (h11.baseM hE rfl) (h12.baseM hE rfl) (h13.baseM hE rfl) (h14.baseM hE rfl)))) rfl ?_
 rintro _ w39 ⟨o43, hn_, rfl⟩
 obtain ⟨o40, ev41, hA42⟩ := adopt (o := o27) (ks := []) (Ks := [[40], [40, 41]]) 107 ([]) [107] hn_ MbOk.nil rfl rfl rfl rfl
 have hE := hE.evo ev41 rfl rfl
 have h31 := h31.evo ev41 rfl
 have h32 := h32.evo ev41 rfl
 have h33 := h33.evo ev41 rfl
 have h34 := h34.evo ev41 rfl
 have hb25 := hb25.evo ev41 rfl
 have hb30 := hb30.evo ev41 rfl
 refine WL.p (.int .i64 y37) rfl rfl ?_
 refine WL.nx hK36 ?_
 refine CW.sr fun K44 hK44 => ?_
 refine WL.p (.int .i64 y37) rfl rfl ?_
 refine WL.p (.bool (((y37 != 0)))) rfl rfl ?_
 refine WL.nx hK44 ?_
 refine CW.cond (b := ((y37 != 0))) rfl (fun hc45 => ?_) (fun hc45 => ?_)
 ·have hF := iteT hc45 hF
  refine CW.sr fun K46 hK46 => ?_
  refine WL.stepE (OW.buildK Power [] [.slice none 0 0, .slice none 0 0, .slice none 0 0, .slice none 0 0] st34 ty34 rfl trivial rfl) rfl ?_
  have h47 := Ow.nil (α := Bool) 4 o40 108 [] w39
  have h48 := Ow.nil (α := Running) 48 o40 109 [] w39
  have h49 := Ow.nil (α := Int) 3 o40 110 [] w39
  have h50 := Ow.nil (α := Part) 65 o40 111 [] w39
  refine WL.p (.int .i64 y37) rfl rfl ?_
  refine WL.step0 (OW.storeK0 Power [(.slice none 0 0), (.slice none 0 0), (.slice none 0 0), (.slice none 0 0)] [(.slice none 0 0), (.slice none 0 0), (.slice none 0 0), (.slice none 0 0)] ty34 rfl rfl hb30 rfl ⟨rfl, rfl, rfl, rfl, trivial⟩ rfl rfl rfl) ?_
  rintro _ w51 ⟨ev52, hb30⟩
  have hE := hE.evo ev52 rfl rfl
  have h47 := h47.evo ev52 rfl
  have h48 := h48.evo ev52 rfl
  have h49 := h49.evo ev52 rfl
  have h50 := h50.evo ev52 rfl
  refine WL.p (.int .i64 y37) rfl rfl ?_
  refine WL.nx hK46 ?_
  obtain rfl := Option.some.inj hF
  exact CW.rets (vs := [.agg #[(.slice none 0 0), (.slice none 0 0), (.slice none 0 0), (.slice none 0 0)], .int .i64 y37]) Try.results12 ⟨ResIs.bk Power (.agg #[(.slice none 0 0), (.slice none 0 0), (.slice none 0 0), (.slice none 0 0)]) ty34 rfl hb30 rfl rfl, rfl, trivial⟩ ⟨_, rfl, _, ((.slice none 0 0)), ((.slice none 0 0)), ((.slice none 0 0)), ((.slice none 0 0)), (hE.rn he0 104 [] rfl rfl), rfl, (Ow.nil _ _ _ _ _), (Ow.nil _ _ _ _ _), (Ow.nil _ _ _ _ _), (Ow.nil _ _ _ _ _)⟩ (fun _ _ h => h)
 ·have hF := iteF hc45 hF
  refine CW.skip ?_
  refine hK35 _ _ ?_
  refine CW.sr fun K53 hK53 => ?_
  refine WL.stepE (OW.loadK0 Power (.agg #[u7, u8, u9, u10]) ty34 rfl hb25 rfl rfl) rfl ?_
  obtain ⟨y54, q55, hF⟩ := bindE hF
  refine WL.step (OW.call Try.call35 rfl (states_Clone_ok q55 (mk34 (x := a1) (h11.baseM hE rfl) (h12.baseM hE rfl) (h13.baseM hE rfl) (h14.baseM hE rfl)))) rfl ?_
  rintro _ w56 ⟨o60, u62, u64, u66, u68, hn_, rfl, h61, h63, h65, h67⟩
  obtain ⟨o57, ev58, hA59⟩ := adopt (o := o40) (ks := []) (Ks := [[40, 41]]) 112 ([(100, 113), (101, 114), (102, 115), (103, 116)]) [112, 113, 114, 115, 116] hn_ MbOk.nil rfl rfl rfl rfl
  have h61 := h61.ad (c' := 113) (K' := []) hA59 rfl rfl
  have h63 := h63.ad (c' := 114) (K' := []) hA59 rfl rfl
  have h65 := h65.ad (c' := 115) (K' := []) hA59 rfl rfl
  have h67 := h67.ad (c' := 116) (K' := []) hA59 rfl rfl
  have hE := hE.evo ev58 rfl rfl
  have h31 := h31.evo ev58 rfl
  have h32 := h32.evo ev58 rfl
  have h33 := h33.evo ev58 rfl
  have h34 := h34.evo ev58 rfl
  have hb25 := hb25.evo ev58 rfl
  have hb30 := hb30.evo ev58 rfl
  refine WL.step (OW.allocK (o := o57) Power 117 [.slice none 0 0, .slice none 0 0, .slice none 0 0, .slice none 0 0] ty34 rfl) rfl ?_
  rintro _ w71 ⟨pa69, o70, rfl, ev72, hb73⟩
  have hE := hE.evo ev72 rfl rfl
  have h31 := h31.evo ev72 rfl
  have h32 := h32.evo ev72 rfl
  have h33 := h33.evo ev72 rfl
  have h34 := h34.evo ev72 rfl
  have h61 := h61.evo ev72 rfl
  have h63 := h63.evo ev72 rfl
  have h65 := h65.evo ev72 rfl
  have h67 := h67.evo ev72 rfl
  have hb25 := hb25.evo ev72 rfl
  have hb30 := hb30.evo ev72 rfl
  have h74 := Ow.nil (α := Bool) 4 o70 118 [] w71
  have h75 := Ow.nil (α := Running) 48 o70 119 [] w71
  have h76 := Ow.nil (α := Int) 3 o70 120 [] w71
  have h77 := Ow.nil (α := Part) 65 o70 121 [] w71
  refine WL.step0 (OW.storeK0 Power [u62, u64, u66, u68] [u62, u64, u66, u68] ty34 rfl rfl hb73 rfl ⟨(h61.one), (h63.one), (h65.one), (h67.one), trivial⟩ rfl rfl rfl) ?_
  rintro _ w78 ⟨ev79, hb73⟩
  have hE := hE.evo ev79 rfl rfl
  have h31 := h31.evo ev79 rfl
  have h32 := h32.evo ev79 rfl
  have h33 := h33.evo ev79 rfl
  have h34 := h34.evo ev79 rfl
  have h61 := h61.evo ev79 rfl
  have h63 := h63.evo ev79 rfl
  have h65 := h65.evo ev79 rfl
  have h67 := h67.evo ev79 rfl
  have hb25 := hb25.evo ev79 rfl
  have hb30 := hb30.evo ev79 rfl
  refine WL.nx hK53 ?_
  refine CW.seq fun K80 hK80 => ?_
  refine CW.sr fun K81 hK81 => ?_
  refine WL.stepE (OW.fldAddr (FldOk.at f34_1) rfl) rfl ?_
  refine WL.stepE (OW.loadK (off := 1) (List Running) (u8) ty31 rfl hb25 rfl rfl) rfl ?_
  refine WL.stepE (OW.len Try.underlying31 rfl (h12.baseM hE rfl)) rfl ?_
  refine WL.p (.int .i64 0) rfl rfl ?_
  refine WL.nx hK81 ?_
  refine CW.block ?_
  obtain ⟨r90, hl89, hF⟩ := bindE hF
  have hJ93 : ∀ (x86 : (List Running)) (w91 : World) (o92 : Cls) (v87 : Value), x86 = r90 → En w0 e0 o92 w91 → Ow 4 o92 103 [] w91 (.slice none 0 0) ([] : List Bool) → Ow 48 o92 104 [] w91 (.slice none 0 0) ([] : List Running) → Ow 3 o92 105 [] w91 (.slice none 0 0) ([] : List Int) → Ow 65 o92 106 [] w91 (.slice none 0 0) ([] : List Part) → Ow 4 o92 113 [] w91 u62 y54.Closed → Ow 3 o92 115 [] w91 u66 y54.Limits → Ow 65 o92 116 [] w91 u68 y54.Broken → Ow 48 o92 114 [] w91 v87 x86 → Bk o92 102 w91 pa26 [(.slice none 0 0), (.slice none 0 0), (.slice none 0 0), (.slice none 0 0)] → Bk o92 117 w91 pa69 [u62, v87, u66, u68] → NK 45 K80 [(4, .pointer (some pa26)), (7, .pointer (some pa69))] w91 := by
   intro x86 w91 o92 v87 e_ hE h31 h32 h33 h34 h61 h65 h67 h88 hb30 hb73
   subst e_
   try dsimp only at hF
   refine hK80 _ _ ?_
   refine CW.sr fun K94 hK94 => ?_
   refine WL.stepE (OW.loadK0 Power (.agg #[u62, v87, u66, u68]) ty34 rfl hb73 rfl rfl) rfl ?_
   refine WL.step0 (OW.storeK0 Power [u62, v87, u66, u68] [u62, v87, u66, u68] ty34 rfl rfl hb30 rfl ⟨(h61.one), (h88.one), (h65.one), (h67.one), trivial⟩ rfl rfl rfl) ?_
   rintro _ w95 ⟨ev96, hb30⟩
   have hE := hE.evo ev96 rfl rfl
   have h61 := h61.evo ev96 rfl
   have h65 := h65.evo ev96 rfl
   have h67 := h67.evo ev96 rfl
   have h88 := h88.evo ev96 rfl
   refine WL.p (.int .i64 0) rfl rfl ?_
   refine WL.nx hK94 ?_
   obtain rfl := Option.some.inj hF
   exact CW.rets (vs := [.agg #[u62, v87, u66, u68], .int .i64 0]) Try.results12 ⟨ResIs.bk Power (.agg #[u62, v87, u66, u68]) ty34 rfl hb30 rfl rfl, rfl, trivial⟩ ⟨_, rfl, _, (u62), (v87), (u66), (u68), (hE.rn he0 104 [(113, 100), (114, 101), (115, 102), (116, 103)] rfl rfl), rfl, (h61.rn (c' := 100) (K' := []) rfl rfl), (h88.rn (c' := 101) (K' := []) rfl rfl), (h65.rn (c' := 102) (K' := []) rfl rfl), (h67.rn (c' := 103) (K' := []) rfl rfl)⟩ (fun _ _ h => h)
  refine CW.sub (L' := [(4, .pointer (some pa26)), (7, .pointer (some pa69)), (20, u8), (21, .int .i64 (len a1.Sources)), (22, .int .i64 0)]) ⟨rfl, rfl, rfl, rfl, rfl, trivial⟩ ?_
  refine CW.loop (sync_Turn_L1 a1) (fun s_ L_ w97 => ∃ (o98 : Cls) (x82 : Int) (x83 : (List Running)) (v84 : Value), (x82, x83) = s_ ∧ L_ = [(4, .pointer (some pa26)), (7, .pointer (some pa69)), (20, u8), (21, .int .i64 (len a1.Sources)), (22, .int .i64 x82)] ∧ En w0 e0 o98 w97 ∧ Ow 4 o98 103 [] w97 (.slice none 0 0) ([] : List Bool) ∧ Ow 48 o98 104 [] w97 (.slice none 0 0) ([] : List Running) ∧ Ow 3 o98 105 [] w97 (.slice none 0 0) ([] : List Int) ∧ Ow 65 o98 106 [] w97 (.slice none 0 0) ([] : List Part) ∧ Ow 4 o98 113 [] w97 u62 y54.Closed ∧ Ow 3 o98 115 [] w97 u66 y54.Limits ∧ Ow 65 o98 116 [] w97 u68 y54.Broken ∧ Ow 48 o98 114 [] w97 v84 x83 ∧ Bk o98 102 w97 pa26 [(.slice none 0 0), (.slice none 0 0), (.slice none 0 0), (.slice none 0 0)] ∧ Bk o98 117 w97 pa69 [u62, v84, u66, u68]) hl89 ?_ ?_
  ·exact ⟨o70, 0, y54.Sources, u64, rfl, rfl, hE, h31, h32, h33, h34, h61, h65, h67, h63, hb30, hb73⟩
  intro K99 s_ L_ w97 hi_ x100 hx101 hr102 hk103
  obtain ⟨o98, x82, x83, v84, rfl, rfl, hE, h31, h32, h33, h34, h61, h65, h67, h85, hb30, hb73⟩ := hi_
  rw [sync_Turn_L1] at hx101
  refine CW.sr fun K104 hK104 => ?_
  refine WL.p (.bool ((decide (x82 < (len a1.Sources))))) rfl rfl ?_
  refine WL.nx hK104 ?_
  refine CW.seq fun K105 hK105 => ?_
  refine CW.cond (b := (decide (x82 < (len a1.Sources)))) rfl (fun hc106 => ?_) (fun hc106 => ?_)
  ·have hx101 := iteT hc106 hx101
   refine CW.skip ?_
   refine hK105 _ _ ?_
   refine CW.seq fun K107 hK107 => ?_
   refine CW.block ?_
   refine CW.sr fun K108 hK108 => ?_
   refine WL.p (.int .i64 x82) rfl rfl ?_
   obtain ⟨y109, q113, hx101⟩ := bindE hx101
   refine WL.stepP (OW.indexAddr Try.underlying31 ty48 rfl (h12.baseM hE rfl) rfl q113) rfl fun _ ⟨pa110, hv_, hp111, he112⟩ => ?_
   subst hv_
   refine WL.stepP (OW.load ty48 rfl hp111) rfl fun v114 h115 => ?_
   obtain rfl := op48 h115
   refine WL.step (OW.allocK (o := o98) Running 122 [.int .i64 0, .int .i64 0, .int .i64 0, .int .i64 0] ty48 rfl) rfl ?_
   rintro _ w118 ⟨pa116, o117, rfl, ev119, hb120⟩
   have hE := hE.evo ev119 rfl rfl
   have h31 := h31.evo ev119 rfl
   have h32 := h32.evo ev119 rfl
   have h33 := h33.evo ev119 rfl
   have h34 := h34.evo ev119 rfl
   have h61 := h61.evo ev119 rfl
   have h65 := h65.evo ev119 rfl
   have h67 := h67.evo ev119 rfl
   have h85 := h85.evo ev119 rfl
   have hb30 := hb30.evo ev119 rfl
   have hb73 := hb73.evo ev119 rfl
   refine WL.p (.int .i64 x82) rfl rfl ?_
   refine WL.step0 (OW.storeK0 Running [.int .i64 y109.State, .int .i64 y109.Since, .int .i64 y109.Frequency, .int .i64 y109.Phase] [.int .i64 y109.State, .int .i64 y109.Since, .int .i64 y109.Frequency, .int .i64 y109.Phase] ty48 rfl rfl hb120 rfl ⟨rfl, rfl, rfl, rfl, trivial⟩ rfl rfl rfl) ?_
   rintro _ w121 ⟨ev122, hb120⟩
   have hE := hE.evo ev122 rfl rfl
   have h31 := h31.evo ev122 rfl
   have h32 := h32.evo ev122 rfl
   have h33 := h33.evo ev122 rfl
   have h34 := h34.evo ev122 rfl
   have h61 := h61.evo ev122 rfl
   have h65 := h65.evo ev122 rfl
   have h67 := h67.evo ev122 rfl
   have h85 := h85.evo ev122 rfl
   have hb30 := hb30.evo ev122 rfl
   have hb73 := hb73.evo ev122 rfl
   refine WL.nx hK108 ?_
   refine CW.sr fun K123 hK123 => ?_
   refine WL.stepE (OW.fldAddr (FldOk.at f48_0) rfl) rfl ?_
   refine WL.stepE (OW.loadK (off := 0) Int (.int .i64 y109.State) ty3 rfl hb120 rfl rfl) rfl ?_
   refine WL.p (.bool (((y109.State == 2)))) rfl rfl ?_
   refine WL.nx hK123 ?_
   obtain ⟨x124, q127, hx101⟩ := bindE hx101
   have hJ130 : ∀ (w128 : World) (o129 : Cls) (v125 : Value), En w0 e0 o129 w128 → Ow 48 o129 114 [] w128 v125 x124 → Ow 4 o129 103 [] w128 (.slice none 0 0) ([] : List Bool) → Ow 48 o129 104 [] w128 (.slice none 0 0) ([] : List Running) → Ow 3 o129 105 [] w128 (.slice none 0 0) ([] : List Int) → Ow 65 o129 106 [] w128 (.slice none 0 0) ([] : List Part) → Ow 4 o129 113 [] w128 u62 y54.Closed → Ow 3 o129 115 [] w128 u66 y54.Limits → Ow 65 o129 116 [] w128 u68 y54.Broken → Bk o129 102 w128 pa26 [(.slice none 0 0), (.slice none 0 0), (.slice none 0 0), (.slice none 0 0)] → Bk o129 117 w128 pa69 [u62, v125, u66, u68] → NK 45 K107 [(4, .pointer (some pa26)), (7, .pointer (some pa69)), (20, u8), (21, .int .i64 (len a1.Sources)), (22, .int .i64 x82)] w128 := by
    intro w128 o129 v125 hE h126 h31 h32 h33 h34 h61 h65 h67 hb30 hb73
    refine hK107 _ _ ?_
    refine CW.region ?_
    refine WL.p (.int .i64 ((W (x82 + 1)))) rfl rfl ?_
    refine WL.p (.int .i64 ((W (x82 + 1)))) rfl rfl ?_
    refine WL.nil ?_
    exact NK.sb (hk103 _ _ _ (Option.some.inj hx101).symm ⟨o129, (W (x82 + 1)), x124, v125, rfl, rfl, hE, h31, h32, h33, h34, h61, h65, h67, h126, hb30, hb73⟩) ⟨rfl, rfl, rfl, rfl, rfl, trivial⟩
   refine CW.cond (b := ((y109.State == 2))) rfl (fun hc131 => ?_) (fun hc131 => ?_)
   ·have q127 := iteT hc131 q127
    obtain ⟨y132, q133, q127⟩ := bindE q127
    obtain ⟨y139, q143, q127⟩ := bindE q127
    obtain ⟨y144, q147, q127⟩ := bindE q127
    have ev_ := Evo.drew o117 w121
    refine CW.anyS (N := [114, 123]) hmix [sOw none (some 13) [] 48 114 [] (vk v84) x83, sBk none none [] 122 (vk pa116) (vk ([.int .i64 y109.State, .int .i64 y109.Since, .int .i64 y109.Frequency, .int .i64 y109.Phase])), sBk none none [] 117 (vk pa69) (vk ([u62, v84, u66, u68])), sPo (some 11) (some 13) [11] 114 [] (vp 0) y139, sEp (some 11) none [11] (vk v84) 4 x82 (vp 0), sOw (some 13) none [] 48 114 [] (vk v84) y144] [⟨[], [], [], [], vk (.pointer (some (pa69.add 1))), false⟩, ⟨[], [2], [0], [], vk v84, false⟩, ⟨[], [], [], [], vk (.int .i64 x82), false⟩, ⟨[], [], [], [], vk (.pointer (some (pa116.add 3))), false⟩, ⟨[], [1], [3], [], vk (.int .i64 y109.Phase), false⟩, ⟨[], [], [], [], vk (.pointer (some (pa116.add 2))), false⟩, ⟨[], [1], [5], [], vk (.int .i64 y109.Frequency), false⟩, ⟨[], [], [5, 6], [], vk (.int .i64 ((W (y109.Frequency - 5000)))), false⟩, ⟨[], [], [5, 6, 7], [], vk (.int .i64 ((W ((36 : Int) * ((W (y109.Frequency - 5000))))))), false⟩, ⟨[], [], rg 3 6, [], vk (.int .i64 ((W (y109.Phase + ((W ((36 : Int) * ((W (y109.Frequency - 5000)))))))))), false⟩, ⟨[], [], rg 3 7, [], vk (.int .i64 y132), false⟩, ⟨[], [0], rg 0 11, [11], vq 0, false⟩, ⟨[], [], rg 0 12, [11], fun x_ => .pointer (some ((pOf (x_.getD 0 undef)).add 3)), false⟩, ⟨[114], [0, 4], rg 0 13, [], vk undef, false⟩] [114] hE rfl (by kernel_rfl) (by kernel_rfl) ⟨h85.evo ev_ rfl, hb120.evo ev_ rfl, hb73.evo ev_ rfl, trivial⟩ ⟨?_, ?_, Ob.pv rfl rfl (fun _ => rfl) rfl (fun _ _ _ => trivial), ?_, ?_, ?_, ?_, Ob.pv rfl rfl (fun _ => rfl) rfl (fun _ _ _ => trivial), Ob.pv rfl rfl (fun _ => rfl) rfl (fun _ _ _ => trivial), Ob.pv rfl rfl (fun _ => rfl) rfl (fun _ _ _ => trivial), ?_, ?_, ?_, ?_, trivial⟩ ?_
    ·intro vs149 o_ w_ hE 
     exact OW.q [(7, .pointer (some pa69))] ⟨rfl, trivial⟩ (OW.fldAddr (FldOk.at f34_1) rfl) (er rfl trivial)
    ·intro vs149 o_ w_ hE hb73
     have hb73 := tBk hb73
     exact OW.q [(30, .pointer (some (pa69.add 1)))] ⟨rfl, trivial⟩ (OW.loadK (off := 1) (List Running) (v84) ty31 rfl hb73 rfl rfl) (er rfl trivial)
    ·intro vs149 o_ w_ hE 
     exact OW.q [(9, .pointer (some pa116))] ⟨rfl, trivial⟩ (OW.fldAddr (FldOk.at f48_3) rfl) (er rfl trivial)
    ·intro vs149 o_ w_ hE hb120
     have hb120 := tBk hb120
     exact OW.q [(33, .pointer (some (pa116.add 3)))] ⟨rfl, trivial⟩ (OW.loadK (off := 3) Int (.int .i64 y109.Phase) ty3 rfl hb120 rfl rfl) (er rfl trivial)
    ·intro vs149 o_ w_ hE 
     exact OW.q [(9, .pointer (some pa116))] ⟨rfl, trivial⟩ (OW.fldAddr (FldOk.at f48_2) rfl) (er rfl trivial)
    ·intro vs149 o_ w_ hE hb120
     have hb120 := tBk hb120
     exact OW.q [(35, .pointer (some (pa116.add 2)))] ⟨rfl, trivial⟩ (OW.loadK (off := 2) Int (.int .i64 y109.Frequency) ty3 rfl hb120 rfl rfl) (er rfl trivial)
    ·intro vs149 o_ w_ hE 
     refine OW.r [(39, .int .i64 ((W (y109.Phase + ((W ((36 : Int) * ((W (y109.Frequency - 5000))))))))))] ⟨rfl, trivial⟩ (OW.call Try.call38 rfl (angle_Norm_ok q133)) ?_
     rintro _ w134 ⟨o138, hn_, rfl⟩
     obtain ⟨o135, ev136, hA137⟩ := adopt (o := o_) (ks := []) (Ks := []) 123 ([]) [123] hn_ MbOk.nil rfl rfl rfl rfl
     exact ⟨o135, ev136.sub rfl rfl, rfl, trivial⟩
    ·intro vs149 o_ w_ hE h85
     have h85 := tOw h85
     refine OW.r [(31, v84), (32, .int .i64 x82)] ⟨rfl, rfl, trivial⟩ (OW.indexAddrO Try.underlying31 ty48 rfl h85 rfl q143) ?_
     rintro _ _ ⟨rfl, ⟨pa140, hv_, hp141, he142⟩⟩
     subst hv_
     exact ⟨_, Evo.refl _ _ _ _, rfl, hp141, he142, trivial⟩
    ·intro vs149 o_ w_ hE 
     exact OW.q [(41, .pointer (some (pOf (vs149 11))))] ⟨rfl, trivial⟩ (OW.fldAddr (FldOk.at f48_3) rfl) (er rfl trivial)
    ·intro vs149 o_ w_ hE h85 he142
     have h85 := tOw h85
     have he142 := tEp he142
     refine OW.r [(40, .int .i64 y132), (42, .pointer (some ((pOf (vs149 11)).add 3)))] ⟨rfl, rfl, trivial⟩ (OW.storeElemField ty3 f48_3 s48_3 rfl he142 h85 rfl (rv_int.2 rfl) q143 q147 rfl) ?_
     rintro _ w145 ⟨ev146, h148⟩
     exact ⟨o_, ev146.sub rfl rfl, trivial, h148, trivial⟩
    ·intro vs149 o151 w150 hE hb120 hb73 he142 h148
     obtain ⟨hE, evT_⟩ := hE
     have hb120 : Bk o151 122 w150 pa116 [.int .i64 y109.State, .int .i64 y109.Since, .int .i64 y109.Frequency, .int .i64 y109.Phase] := hb120
     have hb73 : Bk o151 117 w150 pa69 [u62, v84, u66, u68] := hb73
     have he142 : EPtr v84 4 x82 (pOf (vs149 11)) := he142
     have h148 : Ow 48 o151 114 [] w150 v84 y144 := h148
     have h31 := h31.evo evT_ rfl
     have h32 := h32.evo evT_ rfl
     have h33 := h33.evo evT_ rfl
     have h34 := h34.evo evT_ rfl
     have h61 := h61.evo evT_ rfl
     have h65 := h65.evo evT_ rfl
     have h67 := h67.evo evT_ rfl
     have hb30 := hb30.evo evT_ rfl
     have e152 := Option.some.inj q127
     subst e152
     exact NK.sb (hJ130 w150 o151 v84 hE h148 h31 h32 h33 h34 h61 h65 h67 hb30 hb73) ⟨rfl, rfl, rfl, rfl, rfl, trivial⟩
   ·have q127 := iteF hc131 q127
    refine CW.skip ?_
    have e153 := Option.some.inj q127
    subst e153
    exact NK.sb (hJ130 w121 o117 v84 hE h85 h31 h32 h33 h34 h61 h65 h67 hb30 hb73) ⟨rfl, rfl, rfl, rfl, rfl, trivial⟩
  ·have hx101 := iteF hc106 hx101
   refine CW.exit ?_
   exact NK.sb (hJ93 x83 w97 o98 v84 (hr102 _ (Option.some.inj hx101).symm) hE h31 h32 h33 h34 h61 h65 h67 h85 hb30 hb73) ⟨rfl, rfl, trivial⟩

set_option maxHeartbeats 1000000 in
theorem dynposref02_Norm_ok {a0 : Int} {r : Int} (hF : dynposref02_Norm a0 = some r) {w0 : World}  :
    Calls Try.prog 20 #[.int .i64 a0] w0 (Ret fun v w' => ∃ (oc : Cls), En w0 (entM w0 [] []) oc w' ∧ v = .int .i64 r) := by
 obtain ⟨e0, he0⟩ : ∃ e0, e0 = entM w0 [] [] := ⟨_, rfl⟩
 have hE := En.refl w0 e0
 rw [dynposref02_Norm] at hF
 refine enter (l := [.int .i64 a0]) Try.func20 rfl Try.ntmps20 rfl ?_
 refine CW.sub (L' := [(0, .int .i64 a0)]) ⟨rfl, trivial⟩ ?_
 refine CW.sr fun K1 hK1 => ?_
 refine WL.p (.int .i64 0) rfl rfl ?_
 refine WL.nx hK1 ?_
 refine CW.sr fun K2 hK2 => ?_
 refine WL.p (.int .i64 a0) rfl rfl ?_
 obtain ⟨y3, q4, hF⟩ := bindE hF
 refine WL.stepE (OW.rem rfl rfl q4) rfl ?_
 refine WL.p (.int .i64 ((W (y3 + 3600)))) rfl rfl ?_
 obtain ⟨y5, q6, hF⟩ := bindE hF
 refine WL.stepE (OW.rem rfl rfl q6) rfl ?_
 refine WL.p (.int .i64 y5) rfl rfl ?_
 refine WL.nx hK2 ?_
 obtain rfl := Option.some.inj hF
 exact CW.rets (vs := [.int .i64 y5]) Try.results20 ⟨rfl, trivial⟩ ⟨_, rfl, _, (hE.rn he0 100 [] rfl rfl), rfl⟩ (fun _ _ h => h)

end Go.Proofs.Ytdfkfohpgakihaa
