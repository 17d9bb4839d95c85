/- Walks. Written by a program (wip/gen). -/
import Derived.Test.YtnpghnnlcakbfaaHw
import Derived.Test.YtnpghnnlcakbfaaWk5
namespace Go.Proofs.Ytnpghnnlcakbfaa
open Go Go.RowKit Dp

set_option maxRecDepth 100000

set_option maxHeartbeats 1000000 in
theorem slices_IndexFunc_Running_Running_ok {a0 : (List Running)} {f1 : (Running → Option Bool)} {r : Int} (hF : slices_IndexFunc_Running_Running a0 f1 = some r) {w0 : World} {p0 : Value} {S0 : Nat → Prop} (g0 : Rv S0 w0 p0 a0) {q1 : FuncId} {z1 : Array Value} (m1 : Fn1 Try.prog q1 z1 (fun w => Bts [] w0 w) f1) :
    Calls Try.prog 86 #[p0, .func (.func q1) #[] z1] w0 (Ret fun v w' => ∃ (oc : Cls), En w0 (entM w0 [] [S0]) oc w' ∧ v = .int .i64 r) := by
 obtain ⟨e0, he0⟩ : ∃ e0, e0 = entM w0 [] [S0] := ⟨_, rfl⟩
 have hE := En.refl w0 e0
 have g0 := g0.argM he0 0 (K := [40]) rfl (nosep rfl) rfl
 rw [slices_IndexFunc_Running_Running] at hF
 refine enter (l := [p0, .func (.func q1) #[] z1]) Try.func86 rfl Try.ntmps86 rfl ?_
 refine CW.sub (L' := [(0, p0), (1, .func (.func q1) #[] z1)]) ⟨rfl, rfl, trivial⟩ ?_
 refine CW.sr fun K1 hK1 => ?_
 refine WL.p (.int .i64 0) rfl rfl ?_
 refine WL.nx hK1 ?_
 refine CW.seq fun K2 hK2 => ?_
 refine CW.sr fun K3 hK3 => ?_
 refine WL.p p0 rfl rfl ?_
 refine WL.stepE (OW.len Try.underlying42 rfl (g0.baseM hE rfl)) rfl ?_
 refine WL.p (.int .i64 0) rfl rfl ?_
 refine WL.nx hK3 ?_
 refine CW.block ?_
 obtain ⟨r6, hl5, hF⟩ := bindE hF
 have hJ9 : ∀ (w7 : World) (o8 : Cls), .inl () = r6 → En w0 e0 o8 w7 → NK 19 K2 [] w7 := by
  intro  w7 o8  e_ hE
  subst e_
  have hF := elimL hF
  try dsimp only at hF
  refine hK2 _ _ ?_
  refine CW.sr fun K10 hK10 => ?_
  refine WL.p (.int .i64 (-1)) rfl rfl ?_
  refine WL.nx hK10 ?_
  obtain rfl := Option.some.inj hF
  exact CW.rets (vs := [.int .i64 (-1)]) Try.results86 ⟨rfl, trivial⟩ ⟨_, rfl, _, (hE.rn he0 100 [] rfl rfl), rfl⟩ (fun _ _ h => h)
 refine CW.sub (L' := [(0, p0), (1, .func (.func q1) #[] z1), (7, .int .i64 (len a0)), (8, .int .i64 0)]) ⟨rfl, rfl, rfl, rfl, trivial⟩ ?_
 refine CW.loop (slices_IndexFunc_Running_Running_L1 a0 f1) (fun s_ L_ w11 => ∃ (o12 : Cls) (x4 : Int), x4 = s_ ∧ L_ = [(0, p0), (1, .func (.func q1) #[] z1), (7, .int .i64 (len a0)), (8, .int .i64 x4)] ∧ En w0 e0 o12 w11) hl5 ?_ ?_
 ·exact ⟨e0, 0, rfl, rfl, hE⟩
 intro K13 s_ L_ w11 hi_ x14 hx15 hr16 hk17
 obtain ⟨o12, x4, rfl, rfl, hE⟩ := hi_
 rw [slices_IndexFunc_Running_Running_L1] at hx15
 refine CW.sr fun K18 hK18 => ?_
 refine WL.p (.bool ((decide (x4 < (len a0))))) rfl rfl ?_
 refine WL.nx hK18 ?_
 refine CW.seq fun K19 hK19 => ?_
 refine CW.cond (b := (decide (x4 < (len a0)))) rfl (fun hc20 => ?_) (fun hc20 => ?_)
 ·have hx15 := iteT hc20 hx15
  refine CW.skip ?_
  refine hK19 _ _ ?_
  refine CW.seq fun K21 hK21 => ?_
  refine CW.block ?_
  refine CW.sr fun K22 hK22 => ?_
  refine WL.p (.int .i64 x4) rfl rfl ?_
  refine WL.p (.int .i64 x4) rfl rfl ?_
  refine WL.nx hK22 ?_
  refine CW.sr fun K23 hK23 => ?_
  refine WL.p (.func (.func q1) #[] z1) rfl rfl ?_
  refine WL.p p0 rfl rfl ?_
  refine WL.p (.int .i64 x4) rfl rfl ?_
  obtain ⟨y24, q28, hx15⟩ := bindE hx15
  refine WL.stepP (OW.indexAddr Try.underlying42 ty64 rfl (g0.baseM hE rfl) rfl q28) rfl fun _ ⟨pa25, hv_, hp26, he27⟩ => ?_
  subst hv_
  refine WL.stepP (OW.load ty64 rfl hp26) rfl fun v29 h30 => ?_
  obtain rfl := op64 h30
  obtain ⟨y31, q32, hx15⟩ := bindE hx15
  refine WL.step (OW.callV m1.1 rfl rfl (m1.2 _ (hE.bts he0 rfl) _ _ q32 _ _ (mk64 (S := In o12 []) (x := y24)))) rfl ?_
  rintro v39 w33 ⟨hb37, h38⟩
  obtain rfl := rv_bool.1 h38
  obtain ⟨o34, ev35, hn36⟩ := fresh_new (o := o12) 100 hb37
  have hE := hE.evo ev35 rfl rfl
  refine WL.nx hK23 ?_
  refine CW.cond (b := y31) rfl (fun hc40 => ?_) (fun hc40 => ?_)
  ·have hx15 := iteT hc40 hx15
   refine CW.sr fun K41 hK41 => ?_
   refine WL.p (.int .i64 x4) rfl rfl ?_
   refine WL.p (.int .i64 x4) rfl rfl ?_
   refine WL.nx hK41 ?_
   have e_ := hr16 _ (Option.some.inj hx15).symm
   subst e_
   have hF := elimR hF
   obtain rfl := Option.some.inj hF
   exact CW.rets (vs := [.int .i64 x4]) Try.results86 ⟨rfl, trivial⟩ ⟨_, rfl, _, (hE.rn he0 100 [] rfl rfl), rfl⟩ (fun _ _ h => h)
  ·have hx15 := iteF hc40 hx15
   refine CW.skip ?_
   refine hK21 _ _ ?_
   refine CW.region ?_
   refine WL.p (.int .i64 ((W (x4 + 1)))) rfl rfl ?_
   refine WL.p (.int .i64 ((W (x4 + 1)))) rfl rfl ?_
   refine WL.nil ?_
   exact NK.sb (hk17 _ _ _ (Option.some.inj hx15).symm ⟨o34, (W (x4 + 1)), rfl, rfl, hE⟩) ⟨rfl, rfl, rfl, rfl, trivial⟩
 ·have hx15 := iteF hc20 hx15
  refine CW.exit ?_
  exact NK.sb (hJ9 w11 o12 (hr16 _ (Option.some.inj hx15).symm) hE) trivial

set_option maxHeartbeats 1000000 in
theorem slices_ContainsFunc_Running_Running_ok {a0 : (List Running)} {f1 : (Running → Option Bool)} {r : Bool} (hF : slices_ContainsFunc_Running_Running a0 f1 = some r) {w0 : World} {p0 : Value} {S0 : Nat → Prop} (g0 : Rv S0 w0 p0 a0) {q1 : FuncId} {z1 : Array Value} (m1 : Fn1 Try.prog q1 z1 (fun w => Bts [] w0 w) f1) :
    Calls Try.prog 68 #[p0, .func (.func q1) #[] z1] w0 (Ret fun v w' => ∃ (oc : Cls), En w0 (entM w0 [] [S0]) oc w' ∧ v = .bool r) := by
 obtain ⟨e0, he0⟩ : ∃ e0, e0 = entM w0 [] [S0] := ⟨_, rfl⟩
 have hE := En.refl w0 e0
 have g0 := g0.argM he0 0 (K := [40]) rfl (nosep rfl) rfl
 rw [slices_ContainsFunc_Running_Running] at hF
 refine enter (l := [p0, .func (.func q1) #[] z1]) Try.func68 rfl Try.ntmps68 rfl ?_
 refine CW.sub (L' := [(0, p0), (1, .func (.func q1) #[] z1)]) ⟨rfl, rfl, trivial⟩ ?_
 refine CW.sr fun K1 hK1 => ?_
 refine WL.p (.bool false) rfl rfl ?_
 refine WL.nx hK1 ?_
 refine CW.sr fun K2 hK2 => ?_
 refine WL.p p0 rfl rfl ?_
 refine WL.p (.func (.func q1) #[] z1) rfl rfl ?_
 obtain ⟨y3, q4, hF⟩ := bindE hF
 refine WL.step (OW.call Try.call86 rfl (slices_IndexFunc_Running_Running_ok q4 (g0.baseM hE rfl) (m1.mono fun _ h_ => hE.on he0 rfl MbOk.nil rfl h_))) rfl ?_
 rintro _ w5 ⟨o9, hn_, rfl⟩
 obtain ⟨o6, ev7, hA8⟩ := adopt (o := e0) (ks := []) (Ks := [[40]]) 100 ([]) [100] hn_ MbOk.nil rfl rfl rfl rfl
 have hE := hE.evo ev7 rfl rfl
 refine WL.p (.bool ((decide (y3 ≥ 0)))) rfl rfl ?_
 refine WL.p (.bool ((decide (y3 ≥ 0)))) rfl rfl ?_
 refine WL.nx hK2 ?_
 obtain rfl := Option.some.inj hF
 exact CW.rets (vs := [.bool ((decide (y3 ≥ 0)))]) Try.results68 ⟨rfl, trivial⟩ ⟨_, rfl, _, (hE.rn he0 100 [] rfl rfl), rfl⟩ (fun _ _ h => h)

set_option maxHeartbeats 1000000 in
theorem board_running_ok {a0 : Running} {r : Bool} (hF : board_running a0 = some r) {w0 : World} {p0 : Value} {S0 : Nat → Prop} (g0 : Rv S0 w0 p0 a0) :
    Calls Try.prog 70 #[p0] w0 (Ret fun v w' => ∃ (oc : Cls), En w0 (entM w0 [] [S0]) oc w' ∧ v = .bool r) := by
 obtain ⟨e0, he0⟩ : ∃ e0, e0 = entM w0 [] [S0] := ⟨_, rfl⟩
 have hE := En.refl w0 e0
 have g0 := g0.argM he0 0 (K := [40]) rfl (nosep rfl) rfl
 obtain rfl := op64 g0
 rw [board_running] at hF
 refine enter (l := [.agg #[.int .i64 a0.State, .int .i64 a0.Since, .int .i64 a0.Frequency, .int .i64 a0.Phase]]) Try.func70 rfl Try.ntmps70 rfl ?_
 refine CW.sub (L' := [(0, .agg #[.int .i64 a0.State, .int .i64 a0.Since, .int .i64 a0.Frequency, .int .i64 a0.Phase])]) ⟨rfl, trivial⟩ ?_
 refine CW.sr fun K1 hK1 => ?_
 refine WL.step (OW.boxK (o := e0) 100 [.int .i64 a0.State, .int .i64 a0.Since, .int .i64 a0.Frequency, .int .i64 a0.Phase] rfl rfl) rfl ?_
 rintro _ w4 ⟨pa2, o3, rfl, ev5, hb6⟩
 have hE := hE.evo ev5 rfl rfl
 refine WL.p (.bool false) rfl rfl ?_
 refine WL.nx hK1 ?_
 refine CW.sr fun K7 hK7 => ?_
 refine WL.stepE (OW.fldAddr (FldOk.at f64_0) rfl) rfl ?_
 refine WL.stepE (OW.loadK (off := 0) Int (.int .i64 a0.State) ty3 rfl hb6 rfl rfl) rfl ?_
 obtain ⟨y8, q9, hF⟩ := bindE hF
 refine WL.step (OW.call Try.call59 rfl (board_in_ok q9)) rfl ?_
 rintro _ w10 ⟨o14, hn_, rfl⟩
 obtain ⟨o11, ev12, hA13⟩ := adopt (o := o3) (ks := []) (Ks := []) 101 ([]) [101] hn_ MbOk.nil rfl rfl rfl rfl
 have hE := hE.evo ev12 rfl rfl
 have hb6 := hb6.evo ev12 rfl
 refine WL.p (.bool y8) rfl rfl ?_
 obtain ⟨x15, q16, hF⟩ := bindE hF
 have hJ19 : ∀ (w17 : World) (o18 : Cls), En w0 e0 o18 w17 → NK 21 K7 [(2, .bool x15)] w17 := by
  intro w17 o18  hE
  refine hK7 _ _ ?_
  obtain rfl := Option.some.inj hF
  exact CW.rets (vs := [.bool x15]) Try.results70 ⟨rfl, trivial⟩ ⟨_, rfl, _, (hE.rn he0 100 [] rfl rfl), rfl⟩ (fun _ _ h => h)
 rcases Bool.eq_false_or_eq_true y8 with hc20 | hc20
 ·have q16 := iteT hc20 q16
  refine WL.stepGE rfl rfl rfl hc20 (OW.fldAddr (FldOk.at f64_1) rfl) rfl ?_
  refine WL.stepGE rfl rfl rfl hc20 (OW.loadK (off := 1) Int (.int .i64 a0.Since) ty3 rfl hb6 rfl rfl) rfl ?_
  obtain ⟨y21, q22, q16⟩ := bindE q16
  refine WL.stepG rfl rfl rfl hc20 (OW.call Try.call59 rfl (board_in_ok q22)) rfl ?_
  rintro _ w23 ⟨o27, hn_, rfl⟩
  obtain ⟨o24, ev25, hA26⟩ := adopt (o := o11) (ks := []) (Ks := []) 102 ([]) [102] hn_ MbOk.nil rfl rfl rfl rfl
  have hE := hE.evo ev25 rfl rfl
  have hb6 := hb6.evo ev25 rfl
  refine WL.stepE (OW.pickT rfl hc20 rfl) rfl ?_
  refine WL.p (.bool y21) rfl rfl ?_
  obtain ⟨x28, q29, q16⟩ := bindE q16
  have hJ32 : ∀ (w30 : World) (o31 : Cls), En w0 e0 o31 w30 → NK 21 K7 [(2, .bool x28)] w30 := by
   intro w30 o31  hE
   have e33 := Option.some.inj q16
   subst e33
   exact NK.sb (hJ19 w30 o31 hE) ⟨rfl, trivial⟩
  rcases Bool.eq_false_or_eq_true y21 with hc34 | hc34
  ·have q29 := iteT hc34 q29
   refine WL.stepGE rfl rfl rfl hc34 (OW.fldAddr (FldOk.at f64_2) rfl) rfl ?_
   refine WL.stepGE rfl rfl rfl hc34 (OW.loadK (off := 2) Int (.int .i64 a0.Frequency) ty3 rfl hb6 rfl rfl) rfl ?_
   obtain ⟨y35, q36, q29⟩ := bindE q29
   refine WL.stepG rfl rfl rfl hc34 (OW.call Try.call59 rfl (board_in_ok q36)) rfl ?_
   rintro _ w37 ⟨o41, hn_, rfl⟩
   obtain ⟨o38, ev39, hA40⟩ := adopt (o := o24) (ks := []) (Ks := []) 103 ([]) [103] hn_ MbOk.nil rfl rfl rfl rfl
   have hE := hE.evo ev39 rfl rfl
   have hb6 := hb6.evo ev39 rfl
   refine WL.stepE (OW.pickT rfl hc34 rfl) rfl ?_
   refine WL.p (.bool y35) rfl rfl ?_
   obtain ⟨x42, q43, q29⟩ := bindE q29
   have hJ46 : ∀ (w44 : World) (o45 : Cls), En w0 e0 o45 w44 → NK 21 K7 [(2, .bool x42)] w44 := by
    intro w44 o45  hE
    have e47 := Option.some.inj q29
    subst e47
    exact NK.sb (hJ32 w44 o45 hE) ⟨rfl, trivial⟩
   rcases Bool.eq_false_or_eq_true y35 with hc48 | hc48
   ·have q43 := iteT hc48 q43
    refine WL.stepGE rfl rfl rfl hc48 (OW.fldAddr (FldOk.at f64_3) rfl) rfl ?_
    refine WL.stepGE rfl rfl rfl hc48 (OW.loadK (off := 3) Int (.int .i64 a0.Phase) ty3 rfl hb6 rfl rfl) rfl ?_
    obtain ⟨y49, q50, q43⟩ := bindE q43
    refine WL.stepG rfl rfl rfl hc48 (OW.call Try.call59 rfl (board_in_ok q50)) rfl ?_
    rintro _ w51 ⟨o55, hn_, rfl⟩
    obtain ⟨o52, ev53, hA54⟩ := adopt (o := o38) (ks := []) (Ks := []) 104 ([]) [104] hn_ MbOk.nil rfl rfl rfl rfl
    have hE := hE.evo ev53 rfl rfl
    refine WL.stepE (OW.pickT rfl hc48 rfl) rfl ?_
    refine WL.p (.bool y49) rfl rfl ?_
    refine WL.nil ?_
    have e56 := Option.some.inj q43
    subst e56
    exact NK.sb (hJ46 w51 o52 hE) ⟨rfl, trivial⟩
   ·have q43 := iteF hc48 q43
    refine WL.skipG rfl rfl rfl (by rw [hc48]; rfl) rfl ?_
    refine WL.skipG rfl rfl rfl (by rw [hc48]; rfl) rfl ?_
    refine WL.skipG rfl rfl rfl (by rw [hc48]; rfl) rfl ?_
    refine WL.stepE (OW.pickF rfl hc48 rfl) rfl ?_
    refine WL.p (.bool false) rfl rfl ?_
    refine WL.nil ?_
    have e57 := Option.some.inj q43
    subst e57
    exact NK.sb (hJ46 w37 o38 hE) ⟨rfl, trivial⟩
  ·have q29 := iteF hc34 q29
   refine WL.skipG rfl rfl rfl (by rw [hc34]; rfl) rfl ?_
   refine WL.skipG rfl rfl rfl (by rw [hc34]; rfl) rfl ?_
   refine WL.skipG rfl rfl rfl (by rw [hc34]; rfl) rfl ?_
   refine WL.stepE (OW.pickF rfl hc34 rfl) rfl ?_
   refine WL.p (.bool false) rfl rfl ?_
   refine WL.skipG rfl rfl rfl rfl rfl ?_
   refine WL.skipG rfl rfl rfl rfl rfl ?_
   refine WL.skipG rfl rfl rfl rfl rfl ?_
   refine WL.stepE (OW.pickF rfl rfl rfl) rfl ?_
   refine WL.p (.bool false) rfl rfl ?_
   refine WL.nil ?_
   have e58 := Option.some.inj q29
   subst e58
   exact NK.sb (hJ32 w23 o24 hE) ⟨rfl, trivial⟩
 ·have q16 := iteF hc20 q16
  refine WL.skipG rfl rfl rfl (by rw [hc20]; rfl) rfl ?_
  refine WL.skipG rfl rfl rfl (by rw [hc20]; rfl) rfl ?_
  refine WL.skipG rfl rfl rfl (by rw [hc20]; rfl) rfl ?_
  refine WL.stepE (OW.pickF rfl hc20 rfl) rfl ?_
  refine WL.p (.bool false) rfl rfl ?_
  refine WL.skipG rfl rfl rfl rfl rfl ?_
  refine WL.skipG rfl rfl rfl rfl rfl ?_
  refine WL.skipG rfl rfl rfl rfl rfl ?_
  refine WL.stepE (OW.pickF rfl rfl rfl) rfl ?_
  refine WL.p (.bool false) rfl rfl ?_
  refine WL.skipG rfl rfl rfl rfl rfl ?_
  refine WL.skipG rfl rfl rfl rfl rfl ?_
  refine WL.skipG rfl rfl rfl rfl rfl ?_
  refine WL.stepE (OW.pickF rfl rfl rfl) rfl ?_
  refine WL.p (.bool false) rfl rfl ?_
  refine WL.nil ?_
  have e59 := Option.some.inj q16
  subst e59
  exact NK.sb (hJ19 w10 o11 hE) ⟨rfl, trivial⟩

set_option maxHeartbeats 1000000 in
theorem board_State_1_ok {a0 : Running} {r : Bool} (hF : board_State_1 a0 = some r) {w0 : World} {p0 : Value} {S0 : Nat → Prop} (g0 : Rv S0 w0 p0 a0) :
    Calls Try.prog 69 #[p0] w0 (Ret fun v w' => ∃ (oc : Cls), En w0 (entM w0 [] [S0]) oc w' ∧ v = .bool r) := by
 obtain ⟨e0, he0⟩ : ∃ e0, e0 = entM w0 [] [S0] := ⟨_, rfl⟩
 have hE := En.refl w0 e0
 have g0 := g0.argM he0 0 (K := [40]) rfl (nosep rfl) rfl
 obtain rfl := op64 g0
 rw [board_State_1] at hF
 refine enter (l := [.agg #[.int .i64 a0.State, .int .i64 a0.Since, .int .i64 a0.Frequency, .int .i64 a0.Phase]]) Try.func69 rfl Try.ntmps69 rfl ?_
 refine CW.sub (L' := [(0, .agg #[.int .i64 a0.State, .int .i64 a0.Since, .int .i64 a0.Frequency, .int .i64 a0.Phase])]) ⟨rfl, trivial⟩ ?_
 refine CW.sr fun K1 hK1 => ?_
 refine WL.step (OW.boxK (o := e0) 100 [.int .i64 a0.State, .int .i64 a0.Since, .int .i64 a0.Frequency, .int .i64 a0.Phase] rfl rfl) rfl ?_
 rintro _ w4 ⟨pa2, o3, rfl, ev5, hb6⟩
 have hE := hE.evo ev5 rfl rfl
 refine WL.p (.bool false) rfl rfl ?_
 refine WL.nx hK1 ?_
 refine CW.sr fun K7 hK7 => ?_
 refine WL.stepE (OW.loadK0 Running (.agg #[.int .i64 a0.State, .int .i64 a0.Since, .int .i64 a0.Frequency, .int .i64 a0.Phase]) ty64 rfl hb6 rfl rfl) rfl ?_
 obtain ⟨y8, q9, hF⟩ := bindE hF
 refine WL.step (OW.call Try.call70 rfl (board_running_ok q9 (mk64 (S := In o3 []) (x := a0)))) rfl ?_
 rintro _ w10 ⟨o14, hn_, rfl⟩
 obtain ⟨o11, ev12, hA13⟩ := adopt (o := o3) (ks := []) (Ks := [[]]) 101 ([]) [101] hn_ MbOk.nil rfl rfl rfl rfl
 have hE := hE.evo ev12 rfl rfl
 refine WL.p (.bool (!y8)) rfl rfl ?_
 refine WL.p (.bool (!y8)) rfl rfl ?_
 refine WL.nx hK7 ?_
 obtain rfl := Option.some.inj hF
 exact CW.rets (vs := [.bool (!y8)]) Try.results69 ⟨rfl, trivial⟩ ⟨_, rfl, _, (hE.rn he0 100 [] rfl rfl), rfl⟩ (fun _ _ h => h)

set_option maxHeartbeats 1000000 in
theorem board_closed_ok {a0 : Board} {a1 : Power} {a2 : Int} {r : Int} (hF : board_closed a0 a1 a2 = some r) {w0 : World} {p0 : Value} {S0 : Nat → Prop} (g0 : Rv S0 w0 p0 a0) {p1 : Value} {S1 : Nat → Prop} (g1 : Rv S1 w0 p1 a1) :
    Calls Try.prog 71 #[p0, p1, .int .i64 a2] w0 (Ret fun v w' => ∃ (oc : Cls), En w0 (entM w0 [] [S0, S1]) oc w' ∧ v = .int .i64 r) := by
 obtain ⟨e0, he0⟩ : ∃ e0, e0 = entM w0 [] [S0, S1] := ⟨_, rfl⟩
 have hE := En.refl w0 e0
 have g0 := g0.argM he0 0 (K := [40]) rfl (nosep rfl) rfl
 have g1 := g1.argM he0 1 (K := [40, 41]) rfl (nosep rfl) rfl
 obtain ⟨u1, u2, u3, rfl, h4, h5, h6⟩ := op39 g0
 obtain ⟨u7, u8, u9, u10, rfl, h11, h12, h13, h14⟩ := op45 g1
 rw [board_closed] at hF
 refine enter (l := [.agg #[.int .i64 a0.Buses, u1, u2, u3, .int .i64 a0.Phase, .int .i64 a0.Frequency], .agg #[u7, u8, u9, u10], .int .i64 a2]) Try.func71 rfl Try.ntmps71 rfl ?_
 refine CW.sub (L' := [(0, .agg #[.int .i64 a0.Buses, u1, u2, u3, .int .i64 a0.Phase, .int .i64 a0.Frequency]), (1, .agg #[u7, u8, u9, u10]), (2, .int .i64 a2)]) ⟨rfl, rfl, rfl, trivial⟩ ?_
 refine CW.sr fun K15 hK15 => ?_
 refine WL.step (OW.boxK (o := e0) 100 [.int .i64 a0.Buses, u1, u2, u3, .int .i64 a0.Phase, .int .i64 a0.Frequency] rfl rfl) rfl ?_
 rintro _ w18 ⟨pa16, o17, rfl, ev19, hb20⟩
 have hE := hE.evo ev19 rfl rfl
 refine WL.step (OW.boxK (o := o17) 101 [u7, u8, u9, u10] rfl rfl) rfl ?_
 rintro _ w23 ⟨pa21, o22, rfl, ev24, hb25⟩
 have hE := hE.evo ev24 rfl rfl
 have hb20 := hb20.evo ev24 rfl
 refine WL.p (.int .i64 0) rfl rfl ?_
 refine WL.nx hK15 ?_
 refine CW.sr fun K26 hK26 => ?_
 refine WL.p (.int .i64 0) rfl rfl ?_
 refine WL.nx hK26 ?_
 refine CW.seq fun K27 hK27 => ?_
 refine CW.sr fun K28 hK28 => ?_
 refine WL.stepE (OW.fldAddr (FldOk.at f39_1) rfl) rfl ?_
 refine WL.stepE (OW.loadK (off := 1) (List Breaker) (u1) ty35 rfl hb20 rfl rfl) rfl ?_
 refine WL.stepE (OW.len Try.underlying35 rfl (h4.baseM hE rfl)) rfl ?_
 refine WL.p (.int .i64 0) rfl rfl ?_
 refine WL.nx hK28 ?_
 refine CW.block ?_
 obtain ⟨r33, hl32, hF⟩ := bindE hF
 have hJ36 : ∀ (x31 : Int) (w34 : World) (o35 : Cls), x31 = r33 → En w0 e0 o35 w34 → NK 38 K27 [(7, .int .i64 x31)] w34 := by
  intro x31 w34 o35  e_ hE
  subst e_
  try dsimp only at hF
  refine hK27 _ _ ?_
  refine CW.sr fun K37 hK37 => ?_
  refine WL.p (.int .i64 x31) rfl rfl ?_
  refine WL.p (.int .i64 x31) rfl rfl ?_
  refine WL.nx hK37 ?_
  obtain rfl := Option.some.inj hF
  exact CW.rets (vs := [.int .i64 x31]) Try.results71 ⟨rfl, trivial⟩ ⟨_, rfl, _, (hE.rn he0 100 [] rfl rfl), rfl⟩ (fun _ _ h => h)
 refine CW.sub (L' := [(2, .int .i64 a2), (4, .pointer (some pa21)), (7, .int .i64 0), (11, u1), (12, .int .i64 (len a0.Breakers)), (13, .int .i64 0)]) ⟨rfl, rfl, rfl, rfl, rfl, rfl, trivial⟩ ?_
 refine CW.loop (board_closed_L1 a0 a1 a2) (fun s_ L_ w38 => ∃ (o39 : Cls) (x29 : Int) (x30 : Int), (x29, x30) = s_ ∧ L_ = [(2, .int .i64 a2), (4, .pointer (some pa21)), (7, .int .i64 x29), (11, u1), (12, .int .i64 (len a0.Breakers)), (13, .int .i64 x30)] ∧ En w0 e0 o39 w38 ∧ Bk o39 101 w38 pa21 [u7, u8, u9, u10]) hl32 ?_ ?_
 ·exact ⟨o22, 0, 0, rfl, rfl, hE, hb25⟩
 intro K40 s_ L_ w38 hi_ x41 hx42 hr43 hk44
 obtain ⟨o39, x29, x30, rfl, rfl, hE, hb25⟩ := hi_
 rw [board_closed_L1] at hx42
 refine CW.sr fun K45 hK45 => ?_
 refine WL.p (.bool ((decide (x30 < (len a0.Breakers))))) rfl rfl ?_
 refine WL.nx hK45 ?_
 refine CW.seq fun K46 hK46 => ?_
 refine CW.cond (b := (decide (x30 < (len a0.Breakers)))) rfl (fun hc47 => ?_) (fun hc47 => ?_)
 ·have hx42 := iteT hc47 hx42
  refine CW.skip ?_
  refine hK46 _ _ ?_
  refine CW.seq fun K48 hK48 => ?_
  refine CW.block ?_
  refine CW.sr fun K49 hK49 => ?_
  refine WL.p (.int .i64 x30) rfl rfl ?_
  obtain ⟨y50, q54, hx42⟩ := bindE hx42
  refine WL.stepP (OW.indexAddr Try.underlying35 ty48 rfl (h4.baseM hE rfl) rfl q54) rfl fun _ ⟨pa51, hv_, hp52, he53⟩ => ?_
  subst hv_
  refine WL.stepP (OW.load ty48 rfl hp52) rfl fun v55 h56 => ?_
  obtain rfl := op48 h56
  refine WL.step (OW.allocK (o := o39) Breaker 102 [.int .i64 0, .int .i64 0, .int .i64 0] ty48 rfl) rfl ?_
  rintro _ w59 ⟨pa57, o58, rfl, ev60, hb61⟩
  have hE := hE.evo ev60 rfl rfl
  have hb25 := hb25.evo ev60 rfl
  refine WL.p (.int .i64 x30) rfl rfl ?_
  refine WL.step0 (OW.storeK0 Breaker [.int .i64 y50.Kind, .int .i64 y50.A, .int .i64 y50.B] [.int .i64 y50.Kind, .int .i64 y50.A, .int .i64 y50.B] ty48 rfl rfl hb61 rfl ⟨rfl, rfl, rfl, trivial⟩ rfl rfl rfl) ?_
  rintro _ w62 ⟨ev63, hb61⟩
  have hE := hE.evo ev63 rfl rfl
  have hb25 := hb25.evo ev63 rfl
  refine WL.nx hK49 ?_
  refine CW.sr fun K64 hK64 => ?_
  refine WL.stepE (OW.fldAddr (FldOk.at f48_0) rfl) rfl ?_
  refine WL.stepE (OW.loadK (off := 0) Int (.int .i64 y50.Kind) ty3 rfl hb61 rfl rfl) rfl ?_
  refine WL.p (.bool (((y50.Kind == 3)))) rfl rfl ?_
  refine WL.p (.bool (((y50.Kind == 3)))) rfl rfl ?_
  obtain ⟨x65, q66, hx42⟩ := bindE hx42
  have hJ69 : ∀ (w67 : World) (o68 : Cls), En w0 e0 o68 w67 → Bk o68 101 w67 pa21 [u7, u8, u9, u10] → NK 38 K64 [(2, .int .i64 a2), (4, .pointer (some pa21)), (7, .int .i64 x29), (11, u1), (12, .int .i64 (len a0.Breakers)), (13, .int .i64 x30), (33, .bool x65)] w67 := by
   intro w67 o68  hE hb25
   refine hK64 _ _ ?_
   obtain ⟨x70, q71, hx42⟩ := bindE hx42
   have hJ74 : ∀ (w72 : World) (o73 : Cls), En w0 e0 o73 w72 → Bk o73 101 w72 pa21 [u7, u8, u9, u10] → NK 38 K48 [(2, .int .i64 a2), (4, .pointer (some pa21)), (7, .int .i64 x70), (11, u1), (12, .int .i64 (len a0.Breakers)), (13, .int .i64 x30)] w72 := by
    intro w72 o73  hE hb25
    refine hK48 _ _ ?_
    refine CW.region ?_
    refine WL.p (.int .i64 ((W (x30 + 1)))) rfl rfl ?_
    refine WL.p (.int .i64 ((W (x30 + 1)))) rfl rfl ?_
    refine WL.nil ?_
    exact NK.sb (hk44 _ _ _ (Option.some.inj hx42).symm ⟨o73, x70, (W (x30 + 1)), rfl, rfl, hE, hb25⟩) ⟨rfl, rfl, rfl, rfl, rfl, rfl, trivial⟩
   refine CW.cond (b := x65) rfl (fun hc75 => ?_) (fun hc75 => ?_)
   ·have q71 := iteT hc75 q71
    refine CW.region ?_
    refine WL.p (.int .i64 x29) rfl rfl ?_
    refine WL.p (.int .i64 ((W (x29 + 1)))) rfl rfl ?_
    refine WL.p (.int .i64 ((W (x29 + 1)))) rfl rfl ?_
    refine WL.nil ?_
    have e76 := Option.some.inj q71
    subst e76
    exact NK.sb (hJ74 w67 o68 hE hb25) ⟨rfl, rfl, rfl, rfl, rfl, rfl, trivial⟩
   ·have q71 := iteF hc75 q71
    refine CW.skip ?_
    have e77 := Option.some.inj q71
    subst e77
    exact NK.sb (hJ74 w67 o68 hE hb25) ⟨rfl, rfl, rfl, rfl, rfl, rfl, trivial⟩
  rcases Bool.eq_false_or_eq_true (((y50.Kind == 3))) with hc78 | hc78
  ·have q66 := iteT hc78 q66
   refine WL.stepGE rfl rfl rfl hc78 (OW.fldAddr (FldOk.at f48_2) rfl) rfl ?_
   refine WL.stepGE rfl rfl rfl hc78 (OW.loadK (off := 2) Int (.int .i64 y50.B) ty3 rfl hb61 rfl rfl) rfl ?_
   refine WL.stepGE rfl rfl rfl hc78 (OW.pv (v := (.int .i64 a2)) rfl) rfl ?_
   refine WL.stepGE rfl rfl rfl hc78 (OW.pv (v := (.bool (((y50.B == a2))))) rfl) rfl ?_
   refine WL.stepE (OW.pickT rfl hc78 rfl) rfl ?_
   refine WL.p (.bool (((y50.B == a2)))) rfl rfl ?_
   obtain ⟨x79, q80, q66⟩ := bindE q66
   have hJ83 : ∀ (w81 : World) (o82 : Cls), En w0 e0 o82 w81 → Bk o82 101 w81 pa21 [u7, u8, u9, u10] → Bk o82 102 w81 pa57 [.int .i64 y50.Kind, .int .i64 y50.A, .int .i64 y50.B] → NK 38 K64 [(2, .int .i64 a2), (4, .pointer (some pa21)), (7, .int .i64 x29), (11, u1), (12, .int .i64 (len a0.Breakers)), (13, .int .i64 x30), (22, .pointer (some (pa57.add 2))), (23, .int .i64 y50.B), (24, .int .i64 a2), (25, .bool (((y50.B == a2)))), (33, .bool x79)] w81 := by
    intro w81 o82  hE hb25 hb61
    have e84 := Option.some.inj q66
    subst e84
    exact NK.sb (hJ69 w81 o82 hE hb25) ⟨rfl, rfl, rfl, rfl, rfl, rfl, rfl, trivial⟩
   rcases Bool.eq_false_or_eq_true (((y50.B == a2))) with hc85 | hc85
   ·have q80 := iteT hc85 q80
    refine WL.stepGE rfl rfl rfl hc85 (OW.fldAddr (FldOk.at f45_0) rfl) rfl ?_
    refine WL.stepGE rfl rfl rfl hc85 (OW.loadK (off := 0) (List Bool) (u7) ty41 rfl hb25 rfl rfl) rfl ?_
    refine WL.stepGE rfl rfl rfl hc85 (OW.pv (v := (.int .i64 x30)) rfl) rfl ?_
    obtain ⟨y86, q90, q80⟩ := bindE q80
    refine WL.stepGP rfl rfl rfl hc85 (OW.indexAddr Try.underlying41 ty4 rfl (h11.baseM hE rfl) rfl q90) rfl fun _ ⟨pa87, hv_, hp88, he89⟩ => ?_
    subst hv_
    refine WL.stepGE rfl rfl rfl hc85 (OW.loadB ty4 rfl hp88) rfl ?_
    refine WL.stepE (OW.pickT rfl hc85 rfl) rfl ?_
    refine WL.nil ?_
    have e91 := Option.some.inj q80
    subst e91
    exact NK.sb (hJ83 w62 o58 hE hb25 hb61) ⟨rfl, rfl, rfl, rfl, rfl, rfl, rfl, rfl, rfl, rfl, rfl, trivial⟩
   ·have q80 := iteF hc85 q80
    refine WL.skipG rfl rfl rfl (by rw [hc85]; rfl) rfl ?_
    refine WL.skipG rfl rfl rfl (by rw [hc85]; rfl) rfl ?_
    refine WL.skipG rfl rfl rfl (by rw [hc85]; rfl) rfl ?_
    refine WL.skipG rfl rfl rfl (by rw [hc85]; rfl) rfl ?_
    refine WL.skipG rfl rfl rfl (by rw [hc85]; rfl) rfl ?_
    refine WL.stepE (OW.pickF rfl hc85 rfl) rfl ?_
    refine WL.nil ?_
    have e92 := Option.some.inj q80
    subst e92
    exact NK.sb (hJ83 w62 o58 hE hb25 hb61) ⟨rfl, rfl, rfl, rfl, rfl, rfl, rfl, rfl, rfl, rfl, rfl, trivial⟩
  ·have q66 := iteF hc78 q66
   refine WL.skipG rfl rfl rfl (by rw [hc78]; rfl) rfl ?_
   refine WL.skipG rfl rfl rfl (by rw [hc78]; rfl) rfl ?_
   refine WL.skipG rfl rfl rfl (by rw [hc78]; rfl) rfl ?_
   refine WL.skipG rfl rfl rfl (by rw [hc78]; rfl) rfl ?_
   refine WL.stepE (OW.pickF rfl hc78 rfl) rfl ?_
   refine WL.p (.bool false) rfl rfl ?_
   refine WL.skipG rfl rfl rfl rfl rfl ?_
   refine WL.skipG rfl rfl rfl rfl rfl ?_
   refine WL.skipG rfl rfl rfl rfl rfl ?_
   refine WL.skipG rfl rfl rfl rfl rfl ?_
   refine WL.skipG rfl rfl rfl rfl rfl ?_
   refine WL.stepE (OW.pickF rfl rfl rfl) rfl ?_
   refine WL.nil ?_
   have e93 := Option.some.inj q66
   subst e93
   exact NK.sb (hJ69 w62 o58 hE hb25) ⟨rfl, rfl, rfl, rfl, rfl, rfl, rfl, trivial⟩
 ·have hx42 := iteF hc47 hx42
  refine CW.exit ?_
  exact NK.sb (hJ36 x29 w38 o39 (hr43 _ (Option.some.inj hx42).symm) hE) ⟨rfl, trivial⟩

end Go.Proofs.Ytnpghnnlcakbfaa
