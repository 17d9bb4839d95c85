/- Walks. Written by a program (wip/gen). -/
import Derived.Test.YtdfkfohpgakihaaHw
import Derived.Test.YtdfkfohpgakihaaWk1
import Derived.Test.YtdfkfohpgakihaaWk3
import Derived.Test.YtdfkfohpgakihaaWk5
set_option linter.unusedVariables false
set_option linter.unusedSimpArgs false
namespace Go.Proofs.Ytdfkfohpgakihaa
open Go Go.RowKit Dp

set_option maxRecDepth 100000

set_option maxHeartbeats 1000000 in
theorem board_running_ok {a0 : Running} {r : Bool} (hF : board_running a0 = some r) {w0 : World} {p0 : Value} {S0 : Nat → Prop} (g0 : Rv S0 w0 p0 a0) :
    Calls Try.prog 62 #[p0] w0 (Ret fun v w' => ∃ (oc : Cls), En w0 (entM w0 [] [S0]) oc w' ∧ v = .bool r) := by
 obtain ⟨e0, he0⟩ : ∃ e0, e0 = entM w0 [] [S0] := ⟨_, rfl⟩
 have hE := En.refl w0 e0
 have g0 := g0.argM he0 0 (K := [40]) rfl (nosep rfl) rfl
 obtain rfl := op48 g0
 rw [board_running] at hF
 refine enter (l := [.agg #[.int .i64 a0.State, .int .i64 a0.Since, .int .i64 a0.Frequency, .int .i64 a0.Phase]]) Try.func62 rfl Try.ntmps62 rfl ?_
 refine CW.sub (L' := [(0, .agg #[.int .i64 a0.State, .int .i64 a0.Since, .int .i64 a0.Frequency, .int .i64 a0.Phase])]) ⟨rfl, trivial⟩ ?_
 refine CW.sr fun K1 hK1 => ?_
 refine WL.step (OW.boxK (o := e0) 100 [.int .i64 a0.State, .int .i64 a0.Since, .int .i64 a0.Frequency, .int .i64 a0.Phase] rfl rfl) rfl ?_
 rintro _ w4 ⟨pa2, o3, rfl, ev5, hb6⟩
 have hE := hE.evo ev5 rfl rfl
 refine WL.p (.bool false) rfl rfl ?_
 refine WL.nx hK1 ?_
 refine CW.sr fun K7 hK7 => ?_
 refine WL.stepE (OW.fldAddr (FldOk.at f48_0) rfl) rfl ?_
 refine WL.stepE (OW.loadK (off := 0) Int (.int .i64 a0.State) ty3 rfl hb6 rfl rfl) rfl ?_
 obtain ⟨y8, q9, hF⟩ := bindE hF
 refine WL.step (OW.call Try.call63 rfl (board_in_ok q9)) rfl ?_
 rintro _ w10 ⟨o14, hn_, rfl⟩
 obtain ⟨o11, ev12, hA13⟩ := adopt (o := o3) (ks := []) (Ks := []) 101 ([]) [101] hn_ MbOk.nil rfl rfl rfl rfl
 have hE := hE.evo ev12 rfl rfl
 have hb6 := hb6.evo ev12 rfl
 refine WL.p (.bool y8) rfl rfl ?_
 obtain ⟨x15, q16, hF⟩ := bindE hF
 have hJ19 : ∀ (w17 : World) (o18 : Cls), En w0 e0 o18 w17 → NK 21 K7 [(2, .bool x15)] w17 := by
  intro w17 o18  hE
  refine hK7 _ _ ?_
  obtain rfl := Option.some.inj hF
  exact CW.rets (vs := [.bool x15]) Try.results62 ⟨rfl, trivial⟩ ⟨_, rfl, _, (hE.rn he0 100 [] rfl rfl), rfl⟩ (fun _ _ h => h)
 rcases Bool.eq_false_or_eq_true y8 with hc20 | hc20
 ·have q16 := iteT hc20 q16
  refine WL.stepGE rfl rfl rfl hc20 (OW.fldAddr (FldOk.at f48_1) rfl) rfl ?_
  refine WL.stepGE rfl rfl rfl hc20 (OW.loadK (off := 1) Int (.int .i64 a0.Since) ty3 rfl hb6 rfl rfl) rfl ?_
  obtain ⟨y21, q22, q16⟩ := bindE q16
  refine WL.stepG rfl rfl rfl hc20 (OW.call Try.call63 rfl (board_in_ok q22)) rfl ?_
  rintro _ w23 ⟨o27, hn_, rfl⟩
  obtain ⟨o24, ev25, hA26⟩ := adopt (o := o11) (ks := []) (Ks := []) 102 ([]) [102] hn_ MbOk.nil rfl rfl rfl rfl
  have hE := hE.evo ev25 rfl rfl
  have hb6 := hb6.evo ev25 rfl
  refine WL.stepE (OW.pickT rfl hc20 rfl) rfl ?_
  refine WL.p (.bool y21) rfl rfl ?_
  obtain ⟨x28, q29, q16⟩ := bindE q16
  have hJ32 : ∀ (w30 : World) (o31 : Cls), En w0 e0 o31 w30 → NK 21 K7 [(2, .bool x28)] w30 := by
   intro w30 o31  hE
   have e33 := Option.some.inj q16
   subst e33
   exact NK.sb (hJ19 w30 o31 hE) ⟨rfl, trivial⟩
  rcases Bool.eq_false_or_eq_true y21 with hc34 | hc34
  ·have q29 := iteT hc34 q29
   refine WL.stepGE rfl rfl rfl hc34 (OW.fldAddr (FldOk.at f48_2) rfl) rfl ?_
   refine WL.stepGE rfl rfl rfl hc34 (OW.loadK (off := 2) Int (.int .i64 a0.Frequency) ty3 rfl hb6 rfl rfl) rfl ?_
   obtain ⟨y35, q36, q29⟩ := bindE q29
   refine WL.stepG rfl rfl rfl hc34 (OW.call Try.call63 rfl (board_in_ok q36)) rfl ?_
   rintro _ w37 ⟨o41, hn_, rfl⟩
   obtain ⟨o38, ev39, hA40⟩ := adopt (o := o24) (ks := []) (Ks := []) 103 ([]) [103] hn_ MbOk.nil rfl rfl rfl rfl
   have hE := hE.evo ev39 rfl rfl
   have hb6 := hb6.evo ev39 rfl
   refine WL.stepE (OW.pickT rfl hc34 rfl) rfl ?_
   refine WL.p (.bool y35) rfl rfl ?_
   obtain ⟨x42, q43, q29⟩ := bindE q29
   have hJ46 : ∀ (w44 : World) (o45 : Cls), En w0 e0 o45 w44 → NK 21 K7 [(2, .bool x42)] w44 := by
    intro w44 o45  hE
    have e47 := Option.some.inj q29
    subst e47
    exact NK.sb (hJ32 w44 o45 hE) ⟨rfl, trivial⟩
   rcases Bool.eq_false_or_eq_true y35 with hc48 | hc48
   ·have q43 := iteT hc48 q43
    refine WL.stepGE rfl rfl rfl hc48 (OW.fldAddr (FldOk.at f48_3) rfl) rfl ?_
    refine WL.stepGE rfl rfl rfl hc48 (OW.loadK (off := 3) Int (.int .i64 a0.Phase) ty3 rfl hb6 rfl rfl) rfl ?_
    obtain ⟨y49, q50, q43⟩ := bindE q43
    refine WL.stepG rfl rfl rfl hc48 (OW.call Try.call63 rfl (board_in_ok q50)) rfl ?_
    rintro _ w51 ⟨o55, hn_, rfl⟩
    obtain ⟨o52, ev53, hA54⟩ := adopt (o := o38) (ks := []) (Ks := []) 104 ([]) [104] hn_ MbOk.nil rfl rfl rfl rfl
    have hE := hE.evo ev53 rfl rfl
    refine WL.stepE (OW.pickT rfl hc48 rfl) rfl ?_
    refine WL.p (.bool y49) rfl rfl ?_
    refine WL.nil ?_
    have e56 := Option.some.inj q43
    subst e56
    exact NK.sb (hJ46 w51 o52 hE) ⟨rfl, trivial⟩
   ·have q43 := iteF hc48 q43
    refine WL.skipG rfl rfl rfl (by rw [hc48]; rfl) rfl ?_
    refine WL.skipG rfl rfl rfl (by rw [hc48]; rfl) rfl ?_
    refine WL.skipG rfl rfl rfl (by rw [hc48]; rfl) rfl ?_
    refine WL.stepE (OW.pickF rfl hc48 rfl) rfl ?_
    refine WL.p (.bool false) rfl rfl ?_
    refine WL.nil ?_
    have e57 := Option.some.inj q43
    subst e57
    exact NK.sb (hJ46 w37 o38 hE) ⟨rfl, trivial⟩
  ·have q29 := iteF hc34 q29
   refine WL.skipG rfl rfl rfl (by rw [hc34]; rfl) rfl ?_
   refine WL.skipG rfl rfl rfl (by rw [hc34]; rfl) rfl ?_
   refine WL.skipG rfl rfl rfl (by rw [hc34]; rfl) rfl ?_
   refine WL.stepE (OW.pickF rfl hc34 rfl) rfl ?_
   refine WL.p (.bool false) rfl rfl ?_
   refine WL.skipG rfl rfl rfl rfl rfl ?_
   refine WL.skipG rfl rfl rfl rfl rfl ?_
   refine WL.skipG rfl rfl rfl rfl rfl ?_
   refine WL.stepE (OW.pickF rfl rfl rfl) rfl ?_
   refine WL.p (.bool false) rfl rfl ?_
   refine WL.nil ?_
   have e58 := Option.some.inj q29
   subst e58
   exact NK.sb (hJ32 w23 o24 hE) ⟨rfl, trivial⟩
 ·have q16 := iteF hc20 q16
  refine WL.skipG rfl rfl rfl (by rw [hc20]; rfl) rfl ?_
  refine WL.skipG rfl rfl rfl (by rw [hc20]; rfl) rfl ?_
  refine WL.skipG rfl rfl rfl (by rw [hc20]; rfl) rfl ?_
  refine WL.stepE (OW.pickF rfl hc20 rfl) rfl ?_
  refine WL.p (.bool false) rfl rfl ?_
  refine WL.skipG rfl rfl rfl rfl rfl ?_
  refine WL.skipG rfl rfl rfl rfl rfl ?_
  refine WL.skipG rfl rfl rfl rfl rfl ?_
  refine WL.stepE (OW.pickF rfl rfl rfl) rfl ?_
  refine WL.p (.bool false) rfl rfl ?_
  refine WL.skipG rfl rfl rfl rfl rfl ?_
  refine WL.skipG rfl rfl rfl rfl rfl ?_
  refine WL.skipG rfl rfl rfl rfl rfl ?_
  refine WL.stepE (OW.pickF rfl rfl rfl) rfl ?_
  refine WL.p (.bool false) rfl rfl ?_
  refine WL.nil ?_
  have e59 := Option.some.inj q16
  subst e59
  exact NK.sb (hJ19 w10 o11 hE) ⟨rfl, trivial⟩

set_option maxHeartbeats 1000000 in
theorem board_State_1_ok {a0 : Running} {r : Bool} (hF : board_State_1 a0 = some r) {w0 : World} {p0 : Value} {S0 : Nat → Prop} (g0 : Rv S0 w0 p0 a0) :
    Calls Try.prog 61 #[p0] w0 (Ret fun v w' => ∃ (oc : Cls), En w0 (entM w0 [] [S0]) oc w' ∧ v = .bool r) := by
 obtain ⟨e0, he0⟩ : ∃ e0, e0 = entM w0 [] [S0] := ⟨_, rfl⟩
 have hE := En.refl w0 e0
 have g0 := g0.argM he0 0 (K := [40]) rfl (nosep rfl) rfl
 obtain rfl := op48 g0
 rw [board_State_1] at hF
 refine enter (l := [.agg #[.int .i64 a0.State, .int .i64 a0.Since, .int .i64 a0.Frequency, .int .i64 a0.Phase]]) Try.func61 rfl Try.ntmps61 rfl ?_
 refine CW.sub (L' := [(0, .agg #[.int .i64 a0.State, .int .i64 a0.Since, .int .i64 a0.Frequency, .int .i64 a0.Phase])]) ⟨rfl, trivial⟩ ?_
 refine CW.sr fun K1 hK1 => ?_
 refine WL.step (OW.boxK (o := e0) 100 [.int .i64 a0.State, .int .i64 a0.Since, .int .i64 a0.Frequency, .int .i64 a0.Phase] rfl rfl) rfl ?_
 rintro _ w4 ⟨pa2, o3, rfl, ev5, hb6⟩
 have hE := hE.evo ev5 rfl rfl
 refine WL.p (.bool false) rfl rfl ?_
 refine WL.nx hK1 ?_
 refine CW.sr fun K7 hK7 => ?_
 refine WL.stepE (OW.loadK0 Running (.agg #[.int .i64 a0.State, .int .i64 a0.Since, .int .i64 a0.Frequency, .int .i64 a0.Phase]) ty48 rfl hb6 rfl rfl) rfl ?_
 obtain ⟨y8, q9, hF⟩ := bindE hF
 refine WL.step (OW.call Try.call62 rfl (board_running_ok q9 (mk48 (S := In o3 []) (x := a0)))) rfl ?_
 rintro _ w10 ⟨o14, hn_, rfl⟩
 obtain ⟨o11, ev12, hA13⟩ := adopt (o := o3) (ks := []) (Ks := [[]]) 101 ([]) [101] hn_ MbOk.nil rfl rfl rfl rfl
 have hE := hE.evo ev12 rfl rfl
 refine WL.p (.bool (!y8)) rfl rfl ?_
 refine WL.p (.bool (!y8)) rfl rfl ?_
 refine WL.nx hK7 ?_
 obtain rfl := Option.some.inj hF
 exact CW.rets (vs := [.bool (!y8)]) Try.results61 ⟨rfl, trivial⟩ ⟨_, rfl, _, (hE.rn he0 100 [] rfl rfl), rfl⟩ (fun _ _ h => h)

set_option maxHeartbeats 1000000 in
theorem board_closed_ok {a0 : Board} {a1 : Power} {a2 : Int} {r : Int} (hF : board_closed a0 a1 a2 = some r) {w0 : World} {p0 : Value} {S0 : Nat → Prop} (g0 : Rv S0 w0 p0 a0) {p1 : Value} {S1 : Nat → Prop} (g1 : Rv S1 w0 p1 a1) :
    Calls Try.prog 64 #[p0, p1, .int .i64 a2] w0 (Ret fun v w' => ∃ (oc : Cls), En w0 (entM w0 [] [S0, S1]) oc w' ∧ v = .int .i64 r) := by
 obtain ⟨e0, he0⟩ : ∃ e0, e0 = entM w0 [] [S0, S1] := ⟨_, rfl⟩
 have hE := En.refl w0 e0
 have g0 := g0.argM he0 0 (K := [40]) rfl (nosep rfl) rfl
 have g1 := g1.argM he0 1 (K := [40, 41]) rfl (nosep rfl) rfl
 obtain ⟨u1, u2, u3, rfl, h4, h5, h6⟩ := op29 g0
 obtain ⟨u7, u8, u9, u10, rfl, h11, h12, h13, h14⟩ := op34 g1
 rw [board_closed] at hF
 refine enter (l := [.agg #[.int .i64 a0.Buses, u1, u2, u3, .int .i64 a0.Phase, .int .i64 a0.Frequency], .agg #[u7, u8, u9, u10], .int .i64 a2]) Try.func64 rfl Try.ntmps64 rfl ?_
 refine CW.sub (L' := [(0, .agg #[.int .i64 a0.Buses, u1, u2, u3, .int .i64 a0.Phase, .int .i64 a0.Frequency]), (1, .agg #[u7, u8, u9, u10]), (2, .int .i64 a2)]) ⟨rfl, rfl, rfl, trivial⟩ ?_
 refine CW.sr fun K15 hK15 => ?_
 refine WL.step (OW.boxK (o := e0) 100 [.int .i64 a0.Buses, u1, u2, u3, .int .i64 a0.Phase, .int .i64 a0.Frequency] rfl rfl) rfl ?_
 rintro _ w18 ⟨pa16, o17, rfl, ev19, hb20⟩
 have hE := hE.evo ev19 rfl rfl
 refine WL.step (OW.boxK (o := o17) 101 [u7, u8, u9, u10] rfl rfl) rfl ?_
 rintro _ w23 ⟨pa21, o22, rfl, ev24, hb25⟩
 have hE := hE.evo ev24 rfl rfl
 have hb20 := hb20.evo ev24 rfl
 refine WL.p (.int .i64 0) rfl rfl ?_
 refine WL.nx hK15 ?_
 refine CW.sr fun K26 hK26 => ?_
 refine WL.p (.int .i64 0) rfl rfl ?_
 refine WL.nx hK26 ?_
 refine CW.seq fun K27 hK27 => ?_
 refine CW.sr fun K28 hK28 => ?_
 refine WL.stepE (OW.fldAddr (FldOk.at f29_1) rfl) rfl ?_
 refine WL.stepE (OW.loadK (off := 1) (List Breaker) (u1) ty25 rfl hb20 rfl rfl) rfl ?_
 refine WL.stepE (OW.len Try.underlying25 rfl (h4.baseM hE rfl)) rfl ?_
 refine WL.p (.int .i64 0) rfl rfl ?_
 refine WL.nx hK28 ?_
 refine CW.block ?_
 obtain ⟨r33, hl32, hF⟩ := bindE hF
 have hJ36 : ∀ (x31 : Int) (w34 : World) (o35 : Cls), x31 = r33 → En w0 e0 o35 w34 → NK 38 K27 [(7, .int .i64 x31)] w34 := by
  intro x31 w34 o35  e_ hE
  subst e_
  try dsimp only at hF
  refine hK27 _ _ ?_
  refine CW.sr fun K37 hK37 => ?_
  refine WL.p (.int .i64 x31) rfl rfl ?_
  refine WL.p (.int .i64 x31) rfl rfl ?_
  refine WL.nx hK37 ?_
  obtain rfl := Option.some.inj hF
  exact CW.rets (vs := [.int .i64 x31]) Try.results64 ⟨rfl, trivial⟩ ⟨_, rfl, _, (hE.rn he0 100 [] rfl rfl), rfl⟩ (fun _ _ h => h)
 refine CW.sub (L' := [(2, .int .i64 a2), (4, .pointer (some pa21)), (7, .int .i64 0), (11, u1), (12, .int .i64 (len a0.Breakers)), (13, .int .i64 0)]) ⟨rfl, rfl, rfl, rfl, rfl, rfl, trivial⟩ ?_
 refine CW.loop (board_closed_L1 a0 a1 a2) (fun s_ L_ w38 => ∃ (o39 : Cls) (x29 : Int) (x30 : Int), (x29, x30) = s_ ∧ L_ = [(2, .int .i64 a2), (4, .pointer (some pa21)), (7, .int .i64 x29), (11, u1), (12, .int .i64 (len a0.Breakers)), (13, .int .i64 x30)] ∧ En w0 e0 o39 w38 ∧ Bk o39 101 w38 pa21 [u7, u8, u9, u10]) hl32 ?_ ?_
 ·exact ⟨o22, 0, 0, rfl, rfl, hE, hb25⟩
 intro K40 s_ L_ w38 hi_ x41 hx42 hr43 hk44
 obtain ⟨o39, x29, x30, rfl, rfl, hE, hb25⟩ := hi_
 rw [board_closed_L1] at hx42
 refine CW.sr fun K45 hK45 => ?_
 refine WL.p (.bool ((decide (x30 < (len a0.Breakers))))) rfl rfl ?_
 refine WL.nx hK45 ?_
 refine CW.seq fun K46 hK46 => ?_
 refine CW.cond (b := (decide (x30 < (len a0.Breakers)))) rfl (fun hc47 => ?_) (fun hc47 => ?_)
 ·have hx42 := iteT hc47 hx42
  refine CW.skip ?_
  refine hK46 _ _ ?_
  refine CW.seq fun K48 hK48 => ?_
  refine CW.block ?_
  refine CW.sr fun K49 hK49 => ?_
  refine WL.p (.int .i64 x30) rfl rfl ?_
  obtain ⟨y50, q54, hx42⟩ := bindE hx42
  refine WL.stepP (OW.indexAddr Try.underlying25 ty59 rfl (h4.baseM hE rfl) rfl q54) rfl fun _ ⟨pa51, hv_, hp52, he53⟩ => ?_
  subst hv_
  refine WL.stepP (OW.load ty59 rfl hp52) rfl fun v55 h56 => ?_
  obtain rfl := op59 h56
  refine WL.step (OW.allocK (o := o39) Breaker 102 [.int .i64 0, .int .i64 0, .int .i64 0] ty59 rfl) rfl ?_
  rintro _ w59 ⟨pa57, o58, rfl, ev60, hb61⟩
  have hE := hE.evo ev60 rfl rfl
  have hb25 := hb25.evo ev60 rfl
  refine WL.p (.int .i64 x30) rfl rfl ?_
  refine WL.step0 (OW.storeK0 Breaker [.int .i64 y50.Kind, .int .i64 y50.A, .int .i64 y50.B] [.int .i64 y50.Kind, .int .i64 y50.A, .int .i64 y50.B] ty59 rfl rfl hb61 rfl ⟨rfl, rfl, rfl, trivial⟩ rfl rfl rfl) ?_
  rintro _ w62 ⟨ev63, hb61⟩
  have hE := hE.evo ev63 rfl rfl
  have hb25 := hb25.evo ev63 rfl
  refine WL.nx hK49 ?_
  refine CW.sr fun K64 hK64 => ?_
  refine WL.stepE (OW.fldAddr (FldOk.at f59_0) rfl) rfl ?_
  refine WL.stepE (OW.loadK (off := 0) Int (.int .i64 y50.Kind) ty3 rfl hb61 rfl rfl) rfl ?_
  refine WL.p (.bool (((y50.Kind == 3)))) rfl rfl ?_
  refine WL.p (.bool (((y50.Kind == 3)))) rfl rfl ?_
  obtain ⟨x65, q66, hx42⟩ := bindE hx42
  have hJ69 : ∀ (w67 : World) (o68 : Cls), En w0 e0 o68 w67 → Bk o68 101 w67 pa21 [u7, u8, u9, u10] → NK 38 K64 [(2, .int .i64 a2), (4, .pointer (some pa21)), (7, .int .i64 x29), (11, u1), (12, .int .i64 (len a0.Breakers)), (13, .int .i64 x30), (33, .bool x65)] w67 := by
   intro w67 o68  hE hb25
   refine hK64 _ _ ?_
   obtain ⟨x70, q71, hx42⟩ := bindE hx42
   have hJ74 : ∀ (w72 : World) (o73 : Cls), En w0 e0 o73 w72 → Bk o73 101 w72 pa21 [u7, u8, u9, u10] → NK 38 K48 [(2, .int .i64 a2), (4, .pointer (some pa21)), (7, .int .i64 x70), (11, u1), (12, .int .i64 (len a0.Breakers)), (13, .int .i64 x30)] w72 := by
    intro w72 o73  hE hb25
    refine hK48 _ _ ?_
    refine CW.region ?_
    refine WL.p (.int .i64 ((W (x30 + 1)))) rfl rfl ?_
    refine WL.p (.int .i64 ((W (x30 + 1)))) rfl rfl ?_
    refine WL.nil ?_
    exact NK.sb (hk44 _ _ _ (Option.some.inj hx42).symm ⟨o73, x70, (W (x30 + 1)), rfl, rfl, hE, hb25⟩) ⟨rfl, rfl, rfl, rfl, rfl, rfl, trivial⟩
   refine CW.cond (b := x65) rfl (fun hc75 => ?_) (fun hc75 => ?_)
   ·have q71 := iteT hc75 q71
    refine CW.region ?_
    refine WL.p (.int .i64 x29) rfl rfl ?_
    refine WL.p (.int .i64 ((W (x29 + 1)))) rfl rfl ?_
    refine WL.p (.int .i64 ((W (x29 + 1)))) rfl rfl ?_
    refine WL.nil ?_
    have e76 := Option.some.inj q71
    subst e76
    exact NK.sb (hJ74 w67 o68 hE hb25) ⟨rfl, rfl, rfl, rfl, rfl, rfl, trivial⟩
   ·have q71 := iteF hc75 q71
    refine CW.skip ?_
    have e77 := Option.some.inj q71
    subst e77
    exact NK.sb (hJ74 w67 o68 hE hb25) ⟨rfl, rfl, rfl, rfl, rfl, rfl, trivial⟩
  rcases Bool.eq_false_or_eq_true (((y50.Kind == 3))) with hc78 | hc78
  ·have q66 := iteT hc78 q66
   refine WL.stepGE rfl rfl rfl hc78 (OW.fldAddr (FldOk.at f59_2) rfl) rfl ?_
   refine WL.stepGE rfl rfl rfl hc78 (OW.loadK (off := 2) Int (.int .i64 y50.B) ty3 rfl hb61 rfl rfl) rfl ?_
   refine WL.stepGE rfl rfl rfl hc78 (OW.pv (v := (.int .i64 a2)) rfl) rfl ?_
   refine WL.stepGE rfl rfl rfl hc78 (OW.pv (v := (.bool (((y50.B == a2))))) rfl) rfl ?_
   refine WL.stepE (OW.pickT rfl hc78 rfl) rfl ?_
   refine WL.p (.bool (((y50.B == a2)))) rfl rfl ?_
   obtain ⟨x79, q80, q66⟩ := bindE q66
   have hJ83 : ∀ (w81 : World) (o82 : Cls), En w0 e0 o82 w81 → Bk o82 101 w81 pa21 [u7, u8, u9, u10] → Bk o82 102 w81 pa57 [.int .i64 y50.Kind, .int .i64 y50.A, .int .i64 y50.B] → NK 38 K64 [(2, .int .i64 a2), (4, .pointer (some pa21)), (7, .int .i64 x29), (11, u1), (12, .int .i64 (len a0.Breakers)), (13, .int .i64 x30), (22, .pointer (some (pa57.add 2))), (23, .int .i64 y50.B), (24, .int .i64 a2), (25, .bool (((y50.B == a2)))), (33, .bool x79)] w81 := by
    intro w81 o82  hE hb25 hb61
    have e84 := Option.some.inj q66
    subst e84
    exact NK.sb (hJ69 w81 o82 hE hb25) ⟨rfl, rfl, rfl, rfl, rfl, rfl, rfl, trivial⟩
   rcases Bool.eq_false_or_eq_true (((y50.B == a2))) with hc85 | hc85
   ·have q80 := iteT hc85 q80
    refine WL.stepGE rfl rfl rfl hc85 (OW.fldAddr (FldOk.at f34_0) rfl) rfl ?_
    refine WL.stepGE rfl rfl rfl hc85 (OW.loadK (off := 0) (List Bool) (u7) ty30 rfl hb25 rfl rfl) rfl ?_
    refine WL.stepGE rfl rfl rfl hc85 (OW.pv (v := (.int .i64 x30)) rfl) rfl ?_
    obtain ⟨y86, q90, q80⟩ := bindE q80
    refine WL.stepGP rfl rfl rfl hc85 (OW.indexAddr Try.underlying30 ty4 rfl (h11.baseM hE rfl) rfl q90) rfl fun _ ⟨pa87, hv_, hp88, he89⟩ => ?_
    subst hv_
    refine WL.stepGE rfl rfl rfl hc85 (OW.loadB ty4 rfl hp88) rfl ?_
    refine WL.stepE (OW.pickT rfl hc85 rfl) rfl ?_
    refine WL.nil ?_
    have e91 := Option.some.inj q80
    subst e91
    exact NK.sb (hJ83 w62 o58 hE hb25 hb61) ⟨rfl, rfl, rfl, rfl, rfl, rfl, rfl, rfl, rfl, rfl, rfl, trivial⟩
   ·have q80 := iteF hc85 q80
    refine WL.skipG rfl rfl rfl (by rw [hc85]; rfl) rfl ?_
    refine WL.skipG rfl rfl rfl (by rw [hc85]; rfl) rfl ?_
    refine WL.skipG rfl rfl rfl (by rw [hc85]; rfl) rfl ?_
    refine WL.skipG rfl rfl rfl (by rw [hc85]; rfl) rfl ?_
    refine WL.skipG rfl rfl rfl (by rw [hc85]; rfl) rfl ?_
    refine WL.stepE (OW.pickF rfl hc85 rfl) rfl ?_
    refine WL.nil ?_
    have e92 := Option.some.inj q80
    subst e92
    exact NK.sb (hJ83 w62 o58 hE hb25 hb61) ⟨rfl, rfl, rfl, rfl, rfl, rfl, rfl, rfl, rfl, rfl, rfl, trivial⟩
  ·have q66 := iteF hc78 q66
   refine WL.skipG rfl rfl rfl (by rw [hc78]; rfl) rfl ?_
   refine WL.skipG rfl rfl rfl (by rw [hc78]; rfl) rfl ?_
   refine WL.skipG rfl rfl rfl (by rw [hc78]; rfl) rfl ?_
   refine WL.skipG rfl rfl rfl (by rw [hc78]; rfl) rfl ?_
   refine WL.stepE (OW.pickF rfl hc78 rfl) rfl ?_
   refine WL.p (.bool false) rfl rfl ?_
   refine WL.skipG rfl rfl rfl rfl rfl ?_
   refine WL.skipG rfl rfl rfl rfl rfl ?_
   refine WL.skipG rfl rfl rfl rfl rfl ?_
   refine WL.skipG rfl rfl rfl rfl rfl ?_
   refine WL.skipG rfl rfl rfl rfl rfl ?_
   refine WL.stepE (OW.pickF rfl rfl rfl) rfl ?_
   refine WL.nil ?_
   have e93 := Option.some.inj q66
   subst e93
   exact NK.sb (hJ69 w62 o58 hE hb25) ⟨rfl, rfl, rfl, rfl, rfl, rfl, rfl, trivial⟩
 ·have hx42 := iteF hc47 hx42
  refine CW.exit ?_
  exact NK.sb (hJ36 x29 w38 o39 (hr43 _ (Option.some.inj hx42).symm) hE) ⟨rfl, trivial⟩

set_option maxHeartbeats 1000000 in
theorem board_State_ok {a0 : Board} {a1 : Power} {r : Int} (hF : board_State a0 a1 = some r) {w0 : World} {p0 : Value} {S0 : Nat → Prop} (g0 : Rv S0 w0 p0 a0) {p1 : Value} {S1 : Nat → Prop} (g1 : Rv S1 w0 p1 a1) :
    Calls Try.prog 34 #[p0, p1] w0 (Ret fun v w' => ∃ (oc : Cls), En w0 (entM w0 [] [S0, S1]) oc w' ∧ v = .int .i64 r) := by
 obtain ⟨e0, he0⟩ : ∃ e0, e0 = entM w0 [] [S0, S1] := ⟨_, rfl⟩
 have hE := En.refl w0 e0
 have g0 := g0.argM he0 0 (K := [40]) rfl (nosep rfl) rfl
 have g1 := g1.argM he0 1 (K := [40, 41]) rfl (nosep rfl) rfl
 obtain ⟨u1, u2, u3, rfl, h4, h5, h6⟩ := op29 g0
 obtain ⟨u7, u8, u9, u10, rfl, h11, h12, h13, h14⟩ := op34 g1
 rw [board_State] at hF
 refine enter (l := [.agg #[.int .i64 a0.Buses, u1, u2, u3, .int .i64 a0.Phase, .int .i64 a0.Frequency], .agg #[u7, u8, u9, u10]]) Try.func34 rfl Try.ntmps34 rfl ?_
 refine CW.sub (L' := [(0, .agg #[.int .i64 a0.Buses, u1, u2, u3, .int .i64 a0.Phase, .int .i64 a0.Frequency]), (1, .agg #[u7, u8, u9, u10])]) ⟨rfl, rfl, trivial⟩ ?_
 refine CW.sr fun K15 hK15 => ?_
 refine WL.step (OW.boxK (o := e0) 100 [.int .i64 a0.Buses, u1, u2, u3, .int .i64 a0.Phase, .int .i64 a0.Frequency] rfl rfl) rfl ?_
 rintro _ w18 ⟨pa16, o17, rfl, ev19, hb20⟩
 have hE := hE.evo ev19 rfl rfl
 refine WL.step (OW.boxK (o := o17) 101 [u7, u8, u9, u10] rfl rfl) rfl ?_
 rintro _ w23 ⟨pa21, o22, rfl, ev24, hb25⟩
 have hE := hE.evo ev24 rfl rfl
 have hb20 := hb20.evo ev24 rfl
 refine WL.p (.int .i64 0) rfl rfl ?_
 refine WL.nx hK15 ?_
 refine CW.seq fun K26 hK26 => ?_
 refine CW.sr fun K27 hK27 => ?_
 refine WL.stepE (OW.loadK0 Board (.agg #[.int .i64 a0.Buses, u1, u2, u3, .int .i64 a0.Phase, .int .i64 a0.Frequency]) ty29 rfl hb20 rfl rfl) rfl ?_
 obtain ⟨y28, q29, hF⟩ := bindE hF
 refine WL.step (OW.call Try.call58 rfl (board_Check_ok q29 (mk29 (x := a0) (h4.baseM hE rfl) (h5.baseM hE rfl) (h6.baseM hE rfl)))) rfl ?_
 rintro _ w30 ⟨o34, hn_, rfl⟩
 obtain ⟨o31, ev32, hA33⟩ := adopt (o := o22) (ks := []) (Ks := [[40]]) 102 ([]) [102] hn_ MbOk.nil rfl rfl rfl rfl
 have hE := hE.evo ev32 rfl rfl
 have hb20 := hb20.evo ev32 rfl
 have hb25 := hb25.evo ev32 rfl
 refine WL.p (.int .i64 y28) rfl rfl ?_
 refine WL.nx hK27 ?_
 refine CW.sr fun K35 hK35 => ?_
 refine WL.p (.int .i64 y28) rfl rfl ?_
 refine WL.p (.bool (((y28 != 0)))) rfl rfl ?_
 refine WL.nx hK35 ?_
 refine CW.cond (b := ((y28 != 0))) rfl (fun hc36 => ?_) (fun hc36 => ?_)
 ·have hF := iteT hc36 hF
  refine CW.sr fun K37 hK37 => ?_
  refine WL.p (.int .i64 y28) rfl rfl ?_
  refine WL.p (.int .i64 y28) rfl rfl ?_
  refine WL.nx hK37 ?_
  obtain rfl := Option.some.inj hF
  exact CW.rets (vs := [.int .i64 y28]) Try.results34 ⟨rfl, trivial⟩ ⟨_, rfl, _, (hE.rn he0 100 [] rfl rfl), rfl⟩ (fun _ _ h => h)
 ·have hF := iteF hc36 hF
  refine CW.skip ?_
  refine hK26 _ _ ?_
  refine CW.seq fun K38 hK38 => ?_
  refine CW.sr fun K39 hK39 => ?_
  refine WL.stepE (OW.fldAddr (FldOk.at f34_0) rfl) rfl ?_
  refine WL.stepE (OW.loadK (off := 0) (List Bool) (u7) ty30 rfl hb25 rfl rfl) rfl ?_
  refine WL.stepE (OW.len Try.underlying30 rfl (h11.baseM hE rfl)) rfl ?_
  refine WL.stepE (OW.fldAddr (FldOk.at f29_1) rfl) rfl ?_
  refine WL.stepE (OW.loadK (off := 1) (List Breaker) (u1) ty25 rfl hb20 rfl rfl) rfl ?_
  refine WL.stepE (OW.len Try.underlying25 rfl (h4.baseM hE rfl)) rfl ?_
  refine WL.p (.bool ((((len a1.Closed) != (len a0.Breakers))))) rfl rfl ?_
  refine WL.p (.bool ((((len a1.Closed) != (len a0.Breakers))))) rfl rfl ?_
  obtain ⟨x40, q41, hF⟩ := bindE hF
  have hJ44 : ∀ (w42 : World) (o43 : Cls), En w0 e0 o43 w42 → Bk o43 100 w42 pa16 [.int .i64 a0.Buses, u1, u2, u3, .int .i64 a0.Phase, .int .i64 a0.Frequency] → Bk o43 101 w42 pa21 [u7, u8, u9, u10] → NK 78 K39 [(2, .pointer (some pa16)), (3, .pointer (some pa21)), (38, .bool x40)] w42 := by
   intro w42 o43  hE hb20 hb25
   refine hK39 _ _ ?_
   refine CW.cond (b := x40) rfl (fun hc45 => ?_) (fun hc45 => ?_)
   ·have hF := iteT hc45 hF
    refine CW.sr fun K46 hK46 => ?_
    refine WL.p (.int .i64 8) rfl rfl ?_
    refine WL.nx hK46 ?_
    obtain rfl := Option.some.inj hF
    exact CW.rets (vs := [.int .i64 8]) Try.results34 ⟨rfl, trivial⟩ ⟨_, rfl, _, (hE.rn he0 100 [] rfl rfl), rfl⟩ (fun _ _ h => h)
   ·have hF := iteF hc45 hF
    refine CW.skip ?_
    refine hK38 _ _ ?_
    refine CW.sr fun K47 hK47 => ?_
    refine WL.stepE (OW.loadK0 Board (.agg #[.int .i64 a0.Buses, u1, u2, u3, .int .i64 a0.Phase, .int .i64 a0.Frequency]) ty29 rfl hb20 rfl rfl) rfl ?_
    refine WL.stepE (OW.fldAddr (FldOk.at f34_3) rfl) rfl ?_
    refine WL.stepE (OW.loadK (off := 3) (List Part) (u10) ty32 rfl hb25 rfl rfl) rfl ?_
    obtain ⟨y48, q49, hF⟩ := bindE hF
    refine WL.step (OW.call Try.call59 rfl (board_broken_ok q49 (mk29 (x := a0) (h4.baseM hE rfl) (h5.baseM hE rfl) (h6.baseM hE rfl)) (h14.baseM hE rfl))) rfl ?_
    rintro _ w50 ⟨o54, hn_, rfl⟩
    obtain ⟨o51, ev52, hA53⟩ := adopt (o := o43) (ks := []) (Ks := [[40], [40, 41]]) 103 ([]) [103] hn_ MbOk.nil rfl rfl rfl rfl
    have hE := hE.evo ev52 rfl rfl
    have hb20 := hb20.evo ev52 rfl
    have hb25 := hb25.evo ev52 rfl
    refine WL.p (.bool y48) rfl rfl ?_
    obtain ⟨x55, q56, hF⟩ := bindE hF
    have hJ59 : ∀ (w57 : World) (o58 : Cls), En w0 e0 o58 w57 → Bk o58 100 w57 pa16 [.int .i64 a0.Buses, u1, u2, u3, .int .i64 a0.Phase, .int .i64 a0.Frequency] → Bk o58 101 w57 pa21 [u7, u8, u9, u10] → NK 78 K47 [(2, .pointer (some pa16)), (3, .pointer (some pa21)), (6, .bool x55)] w57 := by
     intro w57 o58  hE hb20 hb25
     refine hK47 _ _ ?_
     refine CW.seq fun K60 hK60 => ?_
     refine CW.sr fun K61 hK61 => ?_
     refine WL.stepE (OW.fldAddr (FldOk.at f34_2) rfl) rfl ?_
     refine WL.stepE (OW.loadK (off := 2) (List Int) (u9) ty22 rfl hb25 rfl rfl) rfl ?_
     refine WL.stepE (OW.len Try.underlying22 rfl (h13.baseM hE rfl)) rfl ?_
     refine WL.p (.int .i64 0) rfl rfl ?_
     refine WL.nx hK61 ?_
     refine CW.block ?_
     obtain ⟨r66, hl65, hF⟩ := bindE hF
     have hJ69 : ∀ (x64 : Bool) (w67 : World) (o68 : Cls), x64 = r66 → En w0 e0 o68 w67 → NK 78 K60 [(6, .bool x64)] w67 := by
      intro x64 w67 o68  e_ hE
      subst e_
      try dsimp only at hF
      refine hK60 _ _ ?_
      refine CW.seq fun K70 hK70 => ?_
      refine CW.sr fun K71 hK71 => ?_
      refine WL.p (.bool x64) rfl rfl ?_
      refine WL.p (.bool (!x64)) rfl rfl ?_
      refine WL.nx hK71 ?_
      refine CW.cond (b := (!x64)) rfl (fun hc72 => ?_) (fun hc72 => ?_)
      ·have hF := iteT hc72 hF
       refine CW.sr fun K73 hK73 => ?_
       refine WL.p (.int .i64 11) rfl rfl ?_
       refine WL.nx hK73 ?_
       obtain rfl := Option.some.inj hF
       exact CW.rets (vs := [.int .i64 11]) Try.results34 ⟨rfl, trivial⟩ ⟨_, rfl, _, (hE.rn he0 100 [] rfl rfl), rfl⟩ (fun _ _ h => h)
      ·have hF := iteF hc72 hF
       refine CW.skip ?_
       refine hK70 _ _ ?_
       refine CW.sr fun K74 hK74 => ?_
       refine WL.p (.int .i64 0) rfl rfl ?_
       refine WL.nx hK74 ?_
       obtain rfl := Option.some.inj hF
       exact CW.rets (vs := [.int .i64 0]) Try.results34 ⟨rfl, trivial⟩ ⟨_, rfl, _, (hE.rn he0 100 [] rfl rfl), rfl⟩ (fun _ _ h => h)
     refine CW.sub (L' := [(2, .pointer (some pa16)), (3, .pointer (some pa21)), (6, .bool x55), (50, u9), (51, .int .i64 (len a1.Limits)), (52, .int .i64 0)]) ⟨rfl, rfl, rfl, rfl, rfl, rfl, trivial⟩ ?_
     refine CW.loop (board_State_L1 a0 a1) (fun s_ L_ w75 => ∃ (o76 : Cls) (x62 : Bool) (x63 : Int), (x62, x63) = s_ ∧ L_ = [(2, .pointer (some pa16)), (3, .pointer (some pa21)), (6, .bool x62), (50, u9), (51, .int .i64 (len a1.Limits)), (52, .int .i64 x63)] ∧ En w0 e0 o76 w75 ∧ Bk o76 100 w75 pa16 [.int .i64 a0.Buses, u1, u2, u3, .int .i64 a0.Phase, .int .i64 a0.Frequency] ∧ Bk o76 101 w75 pa21 [u7, u8, u9, u10]) hl65 ?_ ?_
     ·exact ⟨o58, x55, 0, rfl, rfl, hE, hb20, hb25⟩
     intro K77 s_ L_ w75 hi_ x78 hx79 hr80 hk81
     obtain ⟨o76, x62, x63, rfl, rfl, hE, hb20, hb25⟩ := hi_
     rw [board_State_L1] at hx79
     refine CW.sr fun K82 hK82 => ?_
     refine WL.p (.bool ((decide (x63 < (len a1.Limits))))) rfl rfl ?_
     refine WL.nx hK82 ?_
     refine CW.seq fun K83 hK83 => ?_
     refine CW.cond (b := (decide (x63 < (len a1.Limits)))) rfl (fun hc84 => ?_) (fun hc84 => ?_)
     ·have hx79 := iteT hc84 hx79
      refine CW.skip ?_
      refine hK83 _ _ ?_
      refine CW.seq fun K85 hK85 => ?_
      refine CW.block ?_
      refine CW.sr fun K86 hK86 => ?_
      refine WL.p (.int .i64 x63) rfl rfl ?_
      obtain ⟨y87, q91, hx79⟩ := bindE hx79
      refine WL.stepP (OW.indexAddr Try.underlying22 ty3 rfl (h13.baseM hE rfl) rfl q91) rfl fun _ ⟨pa88, hv_, hp89, he90⟩ => ?_
      subst hv_
      refine WL.stepE (OW.loadI ty3 rfl hp89) rfl ?_
      refine WL.p (.int .i64 x63) rfl rfl ?_
      refine WL.p (.int .i64 y87) rfl rfl ?_
      refine WL.nx hK86 ?_
      refine CW.region ?_
      refine WL.p (.bool x62) rfl rfl ?_
      refine WL.p (.bool x62) rfl rfl ?_
      obtain ⟨x92, q93, hx79⟩ := bindE hx79
      have hJ96 : ∀ (w94 : World) (o95 : Cls), En w0 e0 o95 w94 → Bk o95 100 w94 pa16 [.int .i64 a0.Buses, u1, u2, u3, .int .i64 a0.Phase, .int .i64 a0.Frequency] → Bk o95 101 w94 pa21 [u7, u8, u9, u10] → NK 78 K85 [(2, .pointer (some pa16)), (3, .pointer (some pa21)), (6, .bool x92), (50, u9), (51, .int .i64 (len a1.Limits)), (52, .int .i64 x63)] w94 := by
       intro w94 o95  hE hb20 hb25
       refine hK85 _ _ ?_
       refine CW.region ?_
       refine WL.p (.int .i64 ((W (x63 + 1)))) rfl rfl ?_
       refine WL.p (.int .i64 ((W (x63 + 1)))) rfl rfl ?_
       refine WL.nil ?_
       exact NK.sb (hk81 _ _ _ (Option.some.inj hx79).symm ⟨o95, x92, (W (x63 + 1)), rfl, rfl, hE, hb20, hb25⟩) ⟨rfl, rfl, rfl, rfl, rfl, rfl, trivial⟩
      rcases Bool.eq_false_or_eq_true x62 with hc97 | hc97
      ·have q93 := iteT hc97 q93
       refine WL.stepGE rfl rfl rfl hc97 (OW.pv (v := (.int .i64 y87)) rfl) rfl ?_
       refine WL.stepGE rfl rfl rfl hc97 (OW.fldAddr (FldOk.at f29_3) rfl) rfl ?_
       refine WL.stepGE rfl rfl rfl hc97 (OW.loadK (off := 3) (List Consumer) (u3) ty27 rfl hb20 rfl rfl) rfl ?_
       refine WL.stepGE rfl rfl rfl hc97 (OW.pv (v := (.int .i64 x63)) rfl) rfl ?_
       obtain ⟨y98, q102, q93⟩ := bindE q93
       refine WL.stepGP rfl rfl rfl hc97 (OW.indexAddr Try.underlying27 ty79 rfl (h6.baseM hE rfl) rfl q102) rfl fun _ ⟨pa99, hv_, hp100, he101⟩ => ?_
       subst hv_
       refine WL.stepGE rfl rfl rfl hc97 (OW.fldAddr (FldOk.at f79_0) rfl) rfl ?_
       refine WL.stepGE rfl rfl rfl hc97 (OW.loadI ty3 rfl (hp100.fld f79_0)) rfl ?_
       obtain ⟨y103, q104, q93⟩ := bindE q93
       refine WL.stepG rfl rfl rfl hc97 (OW.call Try.call63 rfl (board_in_ok q104)) rfl ?_
       rintro _ w105 ⟨o109, hn_, rfl⟩
       obtain ⟨o106, ev107, hA108⟩ := adopt (o := o76) (ks := []) (Ks := []) 105 ([]) [105] hn_ MbOk.nil rfl rfl rfl rfl
       have hE := hE.evo ev107 rfl rfl
       have hp100 := hp100.evo ev107 rfl
       have hb20 := hb20.evo ev107 rfl
       have hb25 := hb25.evo ev107 rfl
       refine WL.stepE (OW.pickT rfl hc97 rfl) rfl ?_
       refine WL.p (.bool y103) rfl rfl ?_
       obtain ⟨x110, q111, q93⟩ := bindE q93
       have hJ114 : ∀ (w112 : World) (o113 : Cls), En w0 e0 o113 w112 → EPtr u3 5 x63 pa99 → PtrAt (In o113 [40]) w112 pa99 y98 → Bk o113 100 w112 pa16 [.int .i64 a0.Buses, u1, u2, u3, .int .i64 a0.Phase, .int .i64 a0.Frequency] → Bk o113 101 w112 pa21 [u7, u8, u9, u10] → NK 78 K85 [(2, .pointer (some pa16)), (3, .pointer (some pa21)), (6, .bool x110), (50, u9), (51, .int .i64 (len a1.Limits)), (52, .int .i64 x63), (59, .int .i64 y87), (60, .pointer (some (pa16.add 3))), (61, u3), (62, .int .i64 x63), (63, .pointer (some pa99)), (64, .pointer (some (pa99.add 0))), (65, .int .i64 y98.Load), (66, .bool y103)] w112 := by
        intro w112 o113  hE he101 hp100 hb20 hb25
        have e115 := Option.some.inj q93
        subst e115
        exact NK.sb (hJ96 w112 o113 hE hb20 hb25) ⟨rfl, rfl, rfl, rfl, rfl, rfl, trivial⟩
       rcases Bool.eq_false_or_eq_true y103 with hc116 | hc116
       ·have q111 := iteT hc116 q111
        refine WL.stepGE rfl rfl rfl hc116 (OW.loadK0 Board (.agg #[.int .i64 a0.Buses, u1, u2, u3, .int .i64 a0.Phase, .int .i64 a0.Frequency]) ty29 rfl hb20 rfl rfl) rfl ?_
        refine WL.stepGE rfl rfl rfl hc116 (OW.loadK0 Power (.agg #[u7, u8, u9, u10]) ty34 rfl hb25 rfl rfl) rfl ?_
        refine WL.stepGE rfl rfl rfl hc116 (OW.pv (v := (.int .i64 x63)) rfl) rfl ?_
        obtain ⟨y117, q118, q111⟩ := bindE q111
        refine WL.stepG rfl rfl rfl hc116 (OW.call Try.call64 rfl (board_closed_ok q118 (mk29 (x := a0) (h4.baseM hE rfl) (h5.baseM hE rfl) (h6.baseM hE rfl)) (mk34 (x := a1) (h11.baseM hE rfl) (h12.baseM hE rfl) (h13.baseM hE rfl) (h14.baseM hE rfl)))) rfl ?_
        rintro _ w119 ⟨o123, hn_, rfl⟩
        obtain ⟨o120, ev121, hA122⟩ := adopt (o := o106) (ks := []) (Ks := [[40], [40, 41]]) 106 ([]) [106] hn_ MbOk.nil rfl rfl rfl rfl
        have hE := hE.evo ev121 rfl rfl
        have hp100 := hp100.evo ev121 rfl
        have hb20 := hb20.evo ev121 rfl
        have hb25 := hb25.evo ev121 rfl
        refine WL.stepGE rfl rfl rfl hc116 (OW.pv (v := (.bool ((decide (y117 ≤ 1))))) rfl) rfl ?_
        refine WL.stepE (OW.pickT rfl hc116 rfl) rfl ?_
        refine WL.p (.bool ((decide (y117 ≤ 1)))) rfl rfl ?_
        refine WL.nil ?_
        have e124 := Option.some.inj q111
        subst e124
        exact NK.sb (hJ114 w119 o120 hE he101 hp100 hb20 hb25) ⟨rfl, rfl, rfl, rfl, rfl, rfl, rfl, rfl, rfl, rfl, rfl, rfl, rfl, rfl, trivial⟩
       ·have q111 := iteF hc116 q111
        refine WL.skipG rfl rfl rfl (by rw [hc116]; rfl) rfl ?_
        refine WL.skipG rfl rfl rfl (by rw [hc116]; rfl) rfl ?_
        refine WL.skipG rfl rfl rfl (by rw [hc116]; rfl) rfl ?_
        refine WL.skipG rfl rfl rfl (by rw [hc116]; rfl) rfl ?_
        refine WL.skipG rfl rfl rfl (by rw [hc116]; rfl) rfl ?_
        refine WL.stepE (OW.pickF rfl hc116 rfl) rfl ?_
        refine WL.p (.bool false) rfl rfl ?_
        refine WL.nil ?_
        have e125 := Option.some.inj q111
        subst e125
        exact NK.sb (hJ114 w105 o106 hE he101 hp100 hb20 hb25) ⟨rfl, rfl, rfl, rfl, rfl, rfl, rfl, rfl, rfl, rfl, rfl, rfl, rfl, rfl, trivial⟩
      ·have q93 := iteF hc97 q93
       refine WL.skipG rfl rfl rfl (by rw [hc97]; rfl) rfl ?_
       refine WL.skipG rfl rfl rfl (by rw [hc97]; rfl) rfl ?_
       refine WL.skipG rfl rfl rfl (by rw [hc97]; rfl) rfl ?_
       refine WL.skipG rfl rfl rfl (by rw [hc97]; rfl) rfl ?_
       refine WL.skipG rfl rfl rfl (by rw [hc97]; rfl) rfl ?_
       refine WL.skipG rfl rfl rfl (by rw [hc97]; rfl) rfl ?_
       refine WL.skipG rfl rfl rfl (by rw [hc97]; rfl) rfl ?_
       refine WL.skipG rfl rfl rfl (by rw [hc97]; rfl) rfl ?_
       refine WL.stepE (OW.pickF rfl hc97 rfl) rfl ?_
       refine WL.p (.bool false) rfl rfl ?_
       refine WL.skipG rfl rfl rfl rfl rfl ?_
       refine WL.skipG rfl rfl rfl rfl rfl ?_
       refine WL.skipG rfl rfl rfl rfl rfl ?_
       refine WL.skipG rfl rfl rfl rfl rfl ?_
       refine WL.skipG rfl rfl rfl rfl rfl ?_
       refine WL.stepE (OW.pickF rfl rfl rfl) rfl ?_
       refine WL.p (.bool false) rfl rfl ?_
       refine WL.nil ?_
       have e126 := Option.some.inj q93
       subst e126
       exact NK.sb (hJ96 w75 o76 hE hb20 hb25) ⟨rfl, rfl, rfl, rfl, rfl, rfl, trivial⟩
     ·have hx79 := iteF hc84 hx79
      refine CW.exit ?_
      exact NK.sb (hJ69 x62 w75 o76 (hr80 _ (Option.some.inj hx79).symm) hE) ⟨rfl, trivial⟩
    rcases Bool.eq_false_or_eq_true y48 with hc127 | hc127
    ·have q56 := iteT hc127 q56
     refine WL.stepGE rfl rfl rfl hc127 (OW.fldAddr (FldOk.at f34_1) rfl) rfl ?_
     refine WL.stepGE rfl rfl rfl hc127 (OW.loadK (off := 1) (List Running) (u8) ty31 rfl hb25 rfl rfl) rfl ?_
     have hf128 : Fn1 Try.prog 61 #[] (fun w_ => Bts [] w50 w_) (fun z0_ => board_State_1 z0_) := ⟨Try.call61, fun w_ hw_ x0_ r_ hr_ v0_ S0_ hx0_ => by
      refine Calls.mono (board_State_1_ok hr_ hx0_) ?_
      rintro _ w_ ⟨_, rfl, oc_, hn_, rfl⟩
      exact ⟨_, rfl, hn_.below rfl, rv_bool.2 rfl⟩⟩
     obtain ⟨y129, q130, q56⟩ := bindE q56
     refine WL.stepG rfl rfl rfl hc127 (OW.call Try.call60 rfl (slices_ContainsFunc_Running_Running_ok q130 (h12.baseM hE rfl) hf128)) rfl ?_
     rintro _ w131 ⟨o135, hn_, rfl⟩
     obtain ⟨o132, ev133, hA134⟩ := adopt (o := o51) (ks := []) (Ks := [[40, 41]]) 104 ([]) [104] hn_ MbOk.nil rfl rfl rfl rfl
     have hE := hE.evo ev133 rfl rfl
     have hb20 := hb20.evo ev133 rfl
     have hb25 := hb25.evo ev133 rfl
     refine WL.stepGE rfl rfl rfl hc127 (OW.pv (v := (.bool (!y129))) rfl) rfl ?_
     refine WL.stepE (OW.pickT rfl hc127 rfl) rfl ?_
     refine WL.p (.bool (!y129)) rfl rfl ?_
     refine WL.nil ?_
     have e136 := Option.some.inj q56
     subst e136
     exact NK.sb (hJ59 w131 o132 hE hb20 hb25) ⟨rfl, rfl, rfl, trivial⟩
    ·have q56 := iteF hc127 q56
     refine WL.skipG rfl rfl rfl (by rw [hc127]; rfl) rfl ?_
     refine WL.skipG rfl rfl rfl (by rw [hc127]; rfl) rfl ?_
     refine WL.skipG rfl rfl rfl (by rw [hc127]; rfl) rfl ?_
     refine WL.skipG rfl rfl rfl (by rw [hc127]; rfl) rfl ?_
     refine WL.stepE (OW.pickF rfl hc127 rfl) rfl ?_
     refine WL.p (.bool false) rfl rfl ?_
     refine WL.nil ?_
     have e137 := Option.some.inj q56
     subst e137
     exact NK.sb (hJ59 w50 o51 hE hb20 hb25) ⟨rfl, rfl, rfl, trivial⟩
  rcases Bool.eq_false_or_eq_true ((((len a1.Closed) != (len a0.Breakers)))) with hc138 | hc138
  ·have q41 := iteT hc138 q41
   refine WL.skipG rfl rfl rfl (by rw [hc138]; rfl) rfl ?_
   refine WL.skipG rfl rfl rfl (by rw [hc138]; rfl) rfl ?_
   refine WL.skipG rfl rfl rfl (by rw [hc138]; rfl) rfl ?_
   refine WL.skipG rfl rfl rfl (by rw [hc138]; rfl) rfl ?_
   refine WL.skipG rfl rfl rfl (by rw [hc138]; rfl) rfl ?_
   refine WL.skipG rfl rfl rfl (by rw [hc138]; rfl) rfl ?_
   refine WL.skipG rfl rfl rfl (by rw [hc138]; rfl) rfl ?_
   refine WL.stepE (OW.pickT rfl hc138 rfl) rfl ?_
   refine WL.p (.bool true) rfl rfl ?_
   refine WL.skipG rfl rfl rfl rfl rfl ?_
   refine WL.skipG rfl rfl rfl rfl rfl ?_
   refine WL.skipG rfl rfl rfl rfl rfl ?_
   refine WL.skipG rfl rfl rfl rfl rfl ?_
   refine WL.skipG rfl rfl rfl rfl rfl ?_
   refine WL.skipG rfl rfl rfl rfl rfl ?_
   refine WL.skipG rfl rfl rfl rfl rfl ?_
   refine WL.stepE (OW.pickT rfl rfl rfl) rfl ?_
   refine WL.nil ?_
   have e139 := Option.some.inj q41
   subst e139
   exact NK.sb (hJ44 w30 o31 hE hb20 hb25) ⟨rfl, rfl, rfl, trivial⟩
  ·have q41 := iteF hc138 q41
   refine WL.stepGE rfl rfl rfl hc138 (OW.fldAddr (FldOk.at f34_1) rfl) rfl ?_
   refine WL.stepGE rfl rfl rfl hc138 (OW.loadK (off := 1) (List Running) (u8) ty31 rfl hb25 rfl rfl) rfl ?_
   refine WL.stepGE rfl rfl rfl hc138 (OW.len Try.underlying31 rfl (h12.baseM hE rfl)) rfl ?_
   refine WL.stepGE rfl rfl rfl hc138 (OW.fldAddr (FldOk.at f29_2) rfl) rfl ?_
   refine WL.stepGE rfl rfl rfl hc138 (OW.loadK (off := 2) (List Source) (u2) ty26 rfl hb20 rfl rfl) rfl ?_
   refine WL.stepGE rfl rfl rfl hc138 (OW.len Try.underlying26 rfl (h5.baseM hE rfl)) rfl ?_
   refine WL.stepGE rfl rfl rfl hc138 (OW.pv (v := (.bool ((((len a1.Sources) != (len a0.Sources)))))) rfl) rfl ?_
   refine WL.stepE (OW.pickF rfl hc138 rfl) rfl ?_
   refine WL.p (.bool ((((len a1.Sources) != (len a0.Sources))))) rfl rfl ?_
   obtain ⟨x140, q141, q41⟩ := bindE q41
   have hJ144 : ∀ (w142 : World) (o143 : Cls), En w0 e0 o143 w142 → Bk o143 100 w142 pa16 [.int .i64 a0.Buses, u1, u2, u3, .int .i64 a0.Phase, .int .i64 a0.Frequency] → Bk o143 101 w142 pa21 [u7, u8, u9, u10] → NK 78 K39 [(2, .pointer (some pa16)), (3, .pointer (some pa21)), (38, .bool x140)] w142 := by
    intro w142 o143  hE hb20 hb25
    have e145 := Option.some.inj q41
    subst e145
    exact NK.sb (hJ44 w142 o143 hE hb20 hb25) ⟨rfl, rfl, rfl, trivial⟩
   rcases Bool.eq_false_or_eq_true ((((len a1.Sources) != (len a0.Sources)))) with hc146 | hc146
   ·have q141 := iteT hc146 q141
    refine WL.skipG rfl rfl rfl (by rw [hc146]; rfl) rfl ?_
    refine WL.skipG rfl rfl rfl (by rw [hc146]; rfl) rfl ?_
    refine WL.skipG rfl rfl rfl (by rw [hc146]; rfl) rfl ?_
    refine WL.skipG rfl rfl rfl (by rw [hc146]; rfl) rfl ?_
    refine WL.skipG rfl rfl rfl (by rw [hc146]; rfl) rfl ?_
    refine WL.skipG rfl rfl rfl (by rw [hc146]; rfl) rfl ?_
    refine WL.skipG rfl rfl rfl (by rw [hc146]; rfl) rfl ?_
    refine WL.stepE (OW.pickT rfl hc146 rfl) rfl ?_
    refine WL.nil ?_
    have e147 := Option.some.inj q141
    subst e147
    exact NK.sb (hJ144 w30 o31 hE hb20 hb25) ⟨rfl, rfl, rfl, trivial⟩
   ·have q141 := iteF hc146 q141
    refine WL.stepGE rfl rfl rfl hc146 (OW.fldAddr (FldOk.at f34_2) rfl) rfl ?_
    refine WL.stepGE rfl rfl rfl hc146 (OW.loadK (off := 2) (List Int) (u9) ty22 rfl hb25 rfl rfl) rfl ?_
    refine WL.stepGE rfl rfl rfl hc146 (OW.len Try.underlying22 rfl (h13.baseM hE rfl)) rfl ?_
    refine WL.stepGE rfl rfl rfl hc146 (OW.fldAddr (FldOk.at f29_3) rfl) rfl ?_
    refine WL.stepGE rfl rfl rfl hc146 (OW.loadK (off := 3) (List Consumer) (u3) ty27 rfl hb20 rfl rfl) rfl ?_
    refine WL.stepGE rfl rfl rfl hc146 (OW.len Try.underlying27 rfl (h6.baseM hE rfl)) rfl ?_
    refine WL.stepGE rfl rfl rfl hc146 (OW.pv (v := (.bool ((((len a1.Limits) != (len a0.Consumers)))))) rfl) rfl ?_
    refine WL.stepE (OW.pickF rfl hc146 rfl) rfl ?_
    refine WL.nil ?_
    have e148 := Option.some.inj q141
    subst e148
    exact NK.sb (hJ144 w30 o31 hE hb20 hb25) ⟨rfl, rfl, rfl, trivial⟩

set_option maxHeartbeats 1000000 in
theorem slices_Clone_bool_bool_ok {a0 : (List Bool)} {r : (List Bool)} (hF : slices_Clone_bool_bool a0 = some r) {w0 : World} {p0 : Value} {S0 : Nat → Prop} (g0 : Rv S0 w0 p0 a0) :
    Calls Try.prog 65 #[p0] w0 (Ret fun v w' => ∃ (oc : Cls), En w0 (entM w0 [] [S0]) oc w' ∧ Ow 4 oc 100 [] w' v r) := by
 obtain ⟨e0, he0⟩ : ∃ e0, e0 = entM w0 [] [S0] := ⟨_, rfl⟩
 have hE := En.refl w0 e0
 have g0 := g0.argM he0 0 (K := [40]) rfl (nosep rfl) rfl
 rw [slices_Clone_bool_bool] at hF
 refine enter (l := [p0]) Try.func65 rfl Try.ntmps65 rfl ?_
 refine CW.sub (L' := [(0, p0)]) ⟨rfl, trivial⟩ ?_
 refine CW.sr fun K1 hK1 => ?_
 refine WL.p (.slice none 0 0) rfl rfl ?_
 refine WL.nx hK1 ?_
 refine CW.seq fun K2 hK2 => ?_
 refine CW.sr fun K3 hK3 => ?_
 refine WL.p p0 rfl rfl ?_
 obtain ⟨a, n, c, rfl, hn⟩ := rvSlice g0
 refine WL.stepE (OW.isNil Try.underlying30 rfl) rfl ?_
 refine WL.nx hK3 ?_
 cases a with
 | none =>
  refine CW.cond (b := true) rfl (fun _ => ?_) (fun h => nomatch h)
  refine CW.sr fun K4 hK4 => ?_
  refine WL.p (.slice none 0 0) rfl rfl ?_
  refine WL.nx hK4 ?_
  rw [hn rfl] at hF
  obtain rfl := app_nil hF
  exact CW.rets (vs := [.slice none 0 0]) Try.results65 ⟨rfl, trivial⟩ ⟨_, rfl, _, (hE.rn he0 101 [] rfl rfl), Ow.nil _ _ _ _ _⟩ (fun _ _ h => h)
 | some a =>
  refine CW.cond (b := false) rfl (fun h => nomatch h) (fun _ => ?_)
  refine CW.skip ?_
  refine hK2 _ _ ?_
  refine CW.sr fun K5 hK5 => ?_
  refine WL.step (OW.buildSlice (o := e0) (k := 100) (K := []) (xs := ([] : List Bool)) Try.underlying30 ty4 rfl trivial rfl rfl) rfl ?_
  rintro v1 w1 ⟨o1, ev1, h1⟩
  have hE := hE.evo ev1 rfl rfl
  have g0 := g0.evo ev1 rfl
  refine WL.p (.slice (some a) n c) rfl rfl ?_
  refine WL.step (OW.append (K := []) Try.underlying30 ty4 rfl rfl h1 g0.els.flat hF rfl) rfl ?_
  rintro v2 w2 ⟨o2, ev2, h2⟩
  have hE := hE.evo ev2 rfl rfl
  refine WL.p v2 rfl rfl ?_
  refine WL.nx hK5 ?_
  exact CW.rets (vs := [v2]) Try.results65 ⟨rfl, trivial⟩ ⟨_, rfl, _, (hE.rn he0 101 [(100, 100)] rfl rfl), (h2.rn (c' := 100) (K' := []) rfl rfl)⟩ (fun _ _ h => h)

set_option maxHeartbeats 1000000 in
theorem slices_Clone_Running_Running_ok {a0 : (List Running)} {r : (List Running)} (hF : slices_Clone_Running_Running a0 = some r) {w0 : World} {p0 : Value} {S0 : Nat → Prop} (g0 : Rv S0 w0 p0 a0) :
    Calls Try.prog 66 #[p0] w0 (Ret fun v w' => ∃ (oc : Cls), En w0 (entM w0 [] [S0]) oc w' ∧ Ow 48 oc 100 [] w' v r) := by
 obtain ⟨e0, he0⟩ : ∃ e0, e0 = entM w0 [] [S0] := ⟨_, rfl⟩
 have hE := En.refl w0 e0
 have g0 := g0.argM he0 0 (K := [40]) rfl (nosep rfl) rfl
 rw [slices_Clone_Running_Running] at hF
 refine enter (l := [p0]) Try.func66 rfl Try.ntmps66 rfl ?_
 refine CW.sub (L' := [(0, p0)]) ⟨rfl, trivial⟩ ?_
 refine CW.sr fun K1 hK1 => ?_
 refine WL.p (.slice none 0 0) rfl rfl ?_
 refine WL.nx hK1 ?_
 refine CW.seq fun K2 hK2 => ?_
 refine CW.sr fun K3 hK3 => ?_
 refine WL.p p0 rfl rfl ?_
 obtain ⟨a, n, c, rfl, hn⟩ := rvSlice g0
 refine WL.stepE (OW.isNil Try.underlying31 rfl) rfl ?_
 refine WL.nx hK3 ?_
 cases a with
 | none =>
  refine CW.cond (b := true) rfl (fun _ => ?_) (fun h => nomatch h)
  refine CW.sr fun K4 hK4 => ?_
  refine WL.p (.slice none 0 0) rfl rfl ?_
  refine WL.nx hK4 ?_
  rw [hn rfl] at hF
  obtain rfl := app_nil hF
  exact CW.rets (vs := [.slice none 0 0]) Try.results66 ⟨rfl, trivial⟩ ⟨_, rfl, _, (hE.rn he0 101 [] rfl rfl), Ow.nil _ _ _ _ _⟩ (fun _ _ h => h)
 | some a =>
  refine CW.cond (b := false) rfl (fun h => nomatch h) (fun _ => ?_)
  refine CW.skip ?_
  refine hK2 _ _ ?_
  refine CW.sr fun K5 hK5 => ?_
  refine WL.step (OW.buildSlice (o := e0) (k := 100) (K := []) (xs := ([] : List Running)) Try.underlying31 ty48 rfl trivial rfl rfl) rfl ?_
  rintro v1 w1 ⟨o1, ev1, h1⟩
  have hE := hE.evo ev1 rfl rfl
  have g0 := g0.evo ev1 rfl
  refine WL.p (.slice (some a) n c) rfl rfl ?_
  refine WL.step (OW.append (K := []) Try.underlying31 ty48 rfl rfl h1 g0.els.flat hF rfl) rfl ?_
  rintro v2 w2 ⟨o2, ev2, h2⟩
  have hE := hE.evo ev2 rfl rfl
  refine WL.p v2 rfl rfl ?_
  refine WL.nx hK5 ?_
  exact CW.rets (vs := [v2]) Try.results66 ⟨rfl, trivial⟩ ⟨_, rfl, _, (hE.rn he0 101 [(100, 100)] rfl rfl), (h2.rn (c' := 100) (K' := []) rfl rfl)⟩ (fun _ _ h => h)

end Go.Proofs.Ytdfkfohpgakihaa
