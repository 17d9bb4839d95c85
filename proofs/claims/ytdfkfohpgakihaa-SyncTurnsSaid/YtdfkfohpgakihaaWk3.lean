/- Walks. Written by a program (wip/gen). -/
import Derived.Test.YtdfkfohpgakihaaHw
import Derived.Test.YtdfkfohpgakihaaWk1
import Derived.Test.YtdfkfohpgakihaaWk2
set_option linter.unusedVariables false
set_option linter.unusedSimpArgs false
namespace Go.Proofs.Ytdfkfohpgakihaa
open Go Go.RowKit Dp

set_option maxRecDepth 100000

set_option maxHeartbeats 1000000 in
theorem board_source_ok {a0 : Source} {r : Bool} (hF : board_source a0 = some r) {w0 : World} {p0 : Value} {S0 : Nat → Prop} (g0 : Rv S0 w0 p0 a0) :
    Calls Try.prog 86 #[p0] w0 (Ret fun v w' => ∃ (oc : Cls), En w0 (entM w0 [] [S0]) oc w' ∧ v = .bool r) := by
 obtain ⟨e0, he0⟩ : ∃ e0, e0 = entM w0 [] [S0] := ⟨_, rfl⟩
 have hE := En.refl w0 e0
 have g0 := g0.argM he0 0 (K := [40]) rfl (nosep rfl) rfl
 obtain rfl := op76 g0
 rw [board_source] at hF
 refine enter (l := [.agg #[.int .i64 a0.Rating, .int .i64 a0.Least, .int .i64 a0.Start]]) Try.func86 rfl Try.ntmps86 rfl ?_
 refine CW.sub (L' := [(0, .agg #[.int .i64 a0.Rating, .int .i64 a0.Least, .int .i64 a0.Start])]) ⟨rfl, trivial⟩ ?_
 refine CW.sr fun K1 hK1 => ?_
 refine WL.step (OW.boxK (o := e0) 100 [.int .i64 a0.Rating, .int .i64 a0.Least, .int .i64 a0.Start] rfl rfl) rfl ?_
 rintro _ w4 ⟨pa2, o3, rfl, ev5, hb6⟩
 have hE := hE.evo ev5 rfl rfl
 refine WL.p (.bool false) rfl rfl ?_
 refine WL.nx hK1 ?_
 refine CW.sr fun K7 hK7 => ?_
 refine WL.stepE (OW.fldAddr (FldOk.at f76_0) rfl) rfl ?_
 refine WL.stepE (OW.loadK (off := 0) Int (.int .i64 a0.Rating) ty3 rfl hb6 rfl rfl) rfl ?_
 obtain ⟨y8, q9, hF⟩ := bindE hF
 refine WL.step (OW.call Try.call63 rfl (board_in_ok q9)) rfl ?_
 rintro _ w10 ⟨o14, hn_, rfl⟩
 obtain ⟨o11, ev12, hA13⟩ := adopt (o := o3) (ks := []) (Ks := []) 101 ([]) [101] hn_ MbOk.nil rfl rfl rfl rfl
 have hE := hE.evo ev12 rfl rfl
 have hb6 := hb6.evo ev12 rfl
 refine WL.p (.bool y8) rfl rfl ?_
 obtain ⟨x15, q16, hF⟩ := bindE hF
 have hJ19 : ∀ (w17 : World) (o18 : Cls), En w0 e0 o18 w17 → NK 18 K7 [(2, .bool x15)] w17 := by
  intro w17 o18  hE
  refine hK7 _ _ ?_
  obtain rfl := Option.some.inj hF
  exact CW.rets (vs := [.bool x15]) Try.results86 ⟨rfl, trivial⟩ ⟨_, rfl, _, (hE.rn he0 100 [] rfl rfl), rfl⟩ (fun _ _ h => h)
 rcases Bool.eq_false_or_eq_true y8 with hc20 | hc20
 ·have q16 := iteT hc20 q16
  refine WL.stepGE rfl rfl rfl hc20 (OW.fldAddr (FldOk.at f76_1) rfl) rfl ?_
  refine WL.stepGE rfl rfl rfl hc20 (OW.loadK (off := 1) Int (.int .i64 a0.Least) ty3 rfl hb6 rfl rfl) rfl ?_
  refine WL.stepGE rfl rfl rfl hc20 (OW.fldAddr (FldOk.at f76_0) rfl) rfl ?_
  refine WL.stepGE rfl rfl rfl hc20 (OW.loadK (off := 0) Int (.int .i64 a0.Rating) ty3 rfl hb6 rfl rfl) rfl ?_
  obtain ⟨y21, q22, q16⟩ := bindE q16
  refine WL.stepG rfl rfl rfl hc20 (OW.call Try.call63 rfl (board_in_ok q22)) rfl ?_
  rintro _ w23 ⟨o27, hn_, rfl⟩
  obtain ⟨o24, ev25, hA26⟩ := adopt (o := o11) (ks := []) (Ks := []) 102 ([]) [102] hn_ MbOk.nil rfl rfl rfl rfl
  have hE := hE.evo ev25 rfl rfl
  have hb6 := hb6.evo ev25 rfl
  refine WL.stepE (OW.pickT rfl hc20 rfl) rfl ?_
  refine WL.p (.bool y21) rfl rfl ?_
  obtain ⟨x28, q29, q16⟩ := bindE q16
  have hJ32 : ∀ (w30 : World) (o31 : Cls), En w0 e0 o31 w30 → NK 18 K7 [(2, .bool x28)] w30 := by
   intro w30 o31  hE
   have e33 := Option.some.inj q16
   subst e33
   exact NK.sb (hJ19 w30 o31 hE) ⟨rfl, trivial⟩
  rcases Bool.eq_false_or_eq_true y21 with hc34 | hc34
  ·have q29 := iteT hc34 q29
   refine WL.stepGE rfl rfl rfl hc34 (OW.fldAddr (FldOk.at f76_2) rfl) rfl ?_
   refine WL.stepGE rfl rfl rfl hc34 (OW.loadK (off := 2) Int (.int .i64 a0.Start) ty3 rfl hb6 rfl rfl) rfl ?_
   obtain ⟨y35, q36, q29⟩ := bindE q29
   refine WL.stepG rfl rfl rfl hc34 (OW.call Try.call63 rfl (board_in_ok q36)) rfl ?_
   rintro _ w37 ⟨o41, hn_, rfl⟩
   obtain ⟨o38, ev39, hA40⟩ := adopt (o := o24) (ks := []) (Ks := []) 103 ([]) [103] hn_ MbOk.nil rfl rfl rfl rfl
   have hE := hE.evo ev39 rfl rfl
   refine WL.stepE (OW.pickT rfl hc34 rfl) rfl ?_
   refine WL.p (.bool y35) rfl rfl ?_
   refine WL.nil ?_
   have e42 := Option.some.inj q29
   subst e42
   exact NK.sb (hJ32 w37 o38 hE) ⟨rfl, trivial⟩
  ·have q29 := iteF hc34 q29
   refine WL.skipG rfl rfl rfl (by rw [hc34]; rfl) rfl ?_
   refine WL.skipG rfl rfl rfl (by rw [hc34]; rfl) rfl ?_
   refine WL.skipG rfl rfl rfl (by rw [hc34]; rfl) rfl ?_
   refine WL.stepE (OW.pickF rfl hc34 rfl) rfl ?_
   refine WL.p (.bool false) rfl rfl ?_
   refine WL.nil ?_
   have e43 := Option.some.inj q29
   subst e43
   exact NK.sb (hJ32 w23 o24 hE) ⟨rfl, trivial⟩
 ·have q16 := iteF hc20 q16
  refine WL.skipG rfl rfl rfl (by rw [hc20]; rfl) rfl ?_
  refine WL.skipG rfl rfl rfl (by rw [hc20]; rfl) rfl ?_
  refine WL.skipG rfl rfl rfl (by rw [hc20]; rfl) rfl ?_
  refine WL.skipG rfl rfl rfl (by rw [hc20]; rfl) rfl ?_
  refine WL.skipG rfl rfl rfl (by rw [hc20]; rfl) rfl ?_
  refine WL.stepE (OW.pickF rfl hc20 rfl) rfl ?_
  refine WL.p (.bool false) rfl rfl ?_
  refine WL.skipG rfl rfl rfl rfl rfl ?_
  refine WL.skipG rfl rfl rfl rfl rfl ?_
  refine WL.skipG rfl rfl rfl rfl rfl ?_
  refine WL.stepE (OW.pickF rfl rfl rfl) rfl ?_
  refine WL.p (.bool false) rfl rfl ?_
  refine WL.nil ?_
  have e44 := Option.some.inj q16
  subst e44
  exact NK.sb (hJ19 w10 o11 hE) ⟨rfl, trivial⟩

set_option maxHeartbeats 1000000 in
theorem board_consumer_ok {a0 : Consumer} {a1 : Int} {r : Bool} (hF : board_consumer a0 a1 = some r) {w0 : World} {p0 : Value} {S0 : Nat → Prop} (g0 : Rv S0 w0 p0 a0) :
    Calls Try.prog 87 #[p0, .int .i64 a1] w0 (Ret fun v w' => ∃ (oc : Cls), En w0 (entM w0 [] [S0]) oc w' ∧ v = .bool r) := by
 obtain ⟨e0, he0⟩ : ∃ e0, e0 = entM w0 [] [S0] := ⟨_, rfl⟩
 have hE := En.refl w0 e0
 have g0 := g0.argM he0 0 (K := [40]) rfl (nosep rfl) rfl
 obtain ⟨u1, rfl, h2⟩ := op79 g0
 rw [board_consumer] at hF
 refine enter (l := [.agg #[.int .i64 a0.Load, .int .i64 a0.Least, .int .i64 a0.Preference, .int .i64 a0.Thruster, u1], .int .i64 a1]) Try.func87 rfl Try.ntmps87 rfl ?_
 refine CW.sub (L' := [(0, .agg #[.int .i64 a0.Load, .int .i64 a0.Least, .int .i64 a0.Preference, .int .i64 a0.Thruster, u1]), (1, .int .i64 a1)]) ⟨rfl, rfl, trivial⟩ ?_
 refine CW.sr fun K3 hK3 => ?_
 refine WL.step (OW.boxK (o := e0) 100 [.int .i64 a0.Load, .int .i64 a0.Least, .int .i64 a0.Preference, .int .i64 a0.Thruster, u1] rfl rfl) rfl ?_
 rintro _ w6 ⟨pa4, o5, rfl, ev7, hb8⟩
 have hE := hE.evo ev7 rfl rfl
 refine WL.p (.bool false) rfl rfl ?_
 refine WL.nx hK3 ?_
 refine CW.seq fun K9 hK9 => ?_
 refine CW.sr fun K10 hK10 => ?_
 refine WL.stepE (OW.fldAddr (FldOk.at f79_4) rfl) rfl ?_
 refine WL.stepE (OW.loadK (off := 4) (List Int) (u1) ty22 rfl hb8 rfl rfl) rfl ?_
 refine WL.stepE (OW.len Try.underlying22 rfl (h2.baseM hE rfl)) rfl ?_
 refine WL.p (.int .i64 0) rfl rfl ?_
 refine WL.nx hK10 ?_
 refine CW.block ?_
 obtain ⟨r13, hl12, hF⟩ := bindE hF
 have hJ16 : ∀ (w14 : World) (o15 : Cls), .inl () = r13 → En w0 e0 o15 w14 → Bk o15 100 w14 pa4 [.int .i64 a0.Load, .int .i64 a0.Least, .int .i64 a0.Preference, .int .i64 a0.Thruster, u1] → NK 61 K9 [(2, .pointer (some pa4))] w14 := by
  intro  w14 o15  e_ hE hb8
  subst e_
  have hF := elimL hF
  try dsimp only at hF
  refine hK9 _ _ ?_
  refine CW.sr fun K17 hK17 => ?_
  refine WL.stepE (OW.fldAddr (FldOk.at f79_0) rfl) rfl ?_
  refine WL.stepE (OW.loadK (off := 0) Int (.int .i64 a0.Load) ty3 rfl hb8 rfl rfl) rfl ?_
  obtain ⟨y18, q19, hF⟩ := bindE hF
  refine WL.step (OW.call Try.call63 rfl (board_in_ok q19)) rfl ?_
  rintro _ w20 ⟨o24, hn_, rfl⟩
  obtain ⟨o21, ev22, hA23⟩ := adopt (o := o15) (ks := []) (Ks := []) 102 ([]) [102] hn_ MbOk.nil rfl rfl rfl rfl
  have hE := hE.evo ev22 rfl rfl
  have hb8 := hb8.evo ev22 rfl
  refine WL.p (.bool y18) rfl rfl ?_
  obtain ⟨x25, q26, hF⟩ := bindE hF
  have hJ29 : ∀ (w27 : World) (o28 : Cls), En w0 e0 o28 w27 → NK 61 K17 [(4, .bool x25)] w27 := by
   intro w27 o28  hE
   refine hK17 _ _ ?_
   obtain rfl := Option.some.inj hF
   exact CW.rets (vs := [.bool x25]) Try.results87 ⟨rfl, trivial⟩ ⟨_, rfl, _, (hE.rn he0 100 [] rfl rfl), rfl⟩ (fun _ _ h => h)
  rcases Bool.eq_false_or_eq_true y18 with hc30 | hc30
  ·have q26 := iteT hc30 q26
   refine WL.stepGE rfl rfl rfl hc30 (OW.fldAddr (FldOk.at f79_1) rfl) rfl ?_
   refine WL.stepGE rfl rfl rfl hc30 (OW.loadK (off := 1) Int (.int .i64 a0.Least) ty3 rfl hb8 rfl rfl) rfl ?_
   refine WL.stepGE rfl rfl rfl hc30 (OW.fldAddr (FldOk.at f79_0) rfl) rfl ?_
   refine WL.stepGE rfl rfl rfl hc30 (OW.loadK (off := 0) Int (.int .i64 a0.Load) ty3 rfl hb8 rfl rfl) rfl ?_
   obtain ⟨y31, q32, q26⟩ := bindE q26
   refine WL.stepG rfl rfl rfl hc30 (OW.call Try.call63 rfl (board_in_ok q32)) rfl ?_
   rintro _ w33 ⟨o37, hn_, rfl⟩
   obtain ⟨o34, ev35, hA36⟩ := adopt (o := o21) (ks := []) (Ks := []) 103 ([]) [103] hn_ MbOk.nil rfl rfl rfl rfl
   have hE := hE.evo ev35 rfl rfl
   have hb8 := hb8.evo ev35 rfl
   refine WL.stepE (OW.pickT rfl hc30 rfl) rfl ?_
   refine WL.p (.bool y31) rfl rfl ?_
   obtain ⟨x38, q39, q26⟩ := bindE q26
   have hJ42 : ∀ (w40 : World) (o41 : Cls), En w0 e0 o41 w40 → NK 61 K17 [(4, .bool x38)] w40 := by
    intro w40 o41  hE
    have e43 := Option.some.inj q26
    subst e43
    exact NK.sb (hJ29 w40 o41 hE) ⟨rfl, trivial⟩
   rcases Bool.eq_false_or_eq_true y31 with hc44 | hc44
   ·have q39 := iteT hc44 q39
    refine WL.stepGE rfl rfl rfl hc44 (OW.fldAddr (FldOk.at f79_2) rfl) rfl ?_
    refine WL.stepGE rfl rfl rfl hc44 (OW.loadK (off := 2) Int (.int .i64 a0.Preference) ty3 rfl hb8 rfl rfl) rfl ?_
    obtain ⟨y45, q46, q39⟩ := bindE q39
    refine WL.stepG rfl rfl rfl hc44 (OW.call Try.call63 rfl (board_in_ok q46)) rfl ?_
    rintro _ w47 ⟨o51, hn_, rfl⟩
    obtain ⟨o48, ev49, hA50⟩ := adopt (o := o34) (ks := []) (Ks := []) 104 ([]) [104] hn_ MbOk.nil rfl rfl rfl rfl
    have hE := hE.evo ev49 rfl rfl
    have hb8 := hb8.evo ev49 rfl
    refine WL.stepE (OW.pickT rfl hc44 rfl) rfl ?_
    refine WL.p (.bool y45) rfl rfl ?_
    obtain ⟨x52, q53, q39⟩ := bindE q39
    have hJ56 : ∀ (w54 : World) (o55 : Cls), En w0 e0 o55 w54 → NK 61 K17 [(4, .bool x52)] w54 := by
     intro w54 o55  hE
     have e57 := Option.some.inj q39
     subst e57
     exact NK.sb (hJ42 w54 o55 hE) ⟨rfl, trivial⟩
    rcases Bool.eq_false_or_eq_true y45 with hc58 | hc58
    ·have q53 := iteT hc58 q53
     refine WL.stepGE rfl rfl rfl hc58 (OW.fldAddr (FldOk.at f79_3) rfl) rfl ?_
     refine WL.stepGE rfl rfl rfl hc58 (OW.loadK (off := 3) Int (.int .i64 a0.Thruster) ty3 rfl hb8 rfl rfl) rfl ?_
     obtain ⟨y59, q60, q53⟩ := bindE q53
     refine WL.stepG rfl rfl rfl hc58 (OW.call Try.call63 rfl (board_in_ok q60)) rfl ?_
     rintro _ w61 ⟨o65, hn_, rfl⟩
     obtain ⟨o62, ev63, hA64⟩ := adopt (o := o48) (ks := []) (Ks := []) 105 ([]) [105] hn_ MbOk.nil rfl rfl rfl rfl
     have hE := hE.evo ev63 rfl rfl
     have hb8 := hb8.evo ev63 rfl
     refine WL.stepE (OW.pickT rfl hc58 rfl) rfl ?_
     refine WL.p (.bool y59) rfl rfl ?_
     obtain ⟨x66, q67, q53⟩ := bindE q53
     have hJ70 : ∀ (w68 : World) (o69 : Cls), En w0 e0 o69 w68 → NK 61 K17 [(4, .bool x66)] w68 := by
      intro w68 o69  hE
      have e71 := Option.some.inj q53
      subst e71
      exact NK.sb (hJ56 w68 o69 hE) ⟨rfl, trivial⟩
     rcases Bool.eq_false_or_eq_true y59 with hc72 | hc72
     ·have q67 := iteT hc72 q67
      refine WL.stepGE rfl rfl rfl hc72 (OW.fldAddr (FldOk.at f79_4) rfl) rfl ?_
      refine WL.stepGE rfl rfl rfl hc72 (OW.loadK (off := 4) (List Int) (u1) ty22 rfl hb8 rfl rfl) rfl ?_
      refine WL.stepGE rfl rfl rfl hc72 (OW.len Try.underlying22 rfl (h2.baseM hE rfl)) rfl ?_
      refine WL.stepGE rfl rfl rfl hc72 (OW.pv (v := (.bool ((decide ((len a0.Needs) ≤ 4))))) rfl) rfl ?_
      refine WL.stepE (OW.pickT rfl hc72 rfl) rfl ?_
      refine WL.p (.bool ((decide ((len a0.Needs) ≤ 4)))) rfl rfl ?_
      refine WL.nil ?_
      have e73 := Option.some.inj q67
      subst e73
      exact NK.sb (hJ70 w61 o62 hE) ⟨rfl, trivial⟩
     ·have q67 := iteF hc72 q67
      refine WL.skipG rfl rfl rfl (by rw [hc72]; rfl) rfl ?_
      refine WL.skipG rfl rfl rfl (by rw [hc72]; rfl) rfl ?_
      refine WL.skipG rfl rfl rfl (by rw [hc72]; rfl) rfl ?_
      refine WL.skipG rfl rfl rfl (by rw [hc72]; rfl) rfl ?_
      refine WL.stepE (OW.pickF rfl hc72 rfl) rfl ?_
      refine WL.p (.bool false) rfl rfl ?_
      refine WL.nil ?_
      have e74 := Option.some.inj q67
      subst e74
      exact NK.sb (hJ70 w61 o62 hE) ⟨rfl, trivial⟩
    ·have q53 := iteF hc58 q53
     refine WL.skipG rfl rfl rfl (by rw [hc58]; rfl) rfl ?_
     refine WL.skipG rfl rfl rfl (by rw [hc58]; rfl) rfl ?_
     refine WL.skipG rfl rfl rfl (by rw [hc58]; rfl) rfl ?_
     refine WL.stepE (OW.pickF rfl hc58 rfl) rfl ?_
     refine WL.p (.bool false) rfl rfl ?_
     refine WL.skipG rfl rfl rfl rfl rfl ?_
     refine WL.skipG rfl rfl rfl rfl rfl ?_
     refine WL.skipG rfl rfl rfl rfl rfl ?_
     refine WL.skipG rfl rfl rfl rfl rfl ?_
     refine WL.stepE (OW.pickF rfl rfl rfl) rfl ?_
     refine WL.p (.bool false) rfl rfl ?_
     refine WL.nil ?_
     have e75 := Option.some.inj q53
     subst e75
     exact NK.sb (hJ56 w47 o48 hE) ⟨rfl, trivial⟩
   ·have q39 := iteF hc44 q39
    refine WL.skipG rfl rfl rfl (by rw [hc44]; rfl) rfl ?_
    refine WL.skipG rfl rfl rfl (by rw [hc44]; rfl) rfl ?_
    refine WL.skipG rfl rfl rfl (by rw [hc44]; rfl) rfl ?_
    refine WL.stepE (OW.pickF rfl hc44 rfl) rfl ?_
    refine WL.p (.bool false) rfl rfl ?_
    refine WL.skipG rfl rfl rfl rfl rfl ?_
    refine WL.skipG rfl rfl rfl rfl rfl ?_
    refine WL.skipG rfl rfl rfl rfl rfl ?_
    refine WL.stepE (OW.pickF rfl rfl rfl) rfl ?_
    refine WL.p (.bool false) rfl rfl ?_
    refine WL.skipG rfl rfl rfl rfl rfl ?_
    refine WL.skipG rfl rfl rfl rfl rfl ?_
    refine WL.skipG rfl rfl rfl rfl rfl ?_
    refine WL.skipG rfl rfl rfl rfl rfl ?_
    refine WL.stepE (OW.pickF rfl rfl rfl) rfl ?_
    refine WL.p (.bool false) rfl rfl ?_
    refine WL.nil ?_
    have e76 := Option.some.inj q39
    subst e76
    exact NK.sb (hJ42 w33 o34 hE) ⟨rfl, trivial⟩
  ·have q26 := iteF hc30 q26
   refine WL.skipG rfl rfl rfl (by rw [hc30]; rfl) rfl ?_
   refine WL.skipG rfl rfl rfl (by rw [hc30]; rfl) rfl ?_
   refine WL.skipG rfl rfl rfl (by rw [hc30]; rfl) rfl ?_
   refine WL.skipG rfl rfl rfl (by rw [hc30]; rfl) rfl ?_
   refine WL.skipG rfl rfl rfl (by rw [hc30]; rfl) rfl ?_
   refine WL.stepE (OW.pickF rfl hc30 rfl) rfl ?_
   refine WL.p (.bool false) rfl rfl ?_
   refine WL.skipG rfl rfl rfl rfl rfl ?_
   refine WL.skipG rfl rfl rfl rfl rfl ?_
   refine WL.skipG rfl rfl rfl rfl rfl ?_
   refine WL.stepE (OW.pickF rfl rfl rfl) rfl ?_
   refine WL.p (.bool false) rfl rfl ?_
   refine WL.skipG rfl rfl rfl rfl rfl ?_
   refine WL.skipG rfl rfl rfl rfl rfl ?_
   refine WL.skipG rfl rfl rfl rfl rfl ?_
   refine WL.stepE (OW.pickF rfl rfl rfl) rfl ?_
   refine WL.p (.bool false) rfl rfl ?_
   refine WL.skipG rfl rfl rfl rfl rfl ?_
   refine WL.skipG rfl rfl rfl rfl rfl ?_
   refine WL.skipG rfl rfl rfl rfl rfl ?_
   refine WL.skipG rfl rfl rfl rfl rfl ?_
   refine WL.stepE (OW.pickF rfl rfl rfl) rfl ?_
   refine WL.p (.bool false) rfl rfl ?_
   refine WL.nil ?_
   have e77 := Option.some.inj q26
   subst e77
   exact NK.sb (hJ29 w20 o21 hE) ⟨rfl, trivial⟩
 refine CW.sub (L' := [(1, .int .i64 a1), (2, .pointer (some pa4)), (8, u1), (9, .int .i64 (len a0.Needs)), (10, .int .i64 0)]) ⟨rfl, rfl, rfl, rfl, rfl, trivial⟩ ?_
 refine CW.loop (board_consumer_L1 a0 a1) (fun s_ L_ w78 => ∃ (o79 : Cls) (x11 : Int), x11 = s_ ∧ L_ = [(1, .int .i64 a1), (2, .pointer (some pa4)), (8, u1), (9, .int .i64 (len a0.Needs)), (10, .int .i64 x11)] ∧ En w0 e0 o79 w78 ∧ Bk o79 100 w78 pa4 [.int .i64 a0.Load, .int .i64 a0.Least, .int .i64 a0.Preference, .int .i64 a0.Thruster, u1]) hl12 ?_ ?_
 ·exact ⟨o5, 0, rfl, rfl, hE, hb8⟩
 intro K80 s_ L_ w78 hi_ x81 hx82 hr83 hk84
 obtain ⟨o79, x11, rfl, rfl, hE, hb8⟩ := hi_
 rw [board_consumer_L1] at hx82
 refine CW.sr fun K85 hK85 => ?_
 refine WL.p (.bool ((decide (x11 < (len a0.Needs))))) rfl rfl ?_
 refine WL.nx hK85 ?_
 refine CW.seq fun K86 hK86 => ?_
 refine CW.cond (b := (decide (x11 < (len a0.Needs)))) rfl (fun hc87 => ?_) (fun hc87 => ?_)
 ·have hx82 := iteT hc87 hx82
  refine CW.skip ?_
  refine hK86 _ _ ?_
  refine CW.seq fun K88 hK88 => ?_
  refine CW.block ?_
  refine CW.sr fun K89 hK89 => ?_
  refine WL.p (.int .i64 x11) rfl rfl ?_
  obtain ⟨y90, q94, hx82⟩ := bindE hx82
  refine WL.stepP (OW.indexAddr Try.underlying22 ty3 rfl (h2.baseM hE rfl) rfl q94) rfl fun _ ⟨pa91, hv_, hp92, he93⟩ => ?_
  subst hv_
  refine WL.stepE (OW.loadI ty3 rfl hp92) rfl ?_
  refine WL.p (.int .i64 x11) rfl rfl ?_
  refine WL.p (.int .i64 y90) rfl rfl ?_
  refine WL.nx hK89 ?_
  refine CW.sr fun K95 hK95 => ?_
  refine WL.p (.int .i64 y90) rfl rfl ?_
  refine WL.p (.int .i64 a1) rfl rfl ?_
  refine WL.p (.int .i64 ((W (a1 - 1)))) rfl rfl ?_
  obtain ⟨y96, q97, hx82⟩ := bindE hx82
  refine WL.step (OW.call Try.call63 rfl (board_in_ok q97)) rfl ?_
  rintro _ w98 ⟨o102, hn_, rfl⟩
  obtain ⟨o99, ev100, hA101⟩ := adopt (o := o79) (ks := []) (Ks := []) 101 ([]) [101] hn_ MbOk.nil rfl rfl rfl rfl
  have hE := hE.evo ev100 rfl rfl
  have hb8 := hb8.evo ev100 rfl
  refine WL.p (.bool (!y96)) rfl rfl ?_
  refine WL.p (.bool (!y96)) rfl rfl ?_
  obtain ⟨x103, q104, hx82⟩ := bindE hx82
  have hJ107 : ∀ (w105 : World) (o106 : Cls), En w0 e0 o106 w105 → Bk o106 100 w105 pa4 [.int .i64 a0.Load, .int .i64 a0.Least, .int .i64 a0.Preference, .int .i64 a0.Thruster, u1] → NK 61 K95 [(1, .int .i64 a1), (2, .pointer (some pa4)), (8, u1), (9, .int .i64 (len a0.Needs)), (10, .int .i64 x11), (33, .bool x103)] w105 := by
   intro w105 o106  hE hb8
   refine hK95 _ _ ?_
   refine CW.cond (b := x103) rfl (fun hc108 => ?_) (fun hc108 => ?_)
   ·have hx82 := iteT hc108 hx82
    refine CW.sr fun K109 hK109 => ?_
    refine WL.p (.bool false) rfl rfl ?_
    refine WL.nx hK109 ?_
    have e_ := hr83 _ (Option.some.inj hx82).symm
    subst e_
    have hF := elimR hF
    obtain rfl := Option.some.inj hF
    exact CW.rets (vs := [.bool false]) Try.results87 ⟨rfl, trivial⟩ ⟨_, rfl, _, (hE.rn he0 100 [] rfl rfl), rfl⟩ (fun _ _ h => h)
   ·have hx82 := iteF hc108 hx82
    refine CW.skip ?_
    refine hK88 _ _ ?_
    refine CW.region ?_
    refine WL.p (.int .i64 ((W (x11 + 1)))) rfl rfl ?_
    refine WL.p (.int .i64 ((W (x11 + 1)))) rfl rfl ?_
    refine WL.nil ?_
    exact NK.sb (hk84 _ _ _ (Option.some.inj hx82).symm ⟨o106, (W (x11 + 1)), rfl, rfl, hE, hb8⟩) ⟨rfl, rfl, rfl, rfl, rfl, trivial⟩
  rcases Bool.eq_false_or_eq_true (!y96) with hc110 | hc110
  ·have q104 := iteT hc110 q104
   refine WL.skipG rfl rfl rfl (by rw [hc110]; rfl) rfl ?_
   refine WL.skipG rfl rfl rfl (by rw [hc110]; rfl) rfl ?_
   refine WL.skipG rfl rfl rfl (by rw [hc110]; rfl) rfl ?_
   refine WL.skipU rfl rfl rfl rfl ?_
   refine WL.skipU rfl rfl rfl rfl ?_
   refine WL.skipU rfl rfl rfl rfl ?_
   refine WL.skipU rfl rfl rfl rfl ?_
   refine WL.skipU rfl rfl rfl rfl ?_
   refine WL.skipU rfl rfl rfl rfl ?_
   refine WL.skipU rfl rfl rfl rfl ?_
   refine WL.skipU rfl rfl rfl rfl ?_
   refine WL.skipG rfl rfl rfl (by rw [hc110]; rfl) rfl ?_
   refine WL.stepE (OW.pickT rfl hc110 rfl) rfl ?_
   refine WL.nil ?_
   have e111 := Option.some.inj q104
   subst e111
   exact NK.sb (hJ107 w98 o99 hE hb8) ⟨rfl, rfl, rfl, rfl, rfl, rfl, trivial⟩
  ·have q104 := iteF hc110 q104
   refine WL.stepGE rfl rfl rfl hc110 (OW.pv (v := (.int .i64 x11)) rfl) rfl ?_
   refine WL.stepGE rfl rfl rfl hc110 (OW.pv (v := (.bool ((decide (x11 > 0))))) rfl) rfl ?_
   refine WL.stepGE rfl rfl rfl hc110 (OW.pv (v := (.bool ((decide (x11 > 0))))) rfl) rfl ?_
   obtain ⟨z_, q114, q104⟩ := bindE q104
   obtain ⟨x112, x113⟩ := z_
   try dsimp only at q104
   have hJ117 : ∀ (w115 : World) (o116 : Cls), En w0 e0 o116 w115 → Bk o116 100 w115 pa4 [.int .i64 a0.Load, .int .i64 a0.Least, .int .i64 a0.Preference, .int .i64 a0.Thruster, u1] → NK 61 K95 [(1, .int .i64 a1), (2, .pointer (some pa4)), (8, u1), (9, .int .i64 (len a0.Needs)), (10, .int .i64 x11), (21, .int .i64 x11), (22, .bool ((decide (x11 > 0)))), (23, .bool ((decide (x11 > 0)))), (32, .bool x112), (33, .bool x113)] w115 := by
    intro w115 o116  hE hb8
    have e118 := Option.some.inj q104
    subst e118
    exact NK.sb (hJ107 w115 o116 hE hb8) ⟨rfl, rfl, rfl, rfl, rfl, rfl, trivial⟩
   rcases Bool.eq_false_or_eq_true ((decide (x11 > 0))) with hc119 | hc119
   ·have q114 := iteT hc119 q114
    refine WL.stepGE rfl rfl rfl hc119 (OW.fldAddr (FldOk.at f79_4) rfl) rfl ?_
    refine WL.stepGE rfl rfl rfl hc119 (OW.loadK (off := 4) (List Int) (u1) ty22 rfl hb8 rfl rfl) rfl ?_
    refine WL.stepGE rfl rfl rfl hc119 (OW.pv (v := (.int .i64 x11)) rfl) rfl ?_
    refine WL.stepGE rfl rfl rfl hc119 (OW.pv (v := (.int .i64 ((W (x11 - 1))))) rfl) rfl ?_
    obtain ⟨y120, q124, q114⟩ := bindE q114
    refine WL.stepGP rfl rfl rfl hc119 (OW.indexAddr Try.underlying22 ty3 rfl (h2.baseM hE rfl) rfl q124) rfl fun _ ⟨pa121, hv_, hp122, he123⟩ => ?_
    subst hv_
    refine WL.stepGE rfl rfl rfl hc119 (OW.loadI ty3 rfl hp122) rfl ?_
    refine WL.stepGE rfl rfl rfl hc119 (OW.pv (v := (.int .i64 y90)) rfl) rfl ?_
    refine WL.stepGE rfl rfl rfl hc119 (OW.pv (v := (.bool ((decide (y120 ≥ y90))))) rfl) rfl ?_
    refine WL.stepGE rfl rfl rfl hc110 (OW.pickT rfl hc119 rfl) rfl ?_
    refine WL.stepE (OW.pickF rfl hc110 rfl) rfl ?_
    refine WL.nil ?_
    have e125 := Option.some.inj q114
    obtain ⟨e126, e127⟩ := Prod.mk.inj e125
    subst e126 e127
    exact NK.sb (hJ117 w98 o99 hE hb8) ⟨rfl, rfl, rfl, rfl, rfl, rfl, rfl, rfl, rfl, rfl, trivial⟩
   ·have q114 := iteF hc119 q114
    refine WL.skipG rfl rfl rfl (by rw [hc119]; rfl) rfl ?_
    refine WL.skipG rfl rfl rfl (by rw [hc119]; rfl) rfl ?_
    refine WL.skipG rfl rfl rfl (by rw [hc119]; rfl) rfl ?_
    refine WL.skipG rfl rfl rfl (by rw [hc119]; rfl) rfl ?_
    refine WL.skipG rfl rfl rfl (by rw [hc119]; rfl) rfl ?_
    refine WL.skipG rfl rfl rfl (by rw [hc119]; rfl) rfl ?_
    refine WL.skipG rfl rfl rfl (by rw [hc119]; rfl) rfl ?_
    refine WL.skipG rfl rfl rfl (by rw [hc119]; rfl) rfl ?_
    refine WL.stepGE rfl rfl rfl hc110 (OW.pickF rfl hc119 rfl) rfl ?_
    refine WL.stepE (OW.pickF rfl hc110 rfl) rfl ?_
    refine WL.nil ?_
    have e128 := Option.some.inj q114
    obtain ⟨e129, e130⟩ := Prod.mk.inj e128
    subst e129 e130
    exact NK.sb (hJ117 w98 o99 hE hb8) ⟨rfl, rfl, rfl, rfl, rfl, rfl, rfl, rfl, rfl, rfl, trivial⟩
 ·have hx82 := iteF hc87 hx82
  refine CW.exit ?_
  exact NK.sb (hJ16 w78 o79 (hr83 _ (Option.some.inj hx82).symm) hE hb8) ⟨rfl, trivial⟩

set_option maxHeartbeats 1000000 in
theorem board_Check_ok {a0 : Board} {r : Int} (hF : board_Check a0 = some r) {w0 : World} {p0 : Value} {S0 : Nat → Prop} (g0 : Rv S0 w0 p0 a0) :
    Calls Try.prog 58 #[p0] w0 (Ret fun v w' => ∃ (oc : Cls), En w0 (entM w0 [] [S0]) oc w' ∧ v = .int .i64 r) := by
 obtain ⟨e0, he0⟩ : ∃ e0, e0 = entM w0 [] [S0] := ⟨_, rfl⟩
 have hE := En.refl w0 e0
 have g0 := g0.argM he0 0 (K := [40]) rfl (nosep rfl) rfl
 obtain ⟨u1, u2, u3, rfl, h4, h5, h6⟩ := op29 g0
 rw [board_Check] at hF
 refine enter (l := [.agg #[.int .i64 a0.Buses, u1, u2, u3, .int .i64 a0.Phase, .int .i64 a0.Frequency]]) Try.func58 rfl Try.ntmps58 rfl ?_
 refine CW.sub (L' := [(0, .agg #[.int .i64 a0.Buses, u1, u2, u3, .int .i64 a0.Phase, .int .i64 a0.Frequency])]) ⟨rfl, trivial⟩ ?_
 refine CW.sr fun K7 hK7 => ?_
 refine WL.step (OW.boxK (o := e0) 100 [.int .i64 a0.Buses, u1, u2, u3, .int .i64 a0.Phase, .int .i64 a0.Frequency] rfl rfl) rfl ?_
 rintro _ w10 ⟨pa8, o9, rfl, ev11, hb12⟩
 have hE := hE.evo ev11 rfl rfl
 refine WL.p (.int .i64 0) rfl rfl ?_
 refine WL.nx hK7 ?_
 refine CW.seq fun K13 hK13 => ?_
 refine CW.sr fun K14 hK14 => ?_
 refine WL.stepE (OW.fldAddr (FldOk.at f29_0) rfl) rfl ?_
 refine WL.stepE (OW.loadK (off := 0) Int (.int .i64 a0.Buses) ty3 rfl hb12 rfl rfl) rfl ?_
 obtain ⟨y15, q16, hF⟩ := bindE hF
 refine WL.step (OW.call Try.call63 rfl (board_in_ok q16)) rfl ?_
 rintro _ w17 ⟨o21, hn_, rfl⟩
 obtain ⟨o18, ev19, hA20⟩ := adopt (o := o9) (ks := []) (Ks := []) 101 ([]) [101] hn_ MbOk.nil rfl rfl rfl rfl
 have hE := hE.evo ev19 rfl rfl
 have hb12 := hb12.evo ev19 rfl
 refine WL.p (.bool (!y15)) rfl rfl ?_
 refine WL.p (.bool (!y15)) rfl rfl ?_
 obtain ⟨x22, q23, hF⟩ := bindE hF
 have hJ26 : ∀ (w24 : World) (o25 : Cls), En w0 e0 o25 w24 → Bk o25 100 w24 pa8 [.int .i64 a0.Buses, u1, u2, u3, .int .i64 a0.Phase, .int .i64 a0.Frequency] → NK 72 K14 [(1, .pointer (some pa8)), (29, .bool x22)] w24 := by
  intro w24 o25  hE hb12
  refine hK14 _ _ ?_
  refine CW.cond (b := x22) rfl (fun hc27 => ?_) (fun hc27 => ?_)
  ·have hF := iteT hc27 hF
   refine CW.sr fun K28 hK28 => ?_
   refine WL.p (.int .i64 2) rfl rfl ?_
   refine WL.nx hK28 ?_
   obtain rfl := Option.some.inj hF
   exact CW.rets (vs := [.int .i64 2]) Try.results58 ⟨rfl, trivial⟩ ⟨_, rfl, _, (hE.rn he0 100 [] rfl rfl), rfl⟩ (fun _ _ h => h)
  ·have hF := iteF hc27 hF
   refine CW.skip ?_
   refine hK13 _ _ ?_
   refine CW.sr fun K29 hK29 => ?_
   refine WL.stepE (OW.loadK0 Board (.agg #[.int .i64 a0.Buses, u1, u2, u3, .int .i64 a0.Phase, .int .i64 a0.Frequency]) ty29 rfl hb12 rfl rfl) rfl ?_
   obtain ⟨y30, q31, hF⟩ := bindE hF
   refine WL.step (OW.call Try.call85 rfl (board_breakers_ok q31 (mk29 (x := a0) (h4.baseM hE rfl) (h5.baseM hE rfl) (h6.baseM hE rfl)))) rfl ?_
   rintro _ w32 ⟨o36, hn_, rfl⟩
   obtain ⟨o33, ev34, hA35⟩ := adopt (o := o25) (ks := []) (Ks := [[40]]) 102 ([]) [102] hn_ MbOk.nil rfl rfl rfl rfl
   have hE := hE.evo ev34 rfl rfl
   have hb12 := hb12.evo ev34 rfl
   refine WL.p (.bool y30) rfl rfl ?_
   obtain ⟨x37, q38, hF⟩ := bindE hF
   have hJ41 : ∀ (w39 : World) (o40 : Cls), En w0 e0 o40 w39 → Bk o40 100 w39 pa8 [.int .i64 a0.Buses, u1, u2, u3, .int .i64 a0.Phase, .int .i64 a0.Frequency] → NK 72 K29 [(1, .pointer (some pa8)), (3, .bool x37)] w39 := by
    intro w39 o40  hE hb12
    refine hK29 _ _ ?_
    refine CW.seq fun K42 hK42 => ?_
    refine CW.sr fun K43 hK43 => ?_
    refine WL.stepE (OW.fldAddr (FldOk.at f29_2) rfl) rfl ?_
    refine WL.stepE (OW.loadK (off := 2) (List Source) (u2) ty26 rfl hb12 rfl rfl) rfl ?_
    refine WL.stepE (OW.len Try.underlying26 rfl (h5.baseM hE rfl)) rfl ?_
    refine WL.p (.int .i64 0) rfl rfl ?_
    refine WL.nx hK43 ?_
    refine CW.block ?_
    obtain ⟨r48, hl47, hF⟩ := bindE hF
    have hJ51 : ∀ (x46 : Bool) (w49 : World) (o50 : Cls), x46 = r48 → En w0 e0 o50 w49 → Bk o50 100 w49 pa8 [.int .i64 a0.Buses, u1, u2, u3, .int .i64 a0.Phase, .int .i64 a0.Frequency] → NK 72 K42 [(1, .pointer (some pa8)), (3, .bool x46)] w49 := by
     intro x46 w49 o50  e_ hE hb12
     subst e_
     try dsimp only at hF
     refine hK42 _ _ ?_
     refine CW.seq fun K52 hK52 => ?_
     refine CW.sr fun K53 hK53 => ?_
     refine WL.stepE (OW.fldAddr (FldOk.at f29_3) rfl) rfl ?_
     refine WL.stepE (OW.loadK (off := 3) (List Consumer) (u3) ty27 rfl hb12 rfl rfl) rfl ?_
     refine WL.stepE (OW.len Try.underlying27 rfl (h6.baseM hE rfl)) rfl ?_
     refine WL.p (.int .i64 0) rfl rfl ?_
     refine WL.nx hK53 ?_
     refine CW.block ?_
     obtain ⟨r58, hl57, hF⟩ := bindE hF
     have hJ61 : ∀ (x56 : Bool) (w59 : World) (o60 : Cls), x56 = r58 → En w0 e0 o60 w59 → NK 72 K52 [(3, .bool x56)] w59 := by
      intro x56 w59 o60  e_ hE
      subst e_
      try dsimp only at hF
      refine hK52 _ _ ?_
      refine CW.seq fun K62 hK62 => ?_
      refine CW.sr fun K63 hK63 => ?_
      refine WL.p (.bool x56) rfl rfl ?_
      refine WL.p (.bool (!x56)) rfl rfl ?_
      refine WL.nx hK63 ?_
      refine CW.cond (b := (!x56)) rfl (fun hc64 => ?_) (fun hc64 => ?_)
      ·have hF := iteT hc64 hF
       refine CW.sr fun K65 hK65 => ?_
       refine WL.p (.int .i64 14) rfl rfl ?_
       refine WL.nx hK65 ?_
       obtain rfl := Option.some.inj hF
       exact CW.rets (vs := [.int .i64 14]) Try.results58 ⟨rfl, trivial⟩ ⟨_, rfl, _, (hE.rn he0 100 [] rfl rfl), rfl⟩ (fun _ _ h => h)
      ·have hF := iteF hc64 hF
       refine CW.skip ?_
       refine hK62 _ _ ?_
       refine CW.sr fun K66 hK66 => ?_
       refine WL.p (.int .i64 0) rfl rfl ?_
       refine WL.nx hK66 ?_
       obtain rfl := Option.some.inj hF
       exact CW.rets (vs := [.int .i64 0]) Try.results58 ⟨rfl, trivial⟩ ⟨_, rfl, _, (hE.rn he0 100 [] rfl rfl), rfl⟩ (fun _ _ h => h)
     refine CW.sub (L' := [(3, .bool x46), (56, u3), (57, .int .i64 (len a0.Consumers)), (58, .int .i64 0)]) ⟨rfl, rfl, rfl, rfl, trivial⟩ ?_
     refine CW.loop (board_Check_L2 a0) (fun s_ L_ w67 => ∃ (o68 : Cls) (x54 : Bool) (x55 : Int), (x54, x55) = s_ ∧ L_ = [(3, .bool x54), (56, u3), (57, .int .i64 (len a0.Consumers)), (58, .int .i64 x55)] ∧ En w0 e0 o68 w67) hl57 ?_ ?_
     ·exact ⟨o50, x46, 0, rfl, rfl, hE⟩
     intro K69 s_ L_ w67 hi_ x70 hx71 hr72 hk73
     obtain ⟨o68, x54, x55, rfl, rfl, hE⟩ := hi_
     rw [board_Check_L2] at hx71
     refine CW.sr fun K74 hK74 => ?_
     refine WL.p (.bool ((decide (x55 < (len a0.Consumers))))) rfl rfl ?_
     refine WL.nx hK74 ?_
     refine CW.seq fun K75 hK75 => ?_
     refine CW.cond (b := (decide (x55 < (len a0.Consumers)))) rfl (fun hc76 => ?_) (fun hc76 => ?_)
     ·have hx71 := iteT hc76 hx71
      refine CW.skip ?_
      refine hK75 _ _ ?_
      refine CW.seq fun K77 hK77 => ?_
      refine CW.block ?_
      refine CW.sr fun K78 hK78 => ?_
      refine WL.p (.int .i64 x55) rfl rfl ?_
      obtain ⟨y79, q83, hx71⟩ := bindE hx71
      refine WL.stepP (OW.indexAddr Try.underlying27 ty79 rfl (h6.baseM hE rfl) rfl q83) rfl fun _ ⟨pa80, hv_, hp81, he82⟩ => ?_
      subst hv_
      refine WL.stepP (OW.load ty79 rfl hp81) rfl fun v84 h85 => ?_
      obtain ⟨u86, rfl, h87⟩ := op79 h85
      refine WL.step (OW.allocK (o := o68) Consumer 107 [.int .i64 0, .int .i64 0, .int .i64 0, .int .i64 0, .slice none 0 0] ty79 rfl) rfl ?_
      rintro _ w90 ⟨pa88, o89, rfl, ev91, hb92⟩
      have hE := hE.evo ev91 rfl rfl
      have h87 := h87.evo ev91 rfl
      have h93 := Ow.nil (α := Int) 3 o89 108 [] w90
      refine WL.p (.int .i64 x55) rfl rfl ?_
      refine WL.step0 (OW.storeK0 Consumer [.int .i64 y79.Load, .int .i64 y79.Least, .int .i64 y79.Preference, .int .i64 y79.Thruster, u86] [.int .i64 y79.Load, .int .i64 y79.Least, .int .i64 y79.Preference, .int .i64 y79.Thruster, u86] ty79 rfl rfl hb92 rfl ⟨rfl, rfl, rfl, rfl, (h87.one rfl), trivial⟩ rfl rfl rfl) ?_
      rintro _ w94 ⟨ev95, hb92⟩
      have hE := hE.evo ev95 rfl rfl
      have h87 := h87.evo ev95 rfl
      refine WL.nx hK78 ?_
      refine CW.region ?_
      refine WL.p (.bool x54) rfl rfl ?_
      refine WL.p (.bool x54) rfl rfl ?_
      obtain ⟨x96, q97, hx71⟩ := bindE hx71
      have hJ100 : ∀ (w98 : World) (o99 : Cls), En w0 e0 o99 w98 → NK 72 K77 [(3, .bool x96), (56, u3), (57, .int .i64 (len a0.Consumers)), (58, .int .i64 x55)] w98 := by
       intro w98 o99  hE
       refine hK77 _ _ ?_
       refine CW.region ?_
       refine WL.p (.int .i64 ((W (x55 + 1)))) rfl rfl ?_
       refine WL.p (.int .i64 ((W (x55 + 1)))) rfl rfl ?_
       refine WL.nil ?_
       exact NK.sb (hk73 _ _ _ (Option.some.inj hx71).symm ⟨o99, x96, (W (x55 + 1)), rfl, rfl, hE⟩) ⟨rfl, rfl, rfl, rfl, trivial⟩
      rcases Bool.eq_false_or_eq_true x54 with hc101 | hc101
      ·have q97 := iteT hc101 q97
       refine WL.stepGE rfl rfl rfl hc101 (OW.loadK0 Consumer (.agg #[.int .i64 y79.Load, .int .i64 y79.Least, .int .i64 y79.Preference, .int .i64 y79.Thruster, u86]) ty79 rfl hb92 rfl rfl) rfl ?_
       refine WL.stepGE rfl rfl rfl hc101 (OW.pv (v := (.int .i64 x55)) rfl) rfl ?_
       obtain ⟨y102, q103, q97⟩ := bindE q97
       refine WL.stepG rfl rfl rfl hc101 (OW.call Try.call87 rfl (board_consumer_ok q103 (mk79 (x := y79) h87))) rfl ?_
       rintro _ w104 ⟨o108, hn_, rfl⟩
       obtain ⟨o105, ev106, hA107⟩ := adopt (o := o89) (ks := []) (Ks := [[40]]) 109 ([]) [109] hn_ MbOk.nil rfl rfl rfl rfl
       have hE := hE.evo ev106 rfl rfl
       have h87 := h87.evo ev106 rfl
       refine WL.stepE (OW.pickT rfl hc101 rfl) rfl ?_
       refine WL.p (.bool y102) rfl rfl ?_
       refine WL.nil ?_
       have e109 := Option.some.inj q97
       subst e109
       exact NK.sb (hJ100 w104 o105 hE) ⟨rfl, rfl, rfl, rfl, trivial⟩
      ·have q97 := iteF hc101 q97
       refine WL.skipG rfl rfl rfl (by rw [hc101]; rfl) rfl ?_
       refine WL.skipG rfl rfl rfl (by rw [hc101]; rfl) rfl ?_
       refine WL.skipG rfl rfl rfl (by rw [hc101]; rfl) rfl ?_
       refine WL.stepE (OW.pickF rfl hc101 rfl) rfl ?_
       refine WL.p (.bool false) rfl rfl ?_
       refine WL.nil ?_
       have e110 := Option.some.inj q97
       subst e110
       exact NK.sb (hJ100 w94 o89 hE) ⟨rfl, rfl, rfl, rfl, trivial⟩
     ·have hx71 := iteF hc76 hx71
      refine CW.exit ?_
      exact NK.sb (hJ61 x54 w67 o68 (hr72 _ (Option.some.inj hx71).symm) hE) ⟨rfl, trivial⟩
    refine CW.sub (L' := [(1, .pointer (some pa8)), (3, .bool x37), (43, u2), (44, .int .i64 (len a0.Sources)), (45, .int .i64 0)]) ⟨rfl, rfl, rfl, rfl, rfl, trivial⟩ ?_
    refine CW.loop (board_Check_L1 a0) (fun s_ L_ w111 => ∃ (o112 : Cls) (x44 : Bool) (x45 : Int), (x44, x45) = s_ ∧ L_ = [(1, .pointer (some pa8)), (3, .bool x44), (43, u2), (44, .int .i64 (len a0.Sources)), (45, .int .i64 x45)] ∧ En w0 e0 o112 w111 ∧ Bk o112 100 w111 pa8 [.int .i64 a0.Buses, u1, u2, u3, .int .i64 a0.Phase, .int .i64 a0.Frequency]) hl47 ?_ ?_
    ·exact ⟨o40, x37, 0, rfl, rfl, hE, hb12⟩
    intro K113 s_ L_ w111 hi_ x114 hx115 hr116 hk117
    obtain ⟨o112, x44, x45, rfl, rfl, hE, hb12⟩ := hi_
    rw [board_Check_L1] at hx115
    refine CW.sr fun K118 hK118 => ?_
    refine WL.p (.bool ((decide (x45 < (len a0.Sources))))) rfl rfl ?_
    refine WL.nx hK118 ?_
    refine CW.seq fun K119 hK119 => ?_
    refine CW.cond (b := (decide (x45 < (len a0.Sources)))) rfl (fun hc120 => ?_) (fun hc120 => ?_)
    ·have hx115 := iteT hc120 hx115
     refine CW.skip ?_
     refine hK119 _ _ ?_
     refine CW.seq fun K121 hK121 => ?_
     refine CW.block ?_
     refine CW.sr fun K122 hK122 => ?_
     obtain ⟨y123, q127, hx115⟩ := bindE hx115
     refine WL.stepP (OW.indexAddr Try.underlying26 ty76 rfl (h5.baseM hE rfl) rfl q127) rfl fun _ ⟨pa124, hv_, hp125, he126⟩ => ?_
     subst hv_
     refine WL.stepP (OW.load ty76 rfl hp125) rfl fun v128 h129 => ?_
     obtain rfl := op76 h129
     refine WL.step (OW.allocK (o := o112) Source 105 [.int .i64 0, .int .i64 0, .int .i64 0] ty76 rfl) rfl ?_
     rintro _ w132 ⟨pa130, o131, rfl, ev133, hb134⟩
     have hE := hE.evo ev133 rfl rfl
     have hb12 := hb12.evo ev133 rfl
     refine WL.step0 (OW.storeK0 Source [.int .i64 y123.Rating, .int .i64 y123.Least, .int .i64 y123.Start] [.int .i64 y123.Rating, .int .i64 y123.Least, .int .i64 y123.Start] ty76 rfl rfl hb134 rfl ⟨rfl, rfl, rfl, trivial⟩ rfl rfl rfl) ?_
     rintro _ w135 ⟨ev136, hb134⟩
     have hE := hE.evo ev136 rfl rfl
     have hb12 := hb12.evo ev136 rfl
     refine WL.nx hK122 ?_
     refine CW.region ?_
     refine WL.p (.bool x44) rfl rfl ?_
     refine WL.p (.bool x44) rfl rfl ?_
     obtain ⟨x137, q138, hx115⟩ := bindE hx115
     have hJ141 : ∀ (w139 : World) (o140 : Cls), En w0 e0 o140 w139 → Bk o140 100 w139 pa8 [.int .i64 a0.Buses, u1, u2, u3, .int .i64 a0.Phase, .int .i64 a0.Frequency] → NK 72 K121 [(1, .pointer (some pa8)), (3, .bool x137), (43, u2), (44, .int .i64 (len a0.Sources)), (45, .int .i64 x45)] w139 := by
      intro w139 o140  hE hb12
      refine hK121 _ _ ?_
      refine CW.region ?_
      refine WL.p (.int .i64 ((W (x45 + 1)))) rfl rfl ?_
      refine WL.p (.int .i64 ((W (x45 + 1)))) rfl rfl ?_
      refine WL.nil ?_
      exact NK.sb (hk117 _ _ _ (Option.some.inj hx115).symm ⟨o140, x137, (W (x45 + 1)), rfl, rfl, hE, hb12⟩) ⟨rfl, rfl, rfl, rfl, rfl, trivial⟩
     rcases Bool.eq_false_or_eq_true x44 with hc142 | hc142
     ·have q138 := iteT hc142 q138
      refine WL.stepGE rfl rfl rfl hc142 (OW.loadK0 Source (.agg #[.int .i64 y123.Rating, .int .i64 y123.Least, .int .i64 y123.Start]) ty76 rfl hb134 rfl rfl) rfl ?_
      obtain ⟨y143, q144, q138⟩ := bindE q138
      refine WL.stepG rfl rfl rfl hc142 (OW.call Try.call86 rfl (board_source_ok q144 (mk76 (S := In o131 []) (x := y123)))) rfl ?_
      rintro _ w145 ⟨o149, hn_, rfl⟩
      obtain ⟨o146, ev147, hA148⟩ := adopt (o := o131) (ks := []) (Ks := [[]]) 106 ([]) [106] hn_ MbOk.nil rfl rfl rfl rfl
      have hE := hE.evo ev147 rfl rfl
      have hb12 := hb12.evo ev147 rfl
      refine WL.stepE (OW.pickT rfl hc142 rfl) rfl ?_
      refine WL.p (.bool y143) rfl rfl ?_
      refine WL.nil ?_
      have e150 := Option.some.inj q138
      subst e150
      exact NK.sb (hJ141 w145 o146 hE hb12) ⟨rfl, rfl, rfl, rfl, rfl, trivial⟩
     ·have q138 := iteF hc142 q138
      refine WL.skipG rfl rfl rfl (by rw [hc142]; rfl) rfl ?_
      refine WL.skipG rfl rfl rfl (by rw [hc142]; rfl) rfl ?_
      refine WL.stepE (OW.pickF rfl hc142 rfl) rfl ?_
      refine WL.p (.bool false) rfl rfl ?_
      refine WL.nil ?_
      have e151 := Option.some.inj q138
      subst e151
      exact NK.sb (hJ141 w135 o131 hE hb12) ⟨rfl, rfl, rfl, rfl, rfl, trivial⟩
    ·have hx115 := iteF hc120 hx115
     refine CW.exit ?_
     exact NK.sb (hJ51 x44 w111 o112 (hr116 _ (Option.some.inj hx115).symm) hE hb12) ⟨rfl, rfl, trivial⟩
   rcases Bool.eq_false_or_eq_true y30 with hc152 | hc152
   ·have q38 := iteT hc152 q38
    refine WL.stepGE rfl rfl rfl hc152 (OW.fldAddr (FldOk.at f29_4) rfl) rfl ?_
    refine WL.stepGE rfl rfl rfl hc152 (OW.loadK (off := 4) Int (.int .i64 a0.Phase) ty3 rfl hb12 rfl rfl) rfl ?_
    obtain ⟨y153, q154, q38⟩ := bindE q38
    refine WL.stepG rfl rfl rfl hc152 (OW.call Try.call63 rfl (board_in_ok q154)) rfl ?_
    rintro _ w155 ⟨o159, hn_, rfl⟩
    obtain ⟨o156, ev157, hA158⟩ := adopt (o := o33) (ks := []) (Ks := []) 103 ([]) [103] hn_ MbOk.nil rfl rfl rfl rfl
    have hE := hE.evo ev157 rfl rfl
    have hb12 := hb12.evo ev157 rfl
    refine WL.stepE (OW.pickT rfl hc152 rfl) rfl ?_
    refine WL.p (.bool y153) rfl rfl ?_
    obtain ⟨x160, q161, q38⟩ := bindE q38
    have hJ164 : ∀ (w162 : World) (o163 : Cls), En w0 e0 o163 w162 → Bk o163 100 w162 pa8 [.int .i64 a0.Buses, u1, u2, u3, .int .i64 a0.Phase, .int .i64 a0.Frequency] → NK 72 K29 [(1, .pointer (some pa8)), (3, .bool x160)] w162 := by
     intro w162 o163  hE hb12
     have e165 := Option.some.inj q38
     subst e165
     exact NK.sb (hJ41 w162 o163 hE hb12) ⟨rfl, rfl, trivial⟩
    rcases Bool.eq_false_or_eq_true y153 with hc166 | hc166
    ·have q161 := iteT hc166 q161
     refine WL.stepGE rfl rfl rfl hc166 (OW.fldAddr (FldOk.at f29_5) rfl) rfl ?_
     refine WL.stepGE rfl rfl rfl hc166 (OW.loadK (off := 5) Int (.int .i64 a0.Frequency) ty3 rfl hb12 rfl rfl) rfl ?_
     obtain ⟨y167, q168, q161⟩ := bindE q161
     refine WL.stepG rfl rfl rfl hc166 (OW.call Try.call63 rfl (board_in_ok q168)) rfl ?_
     rintro _ w169 ⟨o173, hn_, rfl⟩
     obtain ⟨o170, ev171, hA172⟩ := adopt (o := o156) (ks := []) (Ks := []) 104 ([]) [104] hn_ MbOk.nil rfl rfl rfl rfl
     have hE := hE.evo ev171 rfl rfl
     have hb12 := hb12.evo ev171 rfl
     refine WL.stepE (OW.pickT rfl hc166 rfl) rfl ?_
     refine WL.p (.bool y167) rfl rfl ?_
     refine WL.nil ?_
     have e174 := Option.some.inj q161
     subst e174
     exact NK.sb (hJ164 w169 o170 hE hb12) ⟨rfl, rfl, trivial⟩
    ·have q161 := iteF hc166 q161
     refine WL.skipG rfl rfl rfl (by rw [hc166]; rfl) rfl ?_
     refine WL.skipG rfl rfl rfl (by rw [hc166]; rfl) rfl ?_
     refine WL.skipG rfl rfl rfl (by rw [hc166]; rfl) rfl ?_
     refine WL.stepE (OW.pickF rfl hc166 rfl) rfl ?_
     refine WL.p (.bool false) rfl rfl ?_
     refine WL.nil ?_
     have e175 := Option.some.inj q161
     subst e175
     exact NK.sb (hJ164 w155 o156 hE hb12) ⟨rfl, rfl, trivial⟩
   ·have q38 := iteF hc152 q38
    refine WL.skipG rfl rfl rfl (by rw [hc152]; rfl) rfl ?_
    refine WL.skipG rfl rfl rfl (by rw [hc152]; rfl) rfl ?_
    refine WL.skipG rfl rfl rfl (by rw [hc152]; rfl) rfl ?_
    refine WL.stepE (OW.pickF rfl hc152 rfl) rfl ?_
    refine WL.p (.bool false) rfl rfl ?_
    refine WL.skipG rfl rfl rfl rfl rfl ?_
    refine WL.skipG rfl rfl rfl rfl rfl ?_
    refine WL.skipG rfl rfl rfl rfl rfl ?_
    refine WL.stepE (OW.pickF rfl rfl rfl) rfl ?_
    refine WL.p (.bool false) rfl rfl ?_
    refine WL.nil ?_
    have e176 := Option.some.inj q38
    subst e176
    exact NK.sb (hJ41 w32 o33 hE hb12) ⟨rfl, rfl, trivial⟩
 rcases Bool.eq_false_or_eq_true (!y15) with hc177 | hc177
 ·have q23 := iteT hc177 q23
  refine WL.skipG rfl rfl rfl (by rw [hc177]; rfl) rfl ?_
  refine WL.skipG rfl rfl rfl (by rw [hc177]; rfl) rfl ?_
  refine WL.skipG rfl rfl rfl (by rw [hc177]; rfl) rfl ?_
  refine WL.skipG rfl rfl rfl (by rw [hc177]; rfl) rfl ?_
  refine WL.stepE (OW.pickT rfl hc177 rfl) rfl ?_
  refine WL.p (.bool true) rfl rfl ?_
  refine WL.skipG rfl rfl rfl rfl rfl ?_
  refine WL.skipG rfl rfl rfl rfl rfl ?_
  refine WL.skipG rfl rfl rfl rfl rfl ?_
  refine WL.skipG rfl rfl rfl rfl rfl ?_
  refine WL.stepE (OW.pickT rfl rfl rfl) rfl ?_
  refine WL.p (.bool true) rfl rfl ?_
  refine WL.skipG rfl rfl rfl rfl rfl ?_
  refine WL.skipG rfl rfl rfl rfl rfl ?_
  refine WL.skipG rfl rfl rfl rfl rfl ?_
  refine WL.skipG rfl rfl rfl rfl rfl ?_
  refine WL.stepE (OW.pickT rfl rfl rfl) rfl ?_
  refine WL.nil ?_
  have e178 := Option.some.inj q23
  subst e178
  exact NK.sb (hJ26 w17 o18 hE hb12) ⟨rfl, rfl, trivial⟩
 ·have q23 := iteF hc177 q23
  refine WL.stepGE rfl rfl rfl hc177 (OW.fldAddr (FldOk.at f29_1) rfl) rfl ?_
  refine WL.stepGE rfl rfl rfl hc177 (OW.loadK (off := 1) (List Breaker) (u1) ty25 rfl hb12 rfl rfl) rfl ?_
  refine WL.stepGE rfl rfl rfl hc177 (OW.len Try.underlying25 rfl (h4.baseM hE rfl)) rfl ?_
  refine WL.stepGE rfl rfl rfl hc177 (OW.pv (v := (.bool ((decide ((len a0.Breakers) > 24))))) rfl) rfl ?_
  refine WL.stepE (OW.pickF rfl hc177 rfl) rfl ?_
  refine WL.p (.bool ((decide ((len a0.Breakers) > 24)))) rfl rfl ?_
  obtain ⟨x179, q180, q23⟩ := bindE q23
  have hJ183 : ∀ (w181 : World) (o182 : Cls), En w0 e0 o182 w181 → Bk o182 100 w181 pa8 [.int .i64 a0.Buses, u1, u2, u3, .int .i64 a0.Phase, .int .i64 a0.Frequency] → NK 72 K14 [(1, .pointer (some pa8)), (29, .bool x179)] w181 := by
   intro w181 o182  hE hb12
   have e184 := Option.some.inj q23
   subst e184
   exact NK.sb (hJ26 w181 o182 hE hb12) ⟨rfl, rfl, trivial⟩
  rcases Bool.eq_false_or_eq_true ((decide ((len a0.Breakers) > 24))) with hc185 | hc185
  ·have q180 := iteT hc185 q180
   refine WL.skipG rfl rfl rfl (by rw [hc185]; rfl) rfl ?_
   refine WL.skipG rfl rfl rfl (by rw [hc185]; rfl) rfl ?_
   refine WL.skipG rfl rfl rfl (by rw [hc185]; rfl) rfl ?_
   refine WL.skipG rfl rfl rfl (by rw [hc185]; rfl) rfl ?_
   refine WL.stepE (OW.pickT rfl hc185 rfl) rfl ?_
   refine WL.p (.bool true) rfl rfl ?_
   refine WL.skipG rfl rfl rfl rfl rfl ?_
   refine WL.skipG rfl rfl rfl rfl rfl ?_
   refine WL.skipG rfl rfl rfl rfl rfl ?_
   refine WL.skipG rfl rfl rfl rfl rfl ?_
   refine WL.stepE (OW.pickT rfl rfl rfl) rfl ?_
   refine WL.nil ?_
   have e186 := Option.some.inj q180
   subst e186
   exact NK.sb (hJ183 w17 o18 hE hb12) ⟨rfl, rfl, trivial⟩
  ·have q180 := iteF hc185 q180
   refine WL.stepGE rfl rfl rfl hc185 (OW.fldAddr (FldOk.at f29_2) rfl) rfl ?_
   refine WL.stepGE rfl rfl rfl hc185 (OW.loadK (off := 2) (List Source) (u2) ty26 rfl hb12 rfl rfl) rfl ?_
   refine WL.stepGE rfl rfl rfl hc185 (OW.len Try.underlying26 rfl (h5.baseM hE rfl)) rfl ?_
   refine WL.stepGE rfl rfl rfl hc185 (OW.pv (v := (.bool ((decide ((len a0.Sources) > 8))))) rfl) rfl ?_
   refine WL.stepE (OW.pickF rfl hc185 rfl) rfl ?_
   refine WL.p (.bool ((decide ((len a0.Sources) > 8)))) rfl rfl ?_
   obtain ⟨x187, q188, q180⟩ := bindE q180
   have hJ191 : ∀ (w189 : World) (o190 : Cls), En w0 e0 o190 w189 → Bk o190 100 w189 pa8 [.int .i64 a0.Buses, u1, u2, u3, .int .i64 a0.Phase, .int .i64 a0.Frequency] → NK 72 K14 [(1, .pointer (some pa8)), (29, .bool x187)] w189 := by
    intro w189 o190  hE hb12
    have e192 := Option.some.inj q180
    subst e192
    exact NK.sb (hJ183 w189 o190 hE hb12) ⟨rfl, rfl, trivial⟩
   rcases Bool.eq_false_or_eq_true ((decide ((len a0.Sources) > 8))) with hc193 | hc193
   ·have q188 := iteT hc193 q188
    refine WL.skipG rfl rfl rfl (by rw [hc193]; rfl) rfl ?_
    refine WL.skipG rfl rfl rfl (by rw [hc193]; rfl) rfl ?_
    refine WL.skipG rfl rfl rfl (by rw [hc193]; rfl) rfl ?_
    refine WL.skipG rfl rfl rfl (by rw [hc193]; rfl) rfl ?_
    refine WL.stepE (OW.pickT rfl hc193 rfl) rfl ?_
    refine WL.nil ?_
    have e194 := Option.some.inj q188
    subst e194
    exact NK.sb (hJ191 w17 o18 hE hb12) ⟨rfl, rfl, trivial⟩
   ·have q188 := iteF hc193 q188
    refine WL.stepGE rfl rfl rfl hc193 (OW.fldAddr (FldOk.at f29_3) rfl) rfl ?_
    refine WL.stepGE rfl rfl rfl hc193 (OW.loadK (off := 3) (List Consumer) (u3) ty27 rfl hb12 rfl rfl) rfl ?_
    refine WL.stepGE rfl rfl rfl hc193 (OW.len Try.underlying27 rfl (h6.baseM hE rfl)) rfl ?_
    refine WL.stepGE rfl rfl rfl hc193 (OW.pv (v := (.bool ((decide ((len a0.Consumers) > 16))))) rfl) rfl ?_
    refine WL.stepE (OW.pickF rfl hc193 rfl) rfl ?_
    refine WL.nil ?_
    have e195 := Option.some.inj q188
    subst e195
    exact NK.sb (hJ191 w17 o18 hE hb12) ⟨rfl, rfl, trivial⟩

end Go.Proofs.Ytdfkfohpgakihaa
