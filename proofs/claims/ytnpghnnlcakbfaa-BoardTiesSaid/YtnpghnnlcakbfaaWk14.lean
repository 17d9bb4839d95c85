/- Walks. Written by a program (wip/gen). -/
import Derived.Test.YtnpghnnlcakbfaaHw
import Derived.Test.YtnpghnnlcakbfaaWk5
import Derived.Test.YtnpghnnlcakbfaaWk7
import Derived.Test.YtnpghnnlcakbfaaWk13
set_option linter.unusedVariables false
set_option linter.unusedSimpArgs false
namespace Go.Proofs.Ytnpghnnlcakbfaa
open Go Go.RowKit Dp

set_option maxRecDepth 100000

set_option maxHeartbeats 1000000 in
theorem dynposref01_Ints_ok {a0 : (List Int)} {a1 : (List Int)} {r : Bool} (hF : dynposref01_Ints a0 a1 = some r) {w0 : World} {p0 : Value} {S0 : Nat → Prop} (g0 : Rv S0 w0 p0 a0) {p1 : Value} {S1 : Nat → Prop} (g1 : Rv S1 w0 p1 a1) :
    Calls Try.prog 15 #[p0, p1] w0 (Ret fun v w' => ∃ (oc : Cls), En w0 (entM w0 [] [S0, S1]) oc w' ∧ v = .bool r) := by
 obtain ⟨e0, he0⟩ : ∃ e0, e0 = entM w0 [] [S0, S1] := ⟨_, rfl⟩
 have hE := En.refl w0 e0
 have g0 := g0.argM he0 0 (K := [40]) rfl (nosep rfl) rfl
 have g1 := g1.argM he0 1 (K := [40, 41]) rfl (nosep rfl) rfl
 rw [dynposref01_Ints] at hF
 refine enter (l := [p0, p1]) Try.func15 rfl Try.ntmps15 rfl ?_
 refine CW.sub (L' := [(0, p0), (1, p1)]) ⟨rfl, rfl, trivial⟩ ?_
 refine CW.sr fun K1 hK1 => ?_
 refine WL.p (.bool false) rfl rfl ?_
 refine WL.nx hK1 ?_
 refine CW.seq fun K2 hK2 => ?_
 refine CW.sr fun K3 hK3 => ?_
 refine WL.p p0 rfl rfl ?_
 refine WL.stepE (OW.len Try.underlying22 rfl (g0.baseM hE rfl)) rfl ?_
 refine WL.p p1 rfl rfl ?_
 refine WL.stepE (OW.len Try.underlying22 rfl (g1.baseM hE rfl)) rfl ?_
 refine WL.p (.bool ((((len a0) != (len a1))))) rfl rfl ?_
 refine WL.nx hK3 ?_
 refine CW.cond (b := (((len a0) != (len a1)))) rfl (fun hc4 => ?_) (fun hc4 => ?_)
 ·have hF := iteT hc4 hF
  refine CW.sr fun K5 hK5 => ?_
  refine WL.p (.bool false) rfl rfl ?_
  refine WL.nx hK5 ?_
  obtain rfl := Option.some.inj hF
  exact CW.rets (vs := [.bool false]) Try.results15 ⟨rfl, trivial⟩ ⟨_, rfl, _, (hE.rn he0 100 [] rfl rfl), rfl⟩ (fun _ _ h => h)
 ·have hF := iteF hc4 hF
  refine CW.skip ?_
  refine hK2 _ _ ?_
  refine CW.seq fun K6 hK6 => ?_
  refine CW.sr fun K7 hK7 => ?_
  refine WL.p p0 rfl rfl ?_
  refine WL.stepE (OW.len Try.underlying22 rfl (g0.baseM hE rfl)) rfl ?_
  refine WL.p (.int .i64 0) rfl rfl ?_
  refine WL.nx hK7 ?_
  refine CW.block ?_
  obtain ⟨r10, hl9, hF⟩ := bindE hF
  have hJ13 : ∀ (w11 : World) (o12 : Cls), .inl () = r10 → En w0 e0 o12 w11 → NK 26 K6 [] w11 := by
   intro  w11 o12  e_ hE
   subst e_
   have hF := elimL hF
   try dsimp only at hF
   refine hK6 _ _ ?_
   refine CW.sr fun K14 hK14 => ?_
   refine WL.p (.bool true) rfl rfl ?_
   refine WL.nx hK14 ?_
   obtain rfl := Option.some.inj hF
   exact CW.rets (vs := [.bool true]) Try.results15 ⟨rfl, trivial⟩ ⟨_, rfl, _, (hE.rn he0 100 [] rfl rfl), rfl⟩ (fun _ _ h => h)
  refine CW.sub (L' := [(0, p0), (1, p1), (12, .int .i64 (len a0)), (13, .int .i64 0)]) ⟨rfl, rfl, rfl, rfl, trivial⟩ ?_
  refine CW.loop (dynposref01_Ints_L1 a0 a1) (fun s_ L_ w15 => ∃ (o16 : Cls) (x8 : Int), x8 = s_ ∧ L_ = [(0, p0), (1, p1), (12, .int .i64 (len a0)), (13, .int .i64 x8)] ∧ En w0 e0 o16 w15) hl9 ?_ ?_
  ·exact ⟨e0, 0, rfl, rfl, hE⟩
  intro K17 s_ L_ w15 hi_ x18 hx19 hr20 hk21
  obtain ⟨o16, x8, rfl, rfl, hE⟩ := hi_
  rw [dynposref01_Ints_L1] at hx19
  refine CW.sr fun K22 hK22 => ?_
  refine WL.p (.bool ((decide (x8 < (len a0))))) rfl rfl ?_
  refine WL.nx hK22 ?_
  refine CW.seq fun K23 hK23 => ?_
  refine CW.cond (b := (decide (x8 < (len a0)))) rfl (fun hc24 => ?_) (fun hc24 => ?_)
  ·have hx19 := iteT hc24 hx19
   refine CW.skip ?_
   refine hK23 _ _ ?_
   refine CW.seq fun K25 hK25 => ?_
   refine CW.block ?_
   refine CW.sr fun K26 hK26 => ?_
   refine WL.p (.int .i64 x8) rfl rfl ?_
   refine WL.p (.int .i64 x8) rfl rfl ?_
   refine WL.nx hK26 ?_
   refine CW.seq fun K27 hK27 => ?_
   obtain ⟨y28, q32, hx19⟩ := bindE hx19
   obtain ⟨y33, q37, hx19⟩ := bindE hx19
   refine CW.anyS (N := []) hmix [sPt (some 2) none [2] [40] (vp 0) y28, sEp (some 2) none [2] (vk p0) 1 x8 (vp 0), sPt (some 6) none [6] [40, 41] (vp 0) y33, sEp (some 6) none [6] (vk p1) 1 x8 (vp 0)] [⟨[], [], [], [], vk p0, false⟩, ⟨[], [], [], [], vk (.int .i64 x8), false⟩, ⟨[], [], [0, 1], [2], vq 0, false⟩, ⟨[], [0], [0, 1, 2], [], vk (.int .i64 y28), false⟩, ⟨[], [], [], [], vk p1, false⟩, ⟨[], [], [], [], vk (.int .i64 x8), false⟩, ⟨[], [], [4, 5], [6], vq 0, false⟩, ⟨[], [2], [4, 5, 6], [], vk (.int .i64 y33), false⟩, ⟨[], [], rg 0 8, [], vk (.bool (((y28 != y33)))), false⟩] [] hE rfl (by kernel_rfl) (by kernel_rfl) trivial ⟨Ob.pv rfl rfl (fun _ => rfl) rfl (fun _ _ _ => trivial), Ob.pv rfl rfl (fun _ => rfl) rfl (fun _ _ _ => trivial), ?_, ?_, Ob.pv rfl rfl (fun _ => rfl) rfl (fun _ _ _ => trivial), Ob.pv rfl rfl (fun _ => rfl) rfl (fun _ _ _ => trivial), ?_, ?_, Ob.pv rfl rfl (fun _ => rfl) rfl (fun _ _ _ => trivial), trivial⟩ ?_
   ·intro vs38 o_ w_ hE 
    have hE := hE.1
    refine OW.r [(16, p0), (17, .int .i64 x8)] ⟨rfl, rfl, trivial⟩ (OW.indexAddr Try.underlying22 ty3 rfl (g0.baseM hE rfl) rfl q32) ?_
    rintro _ _ ⟨rfl, ⟨pa29, hv_, hp30, he31⟩⟩
    subst hv_
    exact ⟨_, Evo.refl _ _ _ _, rfl, hp30, he31, trivial⟩
   ·intro vs38 o_ w_ hE hp30
    have hp30 := tPt hp30
    exact OW.q [(18, .pointer (some (pOf (vs38 2))))] ⟨rfl, trivial⟩ (OW.loadI ty3 rfl hp30) (er rfl trivial)
   ·intro vs38 o_ w_ hE 
    have hE := hE.1
    refine OW.r [(20, p1), (21, .int .i64 x8)] ⟨rfl, rfl, trivial⟩ (OW.indexAddr Try.underlying22 ty3 rfl (g1.baseM hE rfl) rfl q37) ?_
    rintro _ _ ⟨rfl, ⟨pa34, hv_, hp35, he36⟩⟩
    subst hv_
    exact ⟨_, Evo.refl _ _ _ _, rfl, hp35, he36, trivial⟩
   ·intro vs38 o_ w_ hE hp35
    have hp35 := tPt hp35
    exact OW.q [(22, .pointer (some (pOf (vs38 6))))] ⟨rfl, trivial⟩ (OW.loadI ty3 rfl hp35) (er rfl trivial)
   ·intro vs38 o40 w39 hE hp30 he31 hp35 he36
    obtain ⟨hE, evT_⟩ := hE
    have hp30 : PtrAt (In o40 [40]) w39 (pOf (vs38 2)) y28 := hp30
    have he31 : EPtr p0 1 x8 (pOf (vs38 2)) := he31
    have hp35 : PtrAt (In o40 [40, 41]) w39 (pOf (vs38 6)) y33 := hp35
    have he36 : EPtr p1 1 x8 (pOf (vs38 6)) := he36
    refine hK27 _ _ ?_
    refine CW.cond (b := ((y28 != y33))) rfl (fun hc41 => ?_) (fun hc41 => ?_)
    ·have hx19 := iteT hc41 hx19
     refine CW.sr fun K42 hK42 => ?_
     refine WL.p (.bool false) rfl rfl ?_
     refine WL.nx hK42 ?_
     have e_ := hr20 _ (Option.some.inj hx19).symm
     subst e_
     have hF := elimR hF
     obtain rfl := Option.some.inj hF
     exact CW.rets (vs := [.bool false]) Try.results15 ⟨rfl, trivial⟩ ⟨_, rfl, _, (hE.rn he0 100 [] rfl rfl), rfl⟩ (fun _ _ h => h)
    ·have hx19 := iteF hc41 hx19
     refine CW.skip ?_
     refine hK25 _ _ ?_
     refine CW.region ?_
     refine WL.p (.int .i64 ((W (x8 + 1)))) rfl rfl ?_
     refine WL.p (.int .i64 ((W (x8 + 1)))) rfl rfl ?_
     refine WL.nil ?_
     exact NK.sb (hk21 _ _ _ (Option.some.inj hx19).symm ⟨o40, (W (x8 + 1)), rfl, rfl, hE⟩) ⟨rfl, rfl, rfl, rfl, trivial⟩
  ·have hx19 := iteF hc24 hx19
   refine CW.exit ?_
   exact NK.sb (hJ13 w15 o16 (hr20 _ (Option.some.inj hx19).symm) hE) trivial

set_option maxHeartbeats 1000000 in
theorem dynposref15_Island_ok {a0 : Island} {a1 : Island} {r : Bool} (hF : dynposref15_Island a0 a1 = some r) {w0 : World} {p0 : Value} {S0 : Nat → Prop} (g0 : Rv S0 w0 p0 a0) {p1 : Value} {S1 : Nat → Prop} (g1 : Rv S1 w0 p1 a1) :
    Calls Try.prog 24 #[p0, p1] w0 (Ret fun v w' => ∃ (oc : Cls), En w0 (entM w0 [] [S0, S1]) oc w' ∧ v = .bool r) := by
 obtain ⟨e0, he0⟩ : ∃ e0, e0 = entM w0 [] [S0, S1] := ⟨_, rfl⟩
 have hE := En.refl w0 e0
 have g0 := g0.argM he0 0 (K := [40]) rfl (nosep rfl) rfl
 have g1 := g1.argM he0 1 (K := [40, 41]) rfl (nosep rfl) rfl
 obtain ⟨u1, u2, u3, rfl, h4, h5, h6⟩ := op53 g0
 obtain ⟨u7, u8, u9, rfl, h10, h11, h12⟩ := op53 g1
 rw [dynposref15_Island] at hF
 refine enter (l := [.agg #[u1, u2, u3], .agg #[u7, u8, u9]]) Try.func24 rfl Try.ntmps24 rfl ?_
 refine CW.sub (L' := [(0, .agg #[u1, u2, u3]), (1, .agg #[u7, u8, u9])]) ⟨rfl, rfl, trivial⟩ ?_
 refine CW.sr fun K13 hK13 => ?_
 refine WL.step (OW.boxK (o := e0) 100 [u1, u2, u3] rfl rfl) rfl ?_
 rintro _ w16 ⟨pa14, o15, rfl, ev17, hb18⟩
 have hE := hE.evo ev17 rfl rfl
 refine WL.step (OW.boxK (o := o15) 101 [u7, u8, u9] rfl rfl) rfl ?_
 rintro _ w21 ⟨pa19, o20, rfl, ev22, hb23⟩
 have hE := hE.evo ev22 rfl rfl
 have hb18 := hb18.evo ev22 rfl
 refine WL.p (.bool false) rfl rfl ?_
 refine WL.nx hK13 ?_
 refine CW.sr fun K24 hK24 => ?_
 refine WL.stepE (OW.fldAddr (FldOk.at f53_0) rfl) rfl ?_
 refine WL.stepE (OW.loadK (off := 0) (List Int) (u1) ty22 rfl hb18 rfl rfl) rfl ?_
 refine WL.stepE (OW.fldAddr (FldOk.at f53_0) rfl) rfl ?_
 refine WL.stepE (OW.loadK (off := 0) (List Int) (u7) ty22 rfl hb23 rfl rfl) rfl ?_
 obtain ⟨y25, q26, hF⟩ := bindE hF
 refine WL.step (OW.call Try.call15 rfl (dynposref01_Ints_ok q26 (h4.baseM hE rfl) (h10.baseM hE rfl))) rfl ?_
 rintro _ w27 ⟨o31, hn_, rfl⟩
 obtain ⟨o28, ev29, hA30⟩ := adopt (o := o20) (ks := []) (Ks := [[40], [40, 41]]) 102 ([]) [102] hn_ MbOk.nil rfl rfl rfl rfl
 have hE := hE.evo ev29 rfl rfl
 have hb18 := hb18.evo ev29 rfl
 have hb23 := hb23.evo ev29 rfl
 refine WL.p (.bool y25) rfl rfl ?_
 obtain ⟨x32, q33, hF⟩ := bindE hF
 have hJ36 : ∀ (w34 : World) (o35 : Cls), En w0 e0 o35 w34 → NK 24 K24 [(4, .bool x32)] w34 := by
  intro w34 o35  hE
  refine hK24 _ _ ?_
  obtain rfl := Option.some.inj hF
  exact CW.rets (vs := [.bool x32]) Try.results24 ⟨rfl, trivial⟩ ⟨_, rfl, _, (hE.rn he0 100 [] rfl rfl), rfl⟩ (fun _ _ h => h)
 rcases Bool.eq_false_or_eq_true y25 with hc37 | hc37
 ·have q33 := iteT hc37 q33
  refine WL.stepGE rfl rfl rfl hc37 (OW.fldAddr (FldOk.at f53_1) rfl) rfl ?_
  refine WL.stepGE rfl rfl rfl hc37 (OW.loadK (off := 1) (List Int) (u2) ty22 rfl hb18 rfl rfl) rfl ?_
  refine WL.stepGE rfl rfl rfl hc37 (OW.fldAddr (FldOk.at f53_1) rfl) rfl ?_
  refine WL.stepGE rfl rfl rfl hc37 (OW.loadK (off := 1) (List Int) (u8) ty22 rfl hb23 rfl rfl) rfl ?_
  obtain ⟨y38, q39, q33⟩ := bindE q33
  refine WL.stepG rfl rfl rfl hc37 (OW.call Try.call15 rfl (dynposref01_Ints_ok q39 (h5.baseM hE rfl) (h11.baseM hE rfl))) rfl ?_
  rintro _ w40 ⟨o44, hn_, rfl⟩
  obtain ⟨o41, ev42, hA43⟩ := adopt (o := o28) (ks := []) (Ks := [[40], [40, 41]]) 103 ([]) [103] hn_ MbOk.nil rfl rfl rfl rfl
  have hE := hE.evo ev42 rfl rfl
  have hb18 := hb18.evo ev42 rfl
  have hb23 := hb23.evo ev42 rfl
  refine WL.stepE (OW.pickT rfl hc37 rfl) rfl ?_
  refine WL.p (.bool y38) rfl rfl ?_
  obtain ⟨x45, q46, q33⟩ := bindE q33
  have hJ49 : ∀ (w47 : World) (o48 : Cls), En w0 e0 o48 w47 → NK 24 K24 [(4, .bool x45)] w47 := by
   intro w47 o48  hE
   have e50 := Option.some.inj q33
   subst e50
   exact NK.sb (hJ36 w47 o48 hE) ⟨rfl, trivial⟩
  rcases Bool.eq_false_or_eq_true y38 with hc51 | hc51
  ·have q46 := iteT hc51 q46
   refine WL.stepGE rfl rfl rfl hc51 (OW.fldAddr (FldOk.at f53_2) rfl) rfl ?_
   refine WL.stepGE rfl rfl rfl hc51 (OW.loadK (off := 2) (List Int) (u3) ty22 rfl hb18 rfl rfl) rfl ?_
   refine WL.stepGE rfl rfl rfl hc51 (OW.fldAddr (FldOk.at f53_2) rfl) rfl ?_
   refine WL.stepGE rfl rfl rfl hc51 (OW.loadK (off := 2) (List Int) (u9) ty22 rfl hb23 rfl rfl) rfl ?_
   obtain ⟨y52, q53, q46⟩ := bindE q46
   refine WL.stepG rfl rfl rfl hc51 (OW.call Try.call15 rfl (dynposref01_Ints_ok q53 (h6.baseM hE rfl) (h12.baseM hE rfl))) rfl ?_
   rintro _ w54 ⟨o58, hn_, rfl⟩
   obtain ⟨o55, ev56, hA57⟩ := adopt (o := o41) (ks := []) (Ks := [[40], [40, 41]]) 104 ([]) [104] hn_ MbOk.nil rfl rfl rfl rfl
   have hE := hE.evo ev56 rfl rfl
   refine WL.stepE (OW.pickT rfl hc51 rfl) rfl ?_
   refine WL.p (.bool y52) rfl rfl ?_
   refine WL.nil ?_
   have e59 := Option.some.inj q46
   subst e59
   exact NK.sb (hJ49 w54 o55 hE) ⟨rfl, trivial⟩
  ·have q46 := iteF hc51 q46
   refine WL.skipG rfl rfl rfl (by rw [hc51]; rfl) rfl ?_
   refine WL.skipG rfl rfl rfl (by rw [hc51]; rfl) rfl ?_
   refine WL.skipG rfl rfl rfl (by rw [hc51]; rfl) rfl ?_
   refine WL.skipG rfl rfl rfl (by rw [hc51]; rfl) rfl ?_
   refine WL.skipG rfl rfl rfl (by rw [hc51]; rfl) rfl ?_
   refine WL.stepE (OW.pickF rfl hc51 rfl) rfl ?_
   refine WL.p (.bool false) rfl rfl ?_
   refine WL.nil ?_
   have e60 := Option.some.inj q46
   subst e60
   exact NK.sb (hJ49 w40 o41 hE) ⟨rfl, trivial⟩
 ·have q33 := iteF hc37 q33
  refine WL.skipG rfl rfl rfl (by rw [hc37]; rfl) rfl ?_
  refine WL.skipG rfl rfl rfl (by rw [hc37]; rfl) rfl ?_
  refine WL.skipG rfl rfl rfl (by rw [hc37]; rfl) rfl ?_
  refine WL.skipG rfl rfl rfl (by rw [hc37]; rfl) rfl ?_
  refine WL.skipG rfl rfl rfl (by rw [hc37]; rfl) rfl ?_
  refine WL.stepE (OW.pickF rfl hc37 rfl) rfl ?_
  refine WL.p (.bool false) rfl rfl ?_
  refine WL.skipG rfl rfl rfl rfl rfl ?_
  refine WL.skipG rfl rfl rfl rfl rfl ?_
  refine WL.skipG rfl rfl rfl rfl rfl ?_
  refine WL.skipG rfl rfl rfl rfl rfl ?_
  refine WL.skipG rfl rfl rfl rfl rfl ?_
  refine WL.stepE (OW.pickF rfl rfl rfl) rfl ?_
  refine WL.p (.bool false) rfl rfl ?_
  refine WL.nil ?_
  have e61 := Option.some.inj q33
  subst e61
  exact NK.sb (hJ36 w27 o28 hE) ⟨rfl, trivial⟩

set_option maxHeartbeats 1000000 in
theorem board_Of_ok {a0 : Board} {a1 : Power} {a2 : Int} {r : (Island × Bool)} (hF : board_Of a0 a1 a2 = some r) {w0 : World} {p0 : Value} {S0 : Nat → Prop} (g0 : Rv S0 w0 p0 a0) {p1 : Value} {S1 : Nat → Prop} (g1 : Rv S1 w0 p1 a1) :
    Calls Try.prog 22 #[p0, p1, .int .i64 a2] w0 (Ret fun v w' => ∃ (oc : Cls) (x0_0 : Value) (x0_1 : Value) (x0_2 : Value), En w0 (entM w0 [] [S0, S1]) oc w' ∧ v = .tuple #[.agg #[x0_0, x0_1, x0_2], .bool r.2] ∧ Rv (In oc [103]) w' x0_0 r.1.Buses ∧ Rv (In oc [103]) w' x0_1 r.1.Sources ∧ Rv (In oc [103]) w' x0_2 r.1.Consumers) := by
 obtain ⟨e0, he0⟩ : ∃ e0, e0 = entM w0 [] [S0, S1] := ⟨_, rfl⟩
 have hE := En.refl w0 e0
 have g0 := g0.argM he0 0 (K := [40]) rfl (nosep rfl) rfl
 have g1 := g1.argM he0 1 (K := [40, 41]) rfl (nosep rfl) rfl
 obtain ⟨u1, u2, u3, rfl, h4, h5, h6⟩ := op39 g0
 obtain ⟨u7, u8, u9, u10, rfl, h11, h12, h13, h14⟩ := op45 g1
 rw [board_Of] at hF
 refine enter (l := [.agg #[.int .i64 a0.Buses, u1, u2, u3, .int .i64 a0.Phase, .int .i64 a0.Frequency], .agg #[u7, u8, u9, u10], .int .i64 a2]) Try.func22 rfl Try.ntmps22 rfl ?_
 refine CW.sub (L' := [(0, .agg #[.int .i64 a0.Buses, u1, u2, u3, .int .i64 a0.Phase, .int .i64 a0.Frequency]), (1, .agg #[u7, u8, u9, u10]), (2, .int .i64 a2)]) ⟨rfl, rfl, rfl, trivial⟩ ?_
 refine CW.sr fun K15 hK15 => ?_
 refine WL.step (OW.boxK (o := e0) 100 [.int .i64 a0.Buses, u1, u2, u3, .int .i64 a0.Phase, .int .i64 a0.Frequency] rfl rfl) rfl ?_
 rintro _ w18 ⟨pa16, o17, rfl, ev19, hb20⟩
 have hE := hE.evo ev19 rfl rfl
 refine WL.step (OW.boxK (o := o17) 101 [u7, u8, u9, u10] rfl rfl) rfl ?_
 rintro _ w23 ⟨pa21, o22, rfl, ev24, hb25⟩
 have hE := hE.evo ev24 rfl rfl
 have hb20 := hb20.evo ev24 rfl
 refine WL.step (OW.allocK (o := o22) Island 102 [.slice none 0 0, .slice none 0 0, .slice none 0 0] ty53 rfl) rfl ?_
 rintro _ w28 ⟨pa26, o27, rfl, ev29, hb30⟩
 have hE := hE.evo ev29 rfl rfl
 have hb20 := hb20.evo ev29 rfl
 have hb25 := hb25.evo ev29 rfl
 have h31 := Ow.nil (α := Int) 3 o27 103 [] w28
 have h32 := Ow.nil (α := Int) 3 o27 104 [] w28
 have h33 := Ow.nil (α := Int) 3 o27 105 [] w28
 refine WL.p (.bool false) rfl rfl ?_
 refine WL.nx hK15 ?_
 refine CW.seq fun K34 hK34 => ?_
 refine CW.sr fun K35 hK35 => ?_
 refine WL.stepE (OW.loadK0 Board (.agg #[.int .i64 a0.Buses, u1, u2, u3, .int .i64 a0.Phase, .int .i64 a0.Frequency]) ty39 rfl hb20 rfl rfl) rfl ?_
 refine WL.stepE (OW.loadK0 Power (.agg #[u7, u8, u9, u10]) ty45 rfl hb25 rfl rfl) rfl ?_
 obtain ⟨y36, q37, hF⟩ := bindE hF
 refine WL.step (OW.call Try.call19 rfl (board_Islands_ok q37 (mk39 (x := a0) (h4.baseM hE rfl) (h5.baseM hE rfl) (h6.baseM hE rfl)) (mk45 (x := a1) (h11.baseM hE rfl) (h12.baseM hE rfl) (h13.baseM hE rfl) (h14.baseM hE rfl)))) rfl ?_
 rintro v44 w38 ⟨o42, hn_, h43⟩
 obtain ⟨o39, ev40, hA41⟩ := adopt (o := o27) (ks := []) (Ks := [[40], [40, 41]]) 106 ([(100, 107)]) [106, 107] hn_ MbOk.nil rfl rfl rfl rfl
 have h43 := h43.ad (c' := 107) (K' := [106]) hA41 rfl rfl
 have hE := hE.evo ev40 rfl rfl
 have h31 := h31.evo ev40 rfl
 have h32 := h32.evo ev40 rfl
 have h33 := h33.evo ev40 rfl
 have hb30 := hb30.evo ev40 rfl
 refine WL.stepE (OW.len Try.underlying49 rfl h43.rv) rfl ?_
 refine WL.p (.int .i64 0) rfl rfl ?_
 refine WL.nx hK35 ?_
 refine CW.block ?_
 obtain ⟨r47, hl46, hF⟩ := bindE hF
 have hJ50 : ∀ (w48 : World) (o49 : Cls), .inl () = r47 → En w0 e0 o49 w48 → Ow 3 o49 103 [] w48 (.slice none 0 0) ([] : List Int) → Ow 3 o49 104 [] w48 (.slice none 0 0) ([] : List Int) → Ow 3 o49 105 [] w48 (.slice none 0 0) ([] : List Int) → Bk o49 102 w48 pa26 [(.slice none 0 0), (.slice none 0 0), (.slice none 0 0)] → NK 25 K34 [(6, .pointer (some pa26))] w48 := by
  intro  w48 o49  e_ hE h31 h32 h33 hb30
  subst e_
  have hF := elimL hF
  try dsimp only at hF
  refine hK34 _ _ ?_
  refine CW.sr fun K51 hK51 => ?_
  refine WL.stepE (OW.buildK Island [] [.slice none 0 0, .slice none 0 0, .slice none 0 0] st53 ty53 rfl trivial rfl) rfl ?_
  have h52 := Ow.nil (α := Int) 3 o49 113 [] w48
  have h53 := Ow.nil (α := Int) 3 o49 114 [] w48
  have h54 := Ow.nil (α := Int) 3 o49 115 [] w48
  refine WL.step0 (OW.storeK0 Island [(.slice none 0 0), (.slice none 0 0), (.slice none 0 0)] [(.slice none 0 0), (.slice none 0 0), (.slice none 0 0)] ty53 rfl rfl hb30 rfl ⟨rfl, rfl, rfl, trivial⟩ rfl rfl rfl) ?_
  rintro _ w55 ⟨ev56, hb30⟩
  have hE := hE.evo ev56 rfl rfl
  have h52 := h52.evo ev56 rfl
  have h53 := h53.evo ev56 rfl
  have h54 := h54.evo ev56 rfl
  refine WL.p (.bool false) rfl rfl ?_
  refine WL.nx hK51 ?_
  obtain rfl := Option.some.inj hF
  exact CW.rets (vs := [.agg #[(.slice none 0 0), (.slice none 0 0), (.slice none 0 0)], .bool false]) Try.results22 ⟨ResIs.bk Island (.agg #[(.slice none 0 0), (.slice none 0 0), (.slice none 0 0)]) ty53 rfl hb30 rfl rfl, rfl, trivial⟩ ⟨_, rfl, _, ((.slice none 0 0)), ((.slice none 0 0)), ((.slice none 0 0)), (hE.rn he0 103 [] rfl rfl), rfl, (h52.rv.rn (K' := [103]) rfl), (h53.rv.rn (K' := [103]) rfl), (h54.rv.rn (K' := [103]) rfl)⟩ (fun _ _ h => h)
 refine CW.sub (L' := [(2, .int .i64 a2), (6, .pointer (some pa26)), (12, v44), (13, .int .i64 (len y36)), (14, .int .i64 0)]) ⟨rfl, rfl, rfl, rfl, rfl, trivial⟩ ?_
 refine CW.loop (board_Of_L1 a2 y36) (fun s_ L_ w57 => ∃ (o58 : Cls) (x45 : Int), x45 = s_ ∧ L_ = [(2, .int .i64 a2), (6, .pointer (some pa26)), (12, v44), (13, .int .i64 (len y36)), (14, .int .i64 x45)] ∧ En w0 e0 o58 w57 ∧ Ow 3 o58 103 [] w57 (.slice none 0 0) ([] : List Int) ∧ Ow 3 o58 104 [] w57 (.slice none 0 0) ([] : List Int) ∧ Ow 3 o58 105 [] w57 (.slice none 0 0) ([] : List Int) ∧ Ow 53 o58 107 [106] w57 v44 y36 ∧ Bk o58 102 w57 pa26 [(.slice none 0 0), (.slice none 0 0), (.slice none 0 0)]) hl46 ?_ ?_
 ·exact ⟨o39, 0, rfl, rfl, hE, h31, h32, h33, h43, hb30⟩
 intro K59 s_ L_ w57 hi_ x60 hx61 hr62 hk63
 obtain ⟨o58, x45, rfl, rfl, hE, h31, h32, h33, h43, hb30⟩ := hi_
 rw [board_Of_L1] at hx61
 refine CW.sr fun K64 hK64 => ?_
 refine WL.p (.bool ((decide (x45 < (len y36))))) rfl rfl ?_
 refine WL.nx hK64 ?_
 refine CW.seq fun K65 hK65 => ?_
 refine CW.cond (b := (decide (x45 < (len y36)))) rfl (fun hc66 => ?_) (fun hc66 => ?_)
 ·have hx61 := iteT hc66 hx61
  refine CW.skip ?_
  refine hK65 _ _ ?_
  refine CW.seq fun K67 hK67 => ?_
  refine CW.block ?_
  refine CW.sr fun K68 hK68 => ?_
  obtain ⟨y69, q73, hx61⟩ := bindE hx61
  refine WL.stepP (OW.indexAddrO Try.underlying49 ty53 rfl h43 rfl q73) rfl fun _ ⟨pa70, hv_, hp71, he72⟩ => ?_
  subst hv_
  refine WL.stepP (OW.loadO ty53 rfl hp71) rfl fun v74 h75 => ?_
  obtain ⟨u76, u77, u78, rfl, h79, h80, h81⟩ := op53 h75
  refine WL.step (OW.allocK (o := o58) Island 108 [.slice none 0 0, .slice none 0 0, .slice none 0 0] ty53 rfl) rfl ?_
  rintro _ w84 ⟨pa82, o83, rfl, ev85, hb86⟩
  have hE := hE.evo ev85 rfl rfl
  have h31 := h31.evo ev85 rfl
  have h32 := h32.evo ev85 rfl
  have h33 := h33.evo ev85 rfl
  have h43 := h43.evo ev85 rfl
  have h79 := h79.evo ev85 rfl
  have h80 := h80.evo ev85 rfl
  have h81 := h81.evo ev85 rfl
  have hb30 := hb30.evo ev85 rfl
  have h87 := Ow.nil (α := Int) 3 o83 109 [] w84
  have h88 := Ow.nil (α := Int) 3 o83 110 [] w84
  have h89 := Ow.nil (α := Int) 3 o83 111 [] w84
  refine WL.step0 (OW.storeK0 Island [u76, u77, u78] [u76, u77, u78] ty53 rfl rfl hb86 rfl ⟨(h79.one rfl), (h80.one rfl), (h81.one rfl), trivial⟩ rfl rfl rfl) ?_
  rintro _ w90 ⟨ev91, hb86⟩
  have hE := hE.evo ev91 rfl rfl
  have h31 := h31.evo ev91 rfl
  have h32 := h32.evo ev91 rfl
  have h33 := h33.evo ev91 rfl
  have h43 := h43.evo ev91 rfl
  have h79 := h79.evo ev91 rfl
  have h80 := h80.evo ev91 rfl
  have h81 := h81.evo ev91 rfl
  have hb30 := hb30.evo ev91 rfl
  refine WL.nx hK68 ?_
  refine CW.sr fun K92 hK92 => ?_
  refine WL.stepE (OW.fldAddr (FldOk.at f53_0) rfl) rfl ?_
  refine WL.stepE (OW.loadK (off := 0) (List Int) (u76) ty22 rfl hb86 rfl rfl) rfl ?_
  refine WL.p (.int .i64 a2) rfl rfl ?_
  obtain ⟨y93, q94, hx61⟩ := bindE hx61
  refine WL.step (OW.call Try.call57 rfl (slices_Contains_int_int_ok q94 h79)) rfl ?_
  rintro _ w95 ⟨o99, hn_, rfl⟩
  obtain ⟨o96, ev97, hA98⟩ := adopt (o := o83) (ks := []) (Ks := [[106]]) 112 ([]) [112] hn_ MbOk.nil rfl rfl rfl rfl
  have hE := hE.evo ev97 rfl rfl
  have h31 := h31.evo ev97 rfl
  have h32 := h32.evo ev97 rfl
  have h33 := h33.evo ev97 rfl
  have h43 := h43.evo ev97 rfl
  have h79 := h79.evo ev97 rfl
  have h80 := h80.evo ev97 rfl
  have h81 := h81.evo ev97 rfl
  have hb30 := hb30.evo ev97 rfl
  have hb86 := hb86.evo ev97 rfl
  refine WL.nx hK92 ?_
  refine CW.cond (b := y93) rfl (fun hc100 => ?_) (fun hc100 => ?_)
  ·have hx61 := iteT hc100 hx61
   refine CW.sr fun K101 hK101 => ?_
   refine WL.stepE (OW.loadK0 Island (.agg #[u76, u77, u78]) ty53 rfl hb86 rfl rfl) rfl ?_
   refine WL.step0 (OW.storeK0 Island [u76, u77, u78] [u76, u77, u78] ty53 rfl rfl hb30 rfl ⟨(h79.one rfl), (h80.one rfl), (h81.one rfl), trivial⟩ rfl rfl rfl) ?_
   rintro _ w102 ⟨ev103, hb30⟩
   have hE := hE.evo ev103 rfl rfl
   have h79 := h79.evo ev103 rfl
   have h80 := h80.evo ev103 rfl
   have h81 := h81.evo ev103 rfl
   refine WL.p (.bool true) rfl rfl ?_
   refine WL.nx hK101 ?_
   have e_ := hr62 _ (Option.some.inj hx61).symm
   subst e_
   have hF := elimR hF
   obtain rfl := Option.some.inj hF
   exact CW.rets (vs := [.agg #[u76, u77, u78], .bool true]) Try.results22 ⟨ResIs.bk Island (.agg #[u76, u77, u78]) ty53 rfl hb30 rfl rfl, rfl, trivial⟩ ⟨_, rfl, _, (u76), (u77), (u78), (hE.rn he0 103 [] rfl rfl), rfl, (h79.rn (K' := [103]) rfl), (h80.rn (K' := [103]) rfl), (h81.rn (K' := [103]) rfl)⟩ (fun _ _ h => h)
  ·have hx61 := iteF hc100 hx61
   refine CW.skip ?_
   refine hK67 _ _ ?_
   refine CW.region ?_
   refine WL.p (.int .i64 ((W (x45 + 1)))) rfl rfl ?_
   refine WL.p (.int .i64 ((W (x45 + 1)))) rfl rfl ?_
   refine WL.nil ?_
   exact NK.sb (hk63 _ _ _ (Option.some.inj hx61).symm ⟨o96, (W (x45 + 1)), rfl, rfl, hE, h31, h32, h33, h43, hb30⟩) ⟨rfl, rfl, rfl, rfl, rfl, trivial⟩
 ·have hx61 := iteF hc66 hx61
  refine CW.exit ?_
  exact NK.sb (hJ50 w57 o58 (hr62 _ (Option.some.inj hx61).symm) hE h31 h32 h33 hb30) ⟨rfl, trivial⟩

set_option maxHeartbeats 1000000 in
theorem board_Live_ok {a0 : Board} {a1 : Power} {a2 : Int} {r : Bool} (hF : board_Live a0 a1 a2 = some r) {w0 : World} {p0 : Value} {S0 : Nat → Prop} (g0 : Rv S0 w0 p0 a0) {p1 : Value} {S1 : Nat → Prop} (g1 : Rv S1 w0 p1 a1) :
    Calls Try.prog 27 #[p0, p1, .int .i64 a2] w0 (Ret fun v w' => ∃ (oc : Cls), En w0 (entM w0 [] [S0, S1]) oc w' ∧ v = .bool r) := by
 obtain ⟨e0, he0⟩ : ∃ e0, e0 = entM w0 [] [S0, S1] := ⟨_, rfl⟩
 have hE := En.refl w0 e0
 have g0 := g0.argM he0 0 (K := [40]) rfl (nosep rfl) rfl
 have g1 := g1.argM he0 1 (K := [40, 41]) rfl (nosep rfl) rfl
 obtain ⟨u1, u2, u3, rfl, h4, h5, h6⟩ := op39 g0
 obtain ⟨u7, u8, u9, u10, rfl, h11, h12, h13, h14⟩ := op45 g1
 rw [board_Live] at hF
 refine enter (l := [.agg #[.int .i64 a0.Buses, u1, u2, u3, .int .i64 a0.Phase, .int .i64 a0.Frequency], .agg #[u7, u8, u9, u10], .int .i64 a2]) Try.func27 rfl Try.ntmps27 rfl ?_
 refine CW.sub (L' := [(0, .agg #[.int .i64 a0.Buses, u1, u2, u3, .int .i64 a0.Phase, .int .i64 a0.Frequency]), (1, .agg #[u7, u8, u9, u10]), (2, .int .i64 a2)]) ⟨rfl, rfl, rfl, trivial⟩ ?_
 refine CW.sr fun K15 hK15 => ?_
 refine WL.step (OW.boxK (o := e0) 100 [.int .i64 a0.Buses, u1, u2, u3, .int .i64 a0.Phase, .int .i64 a0.Frequency] rfl rfl) rfl ?_
 rintro _ w18 ⟨pa16, o17, rfl, ev19, hb20⟩
 have hE := hE.evo ev19 rfl rfl
 refine WL.step (OW.boxK (o := o17) 101 [u7, u8, u9, u10] rfl rfl) rfl ?_
 rintro _ w23 ⟨pa21, o22, rfl, ev24, hb25⟩
 have hE := hE.evo ev24 rfl rfl
 have hb20 := hb20.evo ev24 rfl
 refine WL.p (.bool false) rfl rfl ?_
 refine WL.nx hK15 ?_
 refine CW.sr fun K26 hK26 => ?_
 refine WL.stepE (OW.loadK0 Board (.agg #[.int .i64 a0.Buses, u1, u2, u3, .int .i64 a0.Phase, .int .i64 a0.Frequency]) ty39 rfl hb20 rfl rfl) rfl ?_
 refine WL.stepE (OW.loadK0 Power (.agg #[u7, u8, u9, u10]) ty45 rfl hb25 rfl rfl) rfl ?_
 refine WL.p (.int .i64 a2) rfl rfl ?_
 obtain ⟨⟨y27, y28⟩, q29, hF⟩ := bindE hF
 dsimp only at hF
 refine WL.step (OW.call Try.call22 rfl (board_Of_ok q29 (mk39 (x := a0) (h4.baseM hE rfl) (h5.baseM hE rfl) (h6.baseM hE rfl)) (mk45 (x := a1) (h11.baseM hE rfl) (h12.baseM hE rfl) (h13.baseM hE rfl) (h14.baseM hE rfl)))) rfl ?_
 rintro _ w30 ⟨o34, u36, u38, u40, hn_, rfl, h35, h37, h39⟩
 obtain ⟨o31, ev32, hA33⟩ := adopt (o := o22) (ks := []) (Ks := [[40], [40, 41]]) 102 ([]) [102] hn_ MbOk.nil rfl rfl rfl rfl
 have h35 := h35.ad (K' := [102]) hA33 rfl
 have h37 := h37.ad (K' := [102]) hA33 rfl
 have h39 := h39.ad (K' := [102]) hA33 rfl
 have hE := hE.evo ev32 rfl rfl
 refine WL.p (.tuple #[.agg #[u36, u38, u40], .bool y28]) rfl rfl ?_
 refine WL.p (.agg #[u36, u38, u40]) rfl rfl ?_
 refine WL.p (.bool y28) rfl rfl ?_
 refine WL.step (OW.allocK (o := o31) Island 103 [.slice none 0 0, .slice none 0 0, .slice none 0 0] ty53 rfl) rfl ?_
 rintro _ w43 ⟨pa41, o42, rfl, ev44, hb45⟩
 have hE := hE.evo ev44 rfl rfl
 have h35 := h35.evo ev44 rfl
 have h37 := h37.evo ev44 rfl
 have h39 := h39.evo ev44 rfl
 have h46 := Ow.nil (α := Int) 3 o42 104 [] w43
 have h47 := Ow.nil (α := Int) 3 o42 105 [] w43
 have h48 := Ow.nil (α := Int) 3 o42 106 [] w43
 refine WL.step0 (OW.storeK0 Island [u36, u38, u40] [u36, u38, u40] ty53 rfl rfl hb45 rfl ⟨(h35.one rfl), (h37.one rfl), (h39.one rfl), trivial⟩ rfl rfl rfl) ?_
 rintro _ w49 ⟨ev50, hb45⟩
 have hE := hE.evo ev50 rfl rfl
 have h35 := h35.evo ev50 rfl
 have h37 := h37.evo ev50 rfl
 have h39 := h39.evo ev50 rfl
 refine WL.p (.bool y28) rfl rfl ?_
 refine WL.nx hK26 ?_
 refine CW.sr fun K51 hK51 => ?_
 refine WL.stepE (OW.fldAddr (FldOk.at f53_1) rfl) rfl ?_
 refine WL.stepE (OW.loadK (off := 1) (List Int) (u38) ty22 rfl hb45 rfl rfl) rfl ?_
 refine WL.stepE (OW.len Try.underlying22 rfl h37) rfl ?_
 refine WL.p (.bool ((decide ((len y27.Sources) > 0)))) rfl rfl ?_
 refine WL.p (.bool ((decide ((len y27.Sources) > 0)))) rfl rfl ?_
 refine WL.nx hK51 ?_
 obtain rfl := Option.some.inj hF
 exact CW.rets (vs := [.bool ((decide ((len y27.Sources) > 0)))]) Try.results27 ⟨rfl, trivial⟩ ⟨_, rfl, _, (hE.rn he0 100 [] rfl rfl), rfl⟩ (fun _ _ h => h)

set_option maxHeartbeats 1000000 in
theorem board_Find_ok {a0 : Board} {a1 : Int} {a2 : Int} {r : (List Int)} (hF : board_Find a0 a1 a2 = some r) {w0 : World} {p0 : Value} {S0 : Nat → Prop} (g0 : Rv S0 w0 p0 a0) :
    Calls Try.prog 28 #[p0, .int .i64 a1, .int .i64 a2] w0 (Ret fun v w' => ∃ (oc : Cls), En w0 (entM w0 [] [S0]) oc w' ∧ Ow 3 oc 100 [] w' v r) := by
 obtain ⟨e0, he0⟩ : ∃ e0, e0 = entM w0 [] [S0] := ⟨_, rfl⟩
 have hE := En.refl w0 e0
 have g0 := g0.argM he0 0 (K := [40]) rfl (nosep rfl) rfl
 obtain ⟨u1, u2, u3, rfl, h4, h5, h6⟩ := op39 g0
 rw [board_Find] at hF
 refine enter (l := [.agg #[.int .i64 a0.Buses, u1, u2, u3, .int .i64 a0.Phase, .int .i64 a0.Frequency], .int .i64 a1, .int .i64 a2]) Try.func28 rfl Try.ntmps28 rfl ?_
 refine CW.sub (L' := [(0, .agg #[.int .i64 a0.Buses, u1, u2, u3, .int .i64 a0.Phase, .int .i64 a0.Frequency]), (1, .int .i64 a1), (2, .int .i64 a2)]) ⟨rfl, rfl, rfl, trivial⟩ ?_
 refine CW.sr fun K7 hK7 => ?_
 refine WL.step (OW.boxK (o := e0) 100 [.int .i64 a0.Buses, u1, u2, u3, .int .i64 a0.Phase, .int .i64 a0.Frequency] rfl rfl) rfl ?_
 rintro _ w10 ⟨pa8, o9, rfl, ev11, hb12⟩
 have hE := hE.evo ev11 rfl rfl
 have h13 := Ow.nil (α := Int) 3 o9 101 [] w10
 refine WL.p (.slice none 0 0) rfl rfl ?_
 refine WL.nx hK7 ?_
 refine CW.seq fun K14 hK14 => ?_
 refine CW.sr fun K15 hK15 => ?_
 refine WL.stepE (OW.loadK0 Board (.agg #[.int .i64 a0.Buses, u1, u2, u3, .int .i64 a0.Phase, .int .i64 a0.Frequency]) ty39 rfl hb12 rfl rfl) rfl ?_
 obtain ⟨y16, q17, hF⟩ := bindE hF
 refine WL.step (OW.call Try.call32 rfl (board_Check_ok q17 (mk39 (x := a0) (h4.baseM hE rfl) (h5.baseM hE rfl) (h6.baseM hE rfl)))) rfl ?_
 rintro _ w18 ⟨o22, hn_, rfl⟩
 obtain ⟨o19, ev20, hA21⟩ := adopt (o := o9) (ks := []) (Ks := [[40]]) 102 ([]) [102] hn_ MbOk.nil rfl rfl rfl rfl
 have hE := hE.evo ev20 rfl rfl
 have hb12 := hb12.evo ev20 rfl
 refine WL.p (.bool (((y16 != 0)))) rfl rfl ?_
 refine WL.nx hK15 ?_
 refine CW.cond (b := ((y16 != 0))) rfl (fun hc23 => ?_) (fun hc23 => ?_)
 ·have hF := iteT hc23 hF
  refine CW.sr fun K24 hK24 => ?_
  have h25 := Ow.nil (α := Int) 3 o19 103 [] w18
  refine WL.p (.slice none 0 0) rfl rfl ?_
  refine WL.nx hK24 ?_
  obtain rfl := Option.some.inj hF
  exact CW.rets (vs := [(.slice none 0 0)]) Try.results28 ⟨rfl, trivial⟩ ⟨_, rfl, _, (hE.rn he0 101 [] rfl rfl), (Ow.nil _ _ _ _ _)⟩ (fun _ _ h => h)
 ·have hF := iteF hc23 hF
  refine CW.skip ?_
  refine hK14 _ _ ?_
  refine CW.sr fun K26 hK26 => ?_
  have h27 := Ow.nil (α := Int) 3 o19 104 [] w18
  refine WL.p (.slice none 0 0) rfl rfl ?_
  refine WL.nx hK26 ?_
  refine CW.seq fun K28 hK28 => ?_
  refine CW.sr fun K29 hK29 => ?_
  refine WL.stepE (OW.fldAddr (FldOk.at f39_1) rfl) rfl ?_
  refine WL.stepE (OW.loadK (off := 1) (List Breaker) (u1) ty35 rfl hb12 rfl rfl) rfl ?_
  refine WL.stepE (OW.len Try.underlying35 rfl (h4.baseM hE rfl)) rfl ?_
  refine WL.p (.int .i64 0) rfl rfl ?_
  refine WL.nx hK29 ?_
  refine CW.block ?_
  obtain ⟨r38, hl37, hF⟩ := bindE hF
  have hJ41 : ∀ (x34 : (List Int)) (w39 : World) (o40 : Cls) (v35 : Value), x34 = r38 → En w0 e0 o40 w39 → Ow 3 o40 104 [] w39 v35 x34 → NK 47 K28 [(7, v35)] w39 := by
   intro x34 w39 o40 v35 e_ hE h36
   subst e_
   try dsimp only at hF
   refine hK28 _ _ ?_
   refine CW.sr fun K42 hK42 => ?_
   refine WL.p v35 rfl rfl ?_
   refine WL.p v35 rfl rfl ?_
   refine WL.nx hK42 ?_
   obtain rfl := Option.some.inj hF
   exact CW.rets (vs := [v35]) Try.results28 ⟨rfl, trivial⟩ ⟨_, rfl, _, (hE.rn he0 101 [(104, 100)] rfl rfl), (h36.rn (c' := 100) (K' := []) rfl rfl)⟩ (fun _ _ h => h)
  refine CW.sub (L' := [(1, .int .i64 a1), (2, .int .i64 a2), (7, (.slice none 0 0)), (14, u1), (15, .int .i64 (len a0.Breakers)), (16, .int .i64 0)]) ⟨rfl, rfl, rfl, rfl, rfl, rfl, trivial⟩ ?_
  refine CW.loop (board_Find_L1 a0 a1 a2) (fun s_ L_ w43 => ∃ (o44 : Cls) (x30 : (List Int)) (x33 : Int) (v31 : Value), (x30, x33) = s_ ∧ L_ = [(1, .int .i64 a1), (2, .int .i64 a2), (7, v31), (14, u1), (15, .int .i64 (len a0.Breakers)), (16, .int .i64 x33)] ∧ En w0 e0 o44 w43 ∧ Ow 3 o44 104 [] w43 v31 x30) hl37 ?_ ?_
  ·exact ⟨o19, ([] : List Int), 0, (.slice none 0 0), rfl, rfl, hE, h27⟩
  intro K45 s_ L_ w43 hi_ x46 hx47 hr48 hk49
  obtain ⟨o44, x30, x33, v31, rfl, rfl, hE, h32⟩ := hi_
  rw [board_Find_L1] at hx47
  refine CW.sr fun K50 hK50 => ?_
  refine WL.p (.bool ((decide (x33 < (len a0.Breakers))))) rfl rfl ?_
  refine WL.nx hK50 ?_
  refine CW.seq fun K51 hK51 => ?_
  refine CW.cond (b := (decide (x33 < (len a0.Breakers)))) rfl (fun hc52 => ?_) (fun hc52 => ?_)
  ·have hx47 := iteT hc52 hx47
   refine CW.skip ?_
   refine hK51 _ _ ?_
   refine CW.seq fun K53 hK53 => ?_
   refine CW.block ?_
   refine CW.sr fun K54 hK54 => ?_
   refine WL.p (.int .i64 x33) rfl rfl ?_
   obtain ⟨y55, q59, hx47⟩ := bindE hx47
   refine WL.stepP (OW.indexAddr Try.underlying35 ty48 rfl (h4.baseM hE rfl) rfl q59) rfl fun _ ⟨pa56, hv_, hp57, he58⟩ => ?_
   subst hv_
   refine WL.stepP (OW.load ty48 rfl hp57) rfl fun v60 h61 => ?_
   obtain rfl := op48 h61
   refine WL.step (OW.allocK (o := o44) Breaker 105 [.int .i64 0, .int .i64 0, .int .i64 0] ty48 rfl) rfl ?_
   rintro _ w64 ⟨pa62, o63, rfl, ev65, hb66⟩
   have hE := hE.evo ev65 rfl rfl
   have h32 := h32.evo ev65 rfl
   refine WL.p (.int .i64 x33) rfl rfl ?_
   refine WL.step0 (OW.storeK0 Breaker [.int .i64 y55.Kind, .int .i64 y55.A, .int .i64 y55.B] [.int .i64 y55.Kind, .int .i64 y55.A, .int .i64 y55.B] ty48 rfl rfl hb66 rfl ⟨rfl, rfl, rfl, trivial⟩ rfl rfl rfl) ?_
   rintro _ w67 ⟨ev68, hb66⟩
   have hE := hE.evo ev68 rfl rfl
   have h32 := h32.evo ev68 rfl
   refine WL.nx hK54 ?_
   refine CW.sr fun K69 hK69 => ?_
   refine WL.stepE (OW.fldAddr (FldOk.at f48_0) rfl) rfl ?_
   refine WL.stepE (OW.loadK (off := 0) Int (.int .i64 y55.Kind) ty3 rfl hb66 rfl rfl) rfl ?_
   refine WL.p (.int .i64 a1) rfl rfl ?_
   refine WL.p (.bool (((y55.Kind == a1)))) rfl rfl ?_
   refine WL.p (.bool (((y55.Kind == a1)))) rfl rfl ?_
   obtain ⟨x70, q71, hx47⟩ := bindE hx47
   have hJ74 : ∀ (w72 : World) (o73 : Cls), En w0 e0 o73 w72 → Ow 3 o73 104 [] w72 v31 x30 → NK 47 K69 [(1, .int .i64 a1), (2, .int .i64 a2), (7, v31), (8, .int .i64 x33), (14, u1), (15, .int .i64 (len a0.Breakers)), (16, .int .i64 x33), (40, .bool x70)] w72 := by
    intro w72 o73  hE h32
    refine hK69 _ _ ?_
    obtain ⟨x75, q78, hx47⟩ := bindE hx47
    have hJ81 : ∀ (w79 : World) (o80 : Cls) (v76 : Value), En w0 e0 o80 w79 → Ow 3 o80 104 [] w79 v76 x75 → NK 47 K53 [(1, .int .i64 a1), (2, .int .i64 a2), (7, v76), (14, u1), (15, .int .i64 (len a0.Breakers)), (16, .int .i64 x33)] w79 := by
     intro w79 o80 v76 hE h77
     refine hK53 _ _ ?_
     refine CW.region ?_
     refine WL.p (.int .i64 ((W (x33 + 1)))) rfl rfl ?_
     refine WL.p (.int .i64 ((W (x33 + 1)))) rfl rfl ?_
     refine WL.nil ?_
     exact NK.sb (hk49 _ _ _ (Option.some.inj hx47).symm ⟨o80, x75, (W (x33 + 1)), v76, rfl, rfl, hE, h77⟩) ⟨rfl, rfl, rfl, rfl, rfl, rfl, trivial⟩
    refine CW.cond (b := x70) rfl (fun hc82 => ?_) (fun hc82 => ?_)
    ·have q78 := iteT hc82 q78
     refine CW.region ?_
     refine WL.p v31 rfl rfl ?_
     refine WL.p (.int .i64 x33) rfl rfl ?_
     refine WL.step (OW.buildSlice (o := o73) (k := 106) (K := []) (xs := ([x33] : List Int)) Try.underlying22 ty3 rfl ⟨(rv_int.2 rfl), trivial⟩ rfl rfl) rfl ?_
     rintro v83 w84 ⟨o85, ev86, h87⟩
     have hE := hE.evo ev86 rfl rfl
     have h32 := h32.evo ev86 rfl
     obtain ⟨y88, q89, q78⟩ := bindE q78
     refine WL.step (OW.append (K := []) Try.underlying22 ty3 rfl rfl h32 h87.els.flat q89 rfl) rfl ?_
     rintro v90 w91 ⟨o92, ev93, h94⟩
     have hE := hE.evo ev93 rfl rfl
     have h87 := h87.evo ev93 rfl
     refine WL.p v90 rfl rfl ?_
     refine WL.nil ?_
     have e95 := Option.some.inj q78
     subst e95
     exact NK.sb (hJ81 w91 o92 v90 hE h94) ⟨rfl, rfl, rfl, rfl, rfl, rfl, trivial⟩
    ·have q78 := iteF hc82 q78
     refine CW.skip ?_
     have e96 := Option.some.inj q78
     subst e96
     exact NK.sb (hJ81 w72 o73 v31 hE h32) ⟨rfl, rfl, rfl, rfl, rfl, rfl, trivial⟩
   rcases Bool.eq_false_or_eq_true (((y55.Kind == a1))) with hc97 | hc97
   ·have q71 := iteT hc97 q71
    refine WL.stepGE rfl rfl rfl hc97 (OW.fldAddr (FldOk.at f48_2) rfl) rfl ?_
    refine WL.stepGE rfl rfl rfl hc97 (OW.loadK (off := 2) Int (.int .i64 y55.B) ty3 rfl hb66 rfl rfl) rfl ?_
    refine WL.stepGE rfl rfl rfl hc97 (OW.pv (v := (.int .i64 a2)) rfl) rfl ?_
    refine WL.stepGE rfl rfl rfl hc97 (OW.pv (v := (.bool (((y55.B == a2))))) rfl) rfl ?_
    refine WL.stepGE rfl rfl rfl hc97 (OW.pv (v := (.bool (((y55.B == a2))))) rfl) rfl ?_
    obtain ⟨z_, q100, q71⟩ := bindE q71
    obtain ⟨x98, x99⟩ := z_
    try dsimp only at q71
    have hJ103 : ∀ (w101 : World) (o102 : Cls), En w0 e0 o102 w101 → Ow 3 o102 104 [] w101 v31 x30 → Bk o102 105 w101 pa62 [.int .i64 y55.Kind, .int .i64 y55.A, .int .i64 y55.B] → NK 47 K69 [(1, .int .i64 a1), (2, .int .i64 a2), (7, v31), (8, .int .i64 x33), (14, u1), (15, .int .i64 (len a0.Breakers)), (16, .int .i64 x33), (26, .pointer (some (pa62.add 2))), (27, .int .i64 y55.B), (28, .int .i64 a2), (29, .bool (((y55.B == a2)))), (30, .bool (((y55.B == a2)))), (39, .bool x98), (40, .bool x99)] w101 := by
     intro w101 o102  hE h32 hb66
     have e104 := Option.some.inj q71
     subst e104
     exact NK.sb (hJ74 w101 o102 hE h32) ⟨rfl, rfl, rfl, rfl, rfl, rfl, rfl, rfl, trivial⟩
    rcases Bool.eq_false_or_eq_true (((y55.B == a2))) with hc105 | hc105
    ·have q100 := iteT hc105 q100
     refine WL.skipG rfl rfl rfl (by rw [hc105]; rfl) rfl ?_
     refine WL.skipG rfl rfl rfl (by rw [hc105]; rfl) rfl ?_
     refine WL.skipG rfl rfl rfl (by rw [hc105]; rfl) rfl ?_
     refine WL.skipU rfl rfl rfl rfl ?_
     refine WL.skipU rfl rfl rfl rfl ?_
     refine WL.skipU rfl rfl rfl rfl ?_
     refine WL.skipU rfl rfl rfl rfl ?_
     refine WL.skipG rfl rfl rfl (by rw [hc105]; rfl) rfl ?_
     refine WL.stepGE rfl rfl rfl hc97 (OW.pickT rfl hc105 rfl) rfl ?_
     refine WL.stepE (OW.pickT rfl hc97 rfl) rfl ?_
     refine WL.nil ?_
     have e106 := Option.some.inj q100
     obtain ⟨e107, e108⟩ := Prod.mk.inj e106
     subst e107 e108
     exact NK.sb (hJ103 w67 o63 hE h32 hb66) ⟨rfl, rfl, rfl, rfl, rfl, rfl, rfl, rfl, rfl, rfl, rfl, rfl, rfl, rfl, trivial⟩
    ·have q100 := iteF hc105 q100
     refine WL.stepGE rfl rfl rfl hc105 (OW.pv (v := (.int .i64 a1)) rfl) rfl ?_
     refine WL.stepGE rfl rfl rfl hc105 (OW.pv (v := (.bool (((a1 == 1))))) rfl) rfl ?_
     refine WL.stepGE rfl rfl rfl hc105 (OW.pv (v := (.bool (((a1 == 1))))) rfl) rfl ?_
     obtain ⟨z_, q112, q100⟩ := bindE q100
     obtain ⟨x109, x110, x111⟩ := z_
     try dsimp only at q100
     have hJ115 : ∀ (w113 : World) (o114 : Cls), En w0 e0 o114 w113 → Ow 3 o114 104 [] w113 v31 x30 → Bk o114 105 w113 pa62 [.int .i64 y55.Kind, .int .i64 y55.A, .int .i64 y55.B] → NK 47 K69 [(1, .int .i64 a1), (2, .int .i64 a2), (7, v31), (8, .int .i64 x33), (14, u1), (15, .int .i64 (len a0.Breakers)), (16, .int .i64 x33), (26, .pointer (some (pa62.add 2))), (27, .int .i64 y55.B), (28, .int .i64 a2), (29, .bool (((y55.B == a2)))), (30, .bool (((y55.B == a2)))), (31, .int .i64 a1), (32, .bool (((a1 == 1)))), (33, .bool (((a1 == 1)))), (38, .bool x109), (39, .bool x110), (40, .bool x111)] w113 := by
      intro w113 o114  hE h32 hb66
      have e116 := Option.some.inj q100
      obtain ⟨e117, e118⟩ := Prod.mk.inj e116
      subst e117 e118
      exact NK.sb (hJ103 w113 o114 hE h32 hb66) ⟨rfl, rfl, rfl, rfl, rfl, rfl, rfl, rfl, rfl, rfl, rfl, rfl, rfl, rfl, trivial⟩
     rcases Bool.eq_false_or_eq_true (((a1 == 1))) with hc119 | hc119
     ·have q112 := iteT hc119 q112
      refine WL.stepGE rfl rfl rfl hc119 (OW.fldAddr (FldOk.at f48_1) rfl) rfl ?_
      refine WL.stepGE rfl rfl rfl hc119 (OW.loadK (off := 1) Int (.int .i64 y55.A) ty3 rfl hb66 rfl rfl) rfl ?_
      refine WL.stepGE rfl rfl rfl hc119 (OW.pv (v := (.int .i64 a2)) rfl) rfl ?_
      refine WL.stepGE rfl rfl rfl hc119 (OW.pv (v := (.bool (((y55.A == a2))))) rfl) rfl ?_
      refine WL.stepGE rfl rfl rfl hc105 (OW.pickT rfl hc119 rfl) rfl ?_
      refine WL.stepGE rfl rfl rfl hc97 (OW.pickF rfl hc105 rfl) rfl ?_
      refine WL.stepE (OW.pickT rfl hc97 rfl) rfl ?_
      refine WL.nil ?_
      have e120 := Option.some.inj q112
      obtain ⟨e121, e122⟩ := Prod.mk.inj e120
      obtain ⟨e123, e124⟩ := Prod.mk.inj e122
      subst e121 e123 e124
      exact NK.sb (hJ115 w67 o63 hE h32 hb66) ⟨rfl, rfl, rfl, rfl, rfl, rfl, rfl, rfl, rfl, rfl, rfl, rfl, rfl, rfl, rfl, rfl, rfl, rfl, trivial⟩
     ·have q112 := iteF hc119 q112
      refine WL.skipG rfl rfl rfl (by rw [hc119]; rfl) rfl ?_
      refine WL.skipG rfl rfl rfl (by rw [hc119]; rfl) rfl ?_
      refine WL.skipG rfl rfl rfl (by rw [hc119]; rfl) rfl ?_
      refine WL.skipG rfl rfl rfl (by rw [hc119]; rfl) rfl ?_
      refine WL.stepGE rfl rfl rfl hc105 (OW.pickF rfl hc119 rfl) rfl ?_
      refine WL.stepGE rfl rfl rfl hc97 (OW.pickF rfl hc105 rfl) rfl ?_
      refine WL.stepE (OW.pickT rfl hc97 rfl) rfl ?_
      refine WL.nil ?_
      have e125 := Option.some.inj q112
      obtain ⟨e126, e127⟩ := Prod.mk.inj e125
      obtain ⟨e128, e129⟩ := Prod.mk.inj e127
      subst e126 e128 e129
      exact NK.sb (hJ115 w67 o63 hE h32 hb66) ⟨rfl, rfl, rfl, rfl, rfl, rfl, rfl, rfl, rfl, rfl, rfl, rfl, rfl, rfl, rfl, rfl, rfl, rfl, trivial⟩
   ·have q71 := iteF hc97 q71
    refine WL.skipG rfl rfl rfl (by rw [hc97]; rfl) rfl ?_
    refine WL.skipG rfl rfl rfl (by rw [hc97]; rfl) rfl ?_
    refine WL.skipG rfl rfl rfl (by rw [hc97]; rfl) rfl ?_
    refine WL.skipG rfl rfl rfl (by rw [hc97]; rfl) rfl ?_
    refine WL.skipG rfl rfl rfl (by rw [hc97]; rfl) rfl ?_
    refine WL.skipU rfl rfl rfl rfl ?_
    refine WL.skipU rfl rfl rfl rfl ?_
    refine WL.skipU rfl rfl rfl rfl ?_
    refine WL.skipU rfl rfl rfl rfl ?_
    refine WL.skipU rfl rfl rfl rfl ?_
    refine WL.skipU rfl rfl rfl rfl ?_
    refine WL.skipU rfl rfl rfl rfl ?_
    refine WL.skipU rfl rfl rfl rfl ?_
    refine WL.skipG rfl rfl rfl (by rw [hc97]; rfl) rfl ?_
    refine WL.stepE (OW.pickF rfl hc97 rfl) rfl ?_
    refine WL.nil ?_
    have e130 := Option.some.inj q71
    subst e130
    exact NK.sb (hJ74 w67 o63 hE h32) ⟨rfl, rfl, rfl, rfl, rfl, rfl, rfl, rfl, trivial⟩
  ·have hx47 := iteF hc52 hx47
   refine CW.exit ?_
   exact NK.sb (hJ41 x30 w43 o44 v31 (hr48 _ (Option.some.inj hx47).symm) hE h32) ⟨rfl, trivial⟩

end Go.Proofs.Ytnpghnnlcakbfaa
