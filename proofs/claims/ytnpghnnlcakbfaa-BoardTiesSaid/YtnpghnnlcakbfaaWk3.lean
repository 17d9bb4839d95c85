/- Walks. Written by a program (wip/gen). -/
import Derived.Test.YtnpghnnlcakbfaaHw
set_option linter.unusedVariables false
set_option linter.unusedSimpArgs false
namespace Go.Proofs.Ytnpghnnlcakbfaa
open Go Go.RowKit Dp

set_option maxRecDepth 100000

set_option maxHeartbeats 1000000 in
theorem dynposref15_within_ok {a0 : Int} {a1 : Int} {a2 : Int} {r : Bool} (hF : dynposref15_within a0 a1 a2 = some r) {w0 : World}  :
    Calls Try.prog 72 #[.int .i64 a0, .int .i64 a1, .int .i64 a2] w0 (Ret fun v w' => ∃ (oc : Cls), En w0 (entM w0 [] []) oc w' ∧ v = .bool r) := by
 obtain ⟨e0, he0⟩ : ∃ e0, e0 = entM w0 [] [] := ⟨_, rfl⟩
 have hE := En.refl w0 e0
 rw [dynposref15_within] at hF
 refine enter (l := [.int .i64 a0, .int .i64 a1, .int .i64 a2]) Try.func72 rfl Try.ntmps72 rfl ?_
 refine CW.sub (L' := [(0, .int .i64 a0), (1, .int .i64 a1), (2, .int .i64 a2)]) ⟨rfl, rfl, rfl, trivial⟩ ?_
 refine CW.sr fun K1 hK1 => ?_
 refine WL.p (.bool false) rfl rfl ?_
 refine WL.nx hK1 ?_
 refine CW.sr fun K2 hK2 => ?_
 refine WL.p (.int .i64 a0) rfl rfl ?_
 refine WL.p (.int .i64 a1) rfl rfl ?_
 refine WL.p (.bool ((decide (a0 ≥ a1)))) rfl rfl ?_
 refine WL.p (.bool ((decide (a0 ≥ a1)))) rfl rfl ?_
 obtain ⟨x3, q4, hF⟩ := bindE hF
 have hJ7 : ∀ (w5 : World) (o6 : Cls), En w0 e0 o6 w5 → NK 15 K2 [(6, .bool x3)] w5 := by
  intro w5 o6  hE
  refine hK2 _ _ ?_
  obtain rfl := Option.some.inj hF
  exact CW.rets (vs := [.bool x3]) Try.results72 ⟨rfl, trivial⟩ ⟨_, rfl, _, (hE.rn he0 100 [] rfl rfl), rfl⟩ (fun _ _ h => h)
 rcases Bool.eq_false_or_eq_true ((decide (a0 ≥ a1))) with hc8 | hc8
 ·have q4 := iteT hc8 q4
  refine WL.stepGE rfl rfl rfl hc8 (OW.pv (v := (.int .i64 a0)) rfl) rfl ?_
  refine WL.stepGE rfl rfl rfl hc8 (OW.pv (v := (.int .i64 a2)) rfl) rfl ?_
  refine WL.stepGE rfl rfl rfl hc8 (OW.pv (v := (.bool ((decide (a0 ≤ a2))))) rfl) rfl ?_
  refine WL.stepE (OW.pickT rfl hc8 rfl) rfl ?_
  refine WL.p (.bool ((decide (a0 ≤ a2)))) rfl rfl ?_
  refine WL.nil ?_
  have e9 := Option.some.inj q4
  subst e9
  exact NK.sb (hJ7 w0 e0 hE) ⟨rfl, trivial⟩
 ·have q4 := iteF hc8 q4
  refine WL.skipG rfl rfl rfl (by rw [hc8]; rfl) rfl ?_
  refine WL.skipG rfl rfl rfl (by rw [hc8]; rfl) rfl ?_
  refine WL.skipG rfl rfl rfl (by rw [hc8]; rfl) rfl ?_
  refine WL.stepE (OW.pickF rfl hc8 rfl) rfl ?_
  refine WL.p (.bool false) rfl rfl ?_
  refine WL.nil ?_
  have e10 := Option.some.inj q4
  subst e10
  exact NK.sb (hJ7 w0 e0 hE) ⟨rfl, trivial⟩

set_option maxHeartbeats 1000000 in
theorem dynposref15_Exists_ok {a0 : Board} {a1 : Part} {r : Bool} (hF : dynposref15_Exists a0 a1 = some r) {w0 : World} {p0 : Value} {S0 : Nat → Prop} (g0 : Rv S0 w0 p0 a0) {p1 : Value} {S1 : Nat → Prop} (g1 : Rv S1 w0 p1 a1) :
    Calls Try.prog 50 #[p0, p1] w0 (Ret fun v w' => ∃ (oc : Cls), En w0 (entM w0 [] [S0, S1]) oc w' ∧ v = .bool r) := by
 obtain ⟨e0, he0⟩ : ∃ e0, e0 = entM w0 [] [S0, S1] := ⟨_, rfl⟩
 have hE := En.refl w0 e0
 have g0 := g0.argM he0 0 (K := [40]) rfl (nosep rfl) rfl
 have g1 := g1.argM he0 1 (K := [40, 41]) rfl (nosep rfl) rfl
 obtain ⟨u1, u2, u3, rfl, h4, h5, h6⟩ := op39 g0
 obtain rfl := op66 g1
 rw [dynposref15_Exists] at hF
 refine enter (l := [.agg #[.int .i64 a0.Buses, u1, u2, u3, .int .i64 a0.Phase, .int .i64 a0.Frequency], .agg #[.int .i64 a1.Kind, .int .i64 a1.Number]]) Try.func50 rfl Try.ntmps50 rfl ?_
 refine CW.sub (L' := [(0, .agg #[.int .i64 a0.Buses, u1, u2, u3, .int .i64 a0.Phase, .int .i64 a0.Frequency]), (1, .agg #[.int .i64 a1.Kind, .int .i64 a1.Number])]) ⟨rfl, rfl, trivial⟩ ?_
 refine CW.sr fun K7 hK7 => ?_
 refine WL.step (OW.boxK (o := e0) 100 [.int .i64 a0.Buses, u1, u2, u3, .int .i64 a0.Phase, .int .i64 a0.Frequency] rfl rfl) rfl ?_
 rintro _ w10 ⟨pa8, o9, rfl, ev11, hb12⟩
 have hE := hE.evo ev11 rfl rfl
 refine WL.step (OW.boxK (o := o9) 101 [.int .i64 a1.Kind, .int .i64 a1.Number] rfl rfl) rfl ?_
 rintro _ w15 ⟨pa13, o14, rfl, ev16, hb17⟩
 have hE := hE.evo ev16 rfl rfl
 have hb12 := hb12.evo ev16 rfl
 refine WL.p (.bool false) rfl rfl ?_
 refine WL.nx hK7 ?_
 refine CW.seq fun K18 hK18 => ?_
 refine CW.sr fun K19 hK19 => ?_
 refine WL.stepE (OW.fldAddr (FldOk.at f66_0) rfl) rfl ?_
 refine WL.stepE (OW.loadK (off := 0) Int (.int .i64 a1.Kind) ty3 rfl hb17 rfl rfl) rfl ?_
 refine WL.nx hK19 ?_
 refine CW.block ?_
 refine CW.sr fun K20 hK20 => ?_
 refine WL.p (.bool (((a1.Kind == 1)))) rfl rfl ?_
 refine WL.p (.bool (((a1.Kind == 1)))) rfl rfl ?_
 refine WL.nx hK20 ?_
 refine CW.cond (b := ((a1.Kind == 1))) rfl (fun hc21 => ?_) (fun hc21 => ?_)
 ·have hF := iteT hc21 hF
  refine CW.sr fun K22 hK22 => ?_
  refine WL.stepE (OW.fldAddr (FldOk.at f66_1) rfl) rfl ?_
  refine WL.stepE (OW.loadK (off := 1) Int (.int .i64 a1.Number) ty3 rfl hb17 rfl rfl) rfl ?_
  refine WL.stepE (OW.fldAddr (FldOk.at f39_2) rfl) rfl ?_
  refine WL.stepE (OW.loadK (off := 2) (List Source) (u2) ty36 rfl hb12 rfl rfl) rfl ?_
  refine WL.stepE (OW.len Try.underlying36 rfl (h5.baseM hE rfl)) rfl ?_
  refine WL.p (.int .i64 ((W ((len a0.Sources) - 1)))) rfl rfl ?_
  obtain ⟨y23, q24, hF⟩ := bindE hF
  refine WL.step (OW.call Try.call72 rfl (dynposref15_within_ok q24)) rfl ?_
  rintro _ w25 ⟨o29, hn_, rfl⟩
  obtain ⟨o26, ev27, hA28⟩ := adopt (o := o14) (ks := []) (Ks := []) 102 ([]) [102] hn_ MbOk.nil rfl rfl rfl rfl
  have hE := hE.evo ev27 rfl rfl
  refine WL.p (.bool y23) rfl rfl ?_
  refine WL.nx hK22 ?_
  obtain rfl := Option.some.inj hF
  exact CW.rets (vs := [.bool y23]) Try.results50 ⟨rfl, trivial⟩ ⟨_, rfl, _, (hE.rn he0 100 [] rfl rfl), rfl⟩ (fun _ _ h => h)
 ·have hF := iteF hc21 hF
  refine CW.sr fun K30 hK30 => ?_
  refine WL.p (.bool (((a1.Kind == 2)))) rfl rfl ?_
  refine WL.p (.bool (((a1.Kind == 2)))) rfl rfl ?_
  refine WL.nx hK30 ?_
  refine CW.cond (b := ((a1.Kind == 2))) rfl (fun hc31 => ?_) (fun hc31 => ?_)
  ·have hF := iteT hc31 hF
   refine CW.sr fun K32 hK32 => ?_
   refine WL.stepE (OW.fldAddr (FldOk.at f66_1) rfl) rfl ?_
   refine WL.stepE (OW.loadK (off := 1) Int (.int .i64 a1.Number) ty3 rfl hb17 rfl rfl) rfl ?_
   refine WL.stepE (OW.fldAddr (FldOk.at f39_1) rfl) rfl ?_
   refine WL.stepE (OW.loadK (off := 1) (List Breaker) (u1) ty35 rfl hb12 rfl rfl) rfl ?_
   refine WL.stepE (OW.len Try.underlying35 rfl (h4.baseM hE rfl)) rfl ?_
   refine WL.p (.int .i64 ((W ((len a0.Breakers) - 1)))) rfl rfl ?_
   obtain ⟨y33, q34, hF⟩ := bindE hF
   refine WL.step (OW.call Try.call72 rfl (dynposref15_within_ok q34)) rfl ?_
   rintro _ w35 ⟨o39, hn_, rfl⟩
   obtain ⟨o36, ev37, hA38⟩ := adopt (o := o14) (ks := []) (Ks := []) 103 ([]) [103] hn_ MbOk.nil rfl rfl rfl rfl
   have hE := hE.evo ev37 rfl rfl
   refine WL.p (.bool y33) rfl rfl ?_
   refine WL.nx hK32 ?_
   obtain rfl := Option.some.inj hF
   exact CW.rets (vs := [.bool y33]) Try.results50 ⟨rfl, trivial⟩ ⟨_, rfl, _, (hE.rn he0 100 [] rfl rfl), rfl⟩ (fun _ _ h => h)
  ·have hF := iteF hc31 hF
   refine CW.sr fun K40 hK40 => ?_
   refine WL.p (.bool (((a1.Kind == 3)))) rfl rfl ?_
   refine WL.p (.bool (((a1.Kind == 3)))) rfl rfl ?_
   refine WL.nx hK40 ?_
   refine CW.cond (b := ((a1.Kind == 3))) rfl (fun hc41 => ?_) (fun hc41 => ?_)
   ·have hF := iteT hc41 hF
    refine CW.sr fun K42 hK42 => ?_
    refine WL.stepE (OW.fldAddr (FldOk.at f66_1) rfl) rfl ?_
    refine WL.stepE (OW.loadK (off := 1) Int (.int .i64 a1.Number) ty3 rfl hb17 rfl rfl) rfl ?_
    refine WL.stepE (OW.fldAddr (FldOk.at f39_0) rfl) rfl ?_
    refine WL.stepE (OW.loadK (off := 0) Int (.int .i64 a0.Buses) ty3 rfl hb12 rfl rfl) rfl ?_
    refine WL.p (.int .i64 ((W (a0.Buses - 1)))) rfl rfl ?_
    obtain ⟨y43, q44, hF⟩ := bindE hF
    refine WL.step (OW.call Try.call72 rfl (dynposref15_within_ok q44)) rfl ?_
    rintro _ w45 ⟨o49, hn_, rfl⟩
    obtain ⟨o46, ev47, hA48⟩ := adopt (o := o14) (ks := []) (Ks := []) 104 ([]) [104] hn_ MbOk.nil rfl rfl rfl rfl
    have hE := hE.evo ev47 rfl rfl
    refine WL.p (.bool y43) rfl rfl ?_
    refine WL.nx hK42 ?_
    obtain rfl := Option.some.inj hF
    exact CW.rets (vs := [.bool y43]) Try.results50 ⟨rfl, trivial⟩ ⟨_, rfl, _, (hE.rn he0 100 [] rfl rfl), rfl⟩ (fun _ _ h => h)
   ·have hF := iteF hc41 hF
    refine CW.sr fun K50 hK50 => ?_
    refine WL.p (.bool (((a1.Kind == 4)))) rfl rfl ?_
    refine WL.p (.bool (((a1.Kind == 4)))) rfl rfl ?_
    refine WL.nx hK50 ?_
    refine CW.cond (b := ((a1.Kind == 4))) rfl (fun hc51 => ?_) (fun hc51 => ?_)
    ·have hF := iteT hc51 hF
     refine CW.sr fun K52 hK52 => ?_
     refine WL.stepE (OW.fldAddr (FldOk.at f66_1) rfl) rfl ?_
     refine WL.stepE (OW.loadK (off := 1) Int (.int .i64 a1.Number) ty3 rfl hb17 rfl rfl) rfl ?_
     refine WL.stepE (OW.fldAddr (FldOk.at f39_3) rfl) rfl ?_
     refine WL.stepE (OW.loadK (off := 3) (List Consumer) (u3) ty37 rfl hb12 rfl rfl) rfl ?_
     refine WL.stepE (OW.len Try.underlying37 rfl (h6.baseM hE rfl)) rfl ?_
     refine WL.p (.int .i64 ((W ((len a0.Consumers) - 1)))) rfl rfl ?_
     obtain ⟨y53, q54, hF⟩ := bindE hF
     refine WL.step (OW.call Try.call72 rfl (dynposref15_within_ok q54)) rfl ?_
     rintro _ w55 ⟨o59, hn_, rfl⟩
     obtain ⟨o56, ev57, hA58⟩ := adopt (o := o14) (ks := []) (Ks := []) 105 ([]) [105] hn_ MbOk.nil rfl rfl rfl rfl
     have hE := hE.evo ev57 rfl rfl
     refine WL.p (.bool y53) rfl rfl ?_
     refine WL.nx hK52 ?_
     obtain rfl := Option.some.inj hF
     exact CW.rets (vs := [.bool y53]) Try.results50 ⟨rfl, trivial⟩ ⟨_, rfl, _, (hE.rn he0 100 [] rfl rfl), rfl⟩ (fun _ _ h => h)
    ·have hF := iteF hc51 hF
     refine CW.skip ?_
     refine hK18 _ _ ?_
     refine CW.sr fun K60 hK60 => ?_
     refine WL.p (.bool false) rfl rfl ?_
     refine WL.nx hK60 ?_
     obtain rfl := Option.some.inj hF
     exact CW.rets (vs := [.bool false]) Try.results50 ⟨rfl, trivial⟩ ⟨_, rfl, _, (hE.rn he0 100 [] rfl rfl), rfl⟩ (fun _ _ h => h)

end Go.Proofs.Ytnpghnnlcakbfaa
