/- Walks. Written by a program (wip/gen). -/
import Derived.Test.YtdfkfohpgakihaaHw
import Derived.Test.YtdfkfohpgakihaaWk6
import Derived.Test.YtdfkfohpgakihaaWk7
import Derived.Test.YtdfkfohpgakihaaWk8
import Derived.Test.YtdfkfohpgakihaaWk12
set_option linter.unusedVariables false
set_option linter.unusedSimpArgs false
namespace Go.Proofs.Ytdfkfohpgakihaa
open Go Go.RowKit Dp

set_option maxRecDepth 100000

set_option maxHeartbeats 1000000 in
theorem board_Broken_ok {a0 : Power} {a1 : Int} {a2 : Int} {r : Bool} (hF : board_Broken a0 a1 a2 = some r) {w0 : World} {p0 : Value} {S0 : Nat → Prop} (g0 : Rv S0 w0 p0 a0) :
    Calls Try.prog 47 #[p0, .int .i64 a1, .int .i64 a2] w0 (Ret fun v w' => ∃ (oc : Cls), En w0 (entM w0 [] [S0]) oc w' ∧ v = .bool r) := by
 obtain ⟨e0, he0⟩ : ∃ e0, e0 = entM w0 [] [S0] := ⟨_, rfl⟩
 have hE := En.refl w0 e0
 have g0 := g0.argM he0 0 (K := [40]) rfl (nosep rfl) rfl
 obtain ⟨u1, u2, u3, u4, rfl, h5, h6, h7, h8⟩ := op34 g0
 rw [board_Broken] at hF
 refine enter (l := [.agg #[u1, u2, u3, u4], .int .i64 a1, .int .i64 a2]) Try.func47 rfl Try.ntmps47 rfl ?_
 refine CW.sub (L' := [(0, .agg #[u1, u2, u3, u4]), (1, .int .i64 a1), (2, .int .i64 a2)]) ⟨rfl, rfl, rfl, trivial⟩ ?_
 refine CW.sr fun K9 hK9 => ?_
 refine WL.step (OW.boxK (o := e0) 100 [u1, u2, u3, u4] rfl rfl) rfl ?_
 rintro _ w12 ⟨pa10, o11, rfl, ev13, hb14⟩
 have hE := hE.evo ev13 rfl rfl
 refine WL.p (.bool false) rfl rfl ?_
 refine WL.nx hK9 ?_
 refine CW.sr fun K15 hK15 => ?_
 refine WL.stepE (OW.fldAddr (FldOk.at f34_3) rfl) rfl ?_
 refine WL.stepE (OW.loadK (off := 3) (List Part) (u4) ty32 rfl hb14 rfl rfl) rfl ?_
 refine WL.p (.int .i64 a1) rfl rfl ?_
 refine WL.p (.int .i64 a2) rfl rfl ?_
 refine WL.stepE (OW.buildK Part [(0, [.int .i64 a1]), (1, [.int .i64 a2])] [.int .i64 a1, .int .i64 a2] st65 ty65 rfl ⟨rfl, rfl, rfl, rfl, trivial⟩ rfl) rfl ?_
 obtain ⟨y16, q17, hF⟩ := bindE hF
 refine WL.step (OW.call Try.call80 rfl (slices_Contains_Part_Part_ok q17 (h8.baseM hE rfl) (mk65 (S := In o11 []) (x := (⟨a1, a2⟩ : Part))))) rfl ?_
 rintro _ w18 ⟨o22, hn_, rfl⟩
 obtain ⟨o19, ev20, hA21⟩ := adopt (o := o11) (ks := []) (Ks := [[40], []]) 101 ([]) [101] hn_ MbOk.nil rfl rfl rfl rfl
 have hE := hE.evo ev20 rfl rfl
 refine WL.p (.bool y16) rfl rfl ?_
 refine WL.nx hK15 ?_
 obtain rfl := Option.some.inj hF
 exact CW.rets (vs := [.bool y16]) Try.results47 ⟨rfl, trivial⟩ ⟨_, rfl, _, (hE.rn he0 100 [] rfl rfl), rfl⟩ (fun _ _ h => h)

set_option maxHeartbeats 1000000 in
theorem board_Fed_ok {a0 : Board} {a1 : Power} {a2 : Int} {r : (Int × Bool)} (hF : board_Fed a0 a1 a2 = some r) {w0 : World} {p0 : Value} {S0 : Nat → Prop} (g0 : Rv S0 w0 p0 a0) {p1 : Value} {S1 : Nat → Prop} (g1 : Rv S1 w0 p1 a1) :
    Calls Try.prog 78 #[p0, p1, .int .i64 a2] w0 (Ret fun v w' => ∃ (oc : Cls), En w0 (entM w0 [] [S0, S1]) oc w' ∧ v = .tuple #[.int .i64 r.1, .bool r.2]) := by
 obtain ⟨e0, he0⟩ : ∃ e0, e0 = entM w0 [] [S0, S1] := ⟨_, rfl⟩
 have hE := En.refl w0 e0
 have g0 := g0.argM he0 0 (K := [40]) rfl (nosep rfl) rfl
 have g1 := g1.argM he0 1 (K := [40, 41]) rfl (nosep rfl) rfl
 obtain ⟨u1, u2, u3, rfl, h4, h5, h6⟩ := op29 g0
 obtain ⟨u7, u8, u9, u10, rfl, h11, h12, h13, h14⟩ := op34 g1
 rw [board_Fed] at hF
 refine enter (l := [.agg #[.int .i64 a0.Buses, u1, u2, u3, .int .i64 a0.Phase, .int .i64 a0.Frequency], .agg #[u7, u8, u9, u10], .int .i64 a2]) Try.func78 rfl Try.ntmps78 rfl ?_
 refine CW.sub (L' := [(0, .agg #[.int .i64 a0.Buses, u1, u2, u3, .int .i64 a0.Phase, .int .i64 a0.Frequency]), (1, .agg #[u7, u8, u9, u10]), (2, .int .i64 a2)]) ⟨rfl, rfl, rfl, trivial⟩ ?_
 refine CW.sr fun K15 hK15 => ?_
 refine WL.step (OW.boxK (o := e0) 100 [.int .i64 a0.Buses, u1, u2, u3, .int .i64 a0.Phase, .int .i64 a0.Frequency] rfl rfl) rfl ?_
 rintro _ w18 ⟨pa16, o17, rfl, ev19, hb20⟩
 have hE := hE.evo ev19 rfl rfl
 refine WL.step (OW.boxK (o := o17) 101 [u7, u8, u9, u10] rfl rfl) rfl ?_
 rintro _ w23 ⟨pa21, o22, rfl, ev24, hb25⟩
 have hE := hE.evo ev24 rfl rfl
 have hb20 := hb20.evo ev24 rfl
 refine WL.p (.int .i64 0) rfl rfl ?_
 refine WL.p (.bool false) rfl rfl ?_
 refine WL.nx hK15 ?_
 refine CW.seq fun K26 hK26 => ?_
 refine CW.sr fun K27 hK27 => ?_
 refine WL.stepE (OW.loadK0 Board (.agg #[.int .i64 a0.Buses, u1, u2, u3, .int .i64 a0.Phase, .int .i64 a0.Frequency]) ty29 rfl hb20 rfl rfl) rfl ?_
 refine WL.stepE (OW.loadK0 Power (.agg #[u7, u8, u9, u10]) ty34 rfl hb25 rfl rfl) rfl ?_
 obtain ⟨y28, q29, hF⟩ := bindE hF
 refine WL.step (OW.call Try.call34 rfl (board_State_ok q29 (mk29 (x := a0) (h4.baseM hE rfl) (h5.baseM hE rfl) (h6.baseM hE rfl)) (mk34 (x := a1) (h11.baseM hE rfl) (h12.baseM hE rfl) (h13.baseM hE rfl) (h14.baseM hE rfl)))) rfl ?_
 rintro _ w30 ⟨o34, hn_, rfl⟩
 obtain ⟨o31, ev32, hA33⟩ := adopt (o := o22) (ks := []) (Ks := [[40], [40, 41]]) 102 ([]) [102] hn_ MbOk.nil rfl rfl rfl rfl
 have hE := hE.evo ev32 rfl rfl
 have hb20 := hb20.evo ev32 rfl
 have hb25 := hb25.evo ev32 rfl
 refine WL.p (.bool (((y28 != 0)))) rfl rfl ?_
 refine WL.nx hK27 ?_
 refine CW.cond (b := ((y28 != 0))) rfl (fun hc35 => ?_) (fun hc35 => ?_)
 ·have hF := iteT hc35 hF
  refine CW.sr fun K36 hK36 => ?_
  refine WL.p (.int .i64 0) rfl rfl ?_
  refine WL.p (.bool false) rfl rfl ?_
  refine WL.nx hK36 ?_
  obtain rfl := Option.some.inj hF
  exact CW.rets (vs := [.int .i64 0, .bool false]) Try.results78 ⟨rfl, rfl, trivial⟩ ⟨_, rfl, _, (hE.rn he0 100 [] rfl rfl), rfl⟩ (fun _ _ h => h)
 ·have hF := iteF hc35 hF
  refine CW.skip ?_
  refine hK26 _ _ ?_
  refine CW.sr fun K37 hK37 => ?_
  refine WL.stepE (OW.loadK0 Board (.agg #[.int .i64 a0.Buses, u1, u2, u3, .int .i64 a0.Phase, .int .i64 a0.Frequency]) ty29 rfl hb20 rfl rfl) rfl ?_
  refine WL.stepE (OW.loadK0 Power (.agg #[u7, u8, u9, u10]) ty34 rfl hb25 rfl rfl) rfl ?_
  refine WL.p (.int .i64 a2) rfl rfl ?_
  obtain ⟨⟨y38, y39⟩, q40, hF⟩ := bindE hF
  dsimp only at hF
  refine WL.step (OW.call Try.call71 rfl (board_fed_ok q40 (mk29 (x := a0) (h4.baseM hE rfl) (h5.baseM hE rfl) (h6.baseM hE rfl)) (mk34 (x := a1) (h11.baseM hE rfl) (h12.baseM hE rfl) (h13.baseM hE rfl) (h14.baseM hE rfl)))) rfl ?_
  rintro _ w41 ⟨o45, hn_, rfl⟩
  obtain ⟨o42, ev43, hA44⟩ := adopt (o := o31) (ks := []) (Ks := [[40], [40, 41]]) 103 ([]) [103] hn_ MbOk.nil rfl rfl rfl rfl
  have hE := hE.evo ev43 rfl rfl
  refine WL.p (.int .i64 y38) rfl rfl ?_
  refine WL.p (.bool y39) rfl rfl ?_
  refine WL.p (.int .i64 y38) rfl rfl ?_
  refine WL.p (.bool y39) rfl rfl ?_
  refine WL.nx hK37 ?_
  obtain rfl := Option.some.inj hF
  exact CW.rets (vs := [.int .i64 y38, .bool y39]) Try.results78 ⟨rfl, rfl, trivial⟩ ⟨_, rfl, _, (hE.rn he0 100 [] rfl rfl), rfl⟩ (fun _ _ h => h)

set_option maxHeartbeats 1000000 in
theorem sync_sound_ok {a0 : Board} {a1 : Power} {a2 : Int} {r : Bool} (hF : sync_sound a0 a1 a2 = some r) {w0 : World} {p0 : Value} {S0 : Nat → Prop} (g0 : Rv S0 w0 p0 a0) {p1 : Value} {S1 : Nat → Prop} (g1 : Rv S1 w0 p1 a1) :
    Calls Try.prog 44 #[p0, p1, .int .i64 a2] w0 (Ret fun v w' => ∃ (oc : Cls), En w0 (entM w0 [] [S0, S1]) oc w' ∧ v = .bool r) := by
 obtain ⟨e0, he0⟩ : ∃ e0, e0 = entM w0 [] [S0, S1] := ⟨_, rfl⟩
 have hE := En.refl w0 e0
 have g0 := g0.argM he0 0 (K := [40]) rfl (nosep rfl) rfl
 have g1 := g1.argM he0 1 (K := [40, 41]) rfl (nosep rfl) rfl
 obtain ⟨u1, u2, u3, rfl, h4, h5, h6⟩ := op29 g0
 obtain ⟨u7, u8, u9, u10, rfl, h11, h12, h13, h14⟩ := op34 g1
 rw [sync_sound] at hF
 refine enter (l := [.agg #[.int .i64 a0.Buses, u1, u2, u3, .int .i64 a0.Phase, .int .i64 a0.Frequency], .agg #[u7, u8, u9, u10], .int .i64 a2]) Try.func44 rfl Try.ntmps44 rfl ?_
 refine CW.sub (L' := [(0, .agg #[.int .i64 a0.Buses, u1, u2, u3, .int .i64 a0.Phase, .int .i64 a0.Frequency]), (1, .agg #[u7, u8, u9, u10]), (2, .int .i64 a2)]) ⟨rfl, rfl, rfl, trivial⟩ ?_
 refine CW.sr fun K15 hK15 => ?_
 refine WL.step (OW.boxK (o := e0) 100 [.int .i64 a0.Buses, u1, u2, u3, .int .i64 a0.Phase, .int .i64 a0.Frequency] rfl rfl) rfl ?_
 rintro _ w18 ⟨pa16, o17, rfl, ev19, hb20⟩
 have hE := hE.evo ev19 rfl rfl
 refine WL.step (OW.boxK (o := o17) 101 [u7, u8, u9, u10] rfl rfl) rfl ?_
 rintro _ w23 ⟨pa21, o22, rfl, ev24, hb25⟩
 have hE := hE.evo ev24 rfl rfl
 have hb20 := hb20.evo ev24 rfl
 refine WL.p (.bool false) rfl rfl ?_
 refine WL.nx hK15 ?_
 refine CW.sr fun K26 hK26 => ?_
 refine WL.stepE (OW.fldAddr (FldOk.at f29_1) rfl) rfl ?_
 refine WL.stepE (OW.loadK (off := 1) (List Breaker) (u1) ty25 rfl hb20 rfl rfl) rfl ?_
 refine WL.p (.int .i64 a2) rfl rfl ?_
 obtain ⟨y27, q31, hF⟩ := bindE hF
 refine WL.stepP (OW.indexAddr Try.underlying25 ty59 rfl (h4.baseM hE rfl) rfl q31) rfl fun _ ⟨pa28, hv_, hp29, he30⟩ => ?_
 subst hv_
 refine WL.stepP (OW.load ty59 rfl hp29) rfl fun v32 h33 => ?_
 obtain rfl := op59 h33
 refine WL.step (OW.allocK (o := o22) Breaker 102 [.int .i64 0, .int .i64 0, .int .i64 0] ty59 rfl) rfl ?_
 rintro _ w36 ⟨pa34, o35, rfl, ev37, hb38⟩
 have hE := hE.evo ev37 rfl rfl
 have hb20 := hb20.evo ev37 rfl
 have hb25 := hb25.evo ev37 rfl
 refine WL.step0 (OW.storeK0 Breaker [.int .i64 y27.Kind, .int .i64 y27.A, .int .i64 y27.B] [.int .i64 y27.Kind, .int .i64 y27.A, .int .i64 y27.B] ty59 rfl rfl hb38 rfl ⟨rfl, rfl, rfl, trivial⟩ rfl rfl rfl) ?_
 rintro _ w39 ⟨ev40, hb38⟩
 have hE := hE.evo ev40 rfl rfl
 have hb20 := hb20.evo ev40 rfl
 have hb25 := hb25.evo ev40 rfl
 refine WL.nx hK26 ?_
 refine CW.seq fun K41 hK41 => ?_
 refine CW.sr fun K42 hK42 => ?_
 refine WL.stepE (OW.fldAddr (FldOk.at f34_0) rfl) rfl ?_
 refine WL.stepE (OW.loadK (off := 0) (List Bool) (u7) ty30 rfl hb25 rfl rfl) rfl ?_
 refine WL.p (.int .i64 a2) rfl rfl ?_
 obtain ⟨y43, q47, hF⟩ := bindE hF
 refine WL.stepP (OW.indexAddr Try.underlying30 ty4 rfl (h11.baseM hE rfl) rfl q47) rfl fun _ ⟨pa44, hv_, hp45, he46⟩ => ?_
 subst hv_
 refine WL.stepE (OW.loadB ty4 rfl hp45) rfl ?_
 refine WL.p (.bool y43) rfl rfl ?_
 obtain ⟨x48, q49, hF⟩ := bindE hF
 have hJ52 : ∀ (w50 : World) (o51 : Cls), En w0 e0 o51 w50 → Bk o51 100 w50 pa16 [.int .i64 a0.Buses, u1, u2, u3, .int .i64 a0.Phase, .int .i64 a0.Frequency] → Bk o51 101 w50 pa21 [u7, u8, u9, u10] → Bk o51 102 w50 pa34 [.int .i64 y27.Kind, .int .i64 y27.A, .int .i64 y27.B] → NK 74 K42 [(3, .pointer (some pa16)), (4, .pointer (some pa21)), (7, .pointer (some pa34)), (30, .bool x48)] w50 := by
  intro w50 o51  hE hb20 hb25 hb38
  refine hK42 _ _ ?_
  refine CW.cond (b := x48) rfl (fun hc53 => ?_) (fun hc53 => ?_)
  ·have hF := iteT hc53 hF
   refine CW.sr fun K54 hK54 => ?_
   refine WL.p (.bool false) rfl rfl ?_
   refine WL.nx hK54 ?_
   obtain rfl := Option.some.inj hF
   exact CW.rets (vs := [.bool false]) Try.results44 ⟨rfl, trivial⟩ ⟨_, rfl, _, (hE.rn he0 100 [] rfl rfl), rfl⟩ (fun _ _ h => h)
  ·have hF := iteF hc53 hF
   refine CW.skip ?_
   refine hK41 _ _ ?_
   refine CW.seq fun K55 hK55 => ?_
   refine CW.sr fun K56 hK56 => ?_
   refine WL.stepE (OW.fldAddr (FldOk.at f59_0) rfl) rfl ?_
   refine WL.stepE (OW.loadK (off := 0) Int (.int .i64 y27.Kind) ty3 rfl hb38 rfl rfl) rfl ?_
   refine WL.nx hK56 ?_
   refine CW.block ?_
   refine CW.sr fun K57 hK57 => ?_
   refine WL.p (.bool (((y27.Kind == 1)))) rfl rfl ?_
   refine WL.p (.bool (((y27.Kind == 1)))) rfl rfl ?_
   refine WL.nx hK57 ?_
   refine CW.cond (b := ((y27.Kind == 1))) rfl (fun hc58 => ?_) (fun hc58 => ?_)
   ·have hF := iteT hc58 hF
    refine CW.sr fun K59 hK59 => ?_
    refine WL.stepE (OW.loadK0 Power (.agg #[u7, u8, u9, u10]) ty34 rfl hb25 rfl rfl) rfl ?_
    refine WL.stepE (OW.fldAddr (FldOk.at f59_2) rfl) rfl ?_
    refine WL.stepE (OW.loadK (off := 2) Int (.int .i64 y27.B) ty3 rfl hb38 rfl rfl) rfl ?_
    obtain ⟨y60, q61, hF⟩ := bindE hF
    refine WL.step (OW.call Try.call47 rfl (board_Broken_ok q61 (mk34 (x := a1) (h11.baseM hE rfl) (h12.baseM hE rfl) (h13.baseM hE rfl) (h14.baseM hE rfl)))) rfl ?_
    rintro _ w62 ⟨o66, hn_, rfl⟩
    obtain ⟨o63, ev64, hA65⟩ := adopt (o := o51) (ks := []) (Ks := [[40, 41]]) 105 ([]) [105] hn_ MbOk.nil rfl rfl rfl rfl
    have hE := hE.evo ev64 rfl rfl
    refine WL.p (.bool (!y60)) rfl rfl ?_
    refine WL.p (.bool (!y60)) rfl rfl ?_
    refine WL.nx hK59 ?_
    obtain rfl := Option.some.inj hF
    exact CW.rets (vs := [.bool (!y60)]) Try.results44 ⟨rfl, trivial⟩ ⟨_, rfl, _, (hE.rn he0 100 [] rfl rfl), rfl⟩ (fun _ _ h => h)
   ·have hF := iteF hc58 hF
    refine CW.sr fun K67 hK67 => ?_
    refine WL.p (.bool (((y27.Kind == 2)))) rfl rfl ?_
    refine WL.p (.bool (((y27.Kind == 2)))) rfl rfl ?_
    refine WL.nx hK67 ?_
    refine CW.cond (b := ((y27.Kind == 2))) rfl (fun hc68 => ?_) (fun hc68 => ?_)
    ·have hF := iteT hc68 hF
     refine CW.sr fun K69 hK69 => ?_
     refine WL.stepE (OW.loadK0 Power (.agg #[u7, u8, u9, u10]) ty34 rfl hb25 rfl rfl) rfl ?_
     refine WL.stepE (OW.fldAddr (FldOk.at f59_2) rfl) rfl ?_
     refine WL.stepE (OW.loadK (off := 2) Int (.int .i64 y27.B) ty3 rfl hb38 rfl rfl) rfl ?_
     obtain ⟨y70, q71, hF⟩ := bindE hF
     refine WL.step (OW.call Try.call47 rfl (board_Broken_ok q71 (mk34 (x := a1) (h11.baseM hE rfl) (h12.baseM hE rfl) (h13.baseM hE rfl) (h14.baseM hE rfl)))) rfl ?_
     rintro _ w72 ⟨o76, hn_, rfl⟩
     obtain ⟨o73, ev74, hA75⟩ := adopt (o := o51) (ks := []) (Ks := [[40, 41]]) 106 ([]) [106] hn_ MbOk.nil rfl rfl rfl rfl
     have hE := hE.evo ev74 rfl rfl
     have hb25 := hb25.evo ev74 rfl
     have hb38 := hb38.evo ev74 rfl
     refine WL.p (.bool (!y70)) rfl rfl ?_
     refine WL.p (.bool (!y70)) rfl rfl ?_
     obtain ⟨x77, q78, hF⟩ := bindE hF
     have hJ81 : ∀ (w79 : World) (o80 : Cls), En w0 e0 o80 w79 → NK 74 K69 [(6, .bool x77)] w79 := by
      intro w79 o80  hE
      refine hK69 _ _ ?_
      obtain rfl := Option.some.inj hF
      exact CW.rets (vs := [.bool x77]) Try.results44 ⟨rfl, trivial⟩ ⟨_, rfl, _, (hE.rn he0 100 [] rfl rfl), rfl⟩ (fun _ _ h => h)
     rcases Bool.eq_false_or_eq_true (!y70) with hc82 | hc82
     ·have q78 := iteT hc82 q78
      refine WL.stepGE rfl rfl rfl hc82 (OW.fldAddr (FldOk.at f34_1) rfl) rfl ?_
      refine WL.stepGE rfl rfl rfl hc82 (OW.loadK (off := 1) (List Running) (u8) ty31 rfl hb25 rfl rfl) rfl ?_
      refine WL.stepGE rfl rfl rfl hc82 (OW.fldAddr (FldOk.at f59_2) rfl) rfl ?_
      refine WL.stepGE rfl rfl rfl hc82 (OW.loadK (off := 2) Int (.int .i64 y27.B) ty3 rfl hb38 rfl rfl) rfl ?_
      obtain ⟨y83, q87, q78⟩ := bindE q78
      refine WL.stepGP rfl rfl rfl hc82 (OW.indexAddr Try.underlying31 ty48 rfl (h12.baseM hE rfl) rfl q87) rfl fun _ ⟨pa84, hv_, hp85, he86⟩ => ?_
      subst hv_
      refine WL.stepGE rfl rfl rfl hc82 (OW.fldAddr (FldOk.at f48_0) rfl) rfl ?_
      refine WL.stepGE rfl rfl rfl hc82 (OW.loadI ty3 rfl (hp85.fld f48_0)) rfl ?_
      refine WL.stepGE rfl rfl rfl hc82 (OW.pv (v := (.bool (((y83.State == 2))))) rfl) rfl ?_
      refine WL.stepE (OW.pickT rfl hc82 rfl) rfl ?_
      refine WL.p (.bool (((y83.State == 2)))) rfl rfl ?_
      refine WL.nil ?_
      have e88 := Option.some.inj q78
      subst e88
      exact NK.sb (hJ81 w72 o73 hE) ⟨rfl, trivial⟩
     ·have q78 := iteF hc82 q78
      refine WL.skipG rfl rfl rfl (by rw [hc82]; rfl) rfl ?_
      refine WL.skipG rfl rfl rfl (by rw [hc82]; rfl) rfl ?_
      refine WL.skipG rfl rfl rfl (by rw [hc82]; rfl) rfl ?_
      refine WL.skipG rfl rfl rfl (by rw [hc82]; rfl) rfl ?_
      refine WL.skipG rfl rfl rfl (by rw [hc82]; rfl) rfl ?_
      refine WL.skipG rfl rfl rfl (by rw [hc82]; rfl) rfl ?_
      refine WL.skipG rfl rfl rfl (by rw [hc82]; rfl) rfl ?_
      refine WL.skipG rfl rfl rfl (by rw [hc82]; rfl) rfl ?_
      refine WL.stepE (OW.pickF rfl hc82 rfl) rfl ?_
      refine WL.p (.bool false) rfl rfl ?_
      refine WL.nil ?_
      have e89 := Option.some.inj q78
      subst e89
      exact NK.sb (hJ81 w72 o73 hE) ⟨rfl, trivial⟩
    ·have hF := iteF hc68 hF
     refine CW.skip ?_
     refine hK55 _ _ ?_
     refine CW.sr fun K90 hK90 => ?_
     refine WL.stepE (OW.loadK0 Board (.agg #[.int .i64 a0.Buses, u1, u2, u3, .int .i64 a0.Phase, .int .i64 a0.Frequency]) ty29 rfl hb20 rfl rfl) rfl ?_
     refine WL.stepE (OW.loadK0 Power (.agg #[u7, u8, u9, u10]) ty34 rfl hb25 rfl rfl) rfl ?_
     refine WL.stepE (OW.fldAddr (FldOk.at f59_2) rfl) rfl ?_
     refine WL.stepE (OW.loadK (off := 2) Int (.int .i64 y27.B) ty3 rfl hb38 rfl rfl) rfl ?_
     obtain ⟨⟨y91, y92⟩, q93, hF⟩ := bindE hF
     dsimp only at hF
     refine WL.step (OW.call Try.call78 rfl (board_Fed_ok q93 (mk29 (x := a0) (h4.baseM hE rfl) (h5.baseM hE rfl) (h6.baseM hE rfl)) (mk34 (x := a1) (h11.baseM hE rfl) (h12.baseM hE rfl) (h13.baseM hE rfl) (h14.baseM hE rfl)))) rfl ?_
     rintro _ w94 ⟨o98, hn_, rfl⟩
     obtain ⟨o95, ev96, hA97⟩ := adopt (o := o51) (ks := []) (Ks := [[40], [40, 41]]) 107 ([]) [107] hn_ MbOk.nil rfl rfl rfl rfl
     have hE := hE.evo ev96 rfl rfl
     have hb25 := hb25.evo ev96 rfl
     have hb38 := hb38.evo ev96 rfl
     refine WL.p (.tuple #[.int .i64 y91, .bool y92]) rfl rfl ?_
     refine WL.p (.int .i64 y91) rfl rfl ?_
     refine WL.p (.bool y92) rfl rfl ?_
     refine WL.p (.int .i64 y91) rfl rfl ?_
     refine WL.p (.bool y92) rfl rfl ?_
     refine WL.nx hK90 ?_
     refine CW.sr fun K99 hK99 => ?_
     refine WL.stepE (OW.loadK0 Power (.agg #[u7, u8, u9, u10]) ty34 rfl hb25 rfl rfl) rfl ?_
     refine WL.stepE (OW.fldAddr (FldOk.at f59_2) rfl) rfl ?_
     refine WL.stepE (OW.loadK (off := 2) Int (.int .i64 y27.B) ty3 rfl hb38 rfl rfl) rfl ?_
     obtain ⟨y100, q101, hF⟩ := bindE hF
     refine WL.step (OW.call Try.call47 rfl (board_Broken_ok q101 (mk34 (x := a1) (h11.baseM hE rfl) (h12.baseM hE rfl) (h13.baseM hE rfl) (h14.baseM hE rfl)))) rfl ?_
     rintro _ w102 ⟨o106, hn_, rfl⟩
     obtain ⟨o103, ev104, hA105⟩ := adopt (o := o95) (ks := []) (Ks := [[40, 41]]) 108 ([]) [108] hn_ MbOk.nil rfl rfl rfl rfl
     have hE := hE.evo ev104 rfl rfl
     refine WL.p (.bool (!y100)) rfl rfl ?_
     refine WL.p (.bool (!y100)) rfl rfl ?_
     obtain ⟨x107, q108, hF⟩ := bindE hF
     have hJ111 : ∀ (w109 : World) (o110 : Cls), En w0 e0 o110 w109 → NK 74 K99 [(6, .bool x107)] w109 := by
      intro w109 o110  hE
      refine hK99 _ _ ?_
      obtain rfl := Option.some.inj hF
      exact CW.rets (vs := [.bool x107]) Try.results44 ⟨rfl, trivial⟩ ⟨_, rfl, _, (hE.rn he0 100 [] rfl rfl), rfl⟩ (fun _ _ h => h)
     rcases Bool.eq_false_or_eq_true (!y100) with hc112 | hc112
     ·have q108 := iteT hc112 q108
      refine WL.stepGE rfl rfl rfl hc112 (OW.pv (v := (.bool y92)) rfl) rfl ?_
      refine WL.stepGE rfl rfl rfl hc112 (OW.pv (v := (.bool (!y92))) rfl) rfl ?_
      refine WL.stepE (OW.pickT rfl hc112 rfl) rfl ?_
      refine WL.p (.bool (!y92)) rfl rfl ?_
      refine WL.nil ?_
      have e113 := Option.some.inj q108
      subst e113
      exact NK.sb (hJ111 w102 o103 hE) ⟨rfl, trivial⟩
     ·have q108 := iteF hc112 q108
      refine WL.skipG rfl rfl rfl (by rw [hc112]; rfl) rfl ?_
      refine WL.skipG rfl rfl rfl (by rw [hc112]; rfl) rfl ?_
      refine WL.stepE (OW.pickF rfl hc112 rfl) rfl ?_
      refine WL.p (.bool false) rfl rfl ?_
      refine WL.nil ?_
      have e114 := Option.some.inj q108
      subst e114
      exact NK.sb (hJ111 w102 o103 hE) ⟨rfl, trivial⟩
 rcases Bool.eq_false_or_eq_true y43 with hc115 | hc115
 ·have q49 := iteT hc115 q49
  refine WL.skipG rfl rfl rfl (by rw [hc115]; rfl) rfl ?_
  refine WL.skipG rfl rfl rfl (by rw [hc115]; rfl) rfl ?_
  refine WL.skipG rfl rfl rfl (by rw [hc115]; rfl) rfl ?_
  refine WL.stepE (OW.pickT rfl hc115 rfl) rfl ?_
  refine WL.p (.bool true) rfl rfl ?_
  refine WL.skipG rfl rfl rfl rfl rfl ?_
  refine WL.skipG rfl rfl rfl rfl rfl ?_
  refine WL.skipG rfl rfl rfl rfl rfl ?_
  refine WL.skipG rfl rfl rfl rfl rfl ?_
  refine WL.stepE (OW.pickT rfl rfl rfl) rfl ?_
  refine WL.nil ?_
  have e116 := Option.some.inj q49
  subst e116
  exact NK.sb (hJ52 w39 o35 hE hb20 hb25 hb38) ⟨rfl, rfl, rfl, rfl, trivial⟩
 ·have q49 := iteF hc115 q49
  refine WL.stepGE rfl rfl rfl hc115 (OW.loadK0 Power (.agg #[u7, u8, u9, u10]) ty34 rfl hb25 rfl rfl) rfl ?_
  refine WL.stepGE rfl rfl rfl hc115 (OW.pv (v := (.int .i64 a2)) rfl) rfl ?_
  obtain ⟨y117, q118, q49⟩ := bindE q49
  refine WL.stepG rfl rfl rfl hc115 (OW.call Try.call47 rfl (board_Broken_ok q118 (mk34 (x := a1) (h11.baseM hE rfl) (h12.baseM hE rfl) (h13.baseM hE rfl) (h14.baseM hE rfl)))) rfl ?_
  rintro _ w119 ⟨o123, hn_, rfl⟩
  obtain ⟨o120, ev121, hA122⟩ := adopt (o := o35) (ks := []) (Ks := [[40, 41]]) 103 ([]) [103] hn_ MbOk.nil rfl rfl rfl rfl
  have hE := hE.evo ev121 rfl rfl
  have hb20 := hb20.evo ev121 rfl
  have hb25 := hb25.evo ev121 rfl
  have hb38 := hb38.evo ev121 rfl
  refine WL.stepE (OW.pickF rfl hc115 rfl) rfl ?_
  refine WL.p (.bool y117) rfl rfl ?_
  obtain ⟨x124, q125, q49⟩ := bindE q49
  have hJ128 : ∀ (w126 : World) (o127 : Cls), En w0 e0 o127 w126 → Bk o127 100 w126 pa16 [.int .i64 a0.Buses, u1, u2, u3, .int .i64 a0.Phase, .int .i64 a0.Frequency] → Bk o127 101 w126 pa21 [u7, u8, u9, u10] → Bk o127 102 w126 pa34 [.int .i64 y27.Kind, .int .i64 y27.A, .int .i64 y27.B] → NK 74 K42 [(3, .pointer (some pa16)), (4, .pointer (some pa21)), (7, .pointer (some pa34)), (30, .bool x124)] w126 := by
   intro w126 o127  hE hb20 hb25 hb38
   have e129 := Option.some.inj q49
   subst e129
   exact NK.sb (hJ52 w126 o127 hE hb20 hb25 hb38) ⟨rfl, rfl, rfl, rfl, trivial⟩
  rcases Bool.eq_false_or_eq_true y117 with hc130 | hc130
  ·have q125 := iteT hc130 q125
   refine WL.skipG rfl rfl rfl (by rw [hc130]; rfl) rfl ?_
   refine WL.skipG rfl rfl rfl (by rw [hc130]; rfl) rfl ?_
   refine WL.skipG rfl rfl rfl (by rw [hc130]; rfl) rfl ?_
   refine WL.skipG rfl rfl rfl (by rw [hc130]; rfl) rfl ?_
   refine WL.stepE (OW.pickT rfl hc130 rfl) rfl ?_
   refine WL.nil ?_
   have e131 := Option.some.inj q125
   subst e131
   exact NK.sb (hJ128 w119 o120 hE hb20 hb25 hb38) ⟨rfl, rfl, rfl, rfl, trivial⟩
  ·have q125 := iteF hc130 q125
   refine WL.stepGE rfl rfl rfl hc130 (OW.loadK0 Power (.agg #[u7, u8, u9, u10]) ty34 rfl hb25 rfl rfl) rfl ?_
   refine WL.stepGE rfl rfl rfl hc130 (OW.fldAddr (FldOk.at f59_1) rfl) rfl ?_
   refine WL.stepGE rfl rfl rfl hc130 (OW.loadK (off := 1) Int (.int .i64 y27.A) ty3 rfl hb38 rfl rfl) rfl ?_
   obtain ⟨y132, q133, q125⟩ := bindE q125
   refine WL.stepG rfl rfl rfl hc130 (OW.call Try.call47 rfl (board_Broken_ok q133 (mk34 (x := a1) (h11.baseM hE rfl) (h12.baseM hE rfl) (h13.baseM hE rfl) (h14.baseM hE rfl)))) rfl ?_
   rintro _ w134 ⟨o138, hn_, rfl⟩
   obtain ⟨o135, ev136, hA137⟩ := adopt (o := o120) (ks := []) (Ks := [[40, 41]]) 104 ([]) [104] hn_ MbOk.nil rfl rfl rfl rfl
   have hE := hE.evo ev136 rfl rfl
   have hb20 := hb20.evo ev136 rfl
   have hb25 := hb25.evo ev136 rfl
   have hb38 := hb38.evo ev136 rfl
   refine WL.stepE (OW.pickF rfl hc130 rfl) rfl ?_
   refine WL.nil ?_
   have e139 := Option.some.inj q125
   subst e139
   exact NK.sb (hJ128 w134 o135 hE hb20 hb25 hb38) ⟨rfl, rfl, rfl, rfl, trivial⟩

set_option maxHeartbeats 1000000 in
theorem angle_Diff_ok {a0 : Int} {a1 : Int} {r : Int} (hF : angle_Diff a0 a1 = some r) {w0 : World}  :
    Calls Try.prog 42 #[.int .i64 a0, .int .i64 a1] w0 (Ret fun v w' => ∃ (oc : Cls), En w0 (entM w0 [] []) oc w' ∧ v = .int .i64 r) := by
 obtain ⟨e0, he0⟩ : ∃ e0, e0 = entM w0 [] [] := ⟨_, rfl⟩
 have hE := En.refl w0 e0
 rw [angle_Diff] at hF
 refine enter (l := [.int .i64 a0, .int .i64 a1]) Try.func42 rfl Try.ntmps42 rfl ?_
 refine CW.sub (L' := [(0, .int .i64 a0), (1, .int .i64 a1)]) ⟨rfl, rfl, trivial⟩ ?_
 refine CW.sr fun K1 hK1 => ?_
 refine WL.p (.int .i64 0) rfl rfl ?_
 refine WL.nx hK1 ?_
 refine CW.sr fun K2 hK2 => ?_
 refine WL.p (.int .i64 a1) rfl rfl ?_
 obtain ⟨y3, q4, hF⟩ := bindE hF
 refine WL.step (OW.call Try.call38 rfl (angle_Norm_ok q4)) rfl ?_
 rintro _ w5 ⟨o9, hn_, rfl⟩
 obtain ⟨o6, ev7, hA8⟩ := adopt (o := e0) (ks := []) (Ks := []) 100 ([]) [100] hn_ MbOk.nil rfl rfl rfl rfl
 have hE := hE.evo ev7 rfl rfl
 refine WL.p (.int .i64 a0) rfl rfl ?_
 obtain ⟨y10, q11, hF⟩ := bindE hF
 refine WL.step (OW.call Try.call38 rfl (angle_Norm_ok q11)) rfl ?_
 rintro _ w12 ⟨o16, hn_, rfl⟩
 obtain ⟨o13, ev14, hA15⟩ := adopt (o := o6) (ks := []) (Ks := []) 101 ([]) [101] hn_ MbOk.nil rfl rfl rfl rfl
 have hE := hE.evo ev14 rfl rfl
 refine WL.p (.int .i64 ((W (y3 - y10)))) rfl rfl ?_
 obtain ⟨y17, q18, hF⟩ := bindE hF
 refine WL.step (OW.call Try.call38 rfl (angle_Norm_ok q18)) rfl ?_
 rintro _ w19 ⟨o23, hn_, rfl⟩
 obtain ⟨o20, ev21, hA22⟩ := adopt (o := o13) (ks := []) (Ks := []) 102 ([]) [102] hn_ MbOk.nil rfl rfl rfl rfl
 have hE := hE.evo ev21 rfl rfl
 refine WL.p (.int .i64 y17) rfl rfl ?_
 refine WL.nx hK2 ?_
 refine CW.seq fun K24 hK24 => ?_
 refine CW.sr fun K25 hK25 => ?_
 refine WL.p (.int .i64 y17) rfl rfl ?_
 refine WL.p (.bool ((decide (y17 > 1800)))) rfl rfl ?_
 refine WL.nx hK25 ?_
 obtain ⟨x26, q27, hF⟩ := bindE hF
 have hJ30 : ∀ (w28 : World) (o29 : Cls), En w0 e0 o29 w28 → NK 17 K24 [(5, .int .i64 x26)] w28 := by
  intro w28 o29  hE
  refine hK24 _ _ ?_
  refine CW.sr fun K31 hK31 => ?_
  refine WL.p (.int .i64 x26) rfl rfl ?_
  refine WL.p (.int .i64 x26) rfl rfl ?_
  refine WL.nx hK31 ?_
  obtain rfl := Option.some.inj hF
  exact CW.rets (vs := [.int .i64 x26]) Try.results42 ⟨rfl, trivial⟩ ⟨_, rfl, _, (hE.rn he0 100 [] rfl rfl), rfl⟩ (fun _ _ h => h)
 refine CW.cond (b := (decide (y17 > 1800))) rfl (fun hc32 => ?_) (fun hc32 => ?_)
 ·have q27 := iteT hc32 q27
  refine CW.region ?_
  refine WL.p (.int .i64 y17) rfl rfl ?_
  refine WL.p (.int .i64 ((W (y17 - 3600)))) rfl rfl ?_
  refine WL.p (.int .i64 ((W (y17 - 3600)))) rfl rfl ?_
  refine WL.nil ?_
  have e33 := Option.some.inj q27
  subst e33
  exact NK.sb (hJ30 w19 o20 hE) ⟨rfl, trivial⟩
 ·have q27 := iteF hc32 q27
  refine CW.skip ?_
  have e34 := Option.some.inj q27
  subst e34
  exact NK.sb (hJ30 w19 o20 hE) ⟨rfl, trivial⟩

set_option maxHeartbeats 1000000 in
theorem sync_Agree_ok {a0 : Board} {a1 : Running} {a2 : Running} {r : Bool} (hF : sync_Agree a0 a1 a2 = some r) {w0 : World} {p0 : Value} {S0 : Nat → Prop} (g0 : Rv S0 w0 p0 a0) {p1 : Value} {S1 : Nat → Prop} (g1 : Rv S1 w0 p1 a1) {p2 : Value} {S2 : Nat → Prop} (g2 : Rv S2 w0 p2 a2) :
    Calls Try.prog 16 #[p0, p1, p2] w0 (Ret fun v w' => ∃ (oc : Cls), En w0 (entM w0 [] [S0, S1, S2]) oc w' ∧ v = .bool r) := by
 obtain ⟨e0, he0⟩ : ∃ e0, e0 = entM w0 [] [S0, S1, S2] := ⟨_, rfl⟩
 have hE := En.refl w0 e0
 have g0 := g0.argM he0 0 (K := [40]) rfl (nosep rfl) rfl
 have g1 := g1.argM he0 1 (K := [40, 41]) rfl (nosep rfl) rfl
 have g2 := g2.argM he0 2 (K := [40, 41, 42]) rfl (nosep rfl) rfl
 obtain ⟨u1, u2, u3, rfl, h4, h5, h6⟩ := op29 g0
 obtain rfl := op48 g1
 obtain rfl := op48 g2
 rw [sync_Agree] at hF
 refine enter (l := [.agg #[.int .i64 a0.Buses, u1, u2, u3, .int .i64 a0.Phase, .int .i64 a0.Frequency], .agg #[.int .i64 a1.State, .int .i64 a1.Since, .int .i64 a1.Frequency, .int .i64 a1.Phase], .agg #[.int .i64 a2.State, .int .i64 a2.Since, .int .i64 a2.Frequency, .int .i64 a2.Phase]]) Try.func16 rfl Try.ntmps16 rfl ?_
 refine CW.sub (L' := [(0, .agg #[.int .i64 a0.Buses, u1, u2, u3, .int .i64 a0.Phase, .int .i64 a0.Frequency]), (1, .agg #[.int .i64 a1.State, .int .i64 a1.Since, .int .i64 a1.Frequency, .int .i64 a1.Phase]), (2, .agg #[.int .i64 a2.State, .int .i64 a2.Since, .int .i64 a2.Frequency, .int .i64 a2.Phase])]) ⟨rfl, rfl, rfl, trivial⟩ ?_
 refine CW.sr fun K7 hK7 => ?_
 refine WL.step (OW.boxK (o := e0) 100 [.int .i64 a0.Buses, u1, u2, u3, .int .i64 a0.Phase, .int .i64 a0.Frequency] rfl rfl) rfl ?_
 rintro _ w10 ⟨pa8, o9, rfl, ev11, hb12⟩
 have hE := hE.evo ev11 rfl rfl
 refine WL.step (OW.boxK (o := o9) 101 [.int .i64 a1.State, .int .i64 a1.Since, .int .i64 a1.Frequency, .int .i64 a1.Phase] rfl rfl) rfl ?_
 rintro _ w15 ⟨pa13, o14, rfl, ev16, hb17⟩
 have hE := hE.evo ev16 rfl rfl
 have hb12 := hb12.evo ev16 rfl
 refine WL.step (OW.boxK (o := o14) 102 [.int .i64 a2.State, .int .i64 a2.Since, .int .i64 a2.Frequency, .int .i64 a2.Phase] rfl rfl) rfl ?_
 rintro _ w20 ⟨pa18, o19, rfl, ev21, hb22⟩
 have hE := hE.evo ev21 rfl rfl
 have hb17 := hb17.evo ev21 rfl
 have hb12 := hb12.evo ev21 rfl
 refine WL.p (.bool false) rfl rfl ?_
 refine WL.nx hK7 ?_
 refine CW.seq fun K23 hK23 => ?_
 refine CW.sr fun K24 hK24 => ?_
 refine WL.stepE (OW.fldAddr (FldOk.at f48_2) rfl) rfl ?_
 refine WL.stepE (OW.loadK (off := 2) Int (.int .i64 a1.Frequency) ty3 rfl hb17 rfl rfl) rfl ?_
 refine WL.stepE (OW.fldAddr (FldOk.at f48_2) rfl) rfl ?_
 refine WL.stepE (OW.loadK (off := 2) Int (.int .i64 a2.Frequency) ty3 rfl hb22 rfl rfl) rfl ?_
 refine WL.stepE (OW.min rfl rfl) rfl ?_
 refine WL.p (.bool ((decide ((if a2.Frequency < a1.Frequency then a2.Frequency else a1.Frequency) < 0)))) rfl rfl ?_
 refine WL.p (.bool ((decide ((if a2.Frequency < a1.Frequency then a2.Frequency else a1.Frequency) < 0)))) rfl rfl ?_
 obtain ⟨x25, q26, hF⟩ := bindE hF
 have hJ29 : ∀ (w27 : World) (o28 : Cls), En w0 e0 o28 w27 → Bk o28 101 w27 pa13 [.int .i64 a1.State, .int .i64 a1.Since, .int .i64 a1.Frequency, .int .i64 a1.Phase] → Bk o28 102 w27 pa18 [.int .i64 a2.State, .int .i64 a2.Since, .int .i64 a2.Frequency, .int .i64 a2.Phase] → Bk o28 100 w27 pa8 [.int .i64 a0.Buses, u1, u2, u3, .int .i64 a0.Phase, .int .i64 a0.Frequency] → NK 52 K24 [(3, .pointer (some pa8)), (4, .pointer (some pa13)), (5, .pointer (some pa18)), (22, .bool x25)] w27 := by
  intro w27 o28  hE hb17 hb22 hb12
  refine hK24 _ _ ?_
  refine CW.cond (b := x25) rfl (fun hc30 => ?_) (fun hc30 => ?_)
  ·have hF := iteT hc30 hF
   refine CW.sr fun K31 hK31 => ?_
   refine WL.p (.bool false) rfl rfl ?_
   refine WL.nx hK31 ?_
   obtain rfl := Option.some.inj hF
   exact CW.rets (vs := [.bool false]) Try.results16 ⟨rfl, trivial⟩ ⟨_, rfl, _, (hE.rn he0 100 [] rfl rfl), rfl⟩ (fun _ _ h => h)
  ·have hF := iteF hc30 hF
   refine CW.skip ?_
   refine hK23 _ _ ?_
   refine CW.sr fun K32 hK32 => ?_
   refine WL.stepE (OW.fldAddr (FldOk.at f48_2) rfl) rfl ?_
   refine WL.stepE (OW.loadK (off := 2) Int (.int .i64 a1.Frequency) ty3 rfl hb17 rfl rfl) rfl ?_
   refine WL.stepE (OW.fldAddr (FldOk.at f48_2) rfl) rfl ?_
   refine WL.stepE (OW.loadK (off := 2) Int (.int .i64 a2.Frequency) ty3 rfl hb22 rfl rfl) rfl ?_
   refine WL.p (.int .i64 ((W (a1.Frequency - a2.Frequency)))) rfl rfl ?_
   refine WL.stepE (OW.fldAddr (FldOk.at f48_2) rfl) rfl ?_
   refine WL.stepE (OW.loadK (off := 2) Int (.int .i64 a2.Frequency) ty3 rfl hb22 rfl rfl) rfl ?_
   refine WL.stepE (OW.fldAddr (FldOk.at f48_2) rfl) rfl ?_
   refine WL.stepE (OW.loadK (off := 2) Int (.int .i64 a1.Frequency) ty3 rfl hb17 rfl rfl) rfl ?_
   refine WL.p (.int .i64 ((W (a2.Frequency - a1.Frequency)))) rfl rfl ?_
   refine WL.stepE (OW.max rfl rfl) rfl ?_
   refine WL.p (.int .i64 ((if (W (a1.Frequency - a2.Frequency)) < (W (a2.Frequency - a1.Frequency)) then (W (a2.Frequency - a1.Frequency)) else (W (a1.Frequency - a2.Frequency))))) rfl rfl ?_
   refine WL.nx hK32 ?_
   refine CW.sr fun K33 hK33 => ?_
   refine WL.stepE (OW.fldAddr (FldOk.at f48_3) rfl) rfl ?_
   refine WL.stepE (OW.loadK (off := 3) Int (.int .i64 a1.Phase) ty3 rfl hb17 rfl rfl) rfl ?_
   refine WL.stepE (OW.fldAddr (FldOk.at f48_3) rfl) rfl ?_
   refine WL.stepE (OW.loadK (off := 3) Int (.int .i64 a2.Phase) ty3 rfl hb22 rfl rfl) rfl ?_
   obtain ⟨y34, q35, hF⟩ := bindE hF
   refine WL.step (OW.call Try.call42 rfl (angle_Diff_ok q35)) rfl ?_
   rintro _ w36 ⟨o40, hn_, rfl⟩
   obtain ⟨o37, ev38, hA39⟩ := adopt (o := o28) (ks := []) (Ks := []) 103 ([]) [103] hn_ MbOk.nil rfl rfl rfl rfl
   have hE := hE.evo ev38 rfl rfl
   have hb12 := hb12.evo ev38 rfl
   refine WL.p (.int .i64 y34) rfl rfl ?_
   refine WL.nx hK33 ?_
   refine CW.sr fun K41 hK41 => ?_
   refine WL.p (.int .i64 ((if (W (a1.Frequency - a2.Frequency)) < (W (a2.Frequency - a1.Frequency)) then (W (a2.Frequency - a1.Frequency)) else (W (a1.Frequency - a2.Frequency))))) rfl rfl ?_
   refine WL.stepE (OW.fldAddr (FldOk.at f29_5) rfl) rfl ?_
   refine WL.stepE (OW.loadK (off := 5) Int (.int .i64 a0.Frequency) ty3 rfl hb12 rfl rfl) rfl ?_
   refine WL.p (.bool ((decide (((if (W (a1.Frequency - a2.Frequency)) < (W (a2.Frequency - a1.Frequency)) then (W (a2.Frequency - a1.Frequency)) else (W (a1.Frequency - a2.Frequency)))) ≤ a0.Frequency)))) rfl rfl ?_
   refine WL.p (.bool ((decide (((if (W (a1.Frequency - a2.Frequency)) < (W (a2.Frequency - a1.Frequency)) then (W (a2.Frequency - a1.Frequency)) else (W (a1.Frequency - a2.Frequency)))) ≤ a0.Frequency)))) rfl rfl ?_
   obtain ⟨x42, q43, hF⟩ := bindE hF
   have hJ46 : ∀ (w44 : World) (o45 : Cls), En w0 e0 o45 w44 → NK 52 K41 [(6, .bool x42)] w44 := by
    intro w44 o45  hE
    refine hK41 _ _ ?_
    obtain rfl := Option.some.inj hF
    exact CW.rets (vs := [.bool x42]) Try.results16 ⟨rfl, trivial⟩ ⟨_, rfl, _, (hE.rn he0 100 [] rfl rfl), rfl⟩ (fun _ _ h => h)
   rcases Bool.eq_false_or_eq_true ((decide (((if (W (a1.Frequency - a2.Frequency)) < (W (a2.Frequency - a1.Frequency)) then (W (a2.Frequency - a1.Frequency)) else (W (a1.Frequency - a2.Frequency)))) ≤ a0.Frequency))) with hc47 | hc47
   ·have q43 := iteT hc47 q43
    refine WL.stepGE rfl rfl rfl hc47 (OW.pv (v := (.int .i64 y34)) rfl) rfl ?_
    refine WL.stepGE rfl rfl rfl hc47 (OW.pv (v := (.int .i64 y34)) rfl) rfl ?_
    refine WL.stepGE rfl rfl rfl hc47 (OW.pv (v := (.int .i64 ((W (-y34))))) rfl) rfl ?_
    refine WL.stepGE rfl rfl rfl hc47 (OW.max rfl rfl) rfl ?_
    refine WL.stepGE rfl rfl rfl hc47 (OW.fldAddr (FldOk.at f29_4) rfl) rfl ?_
    refine WL.stepGE rfl rfl rfl hc47 (OW.loadK (off := 4) Int (.int .i64 a0.Phase) ty3 rfl hb12 rfl rfl) rfl ?_
    refine WL.stepGE rfl rfl rfl hc47 (OW.pv (v := (.bool ((decide (((if y34 < (W (-y34)) then (W (-y34)) else y34)) ≤ a0.Phase))))) rfl) rfl ?_
    refine WL.stepE (OW.pickT rfl hc47 rfl) rfl ?_
    refine WL.p (.bool ((decide (((if y34 < (W (-y34)) then (W (-y34)) else y34)) ≤ a0.Phase)))) rfl rfl ?_
    refine WL.nil ?_
    have e48 := Option.some.inj q43
    subst e48
    exact NK.sb (hJ46 w36 o37 hE) ⟨rfl, trivial⟩
   ·have q43 := iteF hc47 q43
    refine WL.skipG rfl rfl rfl (by rw [hc47]; rfl) rfl ?_
    refine WL.skipG rfl rfl rfl (by rw [hc47]; rfl) rfl ?_
    refine WL.skipG rfl rfl rfl (by rw [hc47]; rfl) rfl ?_
    refine WL.skipG rfl rfl rfl (by rw [hc47]; rfl) rfl ?_
    refine WL.skipG rfl rfl rfl (by rw [hc47]; rfl) rfl ?_
    refine WL.skipG rfl rfl rfl (by rw [hc47]; rfl) rfl ?_
    refine WL.skipG rfl rfl rfl (by rw [hc47]; rfl) rfl ?_
    refine WL.stepE (OW.pickF rfl hc47 rfl) rfl ?_
    refine WL.p (.bool false) rfl rfl ?_
    refine WL.nil ?_
    have e49 := Option.some.inj q43
    subst e49
    exact NK.sb (hJ46 w36 o37 hE) ⟨rfl, trivial⟩
 rcases Bool.eq_false_or_eq_true ((decide ((if a2.Frequency < a1.Frequency then a2.Frequency else a1.Frequency) < 0))) with hc50 | hc50
 ·have q26 := iteT hc50 q26
  refine WL.skipG rfl rfl rfl (by rw [hc50]; rfl) rfl ?_
  refine WL.skipG rfl rfl rfl (by rw [hc50]; rfl) rfl ?_
  refine WL.skipG rfl rfl rfl (by rw [hc50]; rfl) rfl ?_
  refine WL.skipG rfl rfl rfl (by rw [hc50]; rfl) rfl ?_
  refine WL.skipG rfl rfl rfl (by rw [hc50]; rfl) rfl ?_
  refine WL.skipG rfl rfl rfl (by rw [hc50]; rfl) rfl ?_
  refine WL.stepE (OW.pickT rfl hc50 rfl) rfl ?_
  refine WL.nil ?_
  have e51 := Option.some.inj q26
  subst e51
  exact NK.sb (hJ29 w20 o19 hE hb17 hb22 hb12) ⟨rfl, rfl, rfl, rfl, trivial⟩
 ·have q26 := iteF hc50 q26
  refine WL.stepGE rfl rfl rfl hc50 (OW.fldAddr (FldOk.at f48_2) rfl) rfl ?_
  refine WL.stepGE rfl rfl rfl hc50 (OW.loadK (off := 2) Int (.int .i64 a1.Frequency) ty3 rfl hb17 rfl rfl) rfl ?_
  refine WL.stepGE rfl rfl rfl hc50 (OW.fldAddr (FldOk.at f48_2) rfl) rfl ?_
  refine WL.stepGE rfl rfl rfl hc50 (OW.loadK (off := 2) Int (.int .i64 a2.Frequency) ty3 rfl hb22 rfl rfl) rfl ?_
  refine WL.stepGE rfl rfl rfl hc50 (OW.max rfl rfl) rfl ?_
  refine WL.stepGE rfl rfl rfl hc50 (OW.pv (v := (.bool ((decide ((if a1.Frequency < a2.Frequency then a2.Frequency else a1.Frequency) > 6000))))) rfl) rfl ?_
  refine WL.stepE (OW.pickF rfl hc50 rfl) rfl ?_
  refine WL.nil ?_
  have e52 := Option.some.inj q26
  subst e52
  exact NK.sb (hJ29 w20 o19 hE hb17 hb22 hb12) ⟨rfl, rfl, rfl, rfl, trivial⟩

end Go.Proofs.Ytdfkfohpgakihaa
