/- Walks. Written by a program (wip/gen). -/
import Derived.Test.YtdfkfohpgakihaaHw
set_option linter.unusedVariables false
set_option linter.unusedSimpArgs false
namespace Go.Proofs.Ytdfkfohpgakihaa
open Go Go.RowKit Dp

set_option maxRecDepth 100000

set_option maxHeartbeats 1000000 in
theorem board_size_ok {a0 : Board} {a1 : Int} {r : Int} (hF : board_size a0 a1 = some r) {w0 : World} {p0 : Value} {S0 : Nat → Prop} (g0 : Rv S0 w0 p0 a0) :
    Calls Try.prog 88 #[p0, .int .i64 a1] w0 (Ret fun v w' => ∃ (oc : Cls), En w0 (entM w0 [] [S0]) oc w' ∧ v = .int .i64 r) := by
 obtain ⟨e0, he0⟩ : ∃ e0, e0 = entM w0 [] [S0] := ⟨_, rfl⟩
 have hE := En.refl w0 e0
 have g0 := g0.argM he0 0 (K := [40]) rfl (nosep rfl) rfl
 obtain ⟨u1, u2, u3, rfl, h4, h5, h6⟩ := op29 g0
 rw [board_size] at hF
 refine enter (l := [.agg #[.int .i64 a0.Buses, u1, u2, u3, .int .i64 a0.Phase, .int .i64 a0.Frequency], .int .i64 a1]) Try.func88 rfl Try.ntmps88 rfl ?_
 refine CW.sub (L' := [(0, .agg #[.int .i64 a0.Buses, u1, u2, u3, .int .i64 a0.Phase, .int .i64 a0.Frequency]), (1, .int .i64 a1)]) ⟨rfl, rfl, trivial⟩ ?_
 refine CW.sr fun K7 hK7 => ?_
 refine WL.step (OW.boxK (o := e0) 100 [.int .i64 a0.Buses, u1, u2, u3, .int .i64 a0.Phase, .int .i64 a0.Frequency] rfl rfl) rfl ?_
 rintro _ w10 ⟨pa8, o9, rfl, ev11, hb12⟩
 have hE := hE.evo ev11 rfl rfl
 refine WL.p (.int .i64 0) rfl rfl ?_
 refine WL.nx hK7 ?_
 refine CW.seq fun K13 hK13 => ?_
 refine CW.sr fun K14 hK14 => ?_
 refine WL.p (.int .i64 a1) rfl rfl ?_
 refine WL.nx hK14 ?_
 refine CW.block ?_
 refine CW.sr fun K15 hK15 => ?_
 refine WL.p (.bool (((a1 == 1)))) rfl rfl ?_
 refine WL.p (.bool (((a1 == 1)))) rfl rfl ?_
 refine WL.nx hK15 ?_
 refine CW.cond (b := ((a1 == 1))) rfl (fun hc16 => ?_) (fun hc16 => ?_)
 ·have hF := iteT hc16 hF
  refine CW.sr fun K17 hK17 => ?_
  refine WL.stepE (OW.fldAddr (FldOk.at f29_2) rfl) rfl ?_
  refine WL.stepE (OW.loadK (off := 2) (List Source) (u2) ty26 rfl hb12 rfl rfl) rfl ?_
  refine WL.stepE (OW.len Try.underlying26 rfl (h5.baseM hE rfl)) rfl ?_
  refine WL.p (.int .i64 (len a0.Sources)) rfl rfl ?_
  refine WL.nx hK17 ?_
  obtain rfl := Option.some.inj hF
  exact CW.rets (vs := [.int .i64 (len a0.Sources)]) Try.results88 ⟨rfl, trivial⟩ ⟨_, rfl, _, (hE.rn he0 100 [] rfl rfl), rfl⟩ (fun _ _ h => h)
 ·have hF := iteF hc16 hF
  refine CW.sr fun K18 hK18 => ?_
  refine WL.p (.bool (((a1 == 2)))) rfl rfl ?_
  refine WL.p (.bool (((a1 == 2)))) rfl rfl ?_
  refine WL.nx hK18 ?_
  refine CW.cond (b := ((a1 == 2))) rfl (fun hc19 => ?_) (fun hc19 => ?_)
  ·have hF := iteT hc19 hF
   refine CW.sr fun K20 hK20 => ?_
   refine WL.stepE (OW.fldAddr (FldOk.at f29_1) rfl) rfl ?_
   refine WL.stepE (OW.loadK (off := 1) (List Breaker) (u1) ty25 rfl hb12 rfl rfl) rfl ?_
   refine WL.stepE (OW.len Try.underlying25 rfl (h4.baseM hE rfl)) rfl ?_
   refine WL.p (.int .i64 (len a0.Breakers)) rfl rfl ?_
   refine WL.nx hK20 ?_
   obtain rfl := Option.some.inj hF
   exact CW.rets (vs := [.int .i64 (len a0.Breakers)]) Try.results88 ⟨rfl, trivial⟩ ⟨_, rfl, _, (hE.rn he0 100 [] rfl rfl), rfl⟩ (fun _ _ h => h)
  ·have hF := iteF hc19 hF
   refine CW.sr fun K21 hK21 => ?_
   refine WL.p (.bool (((a1 == 3)))) rfl rfl ?_
   refine WL.p (.bool (((a1 == 3)))) rfl rfl ?_
   refine WL.nx hK21 ?_
   refine CW.cond (b := ((a1 == 3))) rfl (fun hc22 => ?_) (fun hc22 => ?_)
   ·have hF := iteT hc22 hF
    refine CW.sr fun K23 hK23 => ?_
    refine WL.stepE (OW.fldAddr (FldOk.at f29_0) rfl) rfl ?_
    refine WL.stepE (OW.loadK (off := 0) Int (.int .i64 a0.Buses) ty3 rfl hb12 rfl rfl) rfl ?_
    refine WL.p (.int .i64 a0.Buses) rfl rfl ?_
    refine WL.nx hK23 ?_
    obtain rfl := Option.some.inj hF
    exact CW.rets (vs := [.int .i64 a0.Buses]) Try.results88 ⟨rfl, trivial⟩ ⟨_, rfl, _, (hE.rn he0 100 [] rfl rfl), rfl⟩ (fun _ _ h => h)
   ·have hF := iteF hc22 hF
    refine CW.sr fun K24 hK24 => ?_
    refine WL.p (.bool (((a1 == 4)))) rfl rfl ?_
    refine WL.p (.bool (((a1 == 4)))) rfl rfl ?_
    refine WL.nx hK24 ?_
    refine CW.cond (b := ((a1 == 4))) rfl (fun hc25 => ?_) (fun hc25 => ?_)
    ·have hF := iteT hc25 hF
     refine CW.sr fun K26 hK26 => ?_
     refine WL.stepE (OW.fldAddr (FldOk.at f29_3) rfl) rfl ?_
     refine WL.stepE (OW.loadK (off := 3) (List Consumer) (u3) ty27 rfl hb12 rfl rfl) rfl ?_
     refine WL.stepE (OW.len Try.underlying27 rfl (h6.baseM hE rfl)) rfl ?_
     refine WL.p (.int .i64 (len a0.Consumers)) rfl rfl ?_
     refine WL.nx hK26 ?_
     obtain rfl := Option.some.inj hF
     exact CW.rets (vs := [.int .i64 (len a0.Consumers)]) Try.results88 ⟨rfl, trivial⟩ ⟨_, rfl, _, (hE.rn he0 100 [] rfl rfl), rfl⟩ (fun _ _ h => h)
    ·have hF := iteF hc25 hF
     refine CW.skip ?_
     refine hK13 _ _ ?_
     refine CW.sr fun K27 hK27 => ?_
     refine WL.p (.int .i64 0) rfl rfl ?_
     refine WL.nx hK27 ?_
     obtain rfl := Option.some.inj hF
     exact CW.rets (vs := [.int .i64 0]) Try.results88 ⟨rfl, trivial⟩ ⟨_, rfl, _, (hE.rn he0 100 [] rfl rfl), rfl⟩ (fun _ _ h => h)

set_option maxHeartbeats 1000000 in
theorem cmp_isNaN_int_ok {a0 : Int} {r : Bool} (hF : cmp_isNaN_int a0 = some r) {w0 : World}  :
    Calls Try.prog 97 #[.int .i64 a0] w0 (Ret fun v w' => ∃ (oc : Cls), En w0 (entM w0 [] []) oc w' ∧ v = .bool r) := by
 obtain ⟨e0, he0⟩ : ∃ e0, e0 = entM w0 [] [] := ⟨_, rfl⟩
 have hE := En.refl w0 e0
 rw [cmp_isNaN_int] at hF
 refine enter (l := [.int .i64 a0]) Try.func97 rfl Try.ntmps97 rfl ?_
 refine CW.sub (L' := [(0, .int .i64 a0)]) ⟨rfl, trivial⟩ ?_
 refine CW.sr fun K1 hK1 => ?_
 refine WL.p (.bool false) rfl rfl ?_
 refine WL.nx hK1 ?_
 refine CW.sr fun K2 hK2 => ?_
 refine WL.p (.int .i64 a0) rfl rfl ?_
 refine WL.p (.int .i64 a0) rfl rfl ?_
 refine WL.p (.bool (((a0 != a0)))) rfl rfl ?_
 refine WL.p (.bool (((a0 != a0)))) rfl rfl ?_
 refine WL.nx hK2 ?_
 obtain rfl := Option.some.inj hF
 exact CW.rets (vs := [.bool (((a0 != a0)))]) Try.results97 ⟨rfl, trivial⟩ ⟨_, rfl, _, (hE.rn he0 100 [] rfl rfl), rfl⟩ (fun _ _ h => h)

set_option maxHeartbeats 1000000 in
theorem cmp_Compare_int_ok {a0 : Int} {a1 : Int} {r : Int} (hF : cmp_Compare_int a0 a1 = some r) {w0 : World}  :
    Calls Try.prog 90 #[.int .i64 a0, .int .i64 a1] w0 (Ret fun v w' => ∃ (oc : Cls), En w0 (entM w0 [] []) oc w' ∧ v = .int .i64 r) := by
 obtain ⟨e0, he0⟩ : ∃ e0, e0 = entM w0 [] [] := ⟨_, rfl⟩
 have hE := En.refl w0 e0
 rw [cmp_Compare_int] at hF
 refine enter (l := [.int .i64 a0, .int .i64 a1]) Try.func90 rfl Try.ntmps90 rfl ?_
 refine CW.sub (L' := [(0, .int .i64 a0), (1, .int .i64 a1)]) ⟨rfl, rfl, trivial⟩ ?_
 refine CW.sr fun K1 hK1 => ?_
 refine WL.p (.int .i64 0) rfl rfl ?_
 refine WL.nx hK1 ?_
 refine CW.sr fun K2 hK2 => ?_
 refine WL.p (.int .i64 a0) rfl rfl ?_
 obtain ⟨y3, q4, hF⟩ := bindE hF
 refine WL.step (OW.call Try.call97 rfl (cmp_isNaN_int_ok q4)) rfl ?_
 rintro _ w5 ⟨o9, hn_, rfl⟩
 obtain ⟨o6, ev7, hA8⟩ := adopt (o := e0) (ks := []) (Ks := []) 100 ([]) [100] hn_ MbOk.nil rfl rfl rfl rfl
 have hE := hE.evo ev7 rfl rfl
 refine WL.p (.bool y3) rfl rfl ?_
 refine WL.nx hK2 ?_
 refine CW.sr fun K10 hK10 => ?_
 refine WL.p (.int .i64 a1) rfl rfl ?_
 obtain ⟨y11, q12, hF⟩ := bindE hF
 refine WL.step (OW.call Try.call97 rfl (cmp_isNaN_int_ok q12)) rfl ?_
 rintro _ w13 ⟨o17, hn_, rfl⟩
 obtain ⟨o14, ev15, hA16⟩ := adopt (o := o6) (ks := []) (Ks := []) 101 ([]) [101] hn_ MbOk.nil rfl rfl rfl rfl
 have hE := hE.evo ev15 rfl rfl
 refine WL.p (.bool y11) rfl rfl ?_
 refine WL.nx hK10 ?_
 refine CW.seq fun K18 hK18 => ?_
 refine CW.sr fun K19 hK19 => ?_
 refine WL.p (.bool y3) rfl rfl ?_
 refine WL.nx hK19 ?_
 refine CW.cond (b := y3) rfl (fun hc20 => ?_) (fun hc20 => ?_)
 ·have hF := iteT hc20 hF
  refine CW.seq fun K21 hK21 => ?_
  refine CW.sr fun K22 hK22 => ?_
  refine WL.p (.bool y11) rfl rfl ?_
  refine WL.nx hK22 ?_
  refine CW.cond (b := y11) rfl (fun hc23 => ?_) (fun hc23 => ?_)
  ·have hF := iteT hc23 hF
   refine CW.sr fun K24 hK24 => ?_
   refine WL.p (.int .i64 0) rfl rfl ?_
   refine WL.nx hK24 ?_
   obtain rfl := Option.some.inj hF
   exact CW.rets (vs := [.int .i64 0]) Try.results90 ⟨rfl, trivial⟩ ⟨_, rfl, _, (hE.rn he0 100 [] rfl rfl), rfl⟩ (fun _ _ h => h)
  ·have hF := iteF hc23 hF
   refine CW.skip ?_
   refine hK21 _ _ ?_
   refine CW.sr fun K25 hK25 => ?_
   refine WL.p (.int .i64 (-1)) rfl rfl ?_
   refine WL.nx hK25 ?_
   obtain rfl := Option.some.inj hF
   exact CW.rets (vs := [.int .i64 (-1)]) Try.results90 ⟨rfl, trivial⟩ ⟨_, rfl, _, (hE.rn he0 100 [] rfl rfl), rfl⟩ (fun _ _ h => h)
 ·have hF := iteF hc20 hF
  refine CW.skip ?_
  refine hK18 _ _ ?_
  refine CW.seq fun K26 hK26 => ?_
  refine CW.sr fun K27 hK27 => ?_
  refine WL.p (.bool y11) rfl rfl ?_
  refine WL.nx hK27 ?_
  refine CW.cond (b := y11) rfl (fun hc28 => ?_) (fun hc28 => ?_)
  ·have hF := iteT hc28 hF
   refine CW.sr fun K29 hK29 => ?_
   refine WL.p (.int .i64 1) rfl rfl ?_
   refine WL.nx hK29 ?_
   obtain rfl := Option.some.inj hF
   exact CW.rets (vs := [.int .i64 1]) Try.results90 ⟨rfl, trivial⟩ ⟨_, rfl, _, (hE.rn he0 100 [] rfl rfl), rfl⟩ (fun _ _ h => h)
  ·have hF := iteF hc28 hF
   refine CW.skip ?_
   refine hK26 _ _ ?_
   refine CW.seq fun K30 hK30 => ?_
   refine CW.sr fun K31 hK31 => ?_
   refine WL.p (.int .i64 a0) rfl rfl ?_
   refine WL.p (.int .i64 a1) rfl rfl ?_
   refine WL.p (.bool ((decide (a0 < a1)))) rfl rfl ?_
   refine WL.nx hK31 ?_
   refine CW.cond (b := (decide (a0 < a1))) rfl (fun hc32 => ?_) (fun hc32 => ?_)
   ·have hF := iteT hc32 hF
    refine CW.sr fun K33 hK33 => ?_
    refine WL.p (.int .i64 (-1)) rfl rfl ?_
    refine WL.nx hK33 ?_
    obtain rfl := Option.some.inj hF
    exact CW.rets (vs := [.int .i64 (-1)]) Try.results90 ⟨rfl, trivial⟩ ⟨_, rfl, _, (hE.rn he0 100 [] rfl rfl), rfl⟩ (fun _ _ h => h)
   ·have hF := iteF hc32 hF
    refine CW.skip ?_
    refine hK30 _ _ ?_
    refine CW.seq fun K34 hK34 => ?_
    refine CW.sr fun K35 hK35 => ?_
    refine WL.p (.int .i64 a0) rfl rfl ?_
    refine WL.p (.int .i64 a1) rfl rfl ?_
    refine WL.p (.bool ((decide (a0 > a1)))) rfl rfl ?_
    refine WL.nx hK35 ?_
    refine CW.cond (b := (decide (a0 > a1))) rfl (fun hc36 => ?_) (fun hc36 => ?_)
    ·have hF := iteT hc36 hF
     refine CW.sr fun K37 hK37 => ?_
     refine WL.p (.int .i64 1) rfl rfl ?_
     refine WL.nx hK37 ?_
     obtain rfl := Option.some.inj hF
     exact CW.rets (vs := [.int .i64 1]) Try.results90 ⟨rfl, trivial⟩ ⟨_, rfl, _, (hE.rn he0 100 [] rfl rfl), rfl⟩ (fun _ _ h => h)
    ·have hF := iteF hc36 hF
     refine CW.skip ?_
     refine hK34 _ _ ?_
     refine CW.sr fun K38 hK38 => ?_
     refine WL.p (.int .i64 0) rfl rfl ?_
     refine WL.nx hK38 ?_
     obtain rfl := Option.some.inj hF
     exact CW.rets (vs := [.int .i64 0]) Try.results90 ⟨rfl, trivial⟩ ⟨_, rfl, _, (hE.rn he0 100 [] rfl rfl), rfl⟩ (fun _ _ h => h)

set_option maxHeartbeats 1000000 in
theorem cmp_Or_int_ok {a0 : (List Int)} {r : Int} (hF : cmp_Or_int a0 = some r) {w0 : World} {p0 : Value} {S0 : Nat → Prop} (g0 : Rv S0 w0 p0 a0) :
    Calls Try.prog 89 #[p0] w0 (Ret fun v w' => ∃ (oc : Cls), En w0 (entM w0 [] [S0]) oc w' ∧ v = .int .i64 r) := by
 obtain ⟨e0, he0⟩ : ∃ e0, e0 = entM w0 [] [S0] := ⟨_, rfl⟩
 have hE := En.refl w0 e0
 have g0 := g0.argM he0 0 (K := [40]) rfl (nosep rfl) rfl
 rw [cmp_Or_int] at hF
 refine enter (l := [p0]) Try.func89 rfl Try.ntmps89 rfl ?_
 refine CW.sub (L' := [(0, p0)]) ⟨rfl, trivial⟩ ?_
 refine CW.sr fun K1 hK1 => ?_
 refine WL.p (.int .i64 0) rfl rfl ?_
 refine WL.nx hK1 ?_
 refine CW.sr fun K2 hK2 => ?_
 refine WL.p (.int .i64 0) rfl rfl ?_
 refine WL.nx hK2 ?_
 refine CW.seq fun K3 hK3 => ?_
 refine CW.sr fun K4 hK4 => ?_
 refine WL.p p0 rfl rfl ?_
 refine WL.stepE (OW.len Try.underlying22 rfl (g0.baseM hE rfl)) rfl ?_
 refine WL.p (.int .i64 0) rfl rfl ?_
 refine WL.nx hK4 ?_
 refine CW.block ?_
 obtain ⟨r7, hl6, hF⟩ := bindE hF
 have hJ10 : ∀ (w8 : World) (o9 : Cls), .inl () = r7 → En w0 e0 o9 w8 → NK 18 K3 [(3, .int .i64 0)] w8 := by
  intro  w8 o9  e_ hE
  subst e_
  have hF := elimL hF
  try dsimp only at hF
  refine hK3 _ _ ?_
  refine CW.sr fun K11 hK11 => ?_
  refine WL.p (.int .i64 0) rfl rfl ?_
  refine WL.p (.int .i64 0) rfl rfl ?_
  refine WL.nx hK11 ?_
  obtain rfl := Option.some.inj hF
  exact CW.rets (vs := [.int .i64 0]) Try.results89 ⟨rfl, trivial⟩ ⟨_, rfl, _, (hE.rn he0 100 [] rfl rfl), rfl⟩ (fun _ _ h => h)
 refine CW.sub (L' := [(3, .int .i64 0), (6, p0), (7, .int .i64 (len a0)), (8, .int .i64 0)]) ⟨rfl, rfl, rfl, rfl, trivial⟩ ?_
 refine CW.loop (cmp_Or_int_L1 a0) (fun s_ L_ w12 => ∃ (o13 : Cls) (x5 : Int), x5 = s_ ∧ L_ = [(3, .int .i64 0), (6, p0), (7, .int .i64 (len a0)), (8, .int .i64 x5)] ∧ En w0 e0 o13 w12) hl6 ?_ ?_
 ·exact ⟨e0, 0, rfl, rfl, hE⟩
 intro K14 s_ L_ w12 hi_ x15 hx16 hr17 hk18
 obtain ⟨o13, x5, rfl, rfl, hE⟩ := hi_
 rw [cmp_Or_int_L1] at hx16
 refine CW.sr fun K19 hK19 => ?_
 refine WL.p (.bool ((decide (x5 < (len a0))))) rfl rfl ?_
 refine WL.nx hK19 ?_
 refine CW.seq fun K20 hK20 => ?_
 refine CW.cond (b := (decide (x5 < (len a0)))) rfl (fun hc21 => ?_) (fun hc21 => ?_)
 ·have hx16 := iteT hc21 hx16
  refine CW.skip ?_
  refine hK20 _ _ ?_
  refine CW.seq fun K22 hK22 => ?_
  refine CW.block ?_
  refine CW.sr fun K23 hK23 => ?_
  obtain ⟨y24, q28, hx16⟩ := bindE hx16
  refine WL.stepP (OW.indexAddr Try.underlying22 ty3 rfl (g0.baseM hE rfl) rfl q28) rfl fun _ ⟨pa25, hv_, hp26, he27⟩ => ?_
  subst hv_
  refine WL.stepE (OW.loadI ty3 rfl hp26) rfl ?_
  refine WL.p (.int .i64 y24) rfl rfl ?_
  refine WL.nx hK23 ?_
  refine CW.sr fun K29 hK29 => ?_
  refine WL.p (.int .i64 y24) rfl rfl ?_
  refine WL.p (.int .i64 0) rfl rfl ?_
  refine WL.p (.bool (((y24 != 0)))) rfl rfl ?_
  refine WL.nx hK29 ?_
  refine CW.cond (b := ((y24 != 0))) rfl (fun hc30 => ?_) (fun hc30 => ?_)
  ·have hx16 := iteT hc30 hx16
   refine CW.sr fun K31 hK31 => ?_
   refine WL.p (.int .i64 y24) rfl rfl ?_
   refine WL.p (.int .i64 y24) rfl rfl ?_
   refine WL.nx hK31 ?_
   have e_ := hr17 _ (Option.some.inj hx16).symm
   subst e_
   have hF := elimR hF
   obtain rfl := Option.some.inj hF
   exact CW.rets (vs := [.int .i64 y24]) Try.results89 ⟨rfl, trivial⟩ ⟨_, rfl, _, (hE.rn he0 100 [] rfl rfl), rfl⟩ (fun _ _ h => h)
  ·have hx16 := iteF hc30 hx16
   refine CW.skip ?_
   refine hK22 _ _ ?_
   refine CW.region ?_
   refine WL.p (.int .i64 ((W (x5 + 1)))) rfl rfl ?_
   refine WL.p (.int .i64 ((W (x5 + 1)))) rfl rfl ?_
   refine WL.nil ?_
   exact NK.sb (hk18 _ _ _ (Option.some.inj hx16).symm ⟨o13, (W (x5 + 1)), rfl, rfl, hE⟩) ⟨rfl, rfl, rfl, rfl, trivial⟩
 ·have hx16 := iteF hc21 hx16
  refine CW.exit ?_
  exact NK.sb (hJ10 w12 o13 (hr17 _ (Option.some.inj hx16).symm) hE) ⟨rfl, trivial⟩

end Go.Proofs.Ytdfkfohpgakihaa
