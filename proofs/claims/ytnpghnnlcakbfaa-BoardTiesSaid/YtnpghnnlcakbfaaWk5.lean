/- Walks. Written by a program (wip/gen). -/
import Derived.Test.YtnpghnnlcakbfaaHw
set_option linter.unusedVariables false
set_option linter.unusedSimpArgs false
namespace Go.Proofs.Ytnpghnnlcakbfaa
open Go Go.RowKit Dp

set_option maxRecDepth 100000

set_option maxHeartbeats 1000000 in
theorem board_in_ok {a0 : Int} {a1 : Int} {a2 : Int} {r : Bool} (hF : board_in a0 a1 a2 = some r) {w0 : World}  :
    Calls Try.prog 59 #[.int .i64 a0, .int .i64 a1, .int .i64 a2] w0 (Ret fun v w' => ∃ (oc : Cls), En w0 (entM w0 [] []) oc w' ∧ v = .bool r) := by
 obtain ⟨e0, he0⟩ : ∃ e0, e0 = entM w0 [] [] := ⟨_, rfl⟩
 have hE := En.refl w0 e0
 rw [board_in] at hF
 refine enter (l := [.int .i64 a0, .int .i64 a1, .int .i64 a2]) Try.func59 rfl Try.ntmps59 rfl ?_
 refine CW.sub (L' := [(0, .int .i64 a0), (1, .int .i64 a1), (2, .int .i64 a2)]) ⟨rfl, rfl, rfl, trivial⟩ ?_
 refine CW.sr fun K1 hK1 => ?_
 refine WL.p (.bool false) rfl rfl ?_
 refine WL.nx hK1 ?_
 refine CW.sr fun K2 hK2 => ?_
 refine WL.p (.int .i64 a0) rfl rfl ?_
 refine WL.p (.int .i64 a1) rfl rfl ?_
 refine WL.p (.bool ((decide (a0 ≥ a1)))) rfl rfl ?_
 refine WL.p (.bool ((decide (a0 ≥ a1)))) rfl rfl ?_
 obtain ⟨x3, q4, hF⟩ := bindE hF
 have hJ7 : ∀ (w5 : World) (o6 : Cls), En w0 e0 o6 w5 → NK 15 K2 [(6, .bool x3)] w5 := by
  intro w5 o6  hE
  refine hK2 _ _ ?_
  obtain rfl := Option.some.inj hF
  exact CW.rets (vs := [.bool x3]) Try.results59 ⟨rfl, trivial⟩ ⟨_, rfl, _, (hE.rn he0 100 [] rfl rfl), rfl⟩ (fun _ _ h => h)
 rcases Bool.eq_false_or_eq_true ((decide (a0 ≥ a1))) with hc8 | hc8
 ·have q4 := iteT hc8 q4
  refine WL.stepGE rfl rfl rfl hc8 (OW.pv (v := (.int .i64 a0)) rfl) rfl ?_
  refine WL.stepGE rfl rfl rfl hc8 (OW.pv (v := (.int .i64 a2)) rfl) rfl ?_
  refine WL.stepGE rfl rfl rfl hc8 (OW.pv (v := (.bool ((decide (a0 ≤ a2))))) rfl) rfl ?_
  refine WL.stepE (OW.pickT rfl hc8 rfl) rfl ?_
  refine WL.p (.bool ((decide (a0 ≤ a2)))) rfl rfl ?_
  refine WL.nil ?_
  have e9 := Option.some.inj q4
  subst e9
  exact NK.sb (hJ7 w0 e0 hE) ⟨rfl, trivial⟩
 ·have q4 := iteF hc8 q4
  refine WL.skipG rfl rfl rfl (by rw [hc8]; rfl) rfl ?_
  refine WL.skipG rfl rfl rfl (by rw [hc8]; rfl) rfl ?_
  refine WL.skipG rfl rfl rfl (by rw [hc8]; rfl) rfl ?_
  refine WL.stepE (OW.pickF rfl hc8 rfl) rfl ?_
  refine WL.p (.bool false) rfl rfl ?_
  refine WL.nil ?_
  have e10 := Option.some.inj q4
  subst e10
  exact NK.sb (hJ7 w0 e0 hE) ⟨rfl, trivial⟩

set_option maxHeartbeats 1000000 in
theorem slices_Index_int_int_ok {a0 : (List Int)} {a1 : Int} {r : Int} (hF : slices_Index_int_int a0 a1 = some r) {w0 : World} {p0 : Value} {S0 : Nat → Prop} (g0 : Rv S0 w0 p0 a0) :
    Calls Try.prog 79 #[p0, .int .i64 a1] w0 (Ret fun v w' => ∃ (oc : Cls), En w0 (entM w0 [] [S0]) oc w' ∧ v = .int .i64 r) := by
 obtain ⟨e0, he0⟩ : ∃ e0, e0 = entM w0 [] [S0] := ⟨_, rfl⟩
 have hE := En.refl w0 e0
 have g0 := g0.argM he0 0 (K := [40]) rfl (nosep rfl) rfl
 rw [slices_Index_int_int] at hF
 refine enter (l := [p0, .int .i64 a1]) Try.func79 rfl Try.ntmps79 rfl ?_
 refine CW.sub (L' := [(0, p0), (1, .int .i64 a1)]) ⟨rfl, rfl, trivial⟩ ?_
 refine CW.sr fun K1 hK1 => ?_
 refine WL.p (.int .i64 0) rfl rfl ?_
 refine WL.nx hK1 ?_
 refine CW.seq fun K2 hK2 => ?_
 refine CW.sr fun K3 hK3 => ?_
 refine WL.p p0 rfl rfl ?_
 refine WL.stepE (OW.len Try.underlying22 rfl (g0.baseM hE rfl)) rfl ?_
 refine WL.p (.int .i64 0) rfl rfl ?_
 refine WL.nx hK3 ?_
 refine CW.block ?_
 obtain ⟨r6, hl5, hF⟩ := bindE hF
 have hJ9 : ∀ (w7 : World) (o8 : Cls), .inl () = r6 → En w0 e0 o8 w7 → NK 19 K2 [] w7 := by
  intro  w7 o8  e_ hE
  subst e_
  have hF := elimL hF
  try dsimp only at hF
  refine hK2 _ _ ?_
  refine CW.sr fun K10 hK10 => ?_
  refine WL.p (.int .i64 (-1)) rfl rfl ?_
  refine WL.nx hK10 ?_
  obtain rfl := Option.some.inj hF
  exact CW.rets (vs := [.int .i64 (-1)]) Try.results79 ⟨rfl, trivial⟩ ⟨_, rfl, _, (hE.rn he0 100 [] rfl rfl), rfl⟩ (fun _ _ h => h)
 refine CW.sub (L' := [(0, p0), (1, .int .i64 a1), (7, .int .i64 (len a0)), (8, .int .i64 0)]) ⟨rfl, rfl, rfl, rfl, trivial⟩ ?_
 refine CW.loop (slices_Index_int_int_L1 a0 a1) (fun s_ L_ w11 => ∃ (o12 : Cls) (x4 : Int), x4 = s_ ∧ L_ = [(0, p0), (1, .int .i64 a1), (7, .int .i64 (len a0)), (8, .int .i64 x4)] ∧ En w0 e0 o12 w11) hl5 ?_ ?_
 ·exact ⟨e0, 0, rfl, rfl, hE⟩
 intro K13 s_ L_ w11 hi_ x14 hx15 hr16 hk17
 obtain ⟨o12, x4, rfl, rfl, hE⟩ := hi_
 rw [slices_Index_int_int_L1] at hx15
 refine CW.sr fun K18 hK18 => ?_
 refine WL.p (.bool ((decide (x4 < (len a0))))) rfl rfl ?_
 refine WL.nx hK18 ?_
 refine CW.seq fun K19 hK19 => ?_
 refine CW.cond (b := (decide (x4 < (len a0)))) rfl (fun hc20 => ?_) (fun hc20 => ?_)
 ·have hx15 := iteT hc20 hx15
  refine CW.skip ?_
  refine hK19 _ _ ?_
  refine CW.seq fun K21 hK21 => ?_
  refine CW.block ?_
  refine CW.sr fun K22 hK22 => ?_
  refine WL.p (.int .i64 x4) rfl rfl ?_
  refine WL.p (.int .i64 x4) rfl rfl ?_
  refine WL.nx hK22 ?_
  refine CW.sr fun K23 hK23 => ?_
  refine WL.p (.int .i64 a1) rfl rfl ?_
  refine WL.p p0 rfl rfl ?_
  refine WL.p (.int .i64 x4) rfl rfl ?_
  obtain ⟨y24, q28, hx15⟩ := bindE hx15
  refine WL.stepP (OW.indexAddr Try.underlying22 ty3 rfl (g0.baseM hE rfl) rfl q28) rfl fun _ ⟨pa25, hv_, hp26, he27⟩ => ?_
  subst hv_
  refine WL.stepE (OW.loadI ty3 rfl hp26) rfl ?_
  refine WL.p (.bool (((a1 == y24)))) rfl rfl ?_
  refine WL.nx hK23 ?_
  refine CW.cond (b := ((a1 == y24))) rfl (fun hc29 => ?_) (fun hc29 => ?_)
  ·have hx15 := iteT hc29 hx15
   refine CW.sr fun K30 hK30 => ?_
   refine WL.p (.int .i64 x4) rfl rfl ?_
   refine WL.p (.int .i64 x4) rfl rfl ?_
   refine WL.nx hK30 ?_
   have e_ := hr16 _ (Option.some.inj hx15).symm
   subst e_
   have hF := elimR hF
   obtain rfl := Option.some.inj hF
   exact CW.rets (vs := [.int .i64 x4]) Try.results79 ⟨rfl, trivial⟩ ⟨_, rfl, _, (hE.rn he0 100 [] rfl rfl), rfl⟩ (fun _ _ h => h)
  ·have hx15 := iteF hc29 hx15
   refine CW.skip ?_
   refine hK21 _ _ ?_
   refine CW.region ?_
   refine WL.p (.int .i64 ((W (x4 + 1)))) rfl rfl ?_
   refine WL.p (.int .i64 ((W (x4 + 1)))) rfl rfl ?_
   refine WL.nil ?_
   exact NK.sb (hk17 _ _ _ (Option.some.inj hx15).symm ⟨o12, (W (x4 + 1)), rfl, rfl, hE⟩) ⟨rfl, rfl, rfl, rfl, trivial⟩
 ·have hx15 := iteF hc20 hx15
  refine CW.exit ?_
  exact NK.sb (hJ9 w11 o12 (hr16 _ (Option.some.inj hx15).symm) hE) trivial

set_option maxHeartbeats 1000000 in
theorem slices_Contains_int_int_ok {a0 : (List Int)} {a1 : Int} {r : Bool} (hF : slices_Contains_int_int a0 a1 = some r) {w0 : World} {p0 : Value} {S0 : Nat → Prop} (g0 : Rv S0 w0 p0 a0) :
    Calls Try.prog 57 #[p0, .int .i64 a1] w0 (Ret fun v w' => ∃ (oc : Cls), En w0 (entM w0 [] [S0]) oc w' ∧ v = .bool r) := by
 obtain ⟨e0, he0⟩ : ∃ e0, e0 = entM w0 [] [S0] := ⟨_, rfl⟩
 have hE := En.refl w0 e0
 have g0 := g0.argM he0 0 (K := [40]) rfl (nosep rfl) rfl
 rw [slices_Contains_int_int] at hF
 refine enter (l := [p0, .int .i64 a1]) Try.func57 rfl Try.ntmps57 rfl ?_
 refine CW.sub (L' := [(0, p0), (1, .int .i64 a1)]) ⟨rfl, rfl, trivial⟩ ?_
 refine CW.sr fun K1 hK1 => ?_
 refine WL.p (.bool false) rfl rfl ?_
 refine WL.nx hK1 ?_
 refine CW.sr fun K2 hK2 => ?_
 refine WL.p p0 rfl rfl ?_
 refine WL.p (.int .i64 a1) rfl rfl ?_
 obtain ⟨y3, q4, hF⟩ := bindE hF
 refine WL.step (OW.call Try.call79 rfl (slices_Index_int_int_ok q4 (g0.baseM hE rfl))) rfl ?_
 rintro _ w5 ⟨o9, hn_, rfl⟩
 obtain ⟨o6, ev7, hA8⟩ := adopt (o := e0) (ks := []) (Ks := [[40]]) 100 ([]) [100] hn_ MbOk.nil rfl rfl rfl rfl
 have hE := hE.evo ev7 rfl rfl
 refine WL.p (.bool ((decide (y3 ≥ 0)))) rfl rfl ?_
 refine WL.p (.bool ((decide (y3 ≥ 0)))) rfl rfl ?_
 refine WL.nx hK2 ?_
 obtain rfl := Option.some.inj hF
 exact CW.rets (vs := [.bool ((decide (y3 ≥ 0)))]) Try.results57 ⟨rfl, trivial⟩ ⟨_, rfl, _, (hE.rn he0 100 [] rfl rfl), rfl⟩ (fun _ _ h => h)

set_option maxHeartbeats 1000000 in
theorem slices_IndexFunc_int_int_ok {a0 : (List (List Int))} {f1 : ((List Int) → Option Bool)} {r : Int} (hF : slices_IndexFunc_int_int a0 f1 = some r) {w0 : World} {p0 : Value} {S0 : Nat → Prop} (g0 : Rv S0 w0 p0 a0) {q1 : FuncId} {z1 : Array Value} (m1 : Fn1 Try.prog q1 z1 (fun w => Bts [] w0 w) f1) :
    Calls Try.prog 89 #[p0, .func (.func q1) #[] z1] w0 (Ret fun v w' => ∃ (oc : Cls), En w0 (entM w0 [] [S0]) oc w' ∧ v = .int .i64 r) := by
 obtain ⟨e0, he0⟩ : ∃ e0, e0 = entM w0 [] [S0] := ⟨_, rfl⟩
 have hE := En.refl w0 e0
 have g0 := g0.argM he0 0 (K := [40]) rfl (nosep rfl) rfl
 rw [slices_IndexFunc_int_int] at hF
 refine enter (l := [p0, .func (.func q1) #[] z1]) Try.func89 rfl Try.ntmps89 rfl ?_
 refine CW.sub (L' := [(0, p0), (1, .func (.func q1) #[] z1)]) ⟨rfl, rfl, trivial⟩ ?_
 refine CW.sr fun K1 hK1 => ?_
 refine WL.p (.int .i64 0) rfl rfl ?_
 refine WL.nx hK1 ?_
 refine CW.seq fun K2 hK2 => ?_
 refine CW.sr fun K3 hK3 => ?_
 refine WL.p p0 rfl rfl ?_
 refine WL.stepE (OW.len Try.underlying107 rfl (g0.baseM hE rfl)) rfl ?_
 refine WL.p (.int .i64 0) rfl rfl ?_
 refine WL.nx hK3 ?_
 refine CW.block ?_
 obtain ⟨r6, hl5, hF⟩ := bindE hF
 have hJ9 : ∀ (w7 : World) (o8 : Cls), .inl () = r6 → En w0 e0 o8 w7 → NK 19 K2 [] w7 := by
  intro  w7 o8  e_ hE
  subst e_
  have hF := elimL hF
  try dsimp only at hF
  refine hK2 _ _ ?_
  refine CW.sr fun K10 hK10 => ?_
  refine WL.p (.int .i64 (-1)) rfl rfl ?_
  refine WL.nx hK10 ?_
  obtain rfl := Option.some.inj hF
  exact CW.rets (vs := [.int .i64 (-1)]) Try.results89 ⟨rfl, trivial⟩ ⟨_, rfl, _, (hE.rn he0 100 [] rfl rfl), rfl⟩ (fun _ _ h => h)
 refine CW.sub (L' := [(0, p0), (1, .func (.func q1) #[] z1), (7, .int .i64 (len a0)), (8, .int .i64 0)]) ⟨rfl, rfl, rfl, rfl, trivial⟩ ?_
 refine CW.loop (slices_IndexFunc_int_int_L1 a0 f1) (fun s_ L_ w11 => ∃ (o12 : Cls) (x4 : Int), x4 = s_ ∧ L_ = [(0, p0), (1, .func (.func q1) #[] z1), (7, .int .i64 (len a0)), (8, .int .i64 x4)] ∧ En w0 e0 o12 w11) hl5 ?_ ?_
 ·exact ⟨e0, 0, rfl, rfl, hE⟩
 intro K13 s_ L_ w11 hi_ x14 hx15 hr16 hk17
 obtain ⟨o12, x4, rfl, rfl, hE⟩ := hi_
 rw [slices_IndexFunc_int_int_L1] at hx15
 refine CW.sr fun K18 hK18 => ?_
 refine WL.p (.bool ((decide (x4 < (len a0))))) rfl rfl ?_
 refine WL.nx hK18 ?_
 refine CW.seq fun K19 hK19 => ?_
 refine CW.cond (b := (decide (x4 < (len a0)))) rfl (fun hc20 => ?_) (fun hc20 => ?_)
 ·have hx15 := iteT hc20 hx15
  refine CW.skip ?_
  refine hK19 _ _ ?_
  refine CW.seq fun K21 hK21 => ?_
  refine CW.block ?_
  refine CW.sr fun K22 hK22 => ?_
  refine WL.p (.int .i64 x4) rfl rfl ?_
  refine WL.p (.int .i64 x4) rfl rfl ?_
  refine WL.nx hK22 ?_
  refine CW.sr fun K23 hK23 => ?_
  refine WL.p (.func (.func q1) #[] z1) rfl rfl ?_
  refine WL.p p0 rfl rfl ?_
  refine WL.p (.int .i64 x4) rfl rfl ?_
  obtain ⟨y24, q28, hx15⟩ := bindE hx15
  refine WL.stepP (OW.indexAddr Try.underlying107 ty22 rfl (g0.baseM hE rfl) rfl q28) rfl fun _ ⟨pa25, hv_, hp26, he27⟩ => ?_
  subst hv_
  refine WL.stepP (OW.load ty22 rfl hp26) rfl fun v29 h30 => ?_
  obtain ⟨y31, q32, hx15⟩ := bindE hx15
  refine WL.step (OW.callV m1.1 rfl rfl (m1.2 _ (hE.bts he0 rfl) _ _ q32 _ _ h30)) rfl ?_
  rintro v39 w33 ⟨hb37, h38⟩
  obtain rfl := rv_bool.1 h38
  obtain ⟨o34, ev35, hn36⟩ := fresh_new (o := o12) 100 hb37
  have hE := hE.evo ev35 rfl rfl
  have h30 := h30.evo ev35 rfl
  refine WL.nx hK23 ?_
  refine CW.cond (b := y31) rfl (fun hc40 => ?_) (fun hc40 => ?_)
  ·have hx15 := iteT hc40 hx15
   refine CW.sr fun K41 hK41 => ?_
   refine WL.p (.int .i64 x4) rfl rfl ?_
   refine WL.p (.int .i64 x4) rfl rfl ?_
   refine WL.nx hK41 ?_
   have e_ := hr16 _ (Option.some.inj hx15).symm
   subst e_
   have hF := elimR hF
   obtain rfl := Option.some.inj hF
   exact CW.rets (vs := [.int .i64 x4]) Try.results89 ⟨rfl, trivial⟩ ⟨_, rfl, _, (hE.rn he0 100 [] rfl rfl), rfl⟩ (fun _ _ h => h)
  ·have hx15 := iteF hc40 hx15
   refine CW.skip ?_
   refine hK21 _ _ ?_
   refine CW.region ?_
   refine WL.p (.int .i64 ((W (x4 + 1)))) rfl rfl ?_
   refine WL.p (.int .i64 ((W (x4 + 1)))) rfl rfl ?_
   refine WL.nil ?_
   exact NK.sb (hk17 _ _ _ (Option.some.inj hx15).symm ⟨o34, (W (x4 + 1)), rfl, rfl, hE⟩) ⟨rfl, rfl, rfl, rfl, trivial⟩
 ·have hx15 := iteF hc20 hx15
  refine CW.exit ?_
  exact NK.sb (hJ9 w11 o12 (hr16 _ (Option.some.inj hx15).symm) hE) trivial

set_option maxHeartbeats 1000000 in
theorem slices_ContainsFunc_int_int_ok {a0 : (List (List Int))} {f1 : ((List Int) → Option Bool)} {r : Bool} (hF : slices_ContainsFunc_int_int a0 f1 = some r) {w0 : World} {p0 : Value} {S0 : Nat → Prop} (g0 : Rv S0 w0 p0 a0) {q1 : FuncId} {z1 : Array Value} (m1 : Fn1 Try.prog q1 z1 (fun w => Bts [] w0 w) f1) :
    Calls Try.prog 81 #[p0, .func (.func q1) #[] z1] w0 (Ret fun v w' => ∃ (oc : Cls), En w0 (entM w0 [] [S0]) oc w' ∧ v = .bool r) := by
 obtain ⟨e0, he0⟩ : ∃ e0, e0 = entM w0 [] [S0] := ⟨_, rfl⟩
 have hE := En.refl w0 e0
 have g0 := g0.argM he0 0 (K := [40]) rfl (nosep rfl) rfl
 rw [slices_ContainsFunc_int_int] at hF
 refine enter (l := [p0, .func (.func q1) #[] z1]) Try.func81 rfl Try.ntmps81 rfl ?_
 refine CW.sub (L' := [(0, p0), (1, .func (.func q1) #[] z1)]) ⟨rfl, rfl, trivial⟩ ?_
 refine CW.sr fun K1 hK1 => ?_
 refine WL.p (.bool false) rfl rfl ?_
 refine WL.nx hK1 ?_
 refine CW.sr fun K2 hK2 => ?_
 refine WL.p p0 rfl rfl ?_
 refine WL.p (.func (.func q1) #[] z1) rfl rfl ?_
 obtain ⟨y3, q4, hF⟩ := bindE hF
 refine WL.step (OW.call Try.call89 rfl (slices_IndexFunc_int_int_ok q4 (g0.baseM hE rfl) (m1.mono fun _ h_ => hE.on he0 rfl MbOk.nil rfl h_))) rfl ?_
 rintro _ w5 ⟨o9, hn_, rfl⟩
 obtain ⟨o6, ev7, hA8⟩ := adopt (o := e0) (ks := []) (Ks := [[40]]) 100 ([]) [100] hn_ MbOk.nil rfl rfl rfl rfl
 have hE := hE.evo ev7 rfl rfl
 refine WL.p (.bool ((decide (y3 ≥ 0)))) rfl rfl ?_
 refine WL.p (.bool ((decide (y3 ≥ 0)))) rfl rfl ?_
 refine WL.nx hK2 ?_
 obtain rfl := Option.some.inj hF
 exact CW.rets (vs := [.bool ((decide (y3 ≥ 0)))]) Try.results81 ⟨rfl, trivial⟩ ⟨_, rfl, _, (hE.rn he0 100 [] rfl rfl), rfl⟩ (fun _ _ h => h)

set_option maxHeartbeats 1000000 in
theorem board_breakers_1_ok {a0 : (List Int)} {r : Bool} (hF : board_breakers_1 a0 = some r) {w0 : World} {p0 : Value} {S0 : Nat → Prop} (g0 : Rv S0 w0 p0 a0) :
    Calls Try.prog 82 #[p0] w0 (Ret fun v w' => ∃ (oc : Cls), En w0 (entM w0 [] [S0]) oc w' ∧ v = .bool r) := by
 obtain ⟨e0, he0⟩ : ∃ e0, e0 = entM w0 [] [S0] := ⟨_, rfl⟩
 have hE := En.refl w0 e0
 have g0 := g0.argM he0 0 (K := [40]) rfl (nosep rfl) rfl
 rw [board_breakers_1] at hF
 refine enter (l := [p0]) Try.func82 rfl Try.ntmps82 rfl ?_
 refine CW.sub (L' := [(0, p0)]) ⟨rfl, trivial⟩ ?_
 refine CW.sr fun K1 hK1 => ?_
 refine WL.p (.bool false) rfl rfl ?_
 refine WL.nx hK1 ?_
 refine CW.sr fun K2 hK2 => ?_
 refine WL.p p0 rfl rfl ?_
 refine WL.stepE (OW.len Try.underlying22 rfl (g0.baseM hE rfl)) rfl ?_
 refine WL.p (.bool ((((len a0) == 0)))) rfl rfl ?_
 refine WL.p (.bool ((((len a0) == 0)))) rfl rfl ?_
 refine WL.nx hK2 ?_
 obtain rfl := Option.some.inj hF
 exact CW.rets (vs := [.bool ((((len a0) == 0)))]) Try.results82 ⟨rfl, trivial⟩ ⟨_, rfl, _, (hE.rn he0 100 [] rfl rfl), rfl⟩ (fun _ _ h => h)

end Go.Proofs.Ytnpghnnlcakbfaa
