/- Walks. Written by a program (wip/gen). -/
import Derived.Test.YtnpghnnlcakbfaaHw
import Derived.Test.YtnpghnnlcakbfaaWk11
namespace Go.Proofs.Ytnpghnnlcakbfaa
open Go Go.RowKit Dp

set_option maxRecDepth 100000

set_option maxHeartbeats 1000000 in
theorem slices_Index_Part_Part_ok {a0 : (List Part)} {a1 : Part} {r : Int} (hF : slices_Index_Part_Part a0 a1 = some r) {w0 : World} {p0 : Value} {S0 : Nat → Prop} (g0 : Rv S0 w0 p0 a0) {p1 : Value} {S1 : Nat → Prop} (g1 : Rv S1 w0 p1 a1) :
    Calls Try.prog 80 #[p0, p1] w0 (Ret fun v w' => ∃ (oc : Cls), En w0 (entM w0 [] [S0, S1]) oc w' ∧ v = .int .i64 r) := by
 obtain ⟨e0, he0⟩ : ∃ e0, e0 = entM w0 [] [S0, S1] := ⟨_, rfl⟩
 have hE := En.refl w0 e0
 have g0 := g0.argM he0 0 (K := [40]) rfl (nosep rfl) rfl
 have g1 := g1.argM he0 1 (K := [40, 41]) rfl (nosep rfl) rfl
 obtain rfl := op66 g1
 rw [slices_Index_Part_Part] at hF
 refine enter (l := [p0, .agg #[.int .i64 a1.Kind, .int .i64 a1.Number]]) Try.func80 rfl Try.ntmps80 rfl ?_
 refine CW.sub (L' := [(0, p0), (1, .agg #[.int .i64 a1.Kind, .int .i64 a1.Number])]) ⟨rfl, rfl, trivial⟩ ?_
 refine CW.sr fun K1 hK1 => ?_
 refine WL.step (OW.boxK (o := e0) 100 [.int .i64 a1.Kind, .int .i64 a1.Number] rfl rfl) rfl ?_
 rintro _ w4 ⟨pa2, o3, rfl, ev5, hb6⟩
 have hE := hE.evo ev5 rfl rfl
 refine WL.p (.int .i64 0) rfl rfl ?_
 refine WL.nx hK1 ?_
 refine CW.seq fun K7 hK7 => ?_
 refine CW.sr fun K8 hK8 => ?_
 refine WL.p p0 rfl rfl ?_
 refine WL.stepE (OW.len Try.underlying43 rfl (g0.baseM hE rfl)) rfl ?_
 refine WL.p (.int .i64 0) rfl rfl ?_
 refine WL.nx hK8 ?_
 refine CW.block ?_
 obtain ⟨r11, hl10, hF⟩ := bindE hF
 have hJ14 : ∀ (w12 : World) (o13 : Cls), .inl () = r11 → En w0 e0 o13 w12 → NK 19 K7 [] w12 := by
  intro  w12 o13  e_ hE
  subst e_
  have hF := elimL hF
  try dsimp only at hF
  refine hK7 _ _ ?_
  refine CW.sr fun K15 hK15 => ?_
  refine WL.p (.int .i64 (-1)) rfl rfl ?_
  refine WL.nx hK15 ?_
  obtain rfl := Option.some.inj hF
  exact CW.rets (vs := [.int .i64 (-1)]) Try.results80 ⟨rfl, trivial⟩ ⟨_, rfl, _, (hE.rn he0 100 [] rfl rfl), rfl⟩ (fun _ _ h => h)
 refine CW.sub (L' := [(0, p0), (3, .pointer (some pa2)), (7, .int .i64 (len a0)), (8, .int .i64 0)]) ⟨rfl, rfl, rfl, rfl, trivial⟩ ?_
 refine CW.loop (slices_Index_Part_Part_L1 a0 a1) (fun s_ L_ w16 => ∃ (o17 : Cls) (x9 : Int), x9 = s_ ∧ L_ = [(0, p0), (3, .pointer (some pa2)), (7, .int .i64 (len a0)), (8, .int .i64 x9)] ∧ En w0 e0 o17 w16 ∧ Bk o17 100 w16 pa2 [.int .i64 a1.Kind, .int .i64 a1.Number]) hl10 ?_ ?_
 ·exact ⟨o3, 0, rfl, rfl, hE, hb6⟩
 intro K18 s_ L_ w16 hi_ x19 hx20 hr21 hk22
 obtain ⟨o17, x9, rfl, rfl, hE, hb6⟩ := hi_
 rw [slices_Index_Part_Part_L1] at hx20
 refine CW.sr fun K23 hK23 => ?_
 refine WL.p (.bool ((decide (x9 < (len a0))))) rfl rfl ?_
 refine WL.nx hK23 ?_
 refine CW.seq fun K24 hK24 => ?_
 refine CW.cond (b := (decide (x9 < (len a0)))) rfl (fun hc25 => ?_) (fun hc25 => ?_)
 ·have hx20 := iteT hc25 hx20
  refine CW.skip ?_
  refine hK24 _ _ ?_
  refine CW.seq fun K26 hK26 => ?_
  refine CW.block ?_
  refine CW.sr fun K27 hK27 => ?_
  refine WL.p (.int .i64 x9) rfl rfl ?_
  refine WL.p (.int .i64 x9) rfl rfl ?_
  refine WL.nx hK27 ?_
  refine CW.seq fun K28 hK28 => ?_
  obtain ⟨y29, q33, hx20⟩ := bindE hx20
  have ev_ := Evo.drew o17 w16
  refine CW.anyS (N := []) hmix [sBk none none [] 100 (fun _ => pa2) (fun _ => [.int .i64 a1.Kind, .int .i64 a1.Number]), sPt (some 3) none [3] [40] (fun x_ => (pOf (x_.getD 0 undef))) y29, sEp (some 3) none [3] (fun _ => p0) 2 x9 (fun x_ => (pOf (x_.getD 0 undef)))] [⟨[], [0], [], [], fun _ => .agg #[.int .i64 a1.Kind, .int .i64 a1.Number], false⟩, ⟨[], [], [], [], fun _ => p0, false⟩, ⟨[], [], [], [], fun _ => .int .i64 x9, false⟩, ⟨[], [], [1, 2], [3], fun x_ => .pointer (some (pOf (x_.getD 0 undef))), false⟩, ⟨[], [1], [1, 2, 3], [], fun _ => .agg #[.int .i64 y29.Kind, .int .i64 y29.Number], false⟩, ⟨[], [], [0, 1, 2, 3, 4], [], fun _ => .bool ((decide (a1 = y29))), false⟩] [] hE rfl (by kernel_rfl) (by kernel_rfl) ⟨hb6.evo ev_ rfl, trivial⟩ ⟨?_, Ob.pv rfl rfl (fun _ => rfl) rfl (fun _ _ _ => trivial), Ob.pv rfl rfl (fun _ => rfl) rfl (fun _ _ _ => trivial), ?_, ?_, ?_, trivial⟩ ?_
  ·intro vs36 o_ w_ hE hb6
   have hb6 : Bk o_ 100 w_ pa2 [.int .i64 a1.Kind, .int .i64 a1.Number] := hb6
   refine OW.imp (OW.fr (L' := [(3, .pointer (some pa2))]) ⟨rfl, trivial⟩ (OW.loadK0 Part (.agg #[.int .i64 a1.Kind, .int .i64 a1.Number]) ty66 rfl hb6 rfl rfl)) ?_
   rintro _ _ ⟨rfl, rfl⟩
   exact ⟨_, Evo.refl _ _ _ _, rfl, trivial⟩
  ·intro vs36 o_ w_ hE 
   have hE := hE.1
   refine OW.imp (OW.fr (L' := [(12, p0), (13, .int .i64 x9)]) ⟨rfl, rfl, trivial⟩ (OW.indexAddr Try.underlying43 ty66 rfl (g0.baseM hE rfl) rfl q33)) ?_
   rintro _ _ ⟨rfl, ⟨pa30, hv_, hp31, he32⟩⟩
   subst hv_
   exact ⟨_, Evo.refl _ _ _ _, rfl, hp31, he32, trivial⟩
  ·intro vs36 o_ w_ hE hp31
   have hp31 : PtrAt (In o_ [40]) w_ (pOf (vs36 3)) y29 := hp31
   refine OW.imp (OW.fr (L' := [(14, .pointer (some (pOf (vs36 3))))]) ⟨rfl, trivial⟩ (OW.load ty66 rfl hp31)) ?_
   rintro v34 _ ⟨rfl, h35⟩
   obtain rfl := op66 h35
   exact ⟨_, Evo.refl _ _ _ _, rfl, trivial⟩
  ·intro vs36 o_ w_ hE 
   refine OW.imp (OW.fr (L' := [(11, .agg #[.int .i64 a1.Kind, .int .i64 a1.Number]), (15, .agg #[.int .i64 y29.Kind, .int .i64 y29.Number])]) ⟨rfl, rfl, trivial⟩ (OW.eql (x := a1) (y := y29) (S := fun _ => True) (S' := fun _ => True) eq66 rfl rfl (mk66 (x := a1)) (mk66 (x := y29)))) ?_
   rintro _ _ ⟨rfl, rfl⟩
   exact ⟨_, Evo.refl _ _ _ _, rfl, trivial⟩
  ·intro vs36 o38 w37 hE hb6 hp31 he32
   obtain ⟨hE, evT_⟩ := hE
   have hb6 : Bk o38 100 w37 pa2 [.int .i64 a1.Kind, .int .i64 a1.Number] := hb6
   have hp31 : PtrAt (In o38 [40]) w37 (pOf (vs36 3)) y29 := hp31
   have he32 : EPtr p0 2 x9 (pOf (vs36 3)) := he32
   refine hK28 _ _ ?_
   refine CW.cond (b := (decide (a1 = y29))) rfl (fun hc39 => ?_) (fun hc39 => ?_)
   ·have hx20 := iteT hc39 hx20
    refine CW.sr fun K40 hK40 => ?_
    refine WL.p (.int .i64 x9) rfl rfl ?_
    refine WL.p (.int .i64 x9) rfl rfl ?_
    refine WL.nx hK40 ?_
    have e_ := hr21 _ (Option.some.inj hx20).symm
    subst e_
    have hF := elimR hF
    obtain rfl := Option.some.inj hF
    exact CW.rets (vs := [.int .i64 x9]) Try.results80 ⟨rfl, trivial⟩ ⟨_, rfl, _, (hE.rn he0 100 [] rfl rfl), rfl⟩ (fun _ _ h => h)
   ·have hx20 := iteF hc39 hx20
    refine CW.skip ?_
    refine hK26 _ _ ?_
    refine CW.region ?_
    refine WL.p (.int .i64 ((W (x9 + 1)))) rfl rfl ?_
    refine WL.p (.int .i64 ((W (x9 + 1)))) rfl rfl ?_
    refine WL.nil ?_
    exact NK.sb (hk22 _ _ _ (Option.some.inj hx20).symm ⟨o38, (W (x9 + 1)), rfl, rfl, hE, hb6⟩) ⟨rfl, rfl, rfl, rfl, trivial⟩
 ·have hx20 := iteF hc25 hx20
  refine CW.exit ?_
  exact NK.sb (hJ14 w16 o17 (hr21 _ (Option.some.inj hx20).symm) hE) trivial

set_option maxHeartbeats 1000000 in
theorem slices_Contains_Part_Part_ok {a0 : (List Part)} {a1 : Part} {r : Bool} (hF : slices_Contains_Part_Part a0 a1 = some r) {w0 : World} {p0 : Value} {S0 : Nat → Prop} (g0 : Rv S0 w0 p0 a0) {p1 : Value} {S1 : Nat → Prop} (g1 : Rv S1 w0 p1 a1) :
    Calls Try.prog 58 #[p0, p1] w0 (Ret fun v w' => ∃ (oc : Cls), En w0 (entM w0 [] [S0, S1]) oc w' ∧ v = .bool r) := by
 obtain ⟨e0, he0⟩ : ∃ e0, e0 = entM w0 [] [S0, S1] := ⟨_, rfl⟩
 have hE := En.refl w0 e0
 have g0 := g0.argM he0 0 (K := [40]) rfl (nosep rfl) rfl
 have g1 := g1.argM he0 1 (K := [40, 41]) rfl (nosep rfl) rfl
 obtain rfl := op66 g1
 rw [slices_Contains_Part_Part] at hF
 refine enter (l := [p0, .agg #[.int .i64 a1.Kind, .int .i64 a1.Number]]) Try.func58 rfl Try.ntmps58 rfl ?_
 refine CW.sub (L' := [(0, p0), (1, .agg #[.int .i64 a1.Kind, .int .i64 a1.Number])]) ⟨rfl, rfl, trivial⟩ ?_
 refine CW.sr fun K1 hK1 => ?_
 refine WL.step (OW.boxK (o := e0) 100 [.int .i64 a1.Kind, .int .i64 a1.Number] rfl rfl) rfl ?_
 rintro _ w4 ⟨pa2, o3, rfl, ev5, hb6⟩
 have hE := hE.evo ev5 rfl rfl
 refine WL.p (.bool false) rfl rfl ?_
 refine WL.nx hK1 ?_
 refine CW.sr fun K7 hK7 => ?_
 refine WL.p p0 rfl rfl ?_
 refine WL.stepE (OW.loadK0 Part (.agg #[.int .i64 a1.Kind, .int .i64 a1.Number]) ty66 rfl hb6 rfl rfl) rfl ?_
 obtain ⟨y8, q9, hF⟩ := bindE hF
 refine WL.step (OW.call Try.call80 rfl (slices_Index_Part_Part_ok q9 (g0.baseM hE rfl) (mk66 (S := In o3 []) (x := a1)))) rfl ?_
 rintro _ w10 ⟨o14, hn_, rfl⟩
 obtain ⟨o11, ev12, hA13⟩ := adopt (o := o3) (ks := []) (Ks := [[40], []]) 101 ([]) [101] hn_ MbOk.nil rfl rfl rfl rfl
 have hE := hE.evo ev12 rfl rfl
 refine WL.p (.bool ((decide (y8 ≥ 0)))) rfl rfl ?_
 refine WL.p (.bool ((decide (y8 ≥ 0)))) rfl rfl ?_
 refine WL.nx hK7 ?_
 obtain rfl := Option.some.inj hF
 exact CW.rets (vs := [.bool ((decide (y8 ≥ 0)))]) Try.results58 ⟨rfl, trivial⟩ ⟨_, rfl, _, (hE.rn he0 100 [] rfl rfl), rfl⟩ (fun _ _ h => h)

set_option maxHeartbeats 1000000 in
theorem board_Broken_ok {a0 : Power} {a1 : Int} {a2 : Int} {r : Bool} (hF : board_Broken a0 a1 a2 = some r) {w0 : World} {p0 : Value} {S0 : Nat → Prop} (g0 : Rv S0 w0 p0 a0) :
    Calls Try.prog 29 #[p0, .int .i64 a1, .int .i64 a2] w0 (Ret fun v w' => ∃ (oc : Cls), En w0 (entM w0 [] [S0]) oc w' ∧ v = .bool r) := by
 obtain ⟨e0, he0⟩ : ∃ e0, e0 = entM w0 [] [S0] := ⟨_, rfl⟩
 have hE := En.refl w0 e0
 have g0 := g0.argM he0 0 (K := [40]) rfl (nosep rfl) rfl
 obtain ⟨u1, u2, u3, u4, rfl, h5, h6, h7, h8⟩ := op45 g0
 rw [board_Broken] at hF
 refine enter (l := [.agg #[u1, u2, u3, u4], .int .i64 a1, .int .i64 a2]) Try.func29 rfl Try.ntmps29 rfl ?_
 refine CW.sub (L' := [(0, .agg #[u1, u2, u3, u4]), (1, .int .i64 a1), (2, .int .i64 a2)]) ⟨rfl, rfl, rfl, trivial⟩ ?_
 refine CW.sr fun K9 hK9 => ?_
 refine WL.step (OW.boxK (o := e0) 100 [u1, u2, u3, u4] rfl rfl) rfl ?_
 rintro _ w12 ⟨pa10, o11, rfl, ev13, hb14⟩
 have hE := hE.evo ev13 rfl rfl
 refine WL.p (.bool false) rfl rfl ?_
 refine WL.nx hK9 ?_
 refine CW.sr fun K15 hK15 => ?_
 refine WL.stepE (OW.fldAddr (FldOk.at f45_3) rfl) rfl ?_
 refine WL.stepE (OW.loadK (off := 3) (List Part) (u4) ty43 rfl hb14 rfl rfl) rfl ?_
 refine WL.p (.int .i64 a1) rfl rfl ?_
 refine WL.p (.int .i64 a2) rfl rfl ?_
 refine WL.stepE (OW.buildK Part [(0, [.int .i64 a1]), (1, [.int .i64 a2])] [.int .i64 a1, .int .i64 a2] st66 ty66 rfl ⟨rfl, rfl, rfl, rfl, trivial⟩ rfl) rfl ?_
 obtain ⟨y16, q17, hF⟩ := bindE hF
 refine WL.step (OW.call Try.call58 rfl (slices_Contains_Part_Part_ok q17 (h8.baseM hE rfl) (mk66 (S := In o11 []) (x := (⟨a1, a2⟩ : Part))))) rfl ?_
 rintro _ w18 ⟨o22, hn_, rfl⟩
 obtain ⟨o19, ev20, hA21⟩ := adopt (o := o11) (ks := []) (Ks := [[40], []]) 101 ([]) [101] hn_ MbOk.nil rfl rfl rfl rfl
 have hE := hE.evo ev20 rfl rfl
 refine WL.p (.bool y16) rfl rfl ?_
 refine WL.nx hK15 ?_
 obtain rfl := Option.some.inj hF
 exact CW.rets (vs := [.bool y16]) Try.results29 ⟨rfl, trivial⟩ ⟨_, rfl, _, (hE.rn he0 100 [] rfl rfl), rfl⟩ (fun _ _ h => h)

set_option maxHeartbeats 1000000 in
theorem dynposlaw15_two_ok {r : Board} (hF : dynposlaw15_two  = some r) {w0 : World}  :
    Calls Try.prog 56 #[] w0 (Ret fun v w' => ∃ (oc : Cls) (x0_1 : Value) (x0_2 : Value) (x0_3 : Value), En w0 (entM w0 [] []) oc w' ∧ v = .agg #[.int .i64 r.Buses, x0_1, x0_2, x0_3, .int .i64 r.Phase, .int .i64 r.Frequency] ∧ Ow 48 oc 101 [] w' x0_1 r.Breakers ∧ Ow 83 oc 102 [] w' x0_2 r.Sources ∧ Ow 85 oc 103 [106] w' x0_3 r.Consumers) := by
 obtain ⟨e0, he0⟩ : ∃ e0, e0 = entM w0 [] [] := ⟨_, rfl⟩
 have hE := En.refl w0 e0
 rw [dynposlaw15_two] at hF
 refine enter (l := []) Try.func56 rfl Try.ntmps56 rfl ?_
 refine CW.sr fun K1 hK1 => ?_
 refine WL.step (OW.allocK (o := e0) Board 100 [.int .i64 0, .slice none 0 0, .slice none 0 0, .slice none 0 0, .int .i64 0, .int .i64 0] ty39 rfl) rfl ?_
 rintro _ w4 ⟨pa2, o3, rfl, ev5, hb6⟩
 have hE := hE.evo ev5 rfl rfl
 have h7 := Ow.nil (α := Breaker) 48 o3 101 [] w4
 have h8 := Ow.nil (α := Source) 83 o3 102 [] w4
 have h9 := Ow.nil (α := Consumer) 85 o3 103 [] w4
 refine WL.nx hK1 ?_
 refine CW.sr fun K10 hK10 => ?_
 refine WL.stepE (OW.buildK Breaker [(0, [.int .i64 1]), (1, [.int .i64 0]), (2, [.int .i64 1])] [.int .i64 1, .int .i64 0, .int .i64 1] st48 ty48 rfl ⟨rfl, rfl, rfl, rfl, rfl, rfl, trivial⟩ rfl) rfl ?_
 refine WL.stepE (OW.buildK Breaker [(0, [.int .i64 2]), (1, [.int .i64 0]), (2, [.int .i64 0])] [.int .i64 2, .int .i64 0, .int .i64 0] st48 ty48 rfl ⟨rfl, rfl, rfl, rfl, rfl, rfl, trivial⟩ rfl) rfl ?_
 refine WL.stepE (OW.buildK Breaker [(0, [.int .i64 2]), (1, [.int .i64 1]), (2, [.int .i64 1])] [.int .i64 2, .int .i64 1, .int .i64 1] st48 ty48 rfl ⟨rfl, rfl, rfl, rfl, rfl, rfl, trivial⟩ rfl) rfl ?_
 refine WL.stepE (OW.buildK Breaker [(0, [.int .i64 3]), (1, [.int .i64 0]), (2, [.int .i64 0])] [.int .i64 3, .int .i64 0, .int .i64 0] st48 ty48 rfl ⟨rfl, rfl, rfl, rfl, rfl, rfl, trivial⟩ rfl) rfl ?_
 refine WL.step (OW.buildSlice (o := o3) (k := 104) (K := []) (xs := ([(⟨1, 0, 1⟩ : Breaker), (⟨2, 0, 0⟩ : Breaker), (⟨2, 1, 1⟩ : Breaker), (⟨3, 0, 0⟩ : Breaker)] : List Breaker)) Try.underlying35 ty48 rfl ⟨(mk48 (x := (⟨1, 0, 1⟩ : Breaker))), (mk48 (x := (⟨2, 0, 0⟩ : Breaker))), (mk48 (x := (⟨2, 1, 1⟩ : Breaker))), (mk48 (x := (⟨3, 0, 0⟩ : Breaker))), trivial⟩ rfl rfl) rfl ?_
 rintro v11 w12 ⟨o13, ev14, h15⟩
 have hE := hE.evo ev14 rfl rfl
 have h7 := h7.evo ev14 rfl
 have h8 := h8.evo ev14 rfl
 have h9 := h9.evo ev14 rfl
 have hb6 := hb6.evo ev14 rfl
 refine WL.stepE (OW.buildK Source [(0, [.int .i64 100])] [.int .i64 100, .int .i64 0, .int .i64 0] st83 ty83 rfl ⟨rfl, rfl, trivial⟩ rfl) rfl ?_
 refine WL.stepE (OW.buildK Source [(0, [.int .i64 100])] [.int .i64 100, .int .i64 0, .int .i64 0] st83 ty83 rfl ⟨rfl, rfl, trivial⟩ rfl) rfl ?_
 refine WL.step (OW.buildSlice (o := o13) (k := 105) (K := []) (xs := ([(⟨100, 0, 0⟩ : Source), (⟨100, 0, 0⟩ : Source)] : List Source)) Try.underlying36 ty83 rfl ⟨(mk83 (x := (⟨100, 0, 0⟩ : Source))), (mk83 (x := (⟨100, 0, 0⟩ : Source))), trivial⟩ rfl rfl) rfl ?_
 rintro v16 w17 ⟨o18, ev19, h20⟩
 have hE := hE.evo ev19 rfl rfl
 have h15 := h15.evo ev19 rfl
 have h7 := h7.evo ev19 rfl
 have h8 := h8.evo ev19 rfl
 have h9 := h9.evo ev19 rfl
 have hb6 := hb6.evo ev19 rfl
 refine WL.stepE (OW.buildK Consumer [(0, [.int .i64 60]), (3, [.int .i64 (-1)])] [.int .i64 60, .int .i64 0, .int .i64 0, .int .i64 (-1), .slice none 0 0] st85 ty85 rfl ⟨rfl, rfl, rfl, rfl, trivial⟩ rfl) rfl ?_
 have h21 := Ow.nil (α := Int) 3 o18 106 [] w17
 refine WL.step (OW.buildSlice (o := o18) (k := 107) (K := [106]) (xs := ([(⟨60, 0, 0, (-1), ([] : List Int)⟩ : Consumer)] : List Consumer)) Try.underlying37 ty85 rfl ⟨(mk85 (x := (⟨60, 0, 0, (-1), ([] : List Int)⟩ : Consumer)) h21.rv), trivial⟩ rfl rfl) rfl ?_
 rintro v22 w23 ⟨o24, ev25, h26⟩
 have hE := hE.evo ev25 rfl rfl
 have h15 := h15.evo ev25 rfl
 have h20 := h20.evo ev25 rfl
 have h21 := h21.evo ev25 rfl
 have h7 := h7.evo ev25 rfl
 have h8 := h8.evo ev25 rfl
 have h9 := h9.evo ev25 rfl
 have hb6 := hb6.evo ev25 rfl
 refine WL.stepE (OW.buildK Board [(0, [.int .i64 2]), (4, [.int .i64 50]), (5, [.int .i64 10]), (1, [v11]), (2, [v16]), (3, [v22])] [.int .i64 2, v11, v16, v22, .int .i64 50, .int .i64 10] st39 ty39 rfl ⟨rfl, rfl, rfl, rfl, rfl, rfl, rfl, (cells_one (h15.one)), rfl, (cells_one (h20.one)), rfl, (cells_one (h26.one)), trivial⟩ rfl) rfl ?_
 refine WL.step0 (OW.storeK0 Board [.int .i64 2, v11, v16, v22, .int .i64 50, .int .i64 10] [.int .i64 2, v11, v16, v22, .int .i64 50, .int .i64 10] ty39 rfl rfl hb6 rfl ⟨rfl, (h15.one), (h20.one), (h26.one), rfl, rfl, trivial⟩ rfl rfl rfl) ?_
 rintro _ w27 ⟨ev28, hb6⟩
 have hE := hE.evo ev28 rfl rfl
 have h15 := h15.evo ev28 rfl
 have h20 := h20.evo ev28 rfl
 have h26 := h26.evo ev28 rfl
 refine WL.nx hK10 ?_
 obtain rfl := Option.some.inj hF
 exact CW.rets (vs := [.agg #[.int .i64 2, v11, v16, v22, .int .i64 50, .int .i64 10]]) Try.results56 ⟨ResIs.bk Board (.agg #[.int .i64 2, v11, v16, v22, .int .i64 50, .int .i64 10]) ty39 rfl hb6 rfl rfl, trivial⟩ ⟨_, rfl, _, (v11), (v16), (v22), (hE.rn he0 106 [(104, 101), (105, 102), (107, 103)] rfl rfl), rfl, (h15.rn (c' := 101) (K' := []) rfl rfl), (h20.rn (c' := 102) (K' := []) rfl rfl), (h26.rn (c' := 103) (K' := [106]) rfl rfl)⟩ (fun _ _ h => h)

set_option maxHeartbeats 1000000 in
theorem board_groups_ok {a0 : Board} {a1 : Power} {r : (List Int)} (hF : board_groups a0 a1 = some r) {w0 : World} {p0 : Value} {S0 : Nat → Prop} (g0 : Rv S0 w0 p0 a0) {p1 : Value} {S1 : Nat → Prop} (g1 : Rv S1 w0 p1 a1) :
    Calls Try.prog 51 #[p0, p1] w0 (Ret fun v w' => ∃ (oc : Cls), En w0 (entM w0 [] [S0, S1]) oc w' ∧ Ow 3 oc 100 [] w' v r) := by
 obtain ⟨e0, he0⟩ : ∃ e0, e0 = entM w0 [] [S0, S1] := ⟨_, rfl⟩
 have hE := En.refl w0 e0
 have g0 := g0.argM he0 0 (K := [40]) rfl (nosep rfl) rfl
 have g1 := g1.argM he0 1 (K := [40, 41]) rfl (nosep rfl) rfl
 obtain ⟨u1, u2, u3, rfl, h4, h5, h6⟩ := op39 g0
 obtain ⟨u7, u8, u9, u10, rfl, h11, h12, h13, h14⟩ := op45 g1
 rw [board_groups] at hF
 refine enter (l := [.agg #[.int .i64 a0.Buses, u1, u2, u3, .int .i64 a0.Phase, .int .i64 a0.Frequency], .agg #[u7, u8, u9, u10]]) Try.func51 rfl Try.ntmps51 rfl ?_
 refine CW.sub (L' := [(0, .agg #[.int .i64 a0.Buses, u1, u2, u3, .int .i64 a0.Phase, .int .i64 a0.Frequency]), (1, .agg #[u7, u8, u9, u10])]) ⟨rfl, rfl, trivial⟩ ?_
 refine CW.sr fun K15 hK15 => ?_
 refine WL.step (OW.boxK (o := e0) 100 [.int .i64 a0.Buses, u1, u2, u3, .int .i64 a0.Phase, .int .i64 a0.Frequency] rfl rfl) rfl ?_
 rintro _ w18 ⟨pa16, o17, rfl, ev19, hb20⟩
 have hE := hE.evo ev19 rfl rfl
 refine WL.step (OW.boxK (o := o17) 101 [u7, u8, u9, u10] rfl rfl) rfl ?_
 rintro _ w23 ⟨pa21, o22, rfl, ev24, hb25⟩
 have hE := hE.evo ev24 rfl rfl
 have hb20 := hb20.evo ev24 rfl
 have h26 := Ow.nil (α := Int) 3 o22 102 [] w23
 refine WL.p (.slice none 0 0) rfl rfl ?_
 refine WL.nx hK15 ?_
 refine CW.sr fun K27 hK27 => ?_
 refine WL.stepE (OW.fldAddr (FldOk.at f39_0) rfl) rfl ?_
 refine WL.stepE (OW.loadK (off := 0) Int (.int .i64 a0.Buses) ty3 rfl hb20 rfl rfl) rfl ?_
 obtain ⟨y28, q29, hF⟩ := bindE hF
 refine WL.step (OW.make (o := o22) (k := 103) Try.underlying22 ty3 rfl rfl q29) rfl ?_
 rintro v30 w31 ⟨o32, ev33, h34⟩
 have hE := hE.evo ev33 rfl rfl
 have hb20 := hb20.evo ev33 rfl
 have hb25 := hb25.evo ev33 rfl
 refine WL.p v30 rfl rfl ?_
 refine WL.nx hK27 ?_
 refine CW.seq fun K35 hK35 => ?_
 refine CW.sr fun K36 hK36 => ?_
 refine WL.p v30 rfl rfl ?_
 refine WL.stepE (OW.len Try.underlying22 rfl h34.rv) rfl ?_
 refine WL.p (.int .i64 0) rfl rfl ?_
 refine WL.nx hK36 ?_
 refine CW.block ?_
 obtain ⟨r45, hl44, hF⟩ := bindE hF
 have hJ48 : ∀ (x41 : (List Int)) (w46 : World) (o47 : Cls) (v42 : Value), x41 = r45 → En w0 e0 o47 w46 → Ow 3 o47 103 [] w46 v42 x41 → Bk o47 100 w46 pa16 [.int .i64 a0.Buses, u1, u2, u3, .int .i64 a0.Phase, .int .i64 a0.Frequency] → Bk o47 101 w46 pa21 [u7, u8, u9, u10] → NK 69 K35 [(2, .pointer (some pa16)), (3, .pointer (some pa21)), (5, v42)] w46 := by
  intro x41 w46 o47 v42 e_ hE h43 hb20 hb25
  subst e_
  try dsimp only at hF
  refine hK35 _ _ ?_
  refine CW.seq fun K49 hK49 => ?_
  refine CW.sr fun K50 hK50 => ?_
  refine WL.p v42 rfl rfl ?_
  refine WL.stepE (OW.len Try.underlying22 rfl h43.rv) rfl ?_
  refine WL.p (.int .i64 0) rfl rfl ?_
  refine WL.nx hK50 ?_
  refine CW.block ?_
  obtain ⟨r59, hl58, hF⟩ := bindE hF
  have hJ62 : ∀ (x55 : (List Int)) (w60 : World) (o61 : Cls) (v56 : Value), x55 = r59 → En w0 e0 o61 w60 → Ow 3 o61 103 [] w60 v56 x55 → NK 69 K49 [(5, v56)] w60 := by
   intro x55 w60 o61 v56 e_ hE h57
   subst e_
   try dsimp only at hF
   refine hK49 _ _ ?_
   refine CW.sr fun K63 hK63 => ?_
   refine WL.p v56 rfl rfl ?_
   refine WL.p v56 rfl rfl ?_
   refine WL.nx hK63 ?_
   obtain rfl := Option.some.inj hF
   exact CW.rets (vs := [v56]) Try.results51 ⟨rfl, trivial⟩ ⟨_, rfl, _, (hE.rn he0 101 [(103, 100)] rfl rfl), (h57.rn (c' := 100) (K' := []) rfl rfl)⟩ (fun _ _ h => h)
  refine CW.sub (L' := [(2, .pointer (some pa16)), (3, .pointer (some pa21)), (5, v42), (24, .int .i64 (len x41)), (25, .int .i64 0)]) ⟨rfl, rfl, rfl, rfl, rfl, trivial⟩ ?_
  refine CW.loop (board_groups_L2 a0 a1 x41) (fun s_ L_ w64 => ∃ (o65 : Cls) (x51 : (List Int)) (x54 : Int) (v52 : Value), (x51, x54) = s_ ∧ L_ = [(2, .pointer (some pa16)), (3, .pointer (some pa21)), (5, v52), (24, .int .i64 (len x41)), (25, .int .i64 x54)] ∧ En w0 e0 o65 w64 ∧ Ow 3 o65 103 [] w64 v52 x51 ∧ Bk o65 100 w64 pa16 [.int .i64 a0.Buses, u1, u2, u3, .int .i64 a0.Phase, .int .i64 a0.Frequency] ∧ Bk o65 101 w64 pa21 [u7, u8, u9, u10]) hl58 ?_ ?_
  ·exact ⟨o47, x41, 0, v42, rfl, rfl, hE, h43, hb20, hb25⟩
  intro K66 s_ L_ w64 hi_ x67 hx68 hr69 hk70
  obtain ⟨o65, x51, x54, v52, rfl, rfl, hE, h53, hb20, hb25⟩ := hi_
  rw [board_groups_L2] at hx68
  refine CW.sr fun K71 hK71 => ?_
  refine WL.p (.bool ((decide (x54 < (len x41))))) rfl rfl ?_
  refine WL.nx hK71 ?_
  refine CW.seq fun K72 hK72 => ?_
  refine CW.cond (b := (decide (x54 < (len x41)))) rfl (fun hc73 => ?_) (fun hc73 => ?_)
  ·have hx68 := iteT hc73 hx68
   refine CW.skip ?_
   refine hK72 _ _ ?_
   refine CW.seq fun K74 hK74 => ?_
   refine CW.block ?_
   refine CW.sr fun K75 hK75 => ?_
   refine WL.stepE (OW.fldAddr (FldOk.at f39_1) rfl) rfl ?_
   refine WL.stepE (OW.loadK (off := 1) (List Breaker) (u1) ty35 rfl hb20 rfl rfl) rfl ?_
   refine WL.stepE (OW.len Try.underlying35 rfl (h4.baseM hE rfl)) rfl ?_
   refine WL.p (.int .i64 0) rfl rfl ?_
   refine WL.nx hK75 ?_
   refine CW.block ?_
   obtain ⟨r84, hl83, hx68⟩ := bindE hx68
   have hJ87 : ∀ (x80 : (List Int)) (w85 : World) (o86 : Cls) (v81 : Value), x80 = r84 → En w0 e0 o86 w85 → Ow 3 o86 103 [] w85 v81 x80 → Bk o86 100 w85 pa16 [.int .i64 a0.Buses, u1, u2, u3, .int .i64 a0.Phase, .int .i64 a0.Frequency] → Bk o86 101 w85 pa21 [u7, u8, u9, u10] → NK 69 K74 [(2, .pointer (some pa16)), (3, .pointer (some pa21)), (5, v81), (24, .int .i64 (len x41)), (25, .int .i64 x54)] w85 := by
    intro x80 w85 o86 v81 e_ hE h82 hb20 hb25
    subst e_
    try dsimp only at hx68
    refine hK74 _ _ ?_
    refine CW.region ?_
    refine WL.p (.int .i64 ((W (x54 + 1)))) rfl rfl ?_
    refine WL.p (.int .i64 ((W (x54 + 1)))) rfl rfl ?_
    refine WL.nil ?_
    exact NK.sb (hk70 _ _ _ (Option.some.inj hx68).symm ⟨o86, x80, (W (x54 + 1)), v81, rfl, rfl, hE, h82, hb20, hb25⟩) ⟨rfl, rfl, rfl, rfl, rfl, trivial⟩
   refine CW.sub (L' := [(2, .pointer (some pa16)), (3, .pointer (some pa21)), (5, v52), (24, .int .i64 (len x41)), (25, .int .i64 x54), (28, u1), (29, .int .i64 (len a0.Breakers)), (30, .int .i64 0)]) ⟨rfl, rfl, rfl, rfl, rfl, rfl, rfl, rfl, trivial⟩ ?_
   refine CW.loop (board_groups_L3 a0 a1) (fun s_ L_ w88 => ∃ (o89 : Cls) (x76 : (List Int)) (x79 : Int) (v77 : Value), (x76, x79) = s_ ∧ L_ = [(2, .pointer (some pa16)), (3, .pointer (some pa21)), (5, v77), (24, .int .i64 (len x41)), (25, .int .i64 x54), (28, u1), (29, .int .i64 (len a0.Breakers)), (30, .int .i64 x79)] ∧ En w0 e0 o89 w88 ∧ Ow 3 o89 103 [] w88 v77 x76 ∧ Bk o89 100 w88 pa16 [.int .i64 a0.Buses, u1, u2, u3, .int .i64 a0.Phase, .int .i64 a0.Frequency] ∧ Bk o89 101 w88 pa21 [u7, u8, u9, u10]) hl83 ?_ ?_
   ·exact ⟨o65, x51, 0, v52, rfl, rfl, hE, h53, hb20, hb25⟩
   intro K90 s_ L_ w88 hi_ x91 hx92 hr93 hk94
   obtain ⟨o89, x76, x79, v77, rfl, rfl, hE, h78, hb20, hb25⟩ := hi_
   rw [board_groups_L3] at hx92
   refine CW.sr fun K95 hK95 => ?_
   refine WL.p (.bool ((decide (x79 < (len a0.Breakers))))) rfl rfl ?_
   refine WL.nx hK95 ?_
   refine CW.seq fun K96 hK96 => ?_
   refine CW.cond (b := (decide (x79 < (len a0.Breakers)))) rfl (fun hc97 => ?_) (fun hc97 => ?_)
   ·have hx92 := iteT hc97 hx92
    refine CW.skip ?_
    refine hK96 _ _ ?_
    refine CW.seq fun K98 hK98 => ?_
    refine CW.block ?_
    refine CW.sr fun K99 hK99 => ?_
    refine WL.p (.int .i64 x79) rfl rfl ?_
    obtain ⟨y100, q104, hx92⟩ := bindE hx92
    refine WL.stepP (OW.indexAddr Try.underlying35 ty48 rfl (h4.baseM hE rfl) rfl q104) rfl fun _ ⟨pa101, hv_, hp102, he103⟩ => ?_
    subst hv_
    refine WL.stepP (OW.load ty48 rfl hp102) rfl fun v105 h106 => ?_
    obtain rfl := op48 h106
    refine WL.step (OW.allocK (o := o89) Breaker 104 [.int .i64 0, .int .i64 0, .int .i64 0] ty48 rfl) rfl ?_
    rintro _ w109 ⟨pa107, o108, rfl, ev110, hb111⟩
    have hE := hE.evo ev110 rfl rfl
    have h78 := h78.evo ev110 rfl
    have hb20 := hb20.evo ev110 rfl
    have hb25 := hb25.evo ev110 rfl
    refine WL.p (.int .i64 x79) rfl rfl ?_
    refine WL.step0 (OW.storeK0 Breaker [.int .i64 y100.Kind, .int .i64 y100.A, .int .i64 y100.B] [.int .i64 y100.Kind, .int .i64 y100.A, .int .i64 y100.B] ty48 rfl rfl hb111 rfl ⟨rfl, rfl, rfl, trivial⟩ rfl rfl rfl) ?_
    rintro _ w112 ⟨ev113, hb111⟩
    have hE := hE.evo ev113 rfl rfl
    have h78 := h78.evo ev113 rfl
    have hb20 := hb20.evo ev113 rfl
    have hb25 := hb25.evo ev113 rfl
    refine WL.nx hK99 ?_
    refine CW.sr fun K114 hK114 => ?_
    refine WL.stepE (OW.fldAddr (FldOk.at f48_0) rfl) rfl ?_
    refine WL.stepE (OW.loadK (off := 0) Int (.int .i64 y100.Kind) ty3 rfl hb111 rfl rfl) rfl ?_
    refine WL.p (.bool (((y100.Kind == 1)))) rfl rfl ?_
    refine WL.p (.bool (((y100.Kind == 1)))) rfl rfl ?_
    obtain ⟨x115, q116, hx92⟩ := bindE hx92
    have hJ119 : ∀ (w117 : World) (o118 : Cls), En w0 e0 o118 w117 → Ow 3 o118 103 [] w117 v77 x76 → Bk o118 104 w117 pa107 [.int .i64 y100.Kind, .int .i64 y100.A, .int .i64 y100.B] → Bk o118 100 w117 pa16 [.int .i64 a0.Buses, u1, u2, u3, .int .i64 a0.Phase, .int .i64 a0.Frequency] → Bk o118 101 w117 pa21 [u7, u8, u9, u10] → NK 69 K114 [(2, .pointer (some pa16)), (3, .pointer (some pa21)), (5, v77), (8, .pointer (some pa107)), (24, .int .i64 (len x41)), (25, .int .i64 x54), (28, u1), (29, .int .i64 (len a0.Breakers)), (30, .int .i64 x79), (44, .bool x115)] w117 := by
     intro w117 o118  hE h78 hb111 hb20 hb25
     refine hK114 _ _ ?_
     obtain ⟨x120, q123, hx92⟩ := bindE hx92
     have hJ126 : ∀ (w124 : World) (o125 : Cls) (v121 : Value), En w0 e0 o125 w124 → Ow 3 o125 103 [] w124 v121 x120 → Bk o125 100 w124 pa16 [.int .i64 a0.Buses, u1, u2, u3, .int .i64 a0.Phase, .int .i64 a0.Frequency] → Bk o125 101 w124 pa21 [u7, u8, u9, u10] → NK 69 K98 [(2, .pointer (some pa16)), (3, .pointer (some pa21)), (5, v121), (24, .int .i64 (len x41)), (25, .int .i64 x54), (28, u1), (29, .int .i64 (len a0.Breakers)), (30, .int .i64 x79)] w124 := by
      intro w124 o125 v121 hE h122 hb20 hb25
      refine hK98 _ _ ?_
      refine CW.region ?_
      refine WL.p (.int .i64 ((W (x79 + 1)))) rfl rfl ?_
      refine WL.p (.int .i64 ((W (x79 + 1)))) rfl rfl ?_
      refine WL.nil ?_
      exact NK.sb (hk94 _ _ _ (Option.some.inj hx92).symm ⟨o125, x120, (W (x79 + 1)), v121, rfl, rfl, hE, h122, hb20, hb25⟩) ⟨rfl, rfl, rfl, rfl, rfl, rfl, rfl, rfl, trivial⟩
     refine CW.cond (b := x115) rfl (fun hc127 => ?_) (fun hc127 => ?_)
     ·have q123 := iteT hc127 q123
      refine CW.seq fun K128 hK128 => ?_
      obtain ⟨y129, q133, q123⟩ := bindE q123
      obtain ⟨y134, q138, q123⟩ := bindE q123
      have ev_ := Evo.drew o118 w117
      refine CW.anyS (N := []) hmix [sOw none none [] 3 103 [] (fun _ => v77) x76, sBk none none [] 104 (fun _ => pa107) (fun _ => [.int .i64 y100.Kind, .int .i64 y100.A, .int .i64 y100.B]), sPo (some 3) none [3] 103 [] (fun x_ => (pOf (x_.getD 0 undef))) y129, sEp (some 3) none [3] (fun _ => v77) 1 y100.A (fun x_ => (pOf (x_.getD 0 undef))), sPo (some 8) none [8] 103 [] (fun x_ => (pOf (x_.getD 0 undef))) y134, sEp (some 8) none [8] (fun _ => v77) 1 y100.B (fun x_ => (pOf (x_.getD 0 undef)))] [⟨[], [], [], [], fun _ => v77, false⟩, ⟨[], [], [], [], fun _ => .pointer (some (pa107.add 1)), false⟩, ⟨[], [1], [1], [], fun _ => .int .i64 y100.A, false⟩, ⟨[], [0], [0, 1, 2], [3], fun x_ => .pointer (some (pOf (x_.getD 0 undef))), false⟩, ⟨[], [2], [0, 1, 2, 3], [], fun _ => .int .i64 y129, false⟩, ⟨[], [], [], [], fun _ => v77, false⟩, ⟨[], [], [], [], fun _ => .pointer (some (pa107.add 2)), false⟩, ⟨[], [1], [6], [], fun _ => .int .i64 y100.B, false⟩, ⟨[], [0], [5, 6, 7], [8], fun x_ => .pointer (some (pOf (x_.getD 0 undef))), false⟩, ⟨[], [4], [5, 6, 7, 8], [], fun _ => .int .i64 y134, false⟩, ⟨[], [], [0, 1, 2, 3, 4, 5, 6, 7, 8, 9], [], fun _ => .int .i64 (if y134 < y129 then y134 else y129), false⟩, ⟨[], [], [0, 1, 2, 3, 4, 5, 6, 7, 8, 9, 10], [], fun _ => .int .i64 (if y134 < y129 then y134 else y129), false⟩] [] hE rfl (by kernel_rfl) (by kernel_rfl) ⟨h78.evo ev_ rfl, hb111.evo ev_ rfl, trivial⟩ ⟨Ob.pv rfl rfl (fun _ => rfl) rfl (fun _ _ _ => trivial), ?_, ?_, ?_, ?_, Ob.pv rfl rfl (fun _ => rfl) rfl (fun _ _ _ => trivial), ?_, ?_, ?_, ?_, ?_, Ob.pv rfl rfl (fun _ => rfl) rfl (fun _ _ _ => trivial), trivial⟩ ?_
      ·intro vs139 o_ w_ hE 
       refine OW.imp (OW.fr (L' := [(8, .pointer (some pa107))]) ⟨rfl, trivial⟩ (OW.fldAddr (FldOk.at f48_1) rfl)) ?_
       rintro _ _ ⟨rfl, rfl⟩
       exact ⟨_, Evo.refl _ _ _ _, rfl, trivial⟩
      ·intro vs139 o_ w_ hE hb111
       have hb111 : Bk o_ 104 w_ pa107 [.int .i64 y100.Kind, .int .i64 y100.A, .int .i64 y100.B] := hb111
       refine OW.imp (OW.fr (L' := [(46, .pointer (some (pa107.add 1)))]) ⟨rfl, trivial⟩ (OW.loadK (off := 1) Int (.int .i64 y100.A) ty3 rfl hb111 rfl rfl)) ?_
       rintro _ _ ⟨rfl, rfl⟩
       exact ⟨_, Evo.refl _ _ _ _, rfl, trivial⟩
      ·intro vs139 o_ w_ hE h78
       have h78 : Ow 3 o_ 103 [] w_ v77 x76 := h78
       refine OW.imp (OW.fr (L' := [(45, v77), (47, .int .i64 y100.A)]) ⟨rfl, rfl, trivial⟩ (OW.indexAddrO Try.underlying22 ty3 rfl h78 rfl q133)) ?_
       rintro _ _ ⟨rfl, ⟨pa130, hv_, hp131, he132⟩⟩
       subst hv_
       exact ⟨_, Evo.refl _ _ _ _, rfl, hp131, he132, trivial⟩
      ·intro vs139 o_ w_ hE hp131
       have hp131 : PtrO o_ 103 [] w_ (pOf (vs139 3)) y129 := hp131
       refine OW.imp (OW.fr (L' := [(48, .pointer (some (pOf (vs139 3))))]) ⟨rfl, trivial⟩ (OW.loadI ty3 rfl hp131.at)) ?_
       rintro _ _ ⟨rfl, rfl⟩
       exact ⟨_, Evo.refl _ _ _ _, rfl, trivial⟩
      ·intro vs139 o_ w_ hE 
       refine OW.imp (OW.fr (L' := [(8, .pointer (some pa107))]) ⟨rfl, trivial⟩ (OW.fldAddr (FldOk.at f48_2) rfl)) ?_
       rintro _ _ ⟨rfl, rfl⟩
       exact ⟨_, Evo.refl _ _ _ _, rfl, trivial⟩
      ·intro vs139 o_ w_ hE hb111
       have hb111 : Bk o_ 104 w_ pa107 [.int .i64 y100.Kind, .int .i64 y100.A, .int .i64 y100.B] := hb111
       refine OW.imp (OW.fr (L' := [(51, .pointer (some (pa107.add 2)))]) ⟨rfl, trivial⟩ (OW.loadK (off := 2) Int (.int .i64 y100.B) ty3 rfl hb111 rfl rfl)) ?_
       rintro _ _ ⟨rfl, rfl⟩
       exact ⟨_, Evo.refl _ _ _ _, rfl, trivial⟩
      ·intro vs139 o_ w_ hE h78
       have h78 : Ow 3 o_ 103 [] w_ v77 x76 := h78
       refine OW.imp (OW.fr (L' := [(50, v77), (52, .int .i64 y100.B)]) ⟨rfl, rfl, trivial⟩ (OW.indexAddrO Try.underlying22 ty3 rfl h78 rfl q138)) ?_
       rintro _ _ ⟨rfl, ⟨pa135, hv_, hp136, he137⟩⟩
       subst hv_
       exact ⟨_, Evo.refl _ _ _ _, rfl, hp136, he137, trivial⟩
      ·intro vs139 o_ w_ hE hp136
       have hp136 : PtrO o_ 103 [] w_ (pOf (vs139 8)) y134 := hp136
       refine OW.imp (OW.fr (L' := [(53, .pointer (some (pOf (vs139 8))))]) ⟨rfl, trivial⟩ (OW.loadI ty3 rfl hp136.at)) ?_
       rintro _ _ ⟨rfl, rfl⟩
       exact ⟨_, Evo.refl _ _ _ _, rfl, trivial⟩
      ·intro vs139 o_ w_ hE 
       refine OW.imp (OW.fr (L' := [(49, .int .i64 y129), (54, .int .i64 y134)]) ⟨rfl, rfl, trivial⟩ (OW.min rfl rfl)) ?_
       rintro _ _ ⟨rfl, rfl⟩
       exact ⟨_, Evo.refl _ _ _ _, rfl, trivial⟩
      ·intro vs139 o141 w140 hE h78 hb111 hp131 he132 hp136 he137
       obtain ⟨hE, evT_⟩ := hE
       have h78 : Ow 3 o141 103 [] w140 v77 x76 := h78
       have hb111 : Bk o141 104 w140 pa107 [.int .i64 y100.Kind, .int .i64 y100.A, .int .i64 y100.B] := hb111
       have hp131 : PtrO o141 103 [] w140 (pOf (vs139 3)) y129 := hp131
       have he132 : EPtr v77 1 y100.A (pOf (vs139 3)) := he132
       have hp136 : PtrO o141 103 [] w140 (pOf (vs139 8)) y134 := hp136
       have he137 : EPtr v77 1 y100.B (pOf (vs139 8)) := he137
       have hb20 := hb20.evo evT_ rfl
       have hb25 := hb25.evo evT_ rfl
       refine hK128 _ _ ?_
       have hd146 := Rv.hd h78.rv
       obtain ⟨y147, q150, q123⟩ := bindE q123
       have hd156 := Rv.hd h78.rv
       obtain ⟨y157, q160, q123⟩ := bindE q123
       have ev_ := Evo.drew o141 w140
       refine CW.anyS (N := [103]) hmix [sOw none (some 9) [] 3 103 [] (fun _ => v77) x76, sBk none none [] 104 (fun _ => pa107) (fun _ => [.int .i64 y100.Kind, .int .i64 y100.A, .int .i64 y100.B]), sEp (some 8) none [8] (fun _ => v77) 1 y100.A (fun x_ => (pOf (x_.getD 0 undef))), sOw (some 9) (some 11) [] 3 103 [] (fun _ => v77) y147, sEp (some 10) none [10] (fun _ => v77) 1 y100.B (fun x_ => (pOf (x_.getD 0 undef))), sOw (some 11) none [] 3 103 [] (fun _ => v77) y157] [⟨[], [], [], [], fun _ => v77, false⟩, ⟨[], [], [], [], fun _ => .pointer (some (pa107.add 1)), false⟩, ⟨[], [1], [1], [], fun _ => .int .i64 y100.A, false⟩, ⟨[], [], [], [], fun _ => v77, false⟩, ⟨[], [], [], [], fun _ => .pointer (some (pa107.add 2)), false⟩, ⟨[], [1], [4], [], fun _ => .int .i64 y100.B, false⟩, ⟨[], [], [], [], fun _ => .int .i64 (if y134 < y129 then y134 else y129), false⟩, ⟨[], [], [], [], fun _ => .int .i64 (if y134 < y129 then y134 else y129), false⟩, ⟨[], [], [0, 1, 2, 6], [8], fun x_ => .pointer (some (pOf (x_.getD 0 undef))), false⟩, ⟨[103], [0, 2], [0, 1, 2, 6, 8], [], fun _ => undef, false⟩, ⟨[], [], [0, 1, 2, 3, 4, 5, 6, 7, 8, 9], [10], fun x_ => .pointer (some (pOf (x_.getD 0 undef))), false⟩, ⟨[103], [3, 4], [0, 1, 2, 3, 4, 5, 6, 7, 8, 9, 10], [], fun _ => undef, false⟩] [103] hE rfl (by kernel_rfl) (by kernel_rfl) ⟨h78.evo ev_ rfl, hb111.evo ev_ rfl, trivial⟩ ⟨Ob.pv rfl rfl (fun _ => rfl) rfl (fun _ _ _ => trivial), ?_, ?_, Ob.pv rfl rfl (fun _ => rfl) rfl (fun _ _ _ => trivial), ?_, ?_, Ob.pv rfl rfl (fun _ => rfl) rfl (fun _ _ _ => trivial), Ob.pv rfl rfl (fun _ => rfl) rfl (fun _ _ _ => trivial), ?_, ?_, ?_, ?_, trivial⟩ ?_
       ·intro vs162 o_ w_ hE 
        refine OW.imp (OW.fr (L' := [(8, .pointer (some pa107))]) ⟨rfl, trivial⟩ (OW.fldAddr (FldOk.at f48_1) rfl)) ?_
        rintro _ _ ⟨rfl, rfl⟩
        exact ⟨_, Evo.refl _ _ _ _, rfl, trivial⟩
       ·intro vs162 o_ w_ hE hb111
        have hb111 : Bk o_ 104 w_ pa107 [.int .i64 y100.Kind, .int .i64 y100.A, .int .i64 y100.B] := hb111
        refine OW.imp (OW.fr (L' := [(57, .pointer (some (pa107.add 1)))]) ⟨rfl, trivial⟩ (OW.loadK (off := 1) Int (.int .i64 y100.A) ty3 rfl hb111 rfl rfl)) ?_
        rintro _ _ ⟨rfl, rfl⟩
        exact ⟨_, Evo.refl _ _ _ _, rfl, trivial⟩
       ·intro vs162 o_ w_ hE 
        refine OW.imp (OW.fr (L' := [(8, .pointer (some pa107))]) ⟨rfl, trivial⟩ (OW.fldAddr (FldOk.at f48_2) rfl)) ?_
        rintro _ _ ⟨rfl, rfl⟩
        exact ⟨_, Evo.refl _ _ _ _, rfl, trivial⟩
       ·intro vs162 o_ w_ hE hb111
        have hb111 : Bk o_ 104 w_ pa107 [.int .i64 y100.Kind, .int .i64 y100.A, .int .i64 y100.B] := hb111
        refine OW.imp (OW.fr (L' := [(60, .pointer (some (pa107.add 2)))]) ⟨rfl, trivial⟩ (OW.loadK (off := 2) Int (.int .i64 y100.B) ty3 rfl hb111 rfl rfl)) ?_
        rintro _ _ ⟨rfl, rfl⟩
        exact ⟨_, Evo.refl _ _ _ _, rfl, trivial⟩
       ·intro vs162 o_ w_ hE 
        refine OW.imp (OW.fr (L' := [(56, v77), (58, .int .i64 y100.A)]) ⟨rfl, rfl, trivial⟩ (OW.indexAddrH Try.underlying22 ty3 rfl hd146 rfl q133)) ?_
        rintro _ _ ⟨rfl, ⟨pa143, hv_, he145⟩⟩
        subst hv_
        exact ⟨_, Evo.refl _ _ _ _, rfl, he145, trivial⟩
       ·intro vs162 o_ w_ hE h78 he145
        have h78 : Ow 3 o_ 103 [] w_ v77 x76 := h78
        have he145 : EPtr v77 1 y100.A (pOf (vs162 8)) := he145
        refine OW.imp (OW.fr (L' := [(62, .int .i64 (if y134 < y129 then y134 else y129)), (64, .pointer (some (pOf (vs162 8))))]) ⟨rfl, rfl, trivial⟩ (OW.storeElem ty3 rfl he145 h78 rfl (rv_int.2 rfl) q150 rfl)) ?_
        rintro _ w148 ⟨ev149, h151⟩
        exact ⟨o_, ev149.sub rfl rfl, trivial, h151, trivial⟩
       ·intro vs162 o_ w_ hE 
        refine OW.imp (OW.fr (L' := [(59, v77), (61, .int .i64 y100.B)]) ⟨rfl, rfl, trivial⟩ (OW.indexAddrH Try.underlying22 ty3 rfl hd156 rfl q138)) ?_
        rintro _ _ ⟨rfl, ⟨pa153, hv_, he155⟩⟩
        subst hv_
        exact ⟨_, Evo.refl _ _ _ _, rfl, he155, trivial⟩
       ·intro vs162 o_ w_ hE h151 he155
        have h151 : Ow 3 o_ 103 [] w_ v77 y147 := h151
        have he155 : EPtr v77 1 y100.B (pOf (vs162 10)) := he155
        refine OW.imp (OW.fr (L' := [(63, .int .i64 (if y134 < y129 then y134 else y129)), (65, .pointer (some (pOf (vs162 10))))]) ⟨rfl, rfl, trivial⟩ (OW.storeElem ty3 rfl he155 h151 rfl (rv_int.2 rfl) q160 rfl)) ?_
        rintro _ w158 ⟨ev159, h161⟩
        exact ⟨o_, ev159.sub rfl rfl, trivial, h161, trivial⟩
       ·intro vs162 o164 w163 hE hb111 he145 he155 h161
        obtain ⟨hE, evT_⟩ := hE
        have hb111 : Bk o164 104 w163 pa107 [.int .i64 y100.Kind, .int .i64 y100.A, .int .i64 y100.B] := hb111
        have he145 : EPtr v77 1 y100.A (pOf (vs162 8)) := he145
        have he155 : EPtr v77 1 y100.B (pOf (vs162 10)) := he155
        have h161 : Ow 3 o164 103 [] w163 v77 y157 := h161
        have hb20 := hb20.evo evT_ rfl
        have hb25 := hb25.evo evT_ rfl
        have e165 := Option.some.inj q123
        subst e165
        exact NK.sb (hJ126 w163 o164 v77 hE h161 hb20 hb25) ⟨rfl, rfl, rfl, rfl, rfl, rfl, rfl, rfl, trivial⟩
     ·have q123 := iteF hc127 q123
      refine CW.skip ?_
      have e166 := Option.some.inj q123
      subst e166
      exact NK.sb (hJ126 w117 o118 v77 hE h78 hb20 hb25) ⟨rfl, rfl, rfl, rfl, rfl, rfl, rfl, rfl, trivial⟩
    rcases Bool.eq_false_or_eq_true (((y100.Kind == 1))) with hc167 | hc167
    ·have q116 := iteT hc167 q116
     refine WL.stepGE rfl rfl rfl hc167 (OW.fldAddr (FldOk.at f45_0) rfl) rfl ?_
     refine WL.stepGE rfl rfl rfl hc167 (OW.loadK (off := 0) (List Bool) (u7) ty41 rfl hb25 rfl rfl) rfl ?_
     refine WL.stepGE rfl rfl rfl hc167 (OW.pv (v := (.int .i64 x79)) rfl) rfl ?_
     obtain ⟨y168, q172, q116⟩ := bindE q116
     refine WL.stepGP rfl rfl rfl hc167 (OW.indexAddr Try.underlying41 ty4 rfl (h11.baseM hE rfl) rfl q172) rfl fun _ ⟨pa169, hv_, hp170, he171⟩ => ?_
     subst hv_
     refine WL.stepGE rfl rfl rfl hc167 (OW.loadB ty4 rfl hp170) rfl ?_
     refine WL.stepE (OW.pickT rfl hc167 rfl) rfl ?_
     refine WL.nil ?_
     have e173 := Option.some.inj q116
     subst e173
     exact NK.sb (hJ119 w112 o108 hE h78 hb111 hb20 hb25) ⟨rfl, rfl, rfl, rfl, rfl, rfl, rfl, rfl, rfl, rfl, trivial⟩
    ·have q116 := iteF hc167 q116
     refine WL.skipG rfl rfl rfl (by rw [hc167]; rfl) rfl ?_
     refine WL.skipG rfl rfl rfl (by rw [hc167]; rfl) rfl ?_
     refine WL.skipG rfl rfl rfl (by rw [hc167]; rfl) rfl ?_
     refine WL.skipG rfl rfl rfl (by rw [hc167]; rfl) rfl ?_
     refine WL.skipG rfl rfl rfl (by rw [hc167]; rfl) rfl ?_
     refine WL.stepE (OW.pickF rfl hc167 rfl) rfl ?_
     refine WL.nil ?_
     have e174 := Option.some.inj q116
     subst e174
     exact NK.sb (hJ119 w112 o108 hE h78 hb111 hb20 hb25) ⟨rfl, rfl, rfl, rfl, rfl, rfl, rfl, rfl, rfl, rfl, trivial⟩
   ·have hx92 := iteF hc97 hx92
    refine CW.exit ?_
    exact NK.sb (hJ87 x76 w88 o89 v77 (hr93 _ (Option.some.inj hx92).symm) hE h78 hb20 hb25) ⟨rfl, rfl, rfl, rfl, rfl, trivial⟩
  ·have hx68 := iteF hc73 hx68
   refine CW.exit ?_
   exact NK.sb (hJ62 x51 w64 o65 v52 (hr69 _ (Option.some.inj hx68).symm) hE h53) ⟨rfl, trivial⟩
 refine CW.sub (L' := [(2, .pointer (some pa16)), (3, .pointer (some pa21)), (5, v30), (14, .int .i64 (len y28)), (15, .int .i64 0)]) ⟨rfl, rfl, rfl, rfl, rfl, trivial⟩ ?_
 refine CW.loop (board_groups_L1 y28) (fun s_ L_ w175 => ∃ (o176 : Cls) (x37 : (List Int)) (x40 : Int) (v38 : Value), (x37, x40) = s_ ∧ L_ = [(2, .pointer (some pa16)), (3, .pointer (some pa21)), (5, v38), (14, .int .i64 (len y28)), (15, .int .i64 x40)] ∧ En w0 e0 o176 w175 ∧ Ow 3 o176 103 [] w175 v38 x37 ∧ Bk o176 100 w175 pa16 [.int .i64 a0.Buses, u1, u2, u3, .int .i64 a0.Phase, .int .i64 a0.Frequency] ∧ Bk o176 101 w175 pa21 [u7, u8, u9, u10]) hl44 ?_ ?_
 ·exact ⟨o32, y28, 0, v30, rfl, rfl, hE, h34, hb20, hb25⟩
 intro K177 s_ L_ w175 hi_ x178 hx179 hr180 hk181
 obtain ⟨o176, x37, x40, v38, rfl, rfl, hE, h39, hb20, hb25⟩ := hi_
 rw [board_groups_L1] at hx179
 refine CW.sr fun K182 hK182 => ?_
 refine WL.p (.bool ((decide (x40 < (len y28))))) rfl rfl ?_
 refine WL.nx hK182 ?_
 refine CW.seq fun K183 hK183 => ?_
 refine CW.cond (b := (decide (x40 < (len y28)))) rfl (fun hc184 => ?_) (fun hc184 => ?_)
 ·have hx179 := iteT hc184 hx179
  refine CW.skip ?_
  refine hK183 _ _ ?_
  refine CW.seq fun K185 hK185 => ?_
  refine CW.block ?_
  refine CW.sr fun K186 hK186 => ?_
  refine WL.p (.int .i64 x40) rfl rfl ?_
  refine WL.p (.int .i64 x40) rfl rfl ?_
  refine WL.nx hK186 ?_
  refine CW.region ?_
  refine WL.p v38 rfl rfl ?_
  refine WL.p (.int .i64 x40) rfl rfl ?_
  refine WL.p (.int .i64 x40) rfl rfl ?_
  obtain ⟨y187, q191, hx179⟩ := bindE hx179
  refine WL.stepP (OW.indexAddrO Try.underlying22 ty3 rfl h39 rfl q191) rfl fun _ ⟨pa188, hv_, hp189, he190⟩ => ?_
  subst hv_
  obtain ⟨y192, q195, hx179⟩ := bindE hx179
  refine WL.step0 (OW.storeElem ty3 rfl he190 h39 rfl (rv_int.2 rfl) q195 rfl) ?_
  rintro _ w193 ⟨ev194, h196⟩
  have hE := hE.evo ev194 rfl rfl
  have hb20 := hb20.evo ev194 rfl
  have hb25 := hb25.evo ev194 rfl
  refine WL.nil ?_
  refine hK185 _ _ ?_
  refine CW.region ?_
  refine WL.p (.int .i64 ((W (x40 + 1)))) rfl rfl ?_
  refine WL.p (.int .i64 ((W (x40 + 1)))) rfl rfl ?_
  refine WL.nil ?_
  exact NK.sb (hk181 _ _ _ (Option.some.inj hx179).symm ⟨o176, y192, (W (x40 + 1)), v38, rfl, rfl, hE, h196, hb20, hb25⟩) ⟨rfl, rfl, rfl, rfl, rfl, trivial⟩
 ·have hx179 := iteF hc184 hx179
  refine CW.exit ?_
  exact NK.sb (hJ48 x37 w175 o176 v38 (hr180 _ (Option.some.inj hx179).symm) hE h39 hb20 hb25) ⟨rfl, rfl, rfl, trivial⟩

set_option maxHeartbeats 1000000 in
theorem board_fed_ok {a0 : Board} {a1 : Power} {a2 : Int} {r : (Int × Bool)} (hF : board_fed a0 a1 a2 = some r) {w0 : World} {p0 : Value} {S0 : Nat → Prop} (g0 : Rv S0 w0 p0 a0) {p1 : Value} {S1 : Nat → Prop} (g1 : Rv S1 w0 p1 a1) :
    Calls Try.prog 53 #[p0, p1, .int .i64 a2] w0 (Ret fun v w' => ∃ (oc : Cls), En w0 (entM w0 [] [S0, S1]) oc w' ∧ v = .tuple #[.int .i64 r.1, .bool r.2]) := by
 obtain ⟨e0, he0⟩ : ∃ e0, e0 = entM w0 [] [S0, S1] := ⟨_, rfl⟩
 have hE := En.refl w0 e0
 have g0 := g0.argM he0 0 (K := [40]) rfl (nosep rfl) rfl
 have g1 := g1.argM he0 1 (K := [40, 41]) rfl (nosep rfl) rfl
 obtain ⟨u1, u2, u3, rfl, h4, h5, h6⟩ := op39 g0
 obtain ⟨u7, u8, u9, u10, rfl, h11, h12, h13, h14⟩ := op45 g1
 rw [board_fed] at hF
 refine enter (l := [.agg #[.int .i64 a0.Buses, u1, u2, u3, .int .i64 a0.Phase, .int .i64 a0.Frequency], .agg #[u7, u8, u9, u10], .int .i64 a2]) Try.func53 rfl Try.ntmps53 rfl ?_
 refine CW.sub (L' := [(0, .agg #[.int .i64 a0.Buses, u1, u2, u3, .int .i64 a0.Phase, .int .i64 a0.Frequency]), (1, .agg #[u7, u8, u9, u10]), (2, .int .i64 a2)]) ⟨rfl, rfl, rfl, trivial⟩ ?_
 refine CW.sr fun K15 hK15 => ?_
 refine WL.step (OW.boxK (o := e0) 100 [.int .i64 a0.Buses, u1, u2, u3, .int .i64 a0.Phase, .int .i64 a0.Frequency] rfl rfl) rfl ?_
 rintro _ w18 ⟨pa16, o17, rfl, ev19, hb20⟩
 have hE := hE.evo ev19 rfl rfl
 refine WL.step (OW.boxK (o := o17) 101 [u7, u8, u9, u10] rfl rfl) rfl ?_
 rintro _ w23 ⟨pa21, o22, rfl, ev24, hb25⟩
 have hE := hE.evo ev24 rfl rfl
 have hb20 := hb20.evo ev24 rfl
 refine WL.p (.int .i64 0) rfl rfl ?_
 refine WL.p (.bool false) rfl rfl ?_
 refine WL.nx hK15 ?_
 refine CW.sr fun K26 hK26 => ?_
 refine WL.stepE (OW.loadK0 Board (.agg #[.int .i64 a0.Buses, u1, u2, u3, .int .i64 a0.Phase, .int .i64 a0.Frequency]) ty39 rfl hb20 rfl rfl) rfl ?_
 refine WL.stepE (OW.loadK0 Power (.agg #[u7, u8, u9, u10]) ty45 rfl hb25 rfl rfl) rfl ?_
 refine WL.p (.int .i64 a2) rfl rfl ?_
 obtain ⟨⟨y27, y28⟩, q29, hF⟩ := bindE hF
 dsimp only at hF
 refine WL.step (OW.call Try.call77 rfl (board_led_ok q29 (mk39 (x := a0) (h4.baseM hE rfl) (h5.baseM hE rfl) (h6.baseM hE rfl)) (mk45 (x := a1) (h11.baseM hE rfl) (h12.baseM hE rfl) (h13.baseM hE rfl) (h14.baseM hE rfl)))) rfl ?_
 rintro _ w30 ⟨o34, hn_, rfl⟩
 obtain ⟨o31, ev32, hA33⟩ := adopt (o := o22) (ks := []) (Ks := [[40], [40, 41]]) 102 ([]) [102] hn_ MbOk.nil rfl rfl rfl rfl
 have hE := hE.evo ev32 rfl rfl
 refine WL.p (.int .i64 y27) rfl rfl ?_
 refine WL.p (.bool y28) rfl rfl ?_
 refine WL.p (.int .i64 y27) rfl rfl ?_
 refine WL.p (.bool y28) rfl rfl ?_
 refine WL.nx hK26 ?_
 obtain rfl := Option.some.inj hF
 exact CW.rets (vs := [.int .i64 y27, .bool y28]) Try.results53 ⟨rfl, rfl, trivial⟩ ⟨_, rfl, _, (hE.rn he0 100 [] rfl rfl), rfl⟩ (fun _ _ h => h)

end Go.Proofs.Ytnpghnnlcakbfaa
