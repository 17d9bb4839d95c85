/- Walks. Written by a program (wip/gen). -/
import Derived.Test.YtnpghnnlcakbfaaHw
import Derived.Test.YtnpghnnlcakbfaaWk7
namespace Go.Proofs.Ytnpghnnlcakbfaa
open Go Go.RowKit Dp

set_option maxRecDepth 100000

set_option maxHeartbeats 1000000 in
theorem board_Find_ok {a0 : Board} {a1 : Int} {a2 : Int} {r : (List Int)} (hF : board_Find a0 a1 a2 = some r) {w0 : World} {p0 : Value} {S0 : Nat → Prop} (g0 : Rv S0 w0 p0 a0) :
    Calls Try.prog 28 #[p0, .int .i64 a1, .int .i64 a2] w0 (Ret fun v w' => ∃ (oc : Cls), En w0 (entM w0 [] [S0]) oc w' ∧ Ow 3 oc 100 [] w' v r) := by
 obtain ⟨e0, he0⟩ : ∃ e0, e0 = entM w0 [] [S0] := ⟨_, rfl⟩
 have hE := En.refl w0 e0
 have g0 := g0.argM he0 0 (K := [40]) rfl (nosep rfl) rfl
 obtain ⟨u1, u2, u3, rfl, h4, h5, h6⟩ := op39 g0
 rw [board_Find] at hF
 refine enter (l := [.agg #[.int .i64 a0.Buses, u1, u2, u3, .int .i64 a0.Phase, .int .i64 a0.Frequency], .int .i64 a1, .int .i64 a2]) Try.func28 rfl Try.ntmps28 rfl ?_
 refine CW.sub (L' := [(0, .agg #[.int .i64 a0.Buses, u1, u2, u3, .int .i64 a0.Phase, .int .i64 a0.Frequency]), (1, .int .i64 a1), (2, .int .i64 a2)]) ⟨rfl, rfl, rfl, trivial⟩ ?_
 refine CW.sr fun K7 hK7 => ?_
 refine WL.step (OW.boxK (o := e0) 100 [.int .i64 a0.Buses, u1, u2, u3, .int .i64 a0.Phase, .int .i64 a0.Frequency] rfl rfl) rfl ?_
 rintro _ w10 ⟨pa8, o9, rfl, ev11, hb12⟩
 have hE := hE.evo ev11 rfl rfl
 have h13 := Ow.nil (α := Int) 3 o9 101 [] w10
 refine WL.p (.slice none 0 0) rfl rfl ?_
 refine WL.nx hK7 ?_
 refine CW.seq fun K14 hK14 => ?_
 refine CW.sr fun K15 hK15 => ?_
 refine WL.stepE (OW.loadK0 Board (.agg #[.int .i64 a0.Buses, u1, u2, u3, .int .i64 a0.Phase, .int .i64 a0.Frequency]) ty39 rfl hb12 rfl rfl) rfl ?_
 obtain ⟨y16, q17, hF⟩ := bindE hF
 refine WL.step (OW.call Try.call32 rfl (board_Check_ok q17 (mk39 (x := a0) (h4.baseM hE rfl) (h5.baseM hE rfl) (h6.baseM hE rfl)))) rfl ?_
 rintro _ w18 ⟨o22, hn_, rfl⟩
 obtain ⟨o19, ev20, hA21⟩ := adopt (o := o9) (ks := []) (Ks := [[40]]) 102 ([]) [102] hn_ MbOk.nil rfl rfl rfl rfl
 have hE := hE.evo ev20 rfl rfl
 have hb12 := hb12.evo ev20 rfl
 refine WL.p (.bool (((y16 != 0)))) rfl rfl ?_
 refine WL.nx hK15 ?_
 refine CW.cond (b := ((y16 != 0))) rfl (fun hc23 => ?_) (fun hc23 => ?_)
 ·have hF := iteT hc23 hF
  refine CW.sr fun K24 hK24 => ?_
  have h25 := Ow.nil (α := Int) 3 o19 103 [] w18
  refine WL.p (.slice none 0 0) rfl rfl ?_
  refine WL.nx hK24 ?_
  obtain rfl := Option.some.inj hF
  exact CW.rets (vs := [(.slice none 0 0)]) Try.results28 ⟨rfl, trivial⟩ ⟨_, rfl, _, (hE.rn he0 101 [] rfl rfl), (Ow.nil _ _ _ _ _)⟩ (fun _ _ h => h)
 ·have hF := iteF hc23 hF
  refine CW.skip ?_
  refine hK14 _ _ ?_
  refine CW.sr fun K26 hK26 => ?_
  have h27 := Ow.nil (α := Int) 3 o19 104 [] w18
  refine WL.p (.slice none 0 0) rfl rfl ?_
  refine WL.nx hK26 ?_
  refine CW.seq fun K28 hK28 => ?_
  refine CW.sr fun K29 hK29 => ?_
  refine WL.stepE (OW.fldAddr (FldOk.at f39_1) rfl) rfl ?_
  refine WL.stepE (OW.loadK (off := 1) (List Breaker) (u1) ty35 rfl hb12 rfl rfl) rfl ?_
  refine WL.stepE (OW.len Try.underlying35 rfl (h4.baseM hE rfl)) rfl ?_
  refine WL.p (.int .i64 0) rfl rfl ?_
  refine WL.nx hK29 ?_
  refine CW.block ?_
  obtain ⟨r38, hl37, hF⟩ := bindE hF
  have hJ41 : ∀ (x34 : (List Int)) (w39 : World) (o40 : Cls) (v35 : Value), x34 = r38 → En w0 e0 o40 w39 → Ow 3 o40 104 [] w39 v35 x34 → NK 47 K28 [(7, v35)] w39 := by
   intro x34 w39 o40 v35 e_ hE h36
   subst e_
   try dsimp only at hF
   refine hK28 _ _ ?_
   refine CW.sr fun K42 hK42 => ?_
   refine WL.p v35 rfl rfl ?_
   refine WL.p v35 rfl rfl ?_
   refine WL.nx hK42 ?_
   obtain rfl := Option.some.inj hF
   exact CW.rets (vs := [v35]) Try.results28 ⟨rfl, trivial⟩ ⟨_, rfl, _, (hE.rn he0 101 [(104, 100)] rfl rfl), (h36.rn (c' := 100) (K' := []) rfl rfl)⟩ (fun _ _ h => h)
  refine CW.sub (L' := [(1, .int .i64 a1), (2, .int .i64 a2), (7, (.slice none 0 0)), (14, u1), (15, .int .i64 (len a0.Breakers)), (16, .int .i64 0)]) ⟨rfl, rfl, rfl, rfl, rfl, rfl, trivial⟩ ?_
  refine CW.loop (board_Find_L1 a0 a1 a2) (fun s_ L_ w43 => ∃ (o44 : Cls) (x30 : (List Int)) (x33 : Int) (v31 : Value), (x30, x33) = s_ ∧ L_ = [(1, .int .i64 a1), (2, .int .i64 a2), (7, v31), (14, u1), (15, .int .i64 (len a0.Breakers)), (16, .int .i64 x33)] ∧ En w0 e0 o44 w43 ∧ Ow 3 o44 104 [] w43 v31 x30) hl37 ?_ ?_
  ·exact ⟨o19, ([] : List Int), 0, (.slice none 0 0), rfl, rfl, hE, h27⟩
  intro K45 s_ L_ w43 hi_ x46 hx47 hr48 hk49
  obtain ⟨o44, x30, x33, v31, rfl, rfl, hE, h32⟩ := hi_
  rw [board_Find_L1] at hx47
  refine CW.sr fun K50 hK50 => ?_
  refine WL.p (.bool ((decide (x33 < (len a0.Breakers))))) rfl rfl ?_
  refine WL.nx hK50 ?_
  refine CW.seq fun K51 hK51 => ?_
  refine CW.cond (b := (decide (x33 < (len a0.Breakers)))) rfl (fun hc52 => ?_) (fun hc52 => ?_)
  ·have hx47 := iteT hc52 hx47
   refine CW.skip ?_
   refine hK51 _ _ ?_
   refine CW.seq fun K53 hK53 => ?_
   refine CW.block ?_
   refine CW.sr fun K54 hK54 => ?_
   refine WL.p (.int .i64 x33) rfl rfl ?_
   obtain ⟨y55, q59, hx47⟩ := bindE hx47
   refine WL.stepP (OW.indexAddr Try.underlying35 ty48 rfl (h4.baseM hE rfl) rfl q59) rfl fun _ ⟨pa56, hv_, hp57, he58⟩ => ?_
   subst hv_
   refine WL.stepP (OW.load ty48 rfl hp57) rfl fun v60 h61 => ?_
   obtain rfl := op48 h61
   refine WL.step (OW.allocK (o := o44) Breaker 105 [.int .i64 0, .int .i64 0, .int .i64 0] ty48 rfl) rfl ?_
   rintro _ w64 ⟨pa62, o63, rfl, ev65, hb66⟩
   have hE := hE.evo ev65 rfl rfl
   have h32 := h32.evo ev65 rfl
   refine WL.p (.int .i64 x33) rfl rfl ?_
   refine WL.step0 (OW.storeK0 Breaker [.int .i64 y55.Kind, .int .i64 y55.A, .int .i64 y55.B] [.int .i64 y55.Kind, .int .i64 y55.A, .int .i64 y55.B] ty48 rfl rfl hb66 rfl ⟨rfl, rfl, rfl, trivial⟩ rfl rfl rfl) ?_
   rintro _ w67 ⟨ev68, hb66⟩
   have hE := hE.evo ev68 rfl rfl
   have h32 := h32.evo ev68 rfl
   refine WL.nx hK54 ?_
   refine CW.sr fun K69 hK69 => ?_
   refine WL.stepE (OW.fldAddr (FldOk.at f48_0) rfl) rfl ?_
   refine WL.stepE (OW.loadK (off := 0) Int (.int .i64 y55.Kind) ty3 rfl hb66 rfl rfl) rfl ?_
   refine WL.p (.int .i64 a1) rfl rfl ?_
   refine WL.p (.bool (((y55.Kind == a1)))) rfl rfl ?_
   refine WL.p (.bool (((y55.Kind == a1)))) rfl rfl ?_
   obtain ⟨x70, q71, hx47⟩ := bindE hx47
   have hJ74 : ∀ (w72 : World) (o73 : Cls), En w0 e0 o73 w72 → Ow 3 o73 104 [] w72 v31 x30 → NK 47 K69 [(1, .int .i64 a1), (2, .int .i64 a2), (7, v31), (8, .int .i64 x33), (14, u1), (15, .int .i64 (len a0.Breakers)), (16, .int .i64 x33), (40, .bool x70)] w72 := by
    intro w72 o73  hE h32
    refine hK69 _ _ ?_
    obtain ⟨x75, q78, hx47⟩ := bindE hx47
    have hJ81 : ∀ (w79 : World) (o80 : Cls) (v76 : Value), En w0 e0 o80 w79 → Ow 3 o80 104 [] w79 v76 x75 → NK 47 K53 [(1, .int .i64 a1), (2, .int .i64 a2), (7, v76), (14, u1), (15, .int .i64 (len a0.Breakers)), (16, .int .i64 x33)] w79 := by
     intro w79 o80 v76 hE h77
     refine hK53 _ _ ?_
     refine CW.region ?_
     refine WL.p (.int .i64 ((W (x33 + 1)))) rfl rfl ?_
     refine WL.p (.int .i64 ((W (x33 + 1)))) rfl rfl ?_
     refine WL.nil ?_
     exact NK.sb (hk49 _ _ _ (Option.some.inj hx47).symm ⟨o80, x75, (W (x33 + 1)), v76, rfl, rfl, hE, h77⟩) ⟨rfl, rfl, rfl, rfl, rfl, rfl, trivial⟩
    refine CW.cond (b := x70) rfl (fun hc82 => ?_) (fun hc82 => ?_)
    ·have q78 := iteT hc82 q78
     refine CW.region ?_
     refine WL.p v31 rfl rfl ?_
     refine WL.p (.int .i64 x33) rfl rfl ?_
     refine WL.step (OW.buildSlice (o := o73) (k := 106) (K := []) (xs := ([x33] : List Int)) Try.underlying22 ty3 rfl ⟨(rv_int.2 rfl), trivial⟩ rfl rfl) rfl ?_
     rintro v83 w84 ⟨o85, ev86, h87⟩
     have hE := hE.evo ev86 rfl rfl
     have h32 := h32.evo ev86 rfl
     obtain ⟨y88, q89, q78⟩ := bindE q78
     refine WL.step (OW.append (K := []) Try.underlying22 ty3 rfl rfl h32 h87.els.flat q89 rfl) rfl ?_
     rintro v90 w91 ⟨o92, ev93, h94⟩
     have hE := hE.evo ev93 rfl rfl
     have h87 := h87.evo ev93 rfl
     refine WL.p v90 rfl rfl ?_
     refine WL.nil ?_
     have e95 := Option.some.inj q78
     subst e95
     exact NK.sb (hJ81 w91 o92 v90 hE h94) ⟨rfl, rfl, rfl, rfl, rfl, rfl, trivial⟩
    ·have q78 := iteF hc82 q78
     refine CW.skip ?_
     have e96 := Option.some.inj q78
     subst e96
     exact NK.sb (hJ81 w72 o73 v31 hE h32) ⟨rfl, rfl, rfl, rfl, rfl, rfl, trivial⟩
   rcases Bool.eq_false_or_eq_true (((y55.Kind == a1))) with hc97 | hc97
   ·have q71 := iteT hc97 q71
    refine WL.stepGE rfl rfl rfl hc97 (OW.fldAddr (FldOk.at f48_2) rfl) rfl ?_
    refine WL.stepGE rfl rfl rfl hc97 (OW.loadK (off := 2) Int (.int .i64 y55.B) ty3 rfl hb66 rfl rfl) rfl ?_
    refine WL.stepGE rfl rfl rfl hc97 (OW.pv (v := (.int .i64 a2)) rfl) rfl ?_
    refine WL.stepGE rfl rfl rfl hc97 (OW.pv (v := (.bool (((y55.B == a2))))) rfl) rfl ?_
    refine WL.stepGE rfl rfl rfl hc97 (OW.pv (v := (.bool (((y55.B == a2))))) rfl) rfl ?_
    obtain ⟨z_, q100, q71⟩ := bindE q71
    obtain ⟨x98, x99⟩ := z_
    try dsimp only at q71
    have hJ103 : ∀ (w101 : World) (o102 : Cls), En w0 e0 o102 w101 → Ow 3 o102 104 [] w101 v31 x30 → Bk o102 105 w101 pa62 [.int .i64 y55.Kind, .int .i64 y55.A, .int .i64 y55.B] → NK 47 K69 [(1, .int .i64 a1), (2, .int .i64 a2), (7, v31), (8, .int .i64 x33), (14, u1), (15, .int .i64 (len a0.Breakers)), (16, .int .i64 x33), (26, .pointer (some (pa62.add 2))), (27, .int .i64 y55.B), (28, .int .i64 a2), (29, .bool (((y55.B == a2)))), (30, .bool (((y55.B == a2)))), (39, .bool x98), (40, .bool x99)] w101 := by
     intro w101 o102  hE h32 hb66
     have e104 := Option.some.inj q71
     subst e104
     exact NK.sb (hJ74 w101 o102 hE h32) ⟨rfl, rfl, rfl, rfl, rfl, rfl, rfl, rfl, trivial⟩
    rcases Bool.eq_false_or_eq_true (((y55.B == a2))) with hc105 | hc105
    ·have q100 := iteT hc105 q100
     refine WL.skipG rfl rfl rfl (by rw [hc105]; rfl) rfl ?_
     refine WL.skipG rfl rfl rfl (by rw [hc105]; rfl) rfl ?_
     refine WL.skipG rfl rfl rfl (by rw [hc105]; rfl) rfl ?_
     refine WL.skipU rfl rfl rfl rfl ?_
     refine WL.skipU rfl rfl rfl rfl ?_
     refine WL.skipU rfl rfl rfl rfl ?_
     refine WL.skipU rfl rfl rfl rfl ?_
     refine WL.skipG rfl rfl rfl (by rw [hc105]; rfl) rfl ?_
     refine WL.stepGE rfl rfl rfl hc97 (OW.pickT rfl hc105 rfl) rfl ?_
     refine WL.stepE (OW.pickT rfl hc97 rfl) rfl ?_
     refine WL.nil ?_
     have e106 := Option.some.inj q100
     obtain ⟨e107, e108⟩ := Prod.mk.inj e106
     subst e107 e108
     exact NK.sb (hJ103 w67 o63 hE h32 hb66) ⟨rfl, rfl, rfl, rfl, rfl, rfl, rfl, rfl, rfl, rfl, rfl, rfl, rfl, rfl, trivial⟩
    ·have q100 := iteF hc105 q100
     refine WL.stepGE rfl rfl rfl hc105 (OW.pv (v := (.int .i64 a1)) rfl) rfl ?_
     refine WL.stepGE rfl rfl rfl hc105 (OW.pv (v := (.bool (((a1 == 1))))) rfl) rfl ?_
     refine WL.stepGE rfl rfl rfl hc105 (OW.pv (v := (.bool (((a1 == 1))))) rfl) rfl ?_
     obtain ⟨z_, q112, q100⟩ := bindE q100
     obtain ⟨x109, x110, x111⟩ := z_
     try dsimp only at q100
     have hJ115 : ∀ (w113 : World) (o114 : Cls), En w0 e0 o114 w113 → Ow 3 o114 104 [] w113 v31 x30 → Bk o114 105 w113 pa62 [.int .i64 y55.Kind, .int .i64 y55.A, .int .i64 y55.B] → NK 47 K69 [(1, .int .i64 a1), (2, .int .i64 a2), (7, v31), (8, .int .i64 x33), (14, u1), (15, .int .i64 (len a0.Breakers)), (16, .int .i64 x33), (26, .pointer (some (pa62.add 2))), (27, .int .i64 y55.B), (28, .int .i64 a2), (29, .bool (((y55.B == a2)))), (30, .bool (((y55.B == a2)))), (31, .int .i64 a1), (32, .bool (((a1 == 1)))), (33, .bool (((a1 == 1)))), (38, .bool x109), (39, .bool x110), (40, .bool x111)] w113 := by
      intro w113 o114  hE h32 hb66
      have e116 := Option.some.inj q100
      obtain ⟨e117, e118⟩ := Prod.mk.inj e116
      subst e117 e118
      exact NK.sb (hJ103 w113 o114 hE h32 hb66) ⟨rfl, rfl, rfl, rfl, rfl, rfl, rfl, rfl, rfl, rfl, rfl, rfl, rfl, rfl, trivial⟩
     rcases Bool.eq_false_or_eq_true (((a1 == 1))) with hc119 | hc119
     ·have q112 := iteT hc119 q112
      refine WL.stepGE rfl rfl rfl hc119 (OW.fldAddr (FldOk.at f48_1) rfl) rfl ?_
      refine WL.stepGE rfl rfl rfl hc119 (OW.loadK (off := 1) Int (.int .i64 y55.A) ty3 rfl hb66 rfl rfl) rfl ?_
      refine WL.stepGE rfl rfl rfl hc119 (OW.pv (v := (.int .i64 a2)) rfl) rfl ?_
      refine WL.stepGE rfl rfl rfl hc119 (OW.pv (v := (.bool (((y55.A == a2))))) rfl) rfl ?_
      refine WL.stepGE rfl rfl rfl hc105 (OW.pickT rfl hc119 rfl) rfl ?_
      refine WL.stepGE rfl rfl rfl hc97 (OW.pickF rfl hc105 rfl) rfl ?_
      refine WL.stepE (OW.pickT rfl hc97 rfl) rfl ?_
      refine WL.nil ?_
      have e120 := Option.some.inj q112
      obtain ⟨e121, e122⟩ := Prod.mk.inj e120
      obtain ⟨e123, e124⟩ := Prod.mk.inj e122
      subst e121 e123 e124
      exact NK.sb (hJ115 w67 o63 hE h32 hb66) ⟨rfl, rfl, rfl, rfl, rfl, rfl, rfl, rfl, rfl, rfl, rfl, rfl, rfl, rfl, rfl, rfl, rfl, rfl, trivial⟩
     ·have q112 := iteF hc119 q112
      refine WL.skipG rfl rfl rfl (by rw [hc119]; rfl) rfl ?_
      refine WL.skipG rfl rfl rfl (by rw [hc119]; rfl) rfl ?_
      refine WL.skipG rfl rfl rfl (by rw [hc119]; rfl) rfl ?_
      refine WL.skipG rfl rfl rfl (by rw [hc119]; rfl) rfl ?_
      refine WL.stepGE rfl rfl rfl hc105 (OW.pickF rfl hc119 rfl) rfl ?_
      refine WL.stepGE rfl rfl rfl hc97 (OW.pickF rfl hc105 rfl) rfl ?_
      refine WL.stepE (OW.pickT rfl hc97 rfl) rfl ?_
      refine WL.nil ?_
      have e125 := Option.some.inj q112
      obtain ⟨e126, e127⟩ := Prod.mk.inj e125
      obtain ⟨e128, e129⟩ := Prod.mk.inj e127
      subst e126 e128 e129
      exact NK.sb (hJ115 w67 o63 hE h32 hb66) ⟨rfl, rfl, rfl, rfl, rfl, rfl, rfl, rfl, rfl, rfl, rfl, rfl, rfl, rfl, rfl, rfl, rfl, rfl, trivial⟩
   ·have q71 := iteF hc97 q71
    refine WL.skipG rfl rfl rfl (by rw [hc97]; rfl) rfl ?_
    refine WL.skipG rfl rfl rfl (by rw [hc97]; rfl) rfl ?_
    refine WL.skipG rfl rfl rfl (by rw [hc97]; rfl) rfl ?_
    refine WL.skipG rfl rfl rfl (by rw [hc97]; rfl) rfl ?_
    refine WL.skipG rfl rfl rfl (by rw [hc97]; rfl) rfl ?_
    refine WL.skipU rfl rfl rfl rfl ?_
    refine WL.skipU rfl rfl rfl rfl ?_
    refine WL.skipU rfl rfl rfl rfl ?_
    refine WL.skipU rfl rfl rfl rfl ?_
    refine WL.skipU rfl rfl rfl rfl ?_
    refine WL.skipU rfl rfl rfl rfl ?_
    refine WL.skipU rfl rfl rfl rfl ?_
    refine WL.skipU rfl rfl rfl rfl ?_
    refine WL.skipG rfl rfl rfl (by rw [hc97]; rfl) rfl ?_
    refine WL.stepE (OW.pickF rfl hc97 rfl) rfl ?_
    refine WL.nil ?_
    have e130 := Option.some.inj q71
    subst e130
    exact NK.sb (hJ74 w67 o63 hE h32) ⟨rfl, rfl, rfl, rfl, rfl, rfl, rfl, rfl, trivial⟩
  ·have hx47 := iteF hc52 hx47
   refine CW.exit ?_
   exact NK.sb (hJ41 x30 w43 o44 v31 (hr48 _ (Option.some.inj hx47).symm) hE h32) ⟨rfl, trivial⟩

end Go.Proofs.Ytnpghnnlcakbfaa
