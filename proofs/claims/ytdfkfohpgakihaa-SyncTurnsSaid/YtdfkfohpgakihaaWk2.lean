/- Walks. Written by a program (wip/gen). -/
import Derived.Test.YtdfkfohpgakihaaHw
import Derived.Test.YtdfkfohpgakihaaWk1
set_option linter.unusedVariables false
set_option linter.unusedSimpArgs false
namespace Go.Proofs.Ytdfkfohpgakihaa
open Go Go.RowKit Dp

set_option maxRecDepth 100000

set_option maxHeartbeats 16000000 in
theorem board_breakers_ok {a0 : Board} {r : Bool} (hF : board_breakers a0 = some r) {w0 : World} {p0 : Value} {S0 : Nat → Prop} (g0 : Rv S0 w0 p0 a0) :
    Calls Try.prog 85 #[p0] w0 (Ret fun v w' => ∃ (oc : Cls), En w0 (entM w0 [] [S0]) oc w' ∧ v = .bool r) := by
 obtain ⟨e0, he0⟩ : ∃ e0, e0 = entM w0 [] [S0] := ⟨_, rfl⟩
 have hE := En.refl w0 e0
 have g0 := g0.argM he0 0 (K := [40]) rfl (nosep rfl) rfl
 obtain ⟨u1, u2, u3, rfl, h4, h5, h6⟩ := op29 g0
 rw [board_breakers] at hF
 refine enter (l := [.agg #[.int .i64 a0.Buses, u1, u2, u3, .int .i64 a0.Phase, .int .i64 a0.Frequency]]) Try.func85 rfl Try.ntmps85 rfl ?_
 refine CW.sub (L' := [(0, .agg #[.int .i64 a0.Buses, u1, u2, u3, .int .i64 a0.Phase, .int .i64 a0.Frequency])]) ⟨rfl, trivial⟩ ?_
 refine CW.sr fun K7 hK7 => ?_
 refine WL.step (OW.boxK (o := e0) 100 [.int .i64 a0.Buses, u1, u2, u3, .int .i64 a0.Phase, .int .i64 a0.Frequency] rfl rfl) rfl ?_
 rintro _ w10 ⟨pa8, o9, rfl, ev11, hb12⟩
 have hE := hE.evo ev11 rfl rfl
 refine WL.p (.bool false) rfl rfl ?_
 refine WL.nx hK7 ?_
 refine CW.seq fun K13 hK13 => ?_
 obtain ⟨y14, q15, hF⟩ := bindE hF
 obtain ⟨y21, q22, hF⟩ := bindE hF
 have ev_ := Evo.drew o9 w10
 refine CW.anyS (N := [101, 102, 103]) hmix [sBk none none [] 100 (vk pa8) (vk ([.int .i64 a0.Buses, u1, u2, u3, .int .i64 a0.Phase, .int .i64 a0.Frequency])), sOw (some 3) none [3] 3 101 [] (vn 0) y14, sOc (some 7) none [7] 1 22 3 102 103 (vn 0) y21] [⟨[], [], [], [], vk (.pointer (some (pa8.add 2))), false⟩, ⟨[], [0], [0], [], vk u2, false⟩, ⟨[], [], [0, 1], [], vk (.int .i64 (len a0.Sources)), false⟩, ⟨[], [], [0, 1, 2], [3], vn 0, false⟩, ⟨[], [], [], [], vk (.pointer (some (pa8.add 3))), false⟩, ⟨[], [0], [4], [], vk u3, false⟩, ⟨[], [], [4, 5], [], vk (.int .i64 (len a0.Consumers)), false⟩, ⟨[], [], [4, 5, 6], [7], vn 0, false⟩, ⟨[], [], rg 0 4, [3], vn 0, false⟩, ⟨[], [], rg 0 9, [7], vn 0, false⟩] [] hE rfl (by kernel_rfl) (by kernel_rfl) ⟨hb12.evo ev_ rfl, trivial⟩ ⟨?_, ?_, ?_, ?_, ?_, ?_, ?_, ?_, Ob.pv rfl rfl (fun _ => rfl) rfl (fun _ _ _ => trivial), Ob.pv rfl rfl (fun _ => rfl) rfl (fun _ _ _ => trivial), trivial⟩ ?_
 ·intro vs28 o_ w_ hE 
  exact OW.q [(1, .pointer (some pa8))] ⟨rfl, trivial⟩ (OW.fldAddr (FldOk.at f29_2) rfl) (er rfl trivial)
 ·intro vs28 o_ w_ hE hb12
  have hb12 := tBk hb12
  exact OW.q [(7, .pointer (some (pa8.add 2)))] ⟨rfl, trivial⟩ (OW.loadK (off := 2) (List Source) (u2) ty26 rfl hb12 rfl rfl) (er rfl trivial)
 ·intro vs28 o_ w_ hE 
  have hE := hE.1
  exact OW.q [(8, u2)] ⟨rfl, trivial⟩ (OW.len Try.underlying26 rfl (h5.baseM hE rfl)) (er rfl trivial)
 ·intro vs28 o_ w_ hE 
  refine OW.r [(9, .int .i64 (len a0.Sources))] ⟨rfl, trivial⟩ (OW.make (o := o_) (k := 101) Try.underlying22 ty3 rfl rfl q15) ?_
  rintro v16 w17 ⟨o18, ev19, h20⟩
  exact ⟨o18, ev19.sub rfl rfl, rfl, h20, trivial⟩
 ·intro vs28 o_ w_ hE 
  exact OW.q [(1, .pointer (some pa8))] ⟨rfl, trivial⟩ (OW.fldAddr (FldOk.at f29_3) rfl) (er rfl trivial)
 ·intro vs28 o_ w_ hE hb12
  have hb12 := tBk hb12
  exact OW.q [(11, .pointer (some (pa8.add 3)))] ⟨rfl, trivial⟩ (OW.loadK (off := 3) (List Consumer) (u3) ty27 rfl hb12 rfl rfl) (er rfl trivial)
 ·intro vs28 o_ w_ hE 
  have hE := hE.1
  exact OW.q [(12, u3)] ⟨rfl, trivial⟩ (OW.len Try.underlying27 rfl (h6.baseM hE rfl)) (er rfl trivial)
 ·intro vs28 o_ w_ hE 
  refine OW.r [(13, .int .i64 (len a0.Consumers))] ⟨rfl, trivial⟩ (OW.makeC (o := o_) (k := 102) 103 1 3 (by rfl) Try.underlying115 ty22 rfl rfl q22) ?_
  rintro v23 w24 ⟨o25, ev26, h27⟩
  exact ⟨o25, ev26.sub rfl rfl, rfl, h27, trivial⟩
 ·intro vs28 o30 w29 hE hb12 h20 h27
  obtain ⟨hE, evT_⟩ := hE
  have hb12 : Bk o30 100 w29 pa8 [.int .i64 a0.Buses, u1, u2, u3, .int .i64 a0.Phase, .int .i64 a0.Frequency] := hb12
  have h20 : Ow 3 o30 101 [] w29 (vs28 3) y14 := h20
  have h27 : OwC 1 22 3 o30 102 103 w29 (vs28 7) y21 := h27
  refine hK13 _ _ ?_
  refine CW.seq fun K31 hK31 => ?_
  refine CW.sr fun K32 hK32 => ?_
  refine WL.stepE (OW.fldAddr (FldOk.at f29_1) rfl) rfl ?_
  refine WL.stepE (OW.loadK (off := 1) (List Breaker) (u1) ty25 rfl hb12 rfl rfl) rfl ?_
  refine WL.stepE (OW.len Try.underlying25 rfl (h4.baseM hE rfl)) rfl ?_
  refine WL.p (.int .i64 0) rfl rfl ?_
  refine WL.nx hK32 ?_
  refine CW.block ?_
  obtain ⟨r47, hl46, hF⟩ := bindE hF
  have hJ50 : ∀ (x40 : (List Int)) (x43 : (List (List Int))) (w48 : World) (o49 : Cls) (v41 v44 : Value), .inl (x40, x43) = r47 → En w0 e0 o49 w48 → Ow 3 o49 101 [] w48 v41 x40 → OwC 1 22 3 o49 102 103 w48 v44 x43 → NK 116 K31 [(3, v41), (4, v44)] w48 := by
   intro x40 x43 w48 o49 v41 v44 e_ hE h42 h45
   subst e_
   have hF := elimL hF
   try dsimp only at hF
   refine hK31 _ _ ?_
   refine CW.sr fun K51 hK51 => ?_
   refine WL.p v41 rfl rfl ?_
   obtain ⟨y52, q53, hF⟩ := bindE hF
   refine WL.step (OW.call Try.call45 rfl (slices_Contains_int_int_ok q53 h42.rv)) rfl ?_
   rintro _ w54 ⟨o58, hn_, rfl⟩
   obtain ⟨o55, ev56, hA57⟩ := adopt (o := o49) (ks := []) (Ks := [[101]]) 111 ([]) [111] hn_ MbOk.nil rfl rfl rfl rfl
   have hE := hE.evo ev56 rfl rfl
   have h42 := h42.evo ev56 rfl
   have h45 := h45.evo ev56 rfl
   refine WL.p (.bool (!y52)) rfl rfl ?_
   refine WL.p (.bool (!y52)) rfl rfl ?_
   obtain ⟨x59, q60, hF⟩ := bindE hF
   have hJ63 : ∀ (w61 : World) (o62 : Cls), En w0 e0 o62 w61 → NK 116 K51 [(2, .bool x59)] w61 := by
    intro w61 o62  hE
    refine hK51 _ _ ?_
    obtain rfl := Option.some.inj hF
    exact CW.rets (vs := [.bool x59]) Try.results85 ⟨rfl, trivial⟩ ⟨_, rfl, _, (hE.rn he0 100 [] rfl rfl), rfl⟩ (fun _ _ h => h)
   rcases Bool.eq_false_or_eq_true (!y52) with hc64 | hc64
   ·have q60 := iteT hc64 q60
    refine WL.stepGE rfl rfl rfl hc64 (OW.pv (v := v44) rfl) rfl ?_
    have hf65 : Fn1 Try.prog 96 #[] (fun w_ => Bts [] w54 w_) (fun z0_ => board_breakers_1 z0_) := ⟨Try.call96, fun w_ hw_ x0_ r_ hr_ v0_ S0_ hx0_ => by
     refine Calls.mono (board_breakers_1_ok hr_ hx0_) ?_
     rintro _ w_ ⟨_, rfl, oc_, hn_, rfl⟩
     exact ⟨_, rfl, hn_.below rfl, rv_bool.2 rfl⟩⟩
    obtain ⟨y66, q67, q60⟩ := bindE q60
    refine WL.stepG rfl rfl rfl hc64 (OW.call Try.call95 rfl (slices_ContainsFunc_int_int_ok q67 h45.rv hf65)) rfl ?_
    rintro _ w68 ⟨o72, hn_, rfl⟩
    obtain ⟨o69, ev70, hA71⟩ := adopt (o := o55) (ks := []) (Ks := [[102, 103]]) 112 ([]) [112] hn_ MbOk.nil rfl rfl rfl rfl
    have hE := hE.evo ev70 rfl rfl
    have h45 := h45.evo ev70 rfl
    refine WL.stepGE rfl rfl rfl hc64 (OW.pv (v := (.bool (!y66))) rfl) rfl ?_
    refine WL.stepE (OW.pickT rfl hc64 rfl) rfl ?_
    refine WL.p (.bool (!y66)) rfl rfl ?_
    refine WL.nil ?_
    have e73 := Option.some.inj q60
    subst e73
    exact NK.sb (hJ63 w68 o69 hE) ⟨rfl, trivial⟩
   ·have q60 := iteF hc64 q60
    refine WL.skipG rfl rfl rfl (by rw [hc64]; rfl) rfl ?_
    refine WL.skipG rfl rfl rfl (by rw [hc64]; rfl) rfl ?_
    refine WL.skipG rfl rfl rfl (by rw [hc64]; rfl) rfl ?_
    refine WL.stepE (OW.pickF rfl hc64 rfl) rfl ?_
    refine WL.p (.bool false) rfl rfl ?_
    refine WL.nil ?_
    have e74 := Option.some.inj q60
    subst e74
    exact NK.sb (hJ63 w54 o55 hE) ⟨rfl, trivial⟩
  refine CW.sub (L' := [(1, .pointer (some pa8)), (3, (vs28 3)), (4, (vs28 7)), (16, u1), (17, .int .i64 (len a0.Breakers)), (18, .int .i64 0)]) ⟨rfl, rfl, rfl, rfl, rfl, rfl, trivial⟩ ?_
  refine CW.loop (board_breakers_L1 a0) (fun s_ L_ w75 => ∃ (o76 : Cls) (x33 : (List Int)) (x36 : (List (List Int))) (x39 : Int) (v34 v37 : Value), (x33, x36, x39) = s_ ∧ L_ = [(1, .pointer (some pa8)), (3, v34), (4, v37), (16, u1), (17, .int .i64 (len a0.Breakers)), (18, .int .i64 x39)] ∧ En w0 e0 o76 w75 ∧ Ow 3 o76 101 [] w75 v34 x33 ∧ OwC 1 22 3 o76 102 103 w75 v37 x36 ∧ Bk o76 100 w75 pa8 [.int .i64 a0.Buses, u1, u2, u3, .int .i64 a0.Phase, .int .i64 a0.Frequency]) hl46 ?_ ?_
  ·exact ⟨o30, y14, y21, 0, (vs28 3), (vs28 7), rfl, rfl, hE, h20, h27, hb12⟩
  intro K77 s_ L_ w75 hi_ x78 hx79 hr80 hk81
  obtain ⟨o76, x33, x36, x39, v34, v37, rfl, rfl, hE, h35, h38, hb12⟩ := hi_
  rw [board_breakers_L1] at hx79
  refine CW.sr fun K82 hK82 => ?_
  refine WL.p (.bool ((decide (x39 < (len a0.Breakers))))) rfl rfl ?_
  refine WL.nx hK82 ?_
  refine CW.seq fun K83 hK83 => ?_
  refine CW.cond (b := (decide (x39 < (len a0.Breakers)))) rfl (fun hc84 => ?_) (fun hc84 => ?_)
  ·have hx79 := iteT hc84 hx79
   refine CW.skip ?_
   refine hK83 _ _ ?_
   refine CW.seq fun K85 hK85 => ?_
   refine CW.block ?_
   refine CW.sr fun K86 hK86 => ?_
   obtain ⟨y87, q91, hx79⟩ := bindE hx79
   refine WL.stepP (OW.indexAddr Try.underlying25 ty59 rfl (h4.baseM hE rfl) rfl q91) rfl fun _ ⟨pa88, hv_, hp89, he90⟩ => ?_
   subst hv_
   refine WL.stepP (OW.load ty59 rfl hp89) rfl fun v92 h93 => ?_
   obtain rfl := op59 h93
   refine WL.step (OW.allocK (o := o76) Breaker 104 [.int .i64 0, .int .i64 0, .int .i64 0] ty59 rfl) rfl ?_
   rintro _ w96 ⟨pa94, o95, rfl, ev97, hb98⟩
   have hE := hE.evo ev97 rfl rfl
   have h35 := h35.evo ev97 rfl
   have h38 := h38.evo ev97 rfl
   have hb12 := hb12.evo ev97 rfl
   refine WL.step0 (OW.storeK0 Breaker [.int .i64 y87.Kind, .int .i64 y87.A, .int .i64 y87.B] [.int .i64 y87.Kind, .int .i64 y87.A, .int .i64 y87.B] ty59 rfl rfl hb98 rfl ⟨rfl, rfl, rfl, trivial⟩ rfl rfl rfl) ?_
   rintro _ w99 ⟨ev100, hb98⟩
   have hE := hE.evo ev100 rfl rfl
   have h35 := h35.evo ev100 rfl
   have h38 := h38.evo ev100 rfl
   have hb12 := hb12.evo ev100 rfl
   refine WL.nx hK86 ?_
   refine CW.seq fun K101 hK101 => ?_
   refine CW.sr fun K102 hK102 => ?_
   refine WL.stepE (OW.fldAddr (FldOk.at f59_1) rfl) rfl ?_
   refine WL.stepE (OW.loadK (off := 1) Int (.int .i64 y87.A) ty3 rfl hb98 rfl rfl) rfl ?_
   refine WL.stepE (OW.fldAddr (FldOk.at f29_0) rfl) rfl ?_
   refine WL.stepE (OW.loadK (off := 0) Int (.int .i64 a0.Buses) ty3 rfl hb12 rfl rfl) rfl ?_
   refine WL.p (.int .i64 ((W (a0.Buses - 1)))) rfl rfl ?_
   obtain ⟨y103, q104, hx79⟩ := bindE hx79
   refine WL.step (OW.call Try.call63 rfl (board_in_ok q104)) rfl ?_
   rintro _ w105 ⟨o109, hn_, rfl⟩
   obtain ⟨o106, ev107, hA108⟩ := adopt (o := o95) (ks := []) (Ks := []) 105 ([]) [105] hn_ MbOk.nil rfl rfl rfl rfl
   have hE := hE.evo ev107 rfl rfl
   have h35 := h35.evo ev107 rfl
   have h38 := h38.evo ev107 rfl
   have hb12 := hb12.evo ev107 rfl
   have hb98 := hb98.evo ev107 rfl
   refine WL.p (.bool (!y103)) rfl rfl ?_
   refine WL.nx hK102 ?_
   refine CW.cond (b := (!y103)) rfl (fun hc110 => ?_) (fun hc110 => ?_)
   ·have hx79 := iteT hc110 hx79
    refine CW.sr fun K111 hK111 => ?_
    refine WL.p (.bool false) rfl rfl ?_
    refine WL.nx hK111 ?_
    have e_ := hr80 _ (Option.some.inj hx79).symm
    subst e_
    have hF := elimR hF
    obtain rfl := Option.some.inj hF
    exact CW.rets (vs := [.bool false]) Try.results85 ⟨rfl, trivial⟩ ⟨_, rfl, _, (hE.rn he0 100 [] rfl rfl), rfl⟩ (fun _ _ h => h)
   ·have hx79 := iteF hc110 hx79
    refine CW.skip ?_
    refine hK101 _ _ ?_
    refine CW.block ?_
    refine CW.sr fun K112 hK112 => ?_
    refine WL.stepE (OW.fldAddr (FldOk.at f59_0) rfl) rfl ?_
    refine WL.stepE (OW.loadK (off := 0) Int (.int .i64 y87.Kind) ty3 rfl hb98 rfl rfl) rfl ?_
    refine WL.p (.bool (((y87.Kind == 1)))) rfl rfl ?_
    refine WL.p (.bool (((y87.Kind == 1)))) rfl rfl ?_
    obtain ⟨x113, q114, hx79⟩ := bindE hx79
    have hJ117 : ∀ (w115 : World) (o116 : Cls), En w0 e0 o116 w115 → Ow 3 o116 101 [] w115 v34 x33 → OwC 1 22 3 o116 102 103 w115 v37 x36 → Bk o116 100 w115 pa8 [.int .i64 a0.Buses, u1, u2, u3, .int .i64 a0.Phase, .int .i64 a0.Frequency] → Bk o116 104 w115 pa94 [.int .i64 y87.Kind, .int .i64 y87.A, .int .i64 y87.B] → NK 116 K112 [(1, .pointer (some pa8)), (3, v34), (4, v37), (6, .pointer (some pa94)), (16, u1), (17, .int .i64 (len a0.Breakers)), (18, .int .i64 x39), (29, .bool x113)] w115 := by
     intro w115 o116  hE h35 h38 hb12 hb98
     refine hK112 _ _ ?_
     refine CW.cond (b := x113) rfl (fun hc118 => ?_) (fun hc118 => ?_)
     ·have hx79 := iteT hc118 hx79
      refine CW.skip ?_
      refine hK85 _ _ ?_
      refine CW.region ?_
      refine WL.p (.int .i64 ((W (x39 + 1)))) rfl rfl ?_
      refine WL.p (.int .i64 ((W (x39 + 1)))) rfl rfl ?_
      refine WL.nil ?_
      exact NK.sb (hk81 _ _ _ (Option.some.inj hx79).symm ⟨o116, x33, x36, (W (x39 + 1)), v34, v37, rfl, rfl, hE, h35, h38, hb12⟩) ⟨rfl, rfl, rfl, rfl, rfl, rfl, trivial⟩
     ·have hx79 := iteF hc118 hx79
      refine CW.sr fun K119 hK119 => ?_
      refine WL.stepE (OW.fldAddr (FldOk.at f59_0) rfl) rfl ?_
      refine WL.stepE (OW.loadK (off := 0) Int (.int .i64 y87.Kind) ty3 rfl hb98 rfl rfl) rfl ?_
      refine WL.p (.bool (((y87.Kind == 2)))) rfl rfl ?_
      refine WL.p (.bool (((y87.Kind == 2)))) rfl rfl ?_
      obtain ⟨x120, q121, hx79⟩ := bindE hx79
      have hJ124 : ∀ (w122 : World) (o123 : Cls), En w0 e0 o123 w122 → Ow 3 o123 101 [] w122 v34 x33 → OwC 1 22 3 o123 102 103 w122 v37 x36 → Bk o123 100 w122 pa8 [.int .i64 a0.Buses, u1, u2, u3, .int .i64 a0.Phase, .int .i64 a0.Frequency] → Bk o123 104 w122 pa94 [.int .i64 y87.Kind, .int .i64 y87.A, .int .i64 y87.B] → NK 116 K119 [(1, .pointer (some pa8)), (3, v34), (4, v37), (6, .pointer (some pa94)), (16, u1), (17, .int .i64 (len a0.Breakers)), (18, .int .i64 x39), (44, .bool x120)] w122 := by
       intro w122 o123  hE h35 h38 hb12 hb98
       refine hK119 _ _ ?_
       refine CW.cond (b := x120) rfl (fun hc125 => ?_) (fun hc125 => ?_)
       ·have hx79 := iteT hc125 hx79
        refine CW.region ?_
        refine WL.p v34 rfl rfl ?_
        refine WL.stepE (OW.fldAddr (FldOk.at f59_2) rfl) rfl ?_
        refine WL.stepE (OW.loadK (off := 2) Int (.int .i64 y87.B) ty3 rfl hb98 rfl rfl) rfl ?_
        obtain ⟨y126, q130, hx79⟩ := bindE hx79
        refine WL.stepP (OW.indexAddrO Try.underlying22 ty3 rfl h35 rfl q130) rfl fun _ ⟨pa127, hv_, hp128, he129⟩ => ?_
        subst hv_
        refine WL.stepE (OW.loadI ty3 rfl hp128.at) rfl ?_
        refine WL.p (.int .i64 ((W (y126 + 1)))) rfl rfl ?_
        refine WL.stepP (OW.indexAddrO Try.underlying22 ty3 rfl h35 rfl q130) rfl fun _ ⟨pa132, hv_, hp133, he134⟩ => ?_
        subst hv_
        obtain ⟨y135, q138, hx79⟩ := bindE hx79
        refine WL.step0 (OW.storeElem ty3 rfl he134 h35 rfl (rv_int.2 rfl) q138 rfl) ?_
        rintro _ w136 ⟨ev137, h139⟩
        have hE := hE.evo ev137 rfl rfl
        have h38 := h38.evo ev137 rfl
        have hb12 := hb12.evo ev137 rfl
        refine WL.nil ?_
        refine hK85 _ _ ?_
        refine CW.region ?_
        refine WL.p (.int .i64 ((W (x39 + 1)))) rfl rfl ?_
        refine WL.p (.int .i64 ((W (x39 + 1)))) rfl rfl ?_
        refine WL.nil ?_
        exact NK.sb (hk81 _ _ _ (Option.some.inj hx79).symm ⟨o123, y135, x36, (W (x39 + 1)), v34, v37, rfl, rfl, hE, h139, h38, hb12⟩) ⟨rfl, rfl, rfl, rfl, rfl, rfl, trivial⟩
       ·have hx79 := iteF hc125 hx79
        refine CW.seq fun K140 hK140 => ?_
        obtain ⟨x141, q142, hx79⟩ := bindE hx79
        have hJ145 : ∀ (w143 : World) (o144 : Cls), En w0 e0 o144 w143 → Ow 3 o144 101 [] w143 v34 x33 → OwC 1 22 3 o144 102 103 w143 v37 x36 → Bk o144 100 w143 pa8 [.int .i64 a0.Buses, u1, u2, u3, .int .i64 a0.Phase, .int .i64 a0.Frequency] → Bk o144 104 w143 pa94 [.int .i64 y87.Kind, .int .i64 y87.A, .int .i64 y87.B] → NK 116 K140 [(1, .pointer (some pa8)), (3, v34), (4, v37), (6, .pointer (some pa94)), (16, u1), (17, .int .i64 (len a0.Breakers)), (18, .int .i64 x39), (71, .bool x141)] w143 := by
         intro w143 o144  hE h35 h38 hb12 hb98
         refine hK140 _ _ ?_
         refine CW.cond (b := x141) rfl (fun hc146 => ?_) (fun hc146 => ?_)
         ·have hx79 := iteT hc146 hx79
          obtain ⟨y147, q151, hx79⟩ := bindE hx79
          obtain ⟨y160, q162, hx79⟩ := bindE hx79
          obtain ⟨y161, q163, hx79⟩ := bindE hx79
          have hd173 := Rv.hd h38.rv
          have ev_ := Evo.drew o144 w143
          refine CW.anyS (N := [102, 103, 110]) hmix [sOc none (some 11) [] 1 22 3 102 103 (vk v37) x36, sBk none none [] 104 (vk pa94) (vk ([.int .i64 y87.Kind, .int .i64 y87.A, .int .i64 y87.B])), sPo (some 6) (some 11) [6] 102 [103] (vp 0) y147, sEp (some 6) none [6] (vk v37) 1 y87.B (vp 0), sRv (some 7) (some 11) [7] [103] (vn 0) y147, sCe (some 7) (some 13) [6, 7] 102 (vp 0) (vn 1), sOw (some 10) none [10] 3 110 [] (vn 0) ([y87.A] : List Int), sOh (some 11) (some 13) [6, 11] 1 22 3 102 103 (vk v37) y161 (fun x_ => (pOf (x_.getD 0 undef)).add 0) (vn 1), sEp (some 12) none [12] (vk v37) 1 y87.B (vp 0), sOc (some 13) none [] 1 22 3 102 103 (vk v37) y161] [⟨[], [], [], [], vk v37, false⟩, ⟨[], [], [], [], vk (.pointer (some (pa94.add 2))), false⟩, ⟨[], [1], [1], [], vk (.int .i64 y87.B), false⟩, ⟨[], [], [], [], vk v37, false⟩, ⟨[], [], [], [], vk (.pointer (some (pa94.add 2))), false⟩, ⟨[], [1], [4], [], vk (.int .i64 y87.B), false⟩, ⟨[], [0], [3, 4, 5], [6], vq 0, false⟩, ⟨[], [2], rg 3 4, [7], vn 0, false⟩, ⟨[], [], [], [], vk (.pointer (some (pa94.add 1))), false⟩, ⟨[], [1], [8], [], vk (.int .i64 y87.A), false⟩, ⟨[], [], [8, 9], [10], vn 0, false⟩, ⟨[103], [0, 3, 5, 6], rg 3 8, [11], vn 0, false⟩, ⟨[], [], rg 0 12, [12], vq 0, false⟩, ⟨[102], [3, 7, 8], rg 0 13, [], vk undef, false⟩] [102, 103] hE rfl (by kernel_rfl) (by kernel_rfl) ⟨h38.evo ev_ rfl, hb98.evo ev_ rfl, trivial⟩ ⟨Ob.pv rfl rfl (fun _ => rfl) rfl (fun _ _ _ => trivial), ?_, ?_, Ob.pv rfl rfl (fun _ => rfl) rfl (fun _ _ _ => trivial), ?_, ?_, ?_, ?_, ?_, ?_, ?_, ?_, ?_, ?_, trivial⟩ ?_
          ·intro vs177 o_ w_ hE 
           exact OW.q [(6, .pointer (some pa94))] ⟨rfl, trivial⟩ (OW.fldAddr (FldOk.at f59_2) rfl) (er rfl trivial)
          ·intro vs177 o_ w_ hE hb98
           have hb98 := tBk hb98
           exact OW.q [(95, .pointer (some (pa94.add 2)))] ⟨rfl, trivial⟩ (OW.loadK (off := 2) Int (.int .i64 y87.B) ty3 rfl hb98 rfl rfl) (er rfl trivial)
          ·intro vs177 o_ w_ hE 
           exact OW.q [(6, .pointer (some pa94))] ⟨rfl, trivial⟩ (OW.fldAddr (FldOk.at f59_2) rfl) (er rfl trivial)
          ·intro vs177 o_ w_ hE hb98
           have hb98 := tBk hb98
           exact OW.q [(98, .pointer (some (pa94.add 2)))] ⟨rfl, trivial⟩ (OW.loadK (off := 2) Int (.int .i64 y87.B) ty3 rfl hb98 rfl rfl) (er rfl trivial)
          ·intro vs177 o_ w_ hE h38
           have h38 := tOc h38
           refine OW.r [(97, v37), (99, .int .i64 y87.B)] ⟨rfl, rfl, trivial⟩ (OW.indexAddrO Try.underlying115 ty22 rfl h38.ow rfl q151) ?_
           rintro _ _ ⟨rfl, ⟨pa148, hv_, hp149, he150⟩⟩
           subst hv_
           exact ⟨_, Evo.refl _ _ _ _, rfl, hp149, he150, trivial⟩
          ·intro vs177 o_ w_ hE hp149
           have hp149 := tPo hp149
           refine OW.r [(100, .pointer (some (pOf (vs177 6))))] ⟨rfl, trivial⟩ (OW.loadCh ty22 rfl hp149) ?_
           rintro v152 _ ⟨rfl, ⟨h153, hc154⟩⟩
           exact ⟨_, Evo.refl _ _ _ _, rfl, h153, hc154, trivial⟩
          ·intro vs177 o_ w_ hE 
           exact OW.q [(6, .pointer (some pa94))] ⟨rfl, trivial⟩ (OW.fldAddr (FldOk.at f59_1) rfl) (er rfl trivial)
          ·intro vs177 o_ w_ hE hb98
           have hb98 := tBk hb98
           exact OW.q [(102, .pointer (some (pa94.add 1)))] ⟨rfl, trivial⟩ (OW.loadK (off := 1) Int (.int .i64 y87.A) ty3 rfl hb98 rfl rfl) (er rfl trivial)
          ·intro vs177 o_ w_ hE 
           refine OW.r [(103, .int .i64 y87.A)] ⟨rfl, trivial⟩ (OW.buildSlice (o := o_) (k := 110) (K := []) (xs := ([y87.A] : List Int)) Try.underlying22 ty3 rfl ⟨(rv_int.2 rfl), trivial⟩ rfl rfl) ?_
           rintro v155 w156 ⟨o157, ev158, h159⟩
           exact ⟨o157, ev158.sub rfl rfl, rfl, h159, trivial⟩
          ·intro vs177 o_ w_ hE h38 he150 hc154 h159
           have h38 := tOc h38
           have he150 := tEp he150
           have hc154 := tCe hc154
           have h159 := tOw h159
           refine OW.r [(101, (vs177 7)), (104, (vs177 10))] ⟨rfl, rfl, trivial⟩ (OW.appendCh (off := 0) Prt.self Try.underlying22 ty3 rfl rfl h38 he150 (by rw [add_zero']; exact hc154) q151 h159.els q162 q163 rfl) ?_
           rintro v164 w165 ⟨o166, ev167, h168⟩
           exact ⟨o166, ev167.sub rfl rfl, rfl, h168, trivial⟩
          ·intro vs177 o_ w_ hE 
           refine OW.r [(94, v37), (96, .int .i64 y87.B)] ⟨rfl, rfl, trivial⟩ (OW.indexAddrH Try.underlying115 ty22 rfl hd173 rfl q151) ?_
           rintro _ _ ⟨rfl, ⟨pa170, hv_, he172⟩⟩
           subst hv_
           exact ⟨_, Evo.refl _ _ _ _, rfl, he172, trivial⟩
          ·intro vs177 o_ w_ hE he150 h168 he172
           have he150 := tEp he150
           have h168 := tOh h168
           have he172 := tEp he172
           refine OW.r [(105, (vs177 11)), (106, .pointer (some (pOf (vs177 12))))] ⟨rfl, rfl, trivial⟩ (OW.storeCh (off := 0) ty22 (by rw [add_zero']; rfl) rfl he150 he172 h168) ?_
           rintro _ w174 ⟨ev175, h176⟩
           exact ⟨o_, ev175.sub rfl rfl, trivial, h176, trivial⟩
          ·intro vs177 o179 w178 hE hb98 he150 h159 he172 h176
           obtain ⟨hE, evT_⟩ := hE
           have hb98 : Bk o179 104 w178 pa94 [.int .i64 y87.Kind, .int .i64 y87.A, .int .i64 y87.B] := hb98
           have he150 : EPtr v37 1 y87.B (pOf (vs177 6)) := he150
           have h159 : Ow 3 o179 110 [] w178 (vs177 10) ([y87.A] : List Int) := h159
           have he172 : EPtr v37 1 y87.B (pOf (vs177 12)) := he172
           have h176 : OwC 1 22 3 o179 102 103 w178 v37 y161 := h176
           have h35 := h35.evo evT_ rfl
           have hb12 := hb12.evo evT_ rfl
           refine hK85 _ _ ?_
           refine CW.region ?_
           refine WL.p (.int .i64 ((W (x39 + 1)))) rfl rfl ?_
           refine WL.p (.int .i64 ((W (x39 + 1)))) rfl rfl ?_
           refine WL.nil ?_
           exact NK.sb (hk81 _ _ _ (Option.some.inj hx79).symm ⟨o179, x33, y161, (W (x39 + 1)), v34, v37, rfl, rfl, hE, h35, h176, hb12⟩) ⟨rfl, rfl, rfl, rfl, rfl, rfl, trivial⟩
         ·have hx79 := iteF hc146 hx79
          refine CW.sr fun K180 hK180 => ?_
          refine WL.p (.bool false) rfl rfl ?_
          refine WL.nx hK180 ?_
          have e_ := hr80 _ (Option.some.inj hx79).symm
          subst e_
          have hF := elimR hF
          obtain rfl := Option.some.inj hF
          exact CW.rets (vs := [.bool false]) Try.results85 ⟨rfl, trivial⟩ ⟨_, rfl, _, (hE.rn he0 100 [] rfl rfl), rfl⟩ (fun _ _ h => h)
        rcases Bool.eq_false_or_eq_true (((y87.Kind == 3))) with hc181 | hc181
        ·have q142 := iteT hc181 q142
         obtain ⟨y182, q183, q142⟩ := bindE q142
         obtain ⟨x189, q190, q142⟩ := bindE q142
         have hJ193 : ∀ (w191 : World) (o192 : Cls), En w0 e0 o192 w191 → Ow 3 o192 101 [] w191 v34 x33 → OwC 1 22 3 o192 102 103 w191 v37 x36 → Bk o192 100 w191 pa8 [.int .i64 a0.Buses, u1, u2, u3, .int .i64 a0.Phase, .int .i64 a0.Frequency] → Bk o192 104 w191 pa94 [.int .i64 y87.Kind, .int .i64 y87.A, .int .i64 y87.B] → NK 116 K140 [(1, .pointer (some pa8)), (3, v34), (4, v37), (6, .pointer (some pa94)), (16, u1), (17, .int .i64 (len a0.Breakers)), (18, .int .i64 x39), (71, .bool x189), (76, .pointer (some (pa94.add 2))), (77, .int .i64 y87.B), (78, v37), (79, .int .i64 (len x36)), (80, .int .i64 ((W ((len x36) - 1)))), (81, .bool y182)] w191 := by
          intro w191 o192  hE h35 h38 hb12 hb98
          have e194 := Option.some.inj q142
          subst e194
          exact NK.sb (hJ145 w191 o192 hE h35 h38 hb12 hb98) ⟨rfl, rfl, rfl, rfl, rfl, rfl, rfl, rfl, trivial⟩
         rcases Bool.eq_false_or_eq_true y182 with hc195 | hc195
         ·have q190 := iteT hc195 q190
          obtain ⟨y196, q200, q190⟩ := bindE q190
          obtain ⟨y204, q205, q190⟩ := bindE q190
          have ev_ := Evo.drew o123 w122
          refine CW.anyS (N := [108, 109]) hmix [sOc none none [] 1 22 3 102 103 (vk v37) x36, sBk none none [] 104 (vk pa94) (vk ([.int .i64 y87.Kind, .int .i64 y87.A, .int .i64 y87.B])), sPo (some 15) none [15] 102 [103] (vp 0) y196, sEp (some 15) none [15] (vk v37) 1 y87.B (vp 0), sRv (some 16) none [16] [103] (vn 0) y196, sCe (some 16) none [15, 16] 102 (vp 0) (vn 1)] [⟨[], [], [], [], vk (.pointer (some (pa94.add 0))), false⟩, ⟨[], [1], [0], [], vk (.int .i64 y87.Kind), false⟩, ⟨[], [], [0, 1], [], vk (.bool (((y87.Kind == 3)))), false⟩, ⟨[], [], [0, 1, 2], [], vk (.bool (((y87.Kind == 3)))), false⟩, ⟨[], [], rg 0 4, [], vk (.pointer (some (pa94.add 2))), false⟩, ⟨[], [1], rg 0 5, [], vk (.int .i64 y87.B), false⟩, ⟨[], [], rg 0 4, [], vk v37, false⟩, ⟨[], [0], [0, 1, 2, 3, 6], [], vk (.int .i64 (len x36)), false⟩, ⟨[], [], [0, 1, 2, 3, 6, 7], [], vk (.int .i64 ((W ((len x36) - 1)))), false⟩, ⟨[], [], rg 0 9, [], vk (.bool y182), false⟩, ⟨[], [], rg 0 10, [], vk (.bool y182), false⟩, ⟨[], [], rg 0 11, [], vk (.bool y182), false⟩, ⟨[], [], rg 0 12, [], vk v37, false⟩, ⟨[], [], rg 0 12, [], vk (.pointer (some (pa94.add 2))), false⟩, ⟨[], [1], [0, 1, 2, 3, 4, 5, 6, 7, 8, 9, 10, 11, 13], [], vk (.int .i64 y87.B), false⟩, ⟨[], [0], rg 0 15, [15], vq 0, false⟩, ⟨[], [2], rg 0 16, [16], vn 0, false⟩, ⟨[], [], rg 0 12, [], vk (.pointer (some (pa94.add 1))), false⟩, ⟨[], [1], [0, 1, 2, 3, 4, 5, 6, 7, 8, 9, 10, 11, 17], [], vk (.int .i64 y87.A), false⟩, ⟨[], [4], rg 0 19, [], vk (.bool y204), false⟩, ⟨[], [], rg 0 20, [], vk (.bool (!y204)), false⟩, ⟨[], [], rg 0 21, [], vk (.bool (!y204)), false⟩, ⟨[], [], rg 0 22, [], vk (.bool (!y204)), false⟩] [] hE rfl (by kernel_rfl) (by kernel_rfl) ⟨h38.evo ev_ rfl, hb98.evo ev_ rfl, trivial⟩ ⟨?_, ?_, Ob.pv rfl rfl (fun _ => rfl) rfl (fun _ _ _ => trivial), Ob.pv rfl rfl (fun _ => rfl) rfl (fun _ _ _ => trivial), ?_, ?_, ?_, ?_, ?_, ?_, ?_, Ob.pv rfl rfl (fun _ => rfl) rfl (fun _ _ _ => trivial), ?_, ?_, ?_, ?_, ?_, ?_, ?_, ?_, ?_, ?_, Ob.pv rfl rfl (fun _ => rfl) rfl (fun _ _ _ => trivial), trivial⟩ ?_
          ·intro vs211 o_ w_ hE 
           exact OW.q [(6, .pointer (some pa94))] ⟨rfl, trivial⟩ (OW.fldAddr (FldOk.at f59_0) rfl) (er rfl trivial)
          ·intro vs211 o_ w_ hE hb98
           have hb98 := tBk hb98
           exact OW.q [(72, .pointer (some (pa94.add 0)))] ⟨rfl, trivial⟩ (OW.loadK (off := 0) Int (.int .i64 y87.Kind) ty3 rfl hb98 rfl rfl) (er rfl trivial)
          ·intro vs211 o_ w_ hE 
           refine ⟨⟨_, rfl, congrArg (fun b => some (Value.bool b)) hc181⟩, ?_⟩
           exact OW.q [(6, .pointer (some pa94))] ⟨rfl, trivial⟩ (OW.fldAddr (FldOk.at f59_2) rfl) (er rfl trivial)
          ·intro vs211 o_ w_ hE hb98
           have hb98 := tBk hb98
           refine ⟨⟨_, rfl, congrArg (fun b => some (Value.bool b)) hc181⟩, ?_⟩
           exact OW.q [(76, .pointer (some (pa94.add 2)))] ⟨rfl, trivial⟩ (OW.loadK (off := 2) Int (.int .i64 y87.B) ty3 rfl hb98 rfl rfl) (er rfl trivial)
          ·intro vs211 o_ w_ hE 
           refine ⟨⟨_, rfl, congrArg (fun b => some (Value.bool b)) hc181⟩, ?_⟩
           exact OW.q [(4, v37)] ⟨rfl, trivial⟩ (OW.pv (v := v37) rfl) (er rfl trivial)
          ·intro vs211 o_ w_ hE h38
           have h38 := tOc h38
           refine ⟨⟨_, rfl, congrArg (fun b => some (Value.bool b)) hc181⟩, ?_⟩
           exact OW.q [(78, v37)] ⟨rfl, trivial⟩ (OW.len Try.underlying115 rfl h38.rv) (er rfl trivial)
          ·intro vs211 o_ w_ hE 
           refine ⟨⟨_, rfl, congrArg (fun b => some (Value.bool b)) hc181⟩, ?_⟩
           exact OW.q [(79, .int .i64 (len x36))] ⟨rfl, trivial⟩ (OW.pv (v := (.int .i64 ((W ((len x36) - 1))))) rfl) (er rfl trivial)
          ·intro vs211 o_ w_ hE 
           refine ⟨⟨_, rfl, congrArg (fun b => some (Value.bool b)) hc181⟩, ?_⟩
           refine OW.r [(77, .int .i64 y87.B), (80, .int .i64 ((W ((len x36) - 1))))] ⟨rfl, rfl, trivial⟩ (OW.call Try.call63 rfl (board_in_ok q183)) ?_
           rintro _ w184 ⟨o188, hn_, rfl⟩
           obtain ⟨o185, ev186, hA187⟩ := adopt (o := o_) (ks := []) (Ks := []) 108 ([]) [108] hn_ MbOk.nil rfl rfl rfl rfl
           exact ⟨o185, ev186.sub rfl rfl, rfl, trivial⟩
          ·intro vs211 o_ w_ hE 
           exact OW.q [(75, .bool (((y87.Kind == 3)))), (81, .bool y182)] ⟨rfl, rfl, trivial⟩ (OW.pickT rfl hc181 rfl) (er rfl trivial)
          ·intro vs211 o_ w_ hE 
           refine ⟨⟨_, rfl, congrArg (fun b => some (Value.bool b)) hc195⟩, ?_⟩
           exact OW.q [(4, v37)] ⟨rfl, trivial⟩ (OW.pv (v := v37) rfl) (er rfl trivial)
          ·intro vs211 o_ w_ hE 
           refine ⟨⟨_, rfl, congrArg (fun b => some (Value.bool b)) hc195⟩, ?_⟩
           exact OW.q [(6, .pointer (some pa94))] ⟨rfl, trivial⟩ (OW.fldAddr (FldOk.at f59_2) rfl) (er rfl trivial)
          ·intro vs211 o_ w_ hE hb98
           have hb98 := tBk hb98
           refine ⟨⟨_, rfl, congrArg (fun b => some (Value.bool b)) hc195⟩, ?_⟩
           exact OW.q [(85, .pointer (some (pa94.add 2)))] ⟨rfl, trivial⟩ (OW.loadK (off := 2) Int (.int .i64 y87.B) ty3 rfl hb98 rfl rfl) (er rfl trivial)
          ·intro vs211 o_ w_ hE h38
           have h38 := tOc h38
           refine ⟨⟨_, rfl, congrArg (fun b => some (Value.bool b)) hc195⟩, ?_⟩
           refine OW.r [(84, v37), (86, .int .i64 y87.B)] ⟨rfl, rfl, trivial⟩ (OW.indexAddrO Try.underlying115 ty22 rfl h38.ow rfl q200) ?_
           rintro _ _ ⟨rfl, ⟨pa197, hv_, hp198, he199⟩⟩
           subst hv_
           exact ⟨_, Evo.refl _ _ _ _, rfl, hp198, he199, trivial⟩
          ·intro vs211 o_ w_ hE hp198
           have hp198 := tPo hp198
           refine ⟨⟨_, rfl, congrArg (fun b => some (Value.bool b)) hc195⟩, ?_⟩
           refine OW.r [(87, .pointer (some (pOf (vs211 15))))] ⟨rfl, trivial⟩ (OW.loadCh ty22 rfl hp198) ?_
           rintro v201 _ ⟨rfl, ⟨h202, hc203⟩⟩
           exact ⟨_, Evo.refl _ _ _ _, rfl, h202, hc203, trivial⟩
          ·intro vs211 o_ w_ hE 
           refine ⟨⟨_, rfl, congrArg (fun b => some (Value.bool b)) hc195⟩, ?_⟩
           exact OW.q [(6, .pointer (some pa94))] ⟨rfl, trivial⟩ (OW.fldAddr (FldOk.at f59_1) rfl) (er rfl trivial)
          ·intro vs211 o_ w_ hE hb98
           have hb98 := tBk hb98
           refine ⟨⟨_, rfl, congrArg (fun b => some (Value.bool b)) hc195⟩, ?_⟩
           exact OW.q [(89, .pointer (some (pa94.add 1)))] ⟨rfl, trivial⟩ (OW.loadK (off := 1) Int (.int .i64 y87.A) ty3 rfl hb98 rfl rfl) (er rfl trivial)
          ·intro vs211 o_ w_ hE h202
           have h202 := tRv h202
           refine ⟨⟨_, rfl, congrArg (fun b => some (Value.bool b)) hc195⟩, ?_⟩
           refine OW.r [(88, (vs211 16)), (90, .int .i64 y87.A)] ⟨rfl, rfl, trivial⟩ (OW.call Try.call45 rfl (slices_Contains_int_int_ok q205 h202)) ?_
           rintro _ w206 ⟨o210, hn_, rfl⟩
           obtain ⟨o207, ev208, hA209⟩ := adopt (o := o_) (ks := []) (Ks := [[103]]) 109 ([]) [109] hn_ MbOk.nil rfl rfl rfl rfl
           exact ⟨o207, ev208.sub rfl rfl, rfl, trivial⟩
          ·intro vs211 o_ w_ hE 
           refine ⟨⟨_, rfl, congrArg (fun b => some (Value.bool b)) hc195⟩, ?_⟩
           exact OW.q [(91, .bool y204)] ⟨rfl, trivial⟩ (OW.pv (v := (.bool (!y204))) rfl) (er rfl trivial)
          ·intro vs211 o_ w_ hE 
           exact OW.q [(83, .bool y182), (92, .bool (!y204))] ⟨rfl, rfl, trivial⟩ (OW.pickT rfl hc195 rfl) (er rfl trivial)
          ·intro vs211 o213 w212 hE h38 hb98 hp198 he199 h202 hc203
           obtain ⟨hE, evT_⟩ := hE
           have h38 : OwC 1 22 3 o213 102 103 w212 v37 x36 := h38
           have hb98 : Bk o213 104 w212 pa94 [.int .i64 y87.Kind, .int .i64 y87.A, .int .i64 y87.B] := hb98
           have hp198 : PtrO o213 102 [103] w212 (pOf (vs211 15)) y196 := hp198
           have he199 : EPtr v37 1 y87.B (pOf (vs211 15)) := he199
           have h202 : Rv (In o213 [103]) w212 (vs211 16) y196 := h202
           have hc203 : CellIs o213 102 w212 (pOf (vs211 15)) (vs211 16) := hc203
           have h35 := h35.evo evT_ rfl
           have hb12 := hb12.evo evT_ rfl
           have e214 := Option.some.inj q190
           subst e214
           exact NK.sb (hJ193 w212 o213 hE h35 h38 hb12 hb98) ⟨rfl, rfl, rfl, rfl, rfl, rfl, rfl, rfl, rfl, rfl, rfl, rfl, rfl, rfl, trivial⟩
         ·have q190 := iteF hc195 q190
          have ev_ := Evo.drew o123 w122
          refine CW.anyS (N := [108]) hmix [sOc none none [] 1 22 3 102 103 (vk v37) x36, sBk none none [] 104 (vk pa94) (vk ([.int .i64 y87.Kind, .int .i64 y87.A, .int .i64 y87.B]))] [⟨[], [], [], [], vk (.pointer (some (pa94.add 0))), false⟩, ⟨[], [1], [0], [], vk (.int .i64 y87.Kind), false⟩, ⟨[], [], [0, 1], [], vk (.bool (((y87.Kind == 3)))), false⟩, ⟨[], [], [0, 1, 2], [], vk (.bool (((y87.Kind == 3)))), false⟩, ⟨[], [], rg 0 4, [], vk (.pointer (some (pa94.add 2))), false⟩, ⟨[], [1], rg 0 5, [], vk (.int .i64 y87.B), false⟩, ⟨[], [], rg 0 4, [], vk v37, false⟩, ⟨[], [0], [0, 1, 2, 3, 6], [], vk (.int .i64 (len x36)), false⟩, ⟨[], [], [0, 1, 2, 3, 6, 7], [], vk (.int .i64 ((W ((len x36) - 1)))), false⟩, ⟨[], [], rg 0 9, [], vk (.bool y182), false⟩, ⟨[], [], rg 0 10, [], vk (.bool y182), false⟩, ⟨[], [], rg 0 11, [], vk (.bool y182), false⟩, ⟨[], [], rg 0 12, [], vk undef, true⟩, ⟨[], [], rg 0 12, [], vk undef, true⟩, ⟨[], [], [0, 1, 2, 3, 4, 5, 6, 7, 8, 9, 10, 11, 13], [], vk undef, true⟩, ⟨[], [], rg 0 15, [], vk undef, true⟩, ⟨[], [], rg 0 16, [], vk undef, true⟩, ⟨[], [], rg 0 12, [], vk undef, true⟩, ⟨[], [], [0, 1, 2, 3, 4, 5, 6, 7, 8, 9, 10, 11, 17], [], vk undef, true⟩, ⟨[], [], rg 0 19, [], vk undef, true⟩, ⟨[], [], rg 0 20, [], vk undef, true⟩, ⟨[], [], rg 0 21, [], vk (.bool false), false⟩, ⟨[], [], rg 0 22, [], vk (.bool false), false⟩] [] hE rfl (by kernel_rfl) (by kernel_rfl) ⟨h38.evo ev_ rfl, hb98.evo ev_ rfl, trivial⟩ ⟨?_, ?_, Ob.pv rfl rfl (fun _ => rfl) rfl (fun _ _ _ => trivial), Ob.pv rfl rfl (fun _ => rfl) rfl (fun _ _ _ => trivial), ?_, ?_, ?_, ?_, ?_, ?_, ?_, Ob.pv rfl rfl (fun _ => rfl) rfl (fun _ _ _ => trivial), ?_, ?_, ?_, ?_, ?_, ?_, ?_, ?_, ?_, ?_, Ob.pv rfl rfl (fun _ => rfl) rfl (fun _ _ _ => trivial), trivial⟩ ?_
          ·intro vs215 o_ w_ hE 
           exact OW.q [(6, .pointer (some pa94))] ⟨rfl, trivial⟩ (OW.fldAddr (FldOk.at f59_0) rfl) (er rfl trivial)
          ·intro vs215 o_ w_ hE hb98
           have hb98 := tBk hb98
           exact OW.q [(72, .pointer (some (pa94.add 0)))] ⟨rfl, trivial⟩ (OW.loadK (off := 0) Int (.int .i64 y87.Kind) ty3 rfl hb98 rfl rfl) (er rfl trivial)
          ·intro vs215 o_ w_ hE 
           refine ⟨⟨_, rfl, congrArg (fun b => some (Value.bool b)) hc181⟩, ?_⟩
           exact OW.q [(6, .pointer (some pa94))] ⟨rfl, trivial⟩ (OW.fldAddr (FldOk.at f59_2) rfl) (er rfl trivial)
          ·intro vs215 o_ w_ hE hb98
           have hb98 := tBk hb98
           refine ⟨⟨_, rfl, congrArg (fun b => some (Value.bool b)) hc181⟩, ?_⟩
           exact OW.q [(76, .pointer (some (pa94.add 2)))] ⟨rfl, trivial⟩ (OW.loadK (off := 2) Int (.int .i64 y87.B) ty3 rfl hb98 rfl rfl) (er rfl trivial)
          ·intro vs215 o_ w_ hE 
           refine ⟨⟨_, rfl, congrArg (fun b => some (Value.bool b)) hc181⟩, ?_⟩
           exact OW.q [(4, v37)] ⟨rfl, trivial⟩ (OW.pv (v := v37) rfl) (er rfl trivial)
          ·intro vs215 o_ w_ hE h38
           have h38 := tOc h38
           refine ⟨⟨_, rfl, congrArg (fun b => some (Value.bool b)) hc181⟩, ?_⟩
           exact OW.q [(78, v37)] ⟨rfl, trivial⟩ (OW.len Try.underlying115 rfl h38.rv) (er rfl trivial)
          ·intro vs215 o_ w_ hE 
           refine ⟨⟨_, rfl, congrArg (fun b => some (Value.bool b)) hc181⟩, ?_⟩
           exact OW.q [(79, .int .i64 (len x36))] ⟨rfl, trivial⟩ (OW.pv (v := (.int .i64 ((W ((len x36) - 1))))) rfl) (er rfl trivial)
          ·intro vs215 o_ w_ hE 
           refine ⟨⟨_, rfl, congrArg (fun b => some (Value.bool b)) hc181⟩, ?_⟩
           refine OW.r [(77, .int .i64 y87.B), (80, .int .i64 ((W ((len x36) - 1))))] ⟨rfl, rfl, trivial⟩ (OW.call Try.call63 rfl (board_in_ok q183)) ?_
           rintro _ w184 ⟨o188, hn_, rfl⟩
           obtain ⟨o185, ev186, hA187⟩ := adopt (o := o_) (ks := []) (Ks := []) 108 ([]) [108] hn_ MbOk.nil rfl rfl rfl rfl
           exact ⟨o185, ev186.sub rfl rfl, rfl, trivial⟩
          ·intro vs215 o_ w_ hE 
           exact OW.q [(75, .bool (((y87.Kind == 3)))), (81, .bool y182)] ⟨rfl, rfl, trivial⟩ (OW.pickT rfl hc181 rfl) (er rfl trivial)
          ·intro vs215 o_ w_ hE 
           exact ⟨⟨_, rfl, .inl (congrArg (fun b => some (Value.bool b)) hc195)⟩, rfl, trivial⟩
          ·intro vs215 o_ w_ hE 
           exact ⟨⟨_, rfl, .inl (congrArg (fun b => some (Value.bool b)) hc195)⟩, rfl, trivial⟩
          ·intro vs215 o_ w_ hE 
           exact ⟨⟨_, rfl, .inl (congrArg (fun b => some (Value.bool b)) hc195)⟩, rfl, trivial⟩
          ·intro vs215 o_ w_ hE 
           exact ⟨⟨_, rfl, .inl (congrArg (fun b => some (Value.bool b)) hc195)⟩, rfl, trivial⟩
          ·intro vs215 o_ w_ hE 
           exact ⟨⟨_, rfl, .inl (congrArg (fun b => some (Value.bool b)) hc195)⟩, rfl, trivial⟩
          ·intro vs215 o_ w_ hE 
           exact ⟨⟨_, rfl, .inl (congrArg (fun b => some (Value.bool b)) hc195)⟩, rfl, trivial⟩
          ·intro vs215 o_ w_ hE 
           exact ⟨⟨_, rfl, .inl (congrArg (fun b => some (Value.bool b)) hc195)⟩, rfl, trivial⟩
          ·intro vs215 o_ w_ hE 
           exact ⟨⟨_, rfl, .inl (congrArg (fun b => some (Value.bool b)) hc195)⟩, rfl, trivial⟩
          ·intro vs215 o_ w_ hE 
           exact ⟨⟨_, rfl, .inl (congrArg (fun b => some (Value.bool b)) hc195)⟩, rfl, trivial⟩
          ·intro vs215 o_ w_ hE 
           exact OW.q [(83, .bool y182), (92, undef)] ⟨rfl, rfl, trivial⟩ (OW.pickF rfl hc195 rfl) (er rfl trivial)
          ·intro vs215 o217 w216 hE h38 hb98
           obtain ⟨hE, evT_⟩ := hE
           have h38 : OwC 1 22 3 o217 102 103 w216 v37 x36 := h38
           have hb98 : Bk o217 104 w216 pa94 [.int .i64 y87.Kind, .int .i64 y87.A, .int .i64 y87.B] := hb98
           have h35 := h35.evo evT_ rfl
           have hb12 := hb12.evo evT_ rfl
           have e218 := Option.some.inj q190
           subst e218
           exact NK.sb (hJ193 w216 o217 hE h35 h38 hb12 hb98) ⟨rfl, rfl, rfl, rfl, rfl, rfl, rfl, rfl, rfl, rfl, rfl, rfl, rfl, rfl, trivial⟩
        ·have q142 := iteF hc181 q142
         have ev_ := Evo.drew o123 w122
         refine CW.anyS (N := []) hmix [sBk none none [] 104 (vk pa94) (vk ([.int .i64 y87.Kind, .int .i64 y87.A, .int .i64 y87.B]))] [⟨[], [], [], [], vk (.pointer (some (pa94.add 0))), false⟩, ⟨[], [0], [0], [], vk (.int .i64 y87.Kind), false⟩, ⟨[], [], [0, 1], [], vk (.bool (((y87.Kind == 3)))), false⟩, ⟨[], [], [0, 1, 2], [], vk (.bool (((y87.Kind == 3)))), false⟩, ⟨[], [], rg 0 4, [], vk undef, true⟩, ⟨[], [], rg 0 5, [], vk undef, true⟩, ⟨[], [], rg 0 4, [], vk undef, true⟩, ⟨[], [], [0, 1, 2, 3, 6], [], vk undef, true⟩, ⟨[], [], [0, 1, 2, 3, 6, 7], [], vk undef, true⟩, ⟨[], [], rg 0 9, [], vk undef, true⟩, ⟨[], [], rg 0 10, [], vk (.bool false), false⟩, ⟨[], [], rg 0 11, [], vk (.bool false), false⟩, ⟨[], [], rg 0 12, [], vk undef, true⟩, ⟨[], [], rg 0 12, [], vk undef, true⟩, ⟨[], [], [0, 1, 2, 3, 4, 5, 6, 7, 8, 9, 10, 11, 13], [], vk undef, true⟩, ⟨[], [], rg 0 15, [], vk undef, true⟩, ⟨[], [], rg 0 16, [], vk undef, true⟩, ⟨[], [], rg 0 12, [], vk undef, true⟩, ⟨[], [], [0, 1, 2, 3, 4, 5, 6, 7, 8, 9, 10, 11, 17], [], vk undef, true⟩, ⟨[], [], rg 0 19, [], vk undef, true⟩, ⟨[], [], rg 0 20, [], vk undef, true⟩, ⟨[], [], rg 0 21, [], vk (.bool false), false⟩, ⟨[], [], rg 0 22, [], vk (.bool false), false⟩] [] hE rfl (by kernel_rfl) (by kernel_rfl) ⟨hb98.evo ev_ rfl, trivial⟩ ⟨?_, ?_, Ob.pv rfl rfl (fun _ => rfl) rfl (fun _ _ _ => trivial), Ob.pv rfl rfl (fun _ => rfl) rfl (fun _ _ _ => trivial), ?_, ?_, ?_, ?_, ?_, ?_, ?_, Ob.pv rfl rfl (fun _ => rfl) rfl (fun _ _ _ => trivial), ?_, ?_, ?_, ?_, ?_, ?_, ?_, ?_, ?_, ?_, Ob.pv rfl rfl (fun _ => rfl) rfl (fun _ _ _ => trivial), trivial⟩ ?_
         ·intro vs219 o_ w_ hE 
          exact OW.q [(6, .pointer (some pa94))] ⟨rfl, trivial⟩ (OW.fldAddr (FldOk.at f59_0) rfl) (er rfl trivial)
         ·intro vs219 o_ w_ hE hb98
          have hb98 := tBk hb98
          exact OW.q [(72, .pointer (some (pa94.add 0)))] ⟨rfl, trivial⟩ (OW.loadK (off := 0) Int (.int .i64 y87.Kind) ty3 rfl hb98 rfl rfl) (er rfl trivial)
         ·intro vs219 o_ w_ hE 
          exact ⟨⟨_, rfl, .inl (congrArg (fun b => some (Value.bool b)) hc181)⟩, rfl, trivial⟩
         ·intro vs219 o_ w_ hE 
          exact ⟨⟨_, rfl, .inl (congrArg (fun b => some (Value.bool b)) hc181)⟩, rfl, trivial⟩
         ·intro vs219 o_ w_ hE 
          exact ⟨⟨_, rfl, .inl (congrArg (fun b => some (Value.bool b)) hc181)⟩, rfl, trivial⟩
         ·intro vs219 o_ w_ hE 
          exact ⟨⟨_, rfl, .inl (congrArg (fun b => some (Value.bool b)) hc181)⟩, rfl, trivial⟩
         ·intro vs219 o_ w_ hE 
          exact ⟨⟨_, rfl, .inl (congrArg (fun b => some (Value.bool b)) hc181)⟩, rfl, trivial⟩
         ·intro vs219 o_ w_ hE 
          exact ⟨⟨_, rfl, .inl (congrArg (fun b => some (Value.bool b)) hc181)⟩, rfl, trivial⟩
         ·intro vs219 o_ w_ hE 
          exact OW.q [(75, .bool (((y87.Kind == 3)))), (81, undef)] ⟨rfl, rfl, trivial⟩ (OW.pickF rfl hc181 rfl) (er rfl trivial)
         ·intro vs219 o_ w_ hE 
          exact ⟨⟨_, rfl, .inl rfl⟩, rfl, trivial⟩
         ·intro vs219 o_ w_ hE 
          exact ⟨⟨_, rfl, .inl rfl⟩, rfl, trivial⟩
         ·intro vs219 o_ w_ hE 
          exact ⟨⟨_, rfl, .inl rfl⟩, rfl, trivial⟩
         ·intro vs219 o_ w_ hE 
          exact ⟨⟨_, rfl, .inl rfl⟩, rfl, trivial⟩
         ·intro vs219 o_ w_ hE 
          exact ⟨⟨_, rfl, .inl rfl⟩, rfl, trivial⟩
         ·intro vs219 o_ w_ hE 
          exact ⟨⟨_, rfl, .inl rfl⟩, rfl, trivial⟩
         ·intro vs219 o_ w_ hE 
          exact ⟨⟨_, rfl, .inl rfl⟩, rfl, trivial⟩
         ·intro vs219 o_ w_ hE 
          exact ⟨⟨_, rfl, .inl rfl⟩, rfl, trivial⟩
         ·intro vs219 o_ w_ hE 
          exact ⟨⟨_, rfl, .inl rfl⟩, rfl, trivial⟩
         ·intro vs219 o_ w_ hE 
          exact OW.q [(83, .bool false), (92, undef)] ⟨rfl, rfl, trivial⟩ (OW.pickF rfl rfl rfl) (er rfl trivial)
         ·intro vs219 o221 w220 hE hb98
          obtain ⟨hE, evT_⟩ := hE
          have hb98 : Bk o221 104 w220 pa94 [.int .i64 y87.Kind, .int .i64 y87.A, .int .i64 y87.B] := hb98
          have h35 := h35.evo evT_ rfl
          have h38 := h38.evo evT_ rfl
          have hb12 := hb12.evo evT_ rfl
          have e222 := Option.some.inj q142
          subst e222
          exact NK.sb (hJ145 w220 o221 hE h35 h38 hb12 hb98) ⟨rfl, rfl, rfl, rfl, rfl, rfl, rfl, rfl, trivial⟩
      rcases Bool.eq_false_or_eq_true (((y87.Kind == 2))) with hc223 | hc223
      ·have q121 := iteT hc223 q121
       refine WL.stepGE rfl rfl rfl hc223 (OW.fldAddr (FldOk.at f59_2) rfl) rfl ?_
       refine WL.stepGE rfl rfl rfl hc223 (OW.loadK (off := 2) Int (.int .i64 y87.B) ty3 rfl hb98 rfl rfl) rfl ?_
       refine WL.stepGE rfl rfl rfl hc223 (OW.pv (v := v34) rfl) rfl ?_
       refine WL.stepGE rfl rfl rfl hc223 (OW.len Try.underlying22 rfl h35.rv) rfl ?_
       refine WL.stepGE rfl rfl rfl hc223 (OW.pv (v := (.int .i64 ((W ((len x33) - 1))))) rfl) rfl ?_
       obtain ⟨y224, q225, q121⟩ := bindE q121
       refine WL.stepG rfl rfl rfl hc223 (OW.call Try.call63 rfl (board_in_ok q225)) rfl ?_
       rintro _ w226 ⟨o230, hn_, rfl⟩
       obtain ⟨o227, ev228, hA229⟩ := adopt (o := o116) (ks := []) (Ks := []) 107 ([]) [107] hn_ MbOk.nil rfl rfl rfl rfl
       have hE := hE.evo ev228 rfl rfl
       have h35 := h35.evo ev228 rfl
       have h38 := h38.evo ev228 rfl
       have hb12 := hb12.evo ev228 rfl
       have hb98 := hb98.evo ev228 rfl
       refine WL.stepE (OW.pickT rfl hc223 rfl) rfl ?_
       refine WL.p (.bool y224) rfl rfl ?_
       obtain ⟨x231, q232, q121⟩ := bindE q121
       have hJ235 : ∀ (w233 : World) (o234 : Cls), En w0 e0 o234 w233 → Ow 3 o234 101 [] w233 v34 x33 → OwC 1 22 3 o234 102 103 w233 v37 x36 → Bk o234 100 w233 pa8 [.int .i64 a0.Buses, u1, u2, u3, .int .i64 a0.Phase, .int .i64 a0.Frequency] → Bk o234 104 w233 pa94 [.int .i64 y87.Kind, .int .i64 y87.A, .int .i64 y87.B] → NK 116 K119 [(1, .pointer (some pa8)), (3, v34), (4, v37), (6, .pointer (some pa94)), (16, u1), (17, .int .i64 (len a0.Breakers)), (18, .int .i64 x39), (44, .bool x231), (49, .pointer (some (pa94.add 2))), (50, .int .i64 y87.B), (51, v34), (52, .int .i64 (len x33)), (53, .int .i64 ((W ((len x33) - 1)))), (54, .bool y224)] w233 := by
        intro w233 o234  hE h35 h38 hb12 hb98
        have e236 := Option.some.inj q121
        subst e236
        exact NK.sb (hJ124 w233 o234 hE h35 h38 hb12 hb98) ⟨rfl, rfl, rfl, rfl, rfl, rfl, rfl, rfl, trivial⟩
       rcases Bool.eq_false_or_eq_true y224 with hc237 | hc237
       ·have q232 := iteT hc237 q232
        refine WL.stepGE rfl rfl rfl hc237 (OW.pv (v := v34) rfl) rfl ?_
        refine WL.stepGE rfl rfl rfl hc237 (OW.fldAddr (FldOk.at f59_2) rfl) rfl ?_
        refine WL.stepGE rfl rfl rfl hc237 (OW.loadK (off := 2) Int (.int .i64 y87.B) ty3 rfl hb98 rfl rfl) rfl ?_
        obtain ⟨y238, q242, q232⟩ := bindE q232
        refine WL.stepGP rfl rfl rfl hc237 (OW.indexAddrO Try.underlying22 ty3 rfl h35 rfl q242) rfl fun _ ⟨pa239, hv_, hp240, he241⟩ => ?_
        subst hv_
        refine WL.stepGE rfl rfl rfl hc237 (OW.loadI ty3 rfl hp240.at) rfl ?_
        refine WL.stepGE rfl rfl rfl hc237 (OW.pv (v := (.bool (((y238 == 0))))) rfl) rfl ?_
        refine WL.stepE (OW.pickT rfl hc237 rfl) rfl ?_
        refine WL.p (.bool (((y238 == 0)))) rfl rfl ?_
        refine WL.nil ?_
        have e243 := Option.some.inj q232
        subst e243
        exact NK.sb (hJ235 w226 o227 hE h35 h38 hb12 hb98) ⟨rfl, rfl, rfl, rfl, rfl, rfl, rfl, rfl, rfl, rfl, rfl, rfl, rfl, rfl, trivial⟩
       ·have q232 := iteF hc237 q232
        refine WL.skipG rfl rfl rfl (by rw [hc237]; rfl) rfl ?_
        refine WL.skipG rfl rfl rfl (by rw [hc237]; rfl) rfl ?_
        refine WL.skipG rfl rfl rfl (by rw [hc237]; rfl) rfl ?_
        refine WL.skipG rfl rfl rfl (by rw [hc237]; rfl) rfl ?_
        refine WL.skipG rfl rfl rfl (by rw [hc237]; rfl) rfl ?_
        refine WL.skipG rfl rfl rfl (by rw [hc237]; rfl) rfl ?_
        refine WL.stepE (OW.pickF rfl hc237 rfl) rfl ?_
        refine WL.p (.bool false) rfl rfl ?_
        refine WL.nil ?_
        have e244 := Option.some.inj q232
        subst e244
        exact NK.sb (hJ235 w226 o227 hE h35 h38 hb12 hb98) ⟨rfl, rfl, rfl, rfl, rfl, rfl, rfl, rfl, rfl, rfl, rfl, rfl, rfl, rfl, trivial⟩
      ·have q121 := iteF hc223 q121
       refine WL.skipG rfl rfl rfl (by rw [hc223]; rfl) rfl ?_
       refine WL.skipG rfl rfl rfl (by rw [hc223]; rfl) rfl ?_
       refine WL.skipG rfl rfl rfl (by rw [hc223]; rfl) rfl ?_
       refine WL.skipG rfl rfl rfl (by rw [hc223]; rfl) rfl ?_
       refine WL.skipG rfl rfl rfl (by rw [hc223]; rfl) rfl ?_
       refine WL.skipG rfl rfl rfl (by rw [hc223]; rfl) rfl ?_
       refine WL.stepE (OW.pickF rfl hc223 rfl) rfl ?_
       refine WL.p (.bool false) rfl rfl ?_
       refine WL.skipG rfl rfl rfl rfl rfl ?_
       refine WL.skipG rfl rfl rfl rfl rfl ?_
       refine WL.skipG rfl rfl rfl rfl rfl ?_
       refine WL.skipG rfl rfl rfl rfl rfl ?_
       refine WL.skipG rfl rfl rfl rfl rfl ?_
       refine WL.skipG rfl rfl rfl rfl rfl ?_
       refine WL.stepE (OW.pickF rfl rfl rfl) rfl ?_
       refine WL.p (.bool false) rfl rfl ?_
       refine WL.nil ?_
       have e245 := Option.some.inj q121
       subst e245
       exact NK.sb (hJ124 w115 o116 hE h35 h38 hb12 hb98) ⟨rfl, rfl, rfl, rfl, rfl, rfl, rfl, rfl, trivial⟩
    rcases Bool.eq_false_or_eq_true (((y87.Kind == 1))) with hc246 | hc246
    ·have q114 := iteT hc246 q114
     refine WL.stepGE rfl rfl rfl hc246 (OW.fldAddr (FldOk.at f59_2) rfl) rfl ?_
     refine WL.stepGE rfl rfl rfl hc246 (OW.loadK (off := 2) Int (.int .i64 y87.B) ty3 rfl hb98 rfl rfl) rfl ?_
     refine WL.stepGE rfl rfl rfl hc246 (OW.fldAddr (FldOk.at f59_1) rfl) rfl ?_
     refine WL.stepGE rfl rfl rfl hc246 (OW.loadK (off := 1) Int (.int .i64 y87.A) ty3 rfl hb98 rfl rfl) rfl ?_
     refine WL.stepGE rfl rfl rfl hc246 (OW.pv (v := (.int .i64 ((W (y87.A + 1))))) rfl) rfl ?_
     refine WL.stepGE rfl rfl rfl hc246 (OW.fldAddr (FldOk.at f29_0) rfl) rfl ?_
     refine WL.stepGE rfl rfl rfl hc246 (OW.loadK (off := 0) Int (.int .i64 a0.Buses) ty3 rfl hb12 rfl rfl) rfl ?_
     refine WL.stepGE rfl rfl rfl hc246 (OW.pv (v := (.int .i64 ((W (a0.Buses - 1))))) rfl) rfl ?_
     obtain ⟨y247, q248, q114⟩ := bindE q114
     refine WL.stepG rfl rfl rfl hc246 (OW.call Try.call63 rfl (board_in_ok q248)) rfl ?_
     rintro _ w249 ⟨o253, hn_, rfl⟩
     obtain ⟨o250, ev251, hA252⟩ := adopt (o := o106) (ks := []) (Ks := []) 106 ([]) [106] hn_ MbOk.nil rfl rfl rfl rfl
     have hE := hE.evo ev251 rfl rfl
     have h35 := h35.evo ev251 rfl
     have h38 := h38.evo ev251 rfl
     have hb12 := hb12.evo ev251 rfl
     have hb98 := hb98.evo ev251 rfl
     refine WL.stepE (OW.pickT rfl hc246 rfl) rfl ?_
     refine WL.p (.bool y247) rfl rfl ?_
     refine WL.nil ?_
     have e254 := Option.some.inj q114
     subst e254
     exact NK.sb (hJ117 w249 o250 hE h35 h38 hb12 hb98) ⟨rfl, rfl, rfl, rfl, rfl, rfl, rfl, rfl, trivial⟩
    ·have q114 := iteF hc246 q114
     refine WL.skipG rfl rfl rfl (by rw [hc246]; rfl) rfl ?_
     refine WL.skipG rfl rfl rfl (by rw [hc246]; rfl) rfl ?_
     refine WL.skipG rfl rfl rfl (by rw [hc246]; rfl) rfl ?_
     refine WL.skipG rfl rfl rfl (by rw [hc246]; rfl) rfl ?_
     refine WL.skipG rfl rfl rfl (by rw [hc246]; rfl) rfl ?_
     refine WL.skipG rfl rfl rfl (by rw [hc246]; rfl) rfl ?_
     refine WL.skipG rfl rfl rfl (by rw [hc246]; rfl) rfl ?_
     refine WL.skipG rfl rfl rfl (by rw [hc246]; rfl) rfl ?_
     refine WL.skipG rfl rfl rfl (by rw [hc246]; rfl) rfl ?_
     refine WL.stepE (OW.pickF rfl hc246 rfl) rfl ?_
     refine WL.p (.bool false) rfl rfl ?_
     refine WL.nil ?_
     have e255 := Option.some.inj q114
     subst e255
     exact NK.sb (hJ117 w105 o106 hE h35 h38 hb12 hb98) ⟨rfl, rfl, rfl, rfl, rfl, rfl, rfl, rfl, trivial⟩
  ·have hx79 := iteF hc84 hx79
   refine CW.exit ?_
   exact NK.sb (hJ50 x33 x36 w75 o76 v34 v37 (hr80 _ (Option.some.inj hx79).symm) hE h35 h38) ⟨rfl, rfl, trivial⟩

end Go.Proofs.Ytdfkfohpgakihaa
