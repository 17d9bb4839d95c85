/- Walks. Written by a program (wip/gen). -/
import Derived.Test.YtdfkfohpgakihaaHw
import Derived.Test.YtdfkfohpgakihaaWk1
import Derived.Test.YtdfkfohpgakihaaWk6
import Derived.Test.YtdfkfohpgakihaaWk11
import Derived.Test.YtdfkfohpgakihaaWk13
set_option linter.unusedVariables false
set_option linter.unusedSimpArgs false
namespace Go.Proofs.Ytdfkfohpgakihaa
open Go Go.RowKit Dp

set_option maxRecDepth 100000

set_option maxHeartbeats 1000000 in
theorem sync_synchronous_ok {a0 : Board} {a1 : Power} {a2 : Breaker} {r : Bool} (hF : sync_synchronous a0 a1 a2 = some r) {w0 : World} {p0 : Value} {S0 : Nat → Prop} (g0 : Rv S0 w0 p0 a0) {p1 : Value} {S1 : Nat → Prop} (g1 : Rv S1 w0 p1 a1) {p2 : Value} {S2 : Nat → Prop} (g2 : Rv S2 w0 p2 a2) :
    Calls Try.prog 46 #[p0, p1, p2] w0 (Ret fun v w' => ∃ (oc : Cls), En w0 (entM w0 [] [S0, S1, S2]) oc w' ∧ v = .bool r) := by
 obtain ⟨e0, he0⟩ : ∃ e0, e0 = entM w0 [] [S0, S1, S2] := ⟨_, rfl⟩
 have hE := En.refl w0 e0
 have g0 := g0.argM he0 0 (K := [40]) rfl (nosep rfl) rfl
 have g1 := g1.argM he0 1 (K := [40, 41]) rfl (nosep rfl) rfl
 have g2 := g2.argM he0 2 (K := [40, 41, 42]) rfl (nosep rfl) rfl
 obtain ⟨u1, u2, u3, rfl, h4, h5, h6⟩ := op29 g0
 obtain ⟨u7, u8, u9, u10, rfl, h11, h12, h13, h14⟩ := op34 g1
 obtain rfl := op59 g2
 rw [sync_synchronous] at hF
 refine enter (l := [.agg #[.int .i64 a0.Buses, u1, u2, u3, .int .i64 a0.Phase, .int .i64 a0.Frequency], .agg #[u7, u8, u9, u10], .agg #[.int .i64 a2.Kind, .int .i64 a2.A, .int .i64 a2.B]]) Try.func46 rfl Try.ntmps46 rfl ?_
 refine CW.sub (L' := [(0, .agg #[.int .i64 a0.Buses, u1, u2, u3, .int .i64 a0.Phase, .int .i64 a0.Frequency]), (1, .agg #[u7, u8, u9, u10]), (2, .agg #[.int .i64 a2.Kind, .int .i64 a2.A, .int .i64 a2.B])]) ⟨rfl, rfl, rfl, trivial⟩ ?_
 refine CW.sr fun K15 hK15 => ?_
 refine WL.step (OW.boxK (o := e0) 100 [.int .i64 a0.Buses, u1, u2, u3, .int .i64 a0.Phase, .int .i64 a0.Frequency] rfl rfl) rfl ?_
 rintro _ w18 ⟨pa16, o17, rfl, ev19, hb20⟩
 have hE := hE.evo ev19 rfl rfl
 refine WL.step (OW.boxK (o := o17) 101 [u7, u8, u9, u10] rfl rfl) rfl ?_
 rintro _ w23 ⟨pa21, o22, rfl, ev24, hb25⟩
 have hE := hE.evo ev24 rfl rfl
 have hb20 := hb20.evo ev24 rfl
 refine WL.step (OW.boxK (o := o22) 102 [.int .i64 a2.Kind, .int .i64 a2.A, .int .i64 a2.B] rfl rfl) rfl ?_
 rintro _ w28 ⟨pa26, o27, rfl, ev29, hb30⟩
 have hE := hE.evo ev29 rfl rfl
 have hb20 := hb20.evo ev29 rfl
 have hb25 := hb25.evo ev29 rfl
 refine WL.p (.bool false) rfl rfl ?_
 refine WL.nx hK15 ?_
 refine CW.sr fun K31 hK31 => ?_
 refine WL.stepE (OW.loadK0 Board (.agg #[.int .i64 a0.Buses, u1, u2, u3, .int .i64 a0.Phase, .int .i64 a0.Frequency]) ty29 rfl hb20 rfl rfl) rfl ?_
 refine WL.stepE (OW.loadK0 Power (.agg #[u7, u8, u9, u10]) ty34 rfl hb25 rfl rfl) rfl ?_
 refine WL.stepE (OW.fldAddr (FldOk.at f59_1) rfl) rfl ?_
 refine WL.stepE (OW.loadK (off := 1) Int (.int .i64 a2.A) ty3 rfl hb30 rfl rfl) rfl ?_
 obtain ⟨⟨y32, y33⟩, q34, hF⟩ := bindE hF
 dsimp only at hF
 refine WL.step (OW.call Try.call15 rfl (sync_Leader_ok q34 (mk29 (x := a0) (h4.baseM hE rfl) (h5.baseM hE rfl) (h6.baseM hE rfl)) (mk34 (x := a1) (h11.baseM hE rfl) (h12.baseM hE rfl) (h13.baseM hE rfl) (h14.baseM hE rfl)))) rfl ?_
 rintro _ w35 ⟨o39, hn_, rfl⟩
 obtain ⟨o36, ev37, hA38⟩ := adopt (o := o27) (ks := []) (Ks := [[40], [40, 41]]) 103 ([]) [103] hn_ MbOk.nil rfl rfl rfl rfl
 have hE := hE.evo ev37 rfl rfl
 have hb20 := hb20.evo ev37 rfl
 have hb25 := hb25.evo ev37 rfl
 have hb30 := hb30.evo ev37 rfl
 refine WL.p (.tuple #[.int .i64 y32, .bool y33]) rfl rfl ?_
 refine WL.p (.int .i64 y32) rfl rfl ?_
 refine WL.p (.bool y33) rfl rfl ?_
 refine WL.p (.int .i64 y32) rfl rfl ?_
 refine WL.p (.bool y33) rfl rfl ?_
 refine WL.nx hK31 ?_
 refine CW.seq fun K40 hK40 => ?_
 refine CW.sr fun K41 hK41 => ?_
 refine WL.p (.bool y33) rfl rfl ?_
 refine WL.p (.bool (!y33)) rfl rfl ?_
 refine WL.nx hK41 ?_
 refine CW.cond (b := (!y33)) rfl (fun hc42 => ?_) (fun hc42 => ?_)
 ·have hF := iteT hc42 hF
  refine CW.sr fun K43 hK43 => ?_
  refine WL.p (.bool true) rfl rfl ?_
  refine WL.nx hK43 ?_
  obtain rfl := Option.some.inj hF
  exact CW.rets (vs := [.bool true]) Try.results46 ⟨rfl, trivial⟩ ⟨_, rfl, _, (hE.rn he0 100 [] rfl rfl), rfl⟩ (fun _ _ h => h)
 ·have hF := iteF hc42 hF
  refine CW.skip ?_
  refine hK40 _ _ ?_
  refine CW.seq fun K44 hK44 => ?_
  refine CW.sr fun K45 hK45 => ?_
  refine WL.stepE (OW.fldAddr (FldOk.at f59_0) rfl) rfl ?_
  refine WL.stepE (OW.loadK (off := 0) Int (.int .i64 a2.Kind) ty3 rfl hb30 rfl rfl) rfl ?_
  refine WL.nx hK45 ?_
  refine CW.block ?_
  refine CW.sr fun K46 hK46 => ?_
  refine WL.p (.bool (((a2.Kind == 1)))) rfl rfl ?_
  refine WL.p (.bool (((a2.Kind == 1)))) rfl rfl ?_
  refine WL.nx hK46 ?_
  refine CW.cond (b := ((a2.Kind == 1))) rfl (fun hc47 => ?_) (fun hc47 => ?_)
  ·have hF := iteT hc47 hF
   refine CW.sr fun K48 hK48 => ?_
   refine WL.stepE (OW.loadK0 Board (.agg #[.int .i64 a0.Buses, u1, u2, u3, .int .i64 a0.Phase, .int .i64 a0.Frequency]) ty29 rfl hb20 rfl rfl) rfl ?_
   refine WL.stepE (OW.loadK0 Power (.agg #[u7, u8, u9, u10]) ty34 rfl hb25 rfl rfl) rfl ?_
   refine WL.stepE (OW.fldAddr (FldOk.at f59_2) rfl) rfl ?_
   refine WL.stepE (OW.loadK (off := 2) Int (.int .i64 a2.B) ty3 rfl hb30 rfl rfl) rfl ?_
   obtain ⟨⟨y49, y50⟩, q51, hF⟩ := bindE hF
   dsimp only at hF
   refine WL.step (OW.call Try.call15 rfl (sync_Leader_ok q51 (mk29 (x := a0) (h4.baseM hE rfl) (h5.baseM hE rfl) (h6.baseM hE rfl)) (mk34 (x := a1) (h11.baseM hE rfl) (h12.baseM hE rfl) (h13.baseM hE rfl) (h14.baseM hE rfl)))) rfl ?_
   rintro _ w52 ⟨o56, hn_, rfl⟩
   obtain ⟨o53, ev54, hA55⟩ := adopt (o := o36) (ks := []) (Ks := [[40], [40, 41]]) 104 ([]) [104] hn_ MbOk.nil rfl rfl rfl rfl
   have hE := hE.evo ev54 rfl rfl
   have hb20 := hb20.evo ev54 rfl
   have hb25 := hb25.evo ev54 rfl
   refine WL.p (.tuple #[.int .i64 y49, .bool y50]) rfl rfl ?_
   refine WL.p (.int .i64 y49) rfl rfl ?_
   refine WL.p (.bool y50) rfl rfl ?_
   refine WL.p (.int .i64 y49) rfl rfl ?_
   refine WL.p (.bool y50) rfl rfl ?_
   refine WL.nx hK48 ?_
   refine CW.seq fun K57 hK57 => ?_
   obtain ⟨x58, q59, hF⟩ := bindE hF
   have hJ62 : ∀ (w60 : World) (o61 : Cls), En w0 e0 o61 w60 → NK 64 K57 [(6, .bool x58)] w60 := by
    intro w60 o61  hE
    refine hK57 _ _ ?_
    obtain rfl := Option.some.inj hF
    exact CW.rets (vs := [.bool x58]) Try.results46 ⟨rfl, trivial⟩ ⟨_, rfl, _, (hE.rn he0 100 [] rfl rfl), rfl⟩ (fun _ _ h => h)
   rcases Bool.eq_false_or_eq_true (!y50) with hc63 | hc63
   ·have q59 := iteT hc63 q59
    refine CW.anyS (N := []) hmix [] [⟨[], [], [], [], vk (.bool y50), false⟩, ⟨[], [], [0], [], vk (.bool (!y50)), false⟩, ⟨[], [], [0, 1], [], vk (.bool (!y50)), false⟩, ⟨[], [], [0, 1, 2], [], vk undef, true⟩, ⟨[], [], [0, 1, 2], [], vk undef, true⟩, ⟨[], [], [0, 1, 2, 4], [], vk undef, true⟩, ⟨[], [], [0, 1, 2], [], vk undef, true⟩, ⟨[], [], [0, 1, 2, 4, 5, 6], [], vk undef, true⟩, ⟨[], [], [0, 1, 2, 4, 5, 6, 7], [], vk undef, true⟩, ⟨[], [], [0, 1, 2], [], vk undef, true⟩, ⟨[], [], [0, 1, 2, 9], [], vk undef, true⟩, ⟨[], [], [0, 1, 2], [], vk undef, true⟩, ⟨[], [], [0, 1, 2, 9, 10, 11], [], vk undef, true⟩, ⟨[], [], [0, 1, 2, 9, 10, 11, 12], [], vk undef, true⟩, ⟨[], [], rg 0 14, [], vk undef, true⟩, ⟨[], [], rg 0 15, [], vk (.bool true), false⟩, ⟨[], [], rg 0 16, [], vk (.bool true), false⟩] [] hE rfl (by kernel_rfl) (by kernel_rfl) trivial ⟨Ob.pv rfl rfl (fun _ => rfl) rfl (fun _ _ _ => trivial), Ob.pv rfl rfl (fun _ => rfl) rfl (fun _ _ _ => trivial), Ob.pv rfl rfl (fun _ => rfl) rfl (fun _ _ _ => trivial), ?_, ?_, ?_, ?_, ?_, ?_, ?_, ?_, ?_, ?_, ?_, ?_, ?_, Ob.pv rfl rfl (fun _ => rfl) rfl (fun _ _ _ => trivial), trivial⟩ ?_
    ·intro vs64 o_ w_ hE 
     exact ⟨⟨_, rfl, .inl (congrArg (fun b => some (Value.bool b)) hc63)⟩, rfl, trivial⟩
    ·intro vs64 o_ w_ hE 
     exact ⟨⟨_, rfl, .inl (congrArg (fun b => some (Value.bool b)) hc63)⟩, rfl, trivial⟩
    ·intro vs64 o_ w_ hE 
     exact ⟨⟨_, rfl, .inl (congrArg (fun b => some (Value.bool b)) hc63)⟩, rfl, trivial⟩
    ·intro vs64 o_ w_ hE 
     exact ⟨⟨_, rfl, .inl (congrArg (fun b => some (Value.bool b)) hc63)⟩, rfl, trivial⟩
    ·intro vs64 o_ w_ hE 
     exact ⟨⟨_, rfl, .inl (congrArg (fun b => some (Value.bool b)) hc63)⟩, rfl, trivial⟩
    ·intro vs64 o_ w_ hE 
     exact ⟨⟨_, rfl, .inl (congrArg (fun b => some (Value.bool b)) hc63)⟩, rfl, trivial⟩
    ·intro vs64 o_ w_ hE 
     exact ⟨⟨_, rfl, .inl (congrArg (fun b => some (Value.bool b)) hc63)⟩, rfl, trivial⟩
    ·intro vs64 o_ w_ hE 
     exact ⟨⟨_, rfl, .inl (congrArg (fun b => some (Value.bool b)) hc63)⟩, rfl, trivial⟩
    ·intro vs64 o_ w_ hE 
     exact ⟨⟨_, rfl, .inl (congrArg (fun b => some (Value.bool b)) hc63)⟩, rfl, trivial⟩
    ·intro vs64 o_ w_ hE 
     exact ⟨⟨_, rfl, .inl (congrArg (fun b => some (Value.bool b)) hc63)⟩, rfl, trivial⟩
    ·intro vs64 o_ w_ hE 
     exact ⟨⟨_, rfl, .inl (congrArg (fun b => some (Value.bool b)) hc63)⟩, rfl, trivial⟩
    ·intro vs64 o_ w_ hE 
     exact ⟨⟨_, rfl, .inl (congrArg (fun b => some (Value.bool b)) hc63)⟩, rfl, trivial⟩
    ·intro vs64 o_ w_ hE 
     exact OW.q [(35, .bool (!y50)), (47, undef)] ⟨rfl, rfl, trivial⟩ (OW.pickT rfl hc63 rfl) (er rfl trivial)
    ·intro vs64 o66 w65 hE 
     obtain ⟨hE, evT_⟩ := hE
     have hb20 := hb20.evo evT_ rfl
     have hb25 := hb25.evo evT_ rfl
     have e67 := Option.some.inj q59
     subst e67
     exact NK.sb (hJ62 w65 o66 hE) ⟨rfl, trivial⟩
   ·have q59 := iteF hc63 q59
    obtain ⟨y68, q72, q59⟩ := bindE q59
    obtain ⟨y75, q79, q59⟩ := bindE q59
    obtain ⟨y82, q83, q59⟩ := bindE q59
    have ev_ := Evo.drew o53 w52
    refine CW.anyS (N := [105]) hmix [sBk none none [] 100 (vk pa16) (vk ([.int .i64 a0.Buses, u1, u2, u3, .int .i64 a0.Phase, .int .i64 a0.Frequency])), sBk none none [] 101 (vk pa21) (vk ([u7, u8, u9, u10])), sPt (some 7) none [7] [40, 41] (vp 0) y68, sEp (some 7) none [7] (vk u8) 4 y32 (vp 0), sPt (some 12) none [12] [40, 41] (vp 0) y75, sEp (some 12) none [12] (vk u8) 4 y49 (vp 0)] [⟨[], [], [], [], vk (.bool y50), false⟩, ⟨[], [], [0], [], vk (.bool (!y50)), false⟩, ⟨[], [], [0, 1], [], vk (.bool (!y50)), false⟩, ⟨[], [0], [0, 1, 2], [], vk (.agg #[.int .i64 a0.Buses, u1, u2, u3, .int .i64 a0.Phase, .int .i64 a0.Frequency]), false⟩, ⟨[], [], [0, 1, 2], [], vk (.pointer (some (pa21.add 1))), false⟩, ⟨[], [1], [0, 1, 2, 4], [], vk u8, false⟩, ⟨[], [], [0, 1, 2], [], vk (.int .i64 y32), false⟩, ⟨[], [], [0, 1, 2, 4, 5, 6], [7], vq 0, false⟩, ⟨[], [2], [0, 1, 2, 4, 5, 6, 7], [], vk (.agg #[.int .i64 y68.State, .int .i64 y68.Since, .int .i64 y68.Frequency, .int .i64 y68.Phase]), false⟩, ⟨[], [], [0, 1, 2], [], vk (.pointer (some (pa21.add 1))), false⟩, ⟨[], [1], [0, 1, 2, 9], [], vk u8, false⟩, ⟨[], [], [0, 1, 2], [], vk (.int .i64 y49), false⟩, ⟨[], [], [0, 1, 2, 9, 10, 11], [12], vq 0, false⟩, ⟨[], [4], [0, 1, 2, 9, 10, 11, 12], [], vk (.agg #[.int .i64 y75.State, .int .i64 y75.Since, .int .i64 y75.Frequency, .int .i64 y75.Phase]), false⟩, ⟨[], [], rg 0 14, [], vk (.bool y82), false⟩, ⟨[], [], rg 0 15, [], vk (.bool y82), false⟩, ⟨[], [], rg 0 16, [], vk (.bool y82), false⟩] [] hE rfl (by kernel_rfl) (by kernel_rfl) ⟨hb20.evo ev_ rfl, hb25.evo ev_ rfl, trivial⟩ ⟨Ob.pv rfl rfl (fun _ => rfl) rfl (fun _ _ _ => trivial), Ob.pv rfl rfl (fun _ => rfl) rfl (fun _ _ _ => trivial), Ob.pv rfl rfl (fun _ => rfl) rfl (fun _ _ _ => trivial), ?_, ?_, ?_, ?_, ?_, ?_, ?_, ?_, ?_, ?_, ?_, ?_, ?_, Ob.pv rfl rfl (fun _ => rfl) rfl (fun _ _ _ => trivial), trivial⟩ ?_
    ·intro vs89 o_ w_ hE hb20
     have hb20 := tBk hb20
     refine ⟨⟨_, rfl, congrArg (fun b => some (Value.bool b)) hc63⟩, ?_⟩
     exact OW.q [(3, .pointer (some pa16))] ⟨rfl, trivial⟩ (OW.loadK0 Board (.agg #[.int .i64 a0.Buses, u1, u2, u3, .int .i64 a0.Phase, .int .i64 a0.Frequency]) ty29 rfl hb20 rfl rfl) (er rfl trivial)
    ·intro vs89 o_ w_ hE 
     refine ⟨⟨_, rfl, congrArg (fun b => some (Value.bool b)) hc63⟩, ?_⟩
     exact OW.q [(4, .pointer (some pa21))] ⟨rfl, trivial⟩ (OW.fldAddr (FldOk.at f34_1) rfl) (er rfl trivial)
    ·intro vs89 o_ w_ hE hb25
     have hb25 := tBk hb25
     refine ⟨⟨_, rfl, congrArg (fun b => some (Value.bool b)) hc63⟩, ?_⟩
     exact OW.q [(37, .pointer (some (pa21.add 1)))] ⟨rfl, trivial⟩ (OW.loadK (off := 1) (List Running) (u8) ty31 rfl hb25 rfl rfl) (er rfl trivial)
    ·intro vs89 o_ w_ hE 
     refine ⟨⟨_, rfl, congrArg (fun b => some (Value.bool b)) hc63⟩, ?_⟩
     exact OW.q [(7, .int .i64 y32)] ⟨rfl, trivial⟩ (OW.pv (v := (.int .i64 y32)) rfl) (er rfl trivial)
    ·intro vs89 o_ w_ hE 
     have hE := hE.1
     refine ⟨⟨_, rfl, congrArg (fun b => some (Value.bool b)) hc63⟩, ?_⟩
     refine OW.r [(38, u8), (39, .int .i64 y32)] ⟨rfl, rfl, trivial⟩ (OW.indexAddr Try.underlying31 ty48 rfl (h12.baseM hE rfl) rfl q72) ?_
     rintro _ _ ⟨rfl, ⟨pa69, hv_, hp70, he71⟩⟩
     subst hv_
     exact ⟨_, Evo.refl _ _ _ _, rfl, hp70, he71, trivial⟩
    ·intro vs89 o_ w_ hE hp70
     have hp70 := tPt hp70
     refine ⟨⟨_, rfl, congrArg (fun b => some (Value.bool b)) hc63⟩, ?_⟩
     refine OW.r [(40, .pointer (some (pOf (vs89 7))))] ⟨rfl, trivial⟩ (OW.load ty48 rfl hp70) ?_
     rintro v73 _ ⟨rfl, h74⟩
     obtain rfl := op48 h74
     exact ⟨_, Evo.refl _ _ _ _, rfl, trivial⟩
    ·intro vs89 o_ w_ hE 
     refine ⟨⟨_, rfl, congrArg (fun b => some (Value.bool b)) hc63⟩, ?_⟩
     exact OW.q [(4, .pointer (some pa21))] ⟨rfl, trivial⟩ (OW.fldAddr (FldOk.at f34_1) rfl) (er rfl trivial)
    ·intro vs89 o_ w_ hE hb25
     have hb25 := tBk hb25
     refine ⟨⟨_, rfl, congrArg (fun b => some (Value.bool b)) hc63⟩, ?_⟩
     exact OW.q [(42, .pointer (some (pa21.add 1)))] ⟨rfl, trivial⟩ (OW.loadK (off := 1) (List Running) (u8) ty31 rfl hb25 rfl rfl) (er rfl trivial)
    ·intro vs89 o_ w_ hE 
     refine ⟨⟨_, rfl, congrArg (fun b => some (Value.bool b)) hc63⟩, ?_⟩
     exact OW.q [(9, .int .i64 y49)] ⟨rfl, trivial⟩ (OW.pv (v := (.int .i64 y49)) rfl) (er rfl trivial)
    ·intro vs89 o_ w_ hE 
     have hE := hE.1
     refine ⟨⟨_, rfl, congrArg (fun b => some (Value.bool b)) hc63⟩, ?_⟩
     refine OW.r [(43, u8), (44, .int .i64 y49)] ⟨rfl, rfl, trivial⟩ (OW.indexAddr Try.underlying31 ty48 rfl (h12.baseM hE rfl) rfl q79) ?_
     rintro _ _ ⟨rfl, ⟨pa76, hv_, hp77, he78⟩⟩
     subst hv_
     exact ⟨_, Evo.refl _ _ _ _, rfl, hp77, he78, trivial⟩
    ·intro vs89 o_ w_ hE hp77
     have hp77 := tPt hp77
     refine ⟨⟨_, rfl, congrArg (fun b => some (Value.bool b)) hc63⟩, ?_⟩
     refine OW.r [(45, .pointer (some (pOf (vs89 12))))] ⟨rfl, trivial⟩ (OW.load ty48 rfl hp77) ?_
     rintro v80 _ ⟨rfl, h81⟩
     obtain rfl := op48 h81
     exact ⟨_, Evo.refl _ _ _ _, rfl, trivial⟩
    ·intro vs89 o_ w_ hE 
     have hE := hE.1
     refine ⟨⟨_, rfl, congrArg (fun b => some (Value.bool b)) hc63⟩, ?_⟩
     refine OW.r [(36, .agg #[.int .i64 a0.Buses, u1, u2, u3, .int .i64 a0.Phase, .int .i64 a0.Frequency]), (41, .agg #[.int .i64 y68.State, .int .i64 y68.Since, .int .i64 y68.Frequency, .int .i64 y68.Phase]), (46, .agg #[.int .i64 y75.State, .int .i64 y75.Since, .int .i64 y75.Frequency, .int .i64 y75.Phase])] ⟨rfl, rfl, rfl, trivial⟩ (OW.call Try.call16 rfl (sync_Agree_ok q83 (mk29 (x := a0) (h4.baseM hE rfl) (h5.baseM hE rfl) (h6.baseM hE rfl)) (mk48 (S := In o_ []) (x := y68)) (mk48 (S := In o_ []) (x := y75)))) ?_
     rintro _ w84 ⟨o88, hn_, rfl⟩
     obtain ⟨o85, ev86, hA87⟩ := adopt (o := o_) (ks := []) (Ks := [[40], [], []]) 105 ([]) [105] hn_ MbOk.nil rfl rfl rfl rfl
     exact ⟨o85, ev86.sub rfl rfl, rfl, trivial⟩
    ·intro vs89 o_ w_ hE 
     exact OW.q [(35, .bool (!y50)), (47, .bool y82)] ⟨rfl, rfl, trivial⟩ (OW.pickF rfl hc63 rfl) (er rfl trivial)
    ·intro vs89 o91 w90 hE hb20 hb25 hp70 he71 hp77 he78
     obtain ⟨hE, evT_⟩ := hE
     have hb20 : Bk o91 100 w90 pa16 [.int .i64 a0.Buses, u1, u2, u3, .int .i64 a0.Phase, .int .i64 a0.Frequency] := hb20
     have hb25 : Bk o91 101 w90 pa21 [u7, u8, u9, u10] := hb25
     have hp70 : PtrAt (In o91 [40, 41]) w90 (pOf (vs89 7)) y68 := hp70
     have he71 : EPtr u8 4 y32 (pOf (vs89 7)) := he71
     have hp77 : PtrAt (In o91 [40, 41]) w90 (pOf (vs89 12)) y75 := hp77
     have he78 : EPtr u8 4 y49 (pOf (vs89 12)) := he78
     have e92 := Option.some.inj q59
     subst e92
     exact NK.sb (hJ62 w90 o91 hE) ⟨rfl, trivial⟩
  ·have hF := iteF hc47 hF
   refine CW.sr fun K93 hK93 => ?_
   refine WL.p (.bool (((a2.Kind == 2)))) rfl rfl ?_
   refine WL.p (.bool (((a2.Kind == 2)))) rfl rfl ?_
   refine WL.nx hK93 ?_
   refine CW.cond (b := ((a2.Kind == 2))) rfl (fun hc94 => ?_) (fun hc94 => ?_)
   ·have hF := iteT hc94 hF
    refine CW.seq fun K95 hK95 => ?_
    obtain ⟨y96, q100, hF⟩ := bindE hF
    obtain ⟨y103, q107, hF⟩ := bindE hF
    obtain ⟨y110, q111, hF⟩ := bindE hF
    have ev_ := Evo.drew o36 w35
    refine CW.anyS (N := [106]) hmix [sBk none none [] 100 (vk pa16) (vk ([.int .i64 a0.Buses, u1, u2, u3, .int .i64 a0.Phase, .int .i64 a0.Frequency])), sBk none none [] 101 (vk pa21) (vk ([u7, u8, u9, u10])), sBk none none [] 102 (vk pa26) (vk ([.int .i64 a2.Kind, .int .i64 a2.A, .int .i64 a2.B])), sPt (some 4) none [4] [40, 41] (vp 0) y96, sEp (some 4) none [4] (vk u8) 4 y32 (vp 0), sPt (some 10) none [10] [40, 41] (vp 0) y103, sEp (some 10) none [10] (vk u8) 4 a2.B (vp 0)] [⟨[], [0], [], [], vk (.agg #[.int .i64 a0.Buses, u1, u2, u3, .int .i64 a0.Phase, .int .i64 a0.Frequency]), false⟩, ⟨[], [], [], [], vk (.pointer (some (pa21.add 1))), false⟩, ⟨[], [1], [1], [], vk u8, false⟩, ⟨[], [], [], [], vk (.int .i64 y32), false⟩, ⟨[], [], [1, 2, 3], [4], vq 0, false⟩, ⟨[], [3], rg 1 4, [], vk (.agg #[.int .i64 y96.State, .int .i64 y96.Since, .int .i64 y96.Frequency, .int .i64 y96.Phase]), false⟩, ⟨[], [], [], [], vk (.pointer (some (pa21.add 1))), false⟩, ⟨[], [1], [6], [], vk u8, false⟩, ⟨[], [], [], [], vk (.pointer (some (pa26.add 2))), false⟩, ⟨[], [2], [8], [], vk (.int .i64 a2.B), false⟩, ⟨[], [], rg 6 4, [10], vq 0, false⟩, ⟨[], [5], rg 6 5, [], vk (.agg #[.int .i64 y103.State, .int .i64 y103.Since, .int .i64 y103.Frequency, .int .i64 y103.Phase]), false⟩, ⟨[], [], rg 0 12, [], vk (.bool y110), false⟩, ⟨[], [], rg 0 13, [], vk (.bool y110), false⟩] [] hE rfl (by kernel_rfl) (by kernel_rfl) ⟨hb20.evo ev_ rfl, hb25.evo ev_ rfl, hb30.evo ev_ rfl, trivial⟩ ⟨?_, ?_, ?_, Ob.pv rfl rfl (fun _ => rfl) rfl (fun _ _ _ => trivial), ?_, ?_, ?_, ?_, ?_, ?_, ?_, ?_, ?_, Ob.pv rfl rfl (fun _ => rfl) rfl (fun _ _ _ => trivial), trivial⟩ ?_
    ·intro vs117 o_ w_ hE hb20
     have hb20 := tBk hb20
     exact OW.q [(3, .pointer (some pa16))] ⟨rfl, trivial⟩ (OW.loadK0 Board (.agg #[.int .i64 a0.Buses, u1, u2, u3, .int .i64 a0.Phase, .int .i64 a0.Frequency]) ty29 rfl hb20 rfl rfl) (er rfl trivial)
    ·intro vs117 o_ w_ hE 
     exact OW.q [(4, .pointer (some pa21))] ⟨rfl, trivial⟩ (OW.fldAddr (FldOk.at f34_1) rfl) (er rfl trivial)
    ·intro vs117 o_ w_ hE hb25
     have hb25 := tBk hb25
     exact OW.q [(52, .pointer (some (pa21.add 1)))] ⟨rfl, trivial⟩ (OW.loadK (off := 1) (List Running) (u8) ty31 rfl hb25 rfl rfl) (er rfl trivial)
    ·intro vs117 o_ w_ hE 
     have hE := hE.1
     refine OW.r [(53, u8), (54, .int .i64 y32)] ⟨rfl, rfl, trivial⟩ (OW.indexAddr Try.underlying31 ty48 rfl (h12.baseM hE rfl) rfl q100) ?_
     rintro _ _ ⟨rfl, ⟨pa97, hv_, hp98, he99⟩⟩
     subst hv_
     exact ⟨_, Evo.refl _ _ _ _, rfl, hp98, he99, trivial⟩
    ·intro vs117 o_ w_ hE hp98
     have hp98 := tPt hp98
     refine OW.r [(55, .pointer (some (pOf (vs117 4))))] ⟨rfl, trivial⟩ (OW.load ty48 rfl hp98) ?_
     rintro v101 _ ⟨rfl, h102⟩
     obtain rfl := op48 h102
     exact ⟨_, Evo.refl _ _ _ _, rfl, trivial⟩
    ·intro vs117 o_ w_ hE 
     exact OW.q [(4, .pointer (some pa21))] ⟨rfl, trivial⟩ (OW.fldAddr (FldOk.at f34_1) rfl) (er rfl trivial)
    ·intro vs117 o_ w_ hE hb25
     have hb25 := tBk hb25
     exact OW.q [(57, .pointer (some (pa21.add 1)))] ⟨rfl, trivial⟩ (OW.loadK (off := 1) (List Running) (u8) ty31 rfl hb25 rfl rfl) (er rfl trivial)
    ·intro vs117 o_ w_ hE 
     exact OW.q [(5, .pointer (some pa26))] ⟨rfl, trivial⟩ (OW.fldAddr (FldOk.at f59_2) rfl) (er rfl trivial)
    ·intro vs117 o_ w_ hE hb30
     have hb30 := tBk hb30
     exact OW.q [(59, .pointer (some (pa26.add 2)))] ⟨rfl, trivial⟩ (OW.loadK (off := 2) Int (.int .i64 a2.B) ty3 rfl hb30 rfl rfl) (er rfl trivial)
    ·intro vs117 o_ w_ hE 
     have hE := hE.1
     refine OW.r [(58, u8), (60, .int .i64 a2.B)] ⟨rfl, rfl, trivial⟩ (OW.indexAddr Try.underlying31 ty48 rfl (h12.baseM hE rfl) rfl q107) ?_
     rintro _ _ ⟨rfl, ⟨pa104, hv_, hp105, he106⟩⟩
     subst hv_
     exact ⟨_, Evo.refl _ _ _ _, rfl, hp105, he106, trivial⟩
    ·intro vs117 o_ w_ hE hp105
     have hp105 := tPt hp105
     refine OW.r [(61, .pointer (some (pOf (vs117 10))))] ⟨rfl, trivial⟩ (OW.load ty48 rfl hp105) ?_
     rintro v108 _ ⟨rfl, h109⟩
     obtain rfl := op48 h109
     exact ⟨_, Evo.refl _ _ _ _, rfl, trivial⟩
    ·intro vs117 o_ w_ hE 
     have hE := hE.1
     refine OW.r [(51, .agg #[.int .i64 a0.Buses, u1, u2, u3, .int .i64 a0.Phase, .int .i64 a0.Frequency]), (56, .agg #[.int .i64 y96.State, .int .i64 y96.Since, .int .i64 y96.Frequency, .int .i64 y96.Phase]), (62, .agg #[.int .i64 y103.State, .int .i64 y103.Since, .int .i64 y103.Frequency, .int .i64 y103.Phase])] ⟨rfl, rfl, rfl, trivial⟩ (OW.call Try.call16 rfl (sync_Agree_ok q111 (mk29 (x := a0) (h4.baseM hE rfl) (h5.baseM hE rfl) (h6.baseM hE rfl)) (mk48 (S := In o_ []) (x := y96)) (mk48 (S := In o_ []) (x := y103)))) ?_
     rintro _ w112 ⟨o116, hn_, rfl⟩
     obtain ⟨o113, ev114, hA115⟩ := adopt (o := o_) (ks := []) (Ks := [[40], [], []]) 106 ([]) [106] hn_ MbOk.nil rfl rfl rfl rfl
     exact ⟨o113, ev114.sub rfl rfl, rfl, trivial⟩
    ·intro vs117 o119 w118 hE hb20 hb25 hb30 hp98 he99 hp105 he106
     obtain ⟨hE, evT_⟩ := hE
     have hb20 : Bk o119 100 w118 pa16 [.int .i64 a0.Buses, u1, u2, u3, .int .i64 a0.Phase, .int .i64 a0.Frequency] := hb20
     have hb25 : Bk o119 101 w118 pa21 [u7, u8, u9, u10] := hb25
     have hb30 : Bk o119 102 w118 pa26 [.int .i64 a2.Kind, .int .i64 a2.A, .int .i64 a2.B] := hb30
     have hp98 : PtrAt (In o119 [40, 41]) w118 (pOf (vs117 4)) y96 := hp98
     have he99 : EPtr u8 4 y32 (pOf (vs117 4)) := he99
     have hp105 : PtrAt (In o119 [40, 41]) w118 (pOf (vs117 10)) y103 := hp105
     have he106 : EPtr u8 4 a2.B (pOf (vs117 10)) := he106
     refine hK95 _ _ ?_
     obtain rfl := Option.some.inj hF
     exact CW.rets (vs := [.bool y110]) Try.results46 ⟨rfl, trivial⟩ ⟨_, rfl, _, (hE.rn he0 100 [] rfl rfl), rfl⟩ (fun _ _ h => h)
   ·have hF := iteF hc94 hF
    refine CW.skip ?_
    refine hK44 _ _ ?_
    refine CW.sr fun K120 hK120 => ?_
    refine WL.p (.bool true) rfl rfl ?_
    refine WL.nx hK120 ?_
    obtain rfl := Option.some.inj hF
    exact CW.rets (vs := [.bool true]) Try.results46 ⟨rfl, trivial⟩ ⟨_, rfl, _, (hE.rn he0 100 [] rfl rfl), rfl⟩ (fun _ _ h => h)

set_option maxHeartbeats 1000000 in
theorem sync_May_ok {a0 : Board} {a1 : Power} {a2 : Int} {r : Int} (hF : sync_May a0 a1 a2 = some r) {w0 : World} {p0 : Value} {S0 : Nat → Prop} (g0 : Rv S0 w0 p0 a0) {p1 : Value} {S1 : Nat → Prop} (g1 : Rv S1 w0 p1 a1) :
    Calls Try.prog 23 #[p0, p1, .int .i64 a2] w0 (Ret fun v w' => ∃ (oc : Cls), En w0 (entM w0 [] [S0, S1]) oc w' ∧ v = .int .i64 r) := by
 obtain ⟨e0, he0⟩ : ∃ e0, e0 = entM w0 [] [S0, S1] := ⟨_, rfl⟩
 have hE := En.refl w0 e0
 have g0 := g0.argM he0 0 (K := [40]) rfl (nosep rfl) rfl
 have g1 := g1.argM he0 1 (K := [40, 41]) rfl (nosep rfl) rfl
 obtain ⟨u1, u2, u3, rfl, h4, h5, h6⟩ := op29 g0
 obtain ⟨u7, u8, u9, u10, rfl, h11, h12, h13, h14⟩ := op34 g1
 rw [sync_May] at hF
 refine enter (l := [.agg #[.int .i64 a0.Buses, u1, u2, u3, .int .i64 a0.Phase, .int .i64 a0.Frequency], .agg #[u7, u8, u9, u10], .int .i64 a2]) Try.func23 rfl Try.ntmps23 rfl ?_
 refine CW.sub (L' := [(0, .agg #[.int .i64 a0.Buses, u1, u2, u3, .int .i64 a0.Phase, .int .i64 a0.Frequency]), (1, .agg #[u7, u8, u9, u10]), (2, .int .i64 a2)]) ⟨rfl, rfl, rfl, trivial⟩ ?_
 refine CW.sr fun K15 hK15 => ?_
 refine WL.step (OW.boxK (o := e0) 100 [.int .i64 a0.Buses, u1, u2, u3, .int .i64 a0.Phase, .int .i64 a0.Frequency] rfl rfl) rfl ?_
 rintro _ w18 ⟨pa16, o17, rfl, ev19, hb20⟩
 have hE := hE.evo ev19 rfl rfl
 refine WL.step (OW.boxK (o := o17) 101 [u7, u8, u9, u10] rfl rfl) rfl ?_
 rintro _ w23 ⟨pa21, o22, rfl, ev24, hb25⟩
 have hE := hE.evo ev24 rfl rfl
 have hb20 := hb20.evo ev24 rfl
 refine WL.p (.int .i64 0) rfl rfl ?_
 refine WL.nx hK15 ?_
 refine CW.seq fun K26 hK26 => ?_
 refine CW.sr fun K27 hK27 => ?_
 refine WL.stepE (OW.loadK0 Board (.agg #[.int .i64 a0.Buses, u1, u2, u3, .int .i64 a0.Phase, .int .i64 a0.Frequency]) ty29 rfl hb20 rfl rfl) rfl ?_
 refine WL.stepE (OW.loadK0 Power (.agg #[u7, u8, u9, u10]) ty34 rfl hb25 rfl rfl) rfl ?_
 obtain ⟨y28, q29, hF⟩ := bindE hF
 refine WL.step (OW.call Try.call34 rfl (board_State_ok q29 (mk29 (x := a0) (h4.baseM hE rfl) (h5.baseM hE rfl) (h6.baseM hE rfl)) (mk34 (x := a1) (h11.baseM hE rfl) (h12.baseM hE rfl) (h13.baseM hE rfl) (h14.baseM hE rfl)))) rfl ?_
 rintro _ w30 ⟨o34, hn_, rfl⟩
 obtain ⟨o31, ev32, hA33⟩ := adopt (o := o22) (ks := []) (Ks := [[40], [40, 41]]) 102 ([]) [102] hn_ MbOk.nil rfl rfl rfl rfl
 have hE := hE.evo ev32 rfl rfl
 have hb20 := hb20.evo ev32 rfl
 have hb25 := hb25.evo ev32 rfl
 refine WL.p (.int .i64 y28) rfl rfl ?_
 refine WL.nx hK27 ?_
 refine CW.block ?_
 refine CW.sr fun K35 hK35 => ?_
 refine WL.p (.int .i64 y28) rfl rfl ?_
 refine WL.p (.bool (((y28 != 0)))) rfl rfl ?_
 refine WL.p (.bool (((y28 != 0)))) rfl rfl ?_
 refine WL.nx hK35 ?_
 refine CW.cond (b := ((y28 != 0))) rfl (fun hc36 => ?_) (fun hc36 => ?_)
 ·have hF := iteT hc36 hF
  refine CW.sr fun K37 hK37 => ?_
  refine WL.p (.int .i64 y28) rfl rfl ?_
  refine WL.p (.int .i64 y28) rfl rfl ?_
  refine WL.nx hK37 ?_
  obtain rfl := Option.some.inj hF
  exact CW.rets (vs := [.int .i64 y28]) Try.results23 ⟨rfl, trivial⟩ ⟨_, rfl, _, (hE.rn he0 100 [] rfl rfl), rfl⟩ (fun _ _ h => h)
 ·have hF := iteF hc36 hF
  refine CW.sr fun K38 hK38 => ?_
  refine WL.p (.int .i64 a2) rfl rfl ?_
  refine WL.p (.bool ((decide (a2 < 0)))) rfl rfl ?_
  refine WL.p (.bool ((decide (a2 < 0)))) rfl rfl ?_
  obtain ⟨x39, q40, hF⟩ := bindE hF
  have hJ43 : ∀ (w41 : World) (o42 : Cls), En w0 e0 o42 w41 → Bk o42 100 w41 pa16 [.int .i64 a0.Buses, u1, u2, u3, .int .i64 a0.Phase, .int .i64 a0.Frequency] → Bk o42 101 w41 pa21 [u7, u8, u9, u10] → NK 67 K38 [(2, .int .i64 a2), (3, .pointer (some pa16)), (4, .pointer (some pa21)), (19, .bool x39)] w41 := by
   intro w41 o42  hE hb20 hb25
   refine hK38 _ _ ?_
   refine CW.cond (b := x39) rfl (fun hc44 => ?_) (fun hc44 => ?_)
   ·have hF := iteT hc44 hF
    refine CW.sr fun K45 hK45 => ?_
    refine WL.p (.int .i64 10) rfl rfl ?_
    refine WL.nx hK45 ?_
    obtain rfl := Option.some.inj hF
    exact CW.rets (vs := [.int .i64 10]) Try.results23 ⟨rfl, trivial⟩ ⟨_, rfl, _, (hE.rn he0 100 [] rfl rfl), rfl⟩ (fun _ _ h => h)
   ·have hF := iteF hc44 hF
    refine CW.sr fun K46 hK46 => ?_
    refine WL.stepE (OW.loadK0 Board (.agg #[.int .i64 a0.Buses, u1, u2, u3, .int .i64 a0.Phase, .int .i64 a0.Frequency]) ty29 rfl hb20 rfl rfl) rfl ?_
    refine WL.stepE (OW.loadK0 Power (.agg #[u7, u8, u9, u10]) ty34 rfl hb25 rfl rfl) rfl ?_
    refine WL.p (.int .i64 a2) rfl rfl ?_
    obtain ⟨y47, q48, hF⟩ := bindE hF
    refine WL.step (OW.call Try.call44 rfl (sync_sound_ok q48 (mk29 (x := a0) (h4.baseM hE rfl) (h5.baseM hE rfl) (h6.baseM hE rfl)) (mk34 (x := a1) (h11.baseM hE rfl) (h12.baseM hE rfl) (h13.baseM hE rfl) (h14.baseM hE rfl)))) rfl ?_
    rintro _ w49 ⟨o53, hn_, rfl⟩
    obtain ⟨o50, ev51, hA52⟩ := adopt (o := o42) (ks := []) (Ks := [[40], [40, 41]]) 103 ([]) [103] hn_ MbOk.nil rfl rfl rfl rfl
    have hE := hE.evo ev51 rfl rfl
    have hb20 := hb20.evo ev51 rfl
    have hb25 := hb25.evo ev51 rfl
    refine WL.p (.bool (!y47)) rfl rfl ?_
    refine WL.p (.bool (!y47)) rfl rfl ?_
    refine WL.nx hK46 ?_
    refine CW.cond (b := (!y47)) rfl (fun hc54 => ?_) (fun hc54 => ?_)
    ·have hF := iteT hc54 hF
     refine CW.sr fun K55 hK55 => ?_
     refine WL.p (.int .i64 11) rfl rfl ?_
     refine WL.nx hK55 ?_
     obtain rfl := Option.some.inj hF
     exact CW.rets (vs := [.int .i64 11]) Try.results23 ⟨rfl, trivial⟩ ⟨_, rfl, _, (hE.rn he0 100 [] rfl rfl), rfl⟩ (fun _ _ h => h)
    ·have hF := iteF hc54 hF
     refine CW.skip ?_
     refine hK26 _ _ ?_
     refine CW.sr fun K56 hK56 => ?_
     refine WL.stepE (OW.fldAddr (FldOk.at f29_1) rfl) rfl ?_
     refine WL.stepE (OW.loadK (off := 1) (List Breaker) (u1) ty25 rfl hb20 rfl rfl) rfl ?_
     refine WL.p (.int .i64 a2) rfl rfl ?_
     obtain ⟨y57, q61, hF⟩ := bindE hF
     refine WL.stepP (OW.indexAddr Try.underlying25 ty59 rfl (h4.baseM hE rfl) rfl q61) rfl fun _ ⟨pa58, hv_, hp59, he60⟩ => ?_
     subst hv_
     refine WL.stepP (OW.load ty59 rfl hp59) rfl fun v62 h63 => ?_
     obtain rfl := op59 h63
     refine WL.step (OW.allocK (o := o50) Breaker 104 [.int .i64 0, .int .i64 0, .int .i64 0] ty59 rfl) rfl ?_
     rintro _ w66 ⟨pa64, o65, rfl, ev67, hb68⟩
     have hE := hE.evo ev67 rfl rfl
     have hb20 := hb20.evo ev67 rfl
     have hb25 := hb25.evo ev67 rfl
     refine WL.step0 (OW.storeK0 Breaker [.int .i64 y57.Kind, .int .i64 y57.A, .int .i64 y57.B] [.int .i64 y57.Kind, .int .i64 y57.A, .int .i64 y57.B] ty59 rfl rfl hb68 rfl ⟨rfl, rfl, rfl, trivial⟩ rfl rfl rfl) ?_
     rintro _ w69 ⟨ev70, hb68⟩
     have hE := hE.evo ev70 rfl rfl
     have hb20 := hb20.evo ev70 rfl
     have hb25 := hb25.evo ev70 rfl
     refine WL.nx hK56 ?_
     refine CW.sr fun K71 hK71 => ?_
     refine WL.stepE (OW.loadK0 Board (.agg #[.int .i64 a0.Buses, u1, u2, u3, .int .i64 a0.Phase, .int .i64 a0.Frequency]) ty29 rfl hb20 rfl rfl) rfl ?_
     refine WL.stepE (OW.loadK0 Power (.agg #[u7, u8, u9, u10]) ty34 rfl hb25 rfl rfl) rfl ?_
     refine WL.stepE (OW.fldAddr (FldOk.at f59_1) rfl) rfl ?_
     refine WL.stepE (OW.loadK (off := 1) Int (.int .i64 y57.A) ty3 rfl hb68 rfl rfl) rfl ?_
     obtain ⟨⟨y72, y73⟩, q74, hF⟩ := bindE hF
     dsimp only at hF
     refine WL.step (OW.call Try.call41 rfl (board_Of_ok q74 (mk29 (x := a0) (h4.baseM hE rfl) (h5.baseM hE rfl) (h6.baseM hE rfl)) (mk34 (x := a1) (h11.baseM hE rfl) (h12.baseM hE rfl) (h13.baseM hE rfl) (h14.baseM hE rfl)))) rfl ?_
     rintro _ w75 ⟨o79, u81, u83, u85, hn_, rfl, h80, h82, h84⟩
     obtain ⟨o76, ev77, hA78⟩ := adopt (o := o65) (ks := []) (Ks := [[40], [40, 41]]) 105 ([]) [105] hn_ MbOk.nil rfl rfl rfl rfl
     have h80 := h80.ad (K' := [105]) hA78 rfl
     have h82 := h82.ad (K' := [105]) hA78 rfl
     have h84 := h84.ad (K' := [105]) hA78 rfl
     have hE := hE.evo ev77 rfl rfl
     have hb20 := hb20.evo ev77 rfl
     have hb25 := hb25.evo ev77 rfl
     have hb68 := hb68.evo ev77 rfl
     refine WL.p (.tuple #[.agg #[u81, u83, u85], .bool y73]) rfl rfl ?_
     refine WL.p (.agg #[u81, u83, u85]) rfl rfl ?_
     refine WL.p (.bool y73) rfl rfl ?_
     refine WL.step (OW.allocK (o := o76) Island 106 [.slice none 0 0, .slice none 0 0, .slice none 0 0] ty44 rfl) rfl ?_
     rintro _ w88 ⟨pa86, o87, rfl, ev89, hb90⟩
     have hE := hE.evo ev89 rfl rfl
     have h80 := h80.evo ev89 rfl
     have h82 := h82.evo ev89 rfl
     have h84 := h84.evo ev89 rfl
     have hb20 := hb20.evo ev89 rfl
     have hb25 := hb25.evo ev89 rfl
     have hb68 := hb68.evo ev89 rfl
     have h91 := Ow.nil (α := Int) 3 o87 107 [] w88
     have h92 := Ow.nil (α := Int) 3 o87 108 [] w88
     have h93 := Ow.nil (α := Int) 3 o87 109 [] w88
     refine WL.step0 (OW.storeK0 Island [u81, u83, u85] [u81, u83, u85] ty44 rfl rfl hb90 rfl ⟨(h80.one rfl), (h82.one rfl), (h84.one rfl), trivial⟩ rfl rfl rfl) ?_
     rintro _ w94 ⟨ev95, hb90⟩
     have hE := hE.evo ev95 rfl rfl
     have h80 := h80.evo ev95 rfl
     have h82 := h82.evo ev95 rfl
     have h84 := h84.evo ev95 rfl
     have hb20 := hb20.evo ev95 rfl
     have hb25 := hb25.evo ev95 rfl
     have hb68 := hb68.evo ev95 rfl
     refine WL.p (.bool y73) rfl rfl ?_
     refine WL.nx hK71 ?_
     refine CW.sr fun K96 hK96 => ?_
     refine WL.stepE (OW.fldAddr (FldOk.at f59_0) rfl) rfl ?_
     refine WL.stepE (OW.loadK (off := 0) Int (.int .i64 y57.Kind) ty3 rfl hb68 rfl rfl) rfl ?_
     refine WL.p (.bool (((y57.Kind == 1)))) rfl rfl ?_
     refine WL.p (.bool (((y57.Kind == 1)))) rfl rfl ?_
     obtain ⟨x97, q98, hF⟩ := bindE hF
     have hJ101 : ∀ (w99 : World) (o100 : Cls), En w0 e0 o100 w99 → Bk o100 100 w99 pa16 [.int .i64 a0.Buses, u1, u2, u3, .int .i64 a0.Phase, .int .i64 a0.Frequency] → Bk o100 101 w99 pa21 [u7, u8, u9, u10] → Bk o100 104 w99 pa64 [.int .i64 y57.Kind, .int .i64 y57.A, .int .i64 y57.B] → NK 67 K96 [(3, .pointer (some pa16)), (4, .pointer (some pa21)), (8, .pointer (some pa64)), (11, .bool x97)] w99 := by
      intro w99 o100  hE hb20 hb25 hb68
      refine hK96 _ _ ?_
      refine CW.seq fun K102 hK102 => ?_
      refine CW.sr fun K103 hK103 => ?_
      refine WL.p (.bool x97) rfl rfl ?_
      refine WL.p (.bool (!x97)) rfl rfl ?_
      refine WL.p (.bool (!x97)) rfl rfl ?_
      obtain ⟨x104, q105, hF⟩ := bindE hF
      have hJ108 : ∀ (w106 : World) (o107 : Cls), En w0 e0 o107 w106 → NK 67 K103 [(66, .bool x104)] w106 := by
       intro w106 o107  hE
       refine hK103 _ _ ?_
       refine CW.cond (b := x104) rfl (fun hc109 => ?_) (fun hc109 => ?_)
       ·have hF := iteT hc109 hF
        refine CW.sr fun K110 hK110 => ?_
        refine WL.p (.int .i64 12) rfl rfl ?_
        refine WL.nx hK110 ?_
        obtain rfl := Option.some.inj hF
        exact CW.rets (vs := [.int .i64 12]) Try.results23 ⟨rfl, trivial⟩ ⟨_, rfl, _, (hE.rn he0 100 [] rfl rfl), rfl⟩ (fun _ _ h => h)
       ·have hF := iteF hc109 hF
        refine CW.skip ?_
        refine hK102 _ _ ?_
        refine CW.sr fun K111 hK111 => ?_
        refine WL.p (.int .i64 0) rfl rfl ?_
        refine WL.nx hK111 ?_
        obtain rfl := Option.some.inj hF
        exact CW.rets (vs := [.int .i64 0]) Try.results23 ⟨rfl, trivial⟩ ⟨_, rfl, _, (hE.rn he0 100 [] rfl rfl), rfl⟩ (fun _ _ h => h)
      rcases Bool.eq_false_or_eq_true (!x97) with hc112 | hc112
      ·have q105 := iteT hc112 q105
       refine WL.stepGE rfl rfl rfl hc112 (OW.loadK0 Board (.agg #[.int .i64 a0.Buses, u1, u2, u3, .int .i64 a0.Phase, .int .i64 a0.Frequency]) ty29 rfl hb20 rfl rfl) rfl ?_
       refine WL.stepGE rfl rfl rfl hc112 (OW.loadK0 Power (.agg #[u7, u8, u9, u10]) ty34 rfl hb25 rfl rfl) rfl ?_
       refine WL.stepGE rfl rfl rfl hc112 (OW.loadK0 Breaker (.agg #[.int .i64 y57.Kind, .int .i64 y57.A, .int .i64 y57.B]) ty59 rfl hb68 rfl rfl) rfl ?_
       obtain ⟨y113, q114, q105⟩ := bindE q105
       refine WL.stepG rfl rfl rfl hc112 (OW.call Try.call46 rfl (sync_synchronous_ok q114 (mk29 (x := a0) (h4.baseM hE rfl) (h5.baseM hE rfl) (h6.baseM hE rfl)) (mk34 (x := a1) (h11.baseM hE rfl) (h12.baseM hE rfl) (h13.baseM hE rfl) (h14.baseM hE rfl)) (mk59 (S := In o100 []) (x := y57)))) rfl ?_
       rintro _ w115 ⟨o119, hn_, rfl⟩
       obtain ⟨o116, ev117, hA118⟩ := adopt (o := o100) (ks := []) (Ks := [[40], [40, 41], []]) 111 ([]) [111] hn_ MbOk.nil rfl rfl rfl rfl
       have hE := hE.evo ev117 rfl rfl
       refine WL.stepGE rfl rfl rfl hc112 (OW.pv (v := (.bool (!y113))) rfl) rfl ?_
       refine WL.stepE (OW.pickT rfl hc112 rfl) rfl ?_
       refine WL.nil ?_
       have e120 := Option.some.inj q105
       subst e120
       exact NK.sb (hJ108 w115 o116 hE) ⟨rfl, trivial⟩
      ·have q105 := iteF hc112 q105
       refine WL.skipG rfl rfl rfl (by rw [hc112]; rfl) rfl ?_
       refine WL.skipG rfl rfl rfl (by rw [hc112]; rfl) rfl ?_
       refine WL.skipG rfl rfl rfl (by rw [hc112]; rfl) rfl ?_
       refine WL.skipG rfl rfl rfl (by rw [hc112]; rfl) rfl ?_
       refine WL.skipG rfl rfl rfl (by rw [hc112]; rfl) rfl ?_
       refine WL.stepE (OW.pickF rfl hc112 rfl) rfl ?_
       refine WL.nil ?_
       have e121 := Option.some.inj q105
       subst e121
       exact NK.sb (hJ108 w99 o100 hE) ⟨rfl, trivial⟩
     rcases Bool.eq_false_or_eq_true (((y57.Kind == 1))) with hc122 | hc122
     ·have q98 := iteT hc122 q98
      refine WL.stepGE rfl rfl rfl hc122 (OW.fldAddr (FldOk.at f44_0) rfl) rfl ?_
      refine WL.stepGE rfl rfl rfl hc122 (OW.loadK (off := 0) (List Int) (u81) ty22 rfl hb90 rfl rfl) rfl ?_
      refine WL.stepGE rfl rfl rfl hc122 (OW.fldAddr (FldOk.at f59_2) rfl) rfl ?_
      refine WL.stepGE rfl rfl rfl hc122 (OW.loadK (off := 2) Int (.int .i64 y57.B) ty3 rfl hb68 rfl rfl) rfl ?_
      obtain ⟨y123, q124, q98⟩ := bindE q98
      refine WL.stepG rfl rfl rfl hc122 (OW.call Try.call45 rfl (slices_Contains_int_int_ok q124 h80)) rfl ?_
      rintro _ w125 ⟨o129, hn_, rfl⟩
      obtain ⟨o126, ev127, hA128⟩ := adopt (o := o87) (ks := []) (Ks := [[105]]) 110 ([]) [110] hn_ MbOk.nil rfl rfl rfl rfl
      have hE := hE.evo ev127 rfl rfl
      have h80 := h80.evo ev127 rfl
      have hb20 := hb20.evo ev127 rfl
      have hb25 := hb25.evo ev127 rfl
      have hb68 := hb68.evo ev127 rfl
      refine WL.stepE (OW.pickT rfl hc122 rfl) rfl ?_
      refine WL.p (.bool y123) rfl rfl ?_
      refine WL.nil ?_
      have e130 := Option.some.inj q98
      subst e130
      exact NK.sb (hJ101 w125 o126 hE hb20 hb25 hb68) ⟨rfl, rfl, rfl, rfl, trivial⟩
     ·have q98 := iteF hc122 q98
      refine WL.skipG rfl rfl rfl (by rw [hc122]; rfl) rfl ?_
      refine WL.skipG rfl rfl rfl (by rw [hc122]; rfl) rfl ?_
      refine WL.skipG rfl rfl rfl (by rw [hc122]; rfl) rfl ?_
      refine WL.skipG rfl rfl rfl (by rw [hc122]; rfl) rfl ?_
      refine WL.skipG rfl rfl rfl (by rw [hc122]; rfl) rfl ?_
      refine WL.stepE (OW.pickF rfl hc122 rfl) rfl ?_
      refine WL.p (.bool false) rfl rfl ?_
      refine WL.nil ?_
      have e131 := Option.some.inj q98
      subst e131
      exact NK.sb (hJ101 w94 o87 hE hb20 hb25 hb68) ⟨rfl, rfl, rfl, rfl, trivial⟩
  rcases Bool.eq_false_or_eq_true ((decide (a2 < 0))) with hc132 | hc132
  ·have q40 := iteT hc132 q40
   refine WL.skipG rfl rfl rfl (by rw [hc132]; rfl) rfl ?_
   refine WL.skipG rfl rfl rfl (by rw [hc132]; rfl) rfl ?_
   refine WL.skipG rfl rfl rfl (by rw [hc132]; rfl) rfl ?_
   refine WL.skipG rfl rfl rfl (by rw [hc132]; rfl) rfl ?_
   refine WL.skipG rfl rfl rfl (by rw [hc132]; rfl) rfl ?_
   refine WL.stepE (OW.pickT rfl hc132 rfl) rfl ?_
   refine WL.p (.bool true) rfl rfl ?_
   refine WL.nil ?_
   have e133 := Option.some.inj q40
   subst e133
   exact NK.sb (hJ43 w30 o31 hE hb20 hb25) ⟨rfl, rfl, rfl, rfl, trivial⟩
  ·have q40 := iteF hc132 q40
   refine WL.stepGE rfl rfl rfl hc132 (OW.pv (v := (.int .i64 a2)) rfl) rfl ?_
   refine WL.stepGE rfl rfl rfl hc132 (OW.fldAddr (FldOk.at f29_1) rfl) rfl ?_
   refine WL.stepGE rfl rfl rfl hc132 (OW.loadK (off := 1) (List Breaker) (u1) ty25 rfl hb20 rfl rfl) rfl ?_
   refine WL.stepGE rfl rfl rfl hc132 (OW.len Try.underlying25 rfl (h4.baseM hE rfl)) rfl ?_
   refine WL.stepGE rfl rfl rfl hc132 (OW.pv (v := (.bool ((decide (a2 ≥ (len a0.Breakers)))))) rfl) rfl ?_
   refine WL.stepE (OW.pickF rfl hc132 rfl) rfl ?_
   refine WL.p (.bool ((decide (a2 ≥ (len a0.Breakers))))) rfl rfl ?_
   refine WL.nil ?_
   have e134 := Option.some.inj q40
   subst e134
   exact NK.sb (hJ43 w30 o31 hE hb20 hb25) ⟨rfl, rfl, rfl, rfl, trivial⟩

end Go.Proofs.Ytdfkfohpgakihaa
