/- Walks. Written by a program (wip/gen). -/
import Derived.Test.YtdfkfohpgakihaaHw
import Derived.Test.YtdfkfohpgakihaaWk6
import Derived.Test.YtdfkfohpgakihaaWk7
import Derived.Test.YtdfkfohpgakihaaWk11
set_option linter.unusedVariables false
set_option linter.unusedSimpArgs false
namespace Go.Proofs.Ytdfkfohpgakihaa
open Go Go.RowKit Dp

set_option maxRecDepth 100000

set_option maxHeartbeats 1000000 in
theorem sync_Match_ok {a0 : Board} {a1 : Power} {a2 : Int} {a3 : Int} {r : (Power × Int)} (hF : sync_Match a0 a1 a2 a3 = some r) {w0 : World} {p0 : Value} {S0 : Nat → Prop} (g0 : Rv S0 w0 p0 a0) {p1 : Value} {S1 : Nat → Prop} (g1 : Rv S1 w0 p1 a1) :
    Calls Try.prog 30 #[p0, p1, .int .i64 a2, .int .i64 a3] w0 (Ret fun v w' => ∃ (oc : Cls) (x0_0 : Value) (x0_1 : Value) (x0_2 : Value) (x0_3 : Value), En w0 (entM w0 [] [S0, S1]) oc w' ∧ v = .tuple #[.agg #[x0_0, x0_1, x0_2, x0_3], .int .i64 r.2] ∧ Ow 4 oc 100 [] w' x0_0 r.1.Closed ∧ Ow 48 oc 101 [] w' x0_1 r.1.Sources ∧ Ow 3 oc 102 [] w' x0_2 r.1.Limits ∧ Ow 65 oc 103 [] w' x0_3 r.1.Broken) := by
 obtain ⟨e0, he0⟩ : ∃ e0, e0 = entM w0 [] [S0, S1] := ⟨_, rfl⟩
 have hE := En.refl w0 e0
 have g0 := g0.argM he0 0 (K := [40]) rfl (nosep rfl) rfl
 have g1 := g1.argM he0 1 (K := [40, 41]) rfl (nosep rfl) rfl
 obtain ⟨u1, u2, u3, rfl, h4, h5, h6⟩ := op29 g0
 obtain ⟨u7, u8, u9, u10, rfl, h11, h12, h13, h14⟩ := op34 g1
 rw [sync_Match] at hF
 refine enter (l := [.agg #[.int .i64 a0.Buses, u1, u2, u3, .int .i64 a0.Phase, .int .i64 a0.Frequency], .agg #[u7, u8, u9, u10], .int .i64 a2, .int .i64 a3]) Try.func30 rfl Try.ntmps30 rfl ?_
 refine CW.sub (L' := [(0, .agg #[.int .i64 a0.Buses, u1, u2, u3, .int .i64 a0.Phase, .int .i64 a0.Frequency]), (1, .agg #[u7, u8, u9, u10]), (2, .int .i64 a2), (3, .int .i64 a3)]) ⟨rfl, rfl, rfl, rfl, trivial⟩ ?_
 refine CW.sr fun K15 hK15 => ?_
 refine WL.step (OW.boxK (o := e0) 100 [.int .i64 a0.Buses, u1, u2, u3, .int .i64 a0.Phase, .int .i64 a0.Frequency] rfl rfl) rfl ?_
 rintro _ w18 ⟨pa16, o17, rfl, ev19, hb20⟩
 have hE := hE.evo ev19 rfl rfl
 refine WL.step (OW.boxK (o := o17) 101 [u7, u8, u9, u10] rfl rfl) rfl ?_
 rintro _ w23 ⟨pa21, o22, rfl, ev24, hb25⟩
 have hE := hE.evo ev24 rfl rfl
 have hb20 := hb20.evo ev24 rfl
 refine WL.step (OW.allocK (o := o22) Power 102 [.slice none 0 0, .slice none 0 0, .slice none 0 0, .slice none 0 0] ty34 rfl) rfl ?_
 rintro _ w28 ⟨pa26, o27, rfl, ev29, hb30⟩
 have hE := hE.evo ev29 rfl rfl
 have hb20 := hb20.evo ev29 rfl
 have hb25 := hb25.evo ev29 rfl
 have h31 := Ow.nil (α := Bool) 4 o27 103 [] w28
 have h32 := Ow.nil (α := Running) 48 o27 104 [] w28
 have h33 := Ow.nil (α := Int) 3 o27 105 [] w28
 have h34 := Ow.nil (α := Part) 65 o27 106 [] w28
 refine WL.p (.int .i64 0) rfl rfl ?_
 refine WL.nx hK15 ?_
 refine CW.seq fun K35 hK35 => ?_
 refine CW.sr fun K36 hK36 => ?_
 refine WL.stepE (OW.loadK0 Board (.agg #[.int .i64 a0.Buses, u1, u2, u3, .int .i64 a0.Phase, .int .i64 a0.Frequency]) ty29 rfl hb20 rfl rfl) rfl ?_
 refine WL.stepE (OW.loadK0 Power (.agg #[u7, u8, u9, u10]) ty34 rfl hb25 rfl rfl) rfl ?_
 obtain ⟨y37, q38, hF⟩ := bindE hF
 refine WL.step (OW.call Try.call34 rfl (board_State_ok q38 (mk29 (x := a0) (h4.baseM hE rfl) (h5.baseM hE rfl) (h6.baseM hE rfl)) (mk34 (x := a1) (h11.baseM hE rfl) (h12.baseM hE rfl) (h13.baseM hE rfl) (h14.baseM hE rfl)))) rfl ?_
 rintro _ w39 ⟨o43, hn_, rfl⟩
 obtain ⟨o40, ev41, hA42⟩ := adopt (o := o27) (ks := []) (Ks := [[40], [40, 41]]) 107 ([]) [107] hn_ MbOk.nil rfl rfl rfl rfl
 have hE := hE.evo ev41 rfl rfl
 have h31 := h31.evo ev41 rfl
 have h32 := h32.evo ev41 rfl
 have h33 := h33.evo ev41 rfl
 have h34 := h34.evo ev41 rfl
 have hb20 := hb20.evo ev41 rfl
 have hb25 := hb25.evo ev41 rfl
 have hb30 := hb30.evo ev41 rfl
 refine WL.p (.int .i64 y37) rfl rfl ?_
 refine WL.nx hK36 ?_
 refine CW.sr fun K44 hK44 => ?_
 refine WL.p (.int .i64 y37) rfl rfl ?_
 refine WL.p (.bool (((y37 != 0)))) rfl rfl ?_
 refine WL.nx hK44 ?_
 refine CW.cond (b := ((y37 != 0))) rfl (fun hc45 => ?_) (fun hc45 => ?_)
 ·have hF := iteT hc45 hF
  refine CW.sr fun K46 hK46 => ?_
  refine WL.stepE (OW.buildK Power [] [.slice none 0 0, .slice none 0 0, .slice none 0 0, .slice none 0 0] st34 ty34 rfl trivial rfl) rfl ?_
  have h47 := Ow.nil (α := Bool) 4 o40 108 [] w39
  have h48 := Ow.nil (α := Running) 48 o40 109 [] w39
  have h49 := Ow.nil (α := Int) 3 o40 110 [] w39
  have h50 := Ow.nil (α := Part) 65 o40 111 [] w39
  refine WL.p (.int .i64 y37) rfl rfl ?_
  refine WL.step0 (OW.storeK0 Power [(.slice none 0 0), (.slice none 0 0), (.slice none 0 0), (.slice none 0 0)] [(.slice none 0 0), (.slice none 0 0), (.slice none 0 0), (.slice none 0 0)] ty34 rfl rfl hb30 rfl ⟨rfl, rfl, rfl, rfl, trivial⟩ rfl rfl rfl) ?_
  rintro _ w51 ⟨ev52, hb30⟩
  have hE := hE.evo ev52 rfl rfl
  have h47 := h47.evo ev52 rfl
  have h48 := h48.evo ev52 rfl
  have h49 := h49.evo ev52 rfl
  have h50 := h50.evo ev52 rfl
  refine WL.p (.int .i64 y37) rfl rfl ?_
  refine WL.nx hK46 ?_
  obtain rfl := Option.some.inj hF
  exact CW.rets (vs := [.agg #[(.slice none 0 0), (.slice none 0 0), (.slice none 0 0), (.slice none 0 0)], .int .i64 y37]) Try.results30 ⟨ResIs.bk Power (.agg #[(.slice none 0 0), (.slice none 0 0), (.slice none 0 0), (.slice none 0 0)]) ty34 rfl hb30 rfl rfl, rfl, trivial⟩ ⟨_, rfl, _, ((.slice none 0 0)), ((.slice none 0 0)), ((.slice none 0 0)), ((.slice none 0 0)), (hE.rn he0 104 [] rfl rfl), rfl, (Ow.nil _ _ _ _ _), (Ow.nil _ _ _ _ _), (Ow.nil _ _ _ _ _), (Ow.nil _ _ _ _ _)⟩ (fun _ _ h => h)
 ·have hF := iteF hc45 hF
  refine CW.skip ?_
  refine hK35 _ _ ?_
  refine CW.seq fun K53 hK53 => ?_
  refine CW.sr fun K54 hK54 => ?_
  refine WL.p (.int .i64 a2) rfl rfl ?_
  refine WL.p (.bool ((decide (a2 < 0)))) rfl rfl ?_
  refine WL.p (.bool ((decide (a2 < 0)))) rfl rfl ?_
  obtain ⟨x55, q56, hF⟩ := bindE hF
  have hJ59 : ∀ (w57 : World) (o58 : Cls), En w0 e0 o58 w57 → Ow 4 o58 103 [] w57 (.slice none 0 0) ([] : List Bool) → Ow 48 o58 104 [] w57 (.slice none 0 0) ([] : List Running) → Ow 3 o58 105 [] w57 (.slice none 0 0) ([] : List Int) → Ow 65 o58 106 [] w57 (.slice none 0 0) ([] : List Part) → Bk o58 100 w57 pa16 [.int .i64 a0.Buses, u1, u2, u3, .int .i64 a0.Phase, .int .i64 a0.Frequency] → Bk o58 101 w57 pa21 [u7, u8, u9, u10] → Bk o58 102 w57 pa26 [(.slice none 0 0), (.slice none 0 0), (.slice none 0 0), (.slice none 0 0)] → NK 95 K54 [(2, .int .i64 a2), (3, .int .i64 a3), (4, .pointer (some pa16)), (5, .pointer (some pa21)), (8, .pointer (some pa26)), (44, .bool x55)] w57 := by
   intro w57 o58  hE h31 h32 h33 h34 hb20 hb25 hb30
   refine hK54 _ _ ?_
   refine CW.cond (b := x55) rfl (fun hc60 => ?_) (fun hc60 => ?_)
   ·have hF := iteT hc60 hF
    refine CW.sr fun K61 hK61 => ?_
    refine WL.stepE (OW.buildK Power [] [.slice none 0 0, .slice none 0 0, .slice none 0 0, .slice none 0 0] st34 ty34 rfl trivial rfl) rfl ?_
    have h62 := Ow.nil (α := Bool) 4 o58 112 [] w57
    have h63 := Ow.nil (α := Running) 48 o58 113 [] w57
    have h64 := Ow.nil (α := Int) 3 o58 114 [] w57
    have h65 := Ow.nil (α := Part) 65 o58 115 [] w57
    refine WL.step0 (OW.storeK0 Power [(.slice none 0 0), (.slice none 0 0), (.slice none 0 0), (.slice none 0 0)] [(.slice none 0 0), (.slice none 0 0), (.slice none 0 0), (.slice none 0 0)] ty34 rfl rfl hb30 rfl ⟨rfl, rfl, rfl, rfl, trivial⟩ rfl rfl rfl) ?_
    rintro _ w66 ⟨ev67, hb30⟩
    have hE := hE.evo ev67 rfl rfl
    have h62 := h62.evo ev67 rfl
    have h63 := h63.evo ev67 rfl
    have h64 := h64.evo ev67 rfl
    have h65 := h65.evo ev67 rfl
    refine WL.p (.int .i64 10) rfl rfl ?_
    refine WL.nx hK61 ?_
    obtain rfl := Option.some.inj hF
    exact CW.rets (vs := [.agg #[(.slice none 0 0), (.slice none 0 0), (.slice none 0 0), (.slice none 0 0)], .int .i64 10]) Try.results30 ⟨ResIs.bk Power (.agg #[(.slice none 0 0), (.slice none 0 0), (.slice none 0 0), (.slice none 0 0)]) ty34 rfl hb30 rfl rfl, rfl, trivial⟩ ⟨_, rfl, _, ((.slice none 0 0)), ((.slice none 0 0)), ((.slice none 0 0)), ((.slice none 0 0)), (hE.rn he0 104 [] rfl rfl), rfl, (Ow.nil _ _ _ _ _), (Ow.nil _ _ _ _ _), (Ow.nil _ _ _ _ _), (Ow.nil _ _ _ _ _)⟩ (fun _ _ h => h)
   ·have hF := iteF hc60 hF
    refine CW.skip ?_
    refine hK53 _ _ ?_
    refine CW.sr fun K68 hK68 => ?_
    refine WL.stepE (OW.loadK0 Board (.agg #[.int .i64 a0.Buses, u1, u2, u3, .int .i64 a0.Phase, .int .i64 a0.Frequency]) ty29 rfl hb20 rfl rfl) rfl ?_
    refine WL.stepE (OW.loadK0 Power (.agg #[u7, u8, u9, u10]) ty34 rfl hb25 rfl rfl) rfl ?_
    refine WL.p (.int .i64 a3) rfl rfl ?_
    obtain ⟨⟨y69, y70⟩, q71, hF⟩ := bindE hF
    dsimp only at hF
    refine WL.step (OW.call Try.call15 rfl (sync_Leader_ok q71 (mk29 (x := a0) (h4.baseM hE rfl) (h5.baseM hE rfl) (h6.baseM hE rfl)) (mk34 (x := a1) (h11.baseM hE rfl) (h12.baseM hE rfl) (h13.baseM hE rfl) (h14.baseM hE rfl)))) rfl ?_
    rintro _ w72 ⟨o76, hn_, rfl⟩
    obtain ⟨o73, ev74, hA75⟩ := adopt (o := o58) (ks := []) (Ks := [[40], [40, 41]]) 116 ([]) [116] hn_ MbOk.nil rfl rfl rfl rfl
    have hE := hE.evo ev74 rfl rfl
    have h31 := h31.evo ev74 rfl
    have h32 := h32.evo ev74 rfl
    have h33 := h33.evo ev74 rfl
    have h34 := h34.evo ev74 rfl
    have hb20 := hb20.evo ev74 rfl
    have hb25 := hb25.evo ev74 rfl
    have hb30 := hb30.evo ev74 rfl
    refine WL.p (.tuple #[.int .i64 y69, .bool y70]) rfl rfl ?_
    refine WL.p (.int .i64 y69) rfl rfl ?_
    refine WL.p (.bool y70) rfl rfl ?_
    refine WL.p (.int .i64 y69) rfl rfl ?_
    refine WL.p (.bool y70) rfl rfl ?_
    refine WL.nx hK68 ?_
    refine CW.seq fun K77 hK77 => ?_
    refine CW.sr fun K78 hK78 => ?_
    refine WL.p (.bool y70) rfl rfl ?_
    refine WL.p (.bool (!y70)) rfl rfl ?_
    refine WL.p (.bool (!y70)) rfl rfl ?_
    obtain ⟨x79, q80, hF⟩ := bindE hF
    have hJ83 : ∀ (w81 : World) (o82 : Cls), En w0 e0 o82 w81 → Ow 4 o82 103 [] w81 (.slice none 0 0) ([] : List Bool) → Ow 48 o82 104 [] w81 (.slice none 0 0) ([] : List Running) → Ow 3 o82 105 [] w81 (.slice none 0 0) ([] : List Int) → Ow 65 o82 106 [] w81 (.slice none 0 0) ([] : List Part) → Bk o82 100 w81 pa16 [.int .i64 a0.Buses, u1, u2, u3, .int .i64 a0.Phase, .int .i64 a0.Frequency] → Bk o82 101 w81 pa21 [u7, u8, u9, u10] → Bk o82 102 w81 pa26 [(.slice none 0 0), (.slice none 0 0), (.slice none 0 0), (.slice none 0 0)] → NK 95 K78 [(2, .int .i64 a2), (4, .pointer (some pa16)), (5, .pointer (some pa21)), (8, .pointer (some pa26)), (11, .int .i64 y69), (63, .bool x79)] w81 := by
     intro w81 o82  hE h31 h32 h33 h34 hb20 hb25 hb30
     refine hK78 _ _ ?_
     refine CW.cond (b := x79) rfl (fun hc84 => ?_) (fun hc84 => ?_)
     ·have hF := iteT hc84 hF
      refine CW.sr fun K85 hK85 => ?_
      refine WL.stepE (OW.buildK Power [] [.slice none 0 0, .slice none 0 0, .slice none 0 0, .slice none 0 0] st34 ty34 rfl trivial rfl) rfl ?_
      have h86 := Ow.nil (α := Bool) 4 o82 117 [] w81
      have h87 := Ow.nil (α := Running) 48 o82 118 [] w81
      have h88 := Ow.nil (α := Int) 3 o82 119 [] w81
      have h89 := Ow.nil (α := Part) 65 o82 120 [] w81
      refine WL.step0 (OW.storeK0 Power [(.slice none 0 0), (.slice none 0 0), (.slice none 0 0), (.slice none 0 0)] [(.slice none 0 0), (.slice none 0 0), (.slice none 0 0), (.slice none 0 0)] ty34 rfl rfl hb30 rfl ⟨rfl, rfl, rfl, rfl, trivial⟩ rfl rfl rfl) ?_
      rintro _ w90 ⟨ev91, hb30⟩
      have hE := hE.evo ev91 rfl rfl
      have h86 := h86.evo ev91 rfl
      have h87 := h87.evo ev91 rfl
      have h88 := h88.evo ev91 rfl
      have h89 := h89.evo ev91 rfl
      refine WL.p (.int .i64 11) rfl rfl ?_
      refine WL.nx hK85 ?_
      obtain rfl := Option.some.inj hF
      exact CW.rets (vs := [.agg #[(.slice none 0 0), (.slice none 0 0), (.slice none 0 0), (.slice none 0 0)], .int .i64 11]) Try.results30 ⟨ResIs.bk Power (.agg #[(.slice none 0 0), (.slice none 0 0), (.slice none 0 0), (.slice none 0 0)]) ty34 rfl hb30 rfl rfl, rfl, trivial⟩ ⟨_, rfl, _, ((.slice none 0 0)), ((.slice none 0 0)), ((.slice none 0 0)), ((.slice none 0 0)), (hE.rn he0 104 [] rfl rfl), rfl, (Ow.nil _ _ _ _ _), (Ow.nil _ _ _ _ _), (Ow.nil _ _ _ _ _), (Ow.nil _ _ _ _ _)⟩ (fun _ _ h => h)
     ·have hF := iteF hc84 hF
      refine CW.skip ?_
      refine hK77 _ _ ?_
      refine CW.sr fun K92 hK92 => ?_
      refine WL.stepE (OW.loadK0 Power (.agg #[u7, u8, u9, u10]) ty34 rfl hb25 rfl rfl) rfl ?_
      obtain ⟨y93, q94, hF⟩ := bindE hF
      refine WL.step (OW.call Try.call35 rfl (states_Clone_ok q94 (mk34 (x := a1) (h11.baseM hE rfl) (h12.baseM hE rfl) (h13.baseM hE rfl) (h14.baseM hE rfl)))) rfl ?_
      rintro _ w95 ⟨o99, u101, u103, u105, u107, hn_, rfl, h100, h102, h104, h106⟩
      obtain ⟨o96, ev97, hA98⟩ := adopt (o := o82) (ks := []) (Ks := [[40, 41]]) 121 ([(100, 122), (101, 123), (102, 124), (103, 125)]) [121, 122, 123, 124, 125] hn_ MbOk.nil rfl rfl rfl rfl
      have h100 := h100.ad (c' := 122) (K' := []) hA98 rfl rfl
      have h102 := h102.ad (c' := 123) (K' := []) hA98 rfl rfl
      have h104 := h104.ad (c' := 124) (K' := []) hA98 rfl rfl
      have h106 := h106.ad (c' := 125) (K' := []) hA98 rfl rfl
      have hE := hE.evo ev97 rfl rfl
      have h31 := h31.evo ev97 rfl
      have h32 := h32.evo ev97 rfl
      have h33 := h33.evo ev97 rfl
      have h34 := h34.evo ev97 rfl
      have hb20 := hb20.evo ev97 rfl
      have hb25 := hb25.evo ev97 rfl
      have hb30 := hb30.evo ev97 rfl
      refine WL.step (OW.allocK (o := o96) Power 126 [.slice none 0 0, .slice none 0 0, .slice none 0 0, .slice none 0 0] ty34 rfl) rfl ?_
      rintro _ w110 ⟨pa108, o109, rfl, ev111, hb112⟩
      have hE := hE.evo ev111 rfl rfl
      have h100 := h100.evo ev111 rfl
      have h102 := h102.evo ev111 rfl
      have h104 := h104.evo ev111 rfl
      have h106 := h106.evo ev111 rfl
      have h31 := h31.evo ev111 rfl
      have h32 := h32.evo ev111 rfl
      have h33 := h33.evo ev111 rfl
      have h34 := h34.evo ev111 rfl
      have hb20 := hb20.evo ev111 rfl
      have hb25 := hb25.evo ev111 rfl
      have hb30 := hb30.evo ev111 rfl
      have h113 := Ow.nil (α := Bool) 4 o109 127 [] w110
      have h114 := Ow.nil (α := Running) 48 o109 128 [] w110
      have h115 := Ow.nil (α := Int) 3 o109 129 [] w110
      have h116 := Ow.nil (α := Part) 65 o109 130 [] w110
      refine WL.step0 (OW.storeK0 Power [u101, u103, u105, u107] [u101, u103, u105, u107] ty34 rfl rfl hb112 rfl ⟨(h100.one), (h102.one), (h104.one), (h106.one), trivial⟩ rfl rfl rfl) ?_
      rintro _ w117 ⟨ev118, hb112⟩
      have hE := hE.evo ev118 rfl rfl
      have h100 := h100.evo ev118 rfl
      have h102 := h102.evo ev118 rfl
      have h104 := h104.evo ev118 rfl
      have h106 := h106.evo ev118 rfl
      have h31 := h31.evo ev118 rfl
      have h32 := h32.evo ev118 rfl
      have h33 := h33.evo ev118 rfl
      have h34 := h34.evo ev118 rfl
      have hb20 := hb20.evo ev118 rfl
      have hb25 := hb25.evo ev118 rfl
      have hb30 := hb30.evo ev118 rfl
      refine WL.nx hK92 ?_
      refine CW.sr fun K119 hK119 => ?_
      refine WL.p (.int .i64 a2) rfl rfl ?_
      refine WL.step (OW.buildSlice (o := o109) (k := 131) (K := []) (xs := ([a2] : List Int)) Try.underlying22 ty3 rfl ⟨(rv_int.2 rfl), trivial⟩ rfl rfl) rfl ?_
      rintro v120 w121 ⟨o122, ev123, h124⟩
      have hE := hE.evo ev123 rfl rfl
      have h100 := h100.evo ev123 rfl
      have h102 := h102.evo ev123 rfl
      have h104 := h104.evo ev123 rfl
      have h106 := h106.evo ev123 rfl
      have h31 := h31.evo ev123 rfl
      have h32 := h32.evo ev123 rfl
      have h33 := h33.evo ev123 rfl
      have h34 := h34.evo ev123 rfl
      have hb112 := hb112.evo ev123 rfl
      have hb20 := hb20.evo ev123 rfl
      have hb25 := hb25.evo ev123 rfl
      have hb30 := hb30.evo ev123 rfl
      refine WL.p v120 rfl rfl ?_
      refine WL.nx hK119 ?_
      refine CW.seq fun K125 hK125 => ?_
      refine CW.sr fun K126 hK126 => ?_
      refine WL.stepE (OW.loadK0 Board (.agg #[.int .i64 a0.Buses, u1, u2, u3, .int .i64 a0.Phase, .int .i64 a0.Frequency]) ty29 rfl hb20 rfl rfl) rfl ?_
      refine WL.stepE (OW.loadK0 Power (.agg #[u7, u8, u9, u10]) ty34 rfl hb25 rfl rfl) rfl ?_
      refine WL.p (.int .i64 a2) rfl rfl ?_
      obtain ⟨⟨y127, y128⟩, q129, hF⟩ := bindE hF
      dsimp only at hF
      refine WL.step (OW.call Try.call55 rfl (board_Connected_ok q129 (mk29 (x := a0) (h4.baseM hE rfl) (h5.baseM hE rfl) (h6.baseM hE rfl)) (mk34 (x := a1) (h11.baseM hE rfl) (h12.baseM hE rfl) (h13.baseM hE rfl) (h14.baseM hE rfl)))) rfl ?_
      rintro _ w130 ⟨o134, hn_, rfl⟩
      obtain ⟨o131, ev132, hA133⟩ := adopt (o := o122) (ks := []) (Ks := [[40], [40, 41]]) 132 ([]) [132] hn_ MbOk.nil rfl rfl rfl rfl
      have hE := hE.evo ev132 rfl rfl
      have h100 := h100.evo ev132 rfl
      have h102 := h102.evo ev132 rfl
      have h104 := h104.evo ev132 rfl
      have h106 := h106.evo ev132 rfl
      have h124 := h124.evo ev132 rfl
      have h31 := h31.evo ev132 rfl
      have h32 := h32.evo ev132 rfl
      have h33 := h33.evo ev132 rfl
      have h34 := h34.evo ev132 rfl
      have hb112 := hb112.evo ev132 rfl
      have hb20 := hb20.evo ev132 rfl
      have hb25 := hb25.evo ev132 rfl
      have hb30 := hb30.evo ev132 rfl
      refine WL.p (.tuple #[.int .i64 y127, .bool y128]) rfl rfl ?_
      refine WL.p (.int .i64 y127) rfl rfl ?_
      refine WL.p (.bool y128) rfl rfl ?_
      refine WL.p (.int .i64 y127) rfl rfl ?_
      refine WL.p (.bool y128) rfl rfl ?_
      refine WL.nx hK126 ?_
      refine CW.sr fun K135 hK135 => ?_
      refine WL.p (.bool y128) rfl rfl ?_
      refine WL.nx hK135 ?_
      obtain ⟨x136, q139, hF⟩ := bindE hF
      have hJ142 : ∀ (w140 : World) (o141 : Cls) (v137 : Value), En w0 e0 o141 w140 → Ow 4 o141 122 [] w140 u101 y93.Closed → Ow 48 o141 123 [] w140 u103 y93.Sources → Ow 3 o141 124 [] w140 u105 y93.Limits → Ow 65 o141 125 [] w140 u107 y93.Broken → Rv (In o141 [131, 133]) w140 v137 x136 → Ow 4 o141 103 [] w140 (.slice none 0 0) ([] : List Bool) → Ow 48 o141 104 [] w140 (.slice none 0 0) ([] : List Running) → Ow 3 o141 105 [] w140 (.slice none 0 0) ([] : List Int) → Ow 65 o141 106 [] w140 (.slice none 0 0) ([] : List Part) → Bk o141 126 w140 pa108 [u101, u103, u105, u107] → Bk o141 101 w140 pa21 [u7, u8, u9, u10] → Bk o141 102 w140 pa26 [(.slice none 0 0), (.slice none 0 0), (.slice none 0 0), (.slice none 0 0)] → NK 95 K125 [(5, .pointer (some pa21)), (8, .pointer (some pa26)), (11, .int .i64 y69), (13, .pointer (some pa108)), (14, v137)] w140 := by
       intro w140 o141 v137 hE h100 h102 h104 h106 h138 h31 h32 h33 h34 hb112 hb25 hb30
       refine hK125 _ _ ?_
       refine CW.seq fun K143 hK143 => ?_
       obtain ⟨y144, q148, hF⟩ := bindE hF
       obtain ⟨y155, q156, hF⟩ := bindE hF
       have ev_ := Evo.drew o141 w140
       refine CW.anyS (N := [123, 138]) hmix [sOw none none [] 4 122 [] (vk u101) y93.Closed, sOw none (some 7) [] 48 123 [] (vk u103) y93.Sources, sOw none none [] 3 124 [] (vk u105) y93.Limits, sOw none none [] 65 125 [] (vk u107) y93.Broken, sRv none none [] [131, 133] (vk v137) x136, sBk none none [] 126 (vk pa108) (vk ([u101, u103, u105, u107])), sBk none none [] 101 (vk pa21) (vk ([u7, u8, u9, u10])), sPt (some 5) none [5] [40, 41] (vp 0) y144, sEp (some 5) none [5] (vk u8) 4 y69 (vp 0), sOw (some 7) none [] 48 123 [] (vk u103) y155] [⟨[], [5], [], [], vk (.agg #[u101, u103, u105, u107]), false⟩, ⟨[], [], [], [], vk v137, false⟩, ⟨[], [], [], [], vk (.pointer (some (pa21.add 1))), false⟩, ⟨[], [6], [2], [], vk u8, false⟩, ⟨[], [], [], [], vk (.int .i64 y69), false⟩, ⟨[], [], [2, 3, 4], [5], vq 0, false⟩, ⟨[], [7], rg 2 4, [], vk (.agg #[.int .i64 y144.State, .int .i64 y144.Since, .int .i64 y144.Frequency, .int .i64 y144.Phase]), false⟩, ⟨[123], [0, 1, 2, 3, 4], rg 0 7, [], vk (.tuple #[]), false⟩] [123] hE rfl (by kernel_rfl) (by kernel_rfl) ⟨h100.evo ev_ rfl, h102.evo ev_ rfl, h104.evo ev_ rfl, h106.evo ev_ rfl, h138.evo ev_ rfl, hb112.evo ev_ rfl, hb25.evo ev_ rfl, trivial⟩ ⟨?_, Ob.pv rfl rfl (fun _ => rfl) rfl (fun _ _ _ => trivial), ?_, ?_, Ob.pv rfl rfl (fun _ => rfl) rfl (fun _ _ _ => trivial), ?_, ?_, ?_, trivial⟩ ?_
       ·intro vs163 o_ w_ hE hb112
        have hb112 := tBk hb112
        exact OW.q [(13, .pointer (some pa108))] ⟨rfl, trivial⟩ (OW.loadK0 Power (.agg #[u101, u103, u105, u107]) ty34 rfl hb112 rfl rfl) (er rfl trivial)
       ·intro vs163 o_ w_ hE 
        exact OW.q [(5, .pointer (some pa21))] ⟨rfl, trivial⟩ (OW.fldAddr (FldOk.at f34_1) rfl) (er rfl trivial)
       ·intro vs163 o_ w_ hE hb25
        have hb25 := tBk hb25
        exact OW.q [(88, .pointer (some (pa21.add 1)))] ⟨rfl, trivial⟩ (OW.loadK (off := 1) (List Running) (u8) ty31 rfl hb25 rfl rfl) (er rfl trivial)
       ·intro vs163 o_ w_ hE 
        have hE := hE.1
        refine OW.r [(89, u8), (90, .int .i64 y69)] ⟨rfl, rfl, trivial⟩ (OW.indexAddr Try.underlying31 ty48 rfl (h12.baseM hE rfl) rfl q148) ?_
        rintro _ _ ⟨rfl, ⟨pa145, hv_, hp146, he147⟩⟩
        subst hv_
        exact ⟨_, Evo.refl _ _ _ _, rfl, hp146, he147, trivial⟩
       ·intro vs163 o_ w_ hE hp146
        have hp146 := tPt hp146
        refine OW.r [(91, .pointer (some (pOf (vs163 5))))] ⟨rfl, trivial⟩ (OW.load ty48 rfl hp146) ?_
        rintro v149 _ ⟨rfl, h150⟩
        obtain rfl := op48 h150
        exact ⟨_, Evo.refl _ _ _ _, rfl, trivial⟩
       ·intro vs163 o_ w_ hE h100 h102 h104 h106 h138
        have h100 := tOw h100
        have h102 := tOw h102
        have h104 := tOw h104
        have h106 := tOw h106
        have h138 := tRv h138
        obtain ⟨db151, hd152, hk153⟩ := Ow.give 0 h102
        have hm154 : MbOk o_ w_ 0 [db151] [123] := ⟨hk153, trivial⟩
        refine OW.r [(86, .agg #[u101, u103, u105, u107]), (87, v137), (92, .agg #[.int .i64 y144.State, .int .i64 y144.Since, .int .i64 y144.Frequency, .int .i64 y144.Phase])] ⟨rfl, rfl, rfl, trivial⟩ (OW.call Try.call37 rfl (sync_set_ok q156 h100.rv (hm154.sep rfl) hd152 h104.rv (hm154.sep rfl) h106.rv (hm154.sep rfl) h138 (hm154.sep rfl) (mk48 (S := In o_ []) (x := y144)) (hm154.sep rfl) (hm154.nodup rfl))) ?_
        rintro _ w157 ⟨o161, hn_, rfl, h162⟩
        obtain ⟨o158, ev159, hA160⟩ := adopt (o := o_) (ks := [123]) (Ks := [[122], [124], [125], [131, 133], []]) 138 ([]) [123, 138] hn_ hm154 rfl rfl rfl rfl
        have h162 := h162.ad (c' := 123) (K' := []) hA160 rfl rfl
        exact ⟨o158, ev159.sub rfl rfl, rfl, h162, trivial⟩
       ·intro vs163 o165 w164 hE h100 h104 h106 h138 hb112 hb25 hp146 he147 h162
        obtain ⟨hE, evT_⟩ := hE
        have h100 : Ow 4 o165 122 [] w164 u101 y93.Closed := h100
        have h104 : Ow 3 o165 124 [] w164 u105 y93.Limits := h104
        have h106 : Ow 65 o165 125 [] w164 u107 y93.Broken := h106
        have h138 : Rv (In o165 [131, 133]) w164 v137 x136 := h138
        have hb112 : Bk o165 126 w164 pa108 [u101, u103, u105, u107] := hb112
        have hb25 : Bk o165 101 w164 pa21 [u7, u8, u9, u10] := hb25
        have hp146 : PtrAt (In o165 [40, 41]) w164 (pOf (vs163 5)) y144 := hp146
        have he147 : EPtr u8 4 y69 (pOf (vs163 5)) := he147
        have h162 : Ow 48 o165 123 [] w164 u103 y155 := h162
        have h31 := h31.evo evT_ rfl
        have h32 := h32.evo evT_ rfl
        have h33 := h33.evo evT_ rfl
        have h34 := h34.evo evT_ rfl
        have hb30 := hb30.evo evT_ rfl
        refine hK143 _ _ ?_
        refine CW.sr fun K166 hK166 => ?_
        refine WL.stepE (OW.loadK0 Power (.agg #[u101, u103, u105, u107]) ty34 rfl hb112 rfl rfl) rfl ?_
        refine WL.step0 (OW.storeK0 Power [u101, u103, u105, u107] [u101, u103, u105, u107] ty34 rfl rfl hb30 rfl ⟨(h100.one), (h162.one), (h104.one), (h106.one), trivial⟩ rfl rfl rfl) ?_
        rintro _ w167 ⟨ev168, hb30⟩
        have hE := hE.evo ev168 rfl rfl
        have h100 := h100.evo ev168 rfl
        have h104 := h104.evo ev168 rfl
        have h106 := h106.evo ev168 rfl
        have h162 := h162.evo ev168 rfl
        refine WL.p (.int .i64 0) rfl rfl ?_
        refine WL.nx hK166 ?_
        obtain rfl := Option.some.inj hF
        exact CW.rets (vs := [.agg #[u101, u103, u105, u107], .int .i64 0]) Try.results30 ⟨ResIs.bk Power (.agg #[u101, u103, u105, u107]) ty34 rfl hb30 rfl rfl, rfl, trivial⟩ ⟨_, rfl, _, (u101), (u103), (u105), (u107), (hE.rn he0 104 [(122, 100), (123, 101), (124, 102), (125, 103)] rfl rfl), rfl, (h100.rn (c' := 100) (K' := []) rfl rfl), (h162.rn (c' := 101) (K' := []) rfl rfl), (h104.rn (c' := 102) (K' := []) rfl rfl), (h106.rn (c' := 103) (K' := []) rfl rfl)⟩ (fun _ _ h => h)
      refine CW.cond (b := y128) rfl (fun hc169 => ?_) (fun hc169 => ?_)
      ·have q139 := iteT hc169 q139
       refine CW.sr fun K170 hK170 => ?_
       refine WL.stepE (OW.loadK0 Board (.agg #[.int .i64 a0.Buses, u1, u2, u3, .int .i64 a0.Phase, .int .i64 a0.Frequency]) ty29 rfl hb20 rfl rfl) rfl ?_
       refine WL.stepE (OW.loadK0 Power (.agg #[u7, u8, u9, u10]) ty34 rfl hb25 rfl rfl) rfl ?_
       refine WL.p (.int .i64 y127) rfl rfl ?_
       obtain ⟨⟨y171, y172⟩, q173, q139⟩ := bindE q139
       dsimp only at q139
       refine WL.step (OW.call Try.call41 rfl (board_Of_ok q173 (mk29 (x := a0) (h4.baseM hE rfl) (h5.baseM hE rfl) (h6.baseM hE rfl)) (mk34 (x := a1) (h11.baseM hE rfl) (h12.baseM hE rfl) (h13.baseM hE rfl) (h14.baseM hE rfl)))) rfl ?_
       rintro _ w174 ⟨o178, u180, u182, u184, hn_, rfl, h179, h181, h183⟩
       obtain ⟨o175, ev176, hA177⟩ := adopt (o := o131) (ks := []) (Ks := [[40], [40, 41]]) 133 ([]) [133] hn_ MbOk.nil rfl rfl rfl rfl
       have h179 := h179.ad (K' := [133]) hA177 rfl
       have h181 := h181.ad (K' := [133]) hA177 rfl
       have h183 := h183.ad (K' := [133]) hA177 rfl
       have hE := hE.evo ev176 rfl rfl
       have h100 := h100.evo ev176 rfl
       have h102 := h102.evo ev176 rfl
       have h104 := h104.evo ev176 rfl
       have h106 := h106.evo ev176 rfl
       have h31 := h31.evo ev176 rfl
       have h32 := h32.evo ev176 rfl
       have h33 := h33.evo ev176 rfl
       have h34 := h34.evo ev176 rfl
       have hb112 := hb112.evo ev176 rfl
       have hb25 := hb25.evo ev176 rfl
       have hb30 := hb30.evo ev176 rfl
       refine WL.p (.tuple #[.agg #[u180, u182, u184], .bool y172]) rfl rfl ?_
       refine WL.p (.agg #[u180, u182, u184]) rfl rfl ?_
       refine WL.p (.bool y172) rfl rfl ?_
       refine WL.step (OW.allocK (o := o175) Island 134 [.slice none 0 0, .slice none 0 0, .slice none 0 0] ty44 rfl) rfl ?_
       rintro _ w187 ⟨pa185, o186, rfl, ev188, hb189⟩
       have hE := hE.evo ev188 rfl rfl
       have h100 := h100.evo ev188 rfl
       have h102 := h102.evo ev188 rfl
       have h104 := h104.evo ev188 rfl
       have h106 := h106.evo ev188 rfl
       have h179 := h179.evo ev188 rfl
       have h181 := h181.evo ev188 rfl
       have h183 := h183.evo ev188 rfl
       have h31 := h31.evo ev188 rfl
       have h32 := h32.evo ev188 rfl
       have h33 := h33.evo ev188 rfl
       have h34 := h34.evo ev188 rfl
       have hb112 := hb112.evo ev188 rfl
       have hb25 := hb25.evo ev188 rfl
       have hb30 := hb30.evo ev188 rfl
       have h190 := Ow.nil (α := Int) 3 o186 135 [] w187
       have h191 := Ow.nil (α := Int) 3 o186 136 [] w187
       have h192 := Ow.nil (α := Int) 3 o186 137 [] w187
       refine WL.step0 (OW.storeK0 Island [u180, u182, u184] [u180, u182, u184] ty44 rfl rfl hb189 rfl ⟨(h179.one rfl), (h181.one rfl), (h183.one rfl), trivial⟩ rfl rfl rfl) ?_
       rintro _ w193 ⟨ev194, hb189⟩
       have hE := hE.evo ev194 rfl rfl
       have h100 := h100.evo ev194 rfl
       have h102 := h102.evo ev194 rfl
       have h104 := h104.evo ev194 rfl
       have h106 := h106.evo ev194 rfl
       have h179 := h179.evo ev194 rfl
       have h181 := h181.evo ev194 rfl
       have h183 := h183.evo ev194 rfl
       have h31 := h31.evo ev194 rfl
       have h32 := h32.evo ev194 rfl
       have h33 := h33.evo ev194 rfl
       have h34 := h34.evo ev194 rfl
       have hb112 := hb112.evo ev194 rfl
       have hb25 := hb25.evo ev194 rfl
       have hb30 := hb30.evo ev194 rfl
       refine WL.p (.bool y172) rfl rfl ?_
       refine WL.nx hK170 ?_
       refine CW.region ?_
       refine WL.stepE (OW.fldAddr (FldOk.at f44_1) rfl) rfl ?_
       refine WL.stepE (OW.loadK (off := 1) (List Int) (u182) ty22 rfl hb189 rfl rfl) rfl ?_
       refine WL.p u182 rfl rfl ?_
       refine WL.nil ?_
       have e195 := Option.some.inj q139
       subst e195
       exact NK.sb (hJ142 w193 o186 u182 hE h100 h102 h104 h106 (h181.sub rfl) h31 h32 h33 h34 hb112 hb25 hb30) ⟨rfl, rfl, rfl, rfl, rfl, trivial⟩
      ·have q139 := iteF hc169 q139
       refine CW.skip ?_
       have e196 := Option.some.inj q139
       subst e196
       exact NK.sb (hJ142 w130 o131 v120 hE h100 h102 h104 h106 (h124.rv.sub rfl) h31 h32 h33 h34 hb112 hb25 hb30) ⟨rfl, rfl, rfl, rfl, rfl, trivial⟩
    rcases Bool.eq_false_or_eq_true (!y70) with hc197 | hc197
    ·have q80 := iteT hc197 q80
     refine WL.skipG rfl rfl rfl (by rw [hc197]; rfl) rfl ?_
     refine WL.skipG rfl rfl rfl (by rw [hc197]; rfl) rfl ?_
     refine WL.skipG rfl rfl rfl (by rw [hc197]; rfl) rfl ?_
     refine WL.skipG rfl rfl rfl (by rw [hc197]; rfl) rfl ?_
     refine WL.skipG rfl rfl rfl (by rw [hc197]; rfl) rfl ?_
     refine WL.skipG rfl rfl rfl (by rw [hc197]; rfl) rfl ?_
     refine WL.skipG rfl rfl rfl (by rw [hc197]; rfl) rfl ?_
     refine WL.stepE (OW.pickT rfl hc197 rfl) rfl ?_
     refine WL.nil ?_
     have e198 := Option.some.inj q80
     subst e198
     exact NK.sb (hJ83 w72 o73 hE h31 h32 h33 h34 hb20 hb25 hb30) ⟨rfl, rfl, rfl, rfl, rfl, rfl, trivial⟩
    ·have q80 := iteF hc197 q80
     refine WL.stepGE rfl rfl rfl hc197 (OW.fldAddr (FldOk.at f34_1) rfl) rfl ?_
     refine WL.stepGE rfl rfl rfl hc197 (OW.loadK (off := 1) (List Running) (u8) ty31 rfl hb25 rfl rfl) rfl ?_
     refine WL.stepGE rfl rfl rfl hc197 (OW.pv (v := (.int .i64 a2)) rfl) rfl ?_
     obtain ⟨y199, q203, q80⟩ := bindE q80
     refine WL.stepGP rfl rfl rfl hc197 (OW.indexAddr Try.underlying31 ty48 rfl (h12.baseM hE rfl) rfl q203) rfl fun _ ⟨pa200, hv_, hp201, he202⟩ => ?_
     subst hv_
     refine WL.stepGE rfl rfl rfl hc197 (OW.fldAddr (FldOk.at f48_0) rfl) rfl ?_
     refine WL.stepGE rfl rfl rfl hc197 (OW.loadI ty3 rfl (hp201.fld f48_0)) rfl ?_
     refine WL.stepGE rfl rfl rfl hc197 (OW.pv (v := (.bool (((y199.State != 2))))) rfl) rfl ?_
     refine WL.stepE (OW.pickF rfl hc197 rfl) rfl ?_
     refine WL.nil ?_
     have e204 := Option.some.inj q80
     subst e204
     exact NK.sb (hJ83 w72 o73 hE h31 h32 h33 h34 hb20 hb25 hb30) ⟨rfl, rfl, rfl, rfl, rfl, rfl, trivial⟩
  rcases Bool.eq_false_or_eq_true ((decide (a2 < 0))) with hc205 | hc205
  ·have q56 := iteT hc205 q56
   refine WL.skipG rfl rfl rfl (by rw [hc205]; rfl) rfl ?_
   refine WL.skipG rfl rfl rfl (by rw [hc205]; rfl) rfl ?_
   refine WL.skipG rfl rfl rfl (by rw [hc205]; rfl) rfl ?_
   refine WL.skipG rfl rfl rfl (by rw [hc205]; rfl) rfl ?_
   refine WL.skipG rfl rfl rfl (by rw [hc205]; rfl) rfl ?_
   refine WL.stepE (OW.pickT rfl hc205 rfl) rfl ?_
   refine WL.p (.bool true) rfl rfl ?_
   refine WL.skipG rfl rfl rfl rfl rfl ?_
   refine WL.skipG rfl rfl rfl rfl rfl ?_
   refine WL.stepE (OW.pickT rfl rfl rfl) rfl ?_
   refine WL.p (.bool true) rfl rfl ?_
   refine WL.skipG rfl rfl rfl rfl rfl ?_
   refine WL.skipG rfl rfl rfl rfl rfl ?_
   refine WL.skipG rfl rfl rfl rfl rfl ?_
   refine WL.skipG rfl rfl rfl rfl rfl ?_
   refine WL.stepE (OW.pickT rfl rfl rfl) rfl ?_
   refine WL.nil ?_
   have e206 := Option.some.inj q56
   subst e206
   exact NK.sb (hJ59 w39 o40 hE h31 h32 h33 h34 hb20 hb25 hb30) ⟨rfl, rfl, rfl, rfl, rfl, rfl, trivial⟩
  ·have q56 := iteF hc205 q56
   refine WL.stepGE rfl rfl rfl hc205 (OW.pv (v := (.int .i64 a2)) rfl) rfl ?_
   refine WL.stepGE rfl rfl rfl hc205 (OW.fldAddr (FldOk.at f29_2) rfl) rfl ?_
   refine WL.stepGE rfl rfl rfl hc205 (OW.loadK (off := 2) (List Source) (u2) ty26 rfl hb20 rfl rfl) rfl ?_
   refine WL.stepGE rfl rfl rfl hc205 (OW.len Try.underlying26 rfl (h5.baseM hE rfl)) rfl ?_
   refine WL.stepGE rfl rfl rfl hc205 (OW.pv (v := (.bool ((decide (a2 ≥ (len a0.Sources)))))) rfl) rfl ?_
   refine WL.stepE (OW.pickF rfl hc205 rfl) rfl ?_
   refine WL.p (.bool ((decide (a2 ≥ (len a0.Sources))))) rfl rfl ?_
   obtain ⟨x207, q208, q56⟩ := bindE q56
   have hJ211 : ∀ (w209 : World) (o210 : Cls), En w0 e0 o210 w209 → Ow 4 o210 103 [] w209 (.slice none 0 0) ([] : List Bool) → Ow 48 o210 104 [] w209 (.slice none 0 0) ([] : List Running) → Ow 3 o210 105 [] w209 (.slice none 0 0) ([] : List Int) → Ow 65 o210 106 [] w209 (.slice none 0 0) ([] : List Part) → Bk o210 100 w209 pa16 [.int .i64 a0.Buses, u1, u2, u3, .int .i64 a0.Phase, .int .i64 a0.Frequency] → Bk o210 101 w209 pa21 [u7, u8, u9, u10] → Bk o210 102 w209 pa26 [(.slice none 0 0), (.slice none 0 0), (.slice none 0 0), (.slice none 0 0)] → NK 95 K54 [(2, .int .i64 a2), (3, .int .i64 a3), (4, .pointer (some pa16)), (5, .pointer (some pa21)), (8, .pointer (some pa26)), (44, .bool x207)] w209 := by
    intro w209 o210  hE h31 h32 h33 h34 hb20 hb25 hb30
    have e212 := Option.some.inj q56
    subst e212
    exact NK.sb (hJ59 w209 o210 hE h31 h32 h33 h34 hb20 hb25 hb30) ⟨rfl, rfl, rfl, rfl, rfl, rfl, trivial⟩
   rcases Bool.eq_false_or_eq_true ((decide (a2 ≥ (len a0.Sources)))) with hc213 | hc213
   ·have q208 := iteT hc213 q208
    refine WL.skipG rfl rfl rfl (by rw [hc213]; rfl) rfl ?_
    refine WL.skipG rfl rfl rfl (by rw [hc213]; rfl) rfl ?_
    refine WL.stepE (OW.pickT rfl hc213 rfl) rfl ?_
    refine WL.p (.bool true) rfl rfl ?_
    refine WL.skipG rfl rfl rfl rfl rfl ?_
    refine WL.skipG rfl rfl rfl rfl rfl ?_
    refine WL.skipG rfl rfl rfl rfl rfl ?_
    refine WL.skipG rfl rfl rfl rfl rfl ?_
    refine WL.stepE (OW.pickT rfl rfl rfl) rfl ?_
    refine WL.nil ?_
    have e214 := Option.some.inj q208
    subst e214
    exact NK.sb (hJ211 w39 o40 hE h31 h32 h33 h34 hb20 hb25 hb30) ⟨rfl, rfl, rfl, rfl, rfl, rfl, trivial⟩
   ·have q208 := iteF hc213 q208
    refine WL.stepGE rfl rfl rfl hc213 (OW.pv (v := (.int .i64 a3)) rfl) rfl ?_
    refine WL.stepGE rfl rfl rfl hc213 (OW.pv (v := (.bool ((decide (a3 < 0))))) rfl) rfl ?_
    refine WL.stepE (OW.pickF rfl hc213 rfl) rfl ?_
    refine WL.p (.bool ((decide (a3 < 0)))) rfl rfl ?_
    obtain ⟨x215, q216, q208⟩ := bindE q208
    have hJ219 : ∀ (w217 : World) (o218 : Cls), En w0 e0 o218 w217 → Ow 4 o218 103 [] w217 (.slice none 0 0) ([] : List Bool) → Ow 48 o218 104 [] w217 (.slice none 0 0) ([] : List Running) → Ow 3 o218 105 [] w217 (.slice none 0 0) ([] : List Int) → Ow 65 o218 106 [] w217 (.slice none 0 0) ([] : List Part) → Bk o218 100 w217 pa16 [.int .i64 a0.Buses, u1, u2, u3, .int .i64 a0.Phase, .int .i64 a0.Frequency] → Bk o218 101 w217 pa21 [u7, u8, u9, u10] → Bk o218 102 w217 pa26 [(.slice none 0 0), (.slice none 0 0), (.slice none 0 0), (.slice none 0 0)] → NK 95 K54 [(2, .int .i64 a2), (3, .int .i64 a3), (4, .pointer (some pa16)), (5, .pointer (some pa21)), (8, .pointer (some pa26)), (44, .bool x215)] w217 := by
     intro w217 o218  hE h31 h32 h33 h34 hb20 hb25 hb30
     have e220 := Option.some.inj q208
     subst e220
     exact NK.sb (hJ211 w217 o218 hE h31 h32 h33 h34 hb20 hb25 hb30) ⟨rfl, rfl, rfl, rfl, rfl, rfl, trivial⟩
    rcases Bool.eq_false_or_eq_true ((decide (a3 < 0))) with hc221 | hc221
    ·have q216 := iteT hc221 q216
     refine WL.skipG rfl rfl rfl (by rw [hc221]; rfl) rfl ?_
     refine WL.skipG rfl rfl rfl (by rw [hc221]; rfl) rfl ?_
     refine WL.skipG rfl rfl rfl (by rw [hc221]; rfl) rfl ?_
     refine WL.skipG rfl rfl rfl (by rw [hc221]; rfl) rfl ?_
     refine WL.stepE (OW.pickT rfl hc221 rfl) rfl ?_
     refine WL.nil ?_
     have e222 := Option.some.inj q216
     subst e222
     exact NK.sb (hJ219 w39 o40 hE h31 h32 h33 h34 hb20 hb25 hb30) ⟨rfl, rfl, rfl, rfl, rfl, rfl, trivial⟩
    ·have q216 := iteF hc221 q216
     refine WL.stepGE rfl rfl rfl hc221 (OW.pv (v := (.int .i64 a3)) rfl) rfl ?_
     refine WL.stepGE rfl rfl rfl hc221 (OW.fldAddr (FldOk.at f29_0) rfl) rfl ?_
     refine WL.stepGE rfl rfl rfl hc221 (OW.loadK (off := 0) Int (.int .i64 a0.Buses) ty3 rfl hb20 rfl rfl) rfl ?_
     refine WL.stepGE rfl rfl rfl hc221 (OW.pv (v := (.bool ((decide (a3 ≥ a0.Buses))))) rfl) rfl ?_
     refine WL.stepE (OW.pickF rfl hc221 rfl) rfl ?_
     refine WL.nil ?_
     have e223 := Option.some.inj q216
     subst e223
     exact NK.sb (hJ219 w39 o40 hE h31 h32 h33 h34 hb20 hb25 hb30) ⟨rfl, rfl, rfl, rfl, rfl, rfl, trivial⟩

set_option maxHeartbeats 1000000 in
theorem slices_Index_Part_Part_ok {a0 : (List Part)} {a1 : Part} {r : Int} (hF : slices_Index_Part_Part a0 a1 = some r) {w0 : World} {p0 : Value} {S0 : Nat → Prop} (g0 : Rv S0 w0 p0 a0) {p1 : Value} {S1 : Nat → Prop} (g1 : Rv S1 w0 p1 a1) :
    Calls Try.prog 94 #[p0, p1] w0 (Ret fun v w' => ∃ (oc : Cls), En w0 (entM w0 [] [S0, S1]) oc w' ∧ v = .int .i64 r) := by
 obtain ⟨e0, he0⟩ : ∃ e0, e0 = entM w0 [] [S0, S1] := ⟨_, rfl⟩
 have hE := En.refl w0 e0
 have g0 := g0.argM he0 0 (K := [40]) rfl (nosep rfl) rfl
 have g1 := g1.argM he0 1 (K := [40, 41]) rfl (nosep rfl) rfl
 obtain rfl := op65 g1
 rw [slices_Index_Part_Part] at hF
 refine enter (l := [p0, .agg #[.int .i64 a1.Kind, .int .i64 a1.Number]]) Try.func94 rfl Try.ntmps94 rfl ?_
 refine CW.sub (L' := [(0, p0), (1, .agg #[.int .i64 a1.Kind, .int .i64 a1.Number])]) ⟨rfl, rfl, trivial⟩ ?_
 refine CW.sr fun K1 hK1 => ?_
 refine WL.step (OW.boxK (o := e0) 100 [.int .i64 a1.Kind, .int .i64 a1.Number] rfl rfl) rfl ?_
 rintro _ w4 ⟨pa2, o3, rfl, ev5, hb6⟩
 have hE := hE.evo ev5 rfl rfl
 refine WL.p (.int .i64 0) rfl rfl ?_
 refine WL.nx hK1 ?_
 refine CW.seq fun K7 hK7 => ?_
 refine CW.sr fun K8 hK8 => ?_
 refine WL.p p0 rfl rfl ?_
 refine WL.stepE (OW.len Try.underlying32 rfl (g0.baseM hE rfl)) rfl ?_
 refine WL.p (.int .i64 0) rfl rfl ?_
 refine WL.nx hK8 ?_
 refine CW.block ?_
 obtain ⟨r11, hl10, hF⟩ := bindE hF
 have hJ14 : ∀ (w12 : World) (o13 : Cls), .inl () = r11 → En w0 e0 o13 w12 → NK 19 K7 [] w12 := by
  intro  w12 o13  e_ hE
  subst e_
  have hF := elimL hF
  try dsimp only at hF
  refine hK7 _ _ ?_
  refine CW.sr fun K15 hK15 => ?_
  refine WL.p (.int .i64 (-1)) rfl rfl ?_
  refine WL.nx hK15 ?_
  obtain rfl := Option.some.inj hF
  exact CW.rets (vs := [.int .i64 (-1)]) Try.results94 ⟨rfl, trivial⟩ ⟨_, rfl, _, (hE.rn he0 100 [] rfl rfl), rfl⟩ (fun _ _ h => h)
 refine CW.sub (L' := [(0, p0), (3, .pointer (some pa2)), (7, .int .i64 (len a0)), (8, .int .i64 0)]) ⟨rfl, rfl, rfl, rfl, trivial⟩ ?_
 refine CW.loop (slices_Index_Part_Part_L1 a0 a1) (fun s_ L_ w16 => ∃ (o17 : Cls) (x9 : Int), x9 = s_ ∧ L_ = [(0, p0), (3, .pointer (some pa2)), (7, .int .i64 (len a0)), (8, .int .i64 x9)] ∧ En w0 e0 o17 w16 ∧ Bk o17 100 w16 pa2 [.int .i64 a1.Kind, .int .i64 a1.Number]) hl10 ?_ ?_
 ·exact ⟨o3, 0, rfl, rfl, hE, hb6⟩
 intro K18 s_ L_ w16 hi_ x19 hx20 hr21 hk22
 obtain ⟨o17, x9, rfl, rfl, hE, hb6⟩ := hi_
 rw [slices_Index_Part_Part_L1] at hx20
 refine CW.sr fun K23 hK23 => ?_
 refine WL.p (.bool ((decide (x9 < (len a0))))) rfl rfl ?_
 refine WL.nx hK23 ?_
 refine CW.seq fun K24 hK24 => ?_
 refine CW.cond (b := (decide (x9 < (len a0)))) rfl (fun hc25 => ?_) (fun hc25 => ?_)
 ·have hx20 := iteT hc25 hx20
  refine CW.skip ?_
  refine hK24 _ _ ?_
  refine CW.seq fun K26 hK26 => ?_
  refine CW.block ?_
  refine CW.sr fun K27 hK27 => ?_
  refine WL.p (.int .i64 x9) rfl rfl ?_
  refine WL.p (.int .i64 x9) rfl rfl ?_
  refine WL.nx hK27 ?_
  refine CW.seq fun K28 hK28 => ?_
  obtain ⟨y29, q33, hx20⟩ := bindE hx20
  have ev_ := Evo.drew o17 w16
  refine CW.anyS (N := []) hmix [sBk none none [] 100 (vk pa2) (vk ([.int .i64 a1.Kind, .int .i64 a1.Number])), sPt (some 3) none [3] [40] (vp 0) y29, sEp (some 3) none [3] (vk p0) 2 x9 (vp 0)] [⟨[], [0], [], [], vk (.agg #[.int .i64 a1.Kind, .int .i64 a1.Number]), false⟩, ⟨[], [], [], [], vk p0, false⟩, ⟨[], [], [], [], vk (.int .i64 x9), false⟩, ⟨[], [], [1, 2], [3], vq 0, false⟩, ⟨[], [1], [1, 2, 3], [], vk (.agg #[.int .i64 y29.Kind, .int .i64 y29.Number]), false⟩, ⟨[], [], rg 0 5, [], vk (.bool ((decide (a1 = y29)))), false⟩] [] hE rfl (by kernel_rfl) (by kernel_rfl) ⟨hb6.evo ev_ rfl, trivial⟩ ⟨?_, Ob.pv rfl rfl (fun _ => rfl) rfl (fun _ _ _ => trivial), Ob.pv rfl rfl (fun _ => rfl) rfl (fun _ _ _ => trivial), ?_, ?_, ?_, trivial⟩ ?_
  ·intro vs36 o_ w_ hE hb6
   have hb6 := tBk hb6
   exact OW.q [(3, .pointer (some pa2))] ⟨rfl, trivial⟩ (OW.loadK0 Part (.agg #[.int .i64 a1.Kind, .int .i64 a1.Number]) ty65 rfl hb6 rfl rfl) (er rfl trivial)
  ·intro vs36 o_ w_ hE 
   have hE := hE.1
   refine OW.r [(12, p0), (13, .int .i64 x9)] ⟨rfl, rfl, trivial⟩ (OW.indexAddr Try.underlying32 ty65 rfl (g0.baseM hE rfl) rfl q33) ?_
   rintro _ _ ⟨rfl, ⟨pa30, hv_, hp31, he32⟩⟩
   subst hv_
   exact ⟨_, Evo.refl _ _ _ _, rfl, hp31, he32, trivial⟩
  ·intro vs36 o_ w_ hE hp31
   have hp31 := tPt hp31
   refine OW.r [(14, .pointer (some (pOf (vs36 3))))] ⟨rfl, trivial⟩ (OW.load ty65 rfl hp31) ?_
   rintro v34 _ ⟨rfl, h35⟩
   obtain rfl := op65 h35
   exact ⟨_, Evo.refl _ _ _ _, rfl, trivial⟩
  ·intro vs36 o_ w_ hE 
   exact OW.q [(11, .agg #[.int .i64 a1.Kind, .int .i64 a1.Number]), (15, .agg #[.int .i64 y29.Kind, .int .i64 y29.Number])] ⟨rfl, rfl, trivial⟩ (OW.eql (x := a1) (y := y29) (S := fun _ => True) (S' := fun _ => True) eq65 rfl rfl (mk65 (x := a1)) (mk65 (x := y29))) (er rfl trivial)
  ·intro vs36 o38 w37 hE hb6 hp31 he32
   obtain ⟨hE, evT_⟩ := hE
   have hb6 : Bk o38 100 w37 pa2 [.int .i64 a1.Kind, .int .i64 a1.Number] := hb6
   have hp31 : PtrAt (In o38 [40]) w37 (pOf (vs36 3)) y29 := hp31
   have he32 : EPtr p0 2 x9 (pOf (vs36 3)) := he32
   refine hK28 _ _ ?_
   refine CW.cond (b := (decide (a1 = y29))) rfl (fun hc39 => ?_) (fun hc39 => ?_)
   ·have hx20 := iteT hc39 hx20
    refine CW.sr fun K40 hK40 => ?_
    refine WL.p (.int .i64 x9) rfl rfl ?_
    refine WL.p (.int .i64 x9) rfl rfl ?_
    refine WL.nx hK40 ?_
    have e_ := hr21 _ (Option.some.inj hx20).symm
    subst e_
    have hF := elimR hF
    obtain rfl := Option.some.inj hF
    exact CW.rets (vs := [.int .i64 x9]) Try.results94 ⟨rfl, trivial⟩ ⟨_, rfl, _, (hE.rn he0 100 [] rfl rfl), rfl⟩ (fun _ _ h => h)
   ·have hx20 := iteF hc39 hx20
    refine CW.skip ?_
    refine hK26 _ _ ?_
    refine CW.region ?_
    refine WL.p (.int .i64 ((W (x9 + 1)))) rfl rfl ?_
    refine WL.p (.int .i64 ((W (x9 + 1)))) rfl rfl ?_
    refine WL.nil ?_
    exact NK.sb (hk22 _ _ _ (Option.some.inj hx20).symm ⟨o38, (W (x9 + 1)), rfl, rfl, hE, hb6⟩) ⟨rfl, rfl, rfl, rfl, trivial⟩
 ·have hx20 := iteF hc25 hx20
  refine CW.exit ?_
  exact NK.sb (hJ14 w16 o17 (hr21 _ (Option.some.inj hx20).symm) hE) trivial

set_option maxHeartbeats 1000000 in
theorem slices_Contains_Part_Part_ok {a0 : (List Part)} {a1 : Part} {r : Bool} (hF : slices_Contains_Part_Part a0 a1 = some r) {w0 : World} {p0 : Value} {S0 : Nat → Prop} (g0 : Rv S0 w0 p0 a0) {p1 : Value} {S1 : Nat → Prop} (g1 : Rv S1 w0 p1 a1) :
    Calls Try.prog 80 #[p0, p1] w0 (Ret fun v w' => ∃ (oc : Cls), En w0 (entM w0 [] [S0, S1]) oc w' ∧ v = .bool r) := by
 obtain ⟨e0, he0⟩ : ∃ e0, e0 = entM w0 [] [S0, S1] := ⟨_, rfl⟩
 have hE := En.refl w0 e0
 have g0 := g0.argM he0 0 (K := [40]) rfl (nosep rfl) rfl
 have g1 := g1.argM he0 1 (K := [40, 41]) rfl (nosep rfl) rfl
 obtain rfl := op65 g1
 rw [slices_Contains_Part_Part] at hF
 refine enter (l := [p0, .agg #[.int .i64 a1.Kind, .int .i64 a1.Number]]) Try.func80 rfl Try.ntmps80 rfl ?_
 refine CW.sub (L' := [(0, p0), (1, .agg #[.int .i64 a1.Kind, .int .i64 a1.Number])]) ⟨rfl, rfl, trivial⟩ ?_
 refine CW.sr fun K1 hK1 => ?_
 refine WL.step (OW.boxK (o := e0) 100 [.int .i64 a1.Kind, .int .i64 a1.Number] rfl rfl) rfl ?_
 rintro _ w4 ⟨pa2, o3, rfl, ev5, hb6⟩
 have hE := hE.evo ev5 rfl rfl
 refine WL.p (.bool false) rfl rfl ?_
 refine WL.nx hK1 ?_
 refine CW.sr fun K7 hK7 => ?_
 refine WL.p p0 rfl rfl ?_
 refine WL.stepE (OW.loadK0 Part (.agg #[.int .i64 a1.Kind, .int .i64 a1.Number]) ty65 rfl hb6 rfl rfl) rfl ?_
 obtain ⟨y8, q9, hF⟩ := bindE hF
 refine WL.step (OW.call Try.call94 rfl (slices_Index_Part_Part_ok q9 (g0.baseM hE rfl) (mk65 (S := In o3 []) (x := a1)))) rfl ?_
 rintro _ w10 ⟨o14, hn_, rfl⟩
 obtain ⟨o11, ev12, hA13⟩ := adopt (o := o3) (ks := []) (Ks := [[40], []]) 101 ([]) [101] hn_ MbOk.nil rfl rfl rfl rfl
 have hE := hE.evo ev12 rfl rfl
 refine WL.p (.bool ((decide (y8 ≥ 0)))) rfl rfl ?_
 refine WL.p (.bool ((decide (y8 ≥ 0)))) rfl rfl ?_
 refine WL.nx hK7 ?_
 obtain rfl := Option.some.inj hF
 exact CW.rets (vs := [.bool ((decide (y8 ≥ 0)))]) Try.results80 ⟨rfl, trivial⟩ ⟨_, rfl, _, (hE.rn he0 100 [] rfl rfl), rfl⟩ (fun _ _ h => h)

end Go.Proofs.Ytdfkfohpgakihaa
