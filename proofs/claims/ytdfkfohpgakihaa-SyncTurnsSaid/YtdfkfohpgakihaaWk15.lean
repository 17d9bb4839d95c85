/- Walks. Written by a program (wip/gen). -/
import Derived.Test.YtdfkfohpgakihaaHw
import Derived.Test.YtdfkfohpgakihaaWk1
import Derived.Test.YtdfkfohpgakihaaWk6
import Derived.Test.YtdfkfohpgakihaaWk7
import Derived.Test.YtdfkfohpgakihaaWk10
import Derived.Test.YtdfkfohpgakihaaWk11
import Derived.Test.YtdfkfohpgakihaaWk14
set_option linter.unusedVariables false
set_option linter.unusedSimpArgs false
namespace Go.Proofs.Ytdfkfohpgakihaa
open Go Go.RowKit Dp

set_option maxRecDepth 100000

set_option maxHeartbeats 1000000 in
theorem sync_Follow_ok {a0 : Board} {a1 : Power} {r : (Power × Int)} (hF : sync_Follow a0 a1 = some r) {w0 : World} {p0 : Value} {S0 : Nat → Prop} (g0 : Rv S0 w0 p0 a0) {p1 : Value} {S1 : Nat → Prop} (g1 : Rv S1 w0 p1 a1) :
    Calls Try.prog 11 #[p0, p1] w0 (Ret fun v w' => ∃ (oc : Cls) (x0_0 : Value) (x0_1 : Value) (x0_2 : Value) (x0_3 : Value), En w0 (entM w0 [] [S0, S1]) oc w' ∧ v = .tuple #[.agg #[x0_0, x0_1, x0_2, x0_3], .int .i64 r.2] ∧ Ow 4 oc 100 [] w' x0_0 r.1.Closed ∧ Ow 48 oc 101 [] w' x0_1 r.1.Sources ∧ Ow 3 oc 102 [] w' x0_2 r.1.Limits ∧ Ow 65 oc 103 [] w' x0_3 r.1.Broken) := by
 obtain ⟨e0, he0⟩ : ∃ e0, e0 = entM w0 [] [S0, S1] := ⟨_, rfl⟩
 have hE := En.refl w0 e0
 have g0 := g0.argM he0 0 (K := [40]) rfl (nosep rfl) rfl
 have g1 := g1.argM he0 1 (K := [40, 41]) rfl (nosep rfl) rfl
 obtain ⟨u1, u2, u3, rfl, h4, h5, h6⟩ := op29 g0
 obtain ⟨u7, u8, u9, u10, rfl, h11, h12, h13, h14⟩ := op34 g1
 rw [sync_Follow] at hF
 refine enter (l := [.agg #[.int .i64 a0.Buses, u1, u2, u3, .int .i64 a0.Phase, .int .i64 a0.Frequency], .agg #[u7, u8, u9, u10]]) Try.func11 rfl Try.ntmps11 rfl ?_
 refine CW.sub (L' := [(0, .agg #[.int .i64 a0.Buses, u1, u2, u3, .int .i64 a0.Phase, .int .i64 a0.Frequency]), (1, .agg #[u7, u8, u9, u10])]) ⟨rfl, rfl, trivial⟩ ?_
 refine CW.sr fun K15 hK15 => ?_
 refine WL.step (OW.boxK (o := e0) 100 [.int .i64 a0.Buses, u1, u2, u3, .int .i64 a0.Phase, .int .i64 a0.Frequency] rfl rfl) rfl ?_
 rintro _ w18 ⟨pa16, o17, rfl, ev19, hb20⟩
 have hE := hE.evo ev19 rfl rfl
 refine WL.step (OW.boxK (o := o17) 101 [u7, u8, u9, u10] rfl rfl) rfl ?_
 rintro _ w23 ⟨pa21, o22, rfl, ev24, hb25⟩
 have hE := hE.evo ev24 rfl rfl
 have hb20 := hb20.evo ev24 rfl
 refine WL.step (OW.allocK (o := o22) Power 102 [.slice none 0 0, .slice none 0 0, .slice none 0 0, .slice none 0 0] ty34 rfl) rfl ?_
 rintro _ w28 ⟨pa26, o27, rfl, ev29, hb30⟩
 have hE := hE.evo ev29 rfl rfl
 have hb20 := hb20.evo ev29 rfl
 have hb25 := hb25.evo ev29 rfl
 have h31 := Ow.nil (α := Bool) 4 o27 103 [] w28
 have h32 := Ow.nil (α := Running) 48 o27 104 [] w28
 have h33 := Ow.nil (α := Int) 3 o27 105 [] w28
 have h34 := Ow.nil (α := Part) 65 o27 106 [] w28
 refine WL.p (.int .i64 0) rfl rfl ?_
 refine WL.nx hK15 ?_
 refine CW.seq fun K35 hK35 => ?_
 refine CW.sr fun K36 hK36 => ?_
 refine WL.stepE (OW.loadK0 Board (.agg #[.int .i64 a0.Buses, u1, u2, u3, .int .i64 a0.Phase, .int .i64 a0.Frequency]) ty29 rfl hb20 rfl rfl) rfl ?_
 refine WL.stepE (OW.loadK0 Power (.agg #[u7, u8, u9, u10]) ty34 rfl hb25 rfl rfl) rfl ?_
 obtain ⟨y37, q38, hF⟩ := bindE hF
 refine WL.step (OW.call Try.call34 rfl (board_State_ok q38 (mk29 (x := a0) (h4.baseM hE rfl) (h5.baseM hE rfl) (h6.baseM hE rfl)) (mk34 (x := a1) (h11.baseM hE rfl) (h12.baseM hE rfl) (h13.baseM hE rfl) (h14.baseM hE rfl)))) rfl ?_
 rintro _ w39 ⟨o43, hn_, rfl⟩
 obtain ⟨o40, ev41, hA42⟩ := adopt (o := o27) (ks := []) (Ks := [[40], [40, 41]]) 107 ([]) [107] hn_ MbOk.nil rfl rfl rfl rfl
 have hE := hE.evo ev41 rfl rfl
 have h31 := h31.evo ev41 rfl
 have h32 := h32.evo ev41 rfl
 have h33 := h33.evo ev41 rfl
 have h34 := h34.evo ev41 rfl
 have hb20 := hb20.evo ev41 rfl
 have hb25 := hb25.evo ev41 rfl
 have hb30 := hb30.evo ev41 rfl
 refine WL.p (.int .i64 y37) rfl rfl ?_
 refine WL.nx hK36 ?_
 refine CW.sr fun K44 hK44 => ?_
 refine WL.p (.int .i64 y37) rfl rfl ?_
 refine WL.p (.bool (((y37 != 0)))) rfl rfl ?_
 refine WL.nx hK44 ?_
 refine CW.cond (b := ((y37 != 0))) rfl (fun hc45 => ?_) (fun hc45 => ?_)
 ·have hF := iteT hc45 hF
  refine CW.sr fun K46 hK46 => ?_
  refine WL.stepE (OW.buildK Power [] [.slice none 0 0, .slice none 0 0, .slice none 0 0, .slice none 0 0] st34 ty34 rfl trivial rfl) rfl ?_
  have h47 := Ow.nil (α := Bool) 4 o40 108 [] w39
  have h48 := Ow.nil (α := Running) 48 o40 109 [] w39
  have h49 := Ow.nil (α := Int) 3 o40 110 [] w39
  have h50 := Ow.nil (α := Part) 65 o40 111 [] w39
  refine WL.p (.int .i64 y37) rfl rfl ?_
  refine WL.step0 (OW.storeK0 Power [(.slice none 0 0), (.slice none 0 0), (.slice none 0 0), (.slice none 0 0)] [(.slice none 0 0), (.slice none 0 0), (.slice none 0 0), (.slice none 0 0)] ty34 rfl rfl hb30 rfl ⟨rfl, rfl, rfl, rfl, trivial⟩ rfl rfl rfl) ?_
  rintro _ w51 ⟨ev52, hb30⟩
  have hE := hE.evo ev52 rfl rfl
  have h47 := h47.evo ev52 rfl
  have h48 := h48.evo ev52 rfl
  have h49 := h49.evo ev52 rfl
  have h50 := h50.evo ev52 rfl
  refine WL.p (.int .i64 y37) rfl rfl ?_
  refine WL.nx hK46 ?_
  obtain rfl := Option.some.inj hF
  exact CW.rets (vs := [.agg #[(.slice none 0 0), (.slice none 0 0), (.slice none 0 0), (.slice none 0 0)], .int .i64 y37]) Try.results11 ⟨ResIs.bk Power (.agg #[(.slice none 0 0), (.slice none 0 0), (.slice none 0 0), (.slice none 0 0)]) ty34 rfl hb30 rfl rfl, rfl, trivial⟩ ⟨_, rfl, _, ((.slice none 0 0)), ((.slice none 0 0)), ((.slice none 0 0)), ((.slice none 0 0)), (hE.rn he0 104 [] rfl rfl), rfl, (Ow.nil _ _ _ _ _), (Ow.nil _ _ _ _ _), (Ow.nil _ _ _ _ _), (Ow.nil _ _ _ _ _)⟩ (fun _ _ h => h)
 ·have hF := iteF hc45 hF
  refine CW.skip ?_
  refine hK35 _ _ ?_
  refine CW.sr fun K53 hK53 => ?_
  refine WL.stepE (OW.loadK0 Power (.agg #[u7, u8, u9, u10]) ty34 rfl hb25 rfl rfl) rfl ?_
  obtain ⟨y54, q55, hF⟩ := bindE hF
  refine WL.step (OW.call Try.call35 rfl (states_Clone_ok q55 (mk34 (x := a1) (h11.baseM hE rfl) (h12.baseM hE rfl) (h13.baseM hE rfl) (h14.baseM hE rfl)))) rfl ?_
  rintro _ w56 ⟨o60, u62, u64, u66, u68, hn_, rfl, h61, h63, h65, h67⟩
  obtain ⟨o57, ev58, hA59⟩ := adopt (o := o40) (ks := []) (Ks := [[40, 41]]) 112 ([(100, 113), (101, 114), (102, 115), (103, 116)]) [112, 113, 114, 115, 116] hn_ MbOk.nil rfl rfl rfl rfl
  have h61 := h61.ad (c' := 113) (K' := []) hA59 rfl rfl
  have h63 := h63.ad (c' := 114) (K' := []) hA59 rfl rfl
  have h65 := h65.ad (c' := 115) (K' := []) hA59 rfl rfl
  have h67 := h67.ad (c' := 116) (K' := []) hA59 rfl rfl
  have hE := hE.evo ev58 rfl rfl
  have h31 := h31.evo ev58 rfl
  have h32 := h32.evo ev58 rfl
  have h33 := h33.evo ev58 rfl
  have h34 := h34.evo ev58 rfl
  have hb20 := hb20.evo ev58 rfl
  have hb25 := hb25.evo ev58 rfl
  have hb30 := hb30.evo ev58 rfl
  refine WL.step (OW.allocK (o := o57) Power 117 [.slice none 0 0, .slice none 0 0, .slice none 0 0, .slice none 0 0] ty34 rfl) rfl ?_
  rintro _ w71 ⟨pa69, o70, rfl, ev72, hb73⟩
  have hE := hE.evo ev72 rfl rfl
  have h31 := h31.evo ev72 rfl
  have h32 := h32.evo ev72 rfl
  have h33 := h33.evo ev72 rfl
  have h34 := h34.evo ev72 rfl
  have h61 := h61.evo ev72 rfl
  have h63 := h63.evo ev72 rfl
  have h65 := h65.evo ev72 rfl
  have h67 := h67.evo ev72 rfl
  have hb20 := hb20.evo ev72 rfl
  have hb25 := hb25.evo ev72 rfl
  have hb30 := hb30.evo ev72 rfl
  have h74 := Ow.nil (α := Bool) 4 o70 118 [] w71
  have h75 := Ow.nil (α := Running) 48 o70 119 [] w71
  have h76 := Ow.nil (α := Int) 3 o70 120 [] w71
  have h77 := Ow.nil (α := Part) 65 o70 121 [] w71
  refine WL.step0 (OW.storeK0 Power [u62, u64, u66, u68] [u62, u64, u66, u68] ty34 rfl rfl hb73 rfl ⟨(h61.one), (h63.one), (h65.one), (h67.one), trivial⟩ rfl rfl rfl) ?_
  rintro _ w78 ⟨ev79, hb73⟩
  have hE := hE.evo ev79 rfl rfl
  have h31 := h31.evo ev79 rfl
  have h32 := h32.evo ev79 rfl
  have h33 := h33.evo ev79 rfl
  have h34 := h34.evo ev79 rfl
  have h61 := h61.evo ev79 rfl
  have h63 := h63.evo ev79 rfl
  have h65 := h65.evo ev79 rfl
  have h67 := h67.evo ev79 rfl
  have hb20 := hb20.evo ev79 rfl
  have hb25 := hb25.evo ev79 rfl
  have hb30 := hb30.evo ev79 rfl
  refine WL.nx hK53 ?_
  refine CW.seq fun K80 hK80 => ?_
  refine CW.sr fun K81 hK81 => ?_
  refine WL.stepE (OW.loadK0 Board (.agg #[.int .i64 a0.Buses, u1, u2, u3, .int .i64 a0.Phase, .int .i64 a0.Frequency]) ty29 rfl hb20 rfl rfl) rfl ?_
  refine WL.stepE (OW.loadK0 Power (.agg #[u7, u8, u9, u10]) ty34 rfl hb25 rfl rfl) rfl ?_
  obtain ⟨y82, q83, hF⟩ := bindE hF
  refine WL.step (OW.call Try.call36 rfl (board_Islands_ok q83 (mk29 (x := a0) (h4.baseM hE rfl) (h5.baseM hE rfl) (h6.baseM hE rfl)) (mk34 (x := a1) (h11.baseM hE rfl) (h12.baseM hE rfl) (h13.baseM hE rfl) (h14.baseM hE rfl)))) rfl ?_
  rintro v90 w84 ⟨o88, hn_, h89⟩
  obtain ⟨o85, ev86, hA87⟩ := adopt (o := o70) (ks := []) (Ks := [[40], [40, 41]]) 122 ([(100, 123)]) [122, 123] hn_ MbOk.nil rfl rfl rfl rfl
  have h89 := h89.ad (c' := 123) (K' := [122]) hA87 rfl rfl
  have hE := hE.evo ev86 rfl rfl
  have h31 := h31.evo ev86 rfl
  have h32 := h32.evo ev86 rfl
  have h33 := h33.evo ev86 rfl
  have h34 := h34.evo ev86 rfl
  have h61 := h61.evo ev86 rfl
  have h63 := h63.evo ev86 rfl
  have h65 := h65.evo ev86 rfl
  have h67 := h67.evo ev86 rfl
  have hb25 := hb25.evo ev86 rfl
  have hb30 := hb30.evo ev86 rfl
  have hb73 := hb73.evo ev86 rfl
  refine WL.stepE (OW.len Try.underlying41 rfl h89.rv) rfl ?_
  refine WL.p (.int .i64 0) rfl rfl ?_
  refine WL.nx hK81 ?_
  refine CW.block ?_
  obtain ⟨r99, hl98, hF⟩ := bindE hF
  have hJ102 : ∀ (x95 : (List Running)) (w100 : World) (o101 : Cls) (v96 : Value), x95 = r99 → En w0 e0 o101 w100 → Ow 4 o101 103 [] w100 (.slice none 0 0) ([] : List Bool) → Ow 48 o101 104 [] w100 (.slice none 0 0) ([] : List Running) → Ow 3 o101 105 [] w100 (.slice none 0 0) ([] : List Int) → Ow 65 o101 106 [] w100 (.slice none 0 0) ([] : List Part) → Ow 4 o101 113 [] w100 u62 y54.Closed → Ow 3 o101 115 [] w100 u66 y54.Limits → Ow 65 o101 116 [] w100 u68 y54.Broken → Ow 48 o101 114 [] w100 v96 x95 → Bk o101 102 w100 pa26 [(.slice none 0 0), (.slice none 0 0), (.slice none 0 0), (.slice none 0 0)] → Bk o101 117 w100 pa69 [u62, v96, u66, u68] → NK 45 K80 [(4, .pointer (some pa26)), (7, .pointer (some pa69))] w100 := by
   intro x95 w100 o101 v96 e_ hE h31 h32 h33 h34 h61 h65 h67 h97 hb30 hb73
   subst e_
   try dsimp only at hF
   refine hK80 _ _ ?_
   refine CW.sr fun K103 hK103 => ?_
   refine WL.stepE (OW.loadK0 Power (.agg #[u62, v96, u66, u68]) ty34 rfl hb73 rfl rfl) rfl ?_
   refine WL.step0 (OW.storeK0 Power [u62, v96, u66, u68] [u62, v96, u66, u68] ty34 rfl rfl hb30 rfl ⟨(h61.one), (h97.one), (h65.one), (h67.one), trivial⟩ rfl rfl rfl) ?_
   rintro _ w104 ⟨ev105, hb30⟩
   have hE := hE.evo ev105 rfl rfl
   have h61 := h61.evo ev105 rfl
   have h65 := h65.evo ev105 rfl
   have h67 := h67.evo ev105 rfl
   have h97 := h97.evo ev105 rfl
   refine WL.p (.int .i64 0) rfl rfl ?_
   refine WL.nx hK103 ?_
   obtain rfl := Option.some.inj hF
   exact CW.rets (vs := [.agg #[u62, v96, u66, u68], .int .i64 0]) Try.results11 ⟨ResIs.bk Power (.agg #[u62, v96, u66, u68]) ty34 rfl hb30 rfl rfl, rfl, trivial⟩ ⟨_, rfl, _, (u62), (v96), (u66), (u68), (hE.rn he0 104 [(113, 100), (114, 101), (115, 102), (116, 103)] rfl rfl), rfl, (h61.rn (c' := 100) (K' := []) rfl rfl), (h97.rn (c' := 101) (K' := []) rfl rfl), (h65.rn (c' := 102) (K' := []) rfl rfl), (h67.rn (c' := 103) (K' := []) rfl rfl)⟩ (fun _ _ h => h)
  refine CW.sub (L' := [(3, .pointer (some pa21)), (4, .pointer (some pa26)), (7, .pointer (some pa69)), (21, v90), (22, .int .i64 (len y82)), (23, .int .i64 0)]) ⟨rfl, rfl, rfl, rfl, rfl, rfl, trivial⟩ ?_
  refine CW.loop (sync_Follow_L1 a1 y54 y82) (fun s_ L_ w106 => ∃ (o107 : Cls) (x91 : Int) (x92 : (List Running)) (v93 : Value), (x91, x92) = s_ ∧ L_ = [(3, .pointer (some pa21)), (4, .pointer (some pa26)), (7, .pointer (some pa69)), (21, v90), (22, .int .i64 (len y82)), (23, .int .i64 x91)] ∧ En w0 e0 o107 w106 ∧ Ow 4 o107 103 [] w106 (.slice none 0 0) ([] : List Bool) ∧ Ow 48 o107 104 [] w106 (.slice none 0 0) ([] : List Running) ∧ Ow 3 o107 105 [] w106 (.slice none 0 0) ([] : List Int) ∧ Ow 65 o107 106 [] w106 (.slice none 0 0) ([] : List Part) ∧ Ow 4 o107 113 [] w106 u62 y54.Closed ∧ Ow 3 o107 115 [] w106 u66 y54.Limits ∧ Ow 65 o107 116 [] w106 u68 y54.Broken ∧ Ow 44 o107 123 [122] w106 v90 y82 ∧ Ow 48 o107 114 [] w106 v93 x92 ∧ Bk o107 101 w106 pa21 [u7, u8, u9, u10] ∧ Bk o107 102 w106 pa26 [(.slice none 0 0), (.slice none 0 0), (.slice none 0 0), (.slice none 0 0)] ∧ Bk o107 117 w106 pa69 [u62, v93, u66, u68]) hl98 ?_ ?_
  ·exact ⟨o85, 0, y54.Sources, u64, rfl, rfl, hE, h31, h32, h33, h34, h61, h65, h67, h89, h63, hb25, hb30, hb73⟩
  intro K108 s_ L_ w106 hi_ x109 hx110 hr111 hk112
  obtain ⟨o107, x91, x92, v93, rfl, rfl, hE, h31, h32, h33, h34, h61, h65, h67, h89, h94, hb25, hb30, hb73⟩ := hi_
  rw [sync_Follow_L1] at hx110
  refine CW.sr fun K113 hK113 => ?_
  refine WL.p (.bool ((decide (x91 < (len y82))))) rfl rfl ?_
  refine WL.nx hK113 ?_
  refine CW.seq fun K114 hK114 => ?_
  refine CW.cond (b := (decide (x91 < (len y82)))) rfl (fun hc115 => ?_) (fun hc115 => ?_)
  ·have hx110 := iteT hc115 hx110
   refine CW.skip ?_
   refine hK114 _ _ ?_
   refine CW.seq fun K116 hK116 => ?_
   refine CW.block ?_
   refine CW.sr fun K117 hK117 => ?_
   obtain ⟨y118, q122, hx110⟩ := bindE hx110
   refine WL.stepP (OW.indexAddrO Try.underlying41 ty44 rfl h89 rfl q122) rfl fun _ ⟨pa119, hv_, hp120, he121⟩ => ?_
   subst hv_
   refine WL.stepP (OW.loadO ty44 rfl hp120) rfl fun v123 h124 => ?_
   obtain ⟨u125, u126, u127, rfl, h128, h129, h130⟩ := op44 h124
   refine WL.step (OW.allocK (o := o107) Island 124 [.slice none 0 0, .slice none 0 0, .slice none 0 0] ty44 rfl) rfl ?_
   rintro _ w133 ⟨pa131, o132, rfl, ev134, hb135⟩
   have hE := hE.evo ev134 rfl rfl
   have h128 := h128.evo ev134 rfl
   have h129 := h129.evo ev134 rfl
   have h130 := h130.evo ev134 rfl
   have h31 := h31.evo ev134 rfl
   have h32 := h32.evo ev134 rfl
   have h33 := h33.evo ev134 rfl
   have h34 := h34.evo ev134 rfl
   have h61 := h61.evo ev134 rfl
   have h65 := h65.evo ev134 rfl
   have h67 := h67.evo ev134 rfl
   have h89 := h89.evo ev134 rfl
   have h94 := h94.evo ev134 rfl
   have hb25 := hb25.evo ev134 rfl
   have hb30 := hb30.evo ev134 rfl
   have hb73 := hb73.evo ev134 rfl
   have h136 := Ow.nil (α := Int) 3 o132 125 [] w133
   have h137 := Ow.nil (α := Int) 3 o132 126 [] w133
   have h138 := Ow.nil (α := Int) 3 o132 127 [] w133
   refine WL.step0 (OW.storeK0 Island [u125, u126, u127] [u125, u126, u127] ty44 rfl rfl hb135 rfl ⟨(h128.one rfl), (h129.one rfl), (h130.one rfl), trivial⟩ rfl rfl rfl) ?_
   rintro _ w139 ⟨ev140, hb135⟩
   have hE := hE.evo ev140 rfl rfl
   have h128 := h128.evo ev140 rfl
   have h129 := h129.evo ev140 rfl
   have h130 := h130.evo ev140 rfl
   have h31 := h31.evo ev140 rfl
   have h32 := h32.evo ev140 rfl
   have h33 := h33.evo ev140 rfl
   have h34 := h34.evo ev140 rfl
   have h61 := h61.evo ev140 rfl
   have h65 := h65.evo ev140 rfl
   have h67 := h67.evo ev140 rfl
   have h89 := h89.evo ev140 rfl
   have h94 := h94.evo ev140 rfl
   have hb25 := hb25.evo ev140 rfl
   have hb30 := hb30.evo ev140 rfl
   have hb73 := hb73.evo ev140 rfl
   refine WL.nx hK117 ?_
   refine CW.sr fun K141 hK141 => ?_
   refine WL.stepE (OW.fldAddr (FldOk.at f44_1) rfl) rfl ?_
   refine WL.stepE (OW.loadK (off := 1) (List Int) (u126) ty22 rfl hb135 rfl rfl) rfl ?_
   refine WL.stepE (OW.len Try.underlying22 rfl h129) rfl ?_
   refine WL.p (.bool ((decide ((len y118.Sources) > 0)))) rfl rfl ?_
   refine WL.nx hK141 ?_
   obtain ⟨x142, q145, hx110⟩ := bindE hx110
   have hJ148 : ∀ (w146 : World) (o147 : Cls) (v143 : Value), En w0 e0 o147 w146 → Ow 48 o147 114 [] w146 v143 x142 → Ow 4 o147 103 [] w146 (.slice none 0 0) ([] : List Bool) → Ow 48 o147 104 [] w146 (.slice none 0 0) ([] : List Running) → Ow 3 o147 105 [] w146 (.slice none 0 0) ([] : List Int) → Ow 65 o147 106 [] w146 (.slice none 0 0) ([] : List Part) → Ow 4 o147 113 [] w146 u62 y54.Closed → Ow 3 o147 115 [] w146 u66 y54.Limits → Ow 65 o147 116 [] w146 u68 y54.Broken → Ow 44 o147 123 [122] w146 v90 y82 → Bk o147 101 w146 pa21 [u7, u8, u9, u10] → Bk o147 102 w146 pa26 [(.slice none 0 0), (.slice none 0 0), (.slice none 0 0), (.slice none 0 0)] → Bk o147 117 w146 pa69 [u62, v143, u66, u68] → NK 45 K116 [(3, .pointer (some pa21)), (4, .pointer (some pa26)), (7, .pointer (some pa69)), (21, v90), (22, .int .i64 (len y82)), (23, .int .i64 x91)] w146 := by
    intro w146 o147 v143 hE h144 h31 h32 h33 h34 h61 h65 h67 h89 hb25 hb30 hb73
    refine hK116 _ _ ?_
    refine CW.region ?_
    refine WL.p (.int .i64 ((W (x91 + 1)))) rfl rfl ?_
    refine WL.p (.int .i64 ((W (x91 + 1)))) rfl rfl ?_
    refine WL.nil ?_
    exact NK.sb (hk112 _ _ _ (Option.some.inj hx110).symm ⟨o147, (W (x91 + 1)), x142, v143, rfl, rfl, hE, h31, h32, h33, h34, h61, h65, h67, h89, h144, hb25, hb30, hb73⟩) ⟨rfl, rfl, rfl, rfl, rfl, rfl, trivial⟩
   refine CW.cond (b := (decide ((len y118.Sources) > 0))) rfl (fun hc149 => ?_) (fun hc149 => ?_)
   ·have q145 := iteT hc149 q145
    obtain ⟨y150, q154, q145⟩ := bindE q145
    obtain ⟨y155, q159, q145⟩ := bindE q145
    obtain ⟨y166, q167, q145⟩ := bindE q145
    have ev_ := Evo.drew o132 w139
    refine CW.anyS (N := [114, 128]) hmix [sRv none none [] [122] (vk u126) y118.Sources, sOw none none [] 4 113 [] (vk u62) y54.Closed, sOw none none [] 3 115 [] (vk u66) y54.Limits, sOw none none [] 65 116 [] (vk u68) y54.Broken, sOw none (some 11) [] 48 114 [] (vk v93) x92, sBk none none [] 124 (vk pa131) (vk ([u125, u126, u127])), sBk none none [] 101 (vk pa21) (vk ([u7, u8, u9, u10])), sBk none none [] 117 (vk pa69) (vk ([u62, v93, u66, u68])), sPt (some 7) none [7] [122] (vp 0) y150, sEp (some 7) none [7] (vk u126) 1 0 (vp 0), sPt (some 9) none [9] [40, 41] (vp 0) y155, sEp (some 9) none [9] (vk u8) 4 y150 (vp 0), sOw (some 11) none [] 48 114 [] (vk v93) y166] [⟨[], [7], [], [], vk (.agg #[u62, v93, u66, u68]), false⟩, ⟨[], [], [], [], vk (.pointer (some (pa131.add 1))), false⟩, ⟨[], [5], [1], [], vk u126, false⟩, ⟨[], [], [], [], vk (.pointer (some (pa21.add 1))), false⟩, ⟨[], [6], [3], [], vk u8, false⟩, ⟨[], [], [], [], vk (.pointer (some (pa131.add 1))), false⟩, ⟨[], [5], [5], [], vk u126, false⟩, ⟨[], [0], [5, 6], [7], vq 0, false⟩, ⟨[], [8], [5, 6, 7], [], vk (.int .i64 y150), false⟩, ⟨[], [], rg 3 6, [9], vq 0, false⟩, ⟨[], [10], rg 3 7, [], vk (.agg #[.int .i64 y155.State, .int .i64 y155.Since, .int .i64 y155.Frequency, .int .i64 y155.Phase]), false⟩, ⟨[114], [0, 1, 2, 3, 4], rg 0 11, [], vk (.tuple #[]), false⟩] [114] hE rfl (by kernel_rfl) (by kernel_rfl) ⟨h129.evo ev_ rfl, h61.evo ev_ rfl, h65.evo ev_ rfl, h67.evo ev_ rfl, h94.evo ev_ rfl, hb135.evo ev_ rfl, hb25.evo ev_ rfl, hb73.evo ev_ rfl, trivial⟩ ⟨?_, ?_, ?_, ?_, ?_, ?_, ?_, ?_, ?_, ?_, ?_, ?_, trivial⟩ ?_
    ·intro vs174 o_ w_ hE hb73
     have hb73 := tBk hb73
     exact OW.q [(7, .pointer (some pa69))] ⟨rfl, trivial⟩ (OW.loadK0 Power (.agg #[u62, v93, u66, u68]) ty34 rfl hb73 rfl rfl) (er rfl trivial)
    ·intro vs174 o_ w_ hE 
     exact OW.q [(9, .pointer (some pa131))] ⟨rfl, trivial⟩ (OW.fldAddr (FldOk.at f44_1) rfl) (er rfl trivial)
    ·intro vs174 o_ w_ hE hb135
     have hb135 := tBk hb135
     exact OW.q [(32, .pointer (some (pa131.add 1)))] ⟨rfl, trivial⟩ (OW.loadK (off := 1) (List Int) (u126) ty22 rfl hb135 rfl rfl) (er rfl trivial)
    ·intro vs174 o_ w_ hE 
     exact OW.q [(3, .pointer (some pa21))] ⟨rfl, trivial⟩ (OW.fldAddr (FldOk.at f34_1) rfl) (er rfl trivial)
    ·intro vs174 o_ w_ hE hb25
     have hb25 := tBk hb25
     exact OW.q [(34, .pointer (some (pa21.add 1)))] ⟨rfl, trivial⟩ (OW.loadK (off := 1) (List Running) (u8) ty31 rfl hb25 rfl rfl) (er rfl trivial)
    ·intro vs174 o_ w_ hE 
     exact OW.q [(9, .pointer (some pa131))] ⟨rfl, trivial⟩ (OW.fldAddr (FldOk.at f44_1) rfl) (er rfl trivial)
    ·intro vs174 o_ w_ hE hb135
     have hb135 := tBk hb135
     exact OW.q [(36, .pointer (some (pa131.add 1)))] ⟨rfl, trivial⟩ (OW.loadK (off := 1) (List Int) (u126) ty22 rfl hb135 rfl rfl) (er rfl trivial)
    ·intro vs174 o_ w_ hE h129
     have h129 := tRv h129
     refine OW.r [(37, u126)] ⟨rfl, trivial⟩ (OW.indexAddr Try.underlying22 ty3 rfl h129 rfl q154) ?_
     rintro _ _ ⟨rfl, ⟨pa151, hv_, hp152, he153⟩⟩
     subst hv_
     exact ⟨_, Evo.refl _ _ _ _, rfl, hp152, he153, trivial⟩
    ·intro vs174 o_ w_ hE hp152
     have hp152 := tPt hp152
     exact OW.q [(38, .pointer (some (pOf (vs174 7))))] ⟨rfl, trivial⟩ (OW.loadI ty3 rfl hp152) (er rfl trivial)
    ·intro vs174 o_ w_ hE 
     have hE := hE.1
     refine OW.r [(35, u8), (39, .int .i64 y150)] ⟨rfl, rfl, trivial⟩ (OW.indexAddr Try.underlying31 ty48 rfl (h12.baseM hE rfl) rfl q159) ?_
     rintro _ _ ⟨rfl, ⟨pa156, hv_, hp157, he158⟩⟩
     subst hv_
     exact ⟨_, Evo.refl _ _ _ _, rfl, hp157, he158, trivial⟩
    ·intro vs174 o_ w_ hE hp157
     have hp157 := tPt hp157
     refine OW.r [(40, .pointer (some (pOf (vs174 9))))] ⟨rfl, trivial⟩ (OW.load ty48 rfl hp157) ?_
     rintro v160 _ ⟨rfl, h161⟩
     obtain rfl := op48 h161
     exact ⟨_, Evo.refl _ _ _ _, rfl, trivial⟩
    ·intro vs174 o_ w_ hE h129 h61 h65 h67 h94
     have h129 := tRv h129
     have h61 := tOw h61
     have h65 := tOw h65
     have h67 := tOw h67
     have h94 := tOw h94
     obtain ⟨db162, hd163, hk164⟩ := Ow.give 0 h94
     have hm165 : MbOk o_ w_ 0 [db162] [114] := ⟨hk164, trivial⟩
     refine OW.r [(31, .agg #[u62, v93, u66, u68]), (33, u126), (41, .agg #[.int .i64 y155.State, .int .i64 y155.Since, .int .i64 y155.Frequency, .int .i64 y155.Phase])] ⟨rfl, rfl, rfl, trivial⟩ (OW.call Try.call37 rfl (sync_set_ok q167 h61.rv (hm165.sep rfl) hd163 h65.rv (hm165.sep rfl) h67.rv (hm165.sep rfl) h129 (hm165.sep rfl) (mk48 (S := In o_ []) (x := y155)) (hm165.sep rfl) (hm165.nodup rfl))) ?_
     rintro _ w168 ⟨o172, hn_, rfl, h173⟩
     obtain ⟨o169, ev170, hA171⟩ := adopt (o := o_) (ks := [114]) (Ks := [[113], [115], [116], [122], []]) 128 ([]) [114, 128] hn_ hm165 rfl rfl rfl rfl
     have h173 := h173.ad (c' := 114) (K' := []) hA171 rfl rfl
     exact ⟨o169, ev170.sub rfl rfl, rfl, h173, trivial⟩
    ·intro vs174 o176 w175 hE h129 h61 h65 h67 hb135 hb25 hb73 hp152 he153 hp157 he158 h173
     obtain ⟨hE, evT_⟩ := hE
     have h129 : Rv (In o176 [122]) w175 u126 y118.Sources := h129
     have h61 : Ow 4 o176 113 [] w175 u62 y54.Closed := h61
     have h65 : Ow 3 o176 115 [] w175 u66 y54.Limits := h65
     have h67 : Ow 65 o176 116 [] w175 u68 y54.Broken := h67
     have hb135 : Bk o176 124 w175 pa131 [u125, u126, u127] := hb135
     have hb25 : Bk o176 101 w175 pa21 [u7, u8, u9, u10] := hb25
     have hb73 : Bk o176 117 w175 pa69 [u62, v93, u66, u68] := hb73
     have hp152 : PtrAt (In o176 [122]) w175 (pOf (vs174 7)) y150 := hp152
     have he153 : EPtr u126 1 0 (pOf (vs174 7)) := he153
     have hp157 : PtrAt (In o176 [40, 41]) w175 (pOf (vs174 9)) y155 := hp157
     have he158 : EPtr u8 4 y150 (pOf (vs174 9)) := he158
     have h173 : Ow 48 o176 114 [] w175 v93 y166 := h173
     have h128 := h128.evo evT_ rfl
     have h130 := h130.evo evT_ rfl
     have h31 := h31.evo evT_ rfl
     have h32 := h32.evo evT_ rfl
     have h33 := h33.evo evT_ rfl
     have h34 := h34.evo evT_ rfl
     have h89 := h89.evo evT_ rfl
     have hb30 := hb30.evo evT_ rfl
     have e177 := Option.some.inj q145
     subst e177
     exact NK.sb (hJ148 w175 o176 v93 hE h173 h31 h32 h33 h34 h61 h65 h67 h89 hb25 hb30 hb73) ⟨rfl, rfl, rfl, rfl, rfl, rfl, trivial⟩
   ·have q145 := iteF hc149 q145
    refine CW.skip ?_
    have e178 := Option.some.inj q145
    subst e178
    exact NK.sb (hJ148 w139 o132 v93 hE h94 h31 h32 h33 h34 h61 h65 h67 h89 hb25 hb30 hb73) ⟨rfl, rfl, rfl, rfl, rfl, rfl, trivial⟩
  ·have hx110 := iteF hc115 hx110
   refine CW.exit ?_
   exact NK.sb (hJ102 x92 w106 o107 v93 (hr111 _ (Option.some.inj hx110).symm) hE h31 h32 h33 h34 h61 h65 h67 h94 hb30 hb73) ⟨rfl, rfl, trivial⟩

set_option maxHeartbeats 1000000 in
theorem sync_Close_ok {a0 : Board} {a1 : Power} {a2 : Int} {r : (Power × Int)} (hF : sync_Close a0 a1 a2 = some r) {w0 : World} {p0 : Value} {S0 : Nat → Prop} (g0 : Rv S0 w0 p0 a0) {p1 : Value} {S1 : Nat → Prop} (g1 : Rv S1 w0 p1 a1) :
    Calls Try.prog 24 #[p0, p1, .int .i64 a2] w0 (Ret fun v w' => ∃ (oc : Cls) (x0_0 : Value) (x0_1 : Value) (x0_2 : Value) (x0_3 : Value), En w0 (entM w0 [] [S0, S1]) oc w' ∧ v = .tuple #[.agg #[x0_0, x0_1, x0_2, x0_3], .int .i64 r.2] ∧ Ow 4 oc 100 [] w' x0_0 r.1.Closed ∧ Ow 48 oc 101 [] w' x0_1 r.1.Sources ∧ Ow 3 oc 102 [] w' x0_2 r.1.Limits ∧ Ow 65 oc 103 [] w' x0_3 r.1.Broken) := by
 obtain ⟨e0, he0⟩ : ∃ e0, e0 = entM w0 [] [S0, S1] := ⟨_, rfl⟩
 have hE := En.refl w0 e0
 have g0 := g0.argM he0 0 (K := [40]) rfl (nosep rfl) rfl
 have g1 := g1.argM he0 1 (K := [40, 41]) rfl (nosep rfl) rfl
 obtain ⟨u1, u2, u3, rfl, h4, h5, h6⟩ := op29 g0
 obtain ⟨u7, u8, u9, u10, rfl, h11, h12, h13, h14⟩ := op34 g1
 rw [sync_Close] at hF
 refine enter (l := [.agg #[.int .i64 a0.Buses, u1, u2, u3, .int .i64 a0.Phase, .int .i64 a0.Frequency], .agg #[u7, u8, u9, u10], .int .i64 a2]) Try.func24 rfl Try.ntmps24 rfl ?_
 refine CW.sub (L' := [(0, .agg #[.int .i64 a0.Buses, u1, u2, u3, .int .i64 a0.Phase, .int .i64 a0.Frequency]), (1, .agg #[u7, u8, u9, u10]), (2, .int .i64 a2)]) ⟨rfl, rfl, rfl, trivial⟩ ?_
 refine CW.sr fun K15 hK15 => ?_
 refine WL.step (OW.boxK (o := e0) 100 [.int .i64 a0.Buses, u1, u2, u3, .int .i64 a0.Phase, .int .i64 a0.Frequency] rfl rfl) rfl ?_
 rintro _ w18 ⟨pa16, o17, rfl, ev19, hb20⟩
 have hE := hE.evo ev19 rfl rfl
 refine WL.step (OW.boxK (o := o17) 101 [u7, u8, u9, u10] rfl rfl) rfl ?_
 rintro _ w23 ⟨pa21, o22, rfl, ev24, hb25⟩
 have hE := hE.evo ev24 rfl rfl
 have hb20 := hb20.evo ev24 rfl
 refine WL.step (OW.allocK (o := o22) Power 102 [.slice none 0 0, .slice none 0 0, .slice none 0 0, .slice none 0 0] ty34 rfl) rfl ?_
 rintro _ w28 ⟨pa26, o27, rfl, ev29, hb30⟩
 have hE := hE.evo ev29 rfl rfl
 have hb20 := hb20.evo ev29 rfl
 have hb25 := hb25.evo ev29 rfl
 have h31 := Ow.nil (α := Bool) 4 o27 103 [] w28
 have h32 := Ow.nil (α := Running) 48 o27 104 [] w28
 have h33 := Ow.nil (α := Int) 3 o27 105 [] w28
 have h34 := Ow.nil (α := Part) 65 o27 106 [] w28
 refine WL.p (.int .i64 0) rfl rfl ?_
 refine WL.nx hK15 ?_
 refine CW.seq fun K35 hK35 => ?_
 refine CW.sr fun K36 hK36 => ?_
 refine WL.stepE (OW.loadK0 Board (.agg #[.int .i64 a0.Buses, u1, u2, u3, .int .i64 a0.Phase, .int .i64 a0.Frequency]) ty29 rfl hb20 rfl rfl) rfl ?_
 refine WL.stepE (OW.loadK0 Power (.agg #[u7, u8, u9, u10]) ty34 rfl hb25 rfl rfl) rfl ?_
 refine WL.p (.int .i64 a2) rfl rfl ?_
 obtain ⟨y37, q38, hF⟩ := bindE hF
 refine WL.step (OW.call Try.call23 rfl (sync_May_ok q38 (mk29 (x := a0) (h4.baseM hE rfl) (h5.baseM hE rfl) (h6.baseM hE rfl)) (mk34 (x := a1) (h11.baseM hE rfl) (h12.baseM hE rfl) (h13.baseM hE rfl) (h14.baseM hE rfl)))) rfl ?_
 rintro _ w39 ⟨o43, hn_, rfl⟩
 obtain ⟨o40, ev41, hA42⟩ := adopt (o := o27) (ks := []) (Ks := [[40], [40, 41]]) 107 ([]) [107] hn_ MbOk.nil rfl rfl rfl rfl
 have hE := hE.evo ev41 rfl rfl
 have h31 := h31.evo ev41 rfl
 have h32 := h32.evo ev41 rfl
 have h33 := h33.evo ev41 rfl
 have h34 := h34.evo ev41 rfl
 have hb20 := hb20.evo ev41 rfl
 have hb25 := hb25.evo ev41 rfl
 have hb30 := hb30.evo ev41 rfl
 refine WL.p (.int .i64 y37) rfl rfl ?_
 refine WL.nx hK36 ?_
 refine CW.sr fun K44 hK44 => ?_
 refine WL.p (.int .i64 y37) rfl rfl ?_
 refine WL.p (.bool (((y37 != 0)))) rfl rfl ?_
 refine WL.nx hK44 ?_
 refine CW.cond (b := ((y37 != 0))) rfl (fun hc45 => ?_) (fun hc45 => ?_)
 ·have hF := iteT hc45 hF
  refine CW.sr fun K46 hK46 => ?_
  refine WL.stepE (OW.buildK Power [] [.slice none 0 0, .slice none 0 0, .slice none 0 0, .slice none 0 0] st34 ty34 rfl trivial rfl) rfl ?_
  have h47 := Ow.nil (α := Bool) 4 o40 108 [] w39
  have h48 := Ow.nil (α := Running) 48 o40 109 [] w39
  have h49 := Ow.nil (α := Int) 3 o40 110 [] w39
  have h50 := Ow.nil (α := Part) 65 o40 111 [] w39
  refine WL.p (.int .i64 y37) rfl rfl ?_
  refine WL.step0 (OW.storeK0 Power [(.slice none 0 0), (.slice none 0 0), (.slice none 0 0), (.slice none 0 0)] [(.slice none 0 0), (.slice none 0 0), (.slice none 0 0), (.slice none 0 0)] ty34 rfl rfl hb30 rfl ⟨rfl, rfl, rfl, rfl, trivial⟩ rfl rfl rfl) ?_
  rintro _ w51 ⟨ev52, hb30⟩
  have hE := hE.evo ev52 rfl rfl
  have h47 := h47.evo ev52 rfl
  have h48 := h48.evo ev52 rfl
  have h49 := h49.evo ev52 rfl
  have h50 := h50.evo ev52 rfl
  refine WL.p (.int .i64 y37) rfl rfl ?_
  refine WL.nx hK46 ?_
  obtain rfl := Option.some.inj hF
  exact CW.rets (vs := [.agg #[(.slice none 0 0), (.slice none 0 0), (.slice none 0 0), (.slice none 0 0)], .int .i64 y37]) Try.results24 ⟨ResIs.bk Power (.agg #[(.slice none 0 0), (.slice none 0 0), (.slice none 0 0), (.slice none 0 0)]) ty34 rfl hb30 rfl rfl, rfl, trivial⟩ ⟨_, rfl, _, ((.slice none 0 0)), ((.slice none 0 0)), ((.slice none 0 0)), ((.slice none 0 0)), (hE.rn he0 104 [] rfl rfl), rfl, (Ow.nil _ _ _ _ _), (Ow.nil _ _ _ _ _), (Ow.nil _ _ _ _ _), (Ow.nil _ _ _ _ _)⟩ (fun _ _ h => h)
 ·have hF := iteF hc45 hF
  refine CW.skip ?_
  refine hK35 _ _ ?_
  refine CW.sr fun K53 hK53 => ?_
  refine WL.stepE (OW.loadK0 Power (.agg #[u7, u8, u9, u10]) ty34 rfl hb25 rfl rfl) rfl ?_
  obtain ⟨y54, q55, hF⟩ := bindE hF
  refine WL.step (OW.call Try.call35 rfl (states_Clone_ok q55 (mk34 (x := a1) (h11.baseM hE rfl) (h12.baseM hE rfl) (h13.baseM hE rfl) (h14.baseM hE rfl)))) rfl ?_
  rintro _ w56 ⟨o60, u62, u64, u66, u68, hn_, rfl, h61, h63, h65, h67⟩
  obtain ⟨o57, ev58, hA59⟩ := adopt (o := o40) (ks := []) (Ks := [[40, 41]]) 112 ([(100, 113), (101, 114), (102, 115), (103, 116)]) [112, 113, 114, 115, 116] hn_ MbOk.nil rfl rfl rfl rfl
  have h61 := h61.ad (c' := 113) (K' := []) hA59 rfl rfl
  have h63 := h63.ad (c' := 114) (K' := []) hA59 rfl rfl
  have h65 := h65.ad (c' := 115) (K' := []) hA59 rfl rfl
  have h67 := h67.ad (c' := 116) (K' := []) hA59 rfl rfl
  have hE := hE.evo ev58 rfl rfl
  have h31 := h31.evo ev58 rfl
  have h32 := h32.evo ev58 rfl
  have h33 := h33.evo ev58 rfl
  have h34 := h34.evo ev58 rfl
  have hb20 := hb20.evo ev58 rfl
  have hb30 := hb30.evo ev58 rfl
  refine WL.step (OW.allocK (o := o57) Power 117 [.slice none 0 0, .slice none 0 0, .slice none 0 0, .slice none 0 0] ty34 rfl) rfl ?_
  rintro _ w71 ⟨pa69, o70, rfl, ev72, hb73⟩
  have hE := hE.evo ev72 rfl rfl
  have h31 := h31.evo ev72 rfl
  have h32 := h32.evo ev72 rfl
  have h33 := h33.evo ev72 rfl
  have h34 := h34.evo ev72 rfl
  have h61 := h61.evo ev72 rfl
  have h63 := h63.evo ev72 rfl
  have h65 := h65.evo ev72 rfl
  have h67 := h67.evo ev72 rfl
  have hb20 := hb20.evo ev72 rfl
  have hb30 := hb30.evo ev72 rfl
  have h74 := Ow.nil (α := Bool) 4 o70 118 [] w71
  have h75 := Ow.nil (α := Running) 48 o70 119 [] w71
  have h76 := Ow.nil (α := Int) 3 o70 120 [] w71
  have h77 := Ow.nil (α := Part) 65 o70 121 [] w71
  refine WL.step0 (OW.storeK0 Power [u62, u64, u66, u68] [u62, u64, u66, u68] ty34 rfl rfl hb73 rfl ⟨(h61.one), (h63.one), (h65.one), (h67.one), trivial⟩ rfl rfl rfl) ?_
  rintro _ w78 ⟨ev79, hb73⟩
  have hE := hE.evo ev79 rfl rfl
  have h31 := h31.evo ev79 rfl
  have h32 := h32.evo ev79 rfl
  have h33 := h33.evo ev79 rfl
  have h34 := h34.evo ev79 rfl
  have h61 := h61.evo ev79 rfl
  have h63 := h63.evo ev79 rfl
  have h65 := h65.evo ev79 rfl
  have h67 := h67.evo ev79 rfl
  have hb20 := hb20.evo ev79 rfl
  have hb30 := hb30.evo ev79 rfl
  refine WL.nx hK53 ?_
  refine CW.sr fun K80 hK80 => ?_
  refine WL.stepE (OW.fldAddr (FldOk.at f34_0) rfl) rfl ?_
  refine WL.stepE (OW.loadK (off := 0) (List Bool) (u62) ty30 rfl hb73 rfl rfl) rfl ?_
  refine WL.p (.int .i64 a2) rfl rfl ?_
  obtain ⟨y81, q85, hF⟩ := bindE hF
  refine WL.stepP (OW.indexAddrO Try.underlying30 ty4 rfl h61 rfl q85) rfl fun _ ⟨pa82, hv_, hp83, he84⟩ => ?_
  subst hv_
  obtain ⟨y86, q89, hF⟩ := bindE hF
  refine WL.step0 (OW.storeElem ty4 rfl he84 h61 rfl (rv_bool.2 rfl) q89 rfl) ?_
  rintro _ w87 ⟨ev88, h90⟩
  have hE := hE.evo ev88 rfl rfl
  have h31 := h31.evo ev88 rfl
  have h32 := h32.evo ev88 rfl
  have h33 := h33.evo ev88 rfl
  have h34 := h34.evo ev88 rfl
  have h63 := h63.evo ev88 rfl
  have h65 := h65.evo ev88 rfl
  have h67 := h67.evo ev88 rfl
  have hb20 := hb20.evo ev88 rfl
  have hb30 := hb30.evo ev88 rfl
  have hb73 := hb73.evo ev88 rfl
  refine WL.nx hK80 ?_
  refine CW.sr fun K91 hK91 => ?_
  refine WL.stepE (OW.loadK0 Board (.agg #[.int .i64 a0.Buses, u1, u2, u3, .int .i64 a0.Phase, .int .i64 a0.Frequency]) ty29 rfl hb20 rfl rfl) rfl ?_
  refine WL.stepE (OW.loadK0 Power (.agg #[u62, u64, u66, u68]) ty34 rfl hb73 rfl rfl) rfl ?_
  obtain ⟨⟨y92, y93⟩, q94, hF⟩ := bindE hF
  dsimp only at hF
  refine WL.step (OW.call Try.call11 rfl (sync_Follow_ok q94 (mk29 (x := a0) (h4.baseM hE rfl) (h5.baseM hE rfl) (h6.baseM hE rfl)) (mk34 (x := (⟨y86, y54.Sources, y54.Limits, y54.Broken⟩ : Power)) (h90.rv.sub (K' := [113, 114, 115, 116]) rfl) (h63.rv.sub (K' := [113, 114, 115, 116]) rfl) (h65.rv.sub (K' := [113, 114, 115, 116]) rfl) (h67.rv.sub (K' := [113, 114, 115, 116]) rfl)))) rfl ?_
  rintro _ w95 ⟨o99, u101, u103, u105, u107, hn_, rfl, h100, h102, h104, h106⟩
  obtain ⟨o96, ev97, hA98⟩ := adopt (o := o70) (ks := []) (Ks := [[40], [113, 114, 115, 116]]) 122 ([(100, 123), (101, 124), (102, 125), (103, 126)]) [122, 123, 124, 125, 126] hn_ MbOk.nil rfl rfl rfl rfl
  have h100 := h100.ad (c' := 123) (K' := []) hA98 rfl rfl
  have h102 := h102.ad (c' := 124) (K' := []) hA98 rfl rfl
  have h104 := h104.ad (c' := 125) (K' := []) hA98 rfl rfl
  have h106 := h106.ad (c' := 126) (K' := []) hA98 rfl rfl
  have hE := hE.evo ev97 rfl rfl
  have h31 := h31.evo ev97 rfl
  have h32 := h32.evo ev97 rfl
  have h33 := h33.evo ev97 rfl
  have h34 := h34.evo ev97 rfl
  have h63 := h63.evo ev97 rfl
  have h65 := h65.evo ev97 rfl
  have h67 := h67.evo ev97 rfl
  have h90 := h90.evo ev97 rfl
  have hb30 := hb30.evo ev97 rfl
  refine WL.p (.agg #[u101, u103, u105, u107]) rfl rfl ?_
  refine WL.p (.int .i64 y93) rfl rfl ?_
  refine WL.step0 (OW.storeK0 Power [u101, u103, u105, u107] [u101, u103, u105, u107] ty34 rfl rfl hb30 rfl ⟨(h100.one), (h102.one), (h104.one), (h106.one), trivial⟩ rfl rfl rfl) ?_
  rintro _ w108 ⟨ev109, hb30⟩
  have hE := hE.evo ev109 rfl rfl
  have h100 := h100.evo ev109 rfl
  have h102 := h102.evo ev109 rfl
  have h104 := h104.evo ev109 rfl
  have h106 := h106.evo ev109 rfl
  refine WL.p (.int .i64 y93) rfl rfl ?_
  refine WL.nx hK91 ?_
  obtain rfl := Option.some.inj hF
  exact CW.rets (vs := [.agg #[u101, u103, u105, u107], .int .i64 y93]) Try.results24 ⟨ResIs.bk Power (.agg #[u101, u103, u105, u107]) ty34 rfl hb30 rfl rfl, rfl, trivial⟩ ⟨_, rfl, _, (u101), (u103), (u105), (u107), (hE.rn he0 104 [(123, 100), (124, 101), (125, 102), (126, 103)] rfl rfl), rfl, (h100.rn (c' := 100) (K' := []) rfl rfl), (h102.rn (c' := 101) (K' := []) rfl rfl), (h104.rn (c' := 102) (K' := []) rfl rfl), (h106.rn (c' := 103) (K' := []) rfl rfl)⟩ (fun _ _ h => h)

set_option maxHeartbeats 1000000 in
theorem sync_together_ok {a0 : Board} {a1 : Power} {a2 : Int} {a3 : Int} {r : Bool} (hF : sync_together a0 a1 a2 a3 = some r) {w0 : World} {p0 : Value} {S0 : Nat → Prop} (g0 : Rv S0 w0 p0 a0) {p1 : Value} {S1 : Nat → Prop} (g1 : Rv S1 w0 p1 a1) :
    Calls Try.prog 57 #[p0, p1, .int .i64 a2, .int .i64 a3] w0 (Ret fun v w' => ∃ (oc : Cls), En w0 (entM w0 [] [S0, S1]) oc w' ∧ v = .bool r) := by
 obtain ⟨e0, he0⟩ : ∃ e0, e0 = entM w0 [] [S0, S1] := ⟨_, rfl⟩
 have hE := En.refl w0 e0
 have g0 := g0.argM he0 0 (K := [40]) rfl (nosep rfl) rfl
 have g1 := g1.argM he0 1 (K := [40, 41]) rfl (nosep rfl) rfl
 obtain ⟨u1, u2, u3, rfl, h4, h5, h6⟩ := op29 g0
 obtain ⟨u7, u8, u9, u10, rfl, h11, h12, h13, h14⟩ := op34 g1
 rw [sync_together] at hF
 refine enter (l := [.agg #[.int .i64 a0.Buses, u1, u2, u3, .int .i64 a0.Phase, .int .i64 a0.Frequency], .agg #[u7, u8, u9, u10], .int .i64 a2, .int .i64 a3]) Try.func57 rfl Try.ntmps57 rfl ?_
 refine CW.sub (L' := [(0, .agg #[.int .i64 a0.Buses, u1, u2, u3, .int .i64 a0.Phase, .int .i64 a0.Frequency]), (1, .agg #[u7, u8, u9, u10]), (2, .int .i64 a2), (3, .int .i64 a3)]) ⟨rfl, rfl, rfl, rfl, trivial⟩ ?_
 refine CW.sr fun K15 hK15 => ?_
 refine WL.step (OW.boxK (o := e0) 100 [.int .i64 a0.Buses, u1, u2, u3, .int .i64 a0.Phase, .int .i64 a0.Frequency] rfl rfl) rfl ?_
 rintro _ w18 ⟨pa16, o17, rfl, ev19, hb20⟩
 have hE := hE.evo ev19 rfl rfl
 refine WL.step (OW.boxK (o := o17) 101 [u7, u8, u9, u10] rfl rfl) rfl ?_
 rintro _ w23 ⟨pa21, o22, rfl, ev24, hb25⟩
 have hE := hE.evo ev24 rfl rfl
 have hb20 := hb20.evo ev24 rfl
 refine WL.p (.bool false) rfl rfl ?_
 refine WL.nx hK15 ?_
 refine CW.sr fun K26 hK26 => ?_
 refine WL.stepE (OW.loadK0 Board (.agg #[.int .i64 a0.Buses, u1, u2, u3, .int .i64 a0.Phase, .int .i64 a0.Frequency]) ty29 rfl hb20 rfl rfl) rfl ?_
 refine WL.stepE (OW.loadK0 Power (.agg #[u7, u8, u9, u10]) ty34 rfl hb25 rfl rfl) rfl ?_
 refine WL.p (.int .i64 a2) rfl rfl ?_
 obtain ⟨⟨y27, y28⟩, q29, hF⟩ := bindE hF
 dsimp only at hF
 refine WL.step (OW.call Try.call55 rfl (board_Connected_ok q29 (mk29 (x := a0) (h4.baseM hE rfl) (h5.baseM hE rfl) (h6.baseM hE rfl)) (mk34 (x := a1) (h11.baseM hE rfl) (h12.baseM hE rfl) (h13.baseM hE rfl) (h14.baseM hE rfl)))) rfl ?_
 rintro _ w30 ⟨o34, hn_, rfl⟩
 obtain ⟨o31, ev32, hA33⟩ := adopt (o := o22) (ks := []) (Ks := [[40], [40, 41]]) 102 ([]) [102] hn_ MbOk.nil rfl rfl rfl rfl
 have hE := hE.evo ev32 rfl rfl
 have hb20 := hb20.evo ev32 rfl
 have hb25 := hb25.evo ev32 rfl
 refine WL.p (.tuple #[.int .i64 y27, .bool y28]) rfl rfl ?_
 refine WL.p (.int .i64 y27) rfl rfl ?_
 refine WL.p (.bool y28) rfl rfl ?_
 refine WL.p (.int .i64 y27) rfl rfl ?_
 refine WL.p (.bool y28) rfl rfl ?_
 refine WL.nx hK26 ?_
 refine CW.seq fun K35 hK35 => ?_
 refine CW.sr fun K36 hK36 => ?_
 refine WL.p (.bool y28) rfl rfl ?_
 refine WL.p (.bool (!y28)) rfl rfl ?_
 refine WL.nx hK36 ?_
 refine CW.cond (b := (!y28)) rfl (fun hc37 => ?_) (fun hc37 => ?_)
 ·have hF := iteT hc37 hF
  refine CW.sr fun K38 hK38 => ?_
  refine WL.p (.bool false) rfl rfl ?_
  refine WL.nx hK38 ?_
  obtain rfl := Option.some.inj hF
  exact CW.rets (vs := [.bool false]) Try.results57 ⟨rfl, trivial⟩ ⟨_, rfl, _, (hE.rn he0 100 [] rfl rfl), rfl⟩ (fun _ _ h => h)
 ·have hF := iteF hc37 hF
  refine CW.skip ?_
  refine hK35 _ _ ?_
  refine CW.sr fun K39 hK39 => ?_
  refine WL.stepE (OW.loadK0 Board (.agg #[.int .i64 a0.Buses, u1, u2, u3, .int .i64 a0.Phase, .int .i64 a0.Frequency]) ty29 rfl hb20 rfl rfl) rfl ?_
  refine WL.stepE (OW.loadK0 Power (.agg #[u7, u8, u9, u10]) ty34 rfl hb25 rfl rfl) rfl ?_
  refine WL.p (.int .i64 y27) rfl rfl ?_
  obtain ⟨⟨y40, y41⟩, q42, hF⟩ := bindE hF
  dsimp only at hF
  refine WL.step (OW.call Try.call41 rfl (board_Of_ok q42 (mk29 (x := a0) (h4.baseM hE rfl) (h5.baseM hE rfl) (h6.baseM hE rfl)) (mk34 (x := a1) (h11.baseM hE rfl) (h12.baseM hE rfl) (h13.baseM hE rfl) (h14.baseM hE rfl)))) rfl ?_
  rintro _ w43 ⟨o47, u49, u51, u53, hn_, rfl, h48, h50, h52⟩
  obtain ⟨o44, ev45, hA46⟩ := adopt (o := o31) (ks := []) (Ks := [[40], [40, 41]]) 103 ([]) [103] hn_ MbOk.nil rfl rfl rfl rfl
  have h48 := h48.ad (K' := [103]) hA46 rfl
  have h50 := h50.ad (K' := [103]) hA46 rfl
  have h52 := h52.ad (K' := [103]) hA46 rfl
  have hE := hE.evo ev45 rfl rfl
  refine WL.p (.tuple #[.agg #[u49, u51, u53], .bool y41]) rfl rfl ?_
  refine WL.p (.agg #[u49, u51, u53]) rfl rfl ?_
  refine WL.p (.bool y41) rfl rfl ?_
  refine WL.step (OW.allocK (o := o44) Island 104 [.slice none 0 0, .slice none 0 0, .slice none 0 0] ty44 rfl) rfl ?_
  rintro _ w56 ⟨pa54, o55, rfl, ev57, hb58⟩
  have hE := hE.evo ev57 rfl rfl
  have h48 := h48.evo ev57 rfl
  have h50 := h50.evo ev57 rfl
  have h52 := h52.evo ev57 rfl
  have h59 := Ow.nil (α := Int) 3 o55 105 [] w56
  have h60 := Ow.nil (α := Int) 3 o55 106 [] w56
  have h61 := Ow.nil (α := Int) 3 o55 107 [] w56
  refine WL.step0 (OW.storeK0 Island [u49, u51, u53] [u49, u51, u53] ty44 rfl rfl hb58 rfl ⟨(h48.one rfl), (h50.one rfl), (h52.one rfl), trivial⟩ rfl rfl rfl) ?_
  rintro _ w62 ⟨ev63, hb58⟩
  have hE := hE.evo ev63 rfl rfl
  have h48 := h48.evo ev63 rfl
  have h50 := h50.evo ev63 rfl
  have h52 := h52.evo ev63 rfl
  refine WL.p (.bool y41) rfl rfl ?_
  refine WL.nx hK39 ?_
  refine CW.sr fun K64 hK64 => ?_
  refine WL.stepE (OW.fldAddr (FldOk.at f44_1) rfl) rfl ?_
  refine WL.stepE (OW.loadK (off := 1) (List Int) (u51) ty22 rfl hb58 rfl rfl) rfl ?_
  refine WL.p (.int .i64 a3) rfl rfl ?_
  obtain ⟨y65, q66, hF⟩ := bindE hF
  refine WL.step (OW.call Try.call45 rfl (slices_Contains_int_int_ok q66 h50)) rfl ?_
  rintro _ w67 ⟨o71, hn_, rfl⟩
  obtain ⟨o68, ev69, hA70⟩ := adopt (o := o55) (ks := []) (Ks := [[103]]) 108 ([]) [108] hn_ MbOk.nil rfl rfl rfl rfl
  have hE := hE.evo ev69 rfl rfl
  have h50 := h50.evo ev69 rfl
  refine WL.p (.bool y65) rfl rfl ?_
  refine WL.nx hK64 ?_
  obtain rfl := Option.some.inj hF
  exact CW.rets (vs := [.bool y65]) Try.results57 ⟨rfl, trivial⟩ ⟨_, rfl, _, (hE.rn he0 100 [] rfl rfl), rfl⟩ (fun _ _ h => h)

end Go.Proofs.Ytdfkfohpgakihaa
