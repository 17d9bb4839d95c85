/- Walks. Written by a program (wip/gen). -/
import Derived.Test.YtdfkfohpgakihaaHw
import Derived.Test.YtdfkfohpgakihaaWk1
import Derived.Test.YtdfkfohpgakihaaWk12
import Derived.Test.YtdfkfohpgakihaaWk14
import Derived.Test.YtdfkfohpgakihaaWk15
import Derived.Test.YtdfkfohpgakihaaWk16
set_option linter.unusedVariables false
set_option linter.unusedSimpArgs false
namespace Go.Proofs.Ytdfkfohpgakihaa
open Go Go.RowKit Dp

set_option maxRecDepth 100000

set_option maxHeartbeats 1000000 in
theorem dynposlaw16_sane_ok {r : Bool} (hF : dynposlaw16_sane  = some r) {w0 : World}  :
    Calls Try.prog 17 #[] w0 (Ret fun v w' => ∃ (oc : Cls), En w0 (entM w0 [] []) oc w' ∧ v = .bool r) := by
 obtain ⟨e0, he0⟩ : ∃ e0, e0 = entM w0 [] [] := ⟨_, rfl⟩
 have hE := En.refl w0 e0
 rw [dynposlaw16_sane] at hF
 refine enter (l := []) Try.func17 rfl Try.ntmps17 rfl ?_
 refine CW.sr fun K1 hK1 => ?_
 refine WL.p (.bool false) rfl rfl ?_
 refine WL.nx hK1 ?_
 refine CW.sr fun K2 hK2 => ?_
 obtain ⟨⟨y3, y4⟩, q5, hF⟩ := bindE hF
 dsimp only at hF
 refine WL.step (OW.call Try.call18 rfl (dynposlaw16_pair_ok q5)) rfl ?_
 rintro _ w6 ⟨o10, u12, u14, u16, u18, u20, u22, u24, hn_, rfl, h11, h13, h15, h17, h19, h21, h23⟩
 obtain ⟨o7, ev8, hA9⟩ := adopt (o := e0) (ks := []) (Ks := []) 100 ([(101, 101), (102, 102), (103, 103), (106, 104), (107, 105), (108, 106), (109, 107)]) [100, 101, 102, 103, 104, 105, 106, 107] hn_ MbOk.nil rfl rfl rfl rfl
 have h11 := h11.ad (c' := 101) (K' := []) hA9 rfl rfl
 have h13 := h13.ad (c' := 102) (K' := []) hA9 rfl rfl
 have h15 := h15.ad (c' := 103) (K' := []) hA9 rfl rfl
 have h17 := h17.ad (c' := 104) (K' := []) hA9 rfl rfl
 have h19 := h19.ad (c' := 105) (K' := []) hA9 rfl rfl
 have h21 := h21.ad (c' := 106) (K' := []) hA9 rfl rfl
 have h23 := h23.ad (c' := 107) (K' := []) hA9 rfl rfl
 have hE := hE.evo ev8 rfl rfl
 refine WL.p (.tuple #[.agg #[.int .i64 y3.Buses, u12, u14, u16, .int .i64 y3.Phase, .int .i64 y3.Frequency], .agg #[u18, u20, u22, u24]]) rfl rfl ?_
 refine WL.p (.agg #[.int .i64 y3.Buses, u12, u14, u16, .int .i64 y3.Phase, .int .i64 y3.Frequency]) rfl rfl ?_
 refine WL.p (.agg #[u18, u20, u22, u24]) rfl rfl ?_
 refine WL.step (OW.allocK (o := o7) Board 108 [.int .i64 0, .slice none 0 0, .slice none 0 0, .slice none 0 0, .int .i64 0, .int .i64 0] ty29 rfl) rfl ?_
 rintro _ w27 ⟨pa25, o26, rfl, ev28, hb29⟩
 have hE := hE.evo ev28 rfl rfl
 have h11 := h11.evo ev28 rfl
 have h13 := h13.evo ev28 rfl
 have h15 := h15.evo ev28 rfl
 have h17 := h17.evo ev28 rfl
 have h19 := h19.evo ev28 rfl
 have h21 := h21.evo ev28 rfl
 have h23 := h23.evo ev28 rfl
 have h30 := Ow.nil (α := Breaker) 59 o26 109 [] w27
 have h31 := Ow.nil (α := Source) 76 o26 110 [] w27
 have h32 := Ow.nil (α := Consumer) 79 o26 111 [] w27
 refine WL.step (OW.allocK (o := o26) Power 112 [.slice none 0 0, .slice none 0 0, .slice none 0 0, .slice none 0 0] ty34 rfl) rfl ?_
 rintro _ w35 ⟨pa33, o34, rfl, ev36, hb37⟩
 have hE := hE.evo ev36 rfl rfl
 have h11 := h11.evo ev36 rfl
 have h13 := h13.evo ev36 rfl
 have h15 := h15.evo ev36 rfl
 have h17 := h17.evo ev36 rfl
 have h19 := h19.evo ev36 rfl
 have h21 := h21.evo ev36 rfl
 have h23 := h23.evo ev36 rfl
 have h30 := h30.evo ev36 rfl
 have h31 := h31.evo ev36 rfl
 have h32 := h32.evo ev36 rfl
 have hb29 := hb29.evo ev36 rfl
 have h38 := Ow.nil (α := Bool) 4 o34 113 [] w35
 have h39 := Ow.nil (α := Running) 48 o34 114 [] w35
 have h40 := Ow.nil (α := Int) 3 o34 115 [] w35
 have h41 := Ow.nil (α := Part) 65 o34 116 [] w35
 refine WL.step0 (OW.storeK0 Board [.int .i64 y3.Buses, u12, u14, u16, .int .i64 y3.Phase, .int .i64 y3.Frequency] [.int .i64 y3.Buses, u12, u14, u16, .int .i64 y3.Phase, .int .i64 y3.Frequency] ty29 rfl rfl hb29 rfl ⟨rfl, (h11.one), (h13.one), (h15.one), rfl, rfl, trivial⟩ rfl rfl rfl) ?_
 rintro _ w42 ⟨ev43, hb29⟩
 have hE := hE.evo ev43 rfl rfl
 have h11 := h11.evo ev43 rfl
 have h13 := h13.evo ev43 rfl
 have h15 := h15.evo ev43 rfl
 have h17 := h17.evo ev43 rfl
 have h19 := h19.evo ev43 rfl
 have h21 := h21.evo ev43 rfl
 have h23 := h23.evo ev43 rfl
 have h38 := h38.evo ev43 rfl
 have h39 := h39.evo ev43 rfl
 have h40 := h40.evo ev43 rfl
 have h41 := h41.evo ev43 rfl
 have hb37 := hb37.evo ev43 rfl
 refine WL.step0 (OW.storeK0 Power [u18, u20, u22, u24] [u18, u20, u22, u24] ty34 rfl rfl hb37 rfl ⟨(h17.one), (h19.one), (h21.one), (h23.one), trivial⟩ rfl rfl rfl) ?_
 rintro _ w44 ⟨ev45, hb37⟩
 have hE := hE.evo ev45 rfl rfl
 have h11 := h11.evo ev45 rfl
 have h13 := h13.evo ev45 rfl
 have h15 := h15.evo ev45 rfl
 have h17 := h17.evo ev45 rfl
 have h19 := h19.evo ev45 rfl
 have h21 := h21.evo ev45 rfl
 have h23 := h23.evo ev45 rfl
 have hb29 := hb29.evo ev45 rfl
 refine WL.nx hK2 ?_
 refine CW.sr fun K46 hK46 => ?_
 refine WL.stepE (OW.loadK0 Board (.agg #[.int .i64 y3.Buses, u12, u14, u16, .int .i64 y3.Phase, .int .i64 y3.Frequency]) ty29 rfl hb29 rfl rfl) rfl ?_
 refine WL.stepE (OW.loadK0 Power (.agg #[u18, u20, u22, u24]) ty34 rfl hb37 rfl rfl) rfl ?_
 obtain ⟨⟨y47, y48⟩, q49, hF⟩ := bindE hF
 dsimp only at hF
 refine WL.step (OW.call Try.call30 rfl (sync_Match_ok q49 (mk29 (x := y3) (h11.rv.sub (K' := [101, 102, 103]) rfl) (h13.rv.sub (K' := [101, 102, 103]) rfl) (h15.rv.sub (K' := [101, 102, 103]) rfl)) (mk34 (x := y4) (h17.rv.sub (K' := [104, 105, 106, 107]) rfl) (h19.rv.sub (K' := [104, 105, 106, 107]) rfl) (h21.rv.sub (K' := [104, 105, 106, 107]) rfl) (h23.rv.sub (K' := [104, 105, 106, 107]) rfl)))) rfl ?_
 rintro _ w50 ⟨o54, u56, u58, u60, u62, hn_, rfl, h55, h57, h59, h61⟩
 obtain ⟨o51, ev52, hA53⟩ := adopt (o := o34) (ks := []) (Ks := [[101, 102, 103], [104, 105, 106, 107]]) 117 ([(100, 118), (101, 119), (102, 120), (103, 121)]) [117, 118, 119, 120, 121] hn_ MbOk.nil rfl rfl rfl rfl
 have h55 := h55.ad (c' := 118) (K' := []) hA53 rfl rfl
 have h57 := h57.ad (c' := 119) (K' := []) hA53 rfl rfl
 have h59 := h59.ad (c' := 120) (K' := []) hA53 rfl rfl
 have h61 := h61.ad (c' := 121) (K' := []) hA53 rfl rfl
 have hE := hE.evo ev52 rfl rfl
 have h11 := h11.evo ev52 rfl
 have h13 := h13.evo ev52 rfl
 have h15 := h15.evo ev52 rfl
 have h17 := h17.evo ev52 rfl
 have h19 := h19.evo ev52 rfl
 have h21 := h21.evo ev52 rfl
 have h23 := h23.evo ev52 rfl
 have hb29 := hb29.evo ev52 rfl
 have hb37 := hb37.evo ev52 rfl
 refine WL.p (.tuple #[.agg #[u56, u58, u60, u62], .int .i64 y48]) rfl rfl ?_
 refine WL.p (.agg #[u56, u58, u60, u62]) rfl rfl ?_
 refine WL.p (.int .i64 y48) rfl rfl ?_
 refine WL.step (OW.allocK (o := o51) Power 122 [.slice none 0 0, .slice none 0 0, .slice none 0 0, .slice none 0 0] ty34 rfl) rfl ?_
 rintro _ w65 ⟨pa63, o64, rfl, ev66, hb67⟩
 have hE := hE.evo ev66 rfl rfl
 have h11 := h11.evo ev66 rfl
 have h13 := h13.evo ev66 rfl
 have h15 := h15.evo ev66 rfl
 have h17 := h17.evo ev66 rfl
 have h19 := h19.evo ev66 rfl
 have h21 := h21.evo ev66 rfl
 have h23 := h23.evo ev66 rfl
 have h55 := h55.evo ev66 rfl
 have h57 := h57.evo ev66 rfl
 have h59 := h59.evo ev66 rfl
 have h61 := h61.evo ev66 rfl
 have hb29 := hb29.evo ev66 rfl
 have hb37 := hb37.evo ev66 rfl
 have h68 := Ow.nil (α := Bool) 4 o64 123 [] w65
 have h69 := Ow.nil (α := Running) 48 o64 124 [] w65
 have h70 := Ow.nil (α := Int) 3 o64 125 [] w65
 have h71 := Ow.nil (α := Part) 65 o64 126 [] w65
 refine WL.step0 (OW.storeK0 Power [u56, u58, u60, u62] [u56, u58, u60, u62] ty34 rfl rfl hb67 rfl ⟨(h55.one), (h57.one), (h59.one), (h61.one), trivial⟩ rfl rfl rfl) ?_
 rintro _ w72 ⟨ev73, hb67⟩
 have hE := hE.evo ev73 rfl rfl
 have h11 := h11.evo ev73 rfl
 have h13 := h13.evo ev73 rfl
 have h15 := h15.evo ev73 rfl
 have h17 := h17.evo ev73 rfl
 have h19 := h19.evo ev73 rfl
 have h21 := h21.evo ev73 rfl
 have h23 := h23.evo ev73 rfl
 have h55 := h55.evo ev73 rfl
 have h57 := h57.evo ev73 rfl
 have h59 := h59.evo ev73 rfl
 have h61 := h61.evo ev73 rfl
 have hb29 := hb29.evo ev73 rfl
 have hb37 := hb37.evo ev73 rfl
 refine WL.p (.int .i64 y48) rfl rfl ?_
 refine WL.nx hK46 ?_
 refine CW.sr fun K74 hK74 => ?_
 refine WL.stepE (OW.loadK0 Board (.agg #[.int .i64 y3.Buses, u12, u14, u16, .int .i64 y3.Phase, .int .i64 y3.Frequency]) ty29 rfl hb29 rfl rfl) rfl ?_
 refine WL.stepE (OW.loadK0 Power (.agg #[u56, u58, u60, u62]) ty34 rfl hb67 rfl rfl) rfl ?_
 obtain ⟨⟨y75, y76⟩, q77, hF⟩ := bindE hF
 dsimp only at hF
 refine WL.step (OW.call Try.call24 rfl (sync_Close_ok q77 (mk29 (x := y3) (h11.rv.sub (K' := [101, 102, 103]) rfl) (h13.rv.sub (K' := [101, 102, 103]) rfl) (h15.rv.sub (K' := [101, 102, 103]) rfl)) (mk34 (x := y47) (h55.rv.sub (K' := [118, 119, 120, 121]) rfl) (h57.rv.sub (K' := [118, 119, 120, 121]) rfl) (h59.rv.sub (K' := [118, 119, 120, 121]) rfl) (h61.rv.sub (K' := [118, 119, 120, 121]) rfl)))) rfl ?_
 rintro _ w78 ⟨o82, u84, u86, u88, u90, hn_, rfl, h83, h85, h87, h89⟩
 obtain ⟨o79, ev80, hA81⟩ := adopt (o := o64) (ks := []) (Ks := [[101, 102, 103], [118, 119, 120, 121]]) 127 ([(100, 128), (101, 129), (102, 130), (103, 131)]) [127, 128, 129, 130, 131] hn_ MbOk.nil rfl rfl rfl rfl
 have h83 := h83.ad (c' := 128) (K' := []) hA81 rfl rfl
 have h85 := h85.ad (c' := 129) (K' := []) hA81 rfl rfl
 have h87 := h87.ad (c' := 130) (K' := []) hA81 rfl rfl
 have h89 := h89.ad (c' := 131) (K' := []) hA81 rfl rfl
 have hE := hE.evo ev80 rfl rfl
 have h11 := h11.evo ev80 rfl
 have h13 := h13.evo ev80 rfl
 have h15 := h15.evo ev80 rfl
 have h17 := h17.evo ev80 rfl
 have h19 := h19.evo ev80 rfl
 have h21 := h21.evo ev80 rfl
 have h23 := h23.evo ev80 rfl
 have h55 := h55.evo ev80 rfl
 have h57 := h57.evo ev80 rfl
 have h59 := h59.evo ev80 rfl
 have h61 := h61.evo ev80 rfl
 have hb29 := hb29.evo ev80 rfl
 have hb37 := hb37.evo ev80 rfl
 have hb67 := hb67.evo ev80 rfl
 refine WL.p (.tuple #[.agg #[u84, u86, u88, u90], .int .i64 y76]) rfl rfl ?_
 refine WL.p (.agg #[u84, u86, u88, u90]) rfl rfl ?_
 refine WL.p (.int .i64 y76) rfl rfl ?_
 refine WL.step (OW.allocK (o := o79) Power 132 [.slice none 0 0, .slice none 0 0, .slice none 0 0, .slice none 0 0] ty34 rfl) rfl ?_
 rintro _ w93 ⟨pa91, o92, rfl, ev94, hb95⟩
 have hE := hE.evo ev94 rfl rfl
 have h11 := h11.evo ev94 rfl
 have h13 := h13.evo ev94 rfl
 have h15 := h15.evo ev94 rfl
 have h17 := h17.evo ev94 rfl
 have h19 := h19.evo ev94 rfl
 have h21 := h21.evo ev94 rfl
 have h23 := h23.evo ev94 rfl
 have h55 := h55.evo ev94 rfl
 have h57 := h57.evo ev94 rfl
 have h59 := h59.evo ev94 rfl
 have h61 := h61.evo ev94 rfl
 have h83 := h83.evo ev94 rfl
 have h85 := h85.evo ev94 rfl
 have h87 := h87.evo ev94 rfl
 have h89 := h89.evo ev94 rfl
 have hb29 := hb29.evo ev94 rfl
 have hb37 := hb37.evo ev94 rfl
 have hb67 := hb67.evo ev94 rfl
 have h96 := Ow.nil (α := Bool) 4 o92 133 [] w93
 have h97 := Ow.nil (α := Running) 48 o92 134 [] w93
 have h98 := Ow.nil (α := Int) 3 o92 135 [] w93
 have h99 := Ow.nil (α := Part) 65 o92 136 [] w93
 refine WL.step0 (OW.storeK0 Power [u84, u86, u88, u90] [u84, u86, u88, u90] ty34 rfl rfl hb95 rfl ⟨(h83.one), (h85.one), (h87.one), (h89.one), trivial⟩ rfl rfl rfl) ?_
 rintro _ w100 ⟨ev101, hb95⟩
 have hE := hE.evo ev101 rfl rfl
 have h11 := h11.evo ev101 rfl
 have h13 := h13.evo ev101 rfl
 have h15 := h15.evo ev101 rfl
 have h17 := h17.evo ev101 rfl
 have h19 := h19.evo ev101 rfl
 have h21 := h21.evo ev101 rfl
 have h23 := h23.evo ev101 rfl
 have h55 := h55.evo ev101 rfl
 have h57 := h57.evo ev101 rfl
 have h59 := h59.evo ev101 rfl
 have h61 := h61.evo ev101 rfl
 have h83 := h83.evo ev101 rfl
 have h85 := h85.evo ev101 rfl
 have h87 := h87.evo ev101 rfl
 have h89 := h89.evo ev101 rfl
 have hb29 := hb29.evo ev101 rfl
 have hb37 := hb37.evo ev101 rfl
 have hb67 := hb67.evo ev101 rfl
 refine WL.p (.int .i64 y76) rfl rfl ?_
 refine WL.nx hK74 ?_
 refine CW.sr fun K102 hK102 => ?_
 refine WL.stepE (OW.loadK0 Board (.agg #[.int .i64 y3.Buses, u12, u14, u16, .int .i64 y3.Phase, .int .i64 y3.Frequency]) ty29 rfl hb29 rfl rfl) rfl ?_
 refine WL.stepE (OW.loadK0 Power (.agg #[u18, u20, u22, u24]) ty34 rfl hb37 rfl rfl) rfl ?_
 obtain ⟨y103, q104, hF⟩ := bindE hF
 refine WL.step (OW.call Try.call23 rfl (sync_May_ok q104 (mk29 (x := y3) (h11.rv.sub (K' := [101, 102, 103]) rfl) (h13.rv.sub (K' := [101, 102, 103]) rfl) (h15.rv.sub (K' := [101, 102, 103]) rfl)) (mk34 (x := y4) (h17.rv.sub (K' := [104, 105, 106, 107]) rfl) (h19.rv.sub (K' := [104, 105, 106, 107]) rfl) (h21.rv.sub (K' := [104, 105, 106, 107]) rfl) (h23.rv.sub (K' := [104, 105, 106, 107]) rfl)))) rfl ?_
 rintro _ w105 ⟨o109, hn_, rfl⟩
 obtain ⟨o106, ev107, hA108⟩ := adopt (o := o92) (ks := []) (Ks := [[101, 102, 103], [104, 105, 106, 107]]) 137 ([]) [137] hn_ MbOk.nil rfl rfl rfl rfl
 have hE := hE.evo ev107 rfl rfl
 have h11 := h11.evo ev107 rfl
 have h13 := h13.evo ev107 rfl
 have h15 := h15.evo ev107 rfl
 have h17 := h17.evo ev107 rfl
 have h19 := h19.evo ev107 rfl
 have h21 := h21.evo ev107 rfl
 have h23 := h23.evo ev107 rfl
 have h55 := h55.evo ev107 rfl
 have h57 := h57.evo ev107 rfl
 have h59 := h59.evo ev107 rfl
 have h61 := h61.evo ev107 rfl
 have h83 := h83.evo ev107 rfl
 have h85 := h85.evo ev107 rfl
 have h87 := h87.evo ev107 rfl
 have h89 := h89.evo ev107 rfl
 have hb29 := hb29.evo ev107 rfl
 have hb67 := hb67.evo ev107 rfl
 have hb95 := hb95.evo ev107 rfl
 refine WL.p (.bool (((y103 == 12)))) rfl rfl ?_
 refine WL.p (.bool (((y103 == 12)))) rfl rfl ?_
 obtain ⟨x110, q111, hF⟩ := bindE hF
 have hJ114 : ∀ (w112 : World) (o113 : Cls), En w0 e0 o113 w112 → NK 54 K102 [(0, .bool x110)] w112 := by
  intro w112 o113  hE
  refine hK102 _ _ ?_
  obtain rfl := Option.some.inj hF
  exact CW.rets (vs := [.bool x110]) Try.results17 ⟨rfl, trivial⟩ ⟨_, rfl, _, (hE.rn he0 100 [] rfl rfl), rfl⟩ (fun _ _ h => h)
 rcases Bool.eq_false_or_eq_true (((y103 == 12))) with hc115 | hc115
 ·have q111 := iteT hc115 q111
  refine WL.stepGE rfl rfl rfl hc115 (OW.pv (v := (.int .i64 y48)) rfl) rfl ?_
  refine WL.stepGE rfl rfl rfl hc115 (OW.pv (v := (.bool (((y48 == 0))))) rfl) rfl ?_
  refine WL.stepE (OW.pickT rfl hc115 rfl) rfl ?_
  refine WL.p (.bool (((y48 == 0)))) rfl rfl ?_
  obtain ⟨x116, q117, q111⟩ := bindE q111
  have hJ120 : ∀ (w118 : World) (o119 : Cls), En w0 e0 o119 w118 → NK 54 K102 [(0, .bool x116)] w118 := by
   intro w118 o119  hE
   have e121 := Option.some.inj q111
   subst e121
   exact NK.sb (hJ114 w118 o119 hE) ⟨rfl, trivial⟩
  rcases Bool.eq_false_or_eq_true (((y48 == 0))) with hc122 | hc122
  ·have q117 := iteT hc122 q117
   refine WL.stepGE rfl rfl rfl hc122 (OW.pv (v := (.int .i64 y76)) rfl) rfl ?_
   refine WL.stepGE rfl rfl rfl hc122 (OW.pv (v := (.bool (((y76 == 0))))) rfl) rfl ?_
   refine WL.stepE (OW.pickT rfl hc122 rfl) rfl ?_
   refine WL.p (.bool (((y76 == 0)))) rfl rfl ?_
   obtain ⟨x123, q124, q117⟩ := bindE q117
   have hJ127 : ∀ (w125 : World) (o126 : Cls), En w0 e0 o126 w125 → NK 54 K102 [(0, .bool x123)] w125 := by
    intro w125 o126  hE
    have e128 := Option.some.inj q117
    subst e128
    exact NK.sb (hJ120 w125 o126 hE) ⟨rfl, trivial⟩
   rcases Bool.eq_false_or_eq_true (((y76 == 0))) with hc129 | hc129
   ·have q124 := iteT hc129 q124
    refine WL.stepGE rfl rfl rfl hc129 (OW.fldAddr (FldOk.at f34_0) rfl) rfl ?_
    refine WL.stepGE rfl rfl rfl hc129 (OW.loadK (off := 0) (List Bool) (u84) ty30 rfl hb95 rfl rfl) rfl ?_
    refine WL.stepGE rfl rfl rfl hc129 (OW.len Try.underlying30 rfl h83.rv) rfl ?_
    refine WL.stepGE rfl rfl rfl hc129 (OW.pv (v := (.bool ((((len y75.Closed) == 3))))) rfl) rfl ?_
    refine WL.stepE (OW.pickT rfl hc129 rfl) rfl ?_
    refine WL.p (.bool ((((len y75.Closed) == 3)))) rfl rfl ?_
    obtain ⟨x130, q131, q124⟩ := bindE q124
    have hJ134 : ∀ (w132 : World) (o133 : Cls), En w0 e0 o133 w132 → NK 54 K102 [(0, .bool x130)] w132 := by
     intro w132 o133  hE
     have e135 := Option.some.inj q124
     subst e135
     exact NK.sb (hJ127 w132 o133 hE) ⟨rfl, trivial⟩
    rcases Bool.eq_false_or_eq_true ((((len y75.Closed) == 3))) with hc136 | hc136
    ·have q131 := iteT hc136 q131
     refine WL.stepGE rfl rfl rfl hc136 (OW.fldAddr (FldOk.at f34_0) rfl) rfl ?_
     refine WL.stepGE rfl rfl rfl hc136 (OW.loadK (off := 0) (List Bool) (u84) ty30 rfl hb95 rfl rfl) rfl ?_
     obtain ⟨y137, q141, q131⟩ := bindE q131
     refine WL.stepGP rfl rfl rfl hc136 (OW.indexAddrO Try.underlying30 ty4 rfl h83 rfl q141) rfl fun _ ⟨pa138, hv_, hp139, he140⟩ => ?_
     subst hv_
     refine WL.stepGE rfl rfl rfl hc136 (OW.loadB ty4 rfl hp139.at) rfl ?_
     refine WL.stepE (OW.pickT rfl hc136 rfl) rfl ?_
     refine WL.p (.bool y137) rfl rfl ?_
     obtain ⟨x142, q143, q131⟩ := bindE q131
     have hJ146 : ∀ (w144 : World) (o145 : Cls), En w0 e0 o145 w144 → NK 54 K102 [(0, .bool x142)] w144 := by
      intro w144 o145  hE
      have e147 := Option.some.inj q131
      subst e147
      exact NK.sb (hJ134 w144 o145 hE) ⟨rfl, trivial⟩
     rcases Bool.eq_false_or_eq_true y137 with hc148 | hc148
     ·have q143 := iteT hc148 q143
      refine WL.stepGE rfl rfl rfl hc148 (OW.loadK0 Board (.agg #[.int .i64 y3.Buses, u12, u14, u16, .int .i64 y3.Phase, .int .i64 y3.Frequency]) ty29 rfl hb29 rfl rfl) rfl ?_
      refine WL.stepGE rfl rfl rfl hc148 (OW.loadK0 Power (.agg #[u56, u58, u60, u62]) ty34 rfl hb67 rfl rfl) rfl ?_
      refine WL.stepGE rfl rfl rfl hc148 (OW.loadK0 Power (.agg #[u84, u86, u88, u90]) ty34 rfl hb95 rfl rfl) rfl ?_
      obtain ⟨y149, q150, q143⟩ := bindE q143
      refine WL.stepG rfl rfl rfl hc148 (OW.call Try.call32 rfl (sync_Bad_ok q150 (mk29 (x := y3) (h11.rv.sub (K' := [101, 102, 103]) rfl) (h13.rv.sub (K' := [101, 102, 103]) rfl) (h15.rv.sub (K' := [101, 102, 103]) rfl)) (mk34 (x := y47) (h55.rv.sub (K' := [118, 119, 120, 121]) rfl) (h57.rv.sub (K' := [118, 119, 120, 121]) rfl) (h59.rv.sub (K' := [118, 119, 120, 121]) rfl) (h61.rv.sub (K' := [118, 119, 120, 121]) rfl)) (mk34 (x := y75) (h83.rv.sub (K' := [128, 129, 130, 131]) rfl) (h85.rv.sub (K' := [128, 129, 130, 131]) rfl) (h87.rv.sub (K' := [128, 129, 130, 131]) rfl) (h89.rv.sub (K' := [128, 129, 130, 131]) rfl)))) rfl ?_
      rintro _ w151 ⟨o155, hn_, rfl⟩
      obtain ⟨o152, ev153, hA154⟩ := adopt (o := o106) (ks := []) (Ks := [[101, 102, 103], [118, 119, 120, 121], [128, 129, 130, 131]]) 138 ([]) [138] hn_ MbOk.nil rfl rfl rfl rfl
      have hE := hE.evo ev153 rfl rfl
      have h11 := h11.evo ev153 rfl
      have h13 := h13.evo ev153 rfl
      have h15 := h15.evo ev153 rfl
      have h55 := h55.evo ev153 rfl
      have h57 := h57.evo ev153 rfl
      have h59 := h59.evo ev153 rfl
      have h61 := h61.evo ev153 rfl
      have h83 := h83.evo ev153 rfl
      have h85 := h85.evo ev153 rfl
      have h87 := h87.evo ev153 rfl
      have h89 := h89.evo ev153 rfl
      refine WL.stepGE rfl rfl rfl hc148 (OW.pv (v := (.bool (!y149))) rfl) rfl ?_
      refine WL.stepE (OW.pickT rfl hc148 rfl) rfl ?_
      refine WL.p (.bool (!y149)) rfl rfl ?_
      refine WL.nil ?_
      have e156 := Option.some.inj q143
      subst e156
      exact NK.sb (hJ146 w151 o152 hE) ⟨rfl, trivial⟩
     ·have q143 := iteF hc148 q143
      refine WL.skipG rfl rfl rfl (by rw [hc148]; rfl) rfl ?_
      refine WL.skipG rfl rfl rfl (by rw [hc148]; rfl) rfl ?_
      refine WL.skipG rfl rfl rfl (by rw [hc148]; rfl) rfl ?_
      refine WL.skipG rfl rfl rfl (by rw [hc148]; rfl) rfl ?_
      refine WL.skipG rfl rfl rfl (by rw [hc148]; rfl) rfl ?_
      refine WL.stepE (OW.pickF rfl hc148 rfl) rfl ?_
      refine WL.p (.bool false) rfl rfl ?_
      refine WL.nil ?_
      have e157 := Option.some.inj q143
      subst e157
      exact NK.sb (hJ146 w105 o106 hE) ⟨rfl, trivial⟩
    ·have q131 := iteF hc136 q131
     refine WL.skipG rfl rfl rfl (by rw [hc136]; rfl) rfl ?_
     refine WL.skipG rfl rfl rfl (by rw [hc136]; rfl) rfl ?_
     refine WL.skipG rfl rfl rfl (by rw [hc136]; rfl) rfl ?_
     refine WL.skipG rfl rfl rfl (by rw [hc136]; rfl) rfl ?_
     refine WL.stepE (OW.pickF rfl hc136 rfl) rfl ?_
     refine WL.p (.bool false) rfl rfl ?_
     refine WL.skipG rfl rfl rfl rfl rfl ?_
     refine WL.skipG rfl rfl rfl rfl rfl ?_
     refine WL.skipG rfl rfl rfl rfl rfl ?_
     refine WL.skipG rfl rfl rfl rfl rfl ?_
     refine WL.skipG rfl rfl rfl rfl rfl ?_
     refine WL.stepE (OW.pickF rfl rfl rfl) rfl ?_
     refine WL.p (.bool false) rfl rfl ?_
     refine WL.nil ?_
     have e158 := Option.some.inj q131
     subst e158
     exact NK.sb (hJ134 w105 o106 hE) ⟨rfl, trivial⟩
   ·have q124 := iteF hc129 q124
    refine WL.skipG rfl rfl rfl (by rw [hc129]; rfl) rfl ?_
    refine WL.skipG rfl rfl rfl (by rw [hc129]; rfl) rfl ?_
    refine WL.skipG rfl rfl rfl (by rw [hc129]; rfl) rfl ?_
    refine WL.skipG rfl rfl rfl (by rw [hc129]; rfl) rfl ?_
    refine WL.stepE (OW.pickF rfl hc129 rfl) rfl ?_
    refine WL.p (.bool false) rfl rfl ?_
    refine WL.skipG rfl rfl rfl rfl rfl ?_
    refine WL.skipG rfl rfl rfl rfl rfl ?_
    refine WL.skipG rfl rfl rfl rfl rfl ?_
    refine WL.skipG rfl rfl rfl rfl rfl ?_
    refine WL.stepE (OW.pickF rfl rfl rfl) rfl ?_
    refine WL.p (.bool false) rfl rfl ?_
    refine WL.skipG rfl rfl rfl rfl rfl ?_
    refine WL.skipG rfl rfl rfl rfl rfl ?_
    refine WL.skipG rfl rfl rfl rfl rfl ?_
    refine WL.skipG rfl rfl rfl rfl rfl ?_
    refine WL.skipG rfl rfl rfl rfl rfl ?_
    refine WL.stepE (OW.pickF rfl rfl rfl) rfl ?_
    refine WL.p (.bool false) rfl rfl ?_
    refine WL.nil ?_
    have e159 := Option.some.inj q124
    subst e159
    exact NK.sb (hJ127 w105 o106 hE) ⟨rfl, trivial⟩
  ·have q117 := iteF hc122 q117
   refine WL.skipG rfl rfl rfl (by rw [hc122]; rfl) rfl ?_
   refine WL.skipG rfl rfl rfl (by rw [hc122]; rfl) rfl ?_
   refine WL.stepE (OW.pickF rfl hc122 rfl) rfl ?_
   refine WL.p (.bool false) rfl rfl ?_
   refine WL.skipG rfl rfl rfl rfl rfl ?_
   refine WL.skipG rfl rfl rfl rfl rfl ?_
   refine WL.skipG rfl rfl rfl rfl rfl ?_
   refine WL.skipG rfl rfl rfl rfl rfl ?_
   refine WL.stepE (OW.pickF rfl rfl rfl) rfl ?_
   refine WL.p (.bool false) rfl rfl ?_
   refine WL.skipG rfl rfl rfl rfl rfl ?_
   refine WL.skipG rfl rfl rfl rfl rfl ?_
   refine WL.skipG rfl rfl rfl rfl rfl ?_
   refine WL.skipG rfl rfl rfl rfl rfl ?_
   refine WL.stepE (OW.pickF rfl rfl rfl) rfl ?_
   refine WL.p (.bool false) rfl rfl ?_
   refine WL.skipG rfl rfl rfl rfl rfl ?_
   refine WL.skipG rfl rfl rfl rfl rfl ?_
   refine WL.skipG rfl rfl rfl rfl rfl ?_
   refine WL.skipG rfl rfl rfl rfl rfl ?_
   refine WL.skipG rfl rfl rfl rfl rfl ?_
   refine WL.stepE (OW.pickF rfl rfl rfl) rfl ?_
   refine WL.p (.bool false) rfl rfl ?_
   refine WL.nil ?_
   have e160 := Option.some.inj q117
   subst e160
   exact NK.sb (hJ120 w105 o106 hE) ⟨rfl, trivial⟩
 ·have q111 := iteF hc115 q111
  refine WL.skipG rfl rfl rfl (by rw [hc115]; rfl) rfl ?_
  refine WL.skipG rfl rfl rfl (by rw [hc115]; rfl) rfl ?_
  refine WL.stepE (OW.pickF rfl hc115 rfl) rfl ?_
  refine WL.p (.bool false) rfl rfl ?_
  refine WL.skipG rfl rfl rfl rfl rfl ?_
  refine WL.skipG rfl rfl rfl rfl rfl ?_
  refine WL.stepE (OW.pickF rfl rfl rfl) rfl ?_
  refine WL.p (.bool false) rfl rfl ?_
  refine WL.skipG rfl rfl rfl rfl rfl ?_
  refine WL.skipG rfl rfl rfl rfl rfl ?_
  refine WL.skipG rfl rfl rfl rfl rfl ?_
  refine WL.skipG rfl rfl rfl rfl rfl ?_
  refine WL.stepE (OW.pickF rfl rfl rfl) rfl ?_
  refine WL.p (.bool false) rfl rfl ?_
  refine WL.skipG rfl rfl rfl rfl rfl ?_
  refine WL.skipG rfl rfl rfl rfl rfl ?_
  refine WL.skipG rfl rfl rfl rfl rfl ?_
  refine WL.skipG rfl rfl rfl rfl rfl ?_
  refine WL.stepE (OW.pickF rfl rfl rfl) rfl ?_
  refine WL.p (.bool false) rfl rfl ?_
  refine WL.skipG rfl rfl rfl rfl rfl ?_
  refine WL.skipG rfl rfl rfl rfl rfl ?_
  refine WL.skipG rfl rfl rfl rfl rfl ?_
  refine WL.skipG rfl rfl rfl rfl rfl ?_
  refine WL.skipG rfl rfl rfl rfl rfl ?_
  refine WL.stepE (OW.pickF rfl rfl rfl) rfl ?_
  refine WL.p (.bool false) rfl rfl ?_
  refine WL.nil ?_
  have e161 := Option.some.inj q111
  subst e161
  exact NK.sb (hJ114 w105 o106 hE) ⟨rfl, trivial⟩

end Go.Proofs.Ytdfkfohpgakihaa
