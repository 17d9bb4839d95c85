/- Walks. Written by a program (wip/gen). -/
import Derived.Test.YtnpghnnlcakbfaaHw
import Derived.Test.YtnpghnnlcakbfaaWk5
import Derived.Test.YtnpghnnlcakbfaaWk7
import Derived.Test.YtnpghnnlcakbfaaWk9
import Derived.Test.YtnpghnnlcakbfaaWk10
namespace Go.Proofs.Ytnpghnnlcakbfaa
open Go Go.RowKit Dp

set_option maxRecDepth 100000

set_option maxHeartbeats 1000000 in
theorem board_State_ok {a0 : Board} {a1 : Power} {r : Int} (hF : board_State a0 a1 = some r) {w0 : World} {p0 : Value} {S0 : Nat → Prop} (g0 : Rv S0 w0 p0 a0) {p1 : Value} {S1 : Nat → Prop} (g1 : Rv S1 w0 p1 a1) :
    Calls Try.prog 36 #[p0, p1] w0 (Ret fun v w' => ∃ (oc : Cls), En w0 (entM w0 [] [S0, S1]) oc w' ∧ v = .int .i64 r) := by
 obtain ⟨e0, he0⟩ : ∃ e0, e0 = entM w0 [] [S0, S1] := ⟨_, rfl⟩
 have hE := En.refl w0 e0
 have g0 := g0.argM he0 0 (K := [40]) rfl (nosep rfl) rfl
 have g1 := g1.argM he0 1 (K := [40, 41]) rfl (nosep rfl) rfl
 obtain ⟨u1, u2, u3, rfl, h4, h5, h6⟩ := op39 g0
 obtain ⟨u7, u8, u9, u10, rfl, h11, h12, h13, h14⟩ := op45 g1
 rw [board_State] at hF
 refine enter (l := [.agg #[.int .i64 a0.Buses, u1, u2, u3, .int .i64 a0.Phase, .int .i64 a0.Frequency], .agg #[u7, u8, u9, u10]]) Try.func36 rfl Try.ntmps36 rfl ?_
 refine CW.sub (L' := [(0, .agg #[.int .i64 a0.Buses, u1, u2, u3, .int .i64 a0.Phase, .int .i64 a0.Frequency]), (1, .agg #[u7, u8, u9, u10])]) ⟨rfl, rfl, trivial⟩ ?_
 refine CW.sr fun K15 hK15 => ?_
 refine WL.step (OW.boxK (o := e0) 100 [.int .i64 a0.Buses, u1, u2, u3, .int .i64 a0.Phase, .int .i64 a0.Frequency] rfl rfl) rfl ?_
 rintro _ w18 ⟨pa16, o17, rfl, ev19, hb20⟩
 have hE := hE.evo ev19 rfl rfl
 refine WL.step (OW.boxK (o := o17) 101 [u7, u8, u9, u10] rfl rfl) rfl ?_
 rintro _ w23 ⟨pa21, o22, rfl, ev24, hb25⟩
 have hE := hE.evo ev24 rfl rfl
 have hb20 := hb20.evo ev24 rfl
 refine WL.p (.int .i64 0) rfl rfl ?_
 refine WL.nx hK15 ?_
 refine CW.seq fun K26 hK26 => ?_
 refine CW.sr fun K27 hK27 => ?_
 refine WL.stepE (OW.loadK0 Board (.agg #[.int .i64 a0.Buses, u1, u2, u3, .int .i64 a0.Phase, .int .i64 a0.Frequency]) ty39 rfl hb20 rfl rfl) rfl ?_
 obtain ⟨y28, q29, hF⟩ := bindE hF
 refine WL.step (OW.call Try.call32 rfl (board_Check_ok q29 (mk39 (x := a0) (h4.baseM hE rfl) (h5.baseM hE rfl) (h6.baseM hE rfl)))) rfl ?_
 rintro _ w30 ⟨o34, hn_, rfl⟩
 obtain ⟨o31, ev32, hA33⟩ := adopt (o := o22) (ks := []) (Ks := [[40]]) 102 ([]) [102] hn_ MbOk.nil rfl rfl rfl rfl
 have hE := hE.evo ev32 rfl rfl
 have hb20 := hb20.evo ev32 rfl
 have hb25 := hb25.evo ev32 rfl
 refine WL.p (.int .i64 y28) rfl rfl ?_
 refine WL.nx hK27 ?_
 refine CW.sr fun K35 hK35 => ?_
 refine WL.p (.int .i64 y28) rfl rfl ?_
 refine WL.p (.bool (((y28 != 0)))) rfl rfl ?_
 refine WL.nx hK35 ?_
 refine CW.cond (b := ((y28 != 0))) rfl (fun hc36 => ?_) (fun hc36 => ?_)
 ·have hF := iteT hc36 hF
  refine CW.sr fun K37 hK37 => ?_
  refine WL.p (.int .i64 y28) rfl rfl ?_
  refine WL.p (.int .i64 y28) rfl rfl ?_
  refine WL.nx hK37 ?_
  obtain rfl := Option.some.inj hF
  exact CW.rets (vs := [.int .i64 y28]) Try.results36 ⟨rfl, trivial⟩ ⟨_, rfl, _, (hE.rn he0 100 [] rfl rfl), rfl⟩ (fun _ _ h => h)
 ·have hF := iteF hc36 hF
  refine CW.skip ?_
  refine hK26 _ _ ?_
  refine CW.seq fun K38 hK38 => ?_
  refine CW.sr fun K39 hK39 => ?_
  refine WL.stepE (OW.fldAddr (FldOk.at f45_0) rfl) rfl ?_
  refine WL.stepE (OW.loadK (off := 0) (List Bool) (u7) ty41 rfl hb25 rfl rfl) rfl ?_
  refine WL.stepE (OW.len Try.underlying41 rfl (h11.baseM hE rfl)) rfl ?_
  refine WL.stepE (OW.fldAddr (FldOk.at f39_1) rfl) rfl ?_
  refine WL.stepE (OW.loadK (off := 1) (List Breaker) (u1) ty35 rfl hb20 rfl rfl) rfl ?_
  refine WL.stepE (OW.len Try.underlying35 rfl (h4.baseM hE rfl)) rfl ?_
  refine WL.p (.bool ((((len a1.Closed) != (len a0.Breakers))))) rfl rfl ?_
  refine WL.p (.bool ((((len a1.Closed) != (len a0.Breakers))))) rfl rfl ?_
  obtain ⟨x40, q41, hF⟩ := bindE hF
  have hJ44 : ∀ (w42 : World) (o43 : Cls), En w0 e0 o43 w42 → Bk o43 100 w42 pa16 [.int .i64 a0.Buses, u1, u2, u3, .int .i64 a0.Phase, .int .i64 a0.Frequency] → Bk o43 101 w42 pa21 [u7, u8, u9, u10] → NK 78 K39 [(2, .pointer (some pa16)), (3, .pointer (some pa21)), (38, .bool x40)] w42 := by
   intro w42 o43  hE hb20 hb25
   refine hK39 _ _ ?_
   refine CW.cond (b := x40) rfl (fun hc45 => ?_) (fun hc45 => ?_)
   ·have hF := iteT hc45 hF
    refine CW.sr fun K46 hK46 => ?_
    refine WL.p (.int .i64 8) rfl rfl ?_
    refine WL.nx hK46 ?_
    obtain rfl := Option.some.inj hF
    exact CW.rets (vs := [.int .i64 8]) Try.results36 ⟨rfl, trivial⟩ ⟨_, rfl, _, (hE.rn he0 100 [] rfl rfl), rfl⟩ (fun _ _ h => h)
   ·have hF := iteF hc45 hF
    refine CW.skip ?_
    refine hK38 _ _ ?_
    refine CW.sr fun K47 hK47 => ?_
    refine WL.stepE (OW.loadK0 Board (.agg #[.int .i64 a0.Buses, u1, u2, u3, .int .i64 a0.Phase, .int .i64 a0.Frequency]) ty39 rfl hb20 rfl rfl) rfl ?_
    refine WL.stepE (OW.fldAddr (FldOk.at f45_3) rfl) rfl ?_
    refine WL.stepE (OW.loadK (off := 3) (List Part) (u10) ty43 rfl hb25 rfl rfl) rfl ?_
    obtain ⟨y48, q49, hF⟩ := bindE hF
    refine WL.step (OW.call Try.call67 rfl (board_broken_ok q49 (mk39 (x := a0) (h4.baseM hE rfl) (h5.baseM hE rfl) (h6.baseM hE rfl)) (h14.baseM hE rfl))) rfl ?_
    rintro _ w50 ⟨o54, hn_, rfl⟩
    obtain ⟨o51, ev52, hA53⟩ := adopt (o := o43) (ks := []) (Ks := [[40], [40, 41]]) 103 ([]) [103] hn_ MbOk.nil rfl rfl rfl rfl
    have hE := hE.evo ev52 rfl rfl
    have hb20 := hb20.evo ev52 rfl
    have hb25 := hb25.evo ev52 rfl
    refine WL.p (.bool y48) rfl rfl ?_
    obtain ⟨x55, q56, hF⟩ := bindE hF
    have hJ59 : ∀ (w57 : World) (o58 : Cls), En w0 e0 o58 w57 → Bk o58 100 w57 pa16 [.int .i64 a0.Buses, u1, u2, u3, .int .i64 a0.Phase, .int .i64 a0.Frequency] → Bk o58 101 w57 pa21 [u7, u8, u9, u10] → NK 78 K47 [(2, .pointer (some pa16)), (3, .pointer (some pa21)), (6, .bool x55)] w57 := by
     intro w57 o58  hE hb20 hb25
     refine hK47 _ _ ?_
     refine CW.seq fun K60 hK60 => ?_
     refine CW.sr fun K61 hK61 => ?_
     refine WL.stepE (OW.fldAddr (FldOk.at f45_2) rfl) rfl ?_
     refine WL.stepE (OW.loadK (off := 2) (List Int) (u9) ty22 rfl hb25 rfl rfl) rfl ?_
     refine WL.stepE (OW.len Try.underlying22 rfl (h13.baseM hE rfl)) rfl ?_
     refine WL.p (.int .i64 0) rfl rfl ?_
     refine WL.nx hK61 ?_
     refine CW.block ?_
     obtain ⟨r66, hl65, hF⟩ := bindE hF
     have hJ69 : ∀ (x64 : Bool) (w67 : World) (o68 : Cls), x64 = r66 → En w0 e0 o68 w67 → NK 78 K60 [(6, .bool x64)] w67 := by
      intro x64 w67 o68  e_ hE
      subst e_
      try dsimp only at hF
      refine hK60 _ _ ?_
      refine CW.seq fun K70 hK70 => ?_
      refine CW.sr fun K71 hK71 => ?_
      refine WL.p (.bool x64) rfl rfl ?_
      refine WL.p (.bool (!x64)) rfl rfl ?_
      refine WL.nx hK71 ?_
      refine CW.cond (b := (!x64)) rfl (fun hc72 => ?_) (fun hc72 => ?_)
      ·have hF := iteT hc72 hF
       refine CW.sr fun K73 hK73 => ?_
       refine WL.p (.int .i64 11) rfl rfl ?_
       refine WL.nx hK73 ?_
       obtain rfl := Option.some.inj hF
       exact CW.rets (vs := [.int .i64 11]) Try.results36 ⟨rfl, trivial⟩ ⟨_, rfl, _, (hE.rn he0 100 [] rfl rfl), rfl⟩ (fun _ _ h => h)
      ·have hF := iteF hc72 hF
       refine CW.skip ?_
       refine hK70 _ _ ?_
       refine CW.sr fun K74 hK74 => ?_
       refine WL.p (.int .i64 0) rfl rfl ?_
       refine WL.nx hK74 ?_
       obtain rfl := Option.some.inj hF
       exact CW.rets (vs := [.int .i64 0]) Try.results36 ⟨rfl, trivial⟩ ⟨_, rfl, _, (hE.rn he0 100 [] rfl rfl), rfl⟩ (fun _ _ h => h)
     refine CW.sub (L' := [(2, .pointer (some pa16)), (3, .pointer (some pa21)), (6, .bool x55), (50, u9), (51, .int .i64 (len a1.Limits)), (52, .int .i64 0)]) ⟨rfl, rfl, rfl, rfl, rfl, rfl, trivial⟩ ?_
     refine CW.loop (board_State_L1 a0 a1) (fun s_ L_ w75 => ∃ (o76 : Cls) (x62 : Bool) (x63 : Int), (x62, x63) = s_ ∧ L_ = [(2, .pointer (some pa16)), (3, .pointer (some pa21)), (6, .bool x62), (50, u9), (51, .int .i64 (len a1.Limits)), (52, .int .i64 x63)] ∧ En w0 e0 o76 w75 ∧ Bk o76 100 w75 pa16 [.int .i64 a0.Buses, u1, u2, u3, .int .i64 a0.Phase, .int .i64 a0.Frequency] ∧ Bk o76 101 w75 pa21 [u7, u8, u9, u10]) hl65 ?_ ?_
     ·exact ⟨o58, x55, 0, rfl, rfl, hE, hb20, hb25⟩
     intro K77 s_ L_ w75 hi_ x78 hx79 hr80 hk81
     obtain ⟨o76, x62, x63, rfl, rfl, hE, hb20, hb25⟩ := hi_
     rw [board_State_L1] at hx79
     refine CW.sr fun K82 hK82 => ?_
     refine WL.p (.bool ((decide (x63 < (len a1.Limits))))) rfl rfl ?_
     refine WL.nx hK82 ?_
     refine CW.seq fun K83 hK83 => ?_
     refine CW.cond (b := (decide (x63 < (len a1.Limits)))) rfl (fun hc84 => ?_) (fun hc84 => ?_)
     ·have hx79 := iteT hc84 hx79
      refine CW.skip ?_
      refine hK83 _ _ ?_
      refine CW.seq fun K85 hK85 => ?_
      refine CW.block ?_
      refine CW.sr fun K86 hK86 => ?_
      refine WL.p (.int .i64 x63) rfl rfl ?_
      obtain ⟨y87, q91, hx79⟩ := bindE hx79
      refine WL.stepP (OW.indexAddr Try.underlying22 ty3 rfl (h13.baseM hE rfl) rfl q91) rfl fun _ ⟨pa88, hv_, hp89, he90⟩ => ?_
      subst hv_
      refine WL.stepE (OW.loadI ty3 rfl hp89) rfl ?_
      refine WL.p (.int .i64 x63) rfl rfl ?_
      refine WL.p (.int .i64 y87) rfl rfl ?_
      refine WL.nx hK86 ?_
      refine CW.region ?_
      refine WL.p (.bool x62) rfl rfl ?_
      refine WL.p (.bool x62) rfl rfl ?_
      obtain ⟨x92, q93, hx79⟩ := bindE hx79
      have hJ96 : ∀ (w94 : World) (o95 : Cls), En w0 e0 o95 w94 → Bk o95 100 w94 pa16 [.int .i64 a0.Buses, u1, u2, u3, .int .i64 a0.Phase, .int .i64 a0.Frequency] → Bk o95 101 w94 pa21 [u7, u8, u9, u10] → NK 78 K85 [(2, .pointer (some pa16)), (3, .pointer (some pa21)), (6, .bool x92), (50, u9), (51, .int .i64 (len a1.Limits)), (52, .int .i64 x63)] w94 := by
       intro w94 o95  hE hb20 hb25
       refine hK85 _ _ ?_
       refine CW.region ?_
       refine WL.p (.int .i64 ((W (x63 + 1)))) rfl rfl ?_
       refine WL.p (.int .i64 ((W (x63 + 1)))) rfl rfl ?_
       refine WL.nil ?_
       exact NK.sb (hk81 _ _ _ (Option.some.inj hx79).symm ⟨o95, x92, (W (x63 + 1)), rfl, rfl, hE, hb20, hb25⟩) ⟨rfl, rfl, rfl, rfl, rfl, rfl, trivial⟩
      rcases Bool.eq_false_or_eq_true x62 with hc97 | hc97
      ·have q93 := iteT hc97 q93
       refine WL.stepGE rfl rfl rfl hc97 (OW.pv (v := (.int .i64 y87)) rfl) rfl ?_
       refine WL.stepGE rfl rfl rfl hc97 (OW.fldAddr (FldOk.at f39_3) rfl) rfl ?_
       refine WL.stepGE rfl rfl rfl hc97 (OW.loadK (off := 3) (List Consumer) (u3) ty37 rfl hb20 rfl rfl) rfl ?_
       refine WL.stepGE rfl rfl rfl hc97 (OW.pv (v := (.int .i64 x63)) rfl) rfl ?_
       obtain ⟨y98, q102, q93⟩ := bindE q93
       refine WL.stepGP rfl rfl rfl hc97 (OW.indexAddr Try.underlying37 ty85 rfl (h6.baseM hE rfl) rfl q102) rfl fun _ ⟨pa99, hv_, hp100, he101⟩ => ?_
       subst hv_
       refine WL.stepGE rfl rfl rfl hc97 (OW.fldAddr (FldOk.at f85_0) rfl) rfl ?_
       refine WL.stepGE rfl rfl rfl hc97 (OW.loadI ty3 rfl (hp100.fld f85_0)) rfl ?_
       obtain ⟨y103, q104, q93⟩ := bindE q93
       refine WL.stepG rfl rfl rfl hc97 (OW.call Try.call59 rfl (board_in_ok q104)) rfl ?_
       rintro _ w105 ⟨o109, hn_, rfl⟩
       obtain ⟨o106, ev107, hA108⟩ := adopt (o := o76) (ks := []) (Ks := []) 105 ([]) [105] hn_ MbOk.nil rfl rfl rfl rfl
       have hE := hE.evo ev107 rfl rfl
       have hp100 := hp100.evo ev107 rfl
       have hb20 := hb20.evo ev107 rfl
       have hb25 := hb25.evo ev107 rfl
       refine WL.stepE (OW.pickT rfl hc97 rfl) rfl ?_
       refine WL.p (.bool y103) rfl rfl ?_
       obtain ⟨x110, q111, q93⟩ := bindE q93
       have hJ114 : ∀ (w112 : World) (o113 : Cls), En w0 e0 o113 w112 → EPtr u3 5 x63 pa99 → PtrAt (In o113 [40]) w112 pa99 y98 → Bk o113 100 w112 pa16 [.int .i64 a0.Buses, u1, u2, u3, .int .i64 a0.Phase, .int .i64 a0.Frequency] → Bk o113 101 w112 pa21 [u7, u8, u9, u10] → NK 78 K85 [(2, .pointer (some pa16)), (3, .pointer (some pa21)), (6, .bool x110), (50, u9), (51, .int .i64 (len a1.Limits)), (52, .int .i64 x63), (59, .int .i64 y87), (60, .pointer (some (pa16.add 3))), (61, u3), (62, .int .i64 x63), (63, .pointer (some pa99)), (64, .pointer (some (pa99.add 0))), (65, .int .i64 y98.Load), (66, .bool y103)] w112 := by
        intro w112 o113  hE he101 hp100 hb20 hb25
        have e115 := Option.some.inj q93
        subst e115
        exact NK.sb (hJ96 w112 o113 hE hb20 hb25) ⟨rfl, rfl, rfl, rfl, rfl, rfl, trivial⟩
       rcases Bool.eq_false_or_eq_true y103 with hc116 | hc116
       ·have q111 := iteT hc116 q111
        refine WL.stepGE rfl rfl rfl hc116 (OW.loadK0 Board (.agg #[.int .i64 a0.Buses, u1, u2, u3, .int .i64 a0.Phase, .int .i64 a0.Frequency]) ty39 rfl hb20 rfl rfl) rfl ?_
        refine WL.stepGE rfl rfl rfl hc116 (OW.loadK0 Power (.agg #[u7, u8, u9, u10]) ty45 rfl hb25 rfl rfl) rfl ?_
        refine WL.stepGE rfl rfl rfl hc116 (OW.pv (v := (.int .i64 x63)) rfl) rfl ?_
        obtain ⟨y117, q118, q111⟩ := bindE q111
        refine WL.stepG rfl rfl rfl hc116 (OW.call Try.call71 rfl (board_closed_ok q118 (mk39 (x := a0) (h4.baseM hE rfl) (h5.baseM hE rfl) (h6.baseM hE rfl)) (mk45 (x := a1) (h11.baseM hE rfl) (h12.baseM hE rfl) (h13.baseM hE rfl) (h14.baseM hE rfl)))) rfl ?_
        rintro _ w119 ⟨o123, hn_, rfl⟩
        obtain ⟨o120, ev121, hA122⟩ := adopt (o := o106) (ks := []) (Ks := [[40], [40, 41]]) 106 ([]) [106] hn_ MbOk.nil rfl rfl rfl rfl
        have hE := hE.evo ev121 rfl rfl
        have hp100 := hp100.evo ev121 rfl
        have hb20 := hb20.evo ev121 rfl
        have hb25 := hb25.evo ev121 rfl
        refine WL.stepGE rfl rfl rfl hc116 (OW.pv (v := (.bool ((decide (y117 ≤ 1))))) rfl) rfl ?_
        refine WL.stepE (OW.pickT rfl hc116 rfl) rfl ?_
        refine WL.p (.bool ((decide (y117 ≤ 1)))) rfl rfl ?_
        refine WL.nil ?_
        have e124 := Option.some.inj q111
        subst e124
        exact NK.sb (hJ114 w119 o120 hE he101 hp100 hb20 hb25) ⟨rfl, rfl, rfl, rfl, rfl, rfl, rfl, rfl, rfl, rfl, rfl, rfl, rfl, rfl, trivial⟩
       ·have q111 := iteF hc116 q111
        refine WL.skipG rfl rfl rfl (by rw [hc116]; rfl) rfl ?_
        refine WL.skipG rfl rfl rfl (by rw [hc116]; rfl) rfl ?_
        refine WL.skipG rfl rfl rfl (by rw [hc116]; rfl) rfl ?_
        refine WL.skipG rfl rfl rfl (by rw [hc116]; rfl) rfl ?_
        refine WL.skipG rfl rfl rfl (by rw [hc116]; rfl) rfl ?_
        refine WL.stepE (OW.pickF rfl hc116 rfl) rfl ?_
        refine WL.p (.bool false) rfl rfl ?_
        refine WL.nil ?_
        have e125 := Option.some.inj q111
        subst e125
        exact NK.sb (hJ114 w105 o106 hE he101 hp100 hb20 hb25) ⟨rfl, rfl, rfl, rfl, rfl, rfl, rfl, rfl, rfl, rfl, rfl, rfl, rfl, rfl, trivial⟩
      ·have q93 := iteF hc97 q93
       refine WL.skipG rfl rfl rfl (by rw [hc97]; rfl) rfl ?_
       refine WL.skipG rfl rfl rfl (by rw [hc97]; rfl) rfl ?_
       refine WL.skipG rfl rfl rfl (by rw [hc97]; rfl) rfl ?_
       refine WL.skipG rfl rfl rfl (by rw [hc97]; rfl) rfl ?_
       refine WL.skipG rfl rfl rfl (by rw [hc97]; rfl) rfl ?_
       refine WL.skipG rfl rfl rfl (by rw [hc97]; rfl) rfl ?_
       refine WL.skipG rfl rfl rfl (by rw [hc97]; rfl) rfl ?_
       refine WL.skipG rfl rfl rfl (by rw [hc97]; rfl) rfl ?_
       refine WL.stepE (OW.pickF rfl hc97 rfl) rfl ?_
       refine WL.p (.bool false) rfl rfl ?_
       refine WL.skipG rfl rfl rfl rfl rfl ?_
       refine WL.skipG rfl rfl rfl rfl rfl ?_
       refine WL.skipG rfl rfl rfl rfl rfl ?_
       refine WL.skipG rfl rfl rfl rfl rfl ?_
       refine WL.skipG rfl rfl rfl rfl rfl ?_
       refine WL.stepE (OW.pickF rfl rfl rfl) rfl ?_
       refine WL.p (.bool false) rfl rfl ?_
       refine WL.nil ?_
       have e126 := Option.some.inj q93
       subst e126
       exact NK.sb (hJ96 w75 o76 hE hb20 hb25) ⟨rfl, rfl, rfl, rfl, rfl, rfl, trivial⟩
     ·have hx79 := iteF hc84 hx79
      refine CW.exit ?_
      exact NK.sb (hJ69 x62 w75 o76 (hr80 _ (Option.some.inj hx79).symm) hE) ⟨rfl, trivial⟩
    rcases Bool.eq_false_or_eq_true y48 with hc127 | hc127
    ·have q56 := iteT hc127 q56
     refine WL.stepGE rfl rfl rfl hc127 (OW.fldAddr (FldOk.at f45_1) rfl) rfl ?_
     refine WL.stepGE rfl rfl rfl hc127 (OW.loadK (off := 1) (List Running) (u8) ty42 rfl hb25 rfl rfl) rfl ?_
     have hf128 : Fn1 Try.prog 69 #[] (fun w_ => Bts [] w50 w_) (fun z0_ => board_State_1 z0_) := ⟨Try.call69, fun w_ hw_ x0_ r_ hr_ v0_ S0_ hx0_ => by
      refine Calls.mono (board_State_1_ok hr_ hx0_) ?_
      rintro _ w_ ⟨_, rfl, oc_, hn_, rfl⟩
      exact ⟨_, rfl, hn_.below rfl, rv_bool.2 rfl⟩⟩
     obtain ⟨y129, q130, q56⟩ := bindE q56
     refine WL.stepG rfl rfl rfl hc127 (OW.call Try.call68 rfl (slices_ContainsFunc_Running_Running_ok q130 (h12.baseM hE rfl) hf128)) rfl ?_
     rintro _ w131 ⟨o135, hn_, rfl⟩
     obtain ⟨o132, ev133, hA134⟩ := adopt (o := o51) (ks := []) (Ks := [[40, 41]]) 104 ([]) [104] hn_ MbOk.nil rfl rfl rfl rfl
     have hE := hE.evo ev133 rfl rfl
     have hb20 := hb20.evo ev133 rfl
     have hb25 := hb25.evo ev133 rfl
     refine WL.stepGE rfl rfl rfl hc127 (OW.pv (v := (.bool (!y129))) rfl) rfl ?_
     refine WL.stepE (OW.pickT rfl hc127 rfl) rfl ?_
     refine WL.p (.bool (!y129)) rfl rfl ?_
     refine WL.nil ?_
     have e136 := Option.some.inj q56
     subst e136
     exact NK.sb (hJ59 w131 o132 hE hb20 hb25) ⟨rfl, rfl, rfl, trivial⟩
    ·have q56 := iteF hc127 q56
     refine WL.skipG rfl rfl rfl (by rw [hc127]; rfl) rfl ?_
     refine WL.skipG rfl rfl rfl (by rw [hc127]; rfl) rfl ?_
     refine WL.skipG rfl rfl rfl (by rw [hc127]; rfl) rfl ?_
     refine WL.skipG rfl rfl rfl (by rw [hc127]; rfl) rfl ?_
     refine WL.stepE (OW.pickF rfl hc127 rfl) rfl ?_
     refine WL.p (.bool false) rfl rfl ?_
     refine WL.nil ?_
     have e137 := Option.some.inj q56
     subst e137
     exact NK.sb (hJ59 w50 o51 hE hb20 hb25) ⟨rfl, rfl, rfl, trivial⟩
  rcases Bool.eq_false_or_eq_true ((((len a1.Closed) != (len a0.Breakers)))) with hc138 | hc138
  ·have q41 := iteT hc138 q41
   refine WL.skipG rfl rfl rfl (by rw [hc138]; rfl) rfl ?_
   refine WL.skipG rfl rfl rfl (by rw [hc138]; rfl) rfl ?_
   refine WL.skipG rfl rfl rfl (by rw [hc138]; rfl) rfl ?_
   refine WL.skipG rfl rfl rfl (by rw [hc138]; rfl) rfl ?_
   refine WL.skipG rfl rfl rfl (by rw [hc138]; rfl) rfl ?_
   refine WL.skipG rfl rfl rfl (by rw [hc138]; rfl) rfl ?_
   refine WL.skipG rfl rfl rfl (by rw [hc138]; rfl) rfl ?_
   refine WL.stepE (OW.pickT rfl hc138 rfl) rfl ?_
   refine WL.p (.bool true) rfl rfl ?_
   refine WL.skipG rfl rfl rfl rfl rfl ?_
   refine WL.skipG rfl rfl rfl rfl rfl ?_
   refine WL.skipG rfl rfl rfl rfl rfl ?_
   refine WL.skipG rfl rfl rfl rfl rfl ?_
   refine WL.skipG rfl rfl rfl rfl rfl ?_
   refine WL.skipG rfl rfl rfl rfl rfl ?_
   refine WL.skipG rfl rfl rfl rfl rfl ?_
   refine WL.stepE (OW.pickT rfl rfl rfl) rfl ?_
   refine WL.nil ?_
   have e139 := Option.some.inj q41
   subst e139
   exact NK.sb (hJ44 w30 o31 hE hb20 hb25) ⟨rfl, rfl, rfl, trivial⟩
  ·have q41 := iteF hc138 q41
   refine WL.stepGE rfl rfl rfl hc138 (OW.fldAddr (FldOk.at f45_1) rfl) rfl ?_
   refine WL.stepGE rfl rfl rfl hc138 (OW.loadK (off := 1) (List Running) (u8) ty42 rfl hb25 rfl rfl) rfl ?_
   refine WL.stepGE rfl rfl rfl hc138 (OW.len Try.underlying42 rfl (h12.baseM hE rfl)) rfl ?_
   refine WL.stepGE rfl rfl rfl hc138 (OW.fldAddr (FldOk.at f39_2) rfl) rfl ?_
   refine WL.stepGE rfl rfl rfl hc138 (OW.loadK (off := 2) (List Source) (u2) ty36 rfl hb20 rfl rfl) rfl ?_
   refine WL.stepGE rfl rfl rfl hc138 (OW.len Try.underlying36 rfl (h5.baseM hE rfl)) rfl ?_
   refine WL.stepGE rfl rfl rfl hc138 (OW.pv (v := (.bool ((((len a1.Sources) != (len a0.Sources)))))) rfl) rfl ?_
   refine WL.stepE (OW.pickF rfl hc138 rfl) rfl ?_
   refine WL.p (.bool ((((len a1.Sources) != (len a0.Sources))))) rfl rfl ?_
   obtain ⟨x140, q141, q41⟩ := bindE q41
   have hJ144 : ∀ (w142 : World) (o143 : Cls), En w0 e0 o143 w142 → Bk o143 100 w142 pa16 [.int .i64 a0.Buses, u1, u2, u3, .int .i64 a0.Phase, .int .i64 a0.Frequency] → Bk o143 101 w142 pa21 [u7, u8, u9, u10] → NK 78 K39 [(2, .pointer (some pa16)), (3, .pointer (some pa21)), (38, .bool x140)] w142 := by
    intro w142 o143  hE hb20 hb25
    have e145 := Option.some.inj q41
    subst e145
    exact NK.sb (hJ44 w142 o143 hE hb20 hb25) ⟨rfl, rfl, rfl, trivial⟩
   rcases Bool.eq_false_or_eq_true ((((len a1.Sources) != (len a0.Sources)))) with hc146 | hc146
   ·have q141 := iteT hc146 q141
    refine WL.skipG rfl rfl rfl (by rw [hc146]; rfl) rfl ?_
    refine WL.skipG rfl rfl rfl (by rw [hc146]; rfl) rfl ?_
    refine WL.skipG rfl rfl rfl (by rw [hc146]; rfl) rfl ?_
    refine WL.skipG rfl rfl rfl (by rw [hc146]; rfl) rfl ?_
    refine WL.skipG rfl rfl rfl (by rw [hc146]; rfl) rfl ?_
    refine WL.skipG rfl rfl rfl (by rw [hc146]; rfl) rfl ?_
    refine WL.skipG rfl rfl rfl (by rw [hc146]; rfl) rfl ?_
    refine WL.stepE (OW.pickT rfl hc146 rfl) rfl ?_
    refine WL.nil ?_
    have e147 := Option.some.inj q141
    subst e147
    exact NK.sb (hJ144 w30 o31 hE hb20 hb25) ⟨rfl, rfl, rfl, trivial⟩
   ·have q141 := iteF hc146 q141
    refine WL.stepGE rfl rfl rfl hc146 (OW.fldAddr (FldOk.at f45_2) rfl) rfl ?_
    refine WL.stepGE rfl rfl rfl hc146 (OW.loadK (off := 2) (List Int) (u9) ty22 rfl hb25 rfl rfl) rfl ?_
    refine WL.stepGE rfl rfl rfl hc146 (OW.len Try.underlying22 rfl (h13.baseM hE rfl)) rfl ?_
    refine WL.stepGE rfl rfl rfl hc146 (OW.fldAddr (FldOk.at f39_3) rfl) rfl ?_
    refine WL.stepGE rfl rfl rfl hc146 (OW.loadK (off := 3) (List Consumer) (u3) ty37 rfl hb20 rfl rfl) rfl ?_
    refine WL.stepGE rfl rfl rfl hc146 (OW.len Try.underlying37 rfl (h6.baseM hE rfl)) rfl ?_
    refine WL.stepGE rfl rfl rfl hc146 (OW.pv (v := (.bool ((((len a1.Limits) != (len a0.Consumers)))))) rfl) rfl ?_
    refine WL.stepE (OW.pickF rfl hc146 rfl) rfl ?_
    refine WL.nil ?_
    have e148 := Option.some.inj q141
    subst e148
    exact NK.sb (hJ144 w30 o31 hE hb20 hb25) ⟨rfl, rfl, rfl, trivial⟩

end Go.Proofs.Ytnpghnnlcakbfaa
