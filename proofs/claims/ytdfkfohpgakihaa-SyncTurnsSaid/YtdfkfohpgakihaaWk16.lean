/- Walks. Written by a program (wip/gen). -/
import Derived.Test.YtdfkfohpgakihaaHw
import Derived.Test.YtdfkfohpgakihaaWk6
import Derived.Test.YtdfkfohpgakihaaWk13
import Derived.Test.YtdfkfohpgakihaaWk15
set_option linter.unusedVariables false
set_option linter.unusedSimpArgs false
namespace Go.Proofs.Ytdfkfohpgakihaa
open Go Go.RowKit Dp

set_option maxRecDepth 100000

set_option maxHeartbeats 1000000 in
theorem sync_Bad_ok {a0 : Board} {a1 : Power} {a2 : Power} {r : Bool} (hF : sync_Bad a0 a1 a2 = some r) {w0 : World} {p0 : Value} {S0 : Nat → Prop} (g0 : Rv S0 w0 p0 a0) {p1 : Value} {S1 : Nat → Prop} (g1 : Rv S1 w0 p1 a1) {p2 : Value} {S2 : Nat → Prop} (g2 : Rv S2 w0 p2 a2) :
    Calls Try.prog 32 #[p0, p1, p2] w0 (Ret fun v w' => ∃ (oc : Cls), En w0 (entM w0 [] [S0, S1, S2]) oc w' ∧ v = .bool r) := by
 obtain ⟨e0, he0⟩ : ∃ e0, e0 = entM w0 [] [S0, S1, S2] := ⟨_, rfl⟩
 have hE := En.refl w0 e0
 have g0 := g0.argM he0 0 (K := [40]) rfl (nosep rfl) rfl
 have g1 := g1.argM he0 1 (K := [40, 41]) rfl (nosep rfl) rfl
 have g2 := g2.argM he0 2 (K := [40, 41, 42]) rfl (nosep rfl) rfl
 obtain ⟨u1, u2, u3, rfl, h4, h5, h6⟩ := op29 g0
 obtain ⟨u7, u8, u9, u10, rfl, h11, h12, h13, h14⟩ := op34 g1
 obtain ⟨u15, u16, u17, u18, rfl, h19, h20, h21, h22⟩ := op34 g2
 rw [sync_Bad] at hF
 refine enter (l := [.agg #[.int .i64 a0.Buses, u1, u2, u3, .int .i64 a0.Phase, .int .i64 a0.Frequency], .agg #[u7, u8, u9, u10], .agg #[u15, u16, u17, u18]]) Try.func32 rfl Try.ntmps32 rfl ?_
 refine CW.sub (L' := [(0, .agg #[.int .i64 a0.Buses, u1, u2, u3, .int .i64 a0.Phase, .int .i64 a0.Frequency]), (1, .agg #[u7, u8, u9, u10]), (2, .agg #[u15, u16, u17, u18])]) ⟨rfl, rfl, rfl, trivial⟩ ?_
 refine CW.sr fun K23 hK23 => ?_
 refine WL.step (OW.boxK (o := e0) 100 [.int .i64 a0.Buses, u1, u2, u3, .int .i64 a0.Phase, .int .i64 a0.Frequency] rfl rfl) rfl ?_
 rintro _ w26 ⟨pa24, o25, rfl, ev27, hb28⟩
 have hE := hE.evo ev27 rfl rfl
 refine WL.step (OW.boxK (o := o25) 101 [u7, u8, u9, u10] rfl rfl) rfl ?_
 rintro _ w31 ⟨pa29, o30, rfl, ev32, hb33⟩
 have hE := hE.evo ev32 rfl rfl
 have hb28 := hb28.evo ev32 rfl
 refine WL.step (OW.boxK (o := o30) 102 [u15, u16, u17, u18] rfl rfl) rfl ?_
 rintro _ w36 ⟨pa34, o35, rfl, ev37, hb38⟩
 have hE := hE.evo ev37 rfl rfl
 have hb28 := hb28.evo ev37 rfl
 have hb33 := hb33.evo ev37 rfl
 refine WL.p (.bool false) rfl rfl ?_
 refine WL.nx hK23 ?_
 refine CW.seq fun K39 hK39 => ?_
 refine CW.sr fun K40 hK40 => ?_
 refine WL.stepE (OW.loadK0 Board (.agg #[.int .i64 a0.Buses, u1, u2, u3, .int .i64 a0.Phase, .int .i64 a0.Frequency]) ty29 rfl hb28 rfl rfl) rfl ?_
 refine WL.stepE (OW.loadK0 Power (.agg #[u7, u8, u9, u10]) ty34 rfl hb33 rfl rfl) rfl ?_
 obtain ⟨y41, q42, hF⟩ := bindE hF
 refine WL.step (OW.call Try.call34 rfl (board_State_ok q42 (mk29 (x := a0) (h4.baseM hE rfl) (h5.baseM hE rfl) (h6.baseM hE rfl)) (mk34 (x := a1) (h11.baseM hE rfl) (h12.baseM hE rfl) (h13.baseM hE rfl) (h14.baseM hE rfl)))) rfl ?_
 rintro _ w43 ⟨o47, hn_, rfl⟩
 obtain ⟨o44, ev45, hA46⟩ := adopt (o := o35) (ks := []) (Ks := [[40], [40, 41]]) 103 ([]) [103] hn_ MbOk.nil rfl rfl rfl rfl
 have hE := hE.evo ev45 rfl rfl
 have hb28 := hb28.evo ev45 rfl
 have hb33 := hb33.evo ev45 rfl
 have hb38 := hb38.evo ev45 rfl
 refine WL.p (.bool (((y41 != 0)))) rfl rfl ?_
 refine WL.p (.bool (((y41 != 0)))) rfl rfl ?_
 obtain ⟨x48, q49, hF⟩ := bindE hF
 have hJ52 : ∀ (w50 : World) (o51 : Cls), En w0 e0 o51 w50 → Bk o51 100 w50 pa24 [.int .i64 a0.Buses, u1, u2, u3, .int .i64 a0.Phase, .int .i64 a0.Frequency] → Bk o51 101 w50 pa29 [u7, u8, u9, u10] → Bk o51 102 w50 pa34 [u15, u16, u17, u18] → NK 59 K40 [(3, .pointer (some pa24)), (4, .pointer (some pa29)), (5, .pointer (some pa34)), (18, .bool x48)] w50 := by
  intro w50 o51  hE hb28 hb33 hb38
  refine hK40 _ _ ?_
  refine CW.cond (b := x48) rfl (fun hc53 => ?_) (fun hc53 => ?_)
  ·have hF := iteT hc53 hF
   refine CW.sr fun K54 hK54 => ?_
   refine WL.p (.bool false) rfl rfl ?_
   refine WL.nx hK54 ?_
   obtain rfl := Option.some.inj hF
   exact CW.rets (vs := [.bool false]) Try.results32 ⟨rfl, trivial⟩ ⟨_, rfl, _, (hE.rn he0 100 [] rfl rfl), rfl⟩ (fun _ _ h => h)
  ·have hF := iteF hc53 hF
   refine CW.skip ?_
   refine hK39 _ _ ?_
   refine CW.seq fun K55 hK55 => ?_
   refine CW.sr fun K56 hK56 => ?_
   refine WL.stepE (OW.fldAddr (FldOk.at f29_2) rfl) rfl ?_
   refine WL.stepE (OW.loadK (off := 2) (List Source) (u2) ty26 rfl hb28 rfl rfl) rfl ?_
   refine WL.stepE (OW.len Try.underlying26 rfl (h5.baseM hE rfl)) rfl ?_
   refine WL.p (.int .i64 0) rfl rfl ?_
   refine WL.nx hK56 ?_
   refine CW.block ?_
   obtain ⟨r59, hl58, hF⟩ := bindE hF
   have hJ62 : ∀ (w60 : World) (o61 : Cls), .inl () = r59 → En w0 e0 o61 w60 → NK 59 K55 [] w60 := by
    intro  w60 o61  e_ hE
    subst e_
    have hF := elimL hF
    try dsimp only at hF
    refine hK55 _ _ ?_
    refine CW.sr fun K63 hK63 => ?_
    refine WL.p (.bool false) rfl rfl ?_
    refine WL.nx hK63 ?_
    obtain rfl := Option.some.inj hF
    exact CW.rets (vs := [.bool false]) Try.results32 ⟨rfl, trivial⟩ ⟨_, rfl, _, (hE.rn he0 100 [] rfl rfl), rfl⟩ (fun _ _ h => h)
   refine CW.sub (L' := [(3, .pointer (some pa24)), (4, .pointer (some pa29)), (5, .pointer (some pa34)), (21, .int .i64 (len a0.Sources)), (22, .int .i64 0)]) ⟨rfl, rfl, rfl, rfl, rfl, trivial⟩ ?_
   refine CW.loop (sync_Bad_L1 a0 a1 a2) (fun s_ L_ w64 => ∃ (o65 : Cls) (x57 : Int), x57 = s_ ∧ L_ = [(3, .pointer (some pa24)), (4, .pointer (some pa29)), (5, .pointer (some pa34)), (21, .int .i64 (len a0.Sources)), (22, .int .i64 x57)] ∧ En w0 e0 o65 w64 ∧ Bk o65 100 w64 pa24 [.int .i64 a0.Buses, u1, u2, u3, .int .i64 a0.Phase, .int .i64 a0.Frequency] ∧ Bk o65 101 w64 pa29 [u7, u8, u9, u10] ∧ Bk o65 102 w64 pa34 [u15, u16, u17, u18]) hl58 ?_ ?_
   ·exact ⟨o51, 0, rfl, rfl, hE, hb28, hb33, hb38⟩
   intro K66 s_ L_ w64 hi_ x67 hx68 hr69 hk70
   obtain ⟨o65, x57, rfl, rfl, hE, hb28, hb33, hb38⟩ := hi_
   rw [sync_Bad_L1] at hx68
   refine CW.sr fun K71 hK71 => ?_
   refine WL.p (.bool ((decide (x57 < (len a0.Sources))))) rfl rfl ?_
   refine WL.nx hK71 ?_
   refine CW.seq fun K72 hK72 => ?_
   refine CW.cond (b := (decide (x57 < (len a0.Sources)))) rfl (fun hc73 => ?_) (fun hc73 => ?_)
   ·have hx68 := iteT hc73 hx68
    refine CW.skip ?_
    refine hK72 _ _ ?_
    refine CW.seq fun K74 hK74 => ?_
    refine CW.block ?_
    refine CW.sr fun K75 hK75 => ?_
    refine WL.p (.int .i64 x57) rfl rfl ?_
    refine WL.p (.int .i64 x57) rfl rfl ?_
    refine WL.nx hK75 ?_
    refine CW.sr fun K76 hK76 => ?_
    refine WL.p (.int .i64 x57) rfl rfl ?_
    refine WL.p (.int .i64 0) rfl rfl ?_
    refine WL.nx hK76 ?_
    refine CW.block ?_
    obtain ⟨r79, hl78, hx68⟩ := bindE hx68
    have hJ82 : ∀ (w80 : World) (o81 : Cls), .inl () = r79 → En w0 e0 o81 w80 → Bk o81 100 w80 pa24 [.int .i64 a0.Buses, u1, u2, u3, .int .i64 a0.Phase, .int .i64 a0.Frequency] → Bk o81 101 w80 pa29 [u7, u8, u9, u10] → Bk o81 102 w80 pa34 [u15, u16, u17, u18] → NK 59 K74 [(3, .pointer (some pa24)), (4, .pointer (some pa29)), (5, .pointer (some pa34)), (21, .int .i64 (len a0.Sources)), (22, .int .i64 x57)] w80 := by
     intro  w80 o81  e_ hE hb28 hb33 hb38
     subst e_
     have hx68 := elimL hx68
     try dsimp only at hx68
     refine hK74 _ _ ?_
     refine CW.region ?_
     refine WL.p (.int .i64 ((W (x57 + 1)))) rfl rfl ?_
     refine WL.p (.int .i64 ((W (x57 + 1)))) rfl rfl ?_
     refine WL.nil ?_
     exact NK.sb (hk70 _ _ _ (Option.some.inj hx68).symm ⟨o81, (W (x57 + 1)), rfl, rfl, hE, hb28, hb33, hb38⟩) ⟨rfl, rfl, rfl, rfl, rfl, trivial⟩
    refine CW.sub (L' := [(3, .pointer (some pa24)), (4, .pointer (some pa29)), (5, .pointer (some pa34)), (7, .int .i64 x57), (21, .int .i64 (len a0.Sources)), (22, .int .i64 x57), (25, .int .i64 x57), (26, .int .i64 0)]) ⟨rfl, rfl, rfl, rfl, rfl, rfl, rfl, rfl, trivial⟩ ?_
    refine CW.loop (sync_Bad_L2 a0 a1 a2 x57) (fun s_ L_ w83 => ∃ (o84 : Cls) (x77 : Int), x77 = s_ ∧ L_ = [(3, .pointer (some pa24)), (4, .pointer (some pa29)), (5, .pointer (some pa34)), (7, .int .i64 x57), (21, .int .i64 (len a0.Sources)), (22, .int .i64 x57), (25, .int .i64 x57), (26, .int .i64 x77)] ∧ En w0 e0 o84 w83 ∧ Bk o84 100 w83 pa24 [.int .i64 a0.Buses, u1, u2, u3, .int .i64 a0.Phase, .int .i64 a0.Frequency] ∧ Bk o84 101 w83 pa29 [u7, u8, u9, u10] ∧ Bk o84 102 w83 pa34 [u15, u16, u17, u18]) hl78 ?_ ?_
    ·exact ⟨o65, 0, rfl, rfl, hE, hb28, hb33, hb38⟩
    intro K85 s_ L_ w83 hi_ x86 hx87 hr88 hk89
    obtain ⟨o84, x77, rfl, rfl, hE, hb28, hb33, hb38⟩ := hi_
    rw [sync_Bad_L2] at hx87
    refine CW.sr fun K90 hK90 => ?_
    refine WL.p (.bool ((decide (x77 < x57)))) rfl rfl ?_
    refine WL.nx hK90 ?_
    refine CW.seq fun K91 hK91 => ?_
    refine CW.cond (b := (decide (x77 < x57))) rfl (fun hc92 => ?_) (fun hc92 => ?_)
    ·have hx87 := iteT hc92 hx87
     refine CW.skip ?_
     refine hK91 _ _ ?_
     refine CW.seq fun K93 hK93 => ?_
     refine CW.block ?_
     refine CW.sr fun K94 hK94 => ?_
     refine WL.p (.int .i64 x77) rfl rfl ?_
     refine WL.p (.int .i64 x77) rfl rfl ?_
     refine WL.nx hK94 ?_
     refine CW.seq fun K95 hK95 => ?_
     obtain ⟨y96, q97, hx87⟩ := bindE hx87
     obtain ⟨x103, q104, hx87⟩ := bindE hx87
     have hJ107 : ∀ (w105 : World) (o106 : Cls), En w0 e0 o106 w105 → Bk o106 100 w105 pa24 [.int .i64 a0.Buses, u1, u2, u3, .int .i64 a0.Phase, .int .i64 a0.Frequency] → Bk o106 101 w105 pa29 [u7, u8, u9, u10] → Bk o106 102 w105 pa34 [u15, u16, u17, u18] → NK 59 K95 [(3, .pointer (some pa24)), (4, .pointer (some pa29)), (5, .pointer (some pa34)), (7, .int .i64 x57), (21, .int .i64 (len a0.Sources)), (22, .int .i64 x57), (25, .int .i64 x57), (26, .int .i64 x77), (56, .bool x103)] w105 := by
      intro w105 o106  hE hb28 hb33 hb38
      refine hK95 _ _ ?_
      refine CW.cond (b := x103) rfl (fun hc108 => ?_) (fun hc108 => ?_)
      ·have hx87 := iteT hc108 hx87
       refine CW.sr fun K109 hK109 => ?_
       refine WL.p (.bool true) rfl rfl ?_
       refine WL.nx hK109 ?_
       have e_ := hr88 _ (Option.some.inj hx87).symm
       subst e_
       have hx68 := elimR hx68
       have e_ := hr69 _ (Option.some.inj hx68).symm
       subst e_
       have hF := elimR hF
       obtain rfl := Option.some.inj hF
       exact CW.rets (vs := [.bool true]) Try.results32 ⟨rfl, trivial⟩ ⟨_, rfl, _, (hE.rn he0 100 [] rfl rfl), rfl⟩ (fun _ _ h => h)
      ·have hx87 := iteF hc108 hx87
       refine CW.skip ?_
       refine hK93 _ _ ?_
       refine CW.region ?_
       refine WL.p (.int .i64 ((W (x77 + 1)))) rfl rfl ?_
       refine WL.p (.int .i64 ((W (x77 + 1)))) rfl rfl ?_
       refine WL.nil ?_
       exact NK.sb (hk89 _ _ _ (Option.some.inj hx87).symm ⟨o106, (W (x77 + 1)), rfl, rfl, hE, hb28, hb33, hb38⟩) ⟨rfl, rfl, rfl, rfl, rfl, rfl, rfl, rfl, trivial⟩
     rcases Bool.eq_false_or_eq_true y96 with hc110 | hc110
     ·have q104 := iteT hc110 q104
      obtain ⟨y111, q112, q104⟩ := bindE q104
      obtain ⟨x118, q119, q104⟩ := bindE q104
      have hJ122 : ∀ (w120 : World) (o121 : Cls), En w0 e0 o121 w120 → Bk o121 100 w120 pa24 [.int .i64 a0.Buses, u1, u2, u3, .int .i64 a0.Phase, .int .i64 a0.Frequency] → Bk o121 101 w120 pa29 [u7, u8, u9, u10] → Bk o121 102 w120 pa34 [u15, u16, u17, u18] → NK 59 K95 [(3, .pointer (some pa24)), (4, .pointer (some pa29)), (5, .pointer (some pa34)), (7, .int .i64 x57), (21, .int .i64 (len a0.Sources)), (22, .int .i64 x57), (25, .int .i64 x57), (26, .int .i64 x77), (35, .agg #[.int .i64 a0.Buses, u1, u2, u3, .int .i64 a0.Phase, .int .i64 a0.Frequency]), (36, .agg #[u7, u8, u9, u10]), (37, .int .i64 x57), (38, .int .i64 x77), (39, .bool y111), (40, .bool (!y111)), (56, .bool x118)] w120 := by
       intro w120 o121  hE hb28 hb33 hb38
       have e123 := Option.some.inj q104
       subst e123
       exact NK.sb (hJ107 w120 o121 hE hb28 hb33 hb38) ⟨rfl, rfl, rfl, rfl, rfl, rfl, rfl, rfl, rfl, trivial⟩
      rcases Bool.eq_false_or_eq_true (!y111) with hc124 | hc124
      ·have q119 := iteT hc124 q119
       obtain ⟨y125, q129, q119⟩ := bindE q119
       obtain ⟨y132, q136, q119⟩ := bindE q119
       obtain ⟨y139, q140, q119⟩ := bindE q119
       have ev_ := Evo.drew o84 w83
       refine CW.anyS (N := [105, 106, 107]) hmix [sBk none none [] 100 (vk pa24) (vk ([.int .i64 a0.Buses, u1, u2, u3, .int .i64 a0.Phase, .int .i64 a0.Frequency])), sBk none none [] 101 (vk pa29) (vk ([u7, u8, u9, u10])), sBk none none [] 102 (vk pa34) (vk ([u15, u16, u17, u18])), sPt (some 18) none [18] [40, 41] (vp 0) y125, sEp (some 18) none [18] (vk u8) 4 x57 (vp 0), sPt (some 23) none [23] [40, 41] (vp 0) y132, sEp (some 23) none [23] (vk u8) 4 x77 (vp 0)] [⟨[], [0], [], [], vk (.agg #[.int .i64 a0.Buses, u1, u2, u3, .int .i64 a0.Phase, .int .i64 a0.Frequency]), false⟩, ⟨[], [2], [], [], vk (.agg #[u15, u16, u17, u18]), false⟩, ⟨[], [], [], [], vk (.int .i64 x57), false⟩, ⟨[], [], [], [], vk (.int .i64 x77), false⟩, ⟨[], [], rg 0 4, [], vk (.bool y96), false⟩, ⟨[], [], rg 0 5, [], vk (.bool y96), false⟩, ⟨[], [0], rg 0 6, [], vk (.agg #[.int .i64 a0.Buses, u1, u2, u3, .int .i64 a0.Phase, .int .i64 a0.Frequency]), false⟩, ⟨[], [1], rg 0 6, [], vk (.agg #[u7, u8, u9, u10]), false⟩, ⟨[], [], rg 0 6, [], vk (.int .i64 x57), false⟩, ⟨[], [], rg 0 6, [], vk (.int .i64 x77), false⟩, ⟨[], [], rg 0 10, [], vk (.bool y111), false⟩, ⟨[], [], rg 0 11, [], vk (.bool (!y111)), false⟩, ⟨[], [], rg 0 12, [], vk (.bool (!y111)), false⟩, ⟨[], [], rg 0 13, [], vk (.bool (!y111)), false⟩, ⟨[], [0], rg 0 14, [], vk (.agg #[.int .i64 a0.Buses, u1, u2, u3, .int .i64 a0.Phase, .int .i64 a0.Frequency]), false⟩, ⟨[], [], rg 0 14, [], vk (.pointer (some (pa29.add 1))), false⟩, ⟨[], [1], [0, 1, 2, 3, 4, 5, 6, 7, 8, 9, 10, 11, 12, 13, 15], [], vk u8, false⟩, ⟨[], [], rg 0 14, [], vk (.int .i64 x57), false⟩, ⟨[], [], [0, 1, 2, 3, 4, 5, 6, 7, 8, 9, 10, 11, 12, 13, 15, 16, 17], [18], vq 0, false⟩, ⟨[], [3], [0, 1, 2, 3, 4, 5, 6, 7, 8, 9, 10, 11, 12, 13, 15, 16, 17, 18], [], vk (.agg #[.int .i64 y125.State, .int .i64 y125.Since, .int .i64 y125.Frequency, .int .i64 y125.Phase]), false⟩, ⟨[], [], rg 0 14, [], vk (.pointer (some (pa29.add 1))), false⟩, ⟨[], [1], [0, 1, 2, 3, 4, 5, 6, 7, 8, 9, 10, 11, 12, 13, 20], [], vk u8, false⟩, ⟨[], [], rg 0 14, [], vk (.int .i64 x77), false⟩, ⟨[], [], [0, 1, 2, 3, 4, 5, 6, 7, 8, 9, 10, 11, 12, 13, 20, 21, 22], [23], vq 0, false⟩, ⟨[], [5], [0, 1, 2, 3, 4, 5, 6, 7, 8, 9, 10, 11, 12, 13, 20, 21, 22, 23], [], vk (.agg #[.int .i64 y132.State, .int .i64 y132.Since, .int .i64 y132.Frequency, .int .i64 y132.Phase]), false⟩, ⟨[], [], rg 0 25, [], vk (.bool y139), false⟩, ⟨[], [], rg 0 26, [], vk (.bool (!y139)), false⟩, ⟨[], [], rg 0 27, [], vk (.bool (!y139)), false⟩] [] hE rfl (by kernel_rfl) (by kernel_rfl) ⟨hb28.evo ev_ rfl, hb33.evo ev_ rfl, hb38.evo ev_ rfl, trivial⟩ ⟨?_, ?_, Ob.pv rfl rfl (fun _ => rfl) rfl (fun _ _ _ => trivial), Ob.pv rfl rfl (fun _ => rfl) rfl (fun _ _ _ => trivial), ?_, Ob.pv rfl rfl (fun _ => rfl) rfl (fun _ _ _ => trivial), ?_, ?_, ?_, ?_, ?_, ?_, ?_, Ob.pv rfl rfl (fun _ => rfl) rfl (fun _ _ _ => trivial), ?_, ?_, ?_, ?_, ?_, ?_, ?_, ?_, ?_, ?_, ?_, ?_, ?_, ?_, trivial⟩ ?_
       ·intro vs146 o_ w_ hE hb28
        have hb28 := tBk hb28
        exact OW.q [(3, .pointer (some pa24))] ⟨rfl, trivial⟩ (OW.loadK0 Board (.agg #[.int .i64 a0.Buses, u1, u2, u3, .int .i64 a0.Phase, .int .i64 a0.Frequency]) ty29 rfl hb28 rfl rfl) (er rfl trivial)
       ·intro vs146 o_ w_ hE hb38
        have hb38 := tBk hb38
        exact OW.q [(5, .pointer (some pa34))] ⟨rfl, trivial⟩ (OW.loadK0 Power (.agg #[u15, u16, u17, u18]) ty34 rfl hb38 rfl rfl) (er rfl trivial)
       ·intro vs146 o_ w_ hE 
        have hE := hE.1
        refine OW.r [(29, .agg #[.int .i64 a0.Buses, u1, u2, u3, .int .i64 a0.Phase, .int .i64 a0.Frequency]), (30, .agg #[u15, u16, u17, u18]), (31, .int .i64 x57), (32, .int .i64 x77)] ⟨rfl, rfl, rfl, rfl, trivial⟩ (OW.call Try.call57 rfl (sync_together_ok q97 (mk29 (x := a0) (h4.baseM hE rfl) (h5.baseM hE rfl) (h6.baseM hE rfl)) (mk34 (x := a2) (h19.baseM hE rfl) (h20.baseM hE rfl) (h21.baseM hE rfl) (h22.baseM hE rfl)))) ?_
        rintro _ w98 ⟨o102, hn_, rfl⟩
        obtain ⟨o99, ev100, hA101⟩ := adopt (o := o_) (ks := []) (Ks := [[40], [40, 41, 42]]) 105 ([]) [105] hn_ MbOk.nil rfl rfl rfl rfl
        exact ⟨o99, ev100.sub rfl rfl, rfl, trivial⟩
       ·intro vs146 o_ w_ hE hb28
        have hb28 := tBk hb28
        refine ⟨⟨_, rfl, congrArg (fun b => some (Value.bool b)) hc110⟩, ?_⟩
        exact OW.q [(3, .pointer (some pa24))] ⟨rfl, trivial⟩ (OW.loadK0 Board (.agg #[.int .i64 a0.Buses, u1, u2, u3, .int .i64 a0.Phase, .int .i64 a0.Frequency]) ty29 rfl hb28 rfl rfl) (er rfl trivial)
       ·intro vs146 o_ w_ hE hb33
        have hb33 := tBk hb33
        refine ⟨⟨_, rfl, congrArg (fun b => some (Value.bool b)) hc110⟩, ?_⟩
        exact OW.q [(4, .pointer (some pa29))] ⟨rfl, trivial⟩ (OW.loadK0 Power (.agg #[u7, u8, u9, u10]) ty34 rfl hb33 rfl rfl) (er rfl trivial)
       ·intro vs146 o_ w_ hE 
        refine ⟨⟨_, rfl, congrArg (fun b => some (Value.bool b)) hc110⟩, ?_⟩
        exact OW.q [(7, .int .i64 x57)] ⟨rfl, trivial⟩ (OW.pv (v := (.int .i64 x57)) rfl) (er rfl trivial)
       ·intro vs146 o_ w_ hE 
        refine ⟨⟨_, rfl, congrArg (fun b => some (Value.bool b)) hc110⟩, ?_⟩
        exact OW.q [(8, .int .i64 x77)] ⟨rfl, trivial⟩ (OW.pv (v := (.int .i64 x77)) rfl) (er rfl trivial)
       ·intro vs146 o_ w_ hE 
        have hE := hE.1
        refine ⟨⟨_, rfl, congrArg (fun b => some (Value.bool b)) hc110⟩, ?_⟩
        refine OW.r [(35, .agg #[.int .i64 a0.Buses, u1, u2, u3, .int .i64 a0.Phase, .int .i64 a0.Frequency]), (36, .agg #[u7, u8, u9, u10]), (37, .int .i64 x57), (38, .int .i64 x77)] ⟨rfl, rfl, rfl, rfl, trivial⟩ (OW.call Try.call57 rfl (sync_together_ok q112 (mk29 (x := a0) (h4.baseM hE rfl) (h5.baseM hE rfl) (h6.baseM hE rfl)) (mk34 (x := a1) (h11.baseM hE rfl) (h12.baseM hE rfl) (h13.baseM hE rfl) (h14.baseM hE rfl)))) ?_
        rintro _ w113 ⟨o117, hn_, rfl⟩
        obtain ⟨o114, ev115, hA116⟩ := adopt (o := o_) (ks := []) (Ks := [[40], [40, 41]]) 106 ([]) [106] hn_ MbOk.nil rfl rfl rfl rfl
        exact ⟨o114, ev115.sub rfl rfl, rfl, trivial⟩
       ·intro vs146 o_ w_ hE 
        refine ⟨⟨_, rfl, congrArg (fun b => some (Value.bool b)) hc110⟩, ?_⟩
        exact OW.q [(39, .bool y111)] ⟨rfl, trivial⟩ (OW.pv (v := (.bool (!y111))) rfl) (er rfl trivial)
       ·intro vs146 o_ w_ hE 
        exact OW.q [(34, .bool y96), (40, .bool (!y111))] ⟨rfl, rfl, trivial⟩ (OW.pickT rfl hc110 rfl) (er rfl trivial)
       ·intro vs146 o_ w_ hE hb28
        have hb28 := tBk hb28
        refine ⟨⟨_, rfl, congrArg (fun b => some (Value.bool b)) hc124⟩, ?_⟩
        exact OW.q [(3, .pointer (some pa24))] ⟨rfl, trivial⟩ (OW.loadK0 Board (.agg #[.int .i64 a0.Buses, u1, u2, u3, .int .i64 a0.Phase, .int .i64 a0.Frequency]) ty29 rfl hb28 rfl rfl) (er rfl trivial)
       ·intro vs146 o_ w_ hE 
        refine ⟨⟨_, rfl, congrArg (fun b => some (Value.bool b)) hc124⟩, ?_⟩
        exact OW.q [(4, .pointer (some pa29))] ⟨rfl, trivial⟩ (OW.fldAddr (FldOk.at f34_1) rfl) (er rfl trivial)
       ·intro vs146 o_ w_ hE hb33
        have hb33 := tBk hb33
        refine ⟨⟨_, rfl, congrArg (fun b => some (Value.bool b)) hc124⟩, ?_⟩
        exact OW.q [(44, .pointer (some (pa29.add 1)))] ⟨rfl, trivial⟩ (OW.loadK (off := 1) (List Running) (u8) ty31 rfl hb33 rfl rfl) (er rfl trivial)
       ·intro vs146 o_ w_ hE 
        refine ⟨⟨_, rfl, congrArg (fun b => some (Value.bool b)) hc124⟩, ?_⟩
        exact OW.q [(7, .int .i64 x57)] ⟨rfl, trivial⟩ (OW.pv (v := (.int .i64 x57)) rfl) (er rfl trivial)
       ·intro vs146 o_ w_ hE 
        have hE := hE.1
        refine ⟨⟨_, rfl, congrArg (fun b => some (Value.bool b)) hc124⟩, ?_⟩
        refine OW.r [(45, u8), (46, .int .i64 x57)] ⟨rfl, rfl, trivial⟩ (OW.indexAddr Try.underlying31 ty48 rfl (h12.baseM hE rfl) rfl q129) ?_
        rintro _ _ ⟨rfl, ⟨pa126, hv_, hp127, he128⟩⟩
        subst hv_
        exact ⟨_, Evo.refl _ _ _ _, rfl, hp127, he128, trivial⟩
       ·intro vs146 o_ w_ hE hp127
        have hp127 := tPt hp127
        refine ⟨⟨_, rfl, congrArg (fun b => some (Value.bool b)) hc124⟩, ?_⟩
        refine OW.r [(47, .pointer (some (pOf (vs146 18))))] ⟨rfl, trivial⟩ (OW.load ty48 rfl hp127) ?_
        rintro v130 _ ⟨rfl, h131⟩
        obtain rfl := op48 h131
        exact ⟨_, Evo.refl _ _ _ _, rfl, trivial⟩
       ·intro vs146 o_ w_ hE 
        refine ⟨⟨_, rfl, congrArg (fun b => some (Value.bool b)) hc124⟩, ?_⟩
        exact OW.q [(4, .pointer (some pa29))] ⟨rfl, trivial⟩ (OW.fldAddr (FldOk.at f34_1) rfl) (er rfl trivial)
       ·intro vs146 o_ w_ hE hb33
        have hb33 := tBk hb33
        refine ⟨⟨_, rfl, congrArg (fun b => some (Value.bool b)) hc124⟩, ?_⟩
        exact OW.q [(49, .pointer (some (pa29.add 1)))] ⟨rfl, trivial⟩ (OW.loadK (off := 1) (List Running) (u8) ty31 rfl hb33 rfl rfl) (er rfl trivial)
       ·intro vs146 o_ w_ hE 
        refine ⟨⟨_, rfl, congrArg (fun b => some (Value.bool b)) hc124⟩, ?_⟩
        exact OW.q [(8, .int .i64 x77)] ⟨rfl, trivial⟩ (OW.pv (v := (.int .i64 x77)) rfl) (er rfl trivial)
       ·intro vs146 o_ w_ hE 
        have hE := hE.1
        refine ⟨⟨_, rfl, congrArg (fun b => some (Value.bool b)) hc124⟩, ?_⟩
        refine OW.r [(50, u8), (51, .int .i64 x77)] ⟨rfl, rfl, trivial⟩ (OW.indexAddr Try.underlying31 ty48 rfl (h12.baseM hE rfl) rfl q136) ?_
        rintro _ _ ⟨rfl, ⟨pa133, hv_, hp134, he135⟩⟩
        subst hv_
        exact ⟨_, Evo.refl _ _ _ _, rfl, hp134, he135, trivial⟩
       ·intro vs146 o_ w_ hE hp134
        have hp134 := tPt hp134
        refine ⟨⟨_, rfl, congrArg (fun b => some (Value.bool b)) hc124⟩, ?_⟩
        refine OW.r [(52, .pointer (some (pOf (vs146 23))))] ⟨rfl, trivial⟩ (OW.load ty48 rfl hp134) ?_
        rintro v137 _ ⟨rfl, h138⟩
        obtain rfl := op48 h138
        exact ⟨_, Evo.refl _ _ _ _, rfl, trivial⟩
       ·intro vs146 o_ w_ hE 
        have hE := hE.1
        refine ⟨⟨_, rfl, congrArg (fun b => some (Value.bool b)) hc124⟩, ?_⟩
        refine OW.r [(43, .agg #[.int .i64 a0.Buses, u1, u2, u3, .int .i64 a0.Phase, .int .i64 a0.Frequency]), (48, .agg #[.int .i64 y125.State, .int .i64 y125.Since, .int .i64 y125.Frequency, .int .i64 y125.Phase]), (53, .agg #[.int .i64 y132.State, .int .i64 y132.Since, .int .i64 y132.Frequency, .int .i64 y132.Phase])] ⟨rfl, rfl, rfl, trivial⟩ (OW.call Try.call16 rfl (sync_Agree_ok q140 (mk29 (x := a0) (h4.baseM hE rfl) (h5.baseM hE rfl) (h6.baseM hE rfl)) (mk48 (S := In o_ []) (x := y125)) (mk48 (S := In o_ []) (x := y132)))) ?_
        rintro _ w141 ⟨o145, hn_, rfl⟩
        obtain ⟨o142, ev143, hA144⟩ := adopt (o := o_) (ks := []) (Ks := [[40], [], []]) 107 ([]) [107] hn_ MbOk.nil rfl rfl rfl rfl
        exact ⟨o142, ev143.sub rfl rfl, rfl, trivial⟩
       ·intro vs146 o_ w_ hE 
        refine ⟨⟨_, rfl, congrArg (fun b => some (Value.bool b)) hc124⟩, ?_⟩
        exact OW.q [(54, .bool y139)] ⟨rfl, trivial⟩ (OW.pv (v := (.bool (!y139))) rfl) (er rfl trivial)
       ·intro vs146 o_ w_ hE 
        exact OW.q [(42, .bool (!y111)), (55, .bool (!y139))] ⟨rfl, rfl, trivial⟩ (OW.pickT rfl hc124 rfl) (er rfl trivial)
       ·intro vs146 o148 w147 hE hb28 hb33 hb38 hp127 he128 hp134 he135
        obtain ⟨hE, evT_⟩ := hE
        have hb28 : Bk o148 100 w147 pa24 [.int .i64 a0.Buses, u1, u2, u3, .int .i64 a0.Phase, .int .i64 a0.Frequency] := hb28
        have hb33 : Bk o148 101 w147 pa29 [u7, u8, u9, u10] := hb33
        have hb38 : Bk o148 102 w147 pa34 [u15, u16, u17, u18] := hb38
        have hp127 : PtrAt (In o148 [40, 41]) w147 (pOf (vs146 18)) y125 := hp127
        have he128 : EPtr u8 4 x57 (pOf (vs146 18)) := he128
        have hp134 : PtrAt (In o148 [40, 41]) w147 (pOf (vs146 23)) y132 := hp134
        have he135 : EPtr u8 4 x77 (pOf (vs146 23)) := he135
        have e149 := Option.some.inj q119
        subst e149
        exact NK.sb (hJ122 w147 o148 hE hb28 hb33 hb38) ⟨rfl, rfl, rfl, rfl, rfl, rfl, rfl, rfl, rfl, rfl, rfl, rfl, rfl, rfl, rfl, trivial⟩
      ·have q119 := iteF hc124 q119
       have ev_ := Evo.drew o84 w83
       refine CW.anyS (N := [105, 106]) hmix [sBk none none [] 100 (vk pa24) (vk ([.int .i64 a0.Buses, u1, u2, u3, .int .i64 a0.Phase, .int .i64 a0.Frequency])), sBk none none [] 101 (vk pa29) (vk ([u7, u8, u9, u10])), sBk none none [] 102 (vk pa34) (vk ([u15, u16, u17, u18]))] [⟨[], [0], [], [], vk (.agg #[.int .i64 a0.Buses, u1, u2, u3, .int .i64 a0.Phase, .int .i64 a0.Frequency]), false⟩, ⟨[], [2], [], [], vk (.agg #[u15, u16, u17, u18]), false⟩, ⟨[], [], [], [], vk (.int .i64 x57), false⟩, ⟨[], [], [], [], vk (.int .i64 x77), false⟩, ⟨[], [], rg 0 4, [], vk (.bool y96), false⟩, ⟨[], [], rg 0 5, [], vk (.bool y96), false⟩, ⟨[], [0], rg 0 6, [], vk (.agg #[.int .i64 a0.Buses, u1, u2, u3, .int .i64 a0.Phase, .int .i64 a0.Frequency]), false⟩, ⟨[], [1], rg 0 6, [], vk (.agg #[u7, u8, u9, u10]), false⟩, ⟨[], [], rg 0 6, [], vk (.int .i64 x57), false⟩, ⟨[], [], rg 0 6, [], vk (.int .i64 x77), false⟩, ⟨[], [], rg 0 10, [], vk (.bool y111), false⟩, ⟨[], [], rg 0 11, [], vk (.bool (!y111)), false⟩, ⟨[], [], rg 0 12, [], vk (.bool (!y111)), false⟩, ⟨[], [], rg 0 13, [], vk (.bool (!y111)), false⟩, ⟨[], [], rg 0 14, [], vk undef, true⟩, ⟨[], [], rg 0 14, [], vk undef, true⟩, ⟨[], [], [0, 1, 2, 3, 4, 5, 6, 7, 8, 9, 10, 11, 12, 13, 15], [], vk undef, true⟩, ⟨[], [], rg 0 14, [], vk undef, true⟩, ⟨[], [], [0, 1, 2, 3, 4, 5, 6, 7, 8, 9, 10, 11, 12, 13, 15, 16, 17], [], vk undef, true⟩, ⟨[], [], [0, 1, 2, 3, 4, 5, 6, 7, 8, 9, 10, 11, 12, 13, 15, 16, 17, 18], [], vk undef, true⟩, ⟨[], [], rg 0 14, [], vk undef, true⟩, ⟨[], [], [0, 1, 2, 3, 4, 5, 6, 7, 8, 9, 10, 11, 12, 13, 20], [], vk undef, true⟩, ⟨[], [], rg 0 14, [], vk undef, true⟩, ⟨[], [], [0, 1, 2, 3, 4, 5, 6, 7, 8, 9, 10, 11, 12, 13, 20, 21, 22], [], vk undef, true⟩, ⟨[], [], [0, 1, 2, 3, 4, 5, 6, 7, 8, 9, 10, 11, 12, 13, 20, 21, 22, 23], [], vk undef, true⟩, ⟨[], [], rg 0 25, [], vk undef, true⟩, ⟨[], [], rg 0 26, [], vk undef, true⟩, ⟨[], [], rg 0 27, [], vk (.bool false), false⟩] [] hE rfl (by kernel_rfl) (by kernel_rfl) ⟨hb28.evo ev_ rfl, hb33.evo ev_ rfl, hb38.evo ev_ rfl, trivial⟩ ⟨?_, ?_, Ob.pv rfl rfl (fun _ => rfl) rfl (fun _ _ _ => trivial), Ob.pv rfl rfl (fun _ => rfl) rfl (fun _ _ _ => trivial), ?_, Ob.pv rfl rfl (fun _ => rfl) rfl (fun _ _ _ => trivial), ?_, ?_, ?_, ?_, ?_, ?_, ?_, Ob.pv rfl rfl (fun _ => rfl) rfl (fun _ _ _ => trivial), ?_, ?_, ?_, ?_, ?_, ?_, ?_, ?_, ?_, ?_, ?_, ?_, ?_, ?_, trivial⟩ ?_
       ·intro vs150 o_ w_ hE hb28
        have hb28 := tBk hb28
        exact OW.q [(3, .pointer (some pa24))] ⟨rfl, trivial⟩ (OW.loadK0 Board (.agg #[.int .i64 a0.Buses, u1, u2, u3, .int .i64 a0.Phase, .int .i64 a0.Frequency]) ty29 rfl hb28 rfl rfl) (er rfl trivial)
       ·intro vs150 o_ w_ hE hb38
        have hb38 := tBk hb38
        exact OW.q [(5, .pointer (some pa34))] ⟨rfl, trivial⟩ (OW.loadK0 Power (.agg #[u15, u16, u17, u18]) ty34 rfl hb38 rfl rfl) (er rfl trivial)
       ·intro vs150 o_ w_ hE 
        have hE := hE.1
        refine OW.r [(29, .agg #[.int .i64 a0.Buses, u1, u2, u3, .int .i64 a0.Phase, .int .i64 a0.Frequency]), (30, .agg #[u15, u16, u17, u18]), (31, .int .i64 x57), (32, .int .i64 x77)] ⟨rfl, rfl, rfl, rfl, trivial⟩ (OW.call Try.call57 rfl (sync_together_ok q97 (mk29 (x := a0) (h4.baseM hE rfl) (h5.baseM hE rfl) (h6.baseM hE rfl)) (mk34 (x := a2) (h19.baseM hE rfl) (h20.baseM hE rfl) (h21.baseM hE rfl) (h22.baseM hE rfl)))) ?_
        rintro _ w98 ⟨o102, hn_, rfl⟩
        obtain ⟨o99, ev100, hA101⟩ := adopt (o := o_) (ks := []) (Ks := [[40], [40, 41, 42]]) 105 ([]) [105] hn_ MbOk.nil rfl rfl rfl rfl
        exact ⟨o99, ev100.sub rfl rfl, rfl, trivial⟩
       ·intro vs150 o_ w_ hE hb28
        have hb28 := tBk hb28
        refine ⟨⟨_, rfl, congrArg (fun b => some (Value.bool b)) hc110⟩, ?_⟩
        exact OW.q [(3, .pointer (some pa24))] ⟨rfl, trivial⟩ (OW.loadK0 Board (.agg #[.int .i64 a0.Buses, u1, u2, u3, .int .i64 a0.Phase, .int .i64 a0.Frequency]) ty29 rfl hb28 rfl rfl) (er rfl trivial)
       ·intro vs150 o_ w_ hE hb33
        have hb33 := tBk hb33
        refine ⟨⟨_, rfl, congrArg (fun b => some (Value.bool b)) hc110⟩, ?_⟩
        exact OW.q [(4, .pointer (some pa29))] ⟨rfl, trivial⟩ (OW.loadK0 Power (.agg #[u7, u8, u9, u10]) ty34 rfl hb33 rfl rfl) (er rfl trivial)
       ·intro vs150 o_ w_ hE 
        refine ⟨⟨_, rfl, congrArg (fun b => some (Value.bool b)) hc110⟩, ?_⟩
        exact OW.q [(7, .int .i64 x57)] ⟨rfl, trivial⟩ (OW.pv (v := (.int .i64 x57)) rfl) (er rfl trivial)
       ·intro vs150 o_ w_ hE 
        refine ⟨⟨_, rfl, congrArg (fun b => some (Value.bool b)) hc110⟩, ?_⟩
        exact OW.q [(8, .int .i64 x77)] ⟨rfl, trivial⟩ (OW.pv (v := (.int .i64 x77)) rfl) (er rfl trivial)
       ·intro vs150 o_ w_ hE 
        have hE := hE.1
        refine ⟨⟨_, rfl, congrArg (fun b => some (Value.bool b)) hc110⟩, ?_⟩
        refine OW.r [(35, .agg #[.int .i64 a0.Buses, u1, u2, u3, .int .i64 a0.Phase, .int .i64 a0.Frequency]), (36, .agg #[u7, u8, u9, u10]), (37, .int .i64 x57), (38, .int .i64 x77)] ⟨rfl, rfl, rfl, rfl, trivial⟩ (OW.call Try.call57 rfl (sync_together_ok q112 (mk29 (x := a0) (h4.baseM hE rfl) (h5.baseM hE rfl) (h6.baseM hE rfl)) (mk34 (x := a1) (h11.baseM hE rfl) (h12.baseM hE rfl) (h13.baseM hE rfl) (h14.baseM hE rfl)))) ?_
        rintro _ w113 ⟨o117, hn_, rfl⟩
        obtain ⟨o114, ev115, hA116⟩ := adopt (o := o_) (ks := []) (Ks := [[40], [40, 41]]) 106 ([]) [106] hn_ MbOk.nil rfl rfl rfl rfl
        exact ⟨o114, ev115.sub rfl rfl, rfl, trivial⟩
       ·intro vs150 o_ w_ hE 
        refine ⟨⟨_, rfl, congrArg (fun b => some (Value.bool b)) hc110⟩, ?_⟩
        exact OW.q [(39, .bool y111)] ⟨rfl, trivial⟩ (OW.pv (v := (.bool (!y111))) rfl) (er rfl trivial)
       ·intro vs150 o_ w_ hE 
        exact OW.q [(34, .bool y96), (40, .bool (!y111))] ⟨rfl, rfl, trivial⟩ (OW.pickT rfl hc110 rfl) (er rfl trivial)
       ·intro vs150 o_ w_ hE 
        exact ⟨⟨_, rfl, .inl (congrArg (fun b => some (Value.bool b)) hc124)⟩, rfl, trivial⟩
       ·intro vs150 o_ w_ hE 
        exact ⟨⟨_, rfl, .inl (congrArg (fun b => some (Value.bool b)) hc124)⟩, rfl, trivial⟩
       ·intro vs150 o_ w_ hE 
        exact ⟨⟨_, rfl, .inl (congrArg (fun b => some (Value.bool b)) hc124)⟩, rfl, trivial⟩
       ·intro vs150 o_ w_ hE 
        exact ⟨⟨_, rfl, .inl (congrArg (fun b => some (Value.bool b)) hc124)⟩, rfl, trivial⟩
       ·intro vs150 o_ w_ hE 
        exact ⟨⟨_, rfl, .inl (congrArg (fun b => some (Value.bool b)) hc124)⟩, rfl, trivial⟩
       ·intro vs150 o_ w_ hE 
        exact ⟨⟨_, rfl, .inl (congrArg (fun b => some (Value.bool b)) hc124)⟩, rfl, trivial⟩
       ·intro vs150 o_ w_ hE 
        exact ⟨⟨_, rfl, .inl (congrArg (fun b => some (Value.bool b)) hc124)⟩, rfl, trivial⟩
       ·intro vs150 o_ w_ hE 
        exact ⟨⟨_, rfl, .inl (congrArg (fun b => some (Value.bool b)) hc124)⟩, rfl, trivial⟩
       ·intro vs150 o_ w_ hE 
        exact ⟨⟨_, rfl, .inl (congrArg (fun b => some (Value.bool b)) hc124)⟩, rfl, trivial⟩
       ·intro vs150 o_ w_ hE 
        exact ⟨⟨_, rfl, .inl (congrArg (fun b => some (Value.bool b)) hc124)⟩, rfl, trivial⟩
       ·intro vs150 o_ w_ hE 
        exact ⟨⟨_, rfl, .inl (congrArg (fun b => some (Value.bool b)) hc124)⟩, rfl, trivial⟩
       ·intro vs150 o_ w_ hE 
        exact ⟨⟨_, rfl, .inl (congrArg (fun b => some (Value.bool b)) hc124)⟩, rfl, trivial⟩
       ·intro vs150 o_ w_ hE 
        exact ⟨⟨_, rfl, .inl (congrArg (fun b => some (Value.bool b)) hc124)⟩, rfl, trivial⟩
       ·intro vs150 o_ w_ hE 
        exact OW.q [(42, .bool (!y111)), (55, undef)] ⟨rfl, rfl, trivial⟩ (OW.pickF rfl hc124 rfl) (er rfl trivial)
       ·intro vs150 o152 w151 hE hb28 hb33 hb38
        obtain ⟨hE, evT_⟩ := hE
        have hb28 : Bk o152 100 w151 pa24 [.int .i64 a0.Buses, u1, u2, u3, .int .i64 a0.Phase, .int .i64 a0.Frequency] := hb28
        have hb33 : Bk o152 101 w151 pa29 [u7, u8, u9, u10] := hb33
        have hb38 : Bk o152 102 w151 pa34 [u15, u16, u17, u18] := hb38
        have e153 := Option.some.inj q119
        subst e153
        exact NK.sb (hJ122 w151 o152 hE hb28 hb33 hb38) ⟨rfl, rfl, rfl, rfl, rfl, rfl, rfl, rfl, rfl, rfl, rfl, rfl, rfl, rfl, rfl, trivial⟩
     ·have q104 := iteF hc110 q104
      have ev_ := Evo.drew o84 w83
      refine CW.anyS (N := [105]) hmix [sBk none none [] 100 (vk pa24) (vk ([.int .i64 a0.Buses, u1, u2, u3, .int .i64 a0.Phase, .int .i64 a0.Frequency])), sBk none none [] 102 (vk pa34) (vk ([u15, u16, u17, u18]))] [⟨[], [0], [], [], vk (.agg #[.int .i64 a0.Buses, u1, u2, u3, .int .i64 a0.Phase, .int .i64 a0.Frequency]), false⟩, ⟨[], [1], [], [], vk (.agg #[u15, u16, u17, u18]), false⟩, ⟨[], [], [], [], vk (.int .i64 x57), false⟩, ⟨[], [], [], [], vk (.int .i64 x77), false⟩, ⟨[], [], rg 0 4, [], vk (.bool y96), false⟩, ⟨[], [], rg 0 5, [], vk (.bool y96), false⟩, ⟨[], [], rg 0 6, [], vk undef, true⟩, ⟨[], [], rg 0 6, [], vk undef, true⟩, ⟨[], [], rg 0 6, [], vk undef, true⟩, ⟨[], [], rg 0 6, [], vk undef, true⟩, ⟨[], [], rg 0 10, [], vk undef, true⟩, ⟨[], [], rg 0 11, [], vk undef, true⟩, ⟨[], [], rg 0 12, [], vk (.bool false), false⟩, ⟨[], [], rg 0 13, [], vk (.bool false), false⟩, ⟨[], [], rg 0 14, [], vk undef, true⟩, ⟨[], [], rg 0 14, [], vk undef, true⟩, ⟨[], [], [0, 1, 2, 3, 4, 5, 6, 7, 8, 9, 10, 11, 12, 13, 15], [], vk undef, true⟩, ⟨[], [], rg 0 14, [], vk undef, true⟩, ⟨[], [], [0, 1, 2, 3, 4, 5, 6, 7, 8, 9, 10, 11, 12, 13, 15, 16, 17], [], vk undef, true⟩, ⟨[], [], [0, 1, 2, 3, 4, 5, 6, 7, 8, 9, 10, 11, 12, 13, 15, 16, 17, 18], [], vk undef, true⟩, ⟨[], [], rg 0 14, [], vk undef, true⟩, ⟨[], [], [0, 1, 2, 3, 4, 5, 6, 7, 8, 9, 10, 11, 12, 13, 20], [], vk undef, true⟩, ⟨[], [], rg 0 14, [], vk undef, true⟩, ⟨[], [], [0, 1, 2, 3, 4, 5, 6, 7, 8, 9, 10, 11, 12, 13, 20, 21, 22], [], vk undef, true⟩, ⟨[], [], [0, 1, 2, 3, 4, 5, 6, 7, 8, 9, 10, 11, 12, 13, 20, 21, 22, 23], [], vk undef, true⟩, ⟨[], [], rg 0 25, [], vk undef, true⟩, ⟨[], [], rg 0 26, [], vk undef, true⟩, ⟨[], [], rg 0 27, [], vk (.bool false), false⟩] [] hE rfl (by kernel_rfl) (by kernel_rfl) ⟨hb28.evo ev_ rfl, hb38.evo ev_ rfl, trivial⟩ ⟨?_, ?_, Ob.pv rfl rfl (fun _ => rfl) rfl (fun _ _ _ => trivial), Ob.pv rfl rfl (fun _ => rfl) rfl (fun _ _ _ => trivial), ?_, Ob.pv rfl rfl (fun _ => rfl) rfl (fun _ _ _ => trivial), ?_, ?_, ?_, ?_, ?_, ?_, ?_, Ob.pv rfl rfl (fun _ => rfl) rfl (fun _ _ _ => trivial), ?_, ?_, ?_, ?_, ?_, ?_, ?_, ?_, ?_, ?_, ?_, ?_, ?_, ?_, trivial⟩ ?_
      ·intro vs154 o_ w_ hE hb28
       have hb28 := tBk hb28
       exact OW.q [(3, .pointer (some pa24))] ⟨rfl, trivial⟩ (OW.loadK0 Board (.agg #[.int .i64 a0.Buses, u1, u2, u3, .int .i64 a0.Phase, .int .i64 a0.Frequency]) ty29 rfl hb28 rfl rfl) (er rfl trivial)
      ·intro vs154 o_ w_ hE hb38
       have hb38 := tBk hb38
       exact OW.q [(5, .pointer (some pa34))] ⟨rfl, trivial⟩ (OW.loadK0 Power (.agg #[u15, u16, u17, u18]) ty34 rfl hb38 rfl rfl) (er rfl trivial)
      ·intro vs154 o_ w_ hE 
       have hE := hE.1
       refine OW.r [(29, .agg #[.int .i64 a0.Buses, u1, u2, u3, .int .i64 a0.Phase, .int .i64 a0.Frequency]), (30, .agg #[u15, u16, u17, u18]), (31, .int .i64 x57), (32, .int .i64 x77)] ⟨rfl, rfl, rfl, rfl, trivial⟩ (OW.call Try.call57 rfl (sync_together_ok q97 (mk29 (x := a0) (h4.baseM hE rfl) (h5.baseM hE rfl) (h6.baseM hE rfl)) (mk34 (x := a2) (h19.baseM hE rfl) (h20.baseM hE rfl) (h21.baseM hE rfl) (h22.baseM hE rfl)))) ?_
       rintro _ w98 ⟨o102, hn_, rfl⟩
       obtain ⟨o99, ev100, hA101⟩ := adopt (o := o_) (ks := []) (Ks := [[40], [40, 41, 42]]) 105 ([]) [105] hn_ MbOk.nil rfl rfl rfl rfl
       exact ⟨o99, ev100.sub rfl rfl, rfl, trivial⟩
      ·intro vs154 o_ w_ hE 
       exact ⟨⟨_, rfl, .inl (congrArg (fun b => some (Value.bool b)) hc110)⟩, rfl, trivial⟩
      ·intro vs154 o_ w_ hE 
       exact ⟨⟨_, rfl, .inl (congrArg (fun b => some (Value.bool b)) hc110)⟩, rfl, trivial⟩
      ·intro vs154 o_ w_ hE 
       exact ⟨⟨_, rfl, .inl (congrArg (fun b => some (Value.bool b)) hc110)⟩, rfl, trivial⟩
      ·intro vs154 o_ w_ hE 
       exact ⟨⟨_, rfl, .inl (congrArg (fun b => some (Value.bool b)) hc110)⟩, rfl, trivial⟩
      ·intro vs154 o_ w_ hE 
       exact ⟨⟨_, rfl, .inl (congrArg (fun b => some (Value.bool b)) hc110)⟩, rfl, trivial⟩
      ·intro vs154 o_ w_ hE 
       exact ⟨⟨_, rfl, .inl (congrArg (fun b => some (Value.bool b)) hc110)⟩, rfl, trivial⟩
      ·intro vs154 o_ w_ hE 
       exact OW.q [(34, .bool y96), (40, undef)] ⟨rfl, rfl, trivial⟩ (OW.pickF rfl hc110 rfl) (er rfl trivial)
      ·intro vs154 o_ w_ hE 
       exact ⟨⟨_, rfl, .inl rfl⟩, rfl, trivial⟩
      ·intro vs154 o_ w_ hE 
       exact ⟨⟨_, rfl, .inl rfl⟩, rfl, trivial⟩
      ·intro vs154 o_ w_ hE 
       exact ⟨⟨_, rfl, .inl rfl⟩, rfl, trivial⟩
      ·intro vs154 o_ w_ hE 
       exact ⟨⟨_, rfl, .inl rfl⟩, rfl, trivial⟩
      ·intro vs154 o_ w_ hE 
       exact ⟨⟨_, rfl, .inl rfl⟩, rfl, trivial⟩
      ·intro vs154 o_ w_ hE 
       exact ⟨⟨_, rfl, .inl rfl⟩, rfl, trivial⟩
      ·intro vs154 o_ w_ hE 
       exact ⟨⟨_, rfl, .inl rfl⟩, rfl, trivial⟩
      ·intro vs154 o_ w_ hE 
       exact ⟨⟨_, rfl, .inl rfl⟩, rfl, trivial⟩
      ·intro vs154 o_ w_ hE 
       exact ⟨⟨_, rfl, .inl rfl⟩, rfl, trivial⟩
      ·intro vs154 o_ w_ hE 
       exact ⟨⟨_, rfl, .inl rfl⟩, rfl, trivial⟩
      ·intro vs154 o_ w_ hE 
       exact ⟨⟨_, rfl, .inl rfl⟩, rfl, trivial⟩
      ·intro vs154 o_ w_ hE 
       exact ⟨⟨_, rfl, .inl rfl⟩, rfl, trivial⟩
      ·intro vs154 o_ w_ hE 
       exact ⟨⟨_, rfl, .inl rfl⟩, rfl, trivial⟩
      ·intro vs154 o_ w_ hE 
       exact OW.q [(42, .bool false), (55, undef)] ⟨rfl, rfl, trivial⟩ (OW.pickF rfl rfl rfl) (er rfl trivial)
      ·intro vs154 o156 w155 hE hb28 hb38
       obtain ⟨hE, evT_⟩ := hE
       have hb28 : Bk o156 100 w155 pa24 [.int .i64 a0.Buses, u1, u2, u3, .int .i64 a0.Phase, .int .i64 a0.Frequency] := hb28
       have hb38 : Bk o156 102 w155 pa34 [u15, u16, u17, u18] := hb38
       have hb33 := hb33.evo evT_ rfl
       have e157 := Option.some.inj q104
       subst e157
       exact NK.sb (hJ107 w155 o156 hE hb28 hb33 hb38) ⟨rfl, rfl, rfl, rfl, rfl, rfl, rfl, rfl, rfl, trivial⟩
    ·have hx87 := iteF hc92 hx87
     refine CW.exit ?_
     exact NK.sb (hJ82 w83 o84 (hr88 _ (Option.some.inj hx87).symm) hE hb28 hb33 hb38) ⟨rfl, rfl, rfl, rfl, rfl, trivial⟩
   ·have hx68 := iteF hc73 hx68
    refine CW.exit ?_
    exact NK.sb (hJ62 w64 o65 (hr69 _ (Option.some.inj hx68).symm) hE) trivial
 rcases Bool.eq_false_or_eq_true (((y41 != 0))) with hc158 | hc158
 ·have q49 := iteT hc158 q49
  refine WL.skipG rfl rfl rfl (by rw [hc158]; rfl) rfl ?_
  refine WL.skipG rfl rfl rfl (by rw [hc158]; rfl) rfl ?_
  refine WL.skipG rfl rfl rfl (by rw [hc158]; rfl) rfl ?_
  refine WL.skipG rfl rfl rfl (by rw [hc158]; rfl) rfl ?_
  refine WL.stepE (OW.pickT rfl hc158 rfl) rfl ?_
  refine WL.nil ?_
  have e159 := Option.some.inj q49
  subst e159
  exact NK.sb (hJ52 w43 o44 hE hb28 hb33 hb38) ⟨rfl, rfl, rfl, rfl, trivial⟩
 ·have q49 := iteF hc158 q49
  refine WL.stepGE rfl rfl rfl hc158 (OW.loadK0 Board (.agg #[.int .i64 a0.Buses, u1, u2, u3, .int .i64 a0.Phase, .int .i64 a0.Frequency]) ty29 rfl hb28 rfl rfl) rfl ?_
  refine WL.stepGE rfl rfl rfl hc158 (OW.loadK0 Power (.agg #[u15, u16, u17, u18]) ty34 rfl hb38 rfl rfl) rfl ?_
  obtain ⟨y160, q161, q49⟩ := bindE q49
  refine WL.stepG rfl rfl rfl hc158 (OW.call Try.call34 rfl (board_State_ok q161 (mk29 (x := a0) (h4.baseM hE rfl) (h5.baseM hE rfl) (h6.baseM hE rfl)) (mk34 (x := a2) (h19.baseM hE rfl) (h20.baseM hE rfl) (h21.baseM hE rfl) (h22.baseM hE rfl)))) rfl ?_
  rintro _ w162 ⟨o166, hn_, rfl⟩
  obtain ⟨o163, ev164, hA165⟩ := adopt (o := o44) (ks := []) (Ks := [[40], [40, 41, 42]]) 104 ([]) [104] hn_ MbOk.nil rfl rfl rfl rfl
  have hE := hE.evo ev164 rfl rfl
  have hb28 := hb28.evo ev164 rfl
  have hb33 := hb33.evo ev164 rfl
  have hb38 := hb38.evo ev164 rfl
  refine WL.stepGE rfl rfl rfl hc158 (OW.pv (v := (.bool (((y160 != 0))))) rfl) rfl ?_
  refine WL.stepE (OW.pickF rfl hc158 rfl) rfl ?_
  refine WL.nil ?_
  have e167 := Option.some.inj q49
  subst e167
  exact NK.sb (hJ52 w162 o163 hE hb28 hb33 hb38) ⟨rfl, rfl, rfl, rfl, trivial⟩

end Go.Proofs.Ytdfkfohpgakihaa
