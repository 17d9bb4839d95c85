/- Walks. Written by a program (wip/gen). -/
import Derived.Test.YtdfkfohpgakihaaHw
import Derived.Test.YtdfkfohpgakihaaWk6
import Derived.Test.YtdfkfohpgakihaaWk8
import Derived.Test.YtdfkfohpgakihaaWk9
set_option linter.unusedVariables false
set_option linter.unusedSimpArgs false
namespace Go.Proofs.Ytdfkfohpgakihaa
open Go Go.RowKit Dp

set_option maxRecDepth 100000

set_option maxHeartbeats 1000000 in
theorem board_Islands_ok {a0 : Board} {a1 : Power} {r : (List Island)} (hF : board_Islands a0 a1 = some r) {w0 : World} {p0 : Value} {S0 : Nat → Prop} (g0 : Rv S0 w0 p0 a0) {p1 : Value} {S1 : Nat → Prop} (g1 : Rv S1 w0 p1 a1) :
    Calls Try.prog 36 #[p0, p1] w0 (Ret fun v w' => ∃ (oc : Cls), En w0 (entM w0 [] [S0, S1]) oc w' ∧ Ow 44 oc 100 [101] w' v r) := by
 obtain ⟨e0, he0⟩ : ∃ e0, e0 = entM w0 [] [S0, S1] := ⟨_, rfl⟩
 have hE := En.refl w0 e0
 have g0 := g0.argM he0 0 (K := [40]) rfl (nosep rfl) rfl
 have g1 := g1.argM he0 1 (K := [40, 41]) rfl (nosep rfl) rfl
 obtain ⟨u1, u2, u3, rfl, h4, h5, h6⟩ := op29 g0
 obtain ⟨u7, u8, u9, u10, rfl, h11, h12, h13, h14⟩ := op34 g1
 rw [board_Islands] at hF
 refine enter (l := [.agg #[.int .i64 a0.Buses, u1, u2, u3, .int .i64 a0.Phase, .int .i64 a0.Frequency], .agg #[u7, u8, u9, u10]]) Try.func36 rfl Try.ntmps36 rfl ?_
 refine CW.sub (L' := [(0, .agg #[.int .i64 a0.Buses, u1, u2, u3, .int .i64 a0.Phase, .int .i64 a0.Frequency]), (1, .agg #[u7, u8, u9, u10])]) ⟨rfl, rfl, trivial⟩ ?_
 refine CW.sr fun K15 hK15 => ?_
 refine WL.step (OW.boxK (o := e0) 100 [.int .i64 a0.Buses, u1, u2, u3, .int .i64 a0.Phase, .int .i64 a0.Frequency] rfl rfl) rfl ?_
 rintro _ w18 ⟨pa16, o17, rfl, ev19, hb20⟩
 have hE := hE.evo ev19 rfl rfl
 refine WL.step (OW.boxK (o := o17) 101 [u7, u8, u9, u10] rfl rfl) rfl ?_
 rintro _ w23 ⟨pa21, o22, rfl, ev24, hb25⟩
 have hE := hE.evo ev24 rfl rfl
 have hb20 := hb20.evo ev24 rfl
 have h26 := Ow.nil (α := Island) 44 o22 102 [] w23
 refine WL.p (.slice none 0 0) rfl rfl ?_
 refine WL.nx hK15 ?_
 refine CW.seq fun K27 hK27 => ?_
 refine CW.sr fun K28 hK28 => ?_
 refine WL.stepE (OW.loadK0 Board (.agg #[.int .i64 a0.Buses, u1, u2, u3, .int .i64 a0.Phase, .int .i64 a0.Frequency]) ty29 rfl hb20 rfl rfl) rfl ?_
 refine WL.stepE (OW.loadK0 Power (.agg #[u7, u8, u9, u10]) ty34 rfl hb25 rfl rfl) rfl ?_
 obtain ⟨y29, q30, hF⟩ := bindE hF
 refine WL.step (OW.call Try.call34 rfl (board_State_ok q30 (mk29 (x := a0) (h4.baseM hE rfl) (h5.baseM hE rfl) (h6.baseM hE rfl)) (mk34 (x := a1) (h11.baseM hE rfl) (h12.baseM hE rfl) (h13.baseM hE rfl) (h14.baseM hE rfl)))) rfl ?_
 rintro _ w31 ⟨o35, hn_, rfl⟩
 obtain ⟨o32, ev33, hA34⟩ := adopt (o := o22) (ks := []) (Ks := [[40], [40, 41]]) 103 ([]) [103] hn_ MbOk.nil rfl rfl rfl rfl
 have hE := hE.evo ev33 rfl rfl
 have hb20 := hb20.evo ev33 rfl
 have hb25 := hb25.evo ev33 rfl
 refine WL.p (.bool (((y29 != 0)))) rfl rfl ?_
 refine WL.nx hK28 ?_
 refine CW.cond (b := ((y29 != 0))) rfl (fun hc36 => ?_) (fun hc36 => ?_)
 ·have hF := iteT hc36 hF
  refine CW.sr fun K37 hK37 => ?_
  have h38 := Ow.nil (α := Island) 44 o32 104 [] w31
  refine WL.p (.slice none 0 0) rfl rfl ?_
  refine WL.nx hK37 ?_
  obtain rfl := Option.some.inj hF
  exact CW.rets (vs := [(.slice none 0 0)]) Try.results36 ⟨rfl, trivial⟩ ⟨_, rfl, _, (hE.rn he0 101 [] rfl rfl), (Ow.nil _ _ _ _ _)⟩ (fun _ _ h => h)
 ·have hF := iteF hc36 hF
  refine CW.skip ?_
  refine hK27 _ _ ?_
  refine CW.sr fun K39 hK39 => ?_
  refine WL.stepE (OW.loadK0 Board (.agg #[.int .i64 a0.Buses, u1, u2, u3, .int .i64 a0.Phase, .int .i64 a0.Frequency]) ty29 rfl hb20 rfl rfl) rfl ?_
  refine WL.stepE (OW.loadK0 Power (.agg #[u7, u8, u9, u10]) ty34 rfl hb25 rfl rfl) rfl ?_
  obtain ⟨y40, q41, hF⟩ := bindE hF
  refine WL.step (OW.call Try.call69 rfl (board_groups_ok q41 (mk29 (x := a0) (h4.baseM hE rfl) (h5.baseM hE rfl) (h6.baseM hE rfl)) (mk34 (x := a1) (h11.baseM hE rfl) (h12.baseM hE rfl) (h13.baseM hE rfl) (h14.baseM hE rfl)))) rfl ?_
  rintro v48 w42 ⟨o46, hn_, h47⟩
  obtain ⟨o43, ev44, hA45⟩ := adopt (o := o32) (ks := []) (Ks := [[40], [40, 41]]) 105 ([(100, 106)]) [105, 106] hn_ MbOk.nil rfl rfl rfl rfl
  have h47 := h47.ad (c' := 106) (K' := []) hA45 rfl rfl
  have hE := hE.evo ev44 rfl rfl
  have hb20 := hb20.evo ev44 rfl
  have hb25 := hb25.evo ev44 rfl
  refine WL.p v48 rfl rfl ?_
  refine WL.nx hK39 ?_
  refine CW.sr fun K49 hK49 => ?_
  refine WL.stepE (OW.fldAddr (FldOk.at f29_0) rfl) rfl ?_
  refine WL.stepE (OW.loadK (off := 0) Int (.int .i64 a0.Buses) ty3 rfl hb20 rfl rfl) rfl ?_
  obtain ⟨y50, q51, hF⟩ := bindE hF
  refine WL.step (OW.makeC (o := o43) (k := 107) 108 1 3 (by rfl) Try.underlying41 ty44 rfl rfl q51) rfl ?_
  rintro v52 w53 ⟨o54, ev55, h56⟩
  have hE := hE.evo ev55 rfl rfl
  have h47 := h47.evo ev55 rfl
  have hb20 := hb20.evo ev55 rfl
  have hb25 := hb25.evo ev55 rfl
  refine WL.p v52 rfl rfl ?_
  refine WL.nx hK49 ?_
  refine CW.seq fun K57 hK57 => ?_
  refine CW.sr fun K58 hK58 => ?_
  refine WL.p v48 rfl rfl ?_
  refine WL.stepE (OW.len Try.underlying22 rfl h47.rv) rfl ?_
  refine WL.p (.int .i64 0) rfl rfl ?_
  refine WL.nx hK58 ?_
  refine CW.block ?_
  obtain ⟨r67, hl66, hF⟩ := bindE hF
  have hJ70 : ∀ (x63 : (List Island)) (w68 : World) (o69 : Cls) (v64 : Value), x63 = r67 → En w0 e0 o69 w68 → Ow 3 o69 106 [] w68 v48 y40 → OwC 1 44 3 o69 107 108 w68 v64 x63 → Bk o69 100 w68 pa16 [.int .i64 a0.Buses, u1, u2, u3, .int .i64 a0.Phase, .int .i64 a0.Frequency] → Bk o69 101 w68 pa21 [u7, u8, u9, u10] → NK 113 K57 [(2, .pointer (some pa16)), (3, .pointer (some pa21)), (5, v48), (6, v64)] w68 := by
   intro x63 w68 o69 v64 e_ hE h47 h65 hb20 hb25
   subst e_
   try dsimp only at hF
   refine hK57 _ _ ?_
   refine CW.seq fun K71 hK71 => ?_
   refine CW.sr fun K72 hK72 => ?_
   refine WL.stepE (OW.fldAddr (FldOk.at f29_2) rfl) rfl ?_
   refine WL.stepE (OW.loadK (off := 2) (List Source) (u2) ty26 rfl hb20 rfl rfl) rfl ?_
   refine WL.stepE (OW.len Try.underlying26 rfl (h5.baseM hE rfl)) rfl ?_
   refine WL.p (.int .i64 0) rfl rfl ?_
   refine WL.nx hK72 ?_
   refine CW.block ?_
   obtain ⟨r81, hl80, hF⟩ := bindE hF
   have hJ84 : ∀ (x77 : (List Island)) (w82 : World) (o83 : Cls) (v78 : Value), x77 = r81 → En w0 e0 o83 w82 → Ow 3 o83 106 [] w82 v48 y40 → OwC 1 44 3 o83 107 108 w82 v78 x77 → Bk o83 100 w82 pa16 [.int .i64 a0.Buses, u1, u2, u3, .int .i64 a0.Phase, .int .i64 a0.Frequency] → Bk o83 101 w82 pa21 [u7, u8, u9, u10] → NK 113 K71 [(2, .pointer (some pa16)), (3, .pointer (some pa21)), (5, v48), (6, v78)] w82 := by
    intro x77 w82 o83 v78 e_ hE h47 h79 hb20 hb25
    subst e_
    try dsimp only at hF
    refine hK71 _ _ ?_
    refine CW.seq fun K85 hK85 => ?_
    refine CW.sr fun K86 hK86 => ?_
    refine WL.stepE (OW.fldAddr (FldOk.at f29_3) rfl) rfl ?_
    refine WL.stepE (OW.loadK (off := 3) (List Consumer) (u3) ty27 rfl hb20 rfl rfl) rfl ?_
    refine WL.stepE (OW.len Try.underlying27 rfl (h6.baseM hE rfl)) rfl ?_
    refine WL.p (.int .i64 0) rfl rfl ?_
    refine WL.nx hK86 ?_
    refine CW.block ?_
    obtain ⟨r95, hl94, hF⟩ := bindE hF
    have hJ98 : ∀ (x91 : (List Island)) (w96 : World) (o97 : Cls) (v92 : Value), x91 = r95 → En w0 e0 o97 w96 → OwC 1 44 3 o97 107 108 w96 v92 x91 → NK 113 K85 [(6, v92)] w96 := by
     intro x91 w96 o97 v92 e_ hE h93
     subst e_
     try dsimp only at hF
     refine hK85 _ _ ?_
     refine CW.sr fun K99 hK99 => ?_
     refine WL.p v92 rfl rfl ?_
     have h100 := h93.ow
     obtain ⟨db101, hd102, hk103⟩ := Ow.give 0 h100
     have hm104 : MbOk o97 w96 0 [db101] [107] := ⟨hk103, trivial⟩
     have hf105 : Fn1 Try.prog 73 #[] (fun w_ => Bts [db101] w96 w_) (fun z0_ => board_Islands_1 z0_) := ⟨Try.call73, fun w_ hw_ x0_ r_ hr_ v0_ S0_ hx0_ => by
      refine Calls.mono (board_Islands_1_ok hr_ hx0_) ?_
      rintro _ w_ ⟨_, rfl, oc_, hn_, rfl⟩
      exact ⟨_, rfl, hn_.below rfl, rv_bool.2 rfl⟩⟩
     obtain ⟨y106, q107, hF⟩ := bindE hF
     refine WL.step (OW.call Try.call72 rfl (slices_DeleteFunc_Island_Island_ok q107 hd102 (hm104.sep rfl) hf105 (hm104.nodup rfl))) rfl ?_
     rintro v114 w108 ⟨o112, hn_, h113⟩
     obtain ⟨o109, ev110, hA111⟩ := adopt (o := o97) (ks := [107]) (Ks := [[108]]) 114 ([]) [107, 114] hn_ hm104 rfl rfl rfl rfl
     have h113 := h113.ad (c' := 107) (K' := [108]) hA111 rfl rfl
     have hE := hE.evo ev110 rfl rfl
     refine WL.p v114 rfl rfl ?_
     refine WL.nx hK99 ?_
     obtain rfl := Option.some.inj hF
     exact CW.rets (vs := [v114]) Try.results36 ⟨rfl, trivial⟩ ⟨_, rfl, _, (hE.rn he0 101 [(107, 100)] rfl rfl), (h113.rn (c' := 100) (K' := [101]) rfl rfl)⟩ (fun _ _ h => h)
    refine CW.sub (L' := [(2, .pointer (some pa16)), (3, .pointer (some pa21)), (5, v48), (6, v78), (80, .int .i64 (len a0.Consumers)), (81, .int .i64 0)]) ⟨rfl, rfl, rfl, rfl, rfl, rfl, trivial⟩ ?_
    refine CW.loop (board_Islands_L3 a0 a1 y40) (fun s_ L_ w115 => ∃ (o116 : Cls) (x87 : (List Island)) (x90 : Int) (v88 : Value), (x87, x90) = s_ ∧ L_ = [(2, .pointer (some pa16)), (3, .pointer (some pa21)), (5, v48), (6, v88), (80, .int .i64 (len a0.Consumers)), (81, .int .i64 x90)] ∧ En w0 e0 o116 w115 ∧ Ow 3 o116 106 [] w115 v48 y40 ∧ OwC 1 44 3 o116 107 108 w115 v88 x87 ∧ Bk o116 100 w115 pa16 [.int .i64 a0.Buses, u1, u2, u3, .int .i64 a0.Phase, .int .i64 a0.Frequency] ∧ Bk o116 101 w115 pa21 [u7, u8, u9, u10]) hl94 ?_ ?_
    ·exact ⟨o83, x77, 0, v78, rfl, rfl, hE, h47, h79, hb20, hb25⟩
    intro K117 s_ L_ w115 hi_ x118 hx119 hr120 hk121
    obtain ⟨o116, x87, x90, v88, rfl, rfl, hE, h47, h89, hb20, hb25⟩ := hi_
    rw [board_Islands_L3] at hx119
    refine CW.sr fun K122 hK122 => ?_
    refine WL.p (.bool ((decide (x90 < (len a0.Consumers))))) rfl rfl ?_
    refine WL.nx hK122 ?_
    refine CW.seq fun K123 hK123 => ?_
    refine CW.cond (b := (decide (x90 < (len a0.Consumers)))) rfl (fun hc124 => ?_) (fun hc124 => ?_)
    ·have hx119 := iteT hc124 hx119
     refine CW.skip ?_
     refine hK123 _ _ ?_
     refine CW.seq fun K125 hK125 => ?_
     refine CW.block ?_
     refine CW.sr fun K126 hK126 => ?_
     refine WL.p (.int .i64 x90) rfl rfl ?_
     refine WL.p (.int .i64 x90) rfl rfl ?_
     refine WL.nx hK126 ?_
     refine CW.sr fun K127 hK127 => ?_
     refine WL.stepE (OW.loadK0 Board (.agg #[.int .i64 a0.Buses, u1, u2, u3, .int .i64 a0.Phase, .int .i64 a0.Frequency]) ty29 rfl hb20 rfl rfl) rfl ?_
     refine WL.stepE (OW.loadK0 Power (.agg #[u7, u8, u9, u10]) ty34 rfl hb25 rfl rfl) rfl ?_
     refine WL.p (.int .i64 x90) rfl rfl ?_
     obtain ⟨⟨y128, y129⟩, q130, hx119⟩ := bindE hx119
     dsimp only at hx119
     refine WL.step (OW.call Try.call71 rfl (board_fed_ok q130 (mk29 (x := a0) (h4.baseM hE rfl) (h5.baseM hE rfl) (h6.baseM hE rfl)) (mk34 (x := a1) (h11.baseM hE rfl) (h12.baseM hE rfl) (h13.baseM hE rfl) (h14.baseM hE rfl)))) rfl ?_
     rintro _ w131 ⟨o135, hn_, rfl⟩
     obtain ⟨o132, ev133, hA134⟩ := adopt (o := o116) (ks := []) (Ks := [[40], [40, 41]]) 112 ([]) [112] hn_ MbOk.nil rfl rfl rfl rfl
     have hE := hE.evo ev133 rfl rfl
     have h47 := h47.evo ev133 rfl
     have h89 := h89.evo ev133 rfl
     have hb20 := hb20.evo ev133 rfl
     have hb25 := hb25.evo ev133 rfl
     refine WL.p (.tuple #[.int .i64 y128, .bool y129]) rfl rfl ?_
     refine WL.p (.int .i64 y128) rfl rfl ?_
     refine WL.p (.bool y129) rfl rfl ?_
     refine WL.p (.int .i64 y128) rfl rfl ?_
     refine WL.p (.bool y129) rfl rfl ?_
     refine WL.nx hK127 ?_
     refine CW.sr fun K136 hK136 => ?_
     refine WL.p (.bool y129) rfl rfl ?_
     refine WL.nx hK136 ?_
     obtain ⟨x137, q140, hx119⟩ := bindE hx119
     have hJ143 : ∀ (w141 : World) (o142 : Cls) (v138 : Value), En w0 e0 o142 w141 → OwC 1 44 3 o142 107 108 w141 v138 x137 → Ow 3 o142 106 [] w141 v48 y40 → Bk o142 100 w141 pa16 [.int .i64 a0.Buses, u1, u2, u3, .int .i64 a0.Phase, .int .i64 a0.Frequency] → Bk o142 101 w141 pa21 [u7, u8, u9, u10] → NK 113 K125 [(2, .pointer (some pa16)), (3, .pointer (some pa21)), (5, v48), (6, v138), (80, .int .i64 (len a0.Consumers)), (81, .int .i64 x90)] w141 := by
      intro w141 o142 v138 hE h139 h47 hb20 hb25
      refine hK125 _ _ ?_
      refine CW.region ?_
      refine WL.p (.int .i64 ((W (x90 + 1)))) rfl rfl ?_
      refine WL.p (.int .i64 ((W (x90 + 1)))) rfl rfl ?_
      refine WL.nil ?_
      exact NK.sb (hk121 _ _ _ (Option.some.inj hx119).symm ⟨o142, x137, (W (x90 + 1)), v138, rfl, rfl, hE, h47, h139, hb20, hb25⟩) ⟨rfl, rfl, rfl, rfl, rfl, rfl, trivial⟩
     refine CW.cond (b := y129) rfl (fun hc144 => ?_) (fun hc144 => ?_)
     ·have q140 := iteT hc144 q140
      obtain ⟨y145, q149, q140⟩ := bindE q140
      obtain ⟨y154, q158, q140⟩ := bindE q140
      obtain ⟨y167, q169, q140⟩ := bindE q140
      obtain ⟨y168, q170, q140⟩ := bindE q140
      obtain ⟨y176, q180, q140⟩ := bindE q140
      have ev_ := Evo.drew o132 w131
      refine CW.anyS (N := [107, 108, 113]) hmix [sOw none none [] 3 106 [] (vk v48) y40, sOc none (some 15) [] 1 44 3 107 108 (vk v88) x87, sPo (some 3) none [3] 106 [] (vp 0) y145, sEp (some 3) none [3] (vk v48) 1 y128 (vp 0), sPo (some 8) none [8] 106 [] (vp 0) y145, sEp (some 8) none [8] (vk v48) 1 y128 (vp 0), sPo (some 10) (some 15) [10] 107 [108] (vp 0) y154, sEp (some 10) none [10] (vk v88) 3 y145 (vp 0), sRv (some 12) (some 15) [12] [108] (vn 0) y154.Consumers, sCe (some 12) (some 18) [10, 12] 107 (fun x_ => ((pOf (x_.getD 0 undef)).add 2)) (vn 1), sOw (some 14) none [14] 3 113 [] (vn 0) ([x90] : List Int), sOh (some 15) (some 18) [10, 15] 1 44 3 107 108 (vk v88) y168 (fun x_ => (pOf (x_.getD 0 undef)).add 2) (vn 1), sEp (some 16) none [16] (vk v88) 3 y145 (vp 0), sOc (some 18) none [] 1 44 3 107 108 (vk v88) y168] [⟨[], [], [], [], vk v88, false⟩, ⟨[], [], [], [], vk v48, false⟩, ⟨[], [], [], [], vk (.int .i64 y128), false⟩, ⟨[], [0], [1, 2], [3], vq 0, false⟩, ⟨[], [2], [1, 2, 3], [], vk (.int .i64 y145), false⟩, ⟨[], [], [], [], vk v88, false⟩, ⟨[], [], [], [], vk v48, false⟩, ⟨[], [], [], [], vk (.int .i64 y128), false⟩, ⟨[], [0], [6, 7], [8], vq 0, false⟩, ⟨[], [4], [6, 7, 8], [], vk (.int .i64 y145), false⟩, ⟨[], [1], rg 5 5, [10], vq 0, false⟩, ⟨[], [], rg 5 6, [10], fun x_ => .pointer (some ((pOf (x_.getD 0 undef)).add 2)), false⟩, ⟨[], [6], rg 5 7, [12], vn 0, false⟩, ⟨[], [], [], [], vk (.int .i64 x90), false⟩, ⟨[], [], [13], [14], vn 0, false⟩, ⟨[108], [1, 7, 9, 10], rg 5 10, [15], vn 0, false⟩, ⟨[], [11], rg 0 16, [16], vq 0, false⟩, ⟨[], [], rg 0 17, [16], fun x_ => .pointer (some ((pOf (x_.getD 0 undef)).add 2)), false⟩, ⟨[107], [7, 11, 12], rg 0 18, [], vk undef, false⟩] [107, 108] hE rfl (by kernel_rfl) (by kernel_rfl) ⟨h47.evo ev_ rfl, h89.evo ev_ rfl, trivial⟩ ⟨Ob.pv rfl rfl (fun _ => rfl) rfl (fun _ _ _ => trivial), Ob.pv rfl rfl (fun _ => rfl) rfl (fun _ _ _ => trivial), Ob.pv rfl rfl (fun _ => rfl) rfl (fun _ _ _ => trivial), ?_, ?_, Ob.pv rfl rfl (fun _ => rfl) rfl (fun _ _ _ => trivial), Ob.pv rfl rfl (fun _ => rfl) rfl (fun _ _ _ => trivial), Ob.pv rfl rfl (fun _ => rfl) rfl (fun _ _ _ => trivial), ?_, ?_, ?_, ?_, ?_, Ob.pv rfl rfl (fun _ => rfl) rfl (fun _ _ _ => trivial), ?_, ?_, ?_, ?_, ?_, trivial⟩ ?_
      ·intro vs185 o_ w_ hE h47
       have h47 := tOw h47
       refine OW.r [(93, v48), (94, .int .i64 y128)] ⟨rfl, rfl, trivial⟩ (OW.indexAddrO Try.underlying22 ty3 rfl h47 rfl q149) ?_
       rintro _ _ ⟨rfl, ⟨pa146, hv_, hp147, he148⟩⟩
       subst hv_
       exact ⟨_, Evo.refl _ _ _ _, rfl, hp147, he148, trivial⟩
      ·intro vs185 o_ w_ hE hp147
       have hp147 := tPo hp147
       exact OW.q [(95, .pointer (some (pOf (vs185 3))))] ⟨rfl, trivial⟩ (OW.loadI ty3 rfl hp147.at) (er rfl trivial)
      ·intro vs185 o_ w_ hE h47
       have h47 := tOw h47
       refine OW.r [(98, v48), (99, .int .i64 y128)] ⟨rfl, rfl, trivial⟩ (OW.indexAddrO Try.underlying22 ty3 rfl h47 rfl q149) ?_
       rintro _ _ ⟨rfl, ⟨pa151, hv_, hp152, he153⟩⟩
       subst hv_
       exact ⟨_, Evo.refl _ _ _ _, rfl, hp152, he153, trivial⟩
      ·intro vs185 o_ w_ hE hp152
       have hp152 := tPo hp152
       exact OW.q [(100, .pointer (some (pOf (vs185 8))))] ⟨rfl, trivial⟩ (OW.loadI ty3 rfl hp152.at) (er rfl trivial)
      ·intro vs185 o_ w_ hE h89
       have h89 := tOc h89
       refine OW.r [(97, v88), (101, .int .i64 y145)] ⟨rfl, rfl, trivial⟩ (OW.indexAddrO Try.underlying41 ty44 rfl h89.ow rfl q158) ?_
       rintro _ _ ⟨rfl, ⟨pa155, hv_, hp156, he157⟩⟩
       subst hv_
       exact ⟨_, Evo.refl _ _ _ _, rfl, hp156, he157, trivial⟩
      ·intro vs185 o_ w_ hE 
       exact OW.q [(102, .pointer (some (pOf (vs185 10))))] ⟨rfl, trivial⟩ (OW.fldAddr (FldOk.at f44_2) rfl) (er rfl trivial)
      ·intro vs185 o_ w_ hE hp156
       have hp156 := tPo hp156
       refine OW.r [(103, .pointer (some ((pOf (vs185 10)).add 2)))] ⟨rfl, trivial⟩ (OW.loadCh ty22 rfl (hp156.fld f44_2)) ?_
       rintro v159 _ ⟨rfl, ⟨h160, hc161⟩⟩
       exact ⟨_, Evo.refl _ _ _ _, rfl, h160, hc161, trivial⟩
      ·intro vs185 o_ w_ hE 
       refine OW.r [(105, .int .i64 x90)] ⟨rfl, trivial⟩ (OW.buildSlice (o := o_) (k := 113) (K := []) (xs := ([x90] : List Int)) Try.underlying22 ty3 rfl ⟨(rv_int.2 rfl), trivial⟩ rfl rfl) ?_
       rintro v162 w163 ⟨o164, ev165, h166⟩
       exact ⟨o164, ev165.sub rfl rfl, rfl, h166, trivial⟩
      ·intro vs185 o_ w_ hE h89 he157 hc161 h166
       have h89 := tOc h89
       have he157 := tEp he157
       have hc161 := tCe hc161
       have h166 := tOw h166
       refine OW.r [(104, (vs185 12)), (106, (vs185 14))] ⟨rfl, rfl, trivial⟩ (OW.appendCh (off := 2) (⟨f44_2.prt, s44_2, fun _ _ _ => rfl⟩ : Prt 2 (fun x : Island => x.Consumers) (fun x y => { x with Consumers := y })) Try.underlying22 ty3 rfl rfl h89 he157 hc161 q158 h166.els q169 q170 rfl) ?_
       rintro v171 w172 ⟨o173, ev174, h175⟩
       exact ⟨o173, ev174.sub rfl rfl, rfl, h175, trivial⟩
      ·intro vs185 o_ w_ hE h175
       have h175 := tOh h175
       have hd181 := OwH.hd h175
       refine OW.r [(92, v88), (96, .int .i64 y145)] ⟨rfl, rfl, trivial⟩ (OW.indexAddrH Try.underlying41 ty44 rfl hd181 rfl q180) ?_
       rintro _ _ ⟨rfl, ⟨pa177, hv_, he179⟩⟩
       subst hv_
       exact ⟨_, Evo.refl _ _ _ _, rfl, he179, trivial⟩
      ·intro vs185 o_ w_ hE 
       exact OW.q [(108, .pointer (some (pOf (vs185 16))))] ⟨rfl, trivial⟩ (OW.fldAddr (FldOk.at f44_2) rfl) (er rfl trivial)
      ·intro vs185 o_ w_ hE he157 h175 he179
       have he157 := tEp he157
       have h175 := tOh h175
       have he179 := tEp he179
       refine OW.r [(107, (vs185 15)), (109, .pointer (some ((pOf (vs185 16)).add 2)))] ⟨rfl, rfl, trivial⟩ (OW.storeCh (off := 2) ty22 rfl rfl he157 he179 h175) ?_
       rintro _ w182 ⟨ev183, h184⟩
       exact ⟨o_, ev183.sub rfl rfl, trivial, h184, trivial⟩
      ·intro vs185 o187 w186 hE h47 hp147 he148 hp152 he153 he157 h166 he179 h184
       obtain ⟨hE, evT_⟩ := hE
       have h47 : Ow 3 o187 106 [] w186 v48 y40 := h47
       have hp147 : PtrO o187 106 [] w186 (pOf (vs185 3)) y145 := hp147
       have he148 : EPtr v48 1 y128 (pOf (vs185 3)) := he148
       have hp152 : PtrO o187 106 [] w186 (pOf (vs185 8)) y145 := hp152
       have he153 : EPtr v48 1 y128 (pOf (vs185 8)) := he153
       have he157 : EPtr v88 3 y145 (pOf (vs185 10)) := he157
       have h166 : Ow 3 o187 113 [] w186 (vs185 14) ([x90] : List Int) := h166
       have he179 : EPtr v88 3 y145 (pOf (vs185 16)) := he179
       have h184 : OwC 1 44 3 o187 107 108 w186 v88 y168 := h184
       have hb20 := hb20.evo evT_ rfl
       have hb25 := hb25.evo evT_ rfl
       have e188 := Option.some.inj q140
       subst e188
       exact NK.sb (hJ143 w186 o187 v88 hE h184 h47 hb20 hb25) ⟨rfl, rfl, rfl, rfl, rfl, rfl, trivial⟩
     ·have q140 := iteF hc144 q140
      refine CW.skip ?_
      have e189 := Option.some.inj q140
      subst e189
      exact NK.sb (hJ143 w131 o132 v88 hE h89 h47 hb20 hb25) ⟨rfl, rfl, rfl, rfl, rfl, rfl, trivial⟩
    ·have hx119 := iteF hc124 hx119
     refine CW.exit ?_
     exact NK.sb (hJ98 x87 w115 o116 v88 (hr120 _ (Option.some.inj hx119).symm) hE h89) ⟨rfl, trivial⟩
   refine CW.sub (L' := [(2, .pointer (some pa16)), (3, .pointer (some pa21)), (5, v48), (6, v64), (47, .int .i64 (len a0.Sources)), (48, .int .i64 0)]) ⟨rfl, rfl, rfl, rfl, rfl, rfl, trivial⟩ ?_
   refine CW.loop (board_Islands_L2 a0 a1 y40) (fun s_ L_ w190 => ∃ (o191 : Cls) (x73 : (List Island)) (x76 : Int) (v74 : Value), (x73, x76) = s_ ∧ L_ = [(2, .pointer (some pa16)), (3, .pointer (some pa21)), (5, v48), (6, v74), (47, .int .i64 (len a0.Sources)), (48, .int .i64 x76)] ∧ En w0 e0 o191 w190 ∧ Ow 3 o191 106 [] w190 v48 y40 ∧ OwC 1 44 3 o191 107 108 w190 v74 x73 ∧ Bk o191 100 w190 pa16 [.int .i64 a0.Buses, u1, u2, u3, .int .i64 a0.Phase, .int .i64 a0.Frequency] ∧ Bk o191 101 w190 pa21 [u7, u8, u9, u10]) hl80 ?_ ?_
   ·exact ⟨o69, x63, 0, v64, rfl, rfl, hE, h47, h65, hb20, hb25⟩
   intro K192 s_ L_ w190 hi_ x193 hx194 hr195 hk196
   obtain ⟨o191, x73, x76, v74, rfl, rfl, hE, h47, h75, hb20, hb25⟩ := hi_
   rw [board_Islands_L2] at hx194
   refine CW.sr fun K197 hK197 => ?_
   refine WL.p (.bool ((decide (x76 < (len a0.Sources))))) rfl rfl ?_
   refine WL.nx hK197 ?_
   refine CW.seq fun K198 hK198 => ?_
   refine CW.cond (b := (decide (x76 < (len a0.Sources)))) rfl (fun hc199 => ?_) (fun hc199 => ?_)
   ·have hx194 := iteT hc199 hx194
    refine CW.skip ?_
    refine hK198 _ _ ?_
    refine CW.seq fun K200 hK200 => ?_
    refine CW.block ?_
    refine CW.sr fun K201 hK201 => ?_
    refine WL.p (.int .i64 x76) rfl rfl ?_
    refine WL.p (.int .i64 x76) rfl rfl ?_
    refine WL.nx hK201 ?_
    refine CW.sr fun K202 hK202 => ?_
    refine WL.stepE (OW.loadK0 Board (.agg #[.int .i64 a0.Buses, u1, u2, u3, .int .i64 a0.Phase, .int .i64 a0.Frequency]) ty29 rfl hb20 rfl rfl) rfl ?_
    refine WL.stepE (OW.loadK0 Power (.agg #[u7, u8, u9, u10]) ty34 rfl hb25 rfl rfl) rfl ?_
    refine WL.p (.int .i64 x76) rfl rfl ?_
    obtain ⟨⟨y203, y204⟩, q205, hx194⟩ := bindE hx194
    dsimp only at hx194
    refine WL.step (OW.call Try.call70 rfl (board_connected_ok q205 (mk29 (x := a0) (h4.baseM hE rfl) (h5.baseM hE rfl) (h6.baseM hE rfl)) (mk34 (x := a1) (h11.baseM hE rfl) (h12.baseM hE rfl) (h13.baseM hE rfl) (h14.baseM hE rfl)))) rfl ?_
    rintro _ w206 ⟨o210, hn_, rfl⟩
    obtain ⟨o207, ev208, hA209⟩ := adopt (o := o191) (ks := []) (Ks := [[40], [40, 41]]) 110 ([]) [110] hn_ MbOk.nil rfl rfl rfl rfl
    have hE := hE.evo ev208 rfl rfl
    have h47 := h47.evo ev208 rfl
    have h75 := h75.evo ev208 rfl
    have hb20 := hb20.evo ev208 rfl
    have hb25 := hb25.evo ev208 rfl
    refine WL.p (.tuple #[.int .i64 y203, .bool y204]) rfl rfl ?_
    refine WL.p (.int .i64 y203) rfl rfl ?_
    refine WL.p (.bool y204) rfl rfl ?_
    refine WL.p (.int .i64 y203) rfl rfl ?_
    refine WL.p (.bool y204) rfl rfl ?_
    refine WL.nx hK202 ?_
    refine CW.sr fun K211 hK211 => ?_
    refine WL.p (.bool y204) rfl rfl ?_
    refine WL.nx hK211 ?_
    obtain ⟨x212, q215, hx194⟩ := bindE hx194
    have hJ218 : ∀ (w216 : World) (o217 : Cls) (v213 : Value), En w0 e0 o217 w216 → OwC 1 44 3 o217 107 108 w216 v213 x212 → Ow 3 o217 106 [] w216 v48 y40 → Bk o217 100 w216 pa16 [.int .i64 a0.Buses, u1, u2, u3, .int .i64 a0.Phase, .int .i64 a0.Frequency] → Bk o217 101 w216 pa21 [u7, u8, u9, u10] → NK 113 K200 [(2, .pointer (some pa16)), (3, .pointer (some pa21)), (5, v48), (6, v213), (47, .int .i64 (len a0.Sources)), (48, .int .i64 x76)] w216 := by
     intro w216 o217 v213 hE h214 h47 hb20 hb25
     refine hK200 _ _ ?_
     refine CW.region ?_
     refine WL.p (.int .i64 ((W (x76 + 1)))) rfl rfl ?_
     refine WL.p (.int .i64 ((W (x76 + 1)))) rfl rfl ?_
     refine WL.nil ?_
     exact NK.sb (hk196 _ _ _ (Option.some.inj hx194).symm ⟨o217, x212, (W (x76 + 1)), v213, rfl, rfl, hE, h47, h214, hb20, hb25⟩) ⟨rfl, rfl, rfl, rfl, rfl, rfl, trivial⟩
    refine CW.cond (b := y204) rfl (fun hc219 => ?_) (fun hc219 => ?_)
    ·have q215 := iteT hc219 q215
     obtain ⟨y220, q224, q215⟩ := bindE q215
     obtain ⟨y229, q233, q215⟩ := bindE q215
     obtain ⟨y242, q244, q215⟩ := bindE q215
     obtain ⟨y243, q245, q215⟩ := bindE q215
     obtain ⟨y251, q255, q215⟩ := bindE q215
     have ev_ := Evo.drew o207 w206
     refine CW.anyS (N := [107, 108, 111]) hmix [sOw none none [] 3 106 [] (vk v48) y40, sOc none (some 15) [] 1 44 3 107 108 (vk v74) x73, sPo (some 3) none [3] 106 [] (vp 0) y220, sEp (some 3) none [3] (vk v48) 1 y203 (vp 0), sPo (some 8) none [8] 106 [] (vp 0) y220, sEp (some 8) none [8] (vk v48) 1 y203 (vp 0), sPo (some 10) (some 15) [10] 107 [108] (vp 0) y229, sEp (some 10) none [10] (vk v74) 3 y220 (vp 0), sRv (some 12) (some 15) [12] [108] (vn 0) y229.Sources, sCe (some 12) (some 18) [10, 12] 107 (fun x_ => ((pOf (x_.getD 0 undef)).add 1)) (vn 1), sOw (some 14) none [14] 3 111 [] (vn 0) ([x76] : List Int), sOh (some 15) (some 18) [10, 15] 1 44 3 107 108 (vk v74) y243 (fun x_ => (pOf (x_.getD 0 undef)).add 1) (vn 1), sEp (some 16) none [16] (vk v74) 3 y220 (vp 0), sOc (some 18) none [] 1 44 3 107 108 (vk v74) y243] [⟨[], [], [], [], vk v74, false⟩, ⟨[], [], [], [], vk v48, false⟩, ⟨[], [], [], [], vk (.int .i64 y203), false⟩, ⟨[], [0], [1, 2], [3], vq 0, false⟩, ⟨[], [2], [1, 2, 3], [], vk (.int .i64 y220), false⟩, ⟨[], [], [], [], vk v74, false⟩, ⟨[], [], [], [], vk v48, false⟩, ⟨[], [], [], [], vk (.int .i64 y203), false⟩, ⟨[], [0], [6, 7], [8], vq 0, false⟩, ⟨[], [4], [6, 7, 8], [], vk (.int .i64 y220), false⟩, ⟨[], [1], rg 5 5, [10], vq 0, false⟩, ⟨[], [], rg 5 6, [10], fun x_ => .pointer (some ((pOf (x_.getD 0 undef)).add 1)), false⟩, ⟨[], [6], rg 5 7, [12], vn 0, false⟩, ⟨[], [], [], [], vk (.int .i64 x76), false⟩, ⟨[], [], [13], [14], vn 0, false⟩, ⟨[108], [1, 7, 9, 10], rg 5 10, [15], vn 0, false⟩, ⟨[], [11], rg 0 16, [16], vq 0, false⟩, ⟨[], [], rg 0 17, [16], fun x_ => .pointer (some ((pOf (x_.getD 0 undef)).add 1)), false⟩, ⟨[107], [7, 11, 12], rg 0 18, [], vk undef, false⟩] [107, 108] hE rfl (by kernel_rfl) (by kernel_rfl) ⟨h47.evo ev_ rfl, h75.evo ev_ rfl, trivial⟩ ⟨Ob.pv rfl rfl (fun _ => rfl) rfl (fun _ _ _ => trivial), Ob.pv rfl rfl (fun _ => rfl) rfl (fun _ _ _ => trivial), Ob.pv rfl rfl (fun _ => rfl) rfl (fun _ _ _ => trivial), ?_, ?_, Ob.pv rfl rfl (fun _ => rfl) rfl (fun _ _ _ => trivial), Ob.pv rfl rfl (fun _ => rfl) rfl (fun _ _ _ => trivial), Ob.pv rfl rfl (fun _ => rfl) rfl (fun _ _ _ => trivial), ?_, ?_, ?_, ?_, ?_, Ob.pv rfl rfl (fun _ => rfl) rfl (fun _ _ _ => trivial), ?_, ?_, ?_, ?_, ?_, trivial⟩ ?_
     ·intro vs260 o_ w_ hE h47
      have h47 := tOw h47
      refine OW.r [(60, v48), (61, .int .i64 y203)] ⟨rfl, rfl, trivial⟩ (OW.indexAddrO Try.underlying22 ty3 rfl h47 rfl q224) ?_
      rintro _ _ ⟨rfl, ⟨pa221, hv_, hp222, he223⟩⟩
      subst hv_
      exact ⟨_, Evo.refl _ _ _ _, rfl, hp222, he223, trivial⟩
     ·intro vs260 o_ w_ hE hp222
      have hp222 := tPo hp222
      exact OW.q [(62, .pointer (some (pOf (vs260 3))))] ⟨rfl, trivial⟩ (OW.loadI ty3 rfl hp222.at) (er rfl trivial)
     ·intro vs260 o_ w_ hE h47
      have h47 := tOw h47
      refine OW.r [(65, v48), (66, .int .i64 y203)] ⟨rfl, rfl, trivial⟩ (OW.indexAddrO Try.underlying22 ty3 rfl h47 rfl q224) ?_
      rintro _ _ ⟨rfl, ⟨pa226, hv_, hp227, he228⟩⟩
      subst hv_
      exact ⟨_, Evo.refl _ _ _ _, rfl, hp227, he228, trivial⟩
     ·intro vs260 o_ w_ hE hp227
      have hp227 := tPo hp227
      exact OW.q [(67, .pointer (some (pOf (vs260 8))))] ⟨rfl, trivial⟩ (OW.loadI ty3 rfl hp227.at) (er rfl trivial)
     ·intro vs260 o_ w_ hE h75
      have h75 := tOc h75
      refine OW.r [(64, v74), (68, .int .i64 y220)] ⟨rfl, rfl, trivial⟩ (OW.indexAddrO Try.underlying41 ty44 rfl h75.ow rfl q233) ?_
      rintro _ _ ⟨rfl, ⟨pa230, hv_, hp231, he232⟩⟩
      subst hv_
      exact ⟨_, Evo.refl _ _ _ _, rfl, hp231, he232, trivial⟩
     ·intro vs260 o_ w_ hE 
      exact OW.q [(69, .pointer (some (pOf (vs260 10))))] ⟨rfl, trivial⟩ (OW.fldAddr (FldOk.at f44_1) rfl) (er rfl trivial)
     ·intro vs260 o_ w_ hE hp231
      have hp231 := tPo hp231
      refine OW.r [(70, .pointer (some ((pOf (vs260 10)).add 1)))] ⟨rfl, trivial⟩ (OW.loadCh ty22 rfl (hp231.fld f44_1)) ?_
      rintro v234 _ ⟨rfl, ⟨h235, hc236⟩⟩
      exact ⟨_, Evo.refl _ _ _ _, rfl, h235, hc236, trivial⟩
     ·intro vs260 o_ w_ hE 
      refine OW.r [(72, .int .i64 x76)] ⟨rfl, trivial⟩ (OW.buildSlice (o := o_) (k := 111) (K := []) (xs := ([x76] : List Int)) Try.underlying22 ty3 rfl ⟨(rv_int.2 rfl), trivial⟩ rfl rfl) ?_
      rintro v237 w238 ⟨o239, ev240, h241⟩
      exact ⟨o239, ev240.sub rfl rfl, rfl, h241, trivial⟩
     ·intro vs260 o_ w_ hE h75 he232 hc236 h241
      have h75 := tOc h75
      have he232 := tEp he232
      have hc236 := tCe hc236
      have h241 := tOw h241
      refine OW.r [(71, (vs260 12)), (73, (vs260 14))] ⟨rfl, rfl, trivial⟩ (OW.appendCh (off := 1) (⟨f44_1.prt, s44_1, fun _ _ _ => rfl⟩ : Prt 1 (fun x : Island => x.Sources) (fun x y => { x with Sources := y })) Try.underlying22 ty3 rfl rfl h75 he232 hc236 q233 h241.els q244 q245 rfl) ?_
      rintro v246 w247 ⟨o248, ev249, h250⟩
      exact ⟨o248, ev249.sub rfl rfl, rfl, h250, trivial⟩
     ·intro vs260 o_ w_ hE h250
      have h250 := tOh h250
      have hd256 := OwH.hd h250
      refine OW.r [(59, v74), (63, .int .i64 y220)] ⟨rfl, rfl, trivial⟩ (OW.indexAddrH Try.underlying41 ty44 rfl hd256 rfl q255) ?_
      rintro _ _ ⟨rfl, ⟨pa252, hv_, he254⟩⟩
      subst hv_
      exact ⟨_, Evo.refl _ _ _ _, rfl, he254, trivial⟩
     ·intro vs260 o_ w_ hE 
      exact OW.q [(75, .pointer (some (pOf (vs260 16))))] ⟨rfl, trivial⟩ (OW.fldAddr (FldOk.at f44_1) rfl) (er rfl trivial)
     ·intro vs260 o_ w_ hE he232 h250 he254
      have he232 := tEp he232
      have h250 := tOh h250
      have he254 := tEp he254
      refine OW.r [(74, (vs260 15)), (76, .pointer (some ((pOf (vs260 16)).add 1)))] ⟨rfl, rfl, trivial⟩ (OW.storeCh (off := 1) ty22 rfl rfl he232 he254 h250) ?_
      rintro _ w257 ⟨ev258, h259⟩
      exact ⟨o_, ev258.sub rfl rfl, trivial, h259, trivial⟩
     ·intro vs260 o262 w261 hE h47 hp222 he223 hp227 he228 he232 h241 he254 h259
      obtain ⟨hE, evT_⟩ := hE
      have h47 : Ow 3 o262 106 [] w261 v48 y40 := h47
      have hp222 : PtrO o262 106 [] w261 (pOf (vs260 3)) y220 := hp222
      have he223 : EPtr v48 1 y203 (pOf (vs260 3)) := he223
      have hp227 : PtrO o262 106 [] w261 (pOf (vs260 8)) y220 := hp227
      have he228 : EPtr v48 1 y203 (pOf (vs260 8)) := he228
      have he232 : EPtr v74 3 y220 (pOf (vs260 10)) := he232
      have h241 : Ow 3 o262 111 [] w261 (vs260 14) ([x76] : List Int) := h241
      have he254 : EPtr v74 3 y220 (pOf (vs260 16)) := he254
      have h259 : OwC 1 44 3 o262 107 108 w261 v74 y243 := h259
      have hb20 := hb20.evo evT_ rfl
      have hb25 := hb25.evo evT_ rfl
      have e263 := Option.some.inj q215
      subst e263
      exact NK.sb (hJ218 w261 o262 v74 hE h259 h47 hb20 hb25) ⟨rfl, rfl, rfl, rfl, rfl, rfl, trivial⟩
    ·have q215 := iteF hc219 q215
     refine CW.skip ?_
     have e264 := Option.some.inj q215
     subst e264
     exact NK.sb (hJ218 w206 o207 v74 hE h75 h47 hb20 hb25) ⟨rfl, rfl, rfl, rfl, rfl, rfl, trivial⟩
   ·have hx194 := iteF hc199 hx194
    refine CW.exit ?_
    exact NK.sb (hJ84 x73 w190 o191 v74 (hr195 _ (Option.some.inj hx194).symm) hE h47 h75 hb20 hb25) ⟨rfl, rfl, rfl, rfl, trivial⟩
  refine CW.sub (L' := [(2, .pointer (some pa16)), (3, .pointer (some pa21)), (5, v48), (6, v52), (25, v48), (26, .int .i64 (len y40)), (27, .int .i64 0)]) ⟨rfl, rfl, rfl, rfl, rfl, rfl, rfl, trivial⟩ ?_
  refine CW.loop (board_Islands_L1 y40) (fun s_ L_ w265 => ∃ (o266 : Cls) (x59 : (List Island)) (x62 : Int) (v60 : Value), (x59, x62) = s_ ∧ L_ = [(2, .pointer (some pa16)), (3, .pointer (some pa21)), (5, v48), (6, v60), (25, v48), (26, .int .i64 (len y40)), (27, .int .i64 x62)] ∧ En w0 e0 o266 w265 ∧ Ow 3 o266 106 [] w265 v48 y40 ∧ OwC 1 44 3 o266 107 108 w265 v60 x59 ∧ Bk o266 100 w265 pa16 [.int .i64 a0.Buses, u1, u2, u3, .int .i64 a0.Phase, .int .i64 a0.Frequency] ∧ Bk o266 101 w265 pa21 [u7, u8, u9, u10]) hl66 ?_ ?_
  ·exact ⟨o54, y50, 0, v52, rfl, rfl, hE, h47, h56, hb20, hb25⟩
  intro K267 s_ L_ w265 hi_ x268 hx269 hr270 hk271
  obtain ⟨o266, x59, x62, v60, rfl, rfl, hE, h47, h61, hb20, hb25⟩ := hi_
  rw [board_Islands_L1] at hx269
  refine CW.sr fun K272 hK272 => ?_
  refine WL.p (.bool ((decide (x62 < (len y40))))) rfl rfl ?_
  refine WL.nx hK272 ?_
  refine CW.seq fun K273 hK273 => ?_
  refine CW.cond (b := (decide (x62 < (len y40)))) rfl (fun hc274 => ?_) (fun hc274 => ?_)
  ·have hx269 := iteT hc274 hx269
   refine CW.skip ?_
   refine hK273 _ _ ?_
   refine CW.seq fun K275 hK275 => ?_
   refine CW.block ?_
   refine CW.sr fun K276 hK276 => ?_
   refine WL.p (.int .i64 x62) rfl rfl ?_
   obtain ⟨y277, q281, hx269⟩ := bindE hx269
   refine WL.stepP (OW.indexAddrO Try.underlying22 ty3 rfl h47 rfl q281) rfl fun _ ⟨pa278, hv_, hp279, he280⟩ => ?_
   subst hv_
   refine WL.stepE (OW.loadI ty3 rfl hp279.at) rfl ?_
   refine WL.p (.int .i64 x62) rfl rfl ?_
   refine WL.p (.int .i64 y277) rfl rfl ?_
   refine WL.nx hK276 ?_
   refine CW.region ?_
   refine WL.p v60 rfl rfl ?_
   refine WL.p (.int .i64 y277) rfl rfl ?_
   refine WL.p v60 rfl rfl ?_
   refine WL.p (.int .i64 y277) rfl rfl ?_
   obtain ⟨y282, q286, hx269⟩ := bindE hx269
   refine WL.stepP (OW.indexAddrO Try.underlying41 ty44 rfl h61.ow rfl q286) rfl fun _ ⟨pa283, hv_, hp284, he285⟩ => ?_
   subst hv_
   refine WL.stepE (OW.fldAddr (FldOk.at f44_0) rfl) rfl ?_
   refine WL.stepP (OW.loadCh ty22 rfl (hp284.fld f44_0)) rfl fun v287 ⟨h288, hc289⟩ => ?_
   refine WL.p (.int .i64 x62) rfl rfl ?_
   refine WL.step (OW.buildSlice (o := o266) (k := 109) (K := []) (xs := ([x62] : List Int)) Try.underlying22 ty3 rfl ⟨(rv_int.2 rfl), trivial⟩ rfl rfl) rfl ?_
   rintro v290 w291 ⟨o292, ev293, h294⟩
   have hE := hE.evo ev293 rfl rfl
   have h288 := h288.evo ev293 rfl
   have h47 := h47.evo ev293 rfl
   have h61 := h61.evo ev293 rfl
   have hc289 := hc289.evo ev293 rfl
   have hb20 := hb20.evo ev293 rfl
   have hb25 := hb25.evo ev293 rfl
   obtain ⟨y295, q297, hx269⟩ := bindE hx269
   obtain ⟨y296, q298, hx269⟩ := bindE hx269
   refine WL.step (OW.appendCh (off := 0) (⟨f44_0.prt, s44_0, fun _ _ _ => rfl⟩ : Prt 0 (fun x : Island => x.Buses) (fun x y => { x with Buses := y })) Try.underlying22 ty3 rfl rfl h61 he285 hc289 q286 h294.els q297 q298 rfl) rfl ?_
   rintro v299 w300 ⟨o301, ev302, h303⟩
   have hE := hE.evo ev302 rfl rfl
   have h294 := h294.evo ev302 rfl
   have h47 := h47.evo ev302 rfl
   have hc289 := hc289.evo ev302 rfl
   have hb20 := hb20.evo ev302 rfl
   have hb25 := hb25.evo ev302 rfl
   obtain ⟨y304, q308, hx269⟩ := bindE hx269
   have hd309 := OwH.hd h303
   refine WL.stepP (OW.indexAddrH Try.underlying41 ty44 rfl hd309 rfl q308) rfl fun _ ⟨pa305, hv_, he307⟩ => ?_
   subst hv_
   refine WL.stepE (OW.fldAddr (FldOk.at f44_0) rfl) rfl ?_
   refine WL.step0 (OW.storeCh (off := 0) ty22 rfl rfl he285 he307 h303) ?_
   rintro _ w310 ⟨ev311, h312⟩
   have hE := hE.evo ev311 rfl rfl
   have h47 := h47.evo ev311 rfl
   have hb20 := hb20.evo ev311 rfl
   have hb25 := hb25.evo ev311 rfl
   refine WL.nil ?_
   refine hK275 _ _ ?_
   refine CW.region ?_
   refine WL.p (.int .i64 ((W (x62 + 1)))) rfl rfl ?_
   refine WL.p (.int .i64 ((W (x62 + 1)))) rfl rfl ?_
   refine WL.nil ?_
   exact NK.sb (hk271 _ _ _ (Option.some.inj hx269).symm ⟨o301, y296, (W (x62 + 1)), v60, rfl, rfl, hE, h47, h312, hb20, hb25⟩) ⟨rfl, rfl, rfl, rfl, rfl, rfl, rfl, trivial⟩
  ·have hx269 := iteF hc274 hx269
   refine CW.exit ?_
   exact NK.sb (hJ70 x59 w265 o266 v60 (hr270 _ (Option.some.inj hx269).symm) hE h47 h61 hb20 hb25) ⟨rfl, rfl, rfl, rfl, trivial⟩

end Go.Proofs.Ytdfkfohpgakihaa
