/- Walks. Written by a program (wip/gen). -/
import Derived.Test.YtdfkfohpgakihaaHw
import Derived.Test.YtdfkfohpgakihaaWk1
set_option linter.unusedVariables false
set_option linter.unusedSimpArgs false
namespace Go.Proofs.Ytdfkfohpgakihaa
open Go Go.RowKit Dp

set_option maxRecDepth 100000

set_option maxHeartbeats 1000000 in
theorem board_groups_ok {a0 : Board} {a1 : Power} {r : (List Int)} (hF : board_groups a0 a1 = some r) {w0 : World} {p0 : Value} {S0 : Nat → Prop} (g0 : Rv S0 w0 p0 a0) {p1 : Value} {S1 : Nat → Prop} (g1 : Rv S1 w0 p1 a1) :
    Calls Try.prog 69 #[p0, p1] w0 (Ret fun v w' => ∃ (oc : Cls), En w0 (entM w0 [] [S0, S1]) oc w' ∧ Ow 3 oc 100 [] w' v r) := by
 obtain ⟨e0, he0⟩ : ∃ e0, e0 = entM w0 [] [S0, S1] := ⟨_, rfl⟩
 have hE := En.refl w0 e0
 have g0 := g0.argM he0 0 (K := [40]) rfl (nosep rfl) rfl
 have g1 := g1.argM he0 1 (K := [40, 41]) rfl (nosep rfl) rfl
 obtain ⟨u1, u2, u3, rfl, h4, h5, h6⟩ := op29 g0
 obtain ⟨u7, u8, u9, u10, rfl, h11, h12, h13, h14⟩ := op34 g1
 rw [board_groups] at hF
 refine enter (l := [.agg #[.int .i64 a0.Buses, u1, u2, u3, .int .i64 a0.Phase, .int .i64 a0.Frequency], .agg #[u7, u8, u9, u10]]) Try.func69 rfl Try.ntmps69 rfl ?_
 refine CW.sub (L' := [(0, .agg #[.int .i64 a0.Buses, u1, u2, u3, .int .i64 a0.Phase, .int .i64 a0.Frequency]), (1, .agg #[u7, u8, u9, u10])]) ⟨rfl, rfl, trivial⟩ ?_
 refine CW.sr fun K15 hK15 => ?_
 refine WL.step (OW.boxK (o := e0) 100 [.int .i64 a0.Buses, u1, u2, u3, .int .i64 a0.Phase, .int .i64 a0.Frequency] rfl rfl) rfl ?_
 rintro _ w18 ⟨pa16, o17, rfl, ev19, hb20⟩
 have hE := hE.evo ev19 rfl rfl
 refine WL.step (OW.boxK (o := o17) 101 [u7, u8, u9, u10] rfl rfl) rfl ?_
 rintro _ w23 ⟨pa21, o22, rfl, ev24, hb25⟩
 have hE := hE.evo ev24 rfl rfl
 have hb20 := hb20.evo ev24 rfl
 have h26 := Ow.nil (α := Int) 3 o22 102 [] w23
 refine WL.p (.slice none 0 0) rfl rfl ?_
 refine WL.nx hK15 ?_
 refine CW.sr fun K27 hK27 => ?_
 refine WL.stepE (OW.fldAddr (FldOk.at f29_0) rfl) rfl ?_
 refine WL.stepE (OW.loadK (off := 0) Int (.int .i64 a0.Buses) ty3 rfl hb20 rfl rfl) rfl ?_
 obtain ⟨y28, q29, hF⟩ := bindE hF
 refine WL.step (OW.make (o := o22) (k := 103) Try.underlying22 ty3 rfl rfl q29) rfl ?_
 rintro v30 w31 ⟨o32, ev33, h34⟩
 have hE := hE.evo ev33 rfl rfl
 have hb20 := hb20.evo ev33 rfl
 have hb25 := hb25.evo ev33 rfl
 refine WL.p v30 rfl rfl ?_
 refine WL.nx hK27 ?_
 refine CW.seq fun K35 hK35 => ?_
 refine CW.sr fun K36 hK36 => ?_
 refine WL.p v30 rfl rfl ?_
 refine WL.stepE (OW.len Try.underlying22 rfl h34.rv) rfl ?_
 refine WL.p (.int .i64 0) rfl rfl ?_
 refine WL.nx hK36 ?_
 refine CW.block ?_
 obtain ⟨r45, hl44, hF⟩ := bindE hF
 have hJ48 : ∀ (x41 : (List Int)) (w46 : World) (o47 : Cls) (v42 : Value), x41 = r45 → En w0 e0 o47 w46 → Ow 3 o47 103 [] w46 v42 x41 → Bk o47 100 w46 pa16 [.int .i64 a0.Buses, u1, u2, u3, .int .i64 a0.Phase, .int .i64 a0.Frequency] → Bk o47 101 w46 pa21 [u7, u8, u9, u10] → NK 69 K35 [(2, .pointer (some pa16)), (3, .pointer (some pa21)), (5, v42)] w46 := by
  intro x41 w46 o47 v42 e_ hE h43 hb20 hb25
  subst e_
  try dsimp only at hF
  refine hK35 _ _ ?_
  refine CW.seq fun K49 hK49 => ?_
  refine CW.sr fun K50 hK50 => ?_
  refine WL.p v42 rfl rfl ?_
  refine WL.stepE (OW.len Try.underlying22 rfl h43.rv) rfl ?_
  refine WL.p (.int .i64 0) rfl rfl ?_
  refine WL.nx hK50 ?_
  refine CW.block ?_
  obtain ⟨r59, hl58, hF⟩ := bindE hF
  have hJ62 : ∀ (x55 : (List Int)) (w60 : World) (o61 : Cls) (v56 : Value), x55 = r59 → En w0 e0 o61 w60 → Ow 3 o61 103 [] w60 v56 x55 → NK 69 K49 [(5, v56)] w60 := by
   intro x55 w60 o61 v56 e_ hE h57
   subst e_
   try dsimp only at hF
   refine hK49 _ _ ?_
   refine CW.sr fun K63 hK63 => ?_
   refine WL.p v56 rfl rfl ?_
   refine WL.p v56 rfl rfl ?_
   refine WL.nx hK63 ?_
   obtain rfl := Option.some.inj hF
   exact CW.rets (vs := [v56]) Try.results69 ⟨rfl, trivial⟩ ⟨_, rfl, _, (hE.rn he0 101 [(103, 100)] rfl rfl), (h57.rn (c' := 100) (K' := []) rfl rfl)⟩ (fun _ _ h => h)
  refine CW.sub (L' := [(2, .pointer (some pa16)), (3, .pointer (some pa21)), (5, v42), (24, .int .i64 (len x41)), (25, .int .i64 0)]) ⟨rfl, rfl, rfl, rfl, rfl, trivial⟩ ?_
  refine CW.loop (board_groups_L2 a0 a1 x41) (fun s_ L_ w64 => ∃ (o65 : Cls) (x51 : (List Int)) (x54 : Int) (v52 : Value), (x51, x54) = s_ ∧ L_ = [(2, .pointer (some pa16)), (3, .pointer (some pa21)), (5, v52), (24, .int .i64 (len x41)), (25, .int .i64 x54)] ∧ En w0 e0 o65 w64 ∧ Ow 3 o65 103 [] w64 v52 x51 ∧ Bk o65 100 w64 pa16 [.int .i64 a0.Buses, u1, u2, u3, .int .i64 a0.Phase, .int .i64 a0.Frequency] ∧ Bk o65 101 w64 pa21 [u7, u8, u9, u10]) hl58 ?_ ?_
  ·exact ⟨o47, x41, 0, v42, rfl, rfl, hE, h43, hb20, hb25⟩
  intro K66 s_ L_ w64 hi_ x67 hx68 hr69 hk70
  obtain ⟨o65, x51, x54, v52, rfl, rfl, hE, h53, hb20, hb25⟩ := hi_
  rw [board_groups_L2] at hx68
  refine CW.sr fun K71 hK71 => ?_
  refine WL.p (.bool ((decide (x54 < (len x41))))) rfl rfl ?_
  refine WL.nx hK71 ?_
  refine CW.seq fun K72 hK72 => ?_
  refine CW.cond (b := (decide (x54 < (len x41)))) rfl (fun hc73 => ?_) (fun hc73 => ?_)
  ·have hx68 := iteT hc73 hx68
   refine CW.skip ?_
   refine hK72 _ _ ?_
   refine CW.seq fun K74 hK74 => ?_
   refine CW.block ?_
   refine CW.sr fun K75 hK75 => ?_
   refine WL.stepE (OW.fldAddr (FldOk.at f29_1) rfl) rfl ?_
   refine WL.stepE (OW.loadK (off := 1) (List Breaker) (u1) ty25 rfl hb20 rfl rfl) rfl ?_
   refine WL.stepE (OW.len Try.underlying25 rfl (h4.baseM hE rfl)) rfl ?_
   refine WL.p (.int .i64 0) rfl rfl ?_
   refine WL.nx hK75 ?_
   refine CW.block ?_
   obtain ⟨r84, hl83, hx68⟩ := bindE hx68
   have hJ87 : ∀ (x80 : (List Int)) (w85 : World) (o86 : Cls) (v81 : Value), x80 = r84 → En w0 e0 o86 w85 → Ow 3 o86 103 [] w85 v81 x80 → Bk o86 100 w85 pa16 [.int .i64 a0.Buses, u1, u2, u3, .int .i64 a0.Phase, .int .i64 a0.Frequency] → Bk o86 101 w85 pa21 [u7, u8, u9, u10] → NK 69 K74 [(2, .pointer (some pa16)), (3, .pointer (some pa21)), (5, v81), (24, .int .i64 (len x41)), (25, .int .i64 x54)] w85 := by
    intro x80 w85 o86 v81 e_ hE h82 hb20 hb25
    subst e_
    try dsimp only at hx68
    refine hK74 _ _ ?_
    refine CW.region ?_
    refine WL.p (.int .i64 ((W (x54 + 1)))) rfl rfl ?_
    refine WL.p (.int .i64 ((W (x54 + 1)))) rfl rfl ?_
    refine WL.nil ?_
    exact NK.sb (hk70 _ _ _ (Option.some.inj hx68).symm ⟨o86, x80, (W (x54 + 1)), v81, rfl, rfl, hE, h82, hb20, hb25⟩) ⟨rfl, rfl, rfl, rfl, rfl, trivial⟩
   refine CW.sub (L' := [(2, .pointer (some pa16)), (3, .pointer (some pa21)), (5, v52), (24, .int .i64 (len x41)), (25, .int .i64 x54), (28, u1), (29, .int .i64 (len a0.Breakers)), (30, .int .i64 0)]) ⟨rfl, rfl, rfl, rfl, rfl, rfl, rfl, rfl, trivial⟩ ?_
   refine CW.loop (board_groups_L3 a0 a1) (fun s_ L_ w88 => ∃ (o89 : Cls) (x76 : (List Int)) (x79 : Int) (v77 : Value), (x76, x79) = s_ ∧ L_ = [(2, .pointer (some pa16)), (3, .pointer (some pa21)), (5, v77), (24, .int .i64 (len x41)), (25, .int .i64 x54), (28, u1), (29, .int .i64 (len a0.Breakers)), (30, .int .i64 x79)] ∧ En w0 e0 o89 w88 ∧ Ow 3 o89 103 [] w88 v77 x76 ∧ Bk o89 100 w88 pa16 [.int .i64 a0.Buses, u1, u2, u3, .int .i64 a0.Phase, .int .i64 a0.Frequency] ∧ Bk o89 101 w88 pa21 [u7, u8, u9, u10]) hl83 ?_ ?_
   ·exact ⟨o65, x51, 0, v52, rfl, rfl, hE, h53, hb20, hb25⟩
   intro K90 s_ L_ w88 hi_ x91 hx92 hr93 hk94
   obtain ⟨o89, x76, x79, v77, rfl, rfl, hE, h78, hb20, hb25⟩ := hi_
   rw [board_groups_L3] at hx92
   refine CW.sr fun K95 hK95 => ?_
   refine WL.p (.bool ((decide (x79 < (len a0.Breakers))))) rfl rfl ?_
   refine WL.nx hK95 ?_
   refine CW.seq fun K96 hK96 => ?_
   refine CW.cond (b := (decide (x79 < (len a0.Breakers)))) rfl (fun hc97 => ?_) (fun hc97 => ?_)
   ·have hx92 := iteT hc97 hx92
    refine CW.skip ?_
    refine hK96 _ _ ?_
    refine CW.seq fun K98 hK98 => ?_
    refine CW.block ?_
    refine CW.sr fun K99 hK99 => ?_
    refine WL.p (.int .i64 x79) rfl rfl ?_
    obtain ⟨y100, q104, hx92⟩ := bindE hx92
    refine WL.stepP (OW.indexAddr Try.underlying25 ty59 rfl (h4.baseM hE rfl) rfl q104) rfl fun _ ⟨pa101, hv_, hp102, he103⟩ => ?_
    subst hv_
    refine WL.stepP (OW.load ty59 rfl hp102) rfl fun v105 h106 => ?_
    obtain rfl := op59 h106
    refine WL.step (OW.allocK (o := o89) Breaker 104 [.int .i64 0, .int .i64 0, .int .i64 0] ty59 rfl) rfl ?_
    rintro _ w109 ⟨pa107, o108, rfl, ev110, hb111⟩
    have hE := hE.evo ev110 rfl rfl
    have h78 := h78.evo ev110 rfl
    have hb20 := hb20.evo ev110 rfl
    have hb25 := hb25.evo ev110 rfl
    refine WL.p (.int .i64 x79) rfl rfl ?_
    refine WL.step0 (OW.storeK0 Breaker [.int .i64 y100.Kind, .int .i64 y100.A, .int .i64 y100.B] [.int .i64 y100.Kind, .int .i64 y100.A, .int .i64 y100.B] ty59 rfl rfl hb111 rfl ⟨rfl, rfl, rfl, trivial⟩ rfl rfl rfl) ?_
    rintro _ w112 ⟨ev113, hb111⟩
    have hE := hE.evo ev113 rfl rfl
    have h78 := h78.evo ev113 rfl
    have hb20 := hb20.evo ev113 rfl
    have hb25 := hb25.evo ev113 rfl
    refine WL.nx hK99 ?_
    refine CW.sr fun K114 hK114 => ?_
    refine WL.stepE (OW.fldAddr (FldOk.at f59_0) rfl) rfl ?_
    refine WL.stepE (OW.loadK (off := 0) Int (.int .i64 y100.Kind) ty3 rfl hb111 rfl rfl) rfl ?_
    refine WL.p (.bool (((y100.Kind == 1)))) rfl rfl ?_
    refine WL.p (.bool (((y100.Kind == 1)))) rfl rfl ?_
    obtain ⟨x115, q116, hx92⟩ := bindE hx92
    have hJ119 : ∀ (w117 : World) (o118 : Cls), En w0 e0 o118 w117 → Ow 3 o118 103 [] w117 v77 x76 → Bk o118 104 w117 pa107 [.int .i64 y100.Kind, .int .i64 y100.A, .int .i64 y100.B] → Bk o118 100 w117 pa16 [.int .i64 a0.Buses, u1, u2, u3, .int .i64 a0.Phase, .int .i64 a0.Frequency] → Bk o118 101 w117 pa21 [u7, u8, u9, u10] → NK 69 K114 [(2, .pointer (some pa16)), (3, .pointer (some pa21)), (5, v77), (8, .pointer (some pa107)), (24, .int .i64 (len x41)), (25, .int .i64 x54), (28, u1), (29, .int .i64 (len a0.Breakers)), (30, .int .i64 x79), (44, .bool x115)] w117 := by
     intro w117 o118  hE h78 hb111 hb20 hb25
     refine hK114 _ _ ?_
     obtain ⟨x120, q123, hx92⟩ := bindE hx92
     have hJ126 : ∀ (w124 : World) (o125 : Cls) (v121 : Value), En w0 e0 o125 w124 → Ow 3 o125 103 [] w124 v121 x120 → Bk o125 100 w124 pa16 [.int .i64 a0.Buses, u1, u2, u3, .int .i64 a0.Phase, .int .i64 a0.Frequency] → Bk o125 101 w124 pa21 [u7, u8, u9, u10] → NK 69 K98 [(2, .pointer (some pa16)), (3, .pointer (some pa21)), (5, v121), (24, .int .i64 (len x41)), (25, .int .i64 x54), (28, u1), (29, .int .i64 (len a0.Breakers)), (30, .int .i64 x79)] w124 := by
      intro w124 o125 v121 hE h122 hb20 hb25
      refine hK98 _ _ ?_
      refine CW.region ?_
      refine WL.p (.int .i64 ((W (x79 + 1)))) rfl rfl ?_
      refine WL.p (.int .i64 ((W (x79 + 1)))) rfl rfl ?_
      refine WL.nil ?_
      exact NK.sb (hk94 _ _ _ (Option.some.inj hx92).symm ⟨o125, x120, (W (x79 + 1)), v121, rfl, rfl, hE, h122, hb20, hb25⟩) ⟨rfl, rfl, rfl, rfl, rfl, rfl, rfl, rfl, trivial⟩
     refine CW.cond (b := x115) rfl (fun hc127 => ?_) (fun hc127 => ?_)
     ·have q123 := iteT hc127 q123
      refine CW.seq fun K128 hK128 => ?_
      obtain ⟨y129, q133, q123⟩ := bindE q123
      obtain ⟨y134, q138, q123⟩ := bindE q123
      have ev_ := Evo.drew o118 w117
      refine CW.anyS (N := []) hmix [sOw none none [] 3 103 [] (vk v77) x76, sBk none none [] 104 (vk pa107) (vk ([.int .i64 y100.Kind, .int .i64 y100.A, .int .i64 y100.B])), sPo (some 3) none [3] 103 [] (vp 0) y129, sEp (some 3) none [3] (vk v77) 1 y100.A (vp 0), sPo (some 8) none [8] 103 [] (vp 0) y134, sEp (some 8) none [8] (vk v77) 1 y100.B (vp 0)] [⟨[], [], [], [], vk v77, false⟩, ⟨[], [], [], [], vk (.pointer (some (pa107.add 1))), false⟩, ⟨[], [1], [1], [], vk (.int .i64 y100.A), false⟩, ⟨[], [0], [0, 1, 2], [3], vq 0, false⟩, ⟨[], [2], rg 0 4, [], vk (.int .i64 y129), false⟩, ⟨[], [], [], [], vk v77, false⟩, ⟨[], [], [], [], vk (.pointer (some (pa107.add 2))), false⟩, ⟨[], [1], [6], [], vk (.int .i64 y100.B), false⟩, ⟨[], [0], [5, 6, 7], [8], vq 0, false⟩, ⟨[], [4], rg 5 4, [], vk (.int .i64 y134), false⟩, ⟨[], [], rg 0 10, [], vk (.int .i64 (if y134 < y129 then y134 else y129)), false⟩, ⟨[], [], rg 0 11, [], vk (.int .i64 (if y134 < y129 then y134 else y129)), false⟩] [] hE rfl (by kernel_rfl) (by kernel_rfl) ⟨h78.evo ev_ rfl, hb111.evo ev_ rfl, trivial⟩ ⟨Ob.pv rfl rfl (fun _ => rfl) rfl (fun _ _ _ => trivial), ?_, ?_, ?_, ?_, Ob.pv rfl rfl (fun _ => rfl) rfl (fun _ _ _ => trivial), ?_, ?_, ?_, ?_, ?_, Ob.pv rfl rfl (fun _ => rfl) rfl (fun _ _ _ => trivial), trivial⟩ ?_
      ·intro vs139 o_ w_ hE 
       exact OW.q [(8, .pointer (some pa107))] ⟨rfl, trivial⟩ (OW.fldAddr (FldOk.at f59_1) rfl) (er rfl trivial)
      ·intro vs139 o_ w_ hE hb111
       have hb111 := tBk hb111
       exact OW.q [(46, .pointer (some (pa107.add 1)))] ⟨rfl, trivial⟩ (OW.loadK (off := 1) Int (.int .i64 y100.A) ty3 rfl hb111 rfl rfl) (er rfl trivial)
      ·intro vs139 o_ w_ hE h78
       have h78 := tOw h78
       refine OW.r [(45, v77), (47, .int .i64 y100.A)] ⟨rfl, rfl, trivial⟩ (OW.indexAddrO Try.underlying22 ty3 rfl h78 rfl q133) ?_
       rintro _ _ ⟨rfl, ⟨pa130, hv_, hp131, he132⟩⟩
       subst hv_
       exact ⟨_, Evo.refl _ _ _ _, rfl, hp131, he132, trivial⟩
      ·intro vs139 o_ w_ hE hp131
       have hp131 := tPo hp131
       exact OW.q [(48, .pointer (some (pOf (vs139 3))))] ⟨rfl, trivial⟩ (OW.loadI ty3 rfl hp131.at) (er rfl trivial)
      ·intro vs139 o_ w_ hE 
       exact OW.q [(8, .pointer (some pa107))] ⟨rfl, trivial⟩ (OW.fldAddr (FldOk.at f59_2) rfl) (er rfl trivial)
      ·intro vs139 o_ w_ hE hb111
       have hb111 := tBk hb111
       exact OW.q [(51, .pointer (some (pa107.add 2)))] ⟨rfl, trivial⟩ (OW.loadK (off := 2) Int (.int .i64 y100.B) ty3 rfl hb111 rfl rfl) (er rfl trivial)
      ·intro vs139 o_ w_ hE h78
       have h78 := tOw h78
       refine OW.r [(50, v77), (52, .int .i64 y100.B)] ⟨rfl, rfl, trivial⟩ (OW.indexAddrO Try.underlying22 ty3 rfl h78 rfl q138) ?_
       rintro _ _ ⟨rfl, ⟨pa135, hv_, hp136, he137⟩⟩
       subst hv_
       exact ⟨_, Evo.refl _ _ _ _, rfl, hp136, he137, trivial⟩
      ·intro vs139 o_ w_ hE hp136
       have hp136 := tPo hp136
       exact OW.q [(53, .pointer (some (pOf (vs139 8))))] ⟨rfl, trivial⟩ (OW.loadI ty3 rfl hp136.at) (er rfl trivial)
      ·intro vs139 o_ w_ hE 
       exact OW.q [(49, .int .i64 y129), (54, .int .i64 y134)] ⟨rfl, rfl, trivial⟩ (OW.min rfl rfl) (er rfl trivial)
      ·intro vs139 o141 w140 hE h78 hb111 hp131 he132 hp136 he137
       obtain ⟨hE, evT_⟩ := hE
       have h78 : Ow 3 o141 103 [] w140 v77 x76 := h78
       have hb111 : Bk o141 104 w140 pa107 [.int .i64 y100.Kind, .int .i64 y100.A, .int .i64 y100.B] := hb111
       have hp131 : PtrO o141 103 [] w140 (pOf (vs139 3)) y129 := hp131
       have he132 : EPtr v77 1 y100.A (pOf (vs139 3)) := he132
       have hp136 : PtrO o141 103 [] w140 (pOf (vs139 8)) y134 := hp136
       have he137 : EPtr v77 1 y100.B (pOf (vs139 8)) := he137
       have hb20 := hb20.evo evT_ rfl
       have hb25 := hb25.evo evT_ rfl
       refine hK128 _ _ ?_
       have hd146 := Rv.hd h78.rv
       obtain ⟨y147, q150, q123⟩ := bindE q123
       have hd156 := Rv.hd h78.rv
       obtain ⟨y157, q160, q123⟩ := bindE q123
       have ev_ := Evo.drew o141 w140
       refine CW.anyS (N := [103]) hmix [sOw none (some 9) [] 3 103 [] (vk v77) x76, sBk none none [] 104 (vk pa107) (vk ([.int .i64 y100.Kind, .int .i64 y100.A, .int .i64 y100.B])), sEp (some 8) none [8] (vk v77) 1 y100.A (vp 0), sOw (some 9) (some 11) [] 3 103 [] (vk v77) y147, sEp (some 10) none [10] (vk v77) 1 y100.B (vp 0), sOw (some 11) none [] 3 103 [] (vk v77) y157] [⟨[], [], [], [], vk v77, false⟩, ⟨[], [], [], [], vk (.pointer (some (pa107.add 1))), false⟩, ⟨[], [1], [1], [], vk (.int .i64 y100.A), false⟩, ⟨[], [], [], [], vk v77, false⟩, ⟨[], [], [], [], vk (.pointer (some (pa107.add 2))), false⟩, ⟨[], [1], [4], [], vk (.int .i64 y100.B), false⟩, ⟨[], [], [], [], vk (.int .i64 (if y134 < y129 then y134 else y129)), false⟩, ⟨[], [], [], [], vk (.int .i64 (if y134 < y129 then y134 else y129)), false⟩, ⟨[], [], [0, 1, 2, 6], [8], vq 0, false⟩, ⟨[103], [0, 2], [0, 1, 2, 6, 8], [], vk undef, false⟩, ⟨[], [], rg 0 10, [10], vq 0, false⟩, ⟨[103], [3, 4], rg 0 11, [], vk undef, false⟩] [103] hE rfl (by kernel_rfl) (by kernel_rfl) ⟨h78.evo ev_ rfl, hb111.evo ev_ rfl, trivial⟩ ⟨Ob.pv rfl rfl (fun _ => rfl) rfl (fun _ _ _ => trivial), ?_, ?_, Ob.pv rfl rfl (fun _ => rfl) rfl (fun _ _ _ => trivial), ?_, ?_, Ob.pv rfl rfl (fun _ => rfl) rfl (fun _ _ _ => trivial), Ob.pv rfl rfl (fun _ => rfl) rfl (fun _ _ _ => trivial), ?_, ?_, ?_, ?_, trivial⟩ ?_
       ·intro vs162 o_ w_ hE 
        exact OW.q [(8, .pointer (some pa107))] ⟨rfl, trivial⟩ (OW.fldAddr (FldOk.at f59_1) rfl) (er rfl trivial)
       ·intro vs162 o_ w_ hE hb111
        have hb111 := tBk hb111
        exact OW.q [(57, .pointer (some (pa107.add 1)))] ⟨rfl, trivial⟩ (OW.loadK (off := 1) Int (.int .i64 y100.A) ty3 rfl hb111 rfl rfl) (er rfl trivial)
       ·intro vs162 o_ w_ hE 
        exact OW.q [(8, .pointer (some pa107))] ⟨rfl, trivial⟩ (OW.fldAddr (FldOk.at f59_2) rfl) (er rfl trivial)
       ·intro vs162 o_ w_ hE hb111
        have hb111 := tBk hb111
        exact OW.q [(60, .pointer (some (pa107.add 2)))] ⟨rfl, trivial⟩ (OW.loadK (off := 2) Int (.int .i64 y100.B) ty3 rfl hb111 rfl rfl) (er rfl trivial)
       ·intro vs162 o_ w_ hE 
        refine OW.r [(56, v77), (58, .int .i64 y100.A)] ⟨rfl, rfl, trivial⟩ (OW.indexAddrH Try.underlying22 ty3 rfl hd146 rfl q133) ?_
        rintro _ _ ⟨rfl, ⟨pa143, hv_, he145⟩⟩
        subst hv_
        exact ⟨_, Evo.refl _ _ _ _, rfl, he145, trivial⟩
       ·intro vs162 o_ w_ hE h78 he145
        have h78 := tOw h78
        have he145 := tEp he145
        refine OW.r [(62, .int .i64 (if y134 < y129 then y134 else y129)), (64, .pointer (some (pOf (vs162 8))))] ⟨rfl, rfl, trivial⟩ (OW.storeElem ty3 rfl he145 h78 rfl (rv_int.2 rfl) q150 rfl) ?_
        rintro _ w148 ⟨ev149, h151⟩
        exact ⟨o_, ev149.sub rfl rfl, trivial, h151, trivial⟩
       ·intro vs162 o_ w_ hE 
        refine OW.r [(59, v77), (61, .int .i64 y100.B)] ⟨rfl, rfl, trivial⟩ (OW.indexAddrH Try.underlying22 ty3 rfl hd156 rfl q138) ?_
        rintro _ _ ⟨rfl, ⟨pa153, hv_, he155⟩⟩
        subst hv_
        exact ⟨_, Evo.refl _ _ _ _, rfl, he155, trivial⟩
       ·intro vs162 o_ w_ hE h151 he155
        have h151 := tOw h151
        have he155 := tEp he155
        refine OW.r [(63, .int .i64 (if y134 < y129 then y134 else y129)), (65, .pointer (some (pOf (vs162 10))))] ⟨rfl, rfl, trivial⟩ (OW.storeElem ty3 rfl he155 h151 rfl (rv_int.2 rfl) q160 rfl) ?_
        rintro _ w158 ⟨ev159, h161⟩
        exact ⟨o_, ev159.sub rfl rfl, trivial, h161, trivial⟩
       ·intro vs162 o164 w163 hE hb111 he145 he155 h161
        obtain ⟨hE, evT_⟩ := hE
        have hb111 : Bk o164 104 w163 pa107 [.int .i64 y100.Kind, .int .i64 y100.A, .int .i64 y100.B] := hb111
        have he145 : EPtr v77 1 y100.A (pOf (vs162 8)) := he145
        have he155 : EPtr v77 1 y100.B (pOf (vs162 10)) := he155
        have h161 : Ow 3 o164 103 [] w163 v77 y157 := h161
        have hb20 := hb20.evo evT_ rfl
        have hb25 := hb25.evo evT_ rfl
        have e165 := Option.some.inj q123
        subst e165
        exact NK.sb (hJ126 w163 o164 v77 hE h161 hb20 hb25) ⟨rfl, rfl, rfl, rfl, rfl, rfl, rfl, rfl, trivial⟩
     ·have q123 := iteF hc127 q123
      refine CW.skip ?_
      have e166 := Option.some.inj q123
      subst e166
      exact NK.sb (hJ126 w117 o118 v77 hE h78 hb20 hb25) ⟨rfl, rfl, rfl, rfl, rfl, rfl, rfl, rfl, trivial⟩
    rcases Bool.eq_false_or_eq_true (((y100.Kind == 1))) with hc167 | hc167
    ·have q116 := iteT hc167 q116
     refine WL.stepGE rfl rfl rfl hc167 (OW.fldAddr (FldOk.at f34_0) rfl) rfl ?_
     refine WL.stepGE rfl rfl rfl hc167 (OW.loadK (off := 0) (List Bool) (u7) ty30 rfl hb25 rfl rfl) rfl ?_
     refine WL.stepGE rfl rfl rfl hc167 (OW.pv (v := (.int .i64 x79)) rfl) rfl ?_
     obtain ⟨y168, q172, q116⟩ := bindE q116
     refine WL.stepGP rfl rfl rfl hc167 (OW.indexAddr Try.underlying30 ty4 rfl (h11.baseM hE rfl) rfl q172) rfl fun _ ⟨pa169, hv_, hp170, he171⟩ => ?_
     subst hv_
     refine WL.stepGE rfl rfl rfl hc167 (OW.loadB ty4 rfl hp170) rfl ?_
     refine WL.stepE (OW.pickT rfl hc167 rfl) rfl ?_
     refine WL.nil ?_
     have e173 := Option.some.inj q116
     subst e173
     exact NK.sb (hJ119 w112 o108 hE h78 hb111 hb20 hb25) ⟨rfl, rfl, rfl, rfl, rfl, rfl, rfl, rfl, rfl, rfl, trivial⟩
    ·have q116 := iteF hc167 q116
     refine WL.skipG rfl rfl rfl (by rw [hc167]; rfl) rfl ?_
     refine WL.skipG rfl rfl rfl (by rw [hc167]; rfl) rfl ?_
     refine WL.skipG rfl rfl rfl (by rw [hc167]; rfl) rfl ?_
     refine WL.skipG rfl rfl rfl (by rw [hc167]; rfl) rfl ?_
     refine WL.skipG rfl rfl rfl (by rw [hc167]; rfl) rfl ?_
     refine WL.stepE (OW.pickF rfl hc167 rfl) rfl ?_
     refine WL.nil ?_
     have e174 := Option.some.inj q116
     subst e174
     exact NK.sb (hJ119 w112 o108 hE h78 hb111 hb20 hb25) ⟨rfl, rfl, rfl, rfl, rfl, rfl, rfl, rfl, rfl, rfl, trivial⟩
   ·have hx92 := iteF hc97 hx92
    refine CW.exit ?_
    exact NK.sb (hJ87 x76 w88 o89 v77 (hr93 _ (Option.some.inj hx92).symm) hE h78 hb20 hb25) ⟨rfl, rfl, rfl, rfl, rfl, trivial⟩
  ·have hx68 := iteF hc73 hx68
   refine CW.exit ?_
   exact NK.sb (hJ62 x51 w64 o65 v52 (hr69 _ (Option.some.inj hx68).symm) hE h53) ⟨rfl, trivial⟩
 refine CW.sub (L' := [(2, .pointer (some pa16)), (3, .pointer (some pa21)), (5, v30), (14, .int .i64 (len y28)), (15, .int .i64 0)]) ⟨rfl, rfl, rfl, rfl, rfl, trivial⟩ ?_
 refine CW.loop (board_groups_L1 y28) (fun s_ L_ w175 => ∃ (o176 : Cls) (x37 : (List Int)) (x40 : Int) (v38 : Value), (x37, x40) = s_ ∧ L_ = [(2, .pointer (some pa16)), (3, .pointer (some pa21)), (5, v38), (14, .int .i64 (len y28)), (15, .int .i64 x40)] ∧ En w0 e0 o176 w175 ∧ Ow 3 o176 103 [] w175 v38 x37 ∧ Bk o176 100 w175 pa16 [.int .i64 a0.Buses, u1, u2, u3, .int .i64 a0.Phase, .int .i64 a0.Frequency] ∧ Bk o176 101 w175 pa21 [u7, u8, u9, u10]) hl44 ?_ ?_
 ·exact ⟨o32, y28, 0, v30, rfl, rfl, hE, h34, hb20, hb25⟩
 intro K177 s_ L_ w175 hi_ x178 hx179 hr180 hk181
 obtain ⟨o176, x37, x40, v38, rfl, rfl, hE, h39, hb20, hb25⟩ := hi_
 rw [board_groups_L1] at hx179
 refine CW.sr fun K182 hK182 => ?_
 refine WL.p (.bool ((decide (x40 < (len y28))))) rfl rfl ?_
 refine WL.nx hK182 ?_
 refine CW.seq fun K183 hK183 => ?_
 refine CW.cond (b := (decide (x40 < (len y28)))) rfl (fun hc184 => ?_) (fun hc184 => ?_)
 ·have hx179 := iteT hc184 hx179
  refine CW.skip ?_
  refine hK183 _ _ ?_
  refine CW.seq fun K185 hK185 => ?_
  refine CW.block ?_
  refine CW.sr fun K186 hK186 => ?_
  refine WL.p (.int .i64 x40) rfl rfl ?_
  refine WL.p (.int .i64 x40) rfl rfl ?_
  refine WL.nx hK186 ?_
  refine CW.region ?_
  refine WL.p v38 rfl rfl ?_
  refine WL.p (.int .i64 x40) rfl rfl ?_
  refine WL.p (.int .i64 x40) rfl rfl ?_
  obtain ⟨y187, q191, hx179⟩ := bindE hx179
  refine WL.stepP (OW.indexAddrO Try.underlying22 ty3 rfl h39 rfl q191) rfl fun _ ⟨pa188, hv_, hp189, he190⟩ => ?_
  subst hv_
  obtain ⟨y192, q195, hx179⟩ := bindE hx179
  refine WL.step0 (OW.storeElem ty3 rfl he190 h39 rfl (rv_int.2 rfl) q195 rfl) ?_
  rintro _ w193 ⟨ev194, h196⟩
  have hE := hE.evo ev194 rfl rfl
  have hb20 := hb20.evo ev194 rfl
  have hb25 := hb25.evo ev194 rfl
  refine WL.nil ?_
  refine hK185 _ _ ?_
  refine CW.region ?_
  refine WL.p (.int .i64 ((W (x40 + 1)))) rfl rfl ?_
  refine WL.p (.int .i64 ((W (x40 + 1)))) rfl rfl ?_
  refine WL.nil ?_
  exact NK.sb (hk181 _ _ _ (Option.some.inj hx179).symm ⟨o176, y192, (W (x40 + 1)), v38, rfl, rfl, hE, h196, hb20, hb25⟩) ⟨rfl, rfl, rfl, rfl, rfl, trivial⟩
 ·have hx179 := iteF hc184 hx179
  refine CW.exit ?_
  exact NK.sb (hJ48 x37 w175 o176 v38 (hr180 _ (Option.some.inj hx179).symm) hE h39 hb20 hb25) ⟨rfl, rfl, rfl, trivial⟩

set_option maxHeartbeats 1000000 in
theorem board_led_ok {a0 : Board} {a1 : Power} {a2 : Int} {a3 : Int} {r : (Int × Bool)} (hF : board_led a0 a1 a2 a3 = some r) {w0 : World} {p0 : Value} {S0 : Nat → Prop} (g0 : Rv S0 w0 p0 a0) {p1 : Value} {S1 : Nat → Prop} (g1 : Rv S1 w0 p1 a1) :
    Calls Try.prog 92 #[p0, p1, .int .i64 a2, .int .i64 a3] w0 (Ret fun v w' => ∃ (oc : Cls), En w0 (entM w0 [] [S0, S1]) oc w' ∧ v = .tuple #[.int .i64 r.1, .bool r.2]) := by
 obtain ⟨e0, he0⟩ : ∃ e0, e0 = entM w0 [] [S0, S1] := ⟨_, rfl⟩
 have hE := En.refl w0 e0
 have g0 := g0.argM he0 0 (K := [40]) rfl (nosep rfl) rfl
 have g1 := g1.argM he0 1 (K := [40, 41]) rfl (nosep rfl) rfl
 obtain ⟨u1, u2, u3, rfl, h4, h5, h6⟩ := op29 g0
 obtain ⟨u7, u8, u9, u10, rfl, h11, h12, h13, h14⟩ := op34 g1
 rw [board_led] at hF
 refine enter (l := [.agg #[.int .i64 a0.Buses, u1, u2, u3, .int .i64 a0.Phase, .int .i64 a0.Frequency], .agg #[u7, u8, u9, u10], .int .i64 a2, .int .i64 a3]) Try.func92 rfl Try.ntmps92 rfl ?_
 refine CW.sub (L' := [(0, .agg #[.int .i64 a0.Buses, u1, u2, u3, .int .i64 a0.Phase, .int .i64 a0.Frequency]), (1, .agg #[u7, u8, u9, u10]), (2, .int .i64 a2), (3, .int .i64 a3)]) ⟨rfl, rfl, rfl, rfl, trivial⟩ ?_
 refine CW.sr fun K15 hK15 => ?_
 refine WL.step (OW.boxK (o := e0) 100 [.int .i64 a0.Buses, u1, u2, u3, .int .i64 a0.Phase, .int .i64 a0.Frequency] rfl rfl) rfl ?_
 rintro _ w18 ⟨pa16, o17, rfl, ev19, hb20⟩
 have hE := hE.evo ev19 rfl rfl
 refine WL.step (OW.boxK (o := o17) 101 [u7, u8, u9, u10] rfl rfl) rfl ?_
 rintro _ w23 ⟨pa21, o22, rfl, ev24, hb25⟩
 have hE := hE.evo ev24 rfl rfl
 have hb20 := hb20.evo ev24 rfl
 refine WL.p (.int .i64 0) rfl rfl ?_
 refine WL.p (.bool false) rfl rfl ?_
 refine WL.nx hK15 ?_
 refine CW.seq fun K26 hK26 => ?_
 refine CW.sr fun K27 hK27 => ?_
 refine WL.stepE (OW.fldAddr (FldOk.at f29_1) rfl) rfl ?_
 refine WL.stepE (OW.loadK (off := 1) (List Breaker) (u1) ty25 rfl hb20 rfl rfl) rfl ?_
 refine WL.stepE (OW.len Try.underlying25 rfl (h4.baseM hE rfl)) rfl ?_
 refine WL.p (.int .i64 0) rfl rfl ?_
 refine WL.nx hK27 ?_
 refine CW.block ?_
 obtain ⟨r30, hl29, hF⟩ := bindE hF
 have hJ33 : ∀ (w31 : World) (o32 : Cls), .inl () = r30 → En w0 e0 o32 w31 → NK 40 K26 [] w31 := by
  intro  w31 o32  e_ hE
  subst e_
  have hF := elimL hF
  try dsimp only at hF
  refine hK26 _ _ ?_
  refine CW.sr fun K34 hK34 => ?_
  refine WL.p (.int .i64 0) rfl rfl ?_
  refine WL.p (.bool false) rfl rfl ?_
  refine WL.nx hK34 ?_
  obtain rfl := Option.some.inj hF
  exact CW.rets (vs := [.int .i64 0, .bool false]) Try.results92 ⟨rfl, rfl, trivial⟩ ⟨_, rfl, _, (hE.rn he0 100 [] rfl rfl), rfl⟩ (fun _ _ h => h)
 refine CW.sub (L' := [(2, .int .i64 a2), (3, .int .i64 a3), (5, .pointer (some pa21)), (13, u1), (14, .int .i64 (len a0.Breakers)), (15, .int .i64 0)]) ⟨rfl, rfl, rfl, rfl, rfl, rfl, trivial⟩ ?_
 refine CW.loop (board_led_L1 a0 a1 a2 a3) (fun s_ L_ w35 => ∃ (o36 : Cls) (x28 : Int), x28 = s_ ∧ L_ = [(2, .int .i64 a2), (3, .int .i64 a3), (5, .pointer (some pa21)), (13, u1), (14, .int .i64 (len a0.Breakers)), (15, .int .i64 x28)] ∧ En w0 e0 o36 w35 ∧ Bk o36 101 w35 pa21 [u7, u8, u9, u10]) hl29 ?_ ?_
 ·exact ⟨o22, 0, rfl, rfl, hE, hb25⟩
 intro K37 s_ L_ w35 hi_ x38 hx39 hr40 hk41
 obtain ⟨o36, x28, rfl, rfl, hE, hb25⟩ := hi_
 rw [board_led_L1] at hx39
 refine CW.sr fun K42 hK42 => ?_
 refine WL.p (.bool ((decide (x28 < (len a0.Breakers))))) rfl rfl ?_
 refine WL.nx hK42 ?_
 refine CW.seq fun K43 hK43 => ?_
 refine CW.cond (b := (decide (x28 < (len a0.Breakers)))) rfl (fun hc44 => ?_) (fun hc44 => ?_)
 ·have hx39 := iteT hc44 hx39
  refine CW.skip ?_
  refine hK43 _ _ ?_
  refine CW.seq fun K45 hK45 => ?_
  refine CW.block ?_
  refine CW.sr fun K46 hK46 => ?_
  refine WL.p (.int .i64 x28) rfl rfl ?_
  obtain ⟨y47, q51, hx39⟩ := bindE hx39
  refine WL.stepP (OW.indexAddr Try.underlying25 ty59 rfl (h4.baseM hE rfl) rfl q51) rfl fun _ ⟨pa48, hv_, hp49, he50⟩ => ?_
  subst hv_
  refine WL.stepP (OW.load ty59 rfl hp49) rfl fun v52 h53 => ?_
  obtain rfl := op59 h53
  refine WL.step (OW.allocK (o := o36) Breaker 102 [.int .i64 0, .int .i64 0, .int .i64 0] ty59 rfl) rfl ?_
  rintro _ w56 ⟨pa54, o55, rfl, ev57, hb58⟩
  have hE := hE.evo ev57 rfl rfl
  have hb25 := hb25.evo ev57 rfl
  refine WL.p (.int .i64 x28) rfl rfl ?_
  refine WL.step0 (OW.storeK0 Breaker [.int .i64 y47.Kind, .int .i64 y47.A, .int .i64 y47.B] [.int .i64 y47.Kind, .int .i64 y47.A, .int .i64 y47.B] ty59 rfl rfl hb58 rfl ⟨rfl, rfl, rfl, trivial⟩ rfl rfl rfl) ?_
  rintro _ w59 ⟨ev60, hb58⟩
  have hE := hE.evo ev60 rfl rfl
  have hb25 := hb25.evo ev60 rfl
  refine WL.nx hK46 ?_
  refine CW.sr fun K61 hK61 => ?_
  refine WL.stepE (OW.fldAddr (FldOk.at f59_0) rfl) rfl ?_
  refine WL.stepE (OW.loadK (off := 0) Int (.int .i64 y47.Kind) ty3 rfl hb58 rfl rfl) rfl ?_
  refine WL.p (.int .i64 a2) rfl rfl ?_
  refine WL.p (.bool (((y47.Kind == a2)))) rfl rfl ?_
  refine WL.p (.bool (((y47.Kind == a2)))) rfl rfl ?_
  obtain ⟨x62, q63, hx39⟩ := bindE hx39
  have hJ66 : ∀ (w64 : World) (o65 : Cls), En w0 e0 o65 w64 → Bk o65 101 w64 pa21 [u7, u8, u9, u10] → Bk o65 102 w64 pa54 [.int .i64 y47.Kind, .int .i64 y47.A, .int .i64 y47.B] → NK 40 K61 [(2, .int .i64 a2), (3, .int .i64 a3), (5, .pointer (some pa21)), (11, .pointer (some pa54)), (13, u1), (14, .int .i64 (len a0.Breakers)), (15, .int .i64 x28), (36, .bool x62)] w64 := by
   intro w64 o65  hE hb25 hb58
   refine hK61 _ _ ?_
   refine CW.cond (b := x62) rfl (fun hc67 => ?_) (fun hc67 => ?_)
   ·have hx39 := iteT hc67 hx39
    refine CW.sr fun K68 hK68 => ?_
    refine WL.stepE (OW.fldAddr (FldOk.at f59_1) rfl) rfl ?_
    refine WL.stepE (OW.loadK (off := 1) Int (.int .i64 y47.A) ty3 rfl hb58 rfl rfl) rfl ?_
    refine WL.p (.int .i64 y47.A) rfl rfl ?_
    refine WL.p (.bool true) rfl rfl ?_
    refine WL.nx hK68 ?_
    have e_ := hr40 _ (Option.some.inj hx39).symm
    subst e_
    have hF := elimR hF
    obtain rfl := Option.some.inj hF
    exact CW.rets (vs := [.int .i64 y47.A, .bool true]) Try.results92 ⟨rfl, rfl, trivial⟩ ⟨_, rfl, _, (hE.rn he0 100 [] rfl rfl), rfl⟩ (fun _ _ h => h)
   ·have hx39 := iteF hc67 hx39
    refine CW.skip ?_
    refine hK45 _ _ ?_
    refine CW.region ?_
    refine WL.p (.int .i64 ((W (x28 + 1)))) rfl rfl ?_
    refine WL.p (.int .i64 ((W (x28 + 1)))) rfl rfl ?_
    refine WL.nil ?_
    exact NK.sb (hk41 _ _ _ (Option.some.inj hx39).symm ⟨o65, (W (x28 + 1)), rfl, rfl, hE, hb25⟩) ⟨rfl, rfl, rfl, rfl, rfl, rfl, trivial⟩
  rcases Bool.eq_false_or_eq_true (((y47.Kind == a2))) with hc69 | hc69
  ·have q63 := iteT hc69 q63
   refine WL.stepGE rfl rfl rfl hc69 (OW.fldAddr (FldOk.at f59_2) rfl) rfl ?_
   refine WL.stepGE rfl rfl rfl hc69 (OW.loadK (off := 2) Int (.int .i64 y47.B) ty3 rfl hb58 rfl rfl) rfl ?_
   refine WL.stepGE rfl rfl rfl hc69 (OW.pv (v := (.int .i64 a3)) rfl) rfl ?_
   refine WL.stepGE rfl rfl rfl hc69 (OW.pv (v := (.bool (((y47.B == a3))))) rfl) rfl ?_
   refine WL.stepE (OW.pickT rfl hc69 rfl) rfl ?_
   refine WL.p (.bool (((y47.B == a3)))) rfl rfl ?_
   obtain ⟨x70, q71, q63⟩ := bindE q63
   have hJ74 : ∀ (w72 : World) (o73 : Cls), En w0 e0 o73 w72 → Bk o73 101 w72 pa21 [u7, u8, u9, u10] → Bk o73 102 w72 pa54 [.int .i64 y47.Kind, .int .i64 y47.A, .int .i64 y47.B] → NK 40 K61 [(2, .int .i64 a2), (3, .int .i64 a3), (5, .pointer (some pa21)), (11, .pointer (some pa54)), (13, u1), (14, .int .i64 (len a0.Breakers)), (15, .int .i64 x28), (25, .pointer (some (pa54.add 2))), (26, .int .i64 y47.B), (27, .int .i64 a3), (28, .bool (((y47.B == a3)))), (36, .bool x70)] w72 := by
    intro w72 o73  hE hb25 hb58
    have e75 := Option.some.inj q63
    subst e75
    exact NK.sb (hJ66 w72 o73 hE hb25 hb58) ⟨rfl, rfl, rfl, rfl, rfl, rfl, rfl, rfl, trivial⟩
   rcases Bool.eq_false_or_eq_true (((y47.B == a3))) with hc76 | hc76
   ·have q71 := iteT hc76 q71
    refine WL.stepGE rfl rfl rfl hc76 (OW.fldAddr (FldOk.at f34_0) rfl) rfl ?_
    refine WL.stepGE rfl rfl rfl hc76 (OW.loadK (off := 0) (List Bool) (u7) ty30 rfl hb25 rfl rfl) rfl ?_
    refine WL.stepGE rfl rfl rfl hc76 (OW.pv (v := (.int .i64 x28)) rfl) rfl ?_
    obtain ⟨y77, q81, q71⟩ := bindE q71
    refine WL.stepGP rfl rfl rfl hc76 (OW.indexAddr Try.underlying30 ty4 rfl (h11.baseM hE rfl) rfl q81) rfl fun _ ⟨pa78, hv_, hp79, he80⟩ => ?_
    subst hv_
    refine WL.stepGE rfl rfl rfl hc76 (OW.loadB ty4 rfl hp79) rfl ?_
    refine WL.stepE (OW.pickT rfl hc76 rfl) rfl ?_
    refine WL.nil ?_
    have e82 := Option.some.inj q71
    subst e82
    exact NK.sb (hJ74 w59 o55 hE hb25 hb58) ⟨rfl, rfl, rfl, rfl, rfl, rfl, rfl, rfl, rfl, rfl, rfl, rfl, trivial⟩
   ·have q71 := iteF hc76 q71
    refine WL.skipG rfl rfl rfl (by rw [hc76]; rfl) rfl ?_
    refine WL.skipG rfl rfl rfl (by rw [hc76]; rfl) rfl ?_
    refine WL.skipG rfl rfl rfl (by rw [hc76]; rfl) rfl ?_
    refine WL.skipG rfl rfl rfl (by rw [hc76]; rfl) rfl ?_
    refine WL.skipG rfl rfl rfl (by rw [hc76]; rfl) rfl ?_
    refine WL.stepE (OW.pickF rfl hc76 rfl) rfl ?_
    refine WL.nil ?_
    have e83 := Option.some.inj q71
    subst e83
    exact NK.sb (hJ74 w59 o55 hE hb25 hb58) ⟨rfl, rfl, rfl, rfl, rfl, rfl, rfl, rfl, rfl, rfl, rfl, rfl, trivial⟩
  ·have q63 := iteF hc69 q63
   refine WL.skipG rfl rfl rfl (by rw [hc69]; rfl) rfl ?_
   refine WL.skipG rfl rfl rfl (by rw [hc69]; rfl) rfl ?_
   refine WL.skipG rfl rfl rfl (by rw [hc69]; rfl) rfl ?_
   refine WL.skipG rfl rfl rfl (by rw [hc69]; rfl) rfl ?_
   refine WL.stepE (OW.pickF rfl hc69 rfl) rfl ?_
   refine WL.p (.bool false) rfl rfl ?_
   refine WL.skipG rfl rfl rfl rfl rfl ?_
   refine WL.skipG rfl rfl rfl rfl rfl ?_
   refine WL.skipG rfl rfl rfl rfl rfl ?_
   refine WL.skipG rfl rfl rfl rfl rfl ?_
   refine WL.skipG rfl rfl rfl rfl rfl ?_
   refine WL.stepE (OW.pickF rfl rfl rfl) rfl ?_
   refine WL.nil ?_
   have e84 := Option.some.inj q63
   subst e84
   exact NK.sb (hJ66 w59 o55 hE hb25 hb58) ⟨rfl, rfl, rfl, rfl, rfl, rfl, rfl, rfl, trivial⟩
 ·have hx39 := iteF hc44 hx39
  refine CW.exit ?_
  exact NK.sb (hJ33 w35 o36 (hr40 _ (Option.some.inj hx39).symm) hE) trivial

set_option maxHeartbeats 1000000 in
theorem board_connected_ok {a0 : Board} {a1 : Power} {a2 : Int} {r : (Int × Bool)} (hF : board_connected a0 a1 a2 = some r) {w0 : World} {p0 : Value} {S0 : Nat → Prop} (g0 : Rv S0 w0 p0 a0) {p1 : Value} {S1 : Nat → Prop} (g1 : Rv S1 w0 p1 a1) :
    Calls Try.prog 70 #[p0, p1, .int .i64 a2] w0 (Ret fun v w' => ∃ (oc : Cls), En w0 (entM w0 [] [S0, S1]) oc w' ∧ v = .tuple #[.int .i64 r.1, .bool r.2]) := by
 obtain ⟨e0, he0⟩ : ∃ e0, e0 = entM w0 [] [S0, S1] := ⟨_, rfl⟩
 have hE := En.refl w0 e0
 have g0 := g0.argM he0 0 (K := [40]) rfl (nosep rfl) rfl
 have g1 := g1.argM he0 1 (K := [40, 41]) rfl (nosep rfl) rfl
 obtain ⟨u1, u2, u3, rfl, h4, h5, h6⟩ := op29 g0
 obtain ⟨u7, u8, u9, u10, rfl, h11, h12, h13, h14⟩ := op34 g1
 rw [board_connected] at hF
 refine enter (l := [.agg #[.int .i64 a0.Buses, u1, u2, u3, .int .i64 a0.Phase, .int .i64 a0.Frequency], .agg #[u7, u8, u9, u10], .int .i64 a2]) Try.func70 rfl Try.ntmps70 rfl ?_
 refine CW.sub (L' := [(0, .agg #[.int .i64 a0.Buses, u1, u2, u3, .int .i64 a0.Phase, .int .i64 a0.Frequency]), (1, .agg #[u7, u8, u9, u10]), (2, .int .i64 a2)]) ⟨rfl, rfl, rfl, trivial⟩ ?_
 refine CW.sr fun K15 hK15 => ?_
 refine WL.step (OW.boxK (o := e0) 100 [.int .i64 a0.Buses, u1, u2, u3, .int .i64 a0.Phase, .int .i64 a0.Frequency] rfl rfl) rfl ?_
 rintro _ w18 ⟨pa16, o17, rfl, ev19, hb20⟩
 have hE := hE.evo ev19 rfl rfl
 refine WL.step (OW.boxK (o := o17) 101 [u7, u8, u9, u10] rfl rfl) rfl ?_
 rintro _ w23 ⟨pa21, o22, rfl, ev24, hb25⟩
 have hE := hE.evo ev24 rfl rfl
 have hb20 := hb20.evo ev24 rfl
 refine WL.p (.int .i64 0) rfl rfl ?_
 refine WL.p (.bool false) rfl rfl ?_
 refine WL.nx hK15 ?_
 refine CW.seq fun K26 hK26 => ?_
 refine CW.sr fun K27 hK27 => ?_
 refine WL.p (.int .i64 a2) rfl rfl ?_
 refine WL.stepE (OW.fldAddr (FldOk.at f34_1) rfl) rfl ?_
 refine WL.stepE (OW.loadK (off := 1) (List Running) (u8) ty31 rfl hb25 rfl rfl) rfl ?_
 refine WL.stepE (OW.len Try.underlying31 rfl (h12.baseM hE rfl)) rfl ?_
 refine WL.p (.int .i64 ((W ((len a1.Sources) - 1)))) rfl rfl ?_
 obtain ⟨y28, q29, hF⟩ := bindE hF
 refine WL.step (OW.call Try.call63 rfl (board_in_ok q29)) rfl ?_
 rintro _ w30 ⟨o34, hn_, rfl⟩
 obtain ⟨o31, ev32, hA33⟩ := adopt (o := o22) (ks := []) (Ks := []) 102 ([]) [102] hn_ MbOk.nil rfl rfl rfl rfl
 have hE := hE.evo ev32 rfl rfl
 have hb20 := hb20.evo ev32 rfl
 have hb25 := hb25.evo ev32 rfl
 refine WL.p (.bool (!y28)) rfl rfl ?_
 refine WL.p (.bool (!y28)) rfl rfl ?_
 obtain ⟨x35, q36, hF⟩ := bindE hF
 have hJ39 : ∀ (w37 : World) (o38 : Cls), En w0 e0 o38 w37 → Bk o38 100 w37 pa16 [.int .i64 a0.Buses, u1, u2, u3, .int .i64 a0.Phase, .int .i64 a0.Frequency] → Bk o38 101 w37 pa21 [u7, u8, u9, u10] → NK 30 K27 [(2, .int .i64 a2), (3, .pointer (some pa16)), (4, .pointer (some pa21)), (23, .bool x35)] w37 := by
  intro w37 o38  hE hb20 hb25
  refine hK27 _ _ ?_
  refine CW.cond (b := x35) rfl (fun hc40 => ?_) (fun hc40 => ?_)
  ·have hF := iteT hc40 hF
   refine CW.sr fun K41 hK41 => ?_
   refine WL.p (.int .i64 0) rfl rfl ?_
   refine WL.p (.bool false) rfl rfl ?_
   refine WL.nx hK41 ?_
   obtain rfl := Option.some.inj hF
   exact CW.rets (vs := [.int .i64 0, .bool false]) Try.results70 ⟨rfl, rfl, trivial⟩ ⟨_, rfl, _, (hE.rn he0 100 [] rfl rfl), rfl⟩ (fun _ _ h => h)
  ·have hF := iteF hc40 hF
   refine CW.skip ?_
   refine hK26 _ _ ?_
   refine CW.sr fun K42 hK42 => ?_
   refine WL.stepE (OW.loadK0 Board (.agg #[.int .i64 a0.Buses, u1, u2, u3, .int .i64 a0.Phase, .int .i64 a0.Frequency]) ty29 rfl hb20 rfl rfl) rfl ?_
   refine WL.stepE (OW.loadK0 Power (.agg #[u7, u8, u9, u10]) ty34 rfl hb25 rfl rfl) rfl ?_
   refine WL.p (.int .i64 a2) rfl rfl ?_
   obtain ⟨⟨y43, y44⟩, q45, hF⟩ := bindE hF
   dsimp only at hF
   refine WL.step (OW.call Try.call92 rfl (board_led_ok q45 (mk29 (x := a0) (h4.baseM hE rfl) (h5.baseM hE rfl) (h6.baseM hE rfl)) (mk34 (x := a1) (h11.baseM hE rfl) (h12.baseM hE rfl) (h13.baseM hE rfl) (h14.baseM hE rfl)))) rfl ?_
   rintro _ w46 ⟨o50, hn_, rfl⟩
   obtain ⟨o47, ev48, hA49⟩ := adopt (o := o38) (ks := []) (Ks := [[40], [40, 41]]) 103 ([]) [103] hn_ MbOk.nil rfl rfl rfl rfl
   have hE := hE.evo ev48 rfl rfl
   refine WL.p (.int .i64 y43) rfl rfl ?_
   refine WL.p (.bool y44) rfl rfl ?_
   refine WL.p (.int .i64 y43) rfl rfl ?_
   refine WL.p (.bool y44) rfl rfl ?_
   refine WL.nx hK42 ?_
   obtain rfl := Option.some.inj hF
   exact CW.rets (vs := [.int .i64 y43, .bool y44]) Try.results70 ⟨rfl, rfl, trivial⟩ ⟨_, rfl, _, (hE.rn he0 100 [] rfl rfl), rfl⟩ (fun _ _ h => h)
 rcases Bool.eq_false_or_eq_true (!y28) with hc51 | hc51
 ·have q36 := iteT hc51 q36
  refine WL.skipG rfl rfl rfl (by rw [hc51]; rfl) rfl ?_
  refine WL.skipG rfl rfl rfl (by rw [hc51]; rfl) rfl ?_
  refine WL.skipG rfl rfl rfl (by rw [hc51]; rfl) rfl ?_
  refine WL.skipG rfl rfl rfl (by rw [hc51]; rfl) rfl ?_
  refine WL.skipG rfl rfl rfl (by rw [hc51]; rfl) rfl ?_
  refine WL.skipG rfl rfl rfl (by rw [hc51]; rfl) rfl ?_
  refine WL.skipG rfl rfl rfl (by rw [hc51]; rfl) rfl ?_
  refine WL.stepE (OW.pickT rfl hc51 rfl) rfl ?_
  refine WL.nil ?_
  have e52 := Option.some.inj q36
  subst e52
  exact NK.sb (hJ39 w30 o31 hE hb20 hb25) ⟨rfl, rfl, rfl, rfl, trivial⟩
 ·have q36 := iteF hc51 q36
  refine WL.stepGE rfl rfl rfl hc51 (OW.fldAddr (FldOk.at f34_1) rfl) rfl ?_
  refine WL.stepGE rfl rfl rfl hc51 (OW.loadK (off := 1) (List Running) (u8) ty31 rfl hb25 rfl rfl) rfl ?_
  refine WL.stepGE rfl rfl rfl hc51 (OW.pv (v := (.int .i64 a2)) rfl) rfl ?_
  obtain ⟨y53, q57, q36⟩ := bindE q36
  refine WL.stepGP rfl rfl rfl hc51 (OW.indexAddr Try.underlying31 ty48 rfl (h12.baseM hE rfl) rfl q57) rfl fun _ ⟨pa54, hv_, hp55, he56⟩ => ?_
  subst hv_
  refine WL.stepGE rfl rfl rfl hc51 (OW.fldAddr (FldOk.at f48_0) rfl) rfl ?_
  refine WL.stepGE rfl rfl rfl hc51 (OW.loadI ty3 rfl (hp55.fld f48_0)) rfl ?_
  refine WL.stepGE rfl rfl rfl hc51 (OW.pv (v := (.bool (((y53.State != 2))))) rfl) rfl ?_
  refine WL.stepE (OW.pickF rfl hc51 rfl) rfl ?_
  refine WL.nil ?_
  have e58 := Option.some.inj q36
  subst e58
  exact NK.sb (hJ39 w30 o31 hE hb20 hb25) ⟨rfl, rfl, rfl, rfl, trivial⟩

set_option maxHeartbeats 1000000 in
theorem board_fed_ok {a0 : Board} {a1 : Power} {a2 : Int} {r : (Int × Bool)} (hF : board_fed a0 a1 a2 = some r) {w0 : World} {p0 : Value} {S0 : Nat → Prop} (g0 : Rv S0 w0 p0 a0) {p1 : Value} {S1 : Nat → Prop} (g1 : Rv S1 w0 p1 a1) :
    Calls Try.prog 71 #[p0, p1, .int .i64 a2] w0 (Ret fun v w' => ∃ (oc : Cls), En w0 (entM w0 [] [S0, S1]) oc w' ∧ v = .tuple #[.int .i64 r.1, .bool r.2]) := by
 obtain ⟨e0, he0⟩ : ∃ e0, e0 = entM w0 [] [S0, S1] := ⟨_, rfl⟩
 have hE := En.refl w0 e0
 have g0 := g0.argM he0 0 (K := [40]) rfl (nosep rfl) rfl
 have g1 := g1.argM he0 1 (K := [40, 41]) rfl (nosep rfl) rfl
 obtain ⟨u1, u2, u3, rfl, h4, h5, h6⟩ := op29 g0
 obtain ⟨u7, u8, u9, u10, rfl, h11, h12, h13, h14⟩ := op34 g1
 rw [board_fed] at hF
 refine enter (l := [.agg #[.int .i64 a0.Buses, u1, u2, u3, .int .i64 a0.Phase, .int .i64 a0.Frequency], .agg #[u7, u8, u9, u10], .int .i64 a2]) Try.func71 rfl Try.ntmps71 rfl ?_
 refine CW.sub (L' := [(0, .agg #[.int .i64 a0.Buses, u1, u2, u3, .int .i64 a0.Phase, .int .i64 a0.Frequency]), (1, .agg #[u7, u8, u9, u10]), (2, .int .i64 a2)]) ⟨rfl, rfl, rfl, trivial⟩ ?_
 refine CW.sr fun K15 hK15 => ?_
 refine WL.step (OW.boxK (o := e0) 100 [.int .i64 a0.Buses, u1, u2, u3, .int .i64 a0.Phase, .int .i64 a0.Frequency] rfl rfl) rfl ?_
 rintro _ w18 ⟨pa16, o17, rfl, ev19, hb20⟩
 have hE := hE.evo ev19 rfl rfl
 refine WL.step (OW.boxK (o := o17) 101 [u7, u8, u9, u10] rfl rfl) rfl ?_
 rintro _ w23 ⟨pa21, o22, rfl, ev24, hb25⟩
 have hE := hE.evo ev24 rfl rfl
 have hb20 := hb20.evo ev24 rfl
 refine WL.p (.int .i64 0) rfl rfl ?_
 refine WL.p (.bool false) rfl rfl ?_
 refine WL.nx hK15 ?_
 refine CW.sr fun K26 hK26 => ?_
 refine WL.stepE (OW.loadK0 Board (.agg #[.int .i64 a0.Buses, u1, u2, u3, .int .i64 a0.Phase, .int .i64 a0.Frequency]) ty29 rfl hb20 rfl rfl) rfl ?_
 refine WL.stepE (OW.loadK0 Power (.agg #[u7, u8, u9, u10]) ty34 rfl hb25 rfl rfl) rfl ?_
 refine WL.p (.int .i64 a2) rfl rfl ?_
 obtain ⟨⟨y27, y28⟩, q29, hF⟩ := bindE hF
 dsimp only at hF
 refine WL.step (OW.call Try.call92 rfl (board_led_ok q29 (mk29 (x := a0) (h4.baseM hE rfl) (h5.baseM hE rfl) (h6.baseM hE rfl)) (mk34 (x := a1) (h11.baseM hE rfl) (h12.baseM hE rfl) (h13.baseM hE rfl) (h14.baseM hE rfl)))) rfl ?_
 rintro _ w30 ⟨o34, hn_, rfl⟩
 obtain ⟨o31, ev32, hA33⟩ := adopt (o := o22) (ks := []) (Ks := [[40], [40, 41]]) 102 ([]) [102] hn_ MbOk.nil rfl rfl rfl rfl
 have hE := hE.evo ev32 rfl rfl
 refine WL.p (.int .i64 y27) rfl rfl ?_
 refine WL.p (.bool y28) rfl rfl ?_
 refine WL.p (.int .i64 y27) rfl rfl ?_
 refine WL.p (.bool y28) rfl rfl ?_
 refine WL.nx hK26 ?_
 obtain rfl := Option.some.inj hF
 exact CW.rets (vs := [.int .i64 y27, .bool y28]) Try.results71 ⟨rfl, rfl, trivial⟩ ⟨_, rfl, _, (hE.rn he0 100 [] rfl rfl), rfl⟩ (fun _ _ h => h)

end Go.Proofs.Ytdfkfohpgakihaa
