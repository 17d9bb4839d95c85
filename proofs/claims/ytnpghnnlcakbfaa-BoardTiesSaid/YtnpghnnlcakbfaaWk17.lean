/- Walks. Written by a program (wip/gen). -/
import Derived.Test.YtnpghnnlcakbfaaHw
import Derived.Test.YtnpghnnlcakbfaaWk2
import Derived.Test.YtnpghnnlcakbfaaWk4
import Derived.Test.YtnpghnnlcakbfaaWk13
import Derived.Test.YtnpghnnlcakbfaaWk14
import Derived.Test.YtnpghnnlcakbfaaWk15
import Derived.Test.YtnpghnnlcakbfaaWk16
set_option linter.unusedVariables false
set_option linter.unusedSimpArgs false
namespace Go.Proofs.Ytnpghnnlcakbfaa
open Go Go.RowKit Dp

set_option maxRecDepth 100000

set_option maxHeartbeats 16000000 in
theorem dynposlaw15_BoardTies_ok {a0 : (List Int)} {a1 : U8} {r : Bool} (hF : dynposlaw15_BoardTies a0 a1 = some r) {w0 : World} {p0 : Value} {S0 : Nat → Prop} (g0 : Rv S0 w0 p0 a0) :
    Calls Try.prog 5 #[p0, .int .u8 a1.n] w0 (Ret fun v w' => ∃ (oc : Cls), En w0 (entM w0 [] [S0]) oc w' ∧ v = .bool r) := by
 obtain ⟨e0, he0⟩ : ∃ e0, e0 = entM w0 [] [S0] := ⟨_, rfl⟩
 have hE := En.refl w0 e0
 have g0 := g0.argM he0 0 (K := [40]) rfl (nosep rfl) rfl
 rw [dynposlaw15_BoardTies] at hF
 refine enter (l := [p0, .int .u8 a1.n]) Try.func5 rfl Try.ntmps5 rfl ?_
 refine CW.sub (L' := [(0, p0), (1, .int .u8 a1.n)]) ⟨rfl, rfl, trivial⟩ ?_
 refine CW.sr fun K1 hK1 => ?_
 refine WL.p (.bool false) rfl rfl ?_
 refine WL.nx hK1 ?_
 refine CW.sr fun K2 hK2 => ?_
 refine WL.p p0 rfl rfl ?_
 obtain ⟨y3, q4, hF⟩ := bindE hF
 refine WL.step (OW.call Try.call9 rfl (dynposmake_New_ok q4 (g0.baseM hE rfl))) rfl ?_
 rintro _ w5 ⟨hb9, sb, sv, rfl, hge_, hs_, h10⟩
 obtain ⟨o6, ev7, hn8⟩ := fresh_new (o := e0) 100 hb9
 have hE := hE.evo ev7 rfl rfl
 have hs : SrcC o6 100 w5 sb sv y3 y3 := ⟨hs_, hn8 sb hge_⟩
 have h10 : Rv (In o6 [40]) w5 sv y3 := h10.old ev7
 refine WL.p (.pointer (some ⟨sb, 0, none⟩)) rfl rfl ?_
 refine WL.nx hK2 ?_
 refine CW.sr fun K11 hK11 => ?_
 refine WL.p (.pointer (some ⟨sb, 0, none⟩)) rfl rfl ?_
 have hm12 : MbOk o6 w5 0 [sb] [100] := ⟨.inl ⟨hs.1.lt, hs.2⟩, trivial⟩
 obtain ⟨⟨y13, st14⟩, q15, hF⟩ := bindE hF
 dsimp only at hF
 refine WL.step (OW.call Try.call17 rfl (Src_Board_ok q15 hs.1 h10 (hm12.sep rfl) (hm12.nodup rfl))) rfl ?_
 rintro _ w16 ⟨o20, u22, u24, u26, hn_, rfl, h21, h23, h25, hs⟩
 obtain ⟨o17, ev18, hA19⟩ := adopt (o := o6) (ks := [100]) (Ks := [[40]]) 101 ([(101, 102), (102, 103), (103, 104)]) [100, 101, 102, 103, 104] hn_ hm12 rfl rfl rfl rfl
 have h21 := h21.ad (c' := 102) (K' := []) hA19 rfl rfl
 have h23 := h23.ad (c' := 103) (K' := []) hA19 rfl rfl
 have h25 := h25.ad (c' := 104) (K' := [101]) hA19 rfl rfl
 have hs := hs.ad (c' := 100) hA19 rfl
 have hE := hE.evo ev18 rfl rfl
 have h10 := h10.evo ev18 rfl
 refine WL.step (OW.allocK (o := o17) Board 105 [.int .i64 0, .slice none 0 0, .slice none 0 0, .slice none 0 0, .int .i64 0, .int .i64 0] ty39 rfl) rfl ?_
 rintro _ w29 ⟨pa27, o28, rfl, ev30, hb31⟩
 have hE := hE.evo ev30 rfl rfl
 have h10 := h10.evo ev30 rfl
 have h21 := h21.evo ev30 rfl
 have h23 := h23.evo ev30 rfl
 have h25 := h25.evo ev30 rfl
 have hs := hs.evo ev30 rfl
 have h32 := Ow.nil (α := Breaker) 48 o28 106 [] w29
 have h33 := Ow.nil (α := Source) 83 o28 107 [] w29
 have h34 := Ow.nil (α := Consumer) 85 o28 108 [] w29
 refine WL.step0 (OW.storeK0 Board [.int .i64 y13.Buses, u22, u24, u26, .int .i64 y13.Phase, .int .i64 y13.Frequency] [.int .i64 y13.Buses, u22, u24, u26, .int .i64 y13.Phase, .int .i64 y13.Frequency] ty39 rfl rfl hb31 rfl ⟨rfl, (h21.one), (h23.one), (h25.one), rfl, rfl, trivial⟩ rfl rfl rfl) ?_
 rintro _ w35 ⟨ev36, hb31⟩
 have hE := hE.evo ev36 rfl rfl
 have h10 := h10.evo ev36 rfl
 have h21 := h21.evo ev36 rfl
 have h23 := h23.evo ev36 rfl
 have h25 := h25.evo ev36 rfl
 have hs := hs.evo ev36 rfl
 refine WL.nx hK11 ?_
 refine CW.sr fun K37 hK37 => ?_
 refine WL.p (.pointer (some ⟨sb, 0, none⟩)) rfl rfl ?_
 refine WL.stepE (OW.loadK0 Board (.agg #[.int .i64 y13.Buses, u22, u24, u26, .int .i64 y13.Phase, .int .i64 y13.Frequency]) ty39 rfl hb31 rfl rfl) rfl ?_
 have hm38 : MbOk o28 w35 0 [sb] [100] := ⟨.inl ⟨hs.1.lt, hs.2⟩, trivial⟩
 obtain ⟨⟨y39, st40⟩, q41, hF⟩ := bindE hF
 dsimp only at hF
 refine WL.step (OW.call Try.call18 rfl (Src_Power_ok q41 hs.1 h10 (hm38.sep rfl) (mk39 (x := y13) (h21.rv.sub (K' := [101, 102, 103, 104]) rfl) (h23.rv.sub (K' := [101, 102, 103, 104]) rfl) (h25.rv.sub (K' := [101, 102, 103, 104]) rfl)) (hm38.sep rfl) (hm38.nodup rfl))) rfl ?_
 rintro _ w42 ⟨o46, u48, u50, u52, u54, hn_, rfl, h47, h49, h51, h53, hs⟩
 obtain ⟨o43, ev44, hA45⟩ := adopt (o := o28) (ks := [100]) (Ks := [[40], [101, 102, 103, 104]]) 109 ([(100, 110), (101, 111), (102, 112), (103, 113)]) [100, 109, 110, 111, 112, 113] hn_ hm38 rfl rfl rfl rfl
 have h47 := h47.ad (c' := 110) (K' := []) hA45 rfl rfl
 have h49 := h49.ad (c' := 111) (K' := []) hA45 rfl rfl
 have h51 := h51.ad (c' := 112) (K' := []) hA45 rfl rfl
 have h53 := h53.ad (c' := 113) (K' := []) hA45 rfl rfl
 have hs := hs.ad (c' := 100) hA45 rfl
 have hE := hE.evo ev44 rfl rfl
 have h10 := h10.evo ev44 rfl
 have h21 := h21.evo ev44 rfl
 have h23 := h23.evo ev44 rfl
 have h25 := h25.evo ev44 rfl
 have hb31 := hb31.evo ev44 rfl
 refine WL.step (OW.allocK (o := o43) Power 114 [.slice none 0 0, .slice none 0 0, .slice none 0 0, .slice none 0 0] ty45 rfl) rfl ?_
 rintro _ w57 ⟨pa55, o56, rfl, ev58, hb59⟩
 have hE := hE.evo ev58 rfl rfl
 have h10 := h10.evo ev58 rfl
 have h21 := h21.evo ev58 rfl
 have h23 := h23.evo ev58 rfl
 have h25 := h25.evo ev58 rfl
 have h47 := h47.evo ev58 rfl
 have h49 := h49.evo ev58 rfl
 have h51 := h51.evo ev58 rfl
 have h53 := h53.evo ev58 rfl
 have hb31 := hb31.evo ev58 rfl
 have hs := hs.evo ev58 rfl
 have h60 := Ow.nil (α := Bool) 4 o56 115 [] w57
 have h61 := Ow.nil (α := Running) 64 o56 116 [] w57
 have h62 := Ow.nil (α := Int) 3 o56 117 [] w57
 have h63 := Ow.nil (α := Part) 66 o56 118 [] w57
 refine WL.step0 (OW.storeK0 Power [u48, u50, u52, u54] [u48, u50, u52, u54] ty45 rfl rfl hb59 rfl ⟨(h47.one), (h49.one), (h51.one), (h53.one), trivial⟩ rfl rfl rfl) ?_
 rintro _ w64 ⟨ev65, hb59⟩
 have hE := hE.evo ev65 rfl rfl
 have h10 := h10.evo ev65 rfl
 have h21 := h21.evo ev65 rfl
 have h23 := h23.evo ev65 rfl
 have h25 := h25.evo ev65 rfl
 have h47 := h47.evo ev65 rfl
 have h49 := h49.evo ev65 rfl
 have h51 := h51.evo ev65 rfl
 have h53 := h53.evo ev65 rfl
 have hb31 := hb31.evo ev65 rfl
 have hs := hs.evo ev65 rfl
 refine WL.nx hK37 ?_
 refine CW.sr fun K66 hK66 => ?_
 have h67 := Ow.nil (α := Int) 3 o56 119 [] w64
 refine WL.p (.slice none 0 0) rfl rfl ?_
 refine WL.nx hK66 ?_
 refine CW.seq fun K68 hK68 => ?_
 refine CW.sr fun K69 hK69 => ?_
 refine WL.stepE (OW.fldAddr (FldOk.at f39_1) rfl) rfl ?_
 refine WL.stepE (OW.loadK (off := 1) (List Breaker) (u22) ty35 rfl hb31 rfl rfl) rfl ?_
 refine WL.stepE (OW.len Try.underlying35 rfl h21.rv) rfl ?_
 refine WL.p (.int .i64 0) rfl rfl ?_
 refine WL.nx hK69 ?_
 refine CW.block ?_
 obtain ⟨r78, hl77, hF⟩ := bindE hF
 have hJ81 : ∀ (x74 : (List Int)) (w79 : World) (o80 : Cls) (v75 : Value), x74 = r78 → En w0 e0 o80 w79 → Rv (In o80 [40]) w79 sv y3 → Ow 48 o80 102 [] w79 u22 y13.Breakers → Ow 83 o80 103 [] w79 u24 y13.Sources → Ow 85 o80 104 [101] w79 u26 y13.Consumers → Ow 4 o80 110 [] w79 u48 y39.Closed → Ow 64 o80 111 [] w79 u50 y39.Sources → Ow 3 o80 112 [] w79 u52 y39.Limits → Ow 66 o80 113 [] w79 u54 y39.Broken → Ow 3 o80 119 [] w79 v75 x74 → Bk o80 105 w79 pa27 [.int .i64 y13.Buses, u22, u24, u26, .int .i64 y13.Phase, .int .i64 y13.Frequency] → Bk o80 114 w79 pa55 [u48, u50, u52, u54] → SrcC o80 100 w79 sb sv y3 st40 → NK 120 K68 [(1, .int .u8 a1.n), (6, .pointer (some pa27)), (7, .pointer (some pa55)), (8, v75)] w79 := by
  intro x74 w79 o80 v75 e_ hE h10 h21 h23 h25 h47 h49 h51 h53 h76 hb31 hb59 hs
  subst e_
  try dsimp only at hF
  refine hK68 _ _ ?_
  refine CW.seq fun K82 hK82 => ?_
  refine CW.sr fun K83 hK83 => ?_
  refine WL.p v75 rfl rfl ?_
  refine WL.stepE (OW.len Try.underlying22 rfl h76.rv) rfl ?_
  refine WL.p (.bool ((((len x74) == 0)))) rfl rfl ?_
  refine WL.nx hK83 ?_
  refine CW.cond (b := (((len x74) == 0))) rfl (fun hc84 => ?_) (fun hc84 => ?_)
  ·have hF := iteT hc84 hF
   refine CW.seq fun K85 hK85 => ?_
   obtain ⟨y86, q87, hF⟩ := bindE hF
   obtain ⟨x95, q96, hF⟩ := bindE hF
   have hJ99 : ∀ (w97 : World) (o98 : Cls), En w0 e0 o98 w97 → Rv (In o98 [40]) w97 sv y3 → SrcC o98 100 w97 sb sv y3 st40 → NK 120 K85 [(4, .bool x95)] w97 := by
    intro w97 o98  hE h10 hs
    refine hK85 _ _ ?_
    obtain rfl := Option.some.inj hF
    exact CW.rets (vs := [.bool x95]) Try.results5 ⟨rfl, trivial⟩ ⟨_, rfl, _, (hE.rn he0 100 [] rfl rfl), rfl⟩ (fun _ _ h => h)
   rcases Bool.eq_false_or_eq_true ((((len y86) == y13.Buses))) with hc100 | hc100
   ·have q96 := iteT hc100 q96
    obtain ⟨y101, q102, q96⟩ := bindE q96
    have ev_ := Evo.drew o80 w79
    refine CW.anyS (N := [122, 123, 124]) hmix [sOw none none [] 48 102 [] (vk u22) y13.Breakers, sOw none none [] 83 103 [] (vk u24) y13.Sources, sOw none none [] 85 104 [101] (vk u26) y13.Consumers, sOw none none [] 4 110 [] (vk u48) y39.Closed, sOw none none [] 64 111 [] (vk u50) y39.Sources, sOw none none [] 3 112 [] (vk u52) y39.Limits, sOw none none [] 66 113 [] (vk u54) y39.Broken, sBk none none [] 105 (vk pa27) (vk ([.int .i64 y13.Buses, u22, u24, u26, .int .i64 y13.Phase, .int .i64 y13.Frequency])), sBk none none [] 114 (vk pa55) (vk ([u48, u50, u52, u54])), sOw (some 2) none [2] 53 123 [122] (vn 0) y86] [⟨[], [7], [], [], vk (.agg #[.int .i64 y13.Buses, u22, u24, u26, .int .i64 y13.Phase, .int .i64 y13.Frequency]), false⟩, ⟨[], [8], [], [], vk (.agg #[u48, u50, u52, u54]), false⟩, ⟨[], [0, 1, 2, 3, 4, 5, 6], [0, 1], [2], vn 0, false⟩, ⟨[], [9], [0, 1, 2], [], vk (.int .i64 (len y86)), false⟩, ⟨[], [], [], [], vk (.pointer (some (pa27.add 0))), false⟩, ⟨[], [7], [4], [], vk (.int .i64 y13.Buses), false⟩, ⟨[], [], rg 0 6, [], vk (.bool ((((len y86) == y13.Buses)))), false⟩, ⟨[], [], rg 0 7, [], vk (.bool ((((len y86) == y13.Buses)))), false⟩, ⟨[], [], rg 0 8, [], vk (.bool y101), false⟩, ⟨[], [], rg 0 9, [], vk (.bool y101), false⟩, ⟨[], [], rg 0 10, [], vk (.bool y101), false⟩] [] hE rfl (by kernel_rfl) (by kernel_rfl) ⟨h21.evo ev_ rfl, h23.evo ev_ rfl, h25.evo ev_ rfl, h47.evo ev_ rfl, h49.evo ev_ rfl, h51.evo ev_ rfl, h53.evo ev_ rfl, hb31.evo ev_ rfl, hb59.evo ev_ rfl, trivial⟩ ⟨?_, ?_, ?_, ?_, ?_, ?_, Ob.pv rfl rfl (fun _ => rfl) rfl (fun _ _ _ => trivial), Ob.pv rfl rfl (fun _ => rfl) rfl (fun _ _ _ => trivial), ?_, ?_, Ob.pv rfl rfl (fun _ => rfl) rfl (fun _ _ _ => trivial), trivial⟩ ?_
    ·intro vs108 o_ w_ hE hb31
     have hb31 := tBk hb31
     exact OW.q [(6, .pointer (some pa27))] ⟨rfl, trivial⟩ (OW.loadK0 Board (.agg #[.int .i64 y13.Buses, u22, u24, u26, .int .i64 y13.Phase, .int .i64 y13.Frequency]) ty39 rfl hb31 rfl rfl) (er rfl trivial)
    ·intro vs108 o_ w_ hE hb59
     have hb59 := tBk hb59
     exact OW.q [(7, .pointer (some pa55))] ⟨rfl, trivial⟩ (OW.loadK0 Power (.agg #[u48, u50, u52, u54]) ty45 rfl hb59 rfl rfl) (er rfl trivial)
    ·intro vs108 o_ w_ hE h21 h23 h25 h47 h49 h51 h53
     have h21 := tOw h21
     have h23 := tOw h23
     have h25 := tOw h25
     have h47 := tOw h47
     have h49 := tOw h49
     have h51 := tOw h51
     have h53 := tOw h53
     refine OW.r [(44, .agg #[.int .i64 y13.Buses, u22, u24, u26, .int .i64 y13.Phase, .int .i64 y13.Frequency]), (45, .agg #[u48, u50, u52, u54])] ⟨rfl, rfl, trivial⟩ (OW.call Try.call19 rfl (board_Islands_ok q87 (mk39 (x := y13) (h21.rv.sub (K' := [101, 102, 103, 104]) rfl) (h23.rv.sub (K' := [101, 102, 103, 104]) rfl) (h25.rv.sub (K' := [101, 102, 103, 104]) rfl)) (mk45 (x := y39) (h47.rv.sub (K' := [110, 111, 112, 113]) rfl) (h49.rv.sub (K' := [110, 111, 112, 113]) rfl) (h51.rv.sub (K' := [110, 111, 112, 113]) rfl) (h53.rv.sub (K' := [110, 111, 112, 113]) rfl)))) ?_
     rintro v94 w88 ⟨o92, hn_, h93⟩
     obtain ⟨o89, ev90, hA91⟩ := adopt (o := o_) (ks := []) (Ks := [[101, 102, 103, 104], [110, 111, 112, 113]]) 122 ([(100, 123)]) [122, 123] hn_ MbOk.nil rfl rfl rfl rfl
     have h93 := h93.ad (c' := 123) (K' := [122]) hA91 rfl rfl
     exact ⟨o89, ev90.sub rfl rfl, rfl, h93, trivial⟩
    ·intro vs108 o_ w_ hE h93
     have h93 := tOw h93
     exact OW.q [(46, (vs108 2))] ⟨rfl, trivial⟩ (OW.len Try.underlying49 rfl h93.rv) (er rfl trivial)
    ·intro vs108 o_ w_ hE 
     exact OW.q [(6, .pointer (some pa27))] ⟨rfl, trivial⟩ (OW.fldAddr (FldOk.at f39_0) rfl) (er rfl trivial)
    ·intro vs108 o_ w_ hE hb31
     have hb31 := tBk hb31
     exact OW.q [(48, .pointer (some (pa27.add 0)))] ⟨rfl, trivial⟩ (OW.loadK (off := 0) Int (.int .i64 y13.Buses) ty3 rfl hb31 rfl rfl) (er rfl trivial)
    ·intro vs108 o_ w_ hE 
     refine ⟨⟨_, rfl, congrArg (fun b => some (Value.bool b)) hc100⟩, ?_⟩
     refine OW.r [] trivial (OW.call Try.call20 rfl (dynposlaw15_sane_ok q102)) ?_
     rintro _ w103 ⟨o107, hn_, rfl⟩
     obtain ⟨o104, ev105, hA106⟩ := adopt (o := o_) (ks := []) (Ks := []) 124 ([]) [124] hn_ MbOk.nil rfl rfl rfl rfl
     exact ⟨o104, ev105.sub rfl rfl, rfl, trivial⟩
    ·intro vs108 o_ w_ hE 
     exact OW.q [(51, .bool ((((len y86) == y13.Buses)))), (52, .bool y101)] ⟨rfl, rfl, trivial⟩ (OW.pickT rfl hc100 rfl) (er rfl trivial)
    ·intro vs108 o110 w109 hE h21 h23 h25 h47 h49 h51 h53 hb31 hb59 h93
     obtain ⟨hE, evT_⟩ := hE
     have h21 : Ow 48 o110 102 [] w109 u22 y13.Breakers := h21
     have h23 : Ow 83 o110 103 [] w109 u24 y13.Sources := h23
     have h25 : Ow 85 o110 104 [101] w109 u26 y13.Consumers := h25
     have h47 : Ow 4 o110 110 [] w109 u48 y39.Closed := h47
     have h49 : Ow 64 o110 111 [] w109 u50 y39.Sources := h49
     have h51 : Ow 3 o110 112 [] w109 u52 y39.Limits := h51
     have h53 : Ow 66 o110 113 [] w109 u54 y39.Broken := h53
     have hb31 : Bk o110 105 w109 pa27 [.int .i64 y13.Buses, u22, u24, u26, .int .i64 y13.Phase, .int .i64 y13.Frequency] := hb31
     have hb59 : Bk o110 114 w109 pa55 [u48, u50, u52, u54] := hb59
     have h93 : Ow 53 o110 123 [122] w109 (vs108 2) y86 := h93
     have h10 := h10.evo evT_ rfl
     have h76 := h76.evo evT_ rfl
     have hs := hs.evo evT_ rfl
     have e111 := Option.some.inj q96
     subst e111
     exact NK.sb (hJ99 w109 o110 hE h10 hs) ⟨rfl, trivial⟩
   ·have q96 := iteF hc100 q96
    have ev_ := Evo.drew o80 w79
    refine CW.anyS (N := [122, 123]) hmix [sOw none none [] 48 102 [] (vk u22) y13.Breakers, sOw none none [] 83 103 [] (vk u24) y13.Sources, sOw none none [] 85 104 [101] (vk u26) y13.Consumers, sOw none none [] 4 110 [] (vk u48) y39.Closed, sOw none none [] 64 111 [] (vk u50) y39.Sources, sOw none none [] 3 112 [] (vk u52) y39.Limits, sOw none none [] 66 113 [] (vk u54) y39.Broken, sBk none none [] 105 (vk pa27) (vk ([.int .i64 y13.Buses, u22, u24, u26, .int .i64 y13.Phase, .int .i64 y13.Frequency])), sBk none none [] 114 (vk pa55) (vk ([u48, u50, u52, u54])), sOw (some 2) none [2] 53 123 [122] (vn 0) y86] [⟨[], [7], [], [], vk (.agg #[.int .i64 y13.Buses, u22, u24, u26, .int .i64 y13.Phase, .int .i64 y13.Frequency]), false⟩, ⟨[], [8], [], [], vk (.agg #[u48, u50, u52, u54]), false⟩, ⟨[], [0, 1, 2, 3, 4, 5, 6], [0, 1], [2], vn 0, false⟩, ⟨[], [9], [0, 1, 2], [], vk (.int .i64 (len y86)), false⟩, ⟨[], [], [], [], vk (.pointer (some (pa27.add 0))), false⟩, ⟨[], [7], [4], [], vk (.int .i64 y13.Buses), false⟩, ⟨[], [], rg 0 6, [], vk (.bool ((((len y86) == y13.Buses)))), false⟩, ⟨[], [], rg 0 7, [], vk (.bool ((((len y86) == y13.Buses)))), false⟩, ⟨[], [], rg 0 8, [], vk undef, true⟩, ⟨[], [], rg 0 9, [], vk (.bool false), false⟩, ⟨[], [], rg 0 10, [], vk (.bool false), false⟩] [] hE rfl (by kernel_rfl) (by kernel_rfl) ⟨h21.evo ev_ rfl, h23.evo ev_ rfl, h25.evo ev_ rfl, h47.evo ev_ rfl, h49.evo ev_ rfl, h51.evo ev_ rfl, h53.evo ev_ rfl, hb31.evo ev_ rfl, hb59.evo ev_ rfl, trivial⟩ ⟨?_, ?_, ?_, ?_, ?_, ?_, Ob.pv rfl rfl (fun _ => rfl) rfl (fun _ _ _ => trivial), Ob.pv rfl rfl (fun _ => rfl) rfl (fun _ _ _ => trivial), ?_, ?_, Ob.pv rfl rfl (fun _ => rfl) rfl (fun _ _ _ => trivial), trivial⟩ ?_
    ·intro vs112 o_ w_ hE hb31
     have hb31 := tBk hb31
     exact OW.q [(6, .pointer (some pa27))] ⟨rfl, trivial⟩ (OW.loadK0 Board (.agg #[.int .i64 y13.Buses, u22, u24, u26, .int .i64 y13.Phase, .int .i64 y13.Frequency]) ty39 rfl hb31 rfl rfl) (er rfl trivial)
    ·intro vs112 o_ w_ hE hb59
     have hb59 := tBk hb59
     exact OW.q [(7, .pointer (some pa55))] ⟨rfl, trivial⟩ (OW.loadK0 Power (.agg #[u48, u50, u52, u54]) ty45 rfl hb59 rfl rfl) (er rfl trivial)
    ·intro vs112 o_ w_ hE h21 h23 h25 h47 h49 h51 h53
     have h21 := tOw h21
     have h23 := tOw h23
     have h25 := tOw h25
     have h47 := tOw h47
     have h49 := tOw h49
     have h51 := tOw h51
     have h53 := tOw h53
     refine OW.r [(44, .agg #[.int .i64 y13.Buses, u22, u24, u26, .int .i64 y13.Phase, .int .i64 y13.Frequency]), (45, .agg #[u48, u50, u52, u54])] ⟨rfl, rfl, trivial⟩ (OW.call Try.call19 rfl (board_Islands_ok q87 (mk39 (x := y13) (h21.rv.sub (K' := [101, 102, 103, 104]) rfl) (h23.rv.sub (K' := [101, 102, 103, 104]) rfl) (h25.rv.sub (K' := [101, 102, 103, 104]) rfl)) (mk45 (x := y39) (h47.rv.sub (K' := [110, 111, 112, 113]) rfl) (h49.rv.sub (K' := [110, 111, 112, 113]) rfl) (h51.rv.sub (K' := [110, 111, 112, 113]) rfl) (h53.rv.sub (K' := [110, 111, 112, 113]) rfl)))) ?_
     rintro v94 w88 ⟨o92, hn_, h93⟩
     obtain ⟨o89, ev90, hA91⟩ := adopt (o := o_) (ks := []) (Ks := [[101, 102, 103, 104], [110, 111, 112, 113]]) 122 ([(100, 123)]) [122, 123] hn_ MbOk.nil rfl rfl rfl rfl
     have h93 := h93.ad (c' := 123) (K' := [122]) hA91 rfl rfl
     exact ⟨o89, ev90.sub rfl rfl, rfl, h93, trivial⟩
    ·intro vs112 o_ w_ hE h93
     have h93 := tOw h93
     exact OW.q [(46, (vs112 2))] ⟨rfl, trivial⟩ (OW.len Try.underlying49 rfl h93.rv) (er rfl trivial)
    ·intro vs112 o_ w_ hE 
     exact OW.q [(6, .pointer (some pa27))] ⟨rfl, trivial⟩ (OW.fldAddr (FldOk.at f39_0) rfl) (er rfl trivial)
    ·intro vs112 o_ w_ hE hb31
     have hb31 := tBk hb31
     exact OW.q [(48, .pointer (some (pa27.add 0)))] ⟨rfl, trivial⟩ (OW.loadK (off := 0) Int (.int .i64 y13.Buses) ty3 rfl hb31 rfl rfl) (er rfl trivial)
    ·intro vs112 o_ w_ hE 
     exact ⟨⟨_, rfl, .inl (congrArg (fun b => some (Value.bool b)) hc100)⟩, rfl, trivial⟩
    ·intro vs112 o_ w_ hE 
     exact OW.q [(51, .bool ((((len y86) == y13.Buses)))), (52, undef)] ⟨rfl, rfl, trivial⟩ (OW.pickF rfl hc100 rfl) (er rfl trivial)
    ·intro vs112 o114 w113 hE h21 h23 h25 h47 h49 h51 h53 hb31 hb59 h93
     obtain ⟨hE, evT_⟩ := hE
     have h21 : Ow 48 o114 102 [] w113 u22 y13.Breakers := h21
     have h23 : Ow 83 o114 103 [] w113 u24 y13.Sources := h23
     have h25 : Ow 85 o114 104 [101] w113 u26 y13.Consumers := h25
     have h47 : Ow 4 o114 110 [] w113 u48 y39.Closed := h47
     have h49 : Ow 64 o114 111 [] w113 u50 y39.Sources := h49
     have h51 : Ow 3 o114 112 [] w113 u52 y39.Limits := h51
     have h53 : Ow 66 o114 113 [] w113 u54 y39.Broken := h53
     have hb31 : Bk o114 105 w113 pa27 [.int .i64 y13.Buses, u22, u24, u26, .int .i64 y13.Phase, .int .i64 y13.Frequency] := hb31
     have hb59 : Bk o114 114 w113 pa55 [u48, u50, u52, u54] := hb59
     have h93 : Ow 53 o114 123 [122] w113 (vs112 2) y86 := h93
     have h10 := h10.evo evT_ rfl
     have h76 := h76.evo evT_ rfl
     have hs := hs.evo evT_ rfl
     have e115 := Option.some.inj q96
     subst e115
     exact NK.sb (hJ99 w113 o114 hE h10 hs) ⟨rfl, trivial⟩
  ·have hF := iteF hc84 hF
   refine CW.skip ?_
   refine hK82 _ _ ?_
   refine CW.sr fun K116 hK116 => ?_
   refine WL.p v75 rfl rfl ?_
   refine WL.p (.int .u8 a1.n) rfl rfl ?_
   refine WL.stepE (OW.conv ⟨_, Try.underlying5⟩ Try.underlying3 rfl) rfl ?_
   refine WL.p v75 rfl rfl ?_
   refine WL.stepE (OW.len Try.underlying22 rfl h76.rv) rfl ?_
   obtain ⟨y117, q118, hF⟩ := bindE hF
   refine WL.stepE (OW.rem rfl rfl q118) rfl ?_
   obtain ⟨y119, q123, hF⟩ := bindE hF
   refine WL.stepP (OW.indexAddrO Try.underlying22 ty3 rfl h76 rfl q123) rfl fun _ ⟨pa120, hv_, hp121, he122⟩ => ?_
   subst hv_
   refine WL.stepE (OW.loadI ty3 rfl hp121.at) rfl ?_
   refine WL.p (.int .i64 y119) rfl rfl ?_
   refine WL.nx hK116 ?_
   refine CW.seq fun K124 hK124 => ?_
   obtain ⟨y125, q126, hF⟩ := bindE hF
   obtain ⟨y140, q141, hF⟩ := bindE hF
   have ev_ := Evo.drew o80 w79
   refine CW.anyS (N := [125, 126, 127, 128, 129, 130, 131, 132, 133, 134, 135, 136, 137, 138, 139, 140, 141, 142, 143, 144]) hmix [sOw none none [] 4 110 [] (vk u48) y39.Closed, sOw none none [] 64 111 [] (vk u50) y39.Sources, sOw none none [] 3 112 [] (vk u52) y39.Limits, sOw none none [] 66 113 [] (vk u54) y39.Broken, sBk none none [] 114 (vk pa55) (vk ([u48, u50, u52, u54])), sOw (some 1) none [1] 4 126 [] (fun x_ => (cOf 0 (x_.getD 0 undef))) y125.Closed, sOw (some 1) none [1] 64 127 [] (fun x_ => (cOf 1 (x_.getD 0 undef))) y125.Sources, sOw (some 1) none [1] 3 128 [] (fun x_ => (cOf 2 (x_.getD 0 undef))) y125.Limits, sOw (some 1) none [1] 66 129 [] (fun x_ => (cOf 3 (x_.getD 0 undef))) y125.Broken, sOw (some 3) none [3] 4 131 [] (fun x_ => (cOf 0 (x_.getD 0 undef))) y140.Closed, sOw (some 3) none [3] 64 132 [] (fun x_ => (cOf 1 (x_.getD 0 undef))) y140.Sources, sOw (some 3) none [3] 3 133 [] (fun x_ => (cOf 2 (x_.getD 0 undef))) y140.Limits, sOw (some 3) none [3] 66 134 [] (fun x_ => (cOf 3 (x_.getD 0 undef))) y140.Broken, sOw (some 4) none [] 4 136 [] (vk (.slice none 0 0)) ([] : List Bool), sOw (some 4) none [] 64 137 [] (vk (.slice none 0 0)) ([] : List Running), sOw (some 4) none [] 3 138 [] (vk (.slice none 0 0)) ([] : List Int), sOw (some 4) none [] 66 139 [] (vk (.slice none 0 0)) ([] : List Part), sBk (some 4) (some 6) [4] 135 (vp 0) (vk ([(.slice none 0 0), (.slice none 0 0), (.slice none 0 0), (.slice none 0 0)])), sOw (some 5) none [] 4 141 [] (vk (.slice none 0 0)) ([] : List Bool), sOw (some 5) none [] 64 142 [] (vk (.slice none 0 0)) ([] : List Running), sOw (some 5) none [] 3 143 [] (vk (.slice none 0 0)) ([] : List Int), sOw (some 5) none [] 66 144 [] (vk (.slice none 0 0)) ([] : List Part), sBk (some 5) (some 7) [5] 140 (vp 0) (vk ([(.slice none 0 0), (.slice none 0 0), (.slice none 0 0), (.slice none 0 0)])), sBk (some 6) none [1, 4] 135 (vp 1) (fun x_ => [(cOf 0 (x_.getD 0 undef)), (cOf 1 (x_.getD 0 undef)), (cOf 2 (x_.getD 0 undef)), (cOf 3 (x_.getD 0 undef))]), sBk (some 7) none [3, 5] 140 (vp 1) (fun x_ => [(cOf 0 (x_.getD 0 undef)), (cOf 1 (x_.getD 0 undef)), (cOf 2 (x_.getD 0 undef)), (cOf 3 (x_.getD 0 undef))])] [⟨[], [4], [], [], vk (.agg #[u48, u50, u52, u54]), false⟩, ⟨[], [0, 1, 2, 3], [0], [1], fun x_ => .agg #[(cOf 0 (x_.getD 0 undef)), (cOf 1 (x_.getD 0 undef)), (cOf 2 (x_.getD 0 undef)), (cOf 3 (x_.getD 0 undef))], false⟩, ⟨[], [4], [], [], vk (.agg #[u48, u50, u52, u54]), false⟩, ⟨[], [0, 1, 2, 3], [0, 1, 2], [3], fun x_ => .agg #[(cOf 0 (x_.getD 0 undef)), (cOf 1 (x_.getD 0 undef)), (cOf 2 (x_.getD 0 undef)), (cOf 3 (x_.getD 0 undef))], false⟩, ⟨[], [], [], [4], vq 0, false⟩, ⟨[], [], [], [5], vq 0, false⟩, ⟨[135], [5, 6, 7, 8, 17], rg 0 6, [], vk undef, false⟩, ⟨[140], [9, 10, 11, 12, 22], rg 0 7, [], vk undef, false⟩] [135, 140] hE rfl (by kernel_rfl) (by kernel_rfl) ⟨h47.evo ev_ rfl, h49.evo ev_ rfl, h51.evo ev_ rfl, h53.evo ev_ rfl, hb59.evo ev_ rfl, trivial⟩ ⟨?_, ?_, ?_, ?_, ?_, ?_, ?_, ?_, trivial⟩ ?_
   ·intro vs179 o_ w_ hE hb59
    have hb59 := tBk hb59
    exact OW.q [(7, .pointer (some pa55))] ⟨rfl, trivial⟩ (OW.loadK0 Power (.agg #[u48, u50, u52, u54]) ty45 rfl hb59 rfl rfl) (er rfl trivial)
   ·intro vs179 o_ w_ hE h47 h49 h51 h53
    have h47 := tOw h47
    have h49 := tOw h49
    have h51 := tOw h51
    have h53 := tOw h53
    refine OW.r [(62, .agg #[u48, u50, u52, u54])] ⟨rfl, trivial⟩ (OW.call Try.call21 rfl (dynposref15_Copy_ok q126 (mk45 (x := y39) (h47.rv.sub (K' := [110, 111, 112, 113]) rfl) (h49.rv.sub (K' := [110, 111, 112, 113]) rfl) (h51.rv.sub (K' := [110, 111, 112, 113]) rfl) (h53.rv.sub (K' := [110, 111, 112, 113]) rfl)))) ?_
    rintro _ w127 ⟨o131, u133, u135, u137, u139, hn_, rfl, h132, h134, h136, h138⟩
    obtain ⟨o128, ev129, hA130⟩ := adopt (o := o_) (ks := []) (Ks := [[110, 111, 112, 113]]) 125 ([(100, 126), (101, 127), (102, 128), (103, 129)]) [125, 126, 127, 128, 129] hn_ MbOk.nil rfl rfl rfl rfl
    have h132 := h132.ad (c' := 126) (K' := []) hA130 rfl rfl
    have h134 := h134.ad (c' := 127) (K' := []) hA130 rfl rfl
    have h136 := h136.ad (c' := 128) (K' := []) hA130 rfl rfl
    have h138 := h138.ad (c' := 129) (K' := []) hA130 rfl rfl
    exact ⟨o128, ev129.sub rfl rfl, rfl, h132, h134, h136, h138, trivial⟩
   ·intro vs179 o_ w_ hE hb59
    have hb59 := tBk hb59
    exact OW.q [(7, .pointer (some pa55))] ⟨rfl, trivial⟩ (OW.loadK0 Power (.agg #[u48, u50, u52, u54]) ty45 rfl hb59 rfl rfl) (er rfl trivial)
   ·intro vs179 o_ w_ hE h47 h49 h51 h53
    have h47 := tOw h47
    have h49 := tOw h49
    have h51 := tOw h51
    have h53 := tOw h53
    refine OW.r [(64, .agg #[u48, u50, u52, u54])] ⟨rfl, trivial⟩ (OW.call Try.call21 rfl (dynposref15_Copy_ok q141 (mk45 (x := y39) (h47.rv.sub (K' := [110, 111, 112, 113]) rfl) (h49.rv.sub (K' := [110, 111, 112, 113]) rfl) (h51.rv.sub (K' := [110, 111, 112, 113]) rfl) (h53.rv.sub (K' := [110, 111, 112, 113]) rfl)))) ?_
    rintro _ w142 ⟨o146, u148, u150, u152, u154, hn_, rfl, h147, h149, h151, h153⟩
    obtain ⟨o143, ev144, hA145⟩ := adopt (o := o_) (ks := []) (Ks := [[110, 111, 112, 113]]) 130 ([(100, 131), (101, 132), (102, 133), (103, 134)]) [130, 131, 132, 133, 134] hn_ MbOk.nil rfl rfl rfl rfl
    have h147 := h147.ad (c' := 131) (K' := []) hA145 rfl rfl
    have h149 := h149.ad (c' := 132) (K' := []) hA145 rfl rfl
    have h151 := h151.ad (c' := 133) (K' := []) hA145 rfl rfl
    have h153 := h153.ad (c' := 134) (K' := []) hA145 rfl rfl
    exact ⟨o143, ev144.sub rfl rfl, rfl, h147, h149, h151, h153, trivial⟩
   ·intro vs179 o_ w_ hE 
    refine OW.r [] trivial (OW.allocK (o := o_) Power 135 [.slice none 0 0, .slice none 0 0, .slice none 0 0, .slice none 0 0] ty45 rfl) ?_
    rintro _ w157 ⟨pa155, o156, rfl, ev158, hb159⟩
    have h160 := Ow.nil (α := Bool) 4 o156 136 [] w157
    have h161 := Ow.nil (α := Running) 64 o156 137 [] w157
    have h162 := Ow.nil (α := Int) 3 o156 138 [] w157
    have h163 := Ow.nil (α := Part) 66 o156 139 [] w157
    exact ⟨o156, ev158.sub rfl rfl, rfl, h160, h161, h162, h163, hb159, trivial⟩
   ·intro vs179 o_ w_ hE 
    refine OW.r [] trivial (OW.allocK (o := o_) Power 140 [.slice none 0 0, .slice none 0 0, .slice none 0 0, .slice none 0 0] ty45 rfl) ?_
    rintro _ w166 ⟨pa164, o165, rfl, ev167, hb168⟩
    have h169 := Ow.nil (α := Bool) 4 o165 141 [] w166
    have h170 := Ow.nil (α := Running) 64 o165 142 [] w166
    have h171 := Ow.nil (α := Int) 3 o165 143 [] w166
    have h172 := Ow.nil (α := Part) 66 o165 144 [] w166
    exact ⟨o165, ev167.sub rfl rfl, rfl, h169, h170, h171, h172, hb168, trivial⟩
   ·intro vs179 o_ w_ hE h132 h134 h136 h138 hb159
    have h132 := tOw h132
    have h134 := tOw h134
    have h136 := tOw h136
    have h138 := tOw h138
    have hb159 := tBk hb159
    refine OW.r [(12, .pointer (some (pOf (vs179 4)))), (63, .agg #[(cOf 0 (vs179 1)), (cOf 1 (vs179 1)), (cOf 2 (vs179 1)), (cOf 3 (vs179 1))])] ⟨rfl, rfl, trivial⟩ (OW.storeK0 Power [(cOf 0 (vs179 1)), (cOf 1 (vs179 1)), (cOf 2 (vs179 1)), (cOf 3 (vs179 1))] [(cOf 0 (vs179 1)), (cOf 1 (vs179 1)), (cOf 2 (vs179 1)), (cOf 3 (vs179 1))] ty45 rfl rfl hb159 rfl ⟨(h132.one), (h134.one), (h136.one), (h138.one), trivial⟩ rfl rfl rfl) ?_
    rintro _ w173 ⟨ev174, hb175⟩
    exact ⟨o_, ev174.sub rfl rfl, trivial, hb175, trivial⟩
   ·intro vs179 o_ w_ hE h147 h149 h151 h153 hb168
    have h147 := tOw h147
    have h149 := tOw h149
    have h151 := tOw h151
    have h153 := tOw h153
    have hb168 := tBk hb168
    refine OW.r [(13, .pointer (some (pOf (vs179 5)))), (65, .agg #[(cOf 0 (vs179 3)), (cOf 1 (vs179 3)), (cOf 2 (vs179 3)), (cOf 3 (vs179 3))])] ⟨rfl, rfl, trivial⟩ (OW.storeK0 Power [(cOf 0 (vs179 3)), (cOf 1 (vs179 3)), (cOf 2 (vs179 3)), (cOf 3 (vs179 3))] [(cOf 0 (vs179 3)), (cOf 1 (vs179 3)), (cOf 2 (vs179 3)), (cOf 3 (vs179 3))] ty45 rfl rfl hb168 rfl ⟨(h147.one), (h149.one), (h151.one), (h153.one), trivial⟩ rfl rfl rfl) ?_
    rintro _ w176 ⟨ev177, hb178⟩
    exact ⟨o_, ev177.sub rfl rfl, trivial, hb178, trivial⟩
   ·intro vs179 o181 w180 hE h47 h49 h51 h53 hb59 h132 h134 h136 h138 h147 h149 h151 h153 h160 h161 h162 h163 h169 h170 h171 h172 hb175 hb178
    obtain ⟨hE, evT_⟩ := hE
    have h47 : Ow 4 o181 110 [] w180 u48 y39.Closed := h47
    have h49 : Ow 64 o181 111 [] w180 u50 y39.Sources := h49
    have h51 : Ow 3 o181 112 [] w180 u52 y39.Limits := h51
    have h53 : Ow 66 o181 113 [] w180 u54 y39.Broken := h53
    have hb59 : Bk o181 114 w180 pa55 [u48, u50, u52, u54] := hb59
    have h132 : Ow 4 o181 126 [] w180 (cOf 0 (vs179 1)) y125.Closed := h132
    have h134 : Ow 64 o181 127 [] w180 (cOf 1 (vs179 1)) y125.Sources := h134
    have h136 : Ow 3 o181 128 [] w180 (cOf 2 (vs179 1)) y125.Limits := h136
    have h138 : Ow 66 o181 129 [] w180 (cOf 3 (vs179 1)) y125.Broken := h138
    have h147 : Ow 4 o181 131 [] w180 (cOf 0 (vs179 3)) y140.Closed := h147
    have h149 : Ow 64 o181 132 [] w180 (cOf 1 (vs179 3)) y140.Sources := h149
    have h151 : Ow 3 o181 133 [] w180 (cOf 2 (vs179 3)) y140.Limits := h151
    have h153 : Ow 66 o181 134 [] w180 (cOf 3 (vs179 3)) y140.Broken := h153
    have h160 : Ow 4 o181 136 [] w180 (.slice none 0 0) ([] : List Bool) := h160
    have h161 : Ow 64 o181 137 [] w180 (.slice none 0 0) ([] : List Running) := h161
    have h162 : Ow 3 o181 138 [] w180 (.slice none 0 0) ([] : List Int) := h162
    have h163 : Ow 66 o181 139 [] w180 (.slice none 0 0) ([] : List Part) := h163
    have h169 : Ow 4 o181 141 [] w180 (.slice none 0 0) ([] : List Bool) := h169
    have h170 : Ow 64 o181 142 [] w180 (.slice none 0 0) ([] : List Running) := h170
    have h171 : Ow 3 o181 143 [] w180 (.slice none 0 0) ([] : List Int) := h171
    have h172 : Ow 66 o181 144 [] w180 (.slice none 0 0) ([] : List Part) := h172
    have hb175 : Bk o181 135 w180 (pOf (vs179 4)) [(cOf 0 (vs179 1)), (cOf 1 (vs179 1)), (cOf 2 (vs179 1)), (cOf 3 (vs179 1))] := hb175
    have hb178 : Bk o181 140 w180 (pOf (vs179 5)) [(cOf 0 (vs179 3)), (cOf 1 (vs179 3)), (cOf 2 (vs179 3)), (cOf 3 (vs179 3))] := hb178
    have h10 := h10.evo evT_ rfl
    have h21 := h21.evo evT_ rfl
    have h23 := h23.evo evT_ rfl
    have h25 := h25.evo evT_ rfl
    have hb31 := hb31.evo evT_ rfl
    have hs := hs.evo evT_ rfl
    refine hK124 _ _ ?_
    refine CW.seq fun K182 hK182 => ?_
    have hd187 := Rv.hd h132.rv
    obtain ⟨y183, q188, hF⟩ := bindE hF
    obtain ⟨y189, q192, hF⟩ := bindE hF
    have hd198 := Rv.hd h147.rv
    obtain ⟨y194, q199, hF⟩ := bindE hF
    obtain ⟨y200, q203, hF⟩ := bindE hF
    have ev_ := Evo.drew o181 w180
    refine CW.anyS (N := [126, 131]) hmix [sOw none (some 7) [] 4 126 [] (vk (((cOf 0 (vs179 1))))) y125.Closed, sOw none (some 9) [] 4 131 [] (vk (((cOf 0 (vs179 3))))) y140.Closed, sBk none none [] 135 (vk ((pOf (vs179 4)))) (vk ([(cOf 0 (vs179 1)), (cOf 1 (vs179 1)), (cOf 2 (vs179 1)), (cOf 3 (vs179 1))])), sBk none none [] 140 (vk ((pOf (vs179 5)))) (vk ([(cOf 0 (vs179 3)), (cOf 1 (vs179 3)), (cOf 2 (vs179 3)), (cOf 3 (vs179 3))])), sEp (some 6) none [6] (vk ((cOf 0 (vs179 1)))) 1 y119 (vp 0), sOw (some 7) none [] 4 126 [] (vk (((cOf 0 (vs179 1))))) y189, sEp (some 8) none [8] (vk ((cOf 0 (vs179 3)))) 1 y119 (vp 0), sOw (some 9) none [] 4 131 [] (vk (((cOf 0 (vs179 3))))) y200] [⟨[], [], [], [], vk (.pointer (some ((pOf (vs179 4)).add 0))), false⟩, ⟨[], [2], [0], [], vk ((cOf 0 (vs179 1))), false⟩, ⟨[], [], [], [], vk (.int .i64 y119), false⟩, ⟨[], [], [], [], vk (.pointer (some ((pOf (vs179 5)).add 0))), false⟩, ⟨[], [3], [3], [], vk ((cOf 0 (vs179 3))), false⟩, ⟨[], [], [], [], vk (.int .i64 y119), false⟩, ⟨[], [], [0, 1, 2], [6], vq 0, false⟩, ⟨[126], [0, 4], [0, 1, 2, 6], [], vk undef, false⟩, ⟨[], [], rg 0 8, [8], vq 0, false⟩, ⟨[131], [1, 6], rg 0 9, [], vk undef, false⟩] [126, 131] hE rfl (by kernel_rfl) (by kernel_rfl) ⟨h132.evo ev_ rfl, h147.evo ev_ rfl, hb175.evo ev_ rfl, hb178.evo ev_ rfl, trivial⟩ ⟨?_, ?_, Ob.pv rfl rfl (fun _ => rfl) rfl (fun _ _ _ => trivial), ?_, ?_, Ob.pv rfl rfl (fun _ => rfl) rfl (fun _ _ _ => trivial), ?_, ?_, ?_, ?_, trivial⟩ ?_
    ·intro vs205 o_ w_ hE 
     exact OW.q [(12, .pointer (some ((pOf (vs179 4)))))] ⟨rfl, trivial⟩ (OW.fldAddr (FldOk.at f45_0) rfl) (er rfl trivial)
    ·intro vs205 o_ w_ hE hb175
     have hb175 := tBk hb175
     exact OW.q [(66, .pointer (some ((pOf (vs179 4)).add 0)))] ⟨rfl, trivial⟩ (OW.loadK (off := 0) (List Bool) ((cOf 0 (vs179 1))) ty41 rfl hb175 rfl rfl) (er rfl trivial)
    ·intro vs205 o_ w_ hE 
     exact OW.q [(13, .pointer (some ((pOf (vs179 5)))))] ⟨rfl, trivial⟩ (OW.fldAddr (FldOk.at f45_0) rfl) (er rfl trivial)
    ·intro vs205 o_ w_ hE hb178
     have hb178 := tBk hb178
     exact OW.q [(69, .pointer (some ((pOf (vs179 5)).add 0)))] ⟨rfl, trivial⟩ (OW.loadK (off := 0) (List Bool) ((cOf 0 (vs179 3))) ty41 rfl hb178 rfl rfl) (er rfl trivial)
    ·intro vs205 o_ w_ hE 
     refine OW.r [(67, (cOf 0 (vs179 1))), (68, .int .i64 y119)] ⟨rfl, rfl, trivial⟩ (OW.indexAddrH Try.underlying41 ty4 rfl hd187 rfl q188) ?_
     rintro _ _ ⟨rfl, ⟨pa184, hv_, he186⟩⟩
     subst hv_
     exact ⟨_, Evo.refl _ _ _ _, rfl, he186, trivial⟩
    ·intro vs205 o_ w_ hE h132 he186
     have h132 := tOw h132
     have he186 := tEp he186
     refine OW.r [(72, .pointer (some (pOf (vs205 6))))] ⟨rfl, trivial⟩ (OW.storeElem ty4 rfl he186 h132 rfl (rv_bool.2 rfl) q192 rfl) ?_
     rintro _ w190 ⟨ev191, h193⟩
     exact ⟨o_, ev191.sub rfl rfl, trivial, h193, trivial⟩
    ·intro vs205 o_ w_ hE 
     refine OW.r [(70, (cOf 0 (vs179 3))), (71, .int .i64 y119)] ⟨rfl, rfl, trivial⟩ (OW.indexAddrH Try.underlying41 ty4 rfl hd198 rfl q199) ?_
     rintro _ _ ⟨rfl, ⟨pa195, hv_, he197⟩⟩
     subst hv_
     exact ⟨_, Evo.refl _ _ _ _, rfl, he197, trivial⟩
    ·intro vs205 o_ w_ hE h147 he197
     have h147 := tOw h147
     have he197 := tEp he197
     refine OW.r [(73, .pointer (some (pOf (vs205 8))))] ⟨rfl, trivial⟩ (OW.storeElem ty4 rfl he197 h147 rfl (rv_bool.2 rfl) q203 rfl) ?_
     rintro _ w201 ⟨ev202, h204⟩
     exact ⟨o_, ev202.sub rfl rfl, trivial, h204, trivial⟩
    ·intro vs205 o207 w206 hE hb175 hb178 he186 h193 he197 h204
     obtain ⟨hE, evT_⟩ := hE
     have hb175 : Bk o207 135 w206 ((pOf (vs179 4))) [(cOf 0 (vs179 1)), (cOf 1 (vs179 1)), (cOf 2 (vs179 1)), (cOf 3 (vs179 1))] := hb175
     have hb178 : Bk o207 140 w206 ((pOf (vs179 5))) [(cOf 0 (vs179 3)), (cOf 1 (vs179 3)), (cOf 2 (vs179 3)), (cOf 3 (vs179 3))] := hb178
     have he186 : EPtr ((cOf 0 (vs179 1))) 1 y119 (pOf (vs205 6)) := he186
     have h193 : Ow 4 o207 126 [] w206 ((cOf 0 (vs179 1))) y189 := h193
     have he197 : EPtr ((cOf 0 (vs179 3))) 1 y119 (pOf (vs205 8)) := he197
     have h204 : Ow 4 o207 131 [] w206 ((cOf 0 (vs179 3))) y200 := h204
     have h10 := h10.evo evT_ rfl
     have h134 := h134.evo evT_ rfl
     have h136 := h136.evo evT_ rfl
     have h138 := h138.evo evT_ rfl
     have h149 := h149.evo evT_ rfl
     have h151 := h151.evo evT_ rfl
     have h153 := h153.evo evT_ rfl
     have h21 := h21.evo evT_ rfl
     have h23 := h23.evo evT_ rfl
     have h25 := h25.evo evT_ rfl
     have hb31 := hb31.evo evT_ rfl
     have hs := hs.evo evT_ rfl
     refine hK182 _ _ ?_
     refine CW.seq fun K208 hK208 => ?_
     obtain ⟨y209, q210, hF⟩ := bindE hF
     obtain ⟨y218, q219, hF⟩ := bindE hF
     have ev_ := Evo.drew o207 w206
     refine CW.anyS (N := [145, 146, 147, 148]) hmix [sOw none none [] 64 127 [] (vk (((cOf 1 (vs179 1))))) y125.Sources, sOw none none [] 3 128 [] (vk (((cOf 2 (vs179 1))))) y125.Limits, sOw none none [] 66 129 [] (vk (((cOf 3 (vs179 1))))) y125.Broken, sOw none none [] 64 132 [] (vk (((cOf 1 (vs179 3))))) y140.Sources, sOw none none [] 3 133 [] (vk (((cOf 2 (vs179 3))))) y140.Limits, sOw none none [] 66 134 [] (vk (((cOf 3 (vs179 3))))) y140.Broken, sOw none none [] 4 126 [] (vk (((cOf 0 (vs179 1))))) y189, sOw none none [] 4 131 [] (vk (((cOf 0 (vs179 3))))) y200, sOw none none [] 48 102 [] (vk u22) y13.Breakers, sOw none none [] 83 103 [] (vk u24) y13.Sources, sOw none none [] 85 104 [101] (vk u26) y13.Consumers, sBk none none [] 135 (vk ((pOf (vs179 4)))) (vk ([(cOf 0 (vs179 1)), (cOf 1 (vs179 1)), (cOf 2 (vs179 1)), (cOf 3 (vs179 1))])), sBk none none [] 140 (vk ((pOf (vs179 5)))) (vk ([(cOf 0 (vs179 3)), (cOf 1 (vs179 3)), (cOf 2 (vs179 3)), (cOf 3 (vs179 3))])), sBk none none [] 105 (vk pa27) (vk ([.int .i64 y13.Buses, u22, u24, u26, .int .i64 y13.Phase, .int .i64 y13.Frequency])), sOw (some 2) none [2] 53 146 [145] (vn 0) y209, sOw (some 6) none [6] 53 148 [147] (vn 0) y218] [⟨[], [13], [], [], vk (.agg #[.int .i64 y13.Buses, u22, u24, u26, .int .i64 y13.Phase, .int .i64 y13.Frequency]), false⟩, ⟨[], [11], [], [], vk (.agg #[(cOf 0 (vs179 1)), (cOf 1 (vs179 1)), (cOf 2 (vs179 1)), (cOf 3 (vs179 1))]), false⟩, ⟨[], [0, 1, 2, 6, 8, 9, 10], [0, 1], [2], vn 0, false⟩, ⟨[], [14], [0, 1, 2], [], vk (.int .i64 (len y209)), false⟩, ⟨[], [13], [], [], vk (.agg #[.int .i64 y13.Buses, u22, u24, u26, .int .i64 y13.Phase, .int .i64 y13.Frequency]), false⟩, ⟨[], [12], [], [], vk (.agg #[(cOf 0 (vs179 3)), (cOf 1 (vs179 3)), (cOf 2 (vs179 3)), (cOf 3 (vs179 3))]), false⟩, ⟨[], [3, 4, 5, 7, 8, 9, 10], [0, 1, 2, 4, 5], [6], vn 0, false⟩, ⟨[], [15], [0, 1, 2, 4, 5, 6], [], vk (.int .i64 (len y218)), false⟩, ⟨[], [], rg 0 7, [], vk (.int .i64 (len y209)), false⟩, ⟨[], [], rg 0 9, [], vk (.int .i64 (len y218)), false⟩] [] hE rfl (by kernel_rfl) (by kernel_rfl) ⟨h134.evo ev_ rfl, h136.evo ev_ rfl, h138.evo ev_ rfl, h149.evo ev_ rfl, h151.evo ev_ rfl, h153.evo ev_ rfl, h193.evo ev_ rfl, h204.evo ev_ rfl, h21.evo ev_ rfl, h23.evo ev_ rfl, h25.evo ev_ rfl, hb175.evo ev_ rfl, hb178.evo ev_ rfl, hb31.evo ev_ rfl, trivial⟩ ⟨?_, ?_, ?_, ?_, ?_, ?_, ?_, ?_, Ob.pv rfl rfl (fun _ => rfl) rfl (fun _ _ _ => trivial), Ob.pv rfl rfl (fun _ => rfl) rfl (fun _ _ _ => trivial), trivial⟩ ?_
     ·intro vs227 o_ w_ hE hb31
      have hb31 := tBk hb31
      exact OW.q [(6, .pointer (some pa27))] ⟨rfl, trivial⟩ (OW.loadK0 Board (.agg #[.int .i64 y13.Buses, u22, u24, u26, .int .i64 y13.Phase, .int .i64 y13.Frequency]) ty39 rfl hb31 rfl rfl) (er rfl trivial)
     ·intro vs227 o_ w_ hE hb175
      have hb175 := tBk hb175
      exact OW.q [(12, .pointer (some ((pOf (vs179 4)))))] ⟨rfl, trivial⟩ (OW.loadK0 Power (.agg #[(cOf 0 (vs179 1)), (cOf 1 (vs179 1)), (cOf 2 (vs179 1)), (cOf 3 (vs179 1))]) ty45 rfl hb175 rfl rfl) (er rfl trivial)
     ·intro vs227 o_ w_ hE h134 h136 h138 h193 h21 h23 h25
      have h134 := tOw h134
      have h136 := tOw h136
      have h138 := tOw h138
      have h193 := tOw h193
      have h21 := tOw h21
      have h23 := tOw h23
      have h25 := tOw h25
      refine OW.r [(74, .agg #[.int .i64 y13.Buses, u22, u24, u26, .int .i64 y13.Phase, .int .i64 y13.Frequency]), (75, .agg #[(cOf 0 (vs179 1)), (cOf 1 (vs179 1)), (cOf 2 (vs179 1)), (cOf 3 (vs179 1))])] ⟨rfl, rfl, trivial⟩ (OW.call Try.call19 rfl (board_Islands_ok q210 (mk39 (x := y13) (h21.rv.sub (K' := [101, 102, 103, 104]) rfl) (h23.rv.sub (K' := [101, 102, 103, 104]) rfl) (h25.rv.sub (K' := [101, 102, 103, 104]) rfl)) (mk45 (x := (⟨y189, y125.Sources, y125.Limits, y125.Broken⟩ : Power)) (h193.rv.sub (K' := [126, 127, 128, 129]) rfl) (h134.rv.sub (K' := [126, 127, 128, 129]) rfl) (h136.rv.sub (K' := [126, 127, 128, 129]) rfl) (h138.rv.sub (K' := [126, 127, 128, 129]) rfl)))) ?_
      rintro v217 w211 ⟨o215, hn_, h216⟩
      obtain ⟨o212, ev213, hA214⟩ := adopt (o := o_) (ks := []) (Ks := [[101, 102, 103, 104], [126, 127, 128, 129]]) 145 ([(100, 146)]) [145, 146] hn_ MbOk.nil rfl rfl rfl rfl
      have h216 := h216.ad (c' := 146) (K' := [145]) hA214 rfl rfl
      exact ⟨o212, ev213.sub rfl rfl, rfl, h216, trivial⟩
     ·intro vs227 o_ w_ hE h216
      have h216 := tOw h216
      exact OW.q [(76, (vs227 2))] ⟨rfl, trivial⟩ (OW.len Try.underlying49 rfl h216.rv) (er rfl trivial)
     ·intro vs227 o_ w_ hE hb31
      have hb31 := tBk hb31
      exact OW.q [(6, .pointer (some pa27))] ⟨rfl, trivial⟩ (OW.loadK0 Board (.agg #[.int .i64 y13.Buses, u22, u24, u26, .int .i64 y13.Phase, .int .i64 y13.Frequency]) ty39 rfl hb31 rfl rfl) (er rfl trivial)
     ·intro vs227 o_ w_ hE hb178
      have hb178 := tBk hb178
      exact OW.q [(13, .pointer (some ((pOf (vs179 5)))))] ⟨rfl, trivial⟩ (OW.loadK0 Power (.agg #[(cOf 0 (vs179 3)), (cOf 1 (vs179 3)), (cOf 2 (vs179 3)), (cOf 3 (vs179 3))]) ty45 rfl hb178 rfl rfl) (er rfl trivial)
     ·intro vs227 o_ w_ hE h149 h151 h153 h204 h21 h23 h25
      have h149 := tOw h149
      have h151 := tOw h151
      have h153 := tOw h153
      have h204 := tOw h204
      have h21 := tOw h21
      have h23 := tOw h23
      have h25 := tOw h25
      refine OW.r [(78, .agg #[.int .i64 y13.Buses, u22, u24, u26, .int .i64 y13.Phase, .int .i64 y13.Frequency]), (79, .agg #[(cOf 0 (vs179 3)), (cOf 1 (vs179 3)), (cOf 2 (vs179 3)), (cOf 3 (vs179 3))])] ⟨rfl, rfl, trivial⟩ (OW.call Try.call19 rfl (board_Islands_ok q219 (mk39 (x := y13) (h21.rv.sub (K' := [101, 102, 103, 104]) rfl) (h23.rv.sub (K' := [101, 102, 103, 104]) rfl) (h25.rv.sub (K' := [101, 102, 103, 104]) rfl)) (mk45 (x := (⟨y200, y140.Sources, y140.Limits, y140.Broken⟩ : Power)) (h204.rv.sub (K' := [131, 132, 133, 134]) rfl) (h149.rv.sub (K' := [131, 132, 133, 134]) rfl) (h151.rv.sub (K' := [131, 132, 133, 134]) rfl) (h153.rv.sub (K' := [131, 132, 133, 134]) rfl)))) ?_
      rintro v226 w220 ⟨o224, hn_, h225⟩
      obtain ⟨o221, ev222, hA223⟩ := adopt (o := o_) (ks := []) (Ks := [[101, 102, 103, 104], [131, 132, 133, 134]]) 147 ([(100, 148)]) [147, 148] hn_ MbOk.nil rfl rfl rfl rfl
      have h225 := h225.ad (c' := 148) (K' := [147]) hA223 rfl rfl
      exact ⟨o221, ev222.sub rfl rfl, rfl, h225, trivial⟩
     ·intro vs227 o_ w_ hE h225
      have h225 := tOw h225
      exact OW.q [(80, (vs227 6))] ⟨rfl, trivial⟩ (OW.len Try.underlying49 rfl h225.rv) (er rfl trivial)
     ·intro vs227 o229 w228 hE h134 h136 h138 h149 h151 h153 h193 h204 h21 h23 h25 hb175 hb178 hb31 h216 h225
      obtain ⟨hE, evT_⟩ := hE
      have h134 : Ow 64 o229 127 [] w228 ((cOf 1 (vs179 1))) y125.Sources := h134
      have h136 : Ow 3 o229 128 [] w228 ((cOf 2 (vs179 1))) y125.Limits := h136
      have h138 : Ow 66 o229 129 [] w228 ((cOf 3 (vs179 1))) y125.Broken := h138
      have h149 : Ow 64 o229 132 [] w228 ((cOf 1 (vs179 3))) y140.Sources := h149
      have h151 : Ow 3 o229 133 [] w228 ((cOf 2 (vs179 3))) y140.Limits := h151
      have h153 : Ow 66 o229 134 [] w228 ((cOf 3 (vs179 3))) y140.Broken := h153
      have h193 : Ow 4 o229 126 [] w228 ((cOf 0 (vs179 1))) y189 := h193
      have h204 : Ow 4 o229 131 [] w228 ((cOf 0 (vs179 3))) y200 := h204
      have h21 : Ow 48 o229 102 [] w228 u22 y13.Breakers := h21
      have h23 : Ow 83 o229 103 [] w228 u24 y13.Sources := h23
      have h25 : Ow 85 o229 104 [101] w228 u26 y13.Consumers := h25
      have hb175 : Bk o229 135 w228 ((pOf (vs179 4))) [(cOf 0 (vs179 1)), (cOf 1 (vs179 1)), (cOf 2 (vs179 1)), (cOf 3 (vs179 1))] := hb175
      have hb178 : Bk o229 140 w228 ((pOf (vs179 5))) [(cOf 0 (vs179 3)), (cOf 1 (vs179 3)), (cOf 2 (vs179 3)), (cOf 3 (vs179 3))] := hb178
      have hb31 : Bk o229 105 w228 pa27 [.int .i64 y13.Buses, u22, u24, u26, .int .i64 y13.Phase, .int .i64 y13.Frequency] := hb31
      have h216 : Ow 53 o229 146 [145] w228 (vs227 2) y209 := h216
      have h225 : Ow 53 o229 148 [147] w228 (vs227 6) y218 := h225
      have h10 := h10.evo evT_ rfl
      have hs := hs.evo evT_ rfl
      refine hK208 _ _ ?_
      refine CW.seq fun K230 hK230 => ?_
      obtain ⟨y231, q235, hF⟩ := bindE hF
      obtain ⟨⟨y236, y237⟩, q238, hF⟩ := bindE hF
      dsimp only at hF
      have ev_ := Evo.drew o229 w228
      refine CW.anyS (N := [149, 150, 151, 152, 153]) hmix [sOw none none [] 64 127 [] (vk (((cOf 1 (vs179 1))))) y125.Sources, sOw none none [] 3 128 [] (vk (((cOf 2 (vs179 1))))) y125.Limits, sOw none none [] 66 129 [] (vk (((cOf 3 (vs179 1))))) y125.Broken, sOw none none [] 4 126 [] (vk (((cOf 0 (vs179 1))))) y189, sOw none none [] 48 102 [] (vk u22) y13.Breakers, sOw none none [] 83 103 [] (vk u24) y13.Sources, sOw none none [] 85 104 [101] (vk u26) y13.Consumers, sBk none none [] 135 (vk ((pOf (vs179 4)))) (vk ([(cOf 0 (vs179 1)), (cOf 1 (vs179 1)), (cOf 2 (vs179 1)), (cOf 3 (vs179 1))])), sBk none none [] 105 (vk pa27) (vk ([.int .i64 y13.Buses, u22, u24, u26, .int .i64 y13.Phase, .int .i64 y13.Frequency])), sPo (some 5) none [5] 102 [] (vp 0) y231, sEp (some 5) none [5] (vk u22) 3 y119 (vp 0), sRv (some 8) none [8] [149] (fun x_ => (cOf 0 (tOf 0 (x_.getD 0 undef)))) y236.Buses, sRv (some 8) none [8] [149] (fun x_ => (cOf 1 (tOf 0 (x_.getD 0 undef)))) y236.Sources, sRv (some 8) none [8] [149] (fun x_ => (cOf 2 (tOf 0 (x_.getD 0 undef)))) y236.Consumers, sOw (some 12) none [] 3 151 [] (vk (.slice none 0 0)) ([] : List Int), sOw (some 12) none [] 3 152 [] (vk (.slice none 0 0)) ([] : List Int), sOw (some 12) none [] 3 153 [] (vk (.slice none 0 0)) ([] : List Int), sBk (some 12) (some 13) [12] 150 (vp 0) (vk ([(.slice none 0 0), (.slice none 0 0), (.slice none 0 0)])), sBk (some 13) none [8, 12] 150 (vp 1) (fun x_ => [(cOf 0 (tOf 0 (x_.getD 0 undef))), (cOf 1 (tOf 0 (x_.getD 0 undef))), (cOf 2 (tOf 0 (x_.getD 0 undef)))])] [⟨[], [8], [], [], vk (.agg #[.int .i64 y13.Buses, u22, u24, u26, .int .i64 y13.Phase, .int .i64 y13.Frequency]), false⟩, ⟨[], [7], [], [], vk (.agg #[(cOf 0 (vs179 1)), (cOf 1 (vs179 1)), (cOf 2 (vs179 1)), (cOf 3 (vs179 1))]), false⟩, ⟨[], [], [], [], vk (.pointer (some (pa27.add 1))), false⟩, ⟨[], [8], [2], [], vk u22, false⟩, ⟨[], [], [], [], vk (.int .i64 y119), false⟩, ⟨[], [4], [2, 3, 4], [5], vq 0, false⟩, ⟨[], [], rg 2 4, [5], fun x_ => .pointer (some ((pOf (x_.getD 0 undef)).add 1)), false⟩, ⟨[], [9], rg 2 5, [], vk (.int .i64 y231.A), false⟩, ⟨[], [0, 1, 2, 3, 4, 5, 6], rg 0 8, [8], fun x_ => .tuple #[.agg #[(cOf 0 (tOf 0 (x_.getD 0 undef))), (cOf 1 (tOf 0 (x_.getD 0 undef))), (cOf 2 (tOf 0 (x_.getD 0 undef)))], .bool y237], false⟩, ⟨[], [], rg 0 9, [8], fun x_ => .tuple #[.agg #[(cOf 0 (tOf 0 (x_.getD 0 undef))), (cOf 1 (tOf 0 (x_.getD 0 undef))), (cOf 2 (tOf 0 (x_.getD 0 undef)))], .bool y237], false⟩, ⟨[], [], rg 0 10, [8], fun x_ => .agg #[(cOf 0 (tOf 0 (x_.getD 0 undef))), (cOf 1 (tOf 0 (x_.getD 0 undef))), (cOf 2 (tOf 0 (x_.getD 0 undef)))], false⟩, ⟨[], [], rg 0 10, [], vk (.bool y237), false⟩, ⟨[], [], [], [12], vq 0, false⟩, ⟨[150], [11, 12, 13, 17], [0, 1, 2, 3, 4, 5, 6, 7, 8, 9, 10, 12], [], vk undef, false⟩, ⟨[], [], rg 0 14, [], vk (.bool y237), false⟩] [150] hE rfl (by kernel_rfl) (by kernel_rfl) ⟨h134.evo ev_ rfl, h136.evo ev_ rfl, h138.evo ev_ rfl, h193.evo ev_ rfl, h21.evo ev_ rfl, h23.evo ev_ rfl, h25.evo ev_ rfl, hb175.evo ev_ rfl, hb31.evo ev_ rfl, trivial⟩ ⟨?_, ?_, ?_, ?_, Ob.pv rfl rfl (fun _ => rfl) rfl (fun _ _ _ => trivial), ?_, ?_, ?_, ?_, Ob.pv rfl rfl (fun _ => rfl) rfl (fun _ _ _ => trivial), Ob.pv rfl rfl (fun _ => rfl) rfl (fun _ _ _ => trivial), Ob.pv rfl rfl (fun _ => rfl) rfl (fun _ _ _ => trivial), ?_, ?_, Ob.pv rfl rfl (fun _ => rfl) rfl (fun _ _ _ => trivial), trivial⟩ ?_
      ·intro vs261 o_ w_ hE hb31
       have hb31 := tBk hb31
       exact OW.q [(6, .pointer (some pa27))] ⟨rfl, trivial⟩ (OW.loadK0 Board (.agg #[.int .i64 y13.Buses, u22, u24, u26, .int .i64 y13.Phase, .int .i64 y13.Frequency]) ty39 rfl hb31 rfl rfl) (er rfl trivial)
      ·intro vs261 o_ w_ hE hb175
       have hb175 := tBk hb175
       exact OW.q [(12, .pointer (some ((pOf (vs179 4)))))] ⟨rfl, trivial⟩ (OW.loadK0 Power (.agg #[(cOf 0 (vs179 1)), (cOf 1 (vs179 1)), (cOf 2 (vs179 1)), (cOf 3 (vs179 1))]) ty45 rfl hb175 rfl rfl) (er rfl trivial)
      ·intro vs261 o_ w_ hE 
       exact OW.q [(6, .pointer (some pa27))] ⟨rfl, trivial⟩ (OW.fldAddr (FldOk.at f39_1) rfl) (er rfl trivial)
      ·intro vs261 o_ w_ hE hb31
       have hb31 := tBk hb31
       exact OW.q [(85, .pointer (some (pa27.add 1)))] ⟨rfl, trivial⟩ (OW.loadK (off := 1) (List Breaker) (u22) ty35 rfl hb31 rfl rfl) (er rfl trivial)
      ·intro vs261 o_ w_ hE h21
       have h21 := tOw h21
       refine OW.r [(86, u22), (87, .int .i64 y119)] ⟨rfl, rfl, trivial⟩ (OW.indexAddrO Try.underlying35 ty48 rfl h21 rfl q235) ?_
       rintro _ _ ⟨rfl, ⟨pa232, hv_, hp233, he234⟩⟩
       subst hv_
       exact ⟨_, Evo.refl _ _ _ _, rfl, hp233, he234, trivial⟩
      ·intro vs261 o_ w_ hE 
       exact OW.q [(88, .pointer (some (pOf (vs261 5))))] ⟨rfl, trivial⟩ (OW.fldAddr (FldOk.at f48_1) rfl) (er rfl trivial)
      ·intro vs261 o_ w_ hE hp233
       have hp233 := tPo hp233
       exact OW.q [(89, .pointer (some ((pOf (vs261 5)).add 1)))] ⟨rfl, trivial⟩ (OW.loadI ty3 rfl (hp233.fld f48_1).at) (er rfl trivial)
      ·intro vs261 o_ w_ hE h134 h136 h138 h193 h21 h23 h25
       have h134 := tOw h134
       have h136 := tOw h136
       have h138 := tOw h138
       have h193 := tOw h193
       have h21 := tOw h21
       have h23 := tOw h23
       have h25 := tOw h25
       refine OW.r [(83, .agg #[.int .i64 y13.Buses, u22, u24, u26, .int .i64 y13.Phase, .int .i64 y13.Frequency]), (84, .agg #[(cOf 0 (vs179 1)), (cOf 1 (vs179 1)), (cOf 2 (vs179 1)), (cOf 3 (vs179 1))]), (90, .int .i64 y231.A)] ⟨rfl, rfl, rfl, trivial⟩ (OW.call Try.call22 rfl (board_Of_ok q238 (mk39 (x := y13) (h21.rv.sub (K' := [101, 102, 103, 104]) rfl) (h23.rv.sub (K' := [101, 102, 103, 104]) rfl) (h25.rv.sub (K' := [101, 102, 103, 104]) rfl)) (mk45 (x := (⟨y189, y125.Sources, y125.Limits, y125.Broken⟩ : Power)) (h193.rv.sub (K' := [126, 127, 128, 129]) rfl) (h134.rv.sub (K' := [126, 127, 128, 129]) rfl) (h136.rv.sub (K' := [126, 127, 128, 129]) rfl) (h138.rv.sub (K' := [126, 127, 128, 129]) rfl)))) ?_
       rintro _ w239 ⟨o243, u245, u247, u249, hn_, rfl, h244, h246, h248⟩
       obtain ⟨o240, ev241, hA242⟩ := adopt (o := o_) (ks := []) (Ks := [[101, 102, 103, 104], [126, 127, 128, 129]]) 149 ([]) [149] hn_ MbOk.nil rfl rfl rfl rfl
       have h244 := h244.ad (K' := [149]) hA242 rfl
       have h246 := h246.ad (K' := [149]) hA242 rfl
       have h248 := h248.ad (K' := [149]) hA242 rfl
       exact ⟨o240, ev241.sub rfl rfl, rfl, h244, h246, h248, trivial⟩
      ·intro vs261 o_ w_ hE 
       refine OW.r [] trivial (OW.allocK (o := o_) Island 150 [.slice none 0 0, .slice none 0 0, .slice none 0 0] ty53 rfl) ?_
       rintro _ w252 ⟨pa250, o251, rfl, ev253, hb254⟩
       have h255 := Ow.nil (α := Int) 3 o251 151 [] w252
       have h256 := Ow.nil (α := Int) 3 o251 152 [] w252
       have h257 := Ow.nil (α := Int) 3 o251 153 [] w252
       exact ⟨o251, ev253.sub rfl rfl, rfl, h255, h256, h257, hb254, trivial⟩
      ·intro vs261 o_ w_ hE h244 h246 h248 hb254
       have h244 := tRv h244
       have h246 := tRv h246
       have h248 := tRv h248
       have hb254 := tBk hb254
       refine OW.r [(16, .pointer (some (pOf (vs261 12)))), (92, .agg #[(cOf 0 (tOf 0 (vs261 8))), (cOf 1 (tOf 0 (vs261 8))), (cOf 2 (tOf 0 (vs261 8)))])] ⟨rfl, rfl, trivial⟩ (OW.storeK0 Island [(cOf 0 (tOf 0 (vs261 8))), (cOf 1 (tOf 0 (vs261 8))), (cOf 2 (tOf 0 (vs261 8)))] [(cOf 0 (tOf 0 (vs261 8))), (cOf 1 (tOf 0 (vs261 8))), (cOf 2 (tOf 0 (vs261 8)))] ty53 rfl rfl hb254 rfl ⟨(h244.one rfl), (h246.one rfl), (h248.one rfl), trivial⟩ rfl rfl rfl) ?_
       rintro _ w258 ⟨ev259, hb260⟩
       exact ⟨o_, ev259.sub rfl rfl, trivial, hb260, trivial⟩
      ·intro vs261 o263 w262 hE h134 h136 h138 h193 h21 h23 h25 hb175 hb31 hp233 he234 h244 h246 h248 h255 h256 h257 hb260
       obtain ⟨hE, evT_⟩ := hE
       have h134 : Ow 64 o263 127 [] w262 ((cOf 1 (vs179 1))) y125.Sources := h134
       have h136 : Ow 3 o263 128 [] w262 ((cOf 2 (vs179 1))) y125.Limits := h136
       have h138 : Ow 66 o263 129 [] w262 ((cOf 3 (vs179 1))) y125.Broken := h138
       have h193 : Ow 4 o263 126 [] w262 ((cOf 0 (vs179 1))) y189 := h193
       have h21 : Ow 48 o263 102 [] w262 u22 y13.Breakers := h21
       have h23 : Ow 83 o263 103 [] w262 u24 y13.Sources := h23
       have h25 : Ow 85 o263 104 [101] w262 u26 y13.Consumers := h25
       have hb175 : Bk o263 135 w262 ((pOf (vs179 4))) [(cOf 0 (vs179 1)), (cOf 1 (vs179 1)), (cOf 2 (vs179 1)), (cOf 3 (vs179 1))] := hb175
       have hb31 : Bk o263 105 w262 pa27 [.int .i64 y13.Buses, u22, u24, u26, .int .i64 y13.Phase, .int .i64 y13.Frequency] := hb31
       have hp233 : PtrO o263 102 [] w262 (pOf (vs261 5)) y231 := hp233
       have he234 : EPtr u22 3 y119 (pOf (vs261 5)) := he234
       have h244 : Rv (In o263 [149]) w262 (cOf 0 (tOf 0 (vs261 8))) y236.Buses := h244
       have h246 : Rv (In o263 [149]) w262 (cOf 1 (tOf 0 (vs261 8))) y236.Sources := h246
       have h248 : Rv (In o263 [149]) w262 (cOf 2 (tOf 0 (vs261 8))) y236.Consumers := h248
       have h255 : Ow 3 o263 151 [] w262 (.slice none 0 0) ([] : List Int) := h255
       have h256 : Ow 3 o263 152 [] w262 (.slice none 0 0) ([] : List Int) := h256
       have h257 : Ow 3 o263 153 [] w262 (.slice none 0 0) ([] : List Int) := h257
       have hb260 : Bk o263 150 w262 (pOf (vs261 12)) [(cOf 0 (tOf 0 (vs261 8))), (cOf 1 (tOf 0 (vs261 8))), (cOf 2 (tOf 0 (vs261 8)))] := hb260
       have h10 := h10.evo evT_ rfl
       have hs := hs.evo evT_ rfl
       refine hK230 _ _ ?_
       refine CW.seq fun K264 hK264 => ?_
       obtain ⟨x265, q266, hF⟩ := bindE hF
       have hJ269 : ∀ (w267 : World) (o268 : Cls), En w0 e0 o268 w267 → Rv (In o268 [40]) w267 sv y3 → SrcC o268 100 w267 sb sv y3 st40 → NK 120 K264 [(4, .bool x265)] w267 := by
        intro w267 o268  hE h10 hs
        refine hK264 _ _ ?_
        obtain rfl := Option.some.inj hF
        exact CW.rets (vs := [.bool x265]) Try.results5 ⟨rfl, trivial⟩ ⟨_, rfl, _, (hE.rn he0 100 [] rfl rfl), rfl⟩ (fun _ _ h => h)
       rcases Bool.eq_false_or_eq_true y237 with hc270 | hc270
       ·have q266 := iteT hc270 q266
        obtain ⟨y275, q276, q266⟩ := bindE q266
        obtain ⟨x282, q283, q266⟩ := bindE q266
        have hJ286 : ∀ (w284 : World) (o285 : Cls), En w0 e0 o285 w284 → Rv (In o285 [40]) w284 sv y3 → SrcC o285 100 w284 sb sv y3 st40 → NK 120 K264 [(4, .bool x282)] w284 := by
         intro w284 o285  hE h10 hs
         have e287 := Option.some.inj q266
         subst e287
         exact NK.sb (hJ269 w284 o285 hE h10 hs) ⟨rfl, trivial⟩
        rcases Bool.eq_false_or_eq_true y275 with hc288 | hc288
        ·have q283 := iteT hc288 q283
         obtain ⟨x289, q290, q283⟩ := bindE q283
         have hJ293 : ∀ (w291 : World) (o292 : Cls), En w0 e0 o292 w291 → Rv (In o292 [40]) w291 sv y3 → SrcC o292 100 w291 sb sv y3 st40 → NK 120 K264 [(4, .bool x289)] w291 := by
          intro w291 o292  hE h10 hs
          have e294 := Option.some.inj q283
          subst e294
          exact NK.sb (hJ286 w291 o292 hE h10 hs) ⟨rfl, trivial⟩
         rcases Bool.eq_false_or_eq_true ((decide ((len y209) ≤ (len y218)))) with hc295 | hc295
         ·have q290 := iteT hc295 q290
          obtain ⟨x296, q297, q290⟩ := bindE q290
          have hJ300 : ∀ (w298 : World) (o299 : Cls), En w0 e0 o299 w298 → Rv (In o299 [40]) w298 sv y3 → SrcC o299 100 w298 sb sv y3 st40 → NK 120 K264 [(4, .bool x296)] w298 := by
           intro w298 o299  hE h10 hs
           have e301 := Option.some.inj q290
           subst e301
           exact NK.sb (hJ293 w298 o299 hE h10 hs) ⟨rfl, trivial⟩
          rcases Bool.eq_false_or_eq_true ((decide ((len y218) ≤ ((W ((len y209) + 1)))))) with hc302 | hc302
          ·have q297 := iteT hc302 q297
           obtain ⟨y303, q304, q297⟩ := bindE q297
           have ev_ := Evo.drew o263 w262
           refine CW.anyS (N := [154, 155]) hmix [sOw none none [] 48 102 [] (vk u22) y13.Breakers, sRv none none [] [149] (vk (((cOf 0 (tOf 0 (vs261 8)))))) y236.Buses, sBk none none [] 150 (vk ((pOf (vs261 12)))) (vk ([(cOf 0 (tOf 0 (vs261 8))), (cOf 1 (tOf 0 (vs261 8))), (cOf 2 (tOf 0 (vs261 8)))])), sBk none none [] 105 (vk pa27) (vk ([.int .i64 y13.Buses, u22, u24, u26, .int .i64 y13.Phase, .int .i64 y13.Frequency])), sPo (some 7) none [7] 102 [] (vp 0) y231, sEp (some 7) none [7] (vk u22) 3 y119 (vp 0)] [⟨[], [], [], [], vk (.bool y237), false⟩, ⟨[], [], [0], [], vk (.bool y237), false⟩, ⟨[], [], [0, 1], [], vk (.pointer (some ((pOf (vs261 12)).add 0))), false⟩, ⟨[], [2], [0, 1, 2], [], vk ((cOf 0 (tOf 0 (vs261 8)))), false⟩, ⟨[], [], [0, 1], [], vk (.pointer (some (pa27.add 1))), false⟩, ⟨[], [3], [0, 1, 4], [], vk u22, false⟩, ⟨[], [], [0, 1], [], vk (.int .i64 y119), false⟩, ⟨[], [0], [0, 1, 4, 5, 6], [7], vq 0, false⟩, ⟨[], [], [0, 1, 4, 5, 6, 7], [7], fun x_ => .pointer (some ((pOf (x_.getD 0 undef)).add 2)), false⟩, ⟨[], [4], [0, 1, 4, 5, 6, 7, 8], [], vk (.int .i64 y231.B), false⟩, ⟨[], [1], rg 0 10, [], vk (.bool y275), false⟩, ⟨[], [], rg 0 11, [], vk (.bool y275), false⟩, ⟨[], [], rg 0 12, [], vk (.bool y275), false⟩, ⟨[], [], rg 0 13, [], vk (.int .i64 (len y209)), false⟩, ⟨[], [], rg 0 13, [], vk (.int .i64 (len y218)), false⟩, ⟨[], [], rg 0 15, [], vk (.bool ((decide ((len y209) ≤ (len y218))))), false⟩, ⟨[], [], rg 0 16, [], vk (.bool ((decide ((len y209) ≤ (len y218))))), false⟩, ⟨[], [], rg 0 17, [], vk (.bool ((decide ((len y209) ≤ (len y218))))), false⟩, ⟨[], [], rg 0 18, [], vk (.int .i64 (len y218)), false⟩, ⟨[], [], rg 0 18, [], vk (.int .i64 (len y209)), false⟩, ⟨[], [], [0, 1, 2, 3, 4, 5, 6, 7, 8, 9, 10, 11, 12, 13, 14, 15, 16, 17, 19], [], vk (.int .i64 ((W ((len y209) + 1)))), false⟩, ⟨[], [], rg 0 21, [], vk (.bool ((decide ((len y218) ≤ ((W ((len y209) + 1))))))), false⟩, ⟨[], [], rg 0 22, [], vk (.bool ((decide ((len y218) ≤ ((W ((len y209) + 1))))))), false⟩, ⟨[], [], rg 0 23, [], vk (.bool ((decide ((len y218) ≤ ((W ((len y209) + 1))))))), false⟩, ⟨[], [], rg 0 24, [], vk (.bool y303), false⟩, ⟨[], [], rg 0 25, [], vk (.bool y303), false⟩, ⟨[], [], rg 0 26, [], vk (.bool y303), false⟩] [] hE rfl (by kernel_rfl) (by kernel_rfl) ⟨h21.evo ev_ rfl, h244.evo ev_ rfl, hb260.evo ev_ rfl, hb31.evo ev_ rfl, trivial⟩ ⟨Ob.pv rfl rfl (fun _ => rfl) rfl (fun _ _ _ => trivial), Ob.pv rfl rfl (fun _ => rfl) rfl (fun _ _ _ => trivial), ?_, ?_, ?_, ?_, ?_, ?_, ?_, ?_, ?_, ?_, Ob.pv rfl rfl (fun _ => rfl) rfl (fun _ _ _ => trivial), ?_, ?_, ?_, ?_, Ob.pv rfl rfl (fun _ => rfl) rfl (fun _ _ _ => trivial), ?_, ?_, ?_, ?_, ?_, Ob.pv rfl rfl (fun _ => rfl) rfl (fun _ _ _ => trivial), ?_, ?_, Ob.pv rfl rfl (fun _ => rfl) rfl (fun _ _ _ => trivial), trivial⟩ ?_
           ·intro vs310 o_ w_ hE 
            refine ⟨⟨_, rfl, congrArg (fun b => some (Value.bool b)) hc270⟩, ?_⟩
            exact OW.q [(16, .pointer (some ((pOf (vs261 12)))))] ⟨rfl, trivial⟩ (OW.fldAddr (FldOk.at f53_0) rfl) (er rfl trivial)
           ·intro vs310 o_ w_ hE hb260
            have hb260 := tBk hb260
            refine ⟨⟨_, rfl, congrArg (fun b => some (Value.bool b)) hc270⟩, ?_⟩
            exact OW.q [(96, .pointer (some ((pOf (vs261 12)).add 0)))] ⟨rfl, trivial⟩ (OW.loadK (off := 0) (List Int) ((cOf 0 (tOf 0 (vs261 8)))) ty22 rfl hb260 rfl rfl) (er rfl trivial)
           ·intro vs310 o_ w_ hE 
            refine ⟨⟨_, rfl, congrArg (fun b => some (Value.bool b)) hc270⟩, ?_⟩
            exact OW.q [(6, .pointer (some pa27))] ⟨rfl, trivial⟩ (OW.fldAddr (FldOk.at f39_1) rfl) (er rfl trivial)
           ·intro vs310 o_ w_ hE hb31
            have hb31 := tBk hb31
            refine ⟨⟨_, rfl, congrArg (fun b => some (Value.bool b)) hc270⟩, ?_⟩
            exact OW.q [(98, .pointer (some (pa27.add 1)))] ⟨rfl, trivial⟩ (OW.loadK (off := 1) (List Breaker) (u22) ty35 rfl hb31 rfl rfl) (er rfl trivial)
           ·intro vs310 o_ w_ hE 
            refine ⟨⟨_, rfl, congrArg (fun b => some (Value.bool b)) hc270⟩, ?_⟩
            exact OW.q [(11, .int .i64 y119)] ⟨rfl, trivial⟩ (OW.pv (v := (.int .i64 y119)) rfl) (er rfl trivial)
           ·intro vs310 o_ w_ hE h21
            have h21 := tOw h21
            refine ⟨⟨_, rfl, congrArg (fun b => some (Value.bool b)) hc270⟩, ?_⟩
            refine OW.r [(99, u22), (100, .int .i64 y119)] ⟨rfl, rfl, trivial⟩ (OW.indexAddrO Try.underlying35 ty48 rfl h21 rfl q235) ?_
            rintro _ _ ⟨rfl, ⟨pa272, hv_, hp273, he274⟩⟩
            subst hv_
            exact ⟨_, Evo.refl _ _ _ _, rfl, hp273, he274, trivial⟩
           ·intro vs310 o_ w_ hE 
            refine ⟨⟨_, rfl, congrArg (fun b => some (Value.bool b)) hc270⟩, ?_⟩
            exact OW.q [(101, .pointer (some (pOf (vs310 7))))] ⟨rfl, trivial⟩ (OW.fldAddr (FldOk.at f48_2) rfl) (er rfl trivial)
           ·intro vs310 o_ w_ hE hp273
            have hp273 := tPo hp273
            refine ⟨⟨_, rfl, congrArg (fun b => some (Value.bool b)) hc270⟩, ?_⟩
            exact OW.q [(102, .pointer (some ((pOf (vs310 7)).add 2)))] ⟨rfl, trivial⟩ (OW.loadI ty3 rfl (hp273.fld f48_2).at) (er rfl trivial)
           ·intro vs310 o_ w_ hE h244
            have h244 := tRv h244
            refine ⟨⟨_, rfl, congrArg (fun b => some (Value.bool b)) hc270⟩, ?_⟩
            refine OW.r [(97, (cOf 0 (tOf 0 (vs261 8)))), (103, .int .i64 y231.B)] ⟨rfl, rfl, trivial⟩ (OW.call Try.call23 rfl (dynposref01_Has_ok q276 h244)) ?_
            rintro _ w277 ⟨o281, hn_, rfl⟩
            obtain ⟨o278, ev279, hA280⟩ := adopt (o := o_) (ks := []) (Ks := [[149]]) 154 ([]) [154] hn_ MbOk.nil rfl rfl rfl rfl
            exact ⟨o278, ev279.sub rfl rfl, rfl, trivial⟩
           ·intro vs310 o_ w_ hE 
            exact OW.q [(95, .bool y237), (104, .bool y275)] ⟨rfl, rfl, trivial⟩ (OW.pickT rfl hc270 rfl) (er rfl trivial)
           ·intro vs310 o_ w_ hE 
            refine ⟨⟨_, rfl, congrArg (fun b => some (Value.bool b)) hc288⟩, ?_⟩
            exact OW.q [(14, .int .i64 (len y209))] ⟨rfl, trivial⟩ (OW.pv (v := (.int .i64 (len y209))) rfl) (er rfl trivial)
           ·intro vs310 o_ w_ hE 
            refine ⟨⟨_, rfl, congrArg (fun b => some (Value.bool b)) hc288⟩, ?_⟩
            exact OW.q [(15, .int .i64 (len y218))] ⟨rfl, trivial⟩ (OW.pv (v := (.int .i64 (len y218))) rfl) (er rfl trivial)
           ·intro vs310 o_ w_ hE 
            refine ⟨⟨_, rfl, congrArg (fun b => some (Value.bool b)) hc288⟩, ?_⟩
            exact OW.q [(107, .int .i64 (len y209)), (108, .int .i64 (len y218))] ⟨rfl, rfl, trivial⟩ (OW.pv (v := (.bool ((decide ((len y209) ≤ (len y218)))))) rfl) (er rfl trivial)
           ·intro vs310 o_ w_ hE 
            exact OW.q [(106, .bool y275), (109, .bool ((decide ((len y209) ≤ (len y218)))))] ⟨rfl, rfl, trivial⟩ (OW.pickT rfl hc288 rfl) (er rfl trivial)
           ·intro vs310 o_ w_ hE 
            refine ⟨⟨_, rfl, congrArg (fun b => some (Value.bool b)) hc295⟩, ?_⟩
            exact OW.q [(15, .int .i64 (len y218))] ⟨rfl, trivial⟩ (OW.pv (v := (.int .i64 (len y218))) rfl) (er rfl trivial)
           ·intro vs310 o_ w_ hE 
            refine ⟨⟨_, rfl, congrArg (fun b => some (Value.bool b)) hc295⟩, ?_⟩
            exact OW.q [(14, .int .i64 (len y209))] ⟨rfl, trivial⟩ (OW.pv (v := (.int .i64 (len y209))) rfl) (er rfl trivial)
           ·intro vs310 o_ w_ hE 
            refine ⟨⟨_, rfl, congrArg (fun b => some (Value.bool b)) hc295⟩, ?_⟩
            exact OW.q [(113, .int .i64 (len y209))] ⟨rfl, trivial⟩ (OW.pv (v := (.int .i64 ((W ((len y209) + 1))))) rfl) (er rfl trivial)
           ·intro vs310 o_ w_ hE 
            refine ⟨⟨_, rfl, congrArg (fun b => some (Value.bool b)) hc295⟩, ?_⟩
            exact OW.q [(112, .int .i64 (len y218)), (114, .int .i64 ((W ((len y209) + 1))))] ⟨rfl, rfl, trivial⟩ (OW.pv (v := (.bool ((decide ((len y218) ≤ ((W ((len y209) + 1)))))))) rfl) (er rfl trivial)
           ·intro vs310 o_ w_ hE 
            exact OW.q [(111, .bool ((decide ((len y209) ≤ (len y218))))), (115, .bool ((decide ((len y218) ≤ ((W ((len y209) + 1)))))))] ⟨rfl, rfl, trivial⟩ (OW.pickT rfl hc295 rfl) (er rfl trivial)
           ·intro vs310 o_ w_ hE 
            refine ⟨⟨_, rfl, congrArg (fun b => some (Value.bool b)) hc302⟩, ?_⟩
            refine OW.r [] trivial (OW.call Try.call20 rfl (dynposlaw15_sane_ok q304)) ?_
            rintro _ w305 ⟨o309, hn_, rfl⟩
            obtain ⟨o306, ev307, hA308⟩ := adopt (o := o_) (ks := []) (Ks := []) 155 ([]) [155] hn_ MbOk.nil rfl rfl rfl rfl
            exact ⟨o306, ev307.sub rfl rfl, rfl, trivial⟩
           ·intro vs310 o_ w_ hE 
            exact OW.q [(117, .bool ((decide ((len y218) ≤ ((W ((len y209) + 1))))))), (118, .bool y303)] ⟨rfl, rfl, trivial⟩ (OW.pickT rfl hc302 rfl) (er rfl trivial)
           ·intro vs310 o312 w311 hE h21 h244 hb260 hb31 hp273 he274
            obtain ⟨hE, evT_⟩ := hE
            have h21 : Ow 48 o312 102 [] w311 u22 y13.Breakers := h21
            have h244 : Rv (In o312 [149]) w311 ((cOf 0 (tOf 0 (vs261 8)))) y236.Buses := h244
            have hb260 : Bk o312 150 w311 ((pOf (vs261 12))) [(cOf 0 (tOf 0 (vs261 8))), (cOf 1 (tOf 0 (vs261 8))), (cOf 2 (tOf 0 (vs261 8)))] := hb260
            have hb31 : Bk o312 105 w311 pa27 [.int .i64 y13.Buses, u22, u24, u26, .int .i64 y13.Phase, .int .i64 y13.Frequency] := hb31
            have hp273 : PtrO o312 102 [] w311 (pOf (vs310 7)) y231 := hp273
            have he274 : EPtr u22 3 y119 (pOf (vs310 7)) := he274
            have h10 := h10.evo evT_ rfl
            have h23 := h23.evo evT_ rfl
            have h246 := h246.evo evT_ rfl
            have h248 := h248.evo evT_ rfl
            have h25 := h25.evo evT_ rfl
            have hs := hs.evo evT_ rfl
            have e313 := Option.some.inj q297
            subst e313
            exact NK.sb (hJ300 w311 o312 hE h10 hs) ⟨rfl, trivial⟩
          ·have q297 := iteF hc302 q297
           have ev_ := Evo.drew o263 w262
           refine CW.anyS (N := [154]) hmix [sOw none none [] 48 102 [] (vk u22) y13.Breakers, sRv none none [] [149] (vk (((cOf 0 (tOf 0 (vs261 8)))))) y236.Buses, sBk none none [] 150 (vk ((pOf (vs261 12)))) (vk ([(cOf 0 (tOf 0 (vs261 8))), (cOf 1 (tOf 0 (vs261 8))), (cOf 2 (tOf 0 (vs261 8)))])), sBk none none [] 105 (vk pa27) (vk ([.int .i64 y13.Buses, u22, u24, u26, .int .i64 y13.Phase, .int .i64 y13.Frequency])), sPo (some 7) none [7] 102 [] (vp 0) y231, sEp (some 7) none [7] (vk u22) 3 y119 (vp 0)] [⟨[], [], [], [], vk (.bool y237), false⟩, ⟨[], [], [0], [], vk (.bool y237), false⟩, ⟨[], [], [0, 1], [], vk (.pointer (some ((pOf (vs261 12)).add 0))), false⟩, ⟨[], [2], [0, 1, 2], [], vk ((cOf 0 (tOf 0 (vs261 8)))), false⟩, ⟨[], [], [0, 1], [], vk (.pointer (some (pa27.add 1))), false⟩, ⟨[], [3], [0, 1, 4], [], vk u22, false⟩, ⟨[], [], [0, 1], [], vk (.int .i64 y119), false⟩, ⟨[], [0], [0, 1, 4, 5, 6], [7], vq 0, false⟩, ⟨[], [], [0, 1, 4, 5, 6, 7], [7], fun x_ => .pointer (some ((pOf (x_.getD 0 undef)).add 2)), false⟩, ⟨[], [4], [0, 1, 4, 5, 6, 7, 8], [], vk (.int .i64 y231.B), false⟩, ⟨[], [1], rg 0 10, [], vk (.bool y275), false⟩, ⟨[], [], rg 0 11, [], vk (.bool y275), false⟩, ⟨[], [], rg 0 12, [], vk (.bool y275), false⟩, ⟨[], [], rg 0 13, [], vk (.int .i64 (len y209)), false⟩, ⟨[], [], rg 0 13, [], vk (.int .i64 (len y218)), false⟩, ⟨[], [], rg 0 15, [], vk (.bool ((decide ((len y209) ≤ (len y218))))), false⟩, ⟨[], [], rg 0 16, [], vk (.bool ((decide ((len y209) ≤ (len y218))))), false⟩, ⟨[], [], rg 0 17, [], vk (.bool ((decide ((len y209) ≤ (len y218))))), false⟩, ⟨[], [], rg 0 18, [], vk (.int .i64 (len y218)), false⟩, ⟨[], [], rg 0 18, [], vk (.int .i64 (len y209)), false⟩, ⟨[], [], [0, 1, 2, 3, 4, 5, 6, 7, 8, 9, 10, 11, 12, 13, 14, 15, 16, 17, 19], [], vk (.int .i64 ((W ((len y209) + 1)))), false⟩, ⟨[], [], rg 0 21, [], vk (.bool ((decide ((len y218) ≤ ((W ((len y209) + 1))))))), false⟩, ⟨[], [], rg 0 22, [], vk (.bool ((decide ((len y218) ≤ ((W ((len y209) + 1))))))), false⟩, ⟨[], [], rg 0 23, [], vk (.bool ((decide ((len y218) ≤ ((W ((len y209) + 1))))))), false⟩, ⟨[], [], rg 0 24, [], vk undef, true⟩, ⟨[], [], rg 0 25, [], vk (.bool false), false⟩, ⟨[], [], rg 0 26, [], vk (.bool false), false⟩] [] hE rfl (by kernel_rfl) (by kernel_rfl) ⟨h21.evo ev_ rfl, h244.evo ev_ rfl, hb260.evo ev_ rfl, hb31.evo ev_ rfl, trivial⟩ ⟨Ob.pv rfl rfl (fun _ => rfl) rfl (fun _ _ _ => trivial), Ob.pv rfl rfl (fun _ => rfl) rfl (fun _ _ _ => trivial), ?_, ?_, ?_, ?_, ?_, ?_, ?_, ?_, ?_, ?_, Ob.pv rfl rfl (fun _ => rfl) rfl (fun _ _ _ => trivial), ?_, ?_, ?_, ?_, Ob.pv rfl rfl (fun _ => rfl) rfl (fun _ _ _ => trivial), ?_, ?_, ?_, ?_, ?_, Ob.pv rfl rfl (fun _ => rfl) rfl (fun _ _ _ => trivial), ?_, ?_, Ob.pv rfl rfl (fun _ => rfl) rfl (fun _ _ _ => trivial), trivial⟩ ?_
           ·intro vs314 o_ w_ hE 
            refine ⟨⟨_, rfl, congrArg (fun b => some (Value.bool b)) hc270⟩, ?_⟩
            exact OW.q [(16, .pointer (some ((pOf (vs261 12)))))] ⟨rfl, trivial⟩ (OW.fldAddr (FldOk.at f53_0) rfl) (er rfl trivial)
           ·intro vs314 o_ w_ hE hb260
            have hb260 := tBk hb260
            refine ⟨⟨_, rfl, congrArg (fun b => some (Value.bool b)) hc270⟩, ?_⟩
            exact OW.q [(96, .pointer (some ((pOf (vs261 12)).add 0)))] ⟨rfl, trivial⟩ (OW.loadK (off := 0) (List Int) ((cOf 0 (tOf 0 (vs261 8)))) ty22 rfl hb260 rfl rfl) (er rfl trivial)
           ·intro vs314 o_ w_ hE 
            refine ⟨⟨_, rfl, congrArg (fun b => some (Value.bool b)) hc270⟩, ?_⟩
            exact OW.q [(6, .pointer (some pa27))] ⟨rfl, trivial⟩ (OW.fldAddr (FldOk.at f39_1) rfl) (er rfl trivial)
           ·intro vs314 o_ w_ hE hb31
            have hb31 := tBk hb31
            refine ⟨⟨_, rfl, congrArg (fun b => some (Value.bool b)) hc270⟩, ?_⟩
            exact OW.q [(98, .pointer (some (pa27.add 1)))] ⟨rfl, trivial⟩ (OW.loadK (off := 1) (List Breaker) (u22) ty35 rfl hb31 rfl rfl) (er rfl trivial)
           ·intro vs314 o_ w_ hE 
            refine ⟨⟨_, rfl, congrArg (fun b => some (Value.bool b)) hc270⟩, ?_⟩
            exact OW.q [(11, .int .i64 y119)] ⟨rfl, trivial⟩ (OW.pv (v := (.int .i64 y119)) rfl) (er rfl trivial)
           ·intro vs314 o_ w_ hE h21
            have h21 := tOw h21
            refine ⟨⟨_, rfl, congrArg (fun b => some (Value.bool b)) hc270⟩, ?_⟩
            refine OW.r [(99, u22), (100, .int .i64 y119)] ⟨rfl, rfl, trivial⟩ (OW.indexAddrO Try.underlying35 ty48 rfl h21 rfl q235) ?_
            rintro _ _ ⟨rfl, ⟨pa272, hv_, hp273, he274⟩⟩
            subst hv_
            exact ⟨_, Evo.refl _ _ _ _, rfl, hp273, he274, trivial⟩
           ·intro vs314 o_ w_ hE 
            refine ⟨⟨_, rfl, congrArg (fun b => some (Value.bool b)) hc270⟩, ?_⟩
            exact OW.q [(101, .pointer (some (pOf (vs314 7))))] ⟨rfl, trivial⟩ (OW.fldAddr (FldOk.at f48_2) rfl) (er rfl trivial)
           ·intro vs314 o_ w_ hE hp273
            have hp273 := tPo hp273
            refine ⟨⟨_, rfl, congrArg (fun b => some (Value.bool b)) hc270⟩, ?_⟩
            exact OW.q [(102, .pointer (some ((pOf (vs314 7)).add 2)))] ⟨rfl, trivial⟩ (OW.loadI ty3 rfl (hp273.fld f48_2).at) (er rfl trivial)
           ·intro vs314 o_ w_ hE h244
            have h244 := tRv h244
            refine ⟨⟨_, rfl, congrArg (fun b => some (Value.bool b)) hc270⟩, ?_⟩
            refine OW.r [(97, (cOf 0 (tOf 0 (vs261 8)))), (103, .int .i64 y231.B)] ⟨rfl, rfl, trivial⟩ (OW.call Try.call23 rfl (dynposref01_Has_ok q276 h244)) ?_
            rintro _ w277 ⟨o281, hn_, rfl⟩
            obtain ⟨o278, ev279, hA280⟩ := adopt (o := o_) (ks := []) (Ks := [[149]]) 154 ([]) [154] hn_ MbOk.nil rfl rfl rfl rfl
            exact ⟨o278, ev279.sub rfl rfl, rfl, trivial⟩
           ·intro vs314 o_ w_ hE 
            exact OW.q [(95, .bool y237), (104, .bool y275)] ⟨rfl, rfl, trivial⟩ (OW.pickT rfl hc270 rfl) (er rfl trivial)
           ·intro vs314 o_ w_ hE 
            refine ⟨⟨_, rfl, congrArg (fun b => some (Value.bool b)) hc288⟩, ?_⟩
            exact OW.q [(14, .int .i64 (len y209))] ⟨rfl, trivial⟩ (OW.pv (v := (.int .i64 (len y209))) rfl) (er rfl trivial)
           ·intro vs314 o_ w_ hE 
            refine ⟨⟨_, rfl, congrArg (fun b => some (Value.bool b)) hc288⟩, ?_⟩
            exact OW.q [(15, .int .i64 (len y218))] ⟨rfl, trivial⟩ (OW.pv (v := (.int .i64 (len y218))) rfl) (er rfl trivial)
           ·intro vs314 o_ w_ hE 
            refine ⟨⟨_, rfl, congrArg (fun b => some (Value.bool b)) hc288⟩, ?_⟩
            exact OW.q [(107, .int .i64 (len y209)), (108, .int .i64 (len y218))] ⟨rfl, rfl, trivial⟩ (OW.pv (v := (.bool ((decide ((len y209) ≤ (len y218)))))) rfl) (er rfl trivial)
           ·intro vs314 o_ w_ hE 
            exact OW.q [(106, .bool y275), (109, .bool ((decide ((len y209) ≤ (len y218)))))] ⟨rfl, rfl, trivial⟩ (OW.pickT rfl hc288 rfl) (er rfl trivial)
           ·intro vs314 o_ w_ hE 
            refine ⟨⟨_, rfl, congrArg (fun b => some (Value.bool b)) hc295⟩, ?_⟩
            exact OW.q [(15, .int .i64 (len y218))] ⟨rfl, trivial⟩ (OW.pv (v := (.int .i64 (len y218))) rfl) (er rfl trivial)
           ·intro vs314 o_ w_ hE 
            refine ⟨⟨_, rfl, congrArg (fun b => some (Value.bool b)) hc295⟩, ?_⟩
            exact OW.q [(14, .int .i64 (len y209))] ⟨rfl, trivial⟩ (OW.pv (v := (.int .i64 (len y209))) rfl) (er rfl trivial)
           ·intro vs314 o_ w_ hE 
            refine ⟨⟨_, rfl, congrArg (fun b => some (Value.bool b)) hc295⟩, ?_⟩
            exact OW.q [(113, .int .i64 (len y209))] ⟨rfl, trivial⟩ (OW.pv (v := (.int .i64 ((W ((len y209) + 1))))) rfl) (er rfl trivial)
           ·intro vs314 o_ w_ hE 
            refine ⟨⟨_, rfl, congrArg (fun b => some (Value.bool b)) hc295⟩, ?_⟩
            exact OW.q [(112, .int .i64 (len y218)), (114, .int .i64 ((W ((len y209) + 1))))] ⟨rfl, rfl, trivial⟩ (OW.pv (v := (.bool ((decide ((len y218) ≤ ((W ((len y209) + 1)))))))) rfl) (er rfl trivial)
           ·intro vs314 o_ w_ hE 
            exact OW.q [(111, .bool ((decide ((len y209) ≤ (len y218))))), (115, .bool ((decide ((len y218) ≤ ((W ((len y209) + 1)))))))] ⟨rfl, rfl, trivial⟩ (OW.pickT rfl hc295 rfl) (er rfl trivial)
           ·intro vs314 o_ w_ hE 
            exact ⟨⟨_, rfl, .inl (congrArg (fun b => some (Value.bool b)) hc302)⟩, rfl, trivial⟩
           ·intro vs314 o_ w_ hE 
            exact OW.q [(117, .bool ((decide ((len y218) ≤ ((W ((len y209) + 1))))))), (118, undef)] ⟨rfl, rfl, trivial⟩ (OW.pickF rfl hc302 rfl) (er rfl trivial)
           ·intro vs314 o316 w315 hE h21 h244 hb260 hb31 hp273 he274
            obtain ⟨hE, evT_⟩ := hE
            have h21 : Ow 48 o316 102 [] w315 u22 y13.Breakers := h21
            have h244 : Rv (In o316 [149]) w315 ((cOf 0 (tOf 0 (vs261 8)))) y236.Buses := h244
            have hb260 : Bk o316 150 w315 ((pOf (vs261 12))) [(cOf 0 (tOf 0 (vs261 8))), (cOf 1 (tOf 0 (vs261 8))), (cOf 2 (tOf 0 (vs261 8)))] := hb260
            have hb31 : Bk o316 105 w315 pa27 [.int .i64 y13.Buses, u22, u24, u26, .int .i64 y13.Phase, .int .i64 y13.Frequency] := hb31
            have hp273 : PtrO o316 102 [] w315 (pOf (vs314 7)) y231 := hp273
            have he274 : EPtr u22 3 y119 (pOf (vs314 7)) := he274
            have h10 := h10.evo evT_ rfl
            have h23 := h23.evo evT_ rfl
            have h246 := h246.evo evT_ rfl
            have h248 := h248.evo evT_ rfl
            have h25 := h25.evo evT_ rfl
            have hs := hs.evo evT_ rfl
            have e317 := Option.some.inj q297
            subst e317
            exact NK.sb (hJ300 w315 o316 hE h10 hs) ⟨rfl, trivial⟩
         ·have q290 := iteF hc295 q290
          have ev_ := Evo.drew o263 w262
          refine CW.anyS (N := [154]) hmix [sOw none none [] 48 102 [] (vk u22) y13.Breakers, sRv none none [] [149] (vk (((cOf 0 (tOf 0 (vs261 8)))))) y236.Buses, sBk none none [] 150 (vk ((pOf (vs261 12)))) (vk ([(cOf 0 (tOf 0 (vs261 8))), (cOf 1 (tOf 0 (vs261 8))), (cOf 2 (tOf 0 (vs261 8)))])), sBk none none [] 105 (vk pa27) (vk ([.int .i64 y13.Buses, u22, u24, u26, .int .i64 y13.Phase, .int .i64 y13.Frequency])), sPo (some 7) none [7] 102 [] (vp 0) y231, sEp (some 7) none [7] (vk u22) 3 y119 (vp 0)] [⟨[], [], [], [], vk (.bool y237), false⟩, ⟨[], [], [0], [], vk (.bool y237), false⟩, ⟨[], [], [0, 1], [], vk (.pointer (some ((pOf (vs261 12)).add 0))), false⟩, ⟨[], [2], [0, 1, 2], [], vk ((cOf 0 (tOf 0 (vs261 8)))), false⟩, ⟨[], [], [0, 1], [], vk (.pointer (some (pa27.add 1))), false⟩, ⟨[], [3], [0, 1, 4], [], vk u22, false⟩, ⟨[], [], [0, 1], [], vk (.int .i64 y119), false⟩, ⟨[], [0], [0, 1, 4, 5, 6], [7], vq 0, false⟩, ⟨[], [], [0, 1, 4, 5, 6, 7], [7], fun x_ => .pointer (some ((pOf (x_.getD 0 undef)).add 2)), false⟩, ⟨[], [4], [0, 1, 4, 5, 6, 7, 8], [], vk (.int .i64 y231.B), false⟩, ⟨[], [1], rg 0 10, [], vk (.bool y275), false⟩, ⟨[], [], rg 0 11, [], vk (.bool y275), false⟩, ⟨[], [], rg 0 12, [], vk (.bool y275), false⟩, ⟨[], [], rg 0 13, [], vk (.int .i64 (len y209)), false⟩, ⟨[], [], rg 0 13, [], vk (.int .i64 (len y218)), false⟩, ⟨[], [], rg 0 15, [], vk (.bool ((decide ((len y209) ≤ (len y218))))), false⟩, ⟨[], [], rg 0 16, [], vk (.bool ((decide ((len y209) ≤ (len y218))))), false⟩, ⟨[], [], rg 0 17, [], vk (.bool ((decide ((len y209) ≤ (len y218))))), false⟩, ⟨[], [], rg 0 18, [], vk undef, true⟩, ⟨[], [], rg 0 18, [], vk undef, true⟩, ⟨[], [], [0, 1, 2, 3, 4, 5, 6, 7, 8, 9, 10, 11, 12, 13, 14, 15, 16, 17, 19], [], vk undef, true⟩, ⟨[], [], rg 0 21, [], vk undef, true⟩, ⟨[], [], rg 0 22, [], vk (.bool false), false⟩, ⟨[], [], rg 0 23, [], vk (.bool false), false⟩, ⟨[], [], rg 0 24, [], vk undef, true⟩, ⟨[], [], rg 0 25, [], vk (.bool false), false⟩, ⟨[], [], rg 0 26, [], vk (.bool false), false⟩] [] hE rfl (by kernel_rfl) (by kernel_rfl) ⟨h21.evo ev_ rfl, h244.evo ev_ rfl, hb260.evo ev_ rfl, hb31.evo ev_ rfl, trivial⟩ ⟨Ob.pv rfl rfl (fun _ => rfl) rfl (fun _ _ _ => trivial), Ob.pv rfl rfl (fun _ => rfl) rfl (fun _ _ _ => trivial), ?_, ?_, ?_, ?_, ?_, ?_, ?_, ?_, ?_, ?_, Ob.pv rfl rfl (fun _ => rfl) rfl (fun _ _ _ => trivial), ?_, ?_, ?_, ?_, Ob.pv rfl rfl (fun _ => rfl) rfl (fun _ _ _ => trivial), ?_, ?_, ?_, ?_, ?_, Ob.pv rfl rfl (fun _ => rfl) rfl (fun _ _ _ => trivial), ?_, ?_, Ob.pv rfl rfl (fun _ => rfl) rfl (fun _ _ _ => trivial), trivial⟩ ?_
          ·intro vs318 o_ w_ hE 
           refine ⟨⟨_, rfl, congrArg (fun b => some (Value.bool b)) hc270⟩, ?_⟩
           exact OW.q [(16, .pointer (some ((pOf (vs261 12)))))] ⟨rfl, trivial⟩ (OW.fldAddr (FldOk.at f53_0) rfl) (er rfl trivial)
          ·intro vs318 o_ w_ hE hb260
           have hb260 := tBk hb260
           refine ⟨⟨_, rfl, congrArg (fun b => some (Value.bool b)) hc270⟩, ?_⟩
           exact OW.q [(96, .pointer (some ((pOf (vs261 12)).add 0)))] ⟨rfl, trivial⟩ (OW.loadK (off := 0) (List Int) ((cOf 0 (tOf 0 (vs261 8)))) ty22 rfl hb260 rfl rfl) (er rfl trivial)
          ·intro vs318 o_ w_ hE 
           refine ⟨⟨_, rfl, congrArg (fun b => some (Value.bool b)) hc270⟩, ?_⟩
           exact OW.q [(6, .pointer (some pa27))] ⟨rfl, trivial⟩ (OW.fldAddr (FldOk.at f39_1) rfl) (er rfl trivial)
          ·intro vs318 o_ w_ hE hb31
           have hb31 := tBk hb31
           refine ⟨⟨_, rfl, congrArg (fun b => some (Value.bool b)) hc270⟩, ?_⟩
           exact OW.q [(98, .pointer (some (pa27.add 1)))] ⟨rfl, trivial⟩ (OW.loadK (off := 1) (List Breaker) (u22) ty35 rfl hb31 rfl rfl) (er rfl trivial)
          ·intro vs318 o_ w_ hE 
           refine ⟨⟨_, rfl, congrArg (fun b => some (Value.bool b)) hc270⟩, ?_⟩
           exact OW.q [(11, .int .i64 y119)] ⟨rfl, trivial⟩ (OW.pv (v := (.int .i64 y119)) rfl) (er rfl trivial)
          ·intro vs318 o_ w_ hE h21
           have h21 := tOw h21
           refine ⟨⟨_, rfl, congrArg (fun b => some (Value.bool b)) hc270⟩, ?_⟩
           refine OW.r [(99, u22), (100, .int .i64 y119)] ⟨rfl, rfl, trivial⟩ (OW.indexAddrO Try.underlying35 ty48 rfl h21 rfl q235) ?_
           rintro _ _ ⟨rfl, ⟨pa272, hv_, hp273, he274⟩⟩
           subst hv_
           exact ⟨_, Evo.refl _ _ _ _, rfl, hp273, he274, trivial⟩
          ·intro vs318 o_ w_ hE 
           refine ⟨⟨_, rfl, congrArg (fun b => some (Value.bool b)) hc270⟩, ?_⟩
           exact OW.q [(101, .pointer (some (pOf (vs318 7))))] ⟨rfl, trivial⟩ (OW.fldAddr (FldOk.at f48_2) rfl) (er rfl trivial)
          ·intro vs318 o_ w_ hE hp273
           have hp273 := tPo hp273
           refine ⟨⟨_, rfl, congrArg (fun b => some (Value.bool b)) hc270⟩, ?_⟩
           exact OW.q [(102, .pointer (some ((pOf (vs318 7)).add 2)))] ⟨rfl, trivial⟩ (OW.loadI ty3 rfl (hp273.fld f48_2).at) (er rfl trivial)
          ·intro vs318 o_ w_ hE h244
           have h244 := tRv h244
           refine ⟨⟨_, rfl, congrArg (fun b => some (Value.bool b)) hc270⟩, ?_⟩
           refine OW.r [(97, (cOf 0 (tOf 0 (vs261 8)))), (103, .int .i64 y231.B)] ⟨rfl, rfl, trivial⟩ (OW.call Try.call23 rfl (dynposref01_Has_ok q276 h244)) ?_
           rintro _ w277 ⟨o281, hn_, rfl⟩
           obtain ⟨o278, ev279, hA280⟩ := adopt (o := o_) (ks := []) (Ks := [[149]]) 154 ([]) [154] hn_ MbOk.nil rfl rfl rfl rfl
           exact ⟨o278, ev279.sub rfl rfl, rfl, trivial⟩
          ·intro vs318 o_ w_ hE 
           exact OW.q [(95, .bool y237), (104, .bool y275)] ⟨rfl, rfl, trivial⟩ (OW.pickT rfl hc270 rfl) (er rfl trivial)
          ·intro vs318 o_ w_ hE 
           refine ⟨⟨_, rfl, congrArg (fun b => some (Value.bool b)) hc288⟩, ?_⟩
           exact OW.q [(14, .int .i64 (len y209))] ⟨rfl, trivial⟩ (OW.pv (v := (.int .i64 (len y209))) rfl) (er rfl trivial)
          ·intro vs318 o_ w_ hE 
           refine ⟨⟨_, rfl, congrArg (fun b => some (Value.bool b)) hc288⟩, ?_⟩
           exact OW.q [(15, .int .i64 (len y218))] ⟨rfl, trivial⟩ (OW.pv (v := (.int .i64 (len y218))) rfl) (er rfl trivial)
          ·intro vs318 o_ w_ hE 
           refine ⟨⟨_, rfl, congrArg (fun b => some (Value.bool b)) hc288⟩, ?_⟩
           exact OW.q [(107, .int .i64 (len y209)), (108, .int .i64 (len y218))] ⟨rfl, rfl, trivial⟩ (OW.pv (v := (.bool ((decide ((len y209) ≤ (len y218)))))) rfl) (er rfl trivial)
          ·intro vs318 o_ w_ hE 
           exact OW.q [(106, .bool y275), (109, .bool ((decide ((len y209) ≤ (len y218)))))] ⟨rfl, rfl, trivial⟩ (OW.pickT rfl hc288 rfl) (er rfl trivial)
          ·intro vs318 o_ w_ hE 
           exact ⟨⟨_, rfl, .inl (congrArg (fun b => some (Value.bool b)) hc295)⟩, rfl, trivial⟩
          ·intro vs318 o_ w_ hE 
           exact ⟨⟨_, rfl, .inl (congrArg (fun b => some (Value.bool b)) hc295)⟩, rfl, trivial⟩
          ·intro vs318 o_ w_ hE 
           exact ⟨⟨_, rfl, .inl (congrArg (fun b => some (Value.bool b)) hc295)⟩, rfl, trivial⟩
          ·intro vs318 o_ w_ hE 
           exact ⟨⟨_, rfl, .inl (congrArg (fun b => some (Value.bool b)) hc295)⟩, rfl, trivial⟩
          ·intro vs318 o_ w_ hE 
           exact OW.q [(111, .bool ((decide ((len y209) ≤ (len y218))))), (115, undef)] ⟨rfl, rfl, trivial⟩ (OW.pickF rfl hc295 rfl) (er rfl trivial)
          ·intro vs318 o_ w_ hE 
           exact ⟨⟨_, rfl, .inl rfl⟩, rfl, trivial⟩
          ·intro vs318 o_ w_ hE 
           exact OW.q [(117, .bool false), (118, undef)] ⟨rfl, rfl, trivial⟩ (OW.pickF rfl rfl rfl) (er rfl trivial)
          ·intro vs318 o320 w319 hE h21 h244 hb260 hb31 hp273 he274
           obtain ⟨hE, evT_⟩ := hE
           have h21 : Ow 48 o320 102 [] w319 u22 y13.Breakers := h21
           have h244 : Rv (In o320 [149]) w319 ((cOf 0 (tOf 0 (vs261 8)))) y236.Buses := h244
           have hb260 : Bk o320 150 w319 ((pOf (vs261 12))) [(cOf 0 (tOf 0 (vs261 8))), (cOf 1 (tOf 0 (vs261 8))), (cOf 2 (tOf 0 (vs261 8)))] := hb260
           have hb31 : Bk o320 105 w319 pa27 [.int .i64 y13.Buses, u22, u24, u26, .int .i64 y13.Phase, .int .i64 y13.Frequency] := hb31
           have hp273 : PtrO o320 102 [] w319 (pOf (vs318 7)) y231 := hp273
           have he274 : EPtr u22 3 y119 (pOf (vs318 7)) := he274
           have h10 := h10.evo evT_ rfl
           have h23 := h23.evo evT_ rfl
           have h246 := h246.evo evT_ rfl
           have h248 := h248.evo evT_ rfl
           have h25 := h25.evo evT_ rfl
           have hs := hs.evo evT_ rfl
           have e321 := Option.some.inj q290
           subst e321
           exact NK.sb (hJ293 w319 o320 hE h10 hs) ⟨rfl, trivial⟩
        ·have q283 := iteF hc288 q283
         have ev_ := Evo.drew o263 w262
         refine CW.anyS (N := [154]) hmix [sOw none none [] 48 102 [] (vk u22) y13.Breakers, sRv none none [] [149] (vk (((cOf 0 (tOf 0 (vs261 8)))))) y236.Buses, sBk none none [] 150 (vk ((pOf (vs261 12)))) (vk ([(cOf 0 (tOf 0 (vs261 8))), (cOf 1 (tOf 0 (vs261 8))), (cOf 2 (tOf 0 (vs261 8)))])), sBk none none [] 105 (vk pa27) (vk ([.int .i64 y13.Buses, u22, u24, u26, .int .i64 y13.Phase, .int .i64 y13.Frequency])), sPo (some 7) none [7] 102 [] (vp 0) y231, sEp (some 7) none [7] (vk u22) 3 y119 (vp 0)] [⟨[], [], [], [], vk (.bool y237), false⟩, ⟨[], [], [0], [], vk (.bool y237), false⟩, ⟨[], [], [0, 1], [], vk (.pointer (some ((pOf (vs261 12)).add 0))), false⟩, ⟨[], [2], [0, 1, 2], [], vk ((cOf 0 (tOf 0 (vs261 8)))), false⟩, ⟨[], [], [0, 1], [], vk (.pointer (some (pa27.add 1))), false⟩, ⟨[], [3], [0, 1, 4], [], vk u22, false⟩, ⟨[], [], [0, 1], [], vk (.int .i64 y119), false⟩, ⟨[], [0], [0, 1, 4, 5, 6], [7], vq 0, false⟩, ⟨[], [], [0, 1, 4, 5, 6, 7], [7], fun x_ => .pointer (some ((pOf (x_.getD 0 undef)).add 2)), false⟩, ⟨[], [4], [0, 1, 4, 5, 6, 7, 8], [], vk (.int .i64 y231.B), false⟩, ⟨[], [1], rg 0 10, [], vk (.bool y275), false⟩, ⟨[], [], rg 0 11, [], vk (.bool y275), false⟩, ⟨[], [], rg 0 12, [], vk (.bool y275), false⟩, ⟨[], [], rg 0 13, [], vk undef, true⟩, ⟨[], [], rg 0 13, [], vk undef, true⟩, ⟨[], [], rg 0 15, [], vk undef, true⟩, ⟨[], [], rg 0 16, [], vk (.bool false), false⟩, ⟨[], [], rg 0 17, [], vk (.bool false), false⟩, ⟨[], [], rg 0 18, [], vk undef, true⟩, ⟨[], [], rg 0 18, [], vk undef, true⟩, ⟨[], [], [0, 1, 2, 3, 4, 5, 6, 7, 8, 9, 10, 11, 12, 13, 14, 15, 16, 17, 19], [], vk undef, true⟩, ⟨[], [], rg 0 21, [], vk undef, true⟩, ⟨[], [], rg 0 22, [], vk (.bool false), false⟩, ⟨[], [], rg 0 23, [], vk (.bool false), false⟩, ⟨[], [], rg 0 24, [], vk undef, true⟩, ⟨[], [], rg 0 25, [], vk (.bool false), false⟩, ⟨[], [], rg 0 26, [], vk (.bool false), false⟩] [] hE rfl (by kernel_rfl) (by kernel_rfl) ⟨h21.evo ev_ rfl, h244.evo ev_ rfl, hb260.evo ev_ rfl, hb31.evo ev_ rfl, trivial⟩ ⟨Ob.pv rfl rfl (fun _ => rfl) rfl (fun _ _ _ => trivial), Ob.pv rfl rfl (fun _ => rfl) rfl (fun _ _ _ => trivial), ?_, ?_, ?_, ?_, ?_, ?_, ?_, ?_, ?_, ?_, Ob.pv rfl rfl (fun _ => rfl) rfl (fun _ _ _ => trivial), ?_, ?_, ?_, ?_, Ob.pv rfl rfl (fun _ => rfl) rfl (fun _ _ _ => trivial), ?_, ?_, ?_, ?_, ?_, Ob.pv rfl rfl (fun _ => rfl) rfl (fun _ _ _ => trivial), ?_, ?_, Ob.pv rfl rfl (fun _ => rfl) rfl (fun _ _ _ => trivial), trivial⟩ ?_
         ·intro vs322 o_ w_ hE 
          refine ⟨⟨_, rfl, congrArg (fun b => some (Value.bool b)) hc270⟩, ?_⟩
          exact OW.q [(16, .pointer (some ((pOf (vs261 12)))))] ⟨rfl, trivial⟩ (OW.fldAddr (FldOk.at f53_0) rfl) (er rfl trivial)
         ·intro vs322 o_ w_ hE hb260
          have hb260 := tBk hb260
          refine ⟨⟨_, rfl, congrArg (fun b => some (Value.bool b)) hc270⟩, ?_⟩
          exact OW.q [(96, .pointer (some ((pOf (vs261 12)).add 0)))] ⟨rfl, trivial⟩ (OW.loadK (off := 0) (List Int) ((cOf 0 (tOf 0 (vs261 8)))) ty22 rfl hb260 rfl rfl) (er rfl trivial)
         ·intro vs322 o_ w_ hE 
          refine ⟨⟨_, rfl, congrArg (fun b => some (Value.bool b)) hc270⟩, ?_⟩
          exact OW.q [(6, .pointer (some pa27))] ⟨rfl, trivial⟩ (OW.fldAddr (FldOk.at f39_1) rfl) (er rfl trivial)
         ·intro vs322 o_ w_ hE hb31
          have hb31 := tBk hb31
          refine ⟨⟨_, rfl, congrArg (fun b => some (Value.bool b)) hc270⟩, ?_⟩
          exact OW.q [(98, .pointer (some (pa27.add 1)))] ⟨rfl, trivial⟩ (OW.loadK (off := 1) (List Breaker) (u22) ty35 rfl hb31 rfl rfl) (er rfl trivial)
         ·intro vs322 o_ w_ hE 
          refine ⟨⟨_, rfl, congrArg (fun b => some (Value.bool b)) hc270⟩, ?_⟩
          exact OW.q [(11, .int .i64 y119)] ⟨rfl, trivial⟩ (OW.pv (v := (.int .i64 y119)) rfl) (er rfl trivial)
         ·intro vs322 o_ w_ hE h21
          have h21 := tOw h21
          refine ⟨⟨_, rfl, congrArg (fun b => some (Value.bool b)) hc270⟩, ?_⟩
          refine OW.r [(99, u22), (100, .int .i64 y119)] ⟨rfl, rfl, trivial⟩ (OW.indexAddrO Try.underlying35 ty48 rfl h21 rfl q235) ?_
          rintro _ _ ⟨rfl, ⟨pa272, hv_, hp273, he274⟩⟩
          subst hv_
          exact ⟨_, Evo.refl _ _ _ _, rfl, hp273, he274, trivial⟩
         ·intro vs322 o_ w_ hE 
          refine ⟨⟨_, rfl, congrArg (fun b => some (Value.bool b)) hc270⟩, ?_⟩
          exact OW.q [(101, .pointer (some (pOf (vs322 7))))] ⟨rfl, trivial⟩ (OW.fldAddr (FldOk.at f48_2) rfl) (er rfl trivial)
         ·intro vs322 o_ w_ hE hp273
          have hp273 := tPo hp273
          refine ⟨⟨_, rfl, congrArg (fun b => some (Value.bool b)) hc270⟩, ?_⟩
          exact OW.q [(102, .pointer (some ((pOf (vs322 7)).add 2)))] ⟨rfl, trivial⟩ (OW.loadI ty3 rfl (hp273.fld f48_2).at) (er rfl trivial)
         ·intro vs322 o_ w_ hE h244
          have h244 := tRv h244
          refine ⟨⟨_, rfl, congrArg (fun b => some (Value.bool b)) hc270⟩, ?_⟩
          refine OW.r [(97, (cOf 0 (tOf 0 (vs261 8)))), (103, .int .i64 y231.B)] ⟨rfl, rfl, trivial⟩ (OW.call Try.call23 rfl (dynposref01_Has_ok q276 h244)) ?_
          rintro _ w277 ⟨o281, hn_, rfl⟩
          obtain ⟨o278, ev279, hA280⟩ := adopt (o := o_) (ks := []) (Ks := [[149]]) 154 ([]) [154] hn_ MbOk.nil rfl rfl rfl rfl
          exact ⟨o278, ev279.sub rfl rfl, rfl, trivial⟩
         ·intro vs322 o_ w_ hE 
          exact OW.q [(95, .bool y237), (104, .bool y275)] ⟨rfl, rfl, trivial⟩ (OW.pickT rfl hc270 rfl) (er rfl trivial)
         ·intro vs322 o_ w_ hE 
          exact ⟨⟨_, rfl, .inl (congrArg (fun b => some (Value.bool b)) hc288)⟩, rfl, trivial⟩
         ·intro vs322 o_ w_ hE 
          exact ⟨⟨_, rfl, .inl (congrArg (fun b => some (Value.bool b)) hc288)⟩, rfl, trivial⟩
         ·intro vs322 o_ w_ hE 
          exact ⟨⟨_, rfl, .inl (congrArg (fun b => some (Value.bool b)) hc288)⟩, rfl, trivial⟩
         ·intro vs322 o_ w_ hE 
          exact OW.q [(106, .bool y275), (109, undef)] ⟨rfl, rfl, trivial⟩ (OW.pickF rfl hc288 rfl) (er rfl trivial)
         ·intro vs322 o_ w_ hE 
          exact ⟨⟨_, rfl, .inl rfl⟩, rfl, trivial⟩
         ·intro vs322 o_ w_ hE 
          exact ⟨⟨_, rfl, .inl rfl⟩, rfl, trivial⟩
         ·intro vs322 o_ w_ hE 
          exact ⟨⟨_, rfl, .inl rfl⟩, rfl, trivial⟩
         ·intro vs322 o_ w_ hE 
          exact ⟨⟨_, rfl, .inl rfl⟩, rfl, trivial⟩
         ·intro vs322 o_ w_ hE 
          exact OW.q [(111, .bool false), (115, undef)] ⟨rfl, rfl, trivial⟩ (OW.pickF rfl rfl rfl) (er rfl trivial)
         ·intro vs322 o_ w_ hE 
          exact ⟨⟨_, rfl, .inl rfl⟩, rfl, trivial⟩
         ·intro vs322 o_ w_ hE 
          exact OW.q [(117, .bool false), (118, undef)] ⟨rfl, rfl, trivial⟩ (OW.pickF rfl rfl rfl) (er rfl trivial)
         ·intro vs322 o324 w323 hE h21 h244 hb260 hb31 hp273 he274
          obtain ⟨hE, evT_⟩ := hE
          have h21 : Ow 48 o324 102 [] w323 u22 y13.Breakers := h21
          have h244 : Rv (In o324 [149]) w323 ((cOf 0 (tOf 0 (vs261 8)))) y236.Buses := h244
          have hb260 : Bk o324 150 w323 ((pOf (vs261 12))) [(cOf 0 (tOf 0 (vs261 8))), (cOf 1 (tOf 0 (vs261 8))), (cOf 2 (tOf 0 (vs261 8)))] := hb260
          have hb31 : Bk o324 105 w323 pa27 [.int .i64 y13.Buses, u22, u24, u26, .int .i64 y13.Phase, .int .i64 y13.Frequency] := hb31
          have hp273 : PtrO o324 102 [] w323 (pOf (vs322 7)) y231 := hp273
          have he274 : EPtr u22 3 y119 (pOf (vs322 7)) := he274
          have h10 := h10.evo evT_ rfl
          have h23 := h23.evo evT_ rfl
          have h246 := h246.evo evT_ rfl
          have h248 := h248.evo evT_ rfl
          have h25 := h25.evo evT_ rfl
          have hs := hs.evo evT_ rfl
          have e325 := Option.some.inj q283
          subst e325
          exact NK.sb (hJ286 w323 o324 hE h10 hs) ⟨rfl, trivial⟩
       ·have q266 := iteF hc270 q266
        refine CW.anyS (N := []) hmix [] [⟨[], [], [], [], vk (.bool y237), false⟩, ⟨[], [], [0], [], vk (.bool y237), false⟩, ⟨[], [], [0, 1], [], vk undef, true⟩, ⟨[], [], [0, 1, 2], [], vk undef, true⟩, ⟨[], [], [0, 1], [], vk undef, true⟩, ⟨[], [], [0, 1, 4], [], vk undef, true⟩, ⟨[], [], [0, 1], [], vk undef, true⟩, ⟨[], [], [0, 1, 4, 5, 6], [], vk undef, true⟩, ⟨[], [], [0, 1, 4, 5, 6, 7], [], vk undef, true⟩, ⟨[], [], [0, 1, 4, 5, 6, 7, 8], [], vk undef, true⟩, ⟨[], [], rg 0 10, [], vk undef, true⟩, ⟨[], [], rg 0 11, [], vk (.bool false), false⟩, ⟨[], [], rg 0 12, [], vk (.bool false), false⟩, ⟨[], [], rg 0 13, [], vk undef, true⟩, ⟨[], [], rg 0 13, [], vk undef, true⟩, ⟨[], [], rg 0 15, [], vk undef, true⟩, ⟨[], [], rg 0 16, [], vk (.bool false), false⟩, ⟨[], [], rg 0 17, [], vk (.bool false), false⟩, ⟨[], [], rg 0 18, [], vk undef, true⟩, ⟨[], [], rg 0 18, [], vk undef, true⟩, ⟨[], [], [0, 1, 2, 3, 4, 5, 6, 7, 8, 9, 10, 11, 12, 13, 14, 15, 16, 17, 19], [], vk undef, true⟩, ⟨[], [], rg 0 21, [], vk undef, true⟩, ⟨[], [], rg 0 22, [], vk (.bool false), false⟩, ⟨[], [], rg 0 23, [], vk (.bool false), false⟩, ⟨[], [], rg 0 24, [], vk undef, true⟩, ⟨[], [], rg 0 25, [], vk (.bool false), false⟩, ⟨[], [], rg 0 26, [], vk (.bool false), false⟩] [] hE rfl (by kernel_rfl) (by kernel_rfl) trivial ⟨Ob.pv rfl rfl (fun _ => rfl) rfl (fun _ _ _ => trivial), Ob.pv rfl rfl (fun _ => rfl) rfl (fun _ _ _ => trivial), ?_, ?_, ?_, ?_, ?_, ?_, ?_, ?_, ?_, ?_, Ob.pv rfl rfl (fun _ => rfl) rfl (fun _ _ _ => trivial), ?_, ?_, ?_, ?_, Ob.pv rfl rfl (fun _ => rfl) rfl (fun _ _ _ => trivial), ?_, ?_, ?_, ?_, ?_, Ob.pv rfl rfl (fun _ => rfl) rfl (fun _ _ _ => trivial), ?_, ?_, Ob.pv rfl rfl (fun _ => rfl) rfl (fun _ _ _ => trivial), trivial⟩ ?_
        ·intro vs326 o_ w_ hE 
         exact ⟨⟨_, rfl, .inl (congrArg (fun b => some (Value.bool b)) hc270)⟩, rfl, trivial⟩
        ·intro vs326 o_ w_ hE 
         exact ⟨⟨_, rfl, .inl (congrArg (fun b => some (Value.bool b)) hc270)⟩, rfl, trivial⟩
        ·intro vs326 o_ w_ hE 
         exact ⟨⟨_, rfl, .inl (congrArg (fun b => some (Value.bool b)) hc270)⟩, rfl, trivial⟩
        ·intro vs326 o_ w_ hE 
         exact ⟨⟨_, rfl, .inl (congrArg (fun b => some (Value.bool b)) hc270)⟩, rfl, trivial⟩
        ·intro vs326 o_ w_ hE 
         exact ⟨⟨_, rfl, .inl (congrArg (fun b => some (Value.bool b)) hc270)⟩, rfl, trivial⟩
        ·intro vs326 o_ w_ hE 
         exact ⟨⟨_, rfl, .inl (congrArg (fun b => some (Value.bool b)) hc270)⟩, rfl, trivial⟩
        ·intro vs326 o_ w_ hE 
         exact ⟨⟨_, rfl, .inl (congrArg (fun b => some (Value.bool b)) hc270)⟩, rfl, trivial⟩
        ·intro vs326 o_ w_ hE 
         exact ⟨⟨_, rfl, .inl (congrArg (fun b => some (Value.bool b)) hc270)⟩, rfl, trivial⟩
        ·intro vs326 o_ w_ hE 
         exact ⟨⟨_, rfl, .inl (congrArg (fun b => some (Value.bool b)) hc270)⟩, rfl, trivial⟩
        ·intro vs326 o_ w_ hE 
         exact OW.q [(95, .bool y237), (104, undef)] ⟨rfl, rfl, trivial⟩ (OW.pickF rfl hc270 rfl) (er rfl trivial)
        ·intro vs326 o_ w_ hE 
         exact ⟨⟨_, rfl, .inl rfl⟩, rfl, trivial⟩
        ·intro vs326 o_ w_ hE 
         exact ⟨⟨_, rfl, .inl rfl⟩, rfl, trivial⟩
        ·intro vs326 o_ w_ hE 
         exact ⟨⟨_, rfl, .inl rfl⟩, rfl, trivial⟩
        ·intro vs326 o_ w_ hE 
         exact OW.q [(106, .bool false), (109, undef)] ⟨rfl, rfl, trivial⟩ (OW.pickF rfl rfl rfl) (er rfl trivial)
        ·intro vs326 o_ w_ hE 
         exact ⟨⟨_, rfl, .inl rfl⟩, rfl, trivial⟩
        ·intro vs326 o_ w_ hE 
         exact ⟨⟨_, rfl, .inl rfl⟩, rfl, trivial⟩
        ·intro vs326 o_ w_ hE 
         exact ⟨⟨_, rfl, .inl rfl⟩, rfl, trivial⟩
        ·intro vs326 o_ w_ hE 
         exact ⟨⟨_, rfl, .inl rfl⟩, rfl, trivial⟩
        ·intro vs326 o_ w_ hE 
         exact OW.q [(111, .bool false), (115, undef)] ⟨rfl, rfl, trivial⟩ (OW.pickF rfl rfl rfl) (er rfl trivial)
        ·intro vs326 o_ w_ hE 
         exact ⟨⟨_, rfl, .inl rfl⟩, rfl, trivial⟩
        ·intro vs326 o_ w_ hE 
         exact OW.q [(117, .bool false), (118, undef)] ⟨rfl, rfl, trivial⟩ (OW.pickF rfl rfl rfl) (er rfl trivial)
        ·intro vs326 o328 w327 hE 
         obtain ⟨hE, evT_⟩ := hE
         have h10 := h10.evo evT_ rfl
         have h21 := h21.evo evT_ rfl
         have h23 := h23.evo evT_ rfl
         have h244 := h244.evo evT_ rfl
         have h246 := h246.evo evT_ rfl
         have h248 := h248.evo evT_ rfl
         have h25 := h25.evo evT_ rfl
         have hb260 := hb260.evo evT_ rfl
         have hb31 := hb31.evo evT_ rfl
         have hs := hs.evo evT_ rfl
         have e329 := Option.some.inj q266
         subst e329
         exact NK.sb (hJ269 w327 o328 hE h10 hs) ⟨rfl, trivial⟩
 refine CW.sub (L' := [(1, .int .u8 a1.n), (6, .pointer (some pa27)), (7, .pointer (some pa55)), (8, (.slice none 0 0)), (26, u22), (27, .int .i64 (len y13.Breakers)), (28, .int .i64 0)]) ⟨rfl, rfl, rfl, rfl, rfl, rfl, rfl, trivial⟩ ?_
 refine CW.loop (dynposlaw15_BoardTies_L1 y13) (fun s_ L_ w330 => ∃ (o331 : Cls) (x70 : (List Int)) (x73 : Int) (v71 : Value), (x70, x73) = s_ ∧ L_ = [(1, .int .u8 a1.n), (6, .pointer (some pa27)), (7, .pointer (some pa55)), (8, v71), (26, u22), (27, .int .i64 (len y13.Breakers)), (28, .int .i64 x73)] ∧ En w0 e0 o331 w330 ∧ Rv (In o331 [40]) w330 sv y3 ∧ Ow 48 o331 102 [] w330 u22 y13.Breakers ∧ Ow 83 o331 103 [] w330 u24 y13.Sources ∧ Ow 85 o331 104 [101] w330 u26 y13.Consumers ∧ Ow 4 o331 110 [] w330 u48 y39.Closed ∧ Ow 64 o331 111 [] w330 u50 y39.Sources ∧ Ow 3 o331 112 [] w330 u52 y39.Limits ∧ Ow 66 o331 113 [] w330 u54 y39.Broken ∧ Ow 3 o331 119 [] w330 v71 x70 ∧ Bk o331 105 w330 pa27 [.int .i64 y13.Buses, u22, u24, u26, .int .i64 y13.Phase, .int .i64 y13.Frequency] ∧ Bk o331 114 w330 pa55 [u48, u50, u52, u54] ∧ SrcC o331 100 w330 sb sv y3 st40) hl77 ?_ ?_
 ·exact ⟨o56, ([] : List Int), 0, (.slice none 0 0), rfl, rfl, hE, h10, h21, h23, h25, h47, h49, h51, h53, h67, hb31, hb59, hs⟩
 intro K332 s_ L_ w330 hi_ x333 hx334 hr335 hk336
 obtain ⟨o331, x70, x73, v71, rfl, rfl, hE, h10, h21, h23, h25, h47, h49, h51, h53, h72, hb31, hb59, hs⟩ := hi_
 rw [dynposlaw15_BoardTies_L1] at hx334
 refine CW.sr fun K337 hK337 => ?_
 refine WL.p (.bool ((decide (x73 < (len y13.Breakers))))) rfl rfl ?_
 refine WL.nx hK337 ?_
 refine CW.seq fun K338 hK338 => ?_
 refine CW.cond (b := (decide (x73 < (len y13.Breakers)))) rfl (fun hc339 => ?_) (fun hc339 => ?_)
 ·have hx334 := iteT hc339 hx334
  refine CW.skip ?_
  refine hK338 _ _ ?_
  refine CW.seq fun K340 hK340 => ?_
  refine CW.block ?_
  refine CW.sr fun K341 hK341 => ?_
  refine WL.p (.int .i64 x73) rfl rfl ?_
  obtain ⟨y342, q346, hx334⟩ := bindE hx334
  refine WL.stepP (OW.indexAddrO Try.underlying35 ty48 rfl h21 rfl q346) rfl fun _ ⟨pa343, hv_, hp344, he345⟩ => ?_
  subst hv_
  refine WL.stepP (OW.loadO ty48 rfl hp344) rfl fun v347 h348 => ?_
  obtain rfl := op48 h348
  refine WL.step (OW.allocK (o := o331) Breaker 120 [.int .i64 0, .int .i64 0, .int .i64 0] ty48 rfl) rfl ?_
  rintro _ w351 ⟨pa349, o350, rfl, ev352, hb353⟩
  have hE := hE.evo ev352 rfl rfl
  have h10 := h10.evo ev352 rfl
  have h21 := h21.evo ev352 rfl
  have h23 := h23.evo ev352 rfl
  have h25 := h25.evo ev352 rfl
  have h47 := h47.evo ev352 rfl
  have h49 := h49.evo ev352 rfl
  have h51 := h51.evo ev352 rfl
  have h53 := h53.evo ev352 rfl
  have h72 := h72.evo ev352 rfl
  have hb31 := hb31.evo ev352 rfl
  have hb59 := hb59.evo ev352 rfl
  have hs := hs.evo ev352 rfl
  refine WL.p (.int .i64 x73) rfl rfl ?_
  refine WL.step0 (OW.storeK0 Breaker [.int .i64 y342.Kind, .int .i64 y342.A, .int .i64 y342.B] [.int .i64 y342.Kind, .int .i64 y342.A, .int .i64 y342.B] ty48 rfl rfl hb353 rfl ⟨rfl, rfl, rfl, trivial⟩ rfl rfl rfl) ?_
  rintro _ w354 ⟨ev355, hb353⟩
  have hE := hE.evo ev355 rfl rfl
  have h10 := h10.evo ev355 rfl
  have h21 := h21.evo ev355 rfl
  have h23 := h23.evo ev355 rfl
  have h25 := h25.evo ev355 rfl
  have h47 := h47.evo ev355 rfl
  have h49 := h49.evo ev355 rfl
  have h51 := h51.evo ev355 rfl
  have h53 := h53.evo ev355 rfl
  have h72 := h72.evo ev355 rfl
  have hb31 := hb31.evo ev355 rfl
  have hb59 := hb59.evo ev355 rfl
  have hs := hs.evo ev355 rfl
  refine WL.nx hK341 ?_
  refine CW.sr fun K356 hK356 => ?_
  refine WL.stepE (OW.fldAddr (FldOk.at f48_0) rfl) rfl ?_
  refine WL.stepE (OW.loadK (off := 0) Int (.int .i64 y342.Kind) ty3 rfl hb353 rfl rfl) rfl ?_
  refine WL.p (.bool (((y342.Kind == 1)))) rfl rfl ?_
  refine WL.nx hK356 ?_
  obtain ⟨x357, q360, hx334⟩ := bindE hx334
  have hJ363 : ∀ (w361 : World) (o362 : Cls) (v358 : Value), En w0 e0 o362 w361 → Rv (In o362 [40]) w361 sv y3 → Ow 48 o362 102 [] w361 u22 y13.Breakers → Ow 83 o362 103 [] w361 u24 y13.Sources → Ow 85 o362 104 [101] w361 u26 y13.Consumers → Ow 3 o362 119 [] w361 v358 x357 → Ow 4 o362 110 [] w361 u48 y39.Closed → Ow 64 o362 111 [] w361 u50 y39.Sources → Ow 3 o362 112 [] w361 u52 y39.Limits → Ow 66 o362 113 [] w361 u54 y39.Broken → Bk o362 105 w361 pa27 [.int .i64 y13.Buses, u22, u24, u26, .int .i64 y13.Phase, .int .i64 y13.Frequency] → Bk o362 114 w361 pa55 [u48, u50, u52, u54] → SrcC o362 100 w361 sb sv y3 st40 → NK 120 K340 [(1, .int .u8 a1.n), (6, .pointer (some pa27)), (7, .pointer (some pa55)), (8, v358), (26, u22), (27, .int .i64 (len y13.Breakers)), (28, .int .i64 x73)] w361 := by
   intro w361 o362 v358 hE h10 h21 h23 h25 h359 h47 h49 h51 h53 hb31 hb59 hs
   refine hK340 _ _ ?_
   refine CW.region ?_
   refine WL.p (.int .i64 ((W (x73 + 1)))) rfl rfl ?_
   refine WL.p (.int .i64 ((W (x73 + 1)))) rfl rfl ?_
   refine WL.nil ?_
   exact NK.sb (hk336 _ _ _ (Option.some.inj hx334).symm ⟨o362, x357, (W (x73 + 1)), v358, rfl, rfl, hE, h10, h21, h23, h25, h47, h49, h51, h53, h359, hb31, hb59, hs⟩) ⟨rfl, rfl, rfl, rfl, rfl, rfl, rfl, trivial⟩
  refine CW.cond (b := ((y342.Kind == 1))) rfl (fun hc364 => ?_) (fun hc364 => ?_)
  ·have q360 := iteT hc364 q360
   refine CW.region ?_
   refine WL.p v71 rfl rfl ?_
   refine WL.p (.int .i64 x73) rfl rfl ?_
   refine WL.step (OW.buildSlice (o := o350) (k := 121) (K := []) (xs := ([x73] : List Int)) Try.underlying22 ty3 rfl ⟨(rv_int.2 rfl), trivial⟩ rfl rfl) rfl ?_
   rintro v365 w366 ⟨o367, ev368, h369⟩
   have hE := hE.evo ev368 rfl rfl
   have h10 := h10.evo ev368 rfl
   have h21 := h21.evo ev368 rfl
   have h23 := h23.evo ev368 rfl
   have h25 := h25.evo ev368 rfl
   have h47 := h47.evo ev368 rfl
   have h49 := h49.evo ev368 rfl
   have h51 := h51.evo ev368 rfl
   have h53 := h53.evo ev368 rfl
   have h72 := h72.evo ev368 rfl
   have hb31 := hb31.evo ev368 rfl
   have hb59 := hb59.evo ev368 rfl
   have hs := hs.evo ev368 rfl
   obtain ⟨y370, q371, q360⟩ := bindE q360
   refine WL.step (OW.append (K := []) Try.underlying22 ty3 rfl rfl h72 h369.els.flat q371 rfl) rfl ?_
   rintro v372 w373 ⟨o374, ev375, h376⟩
   have hE := hE.evo ev375 rfl rfl
   have h10 := h10.evo ev375 rfl
   have h21 := h21.evo ev375 rfl
   have h23 := h23.evo ev375 rfl
   have h25 := h25.evo ev375 rfl
   have h369 := h369.evo ev375 rfl
   have h47 := h47.evo ev375 rfl
   have h49 := h49.evo ev375 rfl
   have h51 := h51.evo ev375 rfl
   have h53 := h53.evo ev375 rfl
   have hb31 := hb31.evo ev375 rfl
   have hb59 := hb59.evo ev375 rfl
   have hs := hs.evo ev375 rfl
   refine WL.p v372 rfl rfl ?_
   refine WL.nil ?_
   have e377 := Option.some.inj q360
   subst e377
   exact NK.sb (hJ363 w373 o374 v372 hE h10 h21 h23 h25 h376 h47 h49 h51 h53 hb31 hb59 hs) ⟨rfl, rfl, rfl, rfl, rfl, rfl, rfl, trivial⟩
  ·have q360 := iteF hc364 q360
   refine CW.skip ?_
   have e378 := Option.some.inj q360
   subst e378
   exact NK.sb (hJ363 w354 o350 v71 hE h10 h21 h23 h25 h72 h47 h49 h51 h53 hb31 hb59 hs) ⟨rfl, rfl, rfl, rfl, rfl, rfl, rfl, trivial⟩
 ·have hx334 := iteF hc339 hx334
  refine CW.exit ?_
  exact NK.sb (hJ81 x70 w330 o331 v71 (hr335 _ (Option.some.inj hx334).symm) hE h10 h21 h23 h25 h47 h49 h51 h53 h72 hb31 hb59 hs) ⟨rfl, rfl, rfl, rfl, trivial⟩

end Go.Proofs.Ytnpghnnlcakbfaa
