/- Walks. Written by a program (wip/gen). -/
import Derived.Test.YtnpghnnlcakbfaaHw
import Derived.Test.YtnpghnnlcakbfaaWk2
import Derived.Test.YtnpghnnlcakbfaaWk4
import Derived.Test.YtnpghnnlcakbfaaWk8
import Derived.Test.YtnpghnnlcakbfaaWk11
import Derived.Test.YtnpghnnlcakbfaaWk12
import Derived.Test.YtnpghnnlcakbfaaWk16
namespace Go.Proofs.Ytnpghnnlcakbfaa
open Go Go.RowKit Dp

set_option maxRecDepth 100000

set_option maxHeartbeats 16000000 in
theorem dynposlaw15_BoardParts_ok {a0 : (List Int)} {r : Bool} (hF : dynposlaw15_BoardParts a0 = some r) {w0 : World} {p0 : Value} {S0 : Nat → Prop} (g0 : Rv S0 w0 p0 a0) :
    Calls Try.prog 7 #[p0] w0 (Ret fun v w' => ∃ (oc : Cls), En w0 (entM w0 [] [S0]) oc w' ∧ v = .bool r) := by
 obtain ⟨e0, he0⟩ : ∃ e0, e0 = entM w0 [] [S0] := ⟨_, rfl⟩
 have hE := En.refl w0 e0
 have g0 := g0.argM he0 0 (K := [40]) rfl (nosep rfl) rfl
 rw [dynposlaw15_BoardParts] at hF
 refine enter (l := [p0]) Try.func7 rfl Try.ntmps7 rfl ?_
 refine CW.sub (L' := [(0, p0)]) ⟨rfl, trivial⟩ ?_
 refine CW.sr fun K1 hK1 => ?_
 refine WL.p (.bool false) rfl rfl ?_
 refine WL.nx hK1 ?_
 refine CW.sr fun K2 hK2 => ?_
 refine WL.p p0 rfl rfl ?_
 obtain ⟨y3, q4, hF⟩ := bindE hF
 refine WL.step (OW.call Try.call9 rfl (dynposmake_New_ok q4 (g0.baseM hE rfl))) rfl ?_
 rintro _ w5 ⟨hb9, sb, sv, rfl, hge_, hs_, h10⟩
 obtain ⟨o6, ev7, hn8⟩ := fresh_new (o := e0) 100 hb9
 have hE := hE.evo ev7 rfl rfl
 have hs : SrcC o6 100 w5 sb sv y3 y3 := ⟨hs_, hn8 sb hge_⟩
 have h10 : Rv (In o6 [40]) w5 sv y3 := h10.old ev7
 refine WL.p (.pointer (some ⟨sb, 0, none⟩)) rfl rfl ?_
 refine WL.nx hK2 ?_
 refine CW.sr fun K11 hK11 => ?_
 refine WL.p (.pointer (some ⟨sb, 0, none⟩)) rfl rfl ?_
 have hm12 : MbOk o6 w5 0 [sb] [100] := ⟨.inl ⟨hs.1.lt, hs.2⟩, trivial⟩
 obtain ⟨⟨y13, st14⟩, q15, hF⟩ := bindE hF
 dsimp only at hF
 refine WL.step (OW.call Try.call17 rfl (Src_Board_ok q15 hs.1 h10 (hm12.sep rfl) (hm12.nodup rfl))) rfl ?_
 rintro _ w16 ⟨o20, u22, u24, u26, hn_, rfl, h21, h23, h25, hs⟩
 obtain ⟨o17, ev18, hA19⟩ := adopt (o := o6) (ks := [100]) (Ks := [[40]]) 101 ([(101, 102), (102, 103), (103, 104)]) [100, 101, 102, 103, 104] hn_ hm12 rfl rfl rfl rfl
 have h21 := h21.ad (c' := 102) (K' := []) hA19 rfl rfl
 have h23 := h23.ad (c' := 103) (K' := []) hA19 rfl rfl
 have h25 := h25.ad (c' := 104) (K' := [101]) hA19 rfl rfl
 have hs := hs.ad (c' := 100) hA19 rfl
 have hE := hE.evo ev18 rfl rfl
 have h10 := h10.evo ev18 rfl
 refine WL.step (OW.allocK (o := o17) Board 105 [.int .i64 0, .slice none 0 0, .slice none 0 0, .slice none 0 0, .int .i64 0, .int .i64 0] ty39 rfl) rfl ?_
 rintro _ w29 ⟨pa27, o28, rfl, ev30, hb31⟩
 have hE := hE.evo ev30 rfl rfl
 have h10 := h10.evo ev30 rfl
 have h21 := h21.evo ev30 rfl
 have h23 := h23.evo ev30 rfl
 have h25 := h25.evo ev30 rfl
 have hs := hs.evo ev30 rfl
 have h32 := Ow.nil (α := Breaker) 48 o28 106 [] w29
 have h33 := Ow.nil (α := Source) 83 o28 107 [] w29
 have h34 := Ow.nil (α := Consumer) 85 o28 108 [] w29
 refine WL.step0 (OW.storeK0 Board [.int .i64 y13.Buses, u22, u24, u26, .int .i64 y13.Phase, .int .i64 y13.Frequency] [.int .i64 y13.Buses, u22, u24, u26, .int .i64 y13.Phase, .int .i64 y13.Frequency] ty39 rfl rfl hb31 rfl ⟨rfl, (h21.one), (h23.one), (h25.one), rfl, rfl, trivial⟩ rfl rfl rfl) ?_
 rintro _ w35 ⟨ev36, hb31⟩
 have hE := hE.evo ev36 rfl rfl
 have h10 := h10.evo ev36 rfl
 have h21 := h21.evo ev36 rfl
 have h23 := h23.evo ev36 rfl
 have h25 := h25.evo ev36 rfl
 have hs := hs.evo ev36 rfl
 refine WL.nx hK11 ?_
 refine CW.sr fun K37 hK37 => ?_
 refine WL.p (.pointer (some ⟨sb, 0, none⟩)) rfl rfl ?_
 refine WL.stepE (OW.loadK0 Board (.agg #[.int .i64 y13.Buses, u22, u24, u26, .int .i64 y13.Phase, .int .i64 y13.Frequency]) ty39 rfl hb31 rfl rfl) rfl ?_
 have hm38 : MbOk o28 w35 0 [sb] [100] := ⟨.inl ⟨hs.1.lt, hs.2⟩, trivial⟩
 obtain ⟨⟨y39, st40⟩, q41, hF⟩ := bindE hF
 dsimp only at hF
 refine WL.step (OW.call Try.call18 rfl (Src_Power_ok q41 hs.1 h10 (hm38.sep rfl) (mk39 (x := y13) (h21.rv.sub (K' := [101, 102, 103, 104]) rfl) (h23.rv.sub (K' := [101, 102, 103, 104]) rfl) (h25.rv.sub (K' := [101, 102, 103, 104]) rfl)) (hm38.sep rfl) (hm38.nodup rfl))) rfl ?_
 rintro _ w42 ⟨o46, u48, u50, u52, u54, hn_, rfl, h47, h49, h51, h53, hs⟩
 obtain ⟨o43, ev44, hA45⟩ := adopt (o := o28) (ks := [100]) (Ks := [[40], [101, 102, 103, 104]]) 109 ([(100, 110), (101, 111), (102, 112), (103, 113)]) [100, 109, 110, 111, 112, 113] hn_ hm38 rfl rfl rfl rfl
 have h47 := h47.ad (c' := 110) (K' := []) hA45 rfl rfl
 have h49 := h49.ad (c' := 111) (K' := []) hA45 rfl rfl
 have h51 := h51.ad (c' := 112) (K' := []) hA45 rfl rfl
 have h53 := h53.ad (c' := 113) (K' := []) hA45 rfl rfl
 have hs := hs.ad (c' := 100) hA45 rfl
 have hE := hE.evo ev44 rfl rfl
 have h10 := h10.evo ev44 rfl
 have h21 := h21.evo ev44 rfl
 have h23 := h23.evo ev44 rfl
 have h25 := h25.evo ev44 rfl
 have hb31 := hb31.evo ev44 rfl
 refine WL.step (OW.allocK (o := o43) Power 114 [.slice none 0 0, .slice none 0 0, .slice none 0 0, .slice none 0 0] ty45 rfl) rfl ?_
 rintro _ w57 ⟨pa55, o56, rfl, ev58, hb59⟩
 have hE := hE.evo ev58 rfl rfl
 have h10 := h10.evo ev58 rfl
 have h21 := h21.evo ev58 rfl
 have h23 := h23.evo ev58 rfl
 have h25 := h25.evo ev58 rfl
 have h47 := h47.evo ev58 rfl
 have h49 := h49.evo ev58 rfl
 have h51 := h51.evo ev58 rfl
 have h53 := h53.evo ev58 rfl
 have hb31 := hb31.evo ev58 rfl
 have hs := hs.evo ev58 rfl
 have h60 := Ow.nil (α := Bool) 4 o56 115 [] w57
 have h61 := Ow.nil (α := Running) 64 o56 116 [] w57
 have h62 := Ow.nil (α := Int) 3 o56 117 [] w57
 have h63 := Ow.nil (α := Part) 66 o56 118 [] w57
 refine WL.step0 (OW.storeK0 Power [u48, u50, u52, u54] [u48, u50, u52, u54] ty45 rfl rfl hb59 rfl ⟨(h47.one), (h49.one), (h51.one), (h53.one), trivial⟩ rfl rfl rfl) ?_
 rintro _ w64 ⟨ev65, hb59⟩
 have hE := hE.evo ev65 rfl rfl
 have h10 := h10.evo ev65 rfl
 have h21 := h21.evo ev65 rfl
 have h23 := h23.evo ev65 rfl
 have h25 := h25.evo ev65 rfl
 have h47 := h47.evo ev65 rfl
 have h49 := h49.evo ev65 rfl
 have h51 := h51.evo ev65 rfl
 have h53 := h53.evo ev65 rfl
 have hb31 := hb31.evo ev65 rfl
 have hs := hs.evo ev65 rfl
 refine WL.nx hK37 ?_
 refine CW.seq fun K66 hK66 => ?_
 refine CW.sr fun K67 hK67 => ?_
 refine WL.stepE (OW.fldAddr (FldOk.at f39_1) rfl) rfl ?_
 refine WL.stepE (OW.loadK (off := 1) (List Breaker) (u22) ty35 rfl hb31 rfl rfl) rfl ?_
 refine WL.stepE (OW.len Try.underlying35 rfl h21.rv) rfl ?_
 refine WL.p (.int .i64 0) rfl rfl ?_
 refine WL.nx hK67 ?_
 refine CW.block ?_
 obtain ⟨r70, hl69, hF⟩ := bindE hF
 have hJ73 : ∀ (w71 : World) (o72 : Cls), .inl () = r70 → En w0 e0 o72 w71 → Rv (In o72 [40]) w71 sv y3 → Ow 48 o72 102 [] w71 u22 y13.Breakers → Ow 83 o72 103 [] w71 u24 y13.Sources → Ow 85 o72 104 [101] w71 u26 y13.Consumers → Ow 4 o72 110 [] w71 u48 y39.Closed → Ow 64 o72 111 [] w71 u50 y39.Sources → Ow 3 o72 112 [] w71 u52 y39.Limits → Ow 66 o72 113 [] w71 u54 y39.Broken → Bk o72 105 w71 pa27 [.int .i64 y13.Buses, u22, u24, u26, .int .i64 y13.Phase, .int .i64 y13.Frequency] → Bk o72 114 w71 pa55 [u48, u50, u52, u54] → SrcC o72 100 w71 sb sv y3 st40 → NK 143 K66 [(4, .pointer (some pa27)), (5, .pointer (some pa55))] w71 := by
  intro  w71 o72  e_ hE h10 h21 h23 h25 h47 h49 h51 h53 hb31 hb59 hs
  subst e_
  have hF := elimL hF
  try dsimp only at hF
  refine hK66 _ _ ?_
  refine CW.seq fun K74 hK74 => ?_
  refine CW.sr fun K75 hK75 => ?_
  refine WL.stepE (OW.fldAddr (FldOk.at f45_1) rfl) rfl ?_
  refine WL.stepE (OW.loadK (off := 1) (List Running) (u50) ty42 rfl hb59 rfl rfl) rfl ?_
  refine WL.stepE (OW.len Try.underlying42 rfl h49.rv) rfl ?_
  refine WL.p (.int .i64 0) rfl rfl ?_
  refine WL.nx hK75 ?_
  refine CW.block ?_
  obtain ⟨r78, hl77, hF⟩ := bindE hF
  have hJ81 : ∀ (w79 : World) (o80 : Cls), .inl () = r78 → En w0 e0 o80 w79 → Rv (In o80 [40]) w79 sv y3 → Ow 4 o80 110 [] w79 u48 y39.Closed → Ow 64 o80 111 [] w79 u50 y39.Sources → Ow 3 o80 112 [] w79 u52 y39.Limits → Ow 66 o80 113 [] w79 u54 y39.Broken → Bk o80 114 w79 pa55 [u48, u50, u52, u54] → SrcC o80 100 w79 sb sv y3 st40 → NK 143 K74 [(5, .pointer (some pa55))] w79 := by
   intro  w79 o80  e_ hE h10 h47 h49 h51 h53 hb59 hs
   subst e_
   have hF := elimL hF
   try dsimp only at hF
   refine hK74 _ _ ?_
   refine CW.seq fun K82 hK82 => ?_
   refine CW.sr fun K83 hK83 => ?_
   refine WL.p (.int .i64 0) rfl rfl ?_
   refine WL.nx hK83 ?_
   refine CW.block ?_
   obtain ⟨r86, hl85, hF⟩ := bindE hF
   have hJ89 : ∀ (w87 : World) (o88 : Cls), .inl () = r86 → En w0 e0 o88 w87 → Rv (In o88 [40]) w87 sv y3 → SrcC o88 100 w87 sb sv y3 st40 → NK 143 K82 [] w87 := by
    intro  w87 o88  e_ hE h10 hs
    subst e_
    have hF := elimL hF
    try dsimp only at hF
    refine hK82 _ _ ?_
    refine CW.sr fun K90 hK90 => ?_
    obtain ⟨y91, q92, hF⟩ := bindE hF
    refine WL.step (OW.call Try.call20 rfl (dynposlaw15_sane_ok q92)) rfl ?_
    rintro _ w93 ⟨o97, hn_, rfl⟩
    obtain ⟨o94, ev95, hA96⟩ := adopt (o := o88) (ks := []) (Ks := []) 132 ([]) [132] hn_ MbOk.nil rfl rfl rfl rfl
    have hE := hE.evo ev95 rfl rfl
    have h10 := h10.evo ev95 rfl
    have hs := hs.evo ev95 rfl
    refine WL.p (.bool y91) rfl rfl ?_
    refine WL.nx hK90 ?_
    obtain rfl := Option.some.inj hF
    exact CW.rets (vs := [.bool y91]) Try.results7 ⟨rfl, trivial⟩ ⟨_, rfl, _, (hE.rn he0 100 [] rfl rfl), rfl⟩ (fun _ _ h => h)
   refine CW.sub (L' := [(5, .pointer (some pa55)), (13, .int .i64 0)]) ⟨rfl, rfl, trivial⟩ ?_
   refine CW.loop (dynposlaw15_BoardParts_L3 y39) (fun s_ L_ w98 => ∃ (o99 : Cls) (x84 : Int), x84 = s_ ∧ L_ = [(5, .pointer (some pa55)), (13, .int .i64 x84)] ∧ En w0 e0 o99 w98 ∧ Rv (In o99 [40]) w98 sv y3 ∧ Ow 4 o99 110 [] w98 u48 y39.Closed ∧ Ow 64 o99 111 [] w98 u50 y39.Sources ∧ Ow 3 o99 112 [] w98 u52 y39.Limits ∧ Ow 66 o99 113 [] w98 u54 y39.Broken ∧ Bk o99 114 w98 pa55 [u48, u50, u52, u54] ∧ SrcC o99 100 w98 sb sv y3 st40) hl85 ?_ ?_
   ·exact ⟨o80, 0, rfl, rfl, hE, h10, h47, h49, h51, h53, hb59, hs⟩
   intro K100 s_ L_ w98 hi_ x101 hx102 hr103 hk104
   obtain ⟨o99, x84, rfl, rfl, hE, h10, h47, h49, h51, h53, hb59, hs⟩ := hi_
   rw [dynposlaw15_BoardParts_L3] at hx102
   refine CW.seq fun K105 hK105 => ?_
   refine CW.sr fun K106 hK106 => ?_
   refine WL.p (.int .i64 x84) rfl rfl ?_
   refine WL.p (.bool ((decide (x84 < 6)))) rfl rfl ?_
   refine WL.nx hK106 ?_
   refine CW.cond (b := (decide (x84 < 6))) rfl (fun hc107 => ?_) (fun hc107 => ?_)
   ·have hx102 := iteT hc107 hx102
    refine CW.skip ?_
    refine hK105 _ _ ?_
    refine CW.seq fun K108 hK108 => ?_
    refine CW.block ?_
    refine CW.sr fun K109 hK109 => ?_
    refine WL.p (.int .i64 0) rfl rfl ?_
    refine WL.nx hK109 ?_
    refine CW.block ?_
    obtain ⟨r112, hl111, hx102⟩ := bindE hx102
    have hJ115 : ∀ (w113 : World) (o114 : Cls), .inl () = r112 → En w0 e0 o114 w113 → Rv (In o114 [40]) w113 sv y3 → Ow 4 o114 110 [] w113 u48 y39.Closed → Ow 64 o114 111 [] w113 u50 y39.Sources → Ow 3 o114 112 [] w113 u52 y39.Limits → Ow 66 o114 113 [] w113 u54 y39.Broken → Bk o114 114 w113 pa55 [u48, u50, u52, u54] → SrcC o114 100 w113 sb sv y3 st40 → NK 143 K108 [(5, .pointer (some pa55)), (13, .int .i64 x84)] w113 := by
     intro  w113 o114  e_ hE h10 h47 h49 h51 h53 hb59 hs
     subst e_
     have hx102 := elimL hx102
     try dsimp only at hx102
     refine hK108 _ _ ?_
     refine CW.region ?_
     refine WL.p (.int .i64 x84) rfl rfl ?_
     refine WL.p (.int .i64 ((W (x84 + 1)))) rfl rfl ?_
     refine WL.p (.int .i64 ((W (x84 + 1)))) rfl rfl ?_
     refine WL.nil ?_
     exact NK.sb (hk104 _ _ _ (Option.some.inj hx102).symm ⟨o114, (W (x84 + 1)), rfl, rfl, hE, h10, h47, h49, h51, h53, hb59, hs⟩) ⟨rfl, rfl, trivial⟩
    refine CW.sub (L' := [(5, .pointer (some pa55)), (13, .int .i64 x84), (14, .int .i64 0)]) ⟨rfl, rfl, rfl, trivial⟩ ?_
    refine CW.loop (dynposlaw15_BoardParts_L4 y39 x84) (fun s_ L_ w116 => ∃ (o117 : Cls) (x110 : Int), x110 = s_ ∧ L_ = [(5, .pointer (some pa55)), (13, .int .i64 x84), (14, .int .i64 x110)] ∧ En w0 e0 o117 w116 ∧ Rv (In o117 [40]) w116 sv y3 ∧ Ow 4 o117 110 [] w116 u48 y39.Closed ∧ Ow 64 o117 111 [] w116 u50 y39.Sources ∧ Ow 3 o117 112 [] w116 u52 y39.Limits ∧ Ow 66 o117 113 [] w116 u54 y39.Broken ∧ Bk o117 114 w116 pa55 [u48, u50, u52, u54] ∧ SrcC o117 100 w116 sb sv y3 st40) hl111 ?_ ?_
    ·exact ⟨o99, 0, rfl, rfl, hE, h10, h47, h49, h51, h53, hb59, hs⟩
    intro K118 s_ L_ w116 hi_ x119 hx120 hr121 hk122
    obtain ⟨o117, x110, rfl, rfl, hE, h10, h47, h49, h51, h53, hb59, hs⟩ := hi_
    rw [dynposlaw15_BoardParts_L4] at hx120
    refine CW.seq fun K123 hK123 => ?_
    refine CW.sr fun K124 hK124 => ?_
    refine WL.p (.int .i64 x110) rfl rfl ?_
    refine WL.p (.bool ((decide (x110 < 6)))) rfl rfl ?_
    refine WL.nx hK124 ?_
    refine CW.cond (b := (decide (x110 < 6))) rfl (fun hc125 => ?_) (fun hc125 => ?_)
    ·have hx120 := iteT hc125 hx120
     refine CW.skip ?_
     refine hK123 _ _ ?_
     refine CW.seq fun K126 hK126 => ?_
     refine CW.block ?_
     refine CW.sr fun K127 hK127 => ?_
     refine WL.p (.bool false) rfl rfl ?_
     refine WL.nx hK127 ?_
     refine CW.seq fun K128 hK128 => ?_
     refine CW.sr fun K129 hK129 => ?_
     refine WL.stepE (OW.fldAddr (FldOk.at f45_3) rfl) rfl ?_
     refine WL.stepE (OW.loadK (off := 3) (List Part) (u54) ty43 rfl hb59 rfl rfl) rfl ?_
     refine WL.stepE (OW.len Try.underlying43 rfl h53.rv) rfl ?_
     refine WL.p (.int .i64 0) rfl rfl ?_
     refine WL.nx hK129 ?_
     refine CW.block ?_
     obtain ⟨r134, hl133, hx120⟩ := bindE hx120
     have hJ137 : ∀ (x132 : Bool) (w135 : World) (o136 : Cls), x132 = r134 → En w0 e0 o136 w135 → Rv (In o136 [40]) w135 sv y3 → Ow 4 o136 110 [] w135 u48 y39.Closed → Ow 64 o136 111 [] w135 u50 y39.Sources → Ow 3 o136 112 [] w135 u52 y39.Limits → Ow 66 o136 113 [] w135 u54 y39.Broken → Bk o136 114 w135 pa55 [u48, u50, u52, u54] → SrcC o136 100 w135 sb sv y3 st40 → NK 143 K128 [(5, .pointer (some pa55)), (13, .int .i64 x84), (14, .int .i64 x110), (15, .bool x132)] w135 := by
      intro x132 w135 o136  e_ hE h10 h47 h49 h51 h53 hb59 hs
      subst e_
      try dsimp only at hx120
      refine hK128 _ _ ?_
      refine CW.sr fun K138 hK138 => ?_
      refine WL.stepE (OW.loadK0 Power (.agg #[u48, u50, u52, u54]) ty45 rfl hb59 rfl rfl) rfl ?_
      refine WL.p (.int .i64 x84) rfl rfl ?_
      refine WL.p (.int .i64 x110) rfl rfl ?_
      obtain ⟨y139, q140, hx120⟩ := bindE hx120
      refine WL.step (OW.call Try.call29 rfl (board_Broken_ok q140 (mk45 (x := y39) (h47.rv.sub (K' := [110, 111, 112, 113]) rfl) (h49.rv.sub (K' := [110, 111, 112, 113]) rfl) (h51.rv.sub (K' := [110, 111, 112, 113]) rfl) (h53.rv.sub (K' := [110, 111, 112, 113]) rfl)))) rfl ?_
      rintro _ w141 ⟨o145, hn_, rfl⟩
      obtain ⟨o142, ev143, hA144⟩ := adopt (o := o136) (ks := []) (Ks := [[110, 111, 112, 113]]) 131 ([]) [131] hn_ MbOk.nil rfl rfl rfl rfl
      have hE := hE.evo ev143 rfl rfl
      have h10 := h10.evo ev143 rfl
      have h47 := h47.evo ev143 rfl
      have h49 := h49.evo ev143 rfl
      have h51 := h51.evo ev143 rfl
      have h53 := h53.evo ev143 rfl
      have hb59 := hb59.evo ev143 rfl
      have hs := hs.evo ev143 rfl
      refine WL.p (.bool x132) rfl rfl ?_
      refine WL.stepE (OW.neq (x := y139) (y := x132) (S := fun _ => True) (S' := fun _ => True) eq4 rfl rfl (rv_bool.2 rfl) (rv_bool.2 rfl)) rfl ?_
      refine WL.nx hK138 ?_
      refine CW.cond (b := (!decide (y139 = x132))) rfl (fun hc146 => ?_) (fun hc146 => ?_)
      ·have hx120 := iteT hc146 hx120
       refine CW.sr fun K147 hK147 => ?_
       refine WL.p (.bool false) rfl rfl ?_
       refine WL.nx hK147 ?_
       have e_ := hr121 _ (Option.some.inj hx120).symm
       subst e_
       have hx102 := elimR hx102
       have e_ := hr103 _ (Option.some.inj hx102).symm
       subst e_
       have hF := elimR hF
       obtain rfl := Option.some.inj hF
       exact CW.rets (vs := [.bool false]) Try.results7 ⟨rfl, trivial⟩ ⟨_, rfl, _, (hE.rn he0 100 [] rfl rfl), rfl⟩ (fun _ _ h => h)
      ·have hx120 := iteF hc146 hx120
       refine CW.skip ?_
       refine hK126 _ _ ?_
       refine CW.region ?_
       refine WL.p (.int .i64 x110) rfl rfl ?_
       refine WL.p (.int .i64 ((W (x110 + 1)))) rfl rfl ?_
       refine WL.p (.int .i64 ((W (x110 + 1)))) rfl rfl ?_
       refine WL.nil ?_
       exact NK.sb (hk122 _ _ _ (Option.some.inj hx120).symm ⟨o142, (W (x110 + 1)), rfl, rfl, hE, h10, h47, h49, h51, h53, hb59, hs⟩) ⟨rfl, rfl, rfl, trivial⟩
     refine CW.sub (L' := [(5, .pointer (some pa55)), (13, .int .i64 x84), (14, .int .i64 x110), (15, .bool false), (121, u54), (122, .int .i64 (len y39.Broken)), (123, .int .i64 0)]) ⟨rfl, rfl, rfl, rfl, rfl, rfl, rfl, trivial⟩ ?_
     refine CW.loop (dynposlaw15_BoardParts_L5 y39 x84 x110) (fun s_ L_ w148 => ∃ (o149 : Cls) (x130 : Bool) (x131 : Int), (x130, x131) = s_ ∧ L_ = [(5, .pointer (some pa55)), (13, .int .i64 x84), (14, .int .i64 x110), (15, .bool x130), (121, u54), (122, .int .i64 (len y39.Broken)), (123, .int .i64 x131)] ∧ En w0 e0 o149 w148 ∧ Rv (In o149 [40]) w148 sv y3 ∧ Ow 4 o149 110 [] w148 u48 y39.Closed ∧ Ow 64 o149 111 [] w148 u50 y39.Sources ∧ Ow 3 o149 112 [] w148 u52 y39.Limits ∧ Ow 66 o149 113 [] w148 u54 y39.Broken ∧ Bk o149 114 w148 pa55 [u48, u50, u52, u54] ∧ SrcC o149 100 w148 sb sv y3 st40) hl133 ?_ ?_
     ·exact ⟨o117, false, 0, rfl, rfl, hE, h10, h47, h49, h51, h53, hb59, hs⟩
     intro K150 s_ L_ w148 hi_ x151 hx152 hr153 hk154
     obtain ⟨o149, x130, x131, rfl, rfl, hE, h10, h47, h49, h51, h53, hb59, hs⟩ := hi_
     rw [dynposlaw15_BoardParts_L5] at hx152
     refine CW.sr fun K155 hK155 => ?_
     refine WL.p (.bool ((decide (x131 < (len y39.Broken))))) rfl rfl ?_
     refine WL.nx hK155 ?_
     refine CW.seq fun K156 hK156 => ?_
     refine CW.cond (b := (decide (x131 < (len y39.Broken)))) rfl (fun hc157 => ?_) (fun hc157 => ?_)
     ·have hx152 := iteT hc157 hx152
      refine CW.skip ?_
      refine hK156 _ _ ?_
      refine CW.seq fun K158 hK158 => ?_
      refine CW.block ?_
      refine CW.sr fun K159 hK159 => ?_
      obtain ⟨y160, q164, hx152⟩ := bindE hx152
      refine WL.stepP (OW.indexAddrO Try.underlying43 ty66 rfl h53 rfl q164) rfl fun _ ⟨pa161, hv_, hp162, he163⟩ => ?_
      subst hv_
      refine WL.stepP (OW.loadO ty66 rfl hp162) rfl fun v165 h166 => ?_
      obtain rfl := op66 h166
      refine WL.step (OW.allocK (o := o149) Part 130 [.int .i64 0, .int .i64 0] ty66 rfl) rfl ?_
      rintro _ w169 ⟨pa167, o168, rfl, ev170, hb171⟩
      have hE := hE.evo ev170 rfl rfl
      have h10 := h10.evo ev170 rfl
      have h47 := h47.evo ev170 rfl
      have h49 := h49.evo ev170 rfl
      have h51 := h51.evo ev170 rfl
      have h53 := h53.evo ev170 rfl
      have hb59 := hb59.evo ev170 rfl
      have hs := hs.evo ev170 rfl
      refine WL.step0 (OW.storeK0 Part [.int .i64 y160.Kind, .int .i64 y160.Number] [.int .i64 y160.Kind, .int .i64 y160.Number] ty66 rfl rfl hb171 rfl ⟨rfl, rfl, trivial⟩ rfl rfl rfl) ?_
      rintro _ w172 ⟨ev173, hb171⟩
      have hE := hE.evo ev173 rfl rfl
      have h10 := h10.evo ev173 rfl
      have h47 := h47.evo ev173 rfl
      have h49 := h49.evo ev173 rfl
      have h51 := h51.evo ev173 rfl
      have h53 := h53.evo ev173 rfl
      have hb59 := hb59.evo ev173 rfl
      have hs := hs.evo ev173 rfl
      refine WL.nx hK159 ?_
      refine CW.region ?_
      refine WL.p (.bool x130) rfl rfl ?_
      refine WL.p (.bool x130) rfl rfl ?_
      obtain ⟨x174, q175, hx152⟩ := bindE hx152
      have hJ178 : ∀ (w176 : World) (o177 : Cls), En w0 e0 o177 w176 → Rv (In o177 [40]) w176 sv y3 → Ow 4 o177 110 [] w176 u48 y39.Closed → Ow 64 o177 111 [] w176 u50 y39.Sources → Ow 3 o177 112 [] w176 u52 y39.Limits → Ow 66 o177 113 [] w176 u54 y39.Broken → Bk o177 114 w176 pa55 [u48, u50, u52, u54] → SrcC o177 100 w176 sb sv y3 st40 → NK 143 K158 [(5, .pointer (some pa55)), (13, .int .i64 x84), (14, .int .i64 x110), (15, .bool x174), (121, u54), (122, .int .i64 (len y39.Broken)), (123, .int .i64 x131)] w176 := by
       intro w176 o177  hE h10 h47 h49 h51 h53 hb59 hs
       refine hK158 _ _ ?_
       refine CW.region ?_
       refine WL.p (.int .i64 ((W (x131 + 1)))) rfl rfl ?_
       refine WL.p (.int .i64 ((W (x131 + 1)))) rfl rfl ?_
       refine WL.nil ?_
       exact NK.sb (hk154 _ _ _ (Option.some.inj hx152).symm ⟨o177, x174, (W (x131 + 1)), rfl, rfl, hE, h10, h47, h49, h51, h53, hb59, hs⟩) ⟨rfl, rfl, rfl, rfl, rfl, rfl, rfl, trivial⟩
      rcases Bool.eq_false_or_eq_true x130 with hc179 | hc179
      ·have q175 := iteT hc179 q175
       refine WL.skipG rfl rfl rfl (by rw [hc179]; rfl) rfl ?_
       refine WL.skipG rfl rfl rfl (by rw [hc179]; rfl) rfl ?_
       refine WL.skipG rfl rfl rfl (by rw [hc179]; rfl) rfl ?_
       refine WL.skipG rfl rfl rfl (by rw [hc179]; rfl) rfl ?_
       refine WL.skipG rfl rfl rfl (by rw [hc179]; rfl) rfl ?_
       refine WL.stepE (OW.pickT rfl hc179 rfl) rfl ?_
       refine WL.p (.bool true) rfl rfl ?_
       refine WL.nil ?_
       have e180 := Option.some.inj q175
       subst e180
       exact NK.sb (hJ178 w172 o168 hE h10 h47 h49 h51 h53 hb59 hs) ⟨rfl, rfl, rfl, rfl, rfl, rfl, rfl, trivial⟩
      ·have q175 := iteF hc179 q175
       refine WL.stepGE rfl rfl rfl hc179 (OW.loadK0 Part (.agg #[.int .i64 y160.Kind, .int .i64 y160.Number]) ty66 rfl hb171 rfl rfl) rfl ?_
       refine WL.stepGE rfl rfl rfl hc179 (OW.pv (v := (.int .i64 x84)) rfl) rfl ?_
       refine WL.stepGE rfl rfl rfl hc179 (OW.pv (v := (.int .i64 x110)) rfl) rfl ?_
       refine WL.stepGE rfl rfl rfl hc179 (OW.buildK Part [(0, [.int .i64 x84]), (1, [.int .i64 x110])] [.int .i64 x84, .int .i64 x110] st66 ty66 rfl ⟨rfl, rfl, rfl, rfl, trivial⟩ rfl) rfl ?_
       refine WL.stepGE rfl rfl rfl hc179 (OW.eql (x := y160) (y := (⟨x84, x110⟩ : Part)) (S := fun _ => True) (S' := fun _ => True) eq66 rfl rfl (mk66 (x := y160)) (mk66 (x := (⟨x84, x110⟩ : Part)))) rfl ?_
       refine WL.stepE (OW.pickF rfl hc179 rfl) rfl ?_
       refine WL.p (.bool ((decide (y160 = (⟨x84, x110⟩ : Part))))) rfl rfl ?_
       refine WL.nil ?_
       have e181 := Option.some.inj q175
       subst e181
       exact NK.sb (hJ178 w172 o168 hE h10 h47 h49 h51 h53 hb59 hs) ⟨rfl, rfl, rfl, rfl, rfl, rfl, rfl, trivial⟩
     ·have hx152 := iteF hc157 hx152
      refine CW.exit ?_
      exact NK.sb (hJ137 x130 w148 o149 (hr153 _ (Option.some.inj hx152).symm) hE h10 h47 h49 h51 h53 hb59 hs) ⟨rfl, rfl, rfl, rfl, trivial⟩
    ·have hx120 := iteF hc125 hx120
     refine CW.exit ?_
     exact NK.sb (hJ115 w116 o117 (hr121 _ (Option.some.inj hx120).symm) hE h10 h47 h49 h51 h53 hb59 hs) ⟨rfl, rfl, trivial⟩
   ·have hx102 := iteF hc107 hx102
    refine CW.exit ?_
    exact NK.sb (hJ89 w98 o99 (hr103 _ (Option.some.inj hx102).symm) hE h10 hs) trivial
  refine CW.sub (L' := [(4, .pointer (some pa27)), (5, .pointer (some pa55)), (60, u50), (61, .int .i64 (len y39.Sources)), (62, .int .i64 0)]) ⟨rfl, rfl, rfl, rfl, rfl, trivial⟩ ?_
  refine CW.loop (dynposlaw15_BoardParts_L2 y13 y39) (fun s_ L_ w182 => ∃ (o183 : Cls) (x76 : Int), x76 = s_ ∧ L_ = [(4, .pointer (some pa27)), (5, .pointer (some pa55)), (60, u50), (61, .int .i64 (len y39.Sources)), (62, .int .i64 x76)] ∧ En w0 e0 o183 w182 ∧ Rv (In o183 [40]) w182 sv y3 ∧ Ow 48 o183 102 [] w182 u22 y13.Breakers ∧ Ow 83 o183 103 [] w182 u24 y13.Sources ∧ Ow 85 o183 104 [101] w182 u26 y13.Consumers ∧ Ow 4 o183 110 [] w182 u48 y39.Closed ∧ Ow 64 o183 111 [] w182 u50 y39.Sources ∧ Ow 3 o183 112 [] w182 u52 y39.Limits ∧ Ow 66 o183 113 [] w182 u54 y39.Broken ∧ Bk o183 105 w182 pa27 [.int .i64 y13.Buses, u22, u24, u26, .int .i64 y13.Phase, .int .i64 y13.Frequency] ∧ Bk o183 114 w182 pa55 [u48, u50, u52, u54] ∧ SrcC o183 100 w182 sb sv y3 st40) hl77 ?_ ?_
  ·exact ⟨o72, 0, rfl, rfl, hE, h10, h21, h23, h25, h47, h49, h51, h53, hb31, hb59, hs⟩
  intro K184 s_ L_ w182 hi_ x185 hx186 hr187 hk188
  obtain ⟨o183, x76, rfl, rfl, hE, h10, h21, h23, h25, h47, h49, h51, h53, hb31, hb59, hs⟩ := hi_
  rw [dynposlaw15_BoardParts_L2] at hx186
  refine CW.sr fun K189 hK189 => ?_
  refine WL.p (.bool ((decide (x76 < (len y39.Sources))))) rfl rfl ?_
  refine WL.nx hK189 ?_
  refine CW.seq fun K190 hK190 => ?_
  refine CW.cond (b := (decide (x76 < (len y39.Sources)))) rfl (fun hc191 => ?_) (fun hc191 => ?_)
  ·have hx186 := iteT hc191 hx186
   refine CW.skip ?_
   refine hK190 _ _ ?_
   refine CW.seq fun K192 hK192 => ?_
   refine CW.block ?_
   refine CW.sr fun K193 hK193 => ?_
   refine WL.p (.int .i64 x76) rfl rfl ?_
   obtain ⟨y194, q198, hx186⟩ := bindE hx186
   refine WL.stepP (OW.indexAddrO Try.underlying42 ty64 rfl h49 rfl q198) rfl fun _ ⟨pa195, hv_, hp196, he197⟩ => ?_
   subst hv_
   refine WL.stepP (OW.loadO ty64 rfl hp196) rfl fun v199 h200 => ?_
   obtain rfl := op64 h200
   refine WL.step (OW.allocK (o := o183) Running 126 [.int .i64 0, .int .i64 0, .int .i64 0, .int .i64 0] ty64 rfl) rfl ?_
   rintro _ w203 ⟨pa201, o202, rfl, ev204, hb205⟩
   have hE := hE.evo ev204 rfl rfl
   have h10 := h10.evo ev204 rfl
   have h21 := h21.evo ev204 rfl
   have h23 := h23.evo ev204 rfl
   have h25 := h25.evo ev204 rfl
   have h47 := h47.evo ev204 rfl
   have h49 := h49.evo ev204 rfl
   have h51 := h51.evo ev204 rfl
   have h53 := h53.evo ev204 rfl
   have hb31 := hb31.evo ev204 rfl
   have hb59 := hb59.evo ev204 rfl
   have hs := hs.evo ev204 rfl
   refine WL.p (.int .i64 x76) rfl rfl ?_
   refine WL.step0 (OW.storeK0 Running [.int .i64 y194.State, .int .i64 y194.Since, .int .i64 y194.Frequency, .int .i64 y194.Phase] [.int .i64 y194.State, .int .i64 y194.Since, .int .i64 y194.Frequency, .int .i64 y194.Phase] ty64 rfl rfl hb205 rfl ⟨rfl, rfl, rfl, rfl, trivial⟩ rfl rfl rfl) ?_
   rintro _ w206 ⟨ev207, hb205⟩
   have hE := hE.evo ev207 rfl rfl
   have h10 := h10.evo ev207 rfl
   have h21 := h21.evo ev207 rfl
   have h23 := h23.evo ev207 rfl
   have h25 := h25.evo ev207 rfl
   have h47 := h47.evo ev207 rfl
   have h49 := h49.evo ev207 rfl
   have h51 := h51.evo ev207 rfl
   have h53 := h53.evo ev207 rfl
   have hb31 := hb31.evo ev207 rfl
   have hb59 := hb59.evo ev207 rfl
   have hs := hs.evo ev207 rfl
   refine WL.nx hK193 ?_
   refine CW.sr fun K208 hK208 => ?_
   refine WL.stepE (OW.loadK0 Board (.agg #[.int .i64 y13.Buses, u22, u24, u26, .int .i64 y13.Phase, .int .i64 y13.Frequency]) ty39 rfl hb31 rfl rfl) rfl ?_
   refine WL.stepE (OW.loadK0 Power (.agg #[u48, u50, u52, u54]) ty45 rfl hb59 rfl rfl) rfl ?_
   refine WL.p (.int .i64 x76) rfl rfl ?_
   obtain ⟨⟨y209, y210⟩, q211, hx186⟩ := bindE hx186
   dsimp only at hx186
   refine WL.step (OW.call Try.call25 rfl (board_Connected_ok q211 (mk39 (x := y13) (h21.rv.sub (K' := [101, 102, 103, 104]) rfl) (h23.rv.sub (K' := [101, 102, 103, 104]) rfl) (h25.rv.sub (K' := [101, 102, 103, 104]) rfl)) (mk45 (x := y39) (h47.rv.sub (K' := [110, 111, 112, 113]) rfl) (h49.rv.sub (K' := [110, 111, 112, 113]) rfl) (h51.rv.sub (K' := [110, 111, 112, 113]) rfl) (h53.rv.sub (K' := [110, 111, 112, 113]) rfl)))) rfl ?_
   rintro _ w212 ⟨o216, hn_, rfl⟩
   obtain ⟨o213, ev214, hA215⟩ := adopt (o := o202) (ks := []) (Ks := [[101, 102, 103, 104], [110, 111, 112, 113]]) 127 ([]) [127] hn_ MbOk.nil rfl rfl rfl rfl
   have hE := hE.evo ev214 rfl rfl
   have h10 := h10.evo ev214 rfl
   have h21 := h21.evo ev214 rfl
   have h23 := h23.evo ev214 rfl
   have h25 := h25.evo ev214 rfl
   have h47 := h47.evo ev214 rfl
   have h49 := h49.evo ev214 rfl
   have h51 := h51.evo ev214 rfl
   have h53 := h53.evo ev214 rfl
   have hb205 := hb205.evo ev214 rfl
   have hb31 := hb31.evo ev214 rfl
   have hb59 := hb59.evo ev214 rfl
   have hs := hs.evo ev214 rfl
   refine WL.p (.tuple #[.int .i64 y209, .bool y210]) rfl rfl ?_
   refine WL.p (.int .i64 y209) rfl rfl ?_
   refine WL.p (.bool y210) rfl rfl ?_
   refine WL.p (.int .i64 y209) rfl rfl ?_
   refine WL.p (.bool y210) rfl rfl ?_
   refine WL.nx hK208 ?_
   refine CW.sr fun K217 hK217 => ?_
   refine WL.stepE (OW.loadK0 Board (.agg #[.int .i64 y13.Buses, u22, u24, u26, .int .i64 y13.Phase, .int .i64 y13.Frequency]) ty39 rfl hb31 rfl rfl) rfl ?_
   refine WL.p (.int .i64 x76) rfl rfl ?_
   obtain ⟨y218, q219, hx186⟩ := bindE hx186
   refine WL.step (OW.call Try.call28 rfl (board_Find_ok q219 (mk39 (x := y13) (h21.rv.sub (K' := [101, 102, 103, 104]) rfl) (h23.rv.sub (K' := [101, 102, 103, 104]) rfl) (h25.rv.sub (K' := [101, 102, 103, 104]) rfl)))) rfl ?_
   rintro v226 w220 ⟨o224, hn_, h225⟩
   obtain ⟨o221, ev222, hA223⟩ := adopt (o := o213) (ks := []) (Ks := [[101, 102, 103, 104]]) 128 ([(100, 129)]) [128, 129] hn_ MbOk.nil rfl rfl rfl rfl
   have h225 := h225.ad (c' := 129) (K' := []) hA223 rfl rfl
   have hE := hE.evo ev222 rfl rfl
   have h10 := h10.evo ev222 rfl
   have h21 := h21.evo ev222 rfl
   have h23 := h23.evo ev222 rfl
   have h25 := h25.evo ev222 rfl
   have h47 := h47.evo ev222 rfl
   have h49 := h49.evo ev222 rfl
   have h51 := h51.evo ev222 rfl
   have h53 := h53.evo ev222 rfl
   have hb205 := hb205.evo ev222 rfl
   have hb31 := hb31.evo ev222 rfl
   have hb59 := hb59.evo ev222 rfl
   have hs := hs.evo ev222 rfl
   refine WL.p v226 rfl rfl ?_
   refine WL.nx hK217 ?_
   refine CW.seq fun K227 hK227 => ?_
   obtain ⟨x228, q229, hx186⟩ := bindE hx186
   have hJ232 : ∀ (w230 : World) (o231 : Cls), En w0 e0 o231 w230 → Rv (In o231 [40]) w230 sv y3 → Ow 48 o231 102 [] w230 u22 y13.Breakers → Ow 83 o231 103 [] w230 u24 y13.Sources → Ow 85 o231 104 [101] w230 u26 y13.Consumers → Ow 4 o231 110 [] w230 u48 y39.Closed → Ow 64 o231 111 [] w230 u50 y39.Sources → Ow 3 o231 112 [] w230 u52 y39.Limits → Ow 66 o231 113 [] w230 u54 y39.Broken → Bk o231 105 w230 pa27 [.int .i64 y13.Buses, u22, u24, u26, .int .i64 y13.Phase, .int .i64 y13.Frequency] → Bk o231 114 w230 pa55 [u48, u50, u52, u54] → SrcC o231 100 w230 sb sv y3 st40 → NK 143 K227 [(4, .pointer (some pa27)), (5, .pointer (some pa55)), (60, u50), (61, .int .i64 (len y39.Sources)), (62, .int .i64 x76), (110, .bool x228)] w230 := by
    intro w230 o231  hE h10 h21 h23 h25 h47 h49 h51 h53 hb31 hb59 hs
    refine hK227 _ _ ?_
    refine CW.cond (b := x228) rfl (fun hc233 => ?_) (fun hc233 => ?_)
    ·have hx186 := iteT hc233 hx186
     refine CW.sr fun K234 hK234 => ?_
     refine WL.p (.bool false) rfl rfl ?_
     refine WL.nx hK234 ?_
     have e_ := hr187 _ (Option.some.inj hx186).symm
     subst e_
     have hF := elimR hF
     obtain rfl := Option.some.inj hF
     exact CW.rets (vs := [.bool false]) Try.results7 ⟨rfl, trivial⟩ ⟨_, rfl, _, (hE.rn he0 100 [] rfl rfl), rfl⟩ (fun _ _ h => h)
    ·have hx186 := iteF hc233 hx186
     refine CW.skip ?_
     refine hK192 _ _ ?_
     refine CW.region ?_
     refine WL.p (.int .i64 ((W (x76 + 1)))) rfl rfl ?_
     refine WL.p (.int .i64 ((W (x76 + 1)))) rfl rfl ?_
     refine WL.nil ?_
     exact NK.sb (hk188 _ _ _ (Option.some.inj hx186).symm ⟨o231, (W (x76 + 1)), rfl, rfl, hE, h10, h21, h23, h25, h47, h49, h51, h53, hb31, hb59, hs⟩) ⟨rfl, rfl, rfl, rfl, rfl, trivial⟩
   rcases Bool.eq_false_or_eq_true ((((len y218) != 1))) with hc235 | hc235
   ·have q229 := iteT hc235 q229
    have ev_ := Evo.drew o221 w220
    refine CW.anyS (N := []) hmix [sOw none none [] 3 129 [] (fun _ => v226) y218] [⟨[], [], [], [], fun _ => v226, false⟩, ⟨[], [0], [0], [], fun _ => .int .i64 (len y218), false⟩, ⟨[], [], [0, 1], [], fun _ => .bool ((((len y218) != 1))), false⟩, ⟨[], [], [0, 1, 2], [], fun _ => .bool ((((len y218) != 1))), false⟩, ⟨[], [], [0, 1, 2, 3], [], fun _ => undef, true⟩, ⟨[], [], [0, 1, 2, 3], [], fun _ => undef, true⟩, ⟨[], [], [0, 1, 2, 3, 5], [], fun _ => undef, true⟩, ⟨[], [], [0, 1, 2, 3, 5, 6], [], fun _ => undef, true⟩, ⟨[], [], [0, 1, 2, 3, 5, 6, 7], [], fun _ => undef, true⟩, ⟨[], [], [0, 1, 2, 3, 5, 6, 7, 8], [], fun _ => undef, true⟩, ⟨[], [], [0, 1, 2, 3, 5, 6, 7, 8, 9], [], fun _ => undef, true⟩, ⟨[], [], [0, 1, 2, 3, 5, 6, 7, 8], [], fun _ => undef, true⟩, ⟨[], [], [0, 1, 2, 3, 5, 6, 7, 8, 11], [], fun _ => undef, true⟩, ⟨[], [], [0, 1, 2, 3, 5, 6, 7, 8, 11, 12], [], fun _ => undef, true⟩, ⟨[], [], [0, 1, 2, 3, 5, 6, 7, 8, 9, 10, 11, 12, 13], [], fun _ => undef, true⟩, ⟨[], [], [0, 1, 2, 3, 5, 6, 7, 8, 9, 10, 11, 12, 13, 14], [], fun _ => undef, true⟩, ⟨[], [], [0, 1, 2, 3, 5, 6, 7, 8, 9, 10, 11, 12, 13, 14, 15], [], fun _ => undef, true⟩, ⟨[], [], [0, 1, 2, 3, 4, 5, 6, 7, 8, 9, 10, 11, 12, 13, 14, 15, 16], [], fun _ => undef, true⟩, ⟨[], [], [0, 1, 2, 3, 4, 5, 6, 7, 8, 9, 10, 11, 12, 13, 14, 15, 16, 17], [], fun _ => .bool true, false⟩, ⟨[], [], [0, 1, 2, 3, 4, 5, 6, 7, 8, 9, 10, 11, 12, 13, 14, 15, 16, 17, 18], [], fun _ => .bool true, false⟩, ⟨[], [], [0, 1, 2, 3, 4, 5, 6, 7, 8, 9, 10, 11, 12, 13, 14, 15, 16, 17, 18, 19], [], fun _ => undef, true⟩, ⟨[], [], [0, 1, 2, 3, 4, 5, 6, 7, 8, 9, 10, 11, 12, 13, 14, 15, 16, 17, 18, 19, 20], [], fun _ => undef, true⟩, ⟨[], [], [0, 1, 2, 3, 4, 5, 6, 7, 8, 9, 10, 11, 12, 13, 14, 15, 16, 17, 18, 19, 20, 21], [], fun _ => undef, true⟩, ⟨[], [], [0, 1, 2, 3, 4, 5, 6, 7, 8, 9, 10, 11, 12, 13, 14, 15, 16, 17, 18, 19, 20, 21], [], fun _ => undef, true⟩, ⟨[], [], [0, 1, 2, 3, 4, 5, 6, 7, 8, 9, 10, 11, 12, 13, 14, 15, 16, 17, 18, 19, 20, 21, 23], [], fun _ => undef, true⟩, ⟨[], [], [0, 1, 2, 3, 4, 5, 6, 7, 8, 9, 10, 11, 12, 13, 14, 15, 16, 17, 18, 19, 20, 21], [], fun _ => undef, true⟩, ⟨[], [], [0, 1, 2, 3, 4, 5, 6, 7, 8, 9, 10, 11, 12, 13, 14, 15, 16, 17, 18, 19, 20, 21, 25], [], fun _ => undef, true⟩, ⟨[], [], [0, 1, 2, 3, 4, 5, 6, 7, 8, 9, 10, 11, 12, 13, 14, 15, 16, 17, 18, 19, 20, 21, 25, 26], [], fun _ => undef, true⟩, ⟨[], [], [0, 1, 2, 3, 4, 5, 6, 7, 8, 9, 10, 11, 12, 13, 14, 15, 16, 17, 18, 19, 20, 21, 23, 24, 25, 26, 27], [], fun _ => undef, true⟩, ⟨[], [], [0, 1, 2, 3, 4, 5, 6, 7, 8, 9, 10, 11, 12, 13, 14, 15, 16, 17, 18, 19, 20, 21, 23, 24, 25, 26, 27, 28], [], fun _ => undef, true⟩, ⟨[], [], [0, 1, 2, 3, 4, 5, 6, 7, 8, 9, 10, 11, 12, 13, 14, 15, 16, 17, 18, 19, 20, 21, 23, 24, 25, 26, 27, 28, 29], [], fun _ => undef, true⟩, ⟨[], [], [0, 1, 2, 3, 4, 5, 6, 7, 8, 9, 10, 11, 12, 13, 14, 15, 16, 17, 18, 19, 20, 21, 22, 23, 24, 25, 26, 27, 28, 29, 30], [], fun _ => undef, true⟩, ⟨[], [], [0, 1, 2, 3, 4, 5, 6, 7, 8, 9, 10, 11, 12, 13, 14, 15, 16, 17, 18, 19, 20, 21, 22, 23, 24, 25, 26, 27, 28, 29, 30, 31], [], fun _ => undef, true⟩, ⟨[], [], [0, 1, 2, 3, 4, 5, 6, 7, 8, 9, 10, 11, 12, 13, 14, 15, 16, 17, 18, 19, 20, 21, 22, 23, 24, 25, 26, 27, 28, 29, 30, 31, 32], [], fun _ => .bool true, false⟩] [] hE rfl (by kernel_rfl) (by kernel_rfl) ⟨h225.evo ev_ rfl, trivial⟩ ⟨Ob.pv rfl rfl (fun _ => rfl) rfl (fun _ _ _ => trivial), ?_, Ob.pv rfl rfl (fun _ => rfl) rfl (fun _ _ _ => trivial), Ob.pv rfl rfl (fun _ => rfl) rfl (fun _ _ _ => trivial), ?_, ?_, ?_, ?_, ?_, ?_, ?_, ?_, ?_, ?_, ?_, ?_, ?_, ?_, ?_, Ob.pv rfl rfl (fun _ => rfl) rfl (fun _ _ _ => trivial), ?_, ?_, ?_, ?_, ?_, ?_, ?_, ?_, ?_, ?_, ?_, ?_, ?_, ?_, trivial⟩ ?_
    ·intro vs236 o_ w_ hE h225
     have h225 : Ow 3 o_ 129 [] w_ v226 y218 := h225
     refine OW.imp (OW.fr (L' := [(77, v226)]) ⟨rfl, trivial⟩ (OW.len Try.underlying22 rfl h225.rv)) ?_
     rintro _ _ ⟨rfl, rfl⟩
     exact ⟨_, Evo.refl _ _ _ _, rfl, trivial⟩
    ·intro vs236 o_ w_ hE 
     exact ⟨⟨_, rfl, .inl (congrArg (fun b => some (Value.bool b)) hc235)⟩, rfl, trivial⟩
    ·intro vs236 o_ w_ hE 
     exact ⟨⟨_, rfl, .inl (congrArg (fun b => some (Value.bool b)) hc235)⟩, rfl, trivial⟩
    ·intro vs236 o_ w_ hE 
     exact ⟨⟨_, rfl, .inl (congrArg (fun b => some (Value.bool b)) hc235)⟩, rfl, trivial⟩
    ·intro vs236 o_ w_ hE 
     exact ⟨⟨_, rfl, .inl (congrArg (fun b => some (Value.bool b)) hc235)⟩, rfl, trivial⟩
    ·intro vs236 o_ w_ hE 
     exact ⟨⟨_, rfl, .inl (congrArg (fun b => some (Value.bool b)) hc235)⟩, rfl, trivial⟩
    ·intro vs236 o_ w_ hE 
     exact ⟨⟨_, rfl, .inr rfl⟩, rfl, trivial⟩
    ·intro vs236 o_ w_ hE 
     exact ⟨⟨_, rfl, .inr rfl⟩, rfl, trivial⟩
    ·intro vs236 o_ w_ hE 
     exact ⟨⟨_, rfl, .inr rfl⟩, rfl, trivial⟩
    ·intro vs236 o_ w_ hE 
     exact ⟨⟨_, rfl, .inr rfl⟩, rfl, trivial⟩
    ·intro vs236 o_ w_ hE 
     exact ⟨⟨_, rfl, .inr rfl⟩, rfl, trivial⟩
    ·intro vs236 o_ w_ hE 
     exact ⟨⟨_, rfl, .inr rfl⟩, rfl, trivial⟩
    ·intro vs236 o_ w_ hE 
     exact ⟨⟨_, rfl, .inr rfl⟩, rfl, trivial⟩
    ·intro vs236 o_ w_ hE 
     exact ⟨⟨_, rfl, .inl (congrArg (fun b => some (Value.bool b)) hc235)⟩, rfl, trivial⟩
    ·intro vs236 o_ w_ hE 
     exact ⟨⟨_, rfl, .inl (congrArg (fun b => some (Value.bool b)) hc235)⟩, rfl, trivial⟩
    ·intro vs236 o_ w_ hE 
     refine OW.imp (OW.fr (L' := [(80, .bool ((((len y218) != 1)))), (94, undef)]) ⟨rfl, rfl, trivial⟩ (OW.pickT rfl hc235 rfl)) ?_
     rintro _ _ ⟨rfl, rfl⟩
     exact ⟨_, Evo.refl _ _ _ _, rfl, trivial⟩
    ·intro vs236 o_ w_ hE 
     exact ⟨⟨_, rfl, .inl rfl⟩, rfl, trivial⟩
    ·intro vs236 o_ w_ hE 
     exact ⟨⟨_, rfl, .inl rfl⟩, rfl, trivial⟩
    ·intro vs236 o_ w_ hE 
     exact ⟨⟨_, rfl, .inr rfl⟩, rfl, trivial⟩
    ·intro vs236 o_ w_ hE 
     exact ⟨⟨_, rfl, .inr rfl⟩, rfl, trivial⟩
    ·intro vs236 o_ w_ hE 
     exact ⟨⟨_, rfl, .inr rfl⟩, rfl, trivial⟩
    ·intro vs236 o_ w_ hE 
     exact ⟨⟨_, rfl, .inr rfl⟩, rfl, trivial⟩
    ·intro vs236 o_ w_ hE 
     exact ⟨⟨_, rfl, .inr rfl⟩, rfl, trivial⟩
    ·intro vs236 o_ w_ hE 
     exact ⟨⟨_, rfl, .inr rfl⟩, rfl, trivial⟩
    ·intro vs236 o_ w_ hE 
     exact ⟨⟨_, rfl, .inr rfl⟩, rfl, trivial⟩
    ·intro vs236 o_ w_ hE 
     exact ⟨⟨_, rfl, .inr rfl⟩, rfl, trivial⟩
    ·intro vs236 o_ w_ hE 
     exact ⟨⟨_, rfl, .inr rfl⟩, rfl, trivial⟩
    ·intro vs236 o_ w_ hE 
     exact ⟨⟨_, rfl, .inr rfl⟩, rfl, trivial⟩
    ·intro vs236 o_ w_ hE 
     exact ⟨⟨_, rfl, .inl rfl⟩, rfl, trivial⟩
    ·intro vs236 o_ w_ hE 
     refine OW.imp (OW.fr (L' := [(96, .bool true), (109, undef)]) ⟨rfl, rfl, trivial⟩ (OW.pickT rfl rfl rfl)) ?_
     rintro _ _ ⟨rfl, rfl⟩
     exact ⟨_, Evo.refl _ _ _ _, rfl, trivial⟩
    ·intro vs236 o238 w237 hE h225
     obtain ⟨hE, evT_⟩ := hE
     have h225 : Ow 3 o238 129 [] w237 v226 y218 := h225
     have h10 := h10.evo evT_ rfl
     have h21 := h21.evo evT_ rfl
     have h23 := h23.evo evT_ rfl
     have h25 := h25.evo evT_ rfl
     have h47 := h47.evo evT_ rfl
     have h49 := h49.evo evT_ rfl
     have h51 := h51.evo evT_ rfl
     have h53 := h53.evo evT_ rfl
     have hb205 := hb205.evo evT_ rfl
     have hb31 := hb31.evo evT_ rfl
     have hb59 := hb59.evo evT_ rfl
     have hs := hs.evo evT_ rfl
     have e239 := Option.some.inj q229
     subst e239
     exact NK.sb (hJ232 w237 o238 hE h10 h21 h23 h25 h47 h49 h51 h53 hb31 hb59 hs) ⟨rfl, rfl, rfl, rfl, rfl, rfl, trivial⟩
   ·have q229 := iteF hc235 q229
    obtain ⟨z_, q243, q229⟩ := bindE q229
    obtain ⟨x240, x241, x242⟩ := z_
    try dsimp only at q229
    have hJ246 : ∀ (w244 : World) (o245 : Cls), En w0 e0 o245 w244 → Rv (In o245 [40]) w244 sv y3 → Ow 48 o245 102 [] w244 u22 y13.Breakers → Ow 83 o245 103 [] w244 u24 y13.Sources → Ow 85 o245 104 [101] w244 u26 y13.Consumers → Ow 4 o245 110 [] w244 u48 y39.Closed → Ow 64 o245 111 [] w244 u50 y39.Sources → Ow 3 o245 112 [] w244 u52 y39.Limits → Ow 66 o245 113 [] w244 u54 y39.Broken → Bk o245 126 w244 pa201 [.int .i64 y194.State, .int .i64 y194.Since, .int .i64 y194.Frequency, .int .i64 y194.Phase] → Bk o245 105 w244 pa27 [.int .i64 y13.Buses, u22, u24, u26, .int .i64 y13.Phase, .int .i64 y13.Frequency] → Bk o245 114 w244 pa55 [u48, u50, u52, u54] → SrcC o245 100 w244 sb sv y3 st40 → NK 143 K227 [(4, .pointer (some pa27)), (5, .pointer (some pa55)), (60, u50), (61, .int .i64 (len y39.Sources)), (62, .int .i64 x76), (81, .bool y210), (82, .pointer (some (pa201.add 0))), (83, .int .i64 y194.State), (84, .bool (((y194.State == 2)))), (85, .bool (((y194.State == 2)))), (93, .bool x240), (94, .bool x241), (110, .bool x242)] w244 := by
     intro w244 o245  hE h10 h21 h23 h25 h47 h49 h51 h53 hb205 hb31 hb59 hs
     have e247 := Option.some.inj q229
     subst e247
     exact NK.sb (hJ232 w244 o245 hE h10 h21 h23 h25 h47 h49 h51 h53 hb31 hb59 hs) ⟨rfl, rfl, rfl, rfl, rfl, rfl, trivial⟩
    rcases Bool.eq_false_or_eq_true (((y194.State == 2))) with hc248 | hc248
    ·have q243 := iteT hc248 q243
     obtain ⟨y249, q253, q243⟩ := bindE q243
     obtain ⟨y254, q258, q243⟩ := bindE q243
     obtain ⟨x259, q260, q243⟩ := bindE q243
     have hJ263 : ∀ (w261 : World) (o262 : Cls), En w0 e0 o262 w261 → Rv (In o262 [40]) w261 sv y3 → Ow 48 o262 102 [] w261 u22 y13.Breakers → Ow 3 o262 129 [] w261 v226 y218 → Ow 83 o262 103 [] w261 u24 y13.Sources → Ow 85 o262 104 [101] w261 u26 y13.Consumers → Ow 4 o262 110 [] w261 u48 y39.Closed → Ow 64 o262 111 [] w261 u50 y39.Sources → Ow 3 o262 112 [] w261 u52 y39.Limits → Ow 66 o262 113 [] w261 u54 y39.Broken → Bk o262 126 w261 pa201 [.int .i64 y194.State, .int .i64 y194.Since, .int .i64 y194.Frequency, .int .i64 y194.Phase] → Bk o262 105 w261 pa27 [.int .i64 y13.Buses, u22, u24, u26, .int .i64 y13.Phase, .int .i64 y13.Frequency] → Bk o262 114 w261 pa55 [u48, u50, u52, u54] → SrcC o262 100 w261 sb sv y3 st40 → NK 143 K227 [(4, .pointer (some pa27)), (5, .pointer (some pa55)), (60, u50), (61, .int .i64 (len y39.Sources)), (62, .int .i64 x76), (81, .bool y210), (82, .pointer (some (pa201.add 0))), (83, .int .i64 y194.State), (84, .bool (((y194.State == 2)))), (85, .bool (((y194.State == 2)))), (86, .pointer (some (pa55.add 0))), (87, u48), (88, v226), (90, .int .i64 y249), (92, .bool y254), (93, .bool y254), (94, .bool ((!decide (y210 = y254)))), (110, .bool x259)] w261 := by
      intro w261 o262  hE h10 h21 h225 h23 h25 h47 h49 h51 h53 hb205 hb31 hb59 hs
      have e264 := Option.some.inj q243
      obtain ⟨e265, e266⟩ := Prod.mk.inj e264
      obtain ⟨e267, e268⟩ := Prod.mk.inj e266
      subst e265 e267 e268
      exact NK.sb (hJ246 w261 o262 hE h10 h21 h23 h25 h47 h49 h51 h53 hb205 hb31 hb59 hs) ⟨rfl, rfl, rfl, rfl, rfl, rfl, rfl, rfl, rfl, rfl, rfl, rfl, rfl, trivial⟩
     rcases Bool.eq_false_or_eq_true ((!decide (y210 = y254))) with hc269 | hc269
     ·have q260 := iteT hc269 q260
      have ev_ := Evo.drew o221 w220
      refine CW.anyS (N := []) hmix [sOw none none [] 3 129 [] (fun _ => v226) y218, sOw none none [] 4 110 [] (fun _ => u48) y39.Closed, sBk none none [] 126 (fun _ => pa201) (fun _ => [.int .i64 y194.State, .int .i64 y194.Since, .int .i64 y194.Frequency, .int .i64 y194.Phase]), sBk none none [] 114 (fun _ => pa55) (fun _ => [u48, u50, u52, u54]), sPo (some 12) none [12] 129 [] (fun x_ => (pOf (x_.getD 0 undef))) y249, sEp (some 12) none [12] (fun _ => v226) 1 0 (fun x_ => (pOf (x_.getD 0 undef))), sPo (some 14) none [14] 110 [] (fun x_ => (pOf (x_.getD 0 undef))) y254, sEp (some 14) none [14] (fun _ => u48) 1 y249 (fun x_ => (pOf (x_.getD 0 undef)))] [⟨[], [], [], [], fun _ => v226, false⟩, ⟨[], [0], [0], [], fun _ => .int .i64 (len y218), false⟩, ⟨[], [], [0, 1], [], fun _ => .bool ((((len y218) != 1))), false⟩, ⟨[], [], [0, 1, 2], [], fun _ => .bool ((((len y218) != 1))), false⟩, ⟨[], [], [0, 1, 2, 3], [], fun _ => .bool y210, false⟩, ⟨[], [], [0, 1, 2, 3], [], fun _ => .pointer (some (pa201.add 0)), false⟩, ⟨[], [2], [0, 1, 2, 3, 5], [], fun _ => .int .i64 y194.State, false⟩, ⟨[], [], [0, 1, 2, 3, 5, 6], [], fun _ => .bool (((y194.State == 2))), false⟩, ⟨[], [], [0, 1, 2, 3, 5, 6, 7], [], fun _ => .bool (((y194.State == 2))), false⟩, ⟨[], [], [0, 1, 2, 3, 5, 6, 7, 8], [], fun _ => .pointer (some (pa55.add 0)), false⟩, ⟨[], [3], [0, 1, 2, 3, 5, 6, 7, 8, 9], [], fun _ => u48, false⟩, ⟨[], [], [0, 1, 2, 3, 5, 6, 7, 8], [], fun _ => v226, false⟩, ⟨[], [0], [0, 1, 2, 3, 5, 6, 7, 8, 11], [12], fun x_ => .pointer (some (pOf (x_.getD 0 undef))), false⟩, ⟨[], [4], [0, 1, 2, 3, 5, 6, 7, 8, 11, 12], [], fun _ => .int .i64 y249, false⟩, ⟨[], [1], [0, 1, 2, 3, 5, 6, 7, 8, 9, 10, 11, 12, 13], [14], fun x_ => .pointer (some (pOf (x_.getD 0 undef))), false⟩, ⟨[], [6], [0, 1, 2, 3, 5, 6, 7, 8, 9, 10, 11, 12, 13, 14], [], fun _ => .bool y254, false⟩, ⟨[], [], [0, 1, 2, 3, 5, 6, 7, 8, 9, 10, 11, 12, 13, 14, 15], [], fun _ => .bool y254, false⟩, ⟨[], [], [0, 1, 2, 3, 4, 5, 6, 7, 8, 9, 10, 11, 12, 13, 14, 15, 16], [], fun _ => .bool ((!decide (y210 = y254))), false⟩, ⟨[], [], [0, 1, 2, 3, 4, 5, 6, 7, 8, 9, 10, 11, 12, 13, 14, 15, 16, 17], [], fun _ => .bool ((!decide (y210 = y254))), false⟩, ⟨[], [], [0, 1, 2, 3, 4, 5, 6, 7, 8, 9, 10, 11, 12, 13, 14, 15, 16, 17, 18], [], fun _ => .bool ((!decide (y210 = y254))), false⟩, ⟨[], [], [0, 1, 2, 3, 4, 5, 6, 7, 8, 9, 10, 11, 12, 13, 14, 15, 16, 17, 18, 19], [], fun _ => undef, true⟩, ⟨[], [], [0, 1, 2, 3, 4, 5, 6, 7, 8, 9, 10, 11, 12, 13, 14, 15, 16, 17, 18, 19, 20], [], fun _ => undef, true⟩, ⟨[], [], [0, 1, 2, 3, 4, 5, 6, 7, 8, 9, 10, 11, 12, 13, 14, 15, 16, 17, 18, 19, 20, 21], [], fun _ => undef, true⟩, ⟨[], [], [0, 1, 2, 3, 4, 5, 6, 7, 8, 9, 10, 11, 12, 13, 14, 15, 16, 17, 18, 19, 20, 21], [], fun _ => undef, true⟩, ⟨[], [], [0, 1, 2, 3, 4, 5, 6, 7, 8, 9, 10, 11, 12, 13, 14, 15, 16, 17, 18, 19, 20, 21, 23], [], fun _ => undef, true⟩, ⟨[], [], [0, 1, 2, 3, 4, 5, 6, 7, 8, 9, 10, 11, 12, 13, 14, 15, 16, 17, 18, 19, 20, 21], [], fun _ => undef, true⟩, ⟨[], [], [0, 1, 2, 3, 4, 5, 6, 7, 8, 9, 10, 11, 12, 13, 14, 15, 16, 17, 18, 19, 20, 21, 25], [], fun _ => undef, true⟩, ⟨[], [], [0, 1, 2, 3, 4, 5, 6, 7, 8, 9, 10, 11, 12, 13, 14, 15, 16, 17, 18, 19, 20, 21, 25, 26], [], fun _ => undef, true⟩, ⟨[], [], [0, 1, 2, 3, 4, 5, 6, 7, 8, 9, 10, 11, 12, 13, 14, 15, 16, 17, 18, 19, 20, 21, 23, 24, 25, 26, 27], [], fun _ => undef, true⟩, ⟨[], [], [0, 1, 2, 3, 4, 5, 6, 7, 8, 9, 10, 11, 12, 13, 14, 15, 16, 17, 18, 19, 20, 21, 23, 24, 25, 26, 27, 28], [], fun _ => undef, true⟩, ⟨[], [], [0, 1, 2, 3, 4, 5, 6, 7, 8, 9, 10, 11, 12, 13, 14, 15, 16, 17, 18, 19, 20, 21, 23, 24, 25, 26, 27, 28, 29], [], fun _ => undef, true⟩, ⟨[], [], [0, 1, 2, 3, 4, 5, 6, 7, 8, 9, 10, 11, 12, 13, 14, 15, 16, 17, 18, 19, 20, 21, 22, 23, 24, 25, 26, 27, 28, 29, 30], [], fun _ => undef, true⟩, ⟨[], [], [0, 1, 2, 3, 4, 5, 6, 7, 8, 9, 10, 11, 12, 13, 14, 15, 16, 17, 18, 19, 20, 21, 22, 23, 24, 25, 26, 27, 28, 29, 30, 31], [], fun _ => undef, true⟩, ⟨[], [], [0, 1, 2, 3, 4, 5, 6, 7, 8, 9, 10, 11, 12, 13, 14, 15, 16, 17, 18, 19, 20, 21, 22, 23, 24, 25, 26, 27, 28, 29, 30, 31, 32], [], fun _ => .bool true, false⟩] [] hE rfl (by kernel_rfl) (by kernel_rfl) ⟨h225.evo ev_ rfl, h47.evo ev_ rfl, hb205.evo ev_ rfl, hb59.evo ev_ rfl, trivial⟩ ⟨Ob.pv rfl rfl (fun _ => rfl) rfl (fun _ _ _ => trivial), ?_, Ob.pv rfl rfl (fun _ => rfl) rfl (fun _ _ _ => trivial), Ob.pv rfl rfl (fun _ => rfl) rfl (fun _ _ _ => trivial), ?_, ?_, ?_, ?_, ?_, ?_, ?_, ?_, ?_, ?_, ?_, ?_, ?_, ?_, ?_, Ob.pv rfl rfl (fun _ => rfl) rfl (fun _ _ _ => trivial), ?_, ?_, ?_, ?_, ?_, ?_, ?_, ?_, ?_, ?_, ?_, ?_, ?_, ?_, trivial⟩ ?_
      ·intro vs270 o_ w_ hE h225
       have h225 : Ow 3 o_ 129 [] w_ v226 y218 := h225
       refine OW.imp (OW.fr (L' := [(77, v226)]) ⟨rfl, trivial⟩ (OW.len Try.underlying22 rfl h225.rv)) ?_
       rintro _ _ ⟨rfl, rfl⟩
       exact ⟨_, Evo.refl _ _ _ _, rfl, trivial⟩
      ·intro vs270 o_ w_ hE 
       refine ⟨⟨_, rfl, congrArg (fun b => some (Value.bool b)) hc235⟩, ?_⟩
       refine OW.imp (OW.fr (L' := [(11, .bool y210)]) ⟨rfl, trivial⟩ (OW.pv (v := (.bool y210)) rfl)) ?_
       rintro _ _ ⟨rfl, rfl⟩
       exact ⟨_, Evo.refl _ _ _ _, rfl, trivial⟩
      ·intro vs270 o_ w_ hE 
       refine ⟨⟨_, rfl, congrArg (fun b => some (Value.bool b)) hc235⟩, ?_⟩
       refine OW.imp (OW.fr (L' := [(9, .pointer (some pa201))]) ⟨rfl, trivial⟩ (OW.fldAddr (FldOk.at f64_0) rfl)) ?_
       rintro _ _ ⟨rfl, rfl⟩
       exact ⟨_, Evo.refl _ _ _ _, rfl, trivial⟩
      ·intro vs270 o_ w_ hE hb205
       have hb205 : Bk o_ 126 w_ pa201 [.int .i64 y194.State, .int .i64 y194.Since, .int .i64 y194.Frequency, .int .i64 y194.Phase] := hb205
       refine ⟨⟨_, rfl, congrArg (fun b => some (Value.bool b)) hc235⟩, ?_⟩
       refine OW.imp (OW.fr (L' := [(82, .pointer (some (pa201.add 0)))]) ⟨rfl, trivial⟩ (OW.loadK (off := 0) Int (.int .i64 y194.State) ty3 rfl hb205 rfl rfl)) ?_
       rintro _ _ ⟨rfl, rfl⟩
       exact ⟨_, Evo.refl _ _ _ _, rfl, trivial⟩
      ·intro vs270 o_ w_ hE 
       refine ⟨⟨_, rfl, congrArg (fun b => some (Value.bool b)) hc235⟩, ?_⟩
       refine OW.imp (OW.fr (L' := [(83, .int .i64 y194.State)]) ⟨rfl, trivial⟩ (OW.pv (v := (.bool (((y194.State == 2))))) rfl)) ?_
       rintro _ _ ⟨rfl, rfl⟩
       exact ⟨_, Evo.refl _ _ _ _, rfl, trivial⟩
      ·intro vs270 o_ w_ hE 
       refine ⟨⟨_, rfl, congrArg (fun b => some (Value.bool b)) hc235⟩, ?_⟩
       refine OW.imp (OW.fr (L' := [(84, .bool (((y194.State == 2))))]) ⟨rfl, trivial⟩ (OW.pv (v := (.bool (((y194.State == 2))))) rfl)) ?_
       rintro _ _ ⟨rfl, rfl⟩
       exact ⟨_, Evo.refl _ _ _ _, rfl, trivial⟩
      ·intro vs270 o_ w_ hE 
       refine ⟨⟨_, rfl, congrArg (fun b => some (Value.bool b)) hc248⟩, ?_⟩
       refine OW.imp (OW.fr (L' := [(5, .pointer (some pa55))]) ⟨rfl, trivial⟩ (OW.fldAddr (FldOk.at f45_0) rfl)) ?_
       rintro _ _ ⟨rfl, rfl⟩
       exact ⟨_, Evo.refl _ _ _ _, rfl, trivial⟩
      ·intro vs270 o_ w_ hE hb59
       have hb59 : Bk o_ 114 w_ pa55 [u48, u50, u52, u54] := hb59
       refine ⟨⟨_, rfl, congrArg (fun b => some (Value.bool b)) hc248⟩, ?_⟩
       refine OW.imp (OW.fr (L' := [(86, .pointer (some (pa55.add 0)))]) ⟨rfl, trivial⟩ (OW.loadK (off := 0) (List Bool) (u48) ty41 rfl hb59 rfl rfl)) ?_
       rintro _ _ ⟨rfl, rfl⟩
       exact ⟨_, Evo.refl _ _ _ _, rfl, trivial⟩
      ·intro vs270 o_ w_ hE 
       refine ⟨⟨_, rfl, congrArg (fun b => some (Value.bool b)) hc248⟩, ?_⟩
       refine OW.imp (OW.fr (L' := [(12, v226)]) ⟨rfl, trivial⟩ (OW.pv (v := v226) rfl)) ?_
       rintro _ _ ⟨rfl, rfl⟩
       exact ⟨_, Evo.refl _ _ _ _, rfl, trivial⟩
      ·intro vs270 o_ w_ hE h225
       have h225 : Ow 3 o_ 129 [] w_ v226 y218 := h225
       refine ⟨⟨_, rfl, congrArg (fun b => some (Value.bool b)) hc248⟩, ?_⟩
       refine OW.imp (OW.fr (L' := [(88, v226)]) ⟨rfl, trivial⟩ (OW.indexAddrO Try.underlying22 ty3 rfl h225 rfl q253)) ?_
       rintro _ _ ⟨rfl, ⟨pa250, hv_, hp251, he252⟩⟩
       subst hv_
       exact ⟨_, Evo.refl _ _ _ _, rfl, hp251, he252, trivial⟩
      ·intro vs270 o_ w_ hE hp251
       have hp251 : PtrO o_ 129 [] w_ (pOf (vs270 12)) y249 := hp251
       refine ⟨⟨_, rfl, congrArg (fun b => some (Value.bool b)) hc248⟩, ?_⟩
       refine OW.imp (OW.fr (L' := [(89, .pointer (some (pOf (vs270 12))))]) ⟨rfl, trivial⟩ (OW.loadI ty3 rfl hp251.at)) ?_
       rintro _ _ ⟨rfl, rfl⟩
       exact ⟨_, Evo.refl _ _ _ _, rfl, trivial⟩
      ·intro vs270 o_ w_ hE h47
       have h47 : Ow 4 o_ 110 [] w_ u48 y39.Closed := h47
       refine ⟨⟨_, rfl, congrArg (fun b => some (Value.bool b)) hc248⟩, ?_⟩
       refine OW.imp (OW.fr (L' := [(87, u48), (90, .int .i64 y249)]) ⟨rfl, rfl, trivial⟩ (OW.indexAddrO Try.underlying41 ty4 rfl h47 rfl q258)) ?_
       rintro _ _ ⟨rfl, ⟨pa255, hv_, hp256, he257⟩⟩
       subst hv_
       exact ⟨_, Evo.refl _ _ _ _, rfl, hp256, he257, trivial⟩
      ·intro vs270 o_ w_ hE hp256
       have hp256 : PtrO o_ 110 [] w_ (pOf (vs270 14)) y254 := hp256
       refine ⟨⟨_, rfl, congrArg (fun b => some (Value.bool b)) hc248⟩, ?_⟩
       refine OW.imp (OW.fr (L' := [(91, .pointer (some (pOf (vs270 14))))]) ⟨rfl, trivial⟩ (OW.loadB ty4 rfl hp256.at)) ?_
       rintro _ _ ⟨rfl, rfl⟩
       exact ⟨_, Evo.refl _ _ _ _, rfl, trivial⟩
      ·intro vs270 o_ w_ hE 
       refine ⟨⟨_, rfl, congrArg (fun b => some (Value.bool b)) hc235⟩, ?_⟩
       refine OW.imp (OW.fr (L' := [(85, .bool (((y194.State == 2)))), (92, .bool y254)]) ⟨rfl, rfl, trivial⟩ (OW.pickT rfl hc248 rfl)) ?_
       rintro _ _ ⟨rfl, rfl⟩
       exact ⟨_, Evo.refl _ _ _ _, rfl, trivial⟩
      ·intro vs270 o_ w_ hE 
       refine ⟨⟨_, rfl, congrArg (fun b => some (Value.bool b)) hc235⟩, ?_⟩
       refine OW.imp (OW.fr (L' := [(81, .bool y210), (93, .bool y254)]) ⟨rfl, rfl, trivial⟩ (OW.neq (x := y210) (y := y254) (S := fun _ => True) (S' := fun _ => True) eq4 rfl rfl (rv_bool.2 rfl) (rv_bool.2 rfl))) ?_
       rintro _ _ ⟨rfl, rfl⟩
       exact ⟨_, Evo.refl _ _ _ _, rfl, trivial⟩
      ·intro vs270 o_ w_ hE 
       refine OW.imp (OW.fr (L' := [(80, .bool ((((len y218) != 1)))), (94, .bool ((!decide (y210 = y254))))]) ⟨rfl, rfl, trivial⟩ (OW.pickF rfl hc235 rfl)) ?_
       rintro _ _ ⟨rfl, rfl⟩
       exact ⟨_, Evo.refl _ _ _ _, rfl, trivial⟩
      ·intro vs270 o_ w_ hE 
       exact ⟨⟨_, rfl, .inl (congrArg (fun b => some (Value.bool b)) hc269)⟩, rfl, trivial⟩
      ·intro vs270 o_ w_ hE 
       exact ⟨⟨_, rfl, .inl (congrArg (fun b => some (Value.bool b)) hc269)⟩, rfl, trivial⟩
      ·intro vs270 o_ w_ hE 
       exact ⟨⟨_, rfl, .inr rfl⟩, rfl, trivial⟩
      ·intro vs270 o_ w_ hE 
       exact ⟨⟨_, rfl, .inr rfl⟩, rfl, trivial⟩
      ·intro vs270 o_ w_ hE 
       exact ⟨⟨_, rfl, .inr rfl⟩, rfl, trivial⟩
      ·intro vs270 o_ w_ hE 
       exact ⟨⟨_, rfl, .inr rfl⟩, rfl, trivial⟩
      ·intro vs270 o_ w_ hE 
       exact ⟨⟨_, rfl, .inr rfl⟩, rfl, trivial⟩
      ·intro vs270 o_ w_ hE 
       exact ⟨⟨_, rfl, .inr rfl⟩, rfl, trivial⟩
      ·intro vs270 o_ w_ hE 
       exact ⟨⟨_, rfl, .inr rfl⟩, rfl, trivial⟩
      ·intro vs270 o_ w_ hE 
       exact ⟨⟨_, rfl, .inr rfl⟩, rfl, trivial⟩
      ·intro vs270 o_ w_ hE 
       exact ⟨⟨_, rfl, .inr rfl⟩, rfl, trivial⟩
      ·intro vs270 o_ w_ hE 
       exact ⟨⟨_, rfl, .inr rfl⟩, rfl, trivial⟩
      ·intro vs270 o_ w_ hE 
       exact ⟨⟨_, rfl, .inl (congrArg (fun b => some (Value.bool b)) hc269)⟩, rfl, trivial⟩
      ·intro vs270 o_ w_ hE 
       refine OW.imp (OW.fr (L' := [(96, .bool ((!decide (y210 = y254)))), (109, undef)]) ⟨rfl, rfl, trivial⟩ (OW.pickT rfl hc269 rfl)) ?_
       rintro _ _ ⟨rfl, rfl⟩
       exact ⟨_, Evo.refl _ _ _ _, rfl, trivial⟩
      ·intro vs270 o272 w271 hE h225 h47 hb205 hb59 hp251 he252 hp256 he257
       obtain ⟨hE, evT_⟩ := hE
       have h225 : Ow 3 o272 129 [] w271 v226 y218 := h225
       have h47 : Ow 4 o272 110 [] w271 u48 y39.Closed := h47
       have hb205 : Bk o272 126 w271 pa201 [.int .i64 y194.State, .int .i64 y194.Since, .int .i64 y194.Frequency, .int .i64 y194.Phase] := hb205
       have hb59 : Bk o272 114 w271 pa55 [u48, u50, u52, u54] := hb59
       have hp251 : PtrO o272 129 [] w271 (pOf (vs270 12)) y249 := hp251
       have he252 : EPtr v226 1 0 (pOf (vs270 12)) := he252
       have hp256 : PtrO o272 110 [] w271 (pOf (vs270 14)) y254 := hp256
       have he257 : EPtr u48 1 y249 (pOf (vs270 14)) := he257
       have h10 := h10.evo evT_ rfl
       have h21 := h21.evo evT_ rfl
       have h23 := h23.evo evT_ rfl
       have h25 := h25.evo evT_ rfl
       have h49 := h49.evo evT_ rfl
       have h51 := h51.evo evT_ rfl
       have h53 := h53.evo evT_ rfl
       have hb31 := hb31.evo evT_ rfl
       have hs := hs.evo evT_ rfl
       have e273 := Option.some.inj q260
       subst e273
       exact NK.sb (hJ263 w271 o272 hE h10 h21 h225 h23 h25 h47 h49 h51 h53 hb205 hb31 hb59 hs) ⟨rfl, rfl, rfl, rfl, rfl, rfl, rfl, rfl, rfl, rfl, rfl, rfl, rfl, rfl, rfl, rfl, rfl, rfl, trivial⟩
     ·have q260 := iteF hc269 q260
      obtain ⟨z_, q276, q260⟩ := bindE q260
      obtain ⟨x274, x275⟩ := z_
      try dsimp only at q260
      have hJ279 : ∀ (w277 : World) (o278 : Cls), En w0 e0 o278 w277 → Rv (In o278 [40]) w277 sv y3 → Ow 48 o278 102 [] w277 u22 y13.Breakers → Ow 3 o278 129 [] w277 v226 y218 → Ow 83 o278 103 [] w277 u24 y13.Sources → Ow 85 o278 104 [101] w277 u26 y13.Consumers → Ow 4 o278 110 [] w277 u48 y39.Closed → Ow 64 o278 111 [] w277 u50 y39.Sources → Ow 3 o278 112 [] w277 u52 y39.Limits → Ow 66 o278 113 [] w277 u54 y39.Broken → Bk o278 126 w277 pa201 [.int .i64 y194.State, .int .i64 y194.Since, .int .i64 y194.Frequency, .int .i64 y194.Phase] → Bk o278 105 w277 pa27 [.int .i64 y13.Buses, u22, u24, u26, .int .i64 y13.Phase, .int .i64 y13.Frequency] → Bk o278 114 w277 pa55 [u48, u50, u52, u54] → SrcC o278 100 w277 sb sv y3 st40 → NK 143 K227 [(4, .pointer (some pa27)), (5, .pointer (some pa55)), (60, u50), (61, .int .i64 (len y39.Sources)), (62, .int .i64 x76), (81, .bool y210), (82, .pointer (some (pa201.add 0))), (83, .int .i64 y194.State), (84, .bool (((y194.State == 2)))), (85, .bool (((y194.State == 2)))), (86, .pointer (some (pa55.add 0))), (87, u48), (88, v226), (90, .int .i64 y249), (92, .bool y254), (93, .bool y254), (94, .bool ((!decide (y210 = y254)))), (97, .bool y210), (98, .bool y210), (109, .bool x274), (110, .bool x275)] w277 := by
       intro w277 o278  hE h10 h21 h225 h23 h25 h47 h49 h51 h53 hb205 hb31 hb59 hs
       have e280 := Option.some.inj q260
       subst e280
       exact NK.sb (hJ263 w277 o278 hE h10 h21 h225 h23 h25 h47 h49 h51 h53 hb205 hb31 hb59 hs) ⟨rfl, rfl, rfl, rfl, rfl, rfl, rfl, rfl, rfl, rfl, rfl, rfl, rfl, rfl, rfl, rfl, rfl, rfl, trivial⟩
      rcases Bool.eq_false_or_eq_true y210 with hc281 | hc281
      ·have q276 := iteT hc281 q276
       obtain ⟨y286, q290, q276⟩ := bindE q276
       have ev_ := Evo.drew o221 w220
       refine CW.anyS (N := []) hmix [sOw none none [] 48 102 [] (fun _ => u22) y13.Breakers, sOw none none [] 3 129 [] (fun _ => v226) y218, sOw none none [] 4 110 [] (fun _ => u48) y39.Closed, sBk none none [] 126 (fun _ => pa201) (fun _ => [.int .i64 y194.State, .int .i64 y194.Since, .int .i64 y194.Frequency, .int .i64 y194.Phase]), sBk none none [] 105 (fun _ => pa27) (fun _ => [.int .i64 y13.Buses, u22, u24, u26, .int .i64 y13.Phase, .int .i64 y13.Frequency]), sBk none none [] 114 (fun _ => pa55) (fun _ => [u48, u50, u52, u54]), sPo (some 12) none [12] 129 [] (fun x_ => (pOf (x_.getD 0 undef))) y249, sEp (some 12) none [12] (fun _ => v226) 1 0 (fun x_ => (pOf (x_.getD 0 undef))), sPo (some 14) none [14] 110 [] (fun x_ => (pOf (x_.getD 0 undef))) y254, sEp (some 14) none [14] (fun _ => u48) 1 y249 (fun x_ => (pOf (x_.getD 0 undef))), sPo (some 26) none [26] 129 [] (fun x_ => (pOf (x_.getD 0 undef))) y249, sEp (some 26) none [26] (fun _ => v226) 1 0 (fun x_ => (pOf (x_.getD 0 undef))), sPo (some 28) none [28] 102 [] (fun x_ => (pOf (x_.getD 0 undef))) y286, sEp (some 28) none [28] (fun _ => u22) 3 y249 (fun x_ => (pOf (x_.getD 0 undef)))] [⟨[], [], [], [], fun _ => v226, false⟩, ⟨[], [1], [0], [], fun _ => .int .i64 (len y218), false⟩, ⟨[], [], [0, 1], [], fun _ => .bool ((((len y218) != 1))), false⟩, ⟨[], [], [0, 1, 2], [], fun _ => .bool ((((len y218) != 1))), false⟩, ⟨[], [], [0, 1, 2, 3], [], fun _ => .bool y210, false⟩, ⟨[], [], [0, 1, 2, 3], [], fun _ => .pointer (some (pa201.add 0)), false⟩, ⟨[], [3], [0, 1, 2, 3, 5], [], fun _ => .int .i64 y194.State, false⟩, ⟨[], [], [0, 1, 2, 3, 5, 6], [], fun _ => .bool (((y194.State == 2))), false⟩, ⟨[], [], [0, 1, 2, 3, 5, 6, 7], [], fun _ => .bool (((y194.State == 2))), false⟩, ⟨[], [], [0, 1, 2, 3, 5, 6, 7, 8], [], fun _ => .pointer (some (pa55.add 0)), false⟩, ⟨[], [5], [0, 1, 2, 3, 5, 6, 7, 8, 9], [], fun _ => u48, false⟩, ⟨[], [], [0, 1, 2, 3, 5, 6, 7, 8], [], fun _ => v226, false⟩, ⟨[], [1], [0, 1, 2, 3, 5, 6, 7, 8, 11], [12], fun x_ => .pointer (some (pOf (x_.getD 0 undef))), false⟩, ⟨[], [6], [0, 1, 2, 3, 5, 6, 7, 8, 11, 12], [], fun _ => .int .i64 y249, false⟩, ⟨[], [2], [0, 1, 2, 3, 5, 6, 7, 8, 9, 10, 11, 12, 13], [14], fun x_ => .pointer (some (pOf (x_.getD 0 undef))), false⟩, ⟨[], [8], [0, 1, 2, 3, 5, 6, 7, 8, 9, 10, 11, 12, 13, 14], [], fun _ => .bool y254, false⟩, ⟨[], [], [0, 1, 2, 3, 5, 6, 7, 8, 9, 10, 11, 12, 13, 14, 15], [], fun _ => .bool y254, false⟩, ⟨[], [], [0, 1, 2, 3, 4, 5, 6, 7, 8, 9, 10, 11, 12, 13, 14, 15, 16], [], fun _ => .bool ((!decide (y210 = y254))), false⟩, ⟨[], [], [0, 1, 2, 3, 4, 5, 6, 7, 8, 9, 10, 11, 12, 13, 14, 15, 16, 17], [], fun _ => .bool ((!decide (y210 = y254))), false⟩, ⟨[], [], [0, 1, 2, 3, 4, 5, 6, 7, 8, 9, 10, 11, 12, 13, 14, 15, 16, 17, 18], [], fun _ => .bool ((!decide (y210 = y254))), false⟩, ⟨[], [], [0, 1, 2, 3, 4, 5, 6, 7, 8, 9, 10, 11, 12, 13, 14, 15, 16, 17, 18, 19], [], fun _ => .bool y210, false⟩, ⟨[], [], [0, 1, 2, 3, 4, 5, 6, 7, 8, 9, 10, 11, 12, 13, 14, 15, 16, 17, 18, 19, 20], [], fun _ => .bool y210, false⟩, ⟨[], [], [0, 1, 2, 3, 4, 5, 6, 7, 8, 9, 10, 11, 12, 13, 14, 15, 16, 17, 18, 19, 20, 21], [], fun _ => .int .i64 y209, false⟩, ⟨[], [], [0, 1, 2, 3, 4, 5, 6, 7, 8, 9, 10, 11, 12, 13, 14, 15, 16, 17, 18, 19, 20, 21], [], fun _ => .pointer (some (pa27.add 1)), false⟩, ⟨[], [4], [0, 1, 2, 3, 4, 5, 6, 7, 8, 9, 10, 11, 12, 13, 14, 15, 16, 17, 18, 19, 20, 21, 23], [], fun _ => u22, false⟩, ⟨[], [], [0, 1, 2, 3, 4, 5, 6, 7, 8, 9, 10, 11, 12, 13, 14, 15, 16, 17, 18, 19, 20, 21], [], fun _ => v226, false⟩, ⟨[], [1], [0, 1, 2, 3, 4, 5, 6, 7, 8, 9, 10, 11, 12, 13, 14, 15, 16, 17, 18, 19, 20, 21, 25], [26], fun x_ => .pointer (some (pOf (x_.getD 0 undef))), false⟩, ⟨[], [10], [0, 1, 2, 3, 4, 5, 6, 7, 8, 9, 10, 11, 12, 13, 14, 15, 16, 17, 18, 19, 20, 21, 25, 26], [], fun _ => .int .i64 y249, false⟩, ⟨[], [0], [0, 1, 2, 3, 4, 5, 6, 7, 8, 9, 10, 11, 12, 13, 14, 15, 16, 17, 18, 19, 20, 21, 23, 24, 25, 26, 27], [28], fun x_ => .pointer (some (pOf (x_.getD 0 undef))), false⟩, ⟨[], [], [0, 1, 2, 3, 4, 5, 6, 7, 8, 9, 10, 11, 12, 13, 14, 15, 16, 17, 18, 19, 20, 21, 23, 24, 25, 26, 27, 28], [28], fun x_ => .pointer (some ((pOf (x_.getD 0 undef)).add 1)), false⟩, ⟨[], [12], [0, 1, 2, 3, 4, 5, 6, 7, 8, 9, 10, 11, 12, 13, 14, 15, 16, 17, 18, 19, 20, 21, 23, 24, 25, 26, 27, 28, 29], [], fun _ => .int .i64 y286.A, false⟩, ⟨[], [], [0, 1, 2, 3, 4, 5, 6, 7, 8, 9, 10, 11, 12, 13, 14, 15, 16, 17, 18, 19, 20, 21, 22, 23, 24, 25, 26, 27, 28, 29, 30], [], fun _ => .bool (((y209 != y286.A))), false⟩, ⟨[], [], [0, 1, 2, 3, 4, 5, 6, 7, 8, 9, 10, 11, 12, 13, 14, 15, 16, 17, 18, 19, 20, 21, 22, 23, 24, 25, 26, 27, 28, 29, 30, 31], [], fun _ => .bool (((y209 != y286.A))), false⟩, ⟨[], [], [0, 1, 2, 3, 4, 5, 6, 7, 8, 9, 10, 11, 12, 13, 14, 15, 16, 17, 18, 19, 20, 21, 22, 23, 24, 25, 26, 27, 28, 29, 30, 31, 32], [], fun _ => .bool (((y209 != y286.A))), false⟩] [] hE rfl (by kernel_rfl) (by kernel_rfl) ⟨h21.evo ev_ rfl, h225.evo ev_ rfl, h47.evo ev_ rfl, hb205.evo ev_ rfl, hb31.evo ev_ rfl, hb59.evo ev_ rfl, trivial⟩ ⟨Ob.pv rfl rfl (fun _ => rfl) rfl (fun _ _ _ => trivial), ?_, Ob.pv rfl rfl (fun _ => rfl) rfl (fun _ _ _ => trivial), Ob.pv rfl rfl (fun _ => rfl) rfl (fun _ _ _ => trivial), ?_, ?_, ?_, ?_, ?_, ?_, ?_, ?_, ?_, ?_, ?_, ?_, ?_, ?_, ?_, Ob.pv rfl rfl (fun _ => rfl) rfl (fun _ _ _ => trivial), ?_, ?_, ?_, ?_, ?_, ?_, ?_, ?_, ?_, ?_, ?_, ?_, ?_, ?_, trivial⟩ ?_
       ·intro vs291 o_ w_ hE h225
        have h225 : Ow 3 o_ 129 [] w_ v226 y218 := h225
        refine OW.imp (OW.fr (L' := [(77, v226)]) ⟨rfl, trivial⟩ (OW.len Try.underlying22 rfl h225.rv)) ?_
        rintro _ _ ⟨rfl, rfl⟩
        exact ⟨_, Evo.refl _ _ _ _, rfl, trivial⟩
       ·intro vs291 o_ w_ hE 
        refine ⟨⟨_, rfl, congrArg (fun b => some (Value.bool b)) hc235⟩, ?_⟩
        refine OW.imp (OW.fr (L' := [(11, .bool y210)]) ⟨rfl, trivial⟩ (OW.pv (v := (.bool y210)) rfl)) ?_
        rintro _ _ ⟨rfl, rfl⟩
        exact ⟨_, Evo.refl _ _ _ _, rfl, trivial⟩
       ·intro vs291 o_ w_ hE 
        refine ⟨⟨_, rfl, congrArg (fun b => some (Value.bool b)) hc235⟩, ?_⟩
        refine OW.imp (OW.fr (L' := [(9, .pointer (some pa201))]) ⟨rfl, trivial⟩ (OW.fldAddr (FldOk.at f64_0) rfl)) ?_
        rintro _ _ ⟨rfl, rfl⟩
        exact ⟨_, Evo.refl _ _ _ _, rfl, trivial⟩
       ·intro vs291 o_ w_ hE hb205
        have hb205 : Bk o_ 126 w_ pa201 [.int .i64 y194.State, .int .i64 y194.Since, .int .i64 y194.Frequency, .int .i64 y194.Phase] := hb205
        refine ⟨⟨_, rfl, congrArg (fun b => some (Value.bool b)) hc235⟩, ?_⟩
        refine OW.imp (OW.fr (L' := [(82, .pointer (some (pa201.add 0)))]) ⟨rfl, trivial⟩ (OW.loadK (off := 0) Int (.int .i64 y194.State) ty3 rfl hb205 rfl rfl)) ?_
        rintro _ _ ⟨rfl, rfl⟩
        exact ⟨_, Evo.refl _ _ _ _, rfl, trivial⟩
       ·intro vs291 o_ w_ hE 
        refine ⟨⟨_, rfl, congrArg (fun b => some (Value.bool b)) hc235⟩, ?_⟩
        refine OW.imp (OW.fr (L' := [(83, .int .i64 y194.State)]) ⟨rfl, trivial⟩ (OW.pv (v := (.bool (((y194.State == 2))))) rfl)) ?_
        rintro _ _ ⟨rfl, rfl⟩
        exact ⟨_, Evo.refl _ _ _ _, rfl, trivial⟩
       ·intro vs291 o_ w_ hE 
        refine ⟨⟨_, rfl, congrArg (fun b => some (Value.bool b)) hc235⟩, ?_⟩
        refine OW.imp (OW.fr (L' := [(84, .bool (((y194.State == 2))))]) ⟨rfl, trivial⟩ (OW.pv (v := (.bool (((y194.State == 2))))) rfl)) ?_
        rintro _ _ ⟨rfl, rfl⟩
        exact ⟨_, Evo.refl _ _ _ _, rfl, trivial⟩
       ·intro vs291 o_ w_ hE 
        refine ⟨⟨_, rfl, congrArg (fun b => some (Value.bool b)) hc248⟩, ?_⟩
        refine OW.imp (OW.fr (L' := [(5, .pointer (some pa55))]) ⟨rfl, trivial⟩ (OW.fldAddr (FldOk.at f45_0) rfl)) ?_
        rintro _ _ ⟨rfl, rfl⟩
        exact ⟨_, Evo.refl _ _ _ _, rfl, trivial⟩
       ·intro vs291 o_ w_ hE hb59
        have hb59 : Bk o_ 114 w_ pa55 [u48, u50, u52, u54] := hb59
        refine ⟨⟨_, rfl, congrArg (fun b => some (Value.bool b)) hc248⟩, ?_⟩
        refine OW.imp (OW.fr (L' := [(86, .pointer (some (pa55.add 0)))]) ⟨rfl, trivial⟩ (OW.loadK (off := 0) (List Bool) (u48) ty41 rfl hb59 rfl rfl)) ?_
        rintro _ _ ⟨rfl, rfl⟩
        exact ⟨_, Evo.refl _ _ _ _, rfl, trivial⟩
       ·intro vs291 o_ w_ hE 
        refine ⟨⟨_, rfl, congrArg (fun b => some (Value.bool b)) hc248⟩, ?_⟩
        refine OW.imp (OW.fr (L' := [(12, v226)]) ⟨rfl, trivial⟩ (OW.pv (v := v226) rfl)) ?_
        rintro _ _ ⟨rfl, rfl⟩
        exact ⟨_, Evo.refl _ _ _ _, rfl, trivial⟩
       ·intro vs291 o_ w_ hE h225
        have h225 : Ow 3 o_ 129 [] w_ v226 y218 := h225
        refine ⟨⟨_, rfl, congrArg (fun b => some (Value.bool b)) hc248⟩, ?_⟩
        refine OW.imp (OW.fr (L' := [(88, v226)]) ⟨rfl, trivial⟩ (OW.indexAddrO Try.underlying22 ty3 rfl h225 rfl q253)) ?_
        rintro _ _ ⟨rfl, ⟨pa250, hv_, hp251, he252⟩⟩
        subst hv_
        exact ⟨_, Evo.refl _ _ _ _, rfl, hp251, he252, trivial⟩
       ·intro vs291 o_ w_ hE hp251
        have hp251 : PtrO o_ 129 [] w_ (pOf (vs291 12)) y249 := hp251
        refine ⟨⟨_, rfl, congrArg (fun b => some (Value.bool b)) hc248⟩, ?_⟩
        refine OW.imp (OW.fr (L' := [(89, .pointer (some (pOf (vs291 12))))]) ⟨rfl, trivial⟩ (OW.loadI ty3 rfl hp251.at)) ?_
        rintro _ _ ⟨rfl, rfl⟩
        exact ⟨_, Evo.refl _ _ _ _, rfl, trivial⟩
       ·intro vs291 o_ w_ hE h47
        have h47 : Ow 4 o_ 110 [] w_ u48 y39.Closed := h47
        refine ⟨⟨_, rfl, congrArg (fun b => some (Value.bool b)) hc248⟩, ?_⟩
        refine OW.imp (OW.fr (L' := [(87, u48), (90, .int .i64 y249)]) ⟨rfl, rfl, trivial⟩ (OW.indexAddrO Try.underlying41 ty4 rfl h47 rfl q258)) ?_
        rintro _ _ ⟨rfl, ⟨pa255, hv_, hp256, he257⟩⟩
        subst hv_
        exact ⟨_, Evo.refl _ _ _ _, rfl, hp256, he257, trivial⟩
       ·intro vs291 o_ w_ hE hp256
        have hp256 : PtrO o_ 110 [] w_ (pOf (vs291 14)) y254 := hp256
        refine ⟨⟨_, rfl, congrArg (fun b => some (Value.bool b)) hc248⟩, ?_⟩
        refine OW.imp (OW.fr (L' := [(91, .pointer (some (pOf (vs291 14))))]) ⟨rfl, trivial⟩ (OW.loadB ty4 rfl hp256.at)) ?_
        rintro _ _ ⟨rfl, rfl⟩
        exact ⟨_, Evo.refl _ _ _ _, rfl, trivial⟩
       ·intro vs291 o_ w_ hE 
        refine ⟨⟨_, rfl, congrArg (fun b => some (Value.bool b)) hc235⟩, ?_⟩
        refine OW.imp (OW.fr (L' := [(85, .bool (((y194.State == 2)))), (92, .bool y254)]) ⟨rfl, rfl, trivial⟩ (OW.pickT rfl hc248 rfl)) ?_
        rintro _ _ ⟨rfl, rfl⟩
        exact ⟨_, Evo.refl _ _ _ _, rfl, trivial⟩
       ·intro vs291 o_ w_ hE 
        refine ⟨⟨_, rfl, congrArg (fun b => some (Value.bool b)) hc235⟩, ?_⟩
        refine OW.imp (OW.fr (L' := [(81, .bool y210), (93, .bool y254)]) ⟨rfl, rfl, trivial⟩ (OW.neq (x := y210) (y := y254) (S := fun _ => True) (S' := fun _ => True) eq4 rfl rfl (rv_bool.2 rfl) (rv_bool.2 rfl))) ?_
        rintro _ _ ⟨rfl, rfl⟩
        exact ⟨_, Evo.refl _ _ _ _, rfl, trivial⟩
       ·intro vs291 o_ w_ hE 
        refine OW.imp (OW.fr (L' := [(80, .bool ((((len y218) != 1)))), (94, .bool ((!decide (y210 = y254))))]) ⟨rfl, rfl, trivial⟩ (OW.pickF rfl hc235 rfl)) ?_
        rintro _ _ ⟨rfl, rfl⟩
        exact ⟨_, Evo.refl _ _ _ _, rfl, trivial⟩
       ·intro vs291 o_ w_ hE 
        refine ⟨⟨_, rfl, congrArg (fun b => some (Value.bool b)) hc269⟩, ?_⟩
        refine OW.imp (OW.fr (L' := [(11, .bool y210)]) ⟨rfl, trivial⟩ (OW.pv (v := (.bool y210)) rfl)) ?_
        rintro _ _ ⟨rfl, rfl⟩
        exact ⟨_, Evo.refl _ _ _ _, rfl, trivial⟩
       ·intro vs291 o_ w_ hE 
        refine ⟨⟨_, rfl, congrArg (fun b => some (Value.bool b)) hc269⟩, ?_⟩
        refine OW.imp (OW.fr (L' := [(97, .bool y210)]) ⟨rfl, trivial⟩ (OW.pv (v := (.bool y210)) rfl)) ?_
        rintro _ _ ⟨rfl, rfl⟩
        exact ⟨_, Evo.refl _ _ _ _, rfl, trivial⟩
       ·intro vs291 o_ w_ hE 
        refine ⟨⟨_, rfl, congrArg (fun b => some (Value.bool b)) hc281⟩, ?_⟩
        refine OW.imp (OW.fr (L' := [(10, .int .i64 y209)]) ⟨rfl, trivial⟩ (OW.pv (v := (.int .i64 y209)) rfl)) ?_
        rintro _ _ ⟨rfl, rfl⟩
        exact ⟨_, Evo.refl _ _ _ _, rfl, trivial⟩
       ·intro vs291 o_ w_ hE 
        refine ⟨⟨_, rfl, congrArg (fun b => some (Value.bool b)) hc281⟩, ?_⟩
        refine OW.imp (OW.fr (L' := [(4, .pointer (some pa27))]) ⟨rfl, trivial⟩ (OW.fldAddr (FldOk.at f39_1) rfl)) ?_
        rintro _ _ ⟨rfl, rfl⟩
        exact ⟨_, Evo.refl _ _ _ _, rfl, trivial⟩
       ·intro vs291 o_ w_ hE hb31
        have hb31 : Bk o_ 105 w_ pa27 [.int .i64 y13.Buses, u22, u24, u26, .int .i64 y13.Phase, .int .i64 y13.Frequency] := hb31
        refine ⟨⟨_, rfl, congrArg (fun b => some (Value.bool b)) hc281⟩, ?_⟩
        refine OW.imp (OW.fr (L' := [(100, .pointer (some (pa27.add 1)))]) ⟨rfl, trivial⟩ (OW.loadK (off := 1) (List Breaker) (u22) ty35 rfl hb31 rfl rfl)) ?_
        rintro _ _ ⟨rfl, rfl⟩
        exact ⟨_, Evo.refl _ _ _ _, rfl, trivial⟩
       ·intro vs291 o_ w_ hE 
        refine ⟨⟨_, rfl, congrArg (fun b => some (Value.bool b)) hc281⟩, ?_⟩
        refine OW.imp (OW.fr (L' := [(12, v226)]) ⟨rfl, trivial⟩ (OW.pv (v := v226) rfl)) ?_
        rintro _ _ ⟨rfl, rfl⟩
        exact ⟨_, Evo.refl _ _ _ _, rfl, trivial⟩
       ·intro vs291 o_ w_ hE h225
        have h225 : Ow 3 o_ 129 [] w_ v226 y218 := h225
        refine ⟨⟨_, rfl, congrArg (fun b => some (Value.bool b)) hc281⟩, ?_⟩
        refine OW.imp (OW.fr (L' := [(102, v226)]) ⟨rfl, trivial⟩ (OW.indexAddrO Try.underlying22 ty3 rfl h225 rfl q253)) ?_
        rintro _ _ ⟨rfl, ⟨pa283, hv_, hp284, he285⟩⟩
        subst hv_
        exact ⟨_, Evo.refl _ _ _ _, rfl, hp284, he285, trivial⟩
       ·intro vs291 o_ w_ hE hp284
        have hp284 : PtrO o_ 129 [] w_ (pOf (vs291 26)) y249 := hp284
        refine ⟨⟨_, rfl, congrArg (fun b => some (Value.bool b)) hc281⟩, ?_⟩
        refine OW.imp (OW.fr (L' := [(103, .pointer (some (pOf (vs291 26))))]) ⟨rfl, trivial⟩ (OW.loadI ty3 rfl hp284.at)) ?_
        rintro _ _ ⟨rfl, rfl⟩
        exact ⟨_, Evo.refl _ _ _ _, rfl, trivial⟩
       ·intro vs291 o_ w_ hE h21
        have h21 : Ow 48 o_ 102 [] w_ u22 y13.Breakers := h21
        refine ⟨⟨_, rfl, congrArg (fun b => some (Value.bool b)) hc281⟩, ?_⟩
        refine OW.imp (OW.fr (L' := [(101, u22), (104, .int .i64 y249)]) ⟨rfl, rfl, trivial⟩ (OW.indexAddrO Try.underlying35 ty48 rfl h21 rfl q290)) ?_
        rintro _ _ ⟨rfl, ⟨pa287, hv_, hp288, he289⟩⟩
        subst hv_
        exact ⟨_, Evo.refl _ _ _ _, rfl, hp288, he289, trivial⟩
       ·intro vs291 o_ w_ hE 
        refine ⟨⟨_, rfl, congrArg (fun b => some (Value.bool b)) hc281⟩, ?_⟩
        refine OW.imp (OW.fr (L' := [(105, .pointer (some (pOf (vs291 28))))]) ⟨rfl, trivial⟩ (OW.fldAddr (FldOk.at f48_1) rfl)) ?_
        rintro _ _ ⟨rfl, rfl⟩
        exact ⟨_, Evo.refl _ _ _ _, rfl, trivial⟩
       ·intro vs291 o_ w_ hE hp288
        have hp288 : PtrO o_ 102 [] w_ (pOf (vs291 28)) y286 := hp288
        refine ⟨⟨_, rfl, congrArg (fun b => some (Value.bool b)) hc281⟩, ?_⟩
        refine OW.imp (OW.fr (L' := [(106, .pointer (some ((pOf (vs291 28)).add 1)))]) ⟨rfl, trivial⟩ (OW.loadI ty3 rfl (hp288.fld f48_1).at)) ?_
        rintro _ _ ⟨rfl, rfl⟩
        exact ⟨_, Evo.refl _ _ _ _, rfl, trivial⟩
       ·intro vs291 o_ w_ hE 
        refine ⟨⟨_, rfl, congrArg (fun b => some (Value.bool b)) hc281⟩, ?_⟩
        refine OW.imp (OW.fr (L' := [(99, .int .i64 y209), (107, .int .i64 y286.A)]) ⟨rfl, rfl, trivial⟩ (OW.pv (v := (.bool (((y209 != y286.A))))) rfl)) ?_
        rintro _ _ ⟨rfl, rfl⟩
        exact ⟨_, Evo.refl _ _ _ _, rfl, trivial⟩
       ·intro vs291 o_ w_ hE 
        refine ⟨⟨_, rfl, congrArg (fun b => some (Value.bool b)) hc269⟩, ?_⟩
        refine OW.imp (OW.fr (L' := [(98, .bool y210), (108, .bool (((y209 != y286.A))))]) ⟨rfl, rfl, trivial⟩ (OW.pickT rfl hc281 rfl)) ?_
        rintro _ _ ⟨rfl, rfl⟩
        exact ⟨_, Evo.refl _ _ _ _, rfl, trivial⟩
       ·intro vs291 o_ w_ hE 
        refine OW.imp (OW.fr (L' := [(96, .bool ((!decide (y210 = y254)))), (109, .bool (((y209 != y286.A))))]) ⟨rfl, rfl, trivial⟩ (OW.pickF rfl hc269 rfl)) ?_
        rintro _ _ ⟨rfl, rfl⟩
        exact ⟨_, Evo.refl _ _ _ _, rfl, trivial⟩
       ·intro vs291 o293 w292 hE h21 h225 h47 hb205 hb31 hb59 hp251 he252 hp256 he257 hp284 he285 hp288 he289
        obtain ⟨hE, evT_⟩ := hE
        have h21 : Ow 48 o293 102 [] w292 u22 y13.Breakers := h21
        have h225 : Ow 3 o293 129 [] w292 v226 y218 := h225
        have h47 : Ow 4 o293 110 [] w292 u48 y39.Closed := h47
        have hb205 : Bk o293 126 w292 pa201 [.int .i64 y194.State, .int .i64 y194.Since, .int .i64 y194.Frequency, .int .i64 y194.Phase] := hb205
        have hb31 : Bk o293 105 w292 pa27 [.int .i64 y13.Buses, u22, u24, u26, .int .i64 y13.Phase, .int .i64 y13.Frequency] := hb31
        have hb59 : Bk o293 114 w292 pa55 [u48, u50, u52, u54] := hb59
        have hp251 : PtrO o293 129 [] w292 (pOf (vs291 12)) y249 := hp251
        have he252 : EPtr v226 1 0 (pOf (vs291 12)) := he252
        have hp256 : PtrO o293 110 [] w292 (pOf (vs291 14)) y254 := hp256
        have he257 : EPtr u48 1 y249 (pOf (vs291 14)) := he257
        have hp284 : PtrO o293 129 [] w292 (pOf (vs291 26)) y249 := hp284
        have he285 : EPtr v226 1 0 (pOf (vs291 26)) := he285
        have hp288 : PtrO o293 102 [] w292 (pOf (vs291 28)) y286 := hp288
        have he289 : EPtr u22 3 y249 (pOf (vs291 28)) := he289
        have h10 := h10.evo evT_ rfl
        have h23 := h23.evo evT_ rfl
        have h25 := h25.evo evT_ rfl
        have h49 := h49.evo evT_ rfl
        have h51 := h51.evo evT_ rfl
        have h53 := h53.evo evT_ rfl
        have hs := hs.evo evT_ rfl
        have e294 := Option.some.inj q276
        obtain ⟨e295, e296⟩ := Prod.mk.inj e294
        subst e295 e296
        exact NK.sb (hJ279 w292 o293 hE h10 h21 h225 h23 h25 h47 h49 h51 h53 hb205 hb31 hb59 hs) ⟨rfl, rfl, rfl, rfl, rfl, rfl, rfl, rfl, rfl, rfl, rfl, rfl, rfl, rfl, rfl, rfl, rfl, rfl, rfl, rfl, rfl, trivial⟩
      ·have q276 := iteF hc281 q276
       have ev_ := Evo.drew o221 w220
       refine CW.anyS (N := []) hmix [sOw none none [] 3 129 [] (fun _ => v226) y218, sOw none none [] 4 110 [] (fun _ => u48) y39.Closed, sBk none none [] 126 (fun _ => pa201) (fun _ => [.int .i64 y194.State, .int .i64 y194.Since, .int .i64 y194.Frequency, .int .i64 y194.Phase]), sBk none none [] 114 (fun _ => pa55) (fun _ => [u48, u50, u52, u54]), sPo (some 12) none [12] 129 [] (fun x_ => (pOf (x_.getD 0 undef))) y249, sEp (some 12) none [12] (fun _ => v226) 1 0 (fun x_ => (pOf (x_.getD 0 undef))), sPo (some 14) none [14] 110 [] (fun x_ => (pOf (x_.getD 0 undef))) y254, sEp (some 14) none [14] (fun _ => u48) 1 y249 (fun x_ => (pOf (x_.getD 0 undef)))] [⟨[], [], [], [], fun _ => v226, false⟩, ⟨[], [0], [0], [], fun _ => .int .i64 (len y218), false⟩, ⟨[], [], [0, 1], [], fun _ => .bool ((((len y218) != 1))), false⟩, ⟨[], [], [0, 1, 2], [], fun _ => .bool ((((len y218) != 1))), false⟩, ⟨[], [], [0, 1, 2, 3], [], fun _ => .bool y210, false⟩, ⟨[], [], [0, 1, 2, 3], [], fun _ => .pointer (some (pa201.add 0)), false⟩, ⟨[], [2], [0, 1, 2, 3, 5], [], fun _ => .int .i64 y194.State, false⟩, ⟨[], [], [0, 1, 2, 3, 5, 6], [], fun _ => .bool (((y194.State == 2))), false⟩, ⟨[], [], [0, 1, 2, 3, 5, 6, 7], [], fun _ => .bool (((y194.State == 2))), false⟩, ⟨[], [], [0, 1, 2, 3, 5, 6, 7, 8], [], fun _ => .pointer (some (pa55.add 0)), false⟩, ⟨[], [3], [0, 1, 2, 3, 5, 6, 7, 8, 9], [], fun _ => u48, false⟩, ⟨[], [], [0, 1, 2, 3, 5, 6, 7, 8], [], fun _ => v226, false⟩, ⟨[], [0], [0, 1, 2, 3, 5, 6, 7, 8, 11], [12], fun x_ => .pointer (some (pOf (x_.getD 0 undef))), false⟩, ⟨[], [4], [0, 1, 2, 3, 5, 6, 7, 8, 11, 12], [], fun _ => .int .i64 y249, false⟩, ⟨[], [1], [0, 1, 2, 3, 5, 6, 7, 8, 9, 10, 11, 12, 13], [14], fun x_ => .pointer (some (pOf (x_.getD 0 undef))), false⟩, ⟨[], [6], [0, 1, 2, 3, 5, 6, 7, 8, 9, 10, 11, 12, 13, 14], [], fun _ => .bool y254, false⟩, ⟨[], [], [0, 1, 2, 3, 5, 6, 7, 8, 9, 10, 11, 12, 13, 14, 15], [], fun _ => .bool y254, false⟩, ⟨[], [], [0, 1, 2, 3, 4, 5, 6, 7, 8, 9, 10, 11, 12, 13, 14, 15, 16], [], fun _ => .bool ((!decide (y210 = y254))), false⟩, ⟨[], [], [0, 1, 2, 3, 4, 5, 6, 7, 8, 9, 10, 11, 12, 13, 14, 15, 16, 17], [], fun _ => .bool ((!decide (y210 = y254))), false⟩, ⟨[], [], [0, 1, 2, 3, 4, 5, 6, 7, 8, 9, 10, 11, 12, 13, 14, 15, 16, 17, 18], [], fun _ => .bool ((!decide (y210 = y254))), false⟩, ⟨[], [], [0, 1, 2, 3, 4, 5, 6, 7, 8, 9, 10, 11, 12, 13, 14, 15, 16, 17, 18, 19], [], fun _ => .bool y210, false⟩, ⟨[], [], [0, 1, 2, 3, 4, 5, 6, 7, 8, 9, 10, 11, 12, 13, 14, 15, 16, 17, 18, 19, 20], [], fun _ => .bool y210, false⟩, ⟨[], [], [0, 1, 2, 3, 4, 5, 6, 7, 8, 9, 10, 11, 12, 13, 14, 15, 16, 17, 18, 19, 20, 21], [], fun _ => undef, true⟩, ⟨[], [], [0, 1, 2, 3, 4, 5, 6, 7, 8, 9, 10, 11, 12, 13, 14, 15, 16, 17, 18, 19, 20, 21], [], fun _ => undef, true⟩, ⟨[], [], [0, 1, 2, 3, 4, 5, 6, 7, 8, 9, 10, 11, 12, 13, 14, 15, 16, 17, 18, 19, 20, 21, 23], [], fun _ => undef, true⟩, ⟨[], [], [0, 1, 2, 3, 4, 5, 6, 7, 8, 9, 10, 11, 12, 13, 14, 15, 16, 17, 18, 19, 20, 21], [], fun _ => undef, true⟩, ⟨[], [], [0, 1, 2, 3, 4, 5, 6, 7, 8, 9, 10, 11, 12, 13, 14, 15, 16, 17, 18, 19, 20, 21, 25], [], fun _ => undef, true⟩, ⟨[], [], [0, 1, 2, 3, 4, 5, 6, 7, 8, 9, 10, 11, 12, 13, 14, 15, 16, 17, 18, 19, 20, 21, 25, 26], [], fun _ => undef, true⟩, ⟨[], [], [0, 1, 2, 3, 4, 5, 6, 7, 8, 9, 10, 11, 12, 13, 14, 15, 16, 17, 18, 19, 20, 21, 23, 24, 25, 26, 27], [], fun _ => undef, true⟩, ⟨[], [], [0, 1, 2, 3, 4, 5, 6, 7, 8, 9, 10, 11, 12, 13, 14, 15, 16, 17, 18, 19, 20, 21, 23, 24, 25, 26, 27, 28], [], fun _ => undef, true⟩, ⟨[], [], [0, 1, 2, 3, 4, 5, 6, 7, 8, 9, 10, 11, 12, 13, 14, 15, 16, 17, 18, 19, 20, 21, 23, 24, 25, 26, 27, 28, 29], [], fun _ => undef, true⟩, ⟨[], [], [0, 1, 2, 3, 4, 5, 6, 7, 8, 9, 10, 11, 12, 13, 14, 15, 16, 17, 18, 19, 20, 21, 22, 23, 24, 25, 26, 27, 28, 29, 30], [], fun _ => undef, true⟩, ⟨[], [], [0, 1, 2, 3, 4, 5, 6, 7, 8, 9, 10, 11, 12, 13, 14, 15, 16, 17, 18, 19, 20, 21, 22, 23, 24, 25, 26, 27, 28, 29, 30, 31], [], fun _ => .bool false, false⟩, ⟨[], [], [0, 1, 2, 3, 4, 5, 6, 7, 8, 9, 10, 11, 12, 13, 14, 15, 16, 17, 18, 19, 20, 21, 22, 23, 24, 25, 26, 27, 28, 29, 30, 31, 32], [], fun _ => .bool false, false⟩] [] hE rfl (by kernel_rfl) (by kernel_rfl) ⟨h225.evo ev_ rfl, h47.evo ev_ rfl, hb205.evo ev_ rfl, hb59.evo ev_ rfl, trivial⟩ ⟨Ob.pv rfl rfl (fun _ => rfl) rfl (fun _ _ _ => trivial), ?_, Ob.pv rfl rfl (fun _ => rfl) rfl (fun _ _ _ => trivial), Ob.pv rfl rfl (fun _ => rfl) rfl (fun _ _ _ => trivial), ?_, ?_, ?_, ?_, ?_, ?_, ?_, ?_, ?_, ?_, ?_, ?_, ?_, ?_, ?_, Ob.pv rfl rfl (fun _ => rfl) rfl (fun _ _ _ => trivial), ?_, ?_, ?_, ?_, ?_, ?_, ?_, ?_, ?_, ?_, ?_, ?_, ?_, ?_, trivial⟩ ?_
       ·intro vs297 o_ w_ hE h225
        have h225 : Ow 3 o_ 129 [] w_ v226 y218 := h225
        refine OW.imp (OW.fr (L' := [(77, v226)]) ⟨rfl, trivial⟩ (OW.len Try.underlying22 rfl h225.rv)) ?_
        rintro _ _ ⟨rfl, rfl⟩
        exact ⟨_, Evo.refl _ _ _ _, rfl, trivial⟩
       ·intro vs297 o_ w_ hE 
        refine ⟨⟨_, rfl, congrArg (fun b => some (Value.bool b)) hc235⟩, ?_⟩
        refine OW.imp (OW.fr (L' := [(11, .bool y210)]) ⟨rfl, trivial⟩ (OW.pv (v := (.bool y210)) rfl)) ?_
        rintro _ _ ⟨rfl, rfl⟩
        exact ⟨_, Evo.refl _ _ _ _, rfl, trivial⟩
       ·intro vs297 o_ w_ hE 
        refine ⟨⟨_, rfl, congrArg (fun b => some (Value.bool b)) hc235⟩, ?_⟩
        refine OW.imp (OW.fr (L' := [(9, .pointer (some pa201))]) ⟨rfl, trivial⟩ (OW.fldAddr (FldOk.at f64_0) rfl)) ?_
        rintro _ _ ⟨rfl, rfl⟩
        exact ⟨_, Evo.refl _ _ _ _, rfl, trivial⟩
       ·intro vs297 o_ w_ hE hb205
        have hb205 : Bk o_ 126 w_ pa201 [.int .i64 y194.State, .int .i64 y194.Since, .int .i64 y194.Frequency, .int .i64 y194.Phase] := hb205
        refine ⟨⟨_, rfl, congrArg (fun b => some (Value.bool b)) hc235⟩, ?_⟩
        refine OW.imp (OW.fr (L' := [(82, .pointer (some (pa201.add 0)))]) ⟨rfl, trivial⟩ (OW.loadK (off := 0) Int (.int .i64 y194.State) ty3 rfl hb205 rfl rfl)) ?_
        rintro _ _ ⟨rfl, rfl⟩
        exact ⟨_, Evo.refl _ _ _ _, rfl, trivial⟩
       ·intro vs297 o_ w_ hE 
        refine ⟨⟨_, rfl, congrArg (fun b => some (Value.bool b)) hc235⟩, ?_⟩
        refine OW.imp (OW.fr (L' := [(83, .int .i64 y194.State)]) ⟨rfl, trivial⟩ (OW.pv (v := (.bool (((y194.State == 2))))) rfl)) ?_
        rintro _ _ ⟨rfl, rfl⟩
        exact ⟨_, Evo.refl _ _ _ _, rfl, trivial⟩
       ·intro vs297 o_ w_ hE 
        refine ⟨⟨_, rfl, congrArg (fun b => some (Value.bool b)) hc235⟩, ?_⟩
        refine OW.imp (OW.fr (L' := [(84, .bool (((y194.State == 2))))]) ⟨rfl, trivial⟩ (OW.pv (v := (.bool (((y194.State == 2))))) rfl)) ?_
        rintro _ _ ⟨rfl, rfl⟩
        exact ⟨_, Evo.refl _ _ _ _, rfl, trivial⟩
       ·intro vs297 o_ w_ hE 
        refine ⟨⟨_, rfl, congrArg (fun b => some (Value.bool b)) hc248⟩, ?_⟩
        refine OW.imp (OW.fr (L' := [(5, .pointer (some pa55))]) ⟨rfl, trivial⟩ (OW.fldAddr (FldOk.at f45_0) rfl)) ?_
        rintro _ _ ⟨rfl, rfl⟩
        exact ⟨_, Evo.refl _ _ _ _, rfl, trivial⟩
       ·intro vs297 o_ w_ hE hb59
        have hb59 : Bk o_ 114 w_ pa55 [u48, u50, u52, u54] := hb59
        refine ⟨⟨_, rfl, congrArg (fun b => some (Value.bool b)) hc248⟩, ?_⟩
        refine OW.imp (OW.fr (L' := [(86, .pointer (some (pa55.add 0)))]) ⟨rfl, trivial⟩ (OW.loadK (off := 0) (List Bool) (u48) ty41 rfl hb59 rfl rfl)) ?_
        rintro _ _ ⟨rfl, rfl⟩
        exact ⟨_, Evo.refl _ _ _ _, rfl, trivial⟩
       ·intro vs297 o_ w_ hE 
        refine ⟨⟨_, rfl, congrArg (fun b => some (Value.bool b)) hc248⟩, ?_⟩
        refine OW.imp (OW.fr (L' := [(12, v226)]) ⟨rfl, trivial⟩ (OW.pv (v := v226) rfl)) ?_
        rintro _ _ ⟨rfl, rfl⟩
        exact ⟨_, Evo.refl _ _ _ _, rfl, trivial⟩
       ·intro vs297 o_ w_ hE h225
        have h225 : Ow 3 o_ 129 [] w_ v226 y218 := h225
        refine ⟨⟨_, rfl, congrArg (fun b => some (Value.bool b)) hc248⟩, ?_⟩
        refine OW.imp (OW.fr (L' := [(88, v226)]) ⟨rfl, trivial⟩ (OW.indexAddrO Try.underlying22 ty3 rfl h225 rfl q253)) ?_
        rintro _ _ ⟨rfl, ⟨pa250, hv_, hp251, he252⟩⟩
        subst hv_
        exact ⟨_, Evo.refl _ _ _ _, rfl, hp251, he252, trivial⟩
       ·intro vs297 o_ w_ hE hp251
        have hp251 : PtrO o_ 129 [] w_ (pOf (vs297 12)) y249 := hp251
        refine ⟨⟨_, rfl, congrArg (fun b => some (Value.bool b)) hc248⟩, ?_⟩
        refine OW.imp (OW.fr (L' := [(89, .pointer (some (pOf (vs297 12))))]) ⟨rfl, trivial⟩ (OW.loadI ty3 rfl hp251.at)) ?_
        rintro _ _ ⟨rfl, rfl⟩
        exact ⟨_, Evo.refl _ _ _ _, rfl, trivial⟩
       ·intro vs297 o_ w_ hE h47
        have h47 : Ow 4 o_ 110 [] w_ u48 y39.Closed := h47
        refine ⟨⟨_, rfl, congrArg (fun b => some (Value.bool b)) hc248⟩, ?_⟩
        refine OW.imp (OW.fr (L' := [(87, u48), (90, .int .i64 y249)]) ⟨rfl, rfl, trivial⟩ (OW.indexAddrO Try.underlying41 ty4 rfl h47 rfl q258)) ?_
        rintro _ _ ⟨rfl, ⟨pa255, hv_, hp256, he257⟩⟩
        subst hv_
        exact ⟨_, Evo.refl _ _ _ _, rfl, hp256, he257, trivial⟩
       ·intro vs297 o_ w_ hE hp256
        have hp256 : PtrO o_ 110 [] w_ (pOf (vs297 14)) y254 := hp256
        refine ⟨⟨_, rfl, congrArg (fun b => some (Value.bool b)) hc248⟩, ?_⟩
        refine OW.imp (OW.fr (L' := [(91, .pointer (some (pOf (vs297 14))))]) ⟨rfl, trivial⟩ (OW.loadB ty4 rfl hp256.at)) ?_
        rintro _ _ ⟨rfl, rfl⟩
        exact ⟨_, Evo.refl _ _ _ _, rfl, trivial⟩
       ·intro vs297 o_ w_ hE 
        refine ⟨⟨_, rfl, congrArg (fun b => some (Value.bool b)) hc235⟩, ?_⟩
        refine OW.imp (OW.fr (L' := [(85, .bool (((y194.State == 2)))), (92, .bool y254)]) ⟨rfl, rfl, trivial⟩ (OW.pickT rfl hc248 rfl)) ?_
        rintro _ _ ⟨rfl, rfl⟩
        exact ⟨_, Evo.refl _ _ _ _, rfl, trivial⟩
       ·intro vs297 o_ w_ hE 
        refine ⟨⟨_, rfl, congrArg (fun b => some (Value.bool b)) hc235⟩, ?_⟩
        refine OW.imp (OW.fr (L' := [(81, .bool y210), (93, .bool y254)]) ⟨rfl, rfl, trivial⟩ (OW.neq (x := y210) (y := y254) (S := fun _ => True) (S' := fun _ => True) eq4 rfl rfl (rv_bool.2 rfl) (rv_bool.2 rfl))) ?_
        rintro _ _ ⟨rfl, rfl⟩
        exact ⟨_, Evo.refl _ _ _ _, rfl, trivial⟩
       ·intro vs297 o_ w_ hE 
        refine OW.imp (OW.fr (L' := [(80, .bool ((((len y218) != 1)))), (94, .bool ((!decide (y210 = y254))))]) ⟨rfl, rfl, trivial⟩ (OW.pickF rfl hc235 rfl)) ?_
        rintro _ _ ⟨rfl, rfl⟩
        exact ⟨_, Evo.refl _ _ _ _, rfl, trivial⟩
       ·intro vs297 o_ w_ hE 
        refine ⟨⟨_, rfl, congrArg (fun b => some (Value.bool b)) hc269⟩, ?_⟩
        refine OW.imp (OW.fr (L' := [(11, .bool y210)]) ⟨rfl, trivial⟩ (OW.pv (v := (.bool y210)) rfl)) ?_
        rintro _ _ ⟨rfl, rfl⟩
        exact ⟨_, Evo.refl _ _ _ _, rfl, trivial⟩
       ·intro vs297 o_ w_ hE 
        refine ⟨⟨_, rfl, congrArg (fun b => some (Value.bool b)) hc269⟩, ?_⟩
        refine OW.imp (OW.fr (L' := [(97, .bool y210)]) ⟨rfl, trivial⟩ (OW.pv (v := (.bool y210)) rfl)) ?_
        rintro _ _ ⟨rfl, rfl⟩
        exact ⟨_, Evo.refl _ _ _ _, rfl, trivial⟩
       ·intro vs297 o_ w_ hE 
        exact ⟨⟨_, rfl, .inl (congrArg (fun b => some (Value.bool b)) hc281)⟩, rfl, trivial⟩
       ·intro vs297 o_ w_ hE 
        exact ⟨⟨_, rfl, .inl (congrArg (fun b => some (Value.bool b)) hc281)⟩, rfl, trivial⟩
       ·intro vs297 o_ w_ hE 
        exact ⟨⟨_, rfl, .inl (congrArg (fun b => some (Value.bool b)) hc281)⟩, rfl, trivial⟩
       ·intro vs297 o_ w_ hE 
        exact ⟨⟨_, rfl, .inl (congrArg (fun b => some (Value.bool b)) hc281)⟩, rfl, trivial⟩
       ·intro vs297 o_ w_ hE 
        exact ⟨⟨_, rfl, .inl (congrArg (fun b => some (Value.bool b)) hc281)⟩, rfl, trivial⟩
       ·intro vs297 o_ w_ hE 
        exact ⟨⟨_, rfl, .inl (congrArg (fun b => some (Value.bool b)) hc281)⟩, rfl, trivial⟩
       ·intro vs297 o_ w_ hE 
        exact ⟨⟨_, rfl, .inl (congrArg (fun b => some (Value.bool b)) hc281)⟩, rfl, trivial⟩
       ·intro vs297 o_ w_ hE 
        exact ⟨⟨_, rfl, .inl (congrArg (fun b => some (Value.bool b)) hc281)⟩, rfl, trivial⟩
       ·intro vs297 o_ w_ hE 
        exact ⟨⟨_, rfl, .inl (congrArg (fun b => some (Value.bool b)) hc281)⟩, rfl, trivial⟩
       ·intro vs297 o_ w_ hE 
        exact ⟨⟨_, rfl, .inl (congrArg (fun b => some (Value.bool b)) hc281)⟩, rfl, trivial⟩
       ·intro vs297 o_ w_ hE 
        refine ⟨⟨_, rfl, congrArg (fun b => some (Value.bool b)) hc269⟩, ?_⟩
        refine OW.imp (OW.fr (L' := [(98, .bool y210), (108, undef)]) ⟨rfl, rfl, trivial⟩ (OW.pickF rfl hc281 rfl)) ?_
        rintro _ _ ⟨rfl, rfl⟩
        exact ⟨_, Evo.refl _ _ _ _, rfl, trivial⟩
       ·intro vs297 o_ w_ hE 
        refine OW.imp (OW.fr (L' := [(96, .bool ((!decide (y210 = y254)))), (109, .bool false)]) ⟨rfl, rfl, trivial⟩ (OW.pickF rfl hc269 rfl)) ?_
        rintro _ _ ⟨rfl, rfl⟩
        exact ⟨_, Evo.refl _ _ _ _, rfl, trivial⟩
       ·intro vs297 o299 w298 hE h225 h47 hb205 hb59 hp251 he252 hp256 he257
        obtain ⟨hE, evT_⟩ := hE
        have h225 : Ow 3 o299 129 [] w298 v226 y218 := h225
        have h47 : Ow 4 o299 110 [] w298 u48 y39.Closed := h47
        have hb205 : Bk o299 126 w298 pa201 [.int .i64 y194.State, .int .i64 y194.Since, .int .i64 y194.Frequency, .int .i64 y194.Phase] := hb205
        have hb59 : Bk o299 114 w298 pa55 [u48, u50, u52, u54] := hb59
        have hp251 : PtrO o299 129 [] w298 (pOf (vs297 12)) y249 := hp251
        have he252 : EPtr v226 1 0 (pOf (vs297 12)) := he252
        have hp256 : PtrO o299 110 [] w298 (pOf (vs297 14)) y254 := hp256
        have he257 : EPtr u48 1 y249 (pOf (vs297 14)) := he257
        have h10 := h10.evo evT_ rfl
        have h21 := h21.evo evT_ rfl
        have h23 := h23.evo evT_ rfl
        have h25 := h25.evo evT_ rfl
        have h49 := h49.evo evT_ rfl
        have h51 := h51.evo evT_ rfl
        have h53 := h53.evo evT_ rfl
        have hb31 := hb31.evo evT_ rfl
        have hs := hs.evo evT_ rfl
        have e300 := Option.some.inj q276
        obtain ⟨e301, e302⟩ := Prod.mk.inj e300
        subst e301 e302
        exact NK.sb (hJ279 w298 o299 hE h10 h21 h225 h23 h25 h47 h49 h51 h53 hb205 hb31 hb59 hs) ⟨rfl, rfl, rfl, rfl, rfl, rfl, rfl, rfl, rfl, rfl, rfl, rfl, rfl, rfl, rfl, rfl, rfl, rfl, rfl, rfl, rfl, trivial⟩
    ·have q243 := iteF hc248 q243
     obtain ⟨x303, q304, q243⟩ := bindE q243
     have hJ307 : ∀ (w305 : World) (o306 : Cls), En w0 e0 o306 w305 → Rv (In o306 [40]) w305 sv y3 → Ow 48 o306 102 [] w305 u22 y13.Breakers → Ow 83 o306 103 [] w305 u24 y13.Sources → Ow 85 o306 104 [101] w305 u26 y13.Consumers → Ow 4 o306 110 [] w305 u48 y39.Closed → Ow 64 o306 111 [] w305 u50 y39.Sources → Ow 3 o306 112 [] w305 u52 y39.Limits → Ow 66 o306 113 [] w305 u54 y39.Broken → Bk o306 126 w305 pa201 [.int .i64 y194.State, .int .i64 y194.Since, .int .i64 y194.Frequency, .int .i64 y194.Phase] → Bk o306 105 w305 pa27 [.int .i64 y13.Buses, u22, u24, u26, .int .i64 y13.Phase, .int .i64 y13.Frequency] → Bk o306 114 w305 pa55 [u48, u50, u52, u54] → SrcC o306 100 w305 sb sv y3 st40 → NK 143 K227 [(4, .pointer (some pa27)), (5, .pointer (some pa55)), (60, u50), (61, .int .i64 (len y39.Sources)), (62, .int .i64 x76), (81, .bool y210), (82, .pointer (some (pa201.add 0))), (83, .int .i64 y194.State), (84, .bool (((y194.State == 2)))), (85, .bool (((y194.State == 2)))), (86, undef), (87, undef), (88, undef), (89, undef), (90, undef), (91, undef), (92, undef), (93, .bool false), (94, .bool ((!decide (y210 = false)))), (110, .bool x303)] w305 := by
      intro w305 o306  hE h10 h21 h23 h25 h47 h49 h51 h53 hb205 hb31 hb59 hs
      have e308 := Option.some.inj q243
      obtain ⟨e309, e310⟩ := Prod.mk.inj e308
      obtain ⟨e311, e312⟩ := Prod.mk.inj e310
      subst e309 e311 e312
      exact NK.sb (hJ246 w305 o306 hE h10 h21 h23 h25 h47 h49 h51 h53 hb205 hb31 hb59 hs) ⟨rfl, rfl, rfl, rfl, rfl, rfl, rfl, rfl, rfl, rfl, rfl, rfl, rfl, trivial⟩
     rcases Bool.eq_false_or_eq_true ((!decide (y210 = false))) with hc313 | hc313
     ·have q304 := iteT hc313 q304
      have ev_ := Evo.drew o221 w220
      refine CW.anyS (N := []) hmix [sOw none none [] 3 129 [] (fun _ => v226) y218, sBk none none [] 126 (fun _ => pa201) (fun _ => [.int .i64 y194.State, .int .i64 y194.Since, .int .i64 y194.Frequency, .int .i64 y194.Phase])] [⟨[], [], [], [], fun _ => v226, false⟩, ⟨[], [0], [0], [], fun _ => .int .i64 (len y218), false⟩, ⟨[], [], [0, 1], [], fun _ => .bool ((((len y218) != 1))), false⟩, ⟨[], [], [0, 1, 2], [], fun _ => .bool ((((len y218) != 1))), false⟩, ⟨[], [], [0, 1, 2, 3], [], fun _ => .bool y210, false⟩, ⟨[], [], [0, 1, 2, 3], [], fun _ => .pointer (some (pa201.add 0)), false⟩, ⟨[], [1], [0, 1, 2, 3, 5], [], fun _ => .int .i64 y194.State, false⟩, ⟨[], [], [0, 1, 2, 3, 5, 6], [], fun _ => .bool (((y194.State == 2))), false⟩, ⟨[], [], [0, 1, 2, 3, 5, 6, 7], [], fun _ => .bool (((y194.State == 2))), false⟩, ⟨[], [], [0, 1, 2, 3, 5, 6, 7, 8], [], fun _ => undef, true⟩, ⟨[], [], [0, 1, 2, 3, 5, 6, 7, 8, 9], [], fun _ => undef, true⟩, ⟨[], [], [0, 1, 2, 3, 5, 6, 7, 8], [], fun _ => undef, true⟩, ⟨[], [], [0, 1, 2, 3, 5, 6, 7, 8, 11], [], fun _ => undef, true⟩, ⟨[], [], [0, 1, 2, 3, 5, 6, 7, 8, 11, 12], [], fun _ => undef, true⟩, ⟨[], [], [0, 1, 2, 3, 5, 6, 7, 8, 9, 10, 11, 12, 13], [], fun _ => undef, true⟩, ⟨[], [], [0, 1, 2, 3, 5, 6, 7, 8, 9, 10, 11, 12, 13, 14], [], fun _ => undef, true⟩, ⟨[], [], [0, 1, 2, 3, 5, 6, 7, 8, 9, 10, 11, 12, 13, 14, 15], [], fun _ => .bool false, false⟩, ⟨[], [], [0, 1, 2, 3, 4, 5, 6, 7, 8, 9, 10, 11, 12, 13, 14, 15, 16], [], fun _ => .bool ((!decide (y210 = false))), false⟩, ⟨[], [], [0, 1, 2, 3, 4, 5, 6, 7, 8, 9, 10, 11, 12, 13, 14, 15, 16, 17], [], fun _ => .bool ((!decide (y210 = false))), false⟩, ⟨[], [], [0, 1, 2, 3, 4, 5, 6, 7, 8, 9, 10, 11, 12, 13, 14, 15, 16, 17, 18], [], fun _ => .bool ((!decide (y210 = false))), false⟩, ⟨[], [], [0, 1, 2, 3, 4, 5, 6, 7, 8, 9, 10, 11, 12, 13, 14, 15, 16, 17, 18, 19], [], fun _ => undef, true⟩, ⟨[], [], [0, 1, 2, 3, 4, 5, 6, 7, 8, 9, 10, 11, 12, 13, 14, 15, 16, 17, 18, 19, 20], [], fun _ => undef, true⟩, ⟨[], [], [0, 1, 2, 3, 4, 5, 6, 7, 8, 9, 10, 11, 12, 13, 14, 15, 16, 17, 18, 19, 20, 21], [], fun _ => undef, true⟩, ⟨[], [], [0, 1, 2, 3, 4, 5, 6, 7, 8, 9, 10, 11, 12, 13, 14, 15, 16, 17, 18, 19, 20, 21], [], fun _ => undef, true⟩, ⟨[], [], [0, 1, 2, 3, 4, 5, 6, 7, 8, 9, 10, 11, 12, 13, 14, 15, 16, 17, 18, 19, 20, 21, 23], [], fun _ => undef, true⟩, ⟨[], [], [0, 1, 2, 3, 4, 5, 6, 7, 8, 9, 10, 11, 12, 13, 14, 15, 16, 17, 18, 19, 20, 21], [], fun _ => undef, true⟩, ⟨[], [], [0, 1, 2, 3, 4, 5, 6, 7, 8, 9, 10, 11, 12, 13, 14, 15, 16, 17, 18, 19, 20, 21, 25], [], fun _ => undef, true⟩, ⟨[], [], [0, 1, 2, 3, 4, 5, 6, 7, 8, 9, 10, 11, 12, 13, 14, 15, 16, 17, 18, 19, 20, 21, 25, 26], [], fun _ => undef, true⟩, ⟨[], [], [0, 1, 2, 3, 4, 5, 6, 7, 8, 9, 10, 11, 12, 13, 14, 15, 16, 17, 18, 19, 20, 21, 23, 24, 25, 26, 27], [], fun _ => undef, true⟩, ⟨[], [], [0, 1, 2, 3, 4, 5, 6, 7, 8, 9, 10, 11, 12, 13, 14, 15, 16, 17, 18, 19, 20, 21, 23, 24, 25, 26, 27, 28], [], fun _ => undef, true⟩, ⟨[], [], [0, 1, 2, 3, 4, 5, 6, 7, 8, 9, 10, 11, 12, 13, 14, 15, 16, 17, 18, 19, 20, 21, 23, 24, 25, 26, 27, 28, 29], [], fun _ => undef, true⟩, ⟨[], [], [0, 1, 2, 3, 4, 5, 6, 7, 8, 9, 10, 11, 12, 13, 14, 15, 16, 17, 18, 19, 20, 21, 22, 23, 24, 25, 26, 27, 28, 29, 30], [], fun _ => undef, true⟩, ⟨[], [], [0, 1, 2, 3, 4, 5, 6, 7, 8, 9, 10, 11, 12, 13, 14, 15, 16, 17, 18, 19, 20, 21, 22, 23, 24, 25, 26, 27, 28, 29, 30, 31], [], fun _ => undef, true⟩, ⟨[], [], [0, 1, 2, 3, 4, 5, 6, 7, 8, 9, 10, 11, 12, 13, 14, 15, 16, 17, 18, 19, 20, 21, 22, 23, 24, 25, 26, 27, 28, 29, 30, 31, 32], [], fun _ => .bool true, false⟩] [] hE rfl (by kernel_rfl) (by kernel_rfl) ⟨h225.evo ev_ rfl, hb205.evo ev_ rfl, trivial⟩ ⟨Ob.pv rfl rfl (fun _ => rfl) rfl (fun _ _ _ => trivial), ?_, Ob.pv rfl rfl (fun _ => rfl) rfl (fun _ _ _ => trivial), Ob.pv rfl rfl (fun _ => rfl) rfl (fun _ _ _ => trivial), ?_, ?_, ?_, ?_, ?_, ?_, ?_, ?_, ?_, ?_, ?_, ?_, ?_, ?_, ?_, Ob.pv rfl rfl (fun _ => rfl) rfl (fun _ _ _ => trivial), ?_, ?_, ?_, ?_, ?_, ?_, ?_, ?_, ?_, ?_, ?_, ?_, ?_, ?_, trivial⟩ ?_
      ·intro vs314 o_ w_ hE h225
       have h225 : Ow 3 o_ 129 [] w_ v226 y218 := h225
       refine OW.imp (OW.fr (L' := [(77, v226)]) ⟨rfl, trivial⟩ (OW.len Try.underlying22 rfl h225.rv)) ?_
       rintro _ _ ⟨rfl, rfl⟩
       exact ⟨_, Evo.refl _ _ _ _, rfl, trivial⟩
      ·intro vs314 o_ w_ hE 
       refine ⟨⟨_, rfl, congrArg (fun b => some (Value.bool b)) hc235⟩, ?_⟩
       refine OW.imp (OW.fr (L' := [(11, .bool y210)]) ⟨rfl, trivial⟩ (OW.pv (v := (.bool y210)) rfl)) ?_
       rintro _ _ ⟨rfl, rfl⟩
       exact ⟨_, Evo.refl _ _ _ _, rfl, trivial⟩
      ·intro vs314 o_ w_ hE 
       refine ⟨⟨_, rfl, congrArg (fun b => some (Value.bool b)) hc235⟩, ?_⟩
       refine OW.imp (OW.fr (L' := [(9, .pointer (some pa201))]) ⟨rfl, trivial⟩ (OW.fldAddr (FldOk.at f64_0) rfl)) ?_
       rintro _ _ ⟨rfl, rfl⟩
       exact ⟨_, Evo.refl _ _ _ _, rfl, trivial⟩
      ·intro vs314 o_ w_ hE hb205
       have hb205 : Bk o_ 126 w_ pa201 [.int .i64 y194.State, .int .i64 y194.Since, .int .i64 y194.Frequency, .int .i64 y194.Phase] := hb205
       refine ⟨⟨_, rfl, congrArg (fun b => some (Value.bool b)) hc235⟩, ?_⟩
       refine OW.imp (OW.fr (L' := [(82, .pointer (some (pa201.add 0)))]) ⟨rfl, trivial⟩ (OW.loadK (off := 0) Int (.int .i64 y194.State) ty3 rfl hb205 rfl rfl)) ?_
       rintro _ _ ⟨rfl, rfl⟩
       exact ⟨_, Evo.refl _ _ _ _, rfl, trivial⟩
      ·intro vs314 o_ w_ hE 
       refine ⟨⟨_, rfl, congrArg (fun b => some (Value.bool b)) hc235⟩, ?_⟩
       refine OW.imp (OW.fr (L' := [(83, .int .i64 y194.State)]) ⟨rfl, trivial⟩ (OW.pv (v := (.bool (((y194.State == 2))))) rfl)) ?_
       rintro _ _ ⟨rfl, rfl⟩
       exact ⟨_, Evo.refl _ _ _ _, rfl, trivial⟩
      ·intro vs314 o_ w_ hE 
       refine ⟨⟨_, rfl, congrArg (fun b => some (Value.bool b)) hc235⟩, ?_⟩
       refine OW.imp (OW.fr (L' := [(84, .bool (((y194.State == 2))))]) ⟨rfl, trivial⟩ (OW.pv (v := (.bool (((y194.State == 2))))) rfl)) ?_
       rintro _ _ ⟨rfl, rfl⟩
       exact ⟨_, Evo.refl _ _ _ _, rfl, trivial⟩
      ·intro vs314 o_ w_ hE 
       exact ⟨⟨_, rfl, .inl (congrArg (fun b => some (Value.bool b)) hc248)⟩, rfl, trivial⟩
      ·intro vs314 o_ w_ hE 
       exact ⟨⟨_, rfl, .inl (congrArg (fun b => some (Value.bool b)) hc248)⟩, rfl, trivial⟩
      ·intro vs314 o_ w_ hE 
       exact ⟨⟨_, rfl, .inl (congrArg (fun b => some (Value.bool b)) hc248)⟩, rfl, trivial⟩
      ·intro vs314 o_ w_ hE 
       exact ⟨⟨_, rfl, .inl (congrArg (fun b => some (Value.bool b)) hc248)⟩, rfl, trivial⟩
      ·intro vs314 o_ w_ hE 
       exact ⟨⟨_, rfl, .inl (congrArg (fun b => some (Value.bool b)) hc248)⟩, rfl, trivial⟩
      ·intro vs314 o_ w_ hE 
       exact ⟨⟨_, rfl, .inl (congrArg (fun b => some (Value.bool b)) hc248)⟩, rfl, trivial⟩
      ·intro vs314 o_ w_ hE 
       exact ⟨⟨_, rfl, .inl (congrArg (fun b => some (Value.bool b)) hc248)⟩, rfl, trivial⟩
      ·intro vs314 o_ w_ hE 
       refine ⟨⟨_, rfl, congrArg (fun b => some (Value.bool b)) hc235⟩, ?_⟩
       refine OW.imp (OW.fr (L' := [(85, .bool (((y194.State == 2)))), (92, undef)]) ⟨rfl, rfl, trivial⟩ (OW.pickF rfl hc248 rfl)) ?_
       rintro _ _ ⟨rfl, rfl⟩
       exact ⟨_, Evo.refl _ _ _ _, rfl, trivial⟩
      ·intro vs314 o_ w_ hE 
       refine ⟨⟨_, rfl, congrArg (fun b => some (Value.bool b)) hc235⟩, ?_⟩
       refine OW.imp (OW.fr (L' := [(81, .bool y210), (93, .bool false)]) ⟨rfl, rfl, trivial⟩ (OW.neq (x := y210) (y := false) (S := fun _ => True) (S' := fun _ => True) eq4 rfl rfl (rv_bool.2 rfl) (rv_bool.2 rfl))) ?_
       rintro _ _ ⟨rfl, rfl⟩
       exact ⟨_, Evo.refl _ _ _ _, rfl, trivial⟩
      ·intro vs314 o_ w_ hE 
       refine OW.imp (OW.fr (L' := [(80, .bool ((((len y218) != 1)))), (94, .bool ((!decide (y210 = false))))]) ⟨rfl, rfl, trivial⟩ (OW.pickF rfl hc235 rfl)) ?_
       rintro _ _ ⟨rfl, rfl⟩
       exact ⟨_, Evo.refl _ _ _ _, rfl, trivial⟩
      ·intro vs314 o_ w_ hE 
       exact ⟨⟨_, rfl, .inl (congrArg (fun b => some (Value.bool b)) hc313)⟩, rfl, trivial⟩
      ·intro vs314 o_ w_ hE 
       exact ⟨⟨_, rfl, .inl (congrArg (fun b => some (Value.bool b)) hc313)⟩, rfl, trivial⟩
      ·intro vs314 o_ w_ hE 
       exact ⟨⟨_, rfl, .inr rfl⟩, rfl, trivial⟩
      ·intro vs314 o_ w_ hE 
       exact ⟨⟨_, rfl, .inr rfl⟩, rfl, trivial⟩
      ·intro vs314 o_ w_ hE 
       exact ⟨⟨_, rfl, .inr rfl⟩, rfl, trivial⟩
      ·intro vs314 o_ w_ hE 
       exact ⟨⟨_, rfl, .inr rfl⟩, rfl, trivial⟩
      ·intro vs314 o_ w_ hE 
       exact ⟨⟨_, rfl, .inr rfl⟩, rfl, trivial⟩
      ·intro vs314 o_ w_ hE 
       exact ⟨⟨_, rfl, .inr rfl⟩, rfl, trivial⟩
      ·intro vs314 o_ w_ hE 
       exact ⟨⟨_, rfl, .inr rfl⟩, rfl, trivial⟩
      ·intro vs314 o_ w_ hE 
       exact ⟨⟨_, rfl, .inr rfl⟩, rfl, trivial⟩
      ·intro vs314 o_ w_ hE 
       exact ⟨⟨_, rfl, .inr rfl⟩, rfl, trivial⟩
      ·intro vs314 o_ w_ hE 
       exact ⟨⟨_, rfl, .inr rfl⟩, rfl, trivial⟩
      ·intro vs314 o_ w_ hE 
       exact ⟨⟨_, rfl, .inl (congrArg (fun b => some (Value.bool b)) hc313)⟩, rfl, trivial⟩
      ·intro vs314 o_ w_ hE 
       refine OW.imp (OW.fr (L' := [(96, .bool ((!decide (y210 = false)))), (109, undef)]) ⟨rfl, rfl, trivial⟩ (OW.pickT rfl hc313 rfl)) ?_
       rintro _ _ ⟨rfl, rfl⟩
       exact ⟨_, Evo.refl _ _ _ _, rfl, trivial⟩
      ·intro vs314 o316 w315 hE h225 hb205
       obtain ⟨hE, evT_⟩ := hE
       have h225 : Ow 3 o316 129 [] w315 v226 y218 := h225
       have hb205 : Bk o316 126 w315 pa201 [.int .i64 y194.State, .int .i64 y194.Since, .int .i64 y194.Frequency, .int .i64 y194.Phase] := hb205
       have h10 := h10.evo evT_ rfl
       have h21 := h21.evo evT_ rfl
       have h23 := h23.evo evT_ rfl
       have h25 := h25.evo evT_ rfl
       have h47 := h47.evo evT_ rfl
       have h49 := h49.evo evT_ rfl
       have h51 := h51.evo evT_ rfl
       have h53 := h53.evo evT_ rfl
       have hb31 := hb31.evo evT_ rfl
       have hb59 := hb59.evo evT_ rfl
       have hs := hs.evo evT_ rfl
       have e317 := Option.some.inj q304
       subst e317
       exact NK.sb (hJ307 w315 o316 hE h10 h21 h23 h25 h47 h49 h51 h53 hb205 hb31 hb59 hs) ⟨rfl, rfl, rfl, rfl, rfl, rfl, rfl, rfl, rfl, rfl, rfl, rfl, rfl, rfl, rfl, rfl, rfl, rfl, rfl, rfl, trivial⟩
     ·have q304 := iteF hc313 q304
      obtain ⟨z_, q320, q304⟩ := bindE q304
      obtain ⟨x318, x319⟩ := z_
      try dsimp only at q304
      have hJ323 : ∀ (w321 : World) (o322 : Cls), En w0 e0 o322 w321 → Rv (In o322 [40]) w321 sv y3 → Ow 48 o322 102 [] w321 u22 y13.Breakers → Ow 83 o322 103 [] w321 u24 y13.Sources → Ow 85 o322 104 [101] w321 u26 y13.Consumers → Ow 4 o322 110 [] w321 u48 y39.Closed → Ow 64 o322 111 [] w321 u50 y39.Sources → Ow 3 o322 112 [] w321 u52 y39.Limits → Ow 66 o322 113 [] w321 u54 y39.Broken → Bk o322 126 w321 pa201 [.int .i64 y194.State, .int .i64 y194.Since, .int .i64 y194.Frequency, .int .i64 y194.Phase] → Bk o322 105 w321 pa27 [.int .i64 y13.Buses, u22, u24, u26, .int .i64 y13.Phase, .int .i64 y13.Frequency] → Bk o322 114 w321 pa55 [u48, u50, u52, u54] → SrcC o322 100 w321 sb sv y3 st40 → NK 143 K227 [(4, .pointer (some pa27)), (5, .pointer (some pa55)), (60, u50), (61, .int .i64 (len y39.Sources)), (62, .int .i64 x76), (81, .bool y210), (82, .pointer (some (pa201.add 0))), (83, .int .i64 y194.State), (84, .bool (((y194.State == 2)))), (85, .bool (((y194.State == 2)))), (86, undef), (87, undef), (88, undef), (89, undef), (90, undef), (91, undef), (92, undef), (93, .bool false), (94, .bool ((!decide (y210 = false)))), (97, .bool y210), (98, .bool y210), (109, .bool x318), (110, .bool x319)] w321 := by
       intro w321 o322  hE h10 h21 h23 h25 h47 h49 h51 h53 hb205 hb31 hb59 hs
       have e324 := Option.some.inj q304
       subst e324
       exact NK.sb (hJ307 w321 o322 hE h10 h21 h23 h25 h47 h49 h51 h53 hb205 hb31 hb59 hs) ⟨rfl, rfl, rfl, rfl, rfl, rfl, rfl, rfl, rfl, rfl, rfl, rfl, rfl, rfl, rfl, rfl, rfl, rfl, rfl, rfl, trivial⟩
      rcases Bool.eq_false_or_eq_true y210 with hc325 | hc325
      ·have q320 := iteT hc325 q320
       obtain ⟨y326, q330, q320⟩ := bindE q320
       obtain ⟨y331, q335, q320⟩ := bindE q320
       have ev_ := Evo.drew o221 w220
       refine CW.anyS (N := []) hmix [sOw none none [] 48 102 [] (fun _ => u22) y13.Breakers, sOw none none [] 3 129 [] (fun _ => v226) y218, sBk none none [] 126 (fun _ => pa201) (fun _ => [.int .i64 y194.State, .int .i64 y194.Since, .int .i64 y194.Frequency, .int .i64 y194.Phase]), sBk none none [] 105 (fun _ => pa27) (fun _ => [.int .i64 y13.Buses, u22, u24, u26, .int .i64 y13.Phase, .int .i64 y13.Frequency]), sPo (some 26) none [26] 129 [] (fun x_ => (pOf (x_.getD 0 undef))) y326, sEp (some 26) none [26] (fun _ => v226) 1 0 (fun x_ => (pOf (x_.getD 0 undef))), sPo (some 28) none [28] 102 [] (fun x_ => (pOf (x_.getD 0 undef))) y331, sEp (some 28) none [28] (fun _ => u22) 3 y326 (fun x_ => (pOf (x_.getD 0 undef)))] [⟨[], [], [], [], fun _ => v226, false⟩, ⟨[], [1], [0], [], fun _ => .int .i64 (len y218), false⟩, ⟨[], [], [0, 1], [], fun _ => .bool ((((len y218) != 1))), false⟩, ⟨[], [], [0, 1, 2], [], fun _ => .bool ((((len y218) != 1))), false⟩, ⟨[], [], [0, 1, 2, 3], [], fun _ => .bool y210, false⟩, ⟨[], [], [0, 1, 2, 3], [], fun _ => .pointer (some (pa201.add 0)), false⟩, ⟨[], [2], [0, 1, 2, 3, 5], [], fun _ => .int .i64 y194.State, false⟩, ⟨[], [], [0, 1, 2, 3, 5, 6], [], fun _ => .bool (((y194.State == 2))), false⟩, ⟨[], [], [0, 1, 2, 3, 5, 6, 7], [], fun _ => .bool (((y194.State == 2))), false⟩, ⟨[], [], [0, 1, 2, 3, 5, 6, 7, 8], [], fun _ => undef, true⟩, ⟨[], [], [0, 1, 2, 3, 5, 6, 7, 8, 9], [], fun _ => undef, true⟩, ⟨[], [], [0, 1, 2, 3, 5, 6, 7, 8], [], fun _ => undef, true⟩, ⟨[], [], [0, 1, 2, 3, 5, 6, 7, 8, 11], [], fun _ => undef, true⟩, ⟨[], [], [0, 1, 2, 3, 5, 6, 7, 8, 11, 12], [], fun _ => undef, true⟩, ⟨[], [], [0, 1, 2, 3, 5, 6, 7, 8, 9, 10, 11, 12, 13], [], fun _ => undef, true⟩, ⟨[], [], [0, 1, 2, 3, 5, 6, 7, 8, 9, 10, 11, 12, 13, 14], [], fun _ => undef, true⟩, ⟨[], [], [0, 1, 2, 3, 5, 6, 7, 8, 9, 10, 11, 12, 13, 14, 15], [], fun _ => .bool false, false⟩, ⟨[], [], [0, 1, 2, 3, 4, 5, 6, 7, 8, 9, 10, 11, 12, 13, 14, 15, 16], [], fun _ => .bool ((!decide (y210 = false))), false⟩, ⟨[], [], [0, 1, 2, 3, 4, 5, 6, 7, 8, 9, 10, 11, 12, 13, 14, 15, 16, 17], [], fun _ => .bool ((!decide (y210 = false))), false⟩, ⟨[], [], [0, 1, 2, 3, 4, 5, 6, 7, 8, 9, 10, 11, 12, 13, 14, 15, 16, 17, 18], [], fun _ => .bool ((!decide (y210 = false))), false⟩, ⟨[], [], [0, 1, 2, 3, 4, 5, 6, 7, 8, 9, 10, 11, 12, 13, 14, 15, 16, 17, 18, 19], [], fun _ => .bool y210, false⟩, ⟨[], [], [0, 1, 2, 3, 4, 5, 6, 7, 8, 9, 10, 11, 12, 13, 14, 15, 16, 17, 18, 19, 20], [], fun _ => .bool y210, false⟩, ⟨[], [], [0, 1, 2, 3, 4, 5, 6, 7, 8, 9, 10, 11, 12, 13, 14, 15, 16, 17, 18, 19, 20, 21], [], fun _ => .int .i64 y209, false⟩, ⟨[], [], [0, 1, 2, 3, 4, 5, 6, 7, 8, 9, 10, 11, 12, 13, 14, 15, 16, 17, 18, 19, 20, 21], [], fun _ => .pointer (some (pa27.add 1)), false⟩, ⟨[], [3], [0, 1, 2, 3, 4, 5, 6, 7, 8, 9, 10, 11, 12, 13, 14, 15, 16, 17, 18, 19, 20, 21, 23], [], fun _ => u22, false⟩, ⟨[], [], [0, 1, 2, 3, 4, 5, 6, 7, 8, 9, 10, 11, 12, 13, 14, 15, 16, 17, 18, 19, 20, 21], [], fun _ => v226, false⟩, ⟨[], [1], [0, 1, 2, 3, 4, 5, 6, 7, 8, 9, 10, 11, 12, 13, 14, 15, 16, 17, 18, 19, 20, 21, 25], [26], fun x_ => .pointer (some (pOf (x_.getD 0 undef))), false⟩, ⟨[], [4], [0, 1, 2, 3, 4, 5, 6, 7, 8, 9, 10, 11, 12, 13, 14, 15, 16, 17, 18, 19, 20, 21, 25, 26], [], fun _ => .int .i64 y326, false⟩, ⟨[], [0], [0, 1, 2, 3, 4, 5, 6, 7, 8, 9, 10, 11, 12, 13, 14, 15, 16, 17, 18, 19, 20, 21, 23, 24, 25, 26, 27], [28], fun x_ => .pointer (some (pOf (x_.getD 0 undef))), false⟩, ⟨[], [], [0, 1, 2, 3, 4, 5, 6, 7, 8, 9, 10, 11, 12, 13, 14, 15, 16, 17, 18, 19, 20, 21, 23, 24, 25, 26, 27, 28], [28], fun x_ => .pointer (some ((pOf (x_.getD 0 undef)).add 1)), false⟩, ⟨[], [6], [0, 1, 2, 3, 4, 5, 6, 7, 8, 9, 10, 11, 12, 13, 14, 15, 16, 17, 18, 19, 20, 21, 23, 24, 25, 26, 27, 28, 29], [], fun _ => .int .i64 y331.A, false⟩, ⟨[], [], [0, 1, 2, 3, 4, 5, 6, 7, 8, 9, 10, 11, 12, 13, 14, 15, 16, 17, 18, 19, 20, 21, 22, 23, 24, 25, 26, 27, 28, 29, 30], [], fun _ => .bool (((y209 != y331.A))), false⟩, ⟨[], [], [0, 1, 2, 3, 4, 5, 6, 7, 8, 9, 10, 11, 12, 13, 14, 15, 16, 17, 18, 19, 20, 21, 22, 23, 24, 25, 26, 27, 28, 29, 30, 31], [], fun _ => .bool (((y209 != y331.A))), false⟩, ⟨[], [], [0, 1, 2, 3, 4, 5, 6, 7, 8, 9, 10, 11, 12, 13, 14, 15, 16, 17, 18, 19, 20, 21, 22, 23, 24, 25, 26, 27, 28, 29, 30, 31, 32], [], fun _ => .bool (((y209 != y331.A))), false⟩] [] hE rfl (by kernel_rfl) (by kernel_rfl) ⟨h21.evo ev_ rfl, h225.evo ev_ rfl, hb205.evo ev_ rfl, hb31.evo ev_ rfl, trivial⟩ ⟨Ob.pv rfl rfl (fun _ => rfl) rfl (fun _ _ _ => trivial), ?_, Ob.pv rfl rfl (fun _ => rfl) rfl (fun _ _ _ => trivial), Ob.pv rfl rfl (fun _ => rfl) rfl (fun _ _ _ => trivial), ?_, ?_, ?_, ?_, ?_, ?_, ?_, ?_, ?_, ?_, ?_, ?_, ?_, ?_, ?_, Ob.pv rfl rfl (fun _ => rfl) rfl (fun _ _ _ => trivial), ?_, ?_, ?_, ?_, ?_, ?_, ?_, ?_, ?_, ?_, ?_, ?_, ?_, ?_, trivial⟩ ?_
       ·intro vs336 o_ w_ hE h225
        have h225 : Ow 3 o_ 129 [] w_ v226 y218 := h225
        refine OW.imp (OW.fr (L' := [(77, v226)]) ⟨rfl, trivial⟩ (OW.len Try.underlying22 rfl h225.rv)) ?_
        rintro _ _ ⟨rfl, rfl⟩
        exact ⟨_, Evo.refl _ _ _ _, rfl, trivial⟩
       ·intro vs336 o_ w_ hE 
        refine ⟨⟨_, rfl, congrArg (fun b => some (Value.bool b)) hc235⟩, ?_⟩
        refine OW.imp (OW.fr (L' := [(11, .bool y210)]) ⟨rfl, trivial⟩ (OW.pv (v := (.bool y210)) rfl)) ?_
        rintro _ _ ⟨rfl, rfl⟩
        exact ⟨_, Evo.refl _ _ _ _, rfl, trivial⟩
       ·intro vs336 o_ w_ hE 
        refine ⟨⟨_, rfl, congrArg (fun b => some (Value.bool b)) hc235⟩, ?_⟩
        refine OW.imp (OW.fr (L' := [(9, .pointer (some pa201))]) ⟨rfl, trivial⟩ (OW.fldAddr (FldOk.at f64_0) rfl)) ?_
        rintro _ _ ⟨rfl, rfl⟩
        exact ⟨_, Evo.refl _ _ _ _, rfl, trivial⟩
       ·intro vs336 o_ w_ hE hb205
        have hb205 : Bk o_ 126 w_ pa201 [.int .i64 y194.State, .int .i64 y194.Since, .int .i64 y194.Frequency, .int .i64 y194.Phase] := hb205
        refine ⟨⟨_, rfl, congrArg (fun b => some (Value.bool b)) hc235⟩, ?_⟩
        refine OW.imp (OW.fr (L' := [(82, .pointer (some (pa201.add 0)))]) ⟨rfl, trivial⟩ (OW.loadK (off := 0) Int (.int .i64 y194.State) ty3 rfl hb205 rfl rfl)) ?_
        rintro _ _ ⟨rfl, rfl⟩
        exact ⟨_, Evo.refl _ _ _ _, rfl, trivial⟩
       ·intro vs336 o_ w_ hE 
        refine ⟨⟨_, rfl, congrArg (fun b => some (Value.bool b)) hc235⟩, ?_⟩
        refine OW.imp (OW.fr (L' := [(83, .int .i64 y194.State)]) ⟨rfl, trivial⟩ (OW.pv (v := (.bool (((y194.State == 2))))) rfl)) ?_
        rintro _ _ ⟨rfl, rfl⟩
        exact ⟨_, Evo.refl _ _ _ _, rfl, trivial⟩
       ·intro vs336 o_ w_ hE 
        refine ⟨⟨_, rfl, congrArg (fun b => some (Value.bool b)) hc235⟩, ?_⟩
        refine OW.imp (OW.fr (L' := [(84, .bool (((y194.State == 2))))]) ⟨rfl, trivial⟩ (OW.pv (v := (.bool (((y194.State == 2))))) rfl)) ?_
        rintro _ _ ⟨rfl, rfl⟩
        exact ⟨_, Evo.refl _ _ _ _, rfl, trivial⟩
       ·intro vs336 o_ w_ hE 
        exact ⟨⟨_, rfl, .inl (congrArg (fun b => some (Value.bool b)) hc248)⟩, rfl, trivial⟩
       ·intro vs336 o_ w_ hE 
        exact ⟨⟨_, rfl, .inl (congrArg (fun b => some (Value.bool b)) hc248)⟩, rfl, trivial⟩
       ·intro vs336 o_ w_ hE 
        exact ⟨⟨_, rfl, .inl (congrArg (fun b => some (Value.bool b)) hc248)⟩, rfl, trivial⟩
       ·intro vs336 o_ w_ hE 
        exact ⟨⟨_, rfl, .inl (congrArg (fun b => some (Value.bool b)) hc248)⟩, rfl, trivial⟩
       ·intro vs336 o_ w_ hE 
        exact ⟨⟨_, rfl, .inl (congrArg (fun b => some (Value.bool b)) hc248)⟩, rfl, trivial⟩
       ·intro vs336 o_ w_ hE 
        exact ⟨⟨_, rfl, .inl (congrArg (fun b => some (Value.bool b)) hc248)⟩, rfl, trivial⟩
       ·intro vs336 o_ w_ hE 
        exact ⟨⟨_, rfl, .inl (congrArg (fun b => some (Value.bool b)) hc248)⟩, rfl, trivial⟩
       ·intro vs336 o_ w_ hE 
        refine ⟨⟨_, rfl, congrArg (fun b => some (Value.bool b)) hc235⟩, ?_⟩
        refine OW.imp (OW.fr (L' := [(85, .bool (((y194.State == 2)))), (92, undef)]) ⟨rfl, rfl, trivial⟩ (OW.pickF rfl hc248 rfl)) ?_
        rintro _ _ ⟨rfl, rfl⟩
        exact ⟨_, Evo.refl _ _ _ _, rfl, trivial⟩
       ·intro vs336 o_ w_ hE 
        refine ⟨⟨_, rfl, congrArg (fun b => some (Value.bool b)) hc235⟩, ?_⟩
        refine OW.imp (OW.fr (L' := [(81, .bool y210), (93, .bool false)]) ⟨rfl, rfl, trivial⟩ (OW.neq (x := y210) (y := false) (S := fun _ => True) (S' := fun _ => True) eq4 rfl rfl (rv_bool.2 rfl) (rv_bool.2 rfl))) ?_
        rintro _ _ ⟨rfl, rfl⟩
        exact ⟨_, Evo.refl _ _ _ _, rfl, trivial⟩
       ·intro vs336 o_ w_ hE 
        refine OW.imp (OW.fr (L' := [(80, .bool ((((len y218) != 1)))), (94, .bool ((!decide (y210 = false))))]) ⟨rfl, rfl, trivial⟩ (OW.pickF rfl hc235 rfl)) ?_
        rintro _ _ ⟨rfl, rfl⟩
        exact ⟨_, Evo.refl _ _ _ _, rfl, trivial⟩
       ·intro vs336 o_ w_ hE 
        refine ⟨⟨_, rfl, congrArg (fun b => some (Value.bool b)) hc313⟩, ?_⟩
        refine OW.imp (OW.fr (L' := [(11, .bool y210)]) ⟨rfl, trivial⟩ (OW.pv (v := (.bool y210)) rfl)) ?_
        rintro _ _ ⟨rfl, rfl⟩
        exact ⟨_, Evo.refl _ _ _ _, rfl, trivial⟩
       ·intro vs336 o_ w_ hE 
        refine ⟨⟨_, rfl, congrArg (fun b => some (Value.bool b)) hc313⟩, ?_⟩
        refine OW.imp (OW.fr (L' := [(97, .bool y210)]) ⟨rfl, trivial⟩ (OW.pv (v := (.bool y210)) rfl)) ?_
        rintro _ _ ⟨rfl, rfl⟩
        exact ⟨_, Evo.refl _ _ _ _, rfl, trivial⟩
       ·intro vs336 o_ w_ hE 
        refine ⟨⟨_, rfl, congrArg (fun b => some (Value.bool b)) hc325⟩, ?_⟩
        refine OW.imp (OW.fr (L' := [(10, .int .i64 y209)]) ⟨rfl, trivial⟩ (OW.pv (v := (.int .i64 y209)) rfl)) ?_
        rintro _ _ ⟨rfl, rfl⟩
        exact ⟨_, Evo.refl _ _ _ _, rfl, trivial⟩
       ·intro vs336 o_ w_ hE 
        refine ⟨⟨_, rfl, congrArg (fun b => some (Value.bool b)) hc325⟩, ?_⟩
        refine OW.imp (OW.fr (L' := [(4, .pointer (some pa27))]) ⟨rfl, trivial⟩ (OW.fldAddr (FldOk.at f39_1) rfl)) ?_
        rintro _ _ ⟨rfl, rfl⟩
        exact ⟨_, Evo.refl _ _ _ _, rfl, trivial⟩
       ·intro vs336 o_ w_ hE hb31
        have hb31 : Bk o_ 105 w_ pa27 [.int .i64 y13.Buses, u22, u24, u26, .int .i64 y13.Phase, .int .i64 y13.Frequency] := hb31
        refine ⟨⟨_, rfl, congrArg (fun b => some (Value.bool b)) hc325⟩, ?_⟩
        refine OW.imp (OW.fr (L' := [(100, .pointer (some (pa27.add 1)))]) ⟨rfl, trivial⟩ (OW.loadK (off := 1) (List Breaker) (u22) ty35 rfl hb31 rfl rfl)) ?_
        rintro _ _ ⟨rfl, rfl⟩
        exact ⟨_, Evo.refl _ _ _ _, rfl, trivial⟩
       ·intro vs336 o_ w_ hE 
        refine ⟨⟨_, rfl, congrArg (fun b => some (Value.bool b)) hc325⟩, ?_⟩
        refine OW.imp (OW.fr (L' := [(12, v226)]) ⟨rfl, trivial⟩ (OW.pv (v := v226) rfl)) ?_
        rintro _ _ ⟨rfl, rfl⟩
        exact ⟨_, Evo.refl _ _ _ _, rfl, trivial⟩
       ·intro vs336 o_ w_ hE h225
        have h225 : Ow 3 o_ 129 [] w_ v226 y218 := h225
        refine ⟨⟨_, rfl, congrArg (fun b => some (Value.bool b)) hc325⟩, ?_⟩
        refine OW.imp (OW.fr (L' := [(102, v226)]) ⟨rfl, trivial⟩ (OW.indexAddrO Try.underlying22 ty3 rfl h225 rfl q330)) ?_
        rintro _ _ ⟨rfl, ⟨pa327, hv_, hp328, he329⟩⟩
        subst hv_
        exact ⟨_, Evo.refl _ _ _ _, rfl, hp328, he329, trivial⟩
       ·intro vs336 o_ w_ hE hp328
        have hp328 : PtrO o_ 129 [] w_ (pOf (vs336 26)) y326 := hp328
        refine ⟨⟨_, rfl, congrArg (fun b => some (Value.bool b)) hc325⟩, ?_⟩
        refine OW.imp (OW.fr (L' := [(103, .pointer (some (pOf (vs336 26))))]) ⟨rfl, trivial⟩ (OW.loadI ty3 rfl hp328.at)) ?_
        rintro _ _ ⟨rfl, rfl⟩
        exact ⟨_, Evo.refl _ _ _ _, rfl, trivial⟩
       ·intro vs336 o_ w_ hE h21
        have h21 : Ow 48 o_ 102 [] w_ u22 y13.Breakers := h21
        refine ⟨⟨_, rfl, congrArg (fun b => some (Value.bool b)) hc325⟩, ?_⟩
        refine OW.imp (OW.fr (L' := [(101, u22), (104, .int .i64 y326)]) ⟨rfl, rfl, trivial⟩ (OW.indexAddrO Try.underlying35 ty48 rfl h21 rfl q335)) ?_
        rintro _ _ ⟨rfl, ⟨pa332, hv_, hp333, he334⟩⟩
        subst hv_
        exact ⟨_, Evo.refl _ _ _ _, rfl, hp333, he334, trivial⟩
       ·intro vs336 o_ w_ hE 
        refine ⟨⟨_, rfl, congrArg (fun b => some (Value.bool b)) hc325⟩, ?_⟩
        refine OW.imp (OW.fr (L' := [(105, .pointer (some (pOf (vs336 28))))]) ⟨rfl, trivial⟩ (OW.fldAddr (FldOk.at f48_1) rfl)) ?_
        rintro _ _ ⟨rfl, rfl⟩
        exact ⟨_, Evo.refl _ _ _ _, rfl, trivial⟩
       ·intro vs336 o_ w_ hE hp333
        have hp333 : PtrO o_ 102 [] w_ (pOf (vs336 28)) y331 := hp333
        refine ⟨⟨_, rfl, congrArg (fun b => some (Value.bool b)) hc325⟩, ?_⟩
        refine OW.imp (OW.fr (L' := [(106, .pointer (some ((pOf (vs336 28)).add 1)))]) ⟨rfl, trivial⟩ (OW.loadI ty3 rfl (hp333.fld f48_1).at)) ?_
        rintro _ _ ⟨rfl, rfl⟩
        exact ⟨_, Evo.refl _ _ _ _, rfl, trivial⟩
       ·intro vs336 o_ w_ hE 
        refine ⟨⟨_, rfl, congrArg (fun b => some (Value.bool b)) hc325⟩, ?_⟩
        refine OW.imp (OW.fr (L' := [(99, .int .i64 y209), (107, .int .i64 y331.A)]) ⟨rfl, rfl, trivial⟩ (OW.pv (v := (.bool (((y209 != y331.A))))) rfl)) ?_
        rintro _ _ ⟨rfl, rfl⟩
        exact ⟨_, Evo.refl _ _ _ _, rfl, trivial⟩
       ·intro vs336 o_ w_ hE 
        refine ⟨⟨_, rfl, congrArg (fun b => some (Value.bool b)) hc313⟩, ?_⟩
        refine OW.imp (OW.fr (L' := [(98, .bool y210), (108, .bool (((y209 != y331.A))))]) ⟨rfl, rfl, trivial⟩ (OW.pickT rfl hc325 rfl)) ?_
        rintro _ _ ⟨rfl, rfl⟩
        exact ⟨_, Evo.refl _ _ _ _, rfl, trivial⟩
       ·intro vs336 o_ w_ hE 
        refine OW.imp (OW.fr (L' := [(96, .bool ((!decide (y210 = false)))), (109, .bool (((y209 != y331.A))))]) ⟨rfl, rfl, trivial⟩ (OW.pickF rfl hc313 rfl)) ?_
        rintro _ _ ⟨rfl, rfl⟩
        exact ⟨_, Evo.refl _ _ _ _, rfl, trivial⟩
       ·intro vs336 o338 w337 hE h21 h225 hb205 hb31 hp328 he329 hp333 he334
        obtain ⟨hE, evT_⟩ := hE
        have h21 : Ow 48 o338 102 [] w337 u22 y13.Breakers := h21
        have h225 : Ow 3 o338 129 [] w337 v226 y218 := h225
        have hb205 : Bk o338 126 w337 pa201 [.int .i64 y194.State, .int .i64 y194.Since, .int .i64 y194.Frequency, .int .i64 y194.Phase] := hb205
        have hb31 : Bk o338 105 w337 pa27 [.int .i64 y13.Buses, u22, u24, u26, .int .i64 y13.Phase, .int .i64 y13.Frequency] := hb31
        have hp328 : PtrO o338 129 [] w337 (pOf (vs336 26)) y326 := hp328
        have he329 : EPtr v226 1 0 (pOf (vs336 26)) := he329
        have hp333 : PtrO o338 102 [] w337 (pOf (vs336 28)) y331 := hp333
        have he334 : EPtr u22 3 y326 (pOf (vs336 28)) := he334
        have h10 := h10.evo evT_ rfl
        have h23 := h23.evo evT_ rfl
        have h25 := h25.evo evT_ rfl
        have h47 := h47.evo evT_ rfl
        have h49 := h49.evo evT_ rfl
        have h51 := h51.evo evT_ rfl
        have h53 := h53.evo evT_ rfl
        have hb59 := hb59.evo evT_ rfl
        have hs := hs.evo evT_ rfl
        have e339 := Option.some.inj q320
        obtain ⟨e340, e341⟩ := Prod.mk.inj e339
        subst e340 e341
        exact NK.sb (hJ323 w337 o338 hE h10 h21 h23 h25 h47 h49 h51 h53 hb205 hb31 hb59 hs) ⟨rfl, rfl, rfl, rfl, rfl, rfl, rfl, rfl, rfl, rfl, rfl, rfl, rfl, rfl, rfl, rfl, rfl, rfl, rfl, rfl, rfl, rfl, rfl, trivial⟩
      ·have q320 := iteF hc325 q320
       have ev_ := Evo.drew o221 w220
       refine CW.anyS (N := []) hmix [sOw none none [] 3 129 [] (fun _ => v226) y218, sBk none none [] 126 (fun _ => pa201) (fun _ => [.int .i64 y194.State, .int .i64 y194.Since, .int .i64 y194.Frequency, .int .i64 y194.Phase])] [⟨[], [], [], [], fun _ => v226, false⟩, ⟨[], [0], [0], [], fun _ => .int .i64 (len y218), false⟩, ⟨[], [], [0, 1], [], fun _ => .bool ((((len y218) != 1))), false⟩, ⟨[], [], [0, 1, 2], [], fun _ => .bool ((((len y218) != 1))), false⟩, ⟨[], [], [0, 1, 2, 3], [], fun _ => .bool y210, false⟩, ⟨[], [], [0, 1, 2, 3], [], fun _ => .pointer (some (pa201.add 0)), false⟩, ⟨[], [1], [0, 1, 2, 3, 5], [], fun _ => .int .i64 y194.State, false⟩, ⟨[], [], [0, 1, 2, 3, 5, 6], [], fun _ => .bool (((y194.State == 2))), false⟩, ⟨[], [], [0, 1, 2, 3, 5, 6, 7], [], fun _ => .bool (((y194.State == 2))), false⟩, ⟨[], [], [0, 1, 2, 3, 5, 6, 7, 8], [], fun _ => undef, true⟩, ⟨[], [], [0, 1, 2, 3, 5, 6, 7, 8, 9], [], fun _ => undef, true⟩, ⟨[], [], [0, 1, 2, 3, 5, 6, 7, 8], [], fun _ => undef, true⟩, ⟨[], [], [0, 1, 2, 3, 5, 6, 7, 8, 11], [], fun _ => undef, true⟩, ⟨[], [], [0, 1, 2, 3, 5, 6, 7, 8, 11, 12], [], fun _ => undef, true⟩, ⟨[], [], [0, 1, 2, 3, 5, 6, 7, 8, 9, 10, 11, 12, 13], [], fun _ => undef, true⟩, ⟨[], [], [0, 1, 2, 3, 5, 6, 7, 8, 9, 10, 11, 12, 13, 14], [], fun _ => undef, true⟩, ⟨[], [], [0, 1, 2, 3, 5, 6, 7, 8, 9, 10, 11, 12, 13, 14, 15], [], fun _ => .bool false, false⟩, ⟨[], [], [0, 1, 2, 3, 4, 5, 6, 7, 8, 9, 10, 11, 12, 13, 14, 15, 16], [], fun _ => .bool ((!decide (y210 = false))), false⟩, ⟨[], [], [0, 1, 2, 3, 4, 5, 6, 7, 8, 9, 10, 11, 12, 13, 14, 15, 16, 17], [], fun _ => .bool ((!decide (y210 = false))), false⟩, ⟨[], [], [0, 1, 2, 3, 4, 5, 6, 7, 8, 9, 10, 11, 12, 13, 14, 15, 16, 17, 18], [], fun _ => .bool ((!decide (y210 = false))), false⟩, ⟨[], [], [0, 1, 2, 3, 4, 5, 6, 7, 8, 9, 10, 11, 12, 13, 14, 15, 16, 17, 18, 19], [], fun _ => .bool y210, false⟩, ⟨[], [], [0, 1, 2, 3, 4, 5, 6, 7, 8, 9, 10, 11, 12, 13, 14, 15, 16, 17, 18, 19, 20], [], fun _ => .bool y210, false⟩, ⟨[], [], [0, 1, 2, 3, 4, 5, 6, 7, 8, 9, 10, 11, 12, 13, 14, 15, 16, 17, 18, 19, 20, 21], [], fun _ => undef, true⟩, ⟨[], [], [0, 1, 2, 3, 4, 5, 6, 7, 8, 9, 10, 11, 12, 13, 14, 15, 16, 17, 18, 19, 20, 21], [], fun _ => undef, true⟩, ⟨[], [], [0, 1, 2, 3, 4, 5, 6, 7, 8, 9, 10, 11, 12, 13, 14, 15, 16, 17, 18, 19, 20, 21, 23], [], fun _ => undef, true⟩, ⟨[], [], [0, 1, 2, 3, 4, 5, 6, 7, 8, 9, 10, 11, 12, 13, 14, 15, 16, 17, 18, 19, 20, 21], [], fun _ => undef, true⟩, ⟨[], [], [0, 1, 2, 3, 4, 5, 6, 7, 8, 9, 10, 11, 12, 13, 14, 15, 16, 17, 18, 19, 20, 21, 25], [], fun _ => undef, true⟩, ⟨[], [], [0, 1, 2, 3, 4, 5, 6, 7, 8, 9, 10, 11, 12, 13, 14, 15, 16, 17, 18, 19, 20, 21, 25, 26], [], fun _ => undef, true⟩, ⟨[], [], [0, 1, 2, 3, 4, 5, 6, 7, 8, 9, 10, 11, 12, 13, 14, 15, 16, 17, 18, 19, 20, 21, 23, 24, 25, 26, 27], [], fun _ => undef, true⟩, ⟨[], [], [0, 1, 2, 3, 4, 5, 6, 7, 8, 9, 10, 11, 12, 13, 14, 15, 16, 17, 18, 19, 20, 21, 23, 24, 25, 26, 27, 28], [], fun _ => undef, true⟩, ⟨[], [], [0, 1, 2, 3, 4, 5, 6, 7, 8, 9, 10, 11, 12, 13, 14, 15, 16, 17, 18, 19, 20, 21, 23, 24, 25, 26, 27, 28, 29], [], fun _ => undef, true⟩, ⟨[], [], [0, 1, 2, 3, 4, 5, 6, 7, 8, 9, 10, 11, 12, 13, 14, 15, 16, 17, 18, 19, 20, 21, 22, 23, 24, 25, 26, 27, 28, 29, 30], [], fun _ => undef, true⟩, ⟨[], [], [0, 1, 2, 3, 4, 5, 6, 7, 8, 9, 10, 11, 12, 13, 14, 15, 16, 17, 18, 19, 20, 21, 22, 23, 24, 25, 26, 27, 28, 29, 30, 31], [], fun _ => .bool false, false⟩, ⟨[], [], [0, 1, 2, 3, 4, 5, 6, 7, 8, 9, 10, 11, 12, 13, 14, 15, 16, 17, 18, 19, 20, 21, 22, 23, 24, 25, 26, 27, 28, 29, 30, 31, 32], [], fun _ => .bool false, false⟩] [] hE rfl (by kernel_rfl) (by kernel_rfl) ⟨h225.evo ev_ rfl, hb205.evo ev_ rfl, trivial⟩ ⟨Ob.pv rfl rfl (fun _ => rfl) rfl (fun _ _ _ => trivial), ?_, Ob.pv rfl rfl (fun _ => rfl) rfl (fun _ _ _ => trivial), Ob.pv rfl rfl (fun _ => rfl) rfl (fun _ _ _ => trivial), ?_, ?_, ?_, ?_, ?_, ?_, ?_, ?_, ?_, ?_, ?_, ?_, ?_, ?_, ?_, Ob.pv rfl rfl (fun _ => rfl) rfl (fun _ _ _ => trivial), ?_, ?_, ?_, ?_, ?_, ?_, ?_, ?_, ?_, ?_, ?_, ?_, ?_, ?_, trivial⟩ ?_
       ·intro vs342 o_ w_ hE h225
        have h225 : Ow 3 o_ 129 [] w_ v226 y218 := h225
        refine OW.imp (OW.fr (L' := [(77, v226)]) ⟨rfl, trivial⟩ (OW.len Try.underlying22 rfl h225.rv)) ?_
        rintro _ _ ⟨rfl, rfl⟩
        exact ⟨_, Evo.refl _ _ _ _, rfl, trivial⟩
       ·intro vs342 o_ w_ hE 
        refine ⟨⟨_, rfl, congrArg (fun b => some (Value.bool b)) hc235⟩, ?_⟩
        refine OW.imp (OW.fr (L' := [(11, .bool y210)]) ⟨rfl, trivial⟩ (OW.pv (v := (.bool y210)) rfl)) ?_
        rintro _ _ ⟨rfl, rfl⟩
        exact ⟨_, Evo.refl _ _ _ _, rfl, trivial⟩
       ·intro vs342 o_ w_ hE 
        refine ⟨⟨_, rfl, congrArg (fun b => some (Value.bool b)) hc235⟩, ?_⟩
        refine OW.imp (OW.fr (L' := [(9, .pointer (some pa201))]) ⟨rfl, trivial⟩ (OW.fldAddr (FldOk.at f64_0) rfl)) ?_
        rintro _ _ ⟨rfl, rfl⟩
        exact ⟨_, Evo.refl _ _ _ _, rfl, trivial⟩
       ·intro vs342 o_ w_ hE hb205
        have hb205 : Bk o_ 126 w_ pa201 [.int .i64 y194.State, .int .i64 y194.Since, .int .i64 y194.Frequency, .int .i64 y194.Phase] := hb205
        refine ⟨⟨_, rfl, congrArg (fun b => some (Value.bool b)) hc235⟩, ?_⟩
        refine OW.imp (OW.fr (L' := [(82, .pointer (some (pa201.add 0)))]) ⟨rfl, trivial⟩ (OW.loadK (off := 0) Int (.int .i64 y194.State) ty3 rfl hb205 rfl rfl)) ?_
        rintro _ _ ⟨rfl, rfl⟩
        exact ⟨_, Evo.refl _ _ _ _, rfl, trivial⟩
       ·intro vs342 o_ w_ hE 
        refine ⟨⟨_, rfl, congrArg (fun b => some (Value.bool b)) hc235⟩, ?_⟩
        refine OW.imp (OW.fr (L' := [(83, .int .i64 y194.State)]) ⟨rfl, trivial⟩ (OW.pv (v := (.bool (((y194.State == 2))))) rfl)) ?_
        rintro _ _ ⟨rfl, rfl⟩
        exact ⟨_, Evo.refl _ _ _ _, rfl, trivial⟩
       ·intro vs342 o_ w_ hE 
        refine ⟨⟨_, rfl, congrArg (fun b => some (Value.bool b)) hc235⟩, ?_⟩
        refine OW.imp (OW.fr (L' := [(84, .bool (((y194.State == 2))))]) ⟨rfl, trivial⟩ (OW.pv (v := (.bool (((y194.State == 2))))) rfl)) ?_
        rintro _ _ ⟨rfl, rfl⟩
        exact ⟨_, Evo.refl _ _ _ _, rfl, trivial⟩
       ·intro vs342 o_ w_ hE 
        exact ⟨⟨_, rfl, .inl (congrArg (fun b => some (Value.bool b)) hc248)⟩, rfl, trivial⟩
       ·intro vs342 o_ w_ hE 
        exact ⟨⟨_, rfl, .inl (congrArg (fun b => some (Value.bool b)) hc248)⟩, rfl, trivial⟩
       ·intro vs342 o_ w_ hE 
        exact ⟨⟨_, rfl, .inl (congrArg (fun b => some (Value.bool b)) hc248)⟩, rfl, trivial⟩
       ·intro vs342 o_ w_ hE 
        exact ⟨⟨_, rfl, .inl (congrArg (fun b => some (Value.bool b)) hc248)⟩, rfl, trivial⟩
       ·intro vs342 o_ w_ hE 
        exact ⟨⟨_, rfl, .inl (congrArg (fun b => some (Value.bool b)) hc248)⟩, rfl, trivial⟩
       ·intro vs342 o_ w_ hE 
        exact ⟨⟨_, rfl, .inl (congrArg (fun b => some (Value.bool b)) hc248)⟩, rfl, trivial⟩
       ·intro vs342 o_ w_ hE 
        exact ⟨⟨_, rfl, .inl (congrArg (fun b => some (Value.bool b)) hc248)⟩, rfl, trivial⟩
       ·intro vs342 o_ w_ hE 
        refine ⟨⟨_, rfl, congrArg (fun b => some (Value.bool b)) hc235⟩, ?_⟩
        refine OW.imp (OW.fr (L' := [(85, .bool (((y194.State == 2)))), (92, undef)]) ⟨rfl, rfl, trivial⟩ (OW.pickF rfl hc248 rfl)) ?_
        rintro _ _ ⟨rfl, rfl⟩
        exact ⟨_, Evo.refl _ _ _ _, rfl, trivial⟩
       ·intro vs342 o_ w_ hE 
        refine ⟨⟨_, rfl, congrArg (fun b => some (Value.bool b)) hc235⟩, ?_⟩
        refine OW.imp (OW.fr (L' := [(81, .bool y210), (93, .bool false)]) ⟨rfl, rfl, trivial⟩ (OW.neq (x := y210) (y := false) (S := fun _ => True) (S' := fun _ => True) eq4 rfl rfl (rv_bool.2 rfl) (rv_bool.2 rfl))) ?_
        rintro _ _ ⟨rfl, rfl⟩
        exact ⟨_, Evo.refl _ _ _ _, rfl, trivial⟩
       ·intro vs342 o_ w_ hE 
        refine OW.imp (OW.fr (L' := [(80, .bool ((((len y218) != 1)))), (94, .bool ((!decide (y210 = false))))]) ⟨rfl, rfl, trivial⟩ (OW.pickF rfl hc235 rfl)) ?_
        rintro _ _ ⟨rfl, rfl⟩
        exact ⟨_, Evo.refl _ _ _ _, rfl, trivial⟩
       ·intro vs342 o_ w_ hE 
        refine ⟨⟨_, rfl, congrArg (fun b => some (Value.bool b)) hc313⟩, ?_⟩
        refine OW.imp (OW.fr (L' := [(11, .bool y210)]) ⟨rfl, trivial⟩ (OW.pv (v := (.bool y210)) rfl)) ?_
        rintro _ _ ⟨rfl, rfl⟩
        exact ⟨_, Evo.refl _ _ _ _, rfl, trivial⟩
       ·intro vs342 o_ w_ hE 
        refine ⟨⟨_, rfl, congrArg (fun b => some (Value.bool b)) hc313⟩, ?_⟩
        refine OW.imp (OW.fr (L' := [(97, .bool y210)]) ⟨rfl, trivial⟩ (OW.pv (v := (.bool y210)) rfl)) ?_
        rintro _ _ ⟨rfl, rfl⟩
        exact ⟨_, Evo.refl _ _ _ _, rfl, trivial⟩
       ·intro vs342 o_ w_ hE 
        exact ⟨⟨_, rfl, .inl (congrArg (fun b => some (Value.bool b)) hc325)⟩, rfl, trivial⟩
       ·intro vs342 o_ w_ hE 
        exact ⟨⟨_, rfl, .inl (congrArg (fun b => some (Value.bool b)) hc325)⟩, rfl, trivial⟩
       ·intro vs342 o_ w_ hE 
        exact ⟨⟨_, rfl, .inl (congrArg (fun b => some (Value.bool b)) hc325)⟩, rfl, trivial⟩
       ·intro vs342 o_ w_ hE 
        exact ⟨⟨_, rfl, .inl (congrArg (fun b => some (Value.bool b)) hc325)⟩, rfl, trivial⟩
       ·intro vs342 o_ w_ hE 
        exact ⟨⟨_, rfl, .inl (congrArg (fun b => some (Value.bool b)) hc325)⟩, rfl, trivial⟩
       ·intro vs342 o_ w_ hE 
        exact ⟨⟨_, rfl, .inl (congrArg (fun b => some (Value.bool b)) hc325)⟩, rfl, trivial⟩
       ·intro vs342 o_ w_ hE 
        exact ⟨⟨_, rfl, .inl (congrArg (fun b => some (Value.bool b)) hc325)⟩, rfl, trivial⟩
       ·intro vs342 o_ w_ hE 
        exact ⟨⟨_, rfl, .inl (congrArg (fun b => some (Value.bool b)) hc325)⟩, rfl, trivial⟩
       ·intro vs342 o_ w_ hE 
        exact ⟨⟨_, rfl, .inl (congrArg (fun b => some (Value.bool b)) hc325)⟩, rfl, trivial⟩
       ·intro vs342 o_ w_ hE 
        exact ⟨⟨_, rfl, .inl (congrArg (fun b => some (Value.bool b)) hc325)⟩, rfl, trivial⟩
       ·intro vs342 o_ w_ hE 
        refine ⟨⟨_, rfl, congrArg (fun b => some (Value.bool b)) hc313⟩, ?_⟩
        refine OW.imp (OW.fr (L' := [(98, .bool y210), (108, undef)]) ⟨rfl, rfl, trivial⟩ (OW.pickF rfl hc325 rfl)) ?_
        rintro _ _ ⟨rfl, rfl⟩
        exact ⟨_, Evo.refl _ _ _ _, rfl, trivial⟩
       ·intro vs342 o_ w_ hE 
        refine OW.imp (OW.fr (L' := [(96, .bool ((!decide (y210 = false)))), (109, .bool false)]) ⟨rfl, rfl, trivial⟩ (OW.pickF rfl hc313 rfl)) ?_
        rintro _ _ ⟨rfl, rfl⟩
        exact ⟨_, Evo.refl _ _ _ _, rfl, trivial⟩
       ·intro vs342 o344 w343 hE h225 hb205
        obtain ⟨hE, evT_⟩ := hE
        have h225 : Ow 3 o344 129 [] w343 v226 y218 := h225
        have hb205 : Bk o344 126 w343 pa201 [.int .i64 y194.State, .int .i64 y194.Since, .int .i64 y194.Frequency, .int .i64 y194.Phase] := hb205
        have h10 := h10.evo evT_ rfl
        have h21 := h21.evo evT_ rfl
        have h23 := h23.evo evT_ rfl
        have h25 := h25.evo evT_ rfl
        have h47 := h47.evo evT_ rfl
        have h49 := h49.evo evT_ rfl
        have h51 := h51.evo evT_ rfl
        have h53 := h53.evo evT_ rfl
        have hb31 := hb31.evo evT_ rfl
        have hb59 := hb59.evo evT_ rfl
        have hs := hs.evo evT_ rfl
        have e345 := Option.some.inj q320
        obtain ⟨e346, e347⟩ := Prod.mk.inj e345
        subst e346 e347
        exact NK.sb (hJ323 w343 o344 hE h10 h21 h23 h25 h47 h49 h51 h53 hb205 hb31 hb59 hs) ⟨rfl, rfl, rfl, rfl, rfl, rfl, rfl, rfl, rfl, rfl, rfl, rfl, rfl, rfl, rfl, rfl, rfl, rfl, rfl, rfl, rfl, rfl, rfl, trivial⟩
  ·have hx186 := iteF hc191 hx186
   refine CW.exit ?_
   exact NK.sb (hJ81 w182 o183 (hr187 _ (Option.some.inj hx186).symm) hE h10 h47 h49 h51 h53 hb59 hs) ⟨rfl, trivial⟩
 refine CW.sub (L' := [(4, .pointer (some pa27)), (5, .pointer (some pa55)), (26, u22), (27, .int .i64 (len y13.Breakers)), (28, .int .i64 0)]) ⟨rfl, rfl, rfl, rfl, rfl, trivial⟩ ?_
 refine CW.loop (dynposlaw15_BoardParts_L1 y13) (fun s_ L_ w348 => ∃ (o349 : Cls) (x68 : Int), x68 = s_ ∧ L_ = [(4, .pointer (some pa27)), (5, .pointer (some pa55)), (26, u22), (27, .int .i64 (len y13.Breakers)), (28, .int .i64 x68)] ∧ En w0 e0 o349 w348 ∧ Rv (In o349 [40]) w348 sv y3 ∧ Ow 48 o349 102 [] w348 u22 y13.Breakers ∧ Ow 83 o349 103 [] w348 u24 y13.Sources ∧ Ow 85 o349 104 [101] w348 u26 y13.Consumers ∧ Ow 4 o349 110 [] w348 u48 y39.Closed ∧ Ow 64 o349 111 [] w348 u50 y39.Sources ∧ Ow 3 o349 112 [] w348 u52 y39.Limits ∧ Ow 66 o349 113 [] w348 u54 y39.Broken ∧ Bk o349 105 w348 pa27 [.int .i64 y13.Buses, u22, u24, u26, .int .i64 y13.Phase, .int .i64 y13.Frequency] ∧ Bk o349 114 w348 pa55 [u48, u50, u52, u54] ∧ SrcC o349 100 w348 sb sv y3 st40) hl69 ?_ ?_
 ·exact ⟨o56, 0, rfl, rfl, hE, h10, h21, h23, h25, h47, h49, h51, h53, hb31, hb59, hs⟩
 intro K350 s_ L_ w348 hi_ x351 hx352 hr353 hk354
 obtain ⟨o349, x68, rfl, rfl, hE, h10, h21, h23, h25, h47, h49, h51, h53, hb31, hb59, hs⟩ := hi_
 rw [dynposlaw15_BoardParts_L1] at hx352
 refine CW.sr fun K355 hK355 => ?_
 refine WL.p (.bool ((decide (x68 < (len y13.Breakers))))) rfl rfl ?_
 refine WL.nx hK355 ?_
 refine CW.seq fun K356 hK356 => ?_
 refine CW.cond (b := (decide (x68 < (len y13.Breakers)))) rfl (fun hc357 => ?_) (fun hc357 => ?_)
 ·have hx352 := iteT hc357 hx352
  refine CW.skip ?_
  refine hK356 _ _ ?_
  refine CW.seq fun K358 hK358 => ?_
  refine CW.block ?_
  refine CW.sr fun K359 hK359 => ?_
  refine WL.p (.int .i64 x68) rfl rfl ?_
  obtain ⟨y360, q364, hx352⟩ := bindE hx352
  refine WL.stepP (OW.indexAddrO Try.underlying35 ty48 rfl h21 rfl q364) rfl fun _ ⟨pa361, hv_, hp362, he363⟩ => ?_
  subst hv_
  refine WL.stepP (OW.loadO ty48 rfl hp362) rfl fun v365 h366 => ?_
  obtain rfl := op48 h366
  refine WL.step (OW.allocK (o := o349) Breaker 119 [.int .i64 0, .int .i64 0, .int .i64 0] ty48 rfl) rfl ?_
  rintro _ w369 ⟨pa367, o368, rfl, ev370, hb371⟩
  have hE := hE.evo ev370 rfl rfl
  have h10 := h10.evo ev370 rfl
  have h21 := h21.evo ev370 rfl
  have h23 := h23.evo ev370 rfl
  have h25 := h25.evo ev370 rfl
  have h47 := h47.evo ev370 rfl
  have h49 := h49.evo ev370 rfl
  have h51 := h51.evo ev370 rfl
  have h53 := h53.evo ev370 rfl
  have hb31 := hb31.evo ev370 rfl
  have hb59 := hb59.evo ev370 rfl
  have hs := hs.evo ev370 rfl
  refine WL.p (.int .i64 x68) rfl rfl ?_
  refine WL.step0 (OW.storeK0 Breaker [.int .i64 y360.Kind, .int .i64 y360.A, .int .i64 y360.B] [.int .i64 y360.Kind, .int .i64 y360.A, .int .i64 y360.B] ty48 rfl rfl hb371 rfl ⟨rfl, rfl, rfl, trivial⟩ rfl rfl rfl) ?_
  rintro _ w372 ⟨ev373, hb371⟩
  have hE := hE.evo ev373 rfl rfl
  have h10 := h10.evo ev373 rfl
  have h21 := h21.evo ev373 rfl
  have h23 := h23.evo ev373 rfl
  have h25 := h25.evo ev373 rfl
  have h47 := h47.evo ev373 rfl
  have h49 := h49.evo ev373 rfl
  have h51 := h51.evo ev373 rfl
  have h53 := h53.evo ev373 rfl
  have hb31 := hb31.evo ev373 rfl
  have hb59 := hb59.evo ev373 rfl
  have hs := hs.evo ev373 rfl
  refine WL.nx hK359 ?_
  refine CW.sr fun K374 hK374 => ?_
  refine WL.stepE (OW.loadK0 Board (.agg #[.int .i64 y13.Buses, u22, u24, u26, .int .i64 y13.Phase, .int .i64 y13.Frequency]) ty39 rfl hb31 rfl rfl) rfl ?_
  refine WL.stepE (OW.fldAddr (FldOk.at f48_0) rfl) rfl ?_
  refine WL.stepE (OW.loadK (off := 0) Int (.int .i64 y360.Kind) ty3 rfl hb371 rfl rfl) rfl ?_
  refine WL.stepE (OW.fldAddr (FldOk.at f48_2) rfl) rfl ?_
  refine WL.stepE (OW.loadK (off := 2) Int (.int .i64 y360.B) ty3 rfl hb371 rfl rfl) rfl ?_
  obtain ⟨y375, q376, hx352⟩ := bindE hx352
  refine WL.step (OW.call Try.call28 rfl (board_Find_ok q376 (mk39 (x := y13) (h21.rv.sub (K' := [101, 102, 103, 104]) rfl) (h23.rv.sub (K' := [101, 102, 103, 104]) rfl) (h25.rv.sub (K' := [101, 102, 103, 104]) rfl)))) rfl ?_
  rintro v383 w377 ⟨o381, hn_, h382⟩
  obtain ⟨o378, ev379, hA380⟩ := adopt (o := o368) (ks := []) (Ks := [[101, 102, 103, 104]]) 120 ([(100, 121)]) [120, 121] hn_ MbOk.nil rfl rfl rfl rfl
  have h382 := h382.ad (c' := 121) (K' := []) hA380 rfl rfl
  have hE := hE.evo ev379 rfl rfl
  have h10 := h10.evo ev379 rfl
  have h21 := h21.evo ev379 rfl
  have h23 := h23.evo ev379 rfl
  have h25 := h25.evo ev379 rfl
  have h47 := h47.evo ev379 rfl
  have h49 := h49.evo ev379 rfl
  have h51 := h51.evo ev379 rfl
  have h53 := h53.evo ev379 rfl
  have hb31 := hb31.evo ev379 rfl
  have hb371 := hb371.evo ev379 rfl
  have hb59 := hb59.evo ev379 rfl
  have hs := hs.evo ev379 rfl
  refine WL.p (.int .i64 x68) rfl rfl ?_
  obtain ⟨y384, q385, hx352⟩ := bindE hx352
  refine WL.step (OW.call Try.call23 rfl (dynposref01_Has_ok q385 h382.rv)) rfl ?_
  rintro _ w386 ⟨o390, hn_, rfl⟩
  obtain ⟨o387, ev388, hA389⟩ := adopt (o := o378) (ks := []) (Ks := [[121]]) 122 ([]) [122] hn_ MbOk.nil rfl rfl rfl rfl
  have hE := hE.evo ev388 rfl rfl
  have h10 := h10.evo ev388 rfl
  have h21 := h21.evo ev388 rfl
  have h23 := h23.evo ev388 rfl
  have h25 := h25.evo ev388 rfl
  have h382 := h382.evo ev388 rfl
  have h47 := h47.evo ev388 rfl
  have h49 := h49.evo ev388 rfl
  have h51 := h51.evo ev388 rfl
  have h53 := h53.evo ev388 rfl
  have hb31 := hb31.evo ev388 rfl
  have hb371 := hb371.evo ev388 rfl
  have hb59 := hb59.evo ev388 rfl
  have hs := hs.evo ev388 rfl
  refine WL.p (.bool (!y384)) rfl rfl ?_
  refine WL.p (.bool (!y384)) rfl rfl ?_
  obtain ⟨x391, q392, hx352⟩ := bindE hx352
  have hJ395 : ∀ (w393 : World) (o394 : Cls), En w0 e0 o394 w393 → Rv (In o394 [40]) w393 sv y3 → Ow 48 o394 102 [] w393 u22 y13.Breakers → Ow 83 o394 103 [] w393 u24 y13.Sources → Ow 85 o394 104 [101] w393 u26 y13.Consumers → Ow 4 o394 110 [] w393 u48 y39.Closed → Ow 64 o394 111 [] w393 u50 y39.Sources → Ow 3 o394 112 [] w393 u52 y39.Limits → Ow 66 o394 113 [] w393 u54 y39.Broken → Bk o394 105 w393 pa27 [.int .i64 y13.Buses, u22, u24, u26, .int .i64 y13.Phase, .int .i64 y13.Frequency] → Bk o394 114 w393 pa55 [u48, u50, u52, u54] → SrcC o394 100 w393 sb sv y3 st40 → NK 143 K374 [(4, .pointer (some pa27)), (5, .pointer (some pa55)), (26, u22), (27, .int .i64 (len y13.Breakers)), (28, .int .i64 x68), (57, .bool x391)] w393 := by
   intro w393 o394  hE h10 h21 h23 h25 h47 h49 h51 h53 hb31 hb59 hs
   refine hK374 _ _ ?_
   refine CW.cond (b := x391) rfl (fun hc396 => ?_) (fun hc396 => ?_)
   ·have hx352 := iteT hc396 hx352
    refine CW.sr fun K397 hK397 => ?_
    refine WL.p (.bool false) rfl rfl ?_
    refine WL.nx hK397 ?_
    have e_ := hr353 _ (Option.some.inj hx352).symm
    subst e_
    have hF := elimR hF
    obtain rfl := Option.some.inj hF
    exact CW.rets (vs := [.bool false]) Try.results7 ⟨rfl, trivial⟩ ⟨_, rfl, _, (hE.rn he0 100 [] rfl rfl), rfl⟩ (fun _ _ h => h)
   ·have hx352 := iteF hc396 hx352
    refine CW.skip ?_
    refine hK358 _ _ ?_
    refine CW.region ?_
    refine WL.p (.int .i64 ((W (x68 + 1)))) rfl rfl ?_
    refine WL.p (.int .i64 ((W (x68 + 1)))) rfl rfl ?_
    refine WL.nil ?_
    exact NK.sb (hk354 _ _ _ (Option.some.inj hx352).symm ⟨o394, (W (x68 + 1)), rfl, rfl, hE, h10, h21, h23, h25, h47, h49, h51, h53, hb31, hb59, hs⟩) ⟨rfl, rfl, rfl, rfl, rfl, trivial⟩
  rcases Bool.eq_false_or_eq_true (!y384) with hc398 | hc398
  ·have q392 := iteT hc398 q392
   refine WL.skipG rfl rfl rfl (by rw [hc398]; rfl) rfl ?_
   refine WL.skipG rfl rfl rfl (by rw [hc398]; rfl) rfl ?_
   refine WL.skipG rfl rfl rfl (by rw [hc398]; rfl) rfl ?_
   refine WL.skipG rfl rfl rfl (by rw [hc398]; rfl) rfl ?_
   refine WL.skipU rfl rfl rfl rfl ?_
   refine WL.skipU rfl rfl rfl rfl ?_
   refine WL.skipU rfl rfl rfl rfl ?_
   refine WL.skipU rfl rfl rfl rfl ?_
   refine WL.skipU rfl rfl rfl rfl ?_
   refine WL.skipU rfl rfl rfl rfl ?_
   refine WL.skipU rfl rfl rfl rfl ?_
   refine WL.skipU rfl rfl rfl rfl ?_
   refine WL.skipU rfl rfl rfl rfl ?_
   refine WL.skipG rfl rfl rfl (by rw [hc398]; rfl) rfl ?_
   refine WL.stepE (OW.pickT rfl hc398 rfl) rfl ?_
   refine WL.nil ?_
   have e399 := Option.some.inj q392
   subst e399
   exact NK.sb (hJ395 w386 o387 hE h10 h21 h23 h25 h47 h49 h51 h53 hb31 hb59 hs) ⟨rfl, rfl, rfl, rfl, rfl, rfl, trivial⟩
  ·have q392 := iteF hc398 q392
   refine WL.stepGE rfl rfl rfl hc398 (OW.fldAddr (FldOk.at f48_0) rfl) rfl ?_
   refine WL.stepGE rfl rfl rfl hc398 (OW.loadK (off := 0) Int (.int .i64 y360.Kind) ty3 rfl hb371 rfl rfl) rfl ?_
   refine WL.stepGE rfl rfl rfl hc398 (OW.pv (v := (.bool (((y360.Kind == 1))))) rfl) rfl ?_
   refine WL.stepGE rfl rfl rfl hc398 (OW.pv (v := (.bool (((y360.Kind == 1))))) rfl) rfl ?_
   obtain ⟨z_, q402, q392⟩ := bindE q392
   obtain ⟨x400, x401⟩ := z_
   try dsimp only at q392
   have hJ405 : ∀ (w403 : World) (o404 : Cls), En w0 e0 o404 w403 → Rv (In o404 [40]) w403 sv y3 → Ow 48 o404 102 [] w403 u22 y13.Breakers → Ow 83 o404 103 [] w403 u24 y13.Sources → Ow 85 o404 104 [101] w403 u26 y13.Consumers → Ow 4 o404 110 [] w403 u48 y39.Closed → Ow 64 o404 111 [] w403 u50 y39.Sources → Ow 3 o404 112 [] w403 u52 y39.Limits → Ow 66 o404 113 [] w403 u54 y39.Broken → Bk o404 105 w403 pa27 [.int .i64 y13.Buses, u22, u24, u26, .int .i64 y13.Phase, .int .i64 y13.Frequency] → Bk o404 119 w403 pa367 [.int .i64 y360.Kind, .int .i64 y360.A, .int .i64 y360.B] → Bk o404 114 w403 pa55 [u48, u50, u52, u54] → SrcC o404 100 w403 sb sv y3 st40 → NK 143 K374 [(4, .pointer (some pa27)), (5, .pointer (some pa55)), (26, u22), (27, .int .i64 (len y13.Breakers)), (28, .int .i64 x68), (43, .pointer (some (pa367.add 0))), (44, .int .i64 y360.Kind), (45, .bool (((y360.Kind == 1)))), (46, .bool (((y360.Kind == 1)))), (56, .bool x400), (57, .bool x401)] w403 := by
    intro w403 o404  hE h10 h21 h23 h25 h47 h49 h51 h53 hb31 hb371 hb59 hs
    have e406 := Option.some.inj q392
    subst e406
    exact NK.sb (hJ395 w403 o404 hE h10 h21 h23 h25 h47 h49 h51 h53 hb31 hb59 hs) ⟨rfl, rfl, rfl, rfl, rfl, rfl, trivial⟩
   rcases Bool.eq_false_or_eq_true (((y360.Kind == 1))) with hc407 | hc407
   ·have q402 := iteT hc407 q402
    refine WL.stepGE rfl rfl rfl hc407 (OW.loadK0 Board (.agg #[.int .i64 y13.Buses, u22, u24, u26, .int .i64 y13.Phase, .int .i64 y13.Frequency]) ty39 rfl hb31 rfl rfl) rfl ?_
    refine WL.stepGE rfl rfl rfl hc407 (OW.fldAddr (FldOk.at f48_0) rfl) rfl ?_
    refine WL.stepGE rfl rfl rfl hc407 (OW.loadK (off := 0) Int (.int .i64 y360.Kind) ty3 rfl hb371 rfl rfl) rfl ?_
    refine WL.stepGE rfl rfl rfl hc407 (OW.fldAddr (FldOk.at f48_1) rfl) rfl ?_
    refine WL.stepGE rfl rfl rfl hc407 (OW.loadK (off := 1) Int (.int .i64 y360.A) ty3 rfl hb371 rfl rfl) rfl ?_
    obtain ⟨y408, q409, q402⟩ := bindE q402
    refine WL.stepG rfl rfl rfl hc407 (OW.call Try.call28 rfl (board_Find_ok q409 (mk39 (x := y13) (h21.rv.sub (K' := [101, 102, 103, 104]) rfl) (h23.rv.sub (K' := [101, 102, 103, 104]) rfl) (h25.rv.sub (K' := [101, 102, 103, 104]) rfl)))) rfl ?_
    rintro v416 w410 ⟨o414, hn_, h415⟩
    obtain ⟨o411, ev412, hA413⟩ := adopt (o := o387) (ks := []) (Ks := [[101, 102, 103, 104]]) 123 ([(100, 124)]) [123, 124] hn_ MbOk.nil rfl rfl rfl rfl
    have h415 := h415.ad (c' := 124) (K' := []) hA413 rfl rfl
    have hE := hE.evo ev412 rfl rfl
    have h10 := h10.evo ev412 rfl
    have h21 := h21.evo ev412 rfl
    have h23 := h23.evo ev412 rfl
    have h25 := h25.evo ev412 rfl
    have h47 := h47.evo ev412 rfl
    have h49 := h49.evo ev412 rfl
    have h51 := h51.evo ev412 rfl
    have h53 := h53.evo ev412 rfl
    have hb31 := hb31.evo ev412 rfl
    have hb371 := hb371.evo ev412 rfl
    have hb59 := hb59.evo ev412 rfl
    have hs := hs.evo ev412 rfl
    refine WL.stepGE rfl rfl rfl hc407 (OW.pv (v := (.int .i64 x68)) rfl) rfl ?_
    obtain ⟨y417, q418, q402⟩ := bindE q402
    refine WL.stepG rfl rfl rfl hc407 (OW.call Try.call23 rfl (dynposref01_Has_ok q418 h415.rv)) rfl ?_
    rintro _ w419 ⟨o423, hn_, rfl⟩
    obtain ⟨o420, ev421, hA422⟩ := adopt (o := o411) (ks := []) (Ks := [[124]]) 125 ([]) [125] hn_ MbOk.nil rfl rfl rfl rfl
    have hE := hE.evo ev421 rfl rfl
    have h10 := h10.evo ev421 rfl
    have h21 := h21.evo ev421 rfl
    have h23 := h23.evo ev421 rfl
    have h25 := h25.evo ev421 rfl
    have h415 := h415.evo ev421 rfl
    have h47 := h47.evo ev421 rfl
    have h49 := h49.evo ev421 rfl
    have h51 := h51.evo ev421 rfl
    have h53 := h53.evo ev421 rfl
    have hb31 := hb31.evo ev421 rfl
    have hb371 := hb371.evo ev421 rfl
    have hb59 := hb59.evo ev421 rfl
    have hs := hs.evo ev421 rfl
    refine WL.stepGE rfl rfl rfl hc407 (OW.pv (v := (.bool (!y417))) rfl) rfl ?_
    refine WL.stepGE rfl rfl rfl hc398 (OW.pickT rfl hc407 rfl) rfl ?_
    refine WL.stepE (OW.pickF rfl hc398 rfl) rfl ?_
    refine WL.nil ?_
    have e424 := Option.some.inj q402
    obtain ⟨e425, e426⟩ := Prod.mk.inj e424
    subst e425 e426
    exact NK.sb (hJ405 w419 o420 hE h10 h21 h23 h25 h47 h49 h51 h53 hb31 hb371 hb59 hs) ⟨rfl, rfl, rfl, rfl, rfl, rfl, rfl, rfl, rfl, rfl, rfl, trivial⟩
   ·have q402 := iteF hc407 q402
    refine WL.skipG rfl rfl rfl (by rw [hc407]; rfl) rfl ?_
    refine WL.skipG rfl rfl rfl (by rw [hc407]; rfl) rfl ?_
    refine WL.skipG rfl rfl rfl (by rw [hc407]; rfl) rfl ?_
    refine WL.skipG rfl rfl rfl (by rw [hc407]; rfl) rfl ?_
    refine WL.skipG rfl rfl rfl (by rw [hc407]; rfl) rfl ?_
    refine WL.skipG rfl rfl rfl (by rw [hc407]; rfl) rfl ?_
    refine WL.skipG rfl rfl rfl (by rw [hc407]; rfl) rfl ?_
    refine WL.skipG rfl rfl rfl (by rw [hc407]; rfl) rfl ?_
    refine WL.skipG rfl rfl rfl (by rw [hc407]; rfl) rfl ?_
    refine WL.stepGE rfl rfl rfl hc398 (OW.pickF rfl hc407 rfl) rfl ?_
    refine WL.stepE (OW.pickF rfl hc398 rfl) rfl ?_
    refine WL.nil ?_
    have e427 := Option.some.inj q402
    obtain ⟨e428, e429⟩ := Prod.mk.inj e427
    subst e428 e429
    exact NK.sb (hJ405 w386 o387 hE h10 h21 h23 h25 h47 h49 h51 h53 hb31 hb371 hb59 hs) ⟨rfl, rfl, rfl, rfl, rfl, rfl, rfl, rfl, rfl, rfl, rfl, trivial⟩
 ·have hx352 := iteF hc357 hx352
  refine CW.exit ?_
  exact NK.sb (hJ73 w348 o349 (hr353 _ (Option.some.inj hx352).symm) hE h10 h21 h23 h25 h47 h49 h51 h53 hb31 hb59 hs) ⟨rfl, rfl, trivial⟩

end Go.Proofs.Ytnpghnnlcakbfaa
