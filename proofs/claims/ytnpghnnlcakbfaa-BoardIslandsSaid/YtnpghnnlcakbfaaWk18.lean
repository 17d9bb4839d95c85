/- Walks. Written by a program (wip/gen). -/
import Derived.Test.YtnpghnnlcakbfaaHw
import Derived.Test.YtnpghnnlcakbfaaWk2
import Derived.Test.YtnpghnnlcakbfaaWk4
import Derived.Test.YtnpghnnlcakbfaaWk14
import Derived.Test.YtnpghnnlcakbfaaWk15
import Derived.Test.YtnpghnnlcakbfaaWk17
namespace Go.Proofs.Ytnpghnnlcakbfaa
open Go Go.RowKit Dp

set_option maxRecDepth 100000

set_option maxHeartbeats 16000000 in
theorem dynposlaw15_BoardIslands_ok {a0 : (List Int)} {r : Bool} (hF : dynposlaw15_BoardIslands a0 = some r) {w0 : World} {p0 : Value} {S0 : Nat → Prop} (g0 : Rv S0 w0 p0 a0) :
    Calls Try.prog 6 #[p0] w0 (Ret fun v w' => ∃ (oc : Cls), En w0 (entM w0 [] [S0]) oc w' ∧ v = .bool r) := by
 obtain ⟨e0, he0⟩ : ∃ e0, e0 = entM w0 [] [S0] := ⟨_, rfl⟩
 have hE := En.refl w0 e0
 have g0 := g0.argM he0 0 (K := [40]) rfl (nosep rfl) rfl
 rw [dynposlaw15_BoardIslands] at hF
 refine enter (l := [p0]) Try.func6 rfl Try.ntmps6 rfl ?_
 refine CW.sub (L' := [(0, p0)]) ⟨rfl, trivial⟩ ?_
 refine CW.sr fun K1 hK1 => ?_
 refine WL.p (.bool false) rfl rfl ?_
 refine WL.nx hK1 ?_
 refine CW.sr fun K2 hK2 => ?_
 refine WL.p p0 rfl rfl ?_
 obtain ⟨y3, q4, hF⟩ := bindE hF
 refine WL.step (OW.call Try.call9 rfl (dynposmake_New_ok q4 (g0.baseM hE rfl))) rfl ?_
 rintro _ w5 ⟨hb9, sb, sv, rfl, hge_, hs_, h10⟩
 obtain ⟨o6, ev7, hn8⟩ := fresh_new (o := e0) 100 hb9
 have hE := hE.evo ev7 rfl rfl
 have hs : SrcC o6 100 w5 sb sv y3 y3 := ⟨hs_, hn8 sb hge_⟩
 have h10 : Rv (In o6 [40]) w5 sv y3 := h10.old ev7
 refine WL.p (.pointer (some ⟨sb, 0, none⟩)) rfl rfl ?_
 refine WL.nx hK2 ?_
 refine CW.sr fun K11 hK11 => ?_
 refine WL.p (.pointer (some ⟨sb, 0, none⟩)) rfl rfl ?_
 have hm12 : MbOk o6 w5 0 [sb] [100] := ⟨.inl ⟨hs.1.lt, hs.2⟩, trivial⟩
 obtain ⟨⟨y13, st14⟩, q15, hF⟩ := bindE hF
 dsimp only at hF
 refine WL.step (OW.call Try.call17 rfl (Src_Board_ok q15 hs.1 h10 (hm12.sep rfl) (hm12.nodup rfl))) rfl ?_
 rintro _ w16 ⟨o20, u22, u24, u26, hn_, rfl, h21, h23, h25, hs⟩
 obtain ⟨o17, ev18, hA19⟩ := adopt (o := o6) (ks := [100]) (Ks := [[40]]) 101 ([(101, 102), (102, 103), (103, 104)]) [100, 101, 102, 103, 104] hn_ hm12 rfl rfl rfl rfl
 have h21 := h21.ad (c' := 102) (K' := []) hA19 rfl rfl
 have h23 := h23.ad (c' := 103) (K' := []) hA19 rfl rfl
 have h25 := h25.ad (c' := 104) (K' := [101]) hA19 rfl rfl
 have hs := hs.ad (c' := 100) hA19 rfl
 have hE := hE.evo ev18 rfl rfl
 have h10 := h10.evo ev18 rfl
 refine WL.step (OW.allocK (o := o17) Board 105 [.int .i64 0, .slice none 0 0, .slice none 0 0, .slice none 0 0, .int .i64 0, .int .i64 0] ty39 rfl) rfl ?_
 rintro _ w29 ⟨pa27, o28, rfl, ev30, hb31⟩
 have hE := hE.evo ev30 rfl rfl
 have h10 := h10.evo ev30 rfl
 have h21 := h21.evo ev30 rfl
 have h23 := h23.evo ev30 rfl
 have h25 := h25.evo ev30 rfl
 have hs := hs.evo ev30 rfl
 have h32 := Ow.nil (α := Breaker) 48 o28 106 [] w29
 have h33 := Ow.nil (α := Source) 83 o28 107 [] w29
 have h34 := Ow.nil (α := Consumer) 85 o28 108 [] w29
 refine WL.step0 (OW.storeK0 Board [.int .i64 y13.Buses, u22, u24, u26, .int .i64 y13.Phase, .int .i64 y13.Frequency] [.int .i64 y13.Buses, u22, u24, u26, .int .i64 y13.Phase, .int .i64 y13.Frequency] ty39 rfl rfl hb31 rfl ⟨rfl, (h21.one), (h23.one), (h25.one), rfl, rfl, trivial⟩ rfl rfl rfl) ?_
 rintro _ w35 ⟨ev36, hb31⟩
 have hE := hE.evo ev36 rfl rfl
 have h10 := h10.evo ev36 rfl
 have h21 := h21.evo ev36 rfl
 have h23 := h23.evo ev36 rfl
 have h25 := h25.evo ev36 rfl
 have hs := hs.evo ev36 rfl
 refine WL.nx hK11 ?_
 refine CW.sr fun K37 hK37 => ?_
 refine WL.p (.pointer (some ⟨sb, 0, none⟩)) rfl rfl ?_
 refine WL.stepE (OW.loadK0 Board (.agg #[.int .i64 y13.Buses, u22, u24, u26, .int .i64 y13.Phase, .int .i64 y13.Frequency]) ty39 rfl hb31 rfl rfl) rfl ?_
 have hm38 : MbOk o28 w35 0 [sb] [100] := ⟨.inl ⟨hs.1.lt, hs.2⟩, trivial⟩
 obtain ⟨⟨y39, st40⟩, q41, hF⟩ := bindE hF
 dsimp only at hF
 refine WL.step (OW.call Try.call18 rfl (Src_Power_ok q41 hs.1 h10 (hm38.sep rfl) (mk39 (x := y13) (h21.rv.sub (K' := [101, 102, 103, 104]) rfl) (h23.rv.sub (K' := [101, 102, 103, 104]) rfl) (h25.rv.sub (K' := [101, 102, 103, 104]) rfl)) (hm38.sep rfl) (hm38.nodup rfl))) rfl ?_
 rintro _ w42 ⟨o46, u48, u50, u52, u54, hn_, rfl, h47, h49, h51, h53, hs⟩
 obtain ⟨o43, ev44, hA45⟩ := adopt (o := o28) (ks := [100]) (Ks := [[40], [101, 102, 103, 104]]) 109 ([(100, 110), (101, 111), (102, 112), (103, 113)]) [100, 109, 110, 111, 112, 113] hn_ hm38 rfl rfl rfl rfl
 have h47 := h47.ad (c' := 110) (K' := []) hA45 rfl rfl
 have h49 := h49.ad (c' := 111) (K' := []) hA45 rfl rfl
 have h51 := h51.ad (c' := 112) (K' := []) hA45 rfl rfl
 have h53 := h53.ad (c' := 113) (K' := []) hA45 rfl rfl
 have hs := hs.ad (c' := 100) hA45 rfl
 have hE := hE.evo ev44 rfl rfl
 have h10 := h10.evo ev44 rfl
 have h21 := h21.evo ev44 rfl
 have h23 := h23.evo ev44 rfl
 have h25 := h25.evo ev44 rfl
 have hb31 := hb31.evo ev44 rfl
 refine WL.step (OW.allocK (o := o43) Power 114 [.slice none 0 0, .slice none 0 0, .slice none 0 0, .slice none 0 0] ty45 rfl) rfl ?_
 rintro _ w57 ⟨pa55, o56, rfl, ev58, hb59⟩
 have hE := hE.evo ev58 rfl rfl
 have h10 := h10.evo ev58 rfl
 have h21 := h21.evo ev58 rfl
 have h23 := h23.evo ev58 rfl
 have h25 := h25.evo ev58 rfl
 have h47 := h47.evo ev58 rfl
 have h49 := h49.evo ev58 rfl
 have h51 := h51.evo ev58 rfl
 have h53 := h53.evo ev58 rfl
 have hb31 := hb31.evo ev58 rfl
 have hs := hs.evo ev58 rfl
 have h60 := Ow.nil (α := Bool) 4 o56 115 [] w57
 have h61 := Ow.nil (α := Running) 64 o56 116 [] w57
 have h62 := Ow.nil (α := Int) 3 o56 117 [] w57
 have h63 := Ow.nil (α := Part) 66 o56 118 [] w57
 refine WL.step0 (OW.storeK0 Power [u48, u50, u52, u54] [u48, u50, u52, u54] ty45 rfl rfl hb59 rfl ⟨(h47.one), (h49.one), (h51.one), (h53.one), trivial⟩ rfl rfl rfl) ?_
 rintro _ w64 ⟨ev65, hb59⟩
 have hE := hE.evo ev65 rfl rfl
 have h10 := h10.evo ev65 rfl
 have h21 := h21.evo ev65 rfl
 have h23 := h23.evo ev65 rfl
 have h25 := h25.evo ev65 rfl
 have h47 := h47.evo ev65 rfl
 have h49 := h49.evo ev65 rfl
 have h51 := h51.evo ev65 rfl
 have h53 := h53.evo ev65 rfl
 have hb31 := hb31.evo ev65 rfl
 have hs := hs.evo ev65 rfl
 refine WL.nx hK37 ?_
 refine CW.sr fun K66 hK66 => ?_
 refine WL.stepE (OW.fldAddr (FldOk.at f39_0) rfl) rfl ?_
 refine WL.stepE (OW.loadK (off := 0) Int (.int .i64 y13.Buses) ty3 rfl hb31 rfl rfl) rfl ?_
 obtain ⟨y67, q68, hF⟩ := bindE hF
 refine WL.step (OW.make (o := o56) (k := 119) Try.underlying22 ty3 rfl rfl q68) rfl ?_
 rintro v69 w70 ⟨o71, ev72, h73⟩
 have hE := hE.evo ev72 rfl rfl
 have h10 := h10.evo ev72 rfl
 have h21 := h21.evo ev72 rfl
 have h23 := h23.evo ev72 rfl
 have h25 := h25.evo ev72 rfl
 have h47 := h47.evo ev72 rfl
 have h49 := h49.evo ev72 rfl
 have h51 := h51.evo ev72 rfl
 have h53 := h53.evo ev72 rfl
 have hb31 := hb31.evo ev72 rfl
 have hb59 := hb59.evo ev72 rfl
 have hs := hs.evo ev72 rfl
 refine WL.p v69 rfl rfl ?_
 refine WL.nx hK66 ?_
 refine CW.seq fun K74 hK74 => ?_
 refine CW.sr fun K75 hK75 => ?_
 refine WL.stepE (OW.loadK0 Board (.agg #[.int .i64 y13.Buses, u22, u24, u26, .int .i64 y13.Phase, .int .i64 y13.Frequency]) ty39 rfl hb31 rfl rfl) rfl ?_
 refine WL.stepE (OW.loadK0 Power (.agg #[u48, u50, u52, u54]) ty45 rfl hb59 rfl rfl) rfl ?_
 obtain ⟨y76, q77, hF⟩ := bindE hF
 refine WL.step (OW.call Try.call19 rfl (board_Islands_ok q77 (mk39 (x := y13) (h21.rv.sub (K' := [101, 102, 103, 104]) rfl) (h23.rv.sub (K' := [101, 102, 103, 104]) rfl) (h25.rv.sub (K' := [101, 102, 103, 104]) rfl)) (mk45 (x := y39) (h47.rv.sub (K' := [110, 111, 112, 113]) rfl) (h49.rv.sub (K' := [110, 111, 112, 113]) rfl) (h51.rv.sub (K' := [110, 111, 112, 113]) rfl) (h53.rv.sub (K' := [110, 111, 112, 113]) rfl)))) rfl ?_
 rintro v84 w78 ⟨o82, hn_, h83⟩
 obtain ⟨o79, ev80, hA81⟩ := adopt (o := o71) (ks := []) (Ks := [[101, 102, 103, 104], [110, 111, 112, 113]]) 120 ([(100, 121)]) [120, 121] hn_ MbOk.nil rfl rfl rfl rfl
 have h83 := h83.ad (c' := 121) (K' := [120]) hA81 rfl rfl
 have hE := hE.evo ev80 rfl rfl
 have h10 := h10.evo ev80 rfl
 have h21 := h21.evo ev80 rfl
 have h23 := h23.evo ev80 rfl
 have h25 := h25.evo ev80 rfl
 have h47 := h47.evo ev80 rfl
 have h49 := h49.evo ev80 rfl
 have h51 := h51.evo ev80 rfl
 have h53 := h53.evo ev80 rfl
 have h73 := h73.evo ev80 rfl
 have hb31 := hb31.evo ev80 rfl
 have hb59 := hb59.evo ev80 rfl
 have hs := hs.evo ev80 rfl
 refine WL.stepE (OW.len Try.underlying49 rfl h83.rv) rfl ?_
 refine WL.p (.int .i64 0) rfl rfl ?_
 refine WL.nx hK75 ?_
 refine CW.block ?_
 obtain ⟨r93, hl92, hF⟩ := bindE hF
 have hJ96 : ∀ (x89 : (List Int)) (w94 : World) (o95 : Cls) (v90 : Value), .inl x89 = r93 → En w0 e0 o95 w94 → Rv (In o95 [40]) w94 sv y3 → Ow 3 o95 119 [] w94 v90 x89 → SrcC o95 100 w94 sb sv y3 st40 → NK 157 K74 [(6, v90)] w94 := by
  intro x89 w94 o95 v90 e_ hE h10 h91 hs
  subst e_
  have hF := elimL hF
  try dsimp only at hF
  refine hK74 _ _ ?_
  refine CW.seq fun K97 hK97 => ?_
  refine CW.sr fun K98 hK98 => ?_
  refine WL.p v90 rfl rfl ?_
  refine WL.stepE (OW.len Try.underlying22 rfl h91.rv) rfl ?_
  refine WL.p (.int .i64 0) rfl rfl ?_
  refine WL.nx hK98 ?_
  refine CW.block ?_
  obtain ⟨r101, hl100, hF⟩ := bindE hF
  have hJ104 : ∀ (w102 : World) (o103 : Cls), .inl () = r101 → En w0 e0 o103 w102 → Rv (In o103 [40]) w102 sv y3 → SrcC o103 100 w102 sb sv y3 st40 → NK 157 K97 [] w102 := by
   intro  w102 o103  e_ hE h10 hs
   subst e_
   have hF := elimL hF
   try dsimp only at hF
   refine hK97 _ _ ?_
   refine CW.sr fun K105 hK105 => ?_
   obtain ⟨y106, q107, hF⟩ := bindE hF
   refine WL.step (OW.call Try.call20 rfl (dynposlaw15_sane_ok q107)) rfl ?_
   rintro _ w108 ⟨o112, hn_, rfl⟩
   obtain ⟨o109, ev110, hA111⟩ := adopt (o := o103) (ks := []) (Ks := []) 137 ([]) [137] hn_ MbOk.nil rfl rfl rfl rfl
   have hE := hE.evo ev110 rfl rfl
   have h10 := h10.evo ev110 rfl
   have hs := hs.evo ev110 rfl
   refine WL.p (.bool y106) rfl rfl ?_
   refine WL.nx hK105 ?_
   obtain rfl := Option.some.inj hF
   exact CW.rets (vs := [.bool y106]) Try.results6 ⟨rfl, trivial⟩ ⟨_, rfl, _, (hE.rn he0 100 [] rfl rfl), rfl⟩ (fun _ _ h => h)
  refine CW.sub (L' := [(147, v90), (148, .int .i64 (len x89)), (149, .int .i64 0)]) ⟨rfl, rfl, rfl, trivial⟩ ?_
  refine CW.loop (dynposlaw15_BoardIslands_L2 x89) (fun s_ L_ w113 => ∃ (o114 : Cls) (x99 : Int), x99 = s_ ∧ L_ = [(147, v90), (148, .int .i64 (len x89)), (149, .int .i64 x99)] ∧ En w0 e0 o114 w113 ∧ Rv (In o114 [40]) w113 sv y3 ∧ Ow 3 o114 119 [] w113 v90 x89 ∧ SrcC o114 100 w113 sb sv y3 st40) hl100 ?_ ?_
  ·exact ⟨o95, 0, rfl, rfl, hE, h10, h91, hs⟩
  intro K115 s_ L_ w113 hi_ x116 hx117 hr118 hk119
  obtain ⟨o114, x99, rfl, rfl, hE, h10, h91, hs⟩ := hi_
  rw [dynposlaw15_BoardIslands_L2] at hx117
  refine CW.sr fun K120 hK120 => ?_
  refine WL.p (.bool ((decide (x99 < (len x89))))) rfl rfl ?_
  refine WL.nx hK120 ?_
  refine CW.seq fun K121 hK121 => ?_
  refine CW.cond (b := (decide (x99 < (len x89)))) rfl (fun hc122 => ?_) (fun hc122 => ?_)
  ·have hx117 := iteT hc122 hx117
   refine CW.skip ?_
   refine hK121 _ _ ?_
   refine CW.seq fun K123 hK123 => ?_
   refine CW.block ?_
   refine CW.sr fun K124 hK124 => ?_
   obtain ⟨y125, q129, hx117⟩ := bindE hx117
   refine WL.stepP (OW.indexAddrO Try.underlying22 ty3 rfl h91 rfl q129) rfl fun _ ⟨pa126, hv_, hp127, he128⟩ => ?_
   subst hv_
   refine WL.stepE (OW.loadI ty3 rfl hp127.at) rfl ?_
   refine WL.p (.int .i64 y125) rfl rfl ?_
   refine WL.nx hK124 ?_
   refine CW.sr fun K130 hK130 => ?_
   refine WL.p (.int .i64 y125) rfl rfl ?_
   refine WL.p (.bool (((y125 != 1)))) rfl rfl ?_
   refine WL.nx hK130 ?_
   refine CW.cond (b := ((y125 != 1))) rfl (fun hc131 => ?_) (fun hc131 => ?_)
   ·have hx117 := iteT hc131 hx117
    refine CW.sr fun K132 hK132 => ?_
    refine WL.p (.bool false) rfl rfl ?_
    refine WL.nx hK132 ?_
    have e_ := hr118 _ (Option.some.inj hx117).symm
    subst e_
    have hF := elimR hF
    obtain rfl := Option.some.inj hF
    exact CW.rets (vs := [.bool false]) Try.results6 ⟨rfl, trivial⟩ ⟨_, rfl, _, (hE.rn he0 100 [] rfl rfl), rfl⟩ (fun _ _ h => h)
   ·have hx117 := iteF hc131 hx117
    refine CW.skip ?_
    refine hK123 _ _ ?_
    refine CW.region ?_
    refine WL.p (.int .i64 ((W (x99 + 1)))) rfl rfl ?_
    refine WL.p (.int .i64 ((W (x99 + 1)))) rfl rfl ?_
    refine WL.nil ?_
    exact NK.sb (hk119 _ _ _ (Option.some.inj hx117).symm ⟨o114, (W (x99 + 1)), rfl, rfl, hE, h10, h91, hs⟩) ⟨rfl, rfl, rfl, trivial⟩
  ·have hx117 := iteF hc122 hx117
   refine CW.exit ?_
   exact NK.sb (hJ104 w113 o114 (hr118 _ (Option.some.inj hx117).symm) hE h10 hs) trivial
 refine CW.sub (L' := [(4, .pointer (some pa27)), (5, .pointer (some pa55)), (6, v69), (35, v84), (36, .int .i64 (len y76)), (37, .int .i64 0)]) ⟨rfl, rfl, rfl, rfl, rfl, rfl, trivial⟩ ?_
 refine CW.loop (dynposlaw15_BoardIslands_L1 y13 y39 y76) (fun s_ L_ w133 => ∃ (o134 : Cls) (x85 : (List Int)) (x88 : Int) (v86 : Value), (x85, x88) = s_ ∧ L_ = [(4, .pointer (some pa27)), (5, .pointer (some pa55)), (6, v86), (35, v84), (36, .int .i64 (len y76)), (37, .int .i64 x88)] ∧ En w0 e0 o134 w133 ∧ Rv (In o134 [40]) w133 sv y3 ∧ Ow 48 o134 102 [] w133 u22 y13.Breakers ∧ Ow 83 o134 103 [] w133 u24 y13.Sources ∧ Ow 85 o134 104 [101] w133 u26 y13.Consumers ∧ Ow 4 o134 110 [] w133 u48 y39.Closed ∧ Ow 64 o134 111 [] w133 u50 y39.Sources ∧ Ow 3 o134 112 [] w133 u52 y39.Limits ∧ Ow 66 o134 113 [] w133 u54 y39.Broken ∧ Ow 53 o134 121 [120] w133 v84 y76 ∧ Ow 3 o134 119 [] w133 v86 x85 ∧ Bk o134 105 w133 pa27 [.int .i64 y13.Buses, u22, u24, u26, .int .i64 y13.Phase, .int .i64 y13.Frequency] ∧ Bk o134 114 w133 pa55 [u48, u50, u52, u54] ∧ SrcC o134 100 w133 sb sv y3 st40) hl92 ?_ ?_
 ·exact ⟨o79, y67, 0, v69, rfl, rfl, hE, h10, h21, h23, h25, h47, h49, h51, h53, h83, h73, hb31, hb59, hs⟩
 intro K135 s_ L_ w133 hi_ x136 hx137 hr138 hk139
 obtain ⟨o134, x85, x88, v86, rfl, rfl, hE, h10, h21, h23, h25, h47, h49, h51, h53, h83, h87, hb31, hb59, hs⟩ := hi_
 rw [dynposlaw15_BoardIslands_L1] at hx137
 refine CW.sr fun K140 hK140 => ?_
 refine WL.p (.bool ((decide (x88 < (len y76))))) rfl rfl ?_
 refine WL.nx hK140 ?_
 refine CW.seq fun K141 hK141 => ?_
 refine CW.cond (b := (decide (x88 < (len y76)))) rfl (fun hc142 => ?_) (fun hc142 => ?_)
 ·have hx137 := iteT hc142 hx137
  refine CW.skip ?_
  refine hK141 _ _ ?_
  refine CW.seq fun K143 hK143 => ?_
  refine CW.block ?_
  refine CW.sr fun K144 hK144 => ?_
  obtain ⟨y145, q149, hx137⟩ := bindE hx137
  refine WL.stepP (OW.indexAddrO Try.underlying49 ty53 rfl h83 rfl q149) rfl fun _ ⟨pa146, hv_, hp147, he148⟩ => ?_
  subst hv_
  refine WL.stepP (OW.loadO ty53 rfl hp147) rfl fun v150 h151 => ?_
  obtain ⟨u152, u153, u154, rfl, h155, h156, h157⟩ := op53 h151
  refine WL.step (OW.allocK (o := o134) Island 122 [.slice none 0 0, .slice none 0 0, .slice none 0 0] ty53 rfl) rfl ?_
  rintro _ w160 ⟨pa158, o159, rfl, ev161, hb162⟩
  have hE := hE.evo ev161 rfl rfl
  have h10 := h10.evo ev161 rfl
  have h155 := h155.evo ev161 rfl
  have h156 := h156.evo ev161 rfl
  have h157 := h157.evo ev161 rfl
  have h21 := h21.evo ev161 rfl
  have h23 := h23.evo ev161 rfl
  have h25 := h25.evo ev161 rfl
  have h47 := h47.evo ev161 rfl
  have h49 := h49.evo ev161 rfl
  have h51 := h51.evo ev161 rfl
  have h53 := h53.evo ev161 rfl
  have h83 := h83.evo ev161 rfl
  have h87 := h87.evo ev161 rfl
  have hb31 := hb31.evo ev161 rfl
  have hb59 := hb59.evo ev161 rfl
  have hs := hs.evo ev161 rfl
  have h163 := Ow.nil (α := Int) 3 o159 123 [] w160
  have h164 := Ow.nil (α := Int) 3 o159 124 [] w160
  have h165 := Ow.nil (α := Int) 3 o159 125 [] w160
  refine WL.step0 (OW.storeK0 Island [u152, u153, u154] [u152, u153, u154] ty53 rfl rfl hb162 rfl ⟨(h155.one rfl), (h156.one rfl), (h157.one rfl), trivial⟩ rfl rfl rfl) ?_
  rintro _ w166 ⟨ev167, hb162⟩
  have hE := hE.evo ev167 rfl rfl
  have h10 := h10.evo ev167 rfl
  have h155 := h155.evo ev167 rfl
  have h156 := h156.evo ev167 rfl
  have h157 := h157.evo ev167 rfl
  have h21 := h21.evo ev167 rfl
  have h23 := h23.evo ev167 rfl
  have h25 := h25.evo ev167 rfl
  have h47 := h47.evo ev167 rfl
  have h49 := h49.evo ev167 rfl
  have h51 := h51.evo ev167 rfl
  have h53 := h53.evo ev167 rfl
  have h83 := h83.evo ev167 rfl
  have h87 := h87.evo ev167 rfl
  have hb31 := hb31.evo ev167 rfl
  have hb59 := hb59.evo ev167 rfl
  have hs := hs.evo ev167 rfl
  refine WL.nx hK144 ?_
  refine CW.seq fun K168 hK168 => ?_
  refine CW.sr fun K169 hK169 => ?_
  refine WL.stepE (OW.fldAddr (FldOk.at f53_0) rfl) rfl ?_
  refine WL.stepE (OW.loadK (off := 0) (List Int) (u152) ty22 rfl hb162 rfl rfl) rfl ?_
  refine WL.stepE (OW.len Try.underlying22 rfl h155) rfl ?_
  refine WL.p (.int .i64 0) rfl rfl ?_
  refine WL.nx hK169 ?_
  refine CW.block ?_
  obtain ⟨r178, hl177, hx137⟩ := bindE hx137
  have hJ181 : ∀ (x174 : (List Int)) (w179 : World) (o180 : Cls) (v175 : Value), .inl x174 = r178 → En w0 e0 o180 w179 → Rv (In o180 [40]) w179 sv y3 → Rv (In o180 [120]) w179 u152 y145.Buses → Rv (In o180 [120]) w179 u153 y145.Sources → Rv (In o180 [120]) w179 u154 y145.Consumers → Ow 3 o180 119 [] w179 v175 x174 → Ow 48 o180 102 [] w179 u22 y13.Breakers → Ow 83 o180 103 [] w179 u24 y13.Sources → Ow 85 o180 104 [101] w179 u26 y13.Consumers → Ow 4 o180 110 [] w179 u48 y39.Closed → Ow 64 o180 111 [] w179 u50 y39.Sources → Ow 3 o180 112 [] w179 u52 y39.Limits → Ow 66 o180 113 [] w179 u54 y39.Broken → Ow 53 o180 121 [120] w179 v84 y76 → Bk o180 122 w179 pa158 [u152, u153, u154] → Bk o180 105 w179 pa27 [.int .i64 y13.Buses, u22, u24, u26, .int .i64 y13.Phase, .int .i64 y13.Frequency] → Bk o180 114 w179 pa55 [u48, u50, u52, u54] → SrcC o180 100 w179 sb sv y3 st40 → NK 157 K168 [(4, .pointer (some pa27)), (5, .pointer (some pa55)), (6, v175), (8, .pointer (some pa158)), (35, v84), (36, .int .i64 (len y76)), (37, .int .i64 x88)] w179 := by
   intro x174 w179 o180 v175 e_ hE h10 h155 h156 h157 h176 h21 h23 h25 h47 h49 h51 h53 h83 hb162 hb31 hb59 hs
   subst e_
   have hx137 := elimL hx137
   try dsimp only at hx137
   refine hK168 _ _ ?_
   refine CW.seq fun K182 hK182 => ?_
   refine CW.sr fun K183 hK183 => ?_
   refine WL.stepE (OW.fldAddr (FldOk.at f53_1) rfl) rfl ?_
   refine WL.stepE (OW.loadK (off := 1) (List Int) (u153) ty22 rfl hb162 rfl rfl) rfl ?_
   refine WL.stepE (OW.len Try.underlying22 rfl h156) rfl ?_
   refine WL.p (.int .i64 0) rfl rfl ?_
   refine WL.nx hK183 ?_
   refine CW.block ?_
   obtain ⟨r186, hl185, hx137⟩ := bindE hx137
   have hJ189 : ∀ (w187 : World) (o188 : Cls), .inl () = r186 → En w0 e0 o188 w187 → Rv (In o188 [40]) w187 sv y3 → Rv (In o188 [120]) w187 u152 y145.Buses → Rv (In o188 [120]) w187 u153 y145.Sources → Rv (In o188 [120]) w187 u154 y145.Consumers → Ow 3 o188 119 [] w187 v175 x174 → Ow 48 o188 102 [] w187 u22 y13.Breakers → Ow 83 o188 103 [] w187 u24 y13.Sources → Ow 85 o188 104 [101] w187 u26 y13.Consumers → Ow 4 o188 110 [] w187 u48 y39.Closed → Ow 64 o188 111 [] w187 u50 y39.Sources → Ow 3 o188 112 [] w187 u52 y39.Limits → Ow 66 o188 113 [] w187 u54 y39.Broken → Ow 53 o188 121 [120] w187 v84 y76 → Bk o188 122 w187 pa158 [u152, u153, u154] → Bk o188 105 w187 pa27 [.int .i64 y13.Buses, u22, u24, u26, .int .i64 y13.Phase, .int .i64 y13.Frequency] → Bk o188 114 w187 pa55 [u48, u50, u52, u54] → SrcC o188 100 w187 sb sv y3 st40 → NK 157 K182 [(4, .pointer (some pa27)), (5, .pointer (some pa55)), (6, v175), (8, .pointer (some pa158)), (35, v84), (36, .int .i64 (len y76)), (37, .int .i64 x88)] w187 := by
    intro  w187 o188  e_ hE h10 h155 h156 h157 h176 h21 h23 h25 h47 h49 h51 h53 h83 hb162 hb31 hb59 hs
    subst e_
    have hx137 := elimL hx137
    try dsimp only at hx137
    refine hK182 _ _ ?_
    refine CW.seq fun K190 hK190 => ?_
    refine CW.sr fun K191 hK191 => ?_
    refine WL.stepE (OW.fldAddr (FldOk.at f53_2) rfl) rfl ?_
    refine WL.stepE (OW.loadK (off := 2) (List Int) (u154) ty22 rfl hb162 rfl rfl) rfl ?_
    refine WL.stepE (OW.len Try.underlying22 rfl h157) rfl ?_
    refine WL.p (.int .i64 0) rfl rfl ?_
    refine WL.nx hK191 ?_
    refine CW.block ?_
    obtain ⟨r194, hl193, hx137⟩ := bindE hx137
    have hJ197 : ∀ (w195 : World) (o196 : Cls), .inl () = r194 → En w0 e0 o196 w195 → Rv (In o196 [40]) w195 sv y3 → Rv (In o196 [120]) w195 u152 y145.Buses → Rv (In o196 [120]) w195 u153 y145.Sources → Rv (In o196 [120]) w195 u154 y145.Consumers → Ow 3 o196 119 [] w195 v175 x174 → Ow 48 o196 102 [] w195 u22 y13.Breakers → Ow 83 o196 103 [] w195 u24 y13.Sources → Ow 85 o196 104 [101] w195 u26 y13.Consumers → Ow 4 o196 110 [] w195 u48 y39.Closed → Ow 64 o196 111 [] w195 u50 y39.Sources → Ow 3 o196 112 [] w195 u52 y39.Limits → Ow 66 o196 113 [] w195 u54 y39.Broken → Ow 53 o196 121 [120] w195 v84 y76 → Bk o196 122 w195 pa158 [u152, u153, u154] → Bk o196 105 w195 pa27 [.int .i64 y13.Buses, u22, u24, u26, .int .i64 y13.Phase, .int .i64 y13.Frequency] → Bk o196 114 w195 pa55 [u48, u50, u52, u54] → SrcC o196 100 w195 sb sv y3 st40 → NK 157 K190 [(4, .pointer (some pa27)), (5, .pointer (some pa55)), (6, v175), (8, .pointer (some pa158)), (35, v84), (36, .int .i64 (len y76)), (37, .int .i64 x88)] w195 := by
     intro  w195 o196  e_ hE h10 h155 h156 h157 h176 h21 h23 h25 h47 h49 h51 h53 h83 hb162 hb31 hb59 hs
     subst e_
     have hx137 := elimL hx137
     try dsimp only at hx137
     refine hK190 _ _ ?_
     refine CW.seq fun K198 hK198 => ?_
     obtain ⟨x199, q200, hx137⟩ := bindE hx137
     have hJ203 : ∀ (w201 : World) (o202 : Cls), En w0 e0 o202 w201 → Rv (In o202 [40]) w201 sv y3 → Ow 3 o202 119 [] w201 v175 x174 → Ow 48 o202 102 [] w201 u22 y13.Breakers → Ow 83 o202 103 [] w201 u24 y13.Sources → Ow 85 o202 104 [101] w201 u26 y13.Consumers → Ow 4 o202 110 [] w201 u48 y39.Closed → Ow 64 o202 111 [] w201 u50 y39.Sources → Ow 3 o202 112 [] w201 u52 y39.Limits → Ow 66 o202 113 [] w201 u54 y39.Broken → Ow 53 o202 121 [120] w201 v84 y76 → Bk o202 105 w201 pa27 [.int .i64 y13.Buses, u22, u24, u26, .int .i64 y13.Phase, .int .i64 y13.Frequency] → Bk o202 114 w201 pa55 [u48, u50, u52, u54] → SrcC o202 100 w201 sb sv y3 st40 → NK 157 K198 [(4, .pointer (some pa27)), (5, .pointer (some pa55)), (6, v175), (35, v84), (36, .int .i64 (len y76)), (37, .int .i64 x88), (145, .bool x199)] w201 := by
      intro w201 o202  hE h10 h176 h21 h23 h25 h47 h49 h51 h53 h83 hb31 hb59 hs
      refine hK198 _ _ ?_
      refine CW.cond (b := x199) rfl (fun hc204 => ?_) (fun hc204 => ?_)
      ·have hx137 := iteT hc204 hx137
       refine CW.sr fun K205 hK205 => ?_
       refine WL.p (.bool false) rfl rfl ?_
       refine WL.nx hK205 ?_
       have e_ := hr138 _ (Option.some.inj hx137).symm
       subst e_
       have hF := elimR hF
       obtain rfl := Option.some.inj hF
       exact CW.rets (vs := [.bool false]) Try.results6 ⟨rfl, trivial⟩ ⟨_, rfl, _, (hE.rn he0 100 [] rfl rfl), rfl⟩ (fun _ _ h => h)
      ·have hx137 := iteF hc204 hx137
       refine CW.skip ?_
       refine hK143 _ _ ?_
       refine CW.region ?_
       refine WL.p (.int .i64 ((W (x88 + 1)))) rfl rfl ?_
       refine WL.p (.int .i64 ((W (x88 + 1)))) rfl rfl ?_
       refine WL.nil ?_
       exact NK.sb (hk139 _ _ _ (Option.some.inj hx137).symm ⟨o202, x174, (W (x88 + 1)), v175, rfl, rfl, hE, h10, h21, h23, h25, h47, h49, h51, h53, h83, h176, hb31, hb59, hs⟩) ⟨rfl, rfl, rfl, rfl, rfl, rfl, trivial⟩
     rcases Bool.eq_false_or_eq_true ((((len y145.Buses) == 0))) with hc206 | hc206
     ·have q200 := iteT hc206 q200
      have ev_ := Evo.drew o196 w195
      refine CW.anyS (N := []) hmix [sRv none none [] [120] (fun _ => u152) y145.Buses, sBk none none [] 122 (fun _ => pa158) (fun _ => [u152, u153, u154])] [⟨[], [], [], [], fun _ => .pointer (some (pa158.add 0)), false⟩, ⟨[], [1], [0], [], fun _ => u152, false⟩, ⟨[], [0], [0, 1], [], fun _ => .int .i64 (len y145.Buses), false⟩, ⟨[], [], [0, 1, 2], [], fun _ => .bool ((((len y145.Buses) == 0))), false⟩, ⟨[], [], [0, 1, 2, 3], [], fun _ => .bool ((((len y145.Buses) == 0))), false⟩, ⟨[], [], [0, 1, 2, 3, 4], [], fun _ => undef, true⟩, ⟨[], [], [0, 1, 2, 3, 4], [], fun _ => undef, true⟩, ⟨[], [], [0, 1, 2, 3, 4], [], fun _ => undef, true⟩, ⟨[], [], [0, 1, 2, 3, 4, 7], [], fun _ => undef, true⟩, ⟨[], [], [0, 1, 2, 3, 4, 7, 8], [], fun _ => undef, true⟩, ⟨[], [], [0, 1, 2, 3, 4, 7, 8, 9], [], fun _ => undef, true⟩, ⟨[], [], [0, 1, 2, 3, 4, 5, 6, 7, 8, 9, 10], [], fun _ => undef, true⟩, ⟨[], [], [0, 1, 2, 3, 4], [], fun _ => undef, true⟩, ⟨[], [], [0, 1, 2, 3, 4, 12], [], fun _ => undef, true⟩, ⟨[], [], [0, 1, 2, 3, 4, 12, 13], [], fun _ => undef, true⟩, ⟨[], [], [0, 1, 2, 3, 4, 12, 13, 14], [], fun _ => undef, true⟩, ⟨[], [], [0, 1, 2, 3, 4, 5, 6, 7, 8, 9, 10, 11, 12, 13, 14, 15], [], fun _ => undef, true⟩, ⟨[], [], [0, 1, 2, 3, 4, 5, 6, 7, 8, 9, 10, 11, 12, 13, 14, 15, 16], [], fun _ => .bool true, false⟩] [] hE rfl (by kernel_rfl) (by kernel_rfl) ⟨h155.evo ev_ rfl, hb162.evo ev_ rfl, trivial⟩ ⟨?_, ?_, ?_, Ob.pv rfl rfl (fun _ => rfl) rfl (fun _ _ _ => trivial), Ob.pv rfl rfl (fun _ => rfl) rfl (fun _ _ _ => trivial), ?_, ?_, ?_, ?_, ?_, ?_, ?_, ?_, ?_, ?_, ?_, ?_, ?_, trivial⟩ ?_
      ·intro vs207 o_ w_ hE 
       refine OW.imp (OW.fr (L' := [(8, .pointer (some pa158))]) ⟨rfl, trivial⟩ (OW.fldAddr (FldOk.at f53_0) rfl)) ?_
       rintro _ _ ⟨rfl, rfl⟩
       exact ⟨_, Evo.refl _ _ _ _, rfl, trivial⟩
      ·intro vs207 o_ w_ hE hb162
       have hb162 : Bk o_ 122 w_ pa158 [u152, u153, u154] := hb162
       refine OW.imp (OW.fr (L' := [(128, .pointer (some (pa158.add 0)))]) ⟨rfl, trivial⟩ (OW.loadK (off := 0) (List Int) (u152) ty22 rfl hb162 rfl rfl)) ?_
       rintro _ _ ⟨rfl, rfl⟩
       exact ⟨_, Evo.refl _ _ _ _, rfl, trivial⟩
      ·intro vs207 o_ w_ hE h155
       have h155 : Rv (In o_ [120]) w_ u152 y145.Buses := h155
       refine OW.imp (OW.fr (L' := [(129, u152)]) ⟨rfl, trivial⟩ (OW.len Try.underlying22 rfl h155)) ?_
       rintro _ _ ⟨rfl, rfl⟩
       exact ⟨_, Evo.refl _ _ _ _, rfl, trivial⟩
      ·intro vs207 o_ w_ hE 
       exact ⟨⟨_, rfl, .inl (congrArg (fun b => some (Value.bool b)) hc206)⟩, rfl, trivial⟩
      ·intro vs207 o_ w_ hE 
       exact ⟨⟨_, rfl, .inl (congrArg (fun b => some (Value.bool b)) hc206)⟩, rfl, trivial⟩
      ·intro vs207 o_ w_ hE 
       exact ⟨⟨_, rfl, .inl (congrArg (fun b => some (Value.bool b)) hc206)⟩, rfl, trivial⟩
      ·intro vs207 o_ w_ hE 
       exact ⟨⟨_, rfl, .inl (congrArg (fun b => some (Value.bool b)) hc206)⟩, rfl, trivial⟩
      ·intro vs207 o_ w_ hE 
       exact ⟨⟨_, rfl, .inl (congrArg (fun b => some (Value.bool b)) hc206)⟩, rfl, trivial⟩
      ·intro vs207 o_ w_ hE 
       exact ⟨⟨_, rfl, .inl (congrArg (fun b => some (Value.bool b)) hc206)⟩, rfl, trivial⟩
      ·intro vs207 o_ w_ hE 
       exact ⟨⟨_, rfl, .inl (congrArg (fun b => some (Value.bool b)) hc206)⟩, rfl, trivial⟩
      ·intro vs207 o_ w_ hE 
       exact ⟨⟨_, rfl, .inl (congrArg (fun b => some (Value.bool b)) hc206)⟩, rfl, trivial⟩
      ·intro vs207 o_ w_ hE 
       exact ⟨⟨_, rfl, .inl (congrArg (fun b => some (Value.bool b)) hc206)⟩, rfl, trivial⟩
      ·intro vs207 o_ w_ hE 
       exact ⟨⟨_, rfl, .inl (congrArg (fun b => some (Value.bool b)) hc206)⟩, rfl, trivial⟩
      ·intro vs207 o_ w_ hE 
       exact ⟨⟨_, rfl, .inl (congrArg (fun b => some (Value.bool b)) hc206)⟩, rfl, trivial⟩
      ·intro vs207 o_ w_ hE 
       exact ⟨⟨_, rfl, .inl (congrArg (fun b => some (Value.bool b)) hc206)⟩, rfl, trivial⟩
      ·intro vs207 o_ w_ hE 
       refine OW.imp (OW.fr (L' := [(132, .bool ((((len y145.Buses) == 0)))), (144, undef)]) ⟨rfl, rfl, trivial⟩ (OW.pickT rfl hc206 rfl)) ?_
       rintro _ _ ⟨rfl, rfl⟩
       exact ⟨_, Evo.refl _ _ _ _, rfl, trivial⟩
      ·intro vs207 o209 w208 hE h155 hb162
       obtain ⟨hE, evT_⟩ := hE
       have h155 : Rv (In o209 [120]) w208 u152 y145.Buses := h155
       have hb162 : Bk o209 122 w208 pa158 [u152, u153, u154] := hb162
       have h10 := h10.evo evT_ rfl
       have h156 := h156.evo evT_ rfl
       have h157 := h157.evo evT_ rfl
       have h176 := h176.evo evT_ rfl
       have h21 := h21.evo evT_ rfl
       have h23 := h23.evo evT_ rfl
       have h25 := h25.evo evT_ rfl
       have h47 := h47.evo evT_ rfl
       have h49 := h49.evo evT_ rfl
       have h51 := h51.evo evT_ rfl
       have h53 := h53.evo evT_ rfl
       have h83 := h83.evo evT_ rfl
       have hb31 := hb31.evo evT_ rfl
       have hb59 := hb59.evo evT_ rfl
       have hs := hs.evo evT_ rfl
       have e210 := Option.some.inj q200
       subst e210
       exact NK.sb (hJ203 w208 o209 hE h10 h176 h21 h23 h25 h47 h49 h51 h53 h83 hb31 hb59 hs) ⟨rfl, rfl, rfl, rfl, rfl, rfl, rfl, trivial⟩
     ·have q200 := iteF hc206 q200
      obtain ⟨y211, q215, q200⟩ := bindE q200
      obtain ⟨y216, q217, q200⟩ := bindE q200
      have ev_ := Evo.drew o196 w195
      refine CW.anyS (N := [136]) hmix [sRv none none [] [120] (fun _ => u152) y145.Buses, sRv none none [] [120] (fun _ => u153) y145.Sources, sOw none none [] 48 102 [] (fun _ => u22) y13.Breakers, sOw none none [] 83 103 [] (fun _ => u24) y13.Sources, sOw none none [] 85 104 [101] (fun _ => u26) y13.Consumers, sOw none none [] 4 110 [] (fun _ => u48) y39.Closed, sOw none none [] 64 111 [] (fun _ => u50) y39.Sources, sOw none none [] 3 112 [] (fun _ => u52) y39.Limits, sOw none none [] 66 113 [] (fun _ => u54) y39.Broken, sBk none none [] 122 (fun _ => pa158) (fun _ => [u152, u153, u154]), sBk none none [] 105 (fun _ => pa27) (fun _ => [.int .i64 y13.Buses, u22, u24, u26, .int .i64 y13.Phase, .int .i64 y13.Frequency]), sBk none none [] 114 (fun _ => pa55) (fun _ => [u48, u50, u52, u54]), sPt (some 9) none [9] [120] (fun x_ => (pOf (x_.getD 0 undef))) y211, sEp (some 9) none [9] (fun _ => u152) 1 0 (fun x_ => (pOf (x_.getD 0 undef)))] [⟨[], [], [], [], fun _ => .pointer (some (pa158.add 0)), false⟩, ⟨[], [9], [0], [], fun _ => u152, false⟩, ⟨[], [0], [0, 1], [], fun _ => .int .i64 (len y145.Buses), false⟩, ⟨[], [], [0, 1, 2], [], fun _ => .bool ((((len y145.Buses) == 0))), false⟩, ⟨[], [], [0, 1, 2, 3], [], fun _ => .bool ((((len y145.Buses) == 0))), false⟩, ⟨[], [10], [0, 1, 2, 3, 4], [], fun _ => .agg #[.int .i64 y13.Buses, u22, u24, u26, .int .i64 y13.Phase, .int .i64 y13.Frequency], false⟩, ⟨[], [11], [0, 1, 2, 3, 4], [], fun _ => .agg #[u48, u50, u52, u54], false⟩, ⟨[], [], [0, 1, 2, 3, 4], [], fun _ => .pointer (some (pa158.add 0)), false⟩, ⟨[], [9], [0, 1, 2, 3, 4, 7], [], fun _ => u152, false⟩, ⟨[], [0], [0, 1, 2, 3, 4, 7, 8], [9], fun x_ => .pointer (some (pOf (x_.getD 0 undef))), false⟩, ⟨[], [12], [0, 1, 2, 3, 4, 7, 8, 9], [], fun _ => .int .i64 y211, false⟩, ⟨[], [2, 3, 4, 5, 6, 7, 8], [0, 1, 2, 3, 4, 5, 6, 7, 8, 9, 10], [], fun _ => .bool y216, false⟩, ⟨[], [], [0, 1, 2, 3, 4], [], fun _ => .pointer (some (pa158.add 1)), false⟩, ⟨[], [9], [0, 1, 2, 3, 4, 12], [], fun _ => u153, false⟩, ⟨[], [1], [0, 1, 2, 3, 4, 12, 13], [], fun _ => .int .i64 (len y145.Sources), false⟩, ⟨[], [], [0, 1, 2, 3, 4, 12, 13, 14], [], fun _ => .bool ((decide ((len y145.Sources) > 0))), false⟩, ⟨[], [], [0, 1, 2, 3, 4, 5, 6, 7, 8, 9, 10, 11, 12, 13, 14, 15], [], fun _ => .bool ((!decide (y216 = (decide ((len y145.Sources) > 0))))), false⟩, ⟨[], [], [0, 1, 2, 3, 4, 5, 6, 7, 8, 9, 10, 11, 12, 13, 14, 15, 16], [], fun _ => .bool ((!decide (y216 = (decide ((len y145.Sources) > 0))))), false⟩] [] hE rfl (by kernel_rfl) (by kernel_rfl) ⟨h155.evo ev_ rfl, h156.evo ev_ rfl, h21.evo ev_ rfl, h23.evo ev_ rfl, h25.evo ev_ rfl, h47.evo ev_ rfl, h49.evo ev_ rfl, h51.evo ev_ rfl, h53.evo ev_ rfl, hb162.evo ev_ rfl, hb31.evo ev_ rfl, hb59.evo ev_ rfl, trivial⟩ ⟨?_, ?_, ?_, Ob.pv rfl rfl (fun _ => rfl) rfl (fun _ _ _ => trivial), Ob.pv rfl rfl (fun _ => rfl) rfl (fun _ _ _ => trivial), ?_, ?_, ?_, ?_, ?_, ?_, ?_, ?_, ?_, ?_, ?_, ?_, ?_, trivial⟩ ?_
      ·intro vs223 o_ w_ hE 
       refine OW.imp (OW.fr (L' := [(8, .pointer (some pa158))]) ⟨rfl, trivial⟩ (OW.fldAddr (FldOk.at f53_0) rfl)) ?_
       rintro _ _ ⟨rfl, rfl⟩
       exact ⟨_, Evo.refl _ _ _ _, rfl, trivial⟩
      ·intro vs223 o_ w_ hE hb162
       have hb162 : Bk o_ 122 w_ pa158 [u152, u153, u154] := hb162
       refine OW.imp (OW.fr (L' := [(128, .pointer (some (pa158.add 0)))]) ⟨rfl, trivial⟩ (OW.loadK (off := 0) (List Int) (u152) ty22 rfl hb162 rfl rfl)) ?_
       rintro _ _ ⟨rfl, rfl⟩
       exact ⟨_, Evo.refl _ _ _ _, rfl, trivial⟩
      ·intro vs223 o_ w_ hE h155
       have h155 : Rv (In o_ [120]) w_ u152 y145.Buses := h155
       refine OW.imp (OW.fr (L' := [(129, u152)]) ⟨rfl, trivial⟩ (OW.len Try.underlying22 rfl h155)) ?_
       rintro _ _ ⟨rfl, rfl⟩
       exact ⟨_, Evo.refl _ _ _ _, rfl, trivial⟩
      ·intro vs223 o_ w_ hE hb31
       have hb31 : Bk o_ 105 w_ pa27 [.int .i64 y13.Buses, u22, u24, u26, .int .i64 y13.Phase, .int .i64 y13.Frequency] := hb31
       refine ⟨⟨_, rfl, congrArg (fun b => some (Value.bool b)) hc206⟩, ?_⟩
       refine OW.imp (OW.fr (L' := [(4, .pointer (some pa27))]) ⟨rfl, trivial⟩ (OW.loadK0 Board (.agg #[.int .i64 y13.Buses, u22, u24, u26, .int .i64 y13.Phase, .int .i64 y13.Frequency]) ty39 rfl hb31 rfl rfl)) ?_
       rintro _ _ ⟨rfl, rfl⟩
       exact ⟨_, Evo.refl _ _ _ _, rfl, trivial⟩
      ·intro vs223 o_ w_ hE hb59
       have hb59 : Bk o_ 114 w_ pa55 [u48, u50, u52, u54] := hb59
       refine ⟨⟨_, rfl, congrArg (fun b => some (Value.bool b)) hc206⟩, ?_⟩
       refine OW.imp (OW.fr (L' := [(5, .pointer (some pa55))]) ⟨rfl, trivial⟩ (OW.loadK0 Power (.agg #[u48, u50, u52, u54]) ty45 rfl hb59 rfl rfl)) ?_
       rintro _ _ ⟨rfl, rfl⟩
       exact ⟨_, Evo.refl _ _ _ _, rfl, trivial⟩
      ·intro vs223 o_ w_ hE 
       refine ⟨⟨_, rfl, congrArg (fun b => some (Value.bool b)) hc206⟩, ?_⟩
       refine OW.imp (OW.fr (L' := [(8, .pointer (some pa158))]) ⟨rfl, trivial⟩ (OW.fldAddr (FldOk.at f53_0) rfl)) ?_
       rintro _ _ ⟨rfl, rfl⟩
       exact ⟨_, Evo.refl _ _ _ _, rfl, trivial⟩
      ·intro vs223 o_ w_ hE hb162
       have hb162 : Bk o_ 122 w_ pa158 [u152, u153, u154] := hb162
       refine ⟨⟨_, rfl, congrArg (fun b => some (Value.bool b)) hc206⟩, ?_⟩
       refine OW.imp (OW.fr (L' := [(135, .pointer (some (pa158.add 0)))]) ⟨rfl, trivial⟩ (OW.loadK (off := 0) (List Int) (u152) ty22 rfl hb162 rfl rfl)) ?_
       rintro _ _ ⟨rfl, rfl⟩
       exact ⟨_, Evo.refl _ _ _ _, rfl, trivial⟩
      ·intro vs223 o_ w_ hE h155
       have h155 : Rv (In o_ [120]) w_ u152 y145.Buses := h155
       refine ⟨⟨_, rfl, congrArg (fun b => some (Value.bool b)) hc206⟩, ?_⟩
       refine OW.imp (OW.fr (L' := [(136, u152)]) ⟨rfl, trivial⟩ (OW.indexAddr Try.underlying22 ty3 rfl h155 rfl q215)) ?_
       rintro _ _ ⟨rfl, ⟨pa212, hv_, hp213, he214⟩⟩
       subst hv_
       exact ⟨_, Evo.refl _ _ _ _, rfl, hp213, he214, trivial⟩
      ·intro vs223 o_ w_ hE hp213
       have hp213 : PtrAt (In o_ [120]) w_ (pOf (vs223 9)) y211 := hp213
       refine ⟨⟨_, rfl, congrArg (fun b => some (Value.bool b)) hc206⟩, ?_⟩
       refine OW.imp (OW.fr (L' := [(137, .pointer (some (pOf (vs223 9))))]) ⟨rfl, trivial⟩ (OW.loadI ty3 rfl hp213)) ?_
       rintro _ _ ⟨rfl, rfl⟩
       exact ⟨_, Evo.refl _ _ _ _, rfl, trivial⟩
      ·intro vs223 o_ w_ hE h21 h23 h25 h47 h49 h51 h53
       have h21 : Ow 48 o_ 102 [] w_ u22 y13.Breakers := h21
       have h23 : Ow 83 o_ 103 [] w_ u24 y13.Sources := h23
       have h25 : Ow 85 o_ 104 [101] w_ u26 y13.Consumers := h25
       have h47 : Ow 4 o_ 110 [] w_ u48 y39.Closed := h47
       have h49 : Ow 64 o_ 111 [] w_ u50 y39.Sources := h49
       have h51 : Ow 3 o_ 112 [] w_ u52 y39.Limits := h51
       have h53 : Ow 66 o_ 113 [] w_ u54 y39.Broken := h53
       refine ⟨⟨_, rfl, congrArg (fun b => some (Value.bool b)) hc206⟩, ?_⟩
       refine OW.imp (OW.fr (L' := [(133, .agg #[.int .i64 y13.Buses, u22, u24, u26, .int .i64 y13.Phase, .int .i64 y13.Frequency]), (134, .agg #[u48, u50, u52, u54]), (138, .int .i64 y211)]) ⟨rfl, rfl, rfl, trivial⟩ (OW.call Try.call27 rfl (board_Live_ok q217 (mk39 (x := y13) (h21.rv.sub (K' := [101, 102, 103, 104]) rfl) (h23.rv.sub (K' := [101, 102, 103, 104]) rfl) (h25.rv.sub (K' := [101, 102, 103, 104]) rfl)) (mk45 (x := y39) (h47.rv.sub (K' := [110, 111, 112, 113]) rfl) (h49.rv.sub (K' := [110, 111, 112, 113]) rfl) (h51.rv.sub (K' := [110, 111, 112, 113]) rfl) (h53.rv.sub (K' := [110, 111, 112, 113]) rfl))))) ?_
       rintro _ w218 ⟨o222, hn_, rfl⟩
       obtain ⟨o219, ev220, hA221⟩ := adopt (o := o_) (ks := []) (Ks := [[101, 102, 103, 104], [110, 111, 112, 113]]) 136 ([]) [136] hn_ MbOk.nil rfl rfl rfl rfl
       exact ⟨o219, ev220.sub rfl rfl, rfl, trivial⟩
      ·intro vs223 o_ w_ hE 
       refine ⟨⟨_, rfl, congrArg (fun b => some (Value.bool b)) hc206⟩, ?_⟩
       refine OW.imp (OW.fr (L' := [(8, .pointer (some pa158))]) ⟨rfl, trivial⟩ (OW.fldAddr (FldOk.at f53_1) rfl)) ?_
       rintro _ _ ⟨rfl, rfl⟩
       exact ⟨_, Evo.refl _ _ _ _, rfl, trivial⟩
      ·intro vs223 o_ w_ hE hb162
       have hb162 : Bk o_ 122 w_ pa158 [u152, u153, u154] := hb162
       refine ⟨⟨_, rfl, congrArg (fun b => some (Value.bool b)) hc206⟩, ?_⟩
       refine OW.imp (OW.fr (L' := [(140, .pointer (some (pa158.add 1)))]) ⟨rfl, trivial⟩ (OW.loadK (off := 1) (List Int) (u153) ty22 rfl hb162 rfl rfl)) ?_
       rintro _ _ ⟨rfl, rfl⟩
       exact ⟨_, Evo.refl _ _ _ _, rfl, trivial⟩
      ·intro vs223 o_ w_ hE h156
       have h156 : Rv (In o_ [120]) w_ u153 y145.Sources := h156
       refine ⟨⟨_, rfl, congrArg (fun b => some (Value.bool b)) hc206⟩, ?_⟩
       refine OW.imp (OW.fr (L' := [(141, u153)]) ⟨rfl, trivial⟩ (OW.len Try.underlying22 rfl h156)) ?_
       rintro _ _ ⟨rfl, rfl⟩
       exact ⟨_, Evo.refl _ _ _ _, rfl, trivial⟩
      ·intro vs223 o_ w_ hE 
       refine ⟨⟨_, rfl, congrArg (fun b => some (Value.bool b)) hc206⟩, ?_⟩
       refine OW.imp (OW.fr (L' := [(142, .int .i64 (len y145.Sources))]) ⟨rfl, trivial⟩ (OW.pv (v := (.bool ((decide ((len y145.Sources) > 0))))) rfl)) ?_
       rintro _ _ ⟨rfl, rfl⟩
       exact ⟨_, Evo.refl _ _ _ _, rfl, trivial⟩
      ·intro vs223 o_ w_ hE 
       refine ⟨⟨_, rfl, congrArg (fun b => some (Value.bool b)) hc206⟩, ?_⟩
       refine OW.imp (OW.fr (L' := [(139, .bool y216), (143, .bool ((decide ((len y145.Sources) > 0))))]) ⟨rfl, rfl, trivial⟩ (OW.neq (x := y216) (y := ((decide ((len y145.Sources) > 0)))) (S := fun _ => True) (S' := fun _ => True) eq4 rfl rfl (rv_bool.2 rfl) (rv_bool.2 rfl))) ?_
       rintro _ _ ⟨rfl, rfl⟩
       exact ⟨_, Evo.refl _ _ _ _, rfl, trivial⟩
      ·intro vs223 o_ w_ hE 
       refine OW.imp (OW.fr (L' := [(132, .bool ((((len y145.Buses) == 0)))), (144, .bool ((!decide (y216 = (decide ((len y145.Sources) > 0))))))]) ⟨rfl, rfl, trivial⟩ (OW.pickF rfl hc206 rfl)) ?_
       rintro _ _ ⟨rfl, rfl⟩
       exact ⟨_, Evo.refl _ _ _ _, rfl, trivial⟩
      ·intro vs223 o225 w224 hE h155 h156 h21 h23 h25 h47 h49 h51 h53 hb162 hb31 hb59 hp213 he214
       obtain ⟨hE, evT_⟩ := hE
       have h155 : Rv (In o225 [120]) w224 u152 y145.Buses := h155
       have h156 : Rv (In o225 [120]) w224 u153 y145.Sources := h156
       have h21 : Ow 48 o225 102 [] w224 u22 y13.Breakers := h21
       have h23 : Ow 83 o225 103 [] w224 u24 y13.Sources := h23
       have h25 : Ow 85 o225 104 [101] w224 u26 y13.Consumers := h25
       have h47 : Ow 4 o225 110 [] w224 u48 y39.Closed := h47
       have h49 : Ow 64 o225 111 [] w224 u50 y39.Sources := h49
       have h51 : Ow 3 o225 112 [] w224 u52 y39.Limits := h51
       have h53 : Ow 66 o225 113 [] w224 u54 y39.Broken := h53
       have hb162 : Bk o225 122 w224 pa158 [u152, u153, u154] := hb162
       have hb31 : Bk o225 105 w224 pa27 [.int .i64 y13.Buses, u22, u24, u26, .int .i64 y13.Phase, .int .i64 y13.Frequency] := hb31
       have hb59 : Bk o225 114 w224 pa55 [u48, u50, u52, u54] := hb59
       have hp213 : PtrAt (In o225 [120]) w224 (pOf (vs223 9)) y211 := hp213
       have he214 : EPtr u152 1 0 (pOf (vs223 9)) := he214
       have h10 := h10.evo evT_ rfl
       have h157 := h157.evo evT_ rfl
       have h176 := h176.evo evT_ rfl
       have h83 := h83.evo evT_ rfl
       have hs := hs.evo evT_ rfl
       have e226 := Option.some.inj q200
       subst e226
       exact NK.sb (hJ203 w224 o225 hE h10 h176 h21 h23 h25 h47 h49 h51 h53 h83 hb31 hb59 hs) ⟨rfl, rfl, rfl, rfl, rfl, rfl, rfl, trivial⟩
    refine CW.sub (L' := [(4, .pointer (some pa27)), (5, .pointer (some pa55)), (6, v175), (8, .pointer (some pa158)), (35, v84), (36, .int .i64 (len y76)), (37, .int .i64 x88), (105, u154), (106, .int .i64 (len y145.Consumers)), (107, .int .i64 0)]) ⟨rfl, rfl, rfl, rfl, rfl, rfl, rfl, rfl, rfl, rfl, trivial⟩ ?_
    refine CW.loop (dynposlaw15_BoardIslands_L5 y13 y39 y145) (fun s_ L_ w227 => ∃ (o228 : Cls) (x192 : Int), x192 = s_ ∧ L_ = [(4, .pointer (some pa27)), (5, .pointer (some pa55)), (6, v175), (8, .pointer (some pa158)), (35, v84), (36, .int .i64 (len y76)), (37, .int .i64 x88), (105, u154), (106, .int .i64 (len y145.Consumers)), (107, .int .i64 x192)] ∧ En w0 e0 o228 w227 ∧ Rv (In o228 [40]) w227 sv y3 ∧ Rv (In o228 [120]) w227 u152 y145.Buses ∧ Rv (In o228 [120]) w227 u153 y145.Sources ∧ Rv (In o228 [120]) w227 u154 y145.Consumers ∧ Ow 3 o228 119 [] w227 v175 x174 ∧ Ow 48 o228 102 [] w227 u22 y13.Breakers ∧ Ow 83 o228 103 [] w227 u24 y13.Sources ∧ Ow 85 o228 104 [101] w227 u26 y13.Consumers ∧ Ow 4 o228 110 [] w227 u48 y39.Closed ∧ Ow 64 o228 111 [] w227 u50 y39.Sources ∧ Ow 3 o228 112 [] w227 u52 y39.Limits ∧ Ow 66 o228 113 [] w227 u54 y39.Broken ∧ Ow 53 o228 121 [120] w227 v84 y76 ∧ Bk o228 122 w227 pa158 [u152, u153, u154] ∧ Bk o228 105 w227 pa27 [.int .i64 y13.Buses, u22, u24, u26, .int .i64 y13.Phase, .int .i64 y13.Frequency] ∧ Bk o228 114 w227 pa55 [u48, u50, u52, u54] ∧ SrcC o228 100 w227 sb sv y3 st40) hl193 ?_ ?_
    ·exact ⟨o188, 0, rfl, rfl, hE, h10, h155, h156, h157, h176, h21, h23, h25, h47, h49, h51, h53, h83, hb162, hb31, hb59, hs⟩
    intro K229 s_ L_ w227 hi_ x230 hx231 hr232 hk233
    obtain ⟨o228, x192, rfl, rfl, hE, h10, h155, h156, h157, h176, h21, h23, h25, h47, h49, h51, h53, h83, hb162, hb31, hb59, hs⟩ := hi_
    rw [dynposlaw15_BoardIslands_L5] at hx231
    refine CW.sr fun K234 hK234 => ?_
    refine WL.p (.bool ((decide (x192 < (len y145.Consumers))))) rfl rfl ?_
    refine WL.nx hK234 ?_
    refine CW.seq fun K235 hK235 => ?_
    refine CW.cond (b := (decide (x192 < (len y145.Consumers)))) rfl (fun hc236 => ?_) (fun hc236 => ?_)
    ·have hx231 := iteT hc236 hx231
     refine CW.skip ?_
     refine hK235 _ _ ?_
     refine CW.seq fun K237 hK237 => ?_
     refine CW.block ?_
     refine CW.sr fun K238 hK238 => ?_
     obtain ⟨y239, q243, hx231⟩ := bindE hx231
     refine WL.stepP (OW.indexAddr Try.underlying22 ty3 rfl h157 rfl q243) rfl fun _ ⟨pa240, hv_, hp241, he242⟩ => ?_
     subst hv_
     refine WL.stepE (OW.loadI ty3 rfl hp241) rfl ?_
     refine WL.p (.int .i64 y239) rfl rfl ?_
     refine WL.nx hK238 ?_
     refine CW.sr fun K244 hK244 => ?_
     refine WL.stepE (OW.loadK0 Board (.agg #[.int .i64 y13.Buses, u22, u24, u26, .int .i64 y13.Phase, .int .i64 y13.Frequency]) ty39 rfl hb31 rfl rfl) rfl ?_
     refine WL.stepE (OW.loadK0 Power (.agg #[u48, u50, u52, u54]) ty45 rfl hb59 rfl rfl) rfl ?_
     refine WL.p (.int .i64 y239) rfl rfl ?_
     obtain ⟨⟨y245, y246⟩, q247, hx231⟩ := bindE hx231
     dsimp only at hx231
     refine WL.step (OW.call Try.call26 rfl (board_Fed_ok q247 (mk39 (x := y13) (h21.rv.sub (K' := [101, 102, 103, 104]) rfl) (h23.rv.sub (K' := [101, 102, 103, 104]) rfl) (h25.rv.sub (K' := [101, 102, 103, 104]) rfl)) (mk45 (x := y39) (h47.rv.sub (K' := [110, 111, 112, 113]) rfl) (h49.rv.sub (K' := [110, 111, 112, 113]) rfl) (h51.rv.sub (K' := [110, 111, 112, 113]) rfl) (h53.rv.sub (K' := [110, 111, 112, 113]) rfl)))) rfl ?_
     rintro _ w248 ⟨o252, hn_, rfl⟩
     obtain ⟨o249, ev250, hA251⟩ := adopt (o := o228) (ks := []) (Ks := [[101, 102, 103, 104], [110, 111, 112, 113]]) 134 ([]) [134] hn_ MbOk.nil rfl rfl rfl rfl
     have hE := hE.evo ev250 rfl rfl
     have h10 := h10.evo ev250 rfl
     have h155 := h155.evo ev250 rfl
     have h156 := h156.evo ev250 rfl
     have h157 := h157.evo ev250 rfl
     have h176 := h176.evo ev250 rfl
     have h21 := h21.evo ev250 rfl
     have h23 := h23.evo ev250 rfl
     have h25 := h25.evo ev250 rfl
     have h47 := h47.evo ev250 rfl
     have h49 := h49.evo ev250 rfl
     have h51 := h51.evo ev250 rfl
     have h53 := h53.evo ev250 rfl
     have h83 := h83.evo ev250 rfl
     have hb162 := hb162.evo ev250 rfl
     have hb31 := hb31.evo ev250 rfl
     have hb59 := hb59.evo ev250 rfl
     have hs := hs.evo ev250 rfl
     refine WL.p (.tuple #[.int .i64 y245, .bool y246]) rfl rfl ?_
     refine WL.p (.int .i64 y245) rfl rfl ?_
     refine WL.p (.bool y246) rfl rfl ?_
     refine WL.p (.int .i64 y245) rfl rfl ?_
     refine WL.p (.bool y246) rfl rfl ?_
     refine WL.nx hK244 ?_
     refine CW.sr fun K253 hK253 => ?_
     refine WL.p (.bool y246) rfl rfl ?_
     refine WL.p (.bool (!y246)) rfl rfl ?_
     refine WL.p (.bool (!y246)) rfl rfl ?_
     obtain ⟨x254, q255, hx231⟩ := bindE hx231
     have hJ258 : ∀ (w256 : World) (o257 : Cls), En w0 e0 o257 w256 → Rv (In o257 [40]) w256 sv y3 → Rv (In o257 [120]) w256 u152 y145.Buses → Rv (In o257 [120]) w256 u153 y145.Sources → Rv (In o257 [120]) w256 u154 y145.Consumers → Ow 3 o257 119 [] w256 v175 x174 → Ow 48 o257 102 [] w256 u22 y13.Breakers → Ow 83 o257 103 [] w256 u24 y13.Sources → Ow 85 o257 104 [101] w256 u26 y13.Consumers → Ow 4 o257 110 [] w256 u48 y39.Closed → Ow 64 o257 111 [] w256 u50 y39.Sources → Ow 3 o257 112 [] w256 u52 y39.Limits → Ow 66 o257 113 [] w256 u54 y39.Broken → Ow 53 o257 121 [120] w256 v84 y76 → Bk o257 122 w256 pa158 [u152, u153, u154] → Bk o257 105 w256 pa27 [.int .i64 y13.Buses, u22, u24, u26, .int .i64 y13.Phase, .int .i64 y13.Frequency] → Bk o257 114 w256 pa55 [u48, u50, u52, u54] → SrcC o257 100 w256 sb sv y3 st40 → NK 157 K253 [(4, .pointer (some pa27)), (5, .pointer (some pa55)), (6, v175), (8, .pointer (some pa158)), (35, v84), (36, .int .i64 (len y76)), (37, .int .i64 x88), (105, u154), (106, .int .i64 (len y145.Consumers)), (107, .int .i64 x192), (126, .bool x254)] w256 := by
      intro w256 o257  hE h10 h155 h156 h157 h176 h21 h23 h25 h47 h49 h51 h53 h83 hb162 hb31 hb59 hs
      refine hK253 _ _ ?_
      refine CW.cond (b := x254) rfl (fun hc259 => ?_) (fun hc259 => ?_)
      ·have hx231 := iteT hc259 hx231
       refine CW.sr fun K260 hK260 => ?_
       refine WL.p (.bool false) rfl rfl ?_
       refine WL.nx hK260 ?_
       have e_ := hr232 _ (Option.some.inj hx231).symm
       subst e_
       have hx137 := elimR hx137
       have e_ := hr138 _ (Option.some.inj hx137).symm
       subst e_
       have hF := elimR hF
       obtain rfl := Option.some.inj hF
       exact CW.rets (vs := [.bool false]) Try.results6 ⟨rfl, trivial⟩ ⟨_, rfl, _, (hE.rn he0 100 [] rfl rfl), rfl⟩ (fun _ _ h => h)
      ·have hx231 := iteF hc259 hx231
       refine CW.skip ?_
       refine hK237 _ _ ?_
       refine CW.region ?_
       refine WL.p (.int .i64 ((W (x192 + 1)))) rfl rfl ?_
       refine WL.p (.int .i64 ((W (x192 + 1)))) rfl rfl ?_
       refine WL.nil ?_
       exact NK.sb (hk233 _ _ _ (Option.some.inj hx231).symm ⟨o257, (W (x192 + 1)), rfl, rfl, hE, h10, h155, h156, h157, h176, h21, h23, h25, h47, h49, h51, h53, h83, hb162, hb31, hb59, hs⟩) ⟨rfl, rfl, rfl, rfl, rfl, rfl, rfl, rfl, rfl, rfl, trivial⟩
     rcases Bool.eq_false_or_eq_true (!y246) with hc261 | hc261
     ·have q255 := iteT hc261 q255
      refine WL.skipG rfl rfl rfl (by rw [hc261]; rfl) rfl ?_
      refine WL.skipG rfl rfl rfl (by rw [hc261]; rfl) rfl ?_
      refine WL.skipG rfl rfl rfl (by rw [hc261]; rfl) rfl ?_
      refine WL.skipG rfl rfl rfl (by rw [hc261]; rfl) rfl ?_
      refine WL.skipG rfl rfl rfl (by rw [hc261]; rfl) rfl ?_
      refine WL.stepE (OW.pickT rfl hc261 rfl) rfl ?_
      refine WL.nil ?_
      have e262 := Option.some.inj q255
      subst e262
      exact NK.sb (hJ258 w248 o249 hE h10 h155 h156 h157 h176 h21 h23 h25 h47 h49 h51 h53 h83 hb162 hb31 hb59 hs) ⟨rfl, rfl, rfl, rfl, rfl, rfl, rfl, rfl, rfl, rfl, rfl, trivial⟩
     ·have q255 := iteF hc261 q255
      refine WL.stepGE rfl rfl rfl hc261 (OW.fldAddr (FldOk.at f53_0) rfl) rfl ?_
      refine WL.stepGE rfl rfl rfl hc261 (OW.loadK (off := 0) (List Int) (u152) ty22 rfl hb162 rfl rfl) rfl ?_
      refine WL.stepGE rfl rfl rfl hc261 (OW.pv (v := (.int .i64 y245)) rfl) rfl ?_
      obtain ⟨y263, q264, q255⟩ := bindE q255
      refine WL.stepG rfl rfl rfl hc261 (OW.call Try.call23 rfl (dynposref01_Has_ok q264 h155)) rfl ?_
      rintro _ w265 ⟨o269, hn_, rfl⟩
      obtain ⟨o266, ev267, hA268⟩ := adopt (o := o249) (ks := []) (Ks := [[120]]) 135 ([]) [135] hn_ MbOk.nil rfl rfl rfl rfl
      have hE := hE.evo ev267 rfl rfl
      have h10 := h10.evo ev267 rfl
      have h155 := h155.evo ev267 rfl
      have h156 := h156.evo ev267 rfl
      have h157 := h157.evo ev267 rfl
      have h176 := h176.evo ev267 rfl
      have h21 := h21.evo ev267 rfl
      have h23 := h23.evo ev267 rfl
      have h25 := h25.evo ev267 rfl
      have h47 := h47.evo ev267 rfl
      have h49 := h49.evo ev267 rfl
      have h51 := h51.evo ev267 rfl
      have h53 := h53.evo ev267 rfl
      have h83 := h83.evo ev267 rfl
      have hb162 := hb162.evo ev267 rfl
      have hb31 := hb31.evo ev267 rfl
      have hb59 := hb59.evo ev267 rfl
      have hs := hs.evo ev267 rfl
      refine WL.stepGE rfl rfl rfl hc261 (OW.pv (v := (.bool (!y263))) rfl) rfl ?_
      refine WL.stepE (OW.pickF rfl hc261 rfl) rfl ?_
      refine WL.nil ?_
      have e270 := Option.some.inj q255
      subst e270
      exact NK.sb (hJ258 w265 o266 hE h10 h155 h156 h157 h176 h21 h23 h25 h47 h49 h51 h53 h83 hb162 hb31 hb59 hs) ⟨rfl, rfl, rfl, rfl, rfl, rfl, rfl, rfl, rfl, rfl, rfl, trivial⟩
    ·have hx231 := iteF hc236 hx231
     refine CW.exit ?_
     exact NK.sb (hJ197 w227 o228 (hr232 _ (Option.some.inj hx231).symm) hE h10 h155 h156 h157 h176 h21 h23 h25 h47 h49 h51 h53 h83 hb162 hb31 hb59 hs) ⟨rfl, rfl, rfl, rfl, rfl, rfl, rfl, trivial⟩
   refine CW.sub (L' := [(4, .pointer (some pa27)), (5, .pointer (some pa55)), (6, v175), (8, .pointer (some pa158)), (35, v84), (36, .int .i64 (len y76)), (37, .int .i64 x88), (81, u153), (82, .int .i64 (len y145.Sources)), (83, .int .i64 0)]) ⟨rfl, rfl, rfl, rfl, rfl, rfl, rfl, rfl, rfl, rfl, trivial⟩ ?_
   refine CW.loop (dynposlaw15_BoardIslands_L4 y13 y39 y145) (fun s_ L_ w271 => ∃ (o272 : Cls) (x184 : Int), x184 = s_ ∧ L_ = [(4, .pointer (some pa27)), (5, .pointer (some pa55)), (6, v175), (8, .pointer (some pa158)), (35, v84), (36, .int .i64 (len y76)), (37, .int .i64 x88), (81, u153), (82, .int .i64 (len y145.Sources)), (83, .int .i64 x184)] ∧ En w0 e0 o272 w271 ∧ Rv (In o272 [40]) w271 sv y3 ∧ Rv (In o272 [120]) w271 u152 y145.Buses ∧ Rv (In o272 [120]) w271 u153 y145.Sources ∧ Rv (In o272 [120]) w271 u154 y145.Consumers ∧ Ow 3 o272 119 [] w271 v175 x174 ∧ Ow 48 o272 102 [] w271 u22 y13.Breakers ∧ Ow 83 o272 103 [] w271 u24 y13.Sources ∧ Ow 85 o272 104 [101] w271 u26 y13.Consumers ∧ Ow 4 o272 110 [] w271 u48 y39.Closed ∧ Ow 64 o272 111 [] w271 u50 y39.Sources ∧ Ow 3 o272 112 [] w271 u52 y39.Limits ∧ Ow 66 o272 113 [] w271 u54 y39.Broken ∧ Ow 53 o272 121 [120] w271 v84 y76 ∧ Bk o272 122 w271 pa158 [u152, u153, u154] ∧ Bk o272 105 w271 pa27 [.int .i64 y13.Buses, u22, u24, u26, .int .i64 y13.Phase, .int .i64 y13.Frequency] ∧ Bk o272 114 w271 pa55 [u48, u50, u52, u54] ∧ SrcC o272 100 w271 sb sv y3 st40) hl185 ?_ ?_
   ·exact ⟨o180, 0, rfl, rfl, hE, h10, h155, h156, h157, h176, h21, h23, h25, h47, h49, h51, h53, h83, hb162, hb31, hb59, hs⟩
   intro K273 s_ L_ w271 hi_ x274 hx275 hr276 hk277
   obtain ⟨o272, x184, rfl, rfl, hE, h10, h155, h156, h157, h176, h21, h23, h25, h47, h49, h51, h53, h83, hb162, hb31, hb59, hs⟩ := hi_
   rw [dynposlaw15_BoardIslands_L4] at hx275
   refine CW.sr fun K278 hK278 => ?_
   refine WL.p (.bool ((decide (x184 < (len y145.Sources))))) rfl rfl ?_
   refine WL.nx hK278 ?_
   refine CW.seq fun K279 hK279 => ?_
   refine CW.cond (b := (decide (x184 < (len y145.Sources)))) rfl (fun hc280 => ?_) (fun hc280 => ?_)
   ·have hx275 := iteT hc280 hx275
    refine CW.skip ?_
    refine hK279 _ _ ?_
    refine CW.seq fun K281 hK281 => ?_
    refine CW.block ?_
    refine CW.sr fun K282 hK282 => ?_
    obtain ⟨y283, q287, hx275⟩ := bindE hx275
    refine WL.stepP (OW.indexAddr Try.underlying22 ty3 rfl h156 rfl q287) rfl fun _ ⟨pa284, hv_, hp285, he286⟩ => ?_
    subst hv_
    refine WL.stepE (OW.loadI ty3 rfl hp285) rfl ?_
    refine WL.p (.int .i64 y283) rfl rfl ?_
    refine WL.nx hK282 ?_
    refine CW.sr fun K288 hK288 => ?_
    refine WL.stepE (OW.loadK0 Board (.agg #[.int .i64 y13.Buses, u22, u24, u26, .int .i64 y13.Phase, .int .i64 y13.Frequency]) ty39 rfl hb31 rfl rfl) rfl ?_
    refine WL.stepE (OW.loadK0 Power (.agg #[u48, u50, u52, u54]) ty45 rfl hb59 rfl rfl) rfl ?_
    refine WL.p (.int .i64 y283) rfl rfl ?_
    obtain ⟨⟨y289, y290⟩, q291, hx275⟩ := bindE hx275
    dsimp only at hx275
    refine WL.step (OW.call Try.call25 rfl (board_Connected_ok q291 (mk39 (x := y13) (h21.rv.sub (K' := [101, 102, 103, 104]) rfl) (h23.rv.sub (K' := [101, 102, 103, 104]) rfl) (h25.rv.sub (K' := [101, 102, 103, 104]) rfl)) (mk45 (x := y39) (h47.rv.sub (K' := [110, 111, 112, 113]) rfl) (h49.rv.sub (K' := [110, 111, 112, 113]) rfl) (h51.rv.sub (K' := [110, 111, 112, 113]) rfl) (h53.rv.sub (K' := [110, 111, 112, 113]) rfl)))) rfl ?_
    rintro _ w292 ⟨o296, hn_, rfl⟩
    obtain ⟨o293, ev294, hA295⟩ := adopt (o := o272) (ks := []) (Ks := [[101, 102, 103, 104], [110, 111, 112, 113]]) 132 ([]) [132] hn_ MbOk.nil rfl rfl rfl rfl
    have hE := hE.evo ev294 rfl rfl
    have h10 := h10.evo ev294 rfl
    have h155 := h155.evo ev294 rfl
    have h156 := h156.evo ev294 rfl
    have h157 := h157.evo ev294 rfl
    have h176 := h176.evo ev294 rfl
    have h21 := h21.evo ev294 rfl
    have h23 := h23.evo ev294 rfl
    have h25 := h25.evo ev294 rfl
    have h47 := h47.evo ev294 rfl
    have h49 := h49.evo ev294 rfl
    have h51 := h51.evo ev294 rfl
    have h53 := h53.evo ev294 rfl
    have h83 := h83.evo ev294 rfl
    have hb162 := hb162.evo ev294 rfl
    have hb31 := hb31.evo ev294 rfl
    have hb59 := hb59.evo ev294 rfl
    have hs := hs.evo ev294 rfl
    refine WL.p (.tuple #[.int .i64 y289, .bool y290]) rfl rfl ?_
    refine WL.p (.int .i64 y289) rfl rfl ?_
    refine WL.p (.bool y290) rfl rfl ?_
    refine WL.p (.int .i64 y289) rfl rfl ?_
    refine WL.p (.bool y290) rfl rfl ?_
    refine WL.nx hK288 ?_
    refine CW.sr fun K297 hK297 => ?_
    refine WL.p (.bool y290) rfl rfl ?_
    refine WL.p (.bool (!y290)) rfl rfl ?_
    refine WL.p (.bool (!y290)) rfl rfl ?_
    obtain ⟨x298, q299, hx275⟩ := bindE hx275
    have hJ302 : ∀ (w300 : World) (o301 : Cls), En w0 e0 o301 w300 → Rv (In o301 [40]) w300 sv y3 → Rv (In o301 [120]) w300 u152 y145.Buses → Rv (In o301 [120]) w300 u153 y145.Sources → Rv (In o301 [120]) w300 u154 y145.Consumers → Ow 3 o301 119 [] w300 v175 x174 → Ow 48 o301 102 [] w300 u22 y13.Breakers → Ow 83 o301 103 [] w300 u24 y13.Sources → Ow 85 o301 104 [101] w300 u26 y13.Consumers → Ow 4 o301 110 [] w300 u48 y39.Closed → Ow 64 o301 111 [] w300 u50 y39.Sources → Ow 3 o301 112 [] w300 u52 y39.Limits → Ow 66 o301 113 [] w300 u54 y39.Broken → Ow 53 o301 121 [120] w300 v84 y76 → Bk o301 122 w300 pa158 [u152, u153, u154] → Bk o301 105 w300 pa27 [.int .i64 y13.Buses, u22, u24, u26, .int .i64 y13.Phase, .int .i64 y13.Frequency] → Bk o301 114 w300 pa55 [u48, u50, u52, u54] → SrcC o301 100 w300 sb sv y3 st40 → NK 157 K297 [(4, .pointer (some pa27)), (5, .pointer (some pa55)), (6, v175), (8, .pointer (some pa158)), (35, v84), (36, .int .i64 (len y76)), (37, .int .i64 x88), (81, u153), (82, .int .i64 (len y145.Sources)), (83, .int .i64 x184), (102, .bool x298)] w300 := by
     intro w300 o301  hE h10 h155 h156 h157 h176 h21 h23 h25 h47 h49 h51 h53 h83 hb162 hb31 hb59 hs
     refine hK297 _ _ ?_
     refine CW.cond (b := x298) rfl (fun hc303 => ?_) (fun hc303 => ?_)
     ·have hx275 := iteT hc303 hx275
      refine CW.sr fun K304 hK304 => ?_
      refine WL.p (.bool false) rfl rfl ?_
      refine WL.nx hK304 ?_
      have e_ := hr276 _ (Option.some.inj hx275).symm
      subst e_
      have hx137 := elimR hx137
      have e_ := hr138 _ (Option.some.inj hx137).symm
      subst e_
      have hF := elimR hF
      obtain rfl := Option.some.inj hF
      exact CW.rets (vs := [.bool false]) Try.results6 ⟨rfl, trivial⟩ ⟨_, rfl, _, (hE.rn he0 100 [] rfl rfl), rfl⟩ (fun _ _ h => h)
     ·have hx275 := iteF hc303 hx275
      refine CW.skip ?_
      refine hK281 _ _ ?_
      refine CW.region ?_
      refine WL.p (.int .i64 ((W (x184 + 1)))) rfl rfl ?_
      refine WL.p (.int .i64 ((W (x184 + 1)))) rfl rfl ?_
      refine WL.nil ?_
      exact NK.sb (hk277 _ _ _ (Option.some.inj hx275).symm ⟨o301, (W (x184 + 1)), rfl, rfl, hE, h10, h155, h156, h157, h176, h21, h23, h25, h47, h49, h51, h53, h83, hb162, hb31, hb59, hs⟩) ⟨rfl, rfl, rfl, rfl, rfl, rfl, rfl, rfl, rfl, rfl, trivial⟩
    rcases Bool.eq_false_or_eq_true (!y290) with hc305 | hc305
    ·have q299 := iteT hc305 q299
     refine WL.skipG rfl rfl rfl (by rw [hc305]; rfl) rfl ?_
     refine WL.skipG rfl rfl rfl (by rw [hc305]; rfl) rfl ?_
     refine WL.skipG rfl rfl rfl (by rw [hc305]; rfl) rfl ?_
     refine WL.skipG rfl rfl rfl (by rw [hc305]; rfl) rfl ?_
     refine WL.skipG rfl rfl rfl (by rw [hc305]; rfl) rfl ?_
     refine WL.stepE (OW.pickT rfl hc305 rfl) rfl ?_
     refine WL.nil ?_
     have e306 := Option.some.inj q299
     subst e306
     exact NK.sb (hJ302 w292 o293 hE h10 h155 h156 h157 h176 h21 h23 h25 h47 h49 h51 h53 h83 hb162 hb31 hb59 hs) ⟨rfl, rfl, rfl, rfl, rfl, rfl, rfl, rfl, rfl, rfl, rfl, trivial⟩
    ·have q299 := iteF hc305 q299
     refine WL.stepGE rfl rfl rfl hc305 (OW.fldAddr (FldOk.at f53_0) rfl) rfl ?_
     refine WL.stepGE rfl rfl rfl hc305 (OW.loadK (off := 0) (List Int) (u152) ty22 rfl hb162 rfl rfl) rfl ?_
     refine WL.stepGE rfl rfl rfl hc305 (OW.pv (v := (.int .i64 y289)) rfl) rfl ?_
     obtain ⟨y307, q308, q299⟩ := bindE q299
     refine WL.stepG rfl rfl rfl hc305 (OW.call Try.call23 rfl (dynposref01_Has_ok q308 h155)) rfl ?_
     rintro _ w309 ⟨o313, hn_, rfl⟩
     obtain ⟨o310, ev311, hA312⟩ := adopt (o := o293) (ks := []) (Ks := [[120]]) 133 ([]) [133] hn_ MbOk.nil rfl rfl rfl rfl
     have hE := hE.evo ev311 rfl rfl
     have h10 := h10.evo ev311 rfl
     have h155 := h155.evo ev311 rfl
     have h156 := h156.evo ev311 rfl
     have h157 := h157.evo ev311 rfl
     have h176 := h176.evo ev311 rfl
     have h21 := h21.evo ev311 rfl
     have h23 := h23.evo ev311 rfl
     have h25 := h25.evo ev311 rfl
     have h47 := h47.evo ev311 rfl
     have h49 := h49.evo ev311 rfl
     have h51 := h51.evo ev311 rfl
     have h53 := h53.evo ev311 rfl
     have h83 := h83.evo ev311 rfl
     have hb162 := hb162.evo ev311 rfl
     have hb31 := hb31.evo ev311 rfl
     have hb59 := hb59.evo ev311 rfl
     have hs := hs.evo ev311 rfl
     refine WL.stepGE rfl rfl rfl hc305 (OW.pv (v := (.bool (!y307))) rfl) rfl ?_
     refine WL.stepE (OW.pickF rfl hc305 rfl) rfl ?_
     refine WL.nil ?_
     have e314 := Option.some.inj q299
     subst e314
     exact NK.sb (hJ302 w309 o310 hE h10 h155 h156 h157 h176 h21 h23 h25 h47 h49 h51 h53 h83 hb162 hb31 hb59 hs) ⟨rfl, rfl, rfl, rfl, rfl, rfl, rfl, rfl, rfl, rfl, rfl, trivial⟩
   ·have hx275 := iteF hc280 hx275
    refine CW.exit ?_
    exact NK.sb (hJ189 w271 o272 (hr276 _ (Option.some.inj hx275).symm) hE h10 h155 h156 h157 h176 h21 h23 h25 h47 h49 h51 h53 h83 hb162 hb31 hb59 hs) ⟨rfl, rfl, rfl, rfl, rfl, rfl, rfl, trivial⟩
  refine CW.sub (L' := [(4, .pointer (some pa27)), (5, .pointer (some pa55)), (6, v86), (8, .pointer (some pa158)), (35, v84), (36, .int .i64 (len y76)), (37, .int .i64 x88), (42, u152), (43, .int .i64 (len y145.Buses)), (44, .int .i64 0)]) ⟨rfl, rfl, rfl, rfl, rfl, rfl, rfl, rfl, rfl, rfl, trivial⟩ ?_
  refine CW.loop (dynposlaw15_BoardIslands_L3 y13 y39 y145) (fun s_ L_ w315 => ∃ (o316 : Cls) (x170 : (List Int)) (x173 : Int) (v171 : Value), (x170, x173) = s_ ∧ L_ = [(4, .pointer (some pa27)), (5, .pointer (some pa55)), (6, v171), (8, .pointer (some pa158)), (35, v84), (36, .int .i64 (len y76)), (37, .int .i64 x88), (42, u152), (43, .int .i64 (len y145.Buses)), (44, .int .i64 x173)] ∧ En w0 e0 o316 w315 ∧ Rv (In o316 [40]) w315 sv y3 ∧ Rv (In o316 [120]) w315 u152 y145.Buses ∧ Rv (In o316 [120]) w315 u153 y145.Sources ∧ Rv (In o316 [120]) w315 u154 y145.Consumers ∧ Ow 3 o316 119 [] w315 v171 x170 ∧ Ow 48 o316 102 [] w315 u22 y13.Breakers ∧ Ow 83 o316 103 [] w315 u24 y13.Sources ∧ Ow 85 o316 104 [101] w315 u26 y13.Consumers ∧ Ow 4 o316 110 [] w315 u48 y39.Closed ∧ Ow 64 o316 111 [] w315 u50 y39.Sources ∧ Ow 3 o316 112 [] w315 u52 y39.Limits ∧ Ow 66 o316 113 [] w315 u54 y39.Broken ∧ Ow 53 o316 121 [120] w315 v84 y76 ∧ Bk o316 122 w315 pa158 [u152, u153, u154] ∧ Bk o316 105 w315 pa27 [.int .i64 y13.Buses, u22, u24, u26, .int .i64 y13.Phase, .int .i64 y13.Frequency] ∧ Bk o316 114 w315 pa55 [u48, u50, u52, u54] ∧ SrcC o316 100 w315 sb sv y3 st40) hl177 ?_ ?_
  ·exact ⟨o159, x85, 0, v86, rfl, rfl, hE, h10, h155, h156, h157, h87, h21, h23, h25, h47, h49, h51, h53, h83, hb162, hb31, hb59, hs⟩
  intro K317 s_ L_ w315 hi_ x318 hx319 hr320 hk321
  obtain ⟨o316, x170, x173, v171, rfl, rfl, hE, h10, h155, h156, h157, h172, h21, h23, h25, h47, h49, h51, h53, h83, hb162, hb31, hb59, hs⟩ := hi_
  rw [dynposlaw15_BoardIslands_L3] at hx319
  refine CW.sr fun K322 hK322 => ?_
  refine WL.p (.bool ((decide (x173 < (len y145.Buses))))) rfl rfl ?_
  refine WL.nx hK322 ?_
  refine CW.seq fun K323 hK323 => ?_
  refine CW.cond (b := (decide (x173 < (len y145.Buses)))) rfl (fun hc324 => ?_) (fun hc324 => ?_)
  ·have hx319 := iteT hc324 hx319
   refine CW.skip ?_
   refine hK323 _ _ ?_
   refine CW.seq fun K325 hK325 => ?_
   refine CW.block ?_
   refine CW.sr fun K326 hK326 => ?_
   obtain ⟨y327, q331, hx319⟩ := bindE hx319
   refine WL.stepP (OW.indexAddr Try.underlying22 ty3 rfl h155 rfl q331) rfl fun _ ⟨pa328, hv_, hp329, he330⟩ => ?_
   subst hv_
   refine WL.stepE (OW.loadI ty3 rfl hp329) rfl ?_
   refine WL.p (.int .i64 y327) rfl rfl ?_
   refine WL.nx hK326 ?_
   refine CW.sr fun K332 hK332 => ?_
   refine WL.stepE (OW.loadK0 Board (.agg #[.int .i64 y13.Buses, u22, u24, u26, .int .i64 y13.Phase, .int .i64 y13.Frequency]) ty39 rfl hb31 rfl rfl) rfl ?_
   refine WL.stepE (OW.loadK0 Power (.agg #[u48, u50, u52, u54]) ty45 rfl hb59 rfl rfl) rfl ?_
   refine WL.p (.int .i64 y327) rfl rfl ?_
   obtain ⟨⟨y333, y334⟩, q335, hx319⟩ := bindE hx319
   dsimp only at hx319
   refine WL.step (OW.call Try.call22 rfl (board_Of_ok q335 (mk39 (x := y13) (h21.rv.sub (K' := [101, 102, 103, 104]) rfl) (h23.rv.sub (K' := [101, 102, 103, 104]) rfl) (h25.rv.sub (K' := [101, 102, 103, 104]) rfl)) (mk45 (x := y39) (h47.rv.sub (K' := [110, 111, 112, 113]) rfl) (h49.rv.sub (K' := [110, 111, 112, 113]) rfl) (h51.rv.sub (K' := [110, 111, 112, 113]) rfl) (h53.rv.sub (K' := [110, 111, 112, 113]) rfl)))) rfl ?_
   rintro _ w336 ⟨o340, u342, u344, u346, hn_, rfl, h341, h343, h345⟩
   obtain ⟨o337, ev338, hA339⟩ := adopt (o := o316) (ks := []) (Ks := [[101, 102, 103, 104], [110, 111, 112, 113]]) 126 ([]) [126] hn_ MbOk.nil rfl rfl rfl rfl
   have h341 := h341.ad (K' := [126]) hA339 rfl
   have h343 := h343.ad (K' := [126]) hA339 rfl
   have h345 := h345.ad (K' := [126]) hA339 rfl
   have hE := hE.evo ev338 rfl rfl
   have h10 := h10.evo ev338 rfl
   have h155 := h155.evo ev338 rfl
   have h156 := h156.evo ev338 rfl
   have h157 := h157.evo ev338 rfl
   have h172 := h172.evo ev338 rfl
   have h21 := h21.evo ev338 rfl
   have h23 := h23.evo ev338 rfl
   have h25 := h25.evo ev338 rfl
   have h47 := h47.evo ev338 rfl
   have h49 := h49.evo ev338 rfl
   have h51 := h51.evo ev338 rfl
   have h53 := h53.evo ev338 rfl
   have h83 := h83.evo ev338 rfl
   have hb162 := hb162.evo ev338 rfl
   have hb31 := hb31.evo ev338 rfl
   have hb59 := hb59.evo ev338 rfl
   have hs := hs.evo ev338 rfl
   refine WL.p (.tuple #[.agg #[u342, u344, u346], .bool y334]) rfl rfl ?_
   refine WL.p (.agg #[u342, u344, u346]) rfl rfl ?_
   refine WL.p (.bool y334) rfl rfl ?_
   refine WL.step (OW.allocK (o := o337) Island 127 [.slice none 0 0, .slice none 0 0, .slice none 0 0] ty53 rfl) rfl ?_
   rintro _ w349 ⟨pa347, o348, rfl, ev350, hb351⟩
   have hE := hE.evo ev350 rfl rfl
   have h10 := h10.evo ev350 rfl
   have h155 := h155.evo ev350 rfl
   have h156 := h156.evo ev350 rfl
   have h157 := h157.evo ev350 rfl
   have h172 := h172.evo ev350 rfl
   have h21 := h21.evo ev350 rfl
   have h23 := h23.evo ev350 rfl
   have h25 := h25.evo ev350 rfl
   have h341 := h341.evo ev350 rfl
   have h343 := h343.evo ev350 rfl
   have h345 := h345.evo ev350 rfl
   have h47 := h47.evo ev350 rfl
   have h49 := h49.evo ev350 rfl
   have h51 := h51.evo ev350 rfl
   have h53 := h53.evo ev350 rfl
   have h83 := h83.evo ev350 rfl
   have hb162 := hb162.evo ev350 rfl
   have hb31 := hb31.evo ev350 rfl
   have hb59 := hb59.evo ev350 rfl
   have hs := hs.evo ev350 rfl
   have h352 := Ow.nil (α := Int) 3 o348 128 [] w349
   have h353 := Ow.nil (α := Int) 3 o348 129 [] w349
   have h354 := Ow.nil (α := Int) 3 o348 130 [] w349
   refine WL.step0 (OW.storeK0 Island [u342, u344, u346] [u342, u344, u346] ty53 rfl rfl hb351 rfl ⟨(h341.one rfl), (h343.one rfl), (h345.one rfl), trivial⟩ rfl rfl rfl) ?_
   rintro _ w355 ⟨ev356, hb351⟩
   have hE := hE.evo ev356 rfl rfl
   have h10 := h10.evo ev356 rfl
   have h155 := h155.evo ev356 rfl
   have h156 := h156.evo ev356 rfl
   have h157 := h157.evo ev356 rfl
   have h172 := h172.evo ev356 rfl
   have h21 := h21.evo ev356 rfl
   have h23 := h23.evo ev356 rfl
   have h25 := h25.evo ev356 rfl
   have h341 := h341.evo ev356 rfl
   have h343 := h343.evo ev356 rfl
   have h345 := h345.evo ev356 rfl
   have h47 := h47.evo ev356 rfl
   have h49 := h49.evo ev356 rfl
   have h51 := h51.evo ev356 rfl
   have h53 := h53.evo ev356 rfl
   have h83 := h83.evo ev356 rfl
   have hb162 := hb162.evo ev356 rfl
   have hb31 := hb31.evo ev356 rfl
   have hb59 := hb59.evo ev356 rfl
   have hs := hs.evo ev356 rfl
   refine WL.p (.bool y334) rfl rfl ?_
   refine WL.nx hK332 ?_
   refine CW.seq fun K357 hK357 => ?_
   refine CW.sr fun K358 hK358 => ?_
   refine WL.p (.bool y334) rfl rfl ?_
   refine WL.p (.bool (!y334)) rfl rfl ?_
   refine WL.p (.bool (!y334)) rfl rfl ?_
   obtain ⟨x359, q360, hx319⟩ := bindE hx319
   have hJ363 : ∀ (w361 : World) (o362 : Cls), En w0 e0 o362 w361 → Rv (In o362 [40]) w361 sv y3 → Rv (In o362 [120]) w361 u152 y145.Buses → Rv (In o362 [120]) w361 u153 y145.Sources → Rv (In o362 [120]) w361 u154 y145.Consumers → Ow 3 o362 119 [] w361 v171 x170 → Ow 48 o362 102 [] w361 u22 y13.Breakers → Ow 83 o362 103 [] w361 u24 y13.Sources → Ow 85 o362 104 [101] w361 u26 y13.Consumers → Ow 4 o362 110 [] w361 u48 y39.Closed → Ow 64 o362 111 [] w361 u50 y39.Sources → Ow 3 o362 112 [] w361 u52 y39.Limits → Ow 66 o362 113 [] w361 u54 y39.Broken → Ow 53 o362 121 [120] w361 v84 y76 → Bk o362 122 w361 pa158 [u152, u153, u154] → Bk o362 105 w361 pa27 [.int .i64 y13.Buses, u22, u24, u26, .int .i64 y13.Phase, .int .i64 y13.Frequency] → Bk o362 114 w361 pa55 [u48, u50, u52, u54] → SrcC o362 100 w361 sb sv y3 st40 → NK 157 K358 [(4, .pointer (some pa27)), (5, .pointer (some pa55)), (6, v171), (8, .pointer (some pa158)), (10, .int .i64 y327), (35, v84), (36, .int .i64 (len y76)), (37, .int .i64 x88), (42, u152), (43, .int .i64 (len y145.Buses)), (44, .int .i64 x173), (72, .bool x359)] w361 := by
    intro w361 o362  hE h10 h155 h156 h157 h172 h21 h23 h25 h47 h49 h51 h53 h83 hb162 hb31 hb59 hs
    refine hK358 _ _ ?_
    refine CW.cond (b := x359) rfl (fun hc364 => ?_) (fun hc364 => ?_)
    ·have hx319 := iteT hc364 hx319
     refine CW.sr fun K365 hK365 => ?_
     refine WL.p (.bool false) rfl rfl ?_
     refine WL.nx hK365 ?_
     have e_ := hr320 _ (Option.some.inj hx319).symm
     subst e_
     have hx137 := elimR hx137
     have e_ := hr138 _ (Option.some.inj hx137).symm
     subst e_
     have hF := elimR hF
     obtain rfl := Option.some.inj hF
     exact CW.rets (vs := [.bool false]) Try.results6 ⟨rfl, trivial⟩ ⟨_, rfl, _, (hE.rn he0 100 [] rfl rfl), rfl⟩ (fun _ _ h => h)
    ·have hx319 := iteF hc364 hx319
     refine CW.skip ?_
     refine hK357 _ _ ?_
     refine CW.region ?_
     refine WL.p v171 rfl rfl ?_
     refine WL.p (.int .i64 y327) rfl rfl ?_
     obtain ⟨y366, q370, hx319⟩ := bindE hx319
     refine WL.stepP (OW.indexAddrO Try.underlying22 ty3 rfl h172 rfl q370) rfl fun _ ⟨pa367, hv_, hp368, he369⟩ => ?_
     subst hv_
     refine WL.stepE (OW.loadI ty3 rfl hp368.at) rfl ?_
     refine WL.p (.int .i64 ((W (y366 + 1)))) rfl rfl ?_
     refine WL.stepP (OW.indexAddrO Try.underlying22 ty3 rfl h172 rfl q370) rfl fun _ ⟨pa372, hv_, hp373, he374⟩ => ?_
     subst hv_
     obtain ⟨y375, q378, hx319⟩ := bindE hx319
     refine WL.step0 (OW.storeElem ty3 rfl he374 h172 rfl (rv_int.2 rfl) q378 rfl) ?_
     rintro _ w376 ⟨ev377, h379⟩
     have hE := hE.evo ev377 rfl rfl
     have h10 := h10.evo ev377 rfl
     have h155 := h155.evo ev377 rfl
     have h156 := h156.evo ev377 rfl
     have h157 := h157.evo ev377 rfl
     have h21 := h21.evo ev377 rfl
     have h23 := h23.evo ev377 rfl
     have h25 := h25.evo ev377 rfl
     have h47 := h47.evo ev377 rfl
     have h49 := h49.evo ev377 rfl
     have h51 := h51.evo ev377 rfl
     have h53 := h53.evo ev377 rfl
     have h83 := h83.evo ev377 rfl
     have hb162 := hb162.evo ev377 rfl
     have hb31 := hb31.evo ev377 rfl
     have hb59 := hb59.evo ev377 rfl
     have hs := hs.evo ev377 rfl
     refine WL.nil ?_
     refine hK325 _ _ ?_
     refine CW.region ?_
     refine WL.p (.int .i64 ((W (x173 + 1)))) rfl rfl ?_
     refine WL.p (.int .i64 ((W (x173 + 1)))) rfl rfl ?_
     refine WL.nil ?_
     exact NK.sb (hk321 _ _ _ (Option.some.inj hx319).symm ⟨o362, y375, (W (x173 + 1)), v171, rfl, rfl, hE, h10, h155, h156, h157, h379, h21, h23, h25, h47, h49, h51, h53, h83, hb162, hb31, hb59, hs⟩) ⟨rfl, rfl, rfl, rfl, rfl, rfl, rfl, rfl, rfl, rfl, trivial⟩
   rcases Bool.eq_false_or_eq_true (!y334) with hc380 | hc380
   ·have q360 := iteT hc380 q360
    refine WL.skipG rfl rfl rfl (by rw [hc380]; rfl) rfl ?_
    refine WL.skipG rfl rfl rfl (by rw [hc380]; rfl) rfl ?_
    refine WL.skipG rfl rfl rfl (by rw [hc380]; rfl) rfl ?_
    refine WL.skipG rfl rfl rfl (by rw [hc380]; rfl) rfl ?_
    refine WL.stepE (OW.pickT rfl hc380 rfl) rfl ?_
    refine WL.p (.bool true) rfl rfl ?_
    refine WL.skipG rfl rfl rfl rfl rfl ?_
    refine WL.skipG rfl rfl rfl rfl rfl ?_
    refine WL.stepE (OW.pickT rfl rfl rfl) rfl ?_
    refine WL.p (.bool true) rfl rfl ?_
    refine WL.skipG rfl rfl rfl rfl rfl ?_
    refine WL.skipG rfl rfl rfl rfl rfl ?_
    refine WL.skipG rfl rfl rfl rfl rfl ?_
    refine WL.skipG rfl rfl rfl rfl rfl ?_
    refine WL.stepE (OW.pickT rfl rfl rfl) rfl ?_
    refine WL.nil ?_
    have e381 := Option.some.inj q360
    subst e381
    exact NK.sb (hJ363 w355 o348 hE h10 h155 h156 h157 h172 h21 h23 h25 h47 h49 h51 h53 h83 hb162 hb31 hb59 hs) ⟨rfl, rfl, rfl, rfl, rfl, rfl, rfl, rfl, rfl, rfl, rfl, rfl, trivial⟩
   ·have q360 := iteF hc380 q360
    refine WL.stepGE rfl rfl rfl hc380 (OW.loadK0 Island (.agg #[u152, u153, u154]) ty53 rfl hb162 rfl rfl) rfl ?_
    refine WL.stepGE rfl rfl rfl hc380 (OW.loadK0 Island (.agg #[u342, u344, u346]) ty53 rfl hb351 rfl rfl) rfl ?_
    obtain ⟨y382, q383, q360⟩ := bindE q360
    refine WL.stepG rfl rfl rfl hc380 (OW.call Try.call24 rfl (dynposref15_Island_ok q383 (mk53 (x := y145) h155 h156 h157) (mk53 (x := y333) h341 h343 h345))) rfl ?_
    rintro _ w384 ⟨o388, hn_, rfl⟩
    obtain ⟨o385, ev386, hA387⟩ := adopt (o := o348) (ks := []) (Ks := [[120], [126]]) 131 ([]) [131] hn_ MbOk.nil rfl rfl rfl rfl
    have hE := hE.evo ev386 rfl rfl
    have h10 := h10.evo ev386 rfl
    have h155 := h155.evo ev386 rfl
    have h156 := h156.evo ev386 rfl
    have h157 := h157.evo ev386 rfl
    have h172 := h172.evo ev386 rfl
    have h21 := h21.evo ev386 rfl
    have h23 := h23.evo ev386 rfl
    have h25 := h25.evo ev386 rfl
    have h341 := h341.evo ev386 rfl
    have h343 := h343.evo ev386 rfl
    have h345 := h345.evo ev386 rfl
    have h47 := h47.evo ev386 rfl
    have h49 := h49.evo ev386 rfl
    have h51 := h51.evo ev386 rfl
    have h53 := h53.evo ev386 rfl
    have h83 := h83.evo ev386 rfl
    have hb162 := hb162.evo ev386 rfl
    have hb31 := hb31.evo ev386 rfl
    have hb59 := hb59.evo ev386 rfl
    have hs := hs.evo ev386 rfl
    refine WL.stepGE rfl rfl rfl hc380 (OW.pv (v := (.bool (!y382))) rfl) rfl ?_
    refine WL.stepE (OW.pickF rfl hc380 rfl) rfl ?_
    refine WL.p (.bool (!y382)) rfl rfl ?_
    obtain ⟨x389, q390, q360⟩ := bindE q360
    have hJ393 : ∀ (w391 : World) (o392 : Cls), En w0 e0 o392 w391 → Rv (In o392 [40]) w391 sv y3 → Rv (In o392 [120]) w391 u152 y145.Buses → Rv (In o392 [120]) w391 u153 y145.Sources → Rv (In o392 [120]) w391 u154 y145.Consumers → Ow 3 o392 119 [] w391 v171 x170 → Ow 48 o392 102 [] w391 u22 y13.Breakers → Ow 83 o392 103 [] w391 u24 y13.Sources → Ow 85 o392 104 [101] w391 u26 y13.Consumers → Rv (In o392 [126]) w391 u342 y333.Buses → Rv (In o392 [126]) w391 u344 y333.Sources → Rv (In o392 [126]) w391 u346 y333.Consumers → Ow 4 o392 110 [] w391 u48 y39.Closed → Ow 64 o392 111 [] w391 u50 y39.Sources → Ow 3 o392 112 [] w391 u52 y39.Limits → Ow 66 o392 113 [] w391 u54 y39.Broken → Ow 53 o392 121 [120] w391 v84 y76 → Bk o392 122 w391 pa158 [u152, u153, u154] → Bk o392 105 w391 pa27 [.int .i64 y13.Buses, u22, u24, u26, .int .i64 y13.Phase, .int .i64 y13.Frequency] → Bk o392 114 w391 pa55 [u48, u50, u52, u54] → SrcC o392 100 w391 sb sv y3 st40 → NK 157 K358 [(4, .pointer (some pa27)), (5, .pointer (some pa55)), (6, v171), (8, .pointer (some pa158)), (10, .int .i64 y327), (35, v84), (36, .int .i64 (len y76)), (37, .int .i64 x88), (42, u152), (43, .int .i64 (len y145.Buses)), (44, .int .i64 x173), (58, .agg #[u152, u153, u154]), (59, .agg #[u342, u344, u346]), (60, .bool y382), (61, .bool (!y382)), (72, .bool x389)] w391 := by
     intro w391 o392  hE h10 h155 h156 h157 h172 h21 h23 h25 h341 h343 h345 h47 h49 h51 h53 h83 hb162 hb31 hb59 hs
     have e394 := Option.some.inj q360
     subst e394
     exact NK.sb (hJ363 w391 o392 hE h10 h155 h156 h157 h172 h21 h23 h25 h47 h49 h51 h53 h83 hb162 hb31 hb59 hs) ⟨rfl, rfl, rfl, rfl, rfl, rfl, rfl, rfl, rfl, rfl, rfl, rfl, trivial⟩
    rcases Bool.eq_false_or_eq_true (!y382) with hc395 | hc395
    ·have q390 := iteT hc395 q390
     refine WL.skipG rfl rfl rfl (by rw [hc395]; rfl) rfl ?_
     refine WL.skipG rfl rfl rfl (by rw [hc395]; rfl) rfl ?_
     refine WL.stepE (OW.pickT rfl hc395 rfl) rfl ?_
     refine WL.p (.bool true) rfl rfl ?_
     refine WL.skipG rfl rfl rfl rfl rfl ?_
     refine WL.skipG rfl rfl rfl rfl rfl ?_
     refine WL.skipG rfl rfl rfl rfl rfl ?_
     refine WL.skipG rfl rfl rfl rfl rfl ?_
     refine WL.stepE (OW.pickT rfl rfl rfl) rfl ?_
     refine WL.nil ?_
     have e396 := Option.some.inj q390
     subst e396
     exact NK.sb (hJ393 w384 o385 hE h10 h155 h156 h157 h172 h21 h23 h25 h341 h343 h345 h47 h49 h51 h53 h83 hb162 hb31 hb59 hs) ⟨rfl, rfl, rfl, rfl, rfl, rfl, rfl, rfl, rfl, rfl, rfl, rfl, rfl, rfl, rfl, rfl, trivial⟩
    ·have q390 := iteF hc395 q390
     refine WL.stepGE rfl rfl rfl hc395 (OW.pv (v := (.int .i64 y327)) rfl) rfl ?_
     refine WL.stepGE rfl rfl rfl hc395 (OW.pv (v := (.bool ((decide (y327 < 0))))) rfl) rfl ?_
     refine WL.stepE (OW.pickF rfl hc395 rfl) rfl ?_
     refine WL.p (.bool ((decide (y327 < 0)))) rfl rfl ?_
     obtain ⟨x397, q398, q390⟩ := bindE q390
     have hJ401 : ∀ (w399 : World) (o400 : Cls), En w0 e0 o400 w399 → Rv (In o400 [40]) w399 sv y3 → Rv (In o400 [120]) w399 u152 y145.Buses → Rv (In o400 [120]) w399 u153 y145.Sources → Rv (In o400 [120]) w399 u154 y145.Consumers → Ow 3 o400 119 [] w399 v171 x170 → Ow 48 o400 102 [] w399 u22 y13.Breakers → Ow 83 o400 103 [] w399 u24 y13.Sources → Ow 85 o400 104 [101] w399 u26 y13.Consumers → Rv (In o400 [126]) w399 u342 y333.Buses → Rv (In o400 [126]) w399 u344 y333.Sources → Rv (In o400 [126]) w399 u346 y333.Consumers → Ow 4 o400 110 [] w399 u48 y39.Closed → Ow 64 o400 111 [] w399 u50 y39.Sources → Ow 3 o400 112 [] w399 u52 y39.Limits → Ow 66 o400 113 [] w399 u54 y39.Broken → Ow 53 o400 121 [120] w399 v84 y76 → Bk o400 122 w399 pa158 [u152, u153, u154] → Bk o400 105 w399 pa27 [.int .i64 y13.Buses, u22, u24, u26, .int .i64 y13.Phase, .int .i64 y13.Frequency] → Bk o400 114 w399 pa55 [u48, u50, u52, u54] → SrcC o400 100 w399 sb sv y3 st40 → NK 157 K358 [(4, .pointer (some pa27)), (5, .pointer (some pa55)), (6, v171), (8, .pointer (some pa158)), (10, .int .i64 y327), (35, v84), (36, .int .i64 (len y76)), (37, .int .i64 x88), (42, u152), (43, .int .i64 (len y145.Buses)), (44, .int .i64 x173), (58, .agg #[u152, u153, u154]), (59, .agg #[u342, u344, u346]), (60, .bool y382), (61, .bool (!y382)), (64, .int .i64 y327), (65, .bool ((decide (y327 < 0)))), (72, .bool x397)] w399 := by
      intro w399 o400  hE h10 h155 h156 h157 h172 h21 h23 h25 h341 h343 h345 h47 h49 h51 h53 h83 hb162 hb31 hb59 hs
      have e402 := Option.some.inj q390
      subst e402
      exact NK.sb (hJ393 w399 o400 hE h10 h155 h156 h157 h172 h21 h23 h25 h341 h343 h345 h47 h49 h51 h53 h83 hb162 hb31 hb59 hs) ⟨rfl, rfl, rfl, rfl, rfl, rfl, rfl, rfl, rfl, rfl, rfl, rfl, rfl, rfl, rfl, rfl, trivial⟩
     rcases Bool.eq_false_or_eq_true ((decide (y327 < 0))) with hc403 | hc403
     ·have q398 := iteT hc403 q398
      refine WL.skipG rfl rfl rfl (by rw [hc403]; rfl) rfl ?_
      refine WL.skipG rfl rfl rfl (by rw [hc403]; rfl) rfl ?_
      refine WL.skipG rfl rfl rfl (by rw [hc403]; rfl) rfl ?_
      refine WL.skipG rfl rfl rfl (by rw [hc403]; rfl) rfl ?_
      refine WL.stepE (OW.pickT rfl hc403 rfl) rfl ?_
      refine WL.nil ?_
      have e404 := Option.some.inj q398
      subst e404
      exact NK.sb (hJ401 w384 o385 hE h10 h155 h156 h157 h172 h21 h23 h25 h341 h343 h345 h47 h49 h51 h53 h83 hb162 hb31 hb59 hs) ⟨rfl, rfl, rfl, rfl, rfl, rfl, rfl, rfl, rfl, rfl, rfl, rfl, rfl, rfl, rfl, rfl, rfl, rfl, trivial⟩
     ·have q398 := iteF hc403 q398
      refine WL.stepGE rfl rfl rfl hc403 (OW.pv (v := (.int .i64 y327)) rfl) rfl ?_
      refine WL.stepGE rfl rfl rfl hc403 (OW.pv (v := v171) rfl) rfl ?_
      refine WL.stepGE rfl rfl rfl hc403 (OW.len Try.underlying22 rfl h172.rv) rfl ?_
      refine WL.stepGE rfl rfl rfl hc403 (OW.pv (v := (.bool ((decide (y327 ≥ (len x170)))))) rfl) rfl ?_
      refine WL.stepE (OW.pickF rfl hc403 rfl) rfl ?_
      refine WL.nil ?_
      have e405 := Option.some.inj q398
      subst e405
      exact NK.sb (hJ401 w384 o385 hE h10 h155 h156 h157 h172 h21 h23 h25 h341 h343 h345 h47 h49 h51 h53 h83 hb162 hb31 hb59 hs) ⟨rfl, rfl, rfl, rfl, rfl, rfl, rfl, rfl, rfl, rfl, rfl, rfl, rfl, rfl, rfl, rfl, rfl, rfl, trivial⟩
  ·have hx319 := iteF hc324 hx319
   refine CW.exit ?_
   exact NK.sb (hJ181 x170 w315 o316 v171 (hr320 _ (Option.some.inj hx319).symm) hE h10 h155 h156 h157 h172 h21 h23 h25 h47 h49 h51 h53 h83 hb162 hb31 hb59 hs) ⟨rfl, rfl, rfl, rfl, rfl, rfl, rfl, trivial⟩
 ·have hx137 := iteF hc142 hx137
  refine CW.exit ?_
  exact NK.sb (hJ96 x85 w133 o134 v86 (hr138 _ (Option.some.inj hx137).symm) hE h10 h87 hs) ⟨rfl, trivial⟩

end Go.Proofs.Ytnpghnnlcakbfaa
