/- Walks. Written by a program (wip/gen). -/
import Derived.Test.YtnpghnnlcakbfaaHw
import Derived.Test.YtnpghnnlcakbfaaWk1
set_option linter.unusedVariables false
set_option linter.unusedSimpArgs false
namespace Go.Proofs.Ytnpghnnlcakbfaa
open Go Go.RowKit Dp

set_option maxRecDepth 100000

set_option maxHeartbeats 16000000 in
theorem Src_Board_ok {st0 : List Int} {r : (Board × List Int)} (hF : Src_Board st0 = some r) {w0 : World} {sb : Nat} {sv : Value} {sL : List Int} {Ss : Nat → Prop} (hs : SrcB w0 sb sv sL st0) (hL : Rv Ss w0 sv sL) (hLn : ∀ b, b < w0.heap.size → Ss b → b ∉ [sb]) (hmb : [sb].Nodup) :
    Calls Try.prog 17 #[.pointer (some ⟨sb, 0, none⟩)] w0 (Ret fun v w' => ∃ (oc : Cls) (x0_1 : Value) (x0_2 : Value) (x0_3 : Value), En w0 (entM w0 [sb] [Ss]) oc w' ∧ v = .agg #[.int .i64 r.1.Buses, x0_1, x0_2, x0_3, .int .i64 r.1.Phase, .int .i64 r.1.Frequency] ∧ Ow 48 oc 101 [] w' x0_1 r.1.Breakers ∧ Ow 83 oc 102 [] w' x0_2 r.1.Sources ∧ Ow 85 oc 103 [106] w' x0_3 r.1.Consumers ∧ SrcC oc 1 w' sb sv sL r.2) := by
 obtain ⟨e0, he0⟩ : ∃ e0, e0 = entM w0 [sb] [Ss] := ⟨_, rfl⟩
 have hE := En.refl w0 e0
 have hs := hs.inM he0 hmb 0 rfl
 have hL := hL.argM he0 0 (K := [40]) rfl hLn rfl
 rw [Src_Board] at hF
 refine enter (l := [.pointer (some ⟨sb, 0, none⟩)]) Try.func17 rfl Try.ntmps17 rfl ?_
 refine CW.sub (L' := [(0, .pointer (some ⟨sb, 0, none⟩))]) ⟨rfl, trivial⟩ ?_
 refine CW.sr fun K1 hK1 => ?_
 refine WL.step (OW.allocK (o := e0) Board 100 [.int .i64 0, .slice none 0 0, .slice none 0 0, .slice none 0 0, .int .i64 0, .int .i64 0] ty39 rfl) rfl ?_
 rintro _ w4 ⟨pa2, o3, rfl, ev5, hb6⟩
 have hE := hE.evo ev5 rfl rfl
 have hs := hs.evo ev5 rfl
 have h7 := Ow.nil (α := Breaker) 48 o3 101 [] w4
 have h8 := Ow.nil (α := Source) 83 o3 102 [] w4
 have h9 := Ow.nil (α := Consumer) 85 o3 103 [] w4
 refine WL.nx hK1 ?_
 refine CW.sr fun K10 hK10 => ?_
 refine WL.p (.pointer (some ⟨sb, 0, none⟩)) rfl rfl ?_
 have hm11 : MbOk o3 w4 0 [sb] [1] := ⟨.inl ⟨hs.1.lt, hs.2⟩, trivial⟩
 obtain ⟨⟨y12, st13⟩, q14, hF⟩ := bindE hF
 dsimp only at hF
 refine WL.step (OW.call Try.call12 rfl (Src_Range_ok q14 hs.1 (hL.baseM hE rfl) (hm11.sep rfl) (hm11.nodup rfl))) rfl ?_
 rintro _ w15 ⟨o19, hn_, rfl, hs⟩
 obtain ⟨o16, ev17, hA18⟩ := adopt (o := o3) (ks := [1]) (Ks := [[40]]) 104 ([]) [1, 104] hn_ hm11 rfl rfl rfl rfl
 have hs := hs.ad (c' := 1) hA18 rfl
 have hE := hE.evo ev17 rfl rfl
 have h7 := h7.evo ev17 rfl
 have h8 := h8.evo ev17 rfl
 have h9 := h9.evo ev17 rfl
 have hb6 := hb6.evo ev17 rfl
 refine WL.p (.pointer (some ⟨sb, 0, none⟩)) rfl rfl ?_
 refine WL.step (OW.buildSlice (o := o16) (k := 105) (K := []) (xs := ([0, 50, 200, 1800] : List Int)) Try.underlying22 ty3 rfl ⟨(rv_int.2 rfl), (rv_int.2 rfl), (rv_int.2 rfl), (rv_int.2 rfl), trivial⟩ rfl rfl) rfl ?_
 rintro v20 w21 ⟨o22, ev23, h24⟩
 have hE := hE.evo ev23 rfl rfl
 have h7 := h7.evo ev23 rfl
 have h8 := h8.evo ev23 rfl
 have h9 := h9.evo ev23 rfl
 have hb6 := hb6.evo ev23 rfl
 have hs := hs.evo ev23 rfl
 have hm25 : MbOk o22 w21 0 [sb] [1] := ⟨.inl ⟨hs.1.lt, hs.2⟩, trivial⟩
 obtain ⟨⟨y26, st27⟩, q28, hF⟩ := bindE hF
 dsimp only at hF
 refine WL.step (OW.call Try.call44 rfl (Src_Pick_ok q28 hs.1 (hL.baseM hE rfl) (hm25.sep rfl) h24.rv (hm25.sep rfl) (hm25.nodup rfl))) rfl ?_
 rintro _ w29 ⟨o33, hn_, rfl, hs⟩
 obtain ⟨o30, ev31, hA32⟩ := adopt (o := o22) (ks := [1]) (Ks := [[40], [105]]) 106 ([]) [1, 106] hn_ hm25 rfl rfl rfl rfl
 have hs := hs.ad (c' := 1) hA32 rfl
 have hE := hE.evo ev31 rfl rfl
 have h24 := h24.evo ev31 rfl
 have h7 := h7.evo ev31 rfl
 have h8 := h8.evo ev31 rfl
 have h9 := h9.evo ev31 rfl
 have hb6 := hb6.evo ev31 rfl
 refine WL.p (.pointer (some ⟨sb, 0, none⟩)) rfl rfl ?_
 refine WL.step (OW.buildSlice (o := o30) (k := 107) (K := []) (xs := ([0, 10, 50] : List Int)) Try.underlying22 ty3 rfl ⟨(rv_int.2 rfl), (rv_int.2 rfl), (rv_int.2 rfl), trivial⟩ rfl rfl) rfl ?_
 rintro v34 w35 ⟨o36, ev37, h38⟩
 have hE := hE.evo ev37 rfl rfl
 have h7 := h7.evo ev37 rfl
 have h8 := h8.evo ev37 rfl
 have h9 := h9.evo ev37 rfl
 have hb6 := hb6.evo ev37 rfl
 have hs := hs.evo ev37 rfl
 have hm39 : MbOk o36 w35 0 [sb] [1] := ⟨.inl ⟨hs.1.lt, hs.2⟩, trivial⟩
 obtain ⟨⟨y40, st41⟩, q42, hF⟩ := bindE hF
 dsimp only at hF
 refine WL.step (OW.call Try.call44 rfl (Src_Pick_ok q42 hs.1 (hL.baseM hE rfl) (hm39.sep rfl) h38.rv (hm39.sep rfl) (hm39.nodup rfl))) rfl ?_
 rintro _ w43 ⟨o47, hn_, rfl, hs⟩
 obtain ⟨o44, ev45, hA46⟩ := adopt (o := o36) (ks := [1]) (Ks := [[40], [107]]) 108 ([]) [1, 108] hn_ hm39 rfl rfl rfl rfl
 have hs := hs.ad (c' := 1) hA46 rfl
 have hE := hE.evo ev45 rfl rfl
 have h38 := h38.evo ev45 rfl
 have h7 := h7.evo ev45 rfl
 have h8 := h8.evo ev45 rfl
 have h9 := h9.evo ev45 rfl
 have hb6 := hb6.evo ev45 rfl
 refine WL.stepE (OW.buildK Board [(0, [.int .i64 y12]), (4, [.int .i64 y26]), (5, [.int .i64 y40])] [.int .i64 y12, .slice none 0 0, .slice none 0 0, .slice none 0 0, .int .i64 y26, .int .i64 y40] st39 ty39 rfl ⟨rfl, rfl, rfl, rfl, rfl, rfl, trivial⟩ rfl) rfl ?_
 have h48 := Ow.nil (α := Breaker) 48 o44 109 [] w43
 have h49 := Ow.nil (α := Source) 83 o44 110 [] w43
 have h50 := Ow.nil (α := Consumer) 85 o44 111 [] w43
 refine WL.step (OW.allocK (o := o44) Board 112 [.int .i64 0, .slice none 0 0, .slice none 0 0, .slice none 0 0, .int .i64 0, .int .i64 0] ty39 rfl) rfl ?_
 rintro _ w53 ⟨pa51, o52, rfl, ev54, hb55⟩
 have hE := hE.evo ev54 rfl rfl
 have h48 := h48.evo ev54 rfl
 have h49 := h49.evo ev54 rfl
 have h50 := h50.evo ev54 rfl
 have h7 := h7.evo ev54 rfl
 have h8 := h8.evo ev54 rfl
 have h9 := h9.evo ev54 rfl
 have hb6 := hb6.evo ev54 rfl
 have hs := hs.evo ev54 rfl
 have h56 := Ow.nil (α := Breaker) 48 o52 113 [] w53
 have h57 := Ow.nil (α := Source) 83 o52 114 [] w53
 have h58 := Ow.nil (α := Consumer) 85 o52 115 [] w53
 refine WL.step0 (OW.storeK0 Board [.int .i64 y12, (.slice none 0 0), (.slice none 0 0), (.slice none 0 0), .int .i64 y26, .int .i64 y40] [.int .i64 y12, (.slice none 0 0), (.slice none 0 0), (.slice none 0 0), .int .i64 y26, .int .i64 y40] ty39 rfl rfl hb55 rfl ⟨rfl, rfl, rfl, rfl, rfl, rfl, trivial⟩ rfl rfl rfl) ?_
 rintro _ w59 ⟨ev60, hb55⟩
 have hE := hE.evo ev60 rfl rfl
 have h48 := h48.evo ev60 rfl
 have h49 := h49.evo ev60 rfl
 have h50 := h50.evo ev60 rfl
 have h7 := h7.evo ev60 rfl
 have h8 := h8.evo ev60 rfl
 have h9 := h9.evo ev60 rfl
 have hb6 := hb6.evo ev60 rfl
 have hs := hs.evo ev60 rfl
 refine WL.nx hK10 ?_
 refine CW.seq fun K61 hK61 => ?_
 refine CW.sr fun K62 hK62 => ?_
 refine WL.p (.int .i64 1) rfl rfl ?_
 refine WL.nx hK62 ?_
 refine CW.block ?_
 obtain ⟨r73, hl72, hF⟩ := bindE hF
 have hJ76 : ∀ (x68 : (List Breaker)) (st71 : List Int) (w74 : World) (o75 : Cls) (v69 : Value), (x68, st71) = r73 → En w0 e0 o75 w74 → Ow 83 o75 110 [] w74 (.slice none 0 0) ([] : List Source) → Ow 85 o75 111 [] w74 (.slice none 0 0) ([] : List Consumer) → Ow 48 o75 101 [] w74 (.slice none 0 0) ([] : List Breaker) → Ow 48 o75 109 [] w74 v69 x68 → Ow 83 o75 102 [] w74 (.slice none 0 0) ([] : List Source) → Ow 85 o75 103 [] w74 (.slice none 0 0) ([] : List Consumer) → Bk o75 100 w74 pa2 [.int .i64 0, (.slice none 0 0), (.slice none 0 0), (.slice none 0 0), .int .i64 0, .int .i64 0] → Bk o75 112 w74 pa51 [.int .i64 y12, v69, (.slice none 0 0), (.slice none 0 0), .int .i64 y26, .int .i64 y40] → SrcC o75 1 w74 sb sv sL st71 → NK 168 K61 [(0, .pointer (some ⟨sb, 0, none⟩)), (2, .pointer (some pa2)), (3, .pointer (some pa51))] w74 := by
  intro x68 st71 w74 o75 v69 e_ hE h49 h50 h7 h70 h8 h9 hb6 hb55 hs
  subst e_
  try dsimp only at hF
  refine hK61 _ _ ?_
  refine CW.seq fun K77 hK77 => ?_
  refine CW.sr fun K78 hK78 => ?_
  refine WL.stepE (OW.fldAddr (FldOk.at f39_0) rfl) rfl ?_
  refine WL.stepE (OW.loadK (off := 0) Int (.int .i64 y12) ty3 rfl hb55 rfl rfl) rfl ?_
  refine WL.p (.bool ((decide (y12 > 2)))) rfl rfl ?_
  refine WL.p (.bool ((decide (y12 > 2)))) rfl rfl ?_
  obtain ⟨z_, q81, hF⟩ := bindE hF
  obtain ⟨x79, st80⟩ := z_
  try dsimp only at hF
  have hJ84 : ∀ (w82 : World) (o83 : Cls), En w0 e0 o83 w82 → Ow 83 o83 110 [] w82 (.slice none 0 0) ([] : List Source) → Ow 85 o83 111 [] w82 (.slice none 0 0) ([] : List Consumer) → Ow 48 o83 101 [] w82 (.slice none 0 0) ([] : List Breaker) → Ow 48 o83 109 [] w82 v69 x68 → Ow 83 o83 102 [] w82 (.slice none 0 0) ([] : List Source) → Ow 85 o83 103 [] w82 (.slice none 0 0) ([] : List Consumer) → Bk o83 100 w82 pa2 [.int .i64 0, (.slice none 0 0), (.slice none 0 0), (.slice none 0 0), .int .i64 0, .int .i64 0] → Bk o83 112 w82 pa51 [.int .i64 y12, v69, (.slice none 0 0), (.slice none 0 0), .int .i64 y26, .int .i64 y40] → SrcC o83 1 w82 sb sv sL st80 → NK 168 K78 [(0, .pointer (some ⟨sb, 0, none⟩)), (2, .pointer (some pa2)), (3, .pointer (some pa51)), (47, .bool x79)] w82 := by
   intro w82 o83  hE h49 h50 h7 h70 h8 h9 hb6 hb55 hs
   refine hK78 _ _ ?_
   obtain ⟨x85, q88, hF⟩ := bindE hF
   have hJ91 : ∀ (w89 : World) (o90 : Cls) (v86 : Value), En w0 e0 o90 w89 → Ow 83 o90 110 [] w89 (.slice none 0 0) ([] : List Source) → Ow 85 o90 111 [] w89 (.slice none 0 0) ([] : List Consumer) → Ow 48 o90 101 [] w89 (.slice none 0 0) ([] : List Breaker) → Ow 83 o90 102 [] w89 (.slice none 0 0) ([] : List Source) → Ow 48 o90 109 [] w89 v86 x85 → Ow 85 o90 103 [] w89 (.slice none 0 0) ([] : List Consumer) → Bk o90 100 w89 pa2 [.int .i64 0, (.slice none 0 0), (.slice none 0 0), (.slice none 0 0), .int .i64 0, .int .i64 0] → Bk o90 112 w89 pa51 [.int .i64 y12, v86, (.slice none 0 0), (.slice none 0 0), .int .i64 y26, .int .i64 y40] → SrcC o90 1 w89 sb sv sL st80 → NK 168 K77 [(0, .pointer (some ⟨sb, 0, none⟩)), (2, .pointer (some pa2)), (3, .pointer (some pa51))] w89 := by
    intro w89 o90 v86 hE h49 h50 h7 h8 h87 h9 hb6 hb55 hs
    refine hK77 _ _ ?_
    refine CW.seq fun K92 hK92 => ?_
    refine CW.sr fun K93 hK93 => ?_
    refine WL.p (.pointer (some ⟨sb, 0, none⟩)) rfl rfl ?_
    have hm94 : MbOk o90 w89 0 [sb] [1] := ⟨.inl ⟨hs.1.lt, hs.2⟩, trivial⟩
    obtain ⟨⟨y95, st96⟩, q97, hF⟩ := bindE hF
    dsimp only at hF
    refine WL.step (OW.call Try.call13 rfl (Src_N_ok q97 hs.1 (hL.baseM hE rfl) (hm94.sep rfl) (hm94.nodup rfl))) rfl ?_
    rintro _ w98 ⟨o102, hn_, rfl, hs⟩
    obtain ⟨o99, ev100, hA101⟩ := adopt (o := o90) (ks := [1]) (Ks := [[40]]) 121 ([]) [1, 121] hn_ hm94 rfl rfl rfl rfl
    have hs := hs.ad (c' := 1) hA101 rfl
    have hE := hE.evo ev100 rfl rfl
    have h49 := h49.evo ev100 rfl
    have h50 := h50.evo ev100 rfl
    have h7 := h7.evo ev100 rfl
    have h8 := h8.evo ev100 rfl
    have h87 := h87.evo ev100 rfl
    have h9 := h9.evo ev100 rfl
    have hb6 := hb6.evo ev100 rfl
    have hb55 := hb55.evo ev100 rfl
    refine WL.p (.int .i64 y95) rfl rfl ?_
    refine WL.nx hK93 ?_
    refine CW.block ?_
    obtain ⟨r119, hl118, hF⟩ := bindE hF
    have hJ122 : ∀ (x111 : (List Breaker)) (x114 : (List Source)) (st117 : List Int) (w120 : World) (o121 : Cls) (v112 v115 : Value), (x111, x114, st117) = r119 → En w0 e0 o121 w120 → Ow 48 o121 109 [] w120 v112 x111 → Ow 83 o121 110 [] w120 v115 x114 → Ow 85 o121 111 [] w120 (.slice none 0 0) ([] : List Consumer) → Ow 48 o121 101 [] w120 (.slice none 0 0) ([] : List Breaker) → Ow 83 o121 102 [] w120 (.slice none 0 0) ([] : List Source) → Ow 85 o121 103 [] w120 (.slice none 0 0) ([] : List Consumer) → Bk o121 100 w120 pa2 [.int .i64 0, (.slice none 0 0), (.slice none 0 0), (.slice none 0 0), .int .i64 0, .int .i64 0] → Bk o121 112 w120 pa51 [.int .i64 y12, v112, v115, (.slice none 0 0), .int .i64 y26, .int .i64 y40] → SrcC o121 1 w120 sb sv sL st117 → NK 168 K92 [(0, .pointer (some ⟨sb, 0, none⟩)), (2, .pointer (some pa2)), (3, .pointer (some pa51))] w120 := by
     intro x111 x114 st117 w120 o121 v112 v115 e_ hE h113 h116 h50 h7 h8 h9 hb6 hb55 hs
     subst e_
     try dsimp only at hF
     refine hK92 _ _ ?_
     refine CW.seq fun K123 hK123 => ?_
     refine CW.sr fun K124 hK124 => ?_
     refine WL.p (.pointer (some ⟨sb, 0, none⟩)) rfl rfl ?_
     have hm125 : MbOk o121 w120 0 [sb] [1] := ⟨.inl ⟨hs.1.lt, hs.2⟩, trivial⟩
     obtain ⟨⟨y126, st127⟩, q128, hF⟩ := bindE hF
     dsimp only at hF
     refine WL.step (OW.call Try.call13 rfl (Src_N_ok q128 hs.1 (hL.baseM hE rfl) (hm125.sep rfl) (hm125.nodup rfl))) rfl ?_
     rintro _ w129 ⟨o133, hn_, rfl, hs⟩
     obtain ⟨o130, ev131, hA132⟩ := adopt (o := o121) (ks := [1]) (Ks := [[40]]) 131 ([]) [1, 131] hn_ hm125 rfl rfl rfl rfl
     have hs := hs.ad (c' := 1) hA132 rfl
     have hE := hE.evo ev131 rfl rfl
     have h113 := h113.evo ev131 rfl
     have h116 := h116.evo ev131 rfl
     have h50 := h50.evo ev131 rfl
     have h7 := h7.evo ev131 rfl
     have h8 := h8.evo ev131 rfl
     have h9 := h9.evo ev131 rfl
     have hb6 := hb6.evo ev131 rfl
     have hb55 := hb55.evo ev131 rfl
     refine WL.p (.int .i64 y126) rfl rfl ?_
     refine WL.nx hK124 ?_
     refine CW.block ?_
     obtain ⟨r150, hl149, hF⟩ := bindE hF
     have hJ153 : ∀ (x142 : (List Breaker)) (x145 : (List Consumer)) (st148 : List Int) (w151 : World) (o152 : Cls) (v143 v146 : Value), (x142, x145, st148) = r150 → En w0 e0 o152 w151 → Ow 83 o152 110 [] w151 v115 x114 → Ow 48 o152 109 [] w151 v143 x142 → Ow 85 o152 111 [147] w151 v146 x145 → Ow 48 o152 101 [] w151 (.slice none 0 0) ([] : List Breaker) → Ow 83 o152 102 [] w151 (.slice none 0 0) ([] : List Source) → Ow 85 o152 103 [] w151 (.slice none 0 0) ([] : List Consumer) → Bk o152 100 w151 pa2 [.int .i64 0, (.slice none 0 0), (.slice none 0 0), (.slice none 0 0), .int .i64 0, .int .i64 0] → Bk o152 112 w151 pa51 [.int .i64 y12, v143, v115, v146, .int .i64 y26, .int .i64 y40] → SrcC o152 1 w151 sb sv sL st148 → NK 168 K123 [(0, .pointer (some ⟨sb, 0, none⟩)), (2, .pointer (some pa2)), (3, .pointer (some pa51))] w151 := by
      intro x142 x145 st148 w151 o152 v143 v146 e_ hE h116 h144 h147 h7 h8 h9 hb6 hb55 hs
      subst e_
      try dsimp only at hF
      refine hK123 _ _ ?_
      refine CW.sr fun K154 hK154 => ?_
      refine WL.stepE (OW.loadK0 Board (.agg #[.int .i64 y12, v143, v115, v146, .int .i64 y26, .int .i64 y40]) ty39 rfl hb55 rfl rfl) rfl ?_
      refine WL.step0 (OW.storeK0 Board [.int .i64 y12, v143, v115, v146, .int .i64 y26, .int .i64 y40] [.int .i64 y12, v143, v115, v146, .int .i64 y26, .int .i64 y40] ty39 rfl rfl hb6 rfl ⟨rfl, (h144.one), (h116.one), (h147.one), rfl, rfl, trivial⟩ rfl rfl rfl) ?_
      rintro _ w155 ⟨ev156, hb6⟩
      have hE := hE.evo ev156 rfl rfl
      have h116 := h116.evo ev156 rfl
      have h144 := h144.evo ev156 rfl
      have h147 := h147.evo ev156 rfl
      have hs := hs.evo ev156 rfl
      refine WL.nx hK154 ?_
      obtain rfl := Option.some.inj hF
      exact CW.rets (vs := [.agg #[.int .i64 y12, v143, v115, v146, .int .i64 y26, .int .i64 y40]]) Try.results17 ⟨ResIs.bk Board (.agg #[.int .i64 y12, v143, v115, v146, .int .i64 y26, .int .i64 y40]) ty39 rfl hb6 rfl rfl, trivial⟩ ⟨_, rfl, _, (v143), (v115), (v146), (hE.rn he0 106 [(109, 101), (110, 102), (111, 103)] rfl rfl), rfl, (h144.rn (c' := 101) (K' := []) rfl rfl), (h116.rn (c' := 102) (K' := []) rfl rfl), (h147.rn (c' := 103) (K' := [106]) rfl rfl), (hs.rn (c' := 1) rfl)⟩ (fun _ _ h => h)
     refine CW.sub (L' := [(0, .pointer (some ⟨sb, 0, none⟩)), (2, .pointer (some pa2)), (3, .pointer (some pa51)), (7, .int .i64 y126)]) ⟨rfl, rfl, rfl, rfl, trivial⟩ ?_
     refine CW.loop (Src_Board_L3 y12) (fun s_ L_ w157 => ∃ (o158 : Cls) (x134 : Int) (x135 : (List Breaker)) (x138 : (List Consumer)) (st141 : List Int) (v136 v139 : Value), (x134, x135, x138, st141) = s_ ∧ L_ = [(0, .pointer (some ⟨sb, 0, none⟩)), (2, .pointer (some pa2)), (3, .pointer (some pa51)), (7, .int .i64 x134)] ∧ En w0 e0 o158 w157 ∧ Ow 83 o158 110 [] w157 v115 x114 ∧ Ow 48 o158 109 [] w157 v136 x135 ∧ Ow 85 o158 111 [147] w157 v139 x138 ∧ Ow 48 o158 101 [] w157 (.slice none 0 0) ([] : List Breaker) ∧ Ow 83 o158 102 [] w157 (.slice none 0 0) ([] : List Source) ∧ Ow 85 o158 103 [] w157 (.slice none 0 0) ([] : List Consumer) ∧ Bk o158 100 w157 pa2 [.int .i64 0, (.slice none 0 0), (.slice none 0 0), (.slice none 0 0), .int .i64 0, .int .i64 0] ∧ Bk o158 112 w157 pa51 [.int .i64 y12, v136, v115, v139, .int .i64 y26, .int .i64 y40] ∧ SrcC o158 1 w157 sb sv sL st141) hl149 ?_ ?_
     ·exact ⟨o130, y126, x111, ([] : List Consumer), st127, v112, (.slice none 0 0), rfl, rfl, hE, h116, h113, (h50.sub rfl), h7, h8, h9, hb6, hb55, hs⟩
     intro K159 s_ L_ w157 hi_ x160 hx161 hr162 hk163
     obtain ⟨o158, x134, x135, x138, st141, v136, v139, rfl, rfl, hE, h116, h137, h140, h7, h8, h9, hb6, hb55, hs⟩ := hi_
     rw [Src_Board_L3] at hx161
     refine CW.seq fun K164 hK164 => ?_
     refine CW.sr fun K165 hK165 => ?_
     refine WL.p (.int .i64 x134) rfl rfl ?_
     refine WL.p (.bool ((decide (x134 > 0)))) rfl rfl ?_
     refine WL.nx hK165 ?_
     refine CW.cond (b := (decide (x134 > 0))) rfl (fun hc166 => ?_) (fun hc166 => ?_)
     ·have hx161 := iteT hc166 hx161
      refine CW.skip ?_
      refine hK164 _ _ ?_
      refine CW.seq fun K167 hK167 => ?_
      refine CW.block ?_
      refine CW.sr fun K168 hK168 => ?_
      refine WL.stepE (OW.fldAddr (FldOk.at f39_3) rfl) rfl ?_
      refine WL.stepE (OW.loadK (off := 3) (List Consumer) (v139) ty37 rfl hb55 rfl rfl) rfl ?_
      refine WL.stepE (OW.len Try.underlying37 rfl h140.rv) rfl ?_
      refine WL.p (.int .i64 (len x138)) rfl rfl ?_
      refine WL.nx hK168 ?_
      refine CW.sr fun K169 hK169 => ?_
      refine WL.p (.pointer (some ⟨sb, 0, none⟩)) rfl rfl ?_
      refine WL.stepE (OW.fldAddr (FldOk.at f39_0) rfl) rfl ?_
      refine WL.stepE (OW.loadK (off := 0) Int (.int .i64 y12) ty3 rfl hb55 rfl rfl) rfl ?_
      have hm170 : MbOk o158 w157 0 [sb] [1] := ⟨.inl ⟨hs.1.lt, hs.2⟩, trivial⟩
      obtain ⟨⟨y171, st172⟩, q173, hx161⟩ := bindE hx161
      dsimp only at hx161
      refine WL.step (OW.call Try.call13 rfl (Src_N_ok q173 hs.1 (hL.baseM hE rfl) (hm170.sep rfl) (hm170.nodup rfl))) rfl ?_
      rintro _ w174 ⟨o178, hn_, rfl, hs⟩
      obtain ⟨o175, ev176, hA177⟩ := adopt (o := o158) (ks := [1]) (Ks := [[40]]) 132 ([]) [1, 132] hn_ hm170 rfl rfl rfl rfl
      have hs := hs.ad (c' := 1) hA177 rfl
      have hE := hE.evo ev176 rfl rfl
      have h116 := h116.evo ev176 rfl
      have h137 := h137.evo ev176 rfl
      have h140 := h140.evo ev176 rfl
      have h7 := h7.evo ev176 rfl
      have h8 := h8.evo ev176 rfl
      have h9 := h9.evo ev176 rfl
      have hb6 := hb6.evo ev176 rfl
      have hb55 := hb55.evo ev176 rfl
      refine WL.p (.int .i64 y171) rfl rfl ?_
      refine WL.nx hK169 ?_
      refine CW.sr fun K179 hK179 => ?_
      refine WL.stepE (OW.fldAddr (FldOk.at f39_1) rfl) rfl ?_
      refine WL.stepE (OW.loadK (off := 1) (List Breaker) (v136) ty35 rfl hb55 rfl rfl) rfl ?_
      refine WL.p (.int .i64 y171) rfl rfl ?_
      refine WL.p (.int .i64 (len x138)) rfl rfl ?_
      refine WL.stepE (OW.buildK Breaker [(0, [.int .i64 3]), (1, [.int .i64 y171]), (2, [.int .i64 (len x138)])] [.int .i64 3, .int .i64 y171, .int .i64 (len x138)] st48 ty48 rfl ⟨rfl, rfl, rfl, rfl, rfl, rfl, trivial⟩ rfl) rfl ?_
      refine WL.step (OW.buildSlice (o := o175) (k := 133) (K := []) (xs := ([(⟨3, y171, len x138⟩ : Breaker)] : List Breaker)) Try.underlying35 ty48 rfl ⟨(mk48 (x := (⟨3, y171, len x138⟩ : Breaker))), trivial⟩ rfl rfl) rfl ?_
      rintro v180 w181 ⟨o182, ev183, h184⟩
      have hE := hE.evo ev183 rfl rfl
      have h116 := h116.evo ev183 rfl
      have h137 := h137.evo ev183 rfl
      have h140 := h140.evo ev183 rfl
      have h7 := h7.evo ev183 rfl
      have h8 := h8.evo ev183 rfl
      have h9 := h9.evo ev183 rfl
      have hb6 := hb6.evo ev183 rfl
      have hb55 := hb55.evo ev183 rfl
      have hs := hs.evo ev183 rfl
      obtain ⟨y185, q186, hx161⟩ := bindE hx161
      refine WL.step (OW.append (K := []) Try.underlying35 ty48 rfl rfl h137 h184.els.flat q186 rfl) rfl ?_
      rintro v187 w188 ⟨o189, ev190, h191⟩
      have hE := hE.evo ev190 rfl rfl
      have h116 := h116.evo ev190 rfl
      have h140 := h140.evo ev190 rfl
      have h184 := h184.evo ev190 rfl
      have h7 := h7.evo ev190 rfl
      have h8 := h8.evo ev190 rfl
      have h9 := h9.evo ev190 rfl
      have hb6 := hb6.evo ev190 rfl
      have hb55 := hb55.evo ev190 rfl
      have hs := hs.evo ev190 rfl
      refine WL.stepE (OW.fldAddr (FldOk.at f39_1) rfl) rfl ?_
      refine WL.step0 (OW.storeK (off := 1) (List Breaker) [.int .i64 y12, v187, v115, v139, .int .i64 y26, .int .i64 y40] [v187] ty35 rfl rfl hb55 (cells_one (h191.one)) ⟨(h191.one), trivial⟩ rfl rfl rfl) ?_
      rintro _ w192 ⟨ev193, hb55⟩
      have hE := hE.evo ev193 rfl rfl
      have h116 := h116.evo ev193 rfl
      have h140 := h140.evo ev193 rfl
      have h191 := h191.evo ev193 rfl
      have h7 := h7.evo ev193 rfl
      have h8 := h8.evo ev193 rfl
      have h9 := h9.evo ev193 rfl
      have hb6 := hb6.evo ev193 rfl
      have hs := hs.evo ev193 rfl
      refine WL.nx hK179 ?_
      refine CW.seq fun K194 hK194 => ?_
      refine CW.sr fun K195 hK195 => ?_
      refine WL.stepE (OW.fldAddr (FldOk.at f39_0) rfl) rfl ?_
      refine WL.stepE (OW.loadK (off := 0) Int (.int .i64 y12) ty3 rfl hb55 rfl rfl) rfl ?_
      refine WL.p (.bool ((decide (y12 > 1)))) rfl rfl ?_
      refine WL.p (.bool ((decide (y12 > 1)))) rfl rfl ?_
      obtain ⟨z_, q198, hx161⟩ := bindE hx161
      obtain ⟨x196, st197⟩ := z_
      try dsimp only at hx161
      have hJ201 : ∀ (w199 : World) (o200 : Cls), En w0 e0 o200 w199 → Ow 83 o200 110 [] w199 v115 x114 → Ow 85 o200 111 [147] w199 v139 x138 → Ow 48 o200 109 [] w199 v187 y185 → Ow 48 o200 101 [] w199 (.slice none 0 0) ([] : List Breaker) → Ow 83 o200 102 [] w199 (.slice none 0 0) ([] : List Source) → Ow 85 o200 103 [] w199 (.slice none 0 0) ([] : List Consumer) → Bk o200 100 w199 pa2 [.int .i64 0, (.slice none 0 0), (.slice none 0 0), (.slice none 0 0), .int .i64 0, .int .i64 0] → Bk o200 112 w199 pa51 [.int .i64 y12, v187, v115, v139, .int .i64 y26, .int .i64 y40] → SrcC o200 1 w199 sb sv sL st197 → NK 168 K195 [(0, .pointer (some ⟨sb, 0, none⟩)), (2, .pointer (some pa2)), (3, .pointer (some pa51)), (7, .int .i64 x134), (8, .int .i64 (len x138)), (9, .int .i64 y171), (121, .bool x196)] w199 := by
       intro w199 o200  hE h116 h140 h191 h7 h8 h9 hb6 hb55 hs
       refine hK195 _ _ ?_
       obtain ⟨x202, q205, hx161⟩ := bindE hx161
       have hJ208 : ∀ (w206 : World) (o207 : Cls) (v203 : Value), En w0 e0 o207 w206 → Ow 83 o207 110 [] w206 v115 x114 → Ow 85 o207 111 [147] w206 v139 x138 → Ow 48 o207 109 [] w206 v203 x202 → Ow 48 o207 101 [] w206 (.slice none 0 0) ([] : List Breaker) → Ow 83 o207 102 [] w206 (.slice none 0 0) ([] : List Source) → Ow 85 o207 103 [] w206 (.slice none 0 0) ([] : List Consumer) → Bk o207 100 w206 pa2 [.int .i64 0, (.slice none 0 0), (.slice none 0 0), (.slice none 0 0), .int .i64 0, .int .i64 0] → Bk o207 112 w206 pa51 [.int .i64 y12, v203, v115, v139, .int .i64 y26, .int .i64 y40] → SrcC o207 1 w206 sb sv sL st197 → NK 168 K194 [(0, .pointer (some ⟨sb, 0, none⟩)), (2, .pointer (some pa2)), (3, .pointer (some pa51)), (7, .int .i64 x134), (8, .int .i64 (len x138))] w206 := by
        intro w206 o207 v203 hE h116 h140 h204 h7 h8 h9 hb6 hb218 hs
        refine hK194 _ _ ?_
        refine CW.sr fun K209 hK209 => ?_
        refine WL.p (.pointer (some ⟨sb, 0, none⟩)) rfl rfl ?_
        refine WL.step (OW.buildSlice (o := o207) (k := 136) (K := []) (xs := ([0, 5, 20, 40] : List Int)) Try.underlying22 ty3 rfl ⟨(rv_int.2 rfl), (rv_int.2 rfl), (rv_int.2 rfl), (rv_int.2 rfl), trivial⟩ rfl rfl) rfl ?_
        rintro v210 w211 ⟨o212, ev213, h214⟩
        have hE := hE.evo ev213 rfl rfl
        have h116 := h116.evo ev213 rfl
        have h140 := h140.evo ev213 rfl
        have h204 := h204.evo ev213 rfl
        have h7 := h7.evo ev213 rfl
        have h8 := h8.evo ev213 rfl
        have h9 := h9.evo ev213 rfl
        have hb6 := hb6.evo ev213 rfl
        have hb218 := hb218.evo ev213 rfl
        have hs := hs.evo ev213 rfl
        have hm215 : MbOk o212 w211 0 [sb] [1] := ⟨.inl ⟨hs.1.lt, hs.2⟩, trivial⟩
        obtain ⟨⟨y216, st217⟩, q218, hx161⟩ := bindE hx161
        dsimp only at hx161
        refine WL.step (OW.call Try.call44 rfl (Src_Pick_ok q218 hs.1 (hL.baseM hE rfl) (hm215.sep rfl) h214.rv (hm215.sep rfl) (hm215.nodup rfl))) rfl ?_
        rintro _ w219 ⟨o223, hn_, rfl, hs⟩
        obtain ⟨o220, ev221, hA222⟩ := adopt (o := o212) (ks := [1]) (Ks := [[40], [136]]) 137 ([]) [1, 137] hn_ hm215 rfl rfl rfl rfl
        have hs := hs.ad (c' := 1) hA222 rfl
        have hE := hE.evo ev221 rfl rfl
        have h116 := h116.evo ev221 rfl
        have h140 := h140.evo ev221 rfl
        have h204 := h204.evo ev221 rfl
        have h214 := h214.evo ev221 rfl
        have h7 := h7.evo ev221 rfl
        have h8 := h8.evo ev221 rfl
        have h9 := h9.evo ev221 rfl
        have hb6 := hb6.evo ev221 rfl
        have hb218 := hb218.evo ev221 rfl
        refine WL.p (.int .i64 y216) rfl rfl ?_
        refine WL.nx hK209 ?_
        refine CW.sr fun K224 hK224 => ?_
        refine WL.p (.int .i64 y216) rfl rfl ?_
        refine WL.p (.pointer (some ⟨sb, 0, none⟩)) rfl rfl ?_
        refine WL.p (.int .i64 y216) rfl rfl ?_
        obtain ⟨y225, q226, hx161⟩ := bindE hx161
        refine WL.stepE (OW.quo rfl rfl q226) rfl ?_
        refine WL.p (.int .i64 y216) rfl rfl ?_
        refine WL.step (OW.buildSlice (o := o220) (k := 138) (K := []) (xs := ([0, y225, y216] : List Int)) Try.underlying22 ty3 rfl ⟨(rv_int.2 rfl), (rv_int.2 rfl), (rv_int.2 rfl), trivial⟩ rfl rfl) rfl ?_
        rintro v227 w228 ⟨o229, ev230, h231⟩
        have hE := hE.evo ev230 rfl rfl
        have h116 := h116.evo ev230 rfl
        have h140 := h140.evo ev230 rfl
        have h204 := h204.evo ev230 rfl
        have h7 := h7.evo ev230 rfl
        have h8 := h8.evo ev230 rfl
        have h9 := h9.evo ev230 rfl
        have hb6 := hb6.evo ev230 rfl
        have hb218 := hb218.evo ev230 rfl
        have hs := hs.evo ev230 rfl
        have hm232 : MbOk o229 w228 0 [sb] [1] := ⟨.inl ⟨hs.1.lt, hs.2⟩, trivial⟩
        obtain ⟨⟨y233, st234⟩, q235, hx161⟩ := bindE hx161
        dsimp only at hx161
        refine WL.step (OW.call Try.call44 rfl (Src_Pick_ok q235 hs.1 (hL.baseM hE rfl) (hm232.sep rfl) h231.rv (hm232.sep rfl) (hm232.nodup rfl))) rfl ?_
        rintro _ w236 ⟨o240, hn_, rfl, hs⟩
        obtain ⟨o237, ev238, hA239⟩ := adopt (o := o229) (ks := [1]) (Ks := [[40], [138]]) 139 ([]) [1, 139] hn_ hm232 rfl rfl rfl rfl
        have hs := hs.ad (c' := 1) hA239 rfl
        have hE := hE.evo ev238 rfl rfl
        have h116 := h116.evo ev238 rfl
        have h140 := h140.evo ev238 rfl
        have h204 := h204.evo ev238 rfl
        have h231 := h231.evo ev238 rfl
        have h7 := h7.evo ev238 rfl
        have h8 := h8.evo ev238 rfl
        have h9 := h9.evo ev238 rfl
        have hb6 := hb6.evo ev238 rfl
        have hb218 := hb218.evo ev238 rfl
        refine WL.p (.pointer (some ⟨sb, 0, none⟩)) rfl rfl ?_
        have hm241 : MbOk o237 w236 0 [sb] [1] := ⟨.inl ⟨hs.1.lt, hs.2⟩, trivial⟩
        obtain ⟨⟨y242, st243⟩, q244, hx161⟩ := bindE hx161
        dsimp only at hx161
        refine WL.step (OW.call Try.call13 rfl (Src_N_ok q244 hs.1 (hL.baseM hE rfl) (hm241.sep rfl) (hm241.nodup rfl))) rfl ?_
        rintro _ w245 ⟨o249, hn_, rfl, hs⟩
        obtain ⟨o246, ev247, hA248⟩ := adopt (o := o237) (ks := [1]) (Ks := [[40]]) 140 ([]) [1, 140] hn_ hm241 rfl rfl rfl rfl
        have hs := hs.ad (c' := 1) hA248 rfl
        have hE := hE.evo ev247 rfl rfl
        have h116 := h116.evo ev247 rfl
        have h140 := h140.evo ev247 rfl
        have h204 := h204.evo ev247 rfl
        have h7 := h7.evo ev247 rfl
        have h8 := h8.evo ev247 rfl
        have h9 := h9.evo ev247 rfl
        have hb6 := hb6.evo ev247 rfl
        have hb218 := hb218.evo ev247 rfl
        refine WL.p (.pointer (some ⟨sb, 0, none⟩)) rfl rfl ?_
        have hm250 : MbOk o246 w245 0 [sb] [1] := ⟨.inl ⟨hs.1.lt, hs.2⟩, trivial⟩
        obtain ⟨⟨y251, st252⟩, q253, hx161⟩ := bindE hx161
        dsimp only at hx161
        refine WL.step (OW.call Try.call12 rfl (Src_Range_ok q253 hs.1 (hL.baseM hE rfl) (hm250.sep rfl) (hm250.nodup rfl))) rfl ?_
        rintro _ w254 ⟨o258, hn_, rfl, hs⟩
        obtain ⟨o255, ev256, hA257⟩ := adopt (o := o246) (ks := [1]) (Ks := [[40]]) 141 ([]) [1, 141] hn_ hm250 rfl rfl rfl rfl
        have hs := hs.ad (c' := 1) hA257 rfl
        have hE := hE.evo ev256 rfl rfl
        have h116 := h116.evo ev256 rfl
        have h140 := h140.evo ev256 rfl
        have h204 := h204.evo ev256 rfl
        have h7 := h7.evo ev256 rfl
        have h8 := h8.evo ev256 rfl
        have h9 := h9.evo ev256 rfl
        have hb6 := hb6.evo ev256 rfl
        have hb218 := hb218.evo ev256 rfl
        refine WL.stepE (OW.buildK Consumer [(0, [.int .i64 y216]), (1, [.int .i64 y233]), (2, [.int .i64 y242]), (3, [.int .i64 y251])] [.int .i64 y216, .int .i64 y233, .int .i64 y242, .int .i64 y251, .slice none 0 0] st85 ty85 rfl ⟨rfl, rfl, rfl, rfl, rfl, rfl, rfl, rfl, trivial⟩ rfl) rfl ?_
        have h259 := Ow.nil (α := Int) 3 o255 142 [] w254
        refine WL.step (OW.allocK (o := o255) Consumer 143 [.int .i64 0, .int .i64 0, .int .i64 0, .int .i64 0, .slice none 0 0] ty85 rfl) rfl ?_
        rintro _ w262 ⟨pa260, o261, rfl, ev263, hb264⟩
        have hE := hE.evo ev263 rfl rfl
        have h116 := h116.evo ev263 rfl
        have h140 := h140.evo ev263 rfl
        have h204 := h204.evo ev263 rfl
        have h259 := h259.evo ev263 rfl
        have h7 := h7.evo ev263 rfl
        have h8 := h8.evo ev263 rfl
        have h9 := h9.evo ev263 rfl
        have hb6 := hb6.evo ev263 rfl
        have hb218 := hb218.evo ev263 rfl
        have hs := hs.evo ev263 rfl
        have h265 := Ow.nil (α := Int) 3 o261 144 [] w262
        refine WL.step0 (OW.storeK0 Consumer [.int .i64 y216, .int .i64 y233, .int .i64 y242, .int .i64 y251, (.slice none 0 0)] [.int .i64 y216, .int .i64 y233, .int .i64 y242, .int .i64 y251, (.slice none 0 0)] ty85 rfl rfl hb264 rfl ⟨rfl, rfl, rfl, rfl, rfl, trivial⟩ rfl rfl rfl) ?_
        rintro _ w266 ⟨ev267, hb264⟩
        have hE := hE.evo ev267 rfl rfl
        have h116 := h116.evo ev267 rfl
        have h140 := h140.evo ev267 rfl
        have h204 := h204.evo ev267 rfl
        have h259 := h259.evo ev267 rfl
        have h7 := h7.evo ev267 rfl
        have h8 := h8.evo ev267 rfl
        have h9 := h9.evo ev267 rfl
        have hb6 := hb6.evo ev267 rfl
        have hb218 := hb218.evo ev267 rfl
        have hs := hs.evo ev267 rfl
        refine WL.nx hK224 ?_
        refine CW.seq fun K268 hK268 => ?_
        refine CW.sr fun K269 hK269 => ?_
        refine WL.p (.int .i64 (len x138)) rfl rfl ?_
        refine WL.p (.bool ((decide ((len x138) > 0)))) rfl rfl ?_
        refine WL.p (.bool ((decide ((len x138) > 0)))) rfl rfl ?_
        obtain ⟨z_, q272, hx161⟩ := bindE hx161
        obtain ⟨x270, st271⟩ := z_
        try dsimp only at hx161
        have hJ275 : ∀ (w273 : World) (o274 : Cls), En w0 e0 o274 w273 → Ow 83 o274 110 [] w273 v115 x114 → Ow 85 o274 111 [147] w273 v139 x138 → Ow 48 o274 109 [] w273 v203 x202 → Ow 3 o274 142 [] w273 (.slice none 0 0) ([] : List Int) → Ow 48 o274 101 [] w273 (.slice none 0 0) ([] : List Breaker) → Ow 83 o274 102 [] w273 (.slice none 0 0) ([] : List Source) → Ow 85 o274 103 [] w273 (.slice none 0 0) ([] : List Consumer) → Bk o274 100 w273 pa2 [.int .i64 0, (.slice none 0 0), (.slice none 0 0), (.slice none 0 0), .int .i64 0, .int .i64 0] → Bk o274 143 w273 pa260 [.int .i64 y216, .int .i64 y233, .int .i64 y242, .int .i64 y251, (.slice none 0 0)] → Bk o274 112 w273 pa51 [.int .i64 y12, v203, v115, v139, .int .i64 y26, .int .i64 y40] → SrcC o274 1 w273 sb sv sL st271 → NK 168 K269 [(0, .pointer (some ⟨sb, 0, none⟩)), (2, .pointer (some pa2)), (3, .pointer (some pa51)), (7, .int .i64 x134), (8, .int .i64 (len x138)), (11, .pointer (some pa260)), (155, .bool x270)] w273 := by
         intro w273 o274  hE h116 h140 h204 h259 h7 h8 h9 hb6 hb264 hb218 hs
         refine hK269 _ _ ?_
         obtain ⟨z_, q280, hx161⟩ := bindE hx161
         obtain ⟨x276, st279⟩ := z_
         try dsimp only at hx161
         have hJ283 : ∀ (w281 : World) (o282 : Cls) (v277 : Value), En w0 e0 o282 w281 → Ow 83 o282 110 [] w281 v115 x114 → Ow 85 o282 111 [147] w281 v139 x138 → Ow 48 o282 109 [] w281 v203 x202 → Ow 3 o282 147 [] w281 v277 x276 → Ow 48 o282 101 [] w281 (.slice none 0 0) ([] : List Breaker) → Ow 83 o282 102 [] w281 (.slice none 0 0) ([] : List Source) → Ow 85 o282 103 [] w281 (.slice none 0 0) ([] : List Consumer) → Bk o282 100 w281 pa2 [.int .i64 0, (.slice none 0 0), (.slice none 0 0), (.slice none 0 0), .int .i64 0, .int .i64 0] → Bk o282 143 w281 pa260 [.int .i64 y216, .int .i64 y233, .int .i64 y242, .int .i64 y251, v277] → Bk o282 112 w281 pa51 [.int .i64 y12, v203, v115, v139, .int .i64 y26, .int .i64 y40] → SrcC o282 1 w281 sb sv sL st279 → NK 168 K268 [(0, .pointer (some ⟨sb, 0, none⟩)), (2, .pointer (some pa2)), (3, .pointer (some pa51)), (7, .int .i64 x134), (11, .pointer (some pa260))] w281 := by
          intro w281 o282 v277 hE h116 h140 h204 h278 h7 h8 h9 hb6 hb264 hb218 hs
          refine hK268 _ _ ?_
          refine CW.region ?_
          refine WL.stepE (OW.fldAddr (FldOk.at f39_3) rfl) rfl ?_
          refine WL.stepE (OW.loadK (off := 3) (List Consumer) (v139) ty37 rfl hb218 rfl rfl) rfl ?_
          refine WL.stepE (OW.loadK0 Consumer (.agg #[.int .i64 y216, .int .i64 y233, .int .i64 y242, .int .i64 y251, v277]) ty85 rfl hb264 rfl rfl) rfl ?_
          refine WL.step (OW.buildSlice (o := o282) (k := 148) (K := [147]) (xs := ([(⟨y216, y233, y242, y251, x276⟩ : Consumer)] : List Consumer)) Try.underlying37 ty85 rfl ⟨(mk85 (x := (⟨y216, y233, y242, y251, x276⟩ : Consumer)) h278.rv), trivial⟩ rfl rfl) rfl ?_
          rintro v284 w285 ⟨o286, ev287, h288⟩
          have hE := hE.evo ev287 rfl rfl
          have h116 := h116.evo ev287 rfl
          have h140 := h140.evo ev287 rfl
          have h204 := h204.evo ev287 rfl
          have h278 := h278.evo ev287 rfl
          have h7 := h7.evo ev287 rfl
          have h8 := h8.evo ev287 rfl
          have h9 := h9.evo ev287 rfl
          have hb6 := hb6.evo ev287 rfl
          have hb218 := hb218.evo ev287 rfl
          have hs := hs.evo ev287 rfl
          obtain ⟨y289, q290, hx161⟩ := bindE hx161
          refine WL.step (OW.append (K := [147]) Try.underlying37 ty85 rfl rfl h140 h288.els q290 rfl) rfl ?_
          rintro v291 w292 ⟨o293, ev294, h295⟩
          have hE := hE.evo ev294 rfl rfl
          have h116 := h116.evo ev294 rfl
          have h204 := h204.evo ev294 rfl
          have h288 := h288.evo ev294 rfl
          have h7 := h7.evo ev294 rfl
          have h8 := h8.evo ev294 rfl
          have h9 := h9.evo ev294 rfl
          have hb6 := hb6.evo ev294 rfl
          have hb218 := hb218.evo ev294 rfl
          have hs := hs.evo ev294 rfl
          refine WL.stepE (OW.fldAddr (FldOk.at f39_3) rfl) rfl ?_
          refine WL.step0 (OW.storeK (off := 3) (List Consumer) [.int .i64 y12, v203, v115, v291, .int .i64 y26, .int .i64 y40] [v291] ty37 rfl rfl hb218 (cells_one (h295.one)) ⟨(h295.one), trivial⟩ rfl rfl rfl) ?_
          rintro _ w296 ⟨ev297, hb218⟩
          have hE := hE.evo ev297 rfl rfl
          have h116 := h116.evo ev297 rfl
          have h204 := h204.evo ev297 rfl
          have h295 := h295.evo ev297 rfl
          have h7 := h7.evo ev297 rfl
          have h8 := h8.evo ev297 rfl
          have h9 := h9.evo ev297 rfl
          have hb6 := hb6.evo ev297 rfl
          have hs := hs.evo ev297 rfl
          refine WL.nil ?_
          refine hK167 _ _ ?_
          refine CW.region ?_
          refine WL.p (.int .i64 x134) rfl rfl ?_
          refine WL.p (.int .i64 ((W (x134 - 1)))) rfl rfl ?_
          refine WL.p (.int .i64 ((W (x134 - 1)))) rfl rfl ?_
          refine WL.nil ?_
          exact NK.sb (hk163 _ _ _ (Option.some.inj hx161).symm ⟨o293, (W (x134 - 1)), x202, y289, st279, v203, v291, rfl, rfl, hE, h116, h204, h295, h7, h8, h9, hb6, hb218, hs⟩) ⟨rfl, rfl, rfl, rfl, trivial⟩
         refine CW.cond (b := x270) rfl (fun hc298 => ?_) (fun hc298 => ?_)
         ·have q280 := iteT hc298 q280
          refine CW.region ?_
          refine WL.p (.pointer (some ⟨sb, 0, none⟩)) rfl rfl ?_
          refine WL.p (.int .i64 (len x138)) rfl rfl ?_
          have hm299 : MbOk o274 w273 0 [sb] [1] := ⟨.inl ⟨hs.1.lt, hs.2⟩, trivial⟩
          obtain ⟨⟨y300, st301⟩, q302, q280⟩ := bindE q280
          dsimp only at q280
          refine WL.step (OW.call Try.call13 rfl (Src_N_ok q302 hs.1 (hL.baseM hE rfl) (hm299.sep rfl) (hm299.nodup rfl))) rfl ?_
          rintro _ w303 ⟨o307, hn_, rfl, hs⟩
          obtain ⟨o304, ev305, hA306⟩ := adopt (o := o274) (ks := [1]) (Ks := [[40]]) 146 ([]) [1, 146] hn_ hm299 rfl rfl rfl rfl
          have hs := hs.ad (c' := 1) hA306 rfl
          have hE := hE.evo ev305 rfl rfl
          have h116 := h116.evo ev305 rfl
          have h140 := h140.evo ev305 rfl
          have h204 := h204.evo ev305 rfl
          have h259 := h259.evo ev305 rfl
          have h7 := h7.evo ev305 rfl
          have h8 := h8.evo ev305 rfl
          have h9 := h9.evo ev305 rfl
          have hb6 := hb6.evo ev305 rfl
          have hb264 := hb264.evo ev305 rfl
          have hb218 := hb218.evo ev305 rfl
          refine WL.step (OW.buildSlice (o := o304) (k := 147) (K := []) (xs := ([y300] : List Int)) Try.underlying22 ty3 rfl ⟨(rv_int.2 rfl), trivial⟩ rfl rfl) rfl ?_
          rintro v308 w309 ⟨o310, ev311, h312⟩
          have hE := hE.evo ev311 rfl rfl
          have h116 := h116.evo ev311 rfl
          have h140 := h140.evo ev311 rfl
          have h204 := h204.evo ev311 rfl
          have h259 := h259.evo ev311 rfl
          have h7 := h7.evo ev311 rfl
          have h8 := h8.evo ev311 rfl
          have h9 := h9.evo ev311 rfl
          have hb6 := hb6.evo ev311 rfl
          have hb264 := hb264.evo ev311 rfl
          have hb218 := hb218.evo ev311 rfl
          have hs := hs.evo ev311 rfl
          refine WL.stepE (OW.fldAddr (FldOk.at f85_4) rfl) rfl ?_
          refine WL.step0 (OW.storeK (off := 4) (List Int) [.int .i64 y216, .int .i64 y233, .int .i64 y242, .int .i64 y251, v308] [v308] ty22 rfl rfl hb264 (cells_one (h312.one)) ⟨(h312.one), trivial⟩ rfl rfl rfl) ?_
          rintro _ w313 ⟨ev314, hb264⟩
          have hE := hE.evo ev314 rfl rfl
          have h116 := h116.evo ev314 rfl
          have h140 := h140.evo ev314 rfl
          have h204 := h204.evo ev314 rfl
          have h312 := h312.evo ev314 rfl
          have h7 := h7.evo ev314 rfl
          have h8 := h8.evo ev314 rfl
          have h9 := h9.evo ev314 rfl
          have hb6 := hb6.evo ev314 rfl
          have hb218 := hb218.evo ev314 rfl
          have hs := hs.evo ev314 rfl
          refine WL.nil ?_
          have e315 := Option.some.inj q280
          obtain ⟨e316, e317⟩ := Prod.mk.inj e315
          subst e316 e317
          exact NK.sb (hJ283 w313 o310 v308 hE h116 h140 h204 h312 h7 h8 h9 hb6 hb264 hb218 hs) ⟨rfl, rfl, rfl, rfl, rfl, trivial⟩
         ·have q280 := iteF hc298 q280
          refine CW.skip ?_
          have e318 := Option.some.inj q280
          obtain ⟨e319, e320⟩ := Prod.mk.inj e318
          subst e319 e320
          exact NK.sb (hJ283 w273 o274 (.slice none 0 0) hE h116 h140 h204 (Ow.nil _ _ _ _ _) h7 h8 h9 hb6 hb264 hb218 hs) ⟨rfl, rfl, rfl, rfl, rfl, trivial⟩
        rcases Bool.eq_false_or_eq_true ((decide ((len x138) > 0))) with hc321 | hc321
        ·have q272 := iteT hc321 q272
         refine WL.stepGE rfl rfl rfl hc321 (OW.pv (v := (.pointer (some ⟨sb, 0, none⟩))) rfl) rfl ?_
         have hm322 : MbOk o261 w266 0 [sb] [1] := ⟨.inl ⟨hs.1.lt, hs.2⟩, trivial⟩
         obtain ⟨⟨y323, st324⟩, q325, q272⟩ := bindE q272
         dsimp only at q272
         refine WL.stepG rfl rfl rfl hc321 (OW.call Try.call13 rfl (Src_N_ok q325 hs.1 (hL.baseM hE rfl) (hm322.sep rfl) (hm322.nodup rfl))) rfl ?_
         rintro _ w326 ⟨o330, hn_, rfl, hs⟩
         obtain ⟨o327, ev328, hA329⟩ := adopt (o := o261) (ks := [1]) (Ks := [[40]]) 145 ([]) [1, 145] hn_ hm322 rfl rfl rfl rfl
         have hs := hs.ad (c' := 1) hA329 rfl
         have hE := hE.evo ev328 rfl rfl
         have h116 := h116.evo ev328 rfl
         have h140 := h140.evo ev328 rfl
         have h204 := h204.evo ev328 rfl
         have h259 := h259.evo ev328 rfl
         have h7 := h7.evo ev328 rfl
         have h8 := h8.evo ev328 rfl
         have h9 := h9.evo ev328 rfl
         have hb6 := hb6.evo ev328 rfl
         have hb264 := hb264.evo ev328 rfl
         have hb218 := hb218.evo ev328 rfl
         refine WL.stepGE rfl rfl rfl hc321 (OW.pv (v := (.bool (((y323 == 3))))) rfl) rfl ?_
         refine WL.stepE (OW.pickT rfl hc321 rfl) rfl ?_
         refine WL.nil ?_
         have e331 := Option.some.inj q272
         obtain ⟨e332, e333⟩ := Prod.mk.inj e331
         subst e332 e333
         exact NK.sb (hJ275 w326 o327 hE h116 h140 h204 h259 h7 h8 h9 hb6 hb264 hb218 hs) ⟨rfl, rfl, rfl, rfl, rfl, rfl, rfl, trivial⟩
        ·have q272 := iteF hc321 q272
         refine WL.skipG rfl rfl rfl (by rw [hc321]; rfl) rfl ?_
         refine WL.skipG rfl rfl rfl (by rw [hc321]; rfl) rfl ?_
         refine WL.skipG rfl rfl rfl (by rw [hc321]; rfl) rfl ?_
         refine WL.stepE (OW.pickF rfl hc321 rfl) rfl ?_
         refine WL.nil ?_
         have e334 := Option.some.inj q272
         obtain ⟨e335, e336⟩ := Prod.mk.inj e334
         subst e335 e336
         exact NK.sb (hJ275 w266 o261 hE h116 h140 h204 h259 h7 h8 h9 hb6 hb264 hb218 hs) ⟨rfl, rfl, rfl, rfl, rfl, rfl, rfl, trivial⟩
       refine CW.cond (b := x196) rfl (fun hc337 => ?_) (fun hc337 => ?_)
       ·have q205 := iteT hc337 q205
        obtain ⟨y338, q339, q205⟩ := bindE q205
        obtain ⟨y345, q346, q205⟩ := bindE q205
        have ev_ := Evo.drew o200 w199
        refine CW.anyS (N := [109, 112, 135]) hmix [sOw none (some 10) [] 48 109 [] (vk v187) y185, sBk none (some 12) [] 112 (vk pa51) (vk ([.int .i64 y12, v187, v115, v139, .int .i64 y26, .int .i64 y40])), sOw (some 9) none [9] 48 135 [] (vn 0) (([(⟨3, y338, len x138⟩ : Breaker)] : List Breaker)), sOw (some 10) none [10] 48 109 [] (vn 0) y345, sBk (some 12) none [10] 112 (vk pa51) (fun x_ => [.int .i64 y12, (x_.getD 0 undef), v115, v139, .int .i64 y26, .int .i64 y40])] [⟨[], [], [], [], vk (.pointer (some (pa51.add 1))), false⟩, ⟨[], [1], [0], [], vk v187, false⟩, ⟨[], [], [], [], vk (.int .i64 y171), false⟩, ⟨[], [], [2], [], vk (.int .i64 ((W (y171 + 1)))), false⟩, ⟨[], [], [], [], vk (.pointer (some (pa51.add 0))), false⟩, ⟨[], [1], [4], [], vk (.int .i64 y12), false⟩, ⟨[], [], rg 2 4, [], vk (.int .i64 y338), false⟩, ⟨[], [], [], [], vk (.int .i64 (len x138)), false⟩, ⟨[], [], rg 2 6, [], vk (.agg #[.int .i64 3, .int .i64 y338, .int .i64 (len x138)]), false⟩, ⟨[], [], rg 2 7, [9], vn 0, false⟩, ⟨[109], [0, 2], rg 0 10, [10], vn 0, false⟩, ⟨[], [], rg 0 11, [], vk (.pointer (some (pa51.add 1))), false⟩, ⟨[112], [1, 3], rg 0 12, [], vk undef, false⟩] [109, 112] hE rfl (by kernel_rfl) (by kernel_rfl) ⟨h191.evo ev_ rfl, hb55.evo ev_ rfl, trivial⟩ ⟨?_, ?_, Ob.pv rfl rfl (fun _ => rfl) rfl (fun _ _ _ => trivial), Ob.pv rfl rfl (fun _ => rfl) rfl (fun _ _ _ => trivial), ?_, ?_, ?_, Ob.pv rfl rfl (fun _ => rfl) rfl (fun _ _ _ => trivial), ?_, ?_, ?_, ?_, ?_, trivial⟩ ?_
        ·intro vs355 o_ w_ hE 
         exact OW.q [(3, .pointer (some pa51))] ⟨rfl, trivial⟩ (OW.fldAddr (FldOk.at f39_1) rfl) (er rfl trivial)
        ·intro vs355 o_ w_ hE hb55
         have hb55 := tBk hb55
         exact OW.q [(122, .pointer (some (pa51.add 1)))] ⟨rfl, trivial⟩ (OW.loadK (off := 1) (List Breaker) (v187) ty35 rfl hb55 rfl rfl) (er rfl trivial)
        ·intro vs355 o_ w_ hE 
         exact OW.q [(3, .pointer (some pa51))] ⟨rfl, trivial⟩ (OW.fldAddr (FldOk.at f39_0) rfl) (er rfl trivial)
        ·intro vs355 o_ w_ hE hb55
         have hb55 := tBk hb55
         exact OW.q [(126, .pointer (some (pa51.add 0)))] ⟨rfl, trivial⟩ (OW.loadK (off := 0) Int (.int .i64 y12) ty3 rfl hb55 rfl rfl) (er rfl trivial)
        ·intro vs355 o_ w_ hE 
         exact OW.q [(125, .int .i64 ((W (y171 + 1)))), (127, .int .i64 y12)] ⟨rfl, rfl, trivial⟩ (OW.rem rfl rfl q339) (er rfl trivial)
        ·intro vs355 o_ w_ hE 
         exact OW.q [(128, .int .i64 y338), (129, .int .i64 (len x138))] ⟨rfl, rfl, trivial⟩ (OW.buildK Breaker [(0, [.int .i64 3]), (1, [.int .i64 y338]), (2, [.int .i64 (len x138)])] [.int .i64 3, .int .i64 y338, .int .i64 (len x138)] st48 ty48 rfl ⟨rfl, rfl, rfl, rfl, rfl, rfl, trivial⟩ rfl) (er rfl trivial)
        ·intro vs355 o_ w_ hE 
         refine OW.r [(130, .agg #[.int .i64 3, .int .i64 y338, .int .i64 (len x138)])] ⟨rfl, trivial⟩ (OW.buildSlice (o := o_) (k := 135) (K := []) (xs := ([(⟨3, y338, len x138⟩ : Breaker)] : List Breaker)) Try.underlying35 ty48 rfl ⟨(mk48 (x := (⟨3, y338, len x138⟩ : Breaker))), trivial⟩ rfl rfl) ?_
         rintro v340 w341 ⟨o342, ev343, h344⟩
         exact ⟨o342, ev343.sub rfl rfl, rfl, h344, trivial⟩
        ·intro vs355 o_ w_ hE h191 h344
         have h191 := tOw h191
         have h344 := tOw h344
         refine OW.r [(123, v187), (131, (vs355 9))] ⟨rfl, rfl, trivial⟩ (OW.append (K := []) Try.underlying35 ty48 rfl rfl h191 h344.els.flat q346 rfl) ?_
         rintro v347 w348 ⟨o349, ev350, h351⟩
         exact ⟨o349, ev350.sub rfl rfl, rfl, h351, trivial⟩
        ·intro vs355 o_ w_ hE 
         exact OW.q [(3, .pointer (some pa51))] ⟨rfl, trivial⟩ (OW.fldAddr (FldOk.at f39_1) rfl) (er rfl trivial)
        ·intro vs355 o_ w_ hE hb55 h351
         have hb55 := tBk hb55
         have h351 := tOw h351
         refine OW.r [(132, (vs355 10)), (133, .pointer (some (pa51.add 1)))] ⟨rfl, rfl, trivial⟩ (OW.storeK (off := 1) (List Breaker) [.int .i64 y12, (vs355 10), v115, v139, .int .i64 y26, .int .i64 y40] [(vs355 10)] ty35 rfl rfl hb55 (cells_one (h351.one)) ⟨(h351.one), trivial⟩ rfl rfl rfl) ?_
         rintro _ w352 ⟨ev353, hb354⟩
         exact ⟨o_, ev353.sub rfl rfl, trivial, hb354, trivial⟩
        ·intro vs355 o357 w356 hE h344 h351 hb354
         obtain ⟨hE, evT_⟩ := hE
         have h344 : Ow 48 o357 135 [] w356 (vs355 9) (([(⟨3, y338, len x138⟩ : Breaker)] : List Breaker)) := h344
         have h351 : Ow 48 o357 109 [] w356 (vs355 10) y345 := h351
         have hb354 : Bk o357 112 w356 pa51 [.int .i64 y12, (vs355 10), v115, v139, .int .i64 y26, .int .i64 y40] := hb354
         have h116 := h116.evo evT_ rfl
         have h140 := h140.evo evT_ rfl
         have h7 := h7.evo evT_ rfl
         have h8 := h8.evo evT_ rfl
         have h9 := h9.evo evT_ rfl
         have hb6 := hb6.evo evT_ rfl
         have hs := hs.evo evT_ rfl
         have e358 := Option.some.inj q205
         subst e358
         exact NK.sb (hJ208 w356 o357 (vs355 10) hE h116 h140 h351 h7 h8 h9 hb6 hb354 hs) ⟨rfl, rfl, rfl, rfl, rfl, trivial⟩
       ·have q205 := iteF hc337 q205
        refine CW.skip ?_
        have e359 := Option.some.inj q205
        subst e359
        exact NK.sb (hJ208 w199 o200 v187 hE h116 h140 h191 h7 h8 h9 hb6 hb55 hs) ⟨rfl, rfl, rfl, rfl, rfl, trivial⟩
      rcases Bool.eq_false_or_eq_true ((decide (y12 > 1))) with hc360 | hc360
      ·have q198 := iteT hc360 q198
       refine WL.stepGE rfl rfl rfl hc360 (OW.pv (v := (.pointer (some ⟨sb, 0, none⟩))) rfl) rfl ?_
       have hm361 : MbOk o189 w192 0 [sb] [1] := ⟨.inl ⟨hs.1.lt, hs.2⟩, trivial⟩
       obtain ⟨⟨y362, st363⟩, q364, q198⟩ := bindE q198
       dsimp only at q198
       refine WL.stepG rfl rfl rfl hc360 (OW.call Try.call13 rfl (Src_N_ok q364 hs.1 (hL.baseM hE rfl) (hm361.sep rfl) (hm361.nodup rfl))) rfl ?_
       rintro _ w365 ⟨o369, hn_, rfl, hs⟩
       obtain ⟨o366, ev367, hA368⟩ := adopt (o := o189) (ks := [1]) (Ks := [[40]]) 134 ([]) [1, 134] hn_ hm361 rfl rfl rfl rfl
       have hs := hs.ad (c' := 1) hA368 rfl
       have hE := hE.evo ev367 rfl rfl
       have h116 := h116.evo ev367 rfl
       have h140 := h140.evo ev367 rfl
       have h191 := h191.evo ev367 rfl
       have h7 := h7.evo ev367 rfl
       have h8 := h8.evo ev367 rfl
       have h9 := h9.evo ev367 rfl
       have hb6 := hb6.evo ev367 rfl
       have hb55 := hb55.evo ev367 rfl
       refine WL.stepGE rfl rfl rfl hc360 (OW.pv (v := (.bool (((y362 == 3))))) rfl) rfl ?_
       refine WL.stepE (OW.pickT rfl hc360 rfl) rfl ?_
       refine WL.nil ?_
       have e370 := Option.some.inj q198
       obtain ⟨e371, e372⟩ := Prod.mk.inj e370
       subst e371 e372
       exact NK.sb (hJ201 w365 o366 hE h116 h140 h191 h7 h8 h9 hb6 hb55 hs) ⟨rfl, rfl, rfl, rfl, rfl, rfl, rfl, trivial⟩
      ·have q198 := iteF hc360 q198
       refine WL.skipG rfl rfl rfl (by rw [hc360]; rfl) rfl ?_
       refine WL.skipG rfl rfl rfl (by rw [hc360]; rfl) rfl ?_
       refine WL.skipG rfl rfl rfl (by rw [hc360]; rfl) rfl ?_
       refine WL.stepE (OW.pickF rfl hc360 rfl) rfl ?_
       refine WL.nil ?_
       have e373 := Option.some.inj q198
       obtain ⟨e374, e375⟩ := Prod.mk.inj e373
       subst e374 e375
       exact NK.sb (hJ201 w192 o189 hE h116 h140 h191 h7 h8 h9 hb6 hb55 hs) ⟨rfl, rfl, rfl, rfl, rfl, rfl, rfl, trivial⟩
     ·have hx161 := iteF hc166 hx161
      refine CW.exit ?_
      exact NK.sb (hJ153 x135 x138 st141 w157 o158 v136 v139 (hr162 _ (Option.some.inj hx161).symm) hE h116 h137 h140 h7 h8 h9 hb6 hb55 hs) ⟨rfl, rfl, rfl, trivial⟩
    refine CW.sub (L' := [(0, .pointer (some ⟨sb, 0, none⟩)), (2, .pointer (some pa2)), (3, .pointer (some pa51)), (5, .int .i64 y95)]) ⟨rfl, rfl, rfl, rfl, trivial⟩ ?_
    refine CW.loop (Src_Board_L2 y12) (fun s_ L_ w376 => ∃ (o377 : Cls) (x103 : Int) (x104 : (List Breaker)) (x107 : (List Source)) (st110 : List Int) (v105 v108 : Value), (x103, x104, x107, st110) = s_ ∧ L_ = [(0, .pointer (some ⟨sb, 0, none⟩)), (2, .pointer (some pa2)), (3, .pointer (some pa51)), (5, .int .i64 x103)] ∧ En w0 e0 o377 w376 ∧ Ow 48 o377 109 [] w376 v105 x104 ∧ Ow 83 o377 110 [] w376 v108 x107 ∧ Ow 85 o377 111 [] w376 (.slice none 0 0) ([] : List Consumer) ∧ Ow 48 o377 101 [] w376 (.slice none 0 0) ([] : List Breaker) ∧ Ow 83 o377 102 [] w376 (.slice none 0 0) ([] : List Source) ∧ Ow 85 o377 103 [] w376 (.slice none 0 0) ([] : List Consumer) ∧ Bk o377 100 w376 pa2 [.int .i64 0, (.slice none 0 0), (.slice none 0 0), (.slice none 0 0), .int .i64 0, .int .i64 0] ∧ Bk o377 112 w376 pa51 [.int .i64 y12, v105, v108, (.slice none 0 0), .int .i64 y26, .int .i64 y40] ∧ SrcC o377 1 w376 sb sv sL st110) hl118 ?_ ?_
    ·exact ⟨o99, y95, x85, ([] : List Source), st96, v86, (.slice none 0 0), rfl, rfl, hE, h87, h49, h50, h7, h8, h9, hb6, hb55, hs⟩
    intro K378 s_ L_ w376 hi_ x379 hx380 hr381 hk382
    obtain ⟨o377, x103, x104, x107, st110, v105, v108, rfl, rfl, hE, h106, h109, h50, h7, h8, h9, hb6, hb55, hs⟩ := hi_
    rw [Src_Board_L2] at hx380
    refine CW.seq fun K383 hK383 => ?_
    refine CW.sr fun K384 hK384 => ?_
    refine WL.p (.int .i64 x103) rfl rfl ?_
    refine WL.p (.bool ((decide (x103 > 0)))) rfl rfl ?_
    refine WL.nx hK384 ?_
    refine CW.cond (b := (decide (x103 > 0))) rfl (fun hc385 => ?_) (fun hc385 => ?_)
    ·have hx380 := iteT hc385 hx380
     refine CW.skip ?_
     refine hK383 _ _ ?_
     refine CW.seq fun K386 hK386 => ?_
     refine CW.block ?_
     refine CW.seq fun K387 hK387 => ?_
     obtain ⟨⟨y389, st390⟩, q391, hx380⟩ := bindE hx380
     dsimp only at hx380
     obtain ⟨y403, q404, hx380⟩ := bindE hx380
     have ev_ := Evo.drew o377 w376
     refine CW.anyS (N := [1, 109, 112, 122, 123]) hmix [sOw none (some 11) [] 48 109 [] (vk v105) x104, sOw none none [] 83 110 [] (vk v108) x107, sBk none (some 13) [] 112 (vk pa51) (vk ([.int .i64 y12, v105, v108, (.slice none 0 0), .int .i64 y26, .int .i64 y40])), sSr none (some 5) [] 1 sb sv sL st110, sSr (some 5) none [] 1 sb sv sL st390, sOw (some 10) none [10] 48 123 [] (vn 0) (([(⟨2, y389, len x107⟩ : Breaker)] : List Breaker)), sOw (some 11) none [11] 48 109 [] (vn 0) y403, sBk (some 13) none [11] 112 (vk pa51) (fun x_ => [.int .i64 y12, (x_.getD 0 undef), v108, (.slice none 0 0), .int .i64 y26, .int .i64 y40])] [⟨[], [], [], [], vk (.pointer (some (pa51.add 1))), false⟩, ⟨[], [2], [0], [], vk v105, false⟩, ⟨[], [], [], [], vk (.pointer (some ⟨sb, 0, none⟩)), false⟩, ⟨[], [], [], [], vk (.pointer (some (pa51.add 0))), false⟩, ⟨[], [2], [3], [], vk (.int .i64 y12), false⟩, ⟨[1], [3], [2, 3, 4], [], vk (.int .i64 y389), false⟩, ⟨[], [], [], [], vk (.pointer (some (pa51.add 2))), false⟩, ⟨[], [2], [6], [], vk v108, false⟩, ⟨[], [1], [6, 7], [], vk (.int .i64 (len x107)), false⟩, ⟨[], [], rg 2 7, [], vk (.agg #[.int .i64 2, .int .i64 y389, .int .i64 (len x107)]), false⟩, ⟨[], [], rg 2 8, [10], vn 0, false⟩, ⟨[109], [0, 5], rg 0 11, [11], vn 0, false⟩, ⟨[], [], rg 0 12, [], vk (.pointer (some (pa51.add 1))), false⟩, ⟨[112], [2, 6], rg 0 13, [], vk undef, false⟩] [1, 109, 112] hE rfl (by kernel_rfl) (by kernel_rfl) ⟨h106.evo ev_ rfl, h109.evo ev_ rfl, hb55.evo ev_ rfl, hs.evo ev_ rfl, trivial⟩ ⟨?_, ?_, Ob.pv rfl rfl (fun _ => rfl) rfl (fun _ _ _ => trivial), ?_, ?_, ?_, ?_, ?_, ?_, ?_, ?_, ?_, ?_, ?_, trivial⟩ ?_
     ·intro vs413 o_ w_ hE 
      exact OW.q [(3, .pointer (some pa51))] ⟨rfl, trivial⟩ (OW.fldAddr (FldOk.at f39_1) rfl) (er rfl trivial)
     ·intro vs413 o_ w_ hE hb55
      have hb55 := tBk hb55
      exact OW.q [(63, .pointer (some (pa51.add 1)))] ⟨rfl, trivial⟩ (OW.loadK (off := 1) (List Breaker) (v105) ty35 rfl hb55 rfl rfl) (er rfl trivial)
     ·intro vs413 o_ w_ hE 
      exact OW.q [(3, .pointer (some pa51))] ⟨rfl, trivial⟩ (OW.fldAddr (FldOk.at f39_0) rfl) (er rfl trivial)
     ·intro vs413 o_ w_ hE hb55
      have hb55 := tBk hb55
      exact OW.q [(66, .pointer (some (pa51.add 0)))] ⟨rfl, trivial⟩ (OW.loadK (off := 0) Int (.int .i64 y12) ty3 rfl hb55 rfl rfl) (er rfl trivial)
     ·intro vs413 o_ w_ hE hs
      have hE := hE.1
      have hs := tSr hs
      have hm388 : MbOk o_ w_ 0 [sb] [1] := ⟨.inl ⟨hs.1.lt, hs.2⟩, trivial⟩
      refine OW.r [(65, .pointer (some ⟨sb, 0, none⟩)), (67, .int .i64 y12)] ⟨rfl, rfl, trivial⟩ (OW.call Try.call13 rfl (Src_N_ok q391 hs.1 (hL.baseM hE rfl) (hm388.sep rfl) (hm388.nodup rfl))) ?_
      rintro _ w392 ⟨o396, hn_, rfl, hs397⟩
      obtain ⟨o393, ev394, hA395⟩ := adopt (o := o_) (ks := [1]) (Ks := [[40]]) 122 ([]) [1, 122] hn_ hm388 rfl rfl rfl rfl
      have hs397 := hs397.ad (c' := 1) hA395 rfl
      exact ⟨o393, ev394.sub rfl rfl, rfl, hs397, trivial⟩
     ·intro vs413 o_ w_ hE 
      exact OW.q [(3, .pointer (some pa51))] ⟨rfl, trivial⟩ (OW.fldAddr (FldOk.at f39_2) rfl) (er rfl trivial)
     ·intro vs413 o_ w_ hE hb55
      have hb55 := tBk hb55
      exact OW.q [(69, .pointer (some (pa51.add 2)))] ⟨rfl, trivial⟩ (OW.loadK (off := 2) (List Source) (v108) ty36 rfl hb55 rfl rfl) (er rfl trivial)
     ·intro vs413 o_ w_ hE h109
      have h109 := tOw h109
      exact OW.q [(70, v108)] ⟨rfl, trivial⟩ (OW.len Try.underlying36 rfl h109.rv) (er rfl trivial)
     ·intro vs413 o_ w_ hE 
      exact OW.q [(68, .int .i64 y389), (71, .int .i64 (len x107))] ⟨rfl, rfl, trivial⟩ (OW.buildK Breaker [(0, [.int .i64 2]), (1, [.int .i64 y389]), (2, [.int .i64 (len x107)])] [.int .i64 2, .int .i64 y389, .int .i64 (len x107)] st48 ty48 rfl ⟨rfl, rfl, rfl, rfl, rfl, rfl, trivial⟩ rfl) (er rfl trivial)
     ·intro vs413 o_ w_ hE 
      refine OW.r [(72, .agg #[.int .i64 2, .int .i64 y389, .int .i64 (len x107)])] ⟨rfl, trivial⟩ (OW.buildSlice (o := o_) (k := 123) (K := []) (xs := ([(⟨2, y389, len x107⟩ : Breaker)] : List Breaker)) Try.underlying35 ty48 rfl ⟨(mk48 (x := (⟨2, y389, len x107⟩ : Breaker))), trivial⟩ rfl rfl) ?_
      rintro v398 w399 ⟨o400, ev401, h402⟩
      exact ⟨o400, ev401.sub rfl rfl, rfl, h402, trivial⟩
     ·intro vs413 o_ w_ hE h106 h402
      have h106 := tOw h106
      have h402 := tOw h402
      refine OW.r [(64, v105), (73, (vs413 10))] ⟨rfl, rfl, trivial⟩ (OW.append (K := []) Try.underlying35 ty48 rfl rfl h106 h402.els.flat q404 rfl) ?_
      rintro v405 w406 ⟨o407, ev408, h409⟩
      exact ⟨o407, ev408.sub rfl rfl, rfl, h409, trivial⟩
     ·intro vs413 o_ w_ hE 
      exact OW.q [(3, .pointer (some pa51))] ⟨rfl, trivial⟩ (OW.fldAddr (FldOk.at f39_1) rfl) (er rfl trivial)
     ·intro vs413 o_ w_ hE hb55 h409
      have hb55 := tBk hb55
      have h409 := tOw h409
      refine OW.r [(74, (vs413 11)), (75, .pointer (some (pa51.add 1)))] ⟨rfl, rfl, trivial⟩ (OW.storeK (off := 1) (List Breaker) [.int .i64 y12, (vs413 11), v108, (.slice none 0 0), .int .i64 y26, .int .i64 y40] [(vs413 11)] ty35 rfl rfl hb55 (cells_one (h409.one)) ⟨(h409.one), trivial⟩ rfl rfl rfl) ?_
      rintro _ w410 ⟨ev411, hb412⟩
      exact ⟨o_, ev411.sub rfl rfl, trivial, hb412, trivial⟩
     ·intro vs413 o415 w414 hE h109 hs397 h402 h409 hb412
      obtain ⟨hE, evT_⟩ := hE
      have h109 : Ow 83 o415 110 [] w414 v108 x107 := h109
      have hs397 : SrcC o415 1 w414 sb sv sL st390 := hs397
      have h402 : Ow 48 o415 123 [] w414 (vs413 10) (([(⟨2, y389, len x107⟩ : Breaker)] : List Breaker)) := h402
      have h409 : Ow 48 o415 109 [] w414 (vs413 11) y403 := h409
      have hb412 : Bk o415 112 w414 pa51 [.int .i64 y12, (vs413 11), v108, (.slice none 0 0), .int .i64 y26, .int .i64 y40] := hb412
      have h50 := h50.evo evT_ rfl
      have h7 := h7.evo evT_ rfl
      have h8 := h8.evo evT_ rfl
      have h9 := h9.evo evT_ rfl
      have hb6 := hb6.evo evT_ rfl
      refine hK387 _ _ ?_
      refine CW.sr fun K416 hK416 => ?_
      refine WL.p (.pointer (some ⟨sb, 0, none⟩)) rfl rfl ?_
      refine WL.step (OW.buildSlice (o := o415) (k := 124) (K := []) (xs := ([10, 50, 100] : List Int)) Try.underlying22 ty3 rfl ⟨(rv_int.2 rfl), (rv_int.2 rfl), (rv_int.2 rfl), trivial⟩ rfl rfl) rfl ?_
      rintro v417 w418 ⟨o419, ev420, h421⟩
      have hE := hE.evo ev420 rfl rfl
      have h109 := h109.evo ev420 rfl
      have h409 := h409.evo ev420 rfl
      have h50 := h50.evo ev420 rfl
      have h7 := h7.evo ev420 rfl
      have h8 := h8.evo ev420 rfl
      have h9 := h9.evo ev420 rfl
      have hb6 := hb6.evo ev420 rfl
      have hb412 := hb412.evo ev420 rfl
      have hs397 := hs397.evo ev420 rfl
      have hm422 : MbOk o419 w418 0 [sb] [1] := ⟨.inl ⟨hs397.1.lt, hs397.2⟩, trivial⟩
      obtain ⟨⟨y423, st424⟩, q425, hx380⟩ := bindE hx380
      dsimp only at hx380
      refine WL.step (OW.call Try.call44 rfl (Src_Pick_ok q425 hs397.1 (hL.baseM hE rfl) (hm422.sep rfl) h421.rv (hm422.sep rfl) (hm422.nodup rfl))) rfl ?_
      rintro _ w426 ⟨o430, hn_, rfl, hs397⟩
      obtain ⟨o427, ev428, hA429⟩ := adopt (o := o419) (ks := [1]) (Ks := [[40], [124]]) 125 ([]) [1, 125] hn_ hm422 rfl rfl rfl rfl
      have hs397 := hs397.ad (c' := 1) hA429 rfl
      have hE := hE.evo ev428 rfl rfl
      have h109 := h109.evo ev428 rfl
      have h409 := h409.evo ev428 rfl
      have h421 := h421.evo ev428 rfl
      have h50 := h50.evo ev428 rfl
      have h7 := h7.evo ev428 rfl
      have h8 := h8.evo ev428 rfl
      have h9 := h9.evo ev428 rfl
      have hb6 := hb6.evo ev428 rfl
      have hb412 := hb412.evo ev428 rfl
      refine WL.p (.int .i64 y423) rfl rfl ?_
      refine WL.nx hK416 ?_
      obtain ⟨⟨y437, st438⟩, q439, hx380⟩ := bindE hx380
      dsimp only at hx380
      obtain ⟨⟨y452, st453⟩, q454, hx380⟩ := bindE hx380
      dsimp only at hx380
      obtain ⟨y466, q467, hx380⟩ := bindE hx380
      have ev_ := Evo.drew o427 w426
      refine CW.anyS (N := [1, 110, 112, 126, 127, 128, 129, 130]) hmix [sOw none (some 12) [] 83 110 [] (vk v108) x107, sBk none (some 14) [] 112 (vk pa51) (vk ([.int .i64 y12, (vs413 11), v108, (.slice none 0 0), .int .i64 y26, .int .i64 y40])), sSr none (some 6) [] 1 sb sv sL st424, sOw (some 5) none [5] 3 126 [] (vn 0) ([0, 5, y423] : List Int), sSr (some 6) (some 9) [] 1 sb sv sL st438, sOw (some 8) none [8] 3 128 [] (vn 0) ([0, 1, 3] : List Int), sSr (some 9) none [] 1 sb sv sL st453, sOw (some 11) none [11] 83 130 [] (vn 0) (([(⟨y423, y437, y452⟩ : Source)] : List Source)), sOw (some 12) none [12] 83 110 [] (vn 0) y466, sBk (some 14) none [12] 112 (vk pa51) (fun x_ => [.int .i64 y12, (vs413 11), (x_.getD 0 undef), (.slice none 0 0), .int .i64 y26, .int .i64 y40])] [⟨[], [], [], [], vk (.pointer (some (pa51.add 2))), false⟩, ⟨[], [1], [0], [], vk v108, false⟩, ⟨[], [], [], [], vk (.int .i64 y423), false⟩, ⟨[], [], [], [], vk (.pointer (some ⟨sb, 0, none⟩)), false⟩, ⟨[], [], [], [], vk (.int .i64 y423), false⟩, ⟨[], [], [4], [5], vn 0, false⟩, ⟨[1], [2, 3], [3, 4, 5], [], vk (.int .i64 y437), false⟩, ⟨[], [], [], [], vk (.pointer (some ⟨sb, 0, none⟩)), false⟩, ⟨[], [], [], [8], vn 0, false⟩, ⟨[1], [4, 5], rg 3 6, [], vk (.int .i64 y452), false⟩, ⟨[], [], rg 2 8, [], vk (.agg #[.int .i64 y423, .int .i64 y437, .int .i64 y452]), false⟩, ⟨[], [], rg 2 9, [11], vn 0, false⟩, ⟨[110], [0, 7], rg 0 12, [12], vn 0, false⟩, ⟨[], [], rg 0 13, [], vk (.pointer (some (pa51.add 2))), false⟩, ⟨[112], [1, 8], rg 0 14, [], vk undef, false⟩] [1, 110, 112] hE rfl (by kernel_rfl) (by kernel_rfl) ⟨h109.evo ev_ rfl, hb412.evo ev_ rfl, hs397.evo ev_ rfl, trivial⟩ ⟨?_, ?_, Ob.pv rfl rfl (fun _ => rfl) rfl (fun _ _ _ => trivial), Ob.pv rfl rfl (fun _ => rfl) rfl (fun _ _ _ => trivial), Ob.pv rfl rfl (fun _ => rfl) rfl (fun _ _ _ => trivial), ?_, ?_, Ob.pv rfl rfl (fun _ => rfl) rfl (fun _ _ _ => trivial), ?_, ?_, ?_, ?_, ?_, ?_, ?_, trivial⟩ ?_
      ·intro vs476 o_ w_ hE 
       exact OW.q [(3, .pointer (some pa51))] ⟨rfl, trivial⟩ (OW.fldAddr (FldOk.at f39_2) rfl) (er rfl trivial)
      ·intro vs476 o_ w_ hE hb412
       have hb412 := tBk hb412
       exact OW.q [(79, .pointer (some (pa51.add 2)))] ⟨rfl, trivial⟩ (OW.loadK (off := 2) (List Source) (v108) ty36 rfl hb412 rfl rfl) (er rfl trivial)
      ·intro vs476 o_ w_ hE 
       refine OW.r [(83, .int .i64 y423)] ⟨rfl, trivial⟩ (OW.buildSlice (o := o_) (k := 126) (K := []) (xs := ([0, 5, y423] : List Int)) Try.underlying22 ty3 rfl ⟨(rv_int.2 rfl), (rv_int.2 rfl), (rv_int.2 rfl), trivial⟩ rfl rfl) ?_
       rintro v431 w432 ⟨o433, ev434, h435⟩
       exact ⟨o433, ev434.sub rfl rfl, rfl, h435, trivial⟩
      ·intro vs476 o_ w_ hE hs397 h435
       have hE := hE.1
       have hs397 := tSr hs397
       have h435 := tOw h435
       have hm436 : MbOk o_ w_ 0 [sb] [1] := ⟨.inl ⟨hs397.1.lt, hs397.2⟩, trivial⟩
       refine OW.r [(82, .pointer (some ⟨sb, 0, none⟩)), (84, (vs476 5))] ⟨rfl, rfl, trivial⟩ (OW.call Try.call44 rfl (Src_Pick_ok q439 hs397.1 (hL.baseM hE rfl) (hm436.sep rfl) h435.rv (hm436.sep rfl) (hm436.nodup rfl))) ?_
       rintro _ w440 ⟨o444, hn_, rfl, hs445⟩
       obtain ⟨o441, ev442, hA443⟩ := adopt (o := o_) (ks := [1]) (Ks := [[40], [126]]) 127 ([]) [1, 127] hn_ hm436 rfl rfl rfl rfl
       have hs445 := hs445.ad (c' := 1) hA443 rfl
       exact ⟨o441, ev442.sub rfl rfl, rfl, hs445, trivial⟩
      ·intro vs476 o_ w_ hE 
       refine OW.r [] trivial (OW.buildSlice (o := o_) (k := 128) (K := []) (xs := ([0, 1, 3] : List Int)) Try.underlying22 ty3 rfl ⟨(rv_int.2 rfl), (rv_int.2 rfl), (rv_int.2 rfl), trivial⟩ rfl rfl) ?_
       rintro v446 w447 ⟨o448, ev449, h450⟩
       exact ⟨o448, ev449.sub rfl rfl, rfl, h450, trivial⟩
      ·intro vs476 o_ w_ hE hs445 h450
       have hE := hE.1
       have hs445 := tSr hs445
       have h450 := tOw h450
       have hm451 : MbOk o_ w_ 0 [sb] [1] := ⟨.inl ⟨hs445.1.lt, hs445.2⟩, trivial⟩
       refine OW.r [(86, .pointer (some ⟨sb, 0, none⟩)), (87, (vs476 8))] ⟨rfl, rfl, trivial⟩ (OW.call Try.call44 rfl (Src_Pick_ok q454 hs445.1 (hL.baseM hE rfl) (hm451.sep rfl) h450.rv (hm451.sep rfl) (hm451.nodup rfl))) ?_
       rintro _ w455 ⟨o459, hn_, rfl, hs460⟩
       obtain ⟨o456, ev457, hA458⟩ := adopt (o := o_) (ks := [1]) (Ks := [[40], [128]]) 129 ([]) [1, 129] hn_ hm451 rfl rfl rfl rfl
       have hs460 := hs460.ad (c' := 1) hA458 rfl
       exact ⟨o456, ev457.sub rfl rfl, rfl, hs460, trivial⟩
      ·intro vs476 o_ w_ hE 
       exact OW.q [(81, .int .i64 y423), (85, .int .i64 y437), (88, .int .i64 y452)] ⟨rfl, rfl, rfl, trivial⟩ (OW.buildK Source [(0, [.int .i64 y423]), (1, [.int .i64 y437]), (2, [.int .i64 y452])] [.int .i64 y423, .int .i64 y437, .int .i64 y452] st83 ty83 rfl ⟨rfl, rfl, rfl, rfl, rfl, rfl, trivial⟩ rfl) (er rfl trivial)
      ·intro vs476 o_ w_ hE 
       refine OW.r [(89, .agg #[.int .i64 y423, .int .i64 y437, .int .i64 y452])] ⟨rfl, trivial⟩ (OW.buildSlice (o := o_) (k := 130) (K := []) (xs := ([(⟨y423, y437, y452⟩ : Source)] : List Source)) Try.underlying36 ty83 rfl ⟨(mk83 (x := (⟨y423, y437, y452⟩ : Source))), trivial⟩ rfl rfl) ?_
       rintro v461 w462 ⟨o463, ev464, h465⟩
       exact ⟨o463, ev464.sub rfl rfl, rfl, h465, trivial⟩
      ·intro vs476 o_ w_ hE h109 h465
       have h109 := tOw h109
       have h465 := tOw h465
       refine OW.r [(80, v108), (90, (vs476 11))] ⟨rfl, rfl, trivial⟩ (OW.append (K := []) Try.underlying36 ty83 rfl rfl h109 h465.els.flat q467 rfl) ?_
       rintro v468 w469 ⟨o470, ev471, h472⟩
       exact ⟨o470, ev471.sub rfl rfl, rfl, h472, trivial⟩
      ·intro vs476 o_ w_ hE 
       exact OW.q [(3, .pointer (some pa51))] ⟨rfl, trivial⟩ (OW.fldAddr (FldOk.at f39_2) rfl) (er rfl trivial)
      ·intro vs476 o_ w_ hE hb412 h472
       have hb412 := tBk hb412
       have h472 := tOw h472
       refine OW.r [(91, (vs476 12)), (92, .pointer (some (pa51.add 2)))] ⟨rfl, rfl, trivial⟩ (OW.storeK (off := 2) (List Source) [.int .i64 y12, (vs413 11), (vs476 12), (.slice none 0 0), .int .i64 y26, .int .i64 y40] [(vs476 12)] ty36 rfl rfl hb412 (cells_one (h472.one)) ⟨(h472.one), trivial⟩ rfl rfl rfl) ?_
       rintro _ w473 ⟨ev474, hb475⟩
       exact ⟨o_, ev474.sub rfl rfl, trivial, hb475, trivial⟩
      ·intro vs476 o478 w477 hE h435 h450 hs460 h465 h472 hb475
       obtain ⟨hE, evT_⟩ := hE
       have h435 : Ow 3 o478 126 [] w477 (vs476 5) ([0, 5, y423] : List Int) := h435
       have h450 : Ow 3 o478 128 [] w477 (vs476 8) ([0, 1, 3] : List Int) := h450
       have hs460 : SrcC o478 1 w477 sb sv sL st453 := hs460
       have h465 : Ow 83 o478 130 [] w477 (vs476 11) (([(⟨y423, y437, y452⟩ : Source)] : List Source)) := h465
       have h472 : Ow 83 o478 110 [] w477 (vs476 12) y466 := h472
       have hb475 : Bk o478 112 w477 pa51 [.int .i64 y12, (vs413 11), (vs476 12), (.slice none 0 0), .int .i64 y26, .int .i64 y40] := hb475
       have h409 := h409.evo evT_ rfl
       have h50 := h50.evo evT_ rfl
       have h7 := h7.evo evT_ rfl
       have h8 := h8.evo evT_ rfl
       have h9 := h9.evo evT_ rfl
       have hb6 := hb6.evo evT_ rfl
       refine hK386 _ _ ?_
       refine CW.region ?_
       refine WL.p (.int .i64 x103) rfl rfl ?_
       refine WL.p (.int .i64 ((W (x103 - 1)))) rfl rfl ?_
       refine WL.p (.int .i64 ((W (x103 - 1)))) rfl rfl ?_
       refine WL.nil ?_
       exact NK.sb (hk382 _ _ _ (Option.some.inj hx380).symm ⟨o478, (W (x103 - 1)), y403, y466, st453, (vs413 11), (vs476 12), rfl, rfl, hE, h409, h472, h50, h7, h8, h9, hb6, hb475, hs460⟩) ⟨rfl, rfl, rfl, rfl, trivial⟩
    ·have hx380 := iteF hc385 hx380
     refine CW.exit ?_
     exact NK.sb (hJ122 x104 x107 st110 w376 o377 v105 v108 (hr381 _ (Option.some.inj hx380).symm) hE h106 h109 h50 h7 h8 h9 hb6 hb55 hs) ⟨rfl, rfl, rfl, trivial⟩
   refine CW.cond (b := x79) rfl (fun hc479 => ?_) (fun hc479 => ?_)
   ·have q88 := iteT hc479 q88
    refine CW.region ?_
    refine WL.stepE (OW.fldAddr (FldOk.at f39_1) rfl) rfl ?_
    refine WL.stepE (OW.loadK (off := 1) (List Breaker) (v69) ty35 rfl hb55 rfl rfl) rfl ?_
    refine WL.stepE (OW.fldAddr (FldOk.at f39_0) rfl) rfl ?_
    refine WL.stepE (OW.loadK (off := 0) Int (.int .i64 y12) ty3 rfl hb55 rfl rfl) rfl ?_
    refine WL.p (.int .i64 ((W (y12 - 1)))) rfl rfl ?_
    refine WL.stepE (OW.buildK Breaker [(0, [.int .i64 1]), (1, [.int .i64 0]), (2, [.int .i64 ((W (y12 - 1)))])] [.int .i64 1, .int .i64 0, .int .i64 ((W (y12 - 1)))] st48 ty48 rfl ⟨rfl, rfl, rfl, rfl, rfl, rfl, trivial⟩ rfl) rfl ?_
    refine WL.step (OW.buildSlice (o := o83) (k := 120) (K := []) (xs := ([(⟨1, 0, (W (y12 - 1))⟩ : Breaker)] : List Breaker)) Try.underlying35 ty48 rfl ⟨(mk48 (x := (⟨1, 0, (W (y12 - 1))⟩ : Breaker))), trivial⟩ rfl rfl) rfl ?_
    rintro v480 w481 ⟨o482, ev483, h484⟩
    have hE := hE.evo ev483 rfl rfl
    have h49 := h49.evo ev483 rfl
    have h50 := h50.evo ev483 rfl
    have h7 := h7.evo ev483 rfl
    have h70 := h70.evo ev483 rfl
    have h8 := h8.evo ev483 rfl
    have h9 := h9.evo ev483 rfl
    have hb6 := hb6.evo ev483 rfl
    have hb55 := hb55.evo ev483 rfl
    have hs := hs.evo ev483 rfl
    obtain ⟨y485, q486, q88⟩ := bindE q88
    refine WL.step (OW.append (K := []) Try.underlying35 ty48 rfl rfl h70 h484.els.flat q486 rfl) rfl ?_
    rintro v487 w488 ⟨o489, ev490, h491⟩
    have hE := hE.evo ev490 rfl rfl
    have h484 := h484.evo ev490 rfl
    have h49 := h49.evo ev490 rfl
    have h50 := h50.evo ev490 rfl
    have h7 := h7.evo ev490 rfl
    have h8 := h8.evo ev490 rfl
    have h9 := h9.evo ev490 rfl
    have hb6 := hb6.evo ev490 rfl
    have hb55 := hb55.evo ev490 rfl
    have hs := hs.evo ev490 rfl
    refine WL.stepE (OW.fldAddr (FldOk.at f39_1) rfl) rfl ?_
    refine WL.step0 (OW.storeK (off := 1) (List Breaker) [.int .i64 y12, v487, (.slice none 0 0), (.slice none 0 0), .int .i64 y26, .int .i64 y40] [v487] ty35 rfl rfl hb55 (cells_one (h491.one)) ⟨(h491.one), trivial⟩ rfl rfl rfl) ?_
    rintro _ w492 ⟨ev493, hb55⟩
    have hE := hE.evo ev493 rfl rfl
    have h49 := h49.evo ev493 rfl
    have h491 := h491.evo ev493 rfl
    have h50 := h50.evo ev493 rfl
    have h7 := h7.evo ev493 rfl
    have h8 := h8.evo ev493 rfl
    have h9 := h9.evo ev493 rfl
    have hb6 := hb6.evo ev493 rfl
    have hs := hs.evo ev493 rfl
    refine WL.nil ?_
    have e494 := Option.some.inj q88
    subst e494
    exact NK.sb (hJ91 w492 o489 v487 hE h49 h50 h7 h8 h491 h9 hb6 hb55 hs) ⟨rfl, rfl, rfl, trivial⟩
   ·have q88 := iteF hc479 q88
    refine CW.skip ?_
    have e495 := Option.some.inj q88
    subst e495
    exact NK.sb (hJ91 w82 o83 v69 hE h49 h50 h7 h8 h70 h9 hb6 hb55 hs) ⟨rfl, rfl, rfl, trivial⟩
  rcases Bool.eq_false_or_eq_true ((decide (y12 > 2))) with hc496 | hc496
  ·have q81 := iteT hc496 q81
   refine WL.stepGE rfl rfl rfl hc496 (OW.pv (v := (.pointer (some ⟨sb, 0, none⟩))) rfl) rfl ?_
   have hm497 : MbOk o75 w74 0 [sb] [1] := ⟨.inl ⟨hs.1.lt, hs.2⟩, trivial⟩
   obtain ⟨⟨y498, st499⟩, q500, q81⟩ := bindE q81
   dsimp only at q81
   refine WL.stepG rfl rfl rfl hc496 (OW.call Try.call13 rfl (Src_N_ok q500 hs.1 (hL.baseM hE rfl) (hm497.sep rfl) (hm497.nodup rfl))) rfl ?_
   rintro _ w501 ⟨o505, hn_, rfl, hs⟩
   obtain ⟨o502, ev503, hA504⟩ := adopt (o := o75) (ks := [1]) (Ks := [[40]]) 119 ([]) [1, 119] hn_ hm497 rfl rfl rfl rfl
   have hs := hs.ad (c' := 1) hA504 rfl
   have hE := hE.evo ev503 rfl rfl
   have h49 := h49.evo ev503 rfl
   have h50 := h50.evo ev503 rfl
   have h7 := h7.evo ev503 rfl
   have h70 := h70.evo ev503 rfl
   have h8 := h8.evo ev503 rfl
   have h9 := h9.evo ev503 rfl
   have hb6 := hb6.evo ev503 rfl
   have hb55 := hb55.evo ev503 rfl
   refine WL.stepGE rfl rfl rfl hc496 (OW.pv (v := (.bool (((y498 == 1))))) rfl) rfl ?_
   refine WL.stepE (OW.pickT rfl hc496 rfl) rfl ?_
   refine WL.nil ?_
   have e506 := Option.some.inj q81
   obtain ⟨e507, e508⟩ := Prod.mk.inj e506
   subst e507 e508
   exact NK.sb (hJ84 w501 o502 hE h49 h50 h7 h70 h8 h9 hb6 hb55 hs) ⟨rfl, rfl, rfl, rfl, trivial⟩
  ·have q81 := iteF hc496 q81
   refine WL.skipG rfl rfl rfl (by rw [hc496]; rfl) rfl ?_
   refine WL.skipG rfl rfl rfl (by rw [hc496]; rfl) rfl ?_
   refine WL.skipG rfl rfl rfl (by rw [hc496]; rfl) rfl ?_
   refine WL.stepE (OW.pickF rfl hc496 rfl) rfl ?_
   refine WL.nil ?_
   have e509 := Option.some.inj q81
   obtain ⟨e510, e511⟩ := Prod.mk.inj e509
   subst e510 e511
   exact NK.sb (hJ84 w74 o75 hE h49 h50 h7 h70 h8 h9 hb6 hb55 hs) ⟨rfl, rfl, rfl, rfl, trivial⟩
 refine CW.sub (L' := [(0, .pointer (some ⟨sb, 0, none⟩)), (2, .pointer (some pa2)), (3, .pointer (some pa51)), (4, .int .i64 1)]) ⟨rfl, rfl, rfl, rfl, trivial⟩ ?_
 refine CW.loop (Src_Board_L1 y12) (fun s_ L_ w512 => ∃ (o513 : Cls) (x63 : Int) (x64 : (List Breaker)) (st67 : List Int) (v65 : Value), (x63, x64, st67) = s_ ∧ L_ = [(0, .pointer (some ⟨sb, 0, none⟩)), (2, .pointer (some pa2)), (3, .pointer (some pa51)), (4, .int .i64 x63)] ∧ En w0 e0 o513 w512 ∧ Ow 83 o513 110 [] w512 (.slice none 0 0) ([] : List Source) ∧ Ow 85 o513 111 [] w512 (.slice none 0 0) ([] : List Consumer) ∧ Ow 48 o513 109 [] w512 v65 x64 ∧ Ow 48 o513 101 [] w512 (.slice none 0 0) ([] : List Breaker) ∧ Ow 83 o513 102 [] w512 (.slice none 0 0) ([] : List Source) ∧ Ow 85 o513 103 [] w512 (.slice none 0 0) ([] : List Consumer) ∧ Bk o513 100 w512 pa2 [.int .i64 0, (.slice none 0 0), (.slice none 0 0), (.slice none 0 0), .int .i64 0, .int .i64 0] ∧ Bk o513 112 w512 pa51 [.int .i64 y12, v65, (.slice none 0 0), (.slice none 0 0), .int .i64 y26, .int .i64 y40] ∧ SrcC o513 1 w512 sb sv sL st67) hl72 ?_ ?_
 ·exact ⟨o52, 1, ([] : List Breaker), st41, (.slice none 0 0), rfl, rfl, hE, h49, h50, h48, h7, h8, h9, hb6, hb55, hs⟩
 intro K514 s_ L_ w512 hi_ x515 hx516 hr517 hk518
 obtain ⟨o513, x63, x64, st67, v65, rfl, rfl, hE, h49, h50, h66, h7, h8, h9, hb6, hb55, hs⟩ := hi_
 rw [Src_Board_L1] at hx516
 refine CW.seq fun K519 hK519 => ?_
 refine CW.sr fun K520 hK520 => ?_
 refine WL.p (.int .i64 x63) rfl rfl ?_
 refine WL.stepE (OW.fldAddr (FldOk.at f39_0) rfl) rfl ?_
 refine WL.stepE (OW.loadK (off := 0) Int (.int .i64 y12) ty3 rfl hb55 rfl rfl) rfl ?_
 refine WL.p (.bool ((decide (x63 < y12)))) rfl rfl ?_
 refine WL.nx hK520 ?_
 refine CW.cond (b := (decide (x63 < y12))) rfl (fun hc521 => ?_) (fun hc521 => ?_)
 ·have hx516 := iteT hc521 hx516
  refine CW.skip ?_
  refine hK519 _ _ ?_
  refine CW.seq fun K522 hK522 => ?_
  refine CW.block ?_
  refine CW.sr fun K523 hK523 => ?_
  refine WL.p (.pointer (some ⟨sb, 0, none⟩)) rfl rfl ?_
  have hm524 : MbOk o513 w512 0 [sb] [1] := ⟨.inl ⟨hs.1.lt, hs.2⟩, trivial⟩
  obtain ⟨⟨y525, st526⟩, q527, hx516⟩ := bindE hx516
  dsimp only at hx516
  refine WL.step (OW.call Try.call13 rfl (Src_N_ok q527 hs.1 (hL.baseM hE rfl) (hm524.sep rfl) (hm524.nodup rfl))) rfl ?_
  rintro _ w528 ⟨o532, hn_, rfl, hs⟩
  obtain ⟨o529, ev530, hA531⟩ := adopt (o := o513) (ks := [1]) (Ks := [[40]]) 116 ([]) [1, 116] hn_ hm524 rfl rfl rfl rfl
  have hs := hs.ad (c' := 1) hA531 rfl
  have hE := hE.evo ev530 rfl rfl
  have h49 := h49.evo ev530 rfl
  have h50 := h50.evo ev530 rfl
  have h66 := h66.evo ev530 rfl
  have h7 := h7.evo ev530 rfl
  have h8 := h8.evo ev530 rfl
  have h9 := h9.evo ev530 rfl
  have hb6 := hb6.evo ev530 rfl
  have hb55 := hb55.evo ev530 rfl
  refine WL.p (.bool ((decide (y525 < 5)))) rfl rfl ?_
  refine WL.nx hK523 ?_
  obtain ⟨z_, q537, hx516⟩ := bindE hx516
  obtain ⟨x533, st536⟩ := z_
  try dsimp only at hx516
  have hJ540 : ∀ (w538 : World) (o539 : Cls) (v534 : Value), En w0 e0 o539 w538 → Ow 83 o539 110 [] w538 (.slice none 0 0) ([] : List Source) → Ow 85 o539 111 [] w538 (.slice none 0 0) ([] : List Consumer) → Ow 48 o539 109 [] w538 v534 x533 → Ow 48 o539 101 [] w538 (.slice none 0 0) ([] : List Breaker) → Ow 83 o539 102 [] w538 (.slice none 0 0) ([] : List Source) → Ow 85 o539 103 [] w538 (.slice none 0 0) ([] : List Consumer) → Bk o539 100 w538 pa2 [.int .i64 0, (.slice none 0 0), (.slice none 0 0), (.slice none 0 0), .int .i64 0, .int .i64 0] → Bk o539 112 w538 pa51 [.int .i64 y12, v534, (.slice none 0 0), (.slice none 0 0), .int .i64 y26, .int .i64 y40] → SrcC o539 1 w538 sb sv sL st536 → NK 168 K522 [(0, .pointer (some ⟨sb, 0, none⟩)), (2, .pointer (some pa2)), (3, .pointer (some pa51)), (4, .int .i64 x63)] w538 := by
   intro w538 o539 v534 hE h49 h50 h535 h7 h8 h9 hb6 hb557 hs
   refine hK522 _ _ ?_
   refine CW.region ?_
   refine WL.p (.int .i64 x63) rfl rfl ?_
   refine WL.p (.int .i64 ((W (x63 + 1)))) rfl rfl ?_
   refine WL.p (.int .i64 ((W (x63 + 1)))) rfl rfl ?_
   refine WL.nil ?_
   exact NK.sb (hk518 _ _ _ (Option.some.inj hx516).symm ⟨o539, (W (x63 + 1)), x533, st536, v534, rfl, rfl, hE, h49, h50, h535, h7, h8, h9, hb6, hb557, hs⟩) ⟨rfl, rfl, rfl, rfl, trivial⟩
  refine CW.cond (b := (decide (y525 < 5))) rfl (fun hc541 => ?_) (fun hc541 => ?_)
  ·have q537 := iteT hc541 q537
   obtain ⟨⟨y543, st544⟩, q545, q537⟩ := bindE q537
   dsimp only at q537
   obtain ⟨y557, q558, q537⟩ := bindE q537
   have ev_ := Evo.drew o529 w528
   refine CW.anyS (N := [1, 109, 112, 117, 118]) hmix [sOw none (some 8) [] 48 109 [] (vk v65) x64, sBk none (some 10) [] 112 (vk pa51) (vk ([.int .i64 y12, v65, (.slice none 0 0), (.slice none 0 0), .int .i64 y26, .int .i64 y40])), sSr none (some 4) [] 1 sb sv sL st526, sSr (some 4) none [] 1 sb sv sL st544, sOw (some 7) none [7] 48 118 [] (vn 0) (([(⟨1, y543, x63⟩ : Breaker)] : List Breaker)), sOw (some 8) none [8] 48 109 [] (vn 0) y557, sBk (some 10) none [8] 112 (vk pa51) (fun x_ => [.int .i64 y12, (x_.getD 0 undef), (.slice none 0 0), (.slice none 0 0), .int .i64 y26, .int .i64 y40])] [⟨[], [], [], [], vk (.pointer (some (pa51.add 1))), false⟩, ⟨[], [1], [0], [], vk v65, false⟩, ⟨[], [], [], [], vk (.pointer (some ⟨sb, 0, none⟩)), false⟩, ⟨[], [], [], [], vk (.int .i64 x63), false⟩, ⟨[1], [2], [2, 3], [], vk (.int .i64 y543), false⟩, ⟨[], [], [], [], vk (.int .i64 x63), false⟩, ⟨[], [], rg 2 4, [], vk (.agg #[.int .i64 1, .int .i64 y543, .int .i64 x63]), false⟩, ⟨[], [], rg 2 5, [7], vn 0, false⟩, ⟨[109], [0, 4], rg 0 8, [8], vn 0, false⟩, ⟨[], [], rg 0 9, [], vk (.pointer (some (pa51.add 1))), false⟩, ⟨[112], [1, 5], rg 0 10, [], vk undef, false⟩] [1, 109, 112] hE rfl (by kernel_rfl) (by kernel_rfl) ⟨h66.evo ev_ rfl, hb55.evo ev_ rfl, hs.evo ev_ rfl, trivial⟩ ⟨?_, ?_, Ob.pv rfl rfl (fun _ => rfl) rfl (fun _ _ _ => trivial), Ob.pv rfl rfl (fun _ => rfl) rfl (fun _ _ _ => trivial), ?_, Ob.pv rfl rfl (fun _ => rfl) rfl (fun _ _ _ => trivial), ?_, ?_, ?_, ?_, ?_, trivial⟩ ?_
   ·intro vs567 o_ w_ hE 
    exact OW.q [(3, .pointer (some pa51))] ⟨rfl, trivial⟩ (OW.fldAddr (FldOk.at f39_1) rfl) (er rfl trivial)
   ·intro vs567 o_ w_ hE hb55
    have hb55 := tBk hb55
    exact OW.q [(30, .pointer (some (pa51.add 1)))] ⟨rfl, trivial⟩ (OW.loadK (off := 1) (List Breaker) (v65) ty35 rfl hb55 rfl rfl) (er rfl trivial)
   ·intro vs567 o_ w_ hE hs
    have hE := hE.1
    have hs := tSr hs
    have hm542 : MbOk o_ w_ 0 [sb] [1] := ⟨.inl ⟨hs.1.lt, hs.2⟩, trivial⟩
    refine OW.r [(32, .pointer (some ⟨sb, 0, none⟩)), (33, .int .i64 x63)] ⟨rfl, rfl, trivial⟩ (OW.call Try.call13 rfl (Src_N_ok q545 hs.1 (hL.baseM hE rfl) (hm542.sep rfl) (hm542.nodup rfl))) ?_
    rintro _ w546 ⟨o550, hn_, rfl, hs551⟩
    obtain ⟨o547, ev548, hA549⟩ := adopt (o := o_) (ks := [1]) (Ks := [[40]]) 117 ([]) [1, 117] hn_ hm542 rfl rfl rfl rfl
    have hs551 := hs551.ad (c' := 1) hA549 rfl
    exact ⟨o547, ev548.sub rfl rfl, rfl, hs551, trivial⟩
   ·intro vs567 o_ w_ hE 
    exact OW.q [(34, .int .i64 y543), (35, .int .i64 x63)] ⟨rfl, rfl, trivial⟩ (OW.buildK Breaker [(0, [.int .i64 1]), (1, [.int .i64 y543]), (2, [.int .i64 x63])] [.int .i64 1, .int .i64 y543, .int .i64 x63] st48 ty48 rfl ⟨rfl, rfl, rfl, rfl, rfl, rfl, trivial⟩ rfl) (er rfl trivial)
   ·intro vs567 o_ w_ hE 
    refine OW.r [(36, .agg #[.int .i64 1, .int .i64 y543, .int .i64 x63])] ⟨rfl, trivial⟩ (OW.buildSlice (o := o_) (k := 118) (K := []) (xs := ([(⟨1, y543, x63⟩ : Breaker)] : List Breaker)) Try.underlying35 ty48 rfl ⟨(mk48 (x := (⟨1, y543, x63⟩ : Breaker))), trivial⟩ rfl rfl) ?_
    rintro v552 w553 ⟨o554, ev555, h556⟩
    exact ⟨o554, ev555.sub rfl rfl, rfl, h556, trivial⟩
   ·intro vs567 o_ w_ hE h66 h556
    have h66 := tOw h66
    have h556 := tOw h556
    refine OW.r [(31, v65), (37, (vs567 7))] ⟨rfl, rfl, trivial⟩ (OW.append (K := []) Try.underlying35 ty48 rfl rfl h66 h556.els.flat q558 rfl) ?_
    rintro v559 w560 ⟨o561, ev562, h563⟩
    exact ⟨o561, ev562.sub rfl rfl, rfl, h563, trivial⟩
   ·intro vs567 o_ w_ hE 
    exact OW.q [(3, .pointer (some pa51))] ⟨rfl, trivial⟩ (OW.fldAddr (FldOk.at f39_1) rfl) (er rfl trivial)
   ·intro vs567 o_ w_ hE hb55 h563
    have hb55 := tBk hb55
    have h563 := tOw h563
    refine OW.r [(38, (vs567 8)), (39, .pointer (some (pa51.add 1)))] ⟨rfl, rfl, trivial⟩ (OW.storeK (off := 1) (List Breaker) [.int .i64 y12, (vs567 8), (.slice none 0 0), (.slice none 0 0), .int .i64 y26, .int .i64 y40] [(vs567 8)] ty35 rfl rfl hb55 (cells_one (h563.one)) ⟨(h563.one), trivial⟩ rfl rfl rfl) ?_
    rintro _ w564 ⟨ev565, hb566⟩
    exact ⟨o_, ev565.sub rfl rfl, trivial, hb566, trivial⟩
   ·intro vs567 o569 w568 hE hs551 h556 h563 hb566
    obtain ⟨hE, evT_⟩ := hE
    have hs551 : SrcC o569 1 w568 sb sv sL st544 := hs551
    have h556 : Ow 48 o569 118 [] w568 (vs567 7) (([(⟨1, y543, x63⟩ : Breaker)] : List Breaker)) := h556
    have h563 : Ow 48 o569 109 [] w568 (vs567 8) y557 := h563
    have hb566 : Bk o569 112 w568 pa51 [.int .i64 y12, (vs567 8), (.slice none 0 0), (.slice none 0 0), .int .i64 y26, .int .i64 y40] := hb566
    have h49 := h49.evo evT_ rfl
    have h50 := h50.evo evT_ rfl
    have h7 := h7.evo evT_ rfl
    have h8 := h8.evo evT_ rfl
    have h9 := h9.evo evT_ rfl
    have hb6 := hb6.evo evT_ rfl
    have e570 := Option.some.inj q537
    obtain ⟨e571, e572⟩ := Prod.mk.inj e570
    subst e571 e572
    exact NK.sb (hJ540 w568 o569 (vs567 8) hE h49 h50 h563 h7 h8 h9 hb6 hb566 hs551) ⟨rfl, rfl, rfl, rfl, trivial⟩
  ·have q537 := iteF hc541 q537
   refine CW.skip ?_
   have e573 := Option.some.inj q537
   obtain ⟨e574, e575⟩ := Prod.mk.inj e573
   subst e574 e575
   exact NK.sb (hJ540 w528 o529 v65 hE h49 h50 h66 h7 h8 h9 hb6 hb55 hs) ⟨rfl, rfl, rfl, rfl, trivial⟩
 ·have hx516 := iteF hc521 hx516
  refine CW.exit ?_
  exact NK.sb (hJ76 x64 st67 w512 o513 v65 (hr517 _ (Option.some.inj hx516).symm) hE h49 h50 h7 h66 h8 h9 hb6 hb55 hs) ⟨rfl, rfl, rfl, trivial⟩

end Go.Proofs.Ytnpghnnlcakbfaa
