/- Walks. Written by a program (wip/gen). -/
import Derived.Test.YtnpghnnlcakbfaaHw
import Derived.Test.YtnpghnnlcakbfaaWk1
import Derived.Test.YtnpghnnlcakbfaaWk3
set_option linter.unusedVariables false
set_option linter.unusedSimpArgs false
namespace Go.Proofs.Ytnpghnnlcakbfaa
open Go Go.RowKit Dp

set_option maxRecDepth 100000

set_option maxHeartbeats 16000000 in
theorem Src_Power_ok {st0 : List Int} {a1 : Board} {r : (Power × List Int)} (hF : Src_Power st0 a1 = some r) {w0 : World} {sb : Nat} {sv : Value} {sL : List Int} {Ss : Nat → Prop} (hs : SrcB w0 sb sv sL st0) (hL : Rv Ss w0 sv sL) (hLn : ∀ b, b < w0.heap.size → Ss b → b ∉ [sb]) {p1 : Value} {S1 : Nat → Prop} (g1 : Rv S1 w0 p1 a1) (n1 : ∀ b, b < w0.heap.size → S1 b → b ∉ [sb]) (hmb : [sb].Nodup) :
    Calls Try.prog 18 #[.pointer (some ⟨sb, 0, none⟩), p1] w0 (Ret fun v w' => ∃ (oc : Cls) (x0_0 : Value) (x0_1 : Value) (x0_2 : Value) (x0_3 : Value), En w0 (entM w0 [sb] [Ss, S1]) oc w' ∧ v = .agg #[x0_0, x0_1, x0_2, x0_3] ∧ Ow 4 oc 100 [] w' x0_0 r.1.Closed ∧ Ow 64 oc 101 [] w' x0_1 r.1.Sources ∧ Ow 3 oc 102 [] w' x0_2 r.1.Limits ∧ Ow 66 oc 103 [] w' x0_3 r.1.Broken ∧ SrcC oc 1 w' sb sv sL r.2) := by
 obtain ⟨e0, he0⟩ : ∃ e0, e0 = entM w0 [sb] [Ss, S1] := ⟨_, rfl⟩
 have hE := En.refl w0 e0
 have hs := hs.inM he0 hmb 0 rfl
 have hL := hL.argM he0 0 (K := [40]) rfl hLn rfl
 have g1 := g1.argM he0 1 (K := [40, 41]) rfl n1 rfl
 obtain ⟨u1, u2, u3, rfl, h4, h5, h6⟩ := op39 g1
 rw [Src_Power] at hF
 refine enter (l := [.pointer (some ⟨sb, 0, none⟩), .agg #[.int .i64 a1.Buses, u1, u2, u3, .int .i64 a1.Phase, .int .i64 a1.Frequency]]) Try.func18 rfl Try.ntmps18 rfl ?_
 refine CW.sub (L' := [(0, .pointer (some ⟨sb, 0, none⟩)), (1, .agg #[.int .i64 a1.Buses, u1, u2, u3, .int .i64 a1.Phase, .int .i64 a1.Frequency])]) ⟨rfl, rfl, trivial⟩ ?_
 refine CW.sr fun K7 hK7 => ?_
 refine WL.step (OW.boxK (o := e0) 100 [.int .i64 a1.Buses, u1, u2, u3, .int .i64 a1.Phase, .int .i64 a1.Frequency] rfl rfl) rfl ?_
 rintro _ w10 ⟨pa8, o9, rfl, ev11, hb12⟩
 have hE := hE.evo ev11 rfl rfl
 have hs := hs.evo ev11 rfl
 refine WL.step (OW.allocK (o := o9) Power 101 [.slice none 0 0, .slice none 0 0, .slice none 0 0, .slice none 0 0] ty45 rfl) rfl ?_
 rintro _ w15 ⟨pa13, o14, rfl, ev16, hb17⟩
 have hE := hE.evo ev16 rfl rfl
 have hb12 := hb12.evo ev16 rfl
 have hs := hs.evo ev16 rfl
 have h18 := Ow.nil (α := Bool) 4 o14 102 [] w15
 have h19 := Ow.nil (α := Running) 64 o14 103 [] w15
 have h20 := Ow.nil (α := Int) 3 o14 104 [] w15
 have h21 := Ow.nil (α := Part) 66 o14 105 [] w15
 refine WL.nx hK7 ?_
 refine CW.sr fun K22 hK22 => ?_
 refine WL.step (OW.allocK (o := o14) Power 106 [.slice none 0 0, .slice none 0 0, .slice none 0 0, .slice none 0 0] ty45 rfl) rfl ?_
 rintro _ w25 ⟨pa23, o24, rfl, ev26, hb27⟩
 have hE := hE.evo ev26 rfl rfl
 have h18 := h18.evo ev26 rfl
 have h19 := h19.evo ev26 rfl
 have h20 := h20.evo ev26 rfl
 have h21 := h21.evo ev26 rfl
 have hb17 := hb17.evo ev26 rfl
 have hb12 := hb12.evo ev26 rfl
 have hs := hs.evo ev26 rfl
 have h28 := Ow.nil (α := Bool) 4 o24 107 [] w25
 have h29 := Ow.nil (α := Running) 64 o24 108 [] w25
 have h30 := Ow.nil (α := Int) 3 o24 109 [] w25
 have h31 := Ow.nil (α := Part) 66 o24 110 [] w25
 refine WL.nx hK22 ?_
 refine CW.seq fun K32 hK32 => ?_
 refine CW.sr fun K33 hK33 => ?_
 refine WL.stepE (OW.fldAddr (FldOk.at f39_1) rfl) rfl ?_
 refine WL.stepE (OW.loadK (off := 1) (List Breaker) (u1) ty35 rfl hb12 rfl rfl) rfl ?_
 refine WL.stepE (OW.len Try.underlying35 rfl (h4.baseM hE rfl)) rfl ?_
 refine WL.p (.int .i64 0) rfl rfl ?_
 refine WL.nx hK33 ?_
 refine CW.block ?_
 obtain ⟨r44, hl43, hF⟩ := bindE hF
 have hJ47 : ∀ (x39 : (List Bool)) (st42 : List Int) (w45 : World) (o46 : Cls) (v40 : Value), (x39, st42) = r44 → En w0 e0 o46 w45 → Ow 4 o46 102 [] w45 (.slice none 0 0) ([] : List Bool) → Ow 64 o46 103 [] w45 (.slice none 0 0) ([] : List Running) → Ow 3 o46 104 [] w45 (.slice none 0 0) ([] : List Int) → Ow 66 o46 105 [] w45 (.slice none 0 0) ([] : List Part) → Ow 64 o46 108 [] w45 (.slice none 0 0) ([] : List Running) → Ow 3 o46 109 [] w45 (.slice none 0 0) ([] : List Int) → Ow 66 o46 110 [] w45 (.slice none 0 0) ([] : List Part) → Ow 4 o46 107 [] w45 v40 x39 → Bk o46 101 w45 pa13 [(.slice none 0 0), (.slice none 0 0), (.slice none 0 0), (.slice none 0 0)] → Bk o46 106 w45 pa23 [v40, (.slice none 0 0), (.slice none 0 0), (.slice none 0 0)] → Bk o46 100 w45 pa8 [.int .i64 a1.Buses, u1, u2, u3, .int .i64 a1.Phase, .int .i64 a1.Frequency] → SrcC o46 1 w45 sb sv sL st42 → NK 134 K32 [(0, .pointer (some ⟨sb, 0, none⟩)), (3, .pointer (some pa8)), (4, .pointer (some pa13)), (5, .pointer (some pa23))] w45 := by
  intro x39 st42 w45 o46 v40 e_ hE h18 h19 h20 h21 h29 h30 h31 h41 hb17 hb27 hb12 hs
  subst e_
  try dsimp only at hF
  refine hK32 _ _ ?_
  refine CW.seq fun K48 hK48 => ?_
  refine CW.sr fun K49 hK49 => ?_
  refine WL.stepE (OW.fldAddr (FldOk.at f39_3) rfl) rfl ?_
  refine WL.stepE (OW.loadK (off := 3) (List Consumer) (u3) ty37 rfl hb12 rfl rfl) rfl ?_
  refine WL.stepE (OW.len Try.underlying37 rfl (h6.baseM hE rfl)) rfl ?_
  refine WL.p (.int .i64 0) rfl rfl ?_
  refine WL.nx hK49 ?_
  refine CW.block ?_
  obtain ⟨r58, hl57, hF⟩ := bindE hF
  have hJ61 : ∀ (x54 : (List Bool)) (w59 : World) (o60 : Cls) (v55 : Value), x54 = r58 → En w0 e0 o60 w59 → Ow 4 o60 102 [] w59 (.slice none 0 0) ([] : List Bool) → Ow 64 o60 103 [] w59 (.slice none 0 0) ([] : List Running) → Ow 3 o60 104 [] w59 (.slice none 0 0) ([] : List Int) → Ow 66 o60 105 [] w59 (.slice none 0 0) ([] : List Part) → Ow 64 o60 108 [] w59 (.slice none 0 0) ([] : List Running) → Ow 3 o60 109 [] w59 (.slice none 0 0) ([] : List Int) → Ow 66 o60 110 [] w59 (.slice none 0 0) ([] : List Part) → Ow 4 o60 107 [] w59 v55 x54 → Bk o60 101 w59 pa13 [(.slice none 0 0), (.slice none 0 0), (.slice none 0 0), (.slice none 0 0)] → Bk o60 106 w59 pa23 [v55, (.slice none 0 0), (.slice none 0 0), (.slice none 0 0)] → Bk o60 100 w59 pa8 [.int .i64 a1.Buses, u1, u2, u3, .int .i64 a1.Phase, .int .i64 a1.Frequency] → SrcC o60 1 w59 sb sv sL st42 → NK 134 K48 [(0, .pointer (some ⟨sb, 0, none⟩)), (3, .pointer (some pa8)), (4, .pointer (some pa13)), (5, .pointer (some pa23))] w59 := by
   intro x54 w59 o60 v55 e_ hE h18 h19 h20 h21 h29 h30 h31 h56 hb17 hb27 hb12 hs
   subst e_
   try dsimp only at hF
   refine hK48 _ _ ?_
   refine CW.seq fun K62 hK62 => ?_
   refine CW.sr fun K63 hK63 => ?_
   refine WL.stepE (OW.fldAddr (FldOk.at f39_2) rfl) rfl ?_
   refine WL.stepE (OW.loadK (off := 2) (List Source) (u2) ty36 rfl hb12 rfl rfl) rfl ?_
   refine WL.stepE (OW.len Try.underlying36 rfl (h5.baseM hE rfl)) rfl ?_
   refine WL.p (.int .i64 0) rfl rfl ?_
   refine WL.nx hK63 ?_
   refine CW.block ?_
   obtain ⟨r74, hl73, hF⟩ := bindE hF
   have hJ77 : ∀ (x69 : (List Running)) (st72 : List Int) (w75 : World) (o76 : Cls) (v70 : Value), (x69, st72) = r74 → En w0 e0 o76 w75 → Ow 4 o76 102 [] w75 (.slice none 0 0) ([] : List Bool) → Ow 64 o76 103 [] w75 (.slice none 0 0) ([] : List Running) → Ow 3 o76 104 [] w75 (.slice none 0 0) ([] : List Int) → Ow 66 o76 105 [] w75 (.slice none 0 0) ([] : List Part) → Ow 3 o76 109 [] w75 (.slice none 0 0) ([] : List Int) → Ow 66 o76 110 [] w75 (.slice none 0 0) ([] : List Part) → Ow 4 o76 107 [] w75 v55 x54 → Ow 64 o76 108 [] w75 v70 x69 → Bk o76 101 w75 pa13 [(.slice none 0 0), (.slice none 0 0), (.slice none 0 0), (.slice none 0 0)] → Bk o76 106 w75 pa23 [v55, v70, (.slice none 0 0), (.slice none 0 0)] → Bk o76 100 w75 pa8 [.int .i64 a1.Buses, u1, u2, u3, .int .i64 a1.Phase, .int .i64 a1.Frequency] → SrcC o76 1 w75 sb sv sL st72 → NK 134 K62 [(0, .pointer (some ⟨sb, 0, none⟩)), (3, .pointer (some pa8)), (4, .pointer (some pa13)), (5, .pointer (some pa23))] w75 := by
    intro x69 st72 w75 o76 v70 e_ hE h18 h19 h20 h21 h30 h31 h56 h71 hb17 hb27 hb12 hs
    subst e_
    try dsimp only at hF
    refine hK62 _ _ ?_
    refine CW.seq fun K78 hK78 => ?_
    refine CW.sr fun K79 hK79 => ?_
    refine WL.stepE (OW.fldAddr (FldOk.at f39_3) rfl) rfl ?_
    refine WL.stepE (OW.loadK (off := 3) (List Consumer) (u3) ty37 rfl hb12 rfl rfl) rfl ?_
    refine WL.stepE (OW.len Try.underlying37 rfl (h6.baseM hE rfl)) rfl ?_
    refine WL.p (.int .i64 0) rfl rfl ?_
    refine WL.nx hK79 ?_
    refine CW.block ?_
    obtain ⟨r90, hl89, hF⟩ := bindE hF
    have hJ93 : ∀ (x85 : (List Int)) (st88 : List Int) (w91 : World) (o92 : Cls) (v86 : Value), (x85, st88) = r90 → En w0 e0 o92 w91 → Ow 4 o92 102 [] w91 (.slice none 0 0) ([] : List Bool) → Ow 64 o92 103 [] w91 (.slice none 0 0) ([] : List Running) → Ow 3 o92 104 [] w91 (.slice none 0 0) ([] : List Int) → Ow 66 o92 105 [] w91 (.slice none 0 0) ([] : List Part) → Ow 66 o92 110 [] w91 (.slice none 0 0) ([] : List Part) → Ow 4 o92 107 [] w91 v55 x54 → Ow 64 o92 108 [] w91 v70 x69 → Ow 3 o92 109 [] w91 v86 x85 → Bk o92 101 w91 pa13 [(.slice none 0 0), (.slice none 0 0), (.slice none 0 0), (.slice none 0 0)] → Bk o92 106 w91 pa23 [v55, v70, v86, (.slice none 0 0)] → Bk o92 100 w91 pa8 [.int .i64 a1.Buses, u1, u2, u3, .int .i64 a1.Phase, .int .i64 a1.Frequency] → SrcC o92 1 w91 sb sv sL st88 → NK 134 K78 [(0, .pointer (some ⟨sb, 0, none⟩)), (3, .pointer (some pa8)), (4, .pointer (some pa13)), (5, .pointer (some pa23))] w91 := by
     intro x85 st88 w91 o92 v86 e_ hE h18 h19 h20 h21 h31 h56 h71 h87 hb17 hb27 hb12 hs
     subst e_
     try dsimp only at hF
     refine hK78 _ _ ?_
     refine CW.seq fun K94 hK94 => ?_
     refine CW.sr fun K95 hK95 => ?_
     refine WL.p (.int .i64 1) rfl rfl ?_
     refine WL.nx hK95 ?_
     refine CW.block ?_
     obtain ⟨r106, hl105, hF⟩ := bindE hF
     have hJ109 : ∀ (x101 : (List Part)) (st104 : List Int) (w107 : World) (o108 : Cls) (v102 : Value), (x101, st104) = r106 → En w0 e0 o108 w107 → Ow 66 o108 110 [] w107 v102 x101 → Ow 4 o108 102 [] w107 (.slice none 0 0) ([] : List Bool) → Ow 64 o108 103 [] w107 (.slice none 0 0) ([] : List Running) → Ow 3 o108 104 [] w107 (.slice none 0 0) ([] : List Int) → Ow 66 o108 105 [] w107 (.slice none 0 0) ([] : List Part) → Ow 4 o108 107 [] w107 v55 x54 → Ow 64 o108 108 [] w107 v70 x69 → Ow 3 o108 109 [] w107 v86 x85 → Bk o108 101 w107 pa13 [(.slice none 0 0), (.slice none 0 0), (.slice none 0 0), (.slice none 0 0)] → Bk o108 106 w107 pa23 [v55, v70, v86, v102] → SrcC o108 1 w107 sb sv sL st104 → NK 134 K94 [(0, .pointer (some ⟨sb, 0, none⟩)), (4, .pointer (some pa13)), (5, .pointer (some pa23))] w107 := by
      intro x101 st104 w107 o108 v102 e_ hE h103 h18 h19 h20 h21 h56 h71 h87 hb17 hb27 hs
      subst e_
      try dsimp only at hF
      refine hK94 _ _ ?_
      refine CW.sr fun K110 hK110 => ?_
      refine WL.stepE (OW.loadK0 Power (.agg #[v55, v70, v86, v102]) ty45 rfl hb27 rfl rfl) rfl ?_
      refine WL.step0 (OW.storeK0 Power [v55, v70, v86, v102] [v55, v70, v86, v102] ty45 rfl rfl hb17 rfl ⟨(h56.one), (h71.one), (h87.one), (h103.one), trivial⟩ rfl rfl rfl) ?_
      rintro _ w111 ⟨ev112, hb17⟩
      have hE := hE.evo ev112 rfl rfl
      have h103 := h103.evo ev112 rfl
      have h56 := h56.evo ev112 rfl
      have h71 := h71.evo ev112 rfl
      have h87 := h87.evo ev112 rfl
      have hs := hs.evo ev112 rfl
      refine WL.nx hK110 ?_
      obtain rfl := Option.some.inj hF
      exact CW.rets (vs := [.agg #[v55, v70, v86, v102]]) Try.results18 ⟨ResIs.bk Power (.agg #[v55, v70, v86, v102]) ty45 rfl hb17 rfl rfl, trivial⟩ ⟨_, rfl, _, (v55), (v70), (v86), (v102), (hE.rn he0 104 [(107, 100), (108, 101), (109, 102), (110, 103)] rfl rfl), rfl, (h56.rn (c' := 100) (K' := []) rfl rfl), (h71.rn (c' := 101) (K' := []) rfl rfl), (h87.rn (c' := 102) (K' := []) rfl rfl), (h103.rn (c' := 103) (K' := []) rfl rfl), (hs.rn (c' := 1) rfl)⟩ (fun _ _ h => h)
     refine CW.sub (L' := [(0, .pointer (some ⟨sb, 0, none⟩)), (3, .pointer (some pa8)), (4, .pointer (some pa13)), (5, .pointer (some pa23)), (12, .int .i64 1)]) ⟨rfl, rfl, rfl, rfl, rfl, trivial⟩ ?_
     refine CW.loop (Src_Power_L5 a1) (fun s_ L_ w113 => ∃ (o114 : Cls) (x96 : Int) (x97 : (List Part)) (st100 : List Int) (v98 : Value), (x96, x97, st100) = s_ ∧ L_ = [(0, .pointer (some ⟨sb, 0, none⟩)), (3, .pointer (some pa8)), (4, .pointer (some pa13)), (5, .pointer (some pa23)), (12, .int .i64 x96)] ∧ En w0 e0 o114 w113 ∧ Ow 4 o114 102 [] w113 (.slice none 0 0) ([] : List Bool) ∧ Ow 64 o114 103 [] w113 (.slice none 0 0) ([] : List Running) ∧ Ow 3 o114 104 [] w113 (.slice none 0 0) ([] : List Int) ∧ Ow 66 o114 105 [] w113 (.slice none 0 0) ([] : List Part) ∧ Ow 4 o114 107 [] w113 v55 x54 ∧ Ow 64 o114 108 [] w113 v70 x69 ∧ Ow 3 o114 109 [] w113 v86 x85 ∧ Ow 66 o114 110 [] w113 v98 x97 ∧ Bk o114 101 w113 pa13 [(.slice none 0 0), (.slice none 0 0), (.slice none 0 0), (.slice none 0 0)] ∧ Bk o114 106 w113 pa23 [v55, v70, v86, v98] ∧ Bk o114 100 w113 pa8 [.int .i64 a1.Buses, u1, u2, u3, .int .i64 a1.Phase, .int .i64 a1.Frequency] ∧ SrcC o114 1 w113 sb sv sL st100) hl105 ?_ ?_
     ·exact ⟨o92, 1, ([] : List Part), st88, (.slice none 0 0), rfl, rfl, hE, h18, h19, h20, h21, h56, h71, h87, h31, hb17, hb27, hb12, hs⟩
     intro K115 s_ L_ w113 hi_ x116 hx117 hr118 hk119
     obtain ⟨o114, x96, x97, st100, v98, rfl, rfl, hE, h18, h19, h20, h21, h56, h71, h87, h99, hb17, hb27, hb12, hs⟩ := hi_
     rw [Src_Power_L5] at hx117
     refine CW.seq fun K120 hK120 => ?_
     refine CW.sr fun K121 hK121 => ?_
     refine WL.p (.int .i64 x96) rfl rfl ?_
     refine WL.p (.bool ((decide (x96 ≤ 4)))) rfl rfl ?_
     refine WL.nx hK121 ?_
     refine CW.cond (b := (decide (x96 ≤ 4))) rfl (fun hc122 => ?_) (fun hc122 => ?_)
     ·have hx117 := iteT hc122 hx117
      refine CW.skip ?_
      refine hK120 _ _ ?_
      refine CW.seq fun K123 hK123 => ?_
      refine CW.block ?_
      refine CW.sr fun K124 hK124 => ?_
      refine WL.p (.pointer (some ⟨sb, 0, none⟩)) rfl rfl ?_
      have hm125 : MbOk o114 w113 0 [sb] [1] := ⟨.inl ⟨hs.1.lt, hs.2⟩, trivial⟩
      obtain ⟨⟨y126, st127⟩, q128, hx117⟩ := bindE hx117
      dsimp only at hx117
      refine WL.step (OW.call Try.call13 rfl (Src_N_ok q128 hs.1 (hL.baseM hE rfl) (hm125.sep rfl) (hm125.nodup rfl))) rfl ?_
      rintro _ w129 ⟨o133, hn_, rfl, hs⟩
      obtain ⟨o130, ev131, hA132⟩ := adopt (o := o114) (ks := [1]) (Ks := [[40]]) 127 ([]) [1, 127] hn_ hm125 rfl rfl rfl rfl
      have hs := hs.ad (c' := 1) hA132 rfl
      have hE := hE.evo ev131 rfl rfl
      have h18 := h18.evo ev131 rfl
      have h19 := h19.evo ev131 rfl
      have h20 := h20.evo ev131 rfl
      have h21 := h21.evo ev131 rfl
      have h56 := h56.evo ev131 rfl
      have h71 := h71.evo ev131 rfl
      have h87 := h87.evo ev131 rfl
      have h99 := h99.evo ev131 rfl
      have hb17 := hb17.evo ev131 rfl
      have hb27 := hb27.evo ev131 rfl
      have hb12 := hb12.evo ev131 rfl
      refine WL.p (.bool (((y126 == 4)))) rfl rfl ?_
      refine WL.nx hK124 ?_
      obtain ⟨z_, q138, hx117⟩ := bindE hx117
      obtain ⟨x134, st137⟩ := z_
      try dsimp only at hx117
      have hJ141 : ∀ (w139 : World) (o140 : Cls) (v135 : Value), En w0 e0 o140 w139 → Ow 66 o140 110 [] w139 v135 x134 → Ow 4 o140 102 [] w139 (.slice none 0 0) ([] : List Bool) → Ow 64 o140 103 [] w139 (.slice none 0 0) ([] : List Running) → Ow 3 o140 104 [] w139 (.slice none 0 0) ([] : List Int) → Ow 66 o140 105 [] w139 (.slice none 0 0) ([] : List Part) → Ow 4 o140 107 [] w139 v55 x54 → Ow 64 o140 108 [] w139 v70 x69 → Ow 3 o140 109 [] w139 v86 x85 → Bk o140 101 w139 pa13 [(.slice none 0 0), (.slice none 0 0), (.slice none 0 0), (.slice none 0 0)] → Bk o140 106 w139 pa23 [v55, v70, v86, v135] → Bk o140 100 w139 pa8 [.int .i64 a1.Buses, u1, u2, u3, .int .i64 a1.Phase, .int .i64 a1.Frequency] → SrcC o140 1 w139 sb sv sL st137 → NK 134 K123 [(0, .pointer (some ⟨sb, 0, none⟩)), (3, .pointer (some pa8)), (4, .pointer (some pa13)), (5, .pointer (some pa23)), (12, .int .i64 x96)] w139 := by
       intro w139 o140 v135 hE h136 h18 h19 h20 h21 h56 h71 h87 hb17 hb27 hb12 hs
       refine hK123 _ _ ?_
       refine CW.region ?_
       refine WL.p (.int .i64 x96) rfl rfl ?_
       refine WL.p (.int .i64 ((W (x96 + 1)))) rfl rfl ?_
       refine WL.p (.int .i64 ((W (x96 + 1)))) rfl rfl ?_
       refine WL.nil ?_
       exact NK.sb (hk119 _ _ _ (Option.some.inj hx117).symm ⟨o140, (W (x96 + 1)), x134, st137, v135, rfl, rfl, hE, h18, h19, h20, h21, h56, h71, h87, h136, hb17, hb27, hb12, hs⟩) ⟨rfl, rfl, rfl, rfl, rfl, trivial⟩
      refine CW.cond (b := ((y126 == 4))) rfl (fun hc142 => ?_) (fun hc142 => ?_)
      ·have q138 := iteT hc142 q138
       refine CW.sr fun K143 hK143 => ?_
       refine WL.p (.int .i64 x96) rfl rfl ?_
       refine WL.p (.pointer (some ⟨sb, 0, none⟩)) rfl rfl ?_
       have hm144 : MbOk o130 w129 0 [sb] [1] := ⟨.inl ⟨hs.1.lt, hs.2⟩, trivial⟩
       obtain ⟨⟨y145, st146⟩, q147, q138⟩ := bindE q138
       dsimp only at q138
       refine WL.step (OW.call Try.call13 rfl (Src_N_ok q147 hs.1 (hL.baseM hE rfl) (hm144.sep rfl) (hm144.nodup rfl))) rfl ?_
       rintro _ w148 ⟨o152, hn_, rfl, hs⟩
       obtain ⟨o149, ev150, hA151⟩ := adopt (o := o130) (ks := [1]) (Ks := [[40]]) 128 ([]) [1, 128] hn_ hm144 rfl rfl rfl rfl
       have hs := hs.ad (c' := 1) hA151 rfl
       have hE := hE.evo ev150 rfl rfl
       have h18 := h18.evo ev150 rfl
       have h19 := h19.evo ev150 rfl
       have h20 := h20.evo ev150 rfl
       have h21 := h21.evo ev150 rfl
       have h56 := h56.evo ev150 rfl
       have h71 := h71.evo ev150 rfl
       have h87 := h87.evo ev150 rfl
       have h99 := h99.evo ev150 rfl
       have hb17 := hb17.evo ev150 rfl
       have hb27 := hb27.evo ev150 rfl
       have hb12 := hb12.evo ev150 rfl
       refine WL.stepE (OW.buildK Part [(0, [.int .i64 x96]), (1, [.int .i64 y145])] [.int .i64 x96, .int .i64 y145] st66 ty66 rfl ⟨rfl, rfl, rfl, rfl, trivial⟩ rfl) rfl ?_
       refine WL.step (OW.allocK (o := o149) Part 129 [.int .i64 0, .int .i64 0] ty66 rfl) rfl ?_
       rintro _ w155 ⟨pa153, o154, rfl, ev156, hb157⟩
       have hE := hE.evo ev156 rfl rfl
       have h18 := h18.evo ev156 rfl
       have h19 := h19.evo ev156 rfl
       have h20 := h20.evo ev156 rfl
       have h21 := h21.evo ev156 rfl
       have h56 := h56.evo ev156 rfl
       have h71 := h71.evo ev156 rfl
       have h87 := h87.evo ev156 rfl
       have h99 := h99.evo ev156 rfl
       have hb17 := hb17.evo ev156 rfl
       have hb27 := hb27.evo ev156 rfl
       have hb12 := hb12.evo ev156 rfl
       have hs := hs.evo ev156 rfl
       refine WL.step0 (OW.storeK0 Part [.int .i64 x96, .int .i64 y145] [.int .i64 x96, .int .i64 y145] ty66 rfl rfl hb157 rfl ⟨rfl, rfl, trivial⟩ rfl rfl rfl) ?_
       rintro _ w158 ⟨ev159, hb157⟩
       have hE := hE.evo ev159 rfl rfl
       have h18 := h18.evo ev159 rfl
       have h19 := h19.evo ev159 rfl
       have h20 := h20.evo ev159 rfl
       have h21 := h21.evo ev159 rfl
       have h56 := h56.evo ev159 rfl
       have h71 := h71.evo ev159 rfl
       have h87 := h87.evo ev159 rfl
       have h99 := h99.evo ev159 rfl
       have hb17 := hb17.evo ev159 rfl
       have hb27 := hb27.evo ev159 rfl
       have hb12 := hb12.evo ev159 rfl
       have hs := hs.evo ev159 rfl
       refine WL.nx hK143 ?_
       refine CW.sr fun K160 hK160 => ?_
       refine WL.stepE (OW.loadK0 Board (.agg #[.int .i64 a1.Buses, u1, u2, u3, .int .i64 a1.Phase, .int .i64 a1.Frequency]) ty39 rfl hb12 rfl rfl) rfl ?_
       refine WL.stepE (OW.loadK0 Part (.agg #[.int .i64 x96, .int .i64 y145]) ty66 rfl hb157 rfl rfl) rfl ?_
       obtain ⟨y161, q162, q138⟩ := bindE q138
       refine WL.step (OW.call Try.call50 rfl (dynposref15_Exists_ok q162 (mk39 (x := a1) (h4.baseM hE rfl) (h5.baseM hE rfl) (h6.baseM hE rfl)) (mk66 (S := In o154 []) (x := (⟨x96, y145⟩ : Part))))) rfl ?_
       rintro _ w163 ⟨o167, hn_, rfl⟩
       obtain ⟨o164, ev165, hA166⟩ := adopt (o := o154) (ks := []) (Ks := [[40, 41], []]) 130 ([]) [130] hn_ MbOk.nil rfl rfl rfl rfl
       have hE := hE.evo ev165 rfl rfl
       have h18 := h18.evo ev165 rfl
       have h19 := h19.evo ev165 rfl
       have h20 := h20.evo ev165 rfl
       have h21 := h21.evo ev165 rfl
       have h56 := h56.evo ev165 rfl
       have h71 := h71.evo ev165 rfl
       have h87 := h87.evo ev165 rfl
       have h99 := h99.evo ev165 rfl
       have hb17 := hb17.evo ev165 rfl
       have hb157 := hb157.evo ev165 rfl
       have hb27 := hb27.evo ev165 rfl
       have hb12 := hb12.evo ev165 rfl
       have hs := hs.evo ev165 rfl
       refine WL.nx hK160 ?_
       obtain ⟨x168, q171, q138⟩ := bindE q138
       have hJ174 : ∀ (w172 : World) (o173 : Cls) (v169 : Value), En w0 e0 o173 w172 → Ow 66 o173 110 [] w172 v169 x168 → Ow 4 o173 102 [] w172 (.slice none 0 0) ([] : List Bool) → Ow 64 o173 103 [] w172 (.slice none 0 0) ([] : List Running) → Ow 3 o173 104 [] w172 (.slice none 0 0) ([] : List Int) → Ow 66 o173 105 [] w172 (.slice none 0 0) ([] : List Part) → Ow 4 o173 107 [] w172 v55 x54 → Ow 64 o173 108 [] w172 v70 x69 → Ow 3 o173 109 [] w172 v86 x85 → Bk o173 101 w172 pa13 [(.slice none 0 0), (.slice none 0 0), (.slice none 0 0), (.slice none 0 0)] → Bk o173 106 w172 pa23 [v55, v70, v86, v169] → Bk o173 100 w172 pa8 [.int .i64 a1.Buses, u1, u2, u3, .int .i64 a1.Phase, .int .i64 a1.Frequency] → SrcC o173 1 w172 sb sv sL st146 → NK 134 K123 [(0, .pointer (some ⟨sb, 0, none⟩)), (3, .pointer (some pa8)), (4, .pointer (some pa13)), (5, .pointer (some pa23)), (12, .int .i64 x96)] w172 := by
        intro w172 o173 v169 hE h170 h18 h19 h20 h21 h56 h71 h87 hb17 hb27 hb12 hs
        have e175 := Option.some.inj q138
        obtain ⟨e176, e177⟩ := Prod.mk.inj e175
        subst e176 e177
        exact NK.sb (hJ141 w172 o173 v169 hE h170 h18 h19 h20 h21 h56 h71 h87 hb17 hb27 hb12 hs) ⟨rfl, rfl, rfl, rfl, rfl, trivial⟩
       refine CW.cond (b := y161) rfl (fun hc178 => ?_) (fun hc178 => ?_)
       ·have q171 := iteT hc178 q171
        refine CW.region ?_
        refine WL.stepE (OW.fldAddr (FldOk.at f45_3) rfl) rfl ?_
        refine WL.stepE (OW.loadK (off := 3) (List Part) (v98) ty43 rfl hb27 rfl rfl) rfl ?_
        refine WL.stepE (OW.loadK0 Part (.agg #[.int .i64 x96, .int .i64 y145]) ty66 rfl hb157 rfl rfl) rfl ?_
        refine WL.step (OW.buildSlice (o := o164) (k := 131) (K := []) (xs := ([(⟨x96, y145⟩ : Part)] : List Part)) Try.underlying43 ty66 rfl ⟨(mk66 (x := (⟨x96, y145⟩ : Part))), trivial⟩ rfl rfl) rfl ?_
        rintro v179 w180 ⟨o181, ev182, h183⟩
        have hE := hE.evo ev182 rfl rfl
        have h18 := h18.evo ev182 rfl
        have h19 := h19.evo ev182 rfl
        have h20 := h20.evo ev182 rfl
        have h21 := h21.evo ev182 rfl
        have h56 := h56.evo ev182 rfl
        have h71 := h71.evo ev182 rfl
        have h87 := h87.evo ev182 rfl
        have h99 := h99.evo ev182 rfl
        have hb17 := hb17.evo ev182 rfl
        have hb27 := hb27.evo ev182 rfl
        have hb12 := hb12.evo ev182 rfl
        have hs := hs.evo ev182 rfl
        obtain ⟨y184, q185, q171⟩ := bindE q171
        refine WL.step (OW.append (K := []) Try.underlying43 ty66 rfl rfl h99 h183.els.flat q185 rfl) rfl ?_
        rintro v186 w187 ⟨o188, ev189, h190⟩
        have hE := hE.evo ev189 rfl rfl
        have h18 := h18.evo ev189 rfl
        have h183 := h183.evo ev189 rfl
        have h19 := h19.evo ev189 rfl
        have h20 := h20.evo ev189 rfl
        have h21 := h21.evo ev189 rfl
        have h56 := h56.evo ev189 rfl
        have h71 := h71.evo ev189 rfl
        have h87 := h87.evo ev189 rfl
        have hb17 := hb17.evo ev189 rfl
        have hb27 := hb27.evo ev189 rfl
        have hb12 := hb12.evo ev189 rfl
        have hs := hs.evo ev189 rfl
        refine WL.stepE (OW.fldAddr (FldOk.at f45_3) rfl) rfl ?_
        refine WL.step0 (OW.storeK (off := 3) (List Part) [v55, v70, v86, v186] [v186] ty43 rfl rfl hb27 (cells_one (h190.one)) ⟨(h190.one), trivial⟩ rfl rfl rfl) ?_
        rintro _ w191 ⟨ev192, hb27⟩
        have hE := hE.evo ev192 rfl rfl
        have h18 := h18.evo ev192 rfl
        have h19 := h19.evo ev192 rfl
        have h190 := h190.evo ev192 rfl
        have h20 := h20.evo ev192 rfl
        have h21 := h21.evo ev192 rfl
        have h56 := h56.evo ev192 rfl
        have h71 := h71.evo ev192 rfl
        have h87 := h87.evo ev192 rfl
        have hb17 := hb17.evo ev192 rfl
        have hb12 := hb12.evo ev192 rfl
        have hs := hs.evo ev192 rfl
        refine WL.nil ?_
        have e193 := Option.some.inj q171
        subst e193
        exact NK.sb (hJ174 w191 o188 v186 hE h190 h18 h19 h20 h21 h56 h71 h87 hb17 hb27 hb12 hs) ⟨rfl, rfl, rfl, rfl, rfl, trivial⟩
       ·have q171 := iteF hc178 q171
        refine CW.skip ?_
        have e194 := Option.some.inj q171
        subst e194
        exact NK.sb (hJ174 w163 o164 v98 hE h99 h18 h19 h20 h21 h56 h71 h87 hb17 hb27 hb12 hs) ⟨rfl, rfl, rfl, rfl, rfl, trivial⟩
      ·have q138 := iteF hc142 q138
       refine CW.skip ?_
       have e195 := Option.some.inj q138
       obtain ⟨e196, e197⟩ := Prod.mk.inj e195
       subst e196 e197
       exact NK.sb (hJ141 w129 o130 v98 hE h99 h18 h19 h20 h21 h56 h71 h87 hb17 hb27 hb12 hs) ⟨rfl, rfl, rfl, rfl, rfl, trivial⟩
     ·have hx117 := iteF hc122 hx117
      refine CW.exit ?_
      exact NK.sb (hJ109 x97 st100 w113 o114 v98 (hr118 _ (Option.some.inj hx117).symm) hE h99 h18 h19 h20 h21 h56 h71 h87 hb17 hb27 hs) ⟨rfl, rfl, rfl, trivial⟩
    refine CW.sub (L' := [(0, .pointer (some ⟨sb, 0, none⟩)), (3, .pointer (some pa8)), (4, .pointer (some pa13)), (5, .pointer (some pa23)), (89, u3), (90, .int .i64 (len a1.Consumers)), (91, .int .i64 0)]) ⟨rfl, rfl, rfl, rfl, rfl, rfl, rfl, trivial⟩ ?_
    refine CW.loop (Src_Power_L4 a1) (fun s_ L_ w198 => ∃ (o199 : Cls) (x80 : Int) (x81 : (List Int)) (st84 : List Int) (v82 : Value), (x80, x81, st84) = s_ ∧ L_ = [(0, .pointer (some ⟨sb, 0, none⟩)), (3, .pointer (some pa8)), (4, .pointer (some pa13)), (5, .pointer (some pa23)), (89, u3), (90, .int .i64 (len a1.Consumers)), (91, .int .i64 x80)] ∧ En w0 e0 o199 w198 ∧ Ow 4 o199 102 [] w198 (.slice none 0 0) ([] : List Bool) ∧ Ow 64 o199 103 [] w198 (.slice none 0 0) ([] : List Running) ∧ Ow 3 o199 104 [] w198 (.slice none 0 0) ([] : List Int) ∧ Ow 66 o199 105 [] w198 (.slice none 0 0) ([] : List Part) ∧ Ow 66 o199 110 [] w198 (.slice none 0 0) ([] : List Part) ∧ Ow 4 o199 107 [] w198 v55 x54 ∧ Ow 64 o199 108 [] w198 v70 x69 ∧ Ow 3 o199 109 [] w198 v82 x81 ∧ Bk o199 101 w198 pa13 [(.slice none 0 0), (.slice none 0 0), (.slice none 0 0), (.slice none 0 0)] ∧ Bk o199 106 w198 pa23 [v55, v70, v82, (.slice none 0 0)] ∧ Bk o199 100 w198 pa8 [.int .i64 a1.Buses, u1, u2, u3, .int .i64 a1.Phase, .int .i64 a1.Frequency] ∧ SrcC o199 1 w198 sb sv sL st84) hl89 ?_ ?_
    ·exact ⟨o76, 0, ([] : List Int), st72, (.slice none 0 0), rfl, rfl, hE, h18, h19, h20, h21, h31, h56, h71, h30, hb17, hb27, hb12, hs⟩
    intro K200 s_ L_ w198 hi_ x201 hx202 hr203 hk204
    obtain ⟨o199, x80, x81, st84, v82, rfl, rfl, hE, h18, h19, h20, h21, h31, h56, h71, h83, hb17, hb27, hb12, hs⟩ := hi_
    rw [Src_Power_L4] at hx202
    refine CW.sr fun K205 hK205 => ?_
    refine WL.p (.bool ((decide (x80 < (len a1.Consumers))))) rfl rfl ?_
    refine WL.nx hK205 ?_
    refine CW.seq fun K206 hK206 => ?_
    refine CW.cond (b := (decide (x80 < (len a1.Consumers)))) rfl (fun hc207 => ?_) (fun hc207 => ?_)
    ·have hx202 := iteT hc207 hx202
     refine CW.skip ?_
     refine hK206 _ _ ?_
     refine CW.seq fun K208 hK208 => ?_
     refine CW.block ?_
     refine CW.sr fun K209 hK209 => ?_
     obtain ⟨y210, q214, hx202⟩ := bindE hx202
     refine WL.stepP (OW.indexAddr Try.underlying37 ty85 rfl (h6.baseM hE rfl) rfl q214) rfl fun _ ⟨pa211, hv_, hp212, he213⟩ => ?_
     subst hv_
     refine WL.stepP (OW.load ty85 rfl hp212) rfl fun v215 h216 => ?_
     obtain ⟨u217, rfl, h218⟩ := op85 h216
     refine WL.step (OW.allocK (o := o199) Consumer 122 [.int .i64 0, .int .i64 0, .int .i64 0, .int .i64 0, .slice none 0 0] ty85 rfl) rfl ?_
     rintro _ w221 ⟨pa219, o220, rfl, ev222, hb223⟩
     have hE := hE.evo ev222 rfl rfl
     have h18 := h18.evo ev222 rfl
     have h19 := h19.evo ev222 rfl
     have h20 := h20.evo ev222 rfl
     have h21 := h21.evo ev222 rfl
     have h218 := h218.evo ev222 rfl
     have h31 := h31.evo ev222 rfl
     have h56 := h56.evo ev222 rfl
     have h71 := h71.evo ev222 rfl
     have h83 := h83.evo ev222 rfl
     have hb17 := hb17.evo ev222 rfl
     have hb27 := hb27.evo ev222 rfl
     have hb12 := hb12.evo ev222 rfl
     have hs := hs.evo ev222 rfl
     have h224 := Ow.nil (α := Int) 3 o220 123 [] w221
     refine WL.step0 (OW.storeK0 Consumer [.int .i64 y210.Load, .int .i64 y210.Least, .int .i64 y210.Preference, .int .i64 y210.Thruster, u217] [.int .i64 y210.Load, .int .i64 y210.Least, .int .i64 y210.Preference, .int .i64 y210.Thruster, u217] ty85 rfl rfl hb223 rfl ⟨rfl, rfl, rfl, rfl, (h218.one rfl), trivial⟩ rfl rfl rfl) ?_
     rintro _ w225 ⟨ev226, hb223⟩
     have hE := hE.evo ev226 rfl rfl
     have h18 := h18.evo ev226 rfl
     have h19 := h19.evo ev226 rfl
     have h20 := h20.evo ev226 rfl
     have h21 := h21.evo ev226 rfl
     have h218 := h218.evo ev226 rfl
     have h31 := h31.evo ev226 rfl
     have h56 := h56.evo ev226 rfl
     have h71 := h71.evo ev226 rfl
     have h83 := h83.evo ev226 rfl
     have hb17 := hb17.evo ev226 rfl
     have hb27 := hb27.evo ev226 rfl
     have hb12 := hb12.evo ev226 rfl
     have hs := hs.evo ev226 rfl
     refine WL.nx hK209 ?_
     obtain ⟨y227, q228, hx202⟩ := bindE hx202
     obtain ⟨⟨y235, st236⟩, q237, hx202⟩ := bindE hx202
     dsimp only at hx202
     obtain ⟨y249, q250, hx202⟩ := bindE hx202
     have ev_ := Evo.drew o220 w225
     refine CW.anyS (N := [1, 106, 109, 124, 125, 126]) hmix [sOw none (some 15) [] 3 109 [] (vk v82) x81, sBk none none [] 122 (vk pa219) (vk ([.int .i64 y210.Load, .int .i64 y210.Least, .int .i64 y210.Preference, .int .i64 y210.Thruster, u217])), sBk none (some 17) [] 106 (vk pa23) (vk ([v55, v70, v82, (.slice none 0 0)])), sSr none (some 13) [] 1 sb sv sL st84, sOw (some 12) none [12] 3 124 [] (vn 0) ([y210.Load, y210.Load, y210.Least, y227] : List Int), sSr (some 13) none [] 1 sb sv sL st236, sOw (some 14) none [14] 3 126 [] (vn 0) ([y235] : List Int), sOw (some 15) none [15] 3 109 [] (vn 0) y249, sBk (some 17) none [15] 106 (vk pa23) (fun x_ => [v55, v70, (x_.getD 0 undef), (.slice none 0 0)])] [⟨[], [], [], [], vk (.pointer (some (pa23.add 2))), false⟩, ⟨[], [2], [0], [], vk v82, false⟩, ⟨[], [], [], [], vk (.pointer (some ⟨sb, 0, none⟩)), false⟩, ⟨[], [], [], [], vk (.pointer (some (pa219.add 0))), false⟩, ⟨[], [1], [3], [], vk (.int .i64 y210.Load), false⟩, ⟨[], [], [], [], vk (.pointer (some (pa219.add 0))), false⟩, ⟨[], [1], [5], [], vk (.int .i64 y210.Load), false⟩, ⟨[], [], [], [], vk (.pointer (some (pa219.add 1))), false⟩, ⟨[], [1], [7], [], vk (.int .i64 y210.Least), false⟩, ⟨[], [], [], [], vk (.pointer (some (pa219.add 0))), false⟩, ⟨[], [1], [9], [], vk (.int .i64 y210.Load), false⟩, ⟨[], [], [9, 10], [], vk (.int .i64 y227), false⟩, ⟨[], [], rg 3 9, [12], vn 0, false⟩, ⟨[1], [3, 4], rg 2 11, [], vk (.int .i64 y235), false⟩, ⟨[], [], rg 2 12, [14], vn 0, false⟩, ⟨[109], [0, 6], rg 0 15, [15], vn 0, false⟩, ⟨[], [], rg 0 16, [], vk (.pointer (some (pa23.add 2))), false⟩, ⟨[106], [2, 7], rg 0 17, [], vk undef, false⟩] [1, 106, 109] hE rfl (by kernel_rfl) (by kernel_rfl) ⟨h83.evo ev_ rfl, hb223.evo ev_ rfl, hb27.evo ev_ rfl, hs.evo ev_ rfl, trivial⟩ ⟨?_, ?_, Ob.pv rfl rfl (fun _ => rfl) rfl (fun _ _ _ => trivial), ?_, ?_, ?_, ?_, ?_, ?_, ?_, ?_, ?_, ?_, ?_, ?_, ?_, ?_, ?_, trivial⟩ ?_
     ·intro vs259 o_ w_ hE 
      exact OW.q [(5, .pointer (some pa23))] ⟨rfl, trivial⟩ (OW.fldAddr (FldOk.at f45_2) rfl) (er rfl trivial)
     ·intro vs259 o_ w_ hE hb27
      have hb27 := tBk hb27
      exact OW.q [(95, .pointer (some (pa23.add 2)))] ⟨rfl, trivial⟩ (OW.loadK (off := 2) (List Int) (v82) ty22 rfl hb27 rfl rfl) (er rfl trivial)
     ·intro vs259 o_ w_ hE 
      exact OW.q [(11, .pointer (some pa219))] ⟨rfl, trivial⟩ (OW.fldAddr (FldOk.at f85_0) rfl) (er rfl trivial)
     ·intro vs259 o_ w_ hE hb223
      have hb223 := tBk hb223
      exact OW.q [(98, .pointer (some (pa219.add 0)))] ⟨rfl, trivial⟩ (OW.loadK (off := 0) Int (.int .i64 y210.Load) ty3 rfl hb223 rfl rfl) (er rfl trivial)
     ·intro vs259 o_ w_ hE 
      exact OW.q [(11, .pointer (some pa219))] ⟨rfl, trivial⟩ (OW.fldAddr (FldOk.at f85_0) rfl) (er rfl trivial)
     ·intro vs259 o_ w_ hE hb223
      have hb223 := tBk hb223
      exact OW.q [(100, .pointer (some (pa219.add 0)))] ⟨rfl, trivial⟩ (OW.loadK (off := 0) Int (.int .i64 y210.Load) ty3 rfl hb223 rfl rfl) (er rfl trivial)
     ·intro vs259 o_ w_ hE 
      exact OW.q [(11, .pointer (some pa219))] ⟨rfl, trivial⟩ (OW.fldAddr (FldOk.at f85_1) rfl) (er rfl trivial)
     ·intro vs259 o_ w_ hE hb223
      have hb223 := tBk hb223
      exact OW.q [(102, .pointer (some (pa219.add 1)))] ⟨rfl, trivial⟩ (OW.loadK (off := 1) Int (.int .i64 y210.Least) ty3 rfl hb223 rfl rfl) (er rfl trivial)
     ·intro vs259 o_ w_ hE 
      exact OW.q [(11, .pointer (some pa219))] ⟨rfl, trivial⟩ (OW.fldAddr (FldOk.at f85_0) rfl) (er rfl trivial)
     ·intro vs259 o_ w_ hE hb223
      have hb223 := tBk hb223
      exact OW.q [(104, .pointer (some (pa219.add 0)))] ⟨rfl, trivial⟩ (OW.loadK (off := 0) Int (.int .i64 y210.Load) ty3 rfl hb223 rfl rfl) (er rfl trivial)
     ·intro vs259 o_ w_ hE 
      exact OW.q [(105, .int .i64 y210.Load)] ⟨rfl, trivial⟩ (OW.quo rfl rfl q228) (er rfl trivial)
     ·intro vs259 o_ w_ hE 
      refine OW.r [(99, .int .i64 y210.Load), (101, .int .i64 y210.Load), (103, .int .i64 y210.Least), (106, .int .i64 y227)] ⟨rfl, rfl, rfl, rfl, trivial⟩ (OW.buildSlice (o := o_) (k := 124) (K := []) (xs := ([y210.Load, y210.Load, y210.Least, y227] : List Int)) Try.underlying22 ty3 rfl ⟨(rv_int.2 rfl), (rv_int.2 rfl), (rv_int.2 rfl), (rv_int.2 rfl), trivial⟩ rfl rfl) ?_
      rintro v229 w230 ⟨o231, ev232, h233⟩
      exact ⟨o231, ev232.sub rfl rfl, rfl, h233, trivial⟩
     ·intro vs259 o_ w_ hE hs h233
      have hE := hE.1
      have hs := tSr hs
      have h233 := tOw h233
      have hm234 : MbOk o_ w_ 0 [sb] [1] := ⟨.inl ⟨hs.1.lt, hs.2⟩, trivial⟩
      refine OW.r [(97, .pointer (some ⟨sb, 0, none⟩)), (107, (vs259 12))] ⟨rfl, rfl, trivial⟩ (OW.call Try.call44 rfl (Src_Pick_ok q237 hs.1 (hL.baseM hE rfl) (hm234.sep rfl) h233.rv (hm234.sep rfl) (hm234.nodup rfl))) ?_
      rintro _ w238 ⟨o242, hn_, rfl, hs243⟩
      obtain ⟨o239, ev240, hA241⟩ := adopt (o := o_) (ks := [1]) (Ks := [[40], [124]]) 125 ([]) [1, 125] hn_ hm234 rfl rfl rfl rfl
      have hs243 := hs243.ad (c' := 1) hA241 rfl
      exact ⟨o239, ev240.sub rfl rfl, rfl, hs243, trivial⟩
     ·intro vs259 o_ w_ hE 
      refine OW.r [(108, .int .i64 y235)] ⟨rfl, trivial⟩ (OW.buildSlice (o := o_) (k := 126) (K := []) (xs := ([y235] : List Int)) Try.underlying22 ty3 rfl ⟨(rv_int.2 rfl), trivial⟩ rfl rfl) ?_
      rintro v244 w245 ⟨o246, ev247, h248⟩
      exact ⟨o246, ev247.sub rfl rfl, rfl, h248, trivial⟩
     ·intro vs259 o_ w_ hE h83 h248
      have h83 := tOw h83
      have h248 := tOw h248
      refine OW.r [(96, v82), (109, (vs259 14))] ⟨rfl, rfl, trivial⟩ (OW.append (K := []) Try.underlying22 ty3 rfl rfl h83 h248.els.flat q250 rfl) ?_
      rintro v251 w252 ⟨o253, ev254, h255⟩
      exact ⟨o253, ev254.sub rfl rfl, rfl, h255, trivial⟩
     ·intro vs259 o_ w_ hE 
      exact OW.q [(5, .pointer (some pa23))] ⟨rfl, trivial⟩ (OW.fldAddr (FldOk.at f45_2) rfl) (er rfl trivial)
     ·intro vs259 o_ w_ hE hb27 h255
      have hb27 := tBk hb27
      have h255 := tOw h255
      refine OW.r [(110, (vs259 15)), (111, .pointer (some (pa23.add 2)))] ⟨rfl, rfl, trivial⟩ (OW.storeK (off := 2) (List Int) [v55, v70, (vs259 15), (.slice none 0 0)] [(vs259 15)] ty22 rfl rfl hb27 (cells_one (h255.one)) ⟨(h255.one), trivial⟩ rfl rfl rfl) ?_
      rintro _ w256 ⟨ev257, hb258⟩
      exact ⟨o_, ev257.sub rfl rfl, trivial, hb258, trivial⟩
     ·intro vs259 o261 w260 hE hb223 h233 hs243 h248 h255 hb258
      obtain ⟨hE, evT_⟩ := hE
      have hb223 : Bk o261 122 w260 pa219 [.int .i64 y210.Load, .int .i64 y210.Least, .int .i64 y210.Preference, .int .i64 y210.Thruster, u217] := hb223
      have h233 : Ow 3 o261 124 [] w260 (vs259 12) ([y210.Load, y210.Load, y210.Least, y227] : List Int) := h233
      have hs243 : SrcC o261 1 w260 sb sv sL st236 := hs243
      have h248 : Ow 3 o261 126 [] w260 (vs259 14) ([y235] : List Int) := h248
      have h255 : Ow 3 o261 109 [] w260 (vs259 15) y249 := h255
      have hb258 : Bk o261 106 w260 pa23 [v55, v70, (vs259 15), (.slice none 0 0)] := hb258
      have h18 := h18.evo evT_ rfl
      have h19 := h19.evo evT_ rfl
      have h20 := h20.evo evT_ rfl
      have h21 := h21.evo evT_ rfl
      have h218 := h218.evo evT_ rfl
      have h31 := h31.evo evT_ rfl
      have h56 := h56.evo evT_ rfl
      have h71 := h71.evo evT_ rfl
      have hb17 := hb17.evo evT_ rfl
      have hb12 := hb12.evo evT_ rfl
      refine hK208 _ _ ?_
      refine CW.region ?_
      refine WL.p (.int .i64 ((W (x80 + 1)))) rfl rfl ?_
      refine WL.p (.int .i64 ((W (x80 + 1)))) rfl rfl ?_
      refine WL.nil ?_
      exact NK.sb (hk204 _ _ _ (Option.some.inj hx202).symm ⟨o261, (W (x80 + 1)), y249, st236, (vs259 15), rfl, rfl, hE, h18, h19, h20, h21, h31, h56, h71, h255, hb17, hb258, hb12, hs243⟩) ⟨rfl, rfl, rfl, rfl, rfl, rfl, rfl, trivial⟩
    ·have hx202 := iteF hc207 hx202
     refine CW.exit ?_
     exact NK.sb (hJ93 x81 st84 w198 o199 v82 (hr203 _ (Option.some.inj hx202).symm) hE h18 h19 h20 h21 h31 h56 h71 h83 hb17 hb27 hb12 hs) ⟨rfl, rfl, rfl, rfl, trivial⟩
   refine CW.sub (L' := [(0, .pointer (some ⟨sb, 0, none⟩)), (3, .pointer (some pa8)), (4, .pointer (some pa13)), (5, .pointer (some pa23)), (67, .int .i64 (len a1.Sources)), (68, .int .i64 0)]) ⟨rfl, rfl, rfl, rfl, rfl, rfl, trivial⟩ ?_
   refine CW.loop (Src_Power_L3 a1) (fun s_ L_ w262 => ∃ (o263 : Cls) (x64 : Int) (x65 : (List Running)) (st68 : List Int) (v66 : Value), (x64, x65, st68) = s_ ∧ L_ = [(0, .pointer (some ⟨sb, 0, none⟩)), (3, .pointer (some pa8)), (4, .pointer (some pa13)), (5, .pointer (some pa23)), (67, .int .i64 (len a1.Sources)), (68, .int .i64 x64)] ∧ En w0 e0 o263 w262 ∧ Ow 4 o263 102 [] w262 (.slice none 0 0) ([] : List Bool) ∧ Ow 64 o263 103 [] w262 (.slice none 0 0) ([] : List Running) ∧ Ow 3 o263 104 [] w262 (.slice none 0 0) ([] : List Int) ∧ Ow 66 o263 105 [] w262 (.slice none 0 0) ([] : List Part) ∧ Ow 3 o263 109 [] w262 (.slice none 0 0) ([] : List Int) ∧ Ow 66 o263 110 [] w262 (.slice none 0 0) ([] : List Part) ∧ Ow 4 o263 107 [] w262 v55 x54 ∧ Ow 64 o263 108 [] w262 v66 x65 ∧ Bk o263 101 w262 pa13 [(.slice none 0 0), (.slice none 0 0), (.slice none 0 0), (.slice none 0 0)] ∧ Bk o263 106 w262 pa23 [v55, v66, (.slice none 0 0), (.slice none 0 0)] ∧ Bk o263 100 w262 pa8 [.int .i64 a1.Buses, u1, u2, u3, .int .i64 a1.Phase, .int .i64 a1.Frequency] ∧ SrcC o263 1 w262 sb sv sL st68) hl73 ?_ ?_
   ·exact ⟨o60, 0, ([] : List Running), st42, (.slice none 0 0), rfl, rfl, hE, h18, h19, h20, h21, h30, h31, h56, h29, hb17, hb27, hb12, hs⟩
   intro K264 s_ L_ w262 hi_ x265 hx266 hr267 hk268
   obtain ⟨o263, x64, x65, st68, v66, rfl, rfl, hE, h18, h19, h20, h21, h30, h31, h56, h67, hb17, hb27, hb12, hs⟩ := hi_
   rw [Src_Power_L3] at hx266
   refine CW.sr fun K269 hK269 => ?_
   refine WL.p (.bool ((decide (x64 < (len a1.Sources))))) rfl rfl ?_
   refine WL.nx hK269 ?_
   refine CW.seq fun K270 hK270 => ?_
   refine CW.cond (b := (decide (x64 < (len a1.Sources)))) rfl (fun hc271 => ?_) (fun hc271 => ?_)
   ·have hx266 := iteT hc271 hx266
    refine CW.skip ?_
    refine hK270 _ _ ?_
    refine CW.seq fun K272 hK272 => ?_
    refine CW.block ?_
    obtain ⟨⟨y279, st280⟩, q281, hx266⟩ := bindE hx266
    dsimp only at hx266
    obtain ⟨⟨y289, st290⟩, q291, hx266⟩ := bindE hx266
    dsimp only at hx266
    obtain ⟨⟨y304, st305⟩, q306, hx266⟩ := bindE hx266
    dsimp only at hx266
    obtain ⟨⟨y319, st320⟩, q321, hx266⟩ := bindE hx266
    dsimp only at hx266
    obtain ⟨y333, q334, hx266⟩ := bindE hx266
    have ev_ := Evo.drew o263 w262
    refine CW.anyS (N := [1, 106, 108, 114, 115, 116, 117, 118, 119, 120, 121]) hmix [sOw none (some 15) [] 64 108 [] (vk v66) x65, sBk none (some 17) [] 106 (vk pa23) (vk ([v55, v66, (.slice none 0 0), (.slice none 0 0)])), sSr none (some 4) [] 1 sb sv sL st68, sOw (some 3) none [3] 3 114 [] (vn 0) ([0, 1, 2, 2, 2, 3] : List Int), sSr (some 4) (some 6) [] 1 sb sv sL st280, sSr (some 6) (some 9) [] 1 sb sv sL st290, sOw (some 8) none [8] 3 117 [] (vn 0) ([5000, 5000, 5005, 4950] : List Int), sSr (some 9) (some 12) [] 1 sb sv sL st305, sOw (some 11) none [11] 3 119 [] (vn 0) ([0, 0, 40, 1800, 3590] : List Int), sSr (some 12) none [] 1 sb sv sL st320, sOw (some 14) none [14] 64 121 [] (vn 0) (([(⟨y279, y289, y304, y319⟩ : Running)] : List Running)), sOw (some 15) none [15] 64 108 [] (vn 0) y333, sBk (some 17) none [15] 106 (vk pa23) (fun x_ => [v55, (x_.getD 0 undef), (.slice none 0 0), (.slice none 0 0)])] [⟨[], [], [], [], vk (.pointer (some (pa23.add 1))), false⟩, ⟨[], [1], [0], [], vk v66, false⟩, ⟨[], [], [], [], vk (.pointer (some ⟨sb, 0, none⟩)), false⟩, ⟨[], [], [], [3], vn 0, false⟩, ⟨[1], [2, 3], [2, 3], [], vk (.int .i64 y279), false⟩, ⟨[], [], [], [], vk (.pointer (some ⟨sb, 0, none⟩)), false⟩, ⟨[1], [4], rg 2 4, [], vk (.int .i64 y289), false⟩, ⟨[], [], [], [], vk (.pointer (some ⟨sb, 0, none⟩)), false⟩, ⟨[], [], [], [8], vn 0, false⟩, ⟨[1], [5, 6], rg 2 7, [], vk (.int .i64 y304), false⟩, ⟨[], [], [], [], vk (.pointer (some ⟨sb, 0, none⟩)), false⟩, ⟨[], [], [], [11], vn 0, false⟩, ⟨[1], [7, 8], rg 2 10, [], vk (.int .i64 y319), false⟩, ⟨[], [], rg 2 11, [], vk (.agg #[.int .i64 y279, .int .i64 y289, .int .i64 y304, .int .i64 y319]), false⟩, ⟨[], [], rg 2 12, [14], vn 0, false⟩, ⟨[108], [0, 10], rg 0 15, [15], vn 0, false⟩, ⟨[], [], rg 0 16, [], vk (.pointer (some (pa23.add 1))), false⟩, ⟨[106], [1, 11], rg 0 17, [], vk undef, false⟩] [1, 106, 108] hE rfl (by kernel_rfl) (by kernel_rfl) ⟨h67.evo ev_ rfl, hb27.evo ev_ rfl, hs.evo ev_ rfl, trivial⟩ ⟨?_, ?_, Ob.pv rfl rfl (fun _ => rfl) rfl (fun _ _ _ => trivial), ?_, ?_, Ob.pv rfl rfl (fun _ => rfl) rfl (fun _ _ _ => trivial), ?_, Ob.pv rfl rfl (fun _ => rfl) rfl (fun _ _ _ => trivial), ?_, ?_, Ob.pv rfl rfl (fun _ => rfl) rfl (fun _ _ _ => trivial), ?_, ?_, ?_, ?_, ?_, ?_, ?_, trivial⟩ ?_
    ·intro vs343 o_ w_ hE 
     exact OW.q [(5, .pointer (some pa23))] ⟨rfl, trivial⟩ (OW.fldAddr (FldOk.at f45_1) rfl) (er rfl trivial)
    ·intro vs343 o_ w_ hE hb27
     have hb27 := tBk hb27
     exact OW.q [(70, .pointer (some (pa23.add 1)))] ⟨rfl, trivial⟩ (OW.loadK (off := 1) (List Running) (v66) ty42 rfl hb27 rfl rfl) (er rfl trivial)
    ·intro vs343 o_ w_ hE 
     refine OW.r [] trivial (OW.buildSlice (o := o_) (k := 114) (K := []) (xs := ([0, 1, 2, 2, 2, 3] : List Int)) Try.underlying22 ty3 rfl ⟨(rv_int.2 rfl), (rv_int.2 rfl), (rv_int.2 rfl), (rv_int.2 rfl), (rv_int.2 rfl), (rv_int.2 rfl), trivial⟩ rfl rfl) ?_
     rintro v273 w274 ⟨o275, ev276, h277⟩
     exact ⟨o275, ev276.sub rfl rfl, rfl, h277, trivial⟩
    ·intro vs343 o_ w_ hE hs h277
     have hE := hE.1
     have hs := tSr hs
     have h277 := tOw h277
     have hm278 : MbOk o_ w_ 0 [sb] [1] := ⟨.inl ⟨hs.1.lt, hs.2⟩, trivial⟩
     refine OW.r [(72, .pointer (some ⟨sb, 0, none⟩)), (73, (vs343 3))] ⟨rfl, rfl, trivial⟩ (OW.call Try.call44 rfl (Src_Pick_ok q281 hs.1 (hL.baseM hE rfl) (hm278.sep rfl) h277.rv (hm278.sep rfl) (hm278.nodup rfl))) ?_
     rintro _ w282 ⟨o286, hn_, rfl, hs287⟩
     obtain ⟨o283, ev284, hA285⟩ := adopt (o := o_) (ks := [1]) (Ks := [[40], [114]]) 115 ([]) [1, 115] hn_ hm278 rfl rfl rfl rfl
     have hs287 := hs287.ad (c' := 1) hA285 rfl
     exact ⟨o283, ev284.sub rfl rfl, rfl, hs287, trivial⟩
    ·intro vs343 o_ w_ hE hs287
     have hE := hE.1
     have hs287 := tSr hs287
     have hm288 : MbOk o_ w_ 0 [sb] [1] := ⟨.inl ⟨hs287.1.lt, hs287.2⟩, trivial⟩
     refine OW.r [(75, .pointer (some ⟨sb, 0, none⟩))] ⟨rfl, trivial⟩ (OW.call Try.call13 rfl (Src_N_ok q291 hs287.1 (hL.baseM hE rfl) (hm288.sep rfl) (hm288.nodup rfl))) ?_
     rintro _ w292 ⟨o296, hn_, rfl, hs297⟩
     obtain ⟨o293, ev294, hA295⟩ := adopt (o := o_) (ks := [1]) (Ks := [[40]]) 116 ([]) [1, 116] hn_ hm288 rfl rfl rfl rfl
     have hs297 := hs297.ad (c' := 1) hA295 rfl
     exact ⟨o293, ev294.sub rfl rfl, rfl, hs297, trivial⟩
    ·intro vs343 o_ w_ hE 
     refine OW.r [] trivial (OW.buildSlice (o := o_) (k := 117) (K := []) (xs := ([5000, 5000, 5005, 4950] : List Int)) Try.underlying22 ty3 rfl ⟨(rv_int.2 rfl), (rv_int.2 rfl), (rv_int.2 rfl), (rv_int.2 rfl), trivial⟩ rfl rfl) ?_
     rintro v298 w299 ⟨o300, ev301, h302⟩
     exact ⟨o300, ev301.sub rfl rfl, rfl, h302, trivial⟩
    ·intro vs343 o_ w_ hE hs297 h302
     have hE := hE.1
     have hs297 := tSr hs297
     have h302 := tOw h302
     have hm303 : MbOk o_ w_ 0 [sb] [1] := ⟨.inl ⟨hs297.1.lt, hs297.2⟩, trivial⟩
     refine OW.r [(77, .pointer (some ⟨sb, 0, none⟩)), (78, (vs343 8))] ⟨rfl, rfl, trivial⟩ (OW.call Try.call44 rfl (Src_Pick_ok q306 hs297.1 (hL.baseM hE rfl) (hm303.sep rfl) h302.rv (hm303.sep rfl) (hm303.nodup rfl))) ?_
     rintro _ w307 ⟨o311, hn_, rfl, hs312⟩
     obtain ⟨o308, ev309, hA310⟩ := adopt (o := o_) (ks := [1]) (Ks := [[40], [117]]) 118 ([]) [1, 118] hn_ hm303 rfl rfl rfl rfl
     have hs312 := hs312.ad (c' := 1) hA310 rfl
     exact ⟨o308, ev309.sub rfl rfl, rfl, hs312, trivial⟩
    ·intro vs343 o_ w_ hE 
     refine OW.r [] trivial (OW.buildSlice (o := o_) (k := 119) (K := []) (xs := ([0, 0, 40, 1800, 3590] : List Int)) Try.underlying22 ty3 rfl ⟨(rv_int.2 rfl), (rv_int.2 rfl), (rv_int.2 rfl), (rv_int.2 rfl), (rv_int.2 rfl), trivial⟩ rfl rfl) ?_
     rintro v313 w314 ⟨o315, ev316, h317⟩
     exact ⟨o315, ev316.sub rfl rfl, rfl, h317, trivial⟩
    ·intro vs343 o_ w_ hE hs312 h317
     have hE := hE.1
     have hs312 := tSr hs312
     have h317 := tOw h317
     have hm318 : MbOk o_ w_ 0 [sb] [1] := ⟨.inl ⟨hs312.1.lt, hs312.2⟩, trivial⟩
     refine OW.r [(80, .pointer (some ⟨sb, 0, none⟩)), (81, (vs343 11))] ⟨rfl, rfl, trivial⟩ (OW.call Try.call44 rfl (Src_Pick_ok q321 hs312.1 (hL.baseM hE rfl) (hm318.sep rfl) h317.rv (hm318.sep rfl) (hm318.nodup rfl))) ?_
     rintro _ w322 ⟨o326, hn_, rfl, hs327⟩
     obtain ⟨o323, ev324, hA325⟩ := adopt (o := o_) (ks := [1]) (Ks := [[40], [119]]) 120 ([]) [1, 120] hn_ hm318 rfl rfl rfl rfl
     have hs327 := hs327.ad (c' := 1) hA325 rfl
     exact ⟨o323, ev324.sub rfl rfl, rfl, hs327, trivial⟩
    ·intro vs343 o_ w_ hE 
     exact OW.q [(74, .int .i64 y279), (76, .int .i64 y289), (79, .int .i64 y304), (82, .int .i64 y319)] ⟨rfl, rfl, rfl, rfl, trivial⟩ (OW.buildK Running [(0, [.int .i64 y279]), (1, [.int .i64 y289]), (2, [.int .i64 y304]), (3, [.int .i64 y319])] [.int .i64 y279, .int .i64 y289, .int .i64 y304, .int .i64 y319] st64 ty64 rfl ⟨rfl, rfl, rfl, rfl, rfl, rfl, rfl, rfl, trivial⟩ rfl) (er rfl trivial)
    ·intro vs343 o_ w_ hE 
     refine OW.r [(83, .agg #[.int .i64 y279, .int .i64 y289, .int .i64 y304, .int .i64 y319])] ⟨rfl, trivial⟩ (OW.buildSlice (o := o_) (k := 121) (K := []) (xs := ([(⟨y279, y289, y304, y319⟩ : Running)] : List Running)) Try.underlying42 ty64 rfl ⟨(mk64 (x := (⟨y279, y289, y304, y319⟩ : Running))), trivial⟩ rfl rfl) ?_
     rintro v328 w329 ⟨o330, ev331, h332⟩
     exact ⟨o330, ev331.sub rfl rfl, rfl, h332, trivial⟩
    ·intro vs343 o_ w_ hE h67 h332
     have h67 := tOw h67
     have h332 := tOw h332
     refine OW.r [(71, v66), (84, (vs343 14))] ⟨rfl, rfl, trivial⟩ (OW.append (K := []) Try.underlying42 ty64 rfl rfl h67 h332.els.flat q334 rfl) ?_
     rintro v335 w336 ⟨o337, ev338, h339⟩
     exact ⟨o337, ev338.sub rfl rfl, rfl, h339, trivial⟩
    ·intro vs343 o_ w_ hE 
     exact OW.q [(5, .pointer (some pa23))] ⟨rfl, trivial⟩ (OW.fldAddr (FldOk.at f45_1) rfl) (er rfl trivial)
    ·intro vs343 o_ w_ hE hb27 h339
     have hb27 := tBk hb27
     have h339 := tOw h339
     refine OW.r [(85, (vs343 15)), (86, .pointer (some (pa23.add 1)))] ⟨rfl, rfl, trivial⟩ (OW.storeK (off := 1) (List Running) [v55, (vs343 15), (.slice none 0 0), (.slice none 0 0)] [(vs343 15)] ty42 rfl rfl hb27 (cells_one (h339.one)) ⟨(h339.one), trivial⟩ rfl rfl rfl) ?_
     rintro _ w340 ⟨ev341, hb342⟩
     exact ⟨o_, ev341.sub rfl rfl, trivial, hb342, trivial⟩
    ·intro vs343 o345 w344 hE h277 h302 h317 hs327 h332 h339 hb342
     obtain ⟨hE, evT_⟩ := hE
     have h277 : Ow 3 o345 114 [] w344 (vs343 3) ([0, 1, 2, 2, 2, 3] : List Int) := h277
     have h302 : Ow 3 o345 117 [] w344 (vs343 8) ([5000, 5000, 5005, 4950] : List Int) := h302
     have h317 : Ow 3 o345 119 [] w344 (vs343 11) ([0, 0, 40, 1800, 3590] : List Int) := h317
     have hs327 : SrcC o345 1 w344 sb sv sL st320 := hs327
     have h332 : Ow 64 o345 121 [] w344 (vs343 14) (([(⟨y279, y289, y304, y319⟩ : Running)] : List Running)) := h332
     have h339 : Ow 64 o345 108 [] w344 (vs343 15) y333 := h339
     have hb342 : Bk o345 106 w344 pa23 [v55, (vs343 15), (.slice none 0 0), (.slice none 0 0)] := hb342
     have h18 := h18.evo evT_ rfl
     have h19 := h19.evo evT_ rfl
     have h20 := h20.evo evT_ rfl
     have h21 := h21.evo evT_ rfl
     have h30 := h30.evo evT_ rfl
     have h31 := h31.evo evT_ rfl
     have h56 := h56.evo evT_ rfl
     have hb17 := hb17.evo evT_ rfl
     have hb12 := hb12.evo evT_ rfl
     refine hK272 _ _ ?_
     refine CW.region ?_
     refine WL.p (.int .i64 ((W (x64 + 1)))) rfl rfl ?_
     refine WL.p (.int .i64 ((W (x64 + 1)))) rfl rfl ?_
     refine WL.nil ?_
     exact NK.sb (hk268 _ _ _ (Option.some.inj hx266).symm ⟨o345, (W (x64 + 1)), y333, st320, (vs343 15), rfl, rfl, hE, h18, h19, h20, h21, h30, h31, h56, h339, hb17, hb342, hb12, hs327⟩) ⟨rfl, rfl, rfl, rfl, rfl, rfl, trivial⟩
   ·have hx266 := iteF hc271 hx266
    refine CW.exit ?_
    exact NK.sb (hJ77 x65 st68 w262 o263 v66 (hr267 _ (Option.some.inj hx266).symm) hE h18 h19 h20 h21 h30 h31 h56 h67 hb17 hb27 hb12 hs) ⟨rfl, rfl, rfl, rfl, trivial⟩
  refine CW.sub (L' := [(0, .pointer (some ⟨sb, 0, none⟩)), (3, .pointer (some pa8)), (4, .pointer (some pa13)), (5, .pointer (some pa23)), (30, .int .i64 (len a1.Consumers)), (31, .int .i64 0)]) ⟨rfl, rfl, rfl, rfl, rfl, rfl, trivial⟩ ?_
  refine CW.loop (Src_Power_L2 a1) (fun s_ L_ w346 => ∃ (o347 : Cls) (x50 : Int) (x51 : (List Bool)) (v52 : Value), (x50, x51) = s_ ∧ L_ = [(0, .pointer (some ⟨sb, 0, none⟩)), (3, .pointer (some pa8)), (4, .pointer (some pa13)), (5, .pointer (some pa23)), (30, .int .i64 (len a1.Consumers)), (31, .int .i64 x50)] ∧ En w0 e0 o347 w346 ∧ Ow 4 o347 102 [] w346 (.slice none 0 0) ([] : List Bool) ∧ Ow 64 o347 103 [] w346 (.slice none 0 0) ([] : List Running) ∧ Ow 3 o347 104 [] w346 (.slice none 0 0) ([] : List Int) ∧ Ow 66 o347 105 [] w346 (.slice none 0 0) ([] : List Part) ∧ Ow 64 o347 108 [] w346 (.slice none 0 0) ([] : List Running) ∧ Ow 3 o347 109 [] w346 (.slice none 0 0) ([] : List Int) ∧ Ow 66 o347 110 [] w346 (.slice none 0 0) ([] : List Part) ∧ Ow 4 o347 107 [] w346 v52 x51 ∧ Bk o347 101 w346 pa13 [(.slice none 0 0), (.slice none 0 0), (.slice none 0 0), (.slice none 0 0)] ∧ Bk o347 106 w346 pa23 [v52, (.slice none 0 0), (.slice none 0 0), (.slice none 0 0)] ∧ Bk o347 100 w346 pa8 [.int .i64 a1.Buses, u1, u2, u3, .int .i64 a1.Phase, .int .i64 a1.Frequency] ∧ SrcC o347 1 w346 sb sv sL st42) hl57 ?_ ?_
  ·exact ⟨o46, 0, x39, v40, rfl, rfl, hE, h18, h19, h20, h21, h29, h30, h31, h41, hb17, hb27, hb12, hs⟩
  intro K348 s_ L_ w346 hi_ x349 hx350 hr351 hk352
  obtain ⟨o347, x50, x51, v52, rfl, rfl, hE, h18, h19, h20, h21, h29, h30, h31, h53, hb17, hb27, hb12, hs⟩ := hi_
  rw [Src_Power_L2] at hx350
  refine CW.sr fun K353 hK353 => ?_
  refine WL.p (.bool ((decide (x50 < (len a1.Consumers))))) rfl rfl ?_
  refine WL.nx hK353 ?_
  refine CW.seq fun K354 hK354 => ?_
  refine CW.cond (b := (decide (x50 < (len a1.Consumers)))) rfl (fun hc355 => ?_) (fun hc355 => ?_)
  ·have hx350 := iteT hc355 hx350
   refine CW.skip ?_
   refine hK354 _ _ ?_
   refine CW.seq fun K356 hK356 => ?_
   refine CW.block ?_
   refine CW.sr fun K357 hK357 => ?_
   refine WL.p (.int .i64 x50) rfl rfl ?_
   refine WL.p (.int .i64 x50) rfl rfl ?_
   refine WL.nx hK357 ?_
   refine CW.sr fun K358 hK358 => ?_
   refine WL.p (.bool true) rfl rfl ?_
   refine WL.nx hK358 ?_
   refine CW.sr fun K359 hK359 => ?_
   refine WL.stepE (OW.fldAddr (FldOk.at f39_1) rfl) rfl ?_
   refine WL.stepE (OW.loadK (off := 1) (List Breaker) (u1) ty35 rfl hb12 rfl rfl) rfl ?_
   refine WL.stepE (OW.len Try.underlying35 rfl (h4.baseM hE rfl)) rfl ?_
   refine WL.p (.int .i64 0) rfl rfl ?_
   refine WL.nx hK359 ?_
   refine CW.block ?_
   obtain ⟨r369, hl368, hx350⟩ := bindE hx350
   have hJ372 : ∀ (x365 : (List Bool)) (w370 : World) (o371 : Cls) (v366 : Value), x365 = r369 → En w0 e0 o371 w370 → Ow 4 o371 102 [] w370 (.slice none 0 0) ([] : List Bool) → Ow 64 o371 103 [] w370 (.slice none 0 0) ([] : List Running) → Ow 3 o371 104 [] w370 (.slice none 0 0) ([] : List Int) → Ow 66 o371 105 [] w370 (.slice none 0 0) ([] : List Part) → Ow 64 o371 108 [] w370 (.slice none 0 0) ([] : List Running) → Ow 3 o371 109 [] w370 (.slice none 0 0) ([] : List Int) → Ow 66 o371 110 [] w370 (.slice none 0 0) ([] : List Part) → Ow 4 o371 107 [] w370 v366 x365 → Bk o371 101 w370 pa13 [(.slice none 0 0), (.slice none 0 0), (.slice none 0 0), (.slice none 0 0)] → Bk o371 106 w370 pa23 [v366, (.slice none 0 0), (.slice none 0 0), (.slice none 0 0)] → Bk o371 100 w370 pa8 [.int .i64 a1.Buses, u1, u2, u3, .int .i64 a1.Phase, .int .i64 a1.Frequency] → SrcC o371 1 w370 sb sv sL st42 → NK 134 K356 [(0, .pointer (some ⟨sb, 0, none⟩)), (3, .pointer (some pa8)), (4, .pointer (some pa13)), (5, .pointer (some pa23)), (30, .int .i64 (len a1.Consumers)), (31, .int .i64 x50)] w370 := by
    intro x365 w370 o371 v366 e_ hE h18 h19 h20 h21 h29 h30 h31 h367 hb17 hb27 hb12 hs
    subst e_
    try dsimp only at hx350
    refine hK356 _ _ ?_
    refine CW.region ?_
    refine WL.p (.int .i64 ((W (x50 + 1)))) rfl rfl ?_
    refine WL.p (.int .i64 ((W (x50 + 1)))) rfl rfl ?_
    refine WL.nil ?_
    exact NK.sb (hk352 _ _ _ (Option.some.inj hx350).symm ⟨o371, (W (x50 + 1)), x365, v366, rfl, rfl, hE, h18, h19, h20, h21, h29, h30, h31, h367, hb17, hb27, hb12, hs⟩) ⟨rfl, rfl, rfl, rfl, rfl, rfl, trivial⟩
   refine CW.sub (L' := [(0, .pointer (some ⟨sb, 0, none⟩)), (3, .pointer (some pa8)), (4, .pointer (some pa13)), (5, .pointer (some pa23)), (6, .int .i64 x50), (7, .bool true), (30, .int .i64 (len a1.Consumers)), (31, .int .i64 x50), (35, u1), (36, .int .i64 (len a1.Breakers)), (37, .int .i64 0)]) ⟨rfl, rfl, rfl, rfl, rfl, rfl, rfl, rfl, rfl, rfl, rfl, trivial⟩ ?_
   refine CW.loop (Src_Power_L6 a1 x50) (fun s_ L_ w373 => ∃ (o374 : Cls) (x360 : Bool) (x361 : Int) (x362 : (List Bool)) (v363 : Value), (x360, x361, x362) = s_ ∧ L_ = [(0, .pointer (some ⟨sb, 0, none⟩)), (3, .pointer (some pa8)), (4, .pointer (some pa13)), (5, .pointer (some pa23)), (6, .int .i64 x50), (7, .bool x360), (30, .int .i64 (len a1.Consumers)), (31, .int .i64 x50), (35, u1), (36, .int .i64 (len a1.Breakers)), (37, .int .i64 x361)] ∧ En w0 e0 o374 w373 ∧ Ow 4 o374 102 [] w373 (.slice none 0 0) ([] : List Bool) ∧ Ow 64 o374 103 [] w373 (.slice none 0 0) ([] : List Running) ∧ Ow 3 o374 104 [] w373 (.slice none 0 0) ([] : List Int) ∧ Ow 66 o374 105 [] w373 (.slice none 0 0) ([] : List Part) ∧ Ow 64 o374 108 [] w373 (.slice none 0 0) ([] : List Running) ∧ Ow 3 o374 109 [] w373 (.slice none 0 0) ([] : List Int) ∧ Ow 66 o374 110 [] w373 (.slice none 0 0) ([] : List Part) ∧ Ow 4 o374 107 [] w373 v363 x362 ∧ Bk o374 101 w373 pa13 [(.slice none 0 0), (.slice none 0 0), (.slice none 0 0), (.slice none 0 0)] ∧ Bk o374 106 w373 pa23 [v363, (.slice none 0 0), (.slice none 0 0), (.slice none 0 0)] ∧ Bk o374 100 w373 pa8 [.int .i64 a1.Buses, u1, u2, u3, .int .i64 a1.Phase, .int .i64 a1.Frequency] ∧ SrcC o374 1 w373 sb sv sL st42) hl368 ?_ ?_
   ·exact ⟨o347, true, 0, x51, v52, rfl, rfl, hE, h18, h19, h20, h21, h29, h30, h31, h53, hb17, hb27, hb12, hs⟩
   intro K375 s_ L_ w373 hi_ x376 hx377 hr378 hk379
   obtain ⟨o374, x360, x361, x362, v363, rfl, rfl, hE, h18, h19, h20, h21, h29, h30, h31, h364, hb17, hb27, hb12, hs⟩ := hi_
   rw [Src_Power_L6] at hx377
   refine CW.sr fun K380 hK380 => ?_
   refine WL.p (.bool ((decide (x361 < (len a1.Breakers))))) rfl rfl ?_
   refine WL.nx hK380 ?_
   refine CW.seq fun K381 hK381 => ?_
   refine CW.cond (b := (decide (x361 < (len a1.Breakers)))) rfl (fun hc382 => ?_) (fun hc382 => ?_)
   ·have hx377 := iteT hc382 hx377
    refine CW.skip ?_
    refine hK381 _ _ ?_
    refine CW.seq fun K383 hK383 => ?_
    refine CW.block ?_
    refine CW.sr fun K384 hK384 => ?_
    refine WL.p (.int .i64 x361) rfl rfl ?_
    obtain ⟨y385, q389, hx377⟩ := bindE hx377
    refine WL.stepP (OW.indexAddr Try.underlying35 ty48 rfl (h4.baseM hE rfl) rfl q389) rfl fun _ ⟨pa386, hv_, hp387, he388⟩ => ?_
    subst hv_
    refine WL.stepP (OW.load ty48 rfl hp387) rfl fun v390 h391 => ?_
    obtain rfl := op48 h391
    refine WL.step (OW.allocK (o := o374) Breaker 113 [.int .i64 0, .int .i64 0, .int .i64 0] ty48 rfl) rfl ?_
    rintro _ w394 ⟨pa392, o393, rfl, ev395, hb396⟩
    have hE := hE.evo ev395 rfl rfl
    have h18 := h18.evo ev395 rfl
    have h19 := h19.evo ev395 rfl
    have h20 := h20.evo ev395 rfl
    have h21 := h21.evo ev395 rfl
    have h29 := h29.evo ev395 rfl
    have h30 := h30.evo ev395 rfl
    have h31 := h31.evo ev395 rfl
    have h364 := h364.evo ev395 rfl
    have hb17 := hb17.evo ev395 rfl
    have hb27 := hb27.evo ev395 rfl
    have hb12 := hb12.evo ev395 rfl
    have hs := hs.evo ev395 rfl
    refine WL.p (.int .i64 x361) rfl rfl ?_
    refine WL.step0 (OW.storeK0 Breaker [.int .i64 y385.Kind, .int .i64 y385.A, .int .i64 y385.B] [.int .i64 y385.Kind, .int .i64 y385.A, .int .i64 y385.B] ty48 rfl rfl hb396 rfl ⟨rfl, rfl, rfl, trivial⟩ rfl rfl rfl) ?_
    rintro _ w397 ⟨ev398, hb396⟩
    have hE := hE.evo ev398 rfl rfl
    have h18 := h18.evo ev398 rfl
    have h19 := h19.evo ev398 rfl
    have h20 := h20.evo ev398 rfl
    have h21 := h21.evo ev398 rfl
    have h29 := h29.evo ev398 rfl
    have h30 := h30.evo ev398 rfl
    have h31 := h31.evo ev398 rfl
    have h364 := h364.evo ev398 rfl
    have hb17 := hb17.evo ev398 rfl
    have hb27 := hb27.evo ev398 rfl
    have hb12 := hb12.evo ev398 rfl
    have hs := hs.evo ev398 rfl
    refine WL.nx hK384 ?_
    refine CW.sr fun K399 hK399 => ?_
    refine WL.stepE (OW.fldAddr (FldOk.at f48_0) rfl) rfl ?_
    refine WL.stepE (OW.loadK (off := 0) Int (.int .i64 y385.Kind) ty3 rfl hb396 rfl rfl) rfl ?_
    refine WL.p (.bool (((y385.Kind == 3)))) rfl rfl ?_
    refine WL.p (.bool (((y385.Kind == 3)))) rfl rfl ?_
    obtain ⟨x400, q401, hx377⟩ := bindE hx377
    have hJ404 : ∀ (w402 : World) (o403 : Cls), En w0 e0 o403 w402 → Ow 4 o403 102 [] w402 (.slice none 0 0) ([] : List Bool) → Ow 64 o403 103 [] w402 (.slice none 0 0) ([] : List Running) → Ow 3 o403 104 [] w402 (.slice none 0 0) ([] : List Int) → Ow 66 o403 105 [] w402 (.slice none 0 0) ([] : List Part) → Ow 64 o403 108 [] w402 (.slice none 0 0) ([] : List Running) → Ow 3 o403 109 [] w402 (.slice none 0 0) ([] : List Int) → Ow 66 o403 110 [] w402 (.slice none 0 0) ([] : List Part) → Ow 4 o403 107 [] w402 v363 x362 → Bk o403 101 w402 pa13 [(.slice none 0 0), (.slice none 0 0), (.slice none 0 0), (.slice none 0 0)] → Bk o403 106 w402 pa23 [v363, (.slice none 0 0), (.slice none 0 0), (.slice none 0 0)] → Bk o403 100 w402 pa8 [.int .i64 a1.Buses, u1, u2, u3, .int .i64 a1.Phase, .int .i64 a1.Frequency] → SrcC o403 1 w402 sb sv sL st42 → NK 134 K399 [(0, .pointer (some ⟨sb, 0, none⟩)), (3, .pointer (some pa8)), (4, .pointer (some pa13)), (5, .pointer (some pa23)), (6, .int .i64 x50), (7, .bool x360), (8, .int .i64 x361), (30, .int .i64 (len a1.Consumers)), (31, .int .i64 x50), (35, u1), (36, .int .i64 (len a1.Breakers)), (37, .int .i64 x361), (57, .bool x400)] w402 := by
     intro w402 o403  hE h18 h19 h20 h21 h29 h30 h31 h364 hb17 hb27 hb12 hs
     refine hK399 _ _ ?_
     obtain ⟨z_, q409, hx377⟩ := bindE hx377
     obtain ⟨x405, x406⟩ := z_
     try dsimp only at hx377
     have hJ412 : ∀ (w410 : World) (o411 : Cls) (v407 : Value), En w0 e0 o411 w410 → Ow 4 o411 102 [] w410 (.slice none 0 0) ([] : List Bool) → Ow 64 o411 103 [] w410 (.slice none 0 0) ([] : List Running) → Ow 3 o411 104 [] w410 (.slice none 0 0) ([] : List Int) → Ow 66 o411 105 [] w410 (.slice none 0 0) ([] : List Part) → Ow 64 o411 108 [] w410 (.slice none 0 0) ([] : List Running) → Ow 3 o411 109 [] w410 (.slice none 0 0) ([] : List Int) → Ow 66 o411 110 [] w410 (.slice none 0 0) ([] : List Part) → Ow 4 o411 107 [] w410 v407 x406 → Bk o411 101 w410 pa13 [(.slice none 0 0), (.slice none 0 0), (.slice none 0 0), (.slice none 0 0)] → Bk o411 106 w410 pa23 [v407, (.slice none 0 0), (.slice none 0 0), (.slice none 0 0)] → Bk o411 100 w410 pa8 [.int .i64 a1.Buses, u1, u2, u3, .int .i64 a1.Phase, .int .i64 a1.Frequency] → SrcC o411 1 w410 sb sv sL st42 → NK 134 K383 [(0, .pointer (some ⟨sb, 0, none⟩)), (3, .pointer (some pa8)), (4, .pointer (some pa13)), (5, .pointer (some pa23)), (6, .int .i64 x50), (7, .bool x405), (30, .int .i64 (len a1.Consumers)), (31, .int .i64 x50), (35, u1), (36, .int .i64 (len a1.Breakers)), (37, .int .i64 x361)] w410 := by
      intro w410 o411 v407 hE h18 h19 h20 h21 h29 h30 h31 h408 hb17 hb27 hb12 hs
      refine hK383 _ _ ?_
      refine CW.region ?_
      refine WL.p (.int .i64 ((W (x361 + 1)))) rfl rfl ?_
      refine WL.p (.int .i64 ((W (x361 + 1)))) rfl rfl ?_
      refine WL.nil ?_
      exact NK.sb (hk379 _ _ _ (Option.some.inj hx377).symm ⟨o411, x405, (W (x361 + 1)), x406, v407, rfl, rfl, hE, h18, h19, h20, h21, h29, h30, h31, h408, hb17, hb27, hb12, hs⟩) ⟨rfl, rfl, rfl, rfl, rfl, rfl, rfl, rfl, rfl, rfl, rfl, trivial⟩
     refine CW.cond (b := x400) rfl (fun hc413 => ?_) (fun hc413 => ?_)
     ·have q409 := iteT hc413 q409
      refine CW.sr fun K414 hK414 => ?_
      refine WL.stepE (OW.fldAddr (FldOk.at f45_0) rfl) rfl ?_
      refine WL.stepE (OW.loadK (off := 0) (List Bool) (v363) ty41 rfl hb27 rfl rfl) rfl ?_
      refine WL.p (.int .i64 x361) rfl rfl ?_
      refine WL.p (.bool x360) rfl rfl ?_
      obtain ⟨y415, q419, q409⟩ := bindE q409
      refine WL.stepP (OW.indexAddrO Try.underlying41 ty4 rfl h364 rfl q419) rfl fun _ ⟨pa416, hv_, hp417, he418⟩ => ?_
      subst hv_
      obtain ⟨y420, q423, q409⟩ := bindE q409
      refine WL.step0 (OW.storeElem ty4 rfl he418 h364 rfl (rv_bool.2 rfl) q423 rfl) ?_
      rintro _ w421 ⟨ev422, h424⟩
      have hE := hE.evo ev422 rfl rfl
      have h18 := h18.evo ev422 rfl
      have h19 := h19.evo ev422 rfl
      have h20 := h20.evo ev422 rfl
      have h21 := h21.evo ev422 rfl
      have h29 := h29.evo ev422 rfl
      have h30 := h30.evo ev422 rfl
      have h31 := h31.evo ev422 rfl
      have hb17 := hb17.evo ev422 rfl
      have hb27 := hb27.evo ev422 rfl
      have hb12 := hb12.evo ev422 rfl
      have hs := hs.evo ev422 rfl
      refine WL.nx hK414 ?_
      refine CW.region ?_
      refine WL.p (.bool false) rfl rfl ?_
      refine WL.nil ?_
      have e425 := Option.some.inj q409
      obtain ⟨e426, e427⟩ := Prod.mk.inj e425
      subst e426 e427
      exact NK.sb (hJ412 w421 o403 v363 hE h18 h19 h20 h21 h29 h30 h31 h424 hb17 hb27 hb12 hs) ⟨rfl, rfl, rfl, rfl, rfl, rfl, rfl, rfl, rfl, rfl, rfl, trivial⟩
     ·have q409 := iteF hc413 q409
      refine CW.skip ?_
      have e428 := Option.some.inj q409
      obtain ⟨e429, e430⟩ := Prod.mk.inj e428
      subst e429 e430
      exact NK.sb (hJ412 w402 o403 v363 hE h18 h19 h20 h21 h29 h30 h31 h364 hb17 hb27 hb12 hs) ⟨rfl, rfl, rfl, rfl, rfl, rfl, rfl, rfl, rfl, rfl, rfl, trivial⟩
    rcases Bool.eq_false_or_eq_true (((y385.Kind == 3))) with hc431 | hc431
    ·have q401 := iteT hc431 q401
     refine WL.stepGE rfl rfl rfl hc431 (OW.fldAddr (FldOk.at f48_2) rfl) rfl ?_
     refine WL.stepGE rfl rfl rfl hc431 (OW.loadK (off := 2) Int (.int .i64 y385.B) ty3 rfl hb396 rfl rfl) rfl ?_
     refine WL.stepGE rfl rfl rfl hc431 (OW.pv (v := (.int .i64 x50)) rfl) rfl ?_
     refine WL.stepGE rfl rfl rfl hc431 (OW.pv (v := (.bool (((y385.B == x50))))) rfl) rfl ?_
     refine WL.stepE (OW.pickT rfl hc431 rfl) rfl ?_
     refine WL.p (.bool (((y385.B == x50)))) rfl rfl ?_
     obtain ⟨x432, q433, q401⟩ := bindE q401
     have hJ436 : ∀ (w434 : World) (o435 : Cls), En w0 e0 o435 w434 → Ow 4 o435 102 [] w434 (.slice none 0 0) ([] : List Bool) → Ow 64 o435 103 [] w434 (.slice none 0 0) ([] : List Running) → Ow 3 o435 104 [] w434 (.slice none 0 0) ([] : List Int) → Ow 66 o435 105 [] w434 (.slice none 0 0) ([] : List Part) → Ow 64 o435 108 [] w434 (.slice none 0 0) ([] : List Running) → Ow 3 o435 109 [] w434 (.slice none 0 0) ([] : List Int) → Ow 66 o435 110 [] w434 (.slice none 0 0) ([] : List Part) → Ow 4 o435 107 [] w434 v363 x362 → Bk o435 101 w434 pa13 [(.slice none 0 0), (.slice none 0 0), (.slice none 0 0), (.slice none 0 0)] → Bk o435 106 w434 pa23 [v363, (.slice none 0 0), (.slice none 0 0), (.slice none 0 0)] → Bk o435 113 w434 pa392 [.int .i64 y385.Kind, .int .i64 y385.A, .int .i64 y385.B] → Bk o435 100 w434 pa8 [.int .i64 a1.Buses, u1, u2, u3, .int .i64 a1.Phase, .int .i64 a1.Frequency] → SrcC o435 1 w434 sb sv sL st42 → NK 134 K399 [(0, .pointer (some ⟨sb, 0, none⟩)), (3, .pointer (some pa8)), (4, .pointer (some pa13)), (5, .pointer (some pa23)), (6, .int .i64 x50), (7, .bool x360), (8, .int .i64 x361), (30, .int .i64 (len a1.Consumers)), (31, .int .i64 x50), (35, u1), (36, .int .i64 (len a1.Breakers)), (37, .int .i64 x361), (46, .pointer (some (pa392.add 2))), (47, .int .i64 y385.B), (48, .int .i64 x50), (49, .bool (((y385.B == x50)))), (57, .bool x432)] w434 := by
      intro w434 o435  hE h18 h19 h20 h21 h29 h30 h31 h364 hb17 hb27 hb396 hb12 hs
      have e437 := Option.some.inj q401
      subst e437
      exact NK.sb (hJ404 w434 o435 hE h18 h19 h20 h21 h29 h30 h31 h364 hb17 hb27 hb12 hs) ⟨rfl, rfl, rfl, rfl, rfl, rfl, rfl, rfl, rfl, rfl, rfl, rfl, rfl, trivial⟩
     rcases Bool.eq_false_or_eq_true (((y385.B == x50))) with hc438 | hc438
     ·have q433 := iteT hc438 q433
      refine WL.stepGE rfl rfl rfl hc438 (OW.fldAddr (FldOk.at f45_0) rfl) rfl ?_
      refine WL.stepGE rfl rfl rfl hc438 (OW.loadK (off := 0) (List Bool) (v363) ty41 rfl hb27 rfl rfl) rfl ?_
      refine WL.stepGE rfl rfl rfl hc438 (OW.pv (v := (.int .i64 x361)) rfl) rfl ?_
      obtain ⟨y439, q443, q433⟩ := bindE q433
      refine WL.stepGP rfl rfl rfl hc438 (OW.indexAddrO Try.underlying41 ty4 rfl h364 rfl q443) rfl fun _ ⟨pa440, hv_, hp441, he442⟩ => ?_
      subst hv_
      refine WL.stepGE rfl rfl rfl hc438 (OW.loadB ty4 rfl hp441.at) rfl ?_
      refine WL.stepE (OW.pickT rfl hc438 rfl) rfl ?_
      refine WL.nil ?_
      have e444 := Option.some.inj q433
      subst e444
      exact NK.sb (hJ436 w397 o393 hE h18 h19 h20 h21 h29 h30 h31 h364 hb17 hb27 hb396 hb12 hs) ⟨rfl, rfl, rfl, rfl, rfl, rfl, rfl, rfl, rfl, rfl, rfl, rfl, rfl, rfl, rfl, rfl, rfl, trivial⟩
     ·have q433 := iteF hc438 q433
      refine WL.skipG rfl rfl rfl (by rw [hc438]; rfl) rfl ?_
      refine WL.skipG rfl rfl rfl (by rw [hc438]; rfl) rfl ?_
      refine WL.skipG rfl rfl rfl (by rw [hc438]; rfl) rfl ?_
      refine WL.skipG rfl rfl rfl (by rw [hc438]; rfl) rfl ?_
      refine WL.skipG rfl rfl rfl (by rw [hc438]; rfl) rfl ?_
      refine WL.stepE (OW.pickF rfl hc438 rfl) rfl ?_
      refine WL.nil ?_
      have e445 := Option.some.inj q433
      subst e445
      exact NK.sb (hJ436 w397 o393 hE h18 h19 h20 h21 h29 h30 h31 h364 hb17 hb27 hb396 hb12 hs) ⟨rfl, rfl, rfl, rfl, rfl, rfl, rfl, rfl, rfl, rfl, rfl, rfl, rfl, rfl, rfl, rfl, rfl, trivial⟩
    ·have q401 := iteF hc431 q401
     refine WL.skipG rfl rfl rfl (by rw [hc431]; rfl) rfl ?_
     refine WL.skipG rfl rfl rfl (by rw [hc431]; rfl) rfl ?_
     refine WL.skipG rfl rfl rfl (by rw [hc431]; rfl) rfl ?_
     refine WL.skipG rfl rfl rfl (by rw [hc431]; rfl) rfl ?_
     refine WL.stepE (OW.pickF rfl hc431 rfl) rfl ?_
     refine WL.p (.bool false) rfl rfl ?_
     refine WL.skipG rfl rfl rfl rfl rfl ?_
     refine WL.skipG rfl rfl rfl rfl rfl ?_
     refine WL.skipG rfl rfl rfl rfl rfl ?_
     refine WL.skipG rfl rfl rfl rfl rfl ?_
     refine WL.skipG rfl rfl rfl rfl rfl ?_
     refine WL.stepE (OW.pickF rfl rfl rfl) rfl ?_
     refine WL.nil ?_
     have e446 := Option.some.inj q401
     subst e446
     exact NK.sb (hJ404 w397 o393 hE h18 h19 h20 h21 h29 h30 h31 h364 hb17 hb27 hb12 hs) ⟨rfl, rfl, rfl, rfl, rfl, rfl, rfl, rfl, rfl, rfl, rfl, rfl, rfl, trivial⟩
   ·have hx377 := iteF hc382 hx377
    refine CW.exit ?_
    exact NK.sb (hJ372 x362 w373 o374 v363 (hr378 _ (Option.some.inj hx377).symm) hE h18 h19 h20 h21 h29 h30 h31 h364 hb17 hb27 hb12 hs) ⟨rfl, rfl, rfl, rfl, rfl, rfl, trivial⟩
  ·have hx350 := iteF hc355 hx350
   refine CW.exit ?_
   exact NK.sb (hJ61 x51 w346 o347 v52 (hr351 _ (Option.some.inj hx350).symm) hE h18 h19 h20 h21 h29 h30 h31 h53 hb17 hb27 hb12 hs) ⟨rfl, rfl, rfl, rfl, trivial⟩
 refine CW.sub (L' := [(0, .pointer (some ⟨sb, 0, none⟩)), (3, .pointer (some pa8)), (4, .pointer (some pa13)), (5, .pointer (some pa23)), (16, .int .i64 (len a1.Breakers)), (17, .int .i64 0)]) ⟨rfl, rfl, rfl, rfl, rfl, rfl, trivial⟩ ?_
 refine CW.loop (Src_Power_L1 a1) (fun s_ L_ w447 => ∃ (o448 : Cls) (x34 : Int) (x35 : (List Bool)) (st38 : List Int) (v36 : Value), (x34, x35, st38) = s_ ∧ L_ = [(0, .pointer (some ⟨sb, 0, none⟩)), (3, .pointer (some pa8)), (4, .pointer (some pa13)), (5, .pointer (some pa23)), (16, .int .i64 (len a1.Breakers)), (17, .int .i64 x34)] ∧ En w0 e0 o448 w447 ∧ Ow 4 o448 102 [] w447 (.slice none 0 0) ([] : List Bool) ∧ Ow 64 o448 103 [] w447 (.slice none 0 0) ([] : List Running) ∧ Ow 3 o448 104 [] w447 (.slice none 0 0) ([] : List Int) ∧ Ow 66 o448 105 [] w447 (.slice none 0 0) ([] : List Part) ∧ Ow 64 o448 108 [] w447 (.slice none 0 0) ([] : List Running) ∧ Ow 3 o448 109 [] w447 (.slice none 0 0) ([] : List Int) ∧ Ow 66 o448 110 [] w447 (.slice none 0 0) ([] : List Part) ∧ Ow 4 o448 107 [] w447 v36 x35 ∧ Bk o448 101 w447 pa13 [(.slice none 0 0), (.slice none 0 0), (.slice none 0 0), (.slice none 0 0)] ∧ Bk o448 106 w447 pa23 [v36, (.slice none 0 0), (.slice none 0 0), (.slice none 0 0)] ∧ Bk o448 100 w447 pa8 [.int .i64 a1.Buses, u1, u2, u3, .int .i64 a1.Phase, .int .i64 a1.Frequency] ∧ SrcC o448 1 w447 sb sv sL st38) hl43 ?_ ?_
 ·exact ⟨o24, 0, ([] : List Bool), st0, (.slice none 0 0), rfl, rfl, hE, h18, h19, h20, h21, h29, h30, h31, h28, hb17, hb27, hb12, hs⟩
 intro K449 s_ L_ w447 hi_ x450 hx451 hr452 hk453
 obtain ⟨o448, x34, x35, st38, v36, rfl, rfl, hE, h18, h19, h20, h21, h29, h30, h31, h37, hb17, hb27, hb12, hs⟩ := hi_
 rw [Src_Power_L1] at hx451
 refine CW.sr fun K454 hK454 => ?_
 refine WL.p (.bool ((decide (x34 < (len a1.Breakers))))) rfl rfl ?_
 refine WL.nx hK454 ?_
 refine CW.seq fun K455 hK455 => ?_
 refine CW.cond (b := (decide (x34 < (len a1.Breakers)))) rfl (fun hc456 => ?_) (fun hc456 => ?_)
 ·have hx451 := iteT hc456 hx451
  refine CW.skip ?_
  refine hK455 _ _ ?_
  refine CW.seq fun K457 hK457 => ?_
  refine CW.block ?_
  obtain ⟨⟨y459, st460⟩, q461, hx451⟩ := bindE hx451
  dsimp only at hx451
  obtain ⟨y473, q474, hx451⟩ := bindE hx451
  have ev_ := Evo.drew o448 w447
  refine CW.anyS (N := [1, 106, 107, 111, 112]) hmix [sOw none (some 6) [] 4 107 [] (vk v36) x35, sBk none (some 8) [] 106 (vk pa23) (vk ([v36, (.slice none 0 0), (.slice none 0 0), (.slice none 0 0)])), sSr none (some 3) [] 1 sb sv sL st38, sSr (some 3) none [] 1 sb sv sL st460, sOw (some 5) none [5] 4 112 [] (vn 0) (([((y459 == 1))] : List Bool)), sOw (some 6) none [6] 4 107 [] (vn 0) y473, sBk (some 8) none [6] 106 (vk pa23) (fun x_ => [(x_.getD 0 undef), (.slice none 0 0), (.slice none 0 0), (.slice none 0 0)])] [⟨[], [], [], [], vk (.pointer (some (pa23.add 0))), false⟩, ⟨[], [1], [0], [], vk v36, false⟩, ⟨[], [], [], [], vk (.pointer (some ⟨sb, 0, none⟩)), false⟩, ⟨[1], [2], [2], [], vk (.int .i64 y459), false⟩, ⟨[], [], [2, 3], [], vk (.bool (((y459 == 1)))), false⟩, ⟨[], [], [2, 3, 4], [5], vn 0, false⟩, ⟨[107], [0, 4], rg 0 6, [6], vn 0, false⟩, ⟨[], [], rg 0 7, [], vk (.pointer (some (pa23.add 0))), false⟩, ⟨[106], [1, 5], rg 0 8, [], vk undef, false⟩] [1, 106, 107] hE rfl (by kernel_rfl) (by kernel_rfl) ⟨h37.evo ev_ rfl, hb27.evo ev_ rfl, hs.evo ev_ rfl, trivial⟩ ⟨?_, ?_, Ob.pv rfl rfl (fun _ => rfl) rfl (fun _ _ _ => trivial), ?_, Ob.pv rfl rfl (fun _ => rfl) rfl (fun _ _ _ => trivial), ?_, ?_, ?_, ?_, trivial⟩ ?_
  ·intro vs483 o_ w_ hE 
   exact OW.q [(5, .pointer (some pa23))] ⟨rfl, trivial⟩ (OW.fldAddr (FldOk.at f45_0) rfl) (er rfl trivial)
  ·intro vs483 o_ w_ hE hb27
   have hb27 := tBk hb27
   exact OW.q [(19, .pointer (some (pa23.add 0)))] ⟨rfl, trivial⟩ (OW.loadK (off := 0) (List Bool) (v36) ty41 rfl hb27 rfl rfl) (er rfl trivial)
  ·intro vs483 o_ w_ hE hs
   have hE := hE.1
   have hs := tSr hs
   have hm458 : MbOk o_ w_ 0 [sb] [1] := ⟨.inl ⟨hs.1.lt, hs.2⟩, trivial⟩
   refine OW.r [(21, .pointer (some ⟨sb, 0, none⟩))] ⟨rfl, trivial⟩ (OW.call Try.call13 rfl (Src_N_ok q461 hs.1 (hL.baseM hE rfl) (hm458.sep rfl) (hm458.nodup rfl))) ?_
   rintro _ w462 ⟨o466, hn_, rfl, hs467⟩
   obtain ⟨o463, ev464, hA465⟩ := adopt (o := o_) (ks := [1]) (Ks := [[40]]) 111 ([]) [1, 111] hn_ hm458 rfl rfl rfl rfl
   have hs467 := hs467.ad (c' := 1) hA465 rfl
   exact ⟨o463, ev464.sub rfl rfl, rfl, hs467, trivial⟩
  ·intro vs483 o_ w_ hE 
   refine OW.r [(23, .bool (((y459 == 1))))] ⟨rfl, trivial⟩ (OW.buildSlice (o := o_) (k := 112) (K := []) (xs := ([((y459 == 1))] : List Bool)) Try.underlying41 ty4 rfl ⟨(rv_bool.2 rfl), trivial⟩ rfl rfl) ?_
   rintro v468 w469 ⟨o470, ev471, h472⟩
   exact ⟨o470, ev471.sub rfl rfl, rfl, h472, trivial⟩
  ·intro vs483 o_ w_ hE h37 h472
   have h37 := tOw h37
   have h472 := tOw h472
   refine OW.r [(20, v36), (24, (vs483 5))] ⟨rfl, rfl, trivial⟩ (OW.append (K := []) Try.underlying41 ty4 rfl rfl h37 h472.els.flat q474 rfl) ?_
   rintro v475 w476 ⟨o477, ev478, h479⟩
   exact ⟨o477, ev478.sub rfl rfl, rfl, h479, trivial⟩
  ·intro vs483 o_ w_ hE 
   exact OW.q [(5, .pointer (some pa23))] ⟨rfl, trivial⟩ (OW.fldAddr (FldOk.at f45_0) rfl) (er rfl trivial)
  ·intro vs483 o_ w_ hE hb27 h479
   have hb27 := tBk hb27
   have h479 := tOw h479
   refine OW.r [(25, (vs483 6)), (26, .pointer (some (pa23.add 0)))] ⟨rfl, rfl, trivial⟩ (OW.storeK (off := 0) (List Bool) [(vs483 6), (.slice none 0 0), (.slice none 0 0), (.slice none 0 0)] [(vs483 6)] ty41 rfl rfl hb27 (cells_one (h479.one)) ⟨(h479.one), trivial⟩ rfl rfl rfl) ?_
   rintro _ w480 ⟨ev481, hb482⟩
   exact ⟨o_, ev481.sub rfl rfl, trivial, hb482, trivial⟩
  ·intro vs483 o485 w484 hE hs467 h472 h479 hb482
   obtain ⟨hE, evT_⟩ := hE
   have hs467 : SrcC o485 1 w484 sb sv sL st460 := hs467
   have h472 : Ow 4 o485 112 [] w484 (vs483 5) (([((y459 == 1))] : List Bool)) := h472
   have h479 : Ow 4 o485 107 [] w484 (vs483 6) y473 := h479
   have hb482 : Bk o485 106 w484 pa23 [(vs483 6), (.slice none 0 0), (.slice none 0 0), (.slice none 0 0)] := hb482
   have h18 := h18.evo evT_ rfl
   have h19 := h19.evo evT_ rfl
   have h20 := h20.evo evT_ rfl
   have h21 := h21.evo evT_ rfl
   have h29 := h29.evo evT_ rfl
   have h30 := h30.evo evT_ rfl
   have h31 := h31.evo evT_ rfl
   have hb17 := hb17.evo evT_ rfl
   have hb12 := hb12.evo evT_ rfl
   refine hK457 _ _ ?_
   refine CW.region ?_
   refine WL.p (.int .i64 ((W (x34 + 1)))) rfl rfl ?_
   refine WL.p (.int .i64 ((W (x34 + 1)))) rfl rfl ?_
   refine WL.nil ?_
   exact NK.sb (hk453 _ _ _ (Option.some.inj hx451).symm ⟨o485, (W (x34 + 1)), y473, st460, (vs483 6), rfl, rfl, hE, h18, h19, h20, h21, h29, h30, h31, h479, hb17, hb482, hb12, hs467⟩) ⟨rfl, rfl, rfl, rfl, rfl, rfl, trivial⟩
 ·have hx451 := iteF hc456 hx451
  refine CW.exit ?_
  exact NK.sb (hJ47 x35 st38 w447 o448 v36 (hr452 _ (Option.some.inj hx451).symm) hE h18 h19 h20 h21 h29 h30 h31 h37 hb17 hb27 hb12 hs) ⟨rfl, rfl, rfl, rfl, trivial⟩

end Go.Proofs.Ytnpghnnlcakbfaa
