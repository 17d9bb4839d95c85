/- Walks. Written by a program (wip/gen). -/
import Derived.Test.YtnpghnnlcakbfaaHw
namespace Go.Proofs.Ytnpghnnlcakbfaa
open Go Go.RowKit Dp

set_option maxRecDepth 100000

set_option maxHeartbeats 1000000 in
theorem Src_Pick_ok {st0 : List Int} {a1 : (List Int)} {r : (Int × List Int)} (hF : Src_Pick st0 a1 = some r) {w0 : World} {sb : Nat} {sv : Value} {sL : List Int} {Ss : Nat → Prop} (hs : SrcB w0 sb sv sL st0) (hL : Rv Ss w0 sv sL) (hLn : ∀ b, Ss b → b ≠ sb) {p1 : Value} {S1 : Nat → Prop} (g1 : Rv S1 w0 p1 a1) (n1 : ∀ b, S1 b → b ≠ sb) :
    Calls Try.prog 44 #[.pointer (some ⟨sb, 0, none⟩), p1] w0 (Ret fun v w' => w0.grownBy w' (some sb) ∧ SrcB w' sb sv sL r.2 ∧ v = .int .i64 r.1) := by
  have hE := Ent.refl w0 (some sb)
  have hs : SrcC (ent w0 (some sb)) 1 w0 sb sv sL st0 := ⟨hs, ent_src hs⟩
  have hL := hL.arg (sb := some sb) (fun b hb e => hLn b hb (Option.some.inj e))
  have g1 := g1.arg (sb := some sb) (fun b hb e => n1 b hb (Option.some.inj e))
  rw [Src_Pick] at hF
  refine enter (l := [.pointer (some ⟨sb, 0, none⟩), p1]) Try.func44 rfl Try.ntmps44 rfl ?_
  refine CW.sub (L' := [(0, .pointer (some ⟨sb, 0, none⟩)), (1, p1)]) ⟨rfl, rfl, trivial⟩ ?_
  refine CW.seq fun K1 hK1 => ?_
  refine CW.region ?_
  refine WL.stepE (OW.pv (v := .int .i64 0) rfl) rfl ?_
  refine WL.nil ?_
  refine NK.sub (L' := [(0, .pointer (some ⟨sb, 0, none⟩)), (1, p1)]) ⟨rfl, rfl, trivial⟩ ?_
  refine hK1 _ _ ?_
  refine CW.seq fun K2 hK2 => ?_
  refine CW.region ?_
  refine WL.stepE (OW.pv (v := p1) rfl) rfl ?_
  refine WL.stepE (OW.pv (v := .pointer (some ⟨sb, 0, none⟩)) rfl) rfl ?_
  refine WL.stepE (OW.pv (v := p1) rfl) rfl ?_
  refine WL.stepE (OW.len Try.underlying22 rfl (g1.base hE)) rfl ?_
  obtain ⟨⟨y3, st4⟩, q5, hF⟩ := bindE hF
  dsimp only at hF
  refine WL.step (OW.call Try.call13 rfl (Src_N_ok q5 hs.1 (hL.base hE) (src_not hs.2 rfl))) rfl ?_
  rintro _ w6 ⟨hb10, hs_, rfl⟩
  obtain ⟨o7, ev8, hn9⟩ := but_new (o := (ent w0 (some sb))) 2 hb10 hs.2
  have hs := hs.new ev8 hs_
  have hE := hE.evo ev8 rfl rfl
  obtain ⟨y11, q15, hF⟩ := bindE hF
  refine WL.stepP (OW.indexAddr Try.underlying22 ty3 rfl (g1.base hE) rfl q15) rfl fun _ ⟨pa12, hv_, hp13, he14⟩ => ?_
  subst hv_
  refine WL.stepE (OW.loadI ty3 rfl hp13) rfl ?_
  refine WL.stepE (OW.pv (v := .int .i64 y11) rfl) rfl ?_
  refine WL.nil ?_
  refine NK.sub (L' := [(4, .int .i64 y11)]) ⟨rfl, trivial⟩ ?_
  refine hK2 _ _ ?_
  obtain rfl := Option.some.inj hF
  exact CW.rets (vs := [.int .i64 y11]) Try.results44 ⟨rfl, trivial⟩ ⟨_, rfl, hE.but, hs.1, rfl⟩ (fun _ _ h => h)

set_option maxHeartbeats 1000000 in
theorem dynposlaw17_ratings_ok {st0 : List Int} {r : ((List Int) × List Int)} (hF : dynposlaw17_ratings st0 = some r) {w0 : World} {sb : Nat} {sv : Value} {sL : List Int} {Ss : Nat → Prop} (hs : SrcB w0 sb sv sL st0) (hL : Rv Ss w0 sv sL) (hLn : ∀ b, Ss b → b ≠ sb) :
    Calls Try.prog 10 #[.pointer (some ⟨sb, 0, none⟩)] w0 (Ret fun v w' => w0.grownBy w' (some sb) ∧ SrcB w' sb sv sL r.2 ∧ Rv (fun b => w0.heap.size ≤ b) w' v r.1) := by
  have hE := Ent.refl w0 (some sb)
  have hs : SrcC (ent w0 (some sb)) 1 w0 sb sv sL st0 := ⟨hs, ent_src hs⟩
  have hL := hL.arg (sb := some sb) (fun b hb e => hLn b hb (Option.some.inj e))
  rw [dynposlaw17_ratings] at hF
  refine enter (l := [.pointer (some ⟨sb, 0, none⟩)]) Try.func10 rfl Try.ntmps10 rfl ?_
  refine CW.sub (L' := [(0, .pointer (some ⟨sb, 0, none⟩))]) ⟨rfl, trivial⟩ ?_
  refine CW.seq fun K1 hK1 => ?_
  refine CW.region ?_
  have h2 := Ow.nil (α := Int) 3 (ent w0 (some sb)) 2 [] w0
  refine WL.stepE (OW.pv (v := (.slice none 0 0)) rfl) rfl ?_
  refine WL.nil ?_
  refine NK.sub (L' := [(0, .pointer (some ⟨sb, 0, none⟩))]) ⟨rfl, trivial⟩ ?_
  refine hK1 _ _ ?_
  refine CW.seq fun K3 hK3 => ?_
  refine CW.region ?_
  have h4 := Ow.nil (α := Int) 3 (ent w0 (some sb)) 3 [] w0
  refine WL.stepE (OW.pv (v := (.slice none 0 0)) rfl) rfl ?_
  refine WL.nil ?_
  refine NK.sub (L' := [(0, .pointer (some ⟨sb, 0, none⟩)), (3, (.slice none 0 0))]) ⟨rfl, rfl, trivial⟩ ?_
  refine hK3 _ _ ?_
  refine CW.seq fun K5 hK5 => ?_
  refine CW.seq fun K6 hK6 => ?_
  refine CW.region ?_
  refine WL.stepE (OW.pv (v := .pointer (some ⟨sb, 0, none⟩)) rfl) rfl ?_
  obtain ⟨⟨y7, st8⟩, q9, hF⟩ := bindE hF
  dsimp only at hF
  refine WL.step (OW.call Try.call13 rfl (Src_N_ok q9 hs.1 (hL.base hE) (src_not hs.2 rfl))) rfl ?_
  rintro _ w10 ⟨hb14, hs_, rfl⟩
  obtain ⟨o11, ev12, hn13⟩ := but_new (o := (ent w0 (some sb))) 4 hb14 hs.2
  have hs := hs.new ev12 hs_
  have hE := hE.evo ev12 rfl rfl
  have h4 := h4.evo ev12 rfl
  refine WL.stepE (OW.pv (v := .int .i64 y7) rfl) rfl ?_
  refine WL.nil ?_
  refine NK.sub (L' := [(0, .pointer (some ⟨sb, 0, none⟩)), (3, (.slice none 0 0)), (4, .int .i64 y7)]) ⟨rfl, rfl, rfl, trivial⟩ ?_
  refine hK6 _ _ ?_
  refine CW.block ?_
  obtain ⟨r25, hl24, hF⟩ := bindE hF
  have hJ28 : ∀ (x20 : (List Int)) (st23 : List Int) (w26 : World) (o27 : Cls) (v21 : Value), (x20, st23) = r25 → Ent w0 (some sb) o27 w26 → Ow 3 o27 3 [] w26 v21 x20 → SrcC o27 1 w26 sb sv sL st23 → NK 18 K5 [(3, v21)] w26 := by
    intro x20 st23 w26 o27 v21 e_ hE h22 hs
    subst e_
    try dsimp only at hF
    refine NK.sub (L' := [(3, v21)]) ⟨rfl, trivial⟩ ?_
    refine hK5 _ _ ?_
    refine CW.seq fun K29 hK29 => ?_
    refine CW.region ?_
    refine WL.stepE (OW.pv (v := v21) rfl) rfl ?_
    refine WL.stepE (OW.pv (v := v21) rfl) rfl ?_
    refine WL.nil ?_
    refine NK.sub (L' := [(2, v21)]) ⟨rfl, trivial⟩ ?_
    refine hK29 _ _ ?_
    obtain rfl := Option.some.inj hF
    exact CW.rets (vs := [v21]) Try.results10 ⟨rfl, trivial⟩ ⟨_, rfl, hE.but, hs.1, (h22.rv).out hE rfl⟩ (fun _ _ h => h)
  refine CW.sub (L' := [(0, .pointer (some ⟨sb, 0, none⟩)), (3, (.slice none 0 0)), (4, .int .i64 y7)]) ⟨rfl, rfl, rfl, trivial⟩ ?_
  refine CW.loop (dynposlaw17_ratings_L1) (fun s_ L_ w30 => ∃ (o31 : Cls) (x15 : (List Int)) (x18 : Int) (st19 : List Int) (v16 : Value), (x15, x18, st19) = s_ ∧ L_ = [(0, .pointer (some ⟨sb, 0, none⟩)), (3, v16), (4, .int .i64 x18)] ∧ Ent w0 (some sb) o31 w30 ∧ Ow 3 o31 3 [] w30 v16 x15 ∧ SrcC o31 1 w30 sb sv sL st19) hl24 ?_ ?_
  · exact ⟨o11, ([] : List Int), y7, st8, (.slice none 0 0), rfl, rfl, hE, h4, hs⟩
  intro K32 s_ L_ w30 hi_ x33 hx34 hr35 hk36
  obtain ⟨o31, x15, x18, st19, v16, rfl, rfl, hE, h17, hs⟩ := hi_
  rw [dynposlaw17_ratings_L1] at hx34
  refine CW.seq fun K37 hK37 => ?_
  refine CW.seq fun K38 hK38 => ?_
  refine CW.region ?_
  refine WL.stepE (OW.pv (v := .int .i64 x18) rfl) rfl ?_
  refine WL.stepE (OW.pv (v := .bool ((decide (x18 > 0)))) rfl) rfl ?_
  refine WL.nil ?_
  refine NK.sub (L' := [(0, .pointer (some ⟨sb, 0, none⟩)), (3, v16), (4, .int .i64 x18), (8, .bool ((decide (x18 > 0))))]) ⟨rfl, rfl, rfl, rfl, trivial⟩ ?_
  refine hK38 _ _ ?_
  refine CW.cond (b := (decide (x18 > 0))) rfl (fun hc39 => ?_) (fun hc39 => ?_)
  · have hx34 := iteT hc39 hx34
    refine CW.skip ?_
    refine NK.sub (L' := [(0, .pointer (some ⟨sb, 0, none⟩)), (3, v16), (4, .int .i64 x18)]) ⟨rfl, rfl, rfl, trivial⟩ ?_
    refine hK37 _ _ ?_
    refine CW.seq fun K40 hK40 => ?_
    refine CW.block ?_
    refine CW.region ?_
    refine WL.stepE (OW.pv (v := v16) rfl) rfl ?_
    refine WL.stepE (OW.pv (v := .pointer (some ⟨sb, 0, none⟩)) rfl) rfl ?_
    refine WL.step (OW.buildSlice (o := o31) (k := 5) (K := []) (xs := ([1, 3, 10, 50, 100] : List Int)) Try.underlying22 ty3 rfl ⟨(rv_int.2 rfl), (rv_int.2 rfl), (rv_int.2 rfl), (rv_int.2 rfl), (rv_int.2 rfl), trivial⟩ rfl rfl) rfl ?_
    rintro v41 w42 ⟨o43, ev44, h45⟩
    have hE := hE.evo ev44 rfl rfl
    have h17 := h17.evo ev44 rfl
    have hs := hs.evo ev44 rfl
    obtain ⟨⟨y46, st47⟩, q48, hx34⟩ := bindE hx34
    dsimp only at hx34
    refine WL.step (OW.call Try.call44 rfl (Src_Pick_ok q48 hs.1 (hL.base hE) (src_not hs.2 rfl) h45.rv (src_not hs.2 rfl))) rfl ?_
    rintro _ w49 ⟨hb53, hs_, rfl⟩
    obtain ⟨o50, ev51, hn52⟩ := but_new (o := o43) 6 hb53 hs.2
    have hs := hs.new ev51 hs_
    have hE := hE.evo ev51 rfl rfl
    have h17 := h17.evo ev51 rfl
    have h45 := h45.evo ev51 rfl
    refine WL.step (OW.buildSlice (o := o50) (k := 7) (K := []) (xs := ([y46] : List Int)) Try.underlying22 ty3 rfl ⟨(rv_int.2 rfl), trivial⟩ rfl rfl) rfl ?_
    rintro v54 w55 ⟨o56, ev57, h58⟩
    have hE := hE.evo ev57 rfl rfl
    have h17 := h17.evo ev57 rfl
    have hs := hs.evo ev57 rfl
    obtain ⟨y59, q60, hx34⟩ := bindE hx34
    refine WL.step (OW.append (K := []) Try.underlying22 ty3 rfl rfl h17 h58.els.flat q60 rfl) rfl ?_
    rintro v61 w62 ⟨o63, ev64, h65⟩
    have hE := hE.evo ev64 rfl rfl
    have h58 := h58.evo ev64 rfl
    have hs := hs.evo ev64 rfl
    refine WL.stepE (OW.pv (v := v61) rfl) rfl ?_
    refine WL.nil ?_
    refine NK.sub (L' := [(0, .pointer (some ⟨sb, 0, none⟩)), (3, v61), (4, .int .i64 x18)]) ⟨rfl, rfl, rfl, trivial⟩ ?_
    refine hK40 _ _ ?_
    refine CW.region ?_
    refine WL.stepE (OW.pv (v := .int .i64 x18) rfl) rfl ?_
    refine WL.stepE (OW.pv (v := .int .i64 ((W (x18 - 1)))) rfl) rfl ?_
    refine WL.stepE (OW.pv (v := .int .i64 ((W (x18 - 1)))) rfl) rfl ?_
    refine WL.nil ?_
    exact NK.sub (L' := [(0, .pointer (some ⟨sb, 0, none⟩)), (3, v61), (4, .int .i64 ((W (x18 - 1))))]) ⟨rfl, rfl, rfl, trivial⟩ (hk36 _ _ _ (Option.some.inj hx34).symm ⟨o63, y59, (W (x18 - 1)), st47, v61, rfl, rfl, hE, h65, hs⟩)
  · have hx34 := iteF hc39 hx34
    refine CW.exit ?_
    exact NK.sub (L' := [(3, v16)]) ⟨rfl, trivial⟩ (hJ28 x15 st19 w30 o31 v16 (hr35 _ (Option.some.inj hx34).symm) hE h17 hs)

set_option maxHeartbeats 1000000 in
theorem balance_check_ok {a0 : Int} {a1 : (List Int)} {r : (Int × Int)} (hF : balance_check a0 a1 = some r) {w0 : World} {p1 : Value} {S1 : Nat → Prop} (g1 : Rv S1 w0 p1 a1) :
    Calls Try.prog 46 #[.int .i64 a0, p1] w0 (Ret fun v w' => Below w0.heap.size w0 w' ∧ v = .tuple #[.int .i64 r.1, .int .i64 r.2]) := by
  have hE := Ent.refl w0 none
  have g1 := g1.arg0
  rw [balance_check] at hF
  refine enter (l := [.int .i64 a0, p1]) Try.func46 rfl Try.ntmps46 rfl ?_
  refine CW.sub (L' := [(0, .int .i64 a0), (1, p1)]) ⟨rfl, rfl, trivial⟩ ?_
  refine CW.seq fun K1 hK1 => ?_
  refine CW.region ?_
  refine WL.stepE (OW.pv (v := .int .i64 0) rfl) rfl ?_
  refine WL.stepE (OW.pv (v := .int .i64 0) rfl) rfl ?_
  refine WL.nil ?_
  refine NK.sub (L' := [(0, .int .i64 a0), (1, p1)]) ⟨rfl, rfl, trivial⟩ ?_
  refine hK1 _ _ ?_
  refine CW.seq fun K2 hK2 => ?_
  refine CW.seq fun K3 hK3 => ?_
  refine CW.region ?_
  refine WL.stepE (OW.pv (v := p1) rfl) rfl ?_
  refine WL.stepE (OW.len Try.underlying22 rfl (g1.base hE)) rfl ?_
  refine WL.stepE (OW.pv (v := .bool ((decide ((len a1) > 8)))) rfl) rfl ?_
  refine WL.nil ?_
  refine NK.sub (L' := [(0, .int .i64 a0), (1, p1), (11, .bool ((decide ((len a1) > 8))))]) ⟨rfl, rfl, rfl, trivial⟩ ?_
  refine hK3 _ _ ?_
  refine CW.cond (b := (decide ((len a1) > 8))) rfl (fun hc4 => ?_) (fun hc4 => ?_)
  · have hF := iteT hc4 hF
    refine CW.seq fun K5 hK5 => ?_
    refine CW.region ?_
    refine WL.stepE (OW.pv (v := .int .i64 0) rfl) rfl ?_
    refine WL.stepE (OW.pv (v := .int .i64 2) rfl) rfl ?_
    refine WL.nil ?_
    refine NK.sub (L' := [(4, .int .i64 0), (5, .int .i64 2)]) ⟨rfl, rfl, trivial⟩ ?_
    refine hK5 _ _ ?_
    obtain rfl := Option.some.inj hF
    exact CW.rets (vs := [.int .i64 0, .int .i64 2]) Try.results46 ⟨rfl, rfl, trivial⟩ ⟨_, rfl, hE.fresh, rfl⟩ (fun _ _ h => h)
  · have hF := iteF hc4 hF
    refine CW.skip ?_
    refine NK.sub (L' := [(0, .int .i64 a0), (1, p1)]) ⟨rfl, rfl, trivial⟩ ?_
    refine hK2 _ _ ?_
    refine CW.seq fun K6 hK6 => ?_
    refine CW.region ?_
    refine WL.stepE (OW.pv (v := .int .i64 0) rfl) rfl ?_
    refine WL.nil ?_
    refine NK.sub (L' := [(0, .int .i64 a0), (1, p1), (6, .int .i64 0)]) ⟨rfl, rfl, rfl, trivial⟩ ?_
    refine hK6 _ _ ?_
    refine CW.seq fun K7 hK7 => ?_
    refine CW.seq fun K8 hK8 => ?_
    refine CW.region ?_
    refine WL.stepE (OW.pv (v := p1) rfl) rfl ?_
    refine WL.stepE (OW.len Try.underlying22 rfl (g1.base hE)) rfl ?_
    refine WL.stepE (OW.pv (v := .int .i64 0) rfl) rfl ?_
    refine WL.nil ?_
    refine NK.sub (L' := [(0, .int .i64 a0), (1, p1), (6, .int .i64 0), (12, p1), (13, .int .i64 (len a1)), (14, .int .i64 0)]) ⟨rfl, rfl, rfl, rfl, rfl, rfl, trivial⟩ ?_
    refine hK8 _ _ ?_
    refine CW.block ?_
    obtain ⟨r13, hl12, hF⟩ := bindE hF
    have hJ16 : ∀ (x11 : Int) (w14 : World) (o15 : Cls), .inl x11 = r13 → Ent w0 none o15 w14 → NK 44 K7 [(0, .int .i64 a0), (1, p1), (6, .int .i64 x11)] w14 := by
      intro x11 w14 o15  e_ hE
      subst e_
      have hF := elimL hF
      try dsimp only at hF
      refine NK.sub (L' := [(0, .int .i64 a0), (1, p1), (6, .int .i64 x11)]) ⟨rfl, rfl, rfl, trivial⟩ ?_
      refine hK7 _ _ ?_
      refine CW.seq fun K17 hK17 => ?_
      refine CW.block ?_
      refine CW.seq fun K18 hK18 => ?_
      refine CW.region ?_
      refine WL.stepE (OW.pv (v := .int .i64 a0) rfl) rfl ?_
      refine WL.stepE (OW.pv (v := .bool ((decide (a0 < 0)))) rfl) rfl ?_
      refine WL.stepE (OW.pv (v := .bool ((decide (a0 < 0)))) rfl) rfl ?_
      obtain ⟨x19, q20, hF⟩ := bindE hF
      have hJ23 : ∀ (w21 : World) (o22 : Cls), Ent w0 none o22 w21 → NK 44 K18 [(0, .int .i64 a0), (1, p1), (6, .int .i64 x11), (28, .bool x19)] w21 := by
        intro w21 o22  hE
        refine NK.sub (L' := [(0, .int .i64 a0), (1, p1), (6, .int .i64 x11), (28, .bool x19)]) ⟨rfl, rfl, rfl, rfl, trivial⟩ ?_
        refine hK18 _ _ ?_
        refine CW.cond (b := x19) rfl (fun hc24 => ?_) (fun hc24 => ?_)
        · have hF := iteT hc24 hF
          refine CW.seq fun K25 hK25 => ?_
          refine CW.region ?_
          refine WL.stepE (OW.pv (v := .int .i64 0) rfl) rfl ?_
          refine WL.stepE (OW.pv (v := .int .i64 1) rfl) rfl ?_
          refine WL.nil ?_
          refine NK.sub (L' := [(4, .int .i64 0), (5, .int .i64 1)]) ⟨rfl, rfl, trivial⟩ ?_
          refine hK25 _ _ ?_
          obtain rfl := Option.some.inj hF
          exact CW.rets (vs := [.int .i64 0, .int .i64 1]) Try.results46 ⟨rfl, rfl, trivial⟩ ⟨_, rfl, hE.fresh, rfl⟩ (fun _ _ h => h)
        · have hF := iteF hc24 hF
          refine CW.seq fun K26 hK26 => ?_
          refine CW.region ?_
          refine WL.stepE (OW.pv (v := p1) rfl) rfl ?_
          refine WL.stepE (OW.len Try.underlying22 rfl (g1.base hE)) rfl ?_
          refine WL.stepE (OW.pv (v := .bool ((((len a1) == 0)))) rfl) rfl ?_
          refine WL.stepE (OW.pv (v := .bool ((((len a1) == 0)))) rfl) rfl ?_
          obtain ⟨x27, q28, hF⟩ := bindE hF
          have hJ31 : ∀ (w29 : World) (o30 : Cls), Ent w0 none o30 w29 → NK 44 K26 [(6, .int .i64 x11), (35, .bool x27)] w29 := by
            intro w29 o30  hE
            refine NK.sub (L' := [(6, .int .i64 x11), (35, .bool x27)]) ⟨rfl, rfl, trivial⟩ ?_
            refine hK26 _ _ ?_
            refine CW.cond (b := x27) rfl (fun hc32 => ?_) (fun hc32 => ?_)
            · have hF := iteT hc32 hF
              refine CW.seq fun K33 hK33 => ?_
              refine CW.region ?_
              refine WL.stepE (OW.pv (v := .int .i64 0) rfl) rfl ?_
              refine WL.stepE (OW.pv (v := .int .i64 9) rfl) rfl ?_
              refine WL.nil ?_
              refine NK.sub (L' := [(4, .int .i64 0), (5, .int .i64 9)]) ⟨rfl, rfl, trivial⟩ ?_
              refine hK33 _ _ ?_
              obtain rfl := Option.some.inj hF
              exact CW.rets (vs := [.int .i64 0, .int .i64 9]) Try.results46 ⟨rfl, rfl, trivial⟩ ⟨_, rfl, hE.fresh, rfl⟩ (fun _ _ h => h)
            · have hF := iteF hc32 hF
              refine CW.skip ?_
              refine NK.sub (L' := [(6, .int .i64 x11)]) ⟨rfl, trivial⟩ ?_
              refine hK17 _ _ ?_
              refine CW.seq fun K34 hK34 => ?_
              refine CW.region ?_
              refine WL.stepE (OW.pv (v := .int .i64 x11) rfl) rfl ?_
              refine WL.stepE (OW.pv (v := .int .i64 x11) rfl) rfl ?_
              refine WL.stepE (OW.pv (v := .int .i64 0) rfl) rfl ?_
              refine WL.nil ?_
              refine NK.sub (L' := [(4, .int .i64 x11), (5, .int .i64 0)]) ⟨rfl, rfl, trivial⟩ ?_
              refine hK34 _ _ ?_
              obtain rfl := Option.some.inj hF
              exact CW.rets (vs := [.int .i64 x11, .int .i64 0]) Try.results46 ⟨rfl, rfl, trivial⟩ ⟨_, rfl, hE.fresh, rfl⟩ (fun _ _ h => h)
          rcases Bool.eq_false_or_eq_true ((((len a1) == 0))) with hc35 | hc35
          · have q28 := iteT hc35 q28
            refine WL.stepGE rfl rfl rfl hc35 (OW.pv (v := .int .i64 a0) rfl) rfl ?_
            refine WL.stepGE rfl rfl rfl hc35 (OW.pv (v := .bool (((a0 != 0)))) rfl) rfl ?_
            refine WL.stepE (OW.pickT rfl hc35 rfl) rfl ?_
            refine WL.stepE (OW.pv (v := .bool (((a0 != 0)))) rfl) rfl ?_
            refine WL.nil ?_
            have e36 := Option.some.inj q28
            subst e36
            exact NK.sub (L' := [(6, .int .i64 x11), (35, .bool (((a0 != 0))))]) ⟨rfl, rfl, trivial⟩ (hJ31 w21 o22 hE)
          · have q28 := iteF hc35 q28
            refine WL.skipG rfl rfl rfl (by rw [hc35]; rfl) rfl ?_
            refine WL.skipG rfl rfl rfl (by rw [hc35]; rfl) rfl ?_
            refine WL.stepE (OW.pickF rfl hc35 rfl) rfl ?_
            refine WL.stepE (OW.pv (v := .bool false) rfl) rfl ?_
            refine WL.nil ?_
            have e37 := Option.some.inj q28
            subst e37
            exact NK.sub (L' := [(6, .int .i64 x11), (35, .bool false)]) ⟨rfl, rfl, trivial⟩ (hJ31 w21 o22 hE)
      rcases Bool.eq_false_or_eq_true ((decide (a0 < 0))) with hc38 | hc38
      · have q20 := iteT hc38 q20
        refine WL.skipG rfl rfl rfl (by rw [hc38]; rfl) rfl ?_
        refine WL.skipG rfl rfl rfl (by rw [hc38]; rfl) rfl ?_
        refine WL.stepE (OW.pickT rfl hc38 rfl) rfl ?_
        refine WL.stepE (OW.pv (v := .bool true) rfl) rfl ?_
        refine WL.nil ?_
        have e39 := Option.some.inj q20
        subst e39
        exact NK.sub (L' := [(0, .int .i64 a0), (1, p1), (6, .int .i64 x11), (28, .bool true)]) ⟨rfl, rfl, rfl, rfl, trivial⟩ (hJ23 w14 o15 hE)
      · have q20 := iteF hc38 q20
        refine WL.stepGE rfl rfl rfl hc38 (OW.pv (v := .int .i64 a0) rfl) rfl ?_
        refine WL.stepGE rfl rfl rfl hc38 (OW.pv (v := .bool ((decide (a0 > 800000)))) rfl) rfl ?_
        refine WL.stepE (OW.pickF rfl hc38 rfl) rfl ?_
        refine WL.stepE (OW.pv (v := .bool ((decide (a0 > 800000)))) rfl) rfl ?_
        refine WL.nil ?_
        have e40 := Option.some.inj q20
        subst e40
        exact NK.sub (L' := [(0, .int .i64 a0), (1, p1), (6, .int .i64 x11), (28, .bool ((decide (a0 > 800000))))]) ⟨rfl, rfl, rfl, rfl, trivial⟩ (hJ23 w14 o15 hE)
    refine CW.sub (L' := [(0, .int .i64 a0), (1, p1), (6, .int .i64 0), (12, p1), (13, .int .i64 (len a1)), (14, .int .i64 0)]) ⟨rfl, rfl, rfl, rfl, rfl, rfl, trivial⟩ ?_
    refine CW.loop (balance_check_L1 a1) (fun s_ L_ w41 => ∃ (o42 : Cls) (x9 : Int) (x10 : Int), (x9, x10) = s_ ∧ L_ = [(0, .int .i64 a0), (1, p1), (6, .int .i64 x9), (12, p1), (13, .int .i64 (len a1)), (14, .int .i64 x10)] ∧ Ent w0 none o42 w41) hl12 ?_ ?_
    · exact ⟨(ent w0 none), 0, 0, rfl, rfl, hE⟩
    intro K43 s_ L_ w41 hi_ x44 hx45 hr46 hk47
    obtain ⟨o42, x9, x10, rfl, rfl, hE⟩ := hi_
    rw [balance_check_L1] at hx45
    refine CW.seq fun K48 hK48 => ?_
    refine CW.region ?_
    refine WL.stepE (OW.pv (v := .bool ((decide (x10 < (len a1))))) rfl) rfl ?_
    refine WL.nil ?_
    refine NK.sub (L' := [(0, .int .i64 a0), (1, p1), (6, .int .i64 x9), (12, p1), (13, .int .i64 (len a1)), (14, .int .i64 x10), (15, .bool ((decide (x10 < (len a1)))))]) ⟨rfl, rfl, rfl, rfl, rfl, rfl, rfl, trivial⟩ ?_
    refine hK48 _ _ ?_
    refine CW.seq fun K49 hK49 => ?_
    refine CW.cond (b := (decide (x10 < (len a1)))) rfl (fun hc50 => ?_) (fun hc50 => ?_)
    · have hx45 := iteT hc50 hx45
      refine CW.skip ?_
      refine NK.sub (L' := [(0, .int .i64 a0), (1, p1), (6, .int .i64 x9), (12, p1), (13, .int .i64 (len a1)), (14, .int .i64 x10)]) ⟨rfl, rfl, rfl, rfl, rfl, rfl, trivial⟩ ?_
      refine hK49 _ _ ?_
      refine CW.seq fun K51 hK51 => ?_
      refine CW.block ?_
      refine CW.seq fun K52 hK52 => ?_
      refine CW.region ?_
      obtain ⟨y53, q57, hx45⟩ := bindE hx45
      refine WL.stepP (OW.indexAddr Try.underlying22 ty3 rfl (g1.base hE) rfl q57) rfl fun _ ⟨pa54, hv_, hp55, he56⟩ => ?_
      subst hv_
      refine WL.stepE (OW.loadI ty3 rfl hp55) rfl ?_
      refine WL.stepE (OW.pv (v := .int .i64 y53) rfl) rfl ?_
      refine WL.nil ?_
      refine NK.sub (L' := [(0, .int .i64 a0), (1, p1), (6, .int .i64 x9), (8, .int .i64 y53), (12, p1), (13, .int .i64 (len a1)), (14, .int .i64 x10)]) ⟨rfl, rfl, rfl, rfl, rfl, rfl, rfl, trivial⟩ ?_
      refine hK52 _ _ ?_
      refine CW.seq fun K58 hK58 => ?_
      refine CW.seq fun K59 hK59 => ?_
      refine CW.region ?_
      refine WL.stepE (OW.pv (v := .int .i64 y53) rfl) rfl ?_
      refine WL.stepE (OW.pv (v := .bool ((decide (y53 < 1)))) rfl) rfl ?_
      refine WL.stepE (OW.pv (v := .bool ((decide (y53 < 1)))) rfl) rfl ?_
      obtain ⟨x60, q61, hx45⟩ := bindE hx45
      have hJ64 : ∀ (w62 : World) (o63 : Cls), Ent w0 none o63 w62 → NK 44 K59 [(0, .int .i64 a0), (1, p1), (6, .int .i64 x9), (8, .int .i64 y53), (12, p1), (13, .int .i64 (len a1)), (14, .int .i64 x10), (23, .bool x60)] w62 := by
        intro w62 o63  hE
        refine NK.sub (L' := [(0, .int .i64 a0), (1, p1), (6, .int .i64 x9), (8, .int .i64 y53), (12, p1), (13, .int .i64 (len a1)), (14, .int .i64 x10), (23, .bool x60)]) ⟨rfl, rfl, rfl, rfl, rfl, rfl, rfl, rfl, trivial⟩ ?_
        refine hK59 _ _ ?_
        refine CW.cond (b := x60) rfl (fun hc65 => ?_) (fun hc65 => ?_)
        · have hx45 := iteT hc65 hx45
          refine CW.seq fun K66 hK66 => ?_
          refine CW.region ?_
          refine WL.stepE (OW.pv (v := .int .i64 0) rfl) rfl ?_
          refine WL.stepE (OW.pv (v := .int .i64 1) rfl) rfl ?_
          refine WL.nil ?_
          refine NK.sub (L' := [(4, .int .i64 0), (5, .int .i64 1)]) ⟨rfl, rfl, trivial⟩ ?_
          refine hK66 _ _ ?_
          have e_ := hr46 _ (Option.some.inj hx45).symm
          subst e_
          have hF := elimR hF
          obtain rfl := Option.some.inj hF
          exact CW.rets (vs := [.int .i64 0, .int .i64 1]) Try.results46 ⟨rfl, rfl, trivial⟩ ⟨_, rfl, hE.fresh, rfl⟩ (fun _ _ h => h)
        · have hx45 := iteF hc65 hx45
          refine CW.skip ?_
          refine NK.sub (L' := [(0, .int .i64 a0), (1, p1), (6, .int .i64 x9), (8, .int .i64 y53), (12, p1), (13, .int .i64 (len a1)), (14, .int .i64 x10)]) ⟨rfl, rfl, rfl, rfl, rfl, rfl, rfl, trivial⟩ ?_
          refine hK58 _ _ ?_
          refine CW.region ?_
          refine WL.stepE (OW.pv (v := .int .i64 x9) rfl) rfl ?_
          refine WL.stepE (OW.pv (v := .int .i64 y53) rfl) rfl ?_
          refine WL.stepE (OW.pv (v := .int .i64 ((W (x9 + y53)))) rfl) rfl ?_
          refine WL.stepE (OW.pv (v := .int .i64 ((W (x9 + y53)))) rfl) rfl ?_
          refine WL.nil ?_
          refine NK.sub (L' := [(0, .int .i64 a0), (1, p1), (6, .int .i64 ((W (x9 + y53)))), (12, p1), (13, .int .i64 (len a1)), (14, .int .i64 x10)]) ⟨rfl, rfl, rfl, rfl, rfl, rfl, trivial⟩ ?_
          refine hK51 _ _ ?_
          refine CW.region ?_
          refine WL.stepE (OW.pv (v := .int .i64 ((W (x10 + 1)))) rfl) rfl ?_
          refine WL.stepE (OW.pv (v := .int .i64 ((W (x10 + 1)))) rfl) rfl ?_
          refine WL.nil ?_
          exact NK.sub (L' := [(0, .int .i64 a0), (1, p1), (6, .int .i64 ((W (x9 + y53)))), (12, p1), (13, .int .i64 (len a1)), (14, .int .i64 ((W (x10 + 1))))]) ⟨rfl, rfl, rfl, rfl, rfl, rfl, trivial⟩ (hk47 _ _ _ (Option.some.inj hx45).symm ⟨o63, (W (x9 + y53)), (W (x10 + 1)), rfl, rfl, hE⟩)
      rcases Bool.eq_false_or_eq_true ((decide (y53 < 1))) with hc67 | hc67
      · have q61 := iteT hc67 q61
        refine WL.skipG rfl rfl rfl (by rw [hc67]; rfl) rfl ?_
        refine WL.skipG rfl rfl rfl (by rw [hc67]; rfl) rfl ?_
        refine WL.stepE (OW.pickT rfl hc67 rfl) rfl ?_
        refine WL.nil ?_
        have e68 := Option.some.inj q61
        subst e68
        exact NK.sub (L' := [(0, .int .i64 a0), (1, p1), (6, .int .i64 x9), (8, .int .i64 y53), (12, p1), (13, .int .i64 (len a1)), (14, .int .i64 x10), (23, .bool true)]) ⟨rfl, rfl, rfl, rfl, rfl, rfl, rfl, rfl, trivial⟩ (hJ64 w41 o42 hE)
      · have q61 := iteF hc67 q61
        refine WL.stepGE rfl rfl rfl hc67 (OW.pv (v := .int .i64 y53) rfl) rfl ?_
        refine WL.stepGE rfl rfl rfl hc67 (OW.pv (v := .bool ((decide (y53 > 50000)))) rfl) rfl ?_
        refine WL.stepE (OW.pickF rfl hc67 rfl) rfl ?_
        refine WL.nil ?_
        have e69 := Option.some.inj q61
        subst e69
        exact NK.sub (L' := [(0, .int .i64 a0), (1, p1), (6, .int .i64 x9), (8, .int .i64 y53), (12, p1), (13, .int .i64 (len a1)), (14, .int .i64 x10), (23, .bool ((decide (y53 > 50000))))]) ⟨rfl, rfl, rfl, rfl, rfl, rfl, rfl, rfl, trivial⟩ (hJ64 w41 o42 hE)
    · have hx45 := iteF hc50 hx45
      refine CW.exit ?_
      exact NK.sub (L' := [(0, .int .i64 a0), (1, p1), (6, .int .i64 x9)]) ⟨rfl, rfl, rfl, trivial⟩ (hJ16 x9 w41 o42 (hr46 _ (Option.some.inj hx45).symm) hE)

set_option maxHeartbeats 1000000 in
theorem balance_Split_1_ok {a0 : Int} {c0 : Int} {c1 : (List Int)} {c2 : Int} {r : Int} (hF : balance_Split_1 a0 c0 c1 c2 = some r) {w0 : World} {pc0 : Addr} {R0 : Nat → Prop} (k0 : PtrAt R0 w0 pc0 c0) {pc1 : Addr} {R1 : Nat → Prop} (k1 : PtrAt R1 w0 pc1 c1) {pc2 : Addr} {R2 : Nat → Prop} (k2 : PtrAt R2 w0 pc2 c2) :
    Calls Try.prog 47 #[.int .i64 a0, .pointer (some pc0), .pointer (some pc1), .pointer (some pc2)] w0 (Ret fun v w' => Below w0.heap.size w0 w' ∧ v = .int .i64 r) := by
  have hE := Ent.refl w0 none
  have k0 := k0.arg0
  have k1 := k1.arg0
  have k2 := k2.arg0
  rw [balance_Split_1] at hF
  refine enter (l := [.int .i64 a0, .pointer (some pc0), .pointer (some pc1), .pointer (some pc2)]) Try.func47 rfl Try.ntmps47 rfl ?_
  refine CW.sub (L' := [(0, .int .i64 a0), (1, .pointer (some pc0)), (2, .pointer (some pc1)), (3, .pointer (some pc2))]) ⟨rfl, rfl, rfl, rfl, trivial⟩ ?_
  refine CW.seq fun K1 hK1 => ?_
  refine CW.region ?_
  refine WL.stepE (OW.pv (v := .int .i64 0) rfl) rfl ?_
  refine WL.nil ?_
  refine NK.sub (L' := [(0, .int .i64 a0), (1, .pointer (some pc0)), (2, .pointer (some pc1)), (3, .pointer (some pc2))]) ⟨rfl, rfl, rfl, rfl, trivial⟩ ?_
  refine hK1 _ _ ?_
  refine CW.seq fun K2 hK2 => ?_
  obtain ⟨y5, q9, hF⟩ := bindE hF
  obtain ⟨y10, q11, hF⟩ := bindE hF
  have ev_ := Evo.drew (ent w0 none) w0
  refine CW.any (ow := (ent w0 none)) hmix [⟨some 1, none, [0], [1], fun x_ o_ w_ => Rv (In o_ [0]) w_ (x_.getD 0 undef) c1⟩, ⟨some 3, none, [0], [3], fun x_ o_ w_ => PtrAt (In o_ [0]) w_ (pOf (x_.getD 0 undef)) y5⟩, ⟨some 3, none, [], [1, 3], fun x_ o_ w_ => EPtr (x_.getD 0 undef) 1 a0 (pOf (x_.getD 1 undef))⟩] [⟨[], [], [], [], fun x_ => .int .i64 c0, false⟩, ⟨[], [], [], [1], fun x_ => (x_.getD 0 undef), false⟩, ⟨[], [], [], [], fun x_ => .int .i64 a0, false⟩, ⟨[], [0], [1, 2], [3], fun x_ => .pointer (some (pOf (x_.getD 0 undef))), false⟩, ⟨[], [1], [1, 2, 3], [], fun x_ => .int .i64 y5, false⟩, ⟨[], [], [0, 1, 2, 3, 4], [], fun x_ => .int .i64 ((W (c0 * y5))), false⟩, ⟨[], [], [], [], fun x_ => .int .i64 c2, false⟩, ⟨[], [], [0, 1, 2, 3, 4, 5, 6], [], fun x_ => .int .i64 y10, false⟩, ⟨[], [], [0, 1, 2, 3, 4, 5, 6, 7], [], fun x_ => .int .i64 y10, false⟩] [] [] (fun o_ w_ => Ent w0 none o_ w_) (by kernel_rfl) (by kernel_rfl) ⟨fun _ _ _ _ _ _ ev hd h => Rv.evo h ev hd, fun _ _ _ _ _ _ ev hd h => PtrAt.evo h ev hd, fun _ _ _ _ _ _ _ _ h => h, trivial⟩ (Ent.any rfl rfl) ⟨hE.evo ev_ rfl rfl, trivial⟩ ⟨?_, ?_, ?_, ?_, ?_, ?_, ?_, ?_, ?_, trivial⟩ ?_
  · intro vs12 o_ w_ hE 
    refine OW.imp (OW.fr (L' := [(1, .pointer (some pc0))]) ⟨rfl, trivial⟩ (OW.loadI ty3 rfl (k0.base hE))) ?_
    rintro _ _ ⟨rfl, rfl⟩
    exact ⟨_, Evo.refl _ _ _ _, rfl, trivial⟩
  · intro vs12 o_ w_ hE 
    refine OW.imp (OW.fr (L' := [(2, .pointer (some pc1))]) ⟨rfl, trivial⟩ (OW.load ty22 rfl (k1.base hE))) ?_
    rintro v3 _ ⟨rfl, h4⟩
    exact ⟨_, Evo.refl _ _ _ _, rfl, h4, trivial⟩
  · intro vs12 o_ w_ hE 
    refine OW.imp (OW.fr (L' := [(0, .int .i64 a0)]) ⟨rfl, trivial⟩ (OW.pv (v := .int .i64 a0) rfl)) ?_
    rintro _ _ ⟨rfl, rfl⟩
    exact ⟨_, Evo.refl _ _ _ _, rfl, trivial⟩
  · intro vs12 o_ w_ hE h4
    have h4 : Rv (In o_ [0]) w_ (vs12 1) c1 := h4
    refine OW.imp (OW.fr (L' := [(7, (vs12 1)), (8, .int .i64 a0)]) ⟨rfl, rfl, trivial⟩ (OW.indexAddr Try.underlying22 ty3 rfl h4 rfl q9)) ?_
    rintro _ _ ⟨rfl, ⟨pa6, hv_, hp7, he8⟩⟩
    subst hv_
    exact ⟨_, Evo.refl _ _ _ _, rfl, hp7, he8, trivial⟩
  · intro vs12 o_ w_ hE hp7
    have hp7 : PtrAt (In o_ [0]) w_ (pOf (vs12 3)) y5 := hp7
    refine OW.imp (OW.fr (L' := [(9, .pointer (some (pOf (vs12 3))))]) ⟨rfl, trivial⟩ (OW.loadI ty3 rfl hp7)) ?_
    rintro _ _ ⟨rfl, rfl⟩
    exact ⟨_, Evo.refl _ _ _ _, rfl, trivial⟩
  · intro vs12 o_ w_ hE 
    refine OW.imp (OW.fr (L' := [(6, .int .i64 c0), (10, .int .i64 y5)]) ⟨rfl, rfl, trivial⟩ (OW.pv (v := .int .i64 ((W (c0 * y5)))) rfl)) ?_
    rintro _ _ ⟨rfl, rfl⟩
    exact ⟨_, Evo.refl _ _ _ _, rfl, trivial⟩
  · intro vs12 o_ w_ hE 
    refine OW.imp (OW.fr (L' := [(3, .pointer (some pc2))]) ⟨rfl, trivial⟩ (OW.loadI ty3 rfl (k2.base hE))) ?_
    rintro _ _ ⟨rfl, rfl⟩
    exact ⟨_, Evo.refl _ _ _ _, rfl, trivial⟩
  · intro vs12 o_ w_ hE 
    refine OW.imp (OW.fr (L' := [(11, .int .i64 ((W (c0 * y5)))), (12, .int .i64 c2)]) ⟨rfl, rfl, trivial⟩ (OW.rem rfl rfl q11)) ?_
    rintro _ _ ⟨rfl, rfl⟩
    exact ⟨_, Evo.refl _ _ _ _, rfl, trivial⟩
  · intro vs12 o_ w_ hE 
    refine OW.imp (OW.fr (L' := [(13, .int .i64 y10)]) ⟨rfl, trivial⟩ (OW.pv (v := .int .i64 y10) rfl)) ?_
    rintro _ _ ⟨rfl, rfl⟩
    exact ⟨_, Evo.refl _ _ _ _, rfl, trivial⟩
  · intro vs12 o14 w13 hE h4 hp7 he8
    have h4 : Rv (In o14 [0]) w13 (vs12 1) c1 := h4
    have hp7 : PtrAt (In o14 [0]) w13 (pOf (vs12 3)) y5 := hp7
    have he8 : EPtr (vs12 1) 1 a0 (pOf (vs12 3)) := he8
    refine NK.sub (L' := [(5, .int .i64 y10)]) ⟨rfl, trivial⟩ ?_
    refine hK2 _ _ ?_
    obtain rfl := Option.some.inj hF
    exact CW.rets (vs := [.int .i64 y10]) Try.results47 ⟨rfl, trivial⟩ ⟨_, rfl, hE.fresh, rfl⟩ (fun _ _ h => h)

set_option maxHeartbeats 1000000 in
theorem balance_Split_2_ok {a0 : Int} {a1 : Int} {c0 : (Int → Option Int)} {r : Int} (hF : balance_Split_2 a0 a1 c0 = some r) {w0 : World} {pc0 : Addr} {qc0 : FuncId} {zc0 : Array Value} {R0 : Nat → Prop} (k0 : PtrAt R0 w0 pc0 (⟨.func (.func qc0) #[] zc0⟩ : FnV)) (mc0 : Fn1 Try.prog qc0 zc0 (fun w => w0.grownBy w none) c0) :
    Calls Try.prog 49 #[.int .i64 a0, .int .i64 a1, .pointer (some pc0)] w0 (Ret fun v w' => Below w0.heap.size w0 w' ∧ v = .int .i64 r) := by
  have hE := Ent.refl w0 none
  have k0 := k0.arg0
  rw [balance_Split_2] at hF
  refine enter (l := [.int .i64 a0, .int .i64 a1, .pointer (some pc0)]) Try.func49 rfl Try.ntmps49 rfl ?_
  refine CW.sub (L' := [(0, .int .i64 a0), (1, .int .i64 a1), (2, .pointer (some pc0))]) ⟨rfl, rfl, rfl, trivial⟩ ?_
  refine CW.seq fun K1 hK1 => ?_
  refine CW.region ?_
  refine WL.stepE (OW.pv (v := .int .i64 0) rfl) rfl ?_
  refine WL.nil ?_
  refine NK.sub (L' := [(0, .int .i64 a0), (1, .int .i64 a1), (2, .pointer (some pc0))]) ⟨rfl, rfl, rfl, trivial⟩ ?_
  refine hK1 _ _ ?_
  refine CW.seq fun K2 hK2 => ?_
  obtain ⟨y3, q4, hF⟩ := bindE hF
  obtain ⟨y12, q13, hF⟩ := bindE hF
  have ev_ := Evo.drew (ent w0 none) w0
  refine CW.any (ow := (ent w0 none)) hmix [] [⟨[], [], [], [], fun x_ => .func (.func qc0) #[] zc0, false⟩, ⟨[], [], [], [], fun x_ => .int .i64 a1, false⟩, ⟨[], [], [0, 1], [], fun x_ => .int .i64 y3, false⟩, ⟨[], [], [], [], fun x_ => .func (.func qc0) #[] zc0, false⟩, ⟨[], [], [], [], fun x_ => .int .i64 a0, false⟩, ⟨[], [], [0, 1, 2, 3, 4], [], fun x_ => .int .i64 y12, false⟩, ⟨[], [], [0, 1, 2, 3, 4, 5], [], fun x_ => .int .i64 ((W (y3 - y12))), false⟩, ⟨[], [], [0, 1, 2, 3, 4, 5, 6], [], fun x_ => .int .i64 ((W (y3 - y12))), false⟩] [2, 3] [] (fun o_ w_ => Ent w0 none o_ w_) (by kernel_rfl) (by kernel_rfl) trivial (Ent.any rfl rfl) ⟨hE.evo ev_ rfl rfl, trivial⟩ ⟨?_, ?_, ?_, ?_, ?_, ?_, ?_, ?_, trivial⟩ ?_
  · intro vs21 o_ w_ hE 
    refine OW.imp (OW.fr (L' := [(2, .pointer (some pc0))]) ⟨rfl, trivial⟩ (OW.loadF ty28 rfl (k0.base hE))) ?_
    rintro _ _ ⟨rfl, rfl⟩
    exact ⟨_, Evo.refl _ _ _ _, rfl, trivial⟩
  · intro vs21 o_ w_ hE 
    refine OW.imp (OW.fr (L' := [(1, .int .i64 a1)]) ⟨rfl, trivial⟩ (OW.pv (v := .int .i64 a1) rfl)) ?_
    rintro _ _ ⟨rfl, rfl⟩
    exact ⟨_, Evo.refl _ _ _ _, rfl, trivial⟩
  · intro vs21 o_ w_ hE 
    refine OW.imp (OW.fr (L' := [(6, .func (.func qc0) #[] zc0), (7, .int .i64 a1)]) ⟨rfl, rfl, trivial⟩ (OW.callV mc0.1 rfl rfl (mc0.2 _ hE.but _ _ q4 _ _ ((rv_int (S := fun _ => True)).2 rfl)))) ?_
    rintro v11 w5 ⟨hb9, h10⟩
    obtain rfl := rv_int.1 h10
    obtain ⟨o6, ev7, hn8⟩ := fresh_new (o := o_) 2 hb9
    exact ⟨o6, ev7.sub rfl rfl, rfl, trivial⟩
  · intro vs21 o_ w_ hE 
    refine OW.imp (OW.fr (L' := [(2, .pointer (some pc0))]) ⟨rfl, trivial⟩ (OW.loadF ty28 rfl (k0.base hE))) ?_
    rintro _ _ ⟨rfl, rfl⟩
    exact ⟨_, Evo.refl _ _ _ _, rfl, trivial⟩
  · intro vs21 o_ w_ hE 
    refine OW.imp (OW.fr (L' := [(0, .int .i64 a0)]) ⟨rfl, trivial⟩ (OW.pv (v := .int .i64 a0) rfl)) ?_
    rintro _ _ ⟨rfl, rfl⟩
    exact ⟨_, Evo.refl _ _ _ _, rfl, trivial⟩
  · intro vs21 o_ w_ hE 
    refine OW.imp (OW.fr (L' := [(9, .func (.func qc0) #[] zc0), (10, .int .i64 a0)]) ⟨rfl, rfl, trivial⟩ (OW.callV mc0.1 rfl rfl (mc0.2 _ hE.but _ _ q13 _ _ ((rv_int (S := fun _ => True)).2 rfl)))) ?_
    rintro v20 w14 ⟨hb18, h19⟩
    obtain rfl := rv_int.1 h19
    obtain ⟨o15, ev16, hn17⟩ := fresh_new (o := o_) 3 hb18
    exact ⟨o15, ev16.sub rfl rfl, rfl, trivial⟩
  · intro vs21 o_ w_ hE 
    refine OW.imp (OW.fr (L' := [(8, .int .i64 y3), (11, .int .i64 y12)]) ⟨rfl, rfl, trivial⟩ (OW.pv (v := .int .i64 ((W (y3 - y12)))) rfl)) ?_
    rintro _ _ ⟨rfl, rfl⟩
    exact ⟨_, Evo.refl _ _ _ _, rfl, trivial⟩
  · intro vs21 o_ w_ hE 
    refine OW.imp (OW.fr (L' := [(12, .int .i64 ((W (y3 - y12))))]) ⟨rfl, trivial⟩ (OW.pv (v := .int .i64 ((W (y3 - y12)))) rfl)) ?_
    rintro _ _ ⟨rfl, rfl⟩
    exact ⟨_, Evo.refl _ _ _ _, rfl, trivial⟩
  · intro vs21 o23 w22 hE 
    refine NK.sub (L' := [(5, .int .i64 ((W (y3 - y12))))]) ⟨rfl, trivial⟩ ?_
    refine hK2 _ _ ?_
    obtain rfl := Option.some.inj hF
    exact CW.rets (vs := [.int .i64 ((W (y3 - y12)))]) Try.results49 ⟨rfl, trivial⟩ ⟨_, rfl, hE.fresh, rfl⟩ (fun _ _ h => h)

set_option maxHeartbeats 1000000 in
theorem slices_insertionSortCmpFunc_int_ok {a0 : (List Int)} {a1 : Int} {a2 : Int} {f3 : (Int → Int → Option Int)} {r : (List Int)} (hF : slices_insertionSortCmpFunc_int a0 a1 a2 f3 = some r) {w0 : World} {p0 : Value} {db : Nat} (g0 : OwD 3 db w0 p0 a0) {q3 : FuncId} {z3 : Array Value} (m3 : Fn2 Try.prog q3 z3 (fun w => w0.grownBy w (some db)) f3) :
    Calls Try.prog 87 #[p0, .int .i64 a1, .int .i64 a2, .func (.func q3) #[] z3] w0 (Ret fun v w' => w0.grownBy w' (some db) ∧ OwD 3 db w' p0 r) := by
  have hE := Ent.refl w0 (some db)
  have g0 := OwD.in g0
  rw [slices_insertionSortCmpFunc_int] at hF
  refine enter (l := [p0, .int .i64 a1, .int .i64 a2, .func (.func q3) #[] z3]) Try.func87 rfl Try.ntmps87 rfl ?_
  refine CW.sub (L' := [(0, p0), (1, .int .i64 a1), (2, .int .i64 a2), (3, .func (.func q3) #[] z3)]) ⟨rfl, rfl, rfl, rfl, trivial⟩ ?_
  refine CW.tail fun K_ hK_ => ?_
  refine CW.seq fun K1 hK1 => ?_
  refine CW.region ?_
  refine WL.stepE (OW.pv (v := .int .i64 a1) rfl) rfl ?_
  refine WL.stepE (OW.pv (v := .int .i64 ((W (a1 + 1)))) rfl) rfl ?_
  refine WL.stepE (OW.pv (v := .int .i64 ((W (a1 + 1)))) rfl) rfl ?_
  refine WL.nil ?_
  refine NK.sub (L' := [(0, p0), (1, .int .i64 a1), (2, .int .i64 a2), (3, .func (.func q3) #[] z3), (8, .int .i64 ((W (a1 + 1))))]) ⟨rfl, rfl, rfl, rfl, rfl, trivial⟩ ?_
  refine hK1 _ _ ?_
  refine CW.block ?_
  obtain ⟨r10, hl9, hF⟩ := bindE hF
  have hJ13 : ∀ (x6 : (List Int)) (w11 : World) (o12 : Cls), x6 = r10 → Ent w0 (some db) o12 w11 → Ow 3 o12 1 [] w11 p0 x6 → NK 53 K_ [(0, p0)] w11 := by
    intro x6 w11 o12  e_ hE h8
    subst e_
    try dsimp only at hF
    obtain rfl := Option.some.inj hF
    exact hK_ _ _ (NK.fall Try.results87 ⟨_, rfl, hE.but, OwD.out h8 hE⟩)
  refine CW.sub (L' := [(0, p0), (1, .int .i64 a1), (2, .int .i64 a2), (3, .func (.func q3) #[] z3), (8, .int .i64 ((W (a1 + 1))))]) ⟨rfl, rfl, rfl, rfl, rfl, trivial⟩ ?_
  refine CW.loop (slices_insertionSortCmpFunc_int_L1 a1 a2 f3) (fun s_ L_ w14 => ∃ (o15 : Cls) (x2 : (List Int)) (x5 : Int), (x2, x5) = s_ ∧ L_ = [(0, p0), (1, .int .i64 a1), (2, .int .i64 a2), (3, .func (.func q3) #[] z3), (8, .int .i64 x5)] ∧ Ent w0 (some db) o15 w14 ∧ Ow 3 o15 1 [] w14 p0 x2) hl9 ?_ ?_
  · exact ⟨(ent w0 (some db)), a0, (W (a1 + 1)), rfl, rfl, hE, g0⟩
  intro K16 s_ L_ w14 hi_ x17 hx18 hr19 hk20
  obtain ⟨o15, x2, x5, rfl, rfl, hE, h4⟩ := hi_
  rw [slices_insertionSortCmpFunc_int_L1] at hx18
  refine CW.seq fun K21 hK21 => ?_
  refine CW.seq fun K22 hK22 => ?_
  refine CW.region ?_
  refine WL.stepE (OW.pv (v := .int .i64 x5) rfl) rfl ?_
  refine WL.stepE (OW.pv (v := .int .i64 a2) rfl) rfl ?_
  refine WL.stepE (OW.pv (v := .bool ((decide (x5 < a2)))) rfl) rfl ?_
  refine WL.nil ?_
  refine NK.sub (L' := [(0, p0), (1, .int .i64 a1), (2, .int .i64 a2), (3, .func (.func q3) #[] z3), (8, .int .i64 x5), (14, .bool ((decide (x5 < a2))))]) ⟨rfl, rfl, rfl, rfl, rfl, rfl, trivial⟩ ?_
  refine hK22 _ _ ?_
  refine CW.cond (b := (decide (x5 < a2))) rfl (fun hc23 => ?_) (fun hc23 => ?_)
  · have hx18 := iteT hc23 hx18
    refine CW.skip ?_
    refine NK.sub (L' := [(0, p0), (1, .int .i64 a1), (2, .int .i64 a2), (3, .func (.func q3) #[] z3), (8, .int .i64 x5)]) ⟨rfl, rfl, rfl, rfl, rfl, trivial⟩ ?_
    refine hK21 _ _ ?_
    refine CW.seq fun K24 hK24 => ?_
    refine CW.block ?_
    refine CW.seq fun K25 hK25 => ?_
    refine CW.region ?_
    refine WL.stepE (OW.pv (v := .int .i64 x5) rfl) rfl ?_
    refine WL.stepE (OW.pv (v := .int .i64 x5) rfl) rfl ?_
    refine WL.nil ?_
    refine NK.sub (L' := [(0, p0), (1, .int .i64 a1), (2, .int .i64 a2), (3, .func (.func q3) #[] z3), (8, .int .i64 x5), (9, .int .i64 x5)]) ⟨rfl, rfl, rfl, rfl, rfl, rfl, trivial⟩ ?_
    refine hK25 _ _ ?_
    refine CW.block ?_
    obtain ⟨r34, hl33, hx18⟩ := bindE hx18
    have hJ37 : ∀ (x30 : (List Int)) (w35 : World) (o36 : Cls), x30 = r34 → Ent w0 (some db) o36 w35 → Ow 3 o36 1 [] w35 p0 x30 → NK 53 K24 [(0, p0), (1, .int .i64 a1), (2, .int .i64 a2), (3, .func (.func q3) #[] z3), (8, .int .i64 x5)] w35 := by
      intro x30 w35 o36  e_ hE h32
      subst e_
      try dsimp only at hx18
      refine NK.sub (L' := [(0, p0), (1, .int .i64 a1), (2, .int .i64 a2), (3, .func (.func q3) #[] z3), (8, .int .i64 x5)]) ⟨rfl, rfl, rfl, rfl, rfl, trivial⟩ ?_
      refine hK24 _ _ ?_
      refine CW.region ?_
      refine WL.stepE (OW.pv (v := .int .i64 x5) rfl) rfl ?_
      refine WL.stepE (OW.pv (v := .int .i64 ((W (x5 + 1)))) rfl) rfl ?_
      refine WL.stepE (OW.pv (v := .int .i64 ((W (x5 + 1)))) rfl) rfl ?_
      refine WL.nil ?_
      exact NK.sub (L' := [(0, p0), (1, .int .i64 a1), (2, .int .i64 a2), (3, .func (.func q3) #[] z3), (8, .int .i64 ((W (x5 + 1))))]) ⟨rfl, rfl, rfl, rfl, rfl, trivial⟩ (hk20 _ _ _ (Option.some.inj hx18).symm ⟨o36, x30, (W (x5 + 1)), rfl, rfl, hE, h32⟩)
    refine CW.sub (L' := [(0, p0), (1, .int .i64 a1), (2, .int .i64 a2), (3, .func (.func q3) #[] z3), (8, .int .i64 x5), (9, .int .i64 x5)]) ⟨rfl, rfl, rfl, rfl, rfl, rfl, trivial⟩ ?_
    refine CW.loop (slices_insertionSortCmpFunc_int_L2 a1 f3) (fun s_ L_ w38 => ∃ (o39 : Cls) (x26 : (List Int)) (x29 : Int), (x26, x29) = s_ ∧ L_ = [(0, p0), (1, .int .i64 a1), (2, .int .i64 a2), (3, .func (.func q3) #[] z3), (8, .int .i64 x5), (9, .int .i64 x29)] ∧ Ent w0 (some db) o39 w38 ∧ Ow 3 o39 1 [] w38 p0 x26) hl33 ?_ ?_
    · exact ⟨o15, x2, x5, rfl, rfl, hE, h4⟩
    intro K40 s_ L_ w38 hi_ x41 hx42 hr43 hk44
    obtain ⟨o39, x26, x29, rfl, rfl, hE, h28⟩ := hi_
    rw [slices_insertionSortCmpFunc_int_L2] at hx42
    refine CW.seq fun K45 hK45 => ?_
    refine CW.seq fun K46 hK46 => ?_
    obtain ⟨z_, q51, hx42⟩ := bindE hx42
    obtain ⟨x47, x50⟩ := z_
    try dsimp only at hx42
    have hJ54 : ∀ (w52 : World) (o53 : Cls), Ent w0 (some db) o53 w52 → Ow 3 o53 1 [] w52 p0 x47 → NK 53 K46 [(0, p0), (1, .int .i64 a1), (2, .int .i64 a2), (3, .func (.func q3) #[] z3), (8, .int .i64 x5), (9, .int .i64 x29), (34, .bool x50)] w52 := by
      intro w52 o53  hE h49
      refine NK.sub (L' := [(0, p0), (1, .int .i64 a1), (2, .int .i64 a2), (3, .func (.func q3) #[] z3), (8, .int .i64 x5), (9, .int .i64 x29), (34, .bool x50)]) ⟨rfl, rfl, rfl, rfl, rfl, rfl, rfl, trivial⟩ ?_
      refine hK46 _ _ ?_
      refine CW.cond (b := x50) rfl (fun hc55 => ?_) (fun hc55 => ?_)
      · have hx42 := iteT hc55 hx42
        refine CW.skip ?_
        refine NK.sub (L' := [(0, p0), (1, .int .i64 a1), (2, .int .i64 a2), (3, .func (.func q3) #[] z3), (8, .int .i64 x5), (9, .int .i64 x29)]) ⟨rfl, rfl, rfl, rfl, rfl, rfl, trivial⟩ ?_
        refine hK45 _ _ ?_
        refine CW.seq fun K56 hK56 => ?_
        refine CW.block ?_
        obtain ⟨y57, q61, hx42⟩ := bindE hx42
        obtain ⟨y62, q66, hx42⟩ := bindE hx42
        have hd71 := Rv.hd h49.rv
        obtain ⟨y67, q72, hx42⟩ := bindE hx42
        obtain ⟨y73, q76, hx42⟩ := bindE hx42
        have hd82 := Rv.hd h49.rv
        obtain ⟨y78, q83, hx42⟩ := bindE hx42
        obtain ⟨y84, q87, hx42⟩ := bindE hx42
        have ev_ := Evo.drew o53 w52
        refine CW.any (ow := o53) hmix [⟨none, some 15, [1], [], fun x_ o_ w_ => Ow 3 o_ 1 [] w_ p0 x47⟩, ⟨some 8, some 15, [1], [8], fun x_ o_ w_ => PtrAt (In o_ [1]) w_ (pOf (x_.getD 0 undef)) y57⟩, ⟨some 8, none, [], [8], fun x_ o_ w_ => EPtr p0 1 ((W (x29 - 1))) (pOf (x_.getD 0 undef))⟩, ⟨some 12, some 15, [1], [12], fun x_ o_ w_ => PtrAt (In o_ [1]) w_ (pOf (x_.getD 0 undef)) y62⟩, ⟨some 12, none, [], [12], fun x_ o_ w_ => EPtr p0 1 x29 (pOf (x_.getD 0 undef))⟩, ⟨some 14, none, [], [14], fun x_ o_ w_ => EPtr p0 1 x29 (pOf (x_.getD 0 undef))⟩, ⟨some 15, some 17, [1], [], fun x_ o_ w_ => Ow 3 o_ 1 [] w_ p0 y73⟩, ⟨some 16, none, [], [16], fun x_ o_ w_ => EPtr p0 1 ((W (x29 - 1))) (pOf (x_.getD 0 undef))⟩, ⟨some 17, none, [1], [], fun x_ o_ w_ => Ow 3 o_ 1 [] w_ p0 y84⟩] [⟨[], [], [], [], fun x_ => p0, false⟩, ⟨[], [], [], [], fun x_ => .int .i64 x29, false⟩, ⟨[], [], [], [], fun x_ => p0, false⟩, ⟨[], [], [], [], fun x_ => .int .i64 x29, false⟩, ⟨[], [], [3], [], fun x_ => .int .i64 ((W (x29 - 1))), false⟩, ⟨[], [], [], [], fun x_ => p0, false⟩, ⟨[], [], [], [], fun x_ => .int .i64 x29, false⟩, ⟨[], [], [6], [], fun x_ => .int .i64 ((W (x29 - 1))), false⟩, ⟨[], [0], [5, 6, 7], [8], fun x_ => .pointer (some (pOf (x_.getD 0 undef))), false⟩, ⟨[], [1], [5, 6, 7, 8], [], fun x_ => .int .i64 y57, false⟩, ⟨[], [], [], [], fun x_ => p0, false⟩, ⟨[], [], [], [], fun x_ => .int .i64 x29, false⟩, ⟨[], [0], [10, 11], [12], fun x_ => .pointer (some (pOf (x_.getD 0 undef))), false⟩, ⟨[], [3], [10, 11, 12], [], fun x_ => .int .i64 y62, false⟩, ⟨[], [], [0, 1, 5, 6, 7, 8, 9, 10, 11, 12, 13], [14], fun x_ => .pointer (some (pOf (x_.getD 0 undef))), false⟩, ⟨[1], [0, 5], [0, 1, 5, 6, 7, 8, 9, 10, 11, 12, 13, 14], [], fun x_ => undef, false⟩, ⟨[], [], [0, 1, 2, 3, 4, 5, 6, 7, 8, 9, 10, 11, 12, 13, 14, 15], [16], fun x_ => .pointer (some (pOf (x_.getD 0 undef))), false⟩, ⟨[1], [6, 7], [0, 1, 2, 3, 4, 5, 6, 7, 8, 9, 10, 11, 12, 13, 14, 15, 16], [], fun x_ => undef, false⟩] [] [1] (fun o_ w_ => Ent w0 (some db) o_ w_) (by kernel_rfl) (by kernel_rfl) ⟨fun _ _ _ _ _ _ ev hd h => Ow.evo h ev hd, fun _ _ _ _ _ _ ev hd h => PtrAt.evo h ev hd, fun _ _ _ _ _ _ _ _ h => h, fun _ _ _ _ _ _ ev hd h => PtrAt.evo h ev hd, fun _ _ _ _ _ _ _ _ h => h, fun _ _ _ _ _ _ _ _ h => h, fun _ _ _ _ _ _ ev hd h => Ow.evo h ev hd, fun _ _ _ _ _ _ _ _ h => h, fun _ _ _ _ _ _ ev hd h => Ow.evo h ev hd, trivial⟩ (Ent.any rfl rfl) ⟨hE.evo ev_ rfl rfl, ⟨h49.evo ev_ rfl, trivial⟩⟩ ⟨?_, ?_, ?_, ?_, ?_, ?_, ?_, ?_, ?_, ?_, ?_, ?_, ?_, ?_, ?_, ?_, ?_, ?_, trivial⟩ ?_
        · intro vs89 o_ w_ hE 
          refine OW.imp (OW.fr (L' := [(0, p0)]) ⟨rfl, trivial⟩ (OW.pv (v := p0) rfl)) ?_
          rintro _ _ ⟨rfl, rfl⟩
          exact ⟨_, Evo.refl _ _ _ _, rfl, trivial⟩
        · intro vs89 o_ w_ hE 
          refine OW.imp (OW.fr (L' := [(9, .int .i64 x29)]) ⟨rfl, trivial⟩ (OW.pv (v := .int .i64 x29) rfl)) ?_
          rintro _ _ ⟨rfl, rfl⟩
          exact ⟨_, Evo.refl _ _ _ _, rfl, trivial⟩
        · intro vs89 o_ w_ hE 
          refine OW.imp (OW.fr (L' := [(0, p0)]) ⟨rfl, trivial⟩ (OW.pv (v := p0) rfl)) ?_
          rintro _ _ ⟨rfl, rfl⟩
          exact ⟨_, Evo.refl _ _ _ _, rfl, trivial⟩
        · intro vs89 o_ w_ hE 
          refine OW.imp (OW.fr (L' := [(9, .int .i64 x29)]) ⟨rfl, trivial⟩ (OW.pv (v := .int .i64 x29) rfl)) ?_
          rintro _ _ ⟨rfl, rfl⟩
          exact ⟨_, Evo.refl _ _ _ _, rfl, trivial⟩
        · intro vs89 o_ w_ hE 
          refine OW.imp (OW.fr (L' := [(40, .int .i64 x29)]) ⟨rfl, trivial⟩ (OW.pv (v := .int .i64 ((W (x29 - 1)))) rfl)) ?_
          rintro _ _ ⟨rfl, rfl⟩
          exact ⟨_, Evo.refl _ _ _ _, rfl, trivial⟩
        · intro vs89 o_ w_ hE 
          refine OW.imp (OW.fr (L' := [(0, p0)]) ⟨rfl, trivial⟩ (OW.pv (v := p0) rfl)) ?_
          rintro _ _ ⟨rfl, rfl⟩
          exact ⟨_, Evo.refl _ _ _ _, rfl, trivial⟩
        · intro vs89 o_ w_ hE 
          refine OW.imp (OW.fr (L' := [(9, .int .i64 x29)]) ⟨rfl, trivial⟩ (OW.pv (v := .int .i64 x29) rfl)) ?_
          rintro _ _ ⟨rfl, rfl⟩
          exact ⟨_, Evo.refl _ _ _ _, rfl, trivial⟩
        · intro vs89 o_ w_ hE 
          refine OW.imp (OW.fr (L' := [(43, .int .i64 x29)]) ⟨rfl, trivial⟩ (OW.pv (v := .int .i64 ((W (x29 - 1)))) rfl)) ?_
          rintro _ _ ⟨rfl, rfl⟩
          exact ⟨_, Evo.refl _ _ _ _, rfl, trivial⟩
        · intro vs89 o_ w_ hE h49
          have h49 : Ow 3 o_ 1 [] w_ p0 x47 := h49
          refine OW.imp (OW.fr (L' := [(42, p0), (44, .int .i64 ((W (x29 - 1))))]) ⟨rfl, rfl, trivial⟩ (OW.indexAddr Try.underlying22 ty3 rfl h49.rv rfl q61)) ?_
          rintro _ _ ⟨rfl, ⟨pa58, hv_, hp59, he60⟩⟩
          subst hv_
          exact ⟨_, Evo.refl _ _ _ _, rfl, hp59, he60, trivial⟩
        · intro vs89 o_ w_ hE hp59
          have hp59 : PtrAt (In o_ [1]) w_ (pOf (vs89 8)) y57 := hp59
          refine OW.imp (OW.fr (L' := [(45, .pointer (some (pOf (vs89 8))))]) ⟨rfl, trivial⟩ (OW.loadI ty3 rfl hp59)) ?_
          rintro _ _ ⟨rfl, rfl⟩
          exact ⟨_, Evo.refl _ _ _ _, rfl, trivial⟩
        · intro vs89 o_ w_ hE 
          refine OW.imp (OW.fr (L' := [(0, p0)]) ⟨rfl, trivial⟩ (OW.pv (v := p0) rfl)) ?_
          rintro _ _ ⟨rfl, rfl⟩
          exact ⟨_, Evo.refl _ _ _ _, rfl, trivial⟩
        · intro vs89 o_ w_ hE 
          refine OW.imp (OW.fr (L' := [(9, .int .i64 x29)]) ⟨rfl, trivial⟩ (OW.pv (v := .int .i64 x29) rfl)) ?_
          rintro _ _ ⟨rfl, rfl⟩
          exact ⟨_, Evo.refl _ _ _ _, rfl, trivial⟩
        · intro vs89 o_ w_ hE h49
          have h49 : Ow 3 o_ 1 [] w_ p0 x47 := h49
          refine OW.imp (OW.fr (L' := [(47, p0), (48, .int .i64 x29)]) ⟨rfl, rfl, trivial⟩ (OW.indexAddr Try.underlying22 ty3 rfl h49.rv rfl q66)) ?_
          rintro _ _ ⟨rfl, ⟨pa63, hv_, hp64, he65⟩⟩
          subst hv_
          exact ⟨_, Evo.refl _ _ _ _, rfl, hp64, he65, trivial⟩
        · intro vs89 o_ w_ hE hp64
          have hp64 : PtrAt (In o_ [1]) w_ (pOf (vs89 12)) y62 := hp64
          refine OW.imp (OW.fr (L' := [(49, .pointer (some (pOf (vs89 12))))]) ⟨rfl, trivial⟩ (OW.loadI ty3 rfl hp64)) ?_
          rintro _ _ ⟨rfl, rfl⟩
          exact ⟨_, Evo.refl _ _ _ _, rfl, trivial⟩
        · intro vs89 o_ w_ hE 
          refine OW.imp (OW.fr (L' := [(37, p0), (38, .int .i64 x29)]) ⟨rfl, rfl, trivial⟩ (OW.indexAddrH Try.underlying22 ty3 rfl hd71 rfl q72)) ?_
          rintro _ _ ⟨rfl, ⟨pa68, hv_, he70⟩⟩
          subst hv_
          exact ⟨_, Evo.refl _ _ _ _, rfl, he70, trivial⟩
        · intro vs89 o_ w_ hE h49 he70
          have h49 : Ow 3 o_ 1 [] w_ p0 x47 := h49
          have he70 : EPtr p0 1 x29 (pOf (vs89 14)) := he70
          refine OW.imp (OW.fr (L' := [(46, .int .i64 y57), (51, .pointer (some (pOf (vs89 14))))]) ⟨rfl, rfl, trivial⟩ (OW.storeElem ty3 rfl he70 h49 rfl (rv_int.2 rfl) q76 rfl)) ?_
          rintro _ w74 ⟨ev75, h77⟩
          exact ⟨o_, ev75.sub rfl rfl, trivial, h77, trivial⟩
        · intro vs89 o_ w_ hE 
          refine OW.imp (OW.fr (L' := [(39, p0), (41, .int .i64 ((W (x29 - 1))))]) ⟨rfl, rfl, trivial⟩ (OW.indexAddrH Try.underlying22 ty3 rfl hd82 rfl q83)) ?_
          rintro _ _ ⟨rfl, ⟨pa79, hv_, he81⟩⟩
          subst hv_
          exact ⟨_, Evo.refl _ _ _ _, rfl, he81, trivial⟩
        · intro vs89 o_ w_ hE h77 he81
          have h77 : Ow 3 o_ 1 [] w_ p0 y73 := h77
          have he81 : EPtr p0 1 ((W (x29 - 1))) (pOf (vs89 16)) := he81
          refine OW.imp (OW.fr (L' := [(50, .int .i64 y62), (52, .pointer (some (pOf (vs89 16))))]) ⟨rfl, rfl, trivial⟩ (OW.storeElem ty3 rfl he81 h77 rfl (rv_int.2 rfl) q87 rfl)) ?_
          rintro _ w85 ⟨ev86, h88⟩
          exact ⟨o_, ev86.sub rfl rfl, trivial, h88, trivial⟩
        · intro vs89 o91 w90 hE he60 he65 he70 he81 h88
          have he60 : EPtr p0 1 ((W (x29 - 1))) (pOf (vs89 8)) := he60
          have he65 : EPtr p0 1 x29 (pOf (vs89 12)) := he65
          have he70 : EPtr p0 1 x29 (pOf (vs89 14)) := he70
          have he81 : EPtr p0 1 ((W (x29 - 1))) (pOf (vs89 16)) := he81
          have h88 : Ow 3 o91 1 [] w90 p0 y84 := h88
          refine NK.sub (L' := [(0, p0), (1, .int .i64 a1), (2, .int .i64 a2), (3, .func (.func q3) #[] z3), (8, .int .i64 x5), (9, .int .i64 x29)]) ⟨rfl, rfl, rfl, rfl, rfl, rfl, trivial⟩ ?_
          refine hK56 _ _ ?_
          refine CW.region ?_
          refine WL.stepE (OW.pv (v := .int .i64 x29) rfl) rfl ?_
          refine WL.stepE (OW.pv (v := .int .i64 ((W (x29 - 1)))) rfl) rfl ?_
          refine WL.stepE (OW.pv (v := .int .i64 ((W (x29 - 1)))) rfl) rfl ?_
          refine WL.nil ?_
          exact NK.sub (L' := [(0, p0), (1, .int .i64 a1), (2, .int .i64 a2), (3, .func (.func q3) #[] z3), (8, .int .i64 x5), (9, .int .i64 ((W (x29 - 1))))]) ⟨rfl, rfl, rfl, rfl, rfl, rfl, trivial⟩ (hk44 _ _ _ (Option.some.inj hx42).symm ⟨o91, y84, (W (x29 - 1)), rfl, rfl, hE, h88⟩)
      · have hx42 := iteF hc55 hx42
        refine CW.exit ?_
        exact NK.sub (L' := [(0, p0), (1, .int .i64 a1), (2, .int .i64 a2), (3, .func (.func q3) #[] z3), (8, .int .i64 x5)]) ⟨rfl, rfl, rfl, rfl, rfl, trivial⟩ (hJ37 x47 w52 o53 (hr43 _ (Option.some.inj hx42).symm) hE h49)
    rcases Bool.eq_false_or_eq_true ((decide (x29 > a1))) with hc92 | hc92
    · have q51 := iteT hc92 q51
      obtain ⟨y93, q97, q51⟩ := bindE q51
      obtain ⟨y98, q102, q51⟩ := bindE q51
      obtain ⟨y103, q104, q51⟩ := bindE q51
      have ev_ := Evo.drew o39 w38
      refine CW.any (ow := o39) hmix [⟨none, none, [1], [], fun x_ o_ w_ => Ow 3 o_ 1 [] w_ p0 x26⟩, ⟨some 7, none, [1], [7], fun x_ o_ w_ => PtrAt (In o_ [1]) w_ (pOf (x_.getD 0 undef)) y93⟩, ⟨some 7, none, [], [7], fun x_ o_ w_ => EPtr p0 1 x29 (pOf (x_.getD 0 undef))⟩, ⟨some 12, none, [1], [12], fun x_ o_ w_ => PtrAt (In o_ [1]) w_ (pOf (x_.getD 0 undef)) y98⟩, ⟨some 12, none, [], [12], fun x_ o_ w_ => EPtr p0 1 ((W (x29 - 1))) (pOf (x_.getD 0 undef))⟩] [⟨[], [], [], [], fun x_ => .int .i64 x29, false⟩, ⟨[], [], [], [], fun x_ => .int .i64 a1, false⟩, ⟨[], [], [0, 1], [], fun x_ => .bool ((decide (x29 > a1))), false⟩, ⟨[], [], [0, 1, 2], [], fun x_ => .bool ((decide (x29 > a1))), false⟩, ⟨[], [], [0, 1, 2, 3], [], fun x_ => .func (.func q3) #[] z3, false⟩, ⟨[], [], [0, 1, 2, 3], [], fun x_ => p0, false⟩, ⟨[], [], [0, 1, 2, 3], [], fun x_ => .int .i64 x29, false⟩, ⟨[], [0], [0, 1, 2, 3, 5, 6], [7], fun x_ => .pointer (some (pOf (x_.getD 0 undef))), false⟩, ⟨[], [1], [0, 1, 2, 3, 5, 6, 7], [], fun x_ => .int .i64 y93, false⟩, ⟨[], [], [0, 1, 2, 3], [], fun x_ => p0, false⟩, ⟨[], [], [0, 1, 2, 3], [], fun x_ => .int .i64 x29, false⟩, ⟨[], [], [0, 1, 2, 3, 10], [], fun x_ => .int .i64 ((W (x29 - 1))), false⟩, ⟨[], [0], [0, 1, 2, 3, 9, 10, 11], [12], fun x_ => .pointer (some (pOf (x_.getD 0 undef))), false⟩, ⟨[], [3], [0, 1, 2, 3, 9, 10, 11, 12], [], fun x_ => .int .i64 y98, false⟩, ⟨[], [], [0, 1, 2, 3, 4, 5, 6, 7, 8, 9, 10, 11, 12, 13], [], fun x_ => .int .i64 y103, false⟩, ⟨[], [], [0, 1, 2, 3, 4, 5, 6, 7, 8, 9, 10, 11, 12, 13, 14], [], fun x_ => .bool ((decide (y103 < 0))), false⟩, ⟨[], [], [0, 1, 2, 3, 4, 5, 6, 7, 8, 9, 10, 11, 12, 13, 14, 15], [], fun x_ => .bool ((decide (y103 < 0))), false⟩] [2] [] (fun o_ w_ => Ent w0 (some db) o_ w_) (by kernel_rfl) (by kernel_rfl) ⟨fun _ _ _ _ _ _ ev hd h => Ow.evo h ev hd, fun _ _ _ _ _ _ ev hd h => PtrAt.evo h ev hd, fun _ _ _ _ _ _ _ _ h => h, fun _ _ _ _ _ _ ev hd h => PtrAt.evo h ev hd, fun _ _ _ _ _ _ _ _ h => h, trivial⟩ (Ent.any rfl rfl) ⟨hE.evo ev_ rfl rfl, ⟨h28.evo ev_ rfl, trivial⟩⟩ ⟨?_, ?_, ?_, ?_, ?_, ?_, ?_, ?_, ?_, ?_, ?_, ?_, ?_, ?_, ?_, ?_, ?_, trivial⟩ ?_
      · intro vs112 o_ w_ hE 
        refine OW.imp (OW.fr (L' := [(9, .int .i64 x29)]) ⟨rfl, trivial⟩ (OW.pv (v := .int .i64 x29) rfl)) ?_
        rintro _ _ ⟨rfl, rfl⟩
        exact ⟨_, Evo.refl _ _ _ _, rfl, trivial⟩
      · intro vs112 o_ w_ hE 
        refine OW.imp (OW.fr (L' := [(1, .int .i64 a1)]) ⟨rfl, trivial⟩ (OW.pv (v := .int .i64 a1) rfl)) ?_
        rintro _ _ ⟨rfl, rfl⟩
        exact ⟨_, Evo.refl _ _ _ _, rfl, trivial⟩
      · intro vs112 o_ w_ hE 
        refine OW.imp (OW.fr (L' := [(18, .int .i64 x29), (19, .int .i64 a1)]) ⟨rfl, rfl, trivial⟩ (OW.pv (v := .bool ((decide (x29 > a1)))) rfl)) ?_
        rintro _ _ ⟨rfl, rfl⟩
        exact ⟨_, Evo.refl _ _ _ _, rfl, trivial⟩
      · intro vs112 o_ w_ hE 
        refine OW.imp (OW.fr (L' := [(20, .bool ((decide (x29 > a1))))]) ⟨rfl, trivial⟩ (OW.pv (v := .bool ((decide (x29 > a1)))) rfl)) ?_
        rintro _ _ ⟨rfl, rfl⟩
        exact ⟨_, Evo.refl _ _ _ _, rfl, trivial⟩
      · intro vs112 o_ w_ hE 
        refine ⟨⟨_, rfl, congrArg (fun b => some (Value.bool b)) hc92⟩, ?_⟩
        refine OW.imp (OW.fr (L' := [(3, .func (.func q3) #[] z3)]) ⟨rfl, trivial⟩ (OW.pv (v := .func (.func q3) #[] z3) rfl)) ?_
        rintro _ _ ⟨rfl, rfl⟩
        exact ⟨_, Evo.refl _ _ _ _, rfl, trivial⟩
      · intro vs112 o_ w_ hE 
        refine ⟨⟨_, rfl, congrArg (fun b => some (Value.bool b)) hc92⟩, ?_⟩
        refine OW.imp (OW.fr (L' := [(0, p0)]) ⟨rfl, trivial⟩ (OW.pv (v := p0) rfl)) ?_
        rintro _ _ ⟨rfl, rfl⟩
        exact ⟨_, Evo.refl _ _ _ _, rfl, trivial⟩
      · intro vs112 o_ w_ hE 
        refine ⟨⟨_, rfl, congrArg (fun b => some (Value.bool b)) hc92⟩, ?_⟩
        refine OW.imp (OW.fr (L' := [(9, .int .i64 x29)]) ⟨rfl, trivial⟩ (OW.pv (v := .int .i64 x29) rfl)) ?_
        rintro _ _ ⟨rfl, rfl⟩
        exact ⟨_, Evo.refl _ _ _ _, rfl, trivial⟩
      · intro vs112 o_ w_ hE h28
        have h28 : Ow 3 o_ 1 [] w_ p0 x26 := h28
        refine ⟨⟨_, rfl, congrArg (fun b => some (Value.bool b)) hc92⟩, ?_⟩
        refine OW.imp (OW.fr (L' := [(23, p0), (24, .int .i64 x29)]) ⟨rfl, rfl, trivial⟩ (OW.indexAddr Try.underlying22 ty3 rfl h28.rv rfl q97)) ?_
        rintro _ _ ⟨rfl, ⟨pa94, hv_, hp95, he96⟩⟩
        subst hv_
        exact ⟨_, Evo.refl _ _ _ _, rfl, hp95, he96, trivial⟩
      · intro vs112 o_ w_ hE hp95
        have hp95 : PtrAt (In o_ [1]) w_ (pOf (vs112 7)) y93 := hp95
        refine ⟨⟨_, rfl, congrArg (fun b => some (Value.bool b)) hc92⟩, ?_⟩
        refine OW.imp (OW.fr (L' := [(25, .pointer (some (pOf (vs112 7))))]) ⟨rfl, trivial⟩ (OW.loadI ty3 rfl hp95)) ?_
        rintro _ _ ⟨rfl, rfl⟩
        exact ⟨_, Evo.refl _ _ _ _, rfl, trivial⟩
      · intro vs112 o_ w_ hE 
        refine ⟨⟨_, rfl, congrArg (fun b => some (Value.bool b)) hc92⟩, ?_⟩
        refine OW.imp (OW.fr (L' := [(0, p0)]) ⟨rfl, trivial⟩ (OW.pv (v := p0) rfl)) ?_
        rintro _ _ ⟨rfl, rfl⟩
        exact ⟨_, Evo.refl _ _ _ _, rfl, trivial⟩
      · intro vs112 o_ w_ hE 
        refine ⟨⟨_, rfl, congrArg (fun b => some (Value.bool b)) hc92⟩, ?_⟩
        refine OW.imp (OW.fr (L' := [(9, .int .i64 x29)]) ⟨rfl, trivial⟩ (OW.pv (v := .int .i64 x29) rfl)) ?_
        rintro _ _ ⟨rfl, rfl⟩
        exact ⟨_, Evo.refl _ _ _ _, rfl, trivial⟩
      · intro vs112 o_ w_ hE 
        refine ⟨⟨_, rfl, congrArg (fun b => some (Value.bool b)) hc92⟩, ?_⟩
        refine OW.imp (OW.fr (L' := [(28, .int .i64 x29)]) ⟨rfl, trivial⟩ (OW.pv (v := .int .i64 ((W (x29 - 1)))) rfl)) ?_
        rintro _ _ ⟨rfl, rfl⟩
        exact ⟨_, Evo.refl _ _ _ _, rfl, trivial⟩
      · intro vs112 o_ w_ hE h28
        have h28 : Ow 3 o_ 1 [] w_ p0 x26 := h28
        refine ⟨⟨_, rfl, congrArg (fun b => some (Value.bool b)) hc92⟩, ?_⟩
        refine OW.imp (OW.fr (L' := [(27, p0), (29, .int .i64 ((W (x29 - 1))))]) ⟨rfl, rfl, trivial⟩ (OW.indexAddr Try.underlying22 ty3 rfl h28.rv rfl q102)) ?_
        rintro _ _ ⟨rfl, ⟨pa99, hv_, hp100, he101⟩⟩
        subst hv_
        exact ⟨_, Evo.refl _ _ _ _, rfl, hp100, he101, trivial⟩
      · intro vs112 o_ w_ hE hp100
        have hp100 : PtrAt (In o_ [1]) w_ (pOf (vs112 12)) y98 := hp100
        refine ⟨⟨_, rfl, congrArg (fun b => some (Value.bool b)) hc92⟩, ?_⟩
        refine OW.imp (OW.fr (L' := [(30, .pointer (some (pOf (vs112 12))))]) ⟨rfl, trivial⟩ (OW.loadI ty3 rfl hp100)) ?_
        rintro _ _ ⟨rfl, rfl⟩
        exact ⟨_, Evo.refl _ _ _ _, rfl, trivial⟩
      · intro vs112 o_ w_ hE 
        refine ⟨⟨_, rfl, congrArg (fun b => some (Value.bool b)) hc92⟩, ?_⟩
        refine OW.imp (OW.fr (L' := [(22, .func (.func q3) #[] z3), (26, .int .i64 y93), (31, .int .i64 y98)]) ⟨rfl, rfl, rfl, trivial⟩ (OW.callV m3.1 rfl rfl (m3.2 _ hE.but _ _ _ q104 _ _ _ _ ((rv_int (S := fun _ => True)).2 rfl) ((rv_int (S := fun _ => True)).2 rfl)))) ?_
        rintro v111 w105 ⟨hb109, h110⟩
        obtain rfl := rv_int.1 h110
        obtain ⟨o106, ev107, hn108⟩ := fresh_new (o := o_) 2 hb109
        exact ⟨o106, ev107.sub rfl rfl, rfl, trivial⟩
      · intro vs112 o_ w_ hE 
        refine ⟨⟨_, rfl, congrArg (fun b => some (Value.bool b)) hc92⟩, ?_⟩
        refine OW.imp (OW.fr (L' := [(32, .int .i64 y103)]) ⟨rfl, trivial⟩ (OW.pv (v := .bool ((decide (y103 < 0)))) rfl)) ?_
        rintro _ _ ⟨rfl, rfl⟩
        exact ⟨_, Evo.refl _ _ _ _, rfl, trivial⟩
      · intro vs112 o_ w_ hE 
        refine OW.imp (OW.fr (L' := [(21, .bool ((decide (x29 > a1)))), (33, .bool ((decide (y103 < 0))))]) ⟨rfl, rfl, trivial⟩ (OW.pickT rfl hc92 rfl)) ?_
        rintro _ _ ⟨rfl, rfl⟩
        exact ⟨_, Evo.refl _ _ _ _, rfl, trivial⟩
      · intro vs112 o114 w113 hE h28 hp95 he96 hp100 he101
        have h28 : Ow 3 o114 1 [] w113 p0 x26 := h28
        have hp95 : PtrAt (In o114 [1]) w113 (pOf (vs112 7)) y93 := hp95
        have he96 : EPtr p0 1 x29 (pOf (vs112 7)) := he96
        have hp100 : PtrAt (In o114 [1]) w113 (pOf (vs112 12)) y98 := hp100
        have he101 : EPtr p0 1 ((W (x29 - 1))) (pOf (vs112 12)) := he101
        have e115 := Option.some.inj q51
        obtain ⟨e116, e117⟩ := Prod.mk.inj e115
        subst e116 e117
        exact NK.sub (L' := [(0, p0), (1, .int .i64 a1), (2, .int .i64 a2), (3, .func (.func q3) #[] z3), (8, .int .i64 x5), (9, .int .i64 x29), (34, .bool ((decide (y103 < 0))))]) ⟨rfl, rfl, rfl, rfl, rfl, rfl, rfl, trivial⟩ (hJ54 w113 o114 hE h28)
    · have q51 := iteF hc92 q51
      have ev_ := Evo.drew o39 w38
      refine CW.any (ow := o39) hmix [⟨none, none, [1], [], fun x_ o_ w_ => Ow 3 o_ 1 [] w_ p0 x26⟩] [⟨[], [], [], [], fun x_ => .int .i64 x29, false⟩, ⟨[], [], [], [], fun x_ => .int .i64 a1, false⟩, ⟨[], [], [0, 1], [], fun x_ => .bool ((decide (x29 > a1))), false⟩, ⟨[], [], [0, 1, 2], [], fun x_ => .bool ((decide (x29 > a1))), false⟩, ⟨[], [], [0, 1, 2, 3], [], fun x_ => undef, true⟩, ⟨[], [], [0, 1, 2, 3], [], fun x_ => undef, true⟩, ⟨[], [], [0, 1, 2, 3], [], fun x_ => undef, true⟩, ⟨[], [], [0, 1, 2, 3, 5, 6], [], fun x_ => undef, true⟩, ⟨[], [], [0, 1, 2, 3, 5, 6, 7], [], fun x_ => undef, true⟩, ⟨[], [], [0, 1, 2, 3], [], fun x_ => undef, true⟩, ⟨[], [], [0, 1, 2, 3], [], fun x_ => undef, true⟩, ⟨[], [], [0, 1, 2, 3, 10], [], fun x_ => undef, true⟩, ⟨[], [], [0, 1, 2, 3, 9, 10, 11], [], fun x_ => undef, true⟩, ⟨[], [], [0, 1, 2, 3, 9, 10, 11, 12], [], fun x_ => undef, true⟩, ⟨[], [], [0, 1, 2, 3, 4, 5, 6, 7, 8, 9, 10, 11, 12, 13], [], fun x_ => undef, true⟩, ⟨[], [], [0, 1, 2, 3, 4, 5, 6, 7, 8, 9, 10, 11, 12, 13, 14], [], fun x_ => undef, true⟩, ⟨[], [], [0, 1, 2, 3, 4, 5, 6, 7, 8, 9, 10, 11, 12, 13, 14, 15], [], fun x_ => .bool false, false⟩] [] [] (fun o_ w_ => Ent w0 (some db) o_ w_) (by kernel_rfl) (by kernel_rfl) ⟨fun _ _ _ _ _ _ ev hd h => Ow.evo h ev hd, trivial⟩ (Ent.any rfl rfl) ⟨hE.evo ev_ rfl rfl, ⟨h28.evo ev_ rfl, trivial⟩⟩ ⟨?_, ?_, ?_, ?_, ?_, ?_, ?_, ?_, ?_, ?_, ?_, ?_, ?_, ?_, ?_, ?_, ?_, trivial⟩ ?_
      · intro vs118 o_ w_ hE 
        refine OW.imp (OW.fr (L' := [(9, .int .i64 x29)]) ⟨rfl, trivial⟩ (OW.pv (v := .int .i64 x29) rfl)) ?_
        rintro _ _ ⟨rfl, rfl⟩
        exact ⟨_, Evo.refl _ _ _ _, rfl, trivial⟩
      · intro vs118 o_ w_ hE 
        refine OW.imp (OW.fr (L' := [(1, .int .i64 a1)]) ⟨rfl, trivial⟩ (OW.pv (v := .int .i64 a1) rfl)) ?_
        rintro _ _ ⟨rfl, rfl⟩
        exact ⟨_, Evo.refl _ _ _ _, rfl, trivial⟩
      · intro vs118 o_ w_ hE 
        refine OW.imp (OW.fr (L' := [(18, .int .i64 x29), (19, .int .i64 a1)]) ⟨rfl, rfl, trivial⟩ (OW.pv (v := .bool ((decide (x29 > a1)))) rfl)) ?_
        rintro _ _ ⟨rfl, rfl⟩
        exact ⟨_, Evo.refl _ _ _ _, rfl, trivial⟩
      · intro vs118 o_ w_ hE 
        refine OW.imp (OW.fr (L' := [(20, .bool ((decide (x29 > a1))))]) ⟨rfl, trivial⟩ (OW.pv (v := .bool ((decide (x29 > a1)))) rfl)) ?_
        rintro _ _ ⟨rfl, rfl⟩
        exact ⟨_, Evo.refl _ _ _ _, rfl, trivial⟩
      · intro vs118 o_ w_ hE 
        exact ⟨⟨_, rfl, .inl (congrArg (fun b => some (Value.bool b)) hc92)⟩, rfl, trivial⟩
      · intro vs118 o_ w_ hE 
        exact ⟨⟨_, rfl, .inl (congrArg (fun b => some (Value.bool b)) hc92)⟩, rfl, trivial⟩
      · intro vs118 o_ w_ hE 
        exact ⟨⟨_, rfl, .inl (congrArg (fun b => some (Value.bool b)) hc92)⟩, rfl, trivial⟩
      · intro vs118 o_ w_ hE 
        exact ⟨⟨_, rfl, .inl (congrArg (fun b => some (Value.bool b)) hc92)⟩, rfl, trivial⟩
      · intro vs118 o_ w_ hE 
        exact ⟨⟨_, rfl, .inl (congrArg (fun b => some (Value.bool b)) hc92)⟩, rfl, trivial⟩
      · intro vs118 o_ w_ hE 
        exact ⟨⟨_, rfl, .inl (congrArg (fun b => some (Value.bool b)) hc92)⟩, rfl, trivial⟩
      · intro vs118 o_ w_ hE 
        exact ⟨⟨_, rfl, .inl (congrArg (fun b => some (Value.bool b)) hc92)⟩, rfl, trivial⟩
      · intro vs118 o_ w_ hE 
        exact ⟨⟨_, rfl, .inl (congrArg (fun b => some (Value.bool b)) hc92)⟩, rfl, trivial⟩
      · intro vs118 o_ w_ hE 
        exact ⟨⟨_, rfl, .inl (congrArg (fun b => some (Value.bool b)) hc92)⟩, rfl, trivial⟩
      · intro vs118 o_ w_ hE 
        exact ⟨⟨_, rfl, .inl (congrArg (fun b => some (Value.bool b)) hc92)⟩, rfl, trivial⟩
      · intro vs118 o_ w_ hE 
        exact ⟨⟨_, rfl, .inl (congrArg (fun b => some (Value.bool b)) hc92)⟩, rfl, trivial⟩
      · intro vs118 o_ w_ hE 
        exact ⟨⟨_, rfl, .inl (congrArg (fun b => some (Value.bool b)) hc92)⟩, rfl, trivial⟩
      · intro vs118 o_ w_ hE 
        refine OW.imp (OW.fr (L' := [(21, .bool ((decide (x29 > a1)))), (33, undef)]) ⟨rfl, rfl, trivial⟩ (OW.pickF rfl hc92 rfl)) ?_
        rintro _ _ ⟨rfl, rfl⟩
        exact ⟨_, Evo.refl _ _ _ _, rfl, trivial⟩
      · intro vs118 o120 w119 hE h28
        have h28 : Ow 3 o120 1 [] w119 p0 x26 := h28
        have e121 := Option.some.inj q51
        obtain ⟨e122, e123⟩ := Prod.mk.inj e121
        subst e122 e123
        exact NK.sub (L' := [(0, p0), (1, .int .i64 a1), (2, .int .i64 a2), (3, .func (.func q3) #[] z3), (8, .int .i64 x5), (9, .int .i64 x29), (34, .bool false)]) ⟨rfl, rfl, rfl, rfl, rfl, rfl, rfl, trivial⟩ (hJ54 w119 o120 hE h28)
  · have hx18 := iteF hc23 hx18
    refine CW.exit ?_
    exact NK.sub (L' := [(0, p0)]) ⟨rfl, trivial⟩ (hJ13 x2 w14 o15 (hr19 _ (Option.some.inj hx18).symm) hE h4)

end Go.Proofs.Ytnpghnnlcakbfaa
