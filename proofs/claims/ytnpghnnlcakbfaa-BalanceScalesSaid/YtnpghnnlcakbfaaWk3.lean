/- Walks. Written by a program (wip/gen). -/
import Derived.Test.YtnpghnnlcakbfaaWk2
namespace Go.Proofs.Ytnpghnnlcakbfaa
open Go Go.RowKit Dp

set_option maxRecDepth 100000

set_option maxHeartbeats 1000000 in
theorem dynposlaw17_sane_ok {r : Bool} (hF : dynposlaw17_sane  = some r) {w0 : World}  :
    Calls Try.prog 11 #[] w0 (Ret fun v w' => Below w0.heap.size w0 w' ∧ v = .bool r) := by
  have hE := Ent.refl w0 none
  rw [dynposlaw17_sane] at hF
  refine enter (l := []) Try.func11 rfl Try.ntmps11 rfl ?_
  refine CW.sub (L' := []) trivial ?_
  refine CW.seq fun K1 hK1 => ?_
  refine CW.region ?_
  refine WL.stepE (OW.pv (v := .bool false) rfl) rfl ?_
  refine WL.nil ?_
  refine NK.sub (L' := []) trivial ?_
  refine hK1 _ _ ?_
  refine CW.seq fun K2 hK2 => ?_
  refine CW.region ?_
  refine WL.step (OW.buildSlice (o := (ent w0 none)) (k := 2) (K := []) (xs := ([2, 2, 2] : List Int)) Try.underlying22 ty3 rfl ⟨(rv_int.2 rfl), (rv_int.2 rfl), (rv_int.2 rfl), trivial⟩ rfl rfl) rfl ?_
  rintro v3 w4 ⟨o5, ev6, h7⟩
  have hE := hE.evo ev6 rfl rfl
  obtain ⟨⟨y8, y9⟩, q10, hF⟩ := bindE hF
  dsimp only at hF
  refine WL.step (OW.call Try.call14 rfl (balance_Split_ok q10 h7.rv)) rfl ?_
  rintro _ w11 ⟨hb15, v16, rfl, h17⟩
  obtain ⟨o12, ev13, hn14⟩ := fresh_new (o := o5) 3 hb15
  have hE := hE.evo ev13 rfl rfl
  have h7 := h7.evo ev13 rfl
  have h17 := h17.new hn14
  refine WL.stepE (OW.pv (v := .tuple #[v16, .int .i64 y9]) rfl) rfl ?_
  refine WL.stepE (OW.pv (v := v16) rfl) rfl ?_
  refine WL.stepE (OW.pv (v := .int .i64 y9) rfl) rfl ?_
  refine WL.stepE (OW.pv (v := v16) rfl) rfl ?_
  refine WL.stepE (OW.pv (v := .int .i64 y9) rfl) rfl ?_
  refine WL.nil ?_
  refine NK.sub (L' := [(1, v16), (2, .int .i64 y9)]) ⟨rfl, rfl, trivial⟩ ?_
  refine hK2 _ _ ?_
  refine CW.seq fun K18 hK18 => ?_
  refine CW.region ?_
  refine WL.stepE (OW.pv (v := .int .i64 y9) rfl) rfl ?_
  refine WL.stepE (OW.pv (v := .bool (((y9 == 0)))) rfl) rfl ?_
  refine WL.stepE (OW.pv (v := .bool (((y9 == 0)))) rfl) rfl ?_
  obtain ⟨x19, q20, hF⟩ := bindE hF
  have hJ23 : ∀ (w21 : World) (o22 : Cls), Ent w0 none o22 w21 → NK 20 K18 [(0, .bool x19)] w21 := by
    intro w21 o22  hE
    refine NK.sub (L' := [(0, .bool x19)]) ⟨rfl, trivial⟩ ?_
    refine hK18 _ _ ?_
    obtain rfl := Option.some.inj hF
    exact CW.rets (vs := [.bool x19]) Try.results11 ⟨rfl, trivial⟩ ⟨_, rfl, hE.fresh, rfl⟩ (fun _ _ h => h)
  rcases Bool.eq_false_or_eq_true (((y9 == 0))) with hc24 | hc24
  · have q20 := iteT hc24 q20
    refine WL.stepGE rfl rfl rfl hc24 (OW.pv (v := v16) rfl) rfl ?_
    refine WL.stepG rfl rfl rfl hc24 (OW.buildSlice (o := o12) (k := 4) (K := []) (xs := ([4, 3, 3] : List Int)) Try.underlying22 ty3 rfl ⟨(rv_int.2 rfl), (rv_int.2 rfl), (rv_int.2 rfl), trivial⟩ rfl rfl) rfl ?_
    rintro v25 w26 ⟨o27, ev28, h29⟩
    have hE := hE.evo ev28 rfl rfl
    have h17 := h17.evo ev28 rfl
    obtain ⟨y30, q31, q20⟩ := bindE q20
    refine WL.stepG rfl rfl rfl hc24 (OW.call Try.call15 rfl (dynposref01_Ints_ok q31 h17 h29.rv)) rfl ?_
    rintro _ w32 ⟨hb36, rfl⟩
    obtain ⟨o33, ev34, hn35⟩ := fresh_new (o := o27) 5 hb36
    have hE := hE.evo ev34 rfl rfl
    have h17 := h17.evo ev34 rfl
    have h29 := h29.evo ev34 rfl
    refine WL.stepE (OW.pickT rfl hc24 rfl) rfl ?_
    refine WL.stepE (OW.pv (v := .bool y30) rfl) rfl ?_
    obtain ⟨x37, q38, q20⟩ := bindE q20
    have hJ41 : ∀ (w39 : World) (o40 : Cls), Ent w0 none o40 w39 → NK 20 K18 [(0, .bool x37)] w39 := by
      intro w39 o40  hE
      have e42 := Option.some.inj q20
      subst e42
      exact NK.sub (L' := [(0, .bool x37)]) ⟨rfl, trivial⟩ (hJ23 w39 o40 hE)
    rcases Bool.eq_false_or_eq_true y30 with hc43 | hc43
    · have q38 := iteT hc43 q38
      refine WL.stepG rfl rfl rfl hc43 (OW.buildSlice (o := o33) (k := 6) (K := []) (xs := ([2, 2, 2] : List Int)) Try.underlying22 ty3 rfl ⟨(rv_int.2 rfl), (rv_int.2 rfl), (rv_int.2 rfl), trivial⟩ rfl rfl) rfl ?_
      rintro v44 w45 ⟨o46, ev47, h48⟩
      have hE := hE.evo ev47 rfl rfl
      have h17 := h17.evo ev47 rfl
      refine WL.stepGE rfl rfl rfl hc43 (OW.pv (v := v16) rfl) rfl ?_
      obtain ⟨y49, q50, q38⟩ := bindE q38
      refine WL.stepG rfl rfl rfl hc43 (OW.call Try.call16 rfl (balance_Check_ok q50 h48.rv h17)) rfl ?_
      rintro _ w51 ⟨hb55, rfl⟩
      obtain ⟨o52, ev53, hn54⟩ := fresh_new (o := o46) 7 hb55
      have hE := hE.evo ev53 rfl rfl
      have h17 := h17.evo ev53 rfl
      have h48 := h48.evo ev53 rfl
      refine WL.stepE (OW.pickT rfl hc43 rfl) rfl ?_
      refine WL.stepE (OW.pv (v := .bool y49) rfl) rfl ?_
      refine WL.nil ?_
      have e56 := Option.some.inj q38
      subst e56
      exact NK.sub (L' := [(0, .bool y49)]) ⟨rfl, trivial⟩ (hJ41 w51 o52 hE)
    · have q38 := iteF hc43 q38
      refine WL.skipG rfl rfl rfl (by rw [hc43]; rfl) rfl ?_
      refine WL.skipG rfl rfl rfl (by rw [hc43]; rfl) rfl ?_
      refine WL.skipG rfl rfl rfl (by rw [hc43]; rfl) rfl ?_
      refine WL.stepE (OW.pickF rfl hc43 rfl) rfl ?_
      refine WL.stepE (OW.pv (v := .bool false) rfl) rfl ?_
      refine WL.nil ?_
      have e57 := Option.some.inj q38
      subst e57
      exact NK.sub (L' := [(0, .bool false)]) ⟨rfl, trivial⟩ (hJ41 w32 o33 hE)
  · have q20 := iteF hc24 q20
    refine WL.skipG rfl rfl rfl (by rw [hc24]; rfl) rfl ?_
    refine WL.skipG rfl rfl rfl (by rw [hc24]; rfl) rfl ?_
    refine WL.skipG rfl rfl rfl (by rw [hc24]; rfl) rfl ?_
    refine WL.stepE (OW.pickF rfl hc24 rfl) rfl ?_
    refine WL.stepE (OW.pv (v := .bool false) rfl) rfl ?_
    refine WL.skipG rfl rfl rfl rfl rfl ?_
    refine WL.skipG rfl rfl rfl rfl rfl ?_
    refine WL.skipG rfl rfl rfl rfl rfl ?_
    refine WL.stepE (OW.pickF rfl rfl rfl) rfl ?_
    refine WL.stepE (OW.pv (v := .bool false) rfl) rfl ?_
    refine WL.nil ?_
    have e58 := Option.some.inj q20
    subst e58
    exact NK.sub (L' := [(0, .bool false)]) ⟨rfl, trivial⟩ (hJ23 w11 o12 hE)

set_option maxHeartbeats 1000000 in
theorem Src_Range_ok {st0 : List Int} {a1 : Int} {a2 : Int} {r : (Int × List Int)} (hF : Src_Range st0 a1 a2 = some r) {w0 : World} {sb : Nat} {sv : Value} {sL : List Int} {Ss : Nat → Prop} (hs : SrcB w0 sb sv sL st0) (hL : Rv Ss w0 sv sL) (hLn : ∀ b, Ss b → b ≠ sb) :
    Calls Try.prog 12 #[.pointer (some ⟨sb, 0, none⟩), .int .i64 a1, .int .i64 a2] w0 (Ret fun v w' => w0.grownBy w' (some sb) ∧ SrcB w' sb sv sL r.2 ∧ v = .int .i64 r.1) := by
  have hE := Ent.refl w0 (some sb)
  have hs : SrcC (ent w0 (some sb)) 1 w0 sb sv sL st0 := ⟨hs, ent_src hs⟩
  have hL := hL.arg (sb := some sb) (fun b hb e => hLn b hb (Option.some.inj e))
  rw [Src_Range] at hF
  refine enter (l := [.pointer (some ⟨sb, 0, none⟩), .int .i64 a1, .int .i64 a2]) Try.func12 rfl Try.ntmps12 rfl ?_
  refine CW.sub (L' := [(0, .pointer (some ⟨sb, 0, none⟩)), (1, .int .i64 a1), (2, .int .i64 a2)]) ⟨rfl, rfl, rfl, trivial⟩ ?_
  refine CW.seq fun K1 hK1 => ?_
  refine CW.region ?_
  refine WL.stepE (OW.pv (v := .int .i64 0) rfl) rfl ?_
  refine WL.nil ?_
  refine NK.sub (L' := [(0, .pointer (some ⟨sb, 0, none⟩)), (1, .int .i64 a1), (2, .int .i64 a2)]) ⟨rfl, rfl, rfl, trivial⟩ ?_
  refine hK1 _ _ ?_
  refine CW.seq fun K2 hK2 => ?_
  refine CW.region ?_
  refine WL.stepE (OW.pv (v := .int .i64 a1) rfl) rfl ?_
  refine WL.stepE (OW.pv (v := .pointer (some ⟨sb, 0, none⟩)) rfl) rfl ?_
  refine WL.stepE (OW.pv (v := .int .i64 a2) rfl) rfl ?_
  refine WL.stepE (OW.pv (v := .int .i64 a1) rfl) rfl ?_
  refine WL.stepE (OW.pv (v := .int .i64 ((W (a2 - a1)))) rfl) rfl ?_
  refine WL.stepE (OW.pv (v := .int .i64 ((W (((W (a2 - a1))) + 1)))) rfl) rfl ?_
  obtain ⟨⟨y3, st4⟩, q5, hF⟩ := bindE hF
  dsimp only at hF
  refine WL.step (OW.call Try.call13 rfl (Src_N_ok q5 hs.1 (hL.base hE) (src_not hs.2 rfl))) rfl ?_
  rintro _ w6 ⟨hb10, hs_, rfl⟩
  obtain ⟨o7, ev8, hn9⟩ := but_new (o := (ent w0 (some sb))) 2 hb10 hs.2
  have hs := hs.new ev8 hs_
  have hE := hE.evo ev8 rfl rfl
  refine WL.stepE (OW.pv (v := .int .i64 ((W (a1 + y3)))) rfl) rfl ?_
  refine WL.stepE (OW.pv (v := .int .i64 ((W (a1 + y3)))) rfl) rfl ?_
  refine WL.nil ?_
  refine NK.sub (L' := [(6, .int .i64 ((W (a1 + y3))))]) ⟨rfl, trivial⟩ ?_
  refine hK2 _ _ ?_
  obtain rfl := Option.some.inj hF
  exact CW.rets (vs := [.int .i64 ((W (a1 + y3)))]) Try.results12 ⟨rfl, trivial⟩ ⟨_, rfl, hE.but, hs.1, rfl⟩ (fun _ _ h => h)

set_option maxHeartbeats 1000000 in
theorem dynposlaw17_BalanceScales_ok {a0 : (List Int)} {r : Bool} (hF : dynposlaw17_BalanceScales a0 = some r) {w0 : World} {p0 : Value} {S0 : Nat → Prop} (g0 : Rv S0 w0 p0 a0) :
    Calls Try.prog 3 #[p0] w0 (Ret fun v w' => Below w0.heap.size w0 w' ∧ v = .bool r) := by
  have hE := Ent.refl w0 none
  have g0 := g0.arg0
  rw [dynposlaw17_BalanceScales] at hF
  refine enter (l := [p0]) Try.func3 rfl Try.ntmps3 rfl ?_
  refine CW.sub (L' := [(0, p0)]) ⟨rfl, trivial⟩ ?_
  refine CW.seq fun K1 hK1 => ?_
  refine CW.region ?_
  refine WL.stepE (OW.pv (v := .bool false) rfl) rfl ?_
  refine WL.nil ?_
  refine NK.sub (L' := [(0, p0)]) ⟨rfl, trivial⟩ ?_
  refine hK1 _ _ ?_
  refine CW.seq fun K2 hK2 => ?_
  refine CW.region ?_
  refine WL.stepE (OW.pv (v := p0) rfl) rfl ?_
  obtain ⟨y3, q4, hF⟩ := bindE hF
  refine WL.step (OW.call Try.call9 rfl (dynposmake_New_ok q4 (g0.base hE))) rfl ?_
  rintro _ w5 ⟨hb9, sb, sv, rfl, hge_, hs_, h10⟩
  obtain ⟨o6, ev7, hn8⟩ := fresh_new (o := (ent w0 none)) 2 hb9
  have hE := hE.evo ev7 rfl rfl
  have hs : SrcC o6 2 w5 sb sv y3 y3 := ⟨hs_, hn8 sb hge_⟩
  have h10 : Rv (In o6 [0]) w5 sv y3 := h10.old ev7
  refine WL.stepE (OW.pv (v := .pointer (some ⟨sb, 0, none⟩)) rfl) rfl ?_
  refine WL.nil ?_
  refine NK.sub (L' := [(3, .pointer (some ⟨sb, 0, none⟩))]) ⟨rfl, trivial⟩ ?_
  refine hK2 _ _ ?_
  refine CW.seq fun K11 hK11 => ?_
  refine CW.region ?_
  refine WL.stepE (OW.pv (v := .pointer (some ⟨sb, 0, none⟩)) rfl) rfl ?_
  obtain ⟨⟨y12, st13⟩, q14, hF⟩ := bindE hF
  dsimp only at hF
  refine WL.step (OW.call Try.call10 rfl (dynposlaw17_ratings_ok q14 hs.1 h10 (src_not hs.2 rfl))) rfl ?_
  rintro v20 w15 ⟨hb19, hs_, h21⟩
  obtain ⟨o16, ev17, hn18⟩ := but_new (o := o6) 3 hb19 hs.2
  have hs := hs.new ev17 hs_
  have hE := hE.evo ev17 rfl rfl
  have h10 := h10.evo ev17 rfl
  have h21 := h21.new hn18
  refine WL.stepE (OW.pv (v := v20) rfl) rfl ?_
  refine WL.nil ?_
  refine NK.sub (L' := [(3, .pointer (some ⟨sb, 0, none⟩)), (4, v20)]) ⟨rfl, rfl, trivial⟩ ?_
  refine hK11 _ _ ?_
  refine CW.seq fun K22 hK22 => ?_
  refine CW.seq fun K23 hK23 => ?_
  refine CW.region ?_
  refine WL.stepE (OW.pv (v := v20) rfl) rfl ?_
  refine WL.stepE (OW.len Try.underlying22 rfl h21) rfl ?_
  refine WL.stepE (OW.pv (v := .bool ((((len y12) == 0)))) rfl) rfl ?_
  refine WL.nil ?_
  refine NK.sub (L' := [(3, .pointer (some ⟨sb, 0, none⟩)), (4, v20), (23, .bool ((((len y12) == 0))))]) ⟨rfl, rfl, rfl, trivial⟩ ?_
  refine hK23 _ _ ?_
  refine CW.cond (b := (((len y12) == 0))) rfl (fun hc24 => ?_) (fun hc24 => ?_)
  · have hF := iteT hc24 hF
    refine CW.seq fun K25 hK25 => ?_
    refine CW.region ?_
    obtain ⟨y26, q27, hF⟩ := bindE hF
    refine WL.step (OW.call Try.call11 rfl (dynposlaw17_sane_ok q27)) rfl ?_
    rintro _ w28 ⟨hb32, rfl⟩
    obtain ⟨o29, ev30, hn31⟩ := fresh_new (o := o16) 4 hb32
    have hE := hE.evo ev30 rfl rfl
    have h10 := h10.evo ev30 rfl
    have hs := hs.evo ev30 rfl
    refine WL.stepE (OW.pv (v := .bool y26) rfl) rfl ?_
    refine WL.nil ?_
    refine NK.sub (L' := [(2, .bool y26)]) ⟨rfl, trivial⟩ ?_
    refine hK25 _ _ ?_
    obtain rfl := Option.some.inj hF
    exact CW.rets (vs := [.bool y26]) Try.results3 ⟨rfl, trivial⟩ ⟨_, rfl, hE.fresh, rfl⟩ (fun _ _ h => h)
  · have hF := iteF hc24 hF
    refine CW.skip ?_
    refine NK.sub (L' := [(3, .pointer (some ⟨sb, 0, none⟩)), (4, v20)]) ⟨rfl, rfl, trivial⟩ ?_
    refine hK22 _ _ ?_
    refine CW.seq fun K33 hK33 => ?_
    refine CW.region ?_
    refine WL.stepE (OW.pv (v := .pointer (some ⟨sb, 0, none⟩)) rfl) rfl ?_
    obtain ⟨⟨y34, st35⟩, q36, hF⟩ := bindE hF
    dsimp only at hF
    refine WL.step (OW.call Try.call12 rfl (Src_Range_ok q36 hs.1 h10 (src_not hs.2 rfl))) rfl ?_
    rintro _ w37 ⟨hb41, hs_, rfl⟩
    obtain ⟨o38, ev39, hn40⟩ := but_new (o := o16) 5 hb41 hs.2
    have hs := hs.new ev39 hs_
    have hE := hE.evo ev39 rfl rfl
    have h10 := h10.evo ev39 rfl
    have h21 := h21.evo ev39 rfl
    refine WL.stepE (OW.pv (v := .int .i64 0) rfl) rfl ?_
    refine WL.stepE (OW.pv (v := .int .i64 y34) rfl) rfl ?_
    refine WL.nil ?_
    refine NK.sub (L' := [(3, .pointer (some ⟨sb, 0, none⟩)), (4, v20), (5, .int .i64 0), (6, .int .i64 y34)]) ⟨rfl, rfl, rfl, rfl, trivial⟩ ?_
    refine hK33 _ _ ?_
    refine CW.seq fun K42 hK42 => ?_
    refine CW.region ?_
    have h43 := Ow.nil (α := Int) 3 o38 6 [] w37
    refine WL.stepE (OW.pv (v := (.slice none 0 0)) rfl) rfl ?_
    refine WL.nil ?_
    refine NK.sub (L' := [(3, .pointer (some ⟨sb, 0, none⟩)), (4, v20), (5, .int .i64 0), (6, .int .i64 y34), (7, (.slice none 0 0))]) ⟨rfl, rfl, rfl, rfl, rfl, trivial⟩ ?_
    refine hK42 _ _ ?_
    refine CW.seq fun K44 hK44 => ?_
    refine CW.seq fun K45 hK45 => ?_
    refine CW.region ?_
    refine WL.stepE (OW.pv (v := v20) rfl) rfl ?_
    refine WL.stepE (OW.len Try.underlying22 rfl h21) rfl ?_
    refine WL.stepE (OW.pv (v := .int .i64 0) rfl) rfl ?_
    refine WL.nil ?_
    refine NK.sub (L' := [(3, .pointer (some ⟨sb, 0, none⟩)), (4, v20), (5, .int .i64 0), (6, .int .i64 y34), (7, (.slice none 0 0)), (27, v20), (28, .int .i64 (len y12)), (29, .int .i64 0)]) ⟨rfl, rfl, rfl, rfl, rfl, rfl, rfl, rfl, trivial⟩ ?_
    refine hK45 _ _ ?_
    refine CW.block ?_
    obtain ⟨r65, hl64, hF⟩ := bindE hF
    have hJ68 : ∀ (x57 : (List Int)) (x60 : Int) (x61 : (List Int)) (w66 : World) (o67 : Cls) (v58 v62 : Value), (x57, x60, x61) = r65 → Ent w0 none o67 w66 → Rv (In o67 [0]) w66 sv y3 → Rv (In o67 [3]) w66 v58 x57 → Ow 3 o67 6 [] w66 v62 x61 → SrcC o67 2 w66 sb sv y3 st35 → NK 90 K44 [(3, .pointer (some ⟨sb, 0, none⟩)), (4, v58), (5, .int .i64 x60), (6, .int .i64 y34), (7, v62)] w66 := by
      intro x57 x60 x61 w66 o67 v58 v62 e_ hE h10 h59 h63 hs
      subst e_
      try dsimp only at hF
      refine NK.sub (L' := [(3, .pointer (some ⟨sb, 0, none⟩)), (4, v58), (5, .int .i64 x60), (6, .int .i64 y34), (7, v62)]) ⟨rfl, rfl, rfl, rfl, rfl, trivial⟩ ?_
      refine hK44 _ _ ?_
      refine CW.seq fun K69 hK69 => ?_
      refine CW.region ?_
      refine WL.stepE (OW.pv (v := .pointer (some ⟨sb, 0, none⟩)) rfl) rfl ?_
      refine WL.stepE (OW.pv (v := .int .i64 x60) rfl) rfl ?_
      refine WL.stepE (OW.pv (v := .int .i64 ((W ((3 : Int) * x60)))) rfl) rfl ?_
      obtain ⟨⟨y70, st71⟩, q72, hF⟩ := bindE hF
      dsimp only at hF
      refine WL.step (OW.call Try.call13 rfl (Src_N_ok q72 hs.1 h10 (src_not hs.2 rfl))) rfl ?_
      rintro _ w73 ⟨hb77, hs_, rfl⟩
      obtain ⟨o74, ev75, hn76⟩ := but_new (o := o67) 8 hb77 hs.2
      have hs := hs.new ev75 hs_
      have hE := hE.evo ev75 rfl rfl
      have h10 := h10.evo ev75 rfl
      have h59 := h59.evo ev75 rfl
      have h63 := h63.evo ev75 rfl
      refine WL.stepE (OW.pv (v := .int .i64 y70) rfl) rfl ?_
      refine WL.nil ?_
      refine NK.sub (L' := [(4, v58), (5, .int .i64 x60), (6, .int .i64 y34), (7, v62), (10, .int .i64 y70)]) ⟨rfl, rfl, rfl, rfl, rfl, trivial⟩ ?_
      refine hK69 _ _ ?_
      refine CW.seq fun K78 hK78 => ?_
      refine CW.region ?_
      refine WL.stepE (OW.pv (v := .int .i64 y70) rfl) rfl ?_
      refine WL.stepE (OW.pv (v := v58) rfl) rfl ?_
      obtain ⟨⟨y79, y80⟩, q81, hF⟩ := bindE hF
      dsimp only at hF
      refine WL.step (OW.call Try.call14 rfl (balance_Split_ok q81 h59)) rfl ?_
      rintro _ w82 ⟨hb86, v87, rfl, h88⟩
      obtain ⟨o83, ev84, hn85⟩ := fresh_new (o := o74) 9 hb86
      have hE := hE.evo ev84 rfl rfl
      have h10 := h10.evo ev84 rfl
      have h59 := h59.evo ev84 rfl
      have h63 := h63.evo ev84 rfl
      have hs := hs.evo ev84 rfl
      have h88 := h88.new hn85
      refine WL.stepE (OW.pv (v := .tuple #[v87, .int .i64 y80]) rfl) rfl ?_
      refine WL.stepE (OW.pv (v := v87) rfl) rfl ?_
      refine WL.stepE (OW.pv (v := .int .i64 y80) rfl) rfl ?_
      refine WL.stepE (OW.pv (v := v87) rfl) rfl ?_
      refine WL.stepE (OW.pv (v := .int .i64 y80) rfl) rfl ?_
      refine WL.nil ?_
      refine NK.sub (L' := [(4, v58), (5, .int .i64 x60), (6, .int .i64 y34), (7, v62), (10, .int .i64 y70), (11, v87), (12, .int .i64 y80)]) ⟨rfl, rfl, rfl, rfl, rfl, rfl, rfl, trivial⟩ ?_
      refine hK78 _ _ ?_
      refine CW.seq fun K89 hK89 => ?_
      refine CW.region ?_
      refine WL.stepE (OW.pv (v := .int .i64 y70) rfl) rfl ?_
      refine WL.stepE (OW.pv (v := v62) rfl) rfl ?_
      obtain ⟨⟨y90, y91⟩, q92, hF⟩ := bindE hF
      dsimp only at hF
      refine WL.step (OW.call Try.call14 rfl (balance_Split_ok q92 h63.rv)) rfl ?_
      rintro _ w93 ⟨hb97, v98, rfl, h99⟩
      obtain ⟨o94, ev95, hn96⟩ := fresh_new (o := o83) 10 hb97
      have hE := hE.evo ev95 rfl rfl
      have h10 := h10.evo ev95 rfl
      have h59 := h59.evo ev95 rfl
      have h63 := h63.evo ev95 rfl
      have h88 := h88.evo ev95 rfl
      have hs := hs.evo ev95 rfl
      have h99 := h99.new hn96
      refine WL.stepE (OW.pv (v := .tuple #[v98, .int .i64 y91]) rfl) rfl ?_
      refine WL.stepE (OW.pv (v := v98) rfl) rfl ?_
      refine WL.stepE (OW.pv (v := .int .i64 y91) rfl) rfl ?_
      refine WL.stepE (OW.pv (v := v98) rfl) rfl ?_
      refine WL.stepE (OW.pv (v := .int .i64 y91) rfl) rfl ?_
      refine WL.nil ?_
      refine NK.sub (L' := [(4, v58), (5, .int .i64 x60), (6, .int .i64 y34), (7, v62), (11, v87), (12, .int .i64 y80), (13, v98), (14, .int .i64 y91)]) ⟨rfl, rfl, rfl, rfl, rfl, rfl, rfl, rfl, trivial⟩ ?_
      refine hK89 _ _ ?_
      refine CW.seq fun K100 hK100 => ?_
      refine CW.region ?_
      refine WL.stepE (OW.pv (v := .int .i64 y34) rfl) rfl ?_
      refine WL.stepE (OW.pv (v := .int .i64 x60) rfl) rfl ?_
      refine WL.stepE (OW.pv (v := .int .i64 ((W (y34 * x60)))) rfl) rfl ?_
      refine WL.stepE (OW.pv (v := v58) rfl) rfl ?_
      obtain ⟨⟨y101, y102⟩, q103, hF⟩ := bindE hF
      dsimp only at hF
      refine WL.step (OW.call Try.call14 rfl (balance_Split_ok q103 h59)) rfl ?_
      rintro _ w104 ⟨hb108, v109, rfl, h110⟩
      obtain ⟨o105, ev106, hn107⟩ := fresh_new (o := o94) 11 hb108
      have hE := hE.evo ev106 rfl rfl
      have h10 := h10.evo ev106 rfl
      have h59 := h59.evo ev106 rfl
      have h63 := h63.evo ev106 rfl
      have h88 := h88.evo ev106 rfl
      have h99 := h99.evo ev106 rfl
      have hs := hs.evo ev106 rfl
      have h110 := h110.new hn107
      refine WL.stepE (OW.pv (v := .tuple #[v109, .int .i64 y102]) rfl) rfl ?_
      refine WL.stepE (OW.pv (v := v109) rfl) rfl ?_
      refine WL.stepE (OW.pv (v := .int .i64 y102) rfl) rfl ?_
      refine WL.stepE (OW.pv (v := v109) rfl) rfl ?_
      refine WL.stepE (OW.pv (v := .int .i64 y102) rfl) rfl ?_
      refine WL.nil ?_
      refine NK.sub (L' := [(7, v62), (11, v87), (12, .int .i64 y80), (13, v98), (14, .int .i64 y91), (15, v109), (16, .int .i64 y102)]) ⟨rfl, rfl, rfl, rfl, rfl, rfl, rfl, trivial⟩ ?_
      refine hK100 _ _ ?_
      refine CW.seq fun K111 hK111 => ?_
      refine CW.region ?_
      refine WL.stepE (OW.pv (v := .int .i64 y80) rfl) rfl ?_
      refine WL.stepE (OW.pv (v := .bool (((y80 == 0)))) rfl) rfl ?_
      refine WL.stepE (OW.pv (v := .bool (((y80 == 0)))) rfl) rfl ?_
      obtain ⟨x112, q113, hF⟩ := bindE hF
      have hJ116 : ∀ (w114 : World) (o115 : Cls), Ent w0 none o115 w114 → Rv (In o115 [0]) w114 sv y3 → SrcC o115 2 w114 sb sv y3 st71 → NK 90 K111 [(2, .bool x112)] w114 := by
        intro w114 o115  hE h10 hs
        refine NK.sub (L' := [(2, .bool x112)]) ⟨rfl, trivial⟩ ?_
        refine hK111 _ _ ?_
        obtain rfl := Option.some.inj hF
        exact CW.rets (vs := [.bool x112]) Try.results3 ⟨rfl, trivial⟩ ⟨_, rfl, hE.fresh, rfl⟩ (fun _ _ h => h)
      rcases Bool.eq_false_or_eq_true (((y80 == 0))) with hc117 | hc117
      · have q113 := iteT hc117 q113
        refine WL.stepGE rfl rfl rfl hc117 (OW.pv (v := .int .i64 y91) rfl) rfl ?_
        refine WL.stepGE rfl rfl rfl hc117 (OW.pv (v := .bool (((y91 == 0)))) rfl) rfl ?_
        refine WL.stepE (OW.pickT rfl hc117 rfl) rfl ?_
        refine WL.stepE (OW.pv (v := .bool (((y91 == 0)))) rfl) rfl ?_
        obtain ⟨x118, q119, q113⟩ := bindE q113
        have hJ122 : ∀ (w120 : World) (o121 : Cls), Ent w0 none o121 w120 → Rv (In o121 [0]) w120 sv y3 → SrcC o121 2 w120 sb sv y3 st71 → NK 90 K111 [(2, .bool x118)] w120 := by
          intro w120 o121  hE h10 hs
          have e123 := Option.some.inj q113
          subst e123
          exact NK.sub (L' := [(2, .bool x118)]) ⟨rfl, trivial⟩ (hJ116 w120 o121 hE h10 hs)
        rcases Bool.eq_false_or_eq_true (((y91 == 0))) with hc124 | hc124
        · have q119 := iteT hc124 q119
          refine WL.stepGE rfl rfl rfl hc124 (OW.pv (v := .int .i64 y102) rfl) rfl ?_
          refine WL.stepGE rfl rfl rfl hc124 (OW.pv (v := .bool (((y102 == 0)))) rfl) rfl ?_
          refine WL.stepE (OW.pickT rfl hc124 rfl) rfl ?_
          refine WL.stepE (OW.pv (v := .bool (((y102 == 0)))) rfl) rfl ?_
          obtain ⟨x125, q126, q119⟩ := bindE q119
          have hJ129 : ∀ (w127 : World) (o128 : Cls), Ent w0 none o128 w127 → Rv (In o128 [0]) w127 sv y3 → SrcC o128 2 w127 sb sv y3 st71 → NK 90 K111 [(2, .bool x125)] w127 := by
            intro w127 o128  hE h10 hs
            have e130 := Option.some.inj q119
            subst e130
            exact NK.sub (L' := [(2, .bool x125)]) ⟨rfl, trivial⟩ (hJ122 w127 o128 hE h10 hs)
          rcases Bool.eq_false_or_eq_true (((y102 == 0))) with hc131 | hc131
          · have q126 := iteT hc131 q126
            refine WL.stepGE rfl rfl rfl hc131 (OW.pv (v := v87) rfl) rfl ?_
            refine WL.stepGE rfl rfl rfl hc131 (OW.pv (v := v98) rfl) rfl ?_
            obtain ⟨y132, q133, q126⟩ := bindE q126
            refine WL.stepG rfl rfl rfl hc131 (OW.call Try.call15 rfl (dynposref01_Ints_ok q133 h88 h99)) rfl ?_
            rintro _ w134 ⟨hb138, rfl⟩
            obtain ⟨o135, ev136, hn137⟩ := fresh_new (o := o105) 12 hb138
            have hE := hE.evo ev136 rfl rfl
            have h10 := h10.evo ev136 rfl
            have h110 := h110.evo ev136 rfl
            have h63 := h63.evo ev136 rfl
            have h88 := h88.evo ev136 rfl
            have h99 := h99.evo ev136 rfl
            have hs := hs.evo ev136 rfl
            refine WL.stepE (OW.pickT rfl hc131 rfl) rfl ?_
            refine WL.stepE (OW.pv (v := .bool y132) rfl) rfl ?_
            obtain ⟨x139, q140, q126⟩ := bindE q126
            have hJ143 : ∀ (w141 : World) (o142 : Cls), Ent w0 none o142 w141 → Rv (In o142 [0]) w141 sv y3 → SrcC o142 2 w141 sb sv y3 st71 → NK 90 K111 [(2, .bool x139)] w141 := by
              intro w141 o142  hE h10 hs
              have e144 := Option.some.inj q126
              subst e144
              exact NK.sub (L' := [(2, .bool x139)]) ⟨rfl, trivial⟩ (hJ129 w141 o142 hE h10 hs)
            rcases Bool.eq_false_or_eq_true y132 with hc145 | hc145
            · have q140 := iteT hc145 q140
              refine WL.stepGE rfl rfl rfl hc145 (OW.pv (v := v109) rfl) rfl ?_
              refine WL.stepGE rfl rfl rfl hc145 (OW.pv (v := v62) rfl) rfl ?_
              obtain ⟨y146, q147, q140⟩ := bindE q140
              refine WL.stepG rfl rfl rfl hc145 (OW.call Try.call15 rfl (dynposref01_Ints_ok q147 h110 h63.rv)) rfl ?_
              rintro _ w148 ⟨hb152, rfl⟩
              obtain ⟨o149, ev150, hn151⟩ := fresh_new (o := o135) 13 hb152
              have hE := hE.evo ev150 rfl rfl
              have h10 := h10.evo ev150 rfl
              have h110 := h110.evo ev150 rfl
              have h63 := h63.evo ev150 rfl
              have hs := hs.evo ev150 rfl
              refine WL.stepE (OW.pickT rfl hc145 rfl) rfl ?_
              refine WL.stepE (OW.pv (v := .bool y146) rfl) rfl ?_
              obtain ⟨x153, q154, q140⟩ := bindE q140
              have hJ157 : ∀ (w155 : World) (o156 : Cls), Ent w0 none o156 w155 → Rv (In o156 [0]) w155 sv y3 → SrcC o156 2 w155 sb sv y3 st71 → NK 90 K111 [(2, .bool x153)] w155 := by
                intro w155 o156  hE h10 hs
                have e158 := Option.some.inj q140
                subst e158
                exact NK.sub (L' := [(2, .bool x153)]) ⟨rfl, trivial⟩ (hJ143 w155 o156 hE h10 hs)
              rcases Bool.eq_false_or_eq_true y146 with hc159 | hc159
              · have q154 := iteT hc159 q154
                obtain ⟨y160, q161, q154⟩ := bindE q154
                refine WL.stepG rfl rfl rfl hc159 (OW.call Try.call11 rfl (dynposlaw17_sane_ok q161)) rfl ?_
                rintro _ w162 ⟨hb166, rfl⟩
                obtain ⟨o163, ev164, hn165⟩ := fresh_new (o := o149) 14 hb166
                have hE := hE.evo ev164 rfl rfl
                have h10 := h10.evo ev164 rfl
                have hs := hs.evo ev164 rfl
                refine WL.stepE (OW.pickT rfl hc159 rfl) rfl ?_
                refine WL.stepE (OW.pv (v := .bool y160) rfl) rfl ?_
                refine WL.nil ?_
                have e167 := Option.some.inj q154
                subst e167
                exact NK.sub (L' := [(2, .bool y160)]) ⟨rfl, trivial⟩ (hJ157 w162 o163 hE h10 hs)
              · have q154 := iteF hc159 q154
                refine WL.skipG rfl rfl rfl (by rw [hc159]; rfl) rfl ?_
                refine WL.stepE (OW.pickF rfl hc159 rfl) rfl ?_
                refine WL.stepE (OW.pv (v := .bool false) rfl) rfl ?_
                refine WL.nil ?_
                have e168 := Option.some.inj q154
                subst e168
                exact NK.sub (L' := [(2, .bool false)]) ⟨rfl, trivial⟩ (hJ157 w148 o149 hE h10 hs)
            · have q140 := iteF hc145 q140
              refine WL.skipG rfl rfl rfl (by rw [hc145]; rfl) rfl ?_
              refine WL.skipG rfl rfl rfl (by rw [hc145]; rfl) rfl ?_
              refine WL.skipG rfl rfl rfl (by rw [hc145]; rfl) rfl ?_
              refine WL.stepE (OW.pickF rfl hc145 rfl) rfl ?_
              refine WL.stepE (OW.pv (v := .bool false) rfl) rfl ?_
              refine WL.skipG rfl rfl rfl rfl rfl ?_
              refine WL.stepE (OW.pickF rfl rfl rfl) rfl ?_
              refine WL.stepE (OW.pv (v := .bool false) rfl) rfl ?_
              refine WL.nil ?_
              have e169 := Option.some.inj q140
              subst e169
              exact NK.sub (L' := [(2, .bool false)]) ⟨rfl, trivial⟩ (hJ143 w134 o135 hE h10 hs)
          · have q126 := iteF hc131 q126
            refine WL.skipG rfl rfl rfl (by rw [hc131]; rfl) rfl ?_
            refine WL.skipG rfl rfl rfl (by rw [hc131]; rfl) rfl ?_
            refine WL.skipG rfl rfl rfl (by rw [hc131]; rfl) rfl ?_
            refine WL.stepE (OW.pickF rfl hc131 rfl) rfl ?_
            refine WL.stepE (OW.pv (v := .bool false) rfl) rfl ?_
            refine WL.skipG rfl rfl rfl rfl rfl ?_
            refine WL.skipG rfl rfl rfl rfl rfl ?_
            refine WL.skipG rfl rfl rfl rfl rfl ?_
            refine WL.stepE (OW.pickF rfl rfl rfl) rfl ?_
            refine WL.stepE (OW.pv (v := .bool false) rfl) rfl ?_
            refine WL.skipG rfl rfl rfl rfl rfl ?_
            refine WL.stepE (OW.pickF rfl rfl rfl) rfl ?_
            refine WL.stepE (OW.pv (v := .bool false) rfl) rfl ?_
            refine WL.nil ?_
            have e170 := Option.some.inj q126
            subst e170
            exact NK.sub (L' := [(2, .bool false)]) ⟨rfl, trivial⟩ (hJ129 w104 o105 hE h10 hs)
        · have q119 := iteF hc124 q119
          refine WL.skipG rfl rfl rfl (by rw [hc124]; rfl) rfl ?_
          refine WL.skipG rfl rfl rfl (by rw [hc124]; rfl) rfl ?_
          refine WL.stepE (OW.pickF rfl hc124 rfl) rfl ?_
          refine WL.stepE (OW.pv (v := .bool false) rfl) rfl ?_
          refine WL.skipG rfl rfl rfl rfl rfl ?_
          refine WL.skipG rfl rfl rfl rfl rfl ?_
          refine WL.skipG rfl rfl rfl rfl rfl ?_
          refine WL.stepE (OW.pickF rfl rfl rfl) rfl ?_
          refine WL.stepE (OW.pv (v := .bool false) rfl) rfl ?_
          refine WL.skipG rfl rfl rfl rfl rfl ?_
          refine WL.skipG rfl rfl rfl rfl rfl ?_
          refine WL.skipG rfl rfl rfl rfl rfl ?_
          refine WL.stepE (OW.pickF rfl rfl rfl) rfl ?_
          refine WL.stepE (OW.pv (v := .bool false) rfl) rfl ?_
          refine WL.skipG rfl rfl rfl rfl rfl ?_
          refine WL.stepE (OW.pickF rfl rfl rfl) rfl ?_
          refine WL.stepE (OW.pv (v := .bool false) rfl) rfl ?_
          refine WL.nil ?_
          have e171 := Option.some.inj q119
          subst e171
          exact NK.sub (L' := [(2, .bool false)]) ⟨rfl, trivial⟩ (hJ122 w104 o105 hE h10 hs)
      · have q113 := iteF hc117 q113
        refine WL.skipG rfl rfl rfl (by rw [hc117]; rfl) rfl ?_
        refine WL.skipG rfl rfl rfl (by rw [hc117]; rfl) rfl ?_
        refine WL.stepE (OW.pickF rfl hc117 rfl) rfl ?_
        refine WL.stepE (OW.pv (v := .bool false) rfl) rfl ?_
        refine WL.skipG rfl rfl rfl rfl rfl ?_
        refine WL.skipG rfl rfl rfl rfl rfl ?_
        refine WL.stepE (OW.pickF rfl rfl rfl) rfl ?_
        refine WL.stepE (OW.pv (v := .bool false) rfl) rfl ?_
        refine WL.skipG rfl rfl rfl rfl rfl ?_
        refine WL.skipG rfl rfl rfl rfl rfl ?_
        refine WL.skipG rfl rfl rfl rfl rfl ?_
        refine WL.stepE (OW.pickF rfl rfl rfl) rfl ?_
        refine WL.stepE (OW.pv (v := .bool false) rfl) rfl ?_
        refine WL.skipG rfl rfl rfl rfl rfl ?_
        refine WL.skipG rfl rfl rfl rfl rfl ?_
        refine WL.skipG rfl rfl rfl rfl rfl ?_
        refine WL.stepE (OW.pickF rfl rfl rfl) rfl ?_
        refine WL.stepE (OW.pv (v := .bool false) rfl) rfl ?_
        refine WL.skipG rfl rfl rfl rfl rfl ?_
        refine WL.stepE (OW.pickF rfl rfl rfl) rfl ?_
        refine WL.stepE (OW.pv (v := .bool false) rfl) rfl ?_
        refine WL.nil ?_
        have e172 := Option.some.inj q113
        subst e172
        exact NK.sub (L' := [(2, .bool false)]) ⟨rfl, trivial⟩ (hJ116 w104 o105 hE h10 hs)
    refine CW.sub (L' := [(3, .pointer (some ⟨sb, 0, none⟩)), (4, v20), (5, .int .i64 0), (6, .int .i64 y34), (7, (.slice none 0 0)), (27, v20), (28, .int .i64 (len y12)), (29, .int .i64 0)]) ⟨rfl, rfl, rfl, rfl, rfl, rfl, rfl, rfl, trivial⟩ ?_
    refine CW.loop (dynposlaw17_BalanceScales_L1 y12 y34) (fun s_ L_ w173 => ∃ (o174 : Cls) (x46 : (List Int)) (x49 : Int) (x50 : (List Int)) (x53 : (List Int)) (x56 : Int) (v47 v51 v54 : Value), (x46, x49, x50, x53, x56) = s_ ∧ L_ = [(3, .pointer (some ⟨sb, 0, none⟩)), (4, v47), (5, .int .i64 x49), (6, .int .i64 y34), (7, v51), (27, v54), (28, .int .i64 (len y12)), (29, .int .i64 x56)] ∧ Ent w0 none o174 w173 ∧ Rv (In o174 [0]) w173 sv y3 ∧ Rv (In o174 [3]) w173 v47 x46 ∧ Ow 3 o174 6 [] w173 v51 x50 ∧ Rv (In o174 [3]) w173 v54 x53 ∧ SrcC o174 2 w173 sb sv y3 st35) hl64 ?_ ?_
    · exact ⟨o38, y12, 0, ([] : List Int), y12, 0, v20, (.slice none 0 0), v20, rfl, rfl, hE, h10, h21, h43, h21, hs⟩
    intro K175 s_ L_ w173 hi_ x176 hx177 hr178 hk179
    obtain ⟨o174, x46, x49, x50, x53, x56, v47, v51, v54, rfl, rfl, hE, h10, h48, h52, h55, hs⟩ := hi_
    rw [dynposlaw17_BalanceScales_L1] at hx177
    refine CW.seq fun K180 hK180 => ?_
    refine CW.region ?_
    refine WL.stepE (OW.pv (v := .bool ((decide (x56 < (len y12))))) rfl) rfl ?_
    refine WL.nil ?_
    refine NK.sub (L' := [(3, .pointer (some ⟨sb, 0, none⟩)), (4, v47), (5, .int .i64 x49), (6, .int .i64 y34), (7, v51), (27, v54), (28, .int .i64 (len y12)), (29, .int .i64 x56), (30, .bool ((decide (x56 < (len y12)))))]) ⟨rfl, rfl, rfl, rfl, rfl, rfl, rfl, rfl, rfl, trivial⟩ ?_
    refine hK180 _ _ ?_
    refine CW.seq fun K181 hK181 => ?_
    refine CW.cond (b := (decide (x56 < (len y12)))) rfl (fun hc182 => ?_) (fun hc182 => ?_)
    · have hx177 := iteT hc182 hx177
      refine CW.skip ?_
      refine NK.sub (L' := [(3, .pointer (some ⟨sb, 0, none⟩)), (4, v47), (5, .int .i64 x49), (6, .int .i64 y34), (7, v51), (27, v54), (28, .int .i64 (len y12)), (29, .int .i64 x56)]) ⟨rfl, rfl, rfl, rfl, rfl, rfl, rfl, rfl, trivial⟩ ?_
      refine hK181 _ _ ?_
      refine CW.seq fun K183 hK183 => ?_
      refine CW.block ?_
      refine CW.seq fun K184 hK184 => ?_
      refine CW.region ?_
      obtain ⟨y185, q189, hx177⟩ := bindE hx177
      refine WL.stepP (OW.indexAddr Try.underlying22 ty3 rfl h55 rfl q189) rfl fun _ ⟨pa186, hv_, hp187, he188⟩ => ?_
      subst hv_
      refine WL.stepE (OW.loadI ty3 rfl hp187) rfl ?_
      refine WL.stepE (OW.pv (v := .int .i64 y185) rfl) rfl ?_
      refine WL.nil ?_
      refine NK.sub (L' := [(3, .pointer (some ⟨sb, 0, none⟩)), (4, v47), (5, .int .i64 x49), (6, .int .i64 y34), (7, v51), (9, .int .i64 y185), (27, v54), (28, .int .i64 (len y12)), (29, .int .i64 x56)]) ⟨rfl, rfl, rfl, rfl, rfl, rfl, rfl, rfl, rfl, trivial⟩ ?_
      refine hK184 _ _ ?_
      refine CW.region ?_
      refine WL.stepE (OW.pv (v := .int .i64 x49) rfl) rfl ?_
      refine WL.stepE (OW.pv (v := .int .i64 y185) rfl) rfl ?_
      refine WL.stepE (OW.pv (v := .int .i64 ((W (x49 + y185)))) rfl) rfl ?_
      refine WL.stepE (OW.pv (v := v51) rfl) rfl ?_
      refine WL.stepE (OW.pv (v := .int .i64 y34) rfl) rfl ?_
      refine WL.stepE (OW.pv (v := .int .i64 y185) rfl) rfl ?_
      refine WL.stepE (OW.pv (v := .int .i64 ((W (y34 * y185)))) rfl) rfl ?_
      refine WL.step (OW.buildSlice (o := o174) (k := 7) (K := []) (xs := ([(W (y34 * y185))] : List Int)) Try.underlying22 ty3 rfl ⟨(rv_int.2 rfl), trivial⟩ rfl rfl) rfl ?_
      rintro v190 w191 ⟨o192, ev193, h194⟩
      have hE := hE.evo ev193 rfl rfl
      have h10 := h10.evo ev193 rfl
      have h48 := h48.evo ev193 rfl
      have h52 := h52.evo ev193 rfl
      have h55 := h55.evo ev193 rfl
      have hs := hs.evo ev193 rfl
      obtain ⟨y195, q196, hx177⟩ := bindE hx177
      refine WL.step (OW.append (K := []) Try.underlying22 ty3 rfl rfl h52 h194.els.flat q196 rfl) rfl ?_
      rintro v197 w198 ⟨o199, ev200, h201⟩
      have hE := hE.evo ev200 rfl rfl
      have h10 := h10.evo ev200 rfl
      have h194 := h194.evo ev200 rfl
      have h48 := h48.evo ev200 rfl
      have h55 := h55.evo ev200 rfl
      have hs := hs.evo ev200 rfl
      refine WL.stepE (OW.pv (v := .int .i64 ((W (x49 + y185)))) rfl) rfl ?_
      refine WL.stepE (OW.pv (v := v197) rfl) rfl ?_
      refine WL.nil ?_
      refine NK.sub (L' := [(3, .pointer (some ⟨sb, 0, none⟩)), (4, v47), (5, .int .i64 ((W (x49 + y185)))), (6, .int .i64 y34), (7, v197), (27, v54), (28, .int .i64 (len y12)), (29, .int .i64 x56)]) ⟨rfl, rfl, rfl, rfl, rfl, rfl, rfl, rfl, trivial⟩ ?_
      refine hK183 _ _ ?_
      refine CW.region ?_
      refine WL.stepE (OW.pv (v := .int .i64 ((W (x56 + 1)))) rfl) rfl ?_
      refine WL.stepE (OW.pv (v := .int .i64 ((W (x56 + 1)))) rfl) rfl ?_
      refine WL.nil ?_
      exact NK.sub (L' := [(3, .pointer (some ⟨sb, 0, none⟩)), (4, v47), (5, .int .i64 ((W (x49 + y185)))), (6, .int .i64 y34), (7, v197), (27, v54), (28, .int .i64 (len y12)), (29, .int .i64 ((W (x56 + 1))))]) ⟨rfl, rfl, rfl, rfl, rfl, rfl, rfl, rfl, trivial⟩ (hk179 _ _ _ (Option.some.inj hx177).symm ⟨o199, x46, (W (x49 + y185)), y195, x53, (W (x56 + 1)), v47, v197, v54, rfl, rfl, hE, h10, h48, h201, h55, hs⟩)
    · have hx177 := iteF hc182 hx177
      refine CW.exit ?_
      exact NK.sub (L' := [(3, .pointer (some ⟨sb, 0, none⟩)), (4, v47), (5, .int .i64 x49), (6, .int .i64 y34), (7, v51)]) ⟨rfl, rfl, rfl, rfl, rfl, trivial⟩ (hJ68 x46 x49 x50 w173 o174 v47 v51 (hr178 _ (Option.some.inj hx177).symm) hE h10 h48 h52 hs)

set_option maxHeartbeats 1000000 in
theorem Src_Board_ok {st0 : List Int} {r : (Board × List Int)} (hF : Src_Board st0 = some r) {w0 : World} {sb : Nat} {sv : Value} {sL : List Int} {Ss : Nat → Prop} (hs : SrcB w0 sb sv sL st0) (hL : Rv Ss w0 sv sL) (hLn : ∀ b, Ss b → b ≠ sb) :
    Calls Try.prog 17 #[.pointer (some ⟨sb, 0, none⟩)] w0 (Ret fun v w' => w0.grownBy w' (some sb) ∧ SrcB w' sb sv sL r.2 ∧ Rv (fun b => w0.heap.size ≤ b) w' v r.1) := by
  have hE := Ent.refl w0 (some sb)
  have hs : SrcC (ent w0 (some sb)) 1 w0 sb sv sL st0 := ⟨hs, ent_src hs⟩
  have hL := hL.arg (sb := some sb) (fun b hb e => hLn b hb (Option.some.inj e))
  rw [Src_Board] at hF
  refine enter (l := [.pointer (some ⟨sb, 0, none⟩)]) Try.func17 rfl Try.ntmps17 rfl ?_
  refine CW.sub (L' := [(0, .pointer (some ⟨sb, 0, none⟩))]) ⟨rfl, trivial⟩ ?_
  refine CW.seq fun K1 hK1 => ?_
  refine CW.region ?_
  refine WL.step (OW.allocK (o := (ent w0 (some sb))) Board 2 [.int .i64 0, .slice none 0 0, .slice none 0 0, .slice none 0 0, .int .i64 0, .int .i64 0] ty39 rfl) rfl ?_
  rintro _ w4 ⟨pa2, o3, rfl, ev5, hb6⟩
  have hE := hE.evo ev5 rfl rfl
  have hs := hs.evo ev5 rfl
  have h7 := Ow.nil (α := Breaker) 48 o3 3 [] w4
  have h8 := Ow.nil (α := Source) 83 o3 4 [] w4
  have h9 := Ow.nil (α := Consumer) 85 o3 5 [] w4
  refine WL.nil ?_
  refine NK.sub (L' := [(0, .pointer (some ⟨sb, 0, none⟩)), (2, .pointer (some pa2))]) ⟨rfl, rfl, trivial⟩ ?_
  refine hK1 _ _ ?_
  refine CW.seq fun K10 hK10 => ?_
  refine CW.region ?_
  refine WL.stepE (OW.pv (v := .pointer (some ⟨sb, 0, none⟩)) rfl) rfl ?_
  obtain ⟨⟨y11, st12⟩, q13, hF⟩ := bindE hF
  dsimp only at hF
  refine WL.step (OW.call Try.call12 rfl (Src_Range_ok q13 hs.1 (hL.base hE) (src_not hs.2 rfl))) rfl ?_
  rintro _ w14 ⟨hb18, hs_, rfl⟩
  obtain ⟨o15, ev16, hn17⟩ := but_new (o := o3) 6 hb18 hs.2
  have hs := hs.new ev16 hs_
  have hE := hE.evo ev16 rfl rfl
  have h7 := h7.evo ev16 rfl
  have h8 := h8.evo ev16 rfl
  have h9 := h9.evo ev16 rfl
  have hb6 := hb6.evo ev16 rfl
  refine WL.stepE (OW.pv (v := .pointer (some ⟨sb, 0, none⟩)) rfl) rfl ?_
  refine WL.step (OW.buildSlice (o := o15) (k := 7) (K := []) (xs := ([0, 50, 200, 1800] : List Int)) Try.underlying22 ty3 rfl ⟨(rv_int.2 rfl), (rv_int.2 rfl), (rv_int.2 rfl), (rv_int.2 rfl), trivial⟩ rfl rfl) rfl ?_
  rintro v19 w20 ⟨o21, ev22, h23⟩
  have hE := hE.evo ev22 rfl rfl
  have h7 := h7.evo ev22 rfl
  have h8 := h8.evo ev22 rfl
  have h9 := h9.evo ev22 rfl
  have hb6 := hb6.evo ev22 rfl
  have hs := hs.evo ev22 rfl
  obtain ⟨⟨y24, st25⟩, q26, hF⟩ := bindE hF
  dsimp only at hF
  refine WL.step (OW.call Try.call44 rfl (Src_Pick_ok q26 hs.1 (hL.base hE) (src_not hs.2 rfl) h23.rv (src_not hs.2 rfl))) rfl ?_
  rintro _ w27 ⟨hb31, hs_, rfl⟩
  obtain ⟨o28, ev29, hn30⟩ := but_new (o := o21) 8 hb31 hs.2
  have hs := hs.new ev29 hs_
  have hE := hE.evo ev29 rfl rfl
  have h23 := h23.evo ev29 rfl
  have h7 := h7.evo ev29 rfl
  have h8 := h8.evo ev29 rfl
  have h9 := h9.evo ev29 rfl
  have hb6 := hb6.evo ev29 rfl
  refine WL.stepE (OW.pv (v := .pointer (some ⟨sb, 0, none⟩)) rfl) rfl ?_
  refine WL.step (OW.buildSlice (o := o28) (k := 9) (K := []) (xs := ([0, 10, 50] : List Int)) Try.underlying22 ty3 rfl ⟨(rv_int.2 rfl), (rv_int.2 rfl), (rv_int.2 rfl), trivial⟩ rfl rfl) rfl ?_
  rintro v32 w33 ⟨o34, ev35, h36⟩
  have hE := hE.evo ev35 rfl rfl
  have h7 := h7.evo ev35 rfl
  have h8 := h8.evo ev35 rfl
  have h9 := h9.evo ev35 rfl
  have hb6 := hb6.evo ev35 rfl
  have hs := hs.evo ev35 rfl
  obtain ⟨⟨y37, st38⟩, q39, hF⟩ := bindE hF
  dsimp only at hF
  refine WL.step (OW.call Try.call44 rfl (Src_Pick_ok q39 hs.1 (hL.base hE) (src_not hs.2 rfl) h36.rv (src_not hs.2 rfl))) rfl ?_
  rintro _ w40 ⟨hb44, hs_, rfl⟩
  obtain ⟨o41, ev42, hn43⟩ := but_new (o := o34) 10 hb44 hs.2
  have hs := hs.new ev42 hs_
  have hE := hE.evo ev42 rfl rfl
  have h36 := h36.evo ev42 rfl
  have h7 := h7.evo ev42 rfl
  have h8 := h8.evo ev42 rfl
  have h9 := h9.evo ev42 rfl
  have hb6 := hb6.evo ev42 rfl
  refine WL.stepE (OW.buildK Board [(0, [.int .i64 y11]), (4, [.int .i64 y24]), (5, [.int .i64 y37])] [.int .i64 y11, .slice none 0 0, .slice none 0 0, .slice none 0 0, .int .i64 y24, .int .i64 y37] st39 ty39 rfl ⟨rfl, rfl, rfl, rfl, rfl, rfl, trivial⟩ rfl) rfl ?_
  have h45 := Ow.nil (α := Breaker) 48 o41 11 [] w40
  have h46 := Ow.nil (α := Source) 83 o41 12 [] w40
  have h47 := Ow.nil (α := Consumer) 85 o41 13 [] w40
  refine WL.step (OW.allocK (o := o41) Board 14 [.int .i64 0, .slice none 0 0, .slice none 0 0, .slice none 0 0, .int .i64 0, .int .i64 0] ty39 rfl) rfl ?_
  rintro _ w50 ⟨pa48, o49, rfl, ev51, hb52⟩
  have hE := hE.evo ev51 rfl rfl
  have h45 := h45.evo ev51 rfl
  have h46 := h46.evo ev51 rfl
  have h47 := h47.evo ev51 rfl
  have h7 := h7.evo ev51 rfl
  have h8 := h8.evo ev51 rfl
  have h9 := h9.evo ev51 rfl
  have hb6 := hb6.evo ev51 rfl
  have hs := hs.evo ev51 rfl
  have h53 := Ow.nil (α := Breaker) 48 o49 15 [] w50
  have h54 := Ow.nil (α := Source) 83 o49 16 [] w50
  have h55 := Ow.nil (α := Consumer) 85 o49 17 [] w50
  refine WL.step0 (OW.storeK0 Board [.int .i64 y11, (.slice none 0 0), (.slice none 0 0), (.slice none 0 0), .int .i64 y24, .int .i64 y37] [.int .i64 y11, (.slice none 0 0), (.slice none 0 0), (.slice none 0 0), .int .i64 y24, .int .i64 y37] ty39 rfl rfl hb52 rfl ⟨rfl, rfl, rfl, rfl, rfl, rfl, trivial⟩ rfl rfl rfl) ?_
  rintro _ w56 ⟨ev57, hb52⟩
  have hE := hE.evo ev57 rfl rfl
  have h45 := h45.evo ev57 rfl
  have h46 := h46.evo ev57 rfl
  have h47 := h47.evo ev57 rfl
  have h7 := h7.evo ev57 rfl
  have h8 := h8.evo ev57 rfl
  have h9 := h9.evo ev57 rfl
  have hb6 := hb6.evo ev57 rfl
  have hs := hs.evo ev57 rfl
  refine WL.nil ?_
  refine NK.sub (L' := [(0, .pointer (some ⟨sb, 0, none⟩)), (2, .pointer (some pa2)), (3, .pointer (some pa48))]) ⟨rfl, rfl, rfl, trivial⟩ ?_
  refine hK10 _ _ ?_
  refine CW.seq fun K58 hK58 => ?_
  refine CW.seq fun K59 hK59 => ?_
  refine CW.region ?_
  refine WL.stepE (OW.pv (v := .int .i64 1) rfl) rfl ?_
  refine WL.nil ?_
  refine NK.sub (L' := [(0, .pointer (some ⟨sb, 0, none⟩)), (2, .pointer (some pa2)), (3, .pointer (some pa48)), (4, .int .i64 1)]) ⟨rfl, rfl, rfl, rfl, trivial⟩ ?_
  refine hK59 _ _ ?_
  refine CW.block ?_
  obtain ⟨r100, hl99, hF⟩ := bindE hF
  have hJ103 : ∀ (x80 : (List Breaker)) (x83 : (List Source)) (x86 : (List Consumer)) (x89 : (List Breaker)) (x92 : (List Source)) (x95 : (List Consumer)) (st98 : List Int) (w101 : World) (o102 : Cls) (v81 v84 v87 v90 v93 v96 : Value), (x80, x83, x86, x89, x92, x95, st98) = r100 → Ent w0 (some sb) o102 w101 → Ow 48 o102 3 [] w101 v81 x80 → Ow 83 o102 4 [] w101 v84 x83 → Ow 85 o102 5 [] w101 v87 x86 → Ow 48 o102 11 [] w101 v90 x89 → Ow 83 o102 12 [] w101 v93 x92 → Ow 85 o102 13 [] w101 v96 x95 → Bk o102 2 w101 pa2 [.int .i64 0, v81, v84, v87, .int .i64 0, .int .i64 0] → Bk o102 14 w101 pa48 [.int .i64 y11, v90, v93, v96, .int .i64 y24, .int .i64 y37] → SrcC o102 1 w101 sb sv sL st98 → NK 168 K58 [(0, .pointer (some ⟨sb, 0, none⟩)), (2, .pointer (some pa2)), (3, .pointer (some pa48))] w101 := by
    intro x80 x83 x86 x89 x92 x95 st98 w101 o102 v81 v84 v87 v90 v93 v96 e_ hE h82 h85 h88 h91 h94 h97 hb6 hb52 hs
    subst e_
    try dsimp only at hF
    refine NK.sub (L' := [(0, .pointer (some ⟨sb, 0, none⟩)), (2, .pointer (some pa2)), (3, .pointer (some pa48))]) ⟨rfl, rfl, rfl, trivial⟩ ?_
    refine hK58 _ _ ?_
    refine CW.seq fun K104 hK104 => ?_
    refine CW.seq fun K105 hK105 => ?_
    refine CW.region ?_
    refine WL.stepE (OW.fldAddr (FldOk.at f39_0) rfl) rfl ?_
    refine WL.stepE (OW.loadK (off := 0) Int (.int .i64 y11) ty3 rfl hb52 rfl rfl) rfl ?_
    refine WL.stepE (OW.pv (v := .bool ((decide (y11 > 2)))) rfl) rfl ?_
    refine WL.stepE (OW.pv (v := .bool ((decide (y11 > 2)))) rfl) rfl ?_
    obtain ⟨z_, q126, hF⟩ := bindE hF
    obtain ⟨x106, x107, x110, x113, x116, x119, x122, st125⟩ := z_
    try dsimp only at hF
    have hJ129 : ∀ (w127 : World) (o128 : Cls) (v108 v111 v114 v117 v120 v123 : Value), Ent w0 (some sb) o128 w127 → Ow 48 o128 3 [] w127 v108 x107 → Ow 83 o128 4 [] w127 v111 x110 → Ow 85 o128 5 [] w127 v114 x113 → Ow 48 o128 11 [] w127 v117 x116 → Ow 83 o128 12 [] w127 v120 x119 → Ow 85 o128 13 [] w127 v123 x122 → Bk o128 2 w127 pa2 [.int .i64 0, v108, v111, v114, .int .i64 0, .int .i64 0] → Bk o128 14 w127 pa48 [.int .i64 y11, v117, v120, v123, .int .i64 y24, .int .i64 y37] → SrcC o128 1 w127 sb sv sL st125 → NK 168 K105 [(0, .pointer (some ⟨sb, 0, none⟩)), (2, .pointer (some pa2)), (3, .pointer (some pa48)), (47, .bool x106)] w127 := by
      intro w127 o128 v108 v111 v114 v117 v120 v123 hE h109 h112 h115 h118 h121 h124 hb6 hb52 hs
      refine NK.sub (L' := [(0, .pointer (some ⟨sb, 0, none⟩)), (2, .pointer (some pa2)), (3, .pointer (some pa48)), (47, .bool x106)]) ⟨rfl, rfl, rfl, rfl, trivial⟩ ?_
      refine hK105 _ _ ?_
      obtain ⟨z_, q148, hF⟩ := bindE hF
      obtain ⟨x130, x133, x136, x139, x142, x145⟩ := z_
      try dsimp only at hF
      have hJ151 : ∀ (w149 : World) (o150 : Cls) (v131 v134 v137 v140 v143 v146 : Value), Ent w0 (some sb) o150 w149 → Ow 48 o150 3 [] w149 v131 x130 → Ow 83 o150 4 [] w149 v134 x133 → Ow 85 o150 5 [] w149 v137 x136 → Ow 48 o150 11 [] w149 v140 x139 → Ow 83 o150 12 [] w149 v143 x142 → Ow 85 o150 13 [] w149 v146 x145 → Bk o150 2 w149 pa2 [.int .i64 0, v131, v134, v137, .int .i64 0, .int .i64 0] → Bk o150 14 w149 pa48 [.int .i64 y11, v140, v143, v146, .int .i64 y24, .int .i64 y37] → SrcC o150 1 w149 sb sv sL st125 → NK 168 K104 [(0, .pointer (some ⟨sb, 0, none⟩)), (2, .pointer (some pa2)), (3, .pointer (some pa48))] w149 := by
        intro w149 o150 v131 v134 v137 v140 v143 v146 hE h132 h135 h138 h141 h144 h147 hb6 hb52 hs
        refine NK.sub (L' := [(0, .pointer (some ⟨sb, 0, none⟩)), (2, .pointer (some pa2)), (3, .pointer (some pa48))]) ⟨rfl, rfl, rfl, trivial⟩ ?_
        refine hK104 _ _ ?_
        refine CW.seq fun K152 hK152 => ?_
        refine CW.seq fun K153 hK153 => ?_
        refine CW.region ?_
        refine WL.stepE (OW.pv (v := .pointer (some ⟨sb, 0, none⟩)) rfl) rfl ?_
        obtain ⟨⟨y154, st155⟩, q156, hF⟩ := bindE hF
        dsimp only at hF
        refine WL.step (OW.call Try.call13 rfl (Src_N_ok q156 hs.1 (hL.base hE) (src_not hs.2 rfl))) rfl ?_
        rintro _ w157 ⟨hb161, hs_, rfl⟩
        obtain ⟨o158, ev159, hn160⟩ := but_new (o := o150) 23 hb161 hs.2
        have hs := hs.new ev159 hs_
        have hE := hE.evo ev159 rfl rfl
        have h132 := h132.evo ev159 rfl
        have h135 := h135.evo ev159 rfl
        have h138 := h138.evo ev159 rfl
        have h141 := h141.evo ev159 rfl
        have h144 := h144.evo ev159 rfl
        have h147 := h147.evo ev159 rfl
        have hb6 := hb6.evo ev159 rfl
        have hb52 := hb52.evo ev159 rfl
        refine WL.stepE (OW.pv (v := .int .i64 y154) rfl) rfl ?_
        refine WL.nil ?_
        refine NK.sub (L' := [(0, .pointer (some ⟨sb, 0, none⟩)), (2, .pointer (some pa2)), (3, .pointer (some pa48)), (5, .int .i64 y154)]) ⟨rfl, rfl, rfl, rfl, trivial⟩ ?_
        refine hK153 _ _ ?_
        refine CW.block ?_
        obtain ⟨r202, hl201, hF⟩ := bindE hF
        have hJ205 : ∀ (x182 : (List Breaker)) (x185 : (List Source)) (x188 : (List Consumer)) (x191 : (List Breaker)) (x194 : (List Source)) (x197 : (List Consumer)) (st200 : List Int) (w203 : World) (o204 : Cls) (v183 v186 v189 v192 v195 v198 : Value), (x182, x185, x188, x191, x194, x197, st200) = r202 → Ent w0 (some sb) o204 w203 → Ow 48 o204 3 [] w203 v183 x182 → Ow 83 o204 4 [] w203 v186 x185 → Ow 85 o204 5 [] w203 v189 x188 → Ow 48 o204 11 [] w203 v192 x191 → Ow 83 o204 12 [] w203 v195 x194 → Ow 85 o204 13 [] w203 v198 x197 → Bk o204 2 w203 pa2 [.int .i64 0, v183, v186, v189, .int .i64 0, .int .i64 0] → Bk o204 14 w203 pa48 [.int .i64 y11, v192, v195, v198, .int .i64 y24, .int .i64 y37] → SrcC o204 1 w203 sb sv sL st200 → NK 168 K152 [(0, .pointer (some ⟨sb, 0, none⟩)), (2, .pointer (some pa2)), (3, .pointer (some pa48))] w203 := by
          intro x182 x185 x188 x191 x194 x197 st200 w203 o204 v183 v186 v189 v192 v195 v198 e_ hE h184 h187 h190 h193 h196 h199 hb6 hb52 hs
          subst e_
          try dsimp only at hF
          refine NK.sub (L' := [(0, .pointer (some ⟨sb, 0, none⟩)), (2, .pointer (some pa2)), (3, .pointer (some pa48))]) ⟨rfl, rfl, rfl, trivial⟩ ?_
          refine hK152 _ _ ?_
          refine CW.seq fun K206 hK206 => ?_
          refine CW.seq fun K207 hK207 => ?_
          refine CW.region ?_
          refine WL.stepE (OW.pv (v := .pointer (some ⟨sb, 0, none⟩)) rfl) rfl ?_
          obtain ⟨⟨y208, st209⟩, q210, hF⟩ := bindE hF
          dsimp only at hF
          refine WL.step (OW.call Try.call13 rfl (Src_N_ok q210 hs.1 (hL.base hE) (src_not hs.2 rfl))) rfl ?_
          rintro _ w211 ⟨hb215, hs_, rfl⟩
          obtain ⟨o212, ev213, hn214⟩ := but_new (o := o204) 33 hb215 hs.2
          have hs := hs.new ev213 hs_
          have hE := hE.evo ev213 rfl rfl
          have h184 := h184.evo ev213 rfl
          have h187 := h187.evo ev213 rfl
          have h190 := h190.evo ev213 rfl
          have h193 := h193.evo ev213 rfl
          have h196 := h196.evo ev213 rfl
          have h199 := h199.evo ev213 rfl
          have hb6 := hb6.evo ev213 rfl
          have hb52 := hb52.evo ev213 rfl
          refine WL.stepE (OW.pv (v := .int .i64 y208) rfl) rfl ?_
          refine WL.nil ?_
          refine NK.sub (L' := [(0, .pointer (some ⟨sb, 0, none⟩)), (2, .pointer (some pa2)), (3, .pointer (some pa48)), (7, .int .i64 y208)]) ⟨rfl, rfl, rfl, rfl, trivial⟩ ?_
          refine hK207 _ _ ?_
          refine CW.block ?_
          obtain ⟨r256, hl255, hF⟩ := bindE hF
          have hJ259 : ∀ (x236 : (List Breaker)) (x239 : (List Source)) (x242 : (List Consumer)) (x245 : (List Breaker)) (x248 : (List Source)) (x251 : (List Consumer)) (st254 : List Int) (w257 : World) (o258 : Cls) (v237 v240 v243 v246 v249 v252 : Value), (x236, x239, x242, x245, x248, x251, st254) = r256 → Ent w0 (some sb) o258 w257 → Ow 48 o258 3 [] w257 v237 x236 → Ow 83 o258 4 [] w257 v240 x239 → Ow 85 o258 5 [] w257 v243 x242 → Ow 48 o258 11 [] w257 v246 x245 → Ow 83 o258 12 [] w257 v249 x248 → Ow 85 o258 13 [44, 49] w257 v252 x251 → Bk o258 2 w257 pa2 [.int .i64 0, v237, v240, v243, .int .i64 0, .int .i64 0] → Bk o258 14 w257 pa48 [.int .i64 y11, v246, v249, v252, .int .i64 y24, .int .i64 y37] → SrcC o258 1 w257 sb sv sL st254 → NK 168 K206 [(2, .pointer (some pa2)), (3, .pointer (some pa48))] w257 := by
            intro x236 x239 x242 x245 x248 x251 st254 w257 o258 v237 v240 v243 v246 v249 v252 e_ hE h238 h241 h244 h247 h250 h253 hb6 hb52 hs
            subst e_
            try dsimp only at hF
            refine NK.sub (L' := [(2, .pointer (some pa2)), (3, .pointer (some pa48))]) ⟨rfl, rfl, trivial⟩ ?_
            refine hK206 _ _ ?_
            refine CW.seq fun K260 hK260 => ?_
            refine CW.region ?_
            refine WL.stepE (OW.loadK0 Board (.agg #[.int .i64 y11, v246, v249, v252, .int .i64 y24, .int .i64 y37]) ty39 rfl hb52 rfl rfl) rfl ?_
            refine WL.step0 (OW.storeK0 Board [.int .i64 y11, v246, v249, v252, .int .i64 y24, .int .i64 y37] [.int .i64 y11, v246, v249, v252, .int .i64 y24, .int .i64 y37] ty39 rfl rfl hb6 rfl ⟨rfl, (h247.one), (h250.one), (h253.one), rfl, rfl, trivial⟩ rfl rfl rfl) ?_
            rintro _ w261 ⟨ev262, hb6⟩
            have hE := hE.evo ev262 rfl rfl
            have h247 := h247.evo ev262 rfl
            have h250 := h250.evo ev262 rfl
            have h253 := h253.evo ev262 rfl
            have hs := hs.evo ev262 rfl
            refine WL.nil ?_
            refine NK.sub (L' := [(2, .pointer (some pa2))]) ⟨rfl, trivial⟩ ?_
            refine hK260 _ _ ?_
            obtain rfl := Option.some.inj hF
            exact CW.rets (vs := [.agg #[.int .i64 y11, v246, v249, v252, .int .i64 y24, .int .i64 y37]]) Try.results17 ⟨ResIs.bk Board (.agg #[.int .i64 y11, v246, v249, v252, .int .i64 y24, .int .i64 y37]) ty39 rfl hb6 rfl rfl, trivial⟩ ⟨_, rfl, hE.but, hs.1, ((mk39 (x := (⟨y11, x245, x248, x251, y24, y37⟩ : Board)) (h247.rv.sub (K' := [11, 12, 13, 44, 49]) rfl) (h250.rv.sub (K' := [11, 12, 13, 44, 49]) rfl) (h253.rv.sub (K' := [11, 12, 13, 44, 49]) rfl))).out hE rfl⟩ (fun _ _ h => h)
          refine CW.sub (L' := [(0, .pointer (some ⟨sb, 0, none⟩)), (2, .pointer (some pa2)), (3, .pointer (some pa48)), (7, .int .i64 y208)]) ⟨rfl, rfl, rfl, rfl, trivial⟩ ?_
          refine CW.loop (Src_Board_L3 y11) (fun s_ L_ w263 => ∃ (o264 : Cls) (x216 : Int) (x217 : (List Breaker)) (x220 : (List Source)) (x223 : (List Consumer)) (x226 : (List Breaker)) (x229 : (List Source)) (x232 : (List Consumer)) (st235 : List Int) (v218 v221 v224 v227 v230 v233 : Value), (x216, x217, x220, x223, x226, x229, x232, st235) = s_ ∧ L_ = [(0, .pointer (some ⟨sb, 0, none⟩)), (2, .pointer (some pa2)), (3, .pointer (some pa48)), (7, .int .i64 x216)] ∧ Ent w0 (some sb) o264 w263 ∧ Ow 48 o264 3 [] w263 v218 x217 ∧ Ow 83 o264 4 [] w263 v221 x220 ∧ Ow 85 o264 5 [] w263 v224 x223 ∧ Ow 48 o264 11 [] w263 v227 x226 ∧ Ow 83 o264 12 [] w263 v230 x229 ∧ Ow 85 o264 13 [44, 49] w263 v233 x232 ∧ Bk o264 2 w263 pa2 [.int .i64 0, v218, v221, v224, .int .i64 0, .int .i64 0] ∧ Bk o264 14 w263 pa48 [.int .i64 y11, v227, v230, v233, .int .i64 y24, .int .i64 y37] ∧ SrcC o264 1 w263 sb sv sL st235) hl255 ?_ ?_
          · exact ⟨o212, y208, x182, x185, x188, x191, x194, x197, st209, v183, v186, v189, v192, v195, v198, rfl, rfl, hE, h184, h187, h190, h193, h196, (h199.sub rfl), hb6, hb52, hs⟩
          intro K265 s_ L_ w263 hi_ x266 hx267 hr268 hk269
          obtain ⟨o264, x216, x217, x220, x223, x226, x229, x232, st235, v218, v221, v224, v227, v230, v233, rfl, rfl, hE, h219, h222, h225, h228, h231, h234, hb6, hb52, hs⟩ := hi_
          rw [Src_Board_L3] at hx267
          refine CW.seq fun K270 hK270 => ?_
          refine CW.seq fun K271 hK271 => ?_
          refine CW.region ?_
          refine WL.stepE (OW.pv (v := .int .i64 x216) rfl) rfl ?_
          refine WL.stepE (OW.pv (v := .bool ((decide (x216 > 0)))) rfl) rfl ?_
          refine WL.nil ?_
          refine NK.sub (L' := [(0, .pointer (some ⟨sb, 0, none⟩)), (2, .pointer (some pa2)), (3, .pointer (some pa48)), (7, .int .i64 x216), (96, .bool ((decide (x216 > 0))))]) ⟨rfl, rfl, rfl, rfl, rfl, trivial⟩ ?_
          refine hK271 _ _ ?_
          refine CW.cond (b := (decide (x216 > 0))) rfl (fun hc272 => ?_) (fun hc272 => ?_)
          · have hx267 := iteT hc272 hx267
            refine CW.skip ?_
            refine NK.sub (L' := [(0, .pointer (some ⟨sb, 0, none⟩)), (2, .pointer (some pa2)), (3, .pointer (some pa48)), (7, .int .i64 x216)]) ⟨rfl, rfl, rfl, rfl, trivial⟩ ?_
            refine hK270 _ _ ?_
            refine CW.seq fun K273 hK273 => ?_
            refine CW.block ?_
            refine CW.seq fun K274 hK274 => ?_
            refine CW.region ?_
            refine WL.stepE (OW.fldAddr (FldOk.at f39_3) rfl) rfl ?_
            refine WL.stepE (OW.loadK (off := 3) (List Consumer) (v233) ty37 rfl hb52 rfl rfl) rfl ?_
            refine WL.stepE (OW.len Try.underlying37 rfl h234.rv) rfl ?_
            refine WL.stepE (OW.pv (v := .int .i64 (len x232)) rfl) rfl ?_
            refine WL.nil ?_
            refine NK.sub (L' := [(0, .pointer (some ⟨sb, 0, none⟩)), (2, .pointer (some pa2)), (3, .pointer (some pa48)), (7, .int .i64 x216), (8, .int .i64 (len x232))]) ⟨rfl, rfl, rfl, rfl, rfl, trivial⟩ ?_
            refine hK274 _ _ ?_
            refine CW.seq fun K275 hK275 => ?_
            refine CW.region ?_
            refine WL.stepE (OW.pv (v := .pointer (some ⟨sb, 0, none⟩)) rfl) rfl ?_
            refine WL.stepE (OW.fldAddr (FldOk.at f39_0) rfl) rfl ?_
            refine WL.stepE (OW.loadK (off := 0) Int (.int .i64 y11) ty3 rfl hb52 rfl rfl) rfl ?_
            obtain ⟨⟨y276, st277⟩, q278, hx267⟩ := bindE hx267
            dsimp only at hx267
            refine WL.step (OW.call Try.call13 rfl (Src_N_ok q278 hs.1 (hL.base hE) (src_not hs.2 rfl))) rfl ?_
            rintro _ w279 ⟨hb283, hs_, rfl⟩
            obtain ⟨o280, ev281, hn282⟩ := but_new (o := o264) 34 hb283 hs.2
            have hs := hs.new ev281 hs_
            have hE := hE.evo ev281 rfl rfl
            have h219 := h219.evo ev281 rfl
            have h222 := h222.evo ev281 rfl
            have h225 := h225.evo ev281 rfl
            have h228 := h228.evo ev281 rfl
            have h231 := h231.evo ev281 rfl
            have h234 := h234.evo ev281 rfl
            have hb6 := hb6.evo ev281 rfl
            have hb52 := hb52.evo ev281 rfl
            refine WL.stepE (OW.pv (v := .int .i64 y276) rfl) rfl ?_
            refine WL.nil ?_
            refine NK.sub (L' := [(0, .pointer (some ⟨sb, 0, none⟩)), (2, .pointer (some pa2)), (3, .pointer (some pa48)), (7, .int .i64 x216), (8, .int .i64 (len x232)), (9, .int .i64 y276)]) ⟨rfl, rfl, rfl, rfl, rfl, rfl, trivial⟩ ?_
            refine hK275 _ _ ?_
            refine CW.seq fun K284 hK284 => ?_
            refine CW.region ?_
            refine WL.stepE (OW.fldAddr (FldOk.at f39_1) rfl) rfl ?_
            refine WL.stepE (OW.loadK (off := 1) (List Breaker) (v227) ty35 rfl hb52 rfl rfl) rfl ?_
            refine WL.stepE (OW.pv (v := .int .i64 y276) rfl) rfl ?_
            refine WL.stepE (OW.pv (v := .int .i64 (len x232)) rfl) rfl ?_
            refine WL.stepE (OW.buildK Breaker [(0, [.int .i64 3]), (1, [.int .i64 y276]), (2, [.int .i64 (len x232)])] [.int .i64 3, .int .i64 y276, .int .i64 (len x232)] st48 ty48 rfl ⟨rfl, rfl, rfl, rfl, rfl, rfl, trivial⟩ rfl) rfl ?_
            refine WL.step (OW.buildSlice (o := o280) (k := 35) (K := []) (xs := ([(⟨3, y276, len x232⟩ : Breaker)] : List Breaker)) Try.underlying35 ty48 rfl ⟨(mk48 (x := (⟨3, y276, len x232⟩ : Breaker))), trivial⟩ rfl rfl) rfl ?_
            rintro v285 w286 ⟨o287, ev288, h289⟩
            have hE := hE.evo ev288 rfl rfl
            have h219 := h219.evo ev288 rfl
            have h222 := h222.evo ev288 rfl
            have h225 := h225.evo ev288 rfl
            have h228 := h228.evo ev288 rfl
            have h231 := h231.evo ev288 rfl
            have h234 := h234.evo ev288 rfl
            have hb6 := hb6.evo ev288 rfl
            have hb52 := hb52.evo ev288 rfl
            have hs := hs.evo ev288 rfl
            obtain ⟨y290, q291, hx267⟩ := bindE hx267
            refine WL.step (OW.append (K := []) Try.underlying35 ty48 rfl rfl h228 h289.els.flat q291 rfl) rfl ?_
            rintro v292 w293 ⟨o294, ev295, h296⟩
            have hE := hE.evo ev295 rfl rfl
            have h219 := h219.evo ev295 rfl
            have h222 := h222.evo ev295 rfl
            have h225 := h225.evo ev295 rfl
            have h231 := h231.evo ev295 rfl
            have h234 := h234.evo ev295 rfl
            have h289 := h289.evo ev295 rfl
            have hb6 := hb6.evo ev295 rfl
            have hb52 := hb52.evo ev295 rfl
            have hs := hs.evo ev295 rfl
            refine WL.stepE (OW.fldAddr (FldOk.at f39_1) rfl) rfl ?_
            refine WL.step0 (OW.storeK (off := 1) (List Breaker) [.int .i64 y11, v292, v230, v233, .int .i64 y24, .int .i64 y37] [v292] ty35 rfl rfl hb52 (cells_one (h296.one)) ⟨(h296.one), trivial⟩ rfl rfl rfl) ?_
            rintro _ w297 ⟨ev298, hb52⟩
            have hE := hE.evo ev298 rfl rfl
            have h219 := h219.evo ev298 rfl
            have h222 := h222.evo ev298 rfl
            have h225 := h225.evo ev298 rfl
            have h231 := h231.evo ev298 rfl
            have h234 := h234.evo ev298 rfl
            have h296 := h296.evo ev298 rfl
            have hb6 := hb6.evo ev298 rfl
            have hs := hs.evo ev298 rfl
            refine WL.nil ?_
            refine NK.sub (L' := [(0, .pointer (some ⟨sb, 0, none⟩)), (2, .pointer (some pa2)), (3, .pointer (some pa48)), (7, .int .i64 x216), (8, .int .i64 (len x232)), (9, .int .i64 y276)]) ⟨rfl, rfl, rfl, rfl, rfl, rfl, trivial⟩ ?_
            refine hK284 _ _ ?_
            refine CW.seq fun K299 hK299 => ?_
            refine CW.seq fun K300 hK300 => ?_
            refine CW.region ?_
            refine WL.stepE (OW.fldAddr (FldOk.at f39_0) rfl) rfl ?_
            refine WL.stepE (OW.loadK (off := 0) Int (.int .i64 y11) ty3 rfl hb52 rfl rfl) rfl ?_
            refine WL.stepE (OW.pv (v := .bool ((decide (y11 > 1)))) rfl) rfl ?_
            refine WL.stepE (OW.pv (v := .bool ((decide (y11 > 1)))) rfl) rfl ?_
            obtain ⟨z_, q321, hx267⟩ := bindE hx267
            obtain ⟨x301, x302, x305, x308, x311, x314, x317, st320⟩ := z_
            try dsimp only at hx267
            have hJ324 : ∀ (w322 : World) (o323 : Cls) (v303 v306 v309 v312 v315 v318 : Value), Ent w0 (some sb) o323 w322 → Ow 48 o323 3 [] w322 v303 x302 → Ow 83 o323 4 [] w322 v306 x305 → Ow 85 o323 5 [] w322 v309 x308 → Ow 48 o323 11 [] w322 v312 x311 → Ow 83 o323 12 [] w322 v315 x314 → Ow 85 o323 13 [44, 49] w322 v318 x317 → Bk o323 2 w322 pa2 [.int .i64 0, v303, v306, v309, .int .i64 0, .int .i64 0] → Bk o323 14 w322 pa48 [.int .i64 y11, v312, v315, v318, .int .i64 y24, .int .i64 y37] → SrcC o323 1 w322 sb sv sL st320 → NK 168 K300 [(0, .pointer (some ⟨sb, 0, none⟩)), (2, .pointer (some pa2)), (3, .pointer (some pa48)), (7, .int .i64 x216), (8, .int .i64 (len x232)), (9, .int .i64 y276), (121, .bool x301)] w322 := by
              intro w322 o323 v303 v306 v309 v312 v315 v318 hE h304 h307 h310 h313 h316 h319 hb6 hb52 hs
              refine NK.sub (L' := [(0, .pointer (some ⟨sb, 0, none⟩)), (2, .pointer (some pa2)), (3, .pointer (some pa48)), (7, .int .i64 x216), (8, .int .i64 (len x232)), (9, .int .i64 y276), (121, .bool x301)]) ⟨rfl, rfl, rfl, rfl, rfl, rfl, rfl, trivial⟩ ?_
              refine hK300 _ _ ?_
              obtain ⟨z_, q343, hx267⟩ := bindE hx267
              obtain ⟨x325, x328, x331, x334, x337, x340⟩ := z_
              try dsimp only at hx267
              have hJ346 : ∀ (w344 : World) (o345 : Cls) (v326 v329 v332 v335 v338 v341 : Value), Ent w0 (some sb) o345 w344 → Ow 48 o345 3 [] w344 v326 x325 → Ow 83 o345 4 [] w344 v329 x328 → Ow 85 o345 5 [] w344 v332 x331 → Ow 48 o345 11 [] w344 v335 x334 → Ow 83 o345 12 [] w344 v338 x337 → Ow 85 o345 13 [44, 49] w344 v341 x340 → Bk o345 2 w344 pa2 [.int .i64 0, v326, v329, v332, .int .i64 0, .int .i64 0] → Bk o345 14 w344 pa48 [.int .i64 y11, v335, v338, v341, .int .i64 y24, .int .i64 y37] → SrcC o345 1 w344 sb sv sL st320 → NK 168 K299 [(0, .pointer (some ⟨sb, 0, none⟩)), (2, .pointer (some pa2)), (3, .pointer (some pa48)), (7, .int .i64 x216), (8, .int .i64 (len x232))] w344 := by
                intro w344 o345 v326 v329 v332 v335 v338 v341 hE h327 h330 h333 h336 h339 h342 hb6 hb341 hs
                refine NK.sub (L' := [(0, .pointer (some ⟨sb, 0, none⟩)), (2, .pointer (some pa2)), (3, .pointer (some pa48)), (7, .int .i64 x216), (8, .int .i64 (len x232))]) ⟨rfl, rfl, rfl, rfl, rfl, trivial⟩ ?_
                refine hK299 _ _ ?_
                refine CW.seq fun K347 hK347 => ?_
                refine CW.region ?_
                refine WL.stepE (OW.pv (v := .pointer (some ⟨sb, 0, none⟩)) rfl) rfl ?_
                refine WL.step (OW.buildSlice (o := o345) (k := 38) (K := []) (xs := ([0, 5, 20, 40] : List Int)) Try.underlying22 ty3 rfl ⟨(rv_int.2 rfl), (rv_int.2 rfl), (rv_int.2 rfl), (rv_int.2 rfl), trivial⟩ rfl rfl) rfl ?_
                rintro v348 w349 ⟨o350, ev351, h352⟩
                have hE := hE.evo ev351 rfl rfl
                have h327 := h327.evo ev351 rfl
                have h330 := h330.evo ev351 rfl
                have h333 := h333.evo ev351 rfl
                have h336 := h336.evo ev351 rfl
                have h339 := h339.evo ev351 rfl
                have h342 := h342.evo ev351 rfl
                have hb6 := hb6.evo ev351 rfl
                have hb341 := hb341.evo ev351 rfl
                have hs := hs.evo ev351 rfl
                obtain ⟨⟨y353, st354⟩, q355, hx267⟩ := bindE hx267
                dsimp only at hx267
                refine WL.step (OW.call Try.call44 rfl (Src_Pick_ok q355 hs.1 (hL.base hE) (src_not hs.2 rfl) h352.rv (src_not hs.2 rfl))) rfl ?_
                rintro _ w356 ⟨hb360, hs_, rfl⟩
                obtain ⟨o357, ev358, hn359⟩ := but_new (o := o350) 39 hb360 hs.2
                have hs := hs.new ev358 hs_
                have hE := hE.evo ev358 rfl rfl
                have h327 := h327.evo ev358 rfl
                have h330 := h330.evo ev358 rfl
                have h333 := h333.evo ev358 rfl
                have h336 := h336.evo ev358 rfl
                have h339 := h339.evo ev358 rfl
                have h342 := h342.evo ev358 rfl
                have h352 := h352.evo ev358 rfl
                have hb6 := hb6.evo ev358 rfl
                have hb341 := hb341.evo ev358 rfl
                refine WL.stepE (OW.pv (v := .int .i64 y353) rfl) rfl ?_
                refine WL.nil ?_
                refine NK.sub (L' := [(0, .pointer (some ⟨sb, 0, none⟩)), (2, .pointer (some pa2)), (3, .pointer (some pa48)), (7, .int .i64 x216), (8, .int .i64 (len x232)), (10, .int .i64 y353)]) ⟨rfl, rfl, rfl, rfl, rfl, rfl, trivial⟩ ?_
                refine hK347 _ _ ?_
                refine CW.seq fun K361 hK361 => ?_
                refine CW.region ?_
                refine WL.stepE (OW.pv (v := .int .i64 y353) rfl) rfl ?_
                refine WL.stepE (OW.pv (v := .pointer (some ⟨sb, 0, none⟩)) rfl) rfl ?_
                refine WL.stepE (OW.pv (v := .int .i64 y353) rfl) rfl ?_
                obtain ⟨y362, q363, hx267⟩ := bindE hx267
                refine WL.stepE (OW.quo rfl rfl q363) rfl ?_
                refine WL.stepE (OW.pv (v := .int .i64 y353) rfl) rfl ?_
                refine WL.step (OW.buildSlice (o := o357) (k := 40) (K := []) (xs := ([0, y362, y353] : List Int)) Try.underlying22 ty3 rfl ⟨(rv_int.2 rfl), (rv_int.2 rfl), (rv_int.2 rfl), trivial⟩ rfl rfl) rfl ?_
                rintro v364 w365 ⟨o366, ev367, h368⟩
                have hE := hE.evo ev367 rfl rfl
                have h327 := h327.evo ev367 rfl
                have h330 := h330.evo ev367 rfl
                have h333 := h333.evo ev367 rfl
                have h336 := h336.evo ev367 rfl
                have h339 := h339.evo ev367 rfl
                have h342 := h342.evo ev367 rfl
                have hb6 := hb6.evo ev367 rfl
                have hb341 := hb341.evo ev367 rfl
                have hs := hs.evo ev367 rfl
                obtain ⟨⟨y369, st370⟩, q371, hx267⟩ := bindE hx267
                dsimp only at hx267
                refine WL.step (OW.call Try.call44 rfl (Src_Pick_ok q371 hs.1 (hL.base hE) (src_not hs.2 rfl) h368.rv (src_not hs.2 rfl))) rfl ?_
                rintro _ w372 ⟨hb376, hs_, rfl⟩
                obtain ⟨o373, ev374, hn375⟩ := but_new (o := o366) 41 hb376 hs.2
                have hs := hs.new ev374 hs_
                have hE := hE.evo ev374 rfl rfl
                have h327 := h327.evo ev374 rfl
                have h330 := h330.evo ev374 rfl
                have h333 := h333.evo ev374 rfl
                have h336 := h336.evo ev374 rfl
                have h339 := h339.evo ev374 rfl
                have h342 := h342.evo ev374 rfl
                have h368 := h368.evo ev374 rfl
                have hb6 := hb6.evo ev374 rfl
                have hb341 := hb341.evo ev374 rfl
                refine WL.stepE (OW.pv (v := .pointer (some ⟨sb, 0, none⟩)) rfl) rfl ?_
                obtain ⟨⟨y377, st378⟩, q379, hx267⟩ := bindE hx267
                dsimp only at hx267
                refine WL.step (OW.call Try.call13 rfl (Src_N_ok q379 hs.1 (hL.base hE) (src_not hs.2 rfl))) rfl ?_
                rintro _ w380 ⟨hb384, hs_, rfl⟩
                obtain ⟨o381, ev382, hn383⟩ := but_new (o := o373) 42 hb384 hs.2
                have hs := hs.new ev382 hs_
                have hE := hE.evo ev382 rfl rfl
                have h327 := h327.evo ev382 rfl
                have h330 := h330.evo ev382 rfl
                have h333 := h333.evo ev382 rfl
                have h336 := h336.evo ev382 rfl
                have h339 := h339.evo ev382 rfl
                have h342 := h342.evo ev382 rfl
                have hb6 := hb6.evo ev382 rfl
                have hb341 := hb341.evo ev382 rfl
                refine WL.stepE (OW.pv (v := .pointer (some ⟨sb, 0, none⟩)) rfl) rfl ?_
                obtain ⟨⟨y385, st386⟩, q387, hx267⟩ := bindE hx267
                dsimp only at hx267
                refine WL.step (OW.call Try.call12 rfl (Src_Range_ok q387 hs.1 (hL.base hE) (src_not hs.2 rfl))) rfl ?_
                rintro _ w388 ⟨hb392, hs_, rfl⟩
                obtain ⟨o389, ev390, hn391⟩ := but_new (o := o381) 43 hb392 hs.2
                have hs := hs.new ev390 hs_
                have hE := hE.evo ev390 rfl rfl
                have h327 := h327.evo ev390 rfl
                have h330 := h330.evo ev390 rfl
                have h333 := h333.evo ev390 rfl
                have h336 := h336.evo ev390 rfl
                have h339 := h339.evo ev390 rfl
                have h342 := h342.evo ev390 rfl
                have hb6 := hb6.evo ev390 rfl
                have hb341 := hb341.evo ev390 rfl
                refine WL.stepE (OW.buildK Consumer [(0, [.int .i64 y353]), (1, [.int .i64 y369]), (2, [.int .i64 y377]), (3, [.int .i64 y385])] [.int .i64 y353, .int .i64 y369, .int .i64 y377, .int .i64 y385, .slice none 0 0] st85 ty85 rfl ⟨rfl, rfl, rfl, rfl, rfl, rfl, rfl, rfl, trivial⟩ rfl) rfl ?_
                have h393 := Ow.nil (α := Int) 3 o389 44 [] w388
                refine WL.step (OW.allocK (o := o389) Consumer 45 [.int .i64 0, .int .i64 0, .int .i64 0, .int .i64 0, .slice none 0 0] ty85 rfl) rfl ?_
                rintro _ w396 ⟨pa394, o395, rfl, ev397, hb398⟩
                have hE := hE.evo ev397 rfl rfl
                have h327 := h327.evo ev397 rfl
                have h330 := h330.evo ev397 rfl
                have h333 := h333.evo ev397 rfl
                have h336 := h336.evo ev397 rfl
                have h339 := h339.evo ev397 rfl
                have h342 := h342.evo ev397 rfl
                have h393 := h393.evo ev397 rfl
                have hb6 := hb6.evo ev397 rfl
                have hb341 := hb341.evo ev397 rfl
                have hs := hs.evo ev397 rfl
                have h399 := Ow.nil (α := Int) 3 o395 46 [] w396
                refine WL.step0 (OW.storeK0 Consumer [.int .i64 y353, .int .i64 y369, .int .i64 y377, .int .i64 y385, (.slice none 0 0)] [.int .i64 y353, .int .i64 y369, .int .i64 y377, .int .i64 y385, (.slice none 0 0)] ty85 rfl rfl hb398 rfl ⟨rfl, rfl, rfl, rfl, rfl, trivial⟩ rfl rfl rfl) ?_
                rintro _ w400 ⟨ev401, hb398⟩
                have hE := hE.evo ev401 rfl rfl
                have h327 := h327.evo ev401 rfl
                have h330 := h330.evo ev401 rfl
                have h333 := h333.evo ev401 rfl
                have h336 := h336.evo ev401 rfl
                have h339 := h339.evo ev401 rfl
                have h342 := h342.evo ev401 rfl
                have h393 := h393.evo ev401 rfl
                have hb6 := hb6.evo ev401 rfl
                have hb341 := hb341.evo ev401 rfl
                have hs := hs.evo ev401 rfl
                refine WL.nil ?_
                refine NK.sub (L' := [(0, .pointer (some ⟨sb, 0, none⟩)), (2, .pointer (some pa2)), (3, .pointer (some pa48)), (7, .int .i64 x216), (8, .int .i64 (len x232)), (11, .pointer (some pa394))]) ⟨rfl, rfl, rfl, rfl, rfl, rfl, trivial⟩ ?_
                refine hK361 _ _ ?_
                refine CW.seq fun K402 hK402 => ?_
                refine CW.seq fun K403 hK403 => ?_
                refine CW.region ?_
                refine WL.stepE (OW.pv (v := .int .i64 (len x232)) rfl) rfl ?_
                refine WL.stepE (OW.pv (v := .bool ((decide ((len x232) > 0)))) rfl) rfl ?_
                refine WL.stepE (OW.pv (v := .bool ((decide ((len x232) > 0)))) rfl) rfl ?_
                obtain ⟨z_, q427, hx267⟩ := bindE hx267
                obtain ⟨x404, x405, x408, x411, x414, x417, x420, x423, st426⟩ := z_
                try dsimp only at hx267
                have hJ430 : ∀ (w428 : World) (o429 : Cls) (v406 v409 v412 v415 v418 v421 v424 : Value), Ent w0 (some sb) o429 w428 → Ow 48 o429 3 [] w428 v406 x405 → Ow 83 o429 4 [] w428 v409 x408 → Ow 85 o429 5 [] w428 v412 x411 → Ow 48 o429 11 [] w428 v415 x414 → Ow 83 o429 12 [] w428 v418 x417 → Ow 85 o429 13 [44, 49] w428 v421 x420 → Ow 3 o429 44 [] w428 v424 x423 → Bk o429 2 w428 pa2 [.int .i64 0, v406, v409, v412, .int .i64 0, .int .i64 0] → Bk o429 45 w428 pa394 [.int .i64 y353, .int .i64 y369, .int .i64 y377, .int .i64 y385, v424] → Bk o429 14 w428 pa48 [.int .i64 y11, v415, v418, v421, .int .i64 y24, .int .i64 y37] → SrcC o429 1 w428 sb sv sL st426 → NK 168 K403 [(0, .pointer (some ⟨sb, 0, none⟩)), (2, .pointer (some pa2)), (3, .pointer (some pa48)), (7, .int .i64 x216), (8, .int .i64 (len x232)), (11, .pointer (some pa394)), (155, .bool x404)] w428 := by
                  intro w428 o429 v406 v409 v412 v415 v418 v421 v424 hE h407 h410 h413 h416 h419 h422 h425 hb6 hb398 hb341 hs
                  refine NK.sub (L' := [(0, .pointer (some ⟨sb, 0, none⟩)), (2, .pointer (some pa2)), (3, .pointer (some pa48)), (7, .int .i64 x216), (8, .int .i64 (len x232)), (11, .pointer (some pa394)), (155, .bool x404)]) ⟨rfl, rfl, rfl, rfl, rfl, rfl, rfl, trivial⟩ ?_
                  refine hK403 _ _ ?_
                  obtain ⟨z_, q453, hx267⟩ := bindE hx267
                  obtain ⟨x431, x434, x437, x440, x443, x446, x449, st452⟩ := z_
                  try dsimp only at hx267
                  have hJ456 : ∀ (w454 : World) (o455 : Cls) (v432 v435 v438 v441 v444 v447 v450 : Value), Ent w0 (some sb) o455 w454 → Ow 48 o455 3 [] w454 v432 x431 → Ow 83 o455 4 [] w454 v435 x434 → Ow 85 o455 5 [] w454 v438 x437 → Ow 48 o455 11 [] w454 v441 x440 → Ow 83 o455 12 [] w454 v444 x443 → Ow 85 o455 13 [44, 49] w454 v447 x446 → Rv (In o455 [44, 49]) w454 v450 x449 → Bk o455 2 w454 pa2 [.int .i64 0, v432, v435, v438, .int .i64 0, .int .i64 0] → Bk o455 45 w454 pa394 [.int .i64 y353, .int .i64 y369, .int .i64 y377, .int .i64 y385, v450] → Bk o455 14 w454 pa48 [.int .i64 y11, v441, v444, v447, .int .i64 y24, .int .i64 y37] → SrcC o455 1 w454 sb sv sL st452 → NK 168 K402 [(0, .pointer (some ⟨sb, 0, none⟩)), (2, .pointer (some pa2)), (3, .pointer (some pa48)), (7, .int .i64 x216), (11, .pointer (some pa394))] w454 := by
                    intro w454 o455 v432 v435 v438 v441 v444 v447 v450 hE h433 h436 h439 h442 h445 h448 h451 hb6 hb398 hb341 hs
                    refine NK.sub (L' := [(0, .pointer (some ⟨sb, 0, none⟩)), (2, .pointer (some pa2)), (3, .pointer (some pa48)), (7, .int .i64 x216), (11, .pointer (some pa394))]) ⟨rfl, rfl, rfl, rfl, rfl, trivial⟩ ?_
                    refine hK402 _ _ ?_
                    refine CW.region ?_
                    refine WL.stepE (OW.fldAddr (FldOk.at f39_3) rfl) rfl ?_
                    refine WL.stepE (OW.loadK (off := 3) (List Consumer) (v447) ty37 rfl hb341 rfl rfl) rfl ?_
                    refine WL.stepE (OW.loadK0 Consumer (.agg #[.int .i64 y353, .int .i64 y369, .int .i64 y377, .int .i64 y385, v450]) ty85 rfl hb398 rfl rfl) rfl ?_
                    refine WL.step (OW.buildSlice (o := o455) (k := 50) (K := [44, 49]) (xs := ([(⟨y353, y369, y377, y385, x449⟩ : Consumer)] : List Consumer)) Try.underlying37 ty85 rfl ⟨(mk85 (x := (⟨y353, y369, y377, y385, x449⟩ : Consumer)) h451), trivial⟩ rfl rfl) rfl ?_
                    rintro v457 w458 ⟨o459, ev460, h461⟩
                    have hE := hE.evo ev460 rfl rfl
                    have h433 := h433.evo ev460 rfl
                    have h436 := h436.evo ev460 rfl
                    have h439 := h439.evo ev460 rfl
                    have h442 := h442.evo ev460 rfl
                    have h445 := h445.evo ev460 rfl
                    have h448 := h448.evo ev460 rfl
                    have h451 := h451.evo ev460 rfl
                    have hb6 := hb6.evo ev460 rfl
                    have hb341 := hb341.evo ev460 rfl
                    have hs := hs.evo ev460 rfl
                    obtain ⟨y462, q463, hx267⟩ := bindE hx267
                    refine WL.step (OW.append (K := [44, 49]) Try.underlying37 ty85 rfl rfl h448 h461.els q463 rfl) rfl ?_
                    rintro v464 w465 ⟨o466, ev467, h468⟩
                    have hE := hE.evo ev467 rfl rfl
                    have h433 := h433.evo ev467 rfl
                    have h436 := h436.evo ev467 rfl
                    have h439 := h439.evo ev467 rfl
                    have h442 := h442.evo ev467 rfl
                    have h445 := h445.evo ev467 rfl
                    have h461 := h461.evo ev467 rfl
                    have hb6 := hb6.evo ev467 rfl
                    have hb341 := hb341.evo ev467 rfl
                    have hs := hs.evo ev467 rfl
                    refine WL.stepE (OW.fldAddr (FldOk.at f39_3) rfl) rfl ?_
                    refine WL.step0 (OW.storeK (off := 3) (List Consumer) [.int .i64 y11, v441, v444, v464, .int .i64 y24, .int .i64 y37] [v464] ty37 rfl rfl hb341 (cells_one (h468.one)) ⟨(h468.one), trivial⟩ rfl rfl rfl) ?_
                    rintro _ w469 ⟨ev470, hb341⟩
                    have hE := hE.evo ev470 rfl rfl
                    have h433 := h433.evo ev470 rfl
                    have h436 := h436.evo ev470 rfl
                    have h439 := h439.evo ev470 rfl
                    have h442 := h442.evo ev470 rfl
                    have h445 := h445.evo ev470 rfl
                    have h468 := h468.evo ev470 rfl
                    have hb6 := hb6.evo ev470 rfl
                    have hs := hs.evo ev470 rfl
                    refine WL.nil ?_
                    refine NK.sub (L' := [(0, .pointer (some ⟨sb, 0, none⟩)), (2, .pointer (some pa2)), (3, .pointer (some pa48)), (7, .int .i64 x216)]) ⟨rfl, rfl, rfl, rfl, trivial⟩ ?_
                    refine hK273 _ _ ?_
                    refine CW.region ?_
                    refine WL.stepE (OW.pv (v := .int .i64 x216) rfl) rfl ?_
                    refine WL.stepE (OW.pv (v := .int .i64 ((W (x216 - 1)))) rfl) rfl ?_
                    refine WL.stepE (OW.pv (v := .int .i64 ((W (x216 - 1)))) rfl) rfl ?_
                    refine WL.nil ?_
                    exact NK.sub (L' := [(0, .pointer (some ⟨sb, 0, none⟩)), (2, .pointer (some pa2)), (3, .pointer (some pa48)), (7, .int .i64 ((W (x216 - 1))))]) ⟨rfl, rfl, rfl, rfl, trivial⟩ (hk269 _ _ _ (Option.some.inj hx267).symm ⟨o466, (W (x216 - 1)), x431, x434, x437, x440, x443, y462, st452, v432, v435, v438, v441, v444, v464, rfl, rfl, hE, h433, h436, h439, h442, h445, h468, hb6, hb341, hs⟩)
                  refine CW.cond (b := x404) rfl (fun hc471 => ?_) (fun hc471 => ?_)
                  · have q453 := iteT hc471 q453
                    refine CW.region ?_
                    refine WL.stepE (OW.pv (v := .pointer (some ⟨sb, 0, none⟩)) rfl) rfl ?_
                    refine WL.stepE (OW.pv (v := .int .i64 (len x232)) rfl) rfl ?_
                    obtain ⟨⟨y472, st473⟩, q474, q453⟩ := bindE q453
                    dsimp only at q453
                    refine WL.step (OW.call Try.call13 rfl (Src_N_ok q474 hs.1 (hL.base hE) (src_not hs.2 rfl))) rfl ?_
                    rintro _ w475 ⟨hb479, hs_, rfl⟩
                    obtain ⟨o476, ev477, hn478⟩ := but_new (o := o429) 48 hb479 hs.2
                    have hs := hs.new ev477 hs_
                    have hE := hE.evo ev477 rfl rfl
                    have h407 := h407.evo ev477 rfl
                    have h410 := h410.evo ev477 rfl
                    have h413 := h413.evo ev477 rfl
                    have h416 := h416.evo ev477 rfl
                    have h419 := h419.evo ev477 rfl
                    have h422 := h422.evo ev477 rfl
                    have h425 := h425.evo ev477 rfl
                    have hb6 := hb6.evo ev477 rfl
                    have hb398 := hb398.evo ev477 rfl
                    have hb341 := hb341.evo ev477 rfl
                    refine WL.step (OW.buildSlice (o := o476) (k := 49) (K := []) (xs := ([y472] : List Int)) Try.underlying22 ty3 rfl ⟨(rv_int.2 rfl), trivial⟩ rfl rfl) rfl ?_
                    rintro v480 w481 ⟨o482, ev483, h484⟩
                    have hE := hE.evo ev483 rfl rfl
                    have h407 := h407.evo ev483 rfl
                    have h410 := h410.evo ev483 rfl
                    have h413 := h413.evo ev483 rfl
                    have h416 := h416.evo ev483 rfl
                    have h419 := h419.evo ev483 rfl
                    have h422 := h422.evo ev483 rfl
                    have h425 := h425.evo ev483 rfl
                    have hb6 := hb6.evo ev483 rfl
                    have hb398 := hb398.evo ev483 rfl
                    have hb341 := hb341.evo ev483 rfl
                    have hs := hs.evo ev483 rfl
                    refine WL.stepE (OW.fldAddr (FldOk.at f85_4) rfl) rfl ?_
                    refine WL.step0 (OW.storeK (off := 4) (List Int) [.int .i64 y353, .int .i64 y369, .int .i64 y377, .int .i64 y385, v480] [v480] ty22 rfl rfl hb398 (cells_one (h484.one)) ⟨(h484.one), trivial⟩ rfl rfl rfl) ?_
                    rintro _ w485 ⟨ev486, hb398⟩
                    have hE := hE.evo ev486 rfl rfl
                    have h407 := h407.evo ev486 rfl
                    have h410 := h410.evo ev486 rfl
                    have h413 := h413.evo ev486 rfl
                    have h416 := h416.evo ev486 rfl
                    have h419 := h419.evo ev486 rfl
                    have h422 := h422.evo ev486 rfl
                    have h484 := h484.evo ev486 rfl
                    have hb6 := hb6.evo ev486 rfl
                    have hb341 := hb341.evo ev486 rfl
                    have hs := hs.evo ev486 rfl
                    refine WL.nil ?_
                    have e487 := Option.some.inj q453
                    obtain ⟨e488, e489⟩ := Prod.mk.inj e487
                    obtain ⟨e490, e491⟩ := Prod.mk.inj e489
                    obtain ⟨e492, e493⟩ := Prod.mk.inj e491
                    obtain ⟨e494, e495⟩ := Prod.mk.inj e493
                    obtain ⟨e496, e497⟩ := Prod.mk.inj e495
                    obtain ⟨e498, e499⟩ := Prod.mk.inj e497
                    obtain ⟨e500, e501⟩ := Prod.mk.inj e499
                    subst e488 e490 e492 e494 e496 e498 e500 e501
                    exact NK.sub (L' := [(0, .pointer (some ⟨sb, 0, none⟩)), (2, .pointer (some pa2)), (3, .pointer (some pa48)), (7, .int .i64 x216), (11, .pointer (some pa394))]) ⟨rfl, rfl, rfl, rfl, rfl, trivial⟩ (hJ456 w485 o482 v406 v409 v412 v415 v418 v421 v480 hE h407 h410 h413 h416 h419 h422 (h484.rv.sub rfl) hb6 hb398 hb341 hs)
                  · have q453 := iteF hc471 q453
                    refine CW.skip ?_
                    have e502 := Option.some.inj q453
                    obtain ⟨e503, e504⟩ := Prod.mk.inj e502
                    obtain ⟨e505, e506⟩ := Prod.mk.inj e504
                    obtain ⟨e507, e508⟩ := Prod.mk.inj e506
                    obtain ⟨e509, e510⟩ := Prod.mk.inj e508
                    obtain ⟨e511, e512⟩ := Prod.mk.inj e510
                    obtain ⟨e513, e514⟩ := Prod.mk.inj e512
                    obtain ⟨e515, e516⟩ := Prod.mk.inj e514
                    subst e503 e505 e507 e509 e511 e513 e515 e516
                    exact NK.sub (L' := [(0, .pointer (some ⟨sb, 0, none⟩)), (2, .pointer (some pa2)), (3, .pointer (some pa48)), (7, .int .i64 x216), (11, .pointer (some pa394))]) ⟨rfl, rfl, rfl, rfl, rfl, trivial⟩ (hJ456 w428 o429 v406 v409 v412 v415 v418 v421 v424 hE h407 h410 h413 h416 h419 h422 (h425.rv.sub rfl) hb6 hb398 hb341 hs)
                rcases Bool.eq_false_or_eq_true ((decide ((len x232) > 0))) with hc517 | hc517
                · have q427 := iteT hc517 q427
                  refine WL.stepGE rfl rfl rfl hc517 (OW.pv (v := .pointer (some ⟨sb, 0, none⟩)) rfl) rfl ?_
                  obtain ⟨⟨y518, st519⟩, q520, q427⟩ := bindE q427
                  dsimp only at q427
                  refine WL.stepG rfl rfl rfl hc517 (OW.call Try.call13 rfl (Src_N_ok q520 hs.1 (hL.base hE) (src_not hs.2 rfl))) rfl ?_
                  rintro _ w521 ⟨hb525, hs_, rfl⟩
                  obtain ⟨o522, ev523, hn524⟩ := but_new (o := o395) 47 hb525 hs.2
                  have hs := hs.new ev523 hs_
                  have hE := hE.evo ev523 rfl rfl
                  have h327 := h327.evo ev523 rfl
                  have h330 := h330.evo ev523 rfl
                  have h333 := h333.evo ev523 rfl
                  have h336 := h336.evo ev523 rfl
                  have h339 := h339.evo ev523 rfl
                  have h342 := h342.evo ev523 rfl
                  have h393 := h393.evo ev523 rfl
                  have hb6 := hb6.evo ev523 rfl
                  have hb398 := hb398.evo ev523 rfl
                  have hb341 := hb341.evo ev523 rfl
                  refine WL.stepGE rfl rfl rfl hc517 (OW.pv (v := .bool (((y518 == 3)))) rfl) rfl ?_
                  refine WL.stepE (OW.pickT rfl hc517 rfl) rfl ?_
                  refine WL.nil ?_
                  have e526 := Option.some.inj q427
                  obtain ⟨e527, e528⟩ := Prod.mk.inj e526
                  obtain ⟨e529, e530⟩ := Prod.mk.inj e528
                  obtain ⟨e531, e532⟩ := Prod.mk.inj e530
                  obtain ⟨e533, e534⟩ := Prod.mk.inj e532
                  obtain ⟨e535, e536⟩ := Prod.mk.inj e534
                  obtain ⟨e537, e538⟩ := Prod.mk.inj e536
                  obtain ⟨e539, e540⟩ := Prod.mk.inj e538
                  obtain ⟨e541, e542⟩ := Prod.mk.inj e540
                  subst e527 e529 e531 e533 e535 e537 e539 e541 e542
                  exact NK.sub (L' := [(0, .pointer (some ⟨sb, 0, none⟩)), (2, .pointer (some pa2)), (3, .pointer (some pa48)), (7, .int .i64 x216), (8, .int .i64 (len x232)), (11, .pointer (some pa394)), (155, .bool (((y518 == 3))))]) ⟨rfl, rfl, rfl, rfl, rfl, rfl, rfl, trivial⟩ (hJ430 w521 o522 v326 v329 v332 v335 v338 v341 (.slice none 0 0) hE h327 h330 h333 h336 h339 h342 h393 hb6 hb398 hb341 hs)
                · have q427 := iteF hc517 q427
                  refine WL.skipG rfl rfl rfl (by rw [hc517]; rfl) rfl ?_
                  refine WL.skipG rfl rfl rfl (by rw [hc517]; rfl) rfl ?_
                  refine WL.skipG rfl rfl rfl (by rw [hc517]; rfl) rfl ?_
                  refine WL.stepE (OW.pickF rfl hc517 rfl) rfl ?_
                  refine WL.nil ?_
                  have e543 := Option.some.inj q427
                  obtain ⟨e544, e545⟩ := Prod.mk.inj e543
                  obtain ⟨e546, e547⟩ := Prod.mk.inj e545
                  obtain ⟨e548, e549⟩ := Prod.mk.inj e547
                  obtain ⟨e550, e551⟩ := Prod.mk.inj e549
                  obtain ⟨e552, e553⟩ := Prod.mk.inj e551
                  obtain ⟨e554, e555⟩ := Prod.mk.inj e553
                  obtain ⟨e556, e557⟩ := Prod.mk.inj e555
                  obtain ⟨e558, e559⟩ := Prod.mk.inj e557
                  subst e544 e546 e548 e550 e552 e554 e556 e558 e559
                  exact NK.sub (L' := [(0, .pointer (some ⟨sb, 0, none⟩)), (2, .pointer (some pa2)), (3, .pointer (some pa48)), (7, .int .i64 x216), (8, .int .i64 (len x232)), (11, .pointer (some pa394)), (155, .bool false)]) ⟨rfl, rfl, rfl, rfl, rfl, rfl, rfl, trivial⟩ (hJ430 w400 o395 v326 v329 v332 v335 v338 v341 (.slice none 0 0) hE h327 h330 h333 h336 h339 h342 h393 hb6 hb398 hb341 hs)
              refine CW.cond (b := x301) rfl (fun hc560 => ?_) (fun hc560 => ?_)
              · have q343 := iteT hc560 q343
                obtain ⟨y561, q562, q343⟩ := bindE q343
                obtain ⟨y568, q569, q343⟩ := bindE q343
                have ev_ := Evo.drew o323 w322
                refine CW.any (ow := o323) hmix [⟨none, none, [3], [], fun x_ o_ w_ => Ow 48 o_ 3 [] w_ v303 x302⟩, ⟨none, none, [4], [], fun x_ o_ w_ => Ow 83 o_ 4 [] w_ v306 x305⟩, ⟨none, none, [5], [], fun x_ o_ w_ => Ow 85 o_ 5 [] w_ v309 x308⟩, ⟨none, some 10, [11], [], fun x_ o_ w_ => Ow 48 o_ 11 [] w_ v312 x311⟩, ⟨none, none, [12], [], fun x_ o_ w_ => Ow 83 o_ 12 [] w_ v315 x314⟩, ⟨none, none, [13, 44, 49], [], fun x_ o_ w_ => Ow 85 o_ 13 [44, 49] w_ v318 x317⟩, ⟨none, none, [2], [], fun x_ o_ w_ => Bk o_ 2 w_ pa2 [.int .i64 0, v303, v306, v309, .int .i64 0, .int .i64 0]⟩, ⟨none, some 12, [14], [], fun x_ o_ w_ => Bk o_ 14 w_ pa48 [.int .i64 y11, v312, v315, v318, .int .i64 y24, .int .i64 y37]⟩, ⟨none, none, [1], [], fun x_ o_ w_ => SrcC o_ 1 w_ sb sv sL st320⟩, ⟨some 9, none, [37], [9], fun x_ o_ w_ => Ow 48 o_ 37 [] w_ (x_.getD 0 undef) (([(⟨3, y561, len x232⟩ : Breaker)] : List Breaker))⟩, ⟨some 10, none, [11], [10], fun x_ o_ w_ => Ow 48 o_ 11 [] w_ (x_.getD 0 undef) y568⟩, ⟨some 12, none, [14], [10], fun x_ o_ w_ => Bk o_ 14 w_ pa48 [.int .i64 y11, (x_.getD 0 undef), v315, v318, .int .i64 y24, .int .i64 y37]⟩] [⟨[], [], [], [], fun x_ => .pointer (some (pa48.add 1)), false⟩, ⟨[], [7], [0], [], fun x_ => v312, false⟩, ⟨[], [], [], [], fun x_ => .int .i64 y276, false⟩, ⟨[], [], [2], [], fun x_ => .int .i64 ((W (y276 + 1))), false⟩, ⟨[], [], [], [], fun x_ => .pointer (some (pa48.add 0)), false⟩, ⟨[], [7], [4], [], fun x_ => .int .i64 y11, false⟩, ⟨[], [], [2, 3, 4, 5], [], fun x_ => .int .i64 y561, false⟩, ⟨[], [], [], [], fun x_ => .int .i64 (len x232), false⟩, ⟨[], [], [2, 3, 4, 5, 6, 7], [], fun x_ => .agg #[.int .i64 3, .int .i64 y561, .int .i64 (len x232)], false⟩, ⟨[], [], [2, 3, 4, 5, 6, 7, 8], [9], fun x_ => (x_.getD 0 undef), false⟩, ⟨[11], [3, 9], [0, 1, 2, 3, 4, 5, 6, 7, 8, 9], [10], fun x_ => (x_.getD 0 undef), false⟩, ⟨[], [], [0, 1, 2, 3, 4, 5, 6, 7, 8, 9, 10], [], fun x_ => .pointer (some (pa48.add 1)), false⟩, ⟨[14], [7, 10], [0, 1, 2, 3, 4, 5, 6, 7, 8, 9, 10, 11], [], fun x_ => undef, false⟩] [11, 14, 37] [11, 14] (fun o_ w_ => Ent w0 (some sb) o_ w_) (by kernel_rfl) (by kernel_rfl) ⟨fun _ _ _ _ _ _ ev hd h => Ow.evo h ev hd, fun _ _ _ _ _ _ ev hd h => Ow.evo h ev hd, fun _ _ _ _ _ _ ev hd h => Ow.evo h ev hd, fun _ _ _ _ _ _ ev hd h => Ow.evo h ev hd, fun _ _ _ _ _ _ ev hd h => Ow.evo h ev hd, fun _ _ _ _ _ _ ev hd h => Ow.evo h ev hd, fun _ _ _ _ _ _ ev hd h => Bk.evo h ev hd, fun _ _ _ _ _ _ ev hd h => Bk.evo h ev hd, fun _ _ _ _ _ _ ev hd h => SrcC.evo h ev hd, fun _ _ _ _ _ _ ev hd h => Ow.evo h ev hd, fun _ _ _ _ _ _ ev hd h => Ow.evo h ev hd, fun _ _ _ _ _ _ ev hd h => Bk.evo h ev hd, trivial⟩ (Ent.any rfl rfl) ⟨hE.evo ev_ rfl rfl, ⟨h304.evo ev_ rfl, h307.evo ev_ rfl, h310.evo ev_ rfl, h313.evo ev_ rfl, h316.evo ev_ rfl, h319.evo ev_ rfl, hb6.evo ev_ rfl, hb52.evo ev_ rfl, hs.evo ev_ rfl, trivial⟩⟩ ⟨?_, ?_, ?_, ?_, ?_, ?_, ?_, ?_, ?_, ?_, ?_, ?_, ?_, trivial⟩ ?_
                · intro vs578 o_ w_ hE 
                  refine OW.imp (OW.fr (L' := [(3, .pointer (some pa48))]) ⟨rfl, trivial⟩ (OW.fldAddr (FldOk.at f39_1) rfl)) ?_
                  rintro _ _ ⟨rfl, rfl⟩
                  exact ⟨_, Evo.refl _ _ _ _, rfl, trivial⟩
                · intro vs578 o_ w_ hE hb52
                  have hb52 : Bk o_ 14 w_ pa48 [.int .i64 y11, v312, v315, v318, .int .i64 y24, .int .i64 y37] := hb52
                  refine OW.imp (OW.fr (L' := [(122, .pointer (some (pa48.add 1)))]) ⟨rfl, trivial⟩ (OW.loadK (off := 1) (List Breaker) (v312) ty35 rfl hb52 rfl rfl)) ?_
                  rintro _ _ ⟨rfl, rfl⟩
                  exact ⟨_, Evo.refl _ _ _ _, rfl, trivial⟩
                · intro vs578 o_ w_ hE 
                  refine OW.imp (OW.fr (L' := [(9, .int .i64 y276)]) ⟨rfl, trivial⟩ (OW.pv (v := .int .i64 y276) rfl)) ?_
                  rintro _ _ ⟨rfl, rfl⟩
                  exact ⟨_, Evo.refl _ _ _ _, rfl, trivial⟩
                · intro vs578 o_ w_ hE 
                  refine OW.imp (OW.fr (L' := [(124, .int .i64 y276)]) ⟨rfl, trivial⟩ (OW.pv (v := .int .i64 ((W (y276 + 1)))) rfl)) ?_
                  rintro _ _ ⟨rfl, rfl⟩
                  exact ⟨_, Evo.refl _ _ _ _, rfl, trivial⟩
                · intro vs578 o_ w_ hE 
                  refine OW.imp (OW.fr (L' := [(3, .pointer (some pa48))]) ⟨rfl, trivial⟩ (OW.fldAddr (FldOk.at f39_0) rfl)) ?_
                  rintro _ _ ⟨rfl, rfl⟩
                  exact ⟨_, Evo.refl _ _ _ _, rfl, trivial⟩
                · intro vs578 o_ w_ hE hb52
                  have hb52 : Bk o_ 14 w_ pa48 [.int .i64 y11, v312, v315, v318, .int .i64 y24, .int .i64 y37] := hb52
                  refine OW.imp (OW.fr (L' := [(126, .pointer (some (pa48.add 0)))]) ⟨rfl, trivial⟩ (OW.loadK (off := 0) Int (.int .i64 y11) ty3 rfl hb52 rfl rfl)) ?_
                  rintro _ _ ⟨rfl, rfl⟩
                  exact ⟨_, Evo.refl _ _ _ _, rfl, trivial⟩
                · intro vs578 o_ w_ hE 
                  refine OW.imp (OW.fr (L' := [(125, .int .i64 ((W (y276 + 1)))), (127, .int .i64 y11)]) ⟨rfl, rfl, trivial⟩ (OW.rem rfl rfl q562)) ?_
                  rintro _ _ ⟨rfl, rfl⟩
                  exact ⟨_, Evo.refl _ _ _ _, rfl, trivial⟩
                · intro vs578 o_ w_ hE 
                  refine OW.imp (OW.fr (L' := [(8, .int .i64 (len x232))]) ⟨rfl, trivial⟩ (OW.pv (v := .int .i64 (len x232)) rfl)) ?_
                  rintro _ _ ⟨rfl, rfl⟩
                  exact ⟨_, Evo.refl _ _ _ _, rfl, trivial⟩
                · intro vs578 o_ w_ hE 
                  refine OW.imp (OW.fr (L' := [(128, .int .i64 y561), (129, .int .i64 (len x232))]) ⟨rfl, rfl, trivial⟩ (OW.buildK Breaker [(0, [.int .i64 3]), (1, [.int .i64 y561]), (2, [.int .i64 (len x232)])] [.int .i64 3, .int .i64 y561, .int .i64 (len x232)] st48 ty48 rfl ⟨rfl, rfl, rfl, rfl, rfl, rfl, trivial⟩ rfl)) ?_
                  rintro _ _ ⟨rfl, rfl⟩
                  exact ⟨_, Evo.refl _ _ _ _, rfl, trivial⟩
                · intro vs578 o_ w_ hE 
                  refine OW.imp (OW.fr (L' := [(130, .agg #[.int .i64 3, .int .i64 y561, .int .i64 (len x232)])]) ⟨rfl, trivial⟩ (OW.buildSlice (o := o_) (k := 37) (K := []) (xs := ([(⟨3, y561, len x232⟩ : Breaker)] : List Breaker)) Try.underlying35 ty48 rfl ⟨(mk48 (x := (⟨3, y561, len x232⟩ : Breaker))), trivial⟩ rfl rfl)) ?_
                  rintro v563 w564 ⟨o565, ev566, h567⟩
                  exact ⟨o565, ev566.sub rfl rfl, rfl, h567, trivial⟩
                · intro vs578 o_ w_ hE h313 h567
                  have h313 : Ow 48 o_ 11 [] w_ v312 x311 := h313
                  have h567 : Ow 48 o_ 37 [] w_ (vs578 9) (([(⟨3, y561, len x232⟩ : Breaker)] : List Breaker)) := h567
                  refine OW.imp (OW.fr (L' := [(123, v312), (131, (vs578 9))]) ⟨rfl, rfl, trivial⟩ (OW.append (K := []) Try.underlying35 ty48 rfl rfl h313 h567.els.flat q569 rfl)) ?_
                  rintro v570 w571 ⟨o572, ev573, h574⟩
                  exact ⟨o572, ev573.sub rfl rfl, rfl, h574, trivial⟩
                · intro vs578 o_ w_ hE 
                  refine OW.imp (OW.fr (L' := [(3, .pointer (some pa48))]) ⟨rfl, trivial⟩ (OW.fldAddr (FldOk.at f39_1) rfl)) ?_
                  rintro _ _ ⟨rfl, rfl⟩
                  exact ⟨_, Evo.refl _ _ _ _, rfl, trivial⟩
                · intro vs578 o_ w_ hE hb52 h574
                  have hb52 : Bk o_ 14 w_ pa48 [.int .i64 y11, v312, v315, v318, .int .i64 y24, .int .i64 y37] := hb52
                  have h574 : Ow 48 o_ 11 [] w_ (vs578 10) y568 := h574
                  refine OW.imp (OW.fr (L' := [(132, (vs578 10)), (133, .pointer (some (pa48.add 1)))]) ⟨rfl, rfl, trivial⟩ (OW.storeK (off := 1) (List Breaker) [.int .i64 y11, (vs578 10), v315, v318, .int .i64 y24, .int .i64 y37] [(vs578 10)] ty35 rfl rfl hb52 (cells_one (h574.one)) ⟨(h574.one), trivial⟩ rfl rfl rfl)) ?_
                  rintro _ w575 ⟨ev576, hb577⟩
                  exact ⟨o_, ev576.sub rfl rfl, trivial, hb577, trivial⟩
                · intro vs578 o580 w579 hE h304 h307 h310 h316 h319 hb6 hs h567 h574 hb577
                  have h304 : Ow 48 o580 3 [] w579 v303 x302 := h304
                  have h307 : Ow 83 o580 4 [] w579 v306 x305 := h307
                  have h310 : Ow 85 o580 5 [] w579 v309 x308 := h310
                  have h316 : Ow 83 o580 12 [] w579 v315 x314 := h316
                  have h319 : Ow 85 o580 13 [44, 49] w579 v318 x317 := h319
                  have hb6 : Bk o580 2 w579 pa2 [.int .i64 0, v303, v306, v309, .int .i64 0, .int .i64 0] := hb6
                  have hs : SrcC o580 1 w579 sb sv sL st320 := hs
                  have h567 : Ow 48 o580 37 [] w579 (vs578 9) (([(⟨3, y561, len x232⟩ : Breaker)] : List Breaker)) := h567
                  have h574 : Ow 48 o580 11 [] w579 (vs578 10) y568 := h574
                  have hb577 : Bk o580 14 w579 pa48 [.int .i64 y11, (vs578 10), v315, v318, .int .i64 y24, .int .i64 y37] := hb577
                  have e581 := Option.some.inj q343
                  obtain ⟨e582, e583⟩ := Prod.mk.inj e581
                  obtain ⟨e584, e585⟩ := Prod.mk.inj e583
                  obtain ⟨e586, e587⟩ := Prod.mk.inj e585
                  obtain ⟨e588, e589⟩ := Prod.mk.inj e587
                  obtain ⟨e590, e591⟩ := Prod.mk.inj e589
                  subst e582 e584 e586 e588 e590 e591
                  exact NK.sub (L' := [(0, .pointer (some ⟨sb, 0, none⟩)), (2, .pointer (some pa2)), (3, .pointer (some pa48)), (7, .int .i64 x216), (8, .int .i64 (len x232))]) ⟨rfl, rfl, rfl, rfl, rfl, trivial⟩ (hJ346 w579 o580 v303 v306 v309 (vs578 10) v315 v318 hE h304 h307 h310 h574 h316 h319 hb6 hb577 hs)
              · have q343 := iteF hc560 q343
                refine CW.skip ?_
                have e592 := Option.some.inj q343
                obtain ⟨e593, e594⟩ := Prod.mk.inj e592
                obtain ⟨e595, e596⟩ := Prod.mk.inj e594
                obtain ⟨e597, e598⟩ := Prod.mk.inj e596
                obtain ⟨e599, e600⟩ := Prod.mk.inj e598
                obtain ⟨e601, e602⟩ := Prod.mk.inj e600
                subst e593 e595 e597 e599 e601 e602
                exact NK.sub (L' := [(0, .pointer (some ⟨sb, 0, none⟩)), (2, .pointer (some pa2)), (3, .pointer (some pa48)), (7, .int .i64 x216), (8, .int .i64 (len x232))]) ⟨rfl, rfl, rfl, rfl, rfl, trivial⟩ (hJ346 w322 o323 v303 v306 v309 v312 v315 v318 hE h304 h307 h310 h313 h316 h319 hb6 hb52 hs)
            rcases Bool.eq_false_or_eq_true ((decide (y11 > 1))) with hc603 | hc603
            · have q321 := iteT hc603 q321
              refine WL.stepGE rfl rfl rfl hc603 (OW.pv (v := .pointer (some ⟨sb, 0, none⟩)) rfl) rfl ?_
              obtain ⟨⟨y604, st605⟩, q606, q321⟩ := bindE q321
              dsimp only at q321
              refine WL.stepG rfl rfl rfl hc603 (OW.call Try.call13 rfl (Src_N_ok q606 hs.1 (hL.base hE) (src_not hs.2 rfl))) rfl ?_
              rintro _ w607 ⟨hb611, hs_, rfl⟩
              obtain ⟨o608, ev609, hn610⟩ := but_new (o := o294) 36 hb611 hs.2
              have hs := hs.new ev609 hs_
              have hE := hE.evo ev609 rfl rfl
              have h219 := h219.evo ev609 rfl
              have h222 := h222.evo ev609 rfl
              have h225 := h225.evo ev609 rfl
              have h231 := h231.evo ev609 rfl
              have h234 := h234.evo ev609 rfl
              have h296 := h296.evo ev609 rfl
              have hb6 := hb6.evo ev609 rfl
              have hb52 := hb52.evo ev609 rfl
              refine WL.stepGE rfl rfl rfl hc603 (OW.pv (v := .bool (((y604 == 3)))) rfl) rfl ?_
              refine WL.stepE (OW.pickT rfl hc603 rfl) rfl ?_
              refine WL.nil ?_
              have e612 := Option.some.inj q321
              obtain ⟨e613, e614⟩ := Prod.mk.inj e612
              obtain ⟨e615, e616⟩ := Prod.mk.inj e614
              obtain ⟨e617, e618⟩ := Prod.mk.inj e616
              obtain ⟨e619, e620⟩ := Prod.mk.inj e618
              obtain ⟨e621, e622⟩ := Prod.mk.inj e620
              obtain ⟨e623, e624⟩ := Prod.mk.inj e622
              obtain ⟨e625, e626⟩ := Prod.mk.inj e624
              subst e613 e615 e617 e619 e621 e623 e625 e626
              exact NK.sub (L' := [(0, .pointer (some ⟨sb, 0, none⟩)), (2, .pointer (some pa2)), (3, .pointer (some pa48)), (7, .int .i64 x216), (8, .int .i64 (len x232)), (9, .int .i64 y276), (121, .bool (((y604 == 3))))]) ⟨rfl, rfl, rfl, rfl, rfl, rfl, rfl, trivial⟩ (hJ324 w607 o608 v218 v221 v224 v292 v230 v233 hE h219 h222 h225 h296 h231 h234 hb6 hb52 hs)
            · have q321 := iteF hc603 q321
              refine WL.skipG rfl rfl rfl (by rw [hc603]; rfl) rfl ?_
              refine WL.skipG rfl rfl rfl (by rw [hc603]; rfl) rfl ?_
              refine WL.skipG rfl rfl rfl (by rw [hc603]; rfl) rfl ?_
              refine WL.stepE (OW.pickF rfl hc603 rfl) rfl ?_
              refine WL.nil ?_
              have e627 := Option.some.inj q321
              obtain ⟨e628, e629⟩ := Prod.mk.inj e627
              obtain ⟨e630, e631⟩ := Prod.mk.inj e629
              obtain ⟨e632, e633⟩ := Prod.mk.inj e631
              obtain ⟨e634, e635⟩ := Prod.mk.inj e633
              obtain ⟨e636, e637⟩ := Prod.mk.inj e635
              obtain ⟨e638, e639⟩ := Prod.mk.inj e637
              obtain ⟨e640, e641⟩ := Prod.mk.inj e639
              subst e628 e630 e632 e634 e636 e638 e640 e641
              exact NK.sub (L' := [(0, .pointer (some ⟨sb, 0, none⟩)), (2, .pointer (some pa2)), (3, .pointer (some pa48)), (7, .int .i64 x216), (8, .int .i64 (len x232)), (9, .int .i64 y276), (121, .bool false)]) ⟨rfl, rfl, rfl, rfl, rfl, rfl, rfl, trivial⟩ (hJ324 w297 o294 v218 v221 v224 v292 v230 v233 hE h219 h222 h225 h296 h231 h234 hb6 hb52 hs)
          · have hx267 := iteF hc272 hx267
            refine CW.exit ?_
            exact NK.sub (L' := [(2, .pointer (some pa2)), (3, .pointer (some pa48))]) ⟨rfl, rfl, trivial⟩ (hJ259 x217 x220 x223 x226 x229 x232 st235 w263 o264 v218 v221 v224 v227 v230 v233 (hr268 _ (Option.some.inj hx267).symm) hE h219 h222 h225 h228 h231 h234 hb6 hb52 hs)
        refine CW.sub (L' := [(0, .pointer (some ⟨sb, 0, none⟩)), (2, .pointer (some pa2)), (3, .pointer (some pa48)), (5, .int .i64 y154)]) ⟨rfl, rfl, rfl, rfl, trivial⟩ ?_
        refine CW.loop (Src_Board_L2 y11) (fun s_ L_ w642 => ∃ (o643 : Cls) (x162 : Int) (x163 : (List Breaker)) (x166 : (List Source)) (x169 : (List Consumer)) (x172 : (List Breaker)) (x175 : (List Source)) (x178 : (List Consumer)) (st181 : List Int) (v164 v167 v170 v173 v176 v179 : Value), (x162, x163, x166, x169, x172, x175, x178, st181) = s_ ∧ L_ = [(0, .pointer (some ⟨sb, 0, none⟩)), (2, .pointer (some pa2)), (3, .pointer (some pa48)), (5, .int .i64 x162)] ∧ Ent w0 (some sb) o643 w642 ∧ Ow 48 o643 3 [] w642 v164 x163 ∧ Ow 83 o643 4 [] w642 v167 x166 ∧ Ow 85 o643 5 [] w642 v170 x169 ∧ Ow 48 o643 11 [] w642 v173 x172 ∧ Ow 83 o643 12 [] w642 v176 x175 ∧ Ow 85 o643 13 [] w642 v179 x178 ∧ Bk o643 2 w642 pa2 [.int .i64 0, v164, v167, v170, .int .i64 0, .int .i64 0] ∧ Bk o643 14 w642 pa48 [.int .i64 y11, v173, v176, v179, .int .i64 y24, .int .i64 y37] ∧ SrcC o643 1 w642 sb sv sL st181) hl201 ?_ ?_
        · exact ⟨o158, y154, x130, x133, x136, x139, x142, x145, st155, v131, v134, v137, v140, v143, v146, rfl, rfl, hE, h132, h135, h138, h141, h144, h147, hb6, hb52, hs⟩
        intro K644 s_ L_ w642 hi_ x645 hx646 hr647 hk648
        obtain ⟨o643, x162, x163, x166, x169, x172, x175, x178, st181, v164, v167, v170, v173, v176, v179, rfl, rfl, hE, h165, h168, h171, h174, h177, h180, hb6, hb52, hs⟩ := hi_
        rw [Src_Board_L2] at hx646
        refine CW.seq fun K649 hK649 => ?_
        refine CW.seq fun K650 hK650 => ?_
        refine CW.region ?_
        refine WL.stepE (OW.pv (v := .int .i64 x162) rfl) rfl ?_
        refine WL.stepE (OW.pv (v := .bool ((decide (x162 > 0)))) rfl) rfl ?_
        refine WL.nil ?_
        refine NK.sub (L' := [(0, .pointer (some ⟨sb, 0, none⟩)), (2, .pointer (some pa2)), (3, .pointer (some pa48)), (5, .int .i64 x162), (60, .bool ((decide (x162 > 0))))]) ⟨rfl, rfl, rfl, rfl, rfl, trivial⟩ ?_
        refine hK650 _ _ ?_
        refine CW.cond (b := (decide (x162 > 0))) rfl (fun hc651 => ?_) (fun hc651 => ?_)
        · have hx646 := iteT hc651 hx646
          refine CW.skip ?_
          refine NK.sub (L' := [(0, .pointer (some ⟨sb, 0, none⟩)), (2, .pointer (some pa2)), (3, .pointer (some pa48)), (5, .int .i64 x162)]) ⟨rfl, rfl, rfl, rfl, trivial⟩ ?_
          refine hK649 _ _ ?_
          refine CW.seq fun K652 hK652 => ?_
          refine CW.block ?_
          refine CW.seq fun K653 hK653 => ?_
          obtain ⟨⟨y654, st655⟩, q656, hx646⟩ := bindE hx646
          dsimp only at hx646
          obtain ⟨y668, q669, hx646⟩ := bindE hx646
          have ev_ := Evo.drew o643 w642
          refine CW.any (ow := o643) hmix [⟨none, none, [3], [], fun x_ o_ w_ => Ow 48 o_ 3 [] w_ v164 x163⟩, ⟨none, none, [4], [], fun x_ o_ w_ => Ow 83 o_ 4 [] w_ v167 x166⟩, ⟨none, none, [5], [], fun x_ o_ w_ => Ow 85 o_ 5 [] w_ v170 x169⟩, ⟨none, some 11, [11], [], fun x_ o_ w_ => Ow 48 o_ 11 [] w_ v173 x172⟩, ⟨none, none, [12], [], fun x_ o_ w_ => Ow 83 o_ 12 [] w_ v176 x175⟩, ⟨none, none, [13], [], fun x_ o_ w_ => Ow 85 o_ 13 [] w_ v179 x178⟩, ⟨none, none, [2], [], fun x_ o_ w_ => Bk o_ 2 w_ pa2 [.int .i64 0, v164, v167, v170, .int .i64 0, .int .i64 0]⟩, ⟨none, some 13, [14], [], fun x_ o_ w_ => Bk o_ 14 w_ pa48 [.int .i64 y11, v173, v176, v179, .int .i64 y24, .int .i64 y37]⟩, ⟨none, some 5, [1], [], fun x_ o_ w_ => SrcC o_ 1 w_ sb sv sL st181⟩, ⟨some 5, none, [1], [], fun x_ o_ w_ => SrcC o_ 1 w_ sb sv sL st655⟩, ⟨some 10, none, [25], [10], fun x_ o_ w_ => Ow 48 o_ 25 [] w_ (x_.getD 0 undef) (([(⟨2, y654, len x175⟩ : Breaker)] : List Breaker))⟩, ⟨some 11, none, [11], [11], fun x_ o_ w_ => Ow 48 o_ 11 [] w_ (x_.getD 0 undef) y668⟩, ⟨some 13, none, [14], [11], fun x_ o_ w_ => Bk o_ 14 w_ pa48 [.int .i64 y11, (x_.getD 0 undef), v176, v179, .int .i64 y24, .int .i64 y37]⟩] [⟨[], [], [], [], fun x_ => .pointer (some (pa48.add 1)), false⟩, ⟨[], [7], [0], [], fun x_ => v173, false⟩, ⟨[], [], [], [], fun x_ => .pointer (some ⟨sb, 0, none⟩), false⟩, ⟨[], [], [], [], fun x_ => .pointer (some (pa48.add 0)), false⟩, ⟨[], [7], [3], [], fun x_ => .int .i64 y11, false⟩, ⟨[1], [8], [2, 3, 4], [], fun x_ => .int .i64 y654, false⟩, ⟨[], [], [], [], fun x_ => .pointer (some (pa48.add 2)), false⟩, ⟨[], [7], [6], [], fun x_ => v176, false⟩, ⟨[], [4], [6, 7], [], fun x_ => .int .i64 (len x175), false⟩, ⟨[], [], [2, 3, 4, 5, 6, 7, 8], [], fun x_ => .agg #[.int .i64 2, .int .i64 y654, .int .i64 (len x175)], false⟩, ⟨[], [], [2, 3, 4, 5, 6, 7, 8, 9], [10], fun x_ => (x_.getD 0 undef), false⟩, ⟨[11], [3, 10], [0, 1, 2, 3, 4, 5, 6, 7, 8, 9, 10], [11], fun x_ => (x_.getD 0 undef), false⟩, ⟨[], [], [0, 1, 2, 3, 4, 5, 6, 7, 8, 9, 10, 11], [], fun x_ => .pointer (some (pa48.add 1)), false⟩, ⟨[14], [7, 11], [0, 1, 2, 3, 4, 5, 6, 7, 8, 9, 10, 11, 12], [], fun x_ => undef, false⟩] [11, 14, 24, 25] [1, 11, 14] (fun o_ w_ => Ent w0 (some sb) o_ w_) (by kernel_rfl) (by kernel_rfl) ⟨fun _ _ _ _ _ _ ev hd h => Ow.evo h ev hd, fun _ _ _ _ _ _ ev hd h => Ow.evo h ev hd, fun _ _ _ _ _ _ ev hd h => Ow.evo h ev hd, fun _ _ _ _ _ _ ev hd h => Ow.evo h ev hd, fun _ _ _ _ _ _ ev hd h => Ow.evo h ev hd, fun _ _ _ _ _ _ ev hd h => Ow.evo h ev hd, fun _ _ _ _ _ _ ev hd h => Bk.evo h ev hd, fun _ _ _ _ _ _ ev hd h => Bk.evo h ev hd, fun _ _ _ _ _ _ ev hd h => SrcC.evo h ev hd, fun _ _ _ _ _ _ ev hd h => SrcC.evo h ev hd, fun _ _ _ _ _ _ ev hd h => Ow.evo h ev hd, fun _ _ _ _ _ _ ev hd h => Ow.evo h ev hd, fun _ _ _ _ _ _ ev hd h => Bk.evo h ev hd, trivial⟩ (Ent.any rfl rfl) ⟨hE.evo ev_ rfl rfl, ⟨h165.evo ev_ rfl, h168.evo ev_ rfl, h171.evo ev_ rfl, h174.evo ev_ rfl, h177.evo ev_ rfl, h180.evo ev_ rfl, hb6.evo ev_ rfl, hb52.evo ev_ rfl, hs.evo ev_ rfl, trivial⟩⟩ ⟨?_, ?_, ?_, ?_, ?_, ?_, ?_, ?_, ?_, ?_, ?_, ?_, ?_, ?_, trivial⟩ ?_
          · intro vs678 o_ w_ hE 
            refine OW.imp (OW.fr (L' := [(3, .pointer (some pa48))]) ⟨rfl, trivial⟩ (OW.fldAddr (FldOk.at f39_1) rfl)) ?_
            rintro _ _ ⟨rfl, rfl⟩
            exact ⟨_, Evo.refl _ _ _ _, rfl, trivial⟩
          · intro vs678 o_ w_ hE hb52
            have hb52 : Bk o_ 14 w_ pa48 [.int .i64 y11, v173, v176, v179, .int .i64 y24, .int .i64 y37] := hb52
            refine OW.imp (OW.fr (L' := [(63, .pointer (some (pa48.add 1)))]) ⟨rfl, trivial⟩ (OW.loadK (off := 1) (List Breaker) (v173) ty35 rfl hb52 rfl rfl)) ?_
            rintro _ _ ⟨rfl, rfl⟩
            exact ⟨_, Evo.refl _ _ _ _, rfl, trivial⟩
          · intro vs678 o_ w_ hE 
            refine OW.imp (OW.fr (L' := [(0, .pointer (some ⟨sb, 0, none⟩))]) ⟨rfl, trivial⟩ (OW.pv (v := .pointer (some ⟨sb, 0, none⟩)) rfl)) ?_
            rintro _ _ ⟨rfl, rfl⟩
            exact ⟨_, Evo.refl _ _ _ _, rfl, trivial⟩
          · intro vs678 o_ w_ hE 
            refine OW.imp (OW.fr (L' := [(3, .pointer (some pa48))]) ⟨rfl, trivial⟩ (OW.fldAddr (FldOk.at f39_0) rfl)) ?_
            rintro _ _ ⟨rfl, rfl⟩
            exact ⟨_, Evo.refl _ _ _ _, rfl, trivial⟩
          · intro vs678 o_ w_ hE hb52
            have hb52 : Bk o_ 14 w_ pa48 [.int .i64 y11, v173, v176, v179, .int .i64 y24, .int .i64 y37] := hb52
            refine OW.imp (OW.fr (L' := [(66, .pointer (some (pa48.add 0)))]) ⟨rfl, trivial⟩ (OW.loadK (off := 0) Int (.int .i64 y11) ty3 rfl hb52 rfl rfl)) ?_
            rintro _ _ ⟨rfl, rfl⟩
            exact ⟨_, Evo.refl _ _ _ _, rfl, trivial⟩
          · intro vs678 o_ w_ hE hs
            have hs : SrcC o_ 1 w_ sb sv sL st181 := hs
            refine OW.imp (OW.fr (L' := [(65, .pointer (some ⟨sb, 0, none⟩)), (67, .int .i64 y11)]) ⟨rfl, rfl, trivial⟩ (OW.call Try.call13 rfl (Src_N_ok q656 hs.1 (hL.base hE) (src_not hs.2 rfl)))) ?_
            rintro _ w657 ⟨hb661, hs_, rfl⟩
            obtain ⟨o658, ev659, hn660⟩ := but_new (o := o_) 24 hb661 hs.2
            have hs662 := hs.new ev659 hs_
            exact ⟨o658, ev659.sub rfl rfl, rfl, hs662, trivial⟩
          · intro vs678 o_ w_ hE 
            refine OW.imp (OW.fr (L' := [(3, .pointer (some pa48))]) ⟨rfl, trivial⟩ (OW.fldAddr (FldOk.at f39_2) rfl)) ?_
            rintro _ _ ⟨rfl, rfl⟩
            exact ⟨_, Evo.refl _ _ _ _, rfl, trivial⟩
          · intro vs678 o_ w_ hE hb52
            have hb52 : Bk o_ 14 w_ pa48 [.int .i64 y11, v173, v176, v179, .int .i64 y24, .int .i64 y37] := hb52
            refine OW.imp (OW.fr (L' := [(69, .pointer (some (pa48.add 2)))]) ⟨rfl, trivial⟩ (OW.loadK (off := 2) (List Source) (v176) ty36 rfl hb52 rfl rfl)) ?_
            rintro _ _ ⟨rfl, rfl⟩
            exact ⟨_, Evo.refl _ _ _ _, rfl, trivial⟩
          · intro vs678 o_ w_ hE h177
            have h177 : Ow 83 o_ 12 [] w_ v176 x175 := h177
            refine OW.imp (OW.fr (L' := [(70, v176)]) ⟨rfl, trivial⟩ (OW.len Try.underlying36 rfl h177.rv)) ?_
            rintro _ _ ⟨rfl, rfl⟩
            exact ⟨_, Evo.refl _ _ _ _, rfl, trivial⟩
          · intro vs678 o_ w_ hE 
            refine OW.imp (OW.fr (L' := [(68, .int .i64 y654), (71, .int .i64 (len x175))]) ⟨rfl, rfl, trivial⟩ (OW.buildK Breaker [(0, [.int .i64 2]), (1, [.int .i64 y654]), (2, [.int .i64 (len x175)])] [.int .i64 2, .int .i64 y654, .int .i64 (len x175)] st48 ty48 rfl ⟨rfl, rfl, rfl, rfl, rfl, rfl, trivial⟩ rfl)) ?_
            rintro _ _ ⟨rfl, rfl⟩
            exact ⟨_, Evo.refl _ _ _ _, rfl, trivial⟩
          · intro vs678 o_ w_ hE 
            refine OW.imp (OW.fr (L' := [(72, .agg #[.int .i64 2, .int .i64 y654, .int .i64 (len x175)])]) ⟨rfl, trivial⟩ (OW.buildSlice (o := o_) (k := 25) (K := []) (xs := ([(⟨2, y654, len x175⟩ : Breaker)] : List Breaker)) Try.underlying35 ty48 rfl ⟨(mk48 (x := (⟨2, y654, len x175⟩ : Breaker))), trivial⟩ rfl rfl)) ?_
            rintro v663 w664 ⟨o665, ev666, h667⟩
            exact ⟨o665, ev666.sub rfl rfl, rfl, h667, trivial⟩
          · intro vs678 o_ w_ hE h174 h667
            have h174 : Ow 48 o_ 11 [] w_ v173 x172 := h174
            have h667 : Ow 48 o_ 25 [] w_ (vs678 10) (([(⟨2, y654, len x175⟩ : Breaker)] : List Breaker)) := h667
            refine OW.imp (OW.fr (L' := [(64, v173), (73, (vs678 10))]) ⟨rfl, rfl, trivial⟩ (OW.append (K := []) Try.underlying35 ty48 rfl rfl h174 h667.els.flat q669 rfl)) ?_
            rintro v670 w671 ⟨o672, ev673, h674⟩
            exact ⟨o672, ev673.sub rfl rfl, rfl, h674, trivial⟩
          · intro vs678 o_ w_ hE 
            refine OW.imp (OW.fr (L' := [(3, .pointer (some pa48))]) ⟨rfl, trivial⟩ (OW.fldAddr (FldOk.at f39_1) rfl)) ?_
            rintro _ _ ⟨rfl, rfl⟩
            exact ⟨_, Evo.refl _ _ _ _, rfl, trivial⟩
          · intro vs678 o_ w_ hE hb52 h674
            have hb52 : Bk o_ 14 w_ pa48 [.int .i64 y11, v173, v176, v179, .int .i64 y24, .int .i64 y37] := hb52
            have h674 : Ow 48 o_ 11 [] w_ (vs678 11) y668 := h674
            refine OW.imp (OW.fr (L' := [(74, (vs678 11)), (75, .pointer (some (pa48.add 1)))]) ⟨rfl, rfl, trivial⟩ (OW.storeK (off := 1) (List Breaker) [.int .i64 y11, (vs678 11), v176, v179, .int .i64 y24, .int .i64 y37] [(vs678 11)] ty35 rfl rfl hb52 (cells_one (h674.one)) ⟨(h674.one), trivial⟩ rfl rfl rfl)) ?_
            rintro _ w675 ⟨ev676, hb677⟩
            exact ⟨o_, ev676.sub rfl rfl, trivial, hb677, trivial⟩
          · intro vs678 o680 w679 hE h165 h168 h171 h177 h180 hb6 hs662 h667 h674 hb677
            have h165 : Ow 48 o680 3 [] w679 v164 x163 := h165
            have h168 : Ow 83 o680 4 [] w679 v167 x166 := h168
            have h171 : Ow 85 o680 5 [] w679 v170 x169 := h171
            have h177 : Ow 83 o680 12 [] w679 v176 x175 := h177
            have h180 : Ow 85 o680 13 [] w679 v179 x178 := h180
            have hb6 : Bk o680 2 w679 pa2 [.int .i64 0, v164, v167, v170, .int .i64 0, .int .i64 0] := hb6
            have hs662 : SrcC o680 1 w679 sb sv sL st655 := hs662
            have h667 : Ow 48 o680 25 [] w679 (vs678 10) (([(⟨2, y654, len x175⟩ : Breaker)] : List Breaker)) := h667
            have h674 : Ow 48 o680 11 [] w679 (vs678 11) y668 := h674
            have hb677 : Bk o680 14 w679 pa48 [.int .i64 y11, (vs678 11), v176, v179, .int .i64 y24, .int .i64 y37] := hb677
            refine NK.sub (L' := [(0, .pointer (some ⟨sb, 0, none⟩)), (2, .pointer (some pa2)), (3, .pointer (some pa48)), (5, .int .i64 x162)]) ⟨rfl, rfl, rfl, rfl, trivial⟩ ?_
            refine hK653 _ _ ?_
            refine CW.seq fun K681 hK681 => ?_
            refine CW.region ?_
            refine WL.stepE (OW.pv (v := .pointer (some ⟨sb, 0, none⟩)) rfl) rfl ?_
            refine WL.step (OW.buildSlice (o := o680) (k := 26) (K := []) (xs := ([10, 50, 100] : List Int)) Try.underlying22 ty3 rfl ⟨(rv_int.2 rfl), (rv_int.2 rfl), (rv_int.2 rfl), trivial⟩ rfl rfl) rfl ?_
            rintro v682 w683 ⟨o684, ev685, h686⟩
            have hE := hE.evo ev685 rfl rfl
            have h165 := h165.evo ev685 rfl
            have h168 := h168.evo ev685 rfl
            have h171 := h171.evo ev685 rfl
            have h177 := h177.evo ev685 rfl
            have h180 := h180.evo ev685 rfl
            have h674 := h674.evo ev685 rfl
            have hb6 := hb6.evo ev685 rfl
            have hb677 := hb677.evo ev685 rfl
            have hs662 := hs662.evo ev685 rfl
            obtain ⟨⟨y687, st688⟩, q689, hx646⟩ := bindE hx646
            dsimp only at hx646
            refine WL.step (OW.call Try.call44 rfl (Src_Pick_ok q689 hs662.1 (hL.base hE) (src_not hs662.2 rfl) h686.rv (src_not hs662.2 rfl))) rfl ?_
            rintro _ w690 ⟨hb694, hs_, rfl⟩
            obtain ⟨o691, ev692, hn693⟩ := but_new (o := o684) 27 hb694 hs662.2
            have hs662 := hs662.new ev692 hs_
            have hE := hE.evo ev692 rfl rfl
            have h165 := h165.evo ev692 rfl
            have h168 := h168.evo ev692 rfl
            have h171 := h171.evo ev692 rfl
            have h177 := h177.evo ev692 rfl
            have h180 := h180.evo ev692 rfl
            have h674 := h674.evo ev692 rfl
            have h686 := h686.evo ev692 rfl
            have hb6 := hb6.evo ev692 rfl
            have hb677 := hb677.evo ev692 rfl
            refine WL.stepE (OW.pv (v := .int .i64 y687) rfl) rfl ?_
            refine WL.nil ?_
            refine NK.sub (L' := [(0, .pointer (some ⟨sb, 0, none⟩)), (2, .pointer (some pa2)), (3, .pointer (some pa48)), (5, .int .i64 x162), (6, .int .i64 y687)]) ⟨rfl, rfl, rfl, rfl, rfl, trivial⟩ ?_
            refine hK681 _ _ ?_
            obtain ⟨⟨y700, st701⟩, q702, hx646⟩ := bindE hx646
            dsimp only at hx646
            obtain ⟨⟨y714, st715⟩, q716, hx646⟩ := bindE hx646
            dsimp only at hx646
            obtain ⟨y728, q729, hx646⟩ := bindE hx646
            have ev_ := Evo.drew o691 w690
            refine CW.any (ow := o691) hmix [⟨none, none, [3], [], fun x_ o_ w_ => Ow 48 o_ 3 [] w_ v164 x163⟩, ⟨none, none, [4], [], fun x_ o_ w_ => Ow 83 o_ 4 [] w_ v167 x166⟩, ⟨none, none, [5], [], fun x_ o_ w_ => Ow 85 o_ 5 [] w_ v170 x169⟩, ⟨none, some 12, [12], [], fun x_ o_ w_ => Ow 83 o_ 12 [] w_ v176 x175⟩, ⟨none, none, [13], [], fun x_ o_ w_ => Ow 85 o_ 13 [] w_ v179 x178⟩, ⟨none, none, [11], [], fun x_ o_ w_ => Ow 48 o_ 11 [] w_ (vs678 11) y668⟩, ⟨none, none, [2], [], fun x_ o_ w_ => Bk o_ 2 w_ pa2 [.int .i64 0, v164, v167, v170, .int .i64 0, .int .i64 0]⟩, ⟨none, some 14, [14], [], fun x_ o_ w_ => Bk o_ 14 w_ pa48 [.int .i64 y11, (vs678 11), v176, v179, .int .i64 y24, .int .i64 y37]⟩, ⟨none, some 6, [1], [], fun x_ o_ w_ => SrcC o_ 1 w_ sb sv sL st688⟩, ⟨some 5, none, [28], [5], fun x_ o_ w_ => Ow 3 o_ 28 [] w_ (x_.getD 0 undef) ([0, 5, y687] : List Int)⟩, ⟨some 6, some 9, [1], [], fun x_ o_ w_ => SrcC o_ 1 w_ sb sv sL st701⟩, ⟨some 8, none, [30], [8], fun x_ o_ w_ => Ow 3 o_ 30 [] w_ (x_.getD 0 undef) ([0, 1, 3] : List Int)⟩, ⟨some 9, none, [1], [], fun x_ o_ w_ => SrcC o_ 1 w_ sb sv sL st715⟩, ⟨some 11, none, [32], [11], fun x_ o_ w_ => Ow 83 o_ 32 [] w_ (x_.getD 0 undef) (([(⟨y687, y700, y714⟩ : Source)] : List Source))⟩, ⟨some 12, none, [12], [12], fun x_ o_ w_ => Ow 83 o_ 12 [] w_ (x_.getD 0 undef) y728⟩, ⟨some 14, none, [14], [12], fun x_ o_ w_ => Bk o_ 14 w_ pa48 [.int .i64 y11, (vs678 11), (x_.getD 0 undef), v179, .int .i64 y24, .int .i64 y37]⟩] [⟨[], [], [], [], fun x_ => .pointer (some (pa48.add 2)), false⟩, ⟨[], [7], [0], [], fun x_ => v176, false⟩, ⟨[], [], [], [], fun x_ => .int .i64 y687, false⟩, ⟨[], [], [], [], fun x_ => .pointer (some ⟨sb, 0, none⟩), false⟩, ⟨[], [], [], [], fun x_ => .int .i64 y687, false⟩, ⟨[], [], [4], [5], fun x_ => (x_.getD 0 undef), false⟩, ⟨[1], [8, 9], [3, 4, 5], [], fun x_ => .int .i64 y700, false⟩, ⟨[], [], [], [], fun x_ => .pointer (some ⟨sb, 0, none⟩), false⟩, ⟨[], [], [], [8], fun x_ => (x_.getD 0 undef), false⟩, ⟨[1], [10, 11], [3, 4, 5, 6, 7, 8], [], fun x_ => .int .i64 y714, false⟩, ⟨[], [], [2, 3, 4, 5, 6, 7, 8, 9], [], fun x_ => .agg #[.int .i64 y687, .int .i64 y700, .int .i64 y714], false⟩, ⟨[], [], [2, 3, 4, 5, 6, 7, 8, 9, 10], [11], fun x_ => (x_.getD 0 undef), false⟩, ⟨[12], [3, 13], [0, 1, 2, 3, 4, 5, 6, 7, 8, 9, 10, 11], [12], fun x_ => (x_.getD 0 undef), false⟩, ⟨[], [], [0, 1, 2, 3, 4, 5, 6, 7, 8, 9, 10, 11, 12], [], fun x_ => .pointer (some (pa48.add 2)), false⟩, ⟨[14], [7, 14], [0, 1, 2, 3, 4, 5, 6, 7, 8, 9, 10, 11, 12, 13], [], fun x_ => undef, false⟩] [12, 14, 28, 29, 30, 31, 32] [1, 12, 14] (fun o_ w_ => Ent w0 (some sb) o_ w_) (by kernel_rfl) (by kernel_rfl) ⟨fun _ _ _ _ _ _ ev hd h => Ow.evo h ev hd, fun _ _ _ _ _ _ ev hd h => Ow.evo h ev hd, fun _ _ _ _ _ _ ev hd h => Ow.evo h ev hd, fun _ _ _ _ _ _ ev hd h => Ow.evo h ev hd, fun _ _ _ _ _ _ ev hd h => Ow.evo h ev hd, fun _ _ _ _ _ _ ev hd h => Ow.evo h ev hd, fun _ _ _ _ _ _ ev hd h => Bk.evo h ev hd, fun _ _ _ _ _ _ ev hd h => Bk.evo h ev hd, fun _ _ _ _ _ _ ev hd h => SrcC.evo h ev hd, fun _ _ _ _ _ _ ev hd h => Ow.evo h ev hd, fun _ _ _ _ _ _ ev hd h => SrcC.evo h ev hd, fun _ _ _ _ _ _ ev hd h => Ow.evo h ev hd, fun _ _ _ _ _ _ ev hd h => SrcC.evo h ev hd, fun _ _ _ _ _ _ ev hd h => Ow.evo h ev hd, fun _ _ _ _ _ _ ev hd h => Ow.evo h ev hd, fun _ _ _ _ _ _ ev hd h => Bk.evo h ev hd, trivial⟩ (Ent.any rfl rfl) ⟨hE.evo ev_ rfl rfl, ⟨h165.evo ev_ rfl, h168.evo ev_ rfl, h171.evo ev_ rfl, h177.evo ev_ rfl, h180.evo ev_ rfl, h674.evo ev_ rfl, hb6.evo ev_ rfl, hb677.evo ev_ rfl, hs662.evo ev_ rfl, trivial⟩⟩ ⟨?_, ?_, ?_, ?_, ?_, ?_, ?_, ?_, ?_, ?_, ?_, ?_, ?_, ?_, ?_, trivial⟩ ?_
            · intro vs738 o_ w_ hE 
              refine OW.imp (OW.fr (L' := [(3, .pointer (some pa48))]) ⟨rfl, trivial⟩ (OW.fldAddr (FldOk.at f39_2) rfl)) ?_
              rintro _ _ ⟨rfl, rfl⟩
              exact ⟨_, Evo.refl _ _ _ _, rfl, trivial⟩
            · intro vs738 o_ w_ hE hb677
              have hb677 : Bk o_ 14 w_ pa48 [.int .i64 y11, (vs678 11), v176, v179, .int .i64 y24, .int .i64 y37] := hb677
              refine OW.imp (OW.fr (L' := [(79, .pointer (some (pa48.add 2)))]) ⟨rfl, trivial⟩ (OW.loadK (off := 2) (List Source) (v176) ty36 rfl hb677 rfl rfl)) ?_
              rintro _ _ ⟨rfl, rfl⟩
              exact ⟨_, Evo.refl _ _ _ _, rfl, trivial⟩
            · intro vs738 o_ w_ hE 
              refine OW.imp (OW.fr (L' := [(6, .int .i64 y687)]) ⟨rfl, trivial⟩ (OW.pv (v := .int .i64 y687) rfl)) ?_
              rintro _ _ ⟨rfl, rfl⟩
              exact ⟨_, Evo.refl _ _ _ _, rfl, trivial⟩
            · intro vs738 o_ w_ hE 
              refine OW.imp (OW.fr (L' := [(0, .pointer (some ⟨sb, 0, none⟩))]) ⟨rfl, trivial⟩ (OW.pv (v := .pointer (some ⟨sb, 0, none⟩)) rfl)) ?_
              rintro _ _ ⟨rfl, rfl⟩
              exact ⟨_, Evo.refl _ _ _ _, rfl, trivial⟩
            · intro vs738 o_ w_ hE 
              refine OW.imp (OW.fr (L' := [(6, .int .i64 y687)]) ⟨rfl, trivial⟩ (OW.pv (v := .int .i64 y687) rfl)) ?_
              rintro _ _ ⟨rfl, rfl⟩
              exact ⟨_, Evo.refl _ _ _ _, rfl, trivial⟩
            · intro vs738 o_ w_ hE 
              refine OW.imp (OW.fr (L' := [(83, .int .i64 y687)]) ⟨rfl, trivial⟩ (OW.buildSlice (o := o_) (k := 28) (K := []) (xs := ([0, 5, y687] : List Int)) Try.underlying22 ty3 rfl ⟨(rv_int.2 rfl), (rv_int.2 rfl), (rv_int.2 rfl), trivial⟩ rfl rfl)) ?_
              rintro v695 w696 ⟨o697, ev698, h699⟩
              exact ⟨o697, ev698.sub rfl rfl, rfl, h699, trivial⟩
            · intro vs738 o_ w_ hE hs662 h699
              have hs662 : SrcC o_ 1 w_ sb sv sL st688 := hs662
              have h699 : Ow 3 o_ 28 [] w_ (vs738 5) ([0, 5, y687] : List Int) := h699
              refine OW.imp (OW.fr (L' := [(82, .pointer (some ⟨sb, 0, none⟩)), (84, (vs738 5))]) ⟨rfl, rfl, trivial⟩ (OW.call Try.call44 rfl (Src_Pick_ok q702 hs662.1 (hL.base hE) (src_not hs662.2 rfl) h699.rv (src_not hs662.2 rfl)))) ?_
              rintro _ w703 ⟨hb707, hs_, rfl⟩
              obtain ⟨o704, ev705, hn706⟩ := but_new (o := o_) 29 hb707 hs662.2
              have hs708 := hs662.new ev705 hs_
              exact ⟨o704, ev705.sub rfl rfl, rfl, hs708, trivial⟩
            · intro vs738 o_ w_ hE 
              refine OW.imp (OW.fr (L' := [(0, .pointer (some ⟨sb, 0, none⟩))]) ⟨rfl, trivial⟩ (OW.pv (v := .pointer (some ⟨sb, 0, none⟩)) rfl)) ?_
              rintro _ _ ⟨rfl, rfl⟩
              exact ⟨_, Evo.refl _ _ _ _, rfl, trivial⟩
            · intro vs738 o_ w_ hE 
              refine OW.imp (OW.fr (L' := []) trivial (OW.buildSlice (o := o_) (k := 30) (K := []) (xs := ([0, 1, 3] : List Int)) Try.underlying22 ty3 rfl ⟨(rv_int.2 rfl), (rv_int.2 rfl), (rv_int.2 rfl), trivial⟩ rfl rfl)) ?_
              rintro v709 w710 ⟨o711, ev712, h713⟩
              exact ⟨o711, ev712.sub rfl rfl, rfl, h713, trivial⟩
            · intro vs738 o_ w_ hE hs708 h713
              have hs708 : SrcC o_ 1 w_ sb sv sL st701 := hs708
              have h713 : Ow 3 o_ 30 [] w_ (vs738 8) ([0, 1, 3] : List Int) := h713
              refine OW.imp (OW.fr (L' := [(86, .pointer (some ⟨sb, 0, none⟩)), (87, (vs738 8))]) ⟨rfl, rfl, trivial⟩ (OW.call Try.call44 rfl (Src_Pick_ok q716 hs708.1 (hL.base hE) (src_not hs708.2 rfl) h713.rv (src_not hs708.2 rfl)))) ?_
              rintro _ w717 ⟨hb721, hs_, rfl⟩
              obtain ⟨o718, ev719, hn720⟩ := but_new (o := o_) 31 hb721 hs708.2
              have hs722 := hs708.new ev719 hs_
              exact ⟨o718, ev719.sub rfl rfl, rfl, hs722, trivial⟩
            · intro vs738 o_ w_ hE 
              refine OW.imp (OW.fr (L' := [(81, .int .i64 y687), (85, .int .i64 y700), (88, .int .i64 y714)]) ⟨rfl, rfl, rfl, trivial⟩ (OW.buildK Source [(0, [.int .i64 y687]), (1, [.int .i64 y700]), (2, [.int .i64 y714])] [.int .i64 y687, .int .i64 y700, .int .i64 y714] st83 ty83 rfl ⟨rfl, rfl, rfl, rfl, rfl, rfl, trivial⟩ rfl)) ?_
              rintro _ _ ⟨rfl, rfl⟩
              exact ⟨_, Evo.refl _ _ _ _, rfl, trivial⟩
            · intro vs738 o_ w_ hE 
              refine OW.imp (OW.fr (L' := [(89, .agg #[.int .i64 y687, .int .i64 y700, .int .i64 y714])]) ⟨rfl, trivial⟩ (OW.buildSlice (o := o_) (k := 32) (K := []) (xs := ([(⟨y687, y700, y714⟩ : Source)] : List Source)) Try.underlying36 ty83 rfl ⟨(mk83 (x := (⟨y687, y700, y714⟩ : Source))), trivial⟩ rfl rfl)) ?_
              rintro v723 w724 ⟨o725, ev726, h727⟩
              exact ⟨o725, ev726.sub rfl rfl, rfl, h727, trivial⟩
            · intro vs738 o_ w_ hE h177 h727
              have h177 : Ow 83 o_ 12 [] w_ v176 x175 := h177
              have h727 : Ow 83 o_ 32 [] w_ (vs738 11) (([(⟨y687, y700, y714⟩ : Source)] : List Source)) := h727
              refine OW.imp (OW.fr (L' := [(80, v176), (90, (vs738 11))]) ⟨rfl, rfl, trivial⟩ (OW.append (K := []) Try.underlying36 ty83 rfl rfl h177 h727.els.flat q729 rfl)) ?_
              rintro v730 w731 ⟨o732, ev733, h734⟩
              exact ⟨o732, ev733.sub rfl rfl, rfl, h734, trivial⟩
            · intro vs738 o_ w_ hE 
              refine OW.imp (OW.fr (L' := [(3, .pointer (some pa48))]) ⟨rfl, trivial⟩ (OW.fldAddr (FldOk.at f39_2) rfl)) ?_
              rintro _ _ ⟨rfl, rfl⟩
              exact ⟨_, Evo.refl _ _ _ _, rfl, trivial⟩
            · intro vs738 o_ w_ hE hb677 h734
              have hb677 : Bk o_ 14 w_ pa48 [.int .i64 y11, (vs678 11), v176, v179, .int .i64 y24, .int .i64 y37] := hb677
              have h734 : Ow 83 o_ 12 [] w_ (vs738 12) y728 := h734
              refine OW.imp (OW.fr (L' := [(91, (vs738 12)), (92, .pointer (some (pa48.add 2)))]) ⟨rfl, rfl, trivial⟩ (OW.storeK (off := 2) (List Source) [.int .i64 y11, (vs678 11), (vs738 12), v179, .int .i64 y24, .int .i64 y37] [(vs738 12)] ty36 rfl rfl hb677 (cells_one (h734.one)) ⟨(h734.one), trivial⟩ rfl rfl rfl)) ?_
              rintro _ w735 ⟨ev736, hb737⟩
              exact ⟨o_, ev736.sub rfl rfl, trivial, hb737, trivial⟩
            · intro vs738 o740 w739 hE h165 h168 h171 h180 h674 hb6 h699 h713 hs722 h727 h734 hb737
              have h165 : Ow 48 o740 3 [] w739 v164 x163 := h165
              have h168 : Ow 83 o740 4 [] w739 v167 x166 := h168
              have h171 : Ow 85 o740 5 [] w739 v170 x169 := h171
              have h180 : Ow 85 o740 13 [] w739 v179 x178 := h180
              have h674 : Ow 48 o740 11 [] w739 (vs678 11) y668 := h674
              have hb6 : Bk o740 2 w739 pa2 [.int .i64 0, v164, v167, v170, .int .i64 0, .int .i64 0] := hb6
              have h699 : Ow 3 o740 28 [] w739 (vs738 5) ([0, 5, y687] : List Int) := h699
              have h713 : Ow 3 o740 30 [] w739 (vs738 8) ([0, 1, 3] : List Int) := h713
              have hs722 : SrcC o740 1 w739 sb sv sL st715 := hs722
              have h727 : Ow 83 o740 32 [] w739 (vs738 11) (([(⟨y687, y700, y714⟩ : Source)] : List Source)) := h727
              have h734 : Ow 83 o740 12 [] w739 (vs738 12) y728 := h734
              have hb737 : Bk o740 14 w739 pa48 [.int .i64 y11, (vs678 11), (vs738 12), v179, .int .i64 y24, .int .i64 y37] := hb737
              refine NK.sub (L' := [(0, .pointer (some ⟨sb, 0, none⟩)), (2, .pointer (some pa2)), (3, .pointer (some pa48)), (5, .int .i64 x162)]) ⟨rfl, rfl, rfl, rfl, trivial⟩ ?_
              refine hK652 _ _ ?_
              refine CW.region ?_
              refine WL.stepE (OW.pv (v := .int .i64 x162) rfl) rfl ?_
              refine WL.stepE (OW.pv (v := .int .i64 ((W (x162 - 1)))) rfl) rfl ?_
              refine WL.stepE (OW.pv (v := .int .i64 ((W (x162 - 1)))) rfl) rfl ?_
              refine WL.nil ?_
              exact NK.sub (L' := [(0, .pointer (some ⟨sb, 0, none⟩)), (2, .pointer (some pa2)), (3, .pointer (some pa48)), (5, .int .i64 ((W (x162 - 1))))]) ⟨rfl, rfl, rfl, rfl, trivial⟩ (hk648 _ _ _ (Option.some.inj hx646).symm ⟨o740, (W (x162 - 1)), x163, x166, x169, y668, y728, x178, st715, v164, v167, v170, (vs678 11), (vs738 12), v179, rfl, rfl, hE, h165, h168, h171, h674, h734, h180, hb6, hb737, hs722⟩)
        · have hx646 := iteF hc651 hx646
          refine CW.exit ?_
          exact NK.sub (L' := [(0, .pointer (some ⟨sb, 0, none⟩)), (2, .pointer (some pa2)), (3, .pointer (some pa48))]) ⟨rfl, rfl, rfl, trivial⟩ (hJ205 x163 x166 x169 x172 x175 x178 st181 w642 o643 v164 v167 v170 v173 v176 v179 (hr647 _ (Option.some.inj hx646).symm) hE h165 h168 h171 h174 h177 h180 hb6 hb52 hs)
      refine CW.cond (b := x106) rfl (fun hc741 => ?_) (fun hc741 => ?_)
      · have q148 := iteT hc741 q148
        refine CW.region ?_
        refine WL.stepE (OW.fldAddr (FldOk.at f39_1) rfl) rfl ?_
        refine WL.stepE (OW.loadK (off := 1) (List Breaker) (v117) ty35 rfl hb52 rfl rfl) rfl ?_
        refine WL.stepE (OW.fldAddr (FldOk.at f39_0) rfl) rfl ?_
        refine WL.stepE (OW.loadK (off := 0) Int (.int .i64 y11) ty3 rfl hb52 rfl rfl) rfl ?_
        refine WL.stepE (OW.pv (v := .int .i64 ((W (y11 - 1)))) rfl) rfl ?_
        refine WL.stepE (OW.buildK Breaker [(0, [.int .i64 1]), (1, [.int .i64 0]), (2, [.int .i64 ((W (y11 - 1)))])] [.int .i64 1, .int .i64 0, .int .i64 ((W (y11 - 1)))] st48 ty48 rfl ⟨rfl, rfl, rfl, rfl, rfl, rfl, trivial⟩ rfl) rfl ?_
        refine WL.step (OW.buildSlice (o := o128) (k := 22) (K := []) (xs := ([(⟨1, 0, (W (y11 - 1))⟩ : Breaker)] : List Breaker)) Try.underlying35 ty48 rfl ⟨(mk48 (x := (⟨1, 0, (W (y11 - 1))⟩ : Breaker))), trivial⟩ rfl rfl) rfl ?_
        rintro v742 w743 ⟨o744, ev745, h746⟩
        have hE := hE.evo ev745 rfl rfl
        have h109 := h109.evo ev745 rfl
        have h112 := h112.evo ev745 rfl
        have h115 := h115.evo ev745 rfl
        have h118 := h118.evo ev745 rfl
        have h121 := h121.evo ev745 rfl
        have h124 := h124.evo ev745 rfl
        have hb6 := hb6.evo ev745 rfl
        have hb52 := hb52.evo ev745 rfl
        have hs := hs.evo ev745 rfl
        obtain ⟨y747, q748, q148⟩ := bindE q148
        refine WL.step (OW.append (K := []) Try.underlying35 ty48 rfl rfl h118 h746.els.flat q748 rfl) rfl ?_
        rintro v749 w750 ⟨o751, ev752, h753⟩
        have hE := hE.evo ev752 rfl rfl
        have h109 := h109.evo ev752 rfl
        have h112 := h112.evo ev752 rfl
        have h115 := h115.evo ev752 rfl
        have h121 := h121.evo ev752 rfl
        have h124 := h124.evo ev752 rfl
        have h746 := h746.evo ev752 rfl
        have hb6 := hb6.evo ev752 rfl
        have hb52 := hb52.evo ev752 rfl
        have hs := hs.evo ev752 rfl
        refine WL.stepE (OW.fldAddr (FldOk.at f39_1) rfl) rfl ?_
        refine WL.step0 (OW.storeK (off := 1) (List Breaker) [.int .i64 y11, v749, v120, v123, .int .i64 y24, .int .i64 y37] [v749] ty35 rfl rfl hb52 (cells_one (h753.one)) ⟨(h753.one), trivial⟩ rfl rfl rfl) ?_
        rintro _ w754 ⟨ev755, hb52⟩
        have hE := hE.evo ev755 rfl rfl
        have h109 := h109.evo ev755 rfl
        have h112 := h112.evo ev755 rfl
        have h115 := h115.evo ev755 rfl
        have h121 := h121.evo ev755 rfl
        have h124 := h124.evo ev755 rfl
        have h753 := h753.evo ev755 rfl
        have hb6 := hb6.evo ev755 rfl
        have hs := hs.evo ev755 rfl
        refine WL.nil ?_
        have e756 := Option.some.inj q148
        obtain ⟨e757, e758⟩ := Prod.mk.inj e756
        obtain ⟨e759, e760⟩ := Prod.mk.inj e758
        obtain ⟨e761, e762⟩ := Prod.mk.inj e760
        obtain ⟨e763, e764⟩ := Prod.mk.inj e762
        obtain ⟨e765, e766⟩ := Prod.mk.inj e764
        subst e757 e759 e761 e763 e765 e766
        exact NK.sub (L' := [(0, .pointer (some ⟨sb, 0, none⟩)), (2, .pointer (some pa2)), (3, .pointer (some pa48))]) ⟨rfl, rfl, rfl, trivial⟩ (hJ151 w754 o751 v108 v111 v114 v749 v120 v123 hE h109 h112 h115 h753 h121 h124 hb6 hb52 hs)
      · have q148 := iteF hc741 q148
        refine CW.skip ?_
        have e767 := Option.some.inj q148
        obtain ⟨e768, e769⟩ := Prod.mk.inj e767
        obtain ⟨e770, e771⟩ := Prod.mk.inj e769
        obtain ⟨e772, e773⟩ := Prod.mk.inj e771
        obtain ⟨e774, e775⟩ := Prod.mk.inj e773
        obtain ⟨e776, e777⟩ := Prod.mk.inj e775
        subst e768 e770 e772 e774 e776 e777
        exact NK.sub (L' := [(0, .pointer (some ⟨sb, 0, none⟩)), (2, .pointer (some pa2)), (3, .pointer (some pa48))]) ⟨rfl, rfl, rfl, trivial⟩ (hJ151 w127 o128 v108 v111 v114 v117 v120 v123 hE h109 h112 h115 h118 h121 h124 hb6 hb52 hs)
    rcases Bool.eq_false_or_eq_true ((decide (y11 > 2))) with hc778 | hc778
    · have q126 := iteT hc778 q126
      refine WL.stepGE rfl rfl rfl hc778 (OW.pv (v := .pointer (some ⟨sb, 0, none⟩)) rfl) rfl ?_
      obtain ⟨⟨y779, st780⟩, q781, q126⟩ := bindE q126
      dsimp only at q126
      refine WL.stepG rfl rfl rfl hc778 (OW.call Try.call13 rfl (Src_N_ok q781 hs.1 (hL.base hE) (src_not hs.2 rfl))) rfl ?_
      rintro _ w782 ⟨hb786, hs_, rfl⟩
      obtain ⟨o783, ev784, hn785⟩ := but_new (o := o102) 21 hb786 hs.2
      have hs := hs.new ev784 hs_
      have hE := hE.evo ev784 rfl rfl
      have h82 := h82.evo ev784 rfl
      have h85 := h85.evo ev784 rfl
      have h88 := h88.evo ev784 rfl
      have h91 := h91.evo ev784 rfl
      have h94 := h94.evo ev784 rfl
      have h97 := h97.evo ev784 rfl
      have hb6 := hb6.evo ev784 rfl
      have hb52 := hb52.evo ev784 rfl
      refine WL.stepGE rfl rfl rfl hc778 (OW.pv (v := .bool (((y779 == 1)))) rfl) rfl ?_
      refine WL.stepE (OW.pickT rfl hc778 rfl) rfl ?_
      refine WL.nil ?_
      have e787 := Option.some.inj q126
      obtain ⟨e788, e789⟩ := Prod.mk.inj e787
      obtain ⟨e790, e791⟩ := Prod.mk.inj e789
      obtain ⟨e792, e793⟩ := Prod.mk.inj e791
      obtain ⟨e794, e795⟩ := Prod.mk.inj e793
      obtain ⟨e796, e797⟩ := Prod.mk.inj e795
      obtain ⟨e798, e799⟩ := Prod.mk.inj e797
      obtain ⟨e800, e801⟩ := Prod.mk.inj e799
      subst e788 e790 e792 e794 e796 e798 e800 e801
      exact NK.sub (L' := [(0, .pointer (some ⟨sb, 0, none⟩)), (2, .pointer (some pa2)), (3, .pointer (some pa48)), (47, .bool (((y779 == 1))))]) ⟨rfl, rfl, rfl, rfl, trivial⟩ (hJ129 w782 o783 v81 v84 v87 v90 v93 v96 hE h82 h85 h88 h91 h94 h97 hb6 hb52 hs)
    · have q126 := iteF hc778 q126
      refine WL.skipG rfl rfl rfl (by rw [hc778]; rfl) rfl ?_
      refine WL.skipG rfl rfl rfl (by rw [hc778]; rfl) rfl ?_
      refine WL.skipG rfl rfl rfl (by rw [hc778]; rfl) rfl ?_
      refine WL.stepE (OW.pickF rfl hc778 rfl) rfl ?_
      refine WL.nil ?_
      have e802 := Option.some.inj q126
      obtain ⟨e803, e804⟩ := Prod.mk.inj e802
      obtain ⟨e805, e806⟩ := Prod.mk.inj e804
      obtain ⟨e807, e808⟩ := Prod.mk.inj e806
      obtain ⟨e809, e810⟩ := Prod.mk.inj e808
      obtain ⟨e811, e812⟩ := Prod.mk.inj e810
      obtain ⟨e813, e814⟩ := Prod.mk.inj e812
      obtain ⟨e815, e816⟩ := Prod.mk.inj e814
      subst e803 e805 e807 e809 e811 e813 e815 e816
      exact NK.sub (L' := [(0, .pointer (some ⟨sb, 0, none⟩)), (2, .pointer (some pa2)), (3, .pointer (some pa48)), (47, .bool false)]) ⟨rfl, rfl, rfl, rfl, trivial⟩ (hJ129 w101 o102 v81 v84 v87 v90 v93 v96 hE h82 h85 h88 h91 h94 h97 hb6 hb52 hs)
  refine CW.sub (L' := [(0, .pointer (some ⟨sb, 0, none⟩)), (2, .pointer (some pa2)), (3, .pointer (some pa48)), (4, .int .i64 1)]) ⟨rfl, rfl, rfl, rfl, trivial⟩ ?_
  refine CW.loop (Src_Board_L1 y11) (fun s_ L_ w817 => ∃ (o818 : Cls) (x60 : Int) (x61 : (List Breaker)) (x64 : (List Source)) (x67 : (List Consumer)) (x70 : (List Breaker)) (x73 : (List Source)) (x76 : (List Consumer)) (st79 : List Int) (v62 v65 v68 v71 v74 v77 : Value), (x60, x61, x64, x67, x70, x73, x76, st79) = s_ ∧ L_ = [(0, .pointer (some ⟨sb, 0, none⟩)), (2, .pointer (some pa2)), (3, .pointer (some pa48)), (4, .int .i64 x60)] ∧ Ent w0 (some sb) o818 w817 ∧ Ow 48 o818 3 [] w817 v62 x61 ∧ Ow 83 o818 4 [] w817 v65 x64 ∧ Ow 85 o818 5 [] w817 v68 x67 ∧ Ow 48 o818 11 [] w817 v71 x70 ∧ Ow 83 o818 12 [] w817 v74 x73 ∧ Ow 85 o818 13 [] w817 v77 x76 ∧ Bk o818 2 w817 pa2 [.int .i64 0, v62, v65, v68, .int .i64 0, .int .i64 0] ∧ Bk o818 14 w817 pa48 [.int .i64 y11, v71, v74, v77, .int .i64 y24, .int .i64 y37] ∧ SrcC o818 1 w817 sb sv sL st79) hl99 ?_ ?_
  · exact ⟨o49, 1, ([] : List Breaker), ([] : List Source), ([] : List Consumer), ([] : List Breaker), ([] : List Source), ([] : List Consumer), st38, (.slice none 0 0), (.slice none 0 0), (.slice none 0 0), (.slice none 0 0), (.slice none 0 0), (.slice none 0 0), rfl, rfl, hE, h7, h8, h9, h45, h46, h47, hb6, hb52, hs⟩
  intro K819 s_ L_ w817 hi_ x820 hx821 hr822 hk823
  obtain ⟨o818, x60, x61, x64, x67, x70, x73, x76, st79, v62, v65, v68, v71, v74, v77, rfl, rfl, hE, h63, h66, h69, h72, h75, h78, hb6, hb52, hs⟩ := hi_
  rw [Src_Board_L1] at hx821
  refine CW.seq fun K824 hK824 => ?_
  refine CW.seq fun K825 hK825 => ?_
  refine CW.region ?_
  refine WL.stepE (OW.pv (v := .int .i64 x60) rfl) rfl ?_
  refine WL.stepE (OW.fldAddr (FldOk.at f39_0) rfl) rfl ?_
  refine WL.stepE (OW.loadK (off := 0) Int (.int .i64 y11) ty3 rfl hb52 rfl rfl) rfl ?_
  refine WL.stepE (OW.pv (v := .bool ((decide (x60 < y11)))) rfl) rfl ?_
  refine WL.nil ?_
  refine NK.sub (L' := [(0, .pointer (some ⟨sb, 0, none⟩)), (2, .pointer (some pa2)), (3, .pointer (some pa48)), (4, .int .i64 x60), (24, .bool ((decide (x60 < y11))))]) ⟨rfl, rfl, rfl, rfl, rfl, trivial⟩ ?_
  refine hK825 _ _ ?_
  refine CW.cond (b := (decide (x60 < y11))) rfl (fun hc826 => ?_) (fun hc826 => ?_)
  · have hx821 := iteT hc826 hx821
    refine CW.skip ?_
    refine NK.sub (L' := [(0, .pointer (some ⟨sb, 0, none⟩)), (2, .pointer (some pa2)), (3, .pointer (some pa48)), (4, .int .i64 x60)]) ⟨rfl, rfl, rfl, rfl, trivial⟩ ?_
    refine hK824 _ _ ?_
    refine CW.seq fun K827 hK827 => ?_
    refine CW.block ?_
    refine CW.seq fun K828 hK828 => ?_
    refine CW.region ?_
    refine WL.stepE (OW.pv (v := .pointer (some ⟨sb, 0, none⟩)) rfl) rfl ?_
    obtain ⟨⟨y829, st830⟩, q831, hx821⟩ := bindE hx821
    dsimp only at hx821
    refine WL.step (OW.call Try.call13 rfl (Src_N_ok q831 hs.1 (hL.base hE) (src_not hs.2 rfl))) rfl ?_
    rintro _ w832 ⟨hb836, hs_, rfl⟩
    obtain ⟨o833, ev834, hn835⟩ := but_new (o := o818) 18 hb836 hs.2
    have hs := hs.new ev834 hs_
    have hE := hE.evo ev834 rfl rfl
    have h63 := h63.evo ev834 rfl
    have h66 := h66.evo ev834 rfl
    have h69 := h69.evo ev834 rfl
    have h72 := h72.evo ev834 rfl
    have h75 := h75.evo ev834 rfl
    have h78 := h78.evo ev834 rfl
    have hb6 := hb6.evo ev834 rfl
    have hb52 := hb52.evo ev834 rfl
    refine WL.stepE (OW.pv (v := .bool ((decide (y829 < 5)))) rfl) rfl ?_
    refine WL.nil ?_
    refine NK.sub (L' := [(0, .pointer (some ⟨sb, 0, none⟩)), (2, .pointer (some pa2)), (3, .pointer (some pa48)), (4, .int .i64 x60), (29, .bool ((decide (y829 < 5))))]) ⟨rfl, rfl, rfl, rfl, rfl, trivial⟩ ?_
    refine hK828 _ _ ?_
    obtain ⟨z_, q856, hx821⟩ := bindE hx821
    obtain ⟨x837, x840, x843, x846, x849, x852, st855⟩ := z_
    try dsimp only at hx821
    have hJ859 : ∀ (w857 : World) (o858 : Cls) (v838 v841 v844 v847 v850 v853 : Value), Ent w0 (some sb) o858 w857 → Ow 48 o858 3 [] w857 v838 x837 → Ow 83 o858 4 [] w857 v841 x840 → Ow 85 o858 5 [] w857 v844 x843 → Ow 48 o858 11 [] w857 v847 x846 → Ow 83 o858 12 [] w857 v850 x849 → Ow 85 o858 13 [] w857 v853 x852 → Bk o858 2 w857 pa2 [.int .i64 0, v838, v841, v844, .int .i64 0, .int .i64 0] → Bk o858 14 w857 pa48 [.int .i64 y11, v847, v850, v853, .int .i64 y24, .int .i64 y37] → SrcC o858 1 w857 sb sv sL st855 → NK 168 K827 [(0, .pointer (some ⟨sb, 0, none⟩)), (2, .pointer (some pa2)), (3, .pointer (some pa48)), (4, .int .i64 x60)] w857 := by
      intro w857 o858 v838 v841 v844 v847 v850 v853 hE h839 h842 h845 h848 h851 h854 hb6 hb860 hs
      refine NK.sub (L' := [(0, .pointer (some ⟨sb, 0, none⟩)), (2, .pointer (some pa2)), (3, .pointer (some pa48)), (4, .int .i64 x60)]) ⟨rfl, rfl, rfl, rfl, trivial⟩ ?_
      refine hK827 _ _ ?_
      refine CW.region ?_
      refine WL.stepE (OW.pv (v := .int .i64 x60) rfl) rfl ?_
      refine WL.stepE (OW.pv (v := .int .i64 ((W (x60 + 1)))) rfl) rfl ?_
      refine WL.stepE (OW.pv (v := .int .i64 ((W (x60 + 1)))) rfl) rfl ?_
      refine WL.nil ?_
      exact NK.sub (L' := [(0, .pointer (some ⟨sb, 0, none⟩)), (2, .pointer (some pa2)), (3, .pointer (some pa48)), (4, .int .i64 ((W (x60 + 1))))]) ⟨rfl, rfl, rfl, rfl, trivial⟩ (hk823 _ _ _ (Option.some.inj hx821).symm ⟨o858, (W (x60 + 1)), x837, x840, x843, x846, x849, x852, st855, v838, v841, v844, v847, v850, v853, rfl, rfl, hE, h839, h842, h845, h848, h851, h854, hb6, hb860, hs⟩)
    refine CW.cond (b := (decide (y829 < 5))) rfl (fun hc860 => ?_) (fun hc860 => ?_)
    · have q856 := iteT hc860 q856
      obtain ⟨⟨y861, st862⟩, q863, q856⟩ := bindE q856
      dsimp only at q856
      obtain ⟨y875, q876, q856⟩ := bindE q856
      have ev_ := Evo.drew o833 w832
      refine CW.any (ow := o833) hmix [⟨none, none, [3], [], fun x_ o_ w_ => Ow 48 o_ 3 [] w_ v62 x61⟩, ⟨none, none, [4], [], fun x_ o_ w_ => Ow 83 o_ 4 [] w_ v65 x64⟩, ⟨none, none, [5], [], fun x_ o_ w_ => Ow 85 o_ 5 [] w_ v68 x67⟩, ⟨none, some 8, [11], [], fun x_ o_ w_ => Ow 48 o_ 11 [] w_ v71 x70⟩, ⟨none, none, [12], [], fun x_ o_ w_ => Ow 83 o_ 12 [] w_ v74 x73⟩, ⟨none, none, [13], [], fun x_ o_ w_ => Ow 85 o_ 13 [] w_ v77 x76⟩, ⟨none, none, [2], [], fun x_ o_ w_ => Bk o_ 2 w_ pa2 [.int .i64 0, v62, v65, v68, .int .i64 0, .int .i64 0]⟩, ⟨none, some 10, [14], [], fun x_ o_ w_ => Bk o_ 14 w_ pa48 [.int .i64 y11, v71, v74, v77, .int .i64 y24, .int .i64 y37]⟩, ⟨none, some 4, [1], [], fun x_ o_ w_ => SrcC o_ 1 w_ sb sv sL st830⟩, ⟨some 4, none, [1], [], fun x_ o_ w_ => SrcC o_ 1 w_ sb sv sL st862⟩, ⟨some 7, none, [20], [7], fun x_ o_ w_ => Ow 48 o_ 20 [] w_ (x_.getD 0 undef) (([(⟨1, y861, x60⟩ : Breaker)] : List Breaker))⟩, ⟨some 8, none, [11], [8], fun x_ o_ w_ => Ow 48 o_ 11 [] w_ (x_.getD 0 undef) y875⟩, ⟨some 10, none, [14], [8], fun x_ o_ w_ => Bk o_ 14 w_ pa48 [.int .i64 y11, (x_.getD 0 undef), v74, v77, .int .i64 y24, .int .i64 y37]⟩] [⟨[], [], [], [], fun x_ => .pointer (some (pa48.add 1)), false⟩, ⟨[], [7], [0], [], fun x_ => v71, false⟩, ⟨[], [], [], [], fun x_ => .pointer (some ⟨sb, 0, none⟩), false⟩, ⟨[], [], [], [], fun x_ => .int .i64 x60, false⟩, ⟨[1], [8], [2, 3], [], fun x_ => .int .i64 y861, false⟩, ⟨[], [], [], [], fun x_ => .int .i64 x60, false⟩, ⟨[], [], [2, 3, 4, 5], [], fun x_ => .agg #[.int .i64 1, .int .i64 y861, .int .i64 x60], false⟩, ⟨[], [], [2, 3, 4, 5, 6], [7], fun x_ => (x_.getD 0 undef), false⟩, ⟨[11], [3, 10], [0, 1, 2, 3, 4, 5, 6, 7], [8], fun x_ => (x_.getD 0 undef), false⟩, ⟨[], [], [0, 1, 2, 3, 4, 5, 6, 7, 8], [], fun x_ => .pointer (some (pa48.add 1)), false⟩, ⟨[14], [7, 11], [0, 1, 2, 3, 4, 5, 6, 7, 8, 9], [], fun x_ => undef, false⟩] [11, 14, 19, 20] [1, 11, 14] (fun o_ w_ => Ent w0 (some sb) o_ w_) (by kernel_rfl) (by kernel_rfl) ⟨fun _ _ _ _ _ _ ev hd h => Ow.evo h ev hd, fun _ _ _ _ _ _ ev hd h => Ow.evo h ev hd, fun _ _ _ _ _ _ ev hd h => Ow.evo h ev hd, fun _ _ _ _ _ _ ev hd h => Ow.evo h ev hd, fun _ _ _ _ _ _ ev hd h => Ow.evo h ev hd, fun _ _ _ _ _ _ ev hd h => Ow.evo h ev hd, fun _ _ _ _ _ _ ev hd h => Bk.evo h ev hd, fun _ _ _ _ _ _ ev hd h => Bk.evo h ev hd, fun _ _ _ _ _ _ ev hd h => SrcC.evo h ev hd, fun _ _ _ _ _ _ ev hd h => SrcC.evo h ev hd, fun _ _ _ _ _ _ ev hd h => Ow.evo h ev hd, fun _ _ _ _ _ _ ev hd h => Ow.evo h ev hd, fun _ _ _ _ _ _ ev hd h => Bk.evo h ev hd, trivial⟩ (Ent.any rfl rfl) ⟨hE.evo ev_ rfl rfl, ⟨h63.evo ev_ rfl, h66.evo ev_ rfl, h69.evo ev_ rfl, h72.evo ev_ rfl, h75.evo ev_ rfl, h78.evo ev_ rfl, hb6.evo ev_ rfl, hb52.evo ev_ rfl, hs.evo ev_ rfl, trivial⟩⟩ ⟨?_, ?_, ?_, ?_, ?_, ?_, ?_, ?_, ?_, ?_, ?_, trivial⟩ ?_
      · intro vs885 o_ w_ hE 
        refine OW.imp (OW.fr (L' := [(3, .pointer (some pa48))]) ⟨rfl, trivial⟩ (OW.fldAddr (FldOk.at f39_1) rfl)) ?_
        rintro _ _ ⟨rfl, rfl⟩
        exact ⟨_, Evo.refl _ _ _ _, rfl, trivial⟩
      · intro vs885 o_ w_ hE hb52
        have hb52 : Bk o_ 14 w_ pa48 [.int .i64 y11, v71, v74, v77, .int .i64 y24, .int .i64 y37] := hb52
        refine OW.imp (OW.fr (L' := [(30, .pointer (some (pa48.add 1)))]) ⟨rfl, trivial⟩ (OW.loadK (off := 1) (List Breaker) (v71) ty35 rfl hb52 rfl rfl)) ?_
        rintro _ _ ⟨rfl, rfl⟩
        exact ⟨_, Evo.refl _ _ _ _, rfl, trivial⟩
      · intro vs885 o_ w_ hE 
        refine OW.imp (OW.fr (L' := [(0, .pointer (some ⟨sb, 0, none⟩))]) ⟨rfl, trivial⟩ (OW.pv (v := .pointer (some ⟨sb, 0, none⟩)) rfl)) ?_
        rintro _ _ ⟨rfl, rfl⟩
        exact ⟨_, Evo.refl _ _ _ _, rfl, trivial⟩
      · intro vs885 o_ w_ hE 
        refine OW.imp (OW.fr (L' := [(4, .int .i64 x60)]) ⟨rfl, trivial⟩ (OW.pv (v := .int .i64 x60) rfl)) ?_
        rintro _ _ ⟨rfl, rfl⟩
        exact ⟨_, Evo.refl _ _ _ _, rfl, trivial⟩
      · intro vs885 o_ w_ hE hs
        have hs : SrcC o_ 1 w_ sb sv sL st830 := hs
        refine OW.imp (OW.fr (L' := [(32, .pointer (some ⟨sb, 0, none⟩)), (33, .int .i64 x60)]) ⟨rfl, rfl, trivial⟩ (OW.call Try.call13 rfl (Src_N_ok q863 hs.1 (hL.base hE) (src_not hs.2 rfl)))) ?_
        rintro _ w864 ⟨hb868, hs_, rfl⟩
        obtain ⟨o865, ev866, hn867⟩ := but_new (o := o_) 19 hb868 hs.2
        have hs869 := hs.new ev866 hs_
        exact ⟨o865, ev866.sub rfl rfl, rfl, hs869, trivial⟩
      · intro vs885 o_ w_ hE 
        refine OW.imp (OW.fr (L' := [(4, .int .i64 x60)]) ⟨rfl, trivial⟩ (OW.pv (v := .int .i64 x60) rfl)) ?_
        rintro _ _ ⟨rfl, rfl⟩
        exact ⟨_, Evo.refl _ _ _ _, rfl, trivial⟩
      · intro vs885 o_ w_ hE 
        refine OW.imp (OW.fr (L' := [(34, .int .i64 y861), (35, .int .i64 x60)]) ⟨rfl, rfl, trivial⟩ (OW.buildK Breaker [(0, [.int .i64 1]), (1, [.int .i64 y861]), (2, [.int .i64 x60])] [.int .i64 1, .int .i64 y861, .int .i64 x60] st48 ty48 rfl ⟨rfl, rfl, rfl, rfl, rfl, rfl, trivial⟩ rfl)) ?_
        rintro _ _ ⟨rfl, rfl⟩
        exact ⟨_, Evo.refl _ _ _ _, rfl, trivial⟩
      · intro vs885 o_ w_ hE 
        refine OW.imp (OW.fr (L' := [(36, .agg #[.int .i64 1, .int .i64 y861, .int .i64 x60])]) ⟨rfl, trivial⟩ (OW.buildSlice (o := o_) (k := 20) (K := []) (xs := ([(⟨1, y861, x60⟩ : Breaker)] : List Breaker)) Try.underlying35 ty48 rfl ⟨(mk48 (x := (⟨1, y861, x60⟩ : Breaker))), trivial⟩ rfl rfl)) ?_
        rintro v870 w871 ⟨o872, ev873, h874⟩
        exact ⟨o872, ev873.sub rfl rfl, rfl, h874, trivial⟩
      · intro vs885 o_ w_ hE h72 h874
        have h72 : Ow 48 o_ 11 [] w_ v71 x70 := h72
        have h874 : Ow 48 o_ 20 [] w_ (vs885 7) (([(⟨1, y861, x60⟩ : Breaker)] : List Breaker)) := h874
        refine OW.imp (OW.fr (L' := [(31, v71), (37, (vs885 7))]) ⟨rfl, rfl, trivial⟩ (OW.append (K := []) Try.underlying35 ty48 rfl rfl h72 h874.els.flat q876 rfl)) ?_
        rintro v877 w878 ⟨o879, ev880, h881⟩
        exact ⟨o879, ev880.sub rfl rfl, rfl, h881, trivial⟩
      · intro vs885 o_ w_ hE 
        refine OW.imp (OW.fr (L' := [(3, .pointer (some pa48))]) ⟨rfl, trivial⟩ (OW.fldAddr (FldOk.at f39_1) rfl)) ?_
        rintro _ _ ⟨rfl, rfl⟩
        exact ⟨_, Evo.refl _ _ _ _, rfl, trivial⟩
      · intro vs885 o_ w_ hE hb52 h881
        have hb52 : Bk o_ 14 w_ pa48 [.int .i64 y11, v71, v74, v77, .int .i64 y24, .int .i64 y37] := hb52
        have h881 : Ow 48 o_ 11 [] w_ (vs885 8) y875 := h881
        refine OW.imp (OW.fr (L' := [(38, (vs885 8)), (39, .pointer (some (pa48.add 1)))]) ⟨rfl, rfl, trivial⟩ (OW.storeK (off := 1) (List Breaker) [.int .i64 y11, (vs885 8), v74, v77, .int .i64 y24, .int .i64 y37] [(vs885 8)] ty35 rfl rfl hb52 (cells_one (h881.one)) ⟨(h881.one), trivial⟩ rfl rfl rfl)) ?_
        rintro _ w882 ⟨ev883, hb884⟩
        exact ⟨o_, ev883.sub rfl rfl, trivial, hb884, trivial⟩
      · intro vs885 o887 w886 hE h63 h66 h69 h75 h78 hb6 hs869 h874 h881 hb884
        have h63 : Ow 48 o887 3 [] w886 v62 x61 := h63
        have h66 : Ow 83 o887 4 [] w886 v65 x64 := h66
        have h69 : Ow 85 o887 5 [] w886 v68 x67 := h69
        have h75 : Ow 83 o887 12 [] w886 v74 x73 := h75
        have h78 : Ow 85 o887 13 [] w886 v77 x76 := h78
        have hb6 : Bk o887 2 w886 pa2 [.int .i64 0, v62, v65, v68, .int .i64 0, .int .i64 0] := hb6
        have hs869 : SrcC o887 1 w886 sb sv sL st862 := hs869
        have h874 : Ow 48 o887 20 [] w886 (vs885 7) (([(⟨1, y861, x60⟩ : Breaker)] : List Breaker)) := h874
        have h881 : Ow 48 o887 11 [] w886 (vs885 8) y875 := h881
        have hb884 : Bk o887 14 w886 pa48 [.int .i64 y11, (vs885 8), v74, v77, .int .i64 y24, .int .i64 y37] := hb884
        have e888 := Option.some.inj q856
        obtain ⟨e889, e890⟩ := Prod.mk.inj e888
        obtain ⟨e891, e892⟩ := Prod.mk.inj e890
        obtain ⟨e893, e894⟩ := Prod.mk.inj e892
        obtain ⟨e895, e896⟩ := Prod.mk.inj e894
        obtain ⟨e897, e898⟩ := Prod.mk.inj e896
        obtain ⟨e899, e900⟩ := Prod.mk.inj e898
        subst e889 e891 e893 e895 e897 e899 e900
        exact NK.sub (L' := [(0, .pointer (some ⟨sb, 0, none⟩)), (2, .pointer (some pa2)), (3, .pointer (some pa48)), (4, .int .i64 x60)]) ⟨rfl, rfl, rfl, rfl, trivial⟩ (hJ859 w886 o887 v62 v65 v68 (vs885 8) v74 v77 hE h63 h66 h69 h881 h75 h78 hb6 hb884 hs869)
    · have q856 := iteF hc860 q856
      refine CW.skip ?_
      have e901 := Option.some.inj q856
      obtain ⟨e902, e903⟩ := Prod.mk.inj e901
      obtain ⟨e904, e905⟩ := Prod.mk.inj e903
      obtain ⟨e906, e907⟩ := Prod.mk.inj e905
      obtain ⟨e908, e909⟩ := Prod.mk.inj e907
      obtain ⟨e910, e911⟩ := Prod.mk.inj e909
      obtain ⟨e912, e913⟩ := Prod.mk.inj e911
      subst e902 e904 e906 e908 e910 e912 e913
      exact NK.sub (L' := [(0, .pointer (some ⟨sb, 0, none⟩)), (2, .pointer (some pa2)), (3, .pointer (some pa48)), (4, .int .i64 x60)]) ⟨rfl, rfl, rfl, rfl, trivial⟩ (hJ859 w832 o833 v62 v65 v68 v71 v74 v77 hE h63 h66 h69 h72 h75 h78 hb6 hb52 hs)
  · have hx821 := iteF hc826 hx821
    refine CW.exit ?_
    exact NK.sub (L' := [(0, .pointer (some ⟨sb, 0, none⟩)), (2, .pointer (some pa2)), (3, .pointer (some pa48))]) ⟨rfl, rfl, rfl, trivial⟩ (hJ103 x61 x64 x67 x70 x73 x76 st79 w817 o818 v62 v65 v68 v71 v74 v77 (hr822 _ (Option.some.inj hx821).symm) hE h63 h66 h69 h72 h75 h78 hb6 hb52 hs)

end Go.Proofs.Ytnpghnnlcakbfaa
