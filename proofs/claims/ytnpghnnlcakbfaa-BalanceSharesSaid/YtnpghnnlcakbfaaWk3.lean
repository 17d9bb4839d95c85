/- Walks. Written by a program (wip/gen). -/
import Derived.Test.YtnpghnnlcakbfaaWk2
namespace Go.Proofs.Ytnpghnnlcakbfaa
open Go Go.RowKit Dp

set_option maxRecDepth 100000

set_option maxHeartbeats 1000000 in
theorem dynposlaw17_sane_ok {r : Bool} (hF : dynposlaw17_sane  = some r) {w0 : World}  :
    Calls Try.prog 11 #[] w0 (Ret fun v w' => Below w0.heap.size w0 w' ∧ v = .bool r) := by
  have hE := Ent.refl w0 none
  rw [dynposlaw17_sane] at hF
  refine enter (l := []) Try.func11 rfl Try.ntmps11 rfl ?_
  refine CW.sub (L' := []) trivial ?_
  refine CW.seq fun K1 hK1 => ?_
  refine CW.region ?_
  refine WL.stepE (OW.pv (v := .bool false) rfl) rfl ?_
  refine WL.nil ?_
  refine NK.sub (L' := []) trivial ?_
  refine hK1 _ _ ?_
  refine CW.seq fun K2 hK2 => ?_
  refine CW.region ?_
  refine WL.step (OW.buildSlice (o := (ent w0 none)) (k := 2) (K := []) (xs := ([2, 2, 2] : List Int)) Try.underlying22 ty3 rfl ⟨(rv_int.2 rfl), (rv_int.2 rfl), (rv_int.2 rfl), trivial⟩ rfl rfl) rfl ?_
  rintro v3 w4 ⟨o5, ev6, h7⟩
  have hE := hE.evo ev6 rfl rfl
  obtain ⟨⟨y8, y9⟩, q10, hF⟩ := bindE hF
  dsimp only at hF
  refine WL.step (OW.call Try.call14 rfl (balance_Split_ok q10 h7.rv)) rfl ?_
  rintro _ w11 ⟨hb15, v16, rfl, h17⟩
  obtain ⟨o12, ev13, hn14⟩ := fresh_new (o := o5) 3 hb15
  have hE := hE.evo ev13 rfl rfl
  have h7 := h7.evo ev13 rfl
  have h17 := h17.new hn14
  refine WL.stepE (OW.pv (v := .tuple #[v16, .int .i64 y9]) rfl) rfl ?_
  refine WL.stepE (OW.pv (v := v16) rfl) rfl ?_
  refine WL.stepE (OW.pv (v := .int .i64 y9) rfl) rfl ?_
  refine WL.stepE (OW.pv (v := v16) rfl) rfl ?_
  refine WL.stepE (OW.pv (v := .int .i64 y9) rfl) rfl ?_
  refine WL.nil ?_
  refine NK.sub (L' := [(1, v16), (2, .int .i64 y9)]) ⟨rfl, rfl, trivial⟩ ?_
  refine hK2 _ _ ?_
  refine CW.seq fun K18 hK18 => ?_
  refine CW.region ?_
  refine WL.stepE (OW.pv (v := .int .i64 y9) rfl) rfl ?_
  refine WL.stepE (OW.pv (v := .bool (((y9 == 0)))) rfl) rfl ?_
  refine WL.stepE (OW.pv (v := .bool (((y9 == 0)))) rfl) rfl ?_
  obtain ⟨x19, q20, hF⟩ := bindE hF
  have hJ23 : ∀ (w21 : World) (o22 : Cls), Ent w0 none o22 w21 → NK 20 K18 [(0, .bool x19)] w21 := by
    intro w21 o22  hE
    refine NK.sub (L' := [(0, .bool x19)]) ⟨rfl, trivial⟩ ?_
    refine hK18 _ _ ?_
    obtain rfl := Option.some.inj hF
    exact CW.rets (vs := [.bool x19]) Try.results11 ⟨rfl, trivial⟩ ⟨_, rfl, hE.fresh, rfl⟩ (fun _ _ h => h)
  rcases Bool.eq_false_or_eq_true (((y9 == 0))) with hc24 | hc24
  · have q20 := iteT hc24 q20
    refine WL.stepGE rfl rfl rfl hc24 (OW.pv (v := v16) rfl) rfl ?_
    refine WL.stepG rfl rfl rfl hc24 (OW.buildSlice (o := o12) (k := 4) (K := []) (xs := ([4, 3, 3] : List Int)) Try.underlying22 ty3 rfl ⟨(rv_int.2 rfl), (rv_int.2 rfl), (rv_int.2 rfl), trivial⟩ rfl rfl) rfl ?_
    rintro v25 w26 ⟨o27, ev28, h29⟩
    have hE := hE.evo ev28 rfl rfl
    have h17 := h17.evo ev28 rfl
    obtain ⟨y30, q31, q20⟩ := bindE q20
    refine WL.stepG rfl rfl rfl hc24 (OW.call Try.call15 rfl (dynposref01_Ints_ok q31 h17 h29.rv)) rfl ?_
    rintro _ w32 ⟨hb36, rfl⟩
    obtain ⟨o33, ev34, hn35⟩ := fresh_new (o := o27) 5 hb36
    have hE := hE.evo ev34 rfl rfl
    have h17 := h17.evo ev34 rfl
    have h29 := h29.evo ev34 rfl
    refine WL.stepE (OW.pickT rfl hc24 rfl) rfl ?_
    refine WL.stepE (OW.pv (v := .bool y30) rfl) rfl ?_
    obtain ⟨x37, q38, q20⟩ := bindE q20
    have hJ41 : ∀ (w39 : World) (o40 : Cls), Ent w0 none o40 w39 → NK 20 K18 [(0, .bool x37)] w39 := by
      intro w39 o40  hE
      have e42 := Option.some.inj q20
      subst e42
      exact NK.sub (L' := [(0, .bool x37)]) ⟨rfl, trivial⟩ (hJ23 w39 o40 hE)
    rcases Bool.eq_false_or_eq_true y30 with hc43 | hc43
    · have q38 := iteT hc43 q38
      refine WL.stepG rfl rfl rfl hc43 (OW.buildSlice (o := o33) (k := 6) (K := []) (xs := ([2, 2, 2] : List Int)) Try.underlying22 ty3 rfl ⟨(rv_int.2 rfl), (rv_int.2 rfl), (rv_int.2 rfl), trivial⟩ rfl rfl) rfl ?_
      rintro v44 w45 ⟨o46, ev47, h48⟩
      have hE := hE.evo ev47 rfl rfl
      have h17 := h17.evo ev47 rfl
      refine WL.stepGE rfl rfl rfl hc43 (OW.pv (v := v16) rfl) rfl ?_
      obtain ⟨y49, q50, q38⟩ := bindE q38
      refine WL.stepG rfl rfl rfl hc43 (OW.call Try.call16 rfl (balance_Check_ok q50 h48.rv h17)) rfl ?_
      rintro _ w51 ⟨hb55, rfl⟩
      obtain ⟨o52, ev53, hn54⟩ := fresh_new (o := o46) 7 hb55
      have hE := hE.evo ev53 rfl rfl
      have h17 := h17.evo ev53 rfl
      have h48 := h48.evo ev53 rfl
      refine WL.stepE (OW.pickT rfl hc43 rfl) rfl ?_
      refine WL.stepE (OW.pv (v := .bool y49) rfl) rfl ?_
      refine WL.nil ?_
      have e56 := Option.some.inj q38
      subst e56
      exact NK.sub (L' := [(0, .bool y49)]) ⟨rfl, trivial⟩ (hJ41 w51 o52 hE)
    · have q38 := iteF hc43 q38
      refine WL.skipG rfl rfl rfl (by rw [hc43]; rfl) rfl ?_
      refine WL.skipG rfl rfl rfl (by rw [hc43]; rfl) rfl ?_
      refine WL.skipG rfl rfl rfl (by rw [hc43]; rfl) rfl ?_
      refine WL.stepE (OW.pickF rfl hc43 rfl) rfl ?_
      refine WL.stepE (OW.pv (v := .bool false) rfl) rfl ?_
      refine WL.nil ?_
      have e57 := Option.some.inj q38
      subst e57
      exact NK.sub (L' := [(0, .bool false)]) ⟨rfl, trivial⟩ (hJ41 w32 o33 hE)
  · have q20 := iteF hc24 q20
    refine WL.skipG rfl rfl rfl (by rw [hc24]; rfl) rfl ?_
    refine WL.skipG rfl rfl rfl (by rw [hc24]; rfl) rfl ?_
    refine WL.skipG rfl rfl rfl (by rw [hc24]; rfl) rfl ?_
    refine WL.stepE (OW.pickF rfl hc24 rfl) rfl ?_
    refine WL.stepE (OW.pv (v := .bool false) rfl) rfl ?_
    refine WL.skipG rfl rfl rfl rfl rfl ?_
    refine WL.skipG rfl rfl rfl rfl rfl ?_
    refine WL.skipG rfl rfl rfl rfl rfl ?_
    refine WL.stepE (OW.pickF rfl rfl rfl) rfl ?_
    refine WL.stepE (OW.pv (v := .bool false) rfl) rfl ?_
    refine WL.nil ?_
    have e58 := Option.some.inj q20
    subst e58
    exact NK.sub (L' := [(0, .bool false)]) ⟨rfl, trivial⟩ (hJ23 w11 o12 hE)

set_option maxHeartbeats 1000000 in
theorem Src_Range_ok {st0 : List Int} {a1 : Int} {a2 : Int} {r : (Int × List Int)} (hF : Src_Range st0 a1 a2 = some r) {w0 : World} {sb : Nat} {sv : Value} {sL : List Int} {Ss : Nat → Prop} (hs : SrcB w0 sb sv sL st0) (hL : Rv Ss w0 sv sL) (hLn : ∀ b, Ss b → b ≠ sb) :
    Calls Try.prog 12 #[.pointer (some ⟨sb, 0, none⟩), .int .i64 a1, .int .i64 a2] w0 (Ret fun v w' => w0.grownBy w' (some sb) ∧ SrcB w' sb sv sL r.2 ∧ v = .int .i64 r.1) := by
  have hE := Ent.refl w0 (some sb)
  have hs : SrcC (ent w0 (some sb)) 1 w0 sb sv sL st0 := ⟨hs, ent_src hs⟩
  have hL := hL.arg (sb := some sb) (fun b hb e => hLn b hb (Option.some.inj e))
  rw [Src_Range] at hF
  refine enter (l := [.pointer (some ⟨sb, 0, none⟩), .int .i64 a1, .int .i64 a2]) Try.func12 rfl Try.ntmps12 rfl ?_
  refine CW.sub (L' := [(0, .pointer (some ⟨sb, 0, none⟩)), (1, .int .i64 a1), (2, .int .i64 a2)]) ⟨rfl, rfl, rfl, trivial⟩ ?_
  refine CW.seq fun K1 hK1 => ?_
  refine CW.region ?_
  refine WL.stepE (OW.pv (v := .int .i64 0) rfl) rfl ?_
  refine WL.nil ?_
  refine NK.sub (L' := [(0, .pointer (some ⟨sb, 0, none⟩)), (1, .int .i64 a1), (2, .int .i64 a2)]) ⟨rfl, rfl, rfl, trivial⟩ ?_
  refine hK1 _ _ ?_
  refine CW.seq fun K2 hK2 => ?_
  refine CW.region ?_
  refine WL.stepE (OW.pv (v := .int .i64 a1) rfl) rfl ?_
  refine WL.stepE (OW.pv (v := .pointer (some ⟨sb, 0, none⟩)) rfl) rfl ?_
  refine WL.stepE (OW.pv (v := .int .i64 a2) rfl) rfl ?_
  refine WL.stepE (OW.pv (v := .int .i64 a1) rfl) rfl ?_
  refine WL.stepE (OW.pv (v := .int .i64 ((W (a2 - a1)))) rfl) rfl ?_
  refine WL.stepE (OW.pv (v := .int .i64 ((W (((W (a2 - a1))) + 1)))) rfl) rfl ?_
  obtain ⟨⟨y3, st4⟩, q5, hF⟩ := bindE hF
  dsimp only at hF
  refine WL.step (OW.call Try.call13 rfl (Src_N_ok q5 hs.1 (hL.base hE) (src_not hs.2 rfl))) rfl ?_
  rintro _ w6 ⟨hb10, hs_, rfl⟩
  obtain ⟨o7, ev8, hn9⟩ := but_new (o := (ent w0 (some sb))) 2 hb10 hs.2
  have hs := hs.new ev8 hs_
  have hE := hE.evo ev8 rfl rfl
  refine WL.stepE (OW.pv (v := .int .i64 ((W (a1 + y3)))) rfl) rfl ?_
  refine WL.stepE (OW.pv (v := .int .i64 ((W (a1 + y3)))) rfl) rfl ?_
  refine WL.nil ?_
  refine NK.sub (L' := [(6, .int .i64 ((W (a1 + y3))))]) ⟨rfl, trivial⟩ ?_
  refine hK2 _ _ ?_
  obtain rfl := Option.some.inj hF
  exact CW.rets (vs := [.int .i64 ((W (a1 + y3)))]) Try.results12 ⟨rfl, trivial⟩ ⟨_, rfl, hE.but, hs.1, rfl⟩ (fun _ _ h => h)

set_option maxHeartbeats 1000000 in
theorem dynposlaw17_BalanceScales_ok {a0 : (List Int)} {r : Bool} (hF : dynposlaw17_BalanceScales a0 = some r) {w0 : World} {p0 : Value} {S0 : Nat → Prop} (g0 : Rv S0 w0 p0 a0) :
    Calls Try.prog 3 #[p0] w0 (Ret fun v w' => Below w0.heap.size w0 w' ∧ v = .bool r) := by
  have hE := Ent.refl w0 none
  have g0 := g0.arg0
  rw [dynposlaw17_BalanceScales] at hF
  refine enter (l := [p0]) Try.func3 rfl Try.ntmps3 rfl ?_
  refine CW.sub (L' := [(0, p0)]) ⟨rfl, trivial⟩ ?_
  refine CW.seq fun K1 hK1 => ?_
  refine CW.region ?_
  refine WL.stepE (OW.pv (v := .bool false) rfl) rfl ?_
  refine WL.nil ?_
  refine NK.sub (L' := [(0, p0)]) ⟨rfl, trivial⟩ ?_
  refine hK1 _ _ ?_
  refine CW.seq fun K2 hK2 => ?_
  refine CW.region ?_
  refine WL.stepE (OW.pv (v := p0) rfl) rfl ?_
  obtain ⟨y3, q4, hF⟩ := bindE hF
  refine WL.step (OW.call Try.call9 rfl (dynposmake_New_ok q4 (g0.base hE))) rfl ?_
  rintro _ w5 ⟨hb9, sb, sv, rfl, hge_, hs_, h10⟩
  obtain ⟨o6, ev7, hn8⟩ := fresh_new (o := (ent w0 none)) 2 hb9
  have hE := hE.evo ev7 rfl rfl
  have hs : SrcC o6 2 w5 sb sv y3 y3 := ⟨hs_, hn8 sb hge_⟩
  have h10 : Rv (In o6 [0]) w5 sv y3 := h10.old ev7
  refine WL.stepE (OW.pv (v := .pointer (some ⟨sb, 0, none⟩)) rfl) rfl ?_
  refine WL.nil ?_
  refine NK.sub (L' := [(3, .pointer (some ⟨sb, 0, none⟩))]) ⟨rfl, trivial⟩ ?_
  refine hK2 _ _ ?_
  refine CW.seq fun K11 hK11 => ?_
  refine CW.region ?_
  refine WL.stepE (OW.pv (v := .pointer (some ⟨sb, 0, none⟩)) rfl) rfl ?_
  obtain ⟨⟨y12, st13⟩, q14, hF⟩ := bindE hF
  dsimp only at hF
  refine WL.step (OW.call Try.call10 rfl (dynposlaw17_ratings_ok q14 hs.1 h10 (src_not hs.2 rfl))) rfl ?_
  rintro v20 w15 ⟨hb19, hs_, h21⟩
  obtain ⟨o16, ev17, hn18⟩ := but_new (o := o6) 3 hb19 hs.2
  have hs := hs.new ev17 hs_
  have hE := hE.evo ev17 rfl rfl
  have h10 := h10.evo ev17 rfl
  have h21 := h21.new hn18
  refine WL.stepE (OW.pv (v := v20) rfl) rfl ?_
  refine WL.nil ?_
  refine NK.sub (L' := [(3, .pointer (some ⟨sb, 0, none⟩)), (4, v20)]) ⟨rfl, rfl, trivial⟩ ?_
  refine hK11 _ _ ?_
  refine CW.seq fun K22 hK22 => ?_
  refine CW.seq fun K23 hK23 => ?_
  refine CW.region ?_
  refine WL.stepE (OW.pv (v := v20) rfl) rfl ?_
  refine WL.stepE (OW.len Try.underlying22 rfl h21) rfl ?_
  refine WL.stepE (OW.pv (v := .bool ((((len y12) == 0)))) rfl) rfl ?_
  refine WL.nil ?_
  refine NK.sub (L' := [(3, .pointer (some ⟨sb, 0, none⟩)), (4, v20), (23, .bool ((((len y12) == 0))))]) ⟨rfl, rfl, rfl, trivial⟩ ?_
  refine hK23 _ _ ?_
  refine CW.cond (b := (((len y12) == 0))) rfl (fun hc24 => ?_) (fun hc24 => ?_)
  · have hF := iteT hc24 hF
    refine CW.seq fun K25 hK25 => ?_
    refine CW.region ?_
    obtain ⟨y26, q27, hF⟩ := bindE hF
    refine WL.step (OW.call Try.call11 rfl (dynposlaw17_sane_ok q27)) rfl ?_
    rintro _ w28 ⟨hb32, rfl⟩
    obtain ⟨o29, ev30, hn31⟩ := fresh_new (o := o16) 4 hb32
    have hE := hE.evo ev30 rfl rfl
    have h10 := h10.evo ev30 rfl
    have hs := hs.evo ev30 rfl
    refine WL.stepE (OW.pv (v := .bool y26) rfl) rfl ?_
    refine WL.nil ?_
    refine NK.sub (L' := [(2, .bool y26)]) ⟨rfl, trivial⟩ ?_
    refine hK25 _ _ ?_
    obtain rfl := Option.some.inj hF
    exact CW.rets (vs := [.bool y26]) Try.results3 ⟨rfl, trivial⟩ ⟨_, rfl, hE.fresh, rfl⟩ (fun _ _ h => h)
  · have hF := iteF hc24 hF
    refine CW.skip ?_
    refine NK.sub (L' := [(3, .pointer (some ⟨sb, 0, none⟩)), (4, v20)]) ⟨rfl, rfl, trivial⟩ ?_
    refine hK22 _ _ ?_
    refine CW.seq fun K33 hK33 => ?_
    refine CW.region ?_
    refine WL.stepE (OW.pv (v := .pointer (some ⟨sb, 0, none⟩)) rfl) rfl ?_
    obtain ⟨⟨y34, st35⟩, q36, hF⟩ := bindE hF
    dsimp only at hF
    refine WL.step (OW.call Try.call12 rfl (Src_Range_ok q36 hs.1 h10 (src_not hs.2 rfl))) rfl ?_
    rintro _ w37 ⟨hb41, hs_, rfl⟩
    obtain ⟨o38, ev39, hn40⟩ := but_new (o := o16) 5 hb41 hs.2
    have hs := hs.new ev39 hs_
    have hE := hE.evo ev39 rfl rfl
    have h10 := h10.evo ev39 rfl
    have h21 := h21.evo ev39 rfl
    refine WL.stepE (OW.pv (v := .int .i64 0) rfl) rfl ?_
    refine WL.stepE (OW.pv (v := .int .i64 y34) rfl) rfl ?_
    refine WL.nil ?_
    refine NK.sub (L' := [(3, .pointer (some ⟨sb, 0, none⟩)), (4, v20), (5, .int .i64 0), (6, .int .i64 y34)]) ⟨rfl, rfl, rfl, rfl, trivial⟩ ?_
    refine hK33 _ _ ?_
    refine CW.seq fun K42 hK42 => ?_
    refine CW.region ?_
    have h43 := Ow.nil (α := Int) 3 o38 6 [] w37
    refine WL.stepE (OW.pv (v := (.slice none 0 0)) rfl) rfl ?_
    refine WL.nil ?_
    refine NK.sub (L' := [(3, .pointer (some ⟨sb, 0, none⟩)), (4, v20), (5, .int .i64 0), (6, .int .i64 y34), (7, (.slice none 0 0))]) ⟨rfl, rfl, rfl, rfl, rfl, trivial⟩ ?_
    refine hK42 _ _ ?_
    refine CW.seq fun K44 hK44 => ?_
    refine CW.seq fun K45 hK45 => ?_
    refine CW.region ?_
    refine WL.stepE (OW.pv (v := v20) rfl) rfl ?_
    refine WL.stepE (OW.len Try.underlying22 rfl h21) rfl ?_
    refine WL.stepE (OW.pv (v := .int .i64 0) rfl) rfl ?_
    refine WL.nil ?_
    refine NK.sub (L' := [(3, .pointer (some ⟨sb, 0, none⟩)), (4, v20), (5, .int .i64 0), (6, .int .i64 y34), (7, (.slice none 0 0)), (27, v20), (28, .int .i64 (len y12)), (29, .int .i64 0)]) ⟨rfl, rfl, rfl, rfl, rfl, rfl, rfl, rfl, trivial⟩ ?_
    refine hK45 _ _ ?_
    refine CW.block ?_
    obtain ⟨r65, hl64, hF⟩ := bindE hF
    have hJ68 : ∀ (x57 : (List Int)) (x60 : Int) (x61 : (List Int)) (w66 : World) (o67 : Cls) (v58 v62 : Value), (x57, x60, x61) = r65 → Ent w0 none o67 w66 → Rv (In o67 [0]) w66 sv y3 → Rv (In o67 [3]) w66 v58 x57 → Ow 3 o67 6 [] w66 v62 x61 → SrcC o67 2 w66 sb sv y3 st35 → NK 90 K44 [(3, .pointer (some ⟨sb, 0, none⟩)), (4, v58), (5, .int .i64 x60), (6, .int .i64 y34), (7, v62)] w66 := by
      intro x57 x60 x61 w66 o67 v58 v62 e_ hE h10 h59 h63 hs
      subst e_
      try dsimp only at hF
      refine NK.sub (L' := [(3, .pointer (some ⟨sb, 0, none⟩)), (4, v58), (5, .int .i64 x60), (6, .int .i64 y34), (7, v62)]) ⟨rfl, rfl, rfl, rfl, rfl, trivial⟩ ?_
      refine hK44 _ _ ?_
      refine CW.seq fun K69 hK69 => ?_
      refine CW.region ?_
      refine WL.stepE (OW.pv (v := .pointer (some ⟨sb, 0, none⟩)) rfl) rfl ?_
      refine WL.stepE (OW.pv (v := .int .i64 x60) rfl) rfl ?_
      refine WL.stepE (OW.pv (v := .int .i64 ((W ((3 : Int) * x60)))) rfl) rfl ?_
      obtain ⟨⟨y70, st71⟩, q72, hF⟩ := bindE hF
      dsimp only at hF
      refine WL.step (OW.call Try.call13 rfl (Src_N_ok q72 hs.1 h10 (src_not hs.2 rfl))) rfl ?_
      rintro _ w73 ⟨hb77, hs_, rfl⟩
      obtain ⟨o74, ev75, hn76⟩ := but_new (o := o67) 8 hb77 hs.2
      have hs := hs.new ev75 hs_
      have hE := hE.evo ev75 rfl rfl
      have h10 := h10.evo ev75 rfl
      have h59 := h59.evo ev75 rfl
      have h63 := h63.evo ev75 rfl
      refine WL.stepE (OW.pv (v := .int .i64 y70) rfl) rfl ?_
      refine WL.nil ?_
      refine NK.sub (L' := [(4, v58), (5, .int .i64 x60), (6, .int .i64 y34), (7, v62), (10, .int .i64 y70)]) ⟨rfl, rfl, rfl, rfl, rfl, trivial⟩ ?_
      refine hK69 _ _ ?_
      refine CW.seq fun K78 hK78 => ?_
      refine CW.region ?_
      refine WL.stepE (OW.pv (v := .int .i64 y70) rfl) rfl ?_
      refine WL.stepE (OW.pv (v := v58) rfl) rfl ?_
      obtain ⟨⟨y79, y80⟩, q81, hF⟩ := bindE hF
      dsimp only at hF
      refine WL.step (OW.call Try.call14 rfl (balance_Split_ok q81 h59)) rfl ?_
      rintro _ w82 ⟨hb86, v87, rfl, h88⟩
      obtain ⟨o83, ev84, hn85⟩ := fresh_new (o := o74) 9 hb86
      have hE := hE.evo ev84 rfl rfl
      have h10 := h10.evo ev84 rfl
      have h59 := h59.evo ev84 rfl
      have h63 := h63.evo ev84 rfl
      have hs := hs.evo ev84 rfl
      have h88 := h88.new hn85
      refine WL.stepE (OW.pv (v := .tuple #[v87, .int .i64 y80]) rfl) rfl ?_
      refine WL.stepE (OW.pv (v := v87) rfl) rfl ?_
      refine WL.stepE (OW.pv (v := .int .i64 y80) rfl) rfl ?_
      refine WL.stepE (OW.pv (v := v87) rfl) rfl ?_
      refine WL.stepE (OW.pv (v := .int .i64 y80) rfl) rfl ?_
      refine WL.nil ?_
      refine NK.sub (L' := [(4, v58), (5, .int .i64 x60), (6, .int .i64 y34), (7, v62), (10, .int .i64 y70), (11, v87), (12, .int .i64 y80)]) ⟨rfl, rfl, rfl, rfl, rfl, rfl, rfl, trivial⟩ ?_
      refine hK78 _ _ ?_
      refine CW.seq fun K89 hK89 => ?_
      refine CW.region ?_
      refine WL.stepE (OW.pv (v := .int .i64 y70) rfl) rfl ?_
      refine WL.stepE (OW.pv (v := v62) rfl) rfl ?_
      obtain ⟨⟨y90, y91⟩, q92, hF⟩ := bindE hF
      dsimp only at hF
      refine WL.step (OW.call Try.call14 rfl (balance_Split_ok q92 h63.rv)) rfl ?_
      rintro _ w93 ⟨hb97, v98, rfl, h99⟩
      obtain ⟨o94, ev95, hn96⟩ := fresh_new (o := o83) 10 hb97
      have hE := hE.evo ev95 rfl rfl
      have h10 := h10.evo ev95 rfl
      have h59 := h59.evo ev95 rfl
      have h63 := h63.evo ev95 rfl
      have h88 := h88.evo ev95 rfl
      have hs := hs.evo ev95 rfl
      have h99 := h99.new hn96
      refine WL.stepE (OW.pv (v := .tuple #[v98, .int .i64 y91]) rfl) rfl ?_
      refine WL.stepE (OW.pv (v := v98) rfl) rfl ?_
      refine WL.stepE (OW.pv (v := .int .i64 y91) rfl) rfl ?_
      refine WL.stepE (OW.pv (v := v98) rfl) rfl ?_
      refine WL.stepE (OW.pv (v := .int .i64 y91) rfl) rfl ?_
      refine WL.nil ?_
      refine NK.sub (L' := [(4, v58), (5, .int .i64 x60), (6, .int .i64 y34), (7, v62), (11, v87), (12, .int .i64 y80), (13, v98), (14, .int .i64 y91)]) ⟨rfl, rfl, rfl, rfl, rfl, rfl, rfl, rfl, trivial⟩ ?_
      refine hK89 _ _ ?_
      refine CW.seq fun K100 hK100 => ?_
      refine CW.region ?_
      refine WL.stepE (OW.pv (v := .int .i64 y34) rfl) rfl ?_
      refine WL.stepE (OW.pv (v := .int .i64 x60) rfl) rfl ?_
      refine WL.stepE (OW.pv (v := .int .i64 ((W (y34 * x60)))) rfl) rfl ?_
      refine WL.stepE (OW.pv (v := v58) rfl) rfl ?_
      obtain ⟨⟨y101, y102⟩, q103, hF⟩ := bindE hF
      dsimp only at hF
      refine WL.step (OW.call Try.call14 rfl (balance_Split_ok q103 h59)) rfl ?_
      rintro _ w104 ⟨hb108, v109, rfl, h110⟩
      obtain ⟨o105, ev106, hn107⟩ := fresh_new (o := o94) 11 hb108
      have hE := hE.evo ev106 rfl rfl
      have h10 := h10.evo ev106 rfl
      have h59 := h59.evo ev106 rfl
      have h63 := h63.evo ev106 rfl
      have h88 := h88.evo ev106 rfl
      have h99 := h99.evo ev106 rfl
      have hs := hs.evo ev106 rfl
      have h110 := h110.new hn107
      refine WL.stepE (OW.pv (v := .tuple #[v109, .int .i64 y102]) rfl) rfl ?_
      refine WL.stepE (OW.pv (v := v109) rfl) rfl ?_
      refine WL.stepE (OW.pv (v := .int .i64 y102) rfl) rfl ?_
      refine WL.stepE (OW.pv (v := v109) rfl) rfl ?_
      refine WL.stepE (OW.pv (v := .int .i64 y102) rfl) rfl ?_
      refine WL.nil ?_
      refine NK.sub (L' := [(7, v62), (11, v87), (12, .int .i64 y80), (13, v98), (14, .int .i64 y91), (15, v109), (16, .int .i64 y102)]) ⟨rfl, rfl, rfl, rfl, rfl, rfl, rfl, trivial⟩ ?_
      refine hK100 _ _ ?_
      refine CW.seq fun K111 hK111 => ?_
      refine CW.region ?_
      refine WL.stepE (OW.pv (v := .int .i64 y80) rfl) rfl ?_
      refine WL.stepE (OW.pv (v := .bool (((y80 == 0)))) rfl) rfl ?_
      refine WL.stepE (OW.pv (v := .bool (((y80 == 0)))) rfl) rfl ?_
      obtain ⟨x112, q113, hF⟩ := bindE hF
      have hJ116 : ∀ (w114 : World) (o115 : Cls), Ent w0 none o115 w114 → Rv (In o115 [0]) w114 sv y3 → SrcC o115 2 w114 sb sv y3 st71 → NK 90 K111 [(2, .bool x112)] w114 := by
        intro w114 o115  hE h10 hs
        refine NK.sub (L' := [(2, .bool x112)]) ⟨rfl, trivial⟩ ?_
        refine hK111 _ _ ?_
        obtain rfl := Option.some.inj hF
        exact CW.rets (vs := [.bool x112]) Try.results3 ⟨rfl, trivial⟩ ⟨_, rfl, hE.fresh, rfl⟩ (fun _ _ h => h)
      rcases Bool.eq_false_or_eq_true (((y80 == 0))) with hc117 | hc117
      · have q113 := iteT hc117 q113
        refine WL.stepGE rfl rfl rfl hc117 (OW.pv (v := .int .i64 y91) rfl) rfl ?_
        refine WL.stepGE rfl rfl rfl hc117 (OW.pv (v := .bool (((y91 == 0)))) rfl) rfl ?_
        refine WL.stepE (OW.pickT rfl hc117 rfl) rfl ?_
        refine WL.stepE (OW.pv (v := .bool (((y91 == 0)))) rfl) rfl ?_
        obtain ⟨x118, q119, q113⟩ := bindE q113
        have hJ122 : ∀ (w120 : World) (o121 : Cls), Ent w0 none o121 w120 → Rv (In o121 [0]) w120 sv y3 → SrcC o121 2 w120 sb sv y3 st71 → NK 90 K111 [(2, .bool x118)] w120 := by
          intro w120 o121  hE h10 hs
          have e123 := Option.some.inj q113
          subst e123
          exact NK.sub (L' := [(2, .bool x118)]) ⟨rfl, trivial⟩ (hJ116 w120 o121 hE h10 hs)
        rcases Bool.eq_false_or_eq_true (((y91 == 0))) with hc124 | hc124
        · have q119 := iteT hc124 q119
          refine WL.stepGE rfl rfl rfl hc124 (OW.pv (v := .int .i64 y102) rfl) rfl ?_
          refine WL.stepGE rfl rfl rfl hc124 (OW.pv (v := .bool (((y102 == 0)))) rfl) rfl ?_
          refine WL.stepE (OW.pickT rfl hc124 rfl) rfl ?_
          refine WL.stepE (OW.pv (v := .bool (((y102 == 0)))) rfl) rfl ?_
          obtain ⟨x125, q126, q119⟩ := bindE q119
          have hJ129 : ∀ (w127 : World) (o128 : Cls), Ent w0 none o128 w127 → Rv (In o128 [0]) w127 sv y3 → SrcC o128 2 w127 sb sv y3 st71 → NK 90 K111 [(2, .bool x125)] w127 := by
            intro w127 o128  hE h10 hs
            have e130 := Option.some.inj q119
            subst e130
            exact NK.sub (L' := [(2, .bool x125)]) ⟨rfl, trivial⟩ (hJ122 w127 o128 hE h10 hs)
          rcases Bool.eq_false_or_eq_true (((y102 == 0))) with hc131 | hc131
          · have q126 := iteT hc131 q126
            refine WL.stepGE rfl rfl rfl hc131 (OW.pv (v := v87) rfl) rfl ?_
            refine WL.stepGE rfl rfl rfl hc131 (OW.pv (v := v98) rfl) rfl ?_
            obtain ⟨y132, q133, q126⟩ := bindE q126
            refine WL.stepG rfl rfl rfl hc131 (OW.call Try.call15 rfl (dynposref01_Ints_ok q133 h88 h99)) rfl ?_
            rintro _ w134 ⟨hb138, rfl⟩
            obtain ⟨o135, ev136, hn137⟩ := fresh_new (o := o105) 12 hb138
            have hE := hE.evo ev136 rfl rfl
            have h10 := h10.evo ev136 rfl
            have h110 := h110.evo ev136 rfl
            have h63 := h63.evo ev136 rfl
            have h88 := h88.evo ev136 rfl
            have h99 := h99.evo ev136 rfl
            have hs := hs.evo ev136 rfl
            refine WL.stepE (OW.pickT rfl hc131 rfl) rfl ?_
            refine WL.stepE (OW.pv (v := .bool y132) rfl) rfl ?_
            obtain ⟨x139, q140, q126⟩ := bindE q126
            have hJ143 : ∀ (w141 : World) (o142 : Cls), Ent w0 none o142 w141 → Rv (In o142 [0]) w141 sv y3 → SrcC o142 2 w141 sb sv y3 st71 → NK 90 K111 [(2, .bool x139)] w141 := by
              intro w141 o142  hE h10 hs
              have e144 := Option.some.inj q126
              subst e144
              exact NK.sub (L' := [(2, .bool x139)]) ⟨rfl, trivial⟩ (hJ129 w141 o142 hE h10 hs)
            rcases Bool.eq_false_or_eq_true y132 with hc145 | hc145
            · have q140 := iteT hc145 q140
              refine WL.stepGE rfl rfl rfl hc145 (OW.pv (v := v109) rfl) rfl ?_
              refine WL.stepGE rfl rfl rfl hc145 (OW.pv (v := v62) rfl) rfl ?_
              obtain ⟨y146, q147, q140⟩ := bindE q140
              refine WL.stepG rfl rfl rfl hc145 (OW.call Try.call15 rfl (dynposref01_Ints_ok q147 h110 h63.rv)) rfl ?_
              rintro _ w148 ⟨hb152, rfl⟩
              obtain ⟨o149, ev150, hn151⟩ := fresh_new (o := o135) 13 hb152
              have hE := hE.evo ev150 rfl rfl
              have h10 := h10.evo ev150 rfl
              have h110 := h110.evo ev150 rfl
              have h63 := h63.evo ev150 rfl
              have hs := hs.evo ev150 rfl
              refine WL.stepE (OW.pickT rfl hc145 rfl) rfl ?_
              refine WL.stepE (OW.pv (v := .bool y146) rfl) rfl ?_
              obtain ⟨x153, q154, q140⟩ := bindE q140
              have hJ157 : ∀ (w155 : World) (o156 : Cls), Ent w0 none o156 w155 → Rv (In o156 [0]) w155 sv y3 → SrcC o156 2 w155 sb sv y3 st71 → NK 90 K111 [(2, .bool x153)] w155 := by
                intro w155 o156  hE h10 hs
                have e158 := Option.some.inj q140
                subst e158
                exact NK.sub (L' := [(2, .bool x153)]) ⟨rfl, trivial⟩ (hJ143 w155 o156 hE h10 hs)
              rcases Bool.eq_false_or_eq_true y146 with hc159 | hc159
              · have q154 := iteT hc159 q154
                obtain ⟨y160, q161, q154⟩ := bindE q154
                refine WL.stepG rfl rfl rfl hc159 (OW.call Try.call11 rfl (dynposlaw17_sane_ok q161)) rfl ?_
                rintro _ w162 ⟨hb166, rfl⟩
                obtain ⟨o163, ev164, hn165⟩ := fresh_new (o := o149) 14 hb166
                have hE := hE.evo ev164 rfl rfl
                have h10 := h10.evo ev164 rfl
                have hs := hs.evo ev164 rfl
                refine WL.stepE (OW.pickT rfl hc159 rfl) rfl ?_
                refine WL.stepE (OW.pv (v := .bool y160) rfl) rfl ?_
                refine WL.nil ?_
                have e167 := Option.some.inj q154
                subst e167
                exact NK.sub (L' := [(2, .bool y160)]) ⟨rfl, trivial⟩ (hJ157 w162 o163 hE h10 hs)
              · have q154 := iteF hc159 q154
                refine WL.skipG rfl rfl rfl (by rw [hc159]; rfl) rfl ?_
                refine WL.stepE (OW.pickF rfl hc159 rfl) rfl ?_
                refine WL.stepE (OW.pv (v := .bool false) rfl) rfl ?_
                refine WL.nil ?_
                have e168 := Option.some.inj q154
                subst e168
                exact NK.sub (L' := [(2, .bool false)]) ⟨rfl, trivial⟩ (hJ157 w148 o149 hE h10 hs)
            · have q140 := iteF hc145 q140
              refine WL.skipG rfl rfl rfl (by rw [hc145]; rfl) rfl ?_
              refine WL.skipG rfl rfl rfl (by rw [hc145]; rfl) rfl ?_
              refine WL.skipG rfl rfl rfl (by rw [hc145]; rfl) rfl ?_
              refine WL.stepE (OW.pickF rfl hc145 rfl) rfl ?_
              refine WL.stepE (OW.pv (v := .bool false) rfl) rfl ?_
              refine WL.skipG rfl rfl rfl rfl rfl ?_
              refine WL.stepE (OW.pickF rfl rfl rfl) rfl ?_
              refine WL.stepE (OW.pv (v := .bool false) rfl) rfl ?_
              refine WL.nil ?_
              have e169 := Option.some.inj q140
              subst e169
              exact NK.sub (L' := [(2, .bool false)]) ⟨rfl, trivial⟩ (hJ143 w134 o135 hE h10 hs)
          · have q126 := iteF hc131 q126
            refine WL.skipG rfl rfl rfl (by rw [hc131]; rfl) rfl ?_
            refine WL.skipG rfl rfl rfl (by rw [hc131]; rfl) rfl ?_
            refine WL.skipG rfl rfl rfl (by rw [hc131]; rfl) rfl ?_
            refine WL.stepE (OW.pickF rfl hc131 rfl) rfl ?_
            refine WL.stepE (OW.pv (v := .bool false) rfl) rfl ?_
            refine WL.skipG rfl rfl rfl rfl rfl ?_
            refine WL.skipG rfl rfl rfl rfl rfl ?_
            refine WL.skipG rfl rfl rfl rfl rfl ?_
            refine WL.stepE (OW.pickF rfl rfl rfl) rfl ?_
            refine WL.stepE (OW.pv (v := .bool false) rfl) rfl ?_
            refine WL.skipG rfl rfl rfl rfl rfl ?_
            refine WL.stepE (OW.pickF rfl rfl rfl) rfl ?_
            refine WL.stepE (OW.pv (v := .bool false) rfl) rfl ?_
            refine WL.nil ?_
            have e170 := Option.some.inj q126
            subst e170
            exact NK.sub (L' := [(2, .bool false)]) ⟨rfl, trivial⟩ (hJ129 w104 o105 hE h10 hs)
        · have q119 := iteF hc124 q119
          refine WL.skipG rfl rfl rfl (by rw [hc124]; rfl) rfl ?_
          refine WL.skipG rfl rfl rfl (by rw [hc124]; rfl) rfl ?_
          refine WL.stepE (OW.pickF rfl hc124 rfl) rfl ?_
          refine WL.stepE (OW.pv (v := .bool false) rfl) rfl ?_
          refine WL.skipG rfl rfl rfl rfl rfl ?_
          refine WL.skipG rfl rfl rfl rfl rfl ?_
          refine WL.skipG rfl rfl rfl rfl rfl ?_
          refine WL.stepE (OW.pickF rfl rfl rfl) rfl ?_
          refine WL.stepE (OW.pv (v := .bool false) rfl) rfl ?_
          refine WL.skipG rfl rfl rfl rfl rfl ?_
          refine WL.skipG rfl rfl rfl rfl rfl ?_
          refine WL.skipG rfl rfl rfl rfl rfl ?_
          refine WL.stepE (OW.pickF rfl rfl rfl) rfl ?_
          refine WL.stepE (OW.pv (v := .bool false) rfl) rfl ?_
          refine WL.skipG rfl rfl rfl rfl rfl ?_
          refine WL.stepE (OW.pickF rfl rfl rfl) rfl ?_
          refine WL.stepE (OW.pv (v := .bool false) rfl) rfl ?_
          refine WL.nil ?_
          have e171 := Option.some.inj q119
          subst e171
          exact NK.sub (L' := [(2, .bool false)]) ⟨rfl, trivial⟩ (hJ122 w104 o105 hE h10 hs)
      · have q113 := iteF hc117 q113
        refine WL.skipG rfl rfl rfl (by rw [hc117]; rfl) rfl ?_
        refine WL.skipG rfl rfl rfl (by rw [hc117]; rfl) rfl ?_
        refine WL.stepE (OW.pickF rfl hc117 rfl) rfl ?_
        refine WL.stepE (OW.pv (v := .bool false) rfl) rfl ?_
        refine WL.skipG rfl rfl rfl rfl rfl ?_
        refine WL.skipG rfl rfl rfl rfl rfl ?_
        refine WL.stepE (OW.pickF rfl rfl rfl) rfl ?_
        refine WL.stepE (OW.pv (v := .bool false) rfl) rfl ?_
        refine WL.skipG rfl rfl rfl rfl rfl ?_
        refine WL.skipG rfl rfl rfl rfl rfl ?_
        refine WL.skipG rfl rfl rfl rfl rfl ?_
        refine WL.stepE (OW.pickF rfl rfl rfl) rfl ?_
        refine WL.stepE (OW.pv (v := .bool false) rfl) rfl ?_
        refine WL.skipG rfl rfl rfl rfl rfl ?_
        refine WL.skipG rfl rfl rfl rfl rfl ?_
        refine WL.skipG rfl rfl rfl rfl rfl ?_
        refine WL.stepE (OW.pickF rfl rfl rfl) rfl ?_
        refine WL.stepE (OW.pv (v := .bool false) rfl) rfl ?_
        refine WL.skipG rfl rfl rfl rfl rfl ?_
        refine WL.stepE (OW.pickF rfl rfl rfl) rfl ?_
        refine WL.stepE (OW.pv (v := .bool false) rfl) rfl ?_
        refine WL.nil ?_
        have e172 := Option.some.inj q113
        subst e172
        exact NK.sub (L' := [(2, .bool false)]) ⟨rfl, trivial⟩ (hJ116 w104 o105 hE h10 hs)
    refine CW.sub (L' := [(3, .pointer (some ⟨sb, 0, none⟩)), (4, v20), (5, .int .i64 0), (6, .int .i64 y34), (7, (.slice none 0 0)), (27, v20), (28, .int .i64 (len y12)), (29, .int .i64 0)]) ⟨rfl, rfl, rfl, rfl, rfl, rfl, rfl, rfl, trivial⟩ ?_
    refine CW.loop (dynposlaw17_BalanceScales_L1 y12 y34) (fun s_ L_ w173 => ∃ (o174 : Cls) (x46 : (List Int)) (x49 : Int) (x50 : (List Int)) (x53 : (List Int)) (x56 : Int) (v47 v51 v54 : Value), (x46, x49, x50, x53, x56) = s_ ∧ L_ = [(3, .pointer (some ⟨sb, 0, none⟩)), (4, v47), (5, .int .i64 x49), (6, .int .i64 y34), (7, v51), (27, v54), (28, .int .i64 (len y12)), (29, .int .i64 x56)] ∧ Ent w0 none o174 w173 ∧ Rv (In o174 [0]) w173 sv y3 ∧ Rv (In o174 [3]) w173 v47 x46 ∧ Ow 3 o174 6 [] w173 v51 x50 ∧ Rv (In o174 [3]) w173 v54 x53 ∧ SrcC o174 2 w173 sb sv y3 st35) hl64 ?_ ?_
    · exact ⟨o38, y12, 0, ([] : List Int), y12, 0, v20, (.slice none 0 0), v20, rfl, rfl, hE, h10, h21, h43, h21, hs⟩
    intro K175 s_ L_ w173 hi_ x176 hx177 hr178 hk179
    obtain ⟨o174, x46, x49, x50, x53, x56, v47, v51, v54, rfl, rfl, hE, h10, h48, h52, h55, hs⟩ := hi_
    rw [dynposlaw17_BalanceScales_L1] at hx177
    refine CW.seq fun K180 hK180 => ?_
    refine CW.region ?_
    refine WL.stepE (OW.pv (v := .bool ((decide (x56 < (len y12))))) rfl) rfl ?_
    refine WL.nil ?_
    refine NK.sub (L' := [(3, .pointer (some ⟨sb, 0, none⟩)), (4, v47), (5, .int .i64 x49), (6, .int .i64 y34), (7, v51), (27, v54), (28, .int .i64 (len y12)), (29, .int .i64 x56), (30, .bool ((decide (x56 < (len y12)))))]) ⟨rfl, rfl, rfl, rfl, rfl, rfl, rfl, rfl, rfl, trivial⟩ ?_
    refine hK180 _ _ ?_
    refine CW.seq fun K181 hK181 => ?_
    refine CW.cond (b := (decide (x56 < (len y12)))) rfl (fun hc182 => ?_) (fun hc182 => ?_)
    · have hx177 := iteT hc182 hx177
      refine CW.skip ?_
      refine NK.sub (L' := [(3, .pointer (some ⟨sb, 0, none⟩)), (4, v47), (5, .int .i64 x49), (6, .int .i64 y34), (7, v51), (27, v54), (28, .int .i64 (len y12)), (29, .int .i64 x56)]) ⟨rfl, rfl, rfl, rfl, rfl, rfl, rfl, rfl, trivial⟩ ?_
      refine hK181 _ _ ?_
      refine CW.seq fun K183 hK183 => ?_
      refine CW.block ?_
      refine CW.seq fun K184 hK184 => ?_
      refine CW.region ?_
      obtain ⟨y185, q189, hx177⟩ := bindE hx177
      refine WL.stepP (OW.indexAddr Try.underlying22 ty3 rfl h55 rfl q189) rfl fun _ ⟨pa186, hv_, hp187, he188⟩ => ?_
      subst hv_
      refine WL.stepE (OW.loadI ty3 rfl hp187) rfl ?_
      refine WL.stepE (OW.pv (v := .int .i64 y185) rfl) rfl ?_
      refine WL.nil ?_
      refine NK.sub (L' := [(3, .pointer (some ⟨sb, 0, none⟩)), (4, v47), (5, .int .i64 x49), (6, .int .i64 y34), (7, v51), (9, .int .i64 y185), (27, v54), (28, .int .i64 (len y12)), (29, .int .i64 x56)]) ⟨rfl, rfl, rfl, rfl, rfl, rfl, rfl, rfl, rfl, trivial⟩ ?_
      refine hK184 _ _ ?_
      refine CW.region ?_
      refine WL.stepE (OW.pv (v := .int .i64 x49) rfl) rfl ?_
      refine WL.stepE (OW.pv (v := .int .i64 y185) rfl) rfl ?_
      refine WL.stepE (OW.pv (v := .int .i64 ((W (x49 + y185)))) rfl) rfl ?_
      refine WL.stepE (OW.pv (v := v51) rfl) rfl ?_
      refine WL.stepE (OW.pv (v := .int .i64 y34) rfl) rfl ?_
      refine WL.stepE (OW.pv (v := .int .i64 y185) rfl) rfl ?_
      refine WL.stepE (OW.pv (v := .int .i64 ((W (y34 * y185)))) rfl) rfl ?_
      refine WL.step (OW.buildSlice (o := o174) (k := 7) (K := []) (xs := ([(W (y34 * y185))] : List Int)) Try.underlying22 ty3 rfl ⟨(rv_int.2 rfl), trivial⟩ rfl rfl) rfl ?_
      rintro v190 w191 ⟨o192, ev193, h194⟩
      have hE := hE.evo ev193 rfl rfl
      have h10 := h10.evo ev193 rfl
      have h48 := h48.evo ev193 rfl
      have h52 := h52.evo ev193 rfl
      have h55 := h55.evo ev193 rfl
      have hs := hs.evo ev193 rfl
      obtain ⟨y195, q196, hx177⟩ := bindE hx177
      refine WL.step (OW.append (K := []) Try.underlying22 ty3 rfl rfl h52 h194.els.flat q196 rfl) rfl ?_
      rintro v197 w198 ⟨o199, ev200, h201⟩
      have hE := hE.evo ev200 rfl rfl
      have h10 := h10.evo ev200 rfl
      have h194 := h194.evo ev200 rfl
      have h48 := h48.evo ev200 rfl
      have h55 := h55.evo ev200 rfl
      have hs := hs.evo ev200 rfl
      refine WL.stepE (OW.pv (v := .int .i64 ((W (x49 + y185)))) rfl) rfl ?_
      refine WL.stepE (OW.pv (v := v197) rfl) rfl ?_
      refine WL.nil ?_
      refine NK.sub (L' := [(3, .pointer (some ⟨sb, 0, none⟩)), (4, v47), (5, .int .i64 ((W (x49 + y185)))), (6, .int .i64 y34), (7, v197), (27, v54), (28, .int .i64 (len y12)), (29, .int .i64 x56)]) ⟨rfl, rfl, rfl, rfl, rfl, rfl, rfl, rfl, trivial⟩ ?_
      refine hK183 _ _ ?_
      refine CW.region ?_
      refine WL.stepE (OW.pv (v := .int .i64 ((W (x56 + 1)))) rfl) rfl ?_
      refine WL.stepE (OW.pv (v := .int .i64 ((W (x56 + 1)))) rfl) rfl ?_
      refine WL.nil ?_
      exact NK.sub (L' := [(3, .pointer (some ⟨sb, 0, none⟩)), (4, v47), (5, .int .i64 ((W (x49 + y185)))), (6, .int .i64 y34), (7, v197), (27, v54), (28, .int .i64 (len y12)), (29, .int .i64 ((W (x56 + 1))))]) ⟨rfl, rfl, rfl, rfl, rfl, rfl, rfl, rfl, trivial⟩ (hk179 _ _ _ (Option.some.inj hx177).symm ⟨o199, x46, (W (x49 + y185)), y195, x53, (W (x56 + 1)), v47, v197, v54, rfl, rfl, hE, h10, h48, h201, h55, hs⟩)
    · have hx177 := iteF hc182 hx177
      refine CW.exit ?_
      exact NK.sub (L' := [(3, .pointer (some ⟨sb, 0, none⟩)), (4, v47), (5, .int .i64 x49), (6, .int .i64 y34), (7, v51)]) ⟨rfl, rfl, rfl, rfl, rfl, trivial⟩ (hJ68 x46 x49 x50 w173 o174 v47 v51 (hr178 _ (Option.some.inj hx177).symm) hE h10 h48 h52 hs)

set_option maxHeartbeats 16000000 in
theorem dynposlaw17_BalanceShares_ok {a0 : (List Int)} {r : Bool} (hF : dynposlaw17_BalanceShares a0 = some r) {w0 : World} {p0 : Value} {S0 : Nat → Prop} (g0 : Rv S0 w0 p0 a0) :
    Calls Try.prog 4 #[p0] w0 (Ret fun v w' => Below w0.heap.size w0 w' ∧ v = .bool r) := by
  have hE := Ent.refl w0 none
  have g0 := g0.arg0
  rw [dynposlaw17_BalanceShares] at hF
  refine enter (l := [p0]) Try.func4 rfl Try.ntmps4 rfl ?_
  refine CW.sub (L' := [(0, p0)]) ⟨rfl, trivial⟩ ?_
  refine CW.seq fun K1 hK1 => ?_
  refine CW.region ?_
  refine WL.stepE (OW.pv (v := .bool false) rfl) rfl ?_
  refine WL.nil ?_
  refine NK.sub (L' := [(0, p0)]) ⟨rfl, trivial⟩ ?_
  refine hK1 _ _ ?_
  refine CW.seq fun K2 hK2 => ?_
  refine CW.region ?_
  refine WL.stepE (OW.pv (v := p0) rfl) rfl ?_
  obtain ⟨y3, q4, hF⟩ := bindE hF
  refine WL.step (OW.call Try.call9 rfl (dynposmake_New_ok q4 (g0.base hE))) rfl ?_
  rintro _ w5 ⟨hb9, sb, sv, rfl, hge_, hs_, h10⟩
  obtain ⟨o6, ev7, hn8⟩ := fresh_new (o := (ent w0 none)) 2 hb9
  have hE := hE.evo ev7 rfl rfl
  have hs : SrcC o6 2 w5 sb sv y3 y3 := ⟨hs_, hn8 sb hge_⟩
  have h10 : Rv (In o6 [0]) w5 sv y3 := h10.old ev7
  refine WL.stepE (OW.pv (v := .pointer (some ⟨sb, 0, none⟩)) rfl) rfl ?_
  refine WL.nil ?_
  refine NK.sub (L' := [(3, .pointer (some ⟨sb, 0, none⟩))]) ⟨rfl, trivial⟩ ?_
  refine hK2 _ _ ?_
  refine CW.seq fun K11 hK11 => ?_
  refine CW.region ?_
  refine WL.stepE (OW.pv (v := .pointer (some ⟨sb, 0, none⟩)) rfl) rfl ?_
  obtain ⟨⟨y12, st13⟩, q14, hF⟩ := bindE hF
  dsimp only at hF
  refine WL.step (OW.call Try.call10 rfl (dynposlaw17_ratings_ok q14 hs.1 h10 (src_not hs.2 rfl))) rfl ?_
  rintro v20 w15 ⟨hb19, hs_, h21⟩
  obtain ⟨o16, ev17, hn18⟩ := but_new (o := o6) 3 hb19 hs.2
  have hs := hs.new ev17 hs_
  have hE := hE.evo ev17 rfl rfl
  have h10 := h10.evo ev17 rfl
  have h21 := h21.new hn18
  refine WL.stepE (OW.pv (v := v20) rfl) rfl ?_
  refine WL.nil ?_
  refine NK.sub (L' := [(3, .pointer (some ⟨sb, 0, none⟩)), (4, v20)]) ⟨rfl, rfl, trivial⟩ ?_
  refine hK11 _ _ ?_
  refine CW.seq fun K22 hK22 => ?_
  refine CW.seq fun K23 hK23 => ?_
  refine CW.region ?_
  refine WL.stepE (OW.pv (v := v20) rfl) rfl ?_
  refine WL.stepE (OW.len Try.underlying22 rfl h21) rfl ?_
  refine WL.stepE (OW.pv (v := .bool ((((len y12) == 0)))) rfl) rfl ?_
  refine WL.nil ?_
  refine NK.sub (L' := [(3, .pointer (some ⟨sb, 0, none⟩)), (4, v20), (28, .bool ((((len y12) == 0))))]) ⟨rfl, rfl, rfl, trivial⟩ ?_
  refine hK23 _ _ ?_
  refine CW.cond (b := (((len y12) == 0))) rfl (fun hc24 => ?_) (fun hc24 => ?_)
  · have hF := iteT hc24 hF
    refine CW.seq fun K25 hK25 => ?_
    refine CW.region ?_
    have h26 := Ow.nil (α := Int) 3 o16 4 [] w15
    obtain ⟨⟨y27, y28⟩, q29, hF⟩ := bindE hF
    dsimp only at hF
    refine WL.step (OW.call Try.call14 rfl (balance_Split_ok q29 h26.rv)) rfl ?_
    rintro _ w30 ⟨hb34, v35, rfl, h36⟩
    obtain ⟨o31, ev32, hn33⟩ := fresh_new (o := o16) 5 hb34
    have hE := hE.evo ev32 rfl rfl
    have h10 := h10.evo ev32 rfl
    have hs := hs.evo ev32 rfl
    have h36 := h36.new hn33
    refine WL.stepE (OW.pv (v := .tuple #[v35, .int .i64 y28]) rfl) rfl ?_
    refine WL.stepE (OW.pv (v := v35) rfl) rfl ?_
    refine WL.stepE (OW.pv (v := .int .i64 y28) rfl) rfl ?_
    refine WL.stepE (OW.pv (v := v35) rfl) rfl ?_
    refine WL.stepE (OW.pv (v := .int .i64 y28) rfl) rfl ?_
    refine WL.nil ?_
    refine NK.sub (L' := [(6, .int .i64 y28)]) ⟨rfl, trivial⟩ ?_
    refine hK25 _ _ ?_
    refine CW.seq fun K37 hK37 => ?_
    refine CW.region ?_
    have h38 := Ow.nil (α := Int) 3 o31 6 [] w30
    obtain ⟨⟨y39, y40⟩, q41, hF⟩ := bindE hF
    dsimp only at hF
    refine WL.step (OW.call Try.call14 rfl (balance_Split_ok q41 h38.rv)) rfl ?_
    rintro _ w42 ⟨hb46, v47, rfl, h48⟩
    obtain ⟨o43, ev44, hn45⟩ := fresh_new (o := o31) 7 hb46
    have hE := hE.evo ev44 rfl rfl
    have h10 := h10.evo ev44 rfl
    have hs := hs.evo ev44 rfl
    have h48 := h48.new hn45
    refine WL.stepE (OW.pv (v := .tuple #[v47, .int .i64 y40]) rfl) rfl ?_
    refine WL.stepE (OW.pv (v := v47) rfl) rfl ?_
    refine WL.stepE (OW.pv (v := .int .i64 y40) rfl) rfl ?_
    refine WL.stepE (OW.pv (v := v47) rfl) rfl ?_
    refine WL.stepE (OW.pv (v := .int .i64 y40) rfl) rfl ?_
    refine WL.nil ?_
    refine NK.sub (L' := [(6, .int .i64 y28), (7, v47), (8, .int .i64 y40)]) ⟨rfl, rfl, rfl, trivial⟩ ?_
    refine hK37 _ _ ?_
    refine CW.seq fun K49 hK49 => ?_
    refine CW.region ?_
    refine WL.stepE (OW.pv (v := .int .i64 y28) rfl) rfl ?_
    refine WL.stepE (OW.pv (v := .bool (((y28 == 9)))) rfl) rfl ?_
    refine WL.stepE (OW.pv (v := .bool (((y28 == 9)))) rfl) rfl ?_
    obtain ⟨x50, q51, hF⟩ := bindE hF
    have hJ54 : ∀ (w52 : World) (o53 : Cls), Ent w0 none o53 w52 → Rv (In o53 [0]) w52 sv y3 → SrcC o53 2 w52 sb sv y3 st13 → NK 204 K49 [(2, .bool x50)] w52 := by
      intro w52 o53  hE h10 hs
      refine NK.sub (L' := [(2, .bool x50)]) ⟨rfl, trivial⟩ ?_
      refine hK49 _ _ ?_
      obtain rfl := Option.some.inj hF
      exact CW.rets (vs := [.bool x50]) Try.results4 ⟨rfl, trivial⟩ ⟨_, rfl, hE.fresh, rfl⟩ (fun _ _ h => h)
    rcases Bool.eq_false_or_eq_true (((y28 == 9))) with hc55 | hc55
    · have q51 := iteT hc55 q51
      refine WL.stepGE rfl rfl rfl hc55 (OW.pv (v := .int .i64 y40) rfl) rfl ?_
      refine WL.stepGE rfl rfl rfl hc55 (OW.pv (v := .bool (((y40 == 0)))) rfl) rfl ?_
      refine WL.stepE (OW.pickT rfl hc55 rfl) rfl ?_
      refine WL.stepE (OW.pv (v := .bool (((y40 == 0)))) rfl) rfl ?_
      obtain ⟨x56, q57, q51⟩ := bindE q51
      have hJ60 : ∀ (w58 : World) (o59 : Cls), Ent w0 none o59 w58 → Rv (In o59 [0]) w58 sv y3 → SrcC o59 2 w58 sb sv y3 st13 → NK 204 K49 [(2, .bool x56)] w58 := by
        intro w58 o59  hE h10 hs
        have e61 := Option.some.inj q51
        subst e61
        exact NK.sub (L' := [(2, .bool x56)]) ⟨rfl, trivial⟩ (hJ54 w58 o59 hE h10 hs)
      rcases Bool.eq_false_or_eq_true (((y40 == 0))) with hc62 | hc62
      · have q57 := iteT hc62 q57
        refine WL.stepGE rfl rfl rfl hc62 (OW.pv (v := v47) rfl) rfl ?_
        refine WL.stepGE rfl rfl rfl hc62 (OW.len Try.underlying22 rfl h48) rfl ?_
        refine WL.stepGE rfl rfl rfl hc62 (OW.pv (v := .bool ((((len y39) == 0)))) rfl) rfl ?_
        refine WL.stepE (OW.pickT rfl hc62 rfl) rfl ?_
        refine WL.stepE (OW.pv (v := .bool ((((len y39) == 0)))) rfl) rfl ?_
        obtain ⟨x63, q64, q57⟩ := bindE q57
        have hJ67 : ∀ (w65 : World) (o66 : Cls), Ent w0 none o66 w65 → Rv (In o66 [0]) w65 sv y3 → SrcC o66 2 w65 sb sv y3 st13 → NK 204 K49 [(2, .bool x63)] w65 := by
          intro w65 o66  hE h10 hs
          have e68 := Option.some.inj q57
          subst e68
          exact NK.sub (L' := [(2, .bool x63)]) ⟨rfl, trivial⟩ (hJ60 w65 o66 hE h10 hs)
        rcases Bool.eq_false_or_eq_true ((((len y39) == 0))) with hc69 | hc69
        · have q64 := iteT hc69 q64
          obtain ⟨y70, q71, q64⟩ := bindE q64
          refine WL.stepG rfl rfl rfl hc69 (OW.call Try.call11 rfl (dynposlaw17_sane_ok q71)) rfl ?_
          rintro _ w72 ⟨hb76, rfl⟩
          obtain ⟨o73, ev74, hn75⟩ := fresh_new (o := o43) 8 hb76
          have hE := hE.evo ev74 rfl rfl
          have h10 := h10.evo ev74 rfl
          have hs := hs.evo ev74 rfl
          refine WL.stepE (OW.pickT rfl hc69 rfl) rfl ?_
          refine WL.stepE (OW.pv (v := .bool y70) rfl) rfl ?_
          refine WL.nil ?_
          have e77 := Option.some.inj q64
          subst e77
          exact NK.sub (L' := [(2, .bool y70)]) ⟨rfl, trivial⟩ (hJ67 w72 o73 hE h10 hs)
        · have q64 := iteF hc69 q64
          refine WL.skipG rfl rfl rfl (by rw [hc69]; rfl) rfl ?_
          refine WL.stepE (OW.pickF rfl hc69 rfl) rfl ?_
          refine WL.stepE (OW.pv (v := .bool false) rfl) rfl ?_
          refine WL.nil ?_
          have e78 := Option.some.inj q64
          subst e78
          exact NK.sub (L' := [(2, .bool false)]) ⟨rfl, trivial⟩ (hJ67 w42 o43 hE h10 hs)
      · have q57 := iteF hc62 q57
        refine WL.skipG rfl rfl rfl (by rw [hc62]; rfl) rfl ?_
        refine WL.skipG rfl rfl rfl (by rw [hc62]; rfl) rfl ?_
        refine WL.skipG rfl rfl rfl (by rw [hc62]; rfl) rfl ?_
        refine WL.stepE (OW.pickF rfl hc62 rfl) rfl ?_
        refine WL.stepE (OW.pv (v := .bool false) rfl) rfl ?_
        refine WL.skipG rfl rfl rfl rfl rfl ?_
        refine WL.stepE (OW.pickF rfl rfl rfl) rfl ?_
        refine WL.stepE (OW.pv (v := .bool false) rfl) rfl ?_
        refine WL.nil ?_
        have e79 := Option.some.inj q57
        subst e79
        exact NK.sub (L' := [(2, .bool false)]) ⟨rfl, trivial⟩ (hJ60 w42 o43 hE h10 hs)
    · have q51 := iteF hc55 q51
      refine WL.skipG rfl rfl rfl (by rw [hc55]; rfl) rfl ?_
      refine WL.skipG rfl rfl rfl (by rw [hc55]; rfl) rfl ?_
      refine WL.stepE (OW.pickF rfl hc55 rfl) rfl ?_
      refine WL.stepE (OW.pv (v := .bool false) rfl) rfl ?_
      refine WL.skipG rfl rfl rfl rfl rfl ?_
      refine WL.skipG rfl rfl rfl rfl rfl ?_
      refine WL.skipG rfl rfl rfl rfl rfl ?_
      refine WL.stepE (OW.pickF rfl rfl rfl) rfl ?_
      refine WL.stepE (OW.pv (v := .bool false) rfl) rfl ?_
      refine WL.skipG rfl rfl rfl rfl rfl ?_
      refine WL.stepE (OW.pickF rfl rfl rfl) rfl ?_
      refine WL.stepE (OW.pv (v := .bool false) rfl) rfl ?_
      refine WL.nil ?_
      have e80 := Option.some.inj q51
      subst e80
      exact NK.sub (L' := [(2, .bool false)]) ⟨rfl, trivial⟩ (hJ54 w42 o43 hE h10 hs)
  · have hF := iteF hc24 hF
    refine CW.skip ?_
    refine NK.sub (L' := [(3, .pointer (some ⟨sb, 0, none⟩)), (4, v20)]) ⟨rfl, rfl, trivial⟩ ?_
    refine hK22 _ _ ?_
    refine CW.seq fun K81 hK81 => ?_
    refine CW.region ?_
    refine WL.stepE (OW.pv (v := .int .i64 0) rfl) rfl ?_
    refine WL.nil ?_
    refine NK.sub (L' := [(3, .pointer (some ⟨sb, 0, none⟩)), (4, v20), (9, .int .i64 0)]) ⟨rfl, rfl, rfl, trivial⟩ ?_
    refine hK81 _ _ ?_
    refine CW.seq fun K82 hK82 => ?_
    refine CW.seq fun K83 hK83 => ?_
    refine CW.region ?_
    refine WL.stepE (OW.pv (v := v20) rfl) rfl ?_
    refine WL.stepE (OW.len Try.underlying22 rfl h21) rfl ?_
    refine WL.stepE (OW.pv (v := .int .i64 0) rfl) rfl ?_
    refine WL.nil ?_
    refine NK.sub (L' := [(3, .pointer (some ⟨sb, 0, none⟩)), (4, v20), (9, .int .i64 0), (51, v20), (52, .int .i64 (len y12)), (53, .int .i64 0)]) ⟨rfl, rfl, rfl, rfl, rfl, rfl, trivial⟩ ?_
    refine hK83 _ _ ?_
    refine CW.block ?_
    obtain ⟨r97, hl96, hF⟩ := bindE hF
    have hJ100 : ∀ (x92 : (List Int)) (x95 : Int) (w98 : World) (o99 : Cls) (v93 : Value), (x92, x95) = r97 → Ent w0 none o99 w98 → Rv (In o99 [0]) w98 sv y3 → Rv (In o99 [3]) w98 v93 x92 → SrcC o99 2 w98 sb sv y3 st13 → NK 204 K82 [(3, .pointer (some ⟨sb, 0, none⟩)), (4, v93), (9, .int .i64 x95)] w98 := by
      intro x92 x95 w98 o99 v93 e_ hE h10 h94 hs
      subst e_
      try dsimp only at hF
      refine NK.sub (L' := [(3, .pointer (some ⟨sb, 0, none⟩)), (4, v93), (9, .int .i64 x95)]) ⟨rfl, rfl, rfl, trivial⟩ ?_
      refine hK82 _ _ ?_
      refine CW.seq fun K101 hK101 => ?_
      refine CW.region ?_
      refine WL.stepE (OW.pv (v := .pointer (some ⟨sb, 0, none⟩)) rfl) rfl ?_
      refine WL.stepE (OW.pv (v := .int .i64 x95) rfl) rfl ?_
      refine WL.stepE (OW.pv (v := .int .i64 ((W ((2 : Int) * x95)))) rfl) rfl ?_
      refine WL.stepE (OW.pv (v := .int .i64 ((W (((W ((2 : Int) * x95))) + 1)))) rfl) rfl ?_
      obtain ⟨⟨y102, st103⟩, q104, hF⟩ := bindE hF
      dsimp only at hF
      refine WL.step (OW.call Try.call13 rfl (Src_N_ok q104 hs.1 h10 (src_not hs.2 rfl))) rfl ?_
      rintro _ w105 ⟨hb109, hs_, rfl⟩
      obtain ⟨o106, ev107, hn108⟩ := but_new (o := o99) 9 hb109 hs.2
      have hs := hs.new ev107 hs_
      have hE := hE.evo ev107 rfl rfl
      have h10 := h10.evo ev107 rfl
      have h94 := h94.evo ev107 rfl
      refine WL.stepE (OW.pv (v := .int .i64 y102) rfl) rfl ?_
      refine WL.nil ?_
      refine NK.sub (L' := [(3, .pointer (some ⟨sb, 0, none⟩)), (4, v93), (9, .int .i64 x95), (12, .int .i64 y102)]) ⟨rfl, rfl, rfl, rfl, trivial⟩ ?_
      refine hK101 _ _ ?_
      refine CW.seq fun K110 hK110 => ?_
      refine CW.region ?_
      refine WL.stepE (OW.pv (v := .int .i64 y102) rfl) rfl ?_
      refine WL.stepE (OW.pv (v := v93) rfl) rfl ?_
      obtain ⟨⟨y111, y112⟩, q113, hF⟩ := bindE hF
      dsimp only at hF
      refine WL.step (OW.call Try.call14 rfl (balance_Split_ok q113 h94)) rfl ?_
      rintro _ w114 ⟨hb118, v119, rfl, h120⟩
      obtain ⟨o115, ev116, hn117⟩ := fresh_new (o := o106) 10 hb118
      have hE := hE.evo ev116 rfl rfl
      have h10 := h10.evo ev116 rfl
      have h94 := h94.evo ev116 rfl
      have hs := hs.evo ev116 rfl
      have h120 := h120.new hn117
      refine WL.stepE (OW.pv (v := .tuple #[v119, .int .i64 y112]) rfl) rfl ?_
      refine WL.stepE (OW.pv (v := v119) rfl) rfl ?_
      refine WL.stepE (OW.pv (v := .int .i64 y112) rfl) rfl ?_
      refine WL.stepE (OW.pv (v := v119) rfl) rfl ?_
      refine WL.stepE (OW.pv (v := .int .i64 y112) rfl) rfl ?_
      refine WL.nil ?_
      refine NK.sub (L' := [(3, .pointer (some ⟨sb, 0, none⟩)), (4, v93), (9, .int .i64 x95), (12, .int .i64 y102), (13, v119), (14, .int .i64 y112)]) ⟨rfl, rfl, rfl, rfl, rfl, rfl, trivial⟩ ?_
      refine hK110 _ _ ?_
      refine CW.seq fun K121 hK121 => ?_
      refine CW.seq fun K122 hK122 => ?_
      refine CW.region ?_
      refine WL.stepE (OW.pv (v := .int .i64 y112) rfl) rfl ?_
      refine WL.stepE (OW.pv (v := .bool (((y112 != 0)))) rfl) rfl ?_
      refine WL.stepE (OW.pv (v := .bool (((y112 != 0)))) rfl) rfl ?_
      obtain ⟨z_, q130, hF⟩ := bindE hF
      obtain ⟨x123, x126, x129⟩ := z_
      try dsimp only at hF
      have hJ133 : ∀ (w131 : World) (o132 : Cls) (v124 v127 : Value), Ent w0 none o132 w131 → Rv (In o132 [0]) w131 sv y3 → Rv (In o132 [3]) w131 v124 x123 → Rv (In o132 [10]) w131 v127 x126 → SrcC o132 2 w131 sb sv y3 st103 → NK 204 K122 [(3, .pointer (some ⟨sb, 0, none⟩)), (4, v124), (9, .int .i64 x95), (12, .int .i64 y102), (13, v127), (87, .bool x129)] w131 := by
        intro w131 o132 v124 v127 hE h10 h125 h128 hs
        refine NK.sub (L' := [(3, .pointer (some ⟨sb, 0, none⟩)), (4, v124), (9, .int .i64 x95), (12, .int .i64 y102), (13, v127), (87, .bool x129)]) ⟨rfl, rfl, rfl, rfl, rfl, rfl, trivial⟩ ?_
        refine hK122 _ _ ?_
        refine CW.cond (b := x129) rfl (fun hc134 => ?_) (fun hc134 => ?_)
        · have hF := iteT hc134 hF
          refine CW.seq fun K135 hK135 => ?_
          refine CW.region ?_
          refine WL.stepE (OW.pv (v := .bool false) rfl) rfl ?_
          refine WL.nil ?_
          refine NK.sub (L' := [(2, .bool false)]) ⟨rfl, trivial⟩ ?_
          refine hK135 _ _ ?_
          obtain rfl := Option.some.inj hF
          exact CW.rets (vs := [.bool false]) Try.results4 ⟨rfl, trivial⟩ ⟨_, rfl, hE.fresh, rfl⟩ (fun _ _ h => h)
        · have hF := iteF hc134 hF
          refine CW.skip ?_
          refine NK.sub (L' := [(3, .pointer (some ⟨sb, 0, none⟩)), (4, v124), (9, .int .i64 x95), (12, .int .i64 y102), (13, v127)]) ⟨rfl, rfl, rfl, rfl, rfl, trivial⟩ ?_
          refine hK121 _ _ ?_
          refine CW.seq fun K136 hK136 => ?_
          refine CW.region ?_
          refine WL.stepE (OW.pv (v := .int .i64 0) rfl) rfl ?_
          refine WL.nil ?_
          refine NK.sub (L' := [(3, .pointer (some ⟨sb, 0, none⟩)), (4, v124), (9, .int .i64 x95), (12, .int .i64 y102), (13, v127), (15, .int .i64 0)]) ⟨rfl, rfl, rfl, rfl, rfl, rfl, trivial⟩ ?_
          refine hK136 _ _ ?_
          refine CW.seq fun K137 hK137 => ?_
          refine CW.seq fun K138 hK138 => ?_
          refine CW.region ?_
          refine WL.stepE (OW.pv (v := v127) rfl) rfl ?_
          refine WL.stepE (OW.len Try.underlying22 rfl h128) rfl ?_
          refine WL.stepE (OW.pv (v := .int .i64 0) rfl) rfl ?_
          refine WL.nil ?_
          refine NK.sub (L' := [(3, .pointer (some ⟨sb, 0, none⟩)), (4, v124), (9, .int .i64 x95), (12, .int .i64 y102), (13, v127), (15, .int .i64 0), (88, v127), (89, .int .i64 (len x126)), (90, .int .i64 0)]) ⟨rfl, rfl, rfl, rfl, rfl, rfl, rfl, rfl, rfl, trivial⟩ ?_
          refine hK138 _ _ ?_
          refine CW.block ?_
          obtain ⟨r158, hl157, hF⟩ := bindE hF
          have hJ161 : ∀ (x150 : (List Int)) (x153 : (List Int)) (x156 : Int) (w159 : World) (o160 : Cls) (v151 v154 : Value), .inl (x150, x153, x156) = r158 → Ent w0 none o160 w159 → Rv (In o160 [0]) w159 sv y3 → Rv (In o160 [3]) w159 v151 x150 → Rv (In o160 [10]) w159 v154 x153 → SrcC o160 2 w159 sb sv y3 st103 → NK 204 K137 [(3, .pointer (some ⟨sb, 0, none⟩)), (4, v151), (12, .int .i64 y102), (13, v154), (15, .int .i64 x156)] w159 := by
            intro x150 x153 x156 w159 o160 v151 v154 e_ hE h10 h152 h155 hs
            subst e_
            have hF := elimL hF
            try dsimp only at hF
            refine NK.sub (L' := [(3, .pointer (some ⟨sb, 0, none⟩)), (4, v151), (12, .int .i64 y102), (13, v154), (15, .int .i64 x156)]) ⟨rfl, rfl, rfl, rfl, rfl, trivial⟩ ?_
            refine hK137 _ _ ?_
            refine CW.seq fun K162 hK162 => ?_
            refine CW.region ?_
            refine WL.stepE (OW.pv (v := v154) rfl) rfl ?_
            have h163 := Ow.nil (α := Int) 3 o160 12 [] w159
            obtain ⟨y164, q165, hF⟩ := bindE hF
            refine WL.step (OW.append (K := []) Try.underlying22 ty3 rfl rfl h163 h155.els.flat q165 rfl) rfl ?_
            rintro v166 w167 ⟨o168, ev169, h170⟩
            have hE := hE.evo ev169 rfl rfl
            have h10 := h10.evo ev169 rfl
            have h152 := h152.evo ev169 rfl
            have h155 := h155.evo ev169 rfl
            have hs := hs.evo ev169 rfl
            refine WL.stepE (OW.pv (v := v166) rfl) rfl ?_
            refine WL.nil ?_
            refine NK.sub (L' := [(3, .pointer (some ⟨sb, 0, none⟩)), (4, v151), (12, .int .i64 y102), (13, v154), (15, .int .i64 x156), (19, v166)]) ⟨rfl, rfl, rfl, rfl, rfl, rfl, trivial⟩ ?_
            refine hK162 _ _ ?_
            refine CW.seq fun K171 hK171 => ?_
            refine CW.region ?_
            refine WL.stepE (OW.pv (v := .pointer (some ⟨sb, 0, none⟩)) rfl) rfl ?_
            refine WL.stepE (OW.pv (v := v154) rfl) rfl ?_
            refine WL.stepE (OW.len Try.underlying22 rfl h155) rfl ?_
            obtain ⟨⟨y172, st173⟩, q174, hF⟩ := bindE hF
            dsimp only at hF
            refine WL.step (OW.call Try.call13 rfl (Src_N_ok q174 hs.1 h10 (src_not hs.2 rfl))) rfl ?_
            rintro _ w175 ⟨hb179, hs_, rfl⟩
            obtain ⟨o176, ev177, hn178⟩ := but_new (o := o168) 13 hb179 hs.2
            have hs := hs.new ev177 hs_
            have hE := hE.evo ev177 rfl rfl
            have h10 := h10.evo ev177 rfl
            have h152 := h152.evo ev177 rfl
            have h155 := h155.evo ev177 rfl
            have h170 := h170.evo ev177 rfl
            refine WL.stepE (OW.pv (v := .pointer (some ⟨sb, 0, none⟩)) rfl) rfl ?_
            refine WL.stepE (OW.pv (v := v154) rfl) rfl ?_
            refine WL.stepE (OW.len Try.underlying22 rfl h155) rfl ?_
            obtain ⟨⟨y180, st181⟩, q182, hF⟩ := bindE hF
            dsimp only at hF
            refine WL.step (OW.call Try.call13 rfl (Src_N_ok q182 hs.1 h10 (src_not hs.2 rfl))) rfl ?_
            rintro _ w183 ⟨hb187, hs_, rfl⟩
            obtain ⟨o184, ev185, hn186⟩ := but_new (o := o176) 14 hb187 hs.2
            have hs := hs.new ev185 hs_
            have hE := hE.evo ev185 rfl rfl
            have h10 := h10.evo ev185 rfl
            have h152 := h152.evo ev185 rfl
            have h170 := h170.evo ev185 rfl
            refine WL.stepE (OW.pv (v := .int .i64 y172) rfl) rfl ?_
            refine WL.stepE (OW.pv (v := .int .i64 y180) rfl) rfl ?_
            refine WL.nil ?_
            refine NK.sub (L' := [(4, v151), (12, .int .i64 y102), (15, .int .i64 x156), (19, v166), (20, .int .i64 y172), (21, .int .i64 y180)]) ⟨rfl, rfl, rfl, rfl, rfl, rfl, trivial⟩ ?_
            refine hK171 _ _ ?_
            refine CW.seq fun K188 hK188 => ?_
            obtain ⟨y189, q193, hF⟩ := bindE hF
            obtain ⟨y194, q198, hF⟩ := bindE hF
            have hd203 := Rv.hd h170.rv
            obtain ⟨y199, q204, hF⟩ := bindE hF
            obtain ⟨y205, q208, hF⟩ := bindE hF
            have hd214 := Rv.hd h170.rv
            obtain ⟨y210, q215, hF⟩ := bindE hF
            obtain ⟨y216, q219, hF⟩ := bindE hF
            have ev_ := Evo.drew o184 w183
            refine CW.any (ow := o184) hmix [⟨none, none, [0], [], fun x_ o_ w_ => Rv (In o_ [0]) w_ sv y3⟩, ⟨none, none, [3], [], fun x_ o_ w_ => Rv (In o_ [3]) w_ v151 x150⟩, ⟨none, some 15, [12], [], fun x_ o_ w_ => Ow 3 o_ 12 [] w_ v166 y164⟩, ⟨none, none, [2], [], fun x_ o_ w_ => SrcC o_ 2 w_ sb sv y3 st181⟩, ⟨some 6, some 15, [12], [6], fun x_ o_ w_ => PtrAt (In o_ [12]) w_ (pOf (x_.getD 0 undef)) y189⟩, ⟨some 6, none, [], [6], fun x_ o_ w_ => EPtr v166 1 y172 (pOf (x_.getD 0 undef))⟩, ⟨some 11, some 15, [12], [11], fun x_ o_ w_ => PtrAt (In o_ [12]) w_ (pOf (x_.getD 0 undef)) y194⟩, ⟨some 11, none, [], [11], fun x_ o_ w_ => EPtr v166 1 y180 (pOf (x_.getD 0 undef))⟩, ⟨some 14, none, [], [14], fun x_ o_ w_ => EPtr v166 1 y172 (pOf (x_.getD 0 undef))⟩, ⟨some 15, some 17, [12], [], fun x_ o_ w_ => Ow 3 o_ 12 [] w_ v166 y205⟩, ⟨some 16, none, [], [16], fun x_ o_ w_ => EPtr v166 1 y180 (pOf (x_.getD 0 undef))⟩, ⟨some 17, none, [12], [], fun x_ o_ w_ => Ow 3 o_ 12 [] w_ v166 y216⟩] [⟨[], [], [], [], fun x_ => v166, false⟩, ⟨[], [], [], [], fun x_ => .int .i64 y172, false⟩, ⟨[], [], [], [], fun x_ => v166, false⟩, ⟨[], [], [], [], fun x_ => .int .i64 y180, false⟩, ⟨[], [], [], [], fun x_ => v166, false⟩, ⟨[], [], [], [], fun x_ => .int .i64 y172, false⟩, ⟨[], [2], [4, 5], [6], fun x_ => .pointer (some (pOf (x_.getD 0 undef))), false⟩, ⟨[], [4], [4, 5, 6], [], fun x_ => .int .i64 y189, false⟩, ⟨[], [], [4, 5, 6, 7], [], fun x_ => .int .i64 ((W (y189 + 2))), false⟩, ⟨[], [], [], [], fun x_ => v166, false⟩, ⟨[], [], [], [], fun x_ => .int .i64 y180, false⟩, ⟨[], [2], [9, 10], [11], fun x_ => .pointer (some (pOf (x_.getD 0 undef))), false⟩, ⟨[], [6], [9, 10, 11], [], fun x_ => .int .i64 y194, false⟩, ⟨[], [], [9, 10, 11, 12], [], fun x_ => .int .i64 ((W (y194 - 2))), false⟩, ⟨[], [], [0, 1, 4, 5, 6, 7, 8, 9, 10, 11, 12], [14], fun x_ => .pointer (some (pOf (x_.getD 0 undef))), false⟩, ⟨[12], [2, 8], [0, 1, 4, 5, 6, 7, 8, 9, 10, 11, 12, 14], [], fun x_ => undef, false⟩, ⟨[], [], [0, 1, 2, 3, 4, 5, 6, 7, 8, 9, 10, 11, 12, 13, 14, 15], [16], fun x_ => .pointer (some (pOf (x_.getD 0 undef))), false⟩, ⟨[12], [9, 10], [0, 1, 2, 3, 4, 5, 6, 7, 8, 9, 10, 11, 12, 13, 14, 15, 16], [], fun x_ => undef, false⟩] [12] [12] (fun o_ w_ => Ent w0 none o_ w_) (by kernel_rfl) (by kernel_rfl) ⟨fun _ _ _ _ _ _ ev hd h => Rv.evo h ev hd, fun _ _ _ _ _ _ ev hd h => Rv.evo h ev hd, fun _ _ _ _ _ _ ev hd h => Ow.evo h ev hd, fun _ _ _ _ _ _ ev hd h => SrcC.evo h ev hd, fun _ _ _ _ _ _ ev hd h => PtrAt.evo h ev hd, fun _ _ _ _ _ _ _ _ h => h, fun _ _ _ _ _ _ ev hd h => PtrAt.evo h ev hd, fun _ _ _ _ _ _ _ _ h => h, fun _ _ _ _ _ _ _ _ h => h, fun _ _ _ _ _ _ ev hd h => Ow.evo h ev hd, fun _ _ _ _ _ _ _ _ h => h, fun _ _ _ _ _ _ ev hd h => Ow.evo h ev hd, trivial⟩ (Ent.any rfl rfl) ⟨hE.evo ev_ rfl rfl, ⟨h10.evo ev_ rfl, h152.evo ev_ rfl, h170.evo ev_ rfl, hs.evo ev_ rfl, trivial⟩⟩ ⟨?_, ?_, ?_, ?_, ?_, ?_, ?_, ?_, ?_, ?_, ?_, ?_, ?_, ?_, ?_, ?_, ?_, ?_, trivial⟩ ?_
            · intro vs221 o_ w_ hE 
              refine OW.imp (OW.fr (L' := [(19, v166)]) ⟨rfl, trivial⟩ (OW.pv (v := v166) rfl)) ?_
              rintro _ _ ⟨rfl, rfl⟩
              exact ⟨_, Evo.refl _ _ _ _, rfl, trivial⟩
            · intro vs221 o_ w_ hE 
              refine OW.imp (OW.fr (L' := [(20, .int .i64 y172)]) ⟨rfl, trivial⟩ (OW.pv (v := .int .i64 y172) rfl)) ?_
              rintro _ _ ⟨rfl, rfl⟩
              exact ⟨_, Evo.refl _ _ _ _, rfl, trivial⟩
            · intro vs221 o_ w_ hE 
              refine OW.imp (OW.fr (L' := [(19, v166)]) ⟨rfl, trivial⟩ (OW.pv (v := v166) rfl)) ?_
              rintro _ _ ⟨rfl, rfl⟩
              exact ⟨_, Evo.refl _ _ _ _, rfl, trivial⟩
            · intro vs221 o_ w_ hE 
              refine OW.imp (OW.fr (L' := [(21, .int .i64 y180)]) ⟨rfl, trivial⟩ (OW.pv (v := .int .i64 y180) rfl)) ?_
              rintro _ _ ⟨rfl, rfl⟩
              exact ⟨_, Evo.refl _ _ _ _, rfl, trivial⟩
            · intro vs221 o_ w_ hE 
              refine OW.imp (OW.fr (L' := [(19, v166)]) ⟨rfl, trivial⟩ (OW.pv (v := v166) rfl)) ?_
              rintro _ _ ⟨rfl, rfl⟩
              exact ⟨_, Evo.refl _ _ _ _, rfl, trivial⟩
            · intro vs221 o_ w_ hE 
              refine OW.imp (OW.fr (L' := [(20, .int .i64 y172)]) ⟨rfl, trivial⟩ (OW.pv (v := .int .i64 y172) rfl)) ?_
              rintro _ _ ⟨rfl, rfl⟩
              exact ⟨_, Evo.refl _ _ _ _, rfl, trivial⟩
            · intro vs221 o_ w_ hE h170
              have h170 : Ow 3 o_ 12 [] w_ v166 y164 := h170
              refine OW.imp (OW.fr (L' := [(174, v166), (175, .int .i64 y172)]) ⟨rfl, rfl, trivial⟩ (OW.indexAddr Try.underlying22 ty3 rfl h170.rv rfl q193)) ?_
              rintro _ _ ⟨rfl, ⟨pa190, hv_, hp191, he192⟩⟩
              subst hv_
              exact ⟨_, Evo.refl _ _ _ _, rfl, hp191, he192, trivial⟩
            · intro vs221 o_ w_ hE hp191
              have hp191 : PtrAt (In o_ [12]) w_ (pOf (vs221 6)) y189 := hp191
              refine OW.imp (OW.fr (L' := [(176, .pointer (some (pOf (vs221 6))))]) ⟨rfl, trivial⟩ (OW.loadI ty3 rfl hp191)) ?_
              rintro _ _ ⟨rfl, rfl⟩
              exact ⟨_, Evo.refl _ _ _ _, rfl, trivial⟩
            · intro vs221 o_ w_ hE 
              refine OW.imp (OW.fr (L' := [(177, .int .i64 y189)]) ⟨rfl, trivial⟩ (OW.pv (v := .int .i64 ((W (y189 + 2)))) rfl)) ?_
              rintro _ _ ⟨rfl, rfl⟩
              exact ⟨_, Evo.refl _ _ _ _, rfl, trivial⟩
            · intro vs221 o_ w_ hE 
              refine OW.imp (OW.fr (L' := [(19, v166)]) ⟨rfl, trivial⟩ (OW.pv (v := v166) rfl)) ?_
              rintro _ _ ⟨rfl, rfl⟩
              exact ⟨_, Evo.refl _ _ _ _, rfl, trivial⟩
            · intro vs221 o_ w_ hE 
              refine OW.imp (OW.fr (L' := [(21, .int .i64 y180)]) ⟨rfl, trivial⟩ (OW.pv (v := .int .i64 y180) rfl)) ?_
              rintro _ _ ⟨rfl, rfl⟩
              exact ⟨_, Evo.refl _ _ _ _, rfl, trivial⟩
            · intro vs221 o_ w_ hE h170
              have h170 : Ow 3 o_ 12 [] w_ v166 y164 := h170
              refine OW.imp (OW.fr (L' := [(179, v166), (180, .int .i64 y180)]) ⟨rfl, rfl, trivial⟩ (OW.indexAddr Try.underlying22 ty3 rfl h170.rv rfl q198)) ?_
              rintro _ _ ⟨rfl, ⟨pa195, hv_, hp196, he197⟩⟩
              subst hv_
              exact ⟨_, Evo.refl _ _ _ _, rfl, hp196, he197, trivial⟩
            · intro vs221 o_ w_ hE hp196
              have hp196 : PtrAt (In o_ [12]) w_ (pOf (vs221 11)) y194 := hp196
              refine OW.imp (OW.fr (L' := [(181, .pointer (some (pOf (vs221 11))))]) ⟨rfl, trivial⟩ (OW.loadI ty3 rfl hp196)) ?_
              rintro _ _ ⟨rfl, rfl⟩
              exact ⟨_, Evo.refl _ _ _ _, rfl, trivial⟩
            · intro vs221 o_ w_ hE 
              refine OW.imp (OW.fr (L' := [(182, .int .i64 y194)]) ⟨rfl, trivial⟩ (OW.pv (v := .int .i64 ((W (y194 - 2)))) rfl)) ?_
              rintro _ _ ⟨rfl, rfl⟩
              exact ⟨_, Evo.refl _ _ _ _, rfl, trivial⟩
            · intro vs221 o_ w_ hE 
              refine OW.imp (OW.fr (L' := [(170, v166), (171, .int .i64 y172)]) ⟨rfl, rfl, trivial⟩ (OW.indexAddrH Try.underlying22 ty3 rfl hd203 rfl q204)) ?_
              rintro _ _ ⟨rfl, ⟨pa200, hv_, he202⟩⟩
              subst hv_
              exact ⟨_, Evo.refl _ _ _ _, rfl, he202, trivial⟩
            · intro vs221 o_ w_ hE h170 he202
              have h170 : Ow 3 o_ 12 [] w_ v166 y164 := h170
              have he202 : EPtr v166 1 y172 (pOf (vs221 14)) := he202
              refine OW.imp (OW.fr (L' := [(178, .int .i64 ((W (y189 + 2)))), (184, .pointer (some (pOf (vs221 14))))]) ⟨rfl, rfl, trivial⟩ (OW.storeElem ty3 rfl he202 h170 rfl (rv_int.2 rfl) q208 rfl)) ?_
              rintro _ w206 ⟨ev207, h209⟩
              exact ⟨o_, ev207.sub rfl rfl, trivial, h209, trivial⟩
            · intro vs221 o_ w_ hE 
              refine OW.imp (OW.fr (L' := [(172, v166), (173, .int .i64 y180)]) ⟨rfl, rfl, trivial⟩ (OW.indexAddrH Try.underlying22 ty3 rfl hd214 rfl q215)) ?_
              rintro _ _ ⟨rfl, ⟨pa211, hv_, he213⟩⟩
              subst hv_
              exact ⟨_, Evo.refl _ _ _ _, rfl, he213, trivial⟩
            · intro vs221 o_ w_ hE h209 he213
              have h209 : Ow 3 o_ 12 [] w_ v166 y205 := h209
              have he213 : EPtr v166 1 y180 (pOf (vs221 16)) := he213
              refine OW.imp (OW.fr (L' := [(183, .int .i64 ((W (y194 - 2)))), (185, .pointer (some (pOf (vs221 16))))]) ⟨rfl, rfl, trivial⟩ (OW.storeElem ty3 rfl he213 h209 rfl (rv_int.2 rfl) q219 rfl)) ?_
              rintro _ w217 ⟨ev218, h220⟩
              exact ⟨o_, ev218.sub rfl rfl, trivial, h220, trivial⟩
            · intro vs221 o223 w222 hE h10 h152 hs he192 he197 he202 he213 h220
              have h10 : Rv (In o223 [0]) w222 sv y3 := h10
              have h152 : Rv (In o223 [3]) w222 v151 x150 := h152
              have hs : SrcC o223 2 w222 sb sv y3 st181 := hs
              have he192 : EPtr v166 1 y172 (pOf (vs221 6)) := he192
              have he197 : EPtr v166 1 y180 (pOf (vs221 11)) := he197
              have he202 : EPtr v166 1 y172 (pOf (vs221 14)) := he202
              have he213 : EPtr v166 1 y180 (pOf (vs221 16)) := he213
              have h220 : Ow 3 o223 12 [] w222 v166 y216 := h220
              refine NK.sub (L' := [(4, v151), (12, .int .i64 y102), (15, .int .i64 x156), (19, v166), (20, .int .i64 y172), (21, .int .i64 y180)]) ⟨rfl, rfl, rfl, rfl, rfl, rfl, trivial⟩ ?_
              refine hK188 _ _ ?_
              refine CW.seq fun K224 hK224 => ?_
              refine CW.region ?_
              refine WL.stepE (OW.pv (v := .int .i64 x156) rfl) rfl ?_
              refine WL.stepE (OW.pv (v := .int .i64 y102) rfl) rfl ?_
              refine WL.stepE (OW.pv (v := .bool (((x156 == y102)))) rfl) rfl ?_
              refine WL.stepE (OW.pv (v := .bool (((x156 == y102)))) rfl) rfl ?_
              obtain ⟨x225, q226, hF⟩ := bindE hF
              have hJ229 : ∀ (w227 : World) (o228 : Cls), Ent w0 none o228 w227 → Rv (In o228 [0]) w227 sv y3 → SrcC o228 2 w227 sb sv y3 st181 → NK 204 K224 [(2, .bool x225)] w227 := by
                intro w227 o228  hE h10 hs
                refine NK.sub (L' := [(2, .bool x225)]) ⟨rfl, trivial⟩ ?_
                refine hK224 _ _ ?_
                obtain rfl := Option.some.inj hF
                exact CW.rets (vs := [.bool x225]) Try.results4 ⟨rfl, trivial⟩ ⟨_, rfl, hE.fresh, rfl⟩ (fun _ _ h => h)
              rcases Bool.eq_false_or_eq_true (((x156 == y102))) with hc230 | hc230
              · have q226 := iteT hc230 q226
                refine WL.stepGE rfl rfl rfl hc230 (OW.pv (v := .int .i64 y172) rfl) rfl ?_
                refine WL.stepGE rfl rfl rfl hc230 (OW.pv (v := .int .i64 y180) rfl) rfl ?_
                refine WL.stepGE rfl rfl rfl hc230 (OW.pv (v := .bool (((y172 == y180)))) rfl) rfl ?_
                refine WL.stepGE rfl rfl rfl hc230 (OW.pv (v := .bool (((y172 == y180)))) rfl) rfl ?_
                obtain ⟨x231, q232, q226⟩ := bindE q226
                have hJ235 : ∀ (w233 : World) (o234 : Cls), Ent w0 none o234 w233 → Rv (In o234 [0]) w233 sv y3 → SrcC o234 2 w233 sb sv y3 st181 → NK 204 K224 [(2, .bool x231)] w233 := by
                  intro w233 o234  hE h10 hs
                  have e236 := Option.some.inj q226
                  subst e236
                  exact NK.sub (L' := [(2, .bool x231)]) ⟨rfl, trivial⟩ (hJ229 w233 o234 hE h10 hs)
                rcases Bool.eq_false_or_eq_true (((y172 == y180))) with hc237 | hc237
                · have q232 := iteT hc237 q232
                  refine WL.skipG rfl rfl rfl (by rw [hc237]; rfl) rfl ?_
                  refine WL.skipG rfl rfl rfl (by rw [hc237]; rfl) rfl ?_
                  refine WL.skipG rfl rfl rfl (by rw [hc237]; rfl) rfl ?_
                  refine WL.skipG rfl rfl rfl (by rw [hc237]; rfl) rfl ?_
                  refine WL.skipG rfl rfl rfl (by rw [hc237]; rfl) rfl ?_
                  refine WL.stepGE rfl rfl rfl hc230 (OW.pickT rfl hc237 rfl) rfl ?_
                  refine WL.stepE (OW.pickT rfl hc230 rfl) rfl ?_
                  refine WL.stepE (OW.pv (v := .bool true) rfl) rfl ?_
                  obtain ⟨y238, q239, q232⟩ := bindE q232
                  refine WL.stepG rfl rfl rfl rfl (OW.call Try.call11 rfl (dynposlaw17_sane_ok q239)) rfl ?_
                  rintro _ w240 ⟨hb244, rfl⟩
                  obtain ⟨o241, ev242, hn243⟩ := fresh_new (o := o223) 15 hb244
                  have hE := hE.evo ev242 rfl rfl
                  have h10 := h10.evo ev242 rfl
                  have hs := hs.evo ev242 rfl
                  refine WL.stepE (OW.pickT rfl rfl rfl) rfl ?_
                  refine WL.stepE (OW.pv (v := .bool y238) rfl) rfl ?_
                  refine WL.nil ?_
                  have e245 := Option.some.inj q232
                  subst e245
                  exact NK.sub (L' := [(2, .bool y238)]) ⟨rfl, trivial⟩ (hJ235 w240 o241 hE h10 hs)
                · have q232 := iteF hc237 q232
                  refine WL.stepGE rfl rfl rfl hc237 (OW.pv (v := .int .i64 y102) rfl) rfl ?_
                  refine WL.stepGE rfl rfl rfl hc237 (OW.pv (v := v151) rfl) rfl ?_
                  refine WL.stepGE rfl rfl rfl hc237 (OW.pv (v := v166) rfl) rfl ?_
                  obtain ⟨y246, q247, q232⟩ := bindE q232
                  refine WL.stepG rfl rfl rfl hc237 (OW.call Try.call16 rfl (balance_Check_ok q247 h152 h220.rv)) rfl ?_
                  rintro _ w248 ⟨hb252, rfl⟩
                  obtain ⟨o249, ev250, hn251⟩ := fresh_new (o := o223) 16 hb252
                  have hE := hE.evo ev250 rfl rfl
                  have h10 := h10.evo ev250 rfl
                  have h152 := h152.evo ev250 rfl
                  have h220 := h220.evo ev250 rfl
                  have hs := hs.evo ev250 rfl
                  refine WL.stepGE rfl rfl rfl hc237 (OW.pv (v := .bool (!y246)) rfl) rfl ?_
                  refine WL.stepGE rfl rfl rfl hc230 (OW.pickF rfl hc237 rfl) rfl ?_
                  refine WL.stepE (OW.pickT rfl hc230 rfl) rfl ?_
                  refine WL.stepE (OW.pv (v := .bool (!y246)) rfl) rfl ?_
                  obtain ⟨x253, q254, q232⟩ := bindE q232
                  have hJ257 : ∀ (w255 : World) (o256 : Cls), Ent w0 none o256 w255 → Rv (In o256 [0]) w255 sv y3 → SrcC o256 2 w255 sb sv y3 st181 → NK 204 K224 [(2, .bool x253)] w255 := by
                    intro w255 o256  hE h10 hs
                    have e258 := Option.some.inj q232
                    subst e258
                    exact NK.sub (L' := [(2, .bool x253)]) ⟨rfl, trivial⟩ (hJ235 w255 o256 hE h10 hs)
                  rcases Bool.eq_false_or_eq_true (!y246) with hc259 | hc259
                  · have q254 := iteT hc259 q254
                    obtain ⟨y260, q261, q254⟩ := bindE q254
                    refine WL.stepG rfl rfl rfl hc259 (OW.call Try.call11 rfl (dynposlaw17_sane_ok q261)) rfl ?_
                    rintro _ w262 ⟨hb266, rfl⟩
                    obtain ⟨o263, ev264, hn265⟩ := fresh_new (o := o249) 15 hb266
                    have hE := hE.evo ev264 rfl rfl
                    have h10 := h10.evo ev264 rfl
                    have hs := hs.evo ev264 rfl
                    refine WL.stepE (OW.pickT rfl hc259 rfl) rfl ?_
                    refine WL.stepE (OW.pv (v := .bool y260) rfl) rfl ?_
                    refine WL.nil ?_
                    have e267 := Option.some.inj q254
                    subst e267
                    exact NK.sub (L' := [(2, .bool y260)]) ⟨rfl, trivial⟩ (hJ257 w262 o263 hE h10 hs)
                  · have q254 := iteF hc259 q254
                    refine WL.skipG rfl rfl rfl (by rw [hc259]; rfl) rfl ?_
                    refine WL.stepE (OW.pickF rfl hc259 rfl) rfl ?_
                    refine WL.stepE (OW.pv (v := .bool false) rfl) rfl ?_
                    refine WL.nil ?_
                    have e268 := Option.some.inj q254
                    subst e268
                    exact NK.sub (L' := [(2, .bool false)]) ⟨rfl, trivial⟩ (hJ257 w248 o249 hE h10 hs)
              · have q226 := iteF hc230 q226
                refine WL.skipG rfl rfl rfl (by rw [hc230]; rfl) rfl ?_
                refine WL.skipG rfl rfl rfl (by rw [hc230]; rfl) rfl ?_
                refine WL.skipG rfl rfl rfl (by rw [hc230]; rfl) rfl ?_
                refine WL.skipG rfl rfl rfl (by rw [hc230]; rfl) rfl ?_
                refine WL.skipU rfl rfl rfl rfl ?_
                refine WL.skipU rfl rfl rfl rfl ?_
                refine WL.skipU rfl rfl rfl rfl ?_
                refine WL.skipU rfl rfl rfl rfl ?_
                refine WL.skipU rfl rfl rfl rfl ?_
                refine WL.skipG rfl rfl rfl (by rw [hc230]; rfl) rfl ?_
                refine WL.stepE (OW.pickF rfl hc230 rfl) rfl ?_
                refine WL.stepE (OW.pv (v := .bool false) rfl) rfl ?_
                refine WL.skipG rfl rfl rfl rfl rfl ?_
                refine WL.stepE (OW.pickF rfl rfl rfl) rfl ?_
                refine WL.stepE (OW.pv (v := .bool false) rfl) rfl ?_
                refine WL.nil ?_
                have e269 := Option.some.inj q226
                subst e269
                exact NK.sub (L' := [(2, .bool false)]) ⟨rfl, trivial⟩ (hJ229 w222 o223 hE h10 hs)
          refine CW.sub (L' := [(3, .pointer (some ⟨sb, 0, none⟩)), (4, v124), (9, .int .i64 x95), (12, .int .i64 y102), (13, v127), (15, .int .i64 0), (88, v127), (89, .int .i64 (len x126)), (90, .int .i64 0)]) ⟨rfl, rfl, rfl, rfl, rfl, rfl, rfl, rfl, rfl, trivial⟩ ?_
          refine CW.loop (dynposlaw17_BalanceShares_L2 x95 y102 x126) (fun s_ L_ w270 => ∃ (o271 : Cls) (x139 : (List Int)) (x142 : (List Int)) (x145 : Int) (x146 : (List Int)) (x149 : Int) (v140 v143 v147 : Value), (x139, x142, x145, x146, x149) = s_ ∧ L_ = [(3, .pointer (some ⟨sb, 0, none⟩)), (4, v140), (9, .int .i64 x95), (12, .int .i64 y102), (13, v143), (15, .int .i64 x145), (88, v147), (89, .int .i64 (len x126)), (90, .int .i64 x149)] ∧ Ent w0 none o271 w270 ∧ Rv (In o271 [0]) w270 sv y3 ∧ Rv (In o271 [3]) w270 v140 x139 ∧ Rv (In o271 [10]) w270 v143 x142 ∧ Rv (In o271 [10]) w270 v147 x146 ∧ SrcC o271 2 w270 sb sv y3 st103) hl157 ?_ ?_
          · exact ⟨o132, x123, x126, 0, x126, 0, v124, v127, v127, rfl, rfl, hE, h10, h125, h128, h128, hs⟩
          intro K272 s_ L_ w270 hi_ x273 hx274 hr275 hk276
          obtain ⟨o271, x139, x142, x145, x146, x149, v140, v143, v147, rfl, rfl, hE, h10, h141, h144, h148, hs⟩ := hi_
          rw [dynposlaw17_BalanceShares_L2] at hx274
          refine CW.seq fun K277 hK277 => ?_
          refine CW.region ?_
          refine WL.stepE (OW.pv (v := .bool ((decide (x149 < (len x126))))) rfl) rfl ?_
          refine WL.nil ?_
          refine NK.sub (L' := [(3, .pointer (some ⟨sb, 0, none⟩)), (4, v140), (9, .int .i64 x95), (12, .int .i64 y102), (13, v143), (15, .int .i64 x145), (88, v147), (89, .int .i64 (len x126)), (90, .int .i64 x149), (91, .bool ((decide (x149 < (len x126)))))]) ⟨rfl, rfl, rfl, rfl, rfl, rfl, rfl, rfl, rfl, rfl, trivial⟩ ?_
          refine hK277 _ _ ?_
          refine CW.seq fun K278 hK278 => ?_
          refine CW.cond (b := (decide (x149 < (len x126)))) rfl (fun hc279 => ?_) (fun hc279 => ?_)
          · have hx274 := iteT hc279 hx274
            refine CW.skip ?_
            refine NK.sub (L' := [(3, .pointer (some ⟨sb, 0, none⟩)), (4, v140), (9, .int .i64 x95), (12, .int .i64 y102), (13, v143), (15, .int .i64 x145), (88, v147), (89, .int .i64 (len x126)), (90, .int .i64 x149)]) ⟨rfl, rfl, rfl, rfl, rfl, rfl, rfl, rfl, rfl, trivial⟩ ?_
            refine hK278 _ _ ?_
            refine CW.seq fun K280 hK280 => ?_
            refine CW.block ?_
            refine CW.seq fun K281 hK281 => ?_
            refine CW.region ?_
            refine WL.stepE (OW.pv (v := .int .i64 x149) rfl) rfl ?_
            obtain ⟨y282, q286, hx274⟩ := bindE hx274
            refine WL.stepP (OW.indexAddr Try.underlying22 ty3 rfl h148 rfl q286) rfl fun _ ⟨pa283, hv_, hp284, he285⟩ => ?_
            subst hv_
            refine WL.stepE (OW.loadI ty3 rfl hp284) rfl ?_
            refine WL.stepE (OW.pv (v := .int .i64 x149) rfl) rfl ?_
            refine WL.stepE (OW.pv (v := .int .i64 y282) rfl) rfl ?_
            refine WL.nil ?_
            refine NK.sub (L' := [(3, .pointer (some ⟨sb, 0, none⟩)), (4, v140), (9, .int .i64 x95), (12, .int .i64 y102), (13, v143), (15, .int .i64 x145), (16, .int .i64 x149), (17, .int .i64 y282), (88, v147), (89, .int .i64 (len x126)), (90, .int .i64 x149)]) ⟨rfl, rfl, rfl, rfl, rfl, rfl, rfl, rfl, rfl, rfl, rfl, trivial⟩ ?_
            refine hK281 _ _ ?_
            refine CW.seq fun K287 hK287 => ?_
            refine CW.region ?_
            refine WL.stepE (OW.pv (v := .int .i64 x145) rfl) rfl ?_
            refine WL.stepE (OW.pv (v := .int .i64 y282) rfl) rfl ?_
            refine WL.stepE (OW.pv (v := .int .i64 ((W (x145 + y282)))) rfl) rfl ?_
            refine WL.stepE (OW.pv (v := .int .i64 ((W (x145 + y282)))) rfl) rfl ?_
            refine WL.nil ?_
            refine NK.sub (L' := [(3, .pointer (some ⟨sb, 0, none⟩)), (4, v140), (9, .int .i64 x95), (12, .int .i64 y102), (13, v143), (15, .int .i64 ((W (x145 + y282)))), (16, .int .i64 x149), (17, .int .i64 y282), (88, v147), (89, .int .i64 (len x126)), (90, .int .i64 x149)]) ⟨rfl, rfl, rfl, rfl, rfl, rfl, rfl, rfl, rfl, rfl, rfl, trivial⟩ ?_
            refine hK287 _ _ ?_
            refine CW.seq fun K288 hK288 => ?_
            refine CW.seq fun K289 hK289 => ?_
            refine CW.region ?_
            refine WL.stepE (OW.pv (v := .int .i64 y282) rfl) rfl ?_
            refine WL.stepE (OW.pv (v := .bool ((decide (y282 < 0)))) rfl) rfl ?_
            refine WL.stepE (OW.pv (v := .bool ((decide (y282 < 0)))) rfl) rfl ?_
            obtain ⟨z_, q300, hx274⟩ := bindE hx274
            obtain ⟨x290, x293, x296, x299⟩ := z_
            try dsimp only at hx274
            have hJ303 : ∀ (w301 : World) (o302 : Cls) (v291 v294 v297 : Value), Ent w0 none o302 w301 → Rv (In o302 [0]) w301 sv y3 → Rv (In o302 [3]) w301 v291 x290 → Rv (In o302 [10]) w301 v294 x293 → Rv (In o302 [10]) w301 v297 x296 → SrcC o302 2 w301 sb sv y3 st103 → NK 204 K289 [(3, .pointer (some ⟨sb, 0, none⟩)), (4, v291), (9, .int .i64 x95), (12, .int .i64 y102), (13, v294), (15, .int .i64 ((W (x145 + y282)))), (16, .int .i64 x149), (17, .int .i64 y282), (88, v297), (89, .int .i64 (len x126)), (90, .int .i64 x149), (112, .bool x299)] w301 := by
              intro w301 o302 v291 v294 v297 hE h10 h292 h295 h298 hs
              refine NK.sub (L' := [(3, .pointer (some ⟨sb, 0, none⟩)), (4, v291), (9, .int .i64 x95), (12, .int .i64 y102), (13, v294), (15, .int .i64 ((W (x145 + y282)))), (16, .int .i64 x149), (17, .int .i64 y282), (88, v297), (89, .int .i64 (len x126)), (90, .int .i64 x149), (112, .bool x299)]) ⟨rfl, rfl, rfl, rfl, rfl, rfl, rfl, rfl, rfl, rfl, rfl, rfl, trivial⟩ ?_
              refine hK289 _ _ ?_
              refine CW.cond (b := x299) rfl (fun hc304 => ?_) (fun hc304 => ?_)
              · have hx274 := iteT hc304 hx274
                refine CW.seq fun K305 hK305 => ?_
                refine CW.region ?_
                refine WL.stepE (OW.pv (v := .bool false) rfl) rfl ?_
                refine WL.nil ?_
                refine NK.sub (L' := [(2, .bool false)]) ⟨rfl, trivial⟩ ?_
                refine hK305 _ _ ?_
                have e_ := hr275 _ (Option.some.inj hx274).symm
                subst e_
                have hF := elimR hF
                obtain rfl := Option.some.inj hF
                exact CW.rets (vs := [.bool false]) Try.results4 ⟨rfl, trivial⟩ ⟨_, rfl, hE.fresh, rfl⟩ (fun _ _ h => h)
              · have hx274 := iteF hc304 hx274
                refine CW.skip ?_
                refine NK.sub (L' := [(3, .pointer (some ⟨sb, 0, none⟩)), (4, v291), (9, .int .i64 x95), (12, .int .i64 y102), (13, v294), (15, .int .i64 ((W (x145 + y282)))), (16, .int .i64 x149), (17, .int .i64 y282), (88, v297), (89, .int .i64 (len x126)), (90, .int .i64 x149)]) ⟨rfl, rfl, rfl, rfl, rfl, rfl, rfl, rfl, rfl, rfl, rfl, trivial⟩ ?_
                refine hK288 _ _ ?_
                refine CW.seq fun K306 hK306 => ?_
                refine CW.region ?_
                refine WL.stepE (OW.pv (v := v294) rfl) rfl ?_
                refine WL.stepE (OW.len Try.underlying22 rfl h295) rfl ?_
                refine WL.stepE (OW.pv (v := .int .i64 0) rfl) rfl ?_
                refine WL.nil ?_
                refine NK.sub (L' := [(3, .pointer (some ⟨sb, 0, none⟩)), (4, v291), (9, .int .i64 x95), (12, .int .i64 y102), (13, v294), (15, .int .i64 ((W (x145 + y282)))), (16, .int .i64 x149), (17, .int .i64 y282), (88, v297), (89, .int .i64 (len x126)), (90, .int .i64 x149), (114, .int .i64 (len x293)), (115, .int .i64 0)]) ⟨rfl, rfl, rfl, rfl, rfl, rfl, rfl, rfl, rfl, rfl, rfl, rfl, rfl, trivial⟩ ?_
                refine hK306 _ _ ?_
                refine CW.block ?_
                obtain ⟨r327, hl326, hx274⟩ := bindE hx274
                have hJ330 : ∀ (x317 : (List Int)) (x320 : (List Int)) (x323 : (List Int)) (w328 : World) (o329 : Cls) (v318 v321 v324 : Value), .inl (x317, x320, x323) = r327 → Ent w0 none o329 w328 → Rv (In o329 [0]) w328 sv y3 → Rv (In o329 [3]) w328 v318 x317 → Rv (In o329 [10]) w328 v321 x320 → Rv (In o329 [10]) w328 v324 x323 → SrcC o329 2 w328 sb sv y3 st103 → NK 204 K280 [(3, .pointer (some ⟨sb, 0, none⟩)), (4, v318), (9, .int .i64 x95), (12, .int .i64 y102), (13, v321), (15, .int .i64 ((W (x145 + y282)))), (88, v324), (89, .int .i64 (len x126)), (90, .int .i64 x149)] w328 := by
                  intro x317 x320 x323 w328 o329 v318 v321 v324 e_ hE h10 h319 h322 h325 hs
                  subst e_
                  have hx274 := elimL hx274
                  try dsimp only at hx274
                  refine NK.sub (L' := [(3, .pointer (some ⟨sb, 0, none⟩)), (4, v318), (9, .int .i64 x95), (12, .int .i64 y102), (13, v321), (15, .int .i64 ((W (x145 + y282)))), (88, v324), (89, .int .i64 (len x126)), (90, .int .i64 x149)]) ⟨rfl, rfl, rfl, rfl, rfl, rfl, rfl, rfl, rfl, trivial⟩ ?_
                  refine hK280 _ _ ?_
                  refine CW.region ?_
                  refine WL.stepE (OW.pv (v := .int .i64 ((W (x149 + 1)))) rfl) rfl ?_
                  refine WL.stepE (OW.pv (v := .int .i64 ((W (x149 + 1)))) rfl) rfl ?_
                  refine WL.nil ?_
                  exact NK.sub (L' := [(3, .pointer (some ⟨sb, 0, none⟩)), (4, v318), (9, .int .i64 x95), (12, .int .i64 y102), (13, v321), (15, .int .i64 ((W (x145 + y282)))), (88, v324), (89, .int .i64 (len x126)), (90, .int .i64 ((W (x149 + 1))))]) ⟨rfl, rfl, rfl, rfl, rfl, rfl, rfl, rfl, rfl, trivial⟩ (hk276 _ _ _ (Option.some.inj hx274).symm ⟨o329, x317, x320, (W (x145 + y282)), x323, (W (x149 + 1)), v318, v321, v324, rfl, rfl, hE, h10, h319, h322, h325, hs⟩)
                refine CW.sub (L' := [(3, .pointer (some ⟨sb, 0, none⟩)), (4, v291), (9, .int .i64 x95), (12, .int .i64 y102), (13, v294), (15, .int .i64 ((W (x145 + y282)))), (16, .int .i64 x149), (17, .int .i64 y282), (88, v297), (89, .int .i64 (len x126)), (90, .int .i64 x149), (114, .int .i64 (len x293)), (115, .int .i64 0)]) ⟨rfl, rfl, rfl, rfl, rfl, rfl, rfl, rfl, rfl, rfl, rfl, rfl, rfl, trivial⟩ ?_
                refine CW.loop (dynposlaw17_BalanceShares_L3 x149 y282 x293) (fun s_ L_ w331 => ∃ (o332 : Cls) (x307 : (List Int)) (x310 : (List Int)) (x313 : (List Int)) (x316 : Int) (v308 v311 v314 : Value), (x307, x310, x313, x316) = s_ ∧ L_ = [(3, .pointer (some ⟨sb, 0, none⟩)), (4, v308), (9, .int .i64 x95), (12, .int .i64 y102), (13, v311), (15, .int .i64 ((W (x145 + y282)))), (16, .int .i64 x149), (17, .int .i64 y282), (88, v314), (89, .int .i64 (len x126)), (90, .int .i64 x149), (114, .int .i64 (len x293)), (115, .int .i64 x316)] ∧ Ent w0 none o332 w331 ∧ Rv (In o332 [0]) w331 sv y3 ∧ Rv (In o332 [3]) w331 v308 x307 ∧ Rv (In o332 [10]) w331 v311 x310 ∧ Rv (In o332 [10]) w331 v314 x313 ∧ SrcC o332 2 w331 sb sv y3 st103) hl326 ?_ ?_
                · exact ⟨o302, x290, x293, x296, 0, v291, v294, v297, rfl, rfl, hE, h10, h292, h295, h298, hs⟩
                intro K333 s_ L_ w331 hi_ x334 hx335 hr336 hk337
                obtain ⟨o332, x307, x310, x313, x316, v308, v311, v314, rfl, rfl, hE, h10, h309, h312, h315, hs⟩ := hi_
                rw [dynposlaw17_BalanceShares_L3] at hx335
                refine CW.seq fun K338 hK338 => ?_
                refine CW.region ?_
                refine WL.stepE (OW.pv (v := .bool ((decide (x316 < (len x293))))) rfl) rfl ?_
                refine WL.nil ?_
                refine NK.sub (L' := [(3, .pointer (some ⟨sb, 0, none⟩)), (4, v308), (9, .int .i64 x95), (12, .int .i64 y102), (13, v311), (15, .int .i64 ((W (x145 + y282)))), (16, .int .i64 x149), (17, .int .i64 y282), (88, v314), (89, .int .i64 (len x126)), (90, .int .i64 x149), (114, .int .i64 (len x293)), (115, .int .i64 x316), (116, .bool ((decide (x316 < (len x293)))))]) ⟨rfl, rfl, rfl, rfl, rfl, rfl, rfl, rfl, rfl, rfl, rfl, rfl, rfl, rfl, trivial⟩ ?_
                refine hK338 _ _ ?_
                refine CW.seq fun K339 hK339 => ?_
                refine CW.cond (b := (decide (x316 < (len x293)))) rfl (fun hc340 => ?_) (fun hc340 => ?_)
                · have hx335 := iteT hc340 hx335
                  refine CW.skip ?_
                  refine NK.sub (L' := [(3, .pointer (some ⟨sb, 0, none⟩)), (4, v308), (9, .int .i64 x95), (12, .int .i64 y102), (13, v311), (15, .int .i64 ((W (x145 + y282)))), (16, .int .i64 x149), (17, .int .i64 y282), (88, v314), (89, .int .i64 (len x126)), (90, .int .i64 x149), (114, .int .i64 (len x293)), (115, .int .i64 x316)]) ⟨rfl, rfl, rfl, rfl, rfl, rfl, rfl, rfl, rfl, rfl, rfl, rfl, rfl, trivial⟩ ?_
                  refine hK339 _ _ ?_
                  refine CW.seq fun K341 hK341 => ?_
                  refine CW.block ?_
                  refine CW.seq fun K342 hK342 => ?_
                  refine CW.region ?_
                  refine WL.stepE (OW.pv (v := .int .i64 x316) rfl) rfl ?_
                  refine WL.stepE (OW.pv (v := .int .i64 x316) rfl) rfl ?_
                  refine WL.nil ?_
                  refine NK.sub (L' := [(3, .pointer (some ⟨sb, 0, none⟩)), (4, v308), (9, .int .i64 x95), (12, .int .i64 y102), (13, v311), (15, .int .i64 ((W (x145 + y282)))), (16, .int .i64 x149), (17, .int .i64 y282), (18, .int .i64 x316), (88, v314), (89, .int .i64 (len x126)), (90, .int .i64 x149), (114, .int .i64 (len x293)), (115, .int .i64 x316)]) ⟨rfl, rfl, rfl, rfl, rfl, rfl, rfl, rfl, rfl, rfl, rfl, rfl, rfl, rfl, trivial⟩ ?_
                  refine hK342 _ _ ?_
                  refine CW.seq fun K343 hK343 => ?_
                  obtain ⟨y344, q348, hx335⟩ := bindE hx335
                  obtain ⟨y349, q353, hx335⟩ := bindE hx335
                  obtain ⟨z_, q364, hx335⟩ := bindE hx335
                  obtain ⟨x354, x357, x360, x363⟩ := z_
                  try dsimp only at hx335
                  have hJ367 : ∀ (w365 : World) (o366 : Cls) (v355 v358 v361 : Value), Ent w0 none o366 w365 → Rv (In o366 [0]) w365 sv y3 → Rv (In o366 [3]) w365 v355 x354 → Rv (In o366 [10]) w365 v358 x357 → Rv (In o366 [10]) w365 v361 x360 → SrcC o366 2 w365 sb sv y3 st103 → NK 204 K343 [(3, .pointer (some ⟨sb, 0, none⟩)), (4, v355), (9, .int .i64 x95), (12, .int .i64 y102), (13, v358), (15, .int .i64 ((W (x145 + y282)))), (16, .int .i64 x149), (17, .int .i64 y282), (88, v361), (89, .int .i64 (len x126)), (90, .int .i64 x149), (114, .int .i64 (len x293)), (115, .int .i64 x316), (157, .bool x363)] w365 := by
                    intro w365 o366 v355 v358 v361 hE h10 h356 h359 h362 hs
                    refine NK.sub (L' := [(3, .pointer (some ⟨sb, 0, none⟩)), (4, v355), (9, .int .i64 x95), (12, .int .i64 y102), (13, v358), (15, .int .i64 ((W (x145 + y282)))), (16, .int .i64 x149), (17, .int .i64 y282), (88, v361), (89, .int .i64 (len x126)), (90, .int .i64 x149), (114, .int .i64 (len x293)), (115, .int .i64 x316), (157, .bool x363)]) ⟨rfl, rfl, rfl, rfl, rfl, rfl, rfl, rfl, rfl, rfl, rfl, rfl, rfl, rfl, trivial⟩ ?_
                    refine hK343 _ _ ?_
                    refine CW.cond (b := x363) rfl (fun hc368 => ?_) (fun hc368 => ?_)
                    · have hx335 := iteT hc368 hx335
                      refine CW.seq fun K369 hK369 => ?_
                      refine CW.region ?_
                      refine WL.stepE (OW.pv (v := .bool false) rfl) rfl ?_
                      refine WL.nil ?_
                      refine NK.sub (L' := [(2, .bool false)]) ⟨rfl, trivial⟩ ?_
                      refine hK369 _ _ ?_
                      have e_ := hr336 _ (Option.some.inj hx335).symm
                      subst e_
                      have hx274 := elimR hx274
                      have e_ := hr275 _ (Option.some.inj hx274).symm
                      subst e_
                      have hF := elimR hF
                      obtain rfl := Option.some.inj hF
                      exact CW.rets (vs := [.bool false]) Try.results4 ⟨rfl, trivial⟩ ⟨_, rfl, hE.fresh, rfl⟩ (fun _ _ h => h)
                    · have hx335 := iteF hc368 hx335
                      refine CW.skip ?_
                      refine NK.sub (L' := [(3, .pointer (some ⟨sb, 0, none⟩)), (4, v355), (9, .int .i64 x95), (12, .int .i64 y102), (13, v358), (15, .int .i64 ((W (x145 + y282)))), (16, .int .i64 x149), (17, .int .i64 y282), (88, v361), (89, .int .i64 (len x126)), (90, .int .i64 x149), (114, .int .i64 (len x293)), (115, .int .i64 x316)]) ⟨rfl, rfl, rfl, rfl, rfl, rfl, rfl, rfl, rfl, rfl, rfl, rfl, rfl, trivial⟩ ?_
                      refine hK341 _ _ ?_
                      refine CW.region ?_
                      refine WL.stepE (OW.pv (v := .int .i64 ((W (x316 + 1)))) rfl) rfl ?_
                      refine WL.stepE (OW.pv (v := .int .i64 ((W (x316 + 1)))) rfl) rfl ?_
                      refine WL.nil ?_
                      exact NK.sub (L' := [(3, .pointer (some ⟨sb, 0, none⟩)), (4, v355), (9, .int .i64 x95), (12, .int .i64 y102), (13, v358), (15, .int .i64 ((W (x145 + y282)))), (16, .int .i64 x149), (17, .int .i64 y282), (88, v361), (89, .int .i64 (len x126)), (90, .int .i64 x149), (114, .int .i64 (len x293)), (115, .int .i64 ((W (x316 + 1))))]) ⟨rfl, rfl, rfl, rfl, rfl, rfl, rfl, rfl, rfl, rfl, rfl, rfl, rfl, trivial⟩ (hk337 _ _ _ (Option.some.inj hx335).symm ⟨o366, x354, x357, x360, (W (x316 + 1)), v355, v358, v361, rfl, rfl, hE, h10, h356, h359, h362, hs⟩)
                  rcases Bool.eq_false_or_eq_true (((y344 == y349))) with hc370 | hc370
                  · have q364 := iteT hc370 q364
                    obtain ⟨y371, q375, q364⟩ := bindE q364
                    obtain ⟨z_, q392, q364⟩ := bindE q364
                    obtain ⟨x376, x379, x382, x385, x388, x389, x390, x391⟩ := z_
                    try dsimp only at q364
                    have hJ395 : ∀ (w393 : World) (o394 : Cls) (v377 v380 v383 v386 : Value), Ent w0 none o394 w393 → Rv (In o394 [0]) w393 sv y3 → Rv (In o394 [3]) w393 v377 x376 → Rv (In o394 [10]) w393 v380 x379 → Rv (In o394 [10]) w393 v383 x382 → Rv (In o394 [10]) w393 v386 x385 → SrcC o394 2 w393 sb sv y3 st103 → NK 204 K343 [(3, .pointer (some ⟨sb, 0, none⟩)), (4, v377), (9, .int .i64 x95), (12, .int .i64 y102), (13, v380), (15, .int .i64 ((W (x145 + y282)))), (16, .int .i64 x149), (17, .int .i64 y282), (88, v383), (89, .int .i64 (len x126)), (90, .int .i64 x149), (114, .int .i64 (len x293)), (115, .int .i64 x316), (128, .int .i64 y282), (129, v386), (130, .int .i64 x316), (132, .int .i64 y371), (133, .int .i64 ((W (y282 - y371)))), (134, .bool ((decide (((W (y282 - y371))) > 1)))), (135, .bool ((decide (((W (y282 - y371))) > 1)))), (143, .bool x388), (144, .bool x389), (156, .bool x390), (157, .bool x391)] w393 := by
                      intro w393 o394 v377 v380 v383 v386 hE h10 h378 h381 h384 h387 hs
                      have e396 := Option.some.inj q364
                      obtain ⟨e397, e398⟩ := Prod.mk.inj e396
                      obtain ⟨e399, e400⟩ := Prod.mk.inj e398
                      obtain ⟨e401, e402⟩ := Prod.mk.inj e400
                      subst e397 e399 e401 e402
                      exact NK.sub (L' := [(3, .pointer (some ⟨sb, 0, none⟩)), (4, v377), (9, .int .i64 x95), (12, .int .i64 y102), (13, v380), (15, .int .i64 ((W (x145 + y282)))), (16, .int .i64 x149), (17, .int .i64 y282), (88, v383), (89, .int .i64 (len x126)), (90, .int .i64 x149), (114, .int .i64 (len x293)), (115, .int .i64 x316), (157, .bool x391)]) ⟨rfl, rfl, rfl, rfl, rfl, rfl, rfl, rfl, rfl, rfl, rfl, rfl, rfl, rfl, trivial⟩ (hJ367 w393 o394 v377 v380 v383 hE h10 h378 h381 h384 hs)
                    rcases Bool.eq_false_or_eq_true ((decide (((W (y282 - y371))) > 1))) with hc403 | hc403
                    · have q392 := iteT hc403 q392
                      have ev_ := Evo.drew o332 w331
                      refine CW.any (ow := o332) hmix [⟨none, none, [0], [], fun x_ o_ w_ => Rv (In o_ [0]) w_ sv y3⟩, ⟨none, none, [3], [], fun x_ o_ w_ => Rv (In o_ [3]) w_ v308 x307⟩, ⟨none, none, [10], [], fun x_ o_ w_ => Rv (In o_ [10]) w_ v311 x310⟩, ⟨none, none, [10], [], fun x_ o_ w_ => Rv (In o_ [10]) w_ v314 x313⟩, ⟨none, none, [2], [], fun x_ o_ w_ => SrcC o_ 2 w_ sb sv y3 st103⟩, ⟨some 2, none, [3], [2], fun x_ o_ w_ => PtrAt (In o_ [3]) w_ (pOf (x_.getD 0 undef)) y344⟩, ⟨some 2, none, [], [2], fun x_ o_ w_ => EPtr v308 1 x149 (pOf (x_.getD 0 undef))⟩, ⟨some 6, none, [3], [6], fun x_ o_ w_ => PtrAt (In o_ [3]) w_ (pOf (x_.getD 0 undef)) y349⟩, ⟨some 6, none, [], [6], fun x_ o_ w_ => EPtr v308 1 x316 (pOf (x_.getD 0 undef))⟩, ⟨some 13, none, [10], [13], fun x_ o_ w_ => PtrAt (In o_ [10]) w_ (pOf (x_.getD 0 undef)) y371⟩, ⟨some 13, none, [], [13], fun x_ o_ w_ => EPtr v311 1 x316 (pOf (x_.getD 0 undef))⟩] [⟨[], [], [], [], fun x_ => v308, false⟩, ⟨[], [], [], [], fun x_ => .int .i64 x149, false⟩, ⟨[], [1], [0, 1], [2], fun x_ => .pointer (some (pOf (x_.getD 0 undef))), false⟩, ⟨[], [5], [0, 1, 2], [], fun x_ => .int .i64 y344, false⟩, ⟨[], [], [], [], fun x_ => v308, false⟩, ⟨[], [], [], [], fun x_ => .int .i64 x316, false⟩, ⟨[], [1], [4, 5], [6], fun x_ => .pointer (some (pOf (x_.getD 0 undef))), false⟩, ⟨[], [7], [4, 5, 6], [], fun x_ => .int .i64 y349, false⟩, ⟨[], [], [0, 1, 2, 3, 4, 5, 6, 7], [], fun x_ => .bool (((y344 == y349))), false⟩, ⟨[], [], [0, 1, 2, 3, 4, 5, 6, 7, 8], [], fun x_ => .bool (((y344 == y349))), false⟩, ⟨[], [], [0, 1, 2, 3, 4, 5, 6, 7, 8, 9], [], fun x_ => .int .i64 y282, false⟩, ⟨[], [], [0, 1, 2, 3, 4, 5, 6, 7, 8, 9], [], fun x_ => v311, false⟩, ⟨[], [], [0, 1, 2, 3, 4, 5, 6, 7, 8, 9], [], fun x_ => .int .i64 x316, false⟩, ⟨[], [2], [0, 1, 2, 3, 4, 5, 6, 7, 8, 9, 11, 12], [13], fun x_ => .pointer (some (pOf (x_.getD 0 undef))), false⟩, ⟨[], [9], [0, 1, 2, 3, 4, 5, 6, 7, 8, 9, 11, 12, 13], [], fun x_ => .int .i64 y371, false⟩, ⟨[], [], [0, 1, 2, 3, 4, 5, 6, 7, 8, 9, 10, 11, 12, 13, 14], [], fun x_ => .int .i64 ((W (y282 - y371))), false⟩, ⟨[], [], [0, 1, 2, 3, 4, 5, 6, 7, 8, 9, 10, 11, 12, 13, 14, 15], [], fun x_ => .bool ((decide (((W (y282 - y371))) > 1))), false⟩, ⟨[], [], [0, 1, 2, 3, 4, 5, 6, 7, 8, 9, 10, 11, 12, 13, 14, 15, 16], [], fun x_ => .bool ((decide (((W (y282 - y371))) > 1))), false⟩, ⟨[], [], [0, 1, 2, 3, 4, 5, 6, 7, 8, 9, 10, 11, 12, 13, 14, 15, 16, 17], [], fun x_ => undef, true⟩, ⟨[], [], [0, 1, 2, 3, 4, 5, 6, 7, 8, 9, 10, 11, 12, 13, 14, 15, 16, 17], [], fun x_ => undef, true⟩, ⟨[], [], [0, 1, 2, 3, 4, 5, 6, 7, 8, 9, 10, 11, 12, 13, 14, 15, 16, 17, 18, 19], [], fun x_ => undef, true⟩, ⟨[], [], [0, 1, 2, 3, 4, 5, 6, 7, 8, 9, 10, 11, 12, 13, 14, 15, 16, 17, 18, 19, 20], [], fun x_ => undef, true⟩, ⟨[], [], [0, 1, 2, 3, 4, 5, 6, 7, 8, 9, 10, 11, 12, 13, 14, 15, 16, 17], [], fun x_ => undef, true⟩, ⟨[], [], [0, 1, 2, 3, 4, 5, 6, 7, 8, 9, 10, 11, 12, 13, 14, 15, 16, 17, 18, 19, 20, 21, 22], [], fun x_ => undef, true⟩, ⟨[], [], [0, 1, 2, 3, 4, 5, 6, 7, 8, 9, 10, 11, 12, 13, 14, 15, 16, 17, 18, 19, 20, 21, 22, 23], [], fun x_ => undef, true⟩, ⟨[], [], [0, 1, 2, 3, 4, 5, 6, 7, 8, 9, 10, 11, 12, 13, 14, 15, 16, 17, 18, 19, 20, 21, 22, 23, 24], [], fun x_ => .bool true, false⟩, ⟨[], [], [0, 1, 2, 3, 4, 5, 6, 7, 8, 9, 10, 11, 12, 13, 14, 15, 16, 17, 18, 19, 20, 21, 22, 23, 24, 25], [], fun x_ => .bool true, false⟩, ⟨[], [], [0, 1, 2, 3, 4, 5, 6, 7, 8, 9, 10, 11, 12, 13, 14, 15, 16, 17, 18, 19, 20, 21, 22, 23, 24, 25, 26], [], fun x_ => undef, true⟩, ⟨[], [], [0, 1, 2, 3, 4, 5, 6, 7, 8, 9, 10, 11, 12, 13, 14, 15, 16, 17, 18, 19, 20, 21, 22, 23, 24, 25, 26], [], fun x_ => undef, true⟩, ⟨[], [], [0, 1, 2, 3, 4, 5, 6, 7, 8, 9, 10, 11, 12, 13, 14, 15, 16, 17, 18, 19, 20, 21, 22, 23, 24, 25, 26, 27, 28], [], fun x_ => undef, true⟩, ⟨[], [], [0, 1, 2, 3, 4, 5, 6, 7, 8, 9, 10, 11, 12, 13, 14, 15, 16, 17, 18, 19, 20, 21, 22, 23, 24, 25, 26, 27, 28, 29], [], fun x_ => undef, true⟩, ⟨[], [], [0, 1, 2, 3, 4, 5, 6, 7, 8, 9, 10, 11, 12, 13, 14, 15, 16, 17, 18, 19, 20, 21, 22, 23, 24, 25, 26, 27, 28, 29, 30], [], fun x_ => undef, true⟩, ⟨[], [], [0, 1, 2, 3, 4, 5, 6, 7, 8, 9, 10, 11, 12, 13, 14, 15, 16, 17, 18, 19, 20, 21, 22, 23, 24, 25, 26, 27, 28, 29, 30], [], fun x_ => undef, true⟩, ⟨[], [], [0, 1, 2, 3, 4, 5, 6, 7, 8, 9, 10, 11, 12, 13, 14, 15, 16, 17, 18, 19, 20, 21, 22, 23, 24, 25, 26, 27, 28, 29, 30], [], fun x_ => undef, true⟩, ⟨[], [], [0, 1, 2, 3, 4, 5, 6, 7, 8, 9, 10, 11, 12, 13, 14, 15, 16, 17, 18, 19, 20, 21, 22, 23, 24, 25, 26, 27, 28, 29, 30, 32, 33], [], fun x_ => undef, true⟩, ⟨[], [], [0, 1, 2, 3, 4, 5, 6, 7, 8, 9, 10, 11, 12, 13, 14, 15, 16, 17, 18, 19, 20, 21, 22, 23, 24, 25, 26, 27, 28, 29, 30, 32, 33, 34], [], fun x_ => undef, true⟩, ⟨[], [], [0, 1, 2, 3, 4, 5, 6, 7, 8, 9, 10, 11, 12, 13, 14, 15, 16, 17, 18, 19, 20, 21, 22, 23, 24, 25, 26, 27, 28, 29, 30, 31, 32, 33, 34, 35], [], fun x_ => undef, true⟩, ⟨[], [], [0, 1, 2, 3, 4, 5, 6, 7, 8, 9, 10, 11, 12, 13, 14, 15, 16, 17, 18, 19, 20, 21, 22, 23, 24, 25, 26, 27, 28, 29, 30, 31, 32, 33, 34, 35, 36], [], fun x_ => undef, true⟩, ⟨[], [], [0, 1, 2, 3, 4, 5, 6, 7, 8, 9, 10, 11, 12, 13, 14, 15, 16, 17, 18, 19, 20, 21, 22, 23, 24, 25, 26, 27, 28, 29, 30, 31, 32, 33, 34, 35, 36, 37], [], fun x_ => .bool true, false⟩, ⟨[], [], [0, 1, 2, 3, 4, 5, 6, 7, 8, 9, 10, 11, 12, 13, 14, 15, 16, 17, 18, 19, 20, 21, 22, 23, 24, 25, 26, 27, 28, 29, 30, 31, 32, 33, 34, 35, 36, 37, 38], [], fun x_ => .bool true, false⟩] [] [] (fun o_ w_ => Ent w0 none o_ w_) (by kernel_rfl) (by kernel_rfl) ⟨fun _ _ _ _ _ _ ev hd h => Rv.evo h ev hd, fun _ _ _ _ _ _ ev hd h => Rv.evo h ev hd, fun _ _ _ _ _ _ ev hd h => Rv.evo h ev hd, fun _ _ _ _ _ _ ev hd h => Rv.evo h ev hd, fun _ _ _ _ _ _ ev hd h => SrcC.evo h ev hd, fun _ _ _ _ _ _ ev hd h => PtrAt.evo h ev hd, fun _ _ _ _ _ _ _ _ h => h, fun _ _ _ _ _ _ ev hd h => PtrAt.evo h ev hd, fun _ _ _ _ _ _ _ _ h => h, fun _ _ _ _ _ _ ev hd h => PtrAt.evo h ev hd, fun _ _ _ _ _ _ _ _ h => h, trivial⟩ (Ent.any rfl rfl) ⟨hE.evo ev_ rfl rfl, ⟨h10.evo ev_ rfl, h309.evo ev_ rfl, h312.evo ev_ rfl, h315.evo ev_ rfl, hs.evo ev_ rfl, trivial⟩⟩ ⟨?_, ?_, ?_, ?_, ?_, ?_, ?_, ?_, ?_, ?_, ?_, ?_, ?_, ?_, ?_, ?_, ?_, ?_, ?_, ?_, ?_, ?_, ?_, ?_, ?_, ?_, ?_, ?_, ?_, ?_, ?_, ?_, ?_, ?_, ?_, ?_, ?_, ?_, ?_, ?_, trivial⟩ ?_
                      · intro vs404 o_ w_ hE 
                        refine OW.imp (OW.fr (L' := [(4, v308)]) ⟨rfl, trivial⟩ (OW.pv (v := v308) rfl)) ?_
                        rintro _ _ ⟨rfl, rfl⟩
                        exact ⟨_, Evo.refl _ _ _ _, rfl, trivial⟩
                      · intro vs404 o_ w_ hE 
                        refine OW.imp (OW.fr (L' := [(16, .int .i64 x149)]) ⟨rfl, trivial⟩ (OW.pv (v := .int .i64 x149) rfl)) ?_
                        rintro _ _ ⟨rfl, rfl⟩
                        exact ⟨_, Evo.refl _ _ _ _, rfl, trivial⟩
                      · intro vs404 o_ w_ hE h309
                        have h309 : Rv (In o_ [3]) w_ v308 x307 := h309
                        refine OW.imp (OW.fr (L' := [(118, v308), (119, .int .i64 x149)]) ⟨rfl, rfl, trivial⟩ (OW.indexAddr Try.underlying22 ty3 rfl h309 rfl q348)) ?_
                        rintro _ _ ⟨rfl, ⟨pa345, hv_, hp346, he347⟩⟩
                        subst hv_
                        exact ⟨_, Evo.refl _ _ _ _, rfl, hp346, he347, trivial⟩
                      · intro vs404 o_ w_ hE hp346
                        have hp346 : PtrAt (In o_ [3]) w_ (pOf (vs404 2)) y344 := hp346
                        refine OW.imp (OW.fr (L' := [(120, .pointer (some (pOf (vs404 2))))]) ⟨rfl, trivial⟩ (OW.loadI ty3 rfl hp346)) ?_
                        rintro _ _ ⟨rfl, rfl⟩
                        exact ⟨_, Evo.refl _ _ _ _, rfl, trivial⟩
                      · intro vs404 o_ w_ hE 
                        refine OW.imp (OW.fr (L' := [(4, v308)]) ⟨rfl, trivial⟩ (OW.pv (v := v308) rfl)) ?_
                        rintro _ _ ⟨rfl, rfl⟩
                        exact ⟨_, Evo.refl _ _ _ _, rfl, trivial⟩
                      · intro vs404 o_ w_ hE 
                        refine OW.imp (OW.fr (L' := [(18, .int .i64 x316)]) ⟨rfl, trivial⟩ (OW.pv (v := .int .i64 x316) rfl)) ?_
                        rintro _ _ ⟨rfl, rfl⟩
                        exact ⟨_, Evo.refl _ _ _ _, rfl, trivial⟩
                      · intro vs404 o_ w_ hE h309
                        have h309 : Rv (In o_ [3]) w_ v308 x307 := h309
                        refine OW.imp (OW.fr (L' := [(122, v308), (123, .int .i64 x316)]) ⟨rfl, rfl, trivial⟩ (OW.indexAddr Try.underlying22 ty3 rfl h309 rfl q353)) ?_
                        rintro _ _ ⟨rfl, ⟨pa350, hv_, hp351, he352⟩⟩
                        subst hv_
                        exact ⟨_, Evo.refl _ _ _ _, rfl, hp351, he352, trivial⟩
                      · intro vs404 o_ w_ hE hp351
                        have hp351 : PtrAt (In o_ [3]) w_ (pOf (vs404 6)) y349 := hp351
                        refine OW.imp (OW.fr (L' := [(124, .pointer (some (pOf (vs404 6))))]) ⟨rfl, trivial⟩ (OW.loadI ty3 rfl hp351)) ?_
                        rintro _ _ ⟨rfl, rfl⟩
                        exact ⟨_, Evo.refl _ _ _ _, rfl, trivial⟩
                      · intro vs404 o_ w_ hE 
                        refine OW.imp (OW.fr (L' := [(121, .int .i64 y344), (125, .int .i64 y349)]) ⟨rfl, rfl, trivial⟩ (OW.pv (v := .bool (((y344 == y349)))) rfl)) ?_
                        rintro _ _ ⟨rfl, rfl⟩
                        exact ⟨_, Evo.refl _ _ _ _, rfl, trivial⟩
                      · intro vs404 o_ w_ hE 
                        refine OW.imp (OW.fr (L' := [(126, .bool (((y344 == y349))))]) ⟨rfl, trivial⟩ (OW.pv (v := .bool (((y344 == y349)))) rfl)) ?_
                        rintro _ _ ⟨rfl, rfl⟩
                        exact ⟨_, Evo.refl _ _ _ _, rfl, trivial⟩
                      · intro vs404 o_ w_ hE 
                        refine ⟨⟨_, rfl, congrArg (fun b => some (Value.bool b)) hc370⟩, ?_⟩
                        refine OW.imp (OW.fr (L' := [(17, .int .i64 y282)]) ⟨rfl, trivial⟩ (OW.pv (v := .int .i64 y282) rfl)) ?_
                        rintro _ _ ⟨rfl, rfl⟩
                        exact ⟨_, Evo.refl _ _ _ _, rfl, trivial⟩
                      · intro vs404 o_ w_ hE 
                        refine ⟨⟨_, rfl, congrArg (fun b => some (Value.bool b)) hc370⟩, ?_⟩
                        refine OW.imp (OW.fr (L' := [(13, v311)]) ⟨rfl, trivial⟩ (OW.pv (v := v311) rfl)) ?_
                        rintro _ _ ⟨rfl, rfl⟩
                        exact ⟨_, Evo.refl _ _ _ _, rfl, trivial⟩
                      · intro vs404 o_ w_ hE 
                        refine ⟨⟨_, rfl, congrArg (fun b => some (Value.bool b)) hc370⟩, ?_⟩
                        refine OW.imp (OW.fr (L' := [(18, .int .i64 x316)]) ⟨rfl, trivial⟩ (OW.pv (v := .int .i64 x316) rfl)) ?_
                        rintro _ _ ⟨rfl, rfl⟩
                        exact ⟨_, Evo.refl _ _ _ _, rfl, trivial⟩
                      · intro vs404 o_ w_ hE h312
                        have h312 : Rv (In o_ [10]) w_ v311 x310 := h312
                        refine ⟨⟨_, rfl, congrArg (fun b => some (Value.bool b)) hc370⟩, ?_⟩
                        refine OW.imp (OW.fr (L' := [(129, v311), (130, .int .i64 x316)]) ⟨rfl, rfl, trivial⟩ (OW.indexAddr Try.underlying22 ty3 rfl h312 rfl q375)) ?_
                        rintro _ _ ⟨rfl, ⟨pa372, hv_, hp373, he374⟩⟩
                        subst hv_
                        exact ⟨_, Evo.refl _ _ _ _, rfl, hp373, he374, trivial⟩
                      · intro vs404 o_ w_ hE hp373
                        have hp373 : PtrAt (In o_ [10]) w_ (pOf (vs404 13)) y371 := hp373
                        refine ⟨⟨_, rfl, congrArg (fun b => some (Value.bool b)) hc370⟩, ?_⟩
                        refine OW.imp (OW.fr (L' := [(131, .pointer (some (pOf (vs404 13))))]) ⟨rfl, trivial⟩ (OW.loadI ty3 rfl hp373)) ?_
                        rintro _ _ ⟨rfl, rfl⟩
                        exact ⟨_, Evo.refl _ _ _ _, rfl, trivial⟩
                      · intro vs404 o_ w_ hE 
                        refine ⟨⟨_, rfl, congrArg (fun b => some (Value.bool b)) hc370⟩, ?_⟩
                        refine OW.imp (OW.fr (L' := [(128, .int .i64 y282), (132, .int .i64 y371)]) ⟨rfl, rfl, trivial⟩ (OW.pv (v := .int .i64 ((W (y282 - y371)))) rfl)) ?_
                        rintro _ _ ⟨rfl, rfl⟩
                        exact ⟨_, Evo.refl _ _ _ _, rfl, trivial⟩
                      · intro vs404 o_ w_ hE 
                        refine ⟨⟨_, rfl, congrArg (fun b => some (Value.bool b)) hc370⟩, ?_⟩
                        refine OW.imp (OW.fr (L' := [(133, .int .i64 ((W (y282 - y371))))]) ⟨rfl, trivial⟩ (OW.pv (v := .bool ((decide (((W (y282 - y371))) > 1)))) rfl)) ?_
                        rintro _ _ ⟨rfl, rfl⟩
                        exact ⟨_, Evo.refl _ _ _ _, rfl, trivial⟩
                      · intro vs404 o_ w_ hE 
                        refine ⟨⟨_, rfl, congrArg (fun b => some (Value.bool b)) hc370⟩, ?_⟩
                        refine OW.imp (OW.fr (L' := [(134, .bool ((decide (((W (y282 - y371))) > 1))))]) ⟨rfl, trivial⟩ (OW.pv (v := .bool ((decide (((W (y282 - y371))) > 1)))) rfl)) ?_
                        rintro _ _ ⟨rfl, rfl⟩
                        exact ⟨_, Evo.refl _ _ _ _, rfl, trivial⟩
                      · intro vs404 o_ w_ hE 
                        exact ⟨⟨_, rfl, .inl (congrArg (fun b => some (Value.bool b)) hc403)⟩, rfl, trivial⟩
                      · intro vs404 o_ w_ hE 
                        exact ⟨⟨_, rfl, .inl (congrArg (fun b => some (Value.bool b)) hc403)⟩, rfl, trivial⟩
                      · intro vs404 o_ w_ hE 
                        exact ⟨⟨_, rfl, .inl (congrArg (fun b => some (Value.bool b)) hc403)⟩, rfl, trivial⟩
                      · intro vs404 o_ w_ hE 
                        exact ⟨⟨_, rfl, .inl (congrArg (fun b => some (Value.bool b)) hc403)⟩, rfl, trivial⟩
                      · intro vs404 o_ w_ hE 
                        exact ⟨⟨_, rfl, .inl (congrArg (fun b => some (Value.bool b)) hc403)⟩, rfl, trivial⟩
                      · intro vs404 o_ w_ hE 
                        exact ⟨⟨_, rfl, .inl (congrArg (fun b => some (Value.bool b)) hc403)⟩, rfl, trivial⟩
                      · intro vs404 o_ w_ hE 
                        exact ⟨⟨_, rfl, .inl (congrArg (fun b => some (Value.bool b)) hc403)⟩, rfl, trivial⟩
                      · intro vs404 o_ w_ hE 
                        refine ⟨⟨_, rfl, congrArg (fun b => some (Value.bool b)) hc370⟩, ?_⟩
                        refine OW.imp (OW.fr (L' := [(135, .bool ((decide (((W (y282 - y371))) > 1)))), (142, undef)]) ⟨rfl, rfl, trivial⟩ (OW.pickT rfl hc403 rfl)) ?_
                        rintro _ _ ⟨rfl, rfl⟩
                        exact ⟨_, Evo.refl _ _ _ _, rfl, trivial⟩
                      · intro vs404 o_ w_ hE 
                        refine ⟨⟨_, rfl, congrArg (fun b => some (Value.bool b)) hc370⟩, ?_⟩
                        refine OW.imp (OW.fr (L' := [(143, .bool true)]) ⟨rfl, trivial⟩ (OW.pv (v := .bool true) rfl)) ?_
                        rintro _ _ ⟨rfl, rfl⟩
                        exact ⟨_, Evo.refl _ _ _ _, rfl, trivial⟩
                      · intro vs404 o_ w_ hE 
                        exact ⟨⟨_, rfl, .inl rfl⟩, rfl, trivial⟩
                      · intro vs404 o_ w_ hE 
                        exact ⟨⟨_, rfl, .inl rfl⟩, rfl, trivial⟩
                      · intro vs404 o_ w_ hE 
                        exact ⟨⟨_, rfl, .inl rfl⟩, rfl, trivial⟩
                      · intro vs404 o_ w_ hE 
                        exact ⟨⟨_, rfl, .inl rfl⟩, rfl, trivial⟩
                      · intro vs404 o_ w_ hE 
                        exact ⟨⟨_, rfl, .inr rfl⟩, rfl, trivial⟩
                      · intro vs404 o_ w_ hE 
                        exact ⟨⟨_, rfl, .inr rfl⟩, rfl, trivial⟩
                      · intro vs404 o_ w_ hE 
                        exact ⟨⟨_, rfl, .inr rfl⟩, rfl, trivial⟩
                      · intro vs404 o_ w_ hE 
                        exact ⟨⟨_, rfl, .inr rfl⟩, rfl, trivial⟩
                      · intro vs404 o_ w_ hE 
                        exact ⟨⟨_, rfl, .inr rfl⟩, rfl, trivial⟩
                      · intro vs404 o_ w_ hE 
                        exact ⟨⟨_, rfl, .inr rfl⟩, rfl, trivial⟩
                      · intro vs404 o_ w_ hE 
                        exact ⟨⟨_, rfl, .inl rfl⟩, rfl, trivial⟩
                      · intro vs404 o_ w_ hE 
                        refine ⟨⟨_, rfl, congrArg (fun b => some (Value.bool b)) hc370⟩, ?_⟩
                        refine OW.imp (OW.fr (L' := [(144, .bool true), (155, undef)]) ⟨rfl, rfl, trivial⟩ (OW.pickT rfl rfl rfl)) ?_
                        rintro _ _ ⟨rfl, rfl⟩
                        exact ⟨_, Evo.refl _ _ _ _, rfl, trivial⟩
                      · intro vs404 o_ w_ hE 
                        refine OW.imp (OW.fr (L' := [(127, .bool (((y344 == y349)))), (156, .bool true)]) ⟨rfl, rfl, trivial⟩ (OW.pickT rfl hc370 rfl)) ?_
                        rintro _ _ ⟨rfl, rfl⟩
                        exact ⟨_, Evo.refl _ _ _ _, rfl, trivial⟩
                      · intro vs404 o406 w405 hE h10 h309 h312 h315 hs hp346 he347 hp351 he352 hp373 he374
                        have h10 : Rv (In o406 [0]) w405 sv y3 := h10
                        have h309 : Rv (In o406 [3]) w405 v308 x307 := h309
                        have h312 : Rv (In o406 [10]) w405 v311 x310 := h312
                        have h315 : Rv (In o406 [10]) w405 v314 x313 := h315
                        have hs : SrcC o406 2 w405 sb sv y3 st103 := hs
                        have hp346 : PtrAt (In o406 [3]) w405 (pOf (vs404 2)) y344 := hp346
                        have he347 : EPtr v308 1 x149 (pOf (vs404 2)) := he347
                        have hp351 : PtrAt (In o406 [3]) w405 (pOf (vs404 6)) y349 := hp351
                        have he352 : EPtr v308 1 x316 (pOf (vs404 6)) := he352
                        have hp373 : PtrAt (In o406 [10]) w405 (pOf (vs404 13)) y371 := hp373
                        have he374 : EPtr v311 1 x316 (pOf (vs404 13)) := he374
                        have e407 := Option.some.inj q392
                        obtain ⟨e408, e409⟩ := Prod.mk.inj e407
                        obtain ⟨e410, e411⟩ := Prod.mk.inj e409
                        obtain ⟨e412, e413⟩ := Prod.mk.inj e411
                        obtain ⟨e414, e415⟩ := Prod.mk.inj e413
                        obtain ⟨e416, e417⟩ := Prod.mk.inj e415
                        obtain ⟨e418, e419⟩ := Prod.mk.inj e417
                        obtain ⟨e420, e421⟩ := Prod.mk.inj e419
                        subst e408 e410 e412 e414 e416 e418 e420 e421
                        exact NK.sub (L' := [(3, .pointer (some ⟨sb, 0, none⟩)), (4, v308), (9, .int .i64 x95), (12, .int .i64 y102), (13, v311), (15, .int .i64 ((W (x145 + y282)))), (16, .int .i64 x149), (17, .int .i64 y282), (88, v314), (89, .int .i64 (len x126)), (90, .int .i64 x149), (114, .int .i64 (len x293)), (115, .int .i64 x316), (128, .int .i64 y282), (129, v311), (130, .int .i64 x316), (132, .int .i64 y371), (133, .int .i64 ((W (y282 - y371)))), (134, .bool ((decide (((W (y282 - y371))) > 1)))), (135, .bool ((decide (((W (y282 - y371))) > 1)))), (143, .bool true), (144, .bool true), (156, .bool true), (157, .bool true)]) ⟨rfl, rfl, rfl, rfl, rfl, rfl, rfl, rfl, rfl, rfl, rfl, rfl, rfl, rfl, rfl, rfl, rfl, rfl, rfl, rfl, rfl, rfl, rfl, rfl, trivial⟩ (hJ395 w405 o406 v308 v311 v314 v311 hE h10 h309 h312 h315 h312 hs)
                    · have q392 := iteF hc403 q392
                      obtain ⟨y422, q426, q392⟩ := bindE q392
                      obtain ⟨z_, q444, q392⟩ := bindE q392
                      obtain ⟨x427, x430, x433, x436, x439, x442, x443⟩ := z_
                      try dsimp only at q392
                      have hJ447 : ∀ (w445 : World) (o446 : Cls) (v428 v431 v434 v437 v440 : Value), Ent w0 none o446 w445 → Rv (In o446 [0]) w445 sv y3 → Rv (In o446 [3]) w445 v428 x427 → Rv (In o446 [10]) w445 v431 x430 → Rv (In o446 [10]) w445 v434 x433 → Rv (In o446 [10]) w445 v437 x436 → Rv (In o446 [10]) w445 v440 x439 → SrcC o446 2 w445 sb sv y3 st103 → NK 204 K343 [(3, .pointer (some ⟨sb, 0, none⟩)), (4, v428), (9, .int .i64 x95), (12, .int .i64 y102), (13, v431), (15, .int .i64 ((W (x145 + y282)))), (16, .int .i64 x149), (17, .int .i64 y282), (88, v434), (89, .int .i64 (len x126)), (90, .int .i64 x149), (114, .int .i64 (len x293)), (115, .int .i64 x316), (128, .int .i64 y282), (129, v437), (130, .int .i64 x316), (132, .int .i64 y371), (133, .int .i64 ((W (y282 - y371)))), (134, .bool ((decide (((W (y282 - y371))) > 1)))), (135, .bool ((decide (((W (y282 - y371))) > 1)))), (136, v440), (137, .int .i64 x316), (139, .int .i64 y422), (140, .int .i64 y282), (141, .int .i64 ((W (y422 - y282)))), (142, .bool ((decide (((W (y422 - y282))) > 1)))), (143, .bool ((decide (((W (y422 - y282))) > 1)))), (144, .bool ((decide (((W (y422 - y282))) > 1)))), (156, .bool x442), (157, .bool x443)] w445 := by
                        intro w445 o446 v428 v431 v434 v437 v440 hE h10 h429 h432 h435 h438 h441 hs
                        have e448 := Option.some.inj q392
                        obtain ⟨e449, e450⟩ := Prod.mk.inj e448
                        obtain ⟨e451, e452⟩ := Prod.mk.inj e450
                        obtain ⟨e453, e454⟩ := Prod.mk.inj e452
                        obtain ⟨e455, e456⟩ := Prod.mk.inj e454
                        obtain ⟨e457, e458⟩ := Prod.mk.inj e456
                        obtain ⟨e459, e460⟩ := Prod.mk.inj e458
                        obtain ⟨e461, e462⟩ := Prod.mk.inj e460
                        subst e449 e451 e453 e455 e457 e459 e461 e462
                        exact NK.sub (L' := [(3, .pointer (some ⟨sb, 0, none⟩)), (4, v428), (9, .int .i64 x95), (12, .int .i64 y102), (13, v431), (15, .int .i64 ((W (x145 + y282)))), (16, .int .i64 x149), (17, .int .i64 y282), (88, v434), (89, .int .i64 (len x126)), (90, .int .i64 x149), (114, .int .i64 (len x293)), (115, .int .i64 x316), (128, .int .i64 y282), (129, v437), (130, .int .i64 x316), (132, .int .i64 y371), (133, .int .i64 ((W (y282 - y371)))), (134, .bool ((decide (((W (y282 - y371))) > 1)))), (135, .bool ((decide (((W (y282 - y371))) > 1)))), (143, .bool ((decide (((W (y422 - y282))) > 1)))), (144, .bool ((decide (((W (y422 - y282))) > 1)))), (156, .bool x442), (157, .bool x443)]) ⟨rfl, rfl, rfl, rfl, rfl, rfl, rfl, rfl, rfl, rfl, rfl, rfl, rfl, rfl, rfl, rfl, rfl, rfl, rfl, rfl, rfl, rfl, rfl, rfl, trivial⟩ (hJ395 w445 o446 v428 v431 v434 v437 hE h10 h429 h432 h435 h438 hs)
                      rcases Bool.eq_false_or_eq_true ((decide (((W (y422 - y282))) > 1))) with hc463 | hc463
                      · have q444 := iteT hc463 q444
                        have ev_ := Evo.drew o332 w331
                        refine CW.any (ow := o332) hmix [⟨none, none, [0], [], fun x_ o_ w_ => Rv (In o_ [0]) w_ sv y3⟩, ⟨none, none, [3], [], fun x_ o_ w_ => Rv (In o_ [3]) w_ v308 x307⟩, ⟨none, none, [10], [], fun x_ o_ w_ => Rv (In o_ [10]) w_ v311 x310⟩, ⟨none, none, [10], [], fun x_ o_ w_ => Rv (In o_ [10]) w_ v314 x313⟩, ⟨none, none, [2], [], fun x_ o_ w_ => SrcC o_ 2 w_ sb sv y3 st103⟩, ⟨some 2, none, [3], [2], fun x_ o_ w_ => PtrAt (In o_ [3]) w_ (pOf (x_.getD 0 undef)) y344⟩, ⟨some 2, none, [], [2], fun x_ o_ w_ => EPtr v308 1 x149 (pOf (x_.getD 0 undef))⟩, ⟨some 6, none, [3], [6], fun x_ o_ w_ => PtrAt (In o_ [3]) w_ (pOf (x_.getD 0 undef)) y349⟩, ⟨some 6, none, [], [6], fun x_ o_ w_ => EPtr v308 1 x316 (pOf (x_.getD 0 undef))⟩, ⟨some 13, none, [10], [13], fun x_ o_ w_ => PtrAt (In o_ [10]) w_ (pOf (x_.getD 0 undef)) y371⟩, ⟨some 13, none, [], [13], fun x_ o_ w_ => EPtr v311 1 x316 (pOf (x_.getD 0 undef))⟩, ⟨some 20, none, [10], [20], fun x_ o_ w_ => PtrAt (In o_ [10]) w_ (pOf (x_.getD 0 undef)) y422⟩, ⟨some 20, none, [], [20], fun x_ o_ w_ => EPtr v311 1 x316 (pOf (x_.getD 0 undef))⟩] [⟨[], [], [], [], fun x_ => v308, false⟩, ⟨[], [], [], [], fun x_ => .int .i64 x149, false⟩, ⟨[], [1], [0, 1], [2], fun x_ => .pointer (some (pOf (x_.getD 0 undef))), false⟩, ⟨[], [5], [0, 1, 2], [], fun x_ => .int .i64 y344, false⟩, ⟨[], [], [], [], fun x_ => v308, false⟩, ⟨[], [], [], [], fun x_ => .int .i64 x316, false⟩, ⟨[], [1], [4, 5], [6], fun x_ => .pointer (some (pOf (x_.getD 0 undef))), false⟩, ⟨[], [7], [4, 5, 6], [], fun x_ => .int .i64 y349, false⟩, ⟨[], [], [0, 1, 2, 3, 4, 5, 6, 7], [], fun x_ => .bool (((y344 == y349))), false⟩, ⟨[], [], [0, 1, 2, 3, 4, 5, 6, 7, 8], [], fun x_ => .bool (((y344 == y349))), false⟩, ⟨[], [], [0, 1, 2, 3, 4, 5, 6, 7, 8, 9], [], fun x_ => .int .i64 y282, false⟩, ⟨[], [], [0, 1, 2, 3, 4, 5, 6, 7, 8, 9], [], fun x_ => v311, false⟩, ⟨[], [], [0, 1, 2, 3, 4, 5, 6, 7, 8, 9], [], fun x_ => .int .i64 x316, false⟩, ⟨[], [2], [0, 1, 2, 3, 4, 5, 6, 7, 8, 9, 11, 12], [13], fun x_ => .pointer (some (pOf (x_.getD 0 undef))), false⟩, ⟨[], [9], [0, 1, 2, 3, 4, 5, 6, 7, 8, 9, 11, 12, 13], [], fun x_ => .int .i64 y371, false⟩, ⟨[], [], [0, 1, 2, 3, 4, 5, 6, 7, 8, 9, 10, 11, 12, 13, 14], [], fun x_ => .int .i64 ((W (y282 - y371))), false⟩, ⟨[], [], [0, 1, 2, 3, 4, 5, 6, 7, 8, 9, 10, 11, 12, 13, 14, 15], [], fun x_ => .bool ((decide (((W (y282 - y371))) > 1))), false⟩, ⟨[], [], [0, 1, 2, 3, 4, 5, 6, 7, 8, 9, 10, 11, 12, 13, 14, 15, 16], [], fun x_ => .bool ((decide (((W (y282 - y371))) > 1))), false⟩, ⟨[], [], [0, 1, 2, 3, 4, 5, 6, 7, 8, 9, 10, 11, 12, 13, 14, 15, 16, 17], [], fun x_ => v311, false⟩, ⟨[], [], [0, 1, 2, 3, 4, 5, 6, 7, 8, 9, 10, 11, 12, 13, 14, 15, 16, 17], [], fun x_ => .int .i64 x316, false⟩, ⟨[], [2], [0, 1, 2, 3, 4, 5, 6, 7, 8, 9, 10, 11, 12, 13, 14, 15, 16, 17, 18, 19], [20], fun x_ => .pointer (some (pOf (x_.getD 0 undef))), false⟩, ⟨[], [11], [0, 1, 2, 3, 4, 5, 6, 7, 8, 9, 10, 11, 12, 13, 14, 15, 16, 17, 18, 19, 20], [], fun x_ => .int .i64 y422, false⟩, ⟨[], [], [0, 1, 2, 3, 4, 5, 6, 7, 8, 9, 10, 11, 12, 13, 14, 15, 16, 17], [], fun x_ => .int .i64 y282, false⟩, ⟨[], [], [0, 1, 2, 3, 4, 5, 6, 7, 8, 9, 10, 11, 12, 13, 14, 15, 16, 17, 18, 19, 20, 21, 22], [], fun x_ => .int .i64 ((W (y422 - y282))), false⟩, ⟨[], [], [0, 1, 2, 3, 4, 5, 6, 7, 8, 9, 10, 11, 12, 13, 14, 15, 16, 17, 18, 19, 20, 21, 22, 23], [], fun x_ => .bool ((decide (((W (y422 - y282))) > 1))), false⟩, ⟨[], [], [0, 1, 2, 3, 4, 5, 6, 7, 8, 9, 10, 11, 12, 13, 14, 15, 16, 17, 18, 19, 20, 21, 22, 23, 24], [], fun x_ => .bool ((decide (((W (y422 - y282))) > 1))), false⟩, ⟨[], [], [0, 1, 2, 3, 4, 5, 6, 7, 8, 9, 10, 11, 12, 13, 14, 15, 16, 17, 18, 19, 20, 21, 22, 23, 24, 25], [], fun x_ => .bool ((decide (((W (y422 - y282))) > 1))), false⟩, ⟨[], [], [0, 1, 2, 3, 4, 5, 6, 7, 8, 9, 10, 11, 12, 13, 14, 15, 16, 17, 18, 19, 20, 21, 22, 23, 24, 25, 26], [], fun x_ => undef, true⟩, ⟨[], [], [0, 1, 2, 3, 4, 5, 6, 7, 8, 9, 10, 11, 12, 13, 14, 15, 16, 17, 18, 19, 20, 21, 22, 23, 24, 25, 26], [], fun x_ => undef, true⟩, ⟨[], [], [0, 1, 2, 3, 4, 5, 6, 7, 8, 9, 10, 11, 12, 13, 14, 15, 16, 17, 18, 19, 20, 21, 22, 23, 24, 25, 26, 27, 28], [], fun x_ => undef, true⟩, ⟨[], [], [0, 1, 2, 3, 4, 5, 6, 7, 8, 9, 10, 11, 12, 13, 14, 15, 16, 17, 18, 19, 20, 21, 22, 23, 24, 25, 26, 27, 28, 29], [], fun x_ => undef, true⟩, ⟨[], [], [0, 1, 2, 3, 4, 5, 6, 7, 8, 9, 10, 11, 12, 13, 14, 15, 16, 17, 18, 19, 20, 21, 22, 23, 24, 25, 26, 27, 28, 29, 30], [], fun x_ => undef, true⟩, ⟨[], [], [0, 1, 2, 3, 4, 5, 6, 7, 8, 9, 10, 11, 12, 13, 14, 15, 16, 17, 18, 19, 20, 21, 22, 23, 24, 25, 26, 27, 28, 29, 30], [], fun x_ => undef, true⟩, ⟨[], [], [0, 1, 2, 3, 4, 5, 6, 7, 8, 9, 10, 11, 12, 13, 14, 15, 16, 17, 18, 19, 20, 21, 22, 23, 24, 25, 26, 27, 28, 29, 30], [], fun x_ => undef, true⟩, ⟨[], [], [0, 1, 2, 3, 4, 5, 6, 7, 8, 9, 10, 11, 12, 13, 14, 15, 16, 17, 18, 19, 20, 21, 22, 23, 24, 25, 26, 27, 28, 29, 30, 32, 33], [], fun x_ => undef, true⟩, ⟨[], [], [0, 1, 2, 3, 4, 5, 6, 7, 8, 9, 10, 11, 12, 13, 14, 15, 16, 17, 18, 19, 20, 21, 22, 23, 24, 25, 26, 27, 28, 29, 30, 32, 33, 34], [], fun x_ => undef, true⟩, ⟨[], [], [0, 1, 2, 3, 4, 5, 6, 7, 8, 9, 10, 11, 12, 13, 14, 15, 16, 17, 18, 19, 20, 21, 22, 23, 24, 25, 26, 27, 28, 29, 30, 31, 32, 33, 34, 35], [], fun x_ => undef, true⟩, ⟨[], [], [0, 1, 2, 3, 4, 5, 6, 7, 8, 9, 10, 11, 12, 13, 14, 15, 16, 17, 18, 19, 20, 21, 22, 23, 24, 25, 26, 27, 28, 29, 30, 31, 32, 33, 34, 35, 36], [], fun x_ => undef, true⟩, ⟨[], [], [0, 1, 2, 3, 4, 5, 6, 7, 8, 9, 10, 11, 12, 13, 14, 15, 16, 17, 18, 19, 20, 21, 22, 23, 24, 25, 26, 27, 28, 29, 30, 31, 32, 33, 34, 35, 36, 37], [], fun x_ => .bool true, false⟩, ⟨[], [], [0, 1, 2, 3, 4, 5, 6, 7, 8, 9, 10, 11, 12, 13, 14, 15, 16, 17, 18, 19, 20, 21, 22, 23, 24, 25, 26, 27, 28, 29, 30, 31, 32, 33, 34, 35, 36, 37, 38], [], fun x_ => .bool true, false⟩] [] [] (fun o_ w_ => Ent w0 none o_ w_) (by kernel_rfl) (by kernel_rfl) ⟨fun _ _ _ _ _ _ ev hd h => Rv.evo h ev hd, fun _ _ _ _ _ _ ev hd h => Rv.evo h ev hd, fun _ _ _ _ _ _ ev hd h => Rv.evo h ev hd, fun _ _ _ _ _ _ ev hd h => Rv.evo h ev hd, fun _ _ _ _ _ _ ev hd h => SrcC.evo h ev hd, fun _ _ _ _ _ _ ev hd h => PtrAt.evo h ev hd, fun _ _ _ _ _ _ _ _ h => h, fun _ _ _ _ _ _ ev hd h => PtrAt.evo h ev hd, fun _ _ _ _ _ _ _ _ h => h, fun _ _ _ _ _ _ ev hd h => PtrAt.evo h ev hd, fun _ _ _ _ _ _ _ _ h => h, fun _ _ _ _ _ _ ev hd h => PtrAt.evo h ev hd, fun _ _ _ _ _ _ _ _ h => h, trivial⟩ (Ent.any rfl rfl) ⟨hE.evo ev_ rfl rfl, ⟨h10.evo ev_ rfl, h309.evo ev_ rfl, h312.evo ev_ rfl, h315.evo ev_ rfl, hs.evo ev_ rfl, trivial⟩⟩ ⟨?_, ?_, ?_, ?_, ?_, ?_, ?_, ?_, ?_, ?_, ?_, ?_, ?_, ?_, ?_, ?_, ?_, ?_, ?_, ?_, ?_, ?_, ?_, ?_, ?_, ?_, ?_, ?_, ?_, ?_, ?_, ?_, ?_, ?_, ?_, ?_, ?_, ?_, ?_, ?_, trivial⟩ ?_
                        · intro vs464 o_ w_ hE 
                          refine OW.imp (OW.fr (L' := [(4, v308)]) ⟨rfl, trivial⟩ (OW.pv (v := v308) rfl)) ?_
                          rintro _ _ ⟨rfl, rfl⟩
                          exact ⟨_, Evo.refl _ _ _ _, rfl, trivial⟩
                        · intro vs464 o_ w_ hE 
                          refine OW.imp (OW.fr (L' := [(16, .int .i64 x149)]) ⟨rfl, trivial⟩ (OW.pv (v := .int .i64 x149) rfl)) ?_
                          rintro _ _ ⟨rfl, rfl⟩
                          exact ⟨_, Evo.refl _ _ _ _, rfl, trivial⟩
                        · intro vs464 o_ w_ hE h309
                          have h309 : Rv (In o_ [3]) w_ v308 x307 := h309
                          refine OW.imp (OW.fr (L' := [(118, v308), (119, .int .i64 x149)]) ⟨rfl, rfl, trivial⟩ (OW.indexAddr Try.underlying22 ty3 rfl h309 rfl q348)) ?_
                          rintro _ _ ⟨rfl, ⟨pa345, hv_, hp346, he347⟩⟩
                          subst hv_
                          exact ⟨_, Evo.refl _ _ _ _, rfl, hp346, he347, trivial⟩
                        · intro vs464 o_ w_ hE hp346
                          have hp346 : PtrAt (In o_ [3]) w_ (pOf (vs464 2)) y344 := hp346
                          refine OW.imp (OW.fr (L' := [(120, .pointer (some (pOf (vs464 2))))]) ⟨rfl, trivial⟩ (OW.loadI ty3 rfl hp346)) ?_
                          rintro _ _ ⟨rfl, rfl⟩
                          exact ⟨_, Evo.refl _ _ _ _, rfl, trivial⟩
                        · intro vs464 o_ w_ hE 
                          refine OW.imp (OW.fr (L' := [(4, v308)]) ⟨rfl, trivial⟩ (OW.pv (v := v308) rfl)) ?_
                          rintro _ _ ⟨rfl, rfl⟩
                          exact ⟨_, Evo.refl _ _ _ _, rfl, trivial⟩
                        · intro vs464 o_ w_ hE 
                          refine OW.imp (OW.fr (L' := [(18, .int .i64 x316)]) ⟨rfl, trivial⟩ (OW.pv (v := .int .i64 x316) rfl)) ?_
                          rintro _ _ ⟨rfl, rfl⟩
                          exact ⟨_, Evo.refl _ _ _ _, rfl, trivial⟩
                        · intro vs464 o_ w_ hE h309
                          have h309 : Rv (In o_ [3]) w_ v308 x307 := h309
                          refine OW.imp (OW.fr (L' := [(122, v308), (123, .int .i64 x316)]) ⟨rfl, rfl, trivial⟩ (OW.indexAddr Try.underlying22 ty3 rfl h309 rfl q353)) ?_
                          rintro _ _ ⟨rfl, ⟨pa350, hv_, hp351, he352⟩⟩
                          subst hv_
                          exact ⟨_, Evo.refl _ _ _ _, rfl, hp351, he352, trivial⟩
                        · intro vs464 o_ w_ hE hp351
                          have hp351 : PtrAt (In o_ [3]) w_ (pOf (vs464 6)) y349 := hp351
                          refine OW.imp (OW.fr (L' := [(124, .pointer (some (pOf (vs464 6))))]) ⟨rfl, trivial⟩ (OW.loadI ty3 rfl hp351)) ?_
                          rintro _ _ ⟨rfl, rfl⟩
                          exact ⟨_, Evo.refl _ _ _ _, rfl, trivial⟩
                        · intro vs464 o_ w_ hE 
                          refine OW.imp (OW.fr (L' := [(121, .int .i64 y344), (125, .int .i64 y349)]) ⟨rfl, rfl, trivial⟩ (OW.pv (v := .bool (((y344 == y349)))) rfl)) ?_
                          rintro _ _ ⟨rfl, rfl⟩
                          exact ⟨_, Evo.refl _ _ _ _, rfl, trivial⟩
                        · intro vs464 o_ w_ hE 
                          refine OW.imp (OW.fr (L' := [(126, .bool (((y344 == y349))))]) ⟨rfl, trivial⟩ (OW.pv (v := .bool (((y344 == y349)))) rfl)) ?_
                          rintro _ _ ⟨rfl, rfl⟩
                          exact ⟨_, Evo.refl _ _ _ _, rfl, trivial⟩
                        · intro vs464 o_ w_ hE 
                          refine ⟨⟨_, rfl, congrArg (fun b => some (Value.bool b)) hc370⟩, ?_⟩
                          refine OW.imp (OW.fr (L' := [(17, .int .i64 y282)]) ⟨rfl, trivial⟩ (OW.pv (v := .int .i64 y282) rfl)) ?_
                          rintro _ _ ⟨rfl, rfl⟩
                          exact ⟨_, Evo.refl _ _ _ _, rfl, trivial⟩
                        · intro vs464 o_ w_ hE 
                          refine ⟨⟨_, rfl, congrArg (fun b => some (Value.bool b)) hc370⟩, ?_⟩
                          refine OW.imp (OW.fr (L' := [(13, v311)]) ⟨rfl, trivial⟩ (OW.pv (v := v311) rfl)) ?_
                          rintro _ _ ⟨rfl, rfl⟩
                          exact ⟨_, Evo.refl _ _ _ _, rfl, trivial⟩
                        · intro vs464 o_ w_ hE 
                          refine ⟨⟨_, rfl, congrArg (fun b => some (Value.bool b)) hc370⟩, ?_⟩
                          refine OW.imp (OW.fr (L' := [(18, .int .i64 x316)]) ⟨rfl, trivial⟩ (OW.pv (v := .int .i64 x316) rfl)) ?_
                          rintro _ _ ⟨rfl, rfl⟩
                          exact ⟨_, Evo.refl _ _ _ _, rfl, trivial⟩
                        · intro vs464 o_ w_ hE h312
                          have h312 : Rv (In o_ [10]) w_ v311 x310 := h312
                          refine ⟨⟨_, rfl, congrArg (fun b => some (Value.bool b)) hc370⟩, ?_⟩
                          refine OW.imp (OW.fr (L' := [(129, v311), (130, .int .i64 x316)]) ⟨rfl, rfl, trivial⟩ (OW.indexAddr Try.underlying22 ty3 rfl h312 rfl q375)) ?_
                          rintro _ _ ⟨rfl, ⟨pa372, hv_, hp373, he374⟩⟩
                          subst hv_
                          exact ⟨_, Evo.refl _ _ _ _, rfl, hp373, he374, trivial⟩
                        · intro vs464 o_ w_ hE hp373
                          have hp373 : PtrAt (In o_ [10]) w_ (pOf (vs464 13)) y371 := hp373
                          refine ⟨⟨_, rfl, congrArg (fun b => some (Value.bool b)) hc370⟩, ?_⟩
                          refine OW.imp (OW.fr (L' := [(131, .pointer (some (pOf (vs464 13))))]) ⟨rfl, trivial⟩ (OW.loadI ty3 rfl hp373)) ?_
                          rintro _ _ ⟨rfl, rfl⟩
                          exact ⟨_, Evo.refl _ _ _ _, rfl, trivial⟩
                        · intro vs464 o_ w_ hE 
                          refine ⟨⟨_, rfl, congrArg (fun b => some (Value.bool b)) hc370⟩, ?_⟩
                          refine OW.imp (OW.fr (L' := [(128, .int .i64 y282), (132, .int .i64 y371)]) ⟨rfl, rfl, trivial⟩ (OW.pv (v := .int .i64 ((W (y282 - y371)))) rfl)) ?_
                          rintro _ _ ⟨rfl, rfl⟩
                          exact ⟨_, Evo.refl _ _ _ _, rfl, trivial⟩
                        · intro vs464 o_ w_ hE 
                          refine ⟨⟨_, rfl, congrArg (fun b => some (Value.bool b)) hc370⟩, ?_⟩
                          refine OW.imp (OW.fr (L' := [(133, .int .i64 ((W (y282 - y371))))]) ⟨rfl, trivial⟩ (OW.pv (v := .bool ((decide (((W (y282 - y371))) > 1)))) rfl)) ?_
                          rintro _ _ ⟨rfl, rfl⟩
                          exact ⟨_, Evo.refl _ _ _ _, rfl, trivial⟩
                        · intro vs464 o_ w_ hE 
                          refine ⟨⟨_, rfl, congrArg (fun b => some (Value.bool b)) hc370⟩, ?_⟩
                          refine OW.imp (OW.fr (L' := [(134, .bool ((decide (((W (y282 - y371))) > 1))))]) ⟨rfl, trivial⟩ (OW.pv (v := .bool ((decide (((W (y282 - y371))) > 1)))) rfl)) ?_
                          rintro _ _ ⟨rfl, rfl⟩
                          exact ⟨_, Evo.refl _ _ _ _, rfl, trivial⟩
                        · intro vs464 o_ w_ hE 
                          refine ⟨⟨_, rfl, congrArg (fun b => some (Value.bool b)) hc403⟩, ?_⟩
                          refine OW.imp (OW.fr (L' := [(13, v311)]) ⟨rfl, trivial⟩ (OW.pv (v := v311) rfl)) ?_
                          rintro _ _ ⟨rfl, rfl⟩
                          exact ⟨_, Evo.refl _ _ _ _, rfl, trivial⟩
                        · intro vs464 o_ w_ hE 
                          refine ⟨⟨_, rfl, congrArg (fun b => some (Value.bool b)) hc403⟩, ?_⟩
                          refine OW.imp (OW.fr (L' := [(18, .int .i64 x316)]) ⟨rfl, trivial⟩ (OW.pv (v := .int .i64 x316) rfl)) ?_
                          rintro _ _ ⟨rfl, rfl⟩
                          exact ⟨_, Evo.refl _ _ _ _, rfl, trivial⟩
                        · intro vs464 o_ w_ hE h312
                          have h312 : Rv (In o_ [10]) w_ v311 x310 := h312
                          refine ⟨⟨_, rfl, congrArg (fun b => some (Value.bool b)) hc403⟩, ?_⟩
                          refine OW.imp (OW.fr (L' := [(136, v311), (137, .int .i64 x316)]) ⟨rfl, rfl, trivial⟩ (OW.indexAddr Try.underlying22 ty3 rfl h312 rfl q426)) ?_
                          rintro _ _ ⟨rfl, ⟨pa423, hv_, hp424, he425⟩⟩
                          subst hv_
                          exact ⟨_, Evo.refl _ _ _ _, rfl, hp424, he425, trivial⟩
                        · intro vs464 o_ w_ hE hp424
                          have hp424 : PtrAt (In o_ [10]) w_ (pOf (vs464 20)) y422 := hp424
                          refine ⟨⟨_, rfl, congrArg (fun b => some (Value.bool b)) hc403⟩, ?_⟩
                          refine OW.imp (OW.fr (L' := [(138, .pointer (some (pOf (vs464 20))))]) ⟨rfl, trivial⟩ (OW.loadI ty3 rfl hp424)) ?_
                          rintro _ _ ⟨rfl, rfl⟩
                          exact ⟨_, Evo.refl _ _ _ _, rfl, trivial⟩
                        · intro vs464 o_ w_ hE 
                          refine ⟨⟨_, rfl, congrArg (fun b => some (Value.bool b)) hc403⟩, ?_⟩
                          refine OW.imp (OW.fr (L' := [(17, .int .i64 y282)]) ⟨rfl, trivial⟩ (OW.pv (v := .int .i64 y282) rfl)) ?_
                          rintro _ _ ⟨rfl, rfl⟩
                          exact ⟨_, Evo.refl _ _ _ _, rfl, trivial⟩
                        · intro vs464 o_ w_ hE 
                          refine ⟨⟨_, rfl, congrArg (fun b => some (Value.bool b)) hc403⟩, ?_⟩
                          refine OW.imp (OW.fr (L' := [(139, .int .i64 y422), (140, .int .i64 y282)]) ⟨rfl, rfl, trivial⟩ (OW.pv (v := .int .i64 ((W (y422 - y282)))) rfl)) ?_
                          rintro _ _ ⟨rfl, rfl⟩
                          exact ⟨_, Evo.refl _ _ _ _, rfl, trivial⟩
                        · intro vs464 o_ w_ hE 
                          refine ⟨⟨_, rfl, congrArg (fun b => some (Value.bool b)) hc403⟩, ?_⟩
                          refine OW.imp (OW.fr (L' := [(141, .int .i64 ((W (y422 - y282))))]) ⟨rfl, trivial⟩ (OW.pv (v := .bool ((decide (((W (y422 - y282))) > 1)))) rfl)) ?_
                          rintro _ _ ⟨rfl, rfl⟩
                          exact ⟨_, Evo.refl _ _ _ _, rfl, trivial⟩
                        · intro vs464 o_ w_ hE 
                          refine ⟨⟨_, rfl, congrArg (fun b => some (Value.bool b)) hc370⟩, ?_⟩
                          refine OW.imp (OW.fr (L' := [(135, .bool ((decide (((W (y282 - y371))) > 1)))), (142, .bool ((decide (((W (y422 - y282))) > 1))))]) ⟨rfl, rfl, trivial⟩ (OW.pickF rfl hc403 rfl)) ?_
                          rintro _ _ ⟨rfl, rfl⟩
                          exact ⟨_, Evo.refl _ _ _ _, rfl, trivial⟩
                        · intro vs464 o_ w_ hE 
                          refine ⟨⟨_, rfl, congrArg (fun b => some (Value.bool b)) hc370⟩, ?_⟩
                          refine OW.imp (OW.fr (L' := [(143, .bool ((decide (((W (y422 - y282))) > 1))))]) ⟨rfl, trivial⟩ (OW.pv (v := .bool ((decide (((W (y422 - y282))) > 1)))) rfl)) ?_
                          rintro _ _ ⟨rfl, rfl⟩
                          exact ⟨_, Evo.refl _ _ _ _, rfl, trivial⟩
                        · intro vs464 o_ w_ hE 
                          exact ⟨⟨_, rfl, .inl (congrArg (fun b => some (Value.bool b)) hc463)⟩, rfl, trivial⟩
                        · intro vs464 o_ w_ hE 
                          exact ⟨⟨_, rfl, .inl (congrArg (fun b => some (Value.bool b)) hc463)⟩, rfl, trivial⟩
                        · intro vs464 o_ w_ hE 
                          exact ⟨⟨_, rfl, .inl (congrArg (fun b => some (Value.bool b)) hc463)⟩, rfl, trivial⟩
                        · intro vs464 o_ w_ hE 
                          exact ⟨⟨_, rfl, .inl (congrArg (fun b => some (Value.bool b)) hc463)⟩, rfl, trivial⟩
                        · intro vs464 o_ w_ hE 
                          exact ⟨⟨_, rfl, .inr rfl⟩, rfl, trivial⟩
                        · intro vs464 o_ w_ hE 
                          exact ⟨⟨_, rfl, .inr rfl⟩, rfl, trivial⟩
                        · intro vs464 o_ w_ hE 
                          exact ⟨⟨_, rfl, .inr rfl⟩, rfl, trivial⟩
                        · intro vs464 o_ w_ hE 
                          exact ⟨⟨_, rfl, .inr rfl⟩, rfl, trivial⟩
                        · intro vs464 o_ w_ hE 
                          exact ⟨⟨_, rfl, .inr rfl⟩, rfl, trivial⟩
                        · intro vs464 o_ w_ hE 
                          exact ⟨⟨_, rfl, .inr rfl⟩, rfl, trivial⟩
                        · intro vs464 o_ w_ hE 
                          exact ⟨⟨_, rfl, .inl (congrArg (fun b => some (Value.bool b)) hc463)⟩, rfl, trivial⟩
                        · intro vs464 o_ w_ hE 
                          refine ⟨⟨_, rfl, congrArg (fun b => some (Value.bool b)) hc370⟩, ?_⟩
                          refine OW.imp (OW.fr (L' := [(144, .bool ((decide (((W (y422 - y282))) > 1)))), (155, undef)]) ⟨rfl, rfl, trivial⟩ (OW.pickT rfl hc463 rfl)) ?_
                          rintro _ _ ⟨rfl, rfl⟩
                          exact ⟨_, Evo.refl _ _ _ _, rfl, trivial⟩
                        · intro vs464 o_ w_ hE 
                          refine OW.imp (OW.fr (L' := [(127, .bool (((y344 == y349)))), (156, .bool true)]) ⟨rfl, rfl, trivial⟩ (OW.pickT rfl hc370 rfl)) ?_
                          rintro _ _ ⟨rfl, rfl⟩
                          exact ⟨_, Evo.refl _ _ _ _, rfl, trivial⟩
                        · intro vs464 o466 w465 hE h10 h309 h312 h315 hs hp346 he347 hp351 he352 hp373 he374 hp424 he425
                          have h10 : Rv (In o466 [0]) w465 sv y3 := h10
                          have h309 : Rv (In o466 [3]) w465 v308 x307 := h309
                          have h312 : Rv (In o466 [10]) w465 v311 x310 := h312
                          have h315 : Rv (In o466 [10]) w465 v314 x313 := h315
                          have hs : SrcC o466 2 w465 sb sv y3 st103 := hs
                          have hp346 : PtrAt (In o466 [3]) w465 (pOf (vs464 2)) y344 := hp346
                          have he347 : EPtr v308 1 x149 (pOf (vs464 2)) := he347
                          have hp351 : PtrAt (In o466 [3]) w465 (pOf (vs464 6)) y349 := hp351
                          have he352 : EPtr v308 1 x316 (pOf (vs464 6)) := he352
                          have hp373 : PtrAt (In o466 [10]) w465 (pOf (vs464 13)) y371 := hp373
                          have he374 : EPtr v311 1 x316 (pOf (vs464 13)) := he374
                          have hp424 : PtrAt (In o466 [10]) w465 (pOf (vs464 20)) y422 := hp424
                          have he425 : EPtr v311 1 x316 (pOf (vs464 20)) := he425
                          have e467 := Option.some.inj q444
                          obtain ⟨e468, e469⟩ := Prod.mk.inj e467
                          obtain ⟨e470, e471⟩ := Prod.mk.inj e469
                          obtain ⟨e472, e473⟩ := Prod.mk.inj e471
                          obtain ⟨e474, e475⟩ := Prod.mk.inj e473
                          obtain ⟨e476, e477⟩ := Prod.mk.inj e475
                          obtain ⟨e478, e479⟩ := Prod.mk.inj e477
                          subst e468 e470 e472 e474 e476 e478 e479
                          exact NK.sub (L' := [(3, .pointer (some ⟨sb, 0, none⟩)), (4, v308), (9, .int .i64 x95), (12, .int .i64 y102), (13, v311), (15, .int .i64 ((W (x145 + y282)))), (16, .int .i64 x149), (17, .int .i64 y282), (88, v314), (89, .int .i64 (len x126)), (90, .int .i64 x149), (114, .int .i64 (len x293)), (115, .int .i64 x316), (128, .int .i64 y282), (129, v311), (130, .int .i64 x316), (132, .int .i64 y371), (133, .int .i64 ((W (y282 - y371)))), (134, .bool ((decide (((W (y282 - y371))) > 1)))), (135, .bool ((decide (((W (y282 - y371))) > 1)))), (136, v311), (137, .int .i64 x316), (139, .int .i64 y422), (140, .int .i64 y282), (141, .int .i64 ((W (y422 - y282)))), (142, .bool ((decide (((W (y422 - y282))) > 1)))), (143, .bool ((decide (((W (y422 - y282))) > 1)))), (144, .bool ((decide (((W (y422 - y282))) > 1)))), (156, .bool true), (157, .bool true)]) ⟨rfl, rfl, rfl, rfl, rfl, rfl, rfl, rfl, rfl, rfl, rfl, rfl, rfl, rfl, rfl, rfl, rfl, rfl, rfl, rfl, rfl, rfl, rfl, rfl, rfl, rfl, rfl, rfl, rfl, rfl, trivial⟩ (hJ447 w465 o466 v308 v311 v314 v311 v311 hE h10 h309 h312 h315 h312 h312 hs)
                      · have q444 := iteF hc463 q444
                        obtain ⟨z_, q498, q444⟩ := bindE q444
                        obtain ⟨x480, x483, x486, x489, x492, x495, x496, x497⟩ := z_
                        try dsimp only at q444
                        have hJ501 : ∀ (w499 : World) (o500 : Cls) (v481 v484 v487 v490 v493 : Value), Ent w0 none o500 w499 → Rv (In o500 [0]) w499 sv y3 → Rv (In o500 [3]) w499 v481 x480 → Rv (In o500 [10]) w499 v484 x483 → Rv (In o500 [10]) w499 v487 x486 → Rv (In o500 [10]) w499 v490 x489 → Rv (In o500 [10]) w499 v493 x492 → SrcC o500 2 w499 sb sv y3 st103 → NK 204 K343 [(3, .pointer (some ⟨sb, 0, none⟩)), (4, v481), (9, .int .i64 x95), (12, .int .i64 y102), (13, v484), (15, .int .i64 ((W (x145 + y282)))), (16, .int .i64 x149), (17, .int .i64 y282), (88, v487), (89, .int .i64 (len x126)), (90, .int .i64 x149), (114, .int .i64 (len x293)), (115, .int .i64 x316), (128, .int .i64 y282), (129, v490), (130, .int .i64 x316), (132, .int .i64 y371), (133, .int .i64 ((W (y282 - y371)))), (134, .bool ((decide (((W (y282 - y371))) > 1)))), (135, .bool ((decide (((W (y282 - y371))) > 1)))), (136, v493), (137, .int .i64 x316), (139, .int .i64 y422), (140, .int .i64 y282), (141, .int .i64 ((W (y422 - y282)))), (142, .bool ((decide (((W (y422 - y282))) > 1)))), (143, .bool ((decide (((W (y422 - y282))) > 1)))), (144, .bool ((decide (((W (y422 - y282))) > 1)))), (145, .int .i64 x149), (146, .int .i64 x316), (147, .bool ((decide (x149 < x316)))), (148, .bool ((decide (x149 < x316)))), (155, .bool x495), (156, .bool x496), (157, .bool x497)] w499 := by
                          intro w499 o500 v481 v484 v487 v490 v493 hE h10 h482 h485 h488 h491 h494 hs
                          have e502 := Option.some.inj q444
                          obtain ⟨e503, e504⟩ := Prod.mk.inj e502
                          obtain ⟨e505, e506⟩ := Prod.mk.inj e504
                          obtain ⟨e507, e508⟩ := Prod.mk.inj e506
                          obtain ⟨e509, e510⟩ := Prod.mk.inj e508
                          obtain ⟨e511, e512⟩ := Prod.mk.inj e510
                          obtain ⟨e513, e514⟩ := Prod.mk.inj e512
                          subst e503 e505 e507 e509 e511 e513 e514
                          exact NK.sub (L' := [(3, .pointer (some ⟨sb, 0, none⟩)), (4, v481), (9, .int .i64 x95), (12, .int .i64 y102), (13, v484), (15, .int .i64 ((W (x145 + y282)))), (16, .int .i64 x149), (17, .int .i64 y282), (88, v487), (89, .int .i64 (len x126)), (90, .int .i64 x149), (114, .int .i64 (len x293)), (115, .int .i64 x316), (128, .int .i64 y282), (129, v490), (130, .int .i64 x316), (132, .int .i64 y371), (133, .int .i64 ((W (y282 - y371)))), (134, .bool ((decide (((W (y282 - y371))) > 1)))), (135, .bool ((decide (((W (y282 - y371))) > 1)))), (136, v493), (137, .int .i64 x316), (139, .int .i64 y422), (140, .int .i64 y282), (141, .int .i64 ((W (y422 - y282)))), (142, .bool ((decide (((W (y422 - y282))) > 1)))), (143, .bool ((decide (((W (y422 - y282))) > 1)))), (144, .bool ((decide (((W (y422 - y282))) > 1)))), (156, .bool x496), (157, .bool x497)]) ⟨rfl, rfl, rfl, rfl, rfl, rfl, rfl, rfl, rfl, rfl, rfl, rfl, rfl, rfl, rfl, rfl, rfl, rfl, rfl, rfl, rfl, rfl, rfl, rfl, rfl, rfl, rfl, rfl, rfl, rfl, trivial⟩ (hJ447 w499 o500 v481 v484 v487 v490 v493 hE h10 h482 h485 h488 h491 h494 hs)
                        rcases Bool.eq_false_or_eq_true ((decide (x149 < x316))) with hc515 | hc515
                        · have q498 := iteT hc515 q498
                          obtain ⟨y516, q520, q498⟩ := bindE q498
                          have ev_ := Evo.drew o332 w331
                          refine CW.any (ow := o332) hmix [⟨none, none, [0], [], fun x_ o_ w_ => Rv (In o_ [0]) w_ sv y3⟩, ⟨none, none, [3], [], fun x_ o_ w_ => Rv (In o_ [3]) w_ v308 x307⟩, ⟨none, none, [10], [], fun x_ o_ w_ => Rv (In o_ [10]) w_ v311 x310⟩, ⟨none, none, [10], [], fun x_ o_ w_ => Rv (In o_ [10]) w_ v314 x313⟩, ⟨none, none, [2], [], fun x_ o_ w_ => SrcC o_ 2 w_ sb sv y3 st103⟩, ⟨some 2, none, [3], [2], fun x_ o_ w_ => PtrAt (In o_ [3]) w_ (pOf (x_.getD 0 undef)) y344⟩, ⟨some 2, none, [], [2], fun x_ o_ w_ => EPtr v308 1 x149 (pOf (x_.getD 0 undef))⟩, ⟨some 6, none, [3], [6], fun x_ o_ w_ => PtrAt (In o_ [3]) w_ (pOf (x_.getD 0 undef)) y349⟩, ⟨some 6, none, [], [6], fun x_ o_ w_ => EPtr v308 1 x316 (pOf (x_.getD 0 undef))⟩, ⟨some 13, none, [10], [13], fun x_ o_ w_ => PtrAt (In o_ [10]) w_ (pOf (x_.getD 0 undef)) y371⟩, ⟨some 13, none, [], [13], fun x_ o_ w_ => EPtr v311 1 x316 (pOf (x_.getD 0 undef))⟩, ⟨some 20, none, [10], [20], fun x_ o_ w_ => PtrAt (In o_ [10]) w_ (pOf (x_.getD 0 undef)) y422⟩, ⟨some 20, none, [], [20], fun x_ o_ w_ => EPtr v311 1 x316 (pOf (x_.getD 0 undef))⟩, ⟨some 34, none, [10], [34], fun x_ o_ w_ => PtrAt (In o_ [10]) w_ (pOf (x_.getD 0 undef)) y516⟩, ⟨some 34, none, [], [34], fun x_ o_ w_ => EPtr v311 1 x316 (pOf (x_.getD 0 undef))⟩] [⟨[], [], [], [], fun x_ => v308, false⟩, ⟨[], [], [], [], fun x_ => .int .i64 x149, false⟩, ⟨[], [1], [0, 1], [2], fun x_ => .pointer (some (pOf (x_.getD 0 undef))), false⟩, ⟨[], [5], [0, 1, 2], [], fun x_ => .int .i64 y344, false⟩, ⟨[], [], [], [], fun x_ => v308, false⟩, ⟨[], [], [], [], fun x_ => .int .i64 x316, false⟩, ⟨[], [1], [4, 5], [6], fun x_ => .pointer (some (pOf (x_.getD 0 undef))), false⟩, ⟨[], [7], [4, 5, 6], [], fun x_ => .int .i64 y349, false⟩, ⟨[], [], [0, 1, 2, 3, 4, 5, 6, 7], [], fun x_ => .bool (((y344 == y349))), false⟩, ⟨[], [], [0, 1, 2, 3, 4, 5, 6, 7, 8], [], fun x_ => .bool (((y344 == y349))), false⟩, ⟨[], [], [0, 1, 2, 3, 4, 5, 6, 7, 8, 9], [], fun x_ => .int .i64 y282, false⟩, ⟨[], [], [0, 1, 2, 3, 4, 5, 6, 7, 8, 9], [], fun x_ => v311, false⟩, ⟨[], [], [0, 1, 2, 3, 4, 5, 6, 7, 8, 9], [], fun x_ => .int .i64 x316, false⟩, ⟨[], [2], [0, 1, 2, 3, 4, 5, 6, 7, 8, 9, 11, 12], [13], fun x_ => .pointer (some (pOf (x_.getD 0 undef))), false⟩, ⟨[], [9], [0, 1, 2, 3, 4, 5, 6, 7, 8, 9, 11, 12, 13], [], fun x_ => .int .i64 y371, false⟩, ⟨[], [], [0, 1, 2, 3, 4, 5, 6, 7, 8, 9, 10, 11, 12, 13, 14], [], fun x_ => .int .i64 ((W (y282 - y371))), false⟩, ⟨[], [], [0, 1, 2, 3, 4, 5, 6, 7, 8, 9, 10, 11, 12, 13, 14, 15], [], fun x_ => .bool ((decide (((W (y282 - y371))) > 1))), false⟩, ⟨[], [], [0, 1, 2, 3, 4, 5, 6, 7, 8, 9, 10, 11, 12, 13, 14, 15, 16], [], fun x_ => .bool ((decide (((W (y282 - y371))) > 1))), false⟩, ⟨[], [], [0, 1, 2, 3, 4, 5, 6, 7, 8, 9, 10, 11, 12, 13, 14, 15, 16, 17], [], fun x_ => v311, false⟩, ⟨[], [], [0, 1, 2, 3, 4, 5, 6, 7, 8, 9, 10, 11, 12, 13, 14, 15, 16, 17], [], fun x_ => .int .i64 x316, false⟩, ⟨[], [2], [0, 1, 2, 3, 4, 5, 6, 7, 8, 9, 10, 11, 12, 13, 14, 15, 16, 17, 18, 19], [20], fun x_ => .pointer (some (pOf (x_.getD 0 undef))), false⟩, ⟨[], [11], [0, 1, 2, 3, 4, 5, 6, 7, 8, 9, 10, 11, 12, 13, 14, 15, 16, 17, 18, 19, 20], [], fun x_ => .int .i64 y422, false⟩, ⟨[], [], [0, 1, 2, 3, 4, 5, 6, 7, 8, 9, 10, 11, 12, 13, 14, 15, 16, 17], [], fun x_ => .int .i64 y282, false⟩, ⟨[], [], [0, 1, 2, 3, 4, 5, 6, 7, 8, 9, 10, 11, 12, 13, 14, 15, 16, 17, 18, 19, 20, 21, 22], [], fun x_ => .int .i64 ((W (y422 - y282))), false⟩, ⟨[], [], [0, 1, 2, 3, 4, 5, 6, 7, 8, 9, 10, 11, 12, 13, 14, 15, 16, 17, 18, 19, 20, 21, 22, 23], [], fun x_ => .bool ((decide (((W (y422 - y282))) > 1))), false⟩, ⟨[], [], [0, 1, 2, 3, 4, 5, 6, 7, 8, 9, 10, 11, 12, 13, 14, 15, 16, 17, 18, 19, 20, 21, 22, 23, 24], [], fun x_ => .bool ((decide (((W (y422 - y282))) > 1))), false⟩, ⟨[], [], [0, 1, 2, 3, 4, 5, 6, 7, 8, 9, 10, 11, 12, 13, 14, 15, 16, 17, 18, 19, 20, 21, 22, 23, 24, 25], [], fun x_ => .bool ((decide (((W (y422 - y282))) > 1))), false⟩, ⟨[], [], [0, 1, 2, 3, 4, 5, 6, 7, 8, 9, 10, 11, 12, 13, 14, 15, 16, 17, 18, 19, 20, 21, 22, 23, 24, 25, 26], [], fun x_ => .int .i64 x149, false⟩, ⟨[], [], [0, 1, 2, 3, 4, 5, 6, 7, 8, 9, 10, 11, 12, 13, 14, 15, 16, 17, 18, 19, 20, 21, 22, 23, 24, 25, 26], [], fun x_ => .int .i64 x316, false⟩, ⟨[], [], [0, 1, 2, 3, 4, 5, 6, 7, 8, 9, 10, 11, 12, 13, 14, 15, 16, 17, 18, 19, 20, 21, 22, 23, 24, 25, 26, 27, 28], [], fun x_ => .bool ((decide (x149 < x316))), false⟩, ⟨[], [], [0, 1, 2, 3, 4, 5, 6, 7, 8, 9, 10, 11, 12, 13, 14, 15, 16, 17, 18, 19, 20, 21, 22, 23, 24, 25, 26, 27, 28, 29], [], fun x_ => .bool ((decide (x149 < x316))), false⟩, ⟨[], [], [0, 1, 2, 3, 4, 5, 6, 7, 8, 9, 10, 11, 12, 13, 14, 15, 16, 17, 18, 19, 20, 21, 22, 23, 24, 25, 26, 27, 28, 29, 30], [], fun x_ => .int .i64 y282, false⟩, ⟨[], [], [0, 1, 2, 3, 4, 5, 6, 7, 8, 9, 10, 11, 12, 13, 14, 15, 16, 17, 18, 19, 20, 21, 22, 23, 24, 25, 26, 27, 28, 29, 30], [], fun x_ => v311, false⟩, ⟨[], [], [0, 1, 2, 3, 4, 5, 6, 7, 8, 9, 10, 11, 12, 13, 14, 15, 16, 17, 18, 19, 20, 21, 22, 23, 24, 25, 26, 27, 28, 29, 30], [], fun x_ => .int .i64 x316, false⟩, ⟨[], [2], [0, 1, 2, 3, 4, 5, 6, 7, 8, 9, 10, 11, 12, 13, 14, 15, 16, 17, 18, 19, 20, 21, 22, 23, 24, 25, 26, 27, 28, 29, 30, 32, 33], [34], fun x_ => .pointer (some (pOf (x_.getD 0 undef))), false⟩, ⟨[], [13], [0, 1, 2, 3, 4, 5, 6, 7, 8, 9, 10, 11, 12, 13, 14, 15, 16, 17, 18, 19, 20, 21, 22, 23, 24, 25, 26, 27, 28, 29, 30, 32, 33, 34], [], fun x_ => .int .i64 y516, false⟩, ⟨[], [], [0, 1, 2, 3, 4, 5, 6, 7, 8, 9, 10, 11, 12, 13, 14, 15, 16, 17, 18, 19, 20, 21, 22, 23, 24, 25, 26, 27, 28, 29, 30, 31, 32, 33, 34, 35], [], fun x_ => .bool ((decide (y282 < y516))), false⟩, ⟨[], [], [0, 1, 2, 3, 4, 5, 6, 7, 8, 9, 10, 11, 12, 13, 14, 15, 16, 17, 18, 19, 20, 21, 22, 23, 24, 25, 26, 27, 28, 29, 30, 31, 32, 33, 34, 35, 36], [], fun x_ => .bool ((decide (y282 < y516))), false⟩, ⟨[], [], [0, 1, 2, 3, 4, 5, 6, 7, 8, 9, 10, 11, 12, 13, 14, 15, 16, 17, 18, 19, 20, 21, 22, 23, 24, 25, 26, 27, 28, 29, 30, 31, 32, 33, 34, 35, 36, 37], [], fun x_ => .bool ((decide (y282 < y516))), false⟩, ⟨[], [], [0, 1, 2, 3, 4, 5, 6, 7, 8, 9, 10, 11, 12, 13, 14, 15, 16, 17, 18, 19, 20, 21, 22, 23, 24, 25, 26, 27, 28, 29, 30, 31, 32, 33, 34, 35, 36, 37, 38], [], fun x_ => .bool ((decide (y282 < y516))), false⟩] [] [] (fun o_ w_ => Ent w0 none o_ w_) (by kernel_rfl) (by kernel_rfl) ⟨fun _ _ _ _ _ _ ev hd h => Rv.evo h ev hd, fun _ _ _ _ _ _ ev hd h => Rv.evo h ev hd, fun _ _ _ _ _ _ ev hd h => Rv.evo h ev hd, fun _ _ _ _ _ _ ev hd h => Rv.evo h ev hd, fun _ _ _ _ _ _ ev hd h => SrcC.evo h ev hd, fun _ _ _ _ _ _ ev hd h => PtrAt.evo h ev hd, fun _ _ _ _ _ _ _ _ h => h, fun _ _ _ _ _ _ ev hd h => PtrAt.evo h ev hd, fun _ _ _ _ _ _ _ _ h => h, fun _ _ _ _ _ _ ev hd h => PtrAt.evo h ev hd, fun _ _ _ _ _ _ _ _ h => h, fun _ _ _ _ _ _ ev hd h => PtrAt.evo h ev hd, fun _ _ _ _ _ _ _ _ h => h, fun _ _ _ _ _ _ ev hd h => PtrAt.evo h ev hd, fun _ _ _ _ _ _ _ _ h => h, trivial⟩ (Ent.any rfl rfl) ⟨hE.evo ev_ rfl rfl, ⟨h10.evo ev_ rfl, h309.evo ev_ rfl, h312.evo ev_ rfl, h315.evo ev_ rfl, hs.evo ev_ rfl, trivial⟩⟩ ⟨?_, ?_, ?_, ?_, ?_, ?_, ?_, ?_, ?_, ?_, ?_, ?_, ?_, ?_, ?_, ?_, ?_, ?_, ?_, ?_, ?_, ?_, ?_, ?_, ?_, ?_, ?_, ?_, ?_, ?_, ?_, ?_, ?_, ?_, ?_, ?_, ?_, ?_, ?_, ?_, trivial⟩ ?_
                          · intro vs521 o_ w_ hE 
                            refine OW.imp (OW.fr (L' := [(4, v308)]) ⟨rfl, trivial⟩ (OW.pv (v := v308) rfl)) ?_
                            rintro _ _ ⟨rfl, rfl⟩
                            exact ⟨_, Evo.refl _ _ _ _, rfl, trivial⟩
                          · intro vs521 o_ w_ hE 
                            refine OW.imp (OW.fr (L' := [(16, .int .i64 x149)]) ⟨rfl, trivial⟩ (OW.pv (v := .int .i64 x149) rfl)) ?_
                            rintro _ _ ⟨rfl, rfl⟩
                            exact ⟨_, Evo.refl _ _ _ _, rfl, trivial⟩
                          · intro vs521 o_ w_ hE h309
                            have h309 : Rv (In o_ [3]) w_ v308 x307 := h309
                            refine OW.imp (OW.fr (L' := [(118, v308), (119, .int .i64 x149)]) ⟨rfl, rfl, trivial⟩ (OW.indexAddr Try.underlying22 ty3 rfl h309 rfl q348)) ?_
                            rintro _ _ ⟨rfl, ⟨pa345, hv_, hp346, he347⟩⟩
                            subst hv_
                            exact ⟨_, Evo.refl _ _ _ _, rfl, hp346, he347, trivial⟩
                          · intro vs521 o_ w_ hE hp346
                            have hp346 : PtrAt (In o_ [3]) w_ (pOf (vs521 2)) y344 := hp346
                            refine OW.imp (OW.fr (L' := [(120, .pointer (some (pOf (vs521 2))))]) ⟨rfl, trivial⟩ (OW.loadI ty3 rfl hp346)) ?_
                            rintro _ _ ⟨rfl, rfl⟩
                            exact ⟨_, Evo.refl _ _ _ _, rfl, trivial⟩
                          · intro vs521 o_ w_ hE 
                            refine OW.imp (OW.fr (L' := [(4, v308)]) ⟨rfl, trivial⟩ (OW.pv (v := v308) rfl)) ?_
                            rintro _ _ ⟨rfl, rfl⟩
                            exact ⟨_, Evo.refl _ _ _ _, rfl, trivial⟩
                          · intro vs521 o_ w_ hE 
                            refine OW.imp (OW.fr (L' := [(18, .int .i64 x316)]) ⟨rfl, trivial⟩ (OW.pv (v := .int .i64 x316) rfl)) ?_
                            rintro _ _ ⟨rfl, rfl⟩
                            exact ⟨_, Evo.refl _ _ _ _, rfl, trivial⟩
                          · intro vs521 o_ w_ hE h309
                            have h309 : Rv (In o_ [3]) w_ v308 x307 := h309
                            refine OW.imp (OW.fr (L' := [(122, v308), (123, .int .i64 x316)]) ⟨rfl, rfl, trivial⟩ (OW.indexAddr Try.underlying22 ty3 rfl h309 rfl q353)) ?_
                            rintro _ _ ⟨rfl, ⟨pa350, hv_, hp351, he352⟩⟩
                            subst hv_
                            exact ⟨_, Evo.refl _ _ _ _, rfl, hp351, he352, trivial⟩
                          · intro vs521 o_ w_ hE hp351
                            have hp351 : PtrAt (In o_ [3]) w_ (pOf (vs521 6)) y349 := hp351
                            refine OW.imp (OW.fr (L' := [(124, .pointer (some (pOf (vs521 6))))]) ⟨rfl, trivial⟩ (OW.loadI ty3 rfl hp351)) ?_
                            rintro _ _ ⟨rfl, rfl⟩
                            exact ⟨_, Evo.refl _ _ _ _, rfl, trivial⟩
                          · intro vs521 o_ w_ hE 
                            refine OW.imp (OW.fr (L' := [(121, .int .i64 y344), (125, .int .i64 y349)]) ⟨rfl, rfl, trivial⟩ (OW.pv (v := .bool (((y344 == y349)))) rfl)) ?_
                            rintro _ _ ⟨rfl, rfl⟩
                            exact ⟨_, Evo.refl _ _ _ _, rfl, trivial⟩
                          · intro vs521 o_ w_ hE 
                            refine OW.imp (OW.fr (L' := [(126, .bool (((y344 == y349))))]) ⟨rfl, trivial⟩ (OW.pv (v := .bool (((y344 == y349)))) rfl)) ?_
                            rintro _ _ ⟨rfl, rfl⟩
                            exact ⟨_, Evo.refl _ _ _ _, rfl, trivial⟩
                          · intro vs521 o_ w_ hE 
                            refine ⟨⟨_, rfl, congrArg (fun b => some (Value.bool b)) hc370⟩, ?_⟩
                            refine OW.imp (OW.fr (L' := [(17, .int .i64 y282)]) ⟨rfl, trivial⟩ (OW.pv (v := .int .i64 y282) rfl)) ?_
                            rintro _ _ ⟨rfl, rfl⟩
                            exact ⟨_, Evo.refl _ _ _ _, rfl, trivial⟩
                          · intro vs521 o_ w_ hE 
                            refine ⟨⟨_, rfl, congrArg (fun b => some (Value.bool b)) hc370⟩, ?_⟩
                            refine OW.imp (OW.fr (L' := [(13, v311)]) ⟨rfl, trivial⟩ (OW.pv (v := v311) rfl)) ?_
                            rintro _ _ ⟨rfl, rfl⟩
                            exact ⟨_, Evo.refl _ _ _ _, rfl, trivial⟩
                          · intro vs521 o_ w_ hE 
                            refine ⟨⟨_, rfl, congrArg (fun b => some (Value.bool b)) hc370⟩, ?_⟩
                            refine OW.imp (OW.fr (L' := [(18, .int .i64 x316)]) ⟨rfl, trivial⟩ (OW.pv (v := .int .i64 x316) rfl)) ?_
                            rintro _ _ ⟨rfl, rfl⟩
                            exact ⟨_, Evo.refl _ _ _ _, rfl, trivial⟩
                          · intro vs521 o_ w_ hE h312
                            have h312 : Rv (In o_ [10]) w_ v311 x310 := h312
                            refine ⟨⟨_, rfl, congrArg (fun b => some (Value.bool b)) hc370⟩, ?_⟩
                            refine OW.imp (OW.fr (L' := [(129, v311), (130, .int .i64 x316)]) ⟨rfl, rfl, trivial⟩ (OW.indexAddr Try.underlying22 ty3 rfl h312 rfl q375)) ?_
                            rintro _ _ ⟨rfl, ⟨pa372, hv_, hp373, he374⟩⟩
                            subst hv_
                            exact ⟨_, Evo.refl _ _ _ _, rfl, hp373, he374, trivial⟩
                          · intro vs521 o_ w_ hE hp373
                            have hp373 : PtrAt (In o_ [10]) w_ (pOf (vs521 13)) y371 := hp373
                            refine ⟨⟨_, rfl, congrArg (fun b => some (Value.bool b)) hc370⟩, ?_⟩
                            refine OW.imp (OW.fr (L' := [(131, .pointer (some (pOf (vs521 13))))]) ⟨rfl, trivial⟩ (OW.loadI ty3 rfl hp373)) ?_
                            rintro _ _ ⟨rfl, rfl⟩
                            exact ⟨_, Evo.refl _ _ _ _, rfl, trivial⟩
                          · intro vs521 o_ w_ hE 
                            refine ⟨⟨_, rfl, congrArg (fun b => some (Value.bool b)) hc370⟩, ?_⟩
                            refine OW.imp (OW.fr (L' := [(128, .int .i64 y282), (132, .int .i64 y371)]) ⟨rfl, rfl, trivial⟩ (OW.pv (v := .int .i64 ((W (y282 - y371)))) rfl)) ?_
                            rintro _ _ ⟨rfl, rfl⟩
                            exact ⟨_, Evo.refl _ _ _ _, rfl, trivial⟩
                          · intro vs521 o_ w_ hE 
                            refine ⟨⟨_, rfl, congrArg (fun b => some (Value.bool b)) hc370⟩, ?_⟩
                            refine OW.imp (OW.fr (L' := [(133, .int .i64 ((W (y282 - y371))))]) ⟨rfl, trivial⟩ (OW.pv (v := .bool ((decide (((W (y282 - y371))) > 1)))) rfl)) ?_
                            rintro _ _ ⟨rfl, rfl⟩
                            exact ⟨_, Evo.refl _ _ _ _, rfl, trivial⟩
                          · intro vs521 o_ w_ hE 
                            refine ⟨⟨_, rfl, congrArg (fun b => some (Value.bool b)) hc370⟩, ?_⟩
                            refine OW.imp (OW.fr (L' := [(134, .bool ((decide (((W (y282 - y371))) > 1))))]) ⟨rfl, trivial⟩ (OW.pv (v := .bool ((decide (((W (y282 - y371))) > 1)))) rfl)) ?_
                            rintro _ _ ⟨rfl, rfl⟩
                            exact ⟨_, Evo.refl _ _ _ _, rfl, trivial⟩
                          · intro vs521 o_ w_ hE 
                            refine ⟨⟨_, rfl, congrArg (fun b => some (Value.bool b)) hc403⟩, ?_⟩
                            refine OW.imp (OW.fr (L' := [(13, v311)]) ⟨rfl, trivial⟩ (OW.pv (v := v311) rfl)) ?_
                            rintro _ _ ⟨rfl, rfl⟩
                            exact ⟨_, Evo.refl _ _ _ _, rfl, trivial⟩
                          · intro vs521 o_ w_ hE 
                            refine ⟨⟨_, rfl, congrArg (fun b => some (Value.bool b)) hc403⟩, ?_⟩
                            refine OW.imp (OW.fr (L' := [(18, .int .i64 x316)]) ⟨rfl, trivial⟩ (OW.pv (v := .int .i64 x316) rfl)) ?_
                            rintro _ _ ⟨rfl, rfl⟩
                            exact ⟨_, Evo.refl _ _ _ _, rfl, trivial⟩
                          · intro vs521 o_ w_ hE h312
                            have h312 : Rv (In o_ [10]) w_ v311 x310 := h312
                            refine ⟨⟨_, rfl, congrArg (fun b => some (Value.bool b)) hc403⟩, ?_⟩
                            refine OW.imp (OW.fr (L' := [(136, v311), (137, .int .i64 x316)]) ⟨rfl, rfl, trivial⟩ (OW.indexAddr Try.underlying22 ty3 rfl h312 rfl q426)) ?_
                            rintro _ _ ⟨rfl, ⟨pa423, hv_, hp424, he425⟩⟩
                            subst hv_
                            exact ⟨_, Evo.refl _ _ _ _, rfl, hp424, he425, trivial⟩
                          · intro vs521 o_ w_ hE hp424
                            have hp424 : PtrAt (In o_ [10]) w_ (pOf (vs521 20)) y422 := hp424
                            refine ⟨⟨_, rfl, congrArg (fun b => some (Value.bool b)) hc403⟩, ?_⟩
                            refine OW.imp (OW.fr (L' := [(138, .pointer (some (pOf (vs521 20))))]) ⟨rfl, trivial⟩ (OW.loadI ty3 rfl hp424)) ?_
                            rintro _ _ ⟨rfl, rfl⟩
                            exact ⟨_, Evo.refl _ _ _ _, rfl, trivial⟩
                          · intro vs521 o_ w_ hE 
                            refine ⟨⟨_, rfl, congrArg (fun b => some (Value.bool b)) hc403⟩, ?_⟩
                            refine OW.imp (OW.fr (L' := [(17, .int .i64 y282)]) ⟨rfl, trivial⟩ (OW.pv (v := .int .i64 y282) rfl)) ?_
                            rintro _ _ ⟨rfl, rfl⟩
                            exact ⟨_, Evo.refl _ _ _ _, rfl, trivial⟩
                          · intro vs521 o_ w_ hE 
                            refine ⟨⟨_, rfl, congrArg (fun b => some (Value.bool b)) hc403⟩, ?_⟩
                            refine OW.imp (OW.fr (L' := [(139, .int .i64 y422), (140, .int .i64 y282)]) ⟨rfl, rfl, trivial⟩ (OW.pv (v := .int .i64 ((W (y422 - y282)))) rfl)) ?_
                            rintro _ _ ⟨rfl, rfl⟩
                            exact ⟨_, Evo.refl _ _ _ _, rfl, trivial⟩
                          · intro vs521 o_ w_ hE 
                            refine ⟨⟨_, rfl, congrArg (fun b => some (Value.bool b)) hc403⟩, ?_⟩
                            refine OW.imp (OW.fr (L' := [(141, .int .i64 ((W (y422 - y282))))]) ⟨rfl, trivial⟩ (OW.pv (v := .bool ((decide (((W (y422 - y282))) > 1)))) rfl)) ?_
                            rintro _ _ ⟨rfl, rfl⟩
                            exact ⟨_, Evo.refl _ _ _ _, rfl, trivial⟩
                          · intro vs521 o_ w_ hE 
                            refine ⟨⟨_, rfl, congrArg (fun b => some (Value.bool b)) hc370⟩, ?_⟩
                            refine OW.imp (OW.fr (L' := [(135, .bool ((decide (((W (y282 - y371))) > 1)))), (142, .bool ((decide (((W (y422 - y282))) > 1))))]) ⟨rfl, rfl, trivial⟩ (OW.pickF rfl hc403 rfl)) ?_
                            rintro _ _ ⟨rfl, rfl⟩
                            exact ⟨_, Evo.refl _ _ _ _, rfl, trivial⟩
                          · intro vs521 o_ w_ hE 
                            refine ⟨⟨_, rfl, congrArg (fun b => some (Value.bool b)) hc370⟩, ?_⟩
                            refine OW.imp (OW.fr (L' := [(143, .bool ((decide (((W (y422 - y282))) > 1))))]) ⟨rfl, trivial⟩ (OW.pv (v := .bool ((decide (((W (y422 - y282))) > 1)))) rfl)) ?_
                            rintro _ _ ⟨rfl, rfl⟩
                            exact ⟨_, Evo.refl _ _ _ _, rfl, trivial⟩
                          · intro vs521 o_ w_ hE 
                            refine ⟨⟨_, rfl, congrArg (fun b => some (Value.bool b)) hc463⟩, ?_⟩
                            refine OW.imp (OW.fr (L' := [(16, .int .i64 x149)]) ⟨rfl, trivial⟩ (OW.pv (v := .int .i64 x149) rfl)) ?_
                            rintro _ _ ⟨rfl, rfl⟩
                            exact ⟨_, Evo.refl _ _ _ _, rfl, trivial⟩
                          · intro vs521 o_ w_ hE 
                            refine ⟨⟨_, rfl, congrArg (fun b => some (Value.bool b)) hc463⟩, ?_⟩
                            refine OW.imp (OW.fr (L' := [(18, .int .i64 x316)]) ⟨rfl, trivial⟩ (OW.pv (v := .int .i64 x316) rfl)) ?_
                            rintro _ _ ⟨rfl, rfl⟩
                            exact ⟨_, Evo.refl _ _ _ _, rfl, trivial⟩
                          · intro vs521 o_ w_ hE 
                            refine ⟨⟨_, rfl, congrArg (fun b => some (Value.bool b)) hc463⟩, ?_⟩
                            refine OW.imp (OW.fr (L' := [(145, .int .i64 x149), (146, .int .i64 x316)]) ⟨rfl, rfl, trivial⟩ (OW.pv (v := .bool ((decide (x149 < x316)))) rfl)) ?_
                            rintro _ _ ⟨rfl, rfl⟩
                            exact ⟨_, Evo.refl _ _ _ _, rfl, trivial⟩
                          · intro vs521 o_ w_ hE 
                            refine ⟨⟨_, rfl, congrArg (fun b => some (Value.bool b)) hc463⟩, ?_⟩
                            refine OW.imp (OW.fr (L' := [(147, .bool ((decide (x149 < x316))))]) ⟨rfl, trivial⟩ (OW.pv (v := .bool ((decide (x149 < x316)))) rfl)) ?_
                            rintro _ _ ⟨rfl, rfl⟩
                            exact ⟨_, Evo.refl _ _ _ _, rfl, trivial⟩
                          · intro vs521 o_ w_ hE 
                            refine ⟨⟨_, rfl, congrArg (fun b => some (Value.bool b)) hc515⟩, ?_⟩
                            refine OW.imp (OW.fr (L' := [(17, .int .i64 y282)]) ⟨rfl, trivial⟩ (OW.pv (v := .int .i64 y282) rfl)) ?_
                            rintro _ _ ⟨rfl, rfl⟩
                            exact ⟨_, Evo.refl _ _ _ _, rfl, trivial⟩
                          · intro vs521 o_ w_ hE 
                            refine ⟨⟨_, rfl, congrArg (fun b => some (Value.bool b)) hc515⟩, ?_⟩
                            refine OW.imp (OW.fr (L' := [(13, v311)]) ⟨rfl, trivial⟩ (OW.pv (v := v311) rfl)) ?_
                            rintro _ _ ⟨rfl, rfl⟩
                            exact ⟨_, Evo.refl _ _ _ _, rfl, trivial⟩
                          · intro vs521 o_ w_ hE 
                            refine ⟨⟨_, rfl, congrArg (fun b => some (Value.bool b)) hc515⟩, ?_⟩
                            refine OW.imp (OW.fr (L' := [(18, .int .i64 x316)]) ⟨rfl, trivial⟩ (OW.pv (v := .int .i64 x316) rfl)) ?_
                            rintro _ _ ⟨rfl, rfl⟩
                            exact ⟨_, Evo.refl _ _ _ _, rfl, trivial⟩
                          · intro vs521 o_ w_ hE h312
                            have h312 : Rv (In o_ [10]) w_ v311 x310 := h312
                            refine ⟨⟨_, rfl, congrArg (fun b => some (Value.bool b)) hc515⟩, ?_⟩
                            refine OW.imp (OW.fr (L' := [(150, v311), (151, .int .i64 x316)]) ⟨rfl, rfl, trivial⟩ (OW.indexAddr Try.underlying22 ty3 rfl h312 rfl q520)) ?_
                            rintro _ _ ⟨rfl, ⟨pa517, hv_, hp518, he519⟩⟩
                            subst hv_
                            exact ⟨_, Evo.refl _ _ _ _, rfl, hp518, he519, trivial⟩
                          · intro vs521 o_ w_ hE hp518
                            have hp518 : PtrAt (In o_ [10]) w_ (pOf (vs521 34)) y516 := hp518
                            refine ⟨⟨_, rfl, congrArg (fun b => some (Value.bool b)) hc515⟩, ?_⟩
                            refine OW.imp (OW.fr (L' := [(152, .pointer (some (pOf (vs521 34))))]) ⟨rfl, trivial⟩ (OW.loadI ty3 rfl hp518)) ?_
                            rintro _ _ ⟨rfl, rfl⟩
                            exact ⟨_, Evo.refl _ _ _ _, rfl, trivial⟩
                          · intro vs521 o_ w_ hE 
                            refine ⟨⟨_, rfl, congrArg (fun b => some (Value.bool b)) hc515⟩, ?_⟩
                            refine OW.imp (OW.fr (L' := [(149, .int .i64 y282), (153, .int .i64 y516)]) ⟨rfl, rfl, trivial⟩ (OW.pv (v := .bool ((decide (y282 < y516)))) rfl)) ?_
                            rintro _ _ ⟨rfl, rfl⟩
                            exact ⟨_, Evo.refl _ _ _ _, rfl, trivial⟩
                          · intro vs521 o_ w_ hE 
                            refine ⟨⟨_, rfl, congrArg (fun b => some (Value.bool b)) hc463⟩, ?_⟩
                            refine OW.imp (OW.fr (L' := [(148, .bool ((decide (x149 < x316)))), (154, .bool ((decide (y282 < y516))))]) ⟨rfl, rfl, trivial⟩ (OW.pickT rfl hc515 rfl)) ?_
                            rintro _ _ ⟨rfl, rfl⟩
                            exact ⟨_, Evo.refl _ _ _ _, rfl, trivial⟩
                          · intro vs521 o_ w_ hE 
                            refine ⟨⟨_, rfl, congrArg (fun b => some (Value.bool b)) hc370⟩, ?_⟩
                            refine OW.imp (OW.fr (L' := [(144, .bool ((decide (((W (y422 - y282))) > 1)))), (155, .bool ((decide (y282 < y516))))]) ⟨rfl, rfl, trivial⟩ (OW.pickF rfl hc463 rfl)) ?_
                            rintro _ _ ⟨rfl, rfl⟩
                            exact ⟨_, Evo.refl _ _ _ _, rfl, trivial⟩
                          · intro vs521 o_ w_ hE 
                            refine OW.imp (OW.fr (L' := [(127, .bool (((y344 == y349)))), (156, .bool ((decide (y282 < y516))))]) ⟨rfl, rfl, trivial⟩ (OW.pickT rfl hc370 rfl)) ?_
                            rintro _ _ ⟨rfl, rfl⟩
                            exact ⟨_, Evo.refl _ _ _ _, rfl, trivial⟩
                          · intro vs521 o523 w522 hE h10 h309 h312 h315 hs hp346 he347 hp351 he352 hp373 he374 hp424 he425 hp518 he519
                            have h10 : Rv (In o523 [0]) w522 sv y3 := h10
                            have h309 : Rv (In o523 [3]) w522 v308 x307 := h309
                            have h312 : Rv (In o523 [10]) w522 v311 x310 := h312
                            have h315 : Rv (In o523 [10]) w522 v314 x313 := h315
                            have hs : SrcC o523 2 w522 sb sv y3 st103 := hs
                            have hp346 : PtrAt (In o523 [3]) w522 (pOf (vs521 2)) y344 := hp346
                            have he347 : EPtr v308 1 x149 (pOf (vs521 2)) := he347
                            have hp351 : PtrAt (In o523 [3]) w522 (pOf (vs521 6)) y349 := hp351
                            have he352 : EPtr v308 1 x316 (pOf (vs521 6)) := he352
                            have hp373 : PtrAt (In o523 [10]) w522 (pOf (vs521 13)) y371 := hp373
                            have he374 : EPtr v311 1 x316 (pOf (vs521 13)) := he374
                            have hp424 : PtrAt (In o523 [10]) w522 (pOf (vs521 20)) y422 := hp424
                            have he425 : EPtr v311 1 x316 (pOf (vs521 20)) := he425
                            have hp518 : PtrAt (In o523 [10]) w522 (pOf (vs521 34)) y516 := hp518
                            have he519 : EPtr v311 1 x316 (pOf (vs521 34)) := he519
                            have e524 := Option.some.inj q498
                            obtain ⟨e525, e526⟩ := Prod.mk.inj e524
                            obtain ⟨e527, e528⟩ := Prod.mk.inj e526
                            obtain ⟨e529, e530⟩ := Prod.mk.inj e528
                            obtain ⟨e531, e532⟩ := Prod.mk.inj e530
                            obtain ⟨e533, e534⟩ := Prod.mk.inj e532
                            obtain ⟨e535, e536⟩ := Prod.mk.inj e534
                            obtain ⟨e537, e538⟩ := Prod.mk.inj e536
                            subst e525 e527 e529 e531 e533 e535 e537 e538
                            exact NK.sub (L' := [(3, .pointer (some ⟨sb, 0, none⟩)), (4, v308), (9, .int .i64 x95), (12, .int .i64 y102), (13, v311), (15, .int .i64 ((W (x145 + y282)))), (16, .int .i64 x149), (17, .int .i64 y282), (88, v314), (89, .int .i64 (len x126)), (90, .int .i64 x149), (114, .int .i64 (len x293)), (115, .int .i64 x316), (128, .int .i64 y282), (129, v311), (130, .int .i64 x316), (132, .int .i64 y371), (133, .int .i64 ((W (y282 - y371)))), (134, .bool ((decide (((W (y282 - y371))) > 1)))), (135, .bool ((decide (((W (y282 - y371))) > 1)))), (136, v311), (137, .int .i64 x316), (139, .int .i64 y422), (140, .int .i64 y282), (141, .int .i64 ((W (y422 - y282)))), (142, .bool ((decide (((W (y422 - y282))) > 1)))), (143, .bool ((decide (((W (y422 - y282))) > 1)))), (144, .bool ((decide (((W (y422 - y282))) > 1)))), (145, .int .i64 x149), (146, .int .i64 x316), (147, .bool ((decide (x149 < x316)))), (148, .bool ((decide (x149 < x316)))), (155, .bool ((decide (y282 < y516)))), (156, .bool ((decide (y282 < y516)))), (157, .bool ((decide (y282 < y516))))]) ⟨rfl, rfl, rfl, rfl, rfl, rfl, rfl, rfl, rfl, rfl, rfl, rfl, rfl, rfl, rfl, rfl, rfl, rfl, rfl, rfl, rfl, rfl, rfl, rfl, rfl, rfl, rfl, rfl, rfl, rfl, rfl, rfl, rfl, rfl, rfl, trivial⟩ (hJ501 w522 o523 v308 v311 v314 v311 v311 hE h10 h309 h312 h315 h312 h312 hs)
                        · have q498 := iteF hc515 q498
                          have ev_ := Evo.drew o332 w331
                          refine CW.any (ow := o332) hmix [⟨none, none, [0], [], fun x_ o_ w_ => Rv (In o_ [0]) w_ sv y3⟩, ⟨none, none, [3], [], fun x_ o_ w_ => Rv (In o_ [3]) w_ v308 x307⟩, ⟨none, none, [10], [], fun x_ o_ w_ => Rv (In o_ [10]) w_ v311 x310⟩, ⟨none, none, [10], [], fun x_ o_ w_ => Rv (In o_ [10]) w_ v314 x313⟩, ⟨none, none, [2], [], fun x_ o_ w_ => SrcC o_ 2 w_ sb sv y3 st103⟩, ⟨some 2, none, [3], [2], fun x_ o_ w_ => PtrAt (In o_ [3]) w_ (pOf (x_.getD 0 undef)) y344⟩, ⟨some 2, none, [], [2], fun x_ o_ w_ => EPtr v308 1 x149 (pOf (x_.getD 0 undef))⟩, ⟨some 6, none, [3], [6], fun x_ o_ w_ => PtrAt (In o_ [3]) w_ (pOf (x_.getD 0 undef)) y349⟩, ⟨some 6, none, [], [6], fun x_ o_ w_ => EPtr v308 1 x316 (pOf (x_.getD 0 undef))⟩, ⟨some 13, none, [10], [13], fun x_ o_ w_ => PtrAt (In o_ [10]) w_ (pOf (x_.getD 0 undef)) y371⟩, ⟨some 13, none, [], [13], fun x_ o_ w_ => EPtr v311 1 x316 (pOf (x_.getD 0 undef))⟩, ⟨some 20, none, [10], [20], fun x_ o_ w_ => PtrAt (In o_ [10]) w_ (pOf (x_.getD 0 undef)) y422⟩, ⟨some 20, none, [], [20], fun x_ o_ w_ => EPtr v311 1 x316 (pOf (x_.getD 0 undef))⟩] [⟨[], [], [], [], fun x_ => v308, false⟩, ⟨[], [], [], [], fun x_ => .int .i64 x149, false⟩, ⟨[], [1], [0, 1], [2], fun x_ => .pointer (some (pOf (x_.getD 0 undef))), false⟩, ⟨[], [5], [0, 1, 2], [], fun x_ => .int .i64 y344, false⟩, ⟨[], [], [], [], fun x_ => v308, false⟩, ⟨[], [], [], [], fun x_ => .int .i64 x316, false⟩, ⟨[], [1], [4, 5], [6], fun x_ => .pointer (some (pOf (x_.getD 0 undef))), false⟩, ⟨[], [7], [4, 5, 6], [], fun x_ => .int .i64 y349, false⟩, ⟨[], [], [0, 1, 2, 3, 4, 5, 6, 7], [], fun x_ => .bool (((y344 == y349))), false⟩, ⟨[], [], [0, 1, 2, 3, 4, 5, 6, 7, 8], [], fun x_ => .bool (((y344 == y349))), false⟩, ⟨[], [], [0, 1, 2, 3, 4, 5, 6, 7, 8, 9], [], fun x_ => .int .i64 y282, false⟩, ⟨[], [], [0, 1, 2, 3, 4, 5, 6, 7, 8, 9], [], fun x_ => v311, false⟩, ⟨[], [], [0, 1, 2, 3, 4, 5, 6, 7, 8, 9], [], fun x_ => .int .i64 x316, false⟩, ⟨[], [2], [0, 1, 2, 3, 4, 5, 6, 7, 8, 9, 11, 12], [13], fun x_ => .pointer (some (pOf (x_.getD 0 undef))), false⟩, ⟨[], [9], [0, 1, 2, 3, 4, 5, 6, 7, 8, 9, 11, 12, 13], [], fun x_ => .int .i64 y371, false⟩, ⟨[], [], [0, 1, 2, 3, 4, 5, 6, 7, 8, 9, 10, 11, 12, 13, 14], [], fun x_ => .int .i64 ((W (y282 - y371))), false⟩, ⟨[], [], [0, 1, 2, 3, 4, 5, 6, 7, 8, 9, 10, 11, 12, 13, 14, 15], [], fun x_ => .bool ((decide (((W (y282 - y371))) > 1))), false⟩, ⟨[], [], [0, 1, 2, 3, 4, 5, 6, 7, 8, 9, 10, 11, 12, 13, 14, 15, 16], [], fun x_ => .bool ((decide (((W (y282 - y371))) > 1))), false⟩, ⟨[], [], [0, 1, 2, 3, 4, 5, 6, 7, 8, 9, 10, 11, 12, 13, 14, 15, 16, 17], [], fun x_ => v311, false⟩, ⟨[], [], [0, 1, 2, 3, 4, 5, 6, 7, 8, 9, 10, 11, 12, 13, 14, 15, 16, 17], [], fun x_ => .int .i64 x316, false⟩, ⟨[], [2], [0, 1, 2, 3, 4, 5, 6, 7, 8, 9, 10, 11, 12, 13, 14, 15, 16, 17, 18, 19], [20], fun x_ => .pointer (some (pOf (x_.getD 0 undef))), false⟩, ⟨[], [11], [0, 1, 2, 3, 4, 5, 6, 7, 8, 9, 10, 11, 12, 13, 14, 15, 16, 17, 18, 19, 20], [], fun x_ => .int .i64 y422, false⟩, ⟨[], [], [0, 1, 2, 3, 4, 5, 6, 7, 8, 9, 10, 11, 12, 13, 14, 15, 16, 17], [], fun x_ => .int .i64 y282, false⟩, ⟨[], [], [0, 1, 2, 3, 4, 5, 6, 7, 8, 9, 10, 11, 12, 13, 14, 15, 16, 17, 18, 19, 20, 21, 22], [], fun x_ => .int .i64 ((W (y422 - y282))), false⟩, ⟨[], [], [0, 1, 2, 3, 4, 5, 6, 7, 8, 9, 10, 11, 12, 13, 14, 15, 16, 17, 18, 19, 20, 21, 22, 23], [], fun x_ => .bool ((decide (((W (y422 - y282))) > 1))), false⟩, ⟨[], [], [0, 1, 2, 3, 4, 5, 6, 7, 8, 9, 10, 11, 12, 13, 14, 15, 16, 17, 18, 19, 20, 21, 22, 23, 24], [], fun x_ => .bool ((decide (((W (y422 - y282))) > 1))), false⟩, ⟨[], [], [0, 1, 2, 3, 4, 5, 6, 7, 8, 9, 10, 11, 12, 13, 14, 15, 16, 17, 18, 19, 20, 21, 22, 23, 24, 25], [], fun x_ => .bool ((decide (((W (y422 - y282))) > 1))), false⟩, ⟨[], [], [0, 1, 2, 3, 4, 5, 6, 7, 8, 9, 10, 11, 12, 13, 14, 15, 16, 17, 18, 19, 20, 21, 22, 23, 24, 25, 26], [], fun x_ => .int .i64 x149, false⟩, ⟨[], [], [0, 1, 2, 3, 4, 5, 6, 7, 8, 9, 10, 11, 12, 13, 14, 15, 16, 17, 18, 19, 20, 21, 22, 23, 24, 25, 26], [], fun x_ => .int .i64 x316, false⟩, ⟨[], [], [0, 1, 2, 3, 4, 5, 6, 7, 8, 9, 10, 11, 12, 13, 14, 15, 16, 17, 18, 19, 20, 21, 22, 23, 24, 25, 26, 27, 28], [], fun x_ => .bool ((decide (x149 < x316))), false⟩, ⟨[], [], [0, 1, 2, 3, 4, 5, 6, 7, 8, 9, 10, 11, 12, 13, 14, 15, 16, 17, 18, 19, 20, 21, 22, 23, 24, 25, 26, 27, 28, 29], [], fun x_ => .bool ((decide (x149 < x316))), false⟩, ⟨[], [], [0, 1, 2, 3, 4, 5, 6, 7, 8, 9, 10, 11, 12, 13, 14, 15, 16, 17, 18, 19, 20, 21, 22, 23, 24, 25, 26, 27, 28, 29, 30], [], fun x_ => undef, true⟩, ⟨[], [], [0, 1, 2, 3, 4, 5, 6, 7, 8, 9, 10, 11, 12, 13, 14, 15, 16, 17, 18, 19, 20, 21, 22, 23, 24, 25, 26, 27, 28, 29, 30], [], fun x_ => undef, true⟩, ⟨[], [], [0, 1, 2, 3, 4, 5, 6, 7, 8, 9, 10, 11, 12, 13, 14, 15, 16, 17, 18, 19, 20, 21, 22, 23, 24, 25, 26, 27, 28, 29, 30], [], fun x_ => undef, true⟩, ⟨[], [], [0, 1, 2, 3, 4, 5, 6, 7, 8, 9, 10, 11, 12, 13, 14, 15, 16, 17, 18, 19, 20, 21, 22, 23, 24, 25, 26, 27, 28, 29, 30, 32, 33], [], fun x_ => undef, true⟩, ⟨[], [], [0, 1, 2, 3, 4, 5, 6, 7, 8, 9, 10, 11, 12, 13, 14, 15, 16, 17, 18, 19, 20, 21, 22, 23, 24, 25, 26, 27, 28, 29, 30, 32, 33, 34], [], fun x_ => undef, true⟩, ⟨[], [], [0, 1, 2, 3, 4, 5, 6, 7, 8, 9, 10, 11, 12, 13, 14, 15, 16, 17, 18, 19, 20, 21, 22, 23, 24, 25, 26, 27, 28, 29, 30, 31, 32, 33, 34, 35], [], fun x_ => undef, true⟩, ⟨[], [], [0, 1, 2, 3, 4, 5, 6, 7, 8, 9, 10, 11, 12, 13, 14, 15, 16, 17, 18, 19, 20, 21, 22, 23, 24, 25, 26, 27, 28, 29, 30, 31, 32, 33, 34, 35, 36], [], fun x_ => .bool false, false⟩, ⟨[], [], [0, 1, 2, 3, 4, 5, 6, 7, 8, 9, 10, 11, 12, 13, 14, 15, 16, 17, 18, 19, 20, 21, 22, 23, 24, 25, 26, 27, 28, 29, 30, 31, 32, 33, 34, 35, 36, 37], [], fun x_ => .bool false, false⟩, ⟨[], [], [0, 1, 2, 3, 4, 5, 6, 7, 8, 9, 10, 11, 12, 13, 14, 15, 16, 17, 18, 19, 20, 21, 22, 23, 24, 25, 26, 27, 28, 29, 30, 31, 32, 33, 34, 35, 36, 37, 38], [], fun x_ => .bool false, false⟩] [] [] (fun o_ w_ => Ent w0 none o_ w_) (by kernel_rfl) (by kernel_rfl) ⟨fun _ _ _ _ _ _ ev hd h => Rv.evo h ev hd, fun _ _ _ _ _ _ ev hd h => Rv.evo h ev hd, fun _ _ _ _ _ _ ev hd h => Rv.evo h ev hd, fun _ _ _ _ _ _ ev hd h => Rv.evo h ev hd, fun _ _ _ _ _ _ ev hd h => SrcC.evo h ev hd, fun _ _ _ _ _ _ ev hd h => PtrAt.evo h ev hd, fun _ _ _ _ _ _ _ _ h => h, fun _ _ _ _ _ _ ev hd h => PtrAt.evo h ev hd, fun _ _ _ _ _ _ _ _ h => h, fun _ _ _ _ _ _ ev hd h => PtrAt.evo h ev hd, fun _ _ _ _ _ _ _ _ h => h, fun _ _ _ _ _ _ ev hd h => PtrAt.evo h ev hd, fun _ _ _ _ _ _ _ _ h => h, trivial⟩ (Ent.any rfl rfl) ⟨hE.evo ev_ rfl rfl, ⟨h10.evo ev_ rfl, h309.evo ev_ rfl, h312.evo ev_ rfl, h315.evo ev_ rfl, hs.evo ev_ rfl, trivial⟩⟩ ⟨?_, ?_, ?_, ?_, ?_, ?_, ?_, ?_, ?_, ?_, ?_, ?_, ?_, ?_, ?_, ?_, ?_, ?_, ?_, ?_, ?_, ?_, ?_, ?_, ?_, ?_, ?_, ?_, ?_, ?_, ?_, ?_, ?_, ?_, ?_, ?_, ?_, ?_, ?_, ?_, trivial⟩ ?_
                          · intro vs539 o_ w_ hE 
                            refine OW.imp (OW.fr (L' := [(4, v308)]) ⟨rfl, trivial⟩ (OW.pv (v := v308) rfl)) ?_
                            rintro _ _ ⟨rfl, rfl⟩
                            exact ⟨_, Evo.refl _ _ _ _, rfl, trivial⟩
                          · intro vs539 o_ w_ hE 
                            refine OW.imp (OW.fr (L' := [(16, .int .i64 x149)]) ⟨rfl, trivial⟩ (OW.pv (v := .int .i64 x149) rfl)) ?_
                            rintro _ _ ⟨rfl, rfl⟩
                            exact ⟨_, Evo.refl _ _ _ _, rfl, trivial⟩
                          · intro vs539 o_ w_ hE h309
                            have h309 : Rv (In o_ [3]) w_ v308 x307 := h309
                            refine OW.imp (OW.fr (L' := [(118, v308), (119, .int .i64 x149)]) ⟨rfl, rfl, trivial⟩ (OW.indexAddr Try.underlying22 ty3 rfl h309 rfl q348)) ?_
                            rintro _ _ ⟨rfl, ⟨pa345, hv_, hp346, he347⟩⟩
                            subst hv_
                            exact ⟨_, Evo.refl _ _ _ _, rfl, hp346, he347, trivial⟩
                          · intro vs539 o_ w_ hE hp346
                            have hp346 : PtrAt (In o_ [3]) w_ (pOf (vs539 2)) y344 := hp346
                            refine OW.imp (OW.fr (L' := [(120, .pointer (some (pOf (vs539 2))))]) ⟨rfl, trivial⟩ (OW.loadI ty3 rfl hp346)) ?_
                            rintro _ _ ⟨rfl, rfl⟩
                            exact ⟨_, Evo.refl _ _ _ _, rfl, trivial⟩
                          · intro vs539 o_ w_ hE 
                            refine OW.imp (OW.fr (L' := [(4, v308)]) ⟨rfl, trivial⟩ (OW.pv (v := v308) rfl)) ?_
                            rintro _ _ ⟨rfl, rfl⟩
                            exact ⟨_, Evo.refl _ _ _ _, rfl, trivial⟩
                          · intro vs539 o_ w_ hE 
                            refine OW.imp (OW.fr (L' := [(18, .int .i64 x316)]) ⟨rfl, trivial⟩ (OW.pv (v := .int .i64 x316) rfl)) ?_
                            rintro _ _ ⟨rfl, rfl⟩
                            exact ⟨_, Evo.refl _ _ _ _, rfl, trivial⟩
                          · intro vs539 o_ w_ hE h309
                            have h309 : Rv (In o_ [3]) w_ v308 x307 := h309
                            refine OW.imp (OW.fr (L' := [(122, v308), (123, .int .i64 x316)]) ⟨rfl, rfl, trivial⟩ (OW.indexAddr Try.underlying22 ty3 rfl h309 rfl q353)) ?_
                            rintro _ _ ⟨rfl, ⟨pa350, hv_, hp351, he352⟩⟩
                            subst hv_
                            exact ⟨_, Evo.refl _ _ _ _, rfl, hp351, he352, trivial⟩
                          · intro vs539 o_ w_ hE hp351
                            have hp351 : PtrAt (In o_ [3]) w_ (pOf (vs539 6)) y349 := hp351
                            refine OW.imp (OW.fr (L' := [(124, .pointer (some (pOf (vs539 6))))]) ⟨rfl, trivial⟩ (OW.loadI ty3 rfl hp351)) ?_
                            rintro _ _ ⟨rfl, rfl⟩
                            exact ⟨_, Evo.refl _ _ _ _, rfl, trivial⟩
                          · intro vs539 o_ w_ hE 
                            refine OW.imp (OW.fr (L' := [(121, .int .i64 y344), (125, .int .i64 y349)]) ⟨rfl, rfl, trivial⟩ (OW.pv (v := .bool (((y344 == y349)))) rfl)) ?_
                            rintro _ _ ⟨rfl, rfl⟩
                            exact ⟨_, Evo.refl _ _ _ _, rfl, trivial⟩
                          · intro vs539 o_ w_ hE 
                            refine OW.imp (OW.fr (L' := [(126, .bool (((y344 == y349))))]) ⟨rfl, trivial⟩ (OW.pv (v := .bool (((y344 == y349)))) rfl)) ?_
                            rintro _ _ ⟨rfl, rfl⟩
                            exact ⟨_, Evo.refl _ _ _ _, rfl, trivial⟩
                          · intro vs539 o_ w_ hE 
                            refine ⟨⟨_, rfl, congrArg (fun b => some (Value.bool b)) hc370⟩, ?_⟩
                            refine OW.imp (OW.fr (L' := [(17, .int .i64 y282)]) ⟨rfl, trivial⟩ (OW.pv (v := .int .i64 y282) rfl)) ?_
                            rintro _ _ ⟨rfl, rfl⟩
                            exact ⟨_, Evo.refl _ _ _ _, rfl, trivial⟩
                          · intro vs539 o_ w_ hE 
                            refine ⟨⟨_, rfl, congrArg (fun b => some (Value.bool b)) hc370⟩, ?_⟩
                            refine OW.imp (OW.fr (L' := [(13, v311)]) ⟨rfl, trivial⟩ (OW.pv (v := v311) rfl)) ?_
                            rintro _ _ ⟨rfl, rfl⟩
                            exact ⟨_, Evo.refl _ _ _ _, rfl, trivial⟩
                          · intro vs539 o_ w_ hE 
                            refine ⟨⟨_, rfl, congrArg (fun b => some (Value.bool b)) hc370⟩, ?_⟩
                            refine OW.imp (OW.fr (L' := [(18, .int .i64 x316)]) ⟨rfl, trivial⟩ (OW.pv (v := .int .i64 x316) rfl)) ?_
                            rintro _ _ ⟨rfl, rfl⟩
                            exact ⟨_, Evo.refl _ _ _ _, rfl, trivial⟩
                          · intro vs539 o_ w_ hE h312
                            have h312 : Rv (In o_ [10]) w_ v311 x310 := h312
                            refine ⟨⟨_, rfl, congrArg (fun b => some (Value.bool b)) hc370⟩, ?_⟩
                            refine OW.imp (OW.fr (L' := [(129, v311), (130, .int .i64 x316)]) ⟨rfl, rfl, trivial⟩ (OW.indexAddr Try.underlying22 ty3 rfl h312 rfl q375)) ?_
                            rintro _ _ ⟨rfl, ⟨pa372, hv_, hp373, he374⟩⟩
                            subst hv_
                            exact ⟨_, Evo.refl _ _ _ _, rfl, hp373, he374, trivial⟩
                          · intro vs539 o_ w_ hE hp373
                            have hp373 : PtrAt (In o_ [10]) w_ (pOf (vs539 13)) y371 := hp373
                            refine ⟨⟨_, rfl, congrArg (fun b => some (Value.bool b)) hc370⟩, ?_⟩
                            refine OW.imp (OW.fr (L' := [(131, .pointer (some (pOf (vs539 13))))]) ⟨rfl, trivial⟩ (OW.loadI ty3 rfl hp373)) ?_
                            rintro _ _ ⟨rfl, rfl⟩
                            exact ⟨_, Evo.refl _ _ _ _, rfl, trivial⟩
                          · intro vs539 o_ w_ hE 
                            refine ⟨⟨_, rfl, congrArg (fun b => some (Value.bool b)) hc370⟩, ?_⟩
                            refine OW.imp (OW.fr (L' := [(128, .int .i64 y282), (132, .int .i64 y371)]) ⟨rfl, rfl, trivial⟩ (OW.pv (v := .int .i64 ((W (y282 - y371)))) rfl)) ?_
                            rintro _ _ ⟨rfl, rfl⟩
                            exact ⟨_, Evo.refl _ _ _ _, rfl, trivial⟩
                          · intro vs539 o_ w_ hE 
                            refine ⟨⟨_, rfl, congrArg (fun b => some (Value.bool b)) hc370⟩, ?_⟩
                            refine OW.imp (OW.fr (L' := [(133, .int .i64 ((W (y282 - y371))))]) ⟨rfl, trivial⟩ (OW.pv (v := .bool ((decide (((W (y282 - y371))) > 1)))) rfl)) ?_
                            rintro _ _ ⟨rfl, rfl⟩
                            exact ⟨_, Evo.refl _ _ _ _, rfl, trivial⟩
                          · intro vs539 o_ w_ hE 
                            refine ⟨⟨_, rfl, congrArg (fun b => some (Value.bool b)) hc370⟩, ?_⟩
                            refine OW.imp (OW.fr (L' := [(134, .bool ((decide (((W (y282 - y371))) > 1))))]) ⟨rfl, trivial⟩ (OW.pv (v := .bool ((decide (((W (y282 - y371))) > 1)))) rfl)) ?_
                            rintro _ _ ⟨rfl, rfl⟩
                            exact ⟨_, Evo.refl _ _ _ _, rfl, trivial⟩
                          · intro vs539 o_ w_ hE 
                            refine ⟨⟨_, rfl, congrArg (fun b => some (Value.bool b)) hc403⟩, ?_⟩
                            refine OW.imp (OW.fr (L' := [(13, v311)]) ⟨rfl, trivial⟩ (OW.pv (v := v311) rfl)) ?_
                            rintro _ _ ⟨rfl, rfl⟩
                            exact ⟨_, Evo.refl _ _ _ _, rfl, trivial⟩
                          · intro vs539 o_ w_ hE 
                            refine ⟨⟨_, rfl, congrArg (fun b => some (Value.bool b)) hc403⟩, ?_⟩
                            refine OW.imp (OW.fr (L' := [(18, .int .i64 x316)]) ⟨rfl, trivial⟩ (OW.pv (v := .int .i64 x316) rfl)) ?_
                            rintro _ _ ⟨rfl, rfl⟩
                            exact ⟨_, Evo.refl _ _ _ _, rfl, trivial⟩
                          · intro vs539 o_ w_ hE h312
                            have h312 : Rv (In o_ [10]) w_ v311 x310 := h312
                            refine ⟨⟨_, rfl, congrArg (fun b => some (Value.bool b)) hc403⟩, ?_⟩
                            refine OW.imp (OW.fr (L' := [(136, v311), (137, .int .i64 x316)]) ⟨rfl, rfl, trivial⟩ (OW.indexAddr Try.underlying22 ty3 rfl h312 rfl q426)) ?_
                            rintro _ _ ⟨rfl, ⟨pa423, hv_, hp424, he425⟩⟩
                            subst hv_
                            exact ⟨_, Evo.refl _ _ _ _, rfl, hp424, he425, trivial⟩
                          · intro vs539 o_ w_ hE hp424
                            have hp424 : PtrAt (In o_ [10]) w_ (pOf (vs539 20)) y422 := hp424
                            refine ⟨⟨_, rfl, congrArg (fun b => some (Value.bool b)) hc403⟩, ?_⟩
                            refine OW.imp (OW.fr (L' := [(138, .pointer (some (pOf (vs539 20))))]) ⟨rfl, trivial⟩ (OW.loadI ty3 rfl hp424)) ?_
                            rintro _ _ ⟨rfl, rfl⟩
                            exact ⟨_, Evo.refl _ _ _ _, rfl, trivial⟩
                          · intro vs539 o_ w_ hE 
                            refine ⟨⟨_, rfl, congrArg (fun b => some (Value.bool b)) hc403⟩, ?_⟩
                            refine OW.imp (OW.fr (L' := [(17, .int .i64 y282)]) ⟨rfl, trivial⟩ (OW.pv (v := .int .i64 y282) rfl)) ?_
                            rintro _ _ ⟨rfl, rfl⟩
                            exact ⟨_, Evo.refl _ _ _ _, rfl, trivial⟩
                          · intro vs539 o_ w_ hE 
                            refine ⟨⟨_, rfl, congrArg (fun b => some (Value.bool b)) hc403⟩, ?_⟩
                            refine OW.imp (OW.fr (L' := [(139, .int .i64 y422), (140, .int .i64 y282)]) ⟨rfl, rfl, trivial⟩ (OW.pv (v := .int .i64 ((W (y422 - y282)))) rfl)) ?_
                            rintro _ _ ⟨rfl, rfl⟩
                            exact ⟨_, Evo.refl _ _ _ _, rfl, trivial⟩
                          · intro vs539 o_ w_ hE 
                            refine ⟨⟨_, rfl, congrArg (fun b => some (Value.bool b)) hc403⟩, ?_⟩
                            refine OW.imp (OW.fr (L' := [(141, .int .i64 ((W (y422 - y282))))]) ⟨rfl, trivial⟩ (OW.pv (v := .bool ((decide (((W (y422 - y282))) > 1)))) rfl)) ?_
                            rintro _ _ ⟨rfl, rfl⟩
                            exact ⟨_, Evo.refl _ _ _ _, rfl, trivial⟩
                          · intro vs539 o_ w_ hE 
                            refine ⟨⟨_, rfl, congrArg (fun b => some (Value.bool b)) hc370⟩, ?_⟩
                            refine OW.imp (OW.fr (L' := [(135, .bool ((decide (((W (y282 - y371))) > 1)))), (142, .bool ((decide (((W (y422 - y282))) > 1))))]) ⟨rfl, rfl, trivial⟩ (OW.pickF rfl hc403 rfl)) ?_
                            rintro _ _ ⟨rfl, rfl⟩
                            exact ⟨_, Evo.refl _ _ _ _, rfl, trivial⟩
                          · intro vs539 o_ w_ hE 
                            refine ⟨⟨_, rfl, congrArg (fun b => some (Value.bool b)) hc370⟩, ?_⟩
                            refine OW.imp (OW.fr (L' := [(143, .bool ((decide (((W (y422 - y282))) > 1))))]) ⟨rfl, trivial⟩ (OW.pv (v := .bool ((decide (((W (y422 - y282))) > 1)))) rfl)) ?_
                            rintro _ _ ⟨rfl, rfl⟩
                            exact ⟨_, Evo.refl _ _ _ _, rfl, trivial⟩
                          · intro vs539 o_ w_ hE 
                            refine ⟨⟨_, rfl, congrArg (fun b => some (Value.bool b)) hc463⟩, ?_⟩
                            refine OW.imp (OW.fr (L' := [(16, .int .i64 x149)]) ⟨rfl, trivial⟩ (OW.pv (v := .int .i64 x149) rfl)) ?_
                            rintro _ _ ⟨rfl, rfl⟩
                            exact ⟨_, Evo.refl _ _ _ _, rfl, trivial⟩
                          · intro vs539 o_ w_ hE 
                            refine ⟨⟨_, rfl, congrArg (fun b => some (Value.bool b)) hc463⟩, ?_⟩
                            refine OW.imp (OW.fr (L' := [(18, .int .i64 x316)]) ⟨rfl, trivial⟩ (OW.pv (v := .int .i64 x316) rfl)) ?_
                            rintro _ _ ⟨rfl, rfl⟩
                            exact ⟨_, Evo.refl _ _ _ _, rfl, trivial⟩
                          · intro vs539 o_ w_ hE 
                            refine ⟨⟨_, rfl, congrArg (fun b => some (Value.bool b)) hc463⟩, ?_⟩
                            refine OW.imp (OW.fr (L' := [(145, .int .i64 x149), (146, .int .i64 x316)]) ⟨rfl, rfl, trivial⟩ (OW.pv (v := .bool ((decide (x149 < x316)))) rfl)) ?_
                            rintro _ _ ⟨rfl, rfl⟩
                            exact ⟨_, Evo.refl _ _ _ _, rfl, trivial⟩
                          · intro vs539 o_ w_ hE 
                            refine ⟨⟨_, rfl, congrArg (fun b => some (Value.bool b)) hc463⟩, ?_⟩
                            refine OW.imp (OW.fr (L' := [(147, .bool ((decide (x149 < x316))))]) ⟨rfl, trivial⟩ (OW.pv (v := .bool ((decide (x149 < x316)))) rfl)) ?_
                            rintro _ _ ⟨rfl, rfl⟩
                            exact ⟨_, Evo.refl _ _ _ _, rfl, trivial⟩
                          · intro vs539 o_ w_ hE 
                            exact ⟨⟨_, rfl, .inl (congrArg (fun b => some (Value.bool b)) hc515)⟩, rfl, trivial⟩
                          · intro vs539 o_ w_ hE 
                            exact ⟨⟨_, rfl, .inl (congrArg (fun b => some (Value.bool b)) hc515)⟩, rfl, trivial⟩
                          · intro vs539 o_ w_ hE 
                            exact ⟨⟨_, rfl, .inl (congrArg (fun b => some (Value.bool b)) hc515)⟩, rfl, trivial⟩
                          · intro vs539 o_ w_ hE 
                            exact ⟨⟨_, rfl, .inl (congrArg (fun b => some (Value.bool b)) hc515)⟩, rfl, trivial⟩
                          · intro vs539 o_ w_ hE 
                            exact ⟨⟨_, rfl, .inl (congrArg (fun b => some (Value.bool b)) hc515)⟩, rfl, trivial⟩
                          · intro vs539 o_ w_ hE 
                            exact ⟨⟨_, rfl, .inl (congrArg (fun b => some (Value.bool b)) hc515)⟩, rfl, trivial⟩
                          · intro vs539 o_ w_ hE 
                            refine ⟨⟨_, rfl, congrArg (fun b => some (Value.bool b)) hc463⟩, ?_⟩
                            refine OW.imp (OW.fr (L' := [(148, .bool ((decide (x149 < x316)))), (154, undef)]) ⟨rfl, rfl, trivial⟩ (OW.pickF rfl hc515 rfl)) ?_
                            rintro _ _ ⟨rfl, rfl⟩
                            exact ⟨_, Evo.refl _ _ _ _, rfl, trivial⟩
                          · intro vs539 o_ w_ hE 
                            refine ⟨⟨_, rfl, congrArg (fun b => some (Value.bool b)) hc370⟩, ?_⟩
                            refine OW.imp (OW.fr (L' := [(144, .bool ((decide (((W (y422 - y282))) > 1)))), (155, .bool false)]) ⟨rfl, rfl, trivial⟩ (OW.pickF rfl hc463 rfl)) ?_
                            rintro _ _ ⟨rfl, rfl⟩
                            exact ⟨_, Evo.refl _ _ _ _, rfl, trivial⟩
                          · intro vs539 o_ w_ hE 
                            refine OW.imp (OW.fr (L' := [(127, .bool (((y344 == y349)))), (156, .bool false)]) ⟨rfl, rfl, trivial⟩ (OW.pickT rfl hc370 rfl)) ?_
                            rintro _ _ ⟨rfl, rfl⟩
                            exact ⟨_, Evo.refl _ _ _ _, rfl, trivial⟩
                          · intro vs539 o541 w540 hE h10 h309 h312 h315 hs hp346 he347 hp351 he352 hp373 he374 hp424 he425
                            have h10 : Rv (In o541 [0]) w540 sv y3 := h10
                            have h309 : Rv (In o541 [3]) w540 v308 x307 := h309
                            have h312 : Rv (In o541 [10]) w540 v311 x310 := h312
                            have h315 : Rv (In o541 [10]) w540 v314 x313 := h315
                            have hs : SrcC o541 2 w540 sb sv y3 st103 := hs
                            have hp346 : PtrAt (In o541 [3]) w540 (pOf (vs539 2)) y344 := hp346
                            have he347 : EPtr v308 1 x149 (pOf (vs539 2)) := he347
                            have hp351 : PtrAt (In o541 [3]) w540 (pOf (vs539 6)) y349 := hp351
                            have he352 : EPtr v308 1 x316 (pOf (vs539 6)) := he352
                            have hp373 : PtrAt (In o541 [10]) w540 (pOf (vs539 13)) y371 := hp373
                            have he374 : EPtr v311 1 x316 (pOf (vs539 13)) := he374
                            have hp424 : PtrAt (In o541 [10]) w540 (pOf (vs539 20)) y422 := hp424
                            have he425 : EPtr v311 1 x316 (pOf (vs539 20)) := he425
                            have e542 := Option.some.inj q498
                            obtain ⟨e543, e544⟩ := Prod.mk.inj e542
                            obtain ⟨e545, e546⟩ := Prod.mk.inj e544
                            obtain ⟨e547, e548⟩ := Prod.mk.inj e546
                            obtain ⟨e549, e550⟩ := Prod.mk.inj e548
                            obtain ⟨e551, e552⟩ := Prod.mk.inj e550
                            obtain ⟨e553, e554⟩ := Prod.mk.inj e552
                            obtain ⟨e555, e556⟩ := Prod.mk.inj e554
                            subst e543 e545 e547 e549 e551 e553 e555 e556
                            exact NK.sub (L' := [(3, .pointer (some ⟨sb, 0, none⟩)), (4, v308), (9, .int .i64 x95), (12, .int .i64 y102), (13, v311), (15, .int .i64 ((W (x145 + y282)))), (16, .int .i64 x149), (17, .int .i64 y282), (88, v314), (89, .int .i64 (len x126)), (90, .int .i64 x149), (114, .int .i64 (len x293)), (115, .int .i64 x316), (128, .int .i64 y282), (129, v311), (130, .int .i64 x316), (132, .int .i64 y371), (133, .int .i64 ((W (y282 - y371)))), (134, .bool ((decide (((W (y282 - y371))) > 1)))), (135, .bool ((decide (((W (y282 - y371))) > 1)))), (136, v311), (137, .int .i64 x316), (139, .int .i64 y422), (140, .int .i64 y282), (141, .int .i64 ((W (y422 - y282)))), (142, .bool ((decide (((W (y422 - y282))) > 1)))), (143, .bool ((decide (((W (y422 - y282))) > 1)))), (144, .bool ((decide (((W (y422 - y282))) > 1)))), (145, .int .i64 x149), (146, .int .i64 x316), (147, .bool ((decide (x149 < x316)))), (148, .bool ((decide (x149 < x316)))), (155, .bool false), (156, .bool false), (157, .bool false)]) ⟨rfl, rfl, rfl, rfl, rfl, rfl, rfl, rfl, rfl, rfl, rfl, rfl, rfl, rfl, rfl, rfl, rfl, rfl, rfl, rfl, rfl, rfl, rfl, rfl, rfl, rfl, rfl, rfl, rfl, rfl, rfl, rfl, rfl, rfl, rfl, trivial⟩ (hJ501 w540 o541 v308 v311 v314 v311 v311 hE h10 h309 h312 h315 h312 h312 hs)
                  · have q364 := iteF hc370 q364
                    have ev_ := Evo.drew o332 w331
                    refine CW.any (ow := o332) hmix [⟨none, none, [0], [], fun x_ o_ w_ => Rv (In o_ [0]) w_ sv y3⟩, ⟨none, none, [3], [], fun x_ o_ w_ => Rv (In o_ [3]) w_ v308 x307⟩, ⟨none, none, [10], [], fun x_ o_ w_ => Rv (In o_ [10]) w_ v311 x310⟩, ⟨none, none, [10], [], fun x_ o_ w_ => Rv (In o_ [10]) w_ v314 x313⟩, ⟨none, none, [2], [], fun x_ o_ w_ => SrcC o_ 2 w_ sb sv y3 st103⟩, ⟨some 2, none, [3], [2], fun x_ o_ w_ => PtrAt (In o_ [3]) w_ (pOf (x_.getD 0 undef)) y344⟩, ⟨some 2, none, [], [2], fun x_ o_ w_ => EPtr v308 1 x149 (pOf (x_.getD 0 undef))⟩, ⟨some 6, none, [3], [6], fun x_ o_ w_ => PtrAt (In o_ [3]) w_ (pOf (x_.getD 0 undef)) y349⟩, ⟨some 6, none, [], [6], fun x_ o_ w_ => EPtr v308 1 x316 (pOf (x_.getD 0 undef))⟩] [⟨[], [], [], [], fun x_ => v308, false⟩, ⟨[], [], [], [], fun x_ => .int .i64 x149, false⟩, ⟨[], [1], [0, 1], [2], fun x_ => .pointer (some (pOf (x_.getD 0 undef))), false⟩, ⟨[], [5], [0, 1, 2], [], fun x_ => .int .i64 y344, false⟩, ⟨[], [], [], [], fun x_ => v308, false⟩, ⟨[], [], [], [], fun x_ => .int .i64 x316, false⟩, ⟨[], [1], [4, 5], [6], fun x_ => .pointer (some (pOf (x_.getD 0 undef))), false⟩, ⟨[], [7], [4, 5, 6], [], fun x_ => .int .i64 y349, false⟩, ⟨[], [], [0, 1, 2, 3, 4, 5, 6, 7], [], fun x_ => .bool (((y344 == y349))), false⟩, ⟨[], [], [0, 1, 2, 3, 4, 5, 6, 7, 8], [], fun x_ => .bool (((y344 == y349))), false⟩, ⟨[], [], [0, 1, 2, 3, 4, 5, 6, 7, 8, 9], [], fun x_ => undef, true⟩, ⟨[], [], [0, 1, 2, 3, 4, 5, 6, 7, 8, 9], [], fun x_ => undef, true⟩, ⟨[], [], [0, 1, 2, 3, 4, 5, 6, 7, 8, 9], [], fun x_ => undef, true⟩, ⟨[], [], [0, 1, 2, 3, 4, 5, 6, 7, 8, 9, 11, 12], [], fun x_ => undef, true⟩, ⟨[], [], [0, 1, 2, 3, 4, 5, 6, 7, 8, 9, 11, 12, 13], [], fun x_ => undef, true⟩, ⟨[], [], [0, 1, 2, 3, 4, 5, 6, 7, 8, 9, 10, 11, 12, 13, 14], [], fun x_ => undef, true⟩, ⟨[], [], [0, 1, 2, 3, 4, 5, 6, 7, 8, 9, 10, 11, 12, 13, 14, 15], [], fun x_ => undef, true⟩, ⟨[], [], [0, 1, 2, 3, 4, 5, 6, 7, 8, 9, 10, 11, 12, 13, 14, 15, 16], [], fun x_ => undef, true⟩, ⟨[], [], [0, 1, 2, 3, 4, 5, 6, 7, 8, 9, 10, 11, 12, 13, 14, 15, 16, 17], [], fun x_ => undef, true⟩, ⟨[], [], [0, 1, 2, 3, 4, 5, 6, 7, 8, 9, 10, 11, 12, 13, 14, 15, 16, 17], [], fun x_ => undef, true⟩, ⟨[], [], [0, 1, 2, 3, 4, 5, 6, 7, 8, 9, 10, 11, 12, 13, 14, 15, 16, 17, 18, 19], [], fun x_ => undef, true⟩, ⟨[], [], [0, 1, 2, 3, 4, 5, 6, 7, 8, 9, 10, 11, 12, 13, 14, 15, 16, 17, 18, 19, 20], [], fun x_ => undef, true⟩, ⟨[], [], [0, 1, 2, 3, 4, 5, 6, 7, 8, 9, 10, 11, 12, 13, 14, 15, 16, 17], [], fun x_ => undef, true⟩, ⟨[], [], [0, 1, 2, 3, 4, 5, 6, 7, 8, 9, 10, 11, 12, 13, 14, 15, 16, 17, 18, 19, 20, 21, 22], [], fun x_ => undef, true⟩, ⟨[], [], [0, 1, 2, 3, 4, 5, 6, 7, 8, 9, 10, 11, 12, 13, 14, 15, 16, 17, 18, 19, 20, 21, 22, 23], [], fun x_ => undef, true⟩, ⟨[], [], [0, 1, 2, 3, 4, 5, 6, 7, 8, 9, 10, 11, 12, 13, 14, 15, 16, 17, 18, 19, 20, 21, 22, 23, 24], [], fun x_ => undef, true⟩, ⟨[], [], [0, 1, 2, 3, 4, 5, 6, 7, 8, 9, 10, 11, 12, 13, 14, 15, 16, 17, 18, 19, 20, 21, 22, 23, 24, 25], [], fun x_ => undef, true⟩, ⟨[], [], [0, 1, 2, 3, 4, 5, 6, 7, 8, 9, 10, 11, 12, 13, 14, 15, 16, 17, 18, 19, 20, 21, 22, 23, 24, 25, 26], [], fun x_ => undef, true⟩, ⟨[], [], [0, 1, 2, 3, 4, 5, 6, 7, 8, 9, 10, 11, 12, 13, 14, 15, 16, 17, 18, 19, 20, 21, 22, 23, 24, 25, 26], [], fun x_ => undef, true⟩, ⟨[], [], [0, 1, 2, 3, 4, 5, 6, 7, 8, 9, 10, 11, 12, 13, 14, 15, 16, 17, 18, 19, 20, 21, 22, 23, 24, 25, 26, 27, 28], [], fun x_ => undef, true⟩, ⟨[], [], [0, 1, 2, 3, 4, 5, 6, 7, 8, 9, 10, 11, 12, 13, 14, 15, 16, 17, 18, 19, 20, 21, 22, 23, 24, 25, 26, 27, 28, 29], [], fun x_ => undef, true⟩, ⟨[], [], [0, 1, 2, 3, 4, 5, 6, 7, 8, 9, 10, 11, 12, 13, 14, 15, 16, 17, 18, 19, 20, 21, 22, 23, 24, 25, 26, 27, 28, 29, 30], [], fun x_ => undef, true⟩, ⟨[], [], [0, 1, 2, 3, 4, 5, 6, 7, 8, 9, 10, 11, 12, 13, 14, 15, 16, 17, 18, 19, 20, 21, 22, 23, 24, 25, 26, 27, 28, 29, 30], [], fun x_ => undef, true⟩, ⟨[], [], [0, 1, 2, 3, 4, 5, 6, 7, 8, 9, 10, 11, 12, 13, 14, 15, 16, 17, 18, 19, 20, 21, 22, 23, 24, 25, 26, 27, 28, 29, 30], [], fun x_ => undef, true⟩, ⟨[], [], [0, 1, 2, 3, 4, 5, 6, 7, 8, 9, 10, 11, 12, 13, 14, 15, 16, 17, 18, 19, 20, 21, 22, 23, 24, 25, 26, 27, 28, 29, 30, 32, 33], [], fun x_ => undef, true⟩, ⟨[], [], [0, 1, 2, 3, 4, 5, 6, 7, 8, 9, 10, 11, 12, 13, 14, 15, 16, 17, 18, 19, 20, 21, 22, 23, 24, 25, 26, 27, 28, 29, 30, 32, 33, 34], [], fun x_ => undef, true⟩, ⟨[], [], [0, 1, 2, 3, 4, 5, 6, 7, 8, 9, 10, 11, 12, 13, 14, 15, 16, 17, 18, 19, 20, 21, 22, 23, 24, 25, 26, 27, 28, 29, 30, 31, 32, 33, 34, 35], [], fun x_ => undef, true⟩, ⟨[], [], [0, 1, 2, 3, 4, 5, 6, 7, 8, 9, 10, 11, 12, 13, 14, 15, 16, 17, 18, 19, 20, 21, 22, 23, 24, 25, 26, 27, 28, 29, 30, 31, 32, 33, 34, 35, 36], [], fun x_ => undef, true⟩, ⟨[], [], [0, 1, 2, 3, 4, 5, 6, 7, 8, 9, 10, 11, 12, 13, 14, 15, 16, 17, 18, 19, 20, 21, 22, 23, 24, 25, 26, 27, 28, 29, 30, 31, 32, 33, 34, 35, 36, 37], [], fun x_ => undef, true⟩, ⟨[], [], [0, 1, 2, 3, 4, 5, 6, 7, 8, 9, 10, 11, 12, 13, 14, 15, 16, 17, 18, 19, 20, 21, 22, 23, 24, 25, 26, 27, 28, 29, 30, 31, 32, 33, 34, 35, 36, 37, 38], [], fun x_ => .bool false, false⟩] [] [] (fun o_ w_ => Ent w0 none o_ w_) (by kernel_rfl) (by kernel_rfl) ⟨fun _ _ _ _ _ _ ev hd h => Rv.evo h ev hd, fun _ _ _ _ _ _ ev hd h => Rv.evo h ev hd, fun _ _ _ _ _ _ ev hd h => Rv.evo h ev hd, fun _ _ _ _ _ _ ev hd h => Rv.evo h ev hd, fun _ _ _ _ _ _ ev hd h => SrcC.evo h ev hd, fun _ _ _ _ _ _ ev hd h => PtrAt.evo h ev hd, fun _ _ _ _ _ _ _ _ h => h, fun _ _ _ _ _ _ ev hd h => PtrAt.evo h ev hd, fun _ _ _ _ _ _ _ _ h => h, trivial⟩ (Ent.any rfl rfl) ⟨hE.evo ev_ rfl rfl, ⟨h10.evo ev_ rfl, h309.evo ev_ rfl, h312.evo ev_ rfl, h315.evo ev_ rfl, hs.evo ev_ rfl, trivial⟩⟩ ⟨?_, ?_, ?_, ?_, ?_, ?_, ?_, ?_, ?_, ?_, ?_, ?_, ?_, ?_, ?_, ?_, ?_, ?_, ?_, ?_, ?_, ?_, ?_, ?_, ?_, ?_, ?_, ?_, ?_, ?_, ?_, ?_, ?_, ?_, ?_, ?_, ?_, ?_, ?_, ?_, trivial⟩ ?_
                    · intro vs557 o_ w_ hE 
                      refine OW.imp (OW.fr (L' := [(4, v308)]) ⟨rfl, trivial⟩ (OW.pv (v := v308) rfl)) ?_
                      rintro _ _ ⟨rfl, rfl⟩
                      exact ⟨_, Evo.refl _ _ _ _, rfl, trivial⟩
                    · intro vs557 o_ w_ hE 
                      refine OW.imp (OW.fr (L' := [(16, .int .i64 x149)]) ⟨rfl, trivial⟩ (OW.pv (v := .int .i64 x149) rfl)) ?_
                      rintro _ _ ⟨rfl, rfl⟩
                      exact ⟨_, Evo.refl _ _ _ _, rfl, trivial⟩
                    · intro vs557 o_ w_ hE h309
                      have h309 : Rv (In o_ [3]) w_ v308 x307 := h309
                      refine OW.imp (OW.fr (L' := [(118, v308), (119, .int .i64 x149)]) ⟨rfl, rfl, trivial⟩ (OW.indexAddr Try.underlying22 ty3 rfl h309 rfl q348)) ?_
                      rintro _ _ ⟨rfl, ⟨pa345, hv_, hp346, he347⟩⟩
                      subst hv_
                      exact ⟨_, Evo.refl _ _ _ _, rfl, hp346, he347, trivial⟩
                    · intro vs557 o_ w_ hE hp346
                      have hp346 : PtrAt (In o_ [3]) w_ (pOf (vs557 2)) y344 := hp346
                      refine OW.imp (OW.fr (L' := [(120, .pointer (some (pOf (vs557 2))))]) ⟨rfl, trivial⟩ (OW.loadI ty3 rfl hp346)) ?_
                      rintro _ _ ⟨rfl, rfl⟩
                      exact ⟨_, Evo.refl _ _ _ _, rfl, trivial⟩
                    · intro vs557 o_ w_ hE 
                      refine OW.imp (OW.fr (L' := [(4, v308)]) ⟨rfl, trivial⟩ (OW.pv (v := v308) rfl)) ?_
                      rintro _ _ ⟨rfl, rfl⟩
                      exact ⟨_, Evo.refl _ _ _ _, rfl, trivial⟩
                    · intro vs557 o_ w_ hE 
                      refine OW.imp (OW.fr (L' := [(18, .int .i64 x316)]) ⟨rfl, trivial⟩ (OW.pv (v := .int .i64 x316) rfl)) ?_
                      rintro _ _ ⟨rfl, rfl⟩
                      exact ⟨_, Evo.refl _ _ _ _, rfl, trivial⟩
                    · intro vs557 o_ w_ hE h309
                      have h309 : Rv (In o_ [3]) w_ v308 x307 := h309
                      refine OW.imp (OW.fr (L' := [(122, v308), (123, .int .i64 x316)]) ⟨rfl, rfl, trivial⟩ (OW.indexAddr Try.underlying22 ty3 rfl h309 rfl q353)) ?_
                      rintro _ _ ⟨rfl, ⟨pa350, hv_, hp351, he352⟩⟩
                      subst hv_
                      exact ⟨_, Evo.refl _ _ _ _, rfl, hp351, he352, trivial⟩
                    · intro vs557 o_ w_ hE hp351
                      have hp351 : PtrAt (In o_ [3]) w_ (pOf (vs557 6)) y349 := hp351
                      refine OW.imp (OW.fr (L' := [(124, .pointer (some (pOf (vs557 6))))]) ⟨rfl, trivial⟩ (OW.loadI ty3 rfl hp351)) ?_
                      rintro _ _ ⟨rfl, rfl⟩
                      exact ⟨_, Evo.refl _ _ _ _, rfl, trivial⟩
                    · intro vs557 o_ w_ hE 
                      refine OW.imp (OW.fr (L' := [(121, .int .i64 y344), (125, .int .i64 y349)]) ⟨rfl, rfl, trivial⟩ (OW.pv (v := .bool (((y344 == y349)))) rfl)) ?_
                      rintro _ _ ⟨rfl, rfl⟩
                      exact ⟨_, Evo.refl _ _ _ _, rfl, trivial⟩
                    · intro vs557 o_ w_ hE 
                      refine OW.imp (OW.fr (L' := [(126, .bool (((y344 == y349))))]) ⟨rfl, trivial⟩ (OW.pv (v := .bool (((y344 == y349)))) rfl)) ?_
                      rintro _ _ ⟨rfl, rfl⟩
                      exact ⟨_, Evo.refl _ _ _ _, rfl, trivial⟩
                    · intro vs557 o_ w_ hE 
                      exact ⟨⟨_, rfl, .inl (congrArg (fun b => some (Value.bool b)) hc370)⟩, rfl, trivial⟩
                    · intro vs557 o_ w_ hE 
                      exact ⟨⟨_, rfl, .inl (congrArg (fun b => some (Value.bool b)) hc370)⟩, rfl, trivial⟩
                    · intro vs557 o_ w_ hE 
                      exact ⟨⟨_, rfl, .inl (congrArg (fun b => some (Value.bool b)) hc370)⟩, rfl, trivial⟩
                    · intro vs557 o_ w_ hE 
                      exact ⟨⟨_, rfl, .inl (congrArg (fun b => some (Value.bool b)) hc370)⟩, rfl, trivial⟩
                    · intro vs557 o_ w_ hE 
                      exact ⟨⟨_, rfl, .inl (congrArg (fun b => some (Value.bool b)) hc370)⟩, rfl, trivial⟩
                    · intro vs557 o_ w_ hE 
                      exact ⟨⟨_, rfl, .inl (congrArg (fun b => some (Value.bool b)) hc370)⟩, rfl, trivial⟩
                    · intro vs557 o_ w_ hE 
                      exact ⟨⟨_, rfl, .inl (congrArg (fun b => some (Value.bool b)) hc370)⟩, rfl, trivial⟩
                    · intro vs557 o_ w_ hE 
                      exact ⟨⟨_, rfl, .inl (congrArg (fun b => some (Value.bool b)) hc370)⟩, rfl, trivial⟩
                    · intro vs557 o_ w_ hE 
                      exact ⟨⟨_, rfl, .inr rfl⟩, rfl, trivial⟩
                    · intro vs557 o_ w_ hE 
                      exact ⟨⟨_, rfl, .inr rfl⟩, rfl, trivial⟩
                    · intro vs557 o_ w_ hE 
                      exact ⟨⟨_, rfl, .inr rfl⟩, rfl, trivial⟩
                    · intro vs557 o_ w_ hE 
                      exact ⟨⟨_, rfl, .inr rfl⟩, rfl, trivial⟩
                    · intro vs557 o_ w_ hE 
                      exact ⟨⟨_, rfl, .inr rfl⟩, rfl, trivial⟩
                    · intro vs557 o_ w_ hE 
                      exact ⟨⟨_, rfl, .inr rfl⟩, rfl, trivial⟩
                    · intro vs557 o_ w_ hE 
                      exact ⟨⟨_, rfl, .inr rfl⟩, rfl, trivial⟩
                    · intro vs557 o_ w_ hE 
                      exact ⟨⟨_, rfl, .inl (congrArg (fun b => some (Value.bool b)) hc370)⟩, rfl, trivial⟩
                    · intro vs557 o_ w_ hE 
                      exact ⟨⟨_, rfl, .inl (congrArg (fun b => some (Value.bool b)) hc370)⟩, rfl, trivial⟩
                    · intro vs557 o_ w_ hE 
                      exact ⟨⟨_, rfl, .inr rfl⟩, rfl, trivial⟩
                    · intro vs557 o_ w_ hE 
                      exact ⟨⟨_, rfl, .inr rfl⟩, rfl, trivial⟩
                    · intro vs557 o_ w_ hE 
                      exact ⟨⟨_, rfl, .inr rfl⟩, rfl, trivial⟩
                    · intro vs557 o_ w_ hE 
                      exact ⟨⟨_, rfl, .inr rfl⟩, rfl, trivial⟩
                    · intro vs557 o_ w_ hE 
                      exact ⟨⟨_, rfl, .inr rfl⟩, rfl, trivial⟩
                    · intro vs557 o_ w_ hE 
                      exact ⟨⟨_, rfl, .inr rfl⟩, rfl, trivial⟩
                    · intro vs557 o_ w_ hE 
                      exact ⟨⟨_, rfl, .inr rfl⟩, rfl, trivial⟩
                    · intro vs557 o_ w_ hE 
                      exact ⟨⟨_, rfl, .inr rfl⟩, rfl, trivial⟩
                    · intro vs557 o_ w_ hE 
                      exact ⟨⟨_, rfl, .inr rfl⟩, rfl, trivial⟩
                    · intro vs557 o_ w_ hE 
                      exact ⟨⟨_, rfl, .inr rfl⟩, rfl, trivial⟩
                    · intro vs557 o_ w_ hE 
                      exact ⟨⟨_, rfl, .inr rfl⟩, rfl, trivial⟩
                    · intro vs557 o_ w_ hE 
                      exact ⟨⟨_, rfl, .inl (congrArg (fun b => some (Value.bool b)) hc370)⟩, rfl, trivial⟩
                    · intro vs557 o_ w_ hE 
                      refine OW.imp (OW.fr (L' := [(127, .bool (((y344 == y349)))), (156, undef)]) ⟨rfl, rfl, trivial⟩ (OW.pickF rfl hc370 rfl)) ?_
                      rintro _ _ ⟨rfl, rfl⟩
                      exact ⟨_, Evo.refl _ _ _ _, rfl, trivial⟩
                    · intro vs557 o559 w558 hE h10 h309 h312 h315 hs hp346 he347 hp351 he352
                      have h10 : Rv (In o559 [0]) w558 sv y3 := h10
                      have h309 : Rv (In o559 [3]) w558 v308 x307 := h309
                      have h312 : Rv (In o559 [10]) w558 v311 x310 := h312
                      have h315 : Rv (In o559 [10]) w558 v314 x313 := h315
                      have hs : SrcC o559 2 w558 sb sv y3 st103 := hs
                      have hp346 : PtrAt (In o559 [3]) w558 (pOf (vs557 2)) y344 := hp346
                      have he347 : EPtr v308 1 x149 (pOf (vs557 2)) := he347
                      have hp351 : PtrAt (In o559 [3]) w558 (pOf (vs557 6)) y349 := hp351
                      have he352 : EPtr v308 1 x316 (pOf (vs557 6)) := he352
                      have e560 := Option.some.inj q364
                      obtain ⟨e561, e562⟩ := Prod.mk.inj e560
                      obtain ⟨e563, e564⟩ := Prod.mk.inj e562
                      obtain ⟨e565, e566⟩ := Prod.mk.inj e564
                      subst e561 e563 e565 e566
                      exact NK.sub (L' := [(3, .pointer (some ⟨sb, 0, none⟩)), (4, v308), (9, .int .i64 x95), (12, .int .i64 y102), (13, v311), (15, .int .i64 ((W (x145 + y282)))), (16, .int .i64 x149), (17, .int .i64 y282), (88, v314), (89, .int .i64 (len x126)), (90, .int .i64 x149), (114, .int .i64 (len x293)), (115, .int .i64 x316), (157, .bool false)]) ⟨rfl, rfl, rfl, rfl, rfl, rfl, rfl, rfl, rfl, rfl, rfl, rfl, rfl, rfl, trivial⟩ (hJ367 w558 o559 v308 v311 v314 hE h10 h309 h312 h315 hs)
                · have hx335 := iteF hc340 hx335
                  refine CW.exit ?_
                  exact NK.sub (L' := [(3, .pointer (some ⟨sb, 0, none⟩)), (4, v308), (9, .int .i64 x95), (12, .int .i64 y102), (13, v311), (15, .int .i64 ((W (x145 + y282)))), (88, v314), (89, .int .i64 (len x126)), (90, .int .i64 x149)]) ⟨rfl, rfl, rfl, rfl, rfl, rfl, rfl, rfl, rfl, trivial⟩ (hJ330 x307 x310 x313 w331 o332 v308 v311 v314 (hr336 _ (Option.some.inj hx335).symm) hE h10 h309 h312 h315 hs)
            rcases Bool.eq_false_or_eq_true ((decide (y282 < 0))) with hc567 | hc567
            · have q300 := iteT hc567 q300
              refine WL.skipG rfl rfl rfl (by rw [hc567]; rfl) rfl ?_
              refine WL.skipG rfl rfl rfl (by rw [hc567]; rfl) rfl ?_
              refine WL.skipG rfl rfl rfl (by rw [hc567]; rfl) rfl ?_
              refine WL.skipG rfl rfl rfl (by rw [hc567]; rfl) rfl ?_
              refine WL.skipU rfl rfl rfl rfl ?_
              refine WL.skipU rfl rfl rfl rfl ?_
              refine WL.skipU rfl rfl rfl rfl ?_
              refine WL.skipU rfl rfl rfl rfl ?_
              refine WL.skipU rfl rfl rfl rfl ?_
              refine WL.skipU rfl rfl rfl rfl ?_
              refine WL.skipG rfl rfl rfl (by rw [hc567]; rfl) rfl ?_
              refine WL.stepE (OW.pickT rfl hc567 rfl) rfl ?_
              refine WL.nil ?_
              have e568 := Option.some.inj q300
              obtain ⟨e569, e570⟩ := Prod.mk.inj e568
              obtain ⟨e571, e572⟩ := Prod.mk.inj e570
              obtain ⟨e573, e574⟩ := Prod.mk.inj e572
              subst e569 e571 e573 e574
              exact NK.sub (L' := [(3, .pointer (some ⟨sb, 0, none⟩)), (4, v140), (9, .int .i64 x95), (12, .int .i64 y102), (13, v143), (15, .int .i64 ((W (x145 + y282)))), (16, .int .i64 x149), (17, .int .i64 y282), (88, v147), (89, .int .i64 (len x126)), (90, .int .i64 x149), (112, .bool true)]) ⟨rfl, rfl, rfl, rfl, rfl, rfl, rfl, rfl, rfl, rfl, rfl, rfl, trivial⟩ (hJ303 w270 o271 v140 v143 v147 hE h10 h141 h144 h148 hs)
            · have q300 := iteF hc567 q300
              refine WL.stepGE rfl rfl rfl hc567 (OW.pv (v := .int .i64 y102) rfl) rfl ?_
              refine WL.stepGE rfl rfl rfl hc567 (OW.pv (v := .int .i64 x95) rfl) rfl ?_
              refine WL.stepGE rfl rfl rfl hc567 (OW.pv (v := .bool ((decide (y102 ≤ x95)))) rfl) rfl ?_
              refine WL.stepGE rfl rfl rfl hc567 (OW.pv (v := .bool ((decide (y102 ≤ x95)))) rfl) rfl ?_
              obtain ⟨z_, q586, q300⟩ := bindE q300
              obtain ⟨x575, x578, x581, x584, x585⟩ := z_
              try dsimp only at q300
              have hJ589 : ∀ (w587 : World) (o588 : Cls) (v576 v579 v582 : Value), Ent w0 none o588 w587 → Rv (In o588 [0]) w587 sv y3 → Rv (In o588 [3]) w587 v576 x575 → Rv (In o588 [10]) w587 v579 x578 → Rv (In o588 [10]) w587 v582 x581 → SrcC o588 2 w587 sb sv y3 st103 → NK 204 K289 [(3, .pointer (some ⟨sb, 0, none⟩)), (4, v576), (9, .int .i64 x95), (12, .int .i64 y102), (13, v579), (15, .int .i64 ((W (x145 + y282)))), (16, .int .i64 x149), (17, .int .i64 y282), (88, v582), (89, .int .i64 (len x126)), (90, .int .i64 x149), (101, .int .i64 y102), (102, .int .i64 x95), (103, .bool ((decide (y102 ≤ x95)))), (104, .bool ((decide (y102 ≤ x95)))), (111, .bool x584), (112, .bool x585)] w587 := by
                intro w587 o588 v576 v579 v582 hE h10 h577 h580 h583 hs
                have e590 := Option.some.inj q300
                obtain ⟨e591, e592⟩ := Prod.mk.inj e590
                obtain ⟨e593, e594⟩ := Prod.mk.inj e592
                obtain ⟨e595, e596⟩ := Prod.mk.inj e594
                subst e591 e593 e595 e596
                exact NK.sub (L' := [(3, .pointer (some ⟨sb, 0, none⟩)), (4, v576), (9, .int .i64 x95), (12, .int .i64 y102), (13, v579), (15, .int .i64 ((W (x145 + y282)))), (16, .int .i64 x149), (17, .int .i64 y282), (88, v582), (89, .int .i64 (len x126)), (90, .int .i64 x149), (112, .bool x585)]) ⟨rfl, rfl, rfl, rfl, rfl, rfl, rfl, rfl, rfl, rfl, rfl, rfl, trivial⟩ (hJ303 w587 o588 v576 v579 v582 hE h10 h577 h580 h583 hs)
              rcases Bool.eq_false_or_eq_true ((decide (y102 ≤ x95))) with hc597 | hc597
              · have q586 := iteT hc597 q586
                refine WL.stepGE rfl rfl rfl hc597 (OW.pv (v := .int .i64 y282) rfl) rfl ?_
                refine WL.stepGE rfl rfl rfl hc597 (OW.pv (v := v140) rfl) rfl ?_
                refine WL.stepGE rfl rfl rfl hc597 (OW.pv (v := .int .i64 x149) rfl) rfl ?_
                obtain ⟨y598, q602, q586⟩ := bindE q586
                refine WL.stepGP rfl rfl rfl hc597 (OW.indexAddr Try.underlying22 ty3 rfl h141 rfl q602) rfl fun _ ⟨pa599, hv_, hp600, he601⟩ => ?_
                subst hv_
                refine WL.stepGE rfl rfl rfl hc597 (OW.loadI ty3 rfl hp600) rfl ?_
                refine WL.stepGE rfl rfl rfl hc597 (OW.pv (v := .bool ((decide (y282 > y598)))) rfl) rfl ?_
                refine WL.stepGE rfl rfl rfl hc567 (OW.pickT rfl hc597 rfl) rfl ?_
                refine WL.stepE (OW.pickF rfl hc567 rfl) rfl ?_
                refine WL.nil ?_
                have e603 := Option.some.inj q586
                obtain ⟨e604, e605⟩ := Prod.mk.inj e603
                obtain ⟨e606, e607⟩ := Prod.mk.inj e605
                obtain ⟨e608, e609⟩ := Prod.mk.inj e607
                obtain ⟨e610, e611⟩ := Prod.mk.inj e609
                subst e604 e606 e608 e610 e611
                exact NK.sub (L' := [(3, .pointer (some ⟨sb, 0, none⟩)), (4, v140), (9, .int .i64 x95), (12, .int .i64 y102), (13, v143), (15, .int .i64 ((W (x145 + y282)))), (16, .int .i64 x149), (17, .int .i64 y282), (88, v147), (89, .int .i64 (len x126)), (90, .int .i64 x149), (101, .int .i64 y102), (102, .int .i64 x95), (103, .bool ((decide (y102 ≤ x95)))), (104, .bool ((decide (y102 ≤ x95)))), (111, .bool ((decide (y282 > y598)))), (112, .bool ((decide (y282 > y598))))]) ⟨rfl, rfl, rfl, rfl, rfl, rfl, rfl, rfl, rfl, rfl, rfl, rfl, rfl, rfl, rfl, rfl, rfl, trivial⟩ (hJ589 w270 o271 v140 v143 v147 hE h10 h141 h144 h148 hs)
              · have q586 := iteF hc597 q586
                refine WL.skipG rfl rfl rfl (by rw [hc597]; rfl) rfl ?_
                refine WL.skipG rfl rfl rfl (by rw [hc597]; rfl) rfl ?_
                refine WL.skipG rfl rfl rfl (by rw [hc597]; rfl) rfl ?_
                refine WL.skipG rfl rfl rfl (by rw [hc597]; rfl) rfl ?_
                refine WL.skipG rfl rfl rfl (by rw [hc597]; rfl) rfl ?_
                refine WL.skipG rfl rfl rfl (by rw [hc597]; rfl) rfl ?_
                refine WL.stepGE rfl rfl rfl hc567 (OW.pickF rfl hc597 rfl) rfl ?_
                refine WL.stepE (OW.pickF rfl hc567 rfl) rfl ?_
                refine WL.nil ?_
                have e612 := Option.some.inj q586
                obtain ⟨e613, e614⟩ := Prod.mk.inj e612
                obtain ⟨e615, e616⟩ := Prod.mk.inj e614
                obtain ⟨e617, e618⟩ := Prod.mk.inj e616
                obtain ⟨e619, e620⟩ := Prod.mk.inj e618
                subst e613 e615 e617 e619 e620
                exact NK.sub (L' := [(3, .pointer (some ⟨sb, 0, none⟩)), (4, v140), (9, .int .i64 x95), (12, .int .i64 y102), (13, v143), (15, .int .i64 ((W (x145 + y282)))), (16, .int .i64 x149), (17, .int .i64 y282), (88, v147), (89, .int .i64 (len x126)), (90, .int .i64 x149), (101, .int .i64 y102), (102, .int .i64 x95), (103, .bool ((decide (y102 ≤ x95)))), (104, .bool ((decide (y102 ≤ x95)))), (111, .bool false), (112, .bool false)]) ⟨rfl, rfl, rfl, rfl, rfl, rfl, rfl, rfl, rfl, rfl, rfl, rfl, rfl, rfl, rfl, rfl, rfl, trivial⟩ (hJ589 w270 o271 v140 v143 v147 hE h10 h141 h144 h148 hs)
          · have hx274 := iteF hc279 hx274
            refine CW.exit ?_
            exact NK.sub (L' := [(3, .pointer (some ⟨sb, 0, none⟩)), (4, v140), (12, .int .i64 y102), (13, v143), (15, .int .i64 x145)]) ⟨rfl, rfl, rfl, rfl, rfl, trivial⟩ (hJ161 x139 x142 x145 w270 o271 v140 v143 (hr275 _ (Option.some.inj hx274).symm) hE h10 h141 h144 hs)
      rcases Bool.eq_false_or_eq_true (((y112 != 0))) with hc621 | hc621
      · have q130 := iteT hc621 q130
        refine WL.skipG rfl rfl rfl (by rw [hc621]; rfl) rfl ?_
        refine WL.skipG rfl rfl rfl (by rw [hc621]; rfl) rfl ?_
        refine WL.skipG rfl rfl rfl (by rw [hc621]; rfl) rfl ?_
        refine WL.skipG rfl rfl rfl (by rw [hc621]; rfl) rfl ?_
        refine WL.skipG rfl rfl rfl (by rw [hc621]; rfl) rfl ?_
        refine WL.stepE (OW.pickT rfl hc621 rfl) rfl ?_
        refine WL.stepE (OW.pv (v := .bool true) rfl) rfl ?_
        refine WL.skipG rfl rfl rfl rfl rfl ?_
        refine WL.skipG rfl rfl rfl rfl rfl ?_
        refine WL.skipG rfl rfl rfl rfl rfl ?_
        refine WL.skipG rfl rfl rfl rfl rfl ?_
        refine WL.skipG rfl rfl rfl rfl rfl ?_
        refine WL.stepE (OW.pickT rfl rfl rfl) rfl ?_
        refine WL.nil ?_
        have e622 := Option.some.inj q130
        obtain ⟨e623, e624⟩ := Prod.mk.inj e622
        obtain ⟨e625, e626⟩ := Prod.mk.inj e624
        subst e623 e625 e626
        exact NK.sub (L' := [(3, .pointer (some ⟨sb, 0, none⟩)), (4, v93), (9, .int .i64 x95), (12, .int .i64 y102), (13, v119), (87, .bool true)]) ⟨rfl, rfl, rfl, rfl, rfl, rfl, trivial⟩ (hJ133 w114 o115 v93 v119 hE h10 h94 h120 hs)
      · have q130 := iteF hc621 q130
        refine WL.stepGE rfl rfl rfl hc621 (OW.pv (v := v119) rfl) rfl ?_
        refine WL.stepGE rfl rfl rfl hc621 (OW.len Try.underlying22 rfl h120) rfl ?_
        refine WL.stepGE rfl rfl rfl hc621 (OW.pv (v := v93) rfl) rfl ?_
        refine WL.stepGE rfl rfl rfl hc621 (OW.len Try.underlying22 rfl h94) rfl ?_
        refine WL.stepGE rfl rfl rfl hc621 (OW.pv (v := .bool ((((len y111) != (len x92))))) rfl) rfl ?_
        refine WL.stepE (OW.pickF rfl hc621 rfl) rfl ?_
        refine WL.stepE (OW.pv (v := .bool ((((len y111) != (len x92))))) rfl) rfl ?_
        obtain ⟨z_, q634, q130⟩ := bindE q130
        obtain ⟨x627, x630, x633⟩ := z_
        try dsimp only at q130
        have hJ637 : ∀ (w635 : World) (o636 : Cls) (v628 v631 : Value), Ent w0 none o636 w635 → Rv (In o636 [0]) w635 sv y3 → Rv (In o636 [3]) w635 v628 x627 → Rv (In o636 [10]) w635 v631 x630 → SrcC o636 2 w635 sb sv y3 st103 → NK 204 K122 [(3, .pointer (some ⟨sb, 0, none⟩)), (4, v628), (9, .int .i64 x95), (12, .int .i64 y102), (13, v631), (87, .bool x633)] w635 := by
          intro w635 o636 v628 v631 hE h10 h629 h632 hs
          have e638 := Option.some.inj q130
          obtain ⟨e639, e640⟩ := Prod.mk.inj e638
          obtain ⟨e641, e642⟩ := Prod.mk.inj e640
          subst e639 e641 e642
          exact NK.sub (L' := [(3, .pointer (some ⟨sb, 0, none⟩)), (4, v628), (9, .int .i64 x95), (12, .int .i64 y102), (13, v631), (87, .bool x633)]) ⟨rfl, rfl, rfl, rfl, rfl, rfl, trivial⟩ (hJ133 w635 o636 v628 v631 hE h10 h629 h632 hs)
        rcases Bool.eq_false_or_eq_true ((((len y111) != (len x92)))) with hc643 | hc643
        · have q634 := iteT hc643 q634
          refine WL.skipG rfl rfl rfl (by rw [hc643]; rfl) rfl ?_
          refine WL.skipG rfl rfl rfl (by rw [hc643]; rfl) rfl ?_
          refine WL.skipG rfl rfl rfl (by rw [hc643]; rfl) rfl ?_
          refine WL.skipG rfl rfl rfl (by rw [hc643]; rfl) rfl ?_
          refine WL.skipG rfl rfl rfl (by rw [hc643]; rfl) rfl ?_
          refine WL.stepE (OW.pickT rfl hc643 rfl) rfl ?_
          refine WL.nil ?_
          have e644 := Option.some.inj q634
          obtain ⟨e645, e646⟩ := Prod.mk.inj e644
          obtain ⟨e647, e648⟩ := Prod.mk.inj e646
          subst e645 e647 e648
          exact NK.sub (L' := [(3, .pointer (some ⟨sb, 0, none⟩)), (4, v93), (9, .int .i64 x95), (12, .int .i64 y102), (13, v119), (87, .bool true)]) ⟨rfl, rfl, rfl, rfl, rfl, rfl, trivial⟩ (hJ637 w114 o115 v93 v119 hE h10 h94 h120 hs)
        · have q634 := iteF hc643 q634
          refine WL.stepGE rfl rfl rfl hc643 (OW.pv (v := .int .i64 y102) rfl) rfl ?_
          refine WL.stepGE rfl rfl rfl hc643 (OW.pv (v := v93) rfl) rfl ?_
          refine WL.stepGE rfl rfl rfl hc643 (OW.pv (v := v119) rfl) rfl ?_
          obtain ⟨y649, q650, q634⟩ := bindE q634
          refine WL.stepG rfl rfl rfl hc643 (OW.call Try.call16 rfl (balance_Check_ok q650 h94 h120)) rfl ?_
          rintro _ w651 ⟨hb655, rfl⟩
          obtain ⟨o652, ev653, hn654⟩ := fresh_new (o := o115) 11 hb655
          have hE := hE.evo ev653 rfl rfl
          have h10 := h10.evo ev653 rfl
          have h120 := h120.evo ev653 rfl
          have h94 := h94.evo ev653 rfl
          have hs := hs.evo ev653 rfl
          refine WL.stepGE rfl rfl rfl hc643 (OW.pv (v := .bool (!y649)) rfl) rfl ?_
          refine WL.stepE (OW.pickF rfl hc643 rfl) rfl ?_
          refine WL.nil ?_
          have e656 := Option.some.inj q634
          obtain ⟨e657, e658⟩ := Prod.mk.inj e656
          obtain ⟨e659, e660⟩ := Prod.mk.inj e658
          subst e657 e659 e660
          exact NK.sub (L' := [(3, .pointer (some ⟨sb, 0, none⟩)), (4, v93), (9, .int .i64 x95), (12, .int .i64 y102), (13, v119), (87, .bool (!y649))]) ⟨rfl, rfl, rfl, rfl, rfl, rfl, trivial⟩ (hJ637 w651 o652 v93 v119 hE h10 h94 h120 hs)
    refine CW.sub (L' := [(3, .pointer (some ⟨sb, 0, none⟩)), (4, v20), (9, .int .i64 0), (51, v20), (52, .int .i64 (len y12)), (53, .int .i64 0)]) ⟨rfl, rfl, rfl, rfl, rfl, rfl, trivial⟩ ?_
    refine CW.loop (dynposlaw17_BalanceShares_L1 y12) (fun s_ L_ w661 => ∃ (o662 : Cls) (x84 : (List Int)) (x87 : Int) (x88 : (List Int)) (x91 : Int) (v85 v89 : Value), (x84, x87, x88, x91) = s_ ∧ L_ = [(3, .pointer (some ⟨sb, 0, none⟩)), (4, v85), (9, .int .i64 x87), (51, v89), (52, .int .i64 (len y12)), (53, .int .i64 x91)] ∧ Ent w0 none o662 w661 ∧ Rv (In o662 [0]) w661 sv y3 ∧ Rv (In o662 [3]) w661 v85 x84 ∧ Rv (In o662 [3]) w661 v89 x88 ∧ SrcC o662 2 w661 sb sv y3 st13) hl96 ?_ ?_
    · exact ⟨o16, y12, 0, y12, 0, v20, v20, rfl, rfl, hE, h10, h21, h21, hs⟩
    intro K663 s_ L_ w661 hi_ x664 hx665 hr666 hk667
    obtain ⟨o662, x84, x87, x88, x91, v85, v89, rfl, rfl, hE, h10, h86, h90, hs⟩ := hi_
    rw [dynposlaw17_BalanceShares_L1] at hx665
    refine CW.seq fun K668 hK668 => ?_
    refine CW.region ?_
    refine WL.stepE (OW.pv (v := .bool ((decide (x91 < (len y12))))) rfl) rfl ?_
    refine WL.nil ?_
    refine NK.sub (L' := [(3, .pointer (some ⟨sb, 0, none⟩)), (4, v85), (9, .int .i64 x87), (51, v89), (52, .int .i64 (len y12)), (53, .int .i64 x91), (54, .bool ((decide (x91 < (len y12)))))]) ⟨rfl, rfl, rfl, rfl, rfl, rfl, rfl, trivial⟩ ?_
    refine hK668 _ _ ?_
    refine CW.seq fun K669 hK669 => ?_
    refine CW.cond (b := (decide (x91 < (len y12)))) rfl (fun hc670 => ?_) (fun hc670 => ?_)
    · have hx665 := iteT hc670 hx665
      refine CW.skip ?_
      refine NK.sub (L' := [(3, .pointer (some ⟨sb, 0, none⟩)), (4, v85), (9, .int .i64 x87), (51, v89), (52, .int .i64 (len y12)), (53, .int .i64 x91)]) ⟨rfl, rfl, rfl, rfl, rfl, rfl, trivial⟩ ?_
      refine hK669 _ _ ?_
      refine CW.seq fun K671 hK671 => ?_
      refine CW.block ?_
      refine CW.seq fun K672 hK672 => ?_
      refine CW.region ?_
      obtain ⟨y673, q677, hx665⟩ := bindE hx665
      refine WL.stepP (OW.indexAddr Try.underlying22 ty3 rfl h90 rfl q677) rfl fun _ ⟨pa674, hv_, hp675, he676⟩ => ?_
      subst hv_
      refine WL.stepE (OW.loadI ty3 rfl hp675) rfl ?_
      refine WL.stepE (OW.pv (v := .int .i64 y673) rfl) rfl ?_
      refine WL.nil ?_
      refine NK.sub (L' := [(3, .pointer (some ⟨sb, 0, none⟩)), (4, v85), (9, .int .i64 x87), (11, .int .i64 y673), (51, v89), (52, .int .i64 (len y12)), (53, .int .i64 x91)]) ⟨rfl, rfl, rfl, rfl, rfl, rfl, rfl, trivial⟩ ?_
      refine hK672 _ _ ?_
      refine CW.region ?_
      refine WL.stepE (OW.pv (v := .int .i64 x87) rfl) rfl ?_
      refine WL.stepE (OW.pv (v := .int .i64 y673) rfl) rfl ?_
      refine WL.stepE (OW.pv (v := .int .i64 ((W (x87 + y673)))) rfl) rfl ?_
      refine WL.stepE (OW.pv (v := .int .i64 ((W (x87 + y673)))) rfl) rfl ?_
      refine WL.nil ?_
      refine NK.sub (L' := [(3, .pointer (some ⟨sb, 0, none⟩)), (4, v85), (9, .int .i64 ((W (x87 + y673)))), (51, v89), (52, .int .i64 (len y12)), (53, .int .i64 x91)]) ⟨rfl, rfl, rfl, rfl, rfl, rfl, trivial⟩ ?_
      refine hK671 _ _ ?_
      refine CW.region ?_
      refine WL.stepE (OW.pv (v := .int .i64 ((W (x91 + 1)))) rfl) rfl ?_
      refine WL.stepE (OW.pv (v := .int .i64 ((W (x91 + 1)))) rfl) rfl ?_
      refine WL.nil ?_
      exact NK.sub (L' := [(3, .pointer (some ⟨sb, 0, none⟩)), (4, v85), (9, .int .i64 ((W (x87 + y673)))), (51, v89), (52, .int .i64 (len y12)), (53, .int .i64 ((W (x91 + 1))))]) ⟨rfl, rfl, rfl, rfl, rfl, rfl, trivial⟩ (hk667 _ _ _ (Option.some.inj hx665).symm ⟨o662, x84, (W (x87 + y673)), x88, (W (x91 + 1)), v85, v89, rfl, rfl, hE, h10, h86, h90, hs⟩)
    · have hx665 := iteF hc670 hx665
      refine CW.exit ?_
      exact NK.sub (L' := [(3, .pointer (some ⟨sb, 0, none⟩)), (4, v85), (9, .int .i64 x87)]) ⟨rfl, rfl, rfl, trivial⟩ (hJ100 x84 x87 w661 o662 v85 (hr666 _ (Option.some.inj hx665).symm) hE h10 h86 hs)

end Go.Proofs.Ytnpghnnlcakbfaa
