/- Walks. Written by a program (wip/gen). -/
import Derived.Test.YtnpghnnlcakbfaaHw
import Derived.Test.YtnpghnnlcakbfaaWk5
import Derived.Test.YtnpghnnlcakbfaaWk11
import Derived.Test.YtnpghnnlcakbfaaWk12
import Derived.Test.YtnpghnnlcakbfaaWk14
namespace Go.Proofs.Ytnpghnnlcakbfaa
open Go Go.RowKit Dp

set_option maxRecDepth 100000

set_option maxHeartbeats 1000000 in
theorem board_Of_ok {a0 : Board} {a1 : Power} {a2 : Int} {r : (Island × Bool)} (hF : board_Of a0 a1 a2 = some r) {w0 : World} {p0 : Value} {S0 : Nat → Prop} (g0 : Rv S0 w0 p0 a0) {p1 : Value} {S1 : Nat → Prop} (g1 : Rv S1 w0 p1 a1) :
    Calls Try.prog 22 #[p0, p1, .int .i64 a2] w0 (Ret fun v w' => ∃ (oc : Cls) (x0_0 : Value) (x0_1 : Value) (x0_2 : Value), En w0 (entM w0 [] [S0, S1]) oc w' ∧ v = .tuple #[.agg #[x0_0, x0_1, x0_2], .bool r.2] ∧ Rv (In oc [103]) w' x0_0 r.1.Buses ∧ Rv (In oc [103]) w' x0_1 r.1.Sources ∧ Rv (In oc [103]) w' x0_2 r.1.Consumers) := by
 obtain ⟨e0, he0⟩ : ∃ e0, e0 = entM w0 [] [S0, S1] := ⟨_, rfl⟩
 have hE := En.refl w0 e0
 have g0 := g0.argM he0 0 (K := [40]) rfl (nosep rfl) rfl
 have g1 := g1.argM he0 1 (K := [40, 41]) rfl (nosep rfl) rfl
 obtain ⟨u1, u2, u3, rfl, h4, h5, h6⟩ := op39 g0
 obtain ⟨u7, u8, u9, u10, rfl, h11, h12, h13, h14⟩ := op45 g1
 rw [board_Of] at hF
 refine enter (l := [.agg #[.int .i64 a0.Buses, u1, u2, u3, .int .i64 a0.Phase, .int .i64 a0.Frequency], .agg #[u7, u8, u9, u10], .int .i64 a2]) Try.func22 rfl Try.ntmps22 rfl ?_
 refine CW.sub (L' := [(0, .agg #[.int .i64 a0.Buses, u1, u2, u3, .int .i64 a0.Phase, .int .i64 a0.Frequency]), (1, .agg #[u7, u8, u9, u10]), (2, .int .i64 a2)]) ⟨rfl, rfl, rfl, trivial⟩ ?_
 refine CW.sr fun K15 hK15 => ?_
 refine WL.step (OW.boxK (o := e0) 100 [.int .i64 a0.Buses, u1, u2, u3, .int .i64 a0.Phase, .int .i64 a0.Frequency] rfl rfl) rfl ?_
 rintro _ w18 ⟨pa16, o17, rfl, ev19, hb20⟩
 have hE := hE.evo ev19 rfl rfl
 refine WL.step (OW.boxK (o := o17) 101 [u7, u8, u9, u10] rfl rfl) rfl ?_
 rintro _ w23 ⟨pa21, o22, rfl, ev24, hb25⟩
 have hE := hE.evo ev24 rfl rfl
 have hb20 := hb20.evo ev24 rfl
 refine WL.step (OW.allocK (o := o22) Island 102 [.slice none 0 0, .slice none 0 0, .slice none 0 0] ty53 rfl) rfl ?_
 rintro _ w28 ⟨pa26, o27, rfl, ev29, hb30⟩
 have hE := hE.evo ev29 rfl rfl
 have hb20 := hb20.evo ev29 rfl
 have hb25 := hb25.evo ev29 rfl
 have h31 := Ow.nil (α := Int) 3 o27 103 [] w28
 have h32 := Ow.nil (α := Int) 3 o27 104 [] w28
 have h33 := Ow.nil (α := Int) 3 o27 105 [] w28
 refine WL.p (.bool false) rfl rfl ?_
 refine WL.nx hK15 ?_
 refine CW.seq fun K34 hK34 => ?_
 refine CW.sr fun K35 hK35 => ?_
 refine WL.stepE (OW.loadK0 Board (.agg #[.int .i64 a0.Buses, u1, u2, u3, .int .i64 a0.Phase, .int .i64 a0.Frequency]) ty39 rfl hb20 rfl rfl) rfl ?_
 refine WL.stepE (OW.loadK0 Power (.agg #[u7, u8, u9, u10]) ty45 rfl hb25 rfl rfl) rfl ?_
 obtain ⟨y36, q37, hF⟩ := bindE hF
 refine WL.step (OW.call Try.call19 rfl (board_Islands_ok q37 (mk39 (x := a0) (h4.baseM hE rfl) (h5.baseM hE rfl) (h6.baseM hE rfl)) (mk45 (x := a1) (h11.baseM hE rfl) (h12.baseM hE rfl) (h13.baseM hE rfl) (h14.baseM hE rfl)))) rfl ?_
 rintro v44 w38 ⟨o42, hn_, h43⟩
 obtain ⟨o39, ev40, hA41⟩ := adopt (o := o27) (ks := []) (Ks := [[40], [40, 41]]) 106 ([(100, 107)]) [106, 107] hn_ MbOk.nil rfl rfl rfl rfl
 have h43 := h43.ad (c' := 107) (K' := [106]) hA41 rfl rfl
 have hE := hE.evo ev40 rfl rfl
 have h31 := h31.evo ev40 rfl
 have h32 := h32.evo ev40 rfl
 have h33 := h33.evo ev40 rfl
 have hb30 := hb30.evo ev40 rfl
 refine WL.stepE (OW.len Try.underlying49 rfl h43.rv) rfl ?_
 refine WL.p (.int .i64 0) rfl rfl ?_
 refine WL.nx hK35 ?_
 refine CW.block ?_
 obtain ⟨r47, hl46, hF⟩ := bindE hF
 have hJ50 : ∀ (w48 : World) (o49 : Cls), .inl () = r47 → En w0 e0 o49 w48 → Ow 3 o49 103 [] w48 (.slice none 0 0) ([] : List Int) → Ow 3 o49 104 [] w48 (.slice none 0 0) ([] : List Int) → Ow 3 o49 105 [] w48 (.slice none 0 0) ([] : List Int) → Bk o49 102 w48 pa26 [(.slice none 0 0), (.slice none 0 0), (.slice none 0 0)] → NK 25 K34 [(6, .pointer (some pa26))] w48 := by
  intro  w48 o49  e_ hE h31 h32 h33 hb30
  subst e_
  have hF := elimL hF
  try dsimp only at hF
  refine hK34 _ _ ?_
  refine CW.sr fun K51 hK51 => ?_
  refine WL.stepE (OW.buildK Island [] [.slice none 0 0, .slice none 0 0, .slice none 0 0] st53 ty53 rfl trivial rfl) rfl ?_
  have h52 := Ow.nil (α := Int) 3 o49 113 [] w48
  have h53 := Ow.nil (α := Int) 3 o49 114 [] w48
  have h54 := Ow.nil (α := Int) 3 o49 115 [] w48
  refine WL.step0 (OW.storeK0 Island [(.slice none 0 0), (.slice none 0 0), (.slice none 0 0)] [(.slice none 0 0), (.slice none 0 0), (.slice none 0 0)] ty53 rfl rfl hb30 rfl ⟨rfl, rfl, rfl, trivial⟩ rfl rfl rfl) ?_
  rintro _ w55 ⟨ev56, hb30⟩
  have hE := hE.evo ev56 rfl rfl
  have h52 := h52.evo ev56 rfl
  have h53 := h53.evo ev56 rfl
  have h54 := h54.evo ev56 rfl
  refine WL.p (.bool false) rfl rfl ?_
  refine WL.nx hK51 ?_
  obtain rfl := Option.some.inj hF
  exact CW.rets (vs := [.agg #[(.slice none 0 0), (.slice none 0 0), (.slice none 0 0)], .bool false]) Try.results22 ⟨ResIs.bk Island (.agg #[(.slice none 0 0), (.slice none 0 0), (.slice none 0 0)]) ty53 rfl hb30 rfl rfl, rfl, trivial⟩ ⟨_, rfl, _, ((.slice none 0 0)), ((.slice none 0 0)), ((.slice none 0 0)), (hE.rn he0 103 [] rfl rfl), rfl, (h52.rv.rn (K' := [103]) rfl), (h53.rv.rn (K' := [103]) rfl), (h54.rv.rn (K' := [103]) rfl)⟩ (fun _ _ h => h)
 refine CW.sub (L' := [(2, .int .i64 a2), (6, .pointer (some pa26)), (12, v44), (13, .int .i64 (len y36)), (14, .int .i64 0)]) ⟨rfl, rfl, rfl, rfl, rfl, trivial⟩ ?_
 refine CW.loop (board_Of_L1 a2 y36) (fun s_ L_ w57 => ∃ (o58 : Cls) (x45 : Int), x45 = s_ ∧ L_ = [(2, .int .i64 a2), (6, .pointer (some pa26)), (12, v44), (13, .int .i64 (len y36)), (14, .int .i64 x45)] ∧ En w0 e0 o58 w57 ∧ Ow 3 o58 103 [] w57 (.slice none 0 0) ([] : List Int) ∧ Ow 3 o58 104 [] w57 (.slice none 0 0) ([] : List Int) ∧ Ow 3 o58 105 [] w57 (.slice none 0 0) ([] : List Int) ∧ Ow 53 o58 107 [106] w57 v44 y36 ∧ Bk o58 102 w57 pa26 [(.slice none 0 0), (.slice none 0 0), (.slice none 0 0)]) hl46 ?_ ?_
 ·exact ⟨o39, 0, rfl, rfl, hE, h31, h32, h33, h43, hb30⟩
 intro K59 s_ L_ w57 hi_ x60 hx61 hr62 hk63
 obtain ⟨o58, x45, rfl, rfl, hE, h31, h32, h33, h43, hb30⟩ := hi_
 rw [board_Of_L1] at hx61
 refine CW.sr fun K64 hK64 => ?_
 refine WL.p (.bool ((decide (x45 < (len y36))))) rfl rfl ?_
 refine WL.nx hK64 ?_
 refine CW.seq fun K65 hK65 => ?_
 refine CW.cond (b := (decide (x45 < (len y36)))) rfl (fun hc66 => ?_) (fun hc66 => ?_)
 ·have hx61 := iteT hc66 hx61
  refine CW.skip ?_
  refine hK65 _ _ ?_
  refine CW.seq fun K67 hK67 => ?_
  refine CW.block ?_
  refine CW.sr fun K68 hK68 => ?_
  obtain ⟨y69, q73, hx61⟩ := bindE hx61
  refine WL.stepP (OW.indexAddrO Try.underlying49 ty53 rfl h43 rfl q73) rfl fun _ ⟨pa70, hv_, hp71, he72⟩ => ?_
  subst hv_
  refine WL.stepP (OW.loadO ty53 rfl hp71) rfl fun v74 h75 => ?_
  obtain ⟨u76, u77, u78, rfl, h79, h80, h81⟩ := op53 h75
  refine WL.step (OW.allocK (o := o58) Island 108 [.slice none 0 0, .slice none 0 0, .slice none 0 0] ty53 rfl) rfl ?_
  rintro _ w84 ⟨pa82, o83, rfl, ev85, hb86⟩
  have hE := hE.evo ev85 rfl rfl
  have h31 := h31.evo ev85 rfl
  have h32 := h32.evo ev85 rfl
  have h33 := h33.evo ev85 rfl
  have h43 := h43.evo ev85 rfl
  have h79 := h79.evo ev85 rfl
  have h80 := h80.evo ev85 rfl
  have h81 := h81.evo ev85 rfl
  have hb30 := hb30.evo ev85 rfl
  have h87 := Ow.nil (α := Int) 3 o83 109 [] w84
  have h88 := Ow.nil (α := Int) 3 o83 110 [] w84
  have h89 := Ow.nil (α := Int) 3 o83 111 [] w84
  refine WL.step0 (OW.storeK0 Island [u76, u77, u78] [u76, u77, u78] ty53 rfl rfl hb86 rfl ⟨(h79.one rfl), (h80.one rfl), (h81.one rfl), trivial⟩ rfl rfl rfl) ?_
  rintro _ w90 ⟨ev91, hb86⟩
  have hE := hE.evo ev91 rfl rfl
  have h31 := h31.evo ev91 rfl
  have h32 := h32.evo ev91 rfl
  have h33 := h33.evo ev91 rfl
  have h43 := h43.evo ev91 rfl
  have h79 := h79.evo ev91 rfl
  have h80 := h80.evo ev91 rfl
  have h81 := h81.evo ev91 rfl
  have hb30 := hb30.evo ev91 rfl
  refine WL.nx hK68 ?_
  refine CW.sr fun K92 hK92 => ?_
  refine WL.stepE (OW.fldAddr (FldOk.at f53_0) rfl) rfl ?_
  refine WL.stepE (OW.loadK (off := 0) (List Int) (u76) ty22 rfl hb86 rfl rfl) rfl ?_
  refine WL.p (.int .i64 a2) rfl rfl ?_
  obtain ⟨y93, q94, hx61⟩ := bindE hx61
  refine WL.step (OW.call Try.call57 rfl (slices_Contains_int_int_ok q94 h79)) rfl ?_
  rintro _ w95 ⟨o99, hn_, rfl⟩
  obtain ⟨o96, ev97, hA98⟩ := adopt (o := o83) (ks := []) (Ks := [[106]]) 112 ([]) [112] hn_ MbOk.nil rfl rfl rfl rfl
  have hE := hE.evo ev97 rfl rfl
  have h31 := h31.evo ev97 rfl
  have h32 := h32.evo ev97 rfl
  have h33 := h33.evo ev97 rfl
  have h43 := h43.evo ev97 rfl
  have h79 := h79.evo ev97 rfl
  have h80 := h80.evo ev97 rfl
  have h81 := h81.evo ev97 rfl
  have hb30 := hb30.evo ev97 rfl
  have hb86 := hb86.evo ev97 rfl
  refine WL.nx hK92 ?_
  refine CW.cond (b := y93) rfl (fun hc100 => ?_) (fun hc100 => ?_)
  ·have hx61 := iteT hc100 hx61
   refine CW.sr fun K101 hK101 => ?_
   refine WL.stepE (OW.loadK0 Island (.agg #[u76, u77, u78]) ty53 rfl hb86 rfl rfl) rfl ?_
   refine WL.step0 (OW.storeK0 Island [u76, u77, u78] [u76, u77, u78] ty53 rfl rfl hb30 rfl ⟨(h79.one rfl), (h80.one rfl), (h81.one rfl), trivial⟩ rfl rfl rfl) ?_
   rintro _ w102 ⟨ev103, hb30⟩
   have hE := hE.evo ev103 rfl rfl
   have h79 := h79.evo ev103 rfl
   have h80 := h80.evo ev103 rfl
   have h81 := h81.evo ev103 rfl
   refine WL.p (.bool true) rfl rfl ?_
   refine WL.nx hK101 ?_
   have e_ := hr62 _ (Option.some.inj hx61).symm
   subst e_
   have hF := elimR hF
   obtain rfl := Option.some.inj hF
   exact CW.rets (vs := [.agg #[u76, u77, u78], .bool true]) Try.results22 ⟨ResIs.bk Island (.agg #[u76, u77, u78]) ty53 rfl hb30 rfl rfl, rfl, trivial⟩ ⟨_, rfl, _, (u76), (u77), (u78), (hE.rn he0 103 [] rfl rfl), rfl, (h79.rn (K' := [103]) rfl), (h80.rn (K' := [103]) rfl), (h81.rn (K' := [103]) rfl)⟩ (fun _ _ h => h)
  ·have hx61 := iteF hc100 hx61
   refine CW.skip ?_
   refine hK67 _ _ ?_
   refine CW.region ?_
   refine WL.p (.int .i64 ((W (x45 + 1)))) rfl rfl ?_
   refine WL.p (.int .i64 ((W (x45 + 1)))) rfl rfl ?_
   refine WL.nil ?_
   exact NK.sb (hk63 _ _ _ (Option.some.inj hx61).symm ⟨o96, (W (x45 + 1)), rfl, rfl, hE, h31, h32, h33, h43, hb30⟩) ⟨rfl, rfl, rfl, rfl, rfl, trivial⟩
 ·have hx61 := iteF hc66 hx61
  refine CW.exit ?_
  exact NK.sb (hJ50 w57 o58 (hr62 _ (Option.some.inj hx61).symm) hE h31 h32 h33 hb30) ⟨rfl, trivial⟩

set_option maxHeartbeats 1000000 in
theorem dynposref01_Ints_ok {a0 : (List Int)} {a1 : (List Int)} {r : Bool} (hF : dynposref01_Ints a0 a1 = some r) {w0 : World} {p0 : Value} {S0 : Nat → Prop} (g0 : Rv S0 w0 p0 a0) {p1 : Value} {S1 : Nat → Prop} (g1 : Rv S1 w0 p1 a1) :
    Calls Try.prog 15 #[p0, p1] w0 (Ret fun v w' => ∃ (oc : Cls), En w0 (entM w0 [] [S0, S1]) oc w' ∧ v = .bool r) := by
 obtain ⟨e0, he0⟩ : ∃ e0, e0 = entM w0 [] [S0, S1] := ⟨_, rfl⟩
 have hE := En.refl w0 e0
 have g0 := g0.argM he0 0 (K := [40]) rfl (nosep rfl) rfl
 have g1 := g1.argM he0 1 (K := [40, 41]) rfl (nosep rfl) rfl
 rw [dynposref01_Ints] at hF
 refine enter (l := [p0, p1]) Try.func15 rfl Try.ntmps15 rfl ?_
 refine CW.sub (L' := [(0, p0), (1, p1)]) ⟨rfl, rfl, trivial⟩ ?_
 refine CW.sr fun K1 hK1 => ?_
 refine WL.p (.bool false) rfl rfl ?_
 refine WL.nx hK1 ?_
 refine CW.seq fun K2 hK2 => ?_
 refine CW.sr fun K3 hK3 => ?_
 refine WL.p p0 rfl rfl ?_
 refine WL.stepE (OW.len Try.underlying22 rfl (g0.baseM hE rfl)) rfl ?_
 refine WL.p p1 rfl rfl ?_
 refine WL.stepE (OW.len Try.underlying22 rfl (g1.baseM hE rfl)) rfl ?_
 refine WL.p (.bool ((((len a0) != (len a1))))) rfl rfl ?_
 refine WL.nx hK3 ?_
 refine CW.cond (b := (((len a0) != (len a1)))) rfl (fun hc4 => ?_) (fun hc4 => ?_)
 ·have hF := iteT hc4 hF
  refine CW.sr fun K5 hK5 => ?_
  refine WL.p (.bool false) rfl rfl ?_
  refine WL.nx hK5 ?_
  obtain rfl := Option.some.inj hF
  exact CW.rets (vs := [.bool false]) Try.results15 ⟨rfl, trivial⟩ ⟨_, rfl, _, (hE.rn he0 100 [] rfl rfl), rfl⟩ (fun _ _ h => h)
 ·have hF := iteF hc4 hF
  refine CW.skip ?_
  refine hK2 _ _ ?_
  refine CW.seq fun K6 hK6 => ?_
  refine CW.sr fun K7 hK7 => ?_
  refine WL.p p0 rfl rfl ?_
  refine WL.stepE (OW.len Try.underlying22 rfl (g0.baseM hE rfl)) rfl ?_
  refine WL.p (.int .i64 0) rfl rfl ?_
  refine WL.nx hK7 ?_
  refine CW.block ?_
  obtain ⟨r10, hl9, hF⟩ := bindE hF
  have hJ13 : ∀ (w11 : World) (o12 : Cls), .inl () = r10 → En w0 e0 o12 w11 → NK 26 K6 [] w11 := by
   intro  w11 o12  e_ hE
   subst e_
   have hF := elimL hF
   try dsimp only at hF
   refine hK6 _ _ ?_
   refine CW.sr fun K14 hK14 => ?_
   refine WL.p (.bool true) rfl rfl ?_
   refine WL.nx hK14 ?_
   obtain rfl := Option.some.inj hF
   exact CW.rets (vs := [.bool true]) Try.results15 ⟨rfl, trivial⟩ ⟨_, rfl, _, (hE.rn he0 100 [] rfl rfl), rfl⟩ (fun _ _ h => h)
  refine CW.sub (L' := [(0, p0), (1, p1), (12, .int .i64 (len a0)), (13, .int .i64 0)]) ⟨rfl, rfl, rfl, rfl, trivial⟩ ?_
  refine CW.loop (dynposref01_Ints_L1 a0 a1) (fun s_ L_ w15 => ∃ (o16 : Cls) (x8 : Int), x8 = s_ ∧ L_ = [(0, p0), (1, p1), (12, .int .i64 (len a0)), (13, .int .i64 x8)] ∧ En w0 e0 o16 w15) hl9 ?_ ?_
  ·exact ⟨e0, 0, rfl, rfl, hE⟩
  intro K17 s_ L_ w15 hi_ x18 hx19 hr20 hk21
  obtain ⟨o16, x8, rfl, rfl, hE⟩ := hi_
  rw [dynposref01_Ints_L1] at hx19
  refine CW.sr fun K22 hK22 => ?_
  refine WL.p (.bool ((decide (x8 < (len a0))))) rfl rfl ?_
  refine WL.nx hK22 ?_
  refine CW.seq fun K23 hK23 => ?_
  refine CW.cond (b := (decide (x8 < (len a0)))) rfl (fun hc24 => ?_) (fun hc24 => ?_)
  ·have hx19 := iteT hc24 hx19
   refine CW.skip ?_
   refine hK23 _ _ ?_
   refine CW.seq fun K25 hK25 => ?_
   refine CW.block ?_
   refine CW.sr fun K26 hK26 => ?_
   refine WL.p (.int .i64 x8) rfl rfl ?_
   refine WL.p (.int .i64 x8) rfl rfl ?_
   refine WL.nx hK26 ?_
   refine CW.seq fun K27 hK27 => ?_
   obtain ⟨y28, q32, hx19⟩ := bindE hx19
   obtain ⟨y33, q37, hx19⟩ := bindE hx19
   refine CW.anyS (N := []) hmix [sPt (some 2) none [2] [40] (fun x_ => (pOf (x_.getD 0 undef))) y28, sEp (some 2) none [2] (fun _ => p0) 1 x8 (fun x_ => (pOf (x_.getD 0 undef))), sPt (some 6) none [6] [40, 41] (fun x_ => (pOf (x_.getD 0 undef))) y33, sEp (some 6) none [6] (fun _ => p1) 1 x8 (fun x_ => (pOf (x_.getD 0 undef)))] [⟨[], [], [], [], fun _ => p0, false⟩, ⟨[], [], [], [], fun _ => .int .i64 x8, false⟩, ⟨[], [], [0, 1], [2], fun x_ => .pointer (some (pOf (x_.getD 0 undef))), false⟩, ⟨[], [0], [0, 1, 2], [], fun _ => .int .i64 y28, false⟩, ⟨[], [], [], [], fun _ => p1, false⟩, ⟨[], [], [], [], fun _ => .int .i64 x8, false⟩, ⟨[], [], [4, 5], [6], fun x_ => .pointer (some (pOf (x_.getD 0 undef))), false⟩, ⟨[], [2], [4, 5, 6], [], fun _ => .int .i64 y33, false⟩, ⟨[], [], [0, 1, 2, 3, 4, 5, 6, 7], [], fun _ => .bool (((y28 != y33))), false⟩] [] hE rfl (by kernel_rfl) (by kernel_rfl) trivial ⟨Ob.pv rfl rfl (fun _ => rfl) rfl (fun _ _ _ => trivial), Ob.pv rfl rfl (fun _ => rfl) rfl (fun _ _ _ => trivial), ?_, ?_, Ob.pv rfl rfl (fun _ => rfl) rfl (fun _ _ _ => trivial), Ob.pv rfl rfl (fun _ => rfl) rfl (fun _ _ _ => trivial), ?_, ?_, Ob.pv rfl rfl (fun _ => rfl) rfl (fun _ _ _ => trivial), trivial⟩ ?_
   ·intro vs38 o_ w_ hE 
    have hE := hE.1
    refine OW.imp (OW.fr (L' := [(16, p0), (17, .int .i64 x8)]) ⟨rfl, rfl, trivial⟩ (OW.indexAddr Try.underlying22 ty3 rfl (g0.baseM hE rfl) rfl q32)) ?_
    rintro _ _ ⟨rfl, ⟨pa29, hv_, hp30, he31⟩⟩
    subst hv_
    exact ⟨_, Evo.refl _ _ _ _, rfl, hp30, he31, trivial⟩
   ·intro vs38 o_ w_ hE hp30
    have hp30 : PtrAt (In o_ [40]) w_ (pOf (vs38 2)) y28 := hp30
    refine OW.imp (OW.fr (L' := [(18, .pointer (some (pOf (vs38 2))))]) ⟨rfl, trivial⟩ (OW.loadI ty3 rfl hp30)) ?_
    rintro _ _ ⟨rfl, rfl⟩
    exact ⟨_, Evo.refl _ _ _ _, rfl, trivial⟩
   ·intro vs38 o_ w_ hE 
    have hE := hE.1
    refine OW.imp (OW.fr (L' := [(20, p1), (21, .int .i64 x8)]) ⟨rfl, rfl, trivial⟩ (OW.indexAddr Try.underlying22 ty3 rfl (g1.baseM hE rfl) rfl q37)) ?_
    rintro _ _ ⟨rfl, ⟨pa34, hv_, hp35, he36⟩⟩
    subst hv_
    exact ⟨_, Evo.refl _ _ _ _, rfl, hp35, he36, trivial⟩
   ·intro vs38 o_ w_ hE hp35
    have hp35 : PtrAt (In o_ [40, 41]) w_ (pOf (vs38 6)) y33 := hp35
    refine OW.imp (OW.fr (L' := [(22, .pointer (some (pOf (vs38 6))))]) ⟨rfl, trivial⟩ (OW.loadI ty3 rfl hp35)) ?_
    rintro _ _ ⟨rfl, rfl⟩
    exact ⟨_, Evo.refl _ _ _ _, rfl, trivial⟩
   ·intro vs38 o40 w39 hE hp30 he31 hp35 he36
    obtain ⟨hE, evT_⟩ := hE
    have hp30 : PtrAt (In o40 [40]) w39 (pOf (vs38 2)) y28 := hp30
    have he31 : EPtr p0 1 x8 (pOf (vs38 2)) := he31
    have hp35 : PtrAt (In o40 [40, 41]) w39 (pOf (vs38 6)) y33 := hp35
    have he36 : EPtr p1 1 x8 (pOf (vs38 6)) := he36
    refine hK27 _ _ ?_
    refine CW.cond (b := ((y28 != y33))) rfl (fun hc41 => ?_) (fun hc41 => ?_)
    ·have hx19 := iteT hc41 hx19
     refine CW.sr fun K42 hK42 => ?_
     refine WL.p (.bool false) rfl rfl ?_
     refine WL.nx hK42 ?_
     have e_ := hr20 _ (Option.some.inj hx19).symm
     subst e_
     have hF := elimR hF
     obtain rfl := Option.some.inj hF
     exact CW.rets (vs := [.bool false]) Try.results15 ⟨rfl, trivial⟩ ⟨_, rfl, _, (hE.rn he0 100 [] rfl rfl), rfl⟩ (fun _ _ h => h)
    ·have hx19 := iteF hc41 hx19
     refine CW.skip ?_
     refine hK25 _ _ ?_
     refine CW.region ?_
     refine WL.p (.int .i64 ((W (x8 + 1)))) rfl rfl ?_
     refine WL.p (.int .i64 ((W (x8 + 1)))) rfl rfl ?_
     refine WL.nil ?_
     exact NK.sb (hk21 _ _ _ (Option.some.inj hx19).symm ⟨o40, (W (x8 + 1)), rfl, rfl, hE⟩) ⟨rfl, rfl, rfl, rfl, trivial⟩
  ·have hx19 := iteF hc24 hx19
   refine CW.exit ?_
   exact NK.sb (hJ13 w15 o16 (hr20 _ (Option.some.inj hx19).symm) hE) trivial

set_option maxHeartbeats 1000000 in
theorem dynposref15_Island_ok {a0 : Island} {a1 : Island} {r : Bool} (hF : dynposref15_Island a0 a1 = some r) {w0 : World} {p0 : Value} {S0 : Nat → Prop} (g0 : Rv S0 w0 p0 a0) {p1 : Value} {S1 : Nat → Prop} (g1 : Rv S1 w0 p1 a1) :
    Calls Try.prog 24 #[p0, p1] w0 (Ret fun v w' => ∃ (oc : Cls), En w0 (entM w0 [] [S0, S1]) oc w' ∧ v = .bool r) := by
 obtain ⟨e0, he0⟩ : ∃ e0, e0 = entM w0 [] [S0, S1] := ⟨_, rfl⟩
 have hE := En.refl w0 e0
 have g0 := g0.argM he0 0 (K := [40]) rfl (nosep rfl) rfl
 have g1 := g1.argM he0 1 (K := [40, 41]) rfl (nosep rfl) rfl
 obtain ⟨u1, u2, u3, rfl, h4, h5, h6⟩ := op53 g0
 obtain ⟨u7, u8, u9, rfl, h10, h11, h12⟩ := op53 g1
 rw [dynposref15_Island] at hF
 refine enter (l := [.agg #[u1, u2, u3], .agg #[u7, u8, u9]]) Try.func24 rfl Try.ntmps24 rfl ?_
 refine CW.sub (L' := [(0, .agg #[u1, u2, u3]), (1, .agg #[u7, u8, u9])]) ⟨rfl, rfl, trivial⟩ ?_
 refine CW.sr fun K13 hK13 => ?_
 refine WL.step (OW.boxK (o := e0) 100 [u1, u2, u3] rfl rfl) rfl ?_
 rintro _ w16 ⟨pa14, o15, rfl, ev17, hb18⟩
 have hE := hE.evo ev17 rfl rfl
 refine WL.step (OW.boxK (o := o15) 101 [u7, u8, u9] rfl rfl) rfl ?_
 rintro _ w21 ⟨pa19, o20, rfl, ev22, hb23⟩
 have hE := hE.evo ev22 rfl rfl
 have hb18 := hb18.evo ev22 rfl
 refine WL.p (.bool false) rfl rfl ?_
 refine WL.nx hK13 ?_
 refine CW.sr fun K24 hK24 => ?_
 refine WL.stepE (OW.fldAddr (FldOk.at f53_0) rfl) rfl ?_
 refine WL.stepE (OW.loadK (off := 0) (List Int) (u1) ty22 rfl hb18 rfl rfl) rfl ?_
 refine WL.stepE (OW.fldAddr (FldOk.at f53_0) rfl) rfl ?_
 refine WL.stepE (OW.loadK (off := 0) (List Int) (u7) ty22 rfl hb23 rfl rfl) rfl ?_
 obtain ⟨y25, q26, hF⟩ := bindE hF
 refine WL.step (OW.call Try.call15 rfl (dynposref01_Ints_ok q26 (h4.baseM hE rfl) (h10.baseM hE rfl))) rfl ?_
 rintro _ w27 ⟨o31, hn_, rfl⟩
 obtain ⟨o28, ev29, hA30⟩ := adopt (o := o20) (ks := []) (Ks := [[40], [40, 41]]) 102 ([]) [102] hn_ MbOk.nil rfl rfl rfl rfl
 have hE := hE.evo ev29 rfl rfl
 have hb18 := hb18.evo ev29 rfl
 have hb23 := hb23.evo ev29 rfl
 refine WL.p (.bool y25) rfl rfl ?_
 obtain ⟨x32, q33, hF⟩ := bindE hF
 have hJ36 : ∀ (w34 : World) (o35 : Cls), En w0 e0 o35 w34 → NK 24 K24 [(4, .bool x32)] w34 := by
  intro w34 o35  hE
  refine hK24 _ _ ?_
  obtain rfl := Option.some.inj hF
  exact CW.rets (vs := [.bool x32]) Try.results24 ⟨rfl, trivial⟩ ⟨_, rfl, _, (hE.rn he0 100 [] rfl rfl), rfl⟩ (fun _ _ h => h)
 rcases Bool.eq_false_or_eq_true y25 with hc37 | hc37
 ·have q33 := iteT hc37 q33
  refine WL.stepGE rfl rfl rfl hc37 (OW.fldAddr (FldOk.at f53_1) rfl) rfl ?_
  refine WL.stepGE rfl rfl rfl hc37 (OW.loadK (off := 1) (List Int) (u2) ty22 rfl hb18 rfl rfl) rfl ?_
  refine WL.stepGE rfl rfl rfl hc37 (OW.fldAddr (FldOk.at f53_1) rfl) rfl ?_
  refine WL.stepGE rfl rfl rfl hc37 (OW.loadK (off := 1) (List Int) (u8) ty22 rfl hb23 rfl rfl) rfl ?_
  obtain ⟨y38, q39, q33⟩ := bindE q33
  refine WL.stepG rfl rfl rfl hc37 (OW.call Try.call15 rfl (dynposref01_Ints_ok q39 (h5.baseM hE rfl) (h11.baseM hE rfl))) rfl ?_
  rintro _ w40 ⟨o44, hn_, rfl⟩
  obtain ⟨o41, ev42, hA43⟩ := adopt (o := o28) (ks := []) (Ks := [[40], [40, 41]]) 103 ([]) [103] hn_ MbOk.nil rfl rfl rfl rfl
  have hE := hE.evo ev42 rfl rfl
  have hb18 := hb18.evo ev42 rfl
  have hb23 := hb23.evo ev42 rfl
  refine WL.stepE (OW.pickT rfl hc37 rfl) rfl ?_
  refine WL.p (.bool y38) rfl rfl ?_
  obtain ⟨x45, q46, q33⟩ := bindE q33
  have hJ49 : ∀ (w47 : World) (o48 : Cls), En w0 e0 o48 w47 → NK 24 K24 [(4, .bool x45)] w47 := by
   intro w47 o48  hE
   have e50 := Option.some.inj q33
   subst e50
   exact NK.sb (hJ36 w47 o48 hE) ⟨rfl, trivial⟩
  rcases Bool.eq_false_or_eq_true y38 with hc51 | hc51
  ·have q46 := iteT hc51 q46
   refine WL.stepGE rfl rfl rfl hc51 (OW.fldAddr (FldOk.at f53_2) rfl) rfl ?_
   refine WL.stepGE rfl rfl rfl hc51 (OW.loadK (off := 2) (List Int) (u3) ty22 rfl hb18 rfl rfl) rfl ?_
   refine WL.stepGE rfl rfl rfl hc51 (OW.fldAddr (FldOk.at f53_2) rfl) rfl ?_
   refine WL.stepGE rfl rfl rfl hc51 (OW.loadK (off := 2) (List Int) (u9) ty22 rfl hb23 rfl rfl) rfl ?_
   obtain ⟨y52, q53, q46⟩ := bindE q46
   refine WL.stepG rfl rfl rfl hc51 (OW.call Try.call15 rfl (dynposref01_Ints_ok q53 (h6.baseM hE rfl) (h12.baseM hE rfl))) rfl ?_
   rintro _ w54 ⟨o58, hn_, rfl⟩
   obtain ⟨o55, ev56, hA57⟩ := adopt (o := o41) (ks := []) (Ks := [[40], [40, 41]]) 104 ([]) [104] hn_ MbOk.nil rfl rfl rfl rfl
   have hE := hE.evo ev56 rfl rfl
   refine WL.stepE (OW.pickT rfl hc51 rfl) rfl ?_
   refine WL.p (.bool y52) rfl rfl ?_
   refine WL.nil ?_
   have e59 := Option.some.inj q46
   subst e59
   exact NK.sb (hJ49 w54 o55 hE) ⟨rfl, trivial⟩
  ·have q46 := iteF hc51 q46
   refine WL.skipG rfl rfl rfl (by rw [hc51]; rfl) rfl ?_
   refine WL.skipG rfl rfl rfl (by rw [hc51]; rfl) rfl ?_
   refine WL.skipG rfl rfl rfl (by rw [hc51]; rfl) rfl ?_
   refine WL.skipG rfl rfl rfl (by rw [hc51]; rfl) rfl ?_
   refine WL.skipG rfl rfl rfl (by rw [hc51]; rfl) rfl ?_
   refine WL.stepE (OW.pickF rfl hc51 rfl) rfl ?_
   refine WL.p (.bool false) rfl rfl ?_
   refine WL.nil ?_
   have e60 := Option.some.inj q46
   subst e60
   exact NK.sb (hJ49 w40 o41 hE) ⟨rfl, trivial⟩
 ·have q33 := iteF hc37 q33
  refine WL.skipG rfl rfl rfl (by rw [hc37]; rfl) rfl ?_
  refine WL.skipG rfl rfl rfl (by rw [hc37]; rfl) rfl ?_
  refine WL.skipG rfl rfl rfl (by rw [hc37]; rfl) rfl ?_
  refine WL.skipG rfl rfl rfl (by rw [hc37]; rfl) rfl ?_
  refine WL.skipG rfl rfl rfl (by rw [hc37]; rfl) rfl ?_
  refine WL.stepE (OW.pickF rfl hc37 rfl) rfl ?_
  refine WL.p (.bool false) rfl rfl ?_
  refine WL.skipG rfl rfl rfl rfl rfl ?_
  refine WL.skipG rfl rfl rfl rfl rfl ?_
  refine WL.skipG rfl rfl rfl rfl rfl ?_
  refine WL.skipG rfl rfl rfl rfl rfl ?_
  refine WL.skipG rfl rfl rfl rfl rfl ?_
  refine WL.stepE (OW.pickF rfl rfl rfl) rfl ?_
  refine WL.p (.bool false) rfl rfl ?_
  refine WL.nil ?_
  have e61 := Option.some.inj q33
  subst e61
  exact NK.sb (hJ36 w27 o28 hE) ⟨rfl, trivial⟩

set_option maxHeartbeats 1000000 in
theorem board_Connected_ok {a0 : Board} {a1 : Power} {a2 : Int} {r : (Int × Bool)} (hF : board_Connected a0 a1 a2 = some r) {w0 : World} {p0 : Value} {S0 : Nat → Prop} (g0 : Rv S0 w0 p0 a0) {p1 : Value} {S1 : Nat → Prop} (g1 : Rv S1 w0 p1 a1) :
    Calls Try.prog 25 #[p0, p1, .int .i64 a2] w0 (Ret fun v w' => ∃ (oc : Cls), En w0 (entM w0 [] [S0, S1]) oc w' ∧ v = .tuple #[.int .i64 r.1, .bool r.2]) := by
 obtain ⟨e0, he0⟩ : ∃ e0, e0 = entM w0 [] [S0, S1] := ⟨_, rfl⟩
 have hE := En.refl w0 e0
 have g0 := g0.argM he0 0 (K := [40]) rfl (nosep rfl) rfl
 have g1 := g1.argM he0 1 (K := [40, 41]) rfl (nosep rfl) rfl
 obtain ⟨u1, u2, u3, rfl, h4, h5, h6⟩ := op39 g0
 obtain ⟨u7, u8, u9, u10, rfl, h11, h12, h13, h14⟩ := op45 g1
 rw [board_Connected] at hF
 refine enter (l := [.agg #[.int .i64 a0.Buses, u1, u2, u3, .int .i64 a0.Phase, .int .i64 a0.Frequency], .agg #[u7, u8, u9, u10], .int .i64 a2]) Try.func25 rfl Try.ntmps25 rfl ?_
 refine CW.sub (L' := [(0, .agg #[.int .i64 a0.Buses, u1, u2, u3, .int .i64 a0.Phase, .int .i64 a0.Frequency]), (1, .agg #[u7, u8, u9, u10]), (2, .int .i64 a2)]) ⟨rfl, rfl, rfl, trivial⟩ ?_
 refine CW.sr fun K15 hK15 => ?_
 refine WL.step (OW.boxK (o := e0) 100 [.int .i64 a0.Buses, u1, u2, u3, .int .i64 a0.Phase, .int .i64 a0.Frequency] rfl rfl) rfl ?_
 rintro _ w18 ⟨pa16, o17, rfl, ev19, hb20⟩
 have hE := hE.evo ev19 rfl rfl
 refine WL.step (OW.boxK (o := o17) 101 [u7, u8, u9, u10] rfl rfl) rfl ?_
 rintro _ w23 ⟨pa21, o22, rfl, ev24, hb25⟩
 have hE := hE.evo ev24 rfl rfl
 have hb20 := hb20.evo ev24 rfl
 refine WL.p (.int .i64 0) rfl rfl ?_
 refine WL.p (.bool false) rfl rfl ?_
 refine WL.nx hK15 ?_
 refine CW.seq fun K26 hK26 => ?_
 refine CW.sr fun K27 hK27 => ?_
 refine WL.stepE (OW.loadK0 Board (.agg #[.int .i64 a0.Buses, u1, u2, u3, .int .i64 a0.Phase, .int .i64 a0.Frequency]) ty39 rfl hb20 rfl rfl) rfl ?_
 refine WL.stepE (OW.loadK0 Power (.agg #[u7, u8, u9, u10]) ty45 rfl hb25 rfl rfl) rfl ?_
 obtain ⟨y28, q29, hF⟩ := bindE hF
 refine WL.step (OW.call Try.call36 rfl (board_State_ok q29 (mk39 (x := a0) (h4.baseM hE rfl) (h5.baseM hE rfl) (h6.baseM hE rfl)) (mk45 (x := a1) (h11.baseM hE rfl) (h12.baseM hE rfl) (h13.baseM hE rfl) (h14.baseM hE rfl)))) rfl ?_
 rintro _ w30 ⟨o34, hn_, rfl⟩
 obtain ⟨o31, ev32, hA33⟩ := adopt (o := o22) (ks := []) (Ks := [[40], [40, 41]]) 102 ([]) [102] hn_ MbOk.nil rfl rfl rfl rfl
 have hE := hE.evo ev32 rfl rfl
 have hb20 := hb20.evo ev32 rfl
 have hb25 := hb25.evo ev32 rfl
 refine WL.p (.bool (((y28 != 0)))) rfl rfl ?_
 refine WL.nx hK27 ?_
 refine CW.cond (b := ((y28 != 0))) rfl (fun hc35 => ?_) (fun hc35 => ?_)
 ·have hF := iteT hc35 hF
  refine CW.sr fun K36 hK36 => ?_
  refine WL.p (.int .i64 0) rfl rfl ?_
  refine WL.p (.bool false) rfl rfl ?_
  refine WL.nx hK36 ?_
  obtain rfl := Option.some.inj hF
  exact CW.rets (vs := [.int .i64 0, .bool false]) Try.results25 ⟨rfl, rfl, trivial⟩ ⟨_, rfl, _, (hE.rn he0 100 [] rfl rfl), rfl⟩ (fun _ _ h => h)
 ·have hF := iteF hc35 hF
  refine CW.skip ?_
  refine hK26 _ _ ?_
  refine CW.sr fun K37 hK37 => ?_
  refine WL.stepE (OW.loadK0 Board (.agg #[.int .i64 a0.Buses, u1, u2, u3, .int .i64 a0.Phase, .int .i64 a0.Frequency]) ty39 rfl hb20 rfl rfl) rfl ?_
  refine WL.stepE (OW.loadK0 Power (.agg #[u7, u8, u9, u10]) ty45 rfl hb25 rfl rfl) rfl ?_
  refine WL.p (.int .i64 a2) rfl rfl ?_
  obtain ⟨⟨y38, y39⟩, q40, hF⟩ := bindE hF
  dsimp only at hF
  refine WL.step (OW.call Try.call52 rfl (board_connected_ok q40 (mk39 (x := a0) (h4.baseM hE rfl) (h5.baseM hE rfl) (h6.baseM hE rfl)) (mk45 (x := a1) (h11.baseM hE rfl) (h12.baseM hE rfl) (h13.baseM hE rfl) (h14.baseM hE rfl)))) rfl ?_
  rintro _ w41 ⟨o45, hn_, rfl⟩
  obtain ⟨o42, ev43, hA44⟩ := adopt (o := o31) (ks := []) (Ks := [[40], [40, 41]]) 103 ([]) [103] hn_ MbOk.nil rfl rfl rfl rfl
  have hE := hE.evo ev43 rfl rfl
  refine WL.p (.int .i64 y38) rfl rfl ?_
  refine WL.p (.bool y39) rfl rfl ?_
  refine WL.p (.int .i64 y38) rfl rfl ?_
  refine WL.p (.bool y39) rfl rfl ?_
  refine WL.nx hK37 ?_
  obtain rfl := Option.some.inj hF
  exact CW.rets (vs := [.int .i64 y38, .bool y39]) Try.results25 ⟨rfl, rfl, trivial⟩ ⟨_, rfl, _, (hE.rn he0 100 [] rfl rfl), rfl⟩ (fun _ _ h => h)

set_option maxHeartbeats 1000000 in
theorem dynposref01_Has_ok {a0 : (List Int)} {a1 : Int} {r : Bool} (hF : dynposref01_Has a0 a1 = some r) {w0 : World} {p0 : Value} {S0 : Nat → Prop} (g0 : Rv S0 w0 p0 a0) :
    Calls Try.prog 23 #[p0, .int .i64 a1] w0 (Ret fun v w' => ∃ (oc : Cls), En w0 (entM w0 [] [S0]) oc w' ∧ v = .bool r) := by
 obtain ⟨e0, he0⟩ : ∃ e0, e0 = entM w0 [] [S0] := ⟨_, rfl⟩
 have hE := En.refl w0 e0
 have g0 := g0.argM he0 0 (K := [40]) rfl (nosep rfl) rfl
 rw [dynposref01_Has] at hF
 refine enter (l := [p0, .int .i64 a1]) Try.func23 rfl Try.ntmps23 rfl ?_
 refine CW.sub (L' := [(0, p0), (1, .int .i64 a1)]) ⟨rfl, rfl, trivial⟩ ?_
 refine CW.sr fun K1 hK1 => ?_
 refine WL.p (.bool false) rfl rfl ?_
 refine WL.nx hK1 ?_
 refine CW.seq fun K2 hK2 => ?_
 refine CW.sr fun K3 hK3 => ?_
 refine WL.p p0 rfl rfl ?_
 refine WL.stepE (OW.len Try.underlying22 rfl (g0.baseM hE rfl)) rfl ?_
 refine WL.p (.int .i64 0) rfl rfl ?_
 refine WL.nx hK3 ?_
 refine CW.block ?_
 obtain ⟨r6, hl5, hF⟩ := bindE hF
 have hJ9 : ∀ (w7 : World) (o8 : Cls), .inl () = r6 → En w0 e0 o8 w7 → NK 17 K2 [] w7 := by
  intro  w7 o8  e_ hE
  subst e_
  have hF := elimL hF
  try dsimp only at hF
  refine hK2 _ _ ?_
  refine CW.sr fun K10 hK10 => ?_
  refine WL.p (.bool false) rfl rfl ?_
  refine WL.nx hK10 ?_
  obtain rfl := Option.some.inj hF
  exact CW.rets (vs := [.bool false]) Try.results23 ⟨rfl, trivial⟩ ⟨_, rfl, _, (hE.rn he0 100 [] rfl rfl), rfl⟩ (fun _ _ h => h)
 refine CW.sub (L' := [(1, .int .i64 a1), (7, p0), (8, .int .i64 (len a0)), (9, .int .i64 0)]) ⟨rfl, rfl, rfl, rfl, trivial⟩ ?_
 refine CW.loop (dynposref01_Has_L1 a0 a1) (fun s_ L_ w11 => ∃ (o12 : Cls) (x4 : Int), x4 = s_ ∧ L_ = [(1, .int .i64 a1), (7, p0), (8, .int .i64 (len a0)), (9, .int .i64 x4)] ∧ En w0 e0 o12 w11) hl5 ?_ ?_
 ·exact ⟨e0, 0, rfl, rfl, hE⟩
 intro K13 s_ L_ w11 hi_ x14 hx15 hr16 hk17
 obtain ⟨o12, x4, rfl, rfl, hE⟩ := hi_
 rw [dynposref01_Has_L1] at hx15
 refine CW.sr fun K18 hK18 => ?_
 refine WL.p (.bool ((decide (x4 < (len a0))))) rfl rfl ?_
 refine WL.nx hK18 ?_
 refine CW.seq fun K19 hK19 => ?_
 refine CW.cond (b := (decide (x4 < (len a0)))) rfl (fun hc20 => ?_) (fun hc20 => ?_)
 ·have hx15 := iteT hc20 hx15
  refine CW.skip ?_
  refine hK19 _ _ ?_
  refine CW.seq fun K21 hK21 => ?_
  refine CW.block ?_
  refine CW.sr fun K22 hK22 => ?_
  obtain ⟨y23, q27, hx15⟩ := bindE hx15
  refine WL.stepP (OW.indexAddr Try.underlying22 ty3 rfl (g0.baseM hE rfl) rfl q27) rfl fun _ ⟨pa24, hv_, hp25, he26⟩ => ?_
  subst hv_
  refine WL.stepE (OW.loadI ty3 rfl hp25) rfl ?_
  refine WL.p (.int .i64 y23) rfl rfl ?_
  refine WL.nx hK22 ?_
  refine CW.sr fun K28 hK28 => ?_
  refine WL.p (.int .i64 y23) rfl rfl ?_
  refine WL.p (.int .i64 a1) rfl rfl ?_
  refine WL.p (.bool (((y23 == a1)))) rfl rfl ?_
  refine WL.nx hK28 ?_
  refine CW.cond (b := ((y23 == a1))) rfl (fun hc29 => ?_) (fun hc29 => ?_)
  ·have hx15 := iteT hc29 hx15
   refine CW.sr fun K30 hK30 => ?_
   refine WL.p (.bool true) rfl rfl ?_
   refine WL.nx hK30 ?_
   have e_ := hr16 _ (Option.some.inj hx15).symm
   subst e_
   have hF := elimR hF
   obtain rfl := Option.some.inj hF
   exact CW.rets (vs := [.bool true]) Try.results23 ⟨rfl, trivial⟩ ⟨_, rfl, _, (hE.rn he0 100 [] rfl rfl), rfl⟩ (fun _ _ h => h)
  ·have hx15 := iteF hc29 hx15
   refine CW.skip ?_
   refine hK21 _ _ ?_
   refine CW.region ?_
   refine WL.p (.int .i64 ((W (x4 + 1)))) rfl rfl ?_
   refine WL.p (.int .i64 ((W (x4 + 1)))) rfl rfl ?_
   refine WL.nil ?_
   exact NK.sb (hk17 _ _ _ (Option.some.inj hx15).symm ⟨o12, (W (x4 + 1)), rfl, rfl, hE⟩) ⟨rfl, rfl, rfl, rfl, trivial⟩
 ·have hx15 := iteF hc20 hx15
  refine CW.exit ?_
  exact NK.sb (hJ9 w11 o12 (hr16 _ (Option.some.inj hx15).symm) hE) trivial

set_option maxHeartbeats 1000000 in
theorem board_Fed_ok {a0 : Board} {a1 : Power} {a2 : Int} {r : (Int × Bool)} (hF : board_Fed a0 a1 a2 = some r) {w0 : World} {p0 : Value} {S0 : Nat → Prop} (g0 : Rv S0 w0 p0 a0) {p1 : Value} {S1 : Nat → Prop} (g1 : Rv S1 w0 p1 a1) :
    Calls Try.prog 26 #[p0, p1, .int .i64 a2] w0 (Ret fun v w' => ∃ (oc : Cls), En w0 (entM w0 [] [S0, S1]) oc w' ∧ v = .tuple #[.int .i64 r.1, .bool r.2]) := by
 obtain ⟨e0, he0⟩ : ∃ e0, e0 = entM w0 [] [S0, S1] := ⟨_, rfl⟩
 have hE := En.refl w0 e0
 have g0 := g0.argM he0 0 (K := [40]) rfl (nosep rfl) rfl
 have g1 := g1.argM he0 1 (K := [40, 41]) rfl (nosep rfl) rfl
 obtain ⟨u1, u2, u3, rfl, h4, h5, h6⟩ := op39 g0
 obtain ⟨u7, u8, u9, u10, rfl, h11, h12, h13, h14⟩ := op45 g1
 rw [board_Fed] at hF
 refine enter (l := [.agg #[.int .i64 a0.Buses, u1, u2, u3, .int .i64 a0.Phase, .int .i64 a0.Frequency], .agg #[u7, u8, u9, u10], .int .i64 a2]) Try.func26 rfl Try.ntmps26 rfl ?_
 refine CW.sub (L' := [(0, .agg #[.int .i64 a0.Buses, u1, u2, u3, .int .i64 a0.Phase, .int .i64 a0.Frequency]), (1, .agg #[u7, u8, u9, u10]), (2, .int .i64 a2)]) ⟨rfl, rfl, rfl, trivial⟩ ?_
 refine CW.sr fun K15 hK15 => ?_
 refine WL.step (OW.boxK (o := e0) 100 [.int .i64 a0.Buses, u1, u2, u3, .int .i64 a0.Phase, .int .i64 a0.Frequency] rfl rfl) rfl ?_
 rintro _ w18 ⟨pa16, o17, rfl, ev19, hb20⟩
 have hE := hE.evo ev19 rfl rfl
 refine WL.step (OW.boxK (o := o17) 101 [u7, u8, u9, u10] rfl rfl) rfl ?_
 rintro _ w23 ⟨pa21, o22, rfl, ev24, hb25⟩
 have hE := hE.evo ev24 rfl rfl
 have hb20 := hb20.evo ev24 rfl
 refine WL.p (.int .i64 0) rfl rfl ?_
 refine WL.p (.bool false) rfl rfl ?_
 refine WL.nx hK15 ?_
 refine CW.seq fun K26 hK26 => ?_
 refine CW.sr fun K27 hK27 => ?_
 refine WL.stepE (OW.loadK0 Board (.agg #[.int .i64 a0.Buses, u1, u2, u3, .int .i64 a0.Phase, .int .i64 a0.Frequency]) ty39 rfl hb20 rfl rfl) rfl ?_
 refine WL.stepE (OW.loadK0 Power (.agg #[u7, u8, u9, u10]) ty45 rfl hb25 rfl rfl) rfl ?_
 obtain ⟨y28, q29, hF⟩ := bindE hF
 refine WL.step (OW.call Try.call36 rfl (board_State_ok q29 (mk39 (x := a0) (h4.baseM hE rfl) (h5.baseM hE rfl) (h6.baseM hE rfl)) (mk45 (x := a1) (h11.baseM hE rfl) (h12.baseM hE rfl) (h13.baseM hE rfl) (h14.baseM hE rfl)))) rfl ?_
 rintro _ w30 ⟨o34, hn_, rfl⟩
 obtain ⟨o31, ev32, hA33⟩ := adopt (o := o22) (ks := []) (Ks := [[40], [40, 41]]) 102 ([]) [102] hn_ MbOk.nil rfl rfl rfl rfl
 have hE := hE.evo ev32 rfl rfl
 have hb20 := hb20.evo ev32 rfl
 have hb25 := hb25.evo ev32 rfl
 refine WL.p (.bool (((y28 != 0)))) rfl rfl ?_
 refine WL.nx hK27 ?_
 refine CW.cond (b := ((y28 != 0))) rfl (fun hc35 => ?_) (fun hc35 => ?_)
 ·have hF := iteT hc35 hF
  refine CW.sr fun K36 hK36 => ?_
  refine WL.p (.int .i64 0) rfl rfl ?_
  refine WL.p (.bool false) rfl rfl ?_
  refine WL.nx hK36 ?_
  obtain rfl := Option.some.inj hF
  exact CW.rets (vs := [.int .i64 0, .bool false]) Try.results26 ⟨rfl, rfl, trivial⟩ ⟨_, rfl, _, (hE.rn he0 100 [] rfl rfl), rfl⟩ (fun _ _ h => h)
 ·have hF := iteF hc35 hF
  refine CW.skip ?_
  refine hK26 _ _ ?_
  refine CW.sr fun K37 hK37 => ?_
  refine WL.stepE (OW.loadK0 Board (.agg #[.int .i64 a0.Buses, u1, u2, u3, .int .i64 a0.Phase, .int .i64 a0.Frequency]) ty39 rfl hb20 rfl rfl) rfl ?_
  refine WL.stepE (OW.loadK0 Power (.agg #[u7, u8, u9, u10]) ty45 rfl hb25 rfl rfl) rfl ?_
  refine WL.p (.int .i64 a2) rfl rfl ?_
  obtain ⟨⟨y38, y39⟩, q40, hF⟩ := bindE hF
  dsimp only at hF
  refine WL.step (OW.call Try.call53 rfl (board_fed_ok q40 (mk39 (x := a0) (h4.baseM hE rfl) (h5.baseM hE rfl) (h6.baseM hE rfl)) (mk45 (x := a1) (h11.baseM hE rfl) (h12.baseM hE rfl) (h13.baseM hE rfl) (h14.baseM hE rfl)))) rfl ?_
  rintro _ w41 ⟨o45, hn_, rfl⟩
  obtain ⟨o42, ev43, hA44⟩ := adopt (o := o31) (ks := []) (Ks := [[40], [40, 41]]) 103 ([]) [103] hn_ MbOk.nil rfl rfl rfl rfl
  have hE := hE.evo ev43 rfl rfl
  refine WL.p (.int .i64 y38) rfl rfl ?_
  refine WL.p (.bool y39) rfl rfl ?_
  refine WL.p (.int .i64 y38) rfl rfl ?_
  refine WL.p (.bool y39) rfl rfl ?_
  refine WL.nx hK37 ?_
  obtain rfl := Option.some.inj hF
  exact CW.rets (vs := [.int .i64 y38, .bool y39]) Try.results26 ⟨rfl, rfl, trivial⟩ ⟨_, rfl, _, (hE.rn he0 100 [] rfl rfl), rfl⟩ (fun _ _ h => h)

set_option maxHeartbeats 1000000 in
theorem board_Live_ok {a0 : Board} {a1 : Power} {a2 : Int} {r : Bool} (hF : board_Live a0 a1 a2 = some r) {w0 : World} {p0 : Value} {S0 : Nat → Prop} (g0 : Rv S0 w0 p0 a0) {p1 : Value} {S1 : Nat → Prop} (g1 : Rv S1 w0 p1 a1) :
    Calls Try.prog 27 #[p0, p1, .int .i64 a2] w0 (Ret fun v w' => ∃ (oc : Cls), En w0 (entM w0 [] [S0, S1]) oc w' ∧ v = .bool r) := by
 obtain ⟨e0, he0⟩ : ∃ e0, e0 = entM w0 [] [S0, S1] := ⟨_, rfl⟩
 have hE := En.refl w0 e0
 have g0 := g0.argM he0 0 (K := [40]) rfl (nosep rfl) rfl
 have g1 := g1.argM he0 1 (K := [40, 41]) rfl (nosep rfl) rfl
 obtain ⟨u1, u2, u3, rfl, h4, h5, h6⟩ := op39 g0
 obtain ⟨u7, u8, u9, u10, rfl, h11, h12, h13, h14⟩ := op45 g1
 rw [board_Live] at hF
 refine enter (l := [.agg #[.int .i64 a0.Buses, u1, u2, u3, .int .i64 a0.Phase, .int .i64 a0.Frequency], .agg #[u7, u8, u9, u10], .int .i64 a2]) Try.func27 rfl Try.ntmps27 rfl ?_
 refine CW.sub (L' := [(0, .agg #[.int .i64 a0.Buses, u1, u2, u3, .int .i64 a0.Phase, .int .i64 a0.Frequency]), (1, .agg #[u7, u8, u9, u10]), (2, .int .i64 a2)]) ⟨rfl, rfl, rfl, trivial⟩ ?_
 refine CW.sr fun K15 hK15 => ?_
 refine WL.step (OW.boxK (o := e0) 100 [.int .i64 a0.Buses, u1, u2, u3, .int .i64 a0.Phase, .int .i64 a0.Frequency] rfl rfl) rfl ?_
 rintro _ w18 ⟨pa16, o17, rfl, ev19, hb20⟩
 have hE := hE.evo ev19 rfl rfl
 refine WL.step (OW.boxK (o := o17) 101 [u7, u8, u9, u10] rfl rfl) rfl ?_
 rintro _ w23 ⟨pa21, o22, rfl, ev24, hb25⟩
 have hE := hE.evo ev24 rfl rfl
 have hb20 := hb20.evo ev24 rfl
 refine WL.p (.bool false) rfl rfl ?_
 refine WL.nx hK15 ?_
 refine CW.sr fun K26 hK26 => ?_
 refine WL.stepE (OW.loadK0 Board (.agg #[.int .i64 a0.Buses, u1, u2, u3, .int .i64 a0.Phase, .int .i64 a0.Frequency]) ty39 rfl hb20 rfl rfl) rfl ?_
 refine WL.stepE (OW.loadK0 Power (.agg #[u7, u8, u9, u10]) ty45 rfl hb25 rfl rfl) rfl ?_
 refine WL.p (.int .i64 a2) rfl rfl ?_
 obtain ⟨⟨y27, y28⟩, q29, hF⟩ := bindE hF
 dsimp only at hF
 refine WL.step (OW.call Try.call22 rfl (board_Of_ok q29 (mk39 (x := a0) (h4.baseM hE rfl) (h5.baseM hE rfl) (h6.baseM hE rfl)) (mk45 (x := a1) (h11.baseM hE rfl) (h12.baseM hE rfl) (h13.baseM hE rfl) (h14.baseM hE rfl)))) rfl ?_
 rintro _ w30 ⟨o34, u36, u38, u40, hn_, rfl, h35, h37, h39⟩
 obtain ⟨o31, ev32, hA33⟩ := adopt (o := o22) (ks := []) (Ks := [[40], [40, 41]]) 102 ([]) [102] hn_ MbOk.nil rfl rfl rfl rfl
 have h35 := h35.ad (K' := [102]) hA33 rfl
 have h37 := h37.ad (K' := [102]) hA33 rfl
 have h39 := h39.ad (K' := [102]) hA33 rfl
 have hE := hE.evo ev32 rfl rfl
 refine WL.p (.tuple #[.agg #[u36, u38, u40], .bool y28]) rfl rfl ?_
 refine WL.p (.agg #[u36, u38, u40]) rfl rfl ?_
 refine WL.p (.bool y28) rfl rfl ?_
 refine WL.step (OW.allocK (o := o31) Island 103 [.slice none 0 0, .slice none 0 0, .slice none 0 0] ty53 rfl) rfl ?_
 rintro _ w43 ⟨pa41, o42, rfl, ev44, hb45⟩
 have hE := hE.evo ev44 rfl rfl
 have h35 := h35.evo ev44 rfl
 have h37 := h37.evo ev44 rfl
 have h39 := h39.evo ev44 rfl
 have h46 := Ow.nil (α := Int) 3 o42 104 [] w43
 have h47 := Ow.nil (α := Int) 3 o42 105 [] w43
 have h48 := Ow.nil (α := Int) 3 o42 106 [] w43
 refine WL.step0 (OW.storeK0 Island [u36, u38, u40] [u36, u38, u40] ty53 rfl rfl hb45 rfl ⟨(h35.one rfl), (h37.one rfl), (h39.one rfl), trivial⟩ rfl rfl rfl) ?_
 rintro _ w49 ⟨ev50, hb45⟩
 have hE := hE.evo ev50 rfl rfl
 have h35 := h35.evo ev50 rfl
 have h37 := h37.evo ev50 rfl
 have h39 := h39.evo ev50 rfl
 refine WL.p (.bool y28) rfl rfl ?_
 refine WL.nx hK26 ?_
 refine CW.sr fun K51 hK51 => ?_
 refine WL.stepE (OW.fldAddr (FldOk.at f53_1) rfl) rfl ?_
 refine WL.stepE (OW.loadK (off := 1) (List Int) (u38) ty22 rfl hb45 rfl rfl) rfl ?_
 refine WL.stepE (OW.len Try.underlying22 rfl h37) rfl ?_
 refine WL.p (.bool ((decide ((len y27.Sources) > 0)))) rfl rfl ?_
 refine WL.p (.bool ((decide ((len y27.Sources) > 0)))) rfl rfl ?_
 refine WL.nx hK51 ?_
 obtain rfl := Option.some.inj hF
 exact CW.rets (vs := [.bool ((decide ((len y27.Sources) > 0)))]) Try.results27 ⟨rfl, trivial⟩ ⟨_, rfl, _, (hE.rn he0 100 [] rfl rfl), rfl⟩ (fun _ _ h => h)

set_option maxHeartbeats 1000000 in
theorem dynposlaw15_two_ok {r : Board} (hF : dynposlaw15_two  = some r) {w0 : World}  :
    Calls Try.prog 56 #[] w0 (Ret fun v w' => ∃ (oc : Cls) (x0_1 : Value) (x0_2 : Value) (x0_3 : Value), En w0 (entM w0 [] []) oc w' ∧ v = .agg #[.int .i64 r.Buses, x0_1, x0_2, x0_3, .int .i64 r.Phase, .int .i64 r.Frequency] ∧ Ow 48 oc 101 [] w' x0_1 r.Breakers ∧ Ow 83 oc 102 [] w' x0_2 r.Sources ∧ Ow 85 oc 103 [106] w' x0_3 r.Consumers) := by
 obtain ⟨e0, he0⟩ : ∃ e0, e0 = entM w0 [] [] := ⟨_, rfl⟩
 have hE := En.refl w0 e0
 rw [dynposlaw15_two] at hF
 refine enter (l := []) Try.func56 rfl Try.ntmps56 rfl ?_
 refine CW.sr fun K1 hK1 => ?_
 refine WL.step (OW.allocK (o := e0) Board 100 [.int .i64 0, .slice none 0 0, .slice none 0 0, .slice none 0 0, .int .i64 0, .int .i64 0] ty39 rfl) rfl ?_
 rintro _ w4 ⟨pa2, o3, rfl, ev5, hb6⟩
 have hE := hE.evo ev5 rfl rfl
 have h7 := Ow.nil (α := Breaker) 48 o3 101 [] w4
 have h8 := Ow.nil (α := Source) 83 o3 102 [] w4
 have h9 := Ow.nil (α := Consumer) 85 o3 103 [] w4
 refine WL.nx hK1 ?_
 refine CW.sr fun K10 hK10 => ?_
 refine WL.stepE (OW.buildK Breaker [(0, [.int .i64 1]), (1, [.int .i64 0]), (2, [.int .i64 1])] [.int .i64 1, .int .i64 0, .int .i64 1] st48 ty48 rfl ⟨rfl, rfl, rfl, rfl, rfl, rfl, trivial⟩ rfl) rfl ?_
 refine WL.stepE (OW.buildK Breaker [(0, [.int .i64 2]), (1, [.int .i64 0]), (2, [.int .i64 0])] [.int .i64 2, .int .i64 0, .int .i64 0] st48 ty48 rfl ⟨rfl, rfl, rfl, rfl, rfl, rfl, trivial⟩ rfl) rfl ?_
 refine WL.stepE (OW.buildK Breaker [(0, [.int .i64 2]), (1, [.int .i64 1]), (2, [.int .i64 1])] [.int .i64 2, .int .i64 1, .int .i64 1] st48 ty48 rfl ⟨rfl, rfl, rfl, rfl, rfl, rfl, trivial⟩ rfl) rfl ?_
 refine WL.stepE (OW.buildK Breaker [(0, [.int .i64 3]), (1, [.int .i64 0]), (2, [.int .i64 0])] [.int .i64 3, .int .i64 0, .int .i64 0] st48 ty48 rfl ⟨rfl, rfl, rfl, rfl, rfl, rfl, trivial⟩ rfl) rfl ?_
 refine WL.step (OW.buildSlice (o := o3) (k := 104) (K := []) (xs := ([(⟨1, 0, 1⟩ : Breaker), (⟨2, 0, 0⟩ : Breaker), (⟨2, 1, 1⟩ : Breaker), (⟨3, 0, 0⟩ : Breaker)] : List Breaker)) Try.underlying35 ty48 rfl ⟨(mk48 (x := (⟨1, 0, 1⟩ : Breaker))), (mk48 (x := (⟨2, 0, 0⟩ : Breaker))), (mk48 (x := (⟨2, 1, 1⟩ : Breaker))), (mk48 (x := (⟨3, 0, 0⟩ : Breaker))), trivial⟩ rfl rfl) rfl ?_
 rintro v11 w12 ⟨o13, ev14, h15⟩
 have hE := hE.evo ev14 rfl rfl
 have h7 := h7.evo ev14 rfl
 have h8 := h8.evo ev14 rfl
 have h9 := h9.evo ev14 rfl
 have hb6 := hb6.evo ev14 rfl
 refine WL.stepE (OW.buildK Source [(0, [.int .i64 100])] [.int .i64 100, .int .i64 0, .int .i64 0] st83 ty83 rfl ⟨rfl, rfl, trivial⟩ rfl) rfl ?_
 refine WL.stepE (OW.buildK Source [(0, [.int .i64 100])] [.int .i64 100, .int .i64 0, .int .i64 0] st83 ty83 rfl ⟨rfl, rfl, trivial⟩ rfl) rfl ?_
 refine WL.step (OW.buildSlice (o := o13) (k := 105) (K := []) (xs := ([(⟨100, 0, 0⟩ : Source), (⟨100, 0, 0⟩ : Source)] : List Source)) Try.underlying36 ty83 rfl ⟨(mk83 (x := (⟨100, 0, 0⟩ : Source))), (mk83 (x := (⟨100, 0, 0⟩ : Source))), trivial⟩ rfl rfl) rfl ?_
 rintro v16 w17 ⟨o18, ev19, h20⟩
 have hE := hE.evo ev19 rfl rfl
 have h15 := h15.evo ev19 rfl
 have h7 := h7.evo ev19 rfl
 have h8 := h8.evo ev19 rfl
 have h9 := h9.evo ev19 rfl
 have hb6 := hb6.evo ev19 rfl
 refine WL.stepE (OW.buildK Consumer [(0, [.int .i64 60]), (3, [.int .i64 (-1)])] [.int .i64 60, .int .i64 0, .int .i64 0, .int .i64 (-1), .slice none 0 0] st85 ty85 rfl ⟨rfl, rfl, rfl, rfl, trivial⟩ rfl) rfl ?_
 have h21 := Ow.nil (α := Int) 3 o18 106 [] w17
 refine WL.step (OW.buildSlice (o := o18) (k := 107) (K := [106]) (xs := ([(⟨60, 0, 0, (-1), ([] : List Int)⟩ : Consumer)] : List Consumer)) Try.underlying37 ty85 rfl ⟨(mk85 (x := (⟨60, 0, 0, (-1), ([] : List Int)⟩ : Consumer)) h21.rv), trivial⟩ rfl rfl) rfl ?_
 rintro v22 w23 ⟨o24, ev25, h26⟩
 have hE := hE.evo ev25 rfl rfl
 have h15 := h15.evo ev25 rfl
 have h20 := h20.evo ev25 rfl
 have h21 := h21.evo ev25 rfl
 have h7 := h7.evo ev25 rfl
 have h8 := h8.evo ev25 rfl
 have h9 := h9.evo ev25 rfl
 have hb6 := hb6.evo ev25 rfl
 refine WL.stepE (OW.buildK Board [(0, [.int .i64 2]), (4, [.int .i64 50]), (5, [.int .i64 10]), (1, [v11]), (2, [v16]), (3, [v22])] [.int .i64 2, v11, v16, v22, .int .i64 50, .int .i64 10] st39 ty39 rfl ⟨rfl, rfl, rfl, rfl, rfl, rfl, rfl, (cells_one (h15.one)), rfl, (cells_one (h20.one)), rfl, (cells_one (h26.one)), trivial⟩ rfl) rfl ?_
 refine WL.step0 (OW.storeK0 Board [.int .i64 2, v11, v16, v22, .int .i64 50, .int .i64 10] [.int .i64 2, v11, v16, v22, .int .i64 50, .int .i64 10] ty39 rfl rfl hb6 rfl ⟨rfl, (h15.one), (h20.one), (h26.one), rfl, rfl, trivial⟩ rfl rfl rfl) ?_
 rintro _ w27 ⟨ev28, hb6⟩
 have hE := hE.evo ev28 rfl rfl
 have h15 := h15.evo ev28 rfl
 have h20 := h20.evo ev28 rfl
 have h26 := h26.evo ev28 rfl
 refine WL.nx hK10 ?_
 obtain rfl := Option.some.inj hF
 exact CW.rets (vs := [.agg #[.int .i64 2, v11, v16, v22, .int .i64 50, .int .i64 10]]) Try.results56 ⟨ResIs.bk Board (.agg #[.int .i64 2, v11, v16, v22, .int .i64 50, .int .i64 10]) ty39 rfl hb6 rfl rfl, trivial⟩ ⟨_, rfl, _, (v11), (v16), (v22), (hE.rn he0 106 [(104, 101), (105, 102), (107, 103)] rfl rfl), rfl, (h15.rn (c' := 101) (K' := []) rfl rfl), (h20.rn (c' := 102) (K' := []) rfl rfl), (h26.rn (c' := 103) (K' := [106]) rfl rfl)⟩ (fun _ _ h => h)

end Go.Proofs.Ytnpghnnlcakbfaa
