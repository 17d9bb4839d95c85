/- Walks. Written by a program (wip/gen). -/
import Derived.Test.YtdfkfohpgakihaaHw
import Derived.Test.YtdfkfohpgakihaaWk1
import Derived.Test.YtdfkfohpgakihaaWk6
import Derived.Test.YtdfkfohpgakihaaWk8
import Derived.Test.YtdfkfohpgakihaaWk10
set_option linter.unusedVariables false
set_option linter.unusedSimpArgs false
namespace Go.Proofs.Ytdfkfohpgakihaa
open Go Go.RowKit Dp

set_option maxRecDepth 100000

set_option maxHeartbeats 1000000 in
theorem board_Of_ok {a0 : Board} {a1 : Power} {a2 : Int} {r : (Island × Bool)} (hF : board_Of a0 a1 a2 = some r) {w0 : World} {p0 : Value} {S0 : Nat → Prop} (g0 : Rv S0 w0 p0 a0) {p1 : Value} {S1 : Nat → Prop} (g1 : Rv S1 w0 p1 a1) :
    Calls Try.prog 41 #[p0, p1, .int .i64 a2] w0 (Ret fun v w' => ∃ (oc : Cls) (x0_0 : Value) (x0_1 : Value) (x0_2 : Value), En w0 (entM w0 [] [S0, S1]) oc w' ∧ v = .tuple #[.agg #[x0_0, x0_1, x0_2], .bool r.2] ∧ Rv (In oc [103]) w' x0_0 r.1.Buses ∧ Rv (In oc [103]) w' x0_1 r.1.Sources ∧ Rv (In oc [103]) w' x0_2 r.1.Consumers) := by
 obtain ⟨e0, he0⟩ : ∃ e0, e0 = entM w0 [] [S0, S1] := ⟨_, rfl⟩
 have hE := En.refl w0 e0
 have g0 := g0.argM he0 0 (K := [40]) rfl (nosep rfl) rfl
 have g1 := g1.argM he0 1 (K := [40, 41]) rfl (nosep rfl) rfl
 obtain ⟨u1, u2, u3, rfl, h4, h5, h6⟩ := op29 g0
 obtain ⟨u7, u8, u9, u10, rfl, h11, h12, h13, h14⟩ := op34 g1
 rw [board_Of] at hF
 refine enter (l := [.agg #[.int .i64 a0.Buses, u1, u2, u3, .int .i64 a0.Phase, .int .i64 a0.Frequency], .agg #[u7, u8, u9, u10], .int .i64 a2]) Try.func41 rfl Try.ntmps41 rfl ?_
 refine CW.sub (L' := [(0, .agg #[.int .i64 a0.Buses, u1, u2, u3, .int .i64 a0.Phase, .int .i64 a0.Frequency]), (1, .agg #[u7, u8, u9, u10]), (2, .int .i64 a2)]) ⟨rfl, rfl, rfl, trivial⟩ ?_
 refine CW.sr fun K15 hK15 => ?_
 refine WL.step (OW.boxK (o := e0) 100 [.int .i64 a0.Buses, u1, u2, u3, .int .i64 a0.Phase, .int .i64 a0.Frequency] rfl rfl) rfl ?_
 rintro _ w18 ⟨pa16, o17, rfl, ev19, hb20⟩
 have hE := hE.evo ev19 rfl rfl
 refine WL.step (OW.boxK (o := o17) 101 [u7, u8, u9, u10] rfl rfl) rfl ?_
 rintro _ w23 ⟨pa21, o22, rfl, ev24, hb25⟩
 have hE := hE.evo ev24 rfl rfl
 have hb20 := hb20.evo ev24 rfl
 refine WL.step (OW.allocK (o := o22) Island 102 [.slice none 0 0, .slice none 0 0, .slice none 0 0] ty44 rfl) rfl ?_
 rintro _ w28 ⟨pa26, o27, rfl, ev29, hb30⟩
 have hE := hE.evo ev29 rfl rfl
 have hb20 := hb20.evo ev29 rfl
 have hb25 := hb25.evo ev29 rfl
 have h31 := Ow.nil (α := Int) 3 o27 103 [] w28
 have h32 := Ow.nil (α := Int) 3 o27 104 [] w28
 have h33 := Ow.nil (α := Int) 3 o27 105 [] w28
 refine WL.p (.bool false) rfl rfl ?_
 refine WL.nx hK15 ?_
 refine CW.seq fun K34 hK34 => ?_
 refine CW.sr fun K35 hK35 => ?_
 refine WL.stepE (OW.loadK0 Board (.agg #[.int .i64 a0.Buses, u1, u2, u3, .int .i64 a0.Phase, .int .i64 a0.Frequency]) ty29 rfl hb20 rfl rfl) rfl ?_
 refine WL.stepE (OW.loadK0 Power (.agg #[u7, u8, u9, u10]) ty34 rfl hb25 rfl rfl) rfl ?_
 obtain ⟨y36, q37, hF⟩ := bindE hF
 refine WL.step (OW.call Try.call36 rfl (board_Islands_ok q37 (mk29 (x := a0) (h4.baseM hE rfl) (h5.baseM hE rfl) (h6.baseM hE rfl)) (mk34 (x := a1) (h11.baseM hE rfl) (h12.baseM hE rfl) (h13.baseM hE rfl) (h14.baseM hE rfl)))) rfl ?_
 rintro v44 w38 ⟨o42, hn_, h43⟩
 obtain ⟨o39, ev40, hA41⟩ := adopt (o := o27) (ks := []) (Ks := [[40], [40, 41]]) 106 ([(100, 107)]) [106, 107] hn_ MbOk.nil rfl rfl rfl rfl
 have h43 := h43.ad (c' := 107) (K' := [106]) hA41 rfl rfl
 have hE := hE.evo ev40 rfl rfl
 have h31 := h31.evo ev40 rfl
 have h32 := h32.evo ev40 rfl
 have h33 := h33.evo ev40 rfl
 have hb30 := hb30.evo ev40 rfl
 refine WL.stepE (OW.len Try.underlying41 rfl h43.rv) rfl ?_
 refine WL.p (.int .i64 0) rfl rfl ?_
 refine WL.nx hK35 ?_
 refine CW.block ?_
 obtain ⟨r47, hl46, hF⟩ := bindE hF
 have hJ50 : ∀ (w48 : World) (o49 : Cls), .inl () = r47 → En w0 e0 o49 w48 → Ow 3 o49 103 [] w48 (.slice none 0 0) ([] : List Int) → Ow 3 o49 104 [] w48 (.slice none 0 0) ([] : List Int) → Ow 3 o49 105 [] w48 (.slice none 0 0) ([] : List Int) → Bk o49 102 w48 pa26 [(.slice none 0 0), (.slice none 0 0), (.slice none 0 0)] → NK 25 K34 [(6, .pointer (some pa26))] w48 := by
  intro  w48 o49  e_ hE h31 h32 h33 hb30
  subst e_
  have hF := elimL hF
  try dsimp only at hF
  refine hK34 _ _ ?_
  refine CW.sr fun K51 hK51 => ?_
  refine WL.stepE (OW.buildK Island [] [.slice none 0 0, .slice none 0 0, .slice none 0 0] st44 ty44 rfl trivial rfl) rfl ?_
  have h52 := Ow.nil (α := Int) 3 o49 113 [] w48
  have h53 := Ow.nil (α := Int) 3 o49 114 [] w48
  have h54 := Ow.nil (α := Int) 3 o49 115 [] w48
  refine WL.step0 (OW.storeK0 Island [(.slice none 0 0), (.slice none 0 0), (.slice none 0 0)] [(.slice none 0 0), (.slice none 0 0), (.slice none 0 0)] ty44 rfl rfl hb30 rfl ⟨rfl, rfl, rfl, trivial⟩ rfl rfl rfl) ?_
  rintro _ w55 ⟨ev56, hb30⟩
  have hE := hE.evo ev56 rfl rfl
  have h52 := h52.evo ev56 rfl
  have h53 := h53.evo ev56 rfl
  have h54 := h54.evo ev56 rfl
  refine WL.p (.bool false) rfl rfl ?_
  refine WL.nx hK51 ?_
  obtain rfl := Option.some.inj hF
  exact CW.rets (vs := [.agg #[(.slice none 0 0), (.slice none 0 0), (.slice none 0 0)], .bool false]) Try.results41 ⟨ResIs.bk Island (.agg #[(.slice none 0 0), (.slice none 0 0), (.slice none 0 0)]) ty44 rfl hb30 rfl rfl, rfl, trivial⟩ ⟨_, rfl, _, ((.slice none 0 0)), ((.slice none 0 0)), ((.slice none 0 0)), (hE.rn he0 103 [] rfl rfl), rfl, (h52.rv.rn (K' := [103]) rfl), (h53.rv.rn (K' := [103]) rfl), (h54.rv.rn (K' := [103]) rfl)⟩ (fun _ _ h => h)
 refine CW.sub (L' := [(2, .int .i64 a2), (6, .pointer (some pa26)), (12, v44), (13, .int .i64 (len y36)), (14, .int .i64 0)]) ⟨rfl, rfl, rfl, rfl, rfl, trivial⟩ ?_
 refine CW.loop (board_Of_L1 a2 y36) (fun s_ L_ w57 => ∃ (o58 : Cls) (x45 : Int), x45 = s_ ∧ L_ = [(2, .int .i64 a2), (6, .pointer (some pa26)), (12, v44), (13, .int .i64 (len y36)), (14, .int .i64 x45)] ∧ En w0 e0 o58 w57 ∧ Ow 3 o58 103 [] w57 (.slice none 0 0) ([] : List Int) ∧ Ow 3 o58 104 [] w57 (.slice none 0 0) ([] : List Int) ∧ Ow 3 o58 105 [] w57 (.slice none 0 0) ([] : List Int) ∧ Ow 44 o58 107 [106] w57 v44 y36 ∧ Bk o58 102 w57 pa26 [(.slice none 0 0), (.slice none 0 0), (.slice none 0 0)]) hl46 ?_ ?_
 ·exact ⟨o39, 0, rfl, rfl, hE, h31, h32, h33, h43, hb30⟩
 intro K59 s_ L_ w57 hi_ x60 hx61 hr62 hk63
 obtain ⟨o58, x45, rfl, rfl, hE, h31, h32, h33, h43, hb30⟩ := hi_
 rw [board_Of_L1] at hx61
 refine CW.sr fun K64 hK64 => ?_
 refine WL.p (.bool ((decide (x45 < (len y36))))) rfl rfl ?_
 refine WL.nx hK64 ?_
 refine CW.seq fun K65 hK65 => ?_
 refine CW.cond (b := (decide (x45 < (len y36)))) rfl (fun hc66 => ?_) (fun hc66 => ?_)
 ·have hx61 := iteT hc66 hx61
  refine CW.skip ?_
  refine hK65 _ _ ?_
  refine CW.seq fun K67 hK67 => ?_
  refine CW.block ?_
  refine CW.sr fun K68 hK68 => ?_
  obtain ⟨y69, q73, hx61⟩ := bindE hx61
  refine WL.stepP (OW.indexAddrO Try.underlying41 ty44 rfl h43 rfl q73) rfl fun _ ⟨pa70, hv_, hp71, he72⟩ => ?_
  subst hv_
  refine WL.stepP (OW.loadO ty44 rfl hp71) rfl fun v74 h75 => ?_
  obtain ⟨u76, u77, u78, rfl, h79, h80, h81⟩ := op44 h75
  refine WL.step (OW.allocK (o := o58) Island 108 [.slice none 0 0, .slice none 0 0, .slice none 0 0] ty44 rfl) rfl ?_
  rintro _ w84 ⟨pa82, o83, rfl, ev85, hb86⟩
  have hE := hE.evo ev85 rfl rfl
  have h31 := h31.evo ev85 rfl
  have h32 := h32.evo ev85 rfl
  have h33 := h33.evo ev85 rfl
  have h43 := h43.evo ev85 rfl
  have h79 := h79.evo ev85 rfl
  have h80 := h80.evo ev85 rfl
  have h81 := h81.evo ev85 rfl
  have hb30 := hb30.evo ev85 rfl
  have h87 := Ow.nil (α := Int) 3 o83 109 [] w84
  have h88 := Ow.nil (α := Int) 3 o83 110 [] w84
  have h89 := Ow.nil (α := Int) 3 o83 111 [] w84
  refine WL.step0 (OW.storeK0 Island [u76, u77, u78] [u76, u77, u78] ty44 rfl rfl hb86 rfl ⟨(h79.one rfl), (h80.one rfl), (h81.one rfl), trivial⟩ rfl rfl rfl) ?_
  rintro _ w90 ⟨ev91, hb86⟩
  have hE := hE.evo ev91 rfl rfl
  have h31 := h31.evo ev91 rfl
  have h32 := h32.evo ev91 rfl
  have h33 := h33.evo ev91 rfl
  have h43 := h43.evo ev91 rfl
  have h79 := h79.evo ev91 rfl
  have h80 := h80.evo ev91 rfl
  have h81 := h81.evo ev91 rfl
  have hb30 := hb30.evo ev91 rfl
  refine WL.nx hK68 ?_
  refine CW.sr fun K92 hK92 => ?_
  refine WL.stepE (OW.fldAddr (FldOk.at f44_0) rfl) rfl ?_
  refine WL.stepE (OW.loadK (off := 0) (List Int) (u76) ty22 rfl hb86 rfl rfl) rfl ?_
  refine WL.p (.int .i64 a2) rfl rfl ?_
  obtain ⟨y93, q94, hx61⟩ := bindE hx61
  refine WL.step (OW.call Try.call45 rfl (slices_Contains_int_int_ok q94 h79)) rfl ?_
  rintro _ w95 ⟨o99, hn_, rfl⟩
  obtain ⟨o96, ev97, hA98⟩ := adopt (o := o83) (ks := []) (Ks := [[106]]) 112 ([]) [112] hn_ MbOk.nil rfl rfl rfl rfl
  have hE := hE.evo ev97 rfl rfl
  have h31 := h31.evo ev97 rfl
  have h32 := h32.evo ev97 rfl
  have h33 := h33.evo ev97 rfl
  have h43 := h43.evo ev97 rfl
  have h79 := h79.evo ev97 rfl
  have h80 := h80.evo ev97 rfl
  have h81 := h81.evo ev97 rfl
  have hb30 := hb30.evo ev97 rfl
  have hb86 := hb86.evo ev97 rfl
  refine WL.nx hK92 ?_
  refine CW.cond (b := y93) rfl (fun hc100 => ?_) (fun hc100 => ?_)
  ·have hx61 := iteT hc100 hx61
   refine CW.sr fun K101 hK101 => ?_
   refine WL.stepE (OW.loadK0 Island (.agg #[u76, u77, u78]) ty44 rfl hb86 rfl rfl) rfl ?_
   refine WL.step0 (OW.storeK0 Island [u76, u77, u78] [u76, u77, u78] ty44 rfl rfl hb30 rfl ⟨(h79.one rfl), (h80.one rfl), (h81.one rfl), trivial⟩ rfl rfl rfl) ?_
   rintro _ w102 ⟨ev103, hb30⟩
   have hE := hE.evo ev103 rfl rfl
   have h79 := h79.evo ev103 rfl
   have h80 := h80.evo ev103 rfl
   have h81 := h81.evo ev103 rfl
   refine WL.p (.bool true) rfl rfl ?_
   refine WL.nx hK101 ?_
   have e_ := hr62 _ (Option.some.inj hx61).symm
   subst e_
   have hF := elimR hF
   obtain rfl := Option.some.inj hF
   exact CW.rets (vs := [.agg #[u76, u77, u78], .bool true]) Try.results41 ⟨ResIs.bk Island (.agg #[u76, u77, u78]) ty44 rfl hb30 rfl rfl, rfl, trivial⟩ ⟨_, rfl, _, (u76), (u77), (u78), (hE.rn he0 103 [] rfl rfl), rfl, (h79.rn (K' := [103]) rfl), (h80.rn (K' := [103]) rfl), (h81.rn (K' := [103]) rfl)⟩ (fun _ _ h => h)
  ·have hx61 := iteF hc100 hx61
   refine CW.skip ?_
   refine hK67 _ _ ?_
   refine CW.region ?_
   refine WL.p (.int .i64 ((W (x45 + 1)))) rfl rfl ?_
   refine WL.p (.int .i64 ((W (x45 + 1)))) rfl rfl ?_
   refine WL.nil ?_
   exact NK.sb (hk63 _ _ _ (Option.some.inj hx61).symm ⟨o96, (W (x45 + 1)), rfl, rfl, hE, h31, h32, h33, h43, hb30⟩) ⟨rfl, rfl, rfl, rfl, rfl, trivial⟩
 ·have hx61 := iteF hc66 hx61
  refine CW.exit ?_
  exact NK.sb (hJ50 w57 o58 (hr62 _ (Option.some.inj hx61).symm) hE h31 h32 h33 hb30) ⟨rfl, trivial⟩

set_option maxHeartbeats 1000000 in
theorem sync_Leader_ok {a0 : Board} {a1 : Power} {a2 : Int} {r : (Int × Bool)} (hF : sync_Leader a0 a1 a2 = some r) {w0 : World} {p0 : Value} {S0 : Nat → Prop} (g0 : Rv S0 w0 p0 a0) {p1 : Value} {S1 : Nat → Prop} (g1 : Rv S1 w0 p1 a1) :
    Calls Try.prog 15 #[p0, p1, .int .i64 a2] w0 (Ret fun v w' => ∃ (oc : Cls), En w0 (entM w0 [] [S0, S1]) oc w' ∧ v = .tuple #[.int .i64 r.1, .bool r.2]) := by
 obtain ⟨e0, he0⟩ : ∃ e0, e0 = entM w0 [] [S0, S1] := ⟨_, rfl⟩
 have hE := En.refl w0 e0
 have g0 := g0.argM he0 0 (K := [40]) rfl (nosep rfl) rfl
 have g1 := g1.argM he0 1 (K := [40, 41]) rfl (nosep rfl) rfl
 obtain ⟨u1, u2, u3, rfl, h4, h5, h6⟩ := op29 g0
 obtain ⟨u7, u8, u9, u10, rfl, h11, h12, h13, h14⟩ := op34 g1
 rw [sync_Leader] at hF
 refine enter (l := [.agg #[.int .i64 a0.Buses, u1, u2, u3, .int .i64 a0.Phase, .int .i64 a0.Frequency], .agg #[u7, u8, u9, u10], .int .i64 a2]) Try.func15 rfl Try.ntmps15 rfl ?_
 refine CW.sub (L' := [(0, .agg #[.int .i64 a0.Buses, u1, u2, u3, .int .i64 a0.Phase, .int .i64 a0.Frequency]), (1, .agg #[u7, u8, u9, u10]), (2, .int .i64 a2)]) ⟨rfl, rfl, rfl, trivial⟩ ?_
 refine CW.sr fun K15 hK15 => ?_
 refine WL.step (OW.boxK (o := e0) 100 [.int .i64 a0.Buses, u1, u2, u3, .int .i64 a0.Phase, .int .i64 a0.Frequency] rfl rfl) rfl ?_
 rintro _ w18 ⟨pa16, o17, rfl, ev19, hb20⟩
 have hE := hE.evo ev19 rfl rfl
 refine WL.step (OW.boxK (o := o17) 101 [u7, u8, u9, u10] rfl rfl) rfl ?_
 rintro _ w23 ⟨pa21, o22, rfl, ev24, hb25⟩
 have hE := hE.evo ev24 rfl rfl
 have hb20 := hb20.evo ev24 rfl
 refine WL.p (.int .i64 0) rfl rfl ?_
 refine WL.p (.bool false) rfl rfl ?_
 refine WL.nx hK15 ?_
 refine CW.sr fun K26 hK26 => ?_
 refine WL.stepE (OW.loadK0 Board (.agg #[.int .i64 a0.Buses, u1, u2, u3, .int .i64 a0.Phase, .int .i64 a0.Frequency]) ty29 rfl hb20 rfl rfl) rfl ?_
 refine WL.stepE (OW.loadK0 Power (.agg #[u7, u8, u9, u10]) ty34 rfl hb25 rfl rfl) rfl ?_
 refine WL.p (.int .i64 a2) rfl rfl ?_
 obtain ⟨⟨y27, y28⟩, q29, hF⟩ := bindE hF
 dsimp only at hF
 refine WL.step (OW.call Try.call41 rfl (board_Of_ok q29 (mk29 (x := a0) (h4.baseM hE rfl) (h5.baseM hE rfl) (h6.baseM hE rfl)) (mk34 (x := a1) (h11.baseM hE rfl) (h12.baseM hE rfl) (h13.baseM hE rfl) (h14.baseM hE rfl)))) rfl ?_
 rintro _ w30 ⟨o34, u36, u38, u40, hn_, rfl, h35, h37, h39⟩
 obtain ⟨o31, ev32, hA33⟩ := adopt (o := o22) (ks := []) (Ks := [[40], [40, 41]]) 102 ([]) [102] hn_ MbOk.nil rfl rfl rfl rfl
 have h35 := h35.ad (K' := [102]) hA33 rfl
 have h37 := h37.ad (K' := [102]) hA33 rfl
 have h39 := h39.ad (K' := [102]) hA33 rfl
 have hE := hE.evo ev32 rfl rfl
 refine WL.p (.tuple #[.agg #[u36, u38, u40], .bool y28]) rfl rfl ?_
 refine WL.p (.agg #[u36, u38, u40]) rfl rfl ?_
 refine WL.p (.bool y28) rfl rfl ?_
 refine WL.step (OW.allocK (o := o31) Island 103 [.slice none 0 0, .slice none 0 0, .slice none 0 0] ty44 rfl) rfl ?_
 rintro _ w43 ⟨pa41, o42, rfl, ev44, hb45⟩
 have hE := hE.evo ev44 rfl rfl
 have h35 := h35.evo ev44 rfl
 have h37 := h37.evo ev44 rfl
 have h39 := h39.evo ev44 rfl
 have h46 := Ow.nil (α := Int) 3 o42 104 [] w43
 have h47 := Ow.nil (α := Int) 3 o42 105 [] w43
 have h48 := Ow.nil (α := Int) 3 o42 106 [] w43
 refine WL.step0 (OW.storeK0 Island [u36, u38, u40] [u36, u38, u40] ty44 rfl rfl hb45 rfl ⟨(h35.one rfl), (h37.one rfl), (h39.one rfl), trivial⟩ rfl rfl rfl) ?_
 rintro _ w49 ⟨ev50, hb45⟩
 have hE := hE.evo ev50 rfl rfl
 have h35 := h35.evo ev50 rfl
 have h37 := h37.evo ev50 rfl
 have h39 := h39.evo ev50 rfl
 refine WL.p (.bool y28) rfl rfl ?_
 refine WL.nx hK26 ?_
 refine CW.seq fun K51 hK51 => ?_
 refine CW.sr fun K52 hK52 => ?_
 refine WL.stepE (OW.fldAddr (FldOk.at f44_1) rfl) rfl ?_
 refine WL.stepE (OW.loadK (off := 1) (List Int) (u38) ty22 rfl hb45 rfl rfl) rfl ?_
 refine WL.stepE (OW.len Try.underlying22 rfl h37) rfl ?_
 refine WL.p (.bool ((((len y27.Sources) == 0)))) rfl rfl ?_
 refine WL.nx hK52 ?_
 refine CW.cond (b := (((len y27.Sources) == 0))) rfl (fun hc53 => ?_) (fun hc53 => ?_)
 ·have hF := iteT hc53 hF
  refine CW.sr fun K54 hK54 => ?_
  refine WL.p (.int .i64 0) rfl rfl ?_
  refine WL.p (.bool false) rfl rfl ?_
  refine WL.nx hK54 ?_
  obtain rfl := Option.some.inj hF
  exact CW.rets (vs := [.int .i64 0, .bool false]) Try.results15 ⟨rfl, rfl, trivial⟩ ⟨_, rfl, _, (hE.rn he0 100 [] rfl rfl), rfl⟩ (fun _ _ h => h)
 ·have hF := iteF hc53 hF
  refine CW.skip ?_
  refine hK51 _ _ ?_
  refine CW.sr fun K55 hK55 => ?_
  refine WL.stepE (OW.fldAddr (FldOk.at f44_1) rfl) rfl ?_
  refine WL.stepE (OW.loadK (off := 1) (List Int) (u38) ty22 rfl hb45 rfl rfl) rfl ?_
  obtain ⟨y56, q60, hF⟩ := bindE hF
  refine WL.stepP (OW.indexAddr Try.underlying22 ty3 rfl h37 rfl q60) rfl fun _ ⟨pa57, hv_, hp58, he59⟩ => ?_
  subst hv_
  refine WL.stepE (OW.loadI ty3 rfl hp58) rfl ?_
  refine WL.p (.int .i64 y56) rfl rfl ?_
  refine WL.p (.bool true) rfl rfl ?_
  refine WL.nx hK55 ?_
  obtain rfl := Option.some.inj hF
  exact CW.rets (vs := [.int .i64 y56, .bool true]) Try.results15 ⟨rfl, rfl, trivial⟩ ⟨_, rfl, _, (hE.rn he0 100 [] rfl rfl), rfl⟩ (fun _ _ h => h)

set_option maxHeartbeats 1000000 in
theorem board_Connected_ok {a0 : Board} {a1 : Power} {a2 : Int} {r : (Int × Bool)} (hF : board_Connected a0 a1 a2 = some r) {w0 : World} {p0 : Value} {S0 : Nat → Prop} (g0 : Rv S0 w0 p0 a0) {p1 : Value} {S1 : Nat → Prop} (g1 : Rv S1 w0 p1 a1) :
    Calls Try.prog 55 #[p0, p1, .int .i64 a2] w0 (Ret fun v w' => ∃ (oc : Cls), En w0 (entM w0 [] [S0, S1]) oc w' ∧ v = .tuple #[.int .i64 r.1, .bool r.2]) := by
 obtain ⟨e0, he0⟩ : ∃ e0, e0 = entM w0 [] [S0, S1] := ⟨_, rfl⟩
 have hE := En.refl w0 e0
 have g0 := g0.argM he0 0 (K := [40]) rfl (nosep rfl) rfl
 have g1 := g1.argM he0 1 (K := [40, 41]) rfl (nosep rfl) rfl
 obtain ⟨u1, u2, u3, rfl, h4, h5, h6⟩ := op29 g0
 obtain ⟨u7, u8, u9, u10, rfl, h11, h12, h13, h14⟩ := op34 g1
 rw [board_Connected] at hF
 refine enter (l := [.agg #[.int .i64 a0.Buses, u1, u2, u3, .int .i64 a0.Phase, .int .i64 a0.Frequency], .agg #[u7, u8, u9, u10], .int .i64 a2]) Try.func55 rfl Try.ntmps55 rfl ?_
 refine CW.sub (L' := [(0, .agg #[.int .i64 a0.Buses, u1, u2, u3, .int .i64 a0.Phase, .int .i64 a0.Frequency]), (1, .agg #[u7, u8, u9, u10]), (2, .int .i64 a2)]) ⟨rfl, rfl, rfl, trivial⟩ ?_
 refine CW.sr fun K15 hK15 => ?_
 refine WL.step (OW.boxK (o := e0) 100 [.int .i64 a0.Buses, u1, u2, u3, .int .i64 a0.Phase, .int .i64 a0.Frequency] rfl rfl) rfl ?_
 rintro _ w18 ⟨pa16, o17, rfl, ev19, hb20⟩
 have hE := hE.evo ev19 rfl rfl
 refine WL.step (OW.boxK (o := o17) 101 [u7, u8, u9, u10] rfl rfl) rfl ?_
 rintro _ w23 ⟨pa21, o22, rfl, ev24, hb25⟩
 have hE := hE.evo ev24 rfl rfl
 have hb20 := hb20.evo ev24 rfl
 refine WL.p (.int .i64 0) rfl rfl ?_
 refine WL.p (.bool false) rfl rfl ?_
 refine WL.nx hK15 ?_
 refine CW.seq fun K26 hK26 => ?_
 refine CW.sr fun K27 hK27 => ?_
 refine WL.stepE (OW.loadK0 Board (.agg #[.int .i64 a0.Buses, u1, u2, u3, .int .i64 a0.Phase, .int .i64 a0.Frequency]) ty29 rfl hb20 rfl rfl) rfl ?_
 refine WL.stepE (OW.loadK0 Power (.agg #[u7, u8, u9, u10]) ty34 rfl hb25 rfl rfl) rfl ?_
 obtain ⟨y28, q29, hF⟩ := bindE hF
 refine WL.step (OW.call Try.call34 rfl (board_State_ok q29 (mk29 (x := a0) (h4.baseM hE rfl) (h5.baseM hE rfl) (h6.baseM hE rfl)) (mk34 (x := a1) (h11.baseM hE rfl) (h12.baseM hE rfl) (h13.baseM hE rfl) (h14.baseM hE rfl)))) rfl ?_
 rintro _ w30 ⟨o34, hn_, rfl⟩
 obtain ⟨o31, ev32, hA33⟩ := adopt (o := o22) (ks := []) (Ks := [[40], [40, 41]]) 102 ([]) [102] hn_ MbOk.nil rfl rfl rfl rfl
 have hE := hE.evo ev32 rfl rfl
 have hb20 := hb20.evo ev32 rfl
 have hb25 := hb25.evo ev32 rfl
 refine WL.p (.bool (((y28 != 0)))) rfl rfl ?_
 refine WL.nx hK27 ?_
 refine CW.cond (b := ((y28 != 0))) rfl (fun hc35 => ?_) (fun hc35 => ?_)
 ·have hF := iteT hc35 hF
  refine CW.sr fun K36 hK36 => ?_
  refine WL.p (.int .i64 0) rfl rfl ?_
  refine WL.p (.bool false) rfl rfl ?_
  refine WL.nx hK36 ?_
  obtain rfl := Option.some.inj hF
  exact CW.rets (vs := [.int .i64 0, .bool false]) Try.results55 ⟨rfl, rfl, trivial⟩ ⟨_, rfl, _, (hE.rn he0 100 [] rfl rfl), rfl⟩ (fun _ _ h => h)
 ·have hF := iteF hc35 hF
  refine CW.skip ?_
  refine hK26 _ _ ?_
  refine CW.sr fun K37 hK37 => ?_
  refine WL.stepE (OW.loadK0 Board (.agg #[.int .i64 a0.Buses, u1, u2, u3, .int .i64 a0.Phase, .int .i64 a0.Frequency]) ty29 rfl hb20 rfl rfl) rfl ?_
  refine WL.stepE (OW.loadK0 Power (.agg #[u7, u8, u9, u10]) ty34 rfl hb25 rfl rfl) rfl ?_
  refine WL.p (.int .i64 a2) rfl rfl ?_
  obtain ⟨⟨y38, y39⟩, q40, hF⟩ := bindE hF
  dsimp only at hF
  refine WL.step (OW.call Try.call70 rfl (board_connected_ok q40 (mk29 (x := a0) (h4.baseM hE rfl) (h5.baseM hE rfl) (h6.baseM hE rfl)) (mk34 (x := a1) (h11.baseM hE rfl) (h12.baseM hE rfl) (h13.baseM hE rfl) (h14.baseM hE rfl)))) rfl ?_
  rintro _ w41 ⟨o45, hn_, rfl⟩
  obtain ⟨o42, ev43, hA44⟩ := adopt (o := o31) (ks := []) (Ks := [[40], [40, 41]]) 103 ([]) [103] hn_ MbOk.nil rfl rfl rfl rfl
  have hE := hE.evo ev43 rfl rfl
  refine WL.p (.int .i64 y38) rfl rfl ?_
  refine WL.p (.bool y39) rfl rfl ?_
  refine WL.p (.int .i64 y38) rfl rfl ?_
  refine WL.p (.bool y39) rfl rfl ?_
  refine WL.nx hK37 ?_
  obtain rfl := Option.some.inj hF
  exact CW.rets (vs := [.int .i64 y38, .bool y39]) Try.results55 ⟨rfl, rfl, trivial⟩ ⟨_, rfl, _, (hE.rn he0 100 [] rfl rfl), rfl⟩ (fun _ _ h => h)

set_option maxHeartbeats 1000000 in
theorem sync_set_ok {a0 : Power} {a1 : (List Int)} {a2 : Running} {r : (List Running)} (hF : sync_set a0 a1 a2 = some r) {w0 : World} {d0_1 : Nat} {u0_0 : Value} {S0_0 : Nat → Prop} (g0_0 : Rv S0_0 w0 u0_0 a0.Closed) (n0_0 : ∀ b, b < w0.heap.size → S0_0 b → b ∉ [d0_1]) {u0_1 : Value} {S0_1 : Nat → Prop} (g0_1 : OwG 48 d0_1 S0_1 w0 u0_1 a0.Sources) {u0_2 : Value} {S0_2 : Nat → Prop} (g0_2 : Rv S0_2 w0 u0_2 a0.Limits) (n0_2 : ∀ b, b < w0.heap.size → S0_2 b → b ∉ [d0_1]) {u0_3 : Value} {S0_3 : Nat → Prop} (g0_3 : Rv S0_3 w0 u0_3 a0.Broken) (n0_3 : ∀ b, b < w0.heap.size → S0_3 b → b ∉ [d0_1]) {p1 : Value} {S1 : Nat → Prop} (g1 : Rv S1 w0 p1 a1) (n1 : ∀ b, b < w0.heap.size → S1 b → b ∉ [d0_1]) {p2 : Value} {S2 : Nat → Prop} (g2 : Rv S2 w0 p2 a2) (n2 : ∀ b, b < w0.heap.size → S2 b → b ∉ [d0_1]) (hmb : [d0_1].Nodup) :
    Calls Try.prog 37 #[.agg #[u0_0, u0_1, u0_2, u0_3], p1, p2] w0 (Ret fun v w' => ∃ (oc : Cls), En w0 (entM w0 [d0_1] [S0_0, S0_2, S0_3, S1, S2]) oc w' ∧ v = .tuple #[] ∧ Ow 48 oc 1 [] w' u0_1 r) := by
 obtain ⟨e0, he0⟩ : ∃ e0, e0 = entM w0 [d0_1] [S0_0, S0_2, S0_3, S1, S2] := ⟨_, rfl⟩
 have hE := En.refl w0 e0
 have g0_0 := g0_0.argM he0 0 (K := [40]) rfl n0_0 rfl
 have g0_1 := g0_1.inF he0 hmb 0 rfl
 have g0_2 := g0_2.argM he0 1 (K := [40, 41]) rfl n0_2 rfl
 have g0_3 := g0_3.argM he0 2 (K := [40, 41, 42]) rfl n0_3 rfl
 have g1 := g1.argM he0 3 (K := [40, 41, 42, 43]) rfl n1 rfl
 have g2 := g2.argM he0 4 (K := [40, 41, 42, 43, 44]) rfl n2 rfl
 obtain rfl := op48 g2
 rw [sync_set] at hF
 refine enter (l := [.agg #[u0_0, u0_1, u0_2, u0_3], p1, .agg #[.int .i64 a2.State, .int .i64 a2.Since, .int .i64 a2.Frequency, .int .i64 a2.Phase]]) Try.func37 rfl Try.ntmps37 rfl ?_
 refine CW.sub (L' := [(0, .agg #[u0_0, u0_1, u0_2, u0_3]), (1, p1), (2, .agg #[.int .i64 a2.State, .int .i64 a2.Since, .int .i64 a2.Frequency, .int .i64 a2.Phase])]) ⟨rfl, rfl, rfl, trivial⟩ ?_
 refine CW.tail fun K_ hK_ => ?_
 refine CW.sr fun K1 hK1 => ?_
 refine WL.step (OW.boxK (o := e0) 100 [u0_0, u0_1, u0_2, u0_3] rfl rfl) rfl ?_
 rintro _ w4 ⟨pa2, o3, rfl, ev5, hb6⟩
 have hE := hE.evo ev5 rfl rfl
 have g0_1 := g0_1.evo ev5 rfl
 refine WL.step (OW.boxK (o := o3) 101 [.int .i64 a2.State, .int .i64 a2.Since, .int .i64 a2.Frequency, .int .i64 a2.Phase] rfl rfl) rfl ?_
 rintro _ w9 ⟨pa7, o8, rfl, ev10, hb11⟩
 have hE := hE.evo ev10 rfl rfl
 have g0_1 := g0_1.evo ev10 rfl
 have hb6 := hb6.evo ev10 rfl
 refine WL.nx hK1 ?_
 refine CW.sr fun K12 hK12 => ?_
 refine WL.p p1 rfl rfl ?_
 refine WL.stepE (OW.len Try.underlying22 rfl (g1.baseM hE rfl)) rfl ?_
 refine WL.p (.int .i64 0) rfl rfl ?_
 refine WL.nx hK12 ?_
 refine CW.block ?_
 obtain ⟨r21, hl20, hF⟩ := bindE hF
 have hJ24 : ∀ (x17 : (List Running)) (w22 : World) (o23 : Cls), x17 = r21 → En w0 e0 o23 w22 → Ow 48 o23 1 [] w22 u0_1 x17 → NK 29 K_ [(0, .agg #[u0_0, u0_1, u0_2, u0_3])] w22 := by
  intro x17 w22 o23  e_ hE h19
  subst e_
  try dsimp only at hF
  obtain rfl := Option.some.inj hF
  exact hK_ _ _ (NK.fall Try.results37 ⟨_, rfl, _, (hE.rn he0 100 [] rfl rfl), rfl, (h19.rn (c' := 1) (K' := []) rfl rfl)⟩)
 refine CW.sub (L' := [(0, .agg #[u0_0, u0_1, u0_2, u0_3]), (3, .pointer (some pa2)), (5, .pointer (some pa7)), (8, p1), (9, .int .i64 (len a1)), (10, .int .i64 0)]) ⟨rfl, rfl, rfl, rfl, rfl, rfl, trivial⟩ ?_
 refine CW.loop (sync_set_L1 a1 a2) (fun s_ L_ w25 => ∃ (o26 : Cls) (x13 : (List Running)) (x16 : Int), (x13, x16) = s_ ∧ L_ = [(0, .agg #[u0_0, u0_1, u0_2, u0_3]), (3, .pointer (some pa2)), (5, .pointer (some pa7)), (8, p1), (9, .int .i64 (len a1)), (10, .int .i64 x16)] ∧ En w0 e0 o26 w25 ∧ Ow 48 o26 1 [] w25 u0_1 x13 ∧ Bk o26 100 w25 pa2 [u0_0, u0_1, u0_2, u0_3] ∧ Bk o26 101 w25 pa7 [.int .i64 a2.State, .int .i64 a2.Since, .int .i64 a2.Frequency, .int .i64 a2.Phase]) hl20 ?_ ?_
 ·exact ⟨o8, a0.Sources, 0, rfl, rfl, hE, g0_1, hb6, hb11⟩
 intro K27 s_ L_ w25 hi_ x28 hx29 hr30 hk31
 obtain ⟨o26, x13, x16, rfl, rfl, hE, h15, hb6, hb11⟩ := hi_
 rw [sync_set_L1] at hx29
 refine CW.sr fun K32 hK32 => ?_
 refine WL.p (.bool ((decide (x16 < (len a1))))) rfl rfl ?_
 refine WL.nx hK32 ?_
 refine CW.seq fun K33 hK33 => ?_
 refine CW.cond (b := (decide (x16 < (len a1)))) rfl (fun hc34 => ?_) (fun hc34 => ?_)
 ·have hx29 := iteT hc34 hx29
  refine CW.skip ?_
  refine hK33 _ _ ?_
  refine CW.seq fun K35 hK35 => ?_
  refine CW.block ?_
  refine CW.sr fun K36 hK36 => ?_
  obtain ⟨y37, q41, hx29⟩ := bindE hx29
  refine WL.stepP (OW.indexAddr Try.underlying22 ty3 rfl (g1.baseM hE rfl) rfl q41) rfl fun _ ⟨pa38, hv_, hp39, he40⟩ => ?_
  subst hv_
  refine WL.stepE (OW.loadI ty3 rfl hp39) rfl ?_
  refine WL.p (.int .i64 y37) rfl rfl ?_
  refine WL.nx hK36 ?_
  obtain ⟨y42, q46, hx29⟩ := bindE hx29
  obtain ⟨y47, q50, hx29⟩ := bindE hx29
  obtain ⟨y52, q56, hx29⟩ := bindE hx29
  obtain ⟨y57, q60, hx29⟩ := bindE hx29
  have ev_ := Evo.drew o26 w25
  refine CW.anyS (N := [1]) hmix [sOw none (some 12) [] 48 1 [] (vk u0_1) x13, sBk none none [] 100 (vk pa2) (vk ([u0_0, u0_1, u0_2, u0_3])), sBk none none [] 101 (vk pa7) (vk ([.int .i64 a2.State, .int .i64 a2.Since, .int .i64 a2.Frequency, .int .i64 a2.Phase])), sPo (some 10) (some 12) [10] 1 [] (vp 0) y42, sEp (some 10) none [10] (vk u0_1) 4 y37 (vp 0), sOw (some 12) (some 15) [] 48 1 [] (vk u0_1) y47, sPo (some 13) (some 15) [13] 1 [] (vp 0) y52, sEp (some 13) none [13] (vk u0_1) 4 y37 (vp 0), sOw (some 15) none [] 48 1 [] (vk u0_1) y57] [⟨[], [], [], [], vk (.pointer (some (pa2.add 1))), false⟩, ⟨[], [1], [0], [], vk u0_1, false⟩, ⟨[], [], [], [], vk (.int .i64 y37), false⟩, ⟨[], [], [], [], vk (.pointer (some (pa2.add 1))), false⟩, ⟨[], [1], [3], [], vk u0_1, false⟩, ⟨[], [], [], [], vk (.int .i64 y37), false⟩, ⟨[], [], [], [], vk (.pointer (some (pa7.add 2))), false⟩, ⟨[], [2], [6], [], vk (.int .i64 a2.Frequency), false⟩, ⟨[], [], [], [], vk (.pointer (some (pa7.add 3))), false⟩, ⟨[], [2], [8], [], vk (.int .i64 a2.Phase), false⟩, ⟨[], [0], [0, 1, 2, 6, 7], [10], vq 0, false⟩, ⟨[], [], [0, 1, 2, 6, 7, 10], [10], fun x_ => .pointer (some ((pOf (x_.getD 0 undef)).add 2)), false⟩, ⟨[1], [0, 4], [0, 1, 2, 6, 7, 10, 11], [], vk undef, false⟩, ⟨[], [5], rg 0 13, [13], vq 0, false⟩, ⟨[], [], rg 0 14, [13], fun x_ => .pointer (some ((pOf (x_.getD 0 undef)).add 3)), false⟩, ⟨[1], [5, 7], rg 0 15, [], vk undef, false⟩] [1] hE rfl (by kernel_rfl) (by kernel_rfl) ⟨h15.evo ev_ rfl, hb6.evo ev_ rfl, hb11.evo ev_ rfl, trivial⟩ ⟨?_, ?_, Ob.pv rfl rfl (fun _ => rfl) rfl (fun _ _ _ => trivial), ?_, ?_, Ob.pv rfl rfl (fun _ => rfl) rfl (fun _ _ _ => trivial), ?_, ?_, ?_, ?_, ?_, ?_, ?_, ?_, ?_, ?_, trivial⟩ ?_
  ·intro vs62 o_ w_ hE 
   exact OW.q [(3, .pointer (some pa2))] ⟨rfl, trivial⟩ (OW.fldAddr (FldOk.at f34_1) rfl) (er rfl trivial)
  ·intro vs62 o_ w_ hE hb6
   have hb6 := tBk hb6
   exact OW.q [(14, .pointer (some (pa2.add 1)))] ⟨rfl, trivial⟩ (OW.loadK (off := 1) (List Running) (u0_1) ty31 rfl hb6 rfl rfl) (er rfl trivial)
  ·intro vs62 o_ w_ hE 
   exact OW.q [(3, .pointer (some pa2))] ⟨rfl, trivial⟩ (OW.fldAddr (FldOk.at f34_1) rfl) (er rfl trivial)
  ·intro vs62 o_ w_ hE hb6
   have hb6 := tBk hb6
   exact OW.q [(17, .pointer (some (pa2.add 1)))] ⟨rfl, trivial⟩ (OW.loadK (off := 1) (List Running) (u0_1) ty31 rfl hb6 rfl rfl) (er rfl trivial)
  ·intro vs62 o_ w_ hE 
   exact OW.q [(5, .pointer (some pa7))] ⟨rfl, trivial⟩ (OW.fldAddr (FldOk.at f48_2) rfl) (er rfl trivial)
  ·intro vs62 o_ w_ hE hb11
   have hb11 := tBk hb11
   exact OW.q [(20, .pointer (some (pa7.add 2)))] ⟨rfl, trivial⟩ (OW.loadK (off := 2) Int (.int .i64 a2.Frequency) ty3 rfl hb11 rfl rfl) (er rfl trivial)
  ·intro vs62 o_ w_ hE 
   exact OW.q [(5, .pointer (some pa7))] ⟨rfl, trivial⟩ (OW.fldAddr (FldOk.at f48_3) rfl) (er rfl trivial)
  ·intro vs62 o_ w_ hE hb11
   have hb11 := tBk hb11
   exact OW.q [(22, .pointer (some (pa7.add 3)))] ⟨rfl, trivial⟩ (OW.loadK (off := 3) Int (.int .i64 a2.Phase) ty3 rfl hb11 rfl rfl) (er rfl trivial)
  ·intro vs62 o_ w_ hE h15
   have h15 := tOw h15
   refine OW.r [(15, u0_1), (16, .int .i64 y37)] ⟨rfl, rfl, trivial⟩ (OW.indexAddrO Try.underlying31 ty48 rfl h15 rfl q46) ?_
   rintro _ _ ⟨rfl, ⟨pa43, hv_, hp44, he45⟩⟩
   subst hv_
   exact ⟨_, Evo.refl _ _ _ _, rfl, hp44, he45, trivial⟩
  ·intro vs62 o_ w_ hE 
   exact OW.q [(24, .pointer (some (pOf (vs62 10))))] ⟨rfl, trivial⟩ (OW.fldAddr (FldOk.at f48_2) rfl) (er rfl trivial)
  ·intro vs62 o_ w_ hE h15 he45
   have h15 := tOw h15
   have he45 := tEp he45
   refine OW.r [(21, .int .i64 a2.Frequency), (25, .pointer (some ((pOf (vs62 10)).add 2)))] ⟨rfl, rfl, trivial⟩ (OW.storeElemField ty3 f48_2 s48_2 rfl he45 h15 rfl (rv_int.2 rfl) q46 q50 rfl) ?_
   rintro _ w48 ⟨ev49, h51⟩
   exact ⟨o_, ev49.sub rfl rfl, trivial, h51, trivial⟩
  ·intro vs62 o_ w_ hE h51
   have h51 := tOw h51
   refine OW.r [(18, u0_1), (19, .int .i64 y37)] ⟨rfl, rfl, trivial⟩ (OW.indexAddrO Try.underlying31 ty48 rfl h51 rfl q56) ?_
   rintro _ _ ⟨rfl, ⟨pa53, hv_, hp54, he55⟩⟩
   subst hv_
   exact ⟨_, Evo.refl _ _ _ _, rfl, hp54, he55, trivial⟩
  ·intro vs62 o_ w_ hE 
   exact OW.q [(26, .pointer (some (pOf (vs62 13))))] ⟨rfl, trivial⟩ (OW.fldAddr (FldOk.at f48_3) rfl) (er rfl trivial)
  ·intro vs62 o_ w_ hE h51 he55
   have h51 := tOw h51
   have he55 := tEp he55
   refine OW.r [(23, .int .i64 a2.Phase), (27, .pointer (some ((pOf (vs62 13)).add 3)))] ⟨rfl, rfl, trivial⟩ (OW.storeElemField ty3 f48_3 s48_3 rfl he55 h51 rfl (rv_int.2 rfl) q56 q60 rfl) ?_
   rintro _ w58 ⟨ev59, h61⟩
   exact ⟨o_, ev59.sub rfl rfl, trivial, h61, trivial⟩
  ·intro vs62 o64 w63 hE hb6 hb11 he45 he55 h61
   obtain ⟨hE, evT_⟩ := hE
   have hb6 : Bk o64 100 w63 pa2 [u0_0, u0_1, u0_2, u0_3] := hb6
   have hb11 : Bk o64 101 w63 pa7 [.int .i64 a2.State, .int .i64 a2.Since, .int .i64 a2.Frequency, .int .i64 a2.Phase] := hb11
   have he45 : EPtr u0_1 4 y37 (pOf (vs62 10)) := he45
   have he55 : EPtr u0_1 4 y37 (pOf (vs62 13)) := he55
   have h61 : Ow 48 o64 1 [] w63 u0_1 y57 := h61
   refine hK35 _ _ ?_
   refine CW.region ?_
   refine WL.p (.int .i64 ((W (x16 + 1)))) rfl rfl ?_
   refine WL.p (.int .i64 ((W (x16 + 1)))) rfl rfl ?_
   refine WL.nil ?_
   exact NK.sb (hk31 _ _ _ (Option.some.inj hx29).symm ⟨o64, y57, (W (x16 + 1)), rfl, rfl, hE, h61, hb6, hb11⟩) ⟨rfl, rfl, rfl, rfl, rfl, rfl, trivial⟩
 ·have hx29 := iteF hc34 hx29
  refine CW.exit ?_
  exact NK.sb (hJ24 x13 w25 o26 (hr30 _ (Option.some.inj hx29).symm) hE h15) ⟨rfl, trivial⟩

end Go.Proofs.Ytdfkfohpgakihaa
