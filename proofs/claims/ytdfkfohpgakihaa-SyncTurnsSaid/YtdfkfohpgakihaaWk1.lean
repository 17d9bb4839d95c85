/- Walks. Written by a program (wip/gen). -/
import Derived.Test.YtdfkfohpgakihaaHw
set_option linter.unusedVariables false
set_option linter.unusedSimpArgs false
namespace Go.Proofs.Ytdfkfohpgakihaa
open Go Go.RowKit Dp

set_option maxRecDepth 100000

set_option maxHeartbeats 1000000 in
theorem dynposlaw16_pair_ok {r : (Board × Power)} (hF : dynposlaw16_pair  = some r) {w0 : World}  :
    Calls Try.prog 18 #[] w0 (Ret fun v w' => ∃ (oc : Cls) (x0_1 : Value) (x0_2 : Value) (x0_3 : Value) (x1_0 : Value) (x1_1 : Value) (x1_2 : Value) (x1_3 : Value), En w0 (entM w0 [] []) oc w' ∧ v = .tuple #[.agg #[.int .i64 r.1.Buses, x0_1, x0_2, x0_3, .int .i64 r.1.Phase, .int .i64 r.1.Frequency], .agg #[x1_0, x1_1, x1_2, x1_3]] ∧ Ow 59 oc 101 [] w' x0_1 r.1.Breakers ∧ Ow 76 oc 102 [] w' x0_2 r.1.Sources ∧ Ow 79 oc 103 [] w' x0_3 r.1.Consumers ∧ Ow 4 oc 106 [] w' x1_0 r.2.Closed ∧ Ow 48 oc 107 [] w' x1_1 r.2.Sources ∧ Ow 3 oc 108 [] w' x1_2 r.2.Limits ∧ Ow 65 oc 109 [] w' x1_3 r.2.Broken) := by
 obtain ⟨e0, he0⟩ : ∃ e0, e0 = entM w0 [] [] := ⟨_, rfl⟩
 have hE := En.refl w0 e0
 rw [dynposlaw16_pair] at hF
 refine enter (l := []) Try.func18 rfl Try.ntmps18 rfl ?_
 refine CW.sr fun K1 hK1 => ?_
 refine WL.step (OW.allocK (o := e0) Board 100 [.int .i64 0, .slice none 0 0, .slice none 0 0, .slice none 0 0, .int .i64 0, .int .i64 0] ty29 rfl) rfl ?_
 rintro _ w4 ⟨pa2, o3, rfl, ev5, hb6⟩
 have hE := hE.evo ev5 rfl rfl
 have h7 := Ow.nil (α := Breaker) 59 o3 101 [] w4
 have h8 := Ow.nil (α := Source) 76 o3 102 [] w4
 have h9 := Ow.nil (α := Consumer) 79 o3 103 [] w4
 refine WL.step (OW.allocK (o := o3) Power 104 [.slice none 0 0, .slice none 0 0, .slice none 0 0, .slice none 0 0] ty34 rfl) rfl ?_
 rintro _ w12 ⟨pa10, o11, rfl, ev13, hb14⟩
 have hE := hE.evo ev13 rfl rfl
 have h7 := h7.evo ev13 rfl
 have h8 := h8.evo ev13 rfl
 have h9 := h9.evo ev13 rfl
 have hb6 := hb6.evo ev13 rfl
 have h15 := Ow.nil (α := Bool) 4 o11 105 [] w12
 have h16 := Ow.nil (α := Running) 48 o11 106 [] w12
 have h17 := Ow.nil (α := Int) 3 o11 107 [] w12
 have h18 := Ow.nil (α := Part) 65 o11 108 [] w12
 refine WL.nx hK1 ?_
 refine CW.sr fun K19 hK19 => ?_
 refine WL.stepE (OW.buildK Breaker [(0, [.int .i64 1]), (1, [.int .i64 0]), (2, [.int .i64 1])] [.int .i64 1, .int .i64 0, .int .i64 1] st59 ty59 rfl ⟨rfl, rfl, rfl, rfl, rfl, rfl, trivial⟩ rfl) rfl ?_
 refine WL.stepE (OW.buildK Breaker [(0, [.int .i64 2]), (1, [.int .i64 0]), (2, [.int .i64 0])] [.int .i64 2, .int .i64 0, .int .i64 0] st59 ty59 rfl ⟨rfl, rfl, rfl, rfl, rfl, rfl, trivial⟩ rfl) rfl ?_
 refine WL.stepE (OW.buildK Breaker [(0, [.int .i64 2]), (1, [.int .i64 1]), (2, [.int .i64 1])] [.int .i64 2, .int .i64 1, .int .i64 1] st59 ty59 rfl ⟨rfl, rfl, rfl, rfl, rfl, rfl, trivial⟩ rfl) rfl ?_
 refine WL.step (OW.buildSlice (o := o11) (k := 109) (K := []) (xs := ([(⟨1, 0, 1⟩ : Breaker), (⟨2, 0, 0⟩ : Breaker), (⟨2, 1, 1⟩ : Breaker)] : List Breaker)) Try.underlying25 ty59 rfl ⟨(mk59 (x := (⟨1, 0, 1⟩ : Breaker))), (mk59 (x := (⟨2, 0, 0⟩ : Breaker))), (mk59 (x := (⟨2, 1, 1⟩ : Breaker))), trivial⟩ rfl rfl) rfl ?_
 rintro v20 w21 ⟨o22, ev23, h24⟩
 have hE := hE.evo ev23 rfl rfl
 have h15 := h15.evo ev23 rfl
 have h16 := h16.evo ev23 rfl
 have h17 := h17.evo ev23 rfl
 have h18 := h18.evo ev23 rfl
 have h7 := h7.evo ev23 rfl
 have h8 := h8.evo ev23 rfl
 have h9 := h9.evo ev23 rfl
 have hb14 := hb14.evo ev23 rfl
 have hb6 := hb6.evo ev23 rfl
 refine WL.stepE (OW.buildK Source [(0, [.int .i64 100])] [.int .i64 100, .int .i64 0, .int .i64 0] st76 ty76 rfl ⟨rfl, rfl, trivial⟩ rfl) rfl ?_
 refine WL.stepE (OW.buildK Source [(0, [.int .i64 100])] [.int .i64 100, .int .i64 0, .int .i64 0] st76 ty76 rfl ⟨rfl, rfl, trivial⟩ rfl) rfl ?_
 refine WL.step (OW.buildSlice (o := o22) (k := 110) (K := []) (xs := ([(⟨100, 0, 0⟩ : Source), (⟨100, 0, 0⟩ : Source)] : List Source)) Try.underlying26 ty76 rfl ⟨(mk76 (x := (⟨100, 0, 0⟩ : Source))), (mk76 (x := (⟨100, 0, 0⟩ : Source))), trivial⟩ rfl rfl) rfl ?_
 rintro v25 w26 ⟨o27, ev28, h29⟩
 have hE := hE.evo ev28 rfl rfl
 have h15 := h15.evo ev28 rfl
 have h16 := h16.evo ev28 rfl
 have h17 := h17.evo ev28 rfl
 have h18 := h18.evo ev28 rfl
 have h24 := h24.evo ev28 rfl
 have h7 := h7.evo ev28 rfl
 have h8 := h8.evo ev28 rfl
 have h9 := h9.evo ev28 rfl
 have hb14 := hb14.evo ev28 rfl
 have hb6 := hb6.evo ev28 rfl
 refine WL.stepE (OW.buildK Board [(0, [.int .i64 2]), (4, [.int .i64 50]), (1, [v20]), (2, [v25])] [.int .i64 2, v20, v25, .slice none 0 0, .int .i64 50, .int .i64 0] st29 ty29 rfl ⟨rfl, rfl, rfl, rfl, rfl, (cells_one (h24.one)), rfl, (cells_one (h29.one)), trivial⟩ rfl) rfl ?_
 have h30 := Ow.nil (α := Consumer) 79 o27 111 [] w26
 refine WL.step (OW.allocK (o := o27) Board 112 [.int .i64 0, .slice none 0 0, .slice none 0 0, .slice none 0 0, .int .i64 0, .int .i64 0] ty29 rfl) rfl ?_
 rintro _ w33 ⟨pa31, o32, rfl, ev34, hb35⟩
 have hE := hE.evo ev34 rfl rfl
 have h15 := h15.evo ev34 rfl
 have h16 := h16.evo ev34 rfl
 have h17 := h17.evo ev34 rfl
 have h18 := h18.evo ev34 rfl
 have h24 := h24.evo ev34 rfl
 have h29 := h29.evo ev34 rfl
 have h30 := h30.evo ev34 rfl
 have h7 := h7.evo ev34 rfl
 have h8 := h8.evo ev34 rfl
 have h9 := h9.evo ev34 rfl
 have hb14 := hb14.evo ev34 rfl
 have hb6 := hb6.evo ev34 rfl
 have h36 := Ow.nil (α := Breaker) 59 o32 113 [] w33
 have h37 := Ow.nil (α := Source) 76 o32 114 [] w33
 have h38 := Ow.nil (α := Consumer) 79 o32 115 [] w33
 refine WL.step0 (OW.storeK0 Board [.int .i64 2, v20, v25, (.slice none 0 0), .int .i64 50, .int .i64 0] [.int .i64 2, v20, v25, (.slice none 0 0), .int .i64 50, .int .i64 0] ty29 rfl rfl hb35 rfl ⟨rfl, (h24.one), (h29.one), rfl, rfl, rfl, trivial⟩ rfl rfl rfl) ?_
 rintro _ w39 ⟨ev40, hb35⟩
 have hE := hE.evo ev40 rfl rfl
 have h15 := h15.evo ev40 rfl
 have h16 := h16.evo ev40 rfl
 have h17 := h17.evo ev40 rfl
 have h18 := h18.evo ev40 rfl
 have h24 := h24.evo ev40 rfl
 have h29 := h29.evo ev40 rfl
 have h30 := h30.evo ev40 rfl
 have h7 := h7.evo ev40 rfl
 have h8 := h8.evo ev40 rfl
 have h9 := h9.evo ev40 rfl
 have hb14 := hb14.evo ev40 rfl
 have hb6 := hb6.evo ev40 rfl
 refine WL.nx hK19 ?_
 refine CW.sr fun K41 hK41 => ?_
 refine WL.stepE (OW.loadK0 Board (.agg #[.int .i64 2, v20, v25, (.slice none 0 0), .int .i64 50, .int .i64 0]) ty29 rfl hb35 rfl rfl) rfl ?_
 refine WL.step (OW.buildSlice (o := o32) (k := 116) (K := []) (xs := ([false, true, true] : List Bool)) Try.underlying30 ty4 rfl ⟨(rv_bool.2 rfl), (rv_bool.2 rfl), (rv_bool.2 rfl), trivial⟩ rfl rfl) rfl ?_
 rintro v42 w43 ⟨o44, ev45, h46⟩
 have hE := hE.evo ev45 rfl rfl
 have h15 := h15.evo ev45 rfl
 have h16 := h16.evo ev45 rfl
 have h17 := h17.evo ev45 rfl
 have h18 := h18.evo ev45 rfl
 have h24 := h24.evo ev45 rfl
 have h29 := h29.evo ev45 rfl
 have h30 := h30.evo ev45 rfl
 have h7 := h7.evo ev45 rfl
 have h8 := h8.evo ev45 rfl
 have h9 := h9.evo ev45 rfl
 have hb14 := hb14.evo ev45 rfl
 have hb6 := hb6.evo ev45 rfl
 refine WL.stepE (OW.buildK Running [(0, [.int .i64 2]), (2, [.int .i64 5000]), (3, [.int .i64 10])] [.int .i64 2, .int .i64 0, .int .i64 5000, .int .i64 10] st48 ty48 rfl ⟨rfl, rfl, rfl, rfl, rfl, rfl, trivial⟩ rfl) rfl ?_
 refine WL.stepE (OW.buildK Running [(0, [.int .i64 2]), (2, [.int .i64 5000]), (3, [.int .i64 100])] [.int .i64 2, .int .i64 0, .int .i64 5000, .int .i64 100] st48 ty48 rfl ⟨rfl, rfl, rfl, rfl, rfl, rfl, trivial⟩ rfl) rfl ?_
 refine WL.step (OW.buildSlice (o := o44) (k := 117) (K := []) (xs := ([(⟨2, 0, 5000, 10⟩ : Running), (⟨2, 0, 5000, 100⟩ : Running)] : List Running)) Try.underlying31 ty48 rfl ⟨(mk48 (x := (⟨2, 0, 5000, 10⟩ : Running))), (mk48 (x := (⟨2, 0, 5000, 100⟩ : Running))), trivial⟩ rfl rfl) rfl ?_
 rintro v47 w48 ⟨o49, ev50, h51⟩
 have hE := hE.evo ev50 rfl rfl
 have h15 := h15.evo ev50 rfl
 have h16 := h16.evo ev50 rfl
 have h17 := h17.evo ev50 rfl
 have h18 := h18.evo ev50 rfl
 have h24 := h24.evo ev50 rfl
 have h29 := h29.evo ev50 rfl
 have h30 := h30.evo ev50 rfl
 have h46 := h46.evo ev50 rfl
 have h7 := h7.evo ev50 rfl
 have h8 := h8.evo ev50 rfl
 have h9 := h9.evo ev50 rfl
 have hb14 := hb14.evo ev50 rfl
 have hb6 := hb6.evo ev50 rfl
 refine WL.stepE (OW.buildK Power [(0, [v42]), (1, [v47])] [v42, v47, .slice none 0 0, .slice none 0 0] st34 ty34 rfl ⟨rfl, (cells_one (h46.one)), rfl, (cells_one (h51.one)), trivial⟩ rfl) rfl ?_
 have h52 := Ow.nil (α := Int) 3 o49 118 [] w48
 have h53 := Ow.nil (α := Part) 65 o49 119 [] w48
 refine WL.step0 (OW.storeK0 Board [.int .i64 2, v20, v25, (.slice none 0 0), .int .i64 50, .int .i64 0] [.int .i64 2, v20, v25, (.slice none 0 0), .int .i64 50, .int .i64 0] ty29 rfl rfl hb6 rfl ⟨rfl, (h24.one), (h29.one), rfl, rfl, rfl, trivial⟩ rfl rfl rfl) ?_
 rintro _ w54 ⟨ev55, hb6⟩
 have hE := hE.evo ev55 rfl rfl
 have h15 := h15.evo ev55 rfl
 have h16 := h16.evo ev55 rfl
 have h17 := h17.evo ev55 rfl
 have h18 := h18.evo ev55 rfl
 have h24 := h24.evo ev55 rfl
 have h29 := h29.evo ev55 rfl
 have h30 := h30.evo ev55 rfl
 have h46 := h46.evo ev55 rfl
 have h51 := h51.evo ev55 rfl
 have h52 := h52.evo ev55 rfl
 have h53 := h53.evo ev55 rfl
 have hb14 := hb14.evo ev55 rfl
 refine WL.step0 (OW.storeK0 Power [v42, v47, (.slice none 0 0), (.slice none 0 0)] [v42, v47, (.slice none 0 0), (.slice none 0 0)] ty34 rfl rfl hb14 rfl ⟨(h46.one), (h51.one), rfl, rfl, trivial⟩ rfl rfl rfl) ?_
 rintro _ w56 ⟨ev57, hb14⟩
 have hE := hE.evo ev57 rfl rfl
 have h24 := h24.evo ev57 rfl
 have h29 := h29.evo ev57 rfl
 have h30 := h30.evo ev57 rfl
 have h46 := h46.evo ev57 rfl
 have h51 := h51.evo ev57 rfl
 have h52 := h52.evo ev57 rfl
 have h53 := h53.evo ev57 rfl
 have hb6 := hb6.evo ev57 rfl
 refine WL.nx hK41 ?_
 obtain rfl := Option.some.inj hF
 exact CW.rets (vs := [.agg #[.int .i64 2, v20, v25, (.slice none 0 0), .int .i64 50, .int .i64 0], .agg #[v42, v47, (.slice none 0 0), (.slice none 0 0)]]) Try.results18 ⟨ResIs.bk Board (.agg #[.int .i64 2, v20, v25, (.slice none 0 0), .int .i64 50, .int .i64 0]) ty29 rfl hb6 rfl rfl, ResIs.bk Power (.agg #[v42, v47, (.slice none 0 0), (.slice none 0 0)]) ty34 rfl hb14 rfl rfl, trivial⟩ ⟨_, rfl, _, (v20), (v25), ((.slice none 0 0)), (v42), (v47), ((.slice none 0 0)), ((.slice none 0 0)), (hE.rn he0 110 [(109, 101), (110, 102), (116, 106), (117, 107)] rfl rfl), rfl, (h24.rn (c' := 101) (K' := []) rfl rfl), (h29.rn (c' := 102) (K' := []) rfl rfl), (Ow.nil _ _ _ _ _), (h46.rn (c' := 106) (K' := []) rfl rfl), (h51.rn (c' := 107) (K' := []) rfl rfl), (Ow.nil _ _ _ _ _), (Ow.nil _ _ _ _ _)⟩ (fun _ _ h => h)

set_option maxHeartbeats 1000000 in
theorem Src_Range_ok {st0 : List Int} {a1 : Int} {a2 : Int} {r : (Int × List Int)} (hF : Src_Range st0 a1 a2 = some r) {w0 : World} {sb : Nat} {sv : Value} {sL : List Int} {Ss : Nat → Prop} (hs : SrcB w0 sb sv sL st0) (hL : Rv Ss w0 sv sL) (hLn : ∀ b, b < w0.heap.size → Ss b → b ∉ [sb]) (hmb : [sb].Nodup) :
    Calls Try.prog 19 #[.pointer (some ⟨sb, 0, none⟩), .int .i64 a1, .int .i64 a2] w0 (Ret fun v w' => ∃ (oc : Cls), En w0 (entM w0 [sb] [Ss]) oc w' ∧ v = .int .i64 r.1 ∧ SrcC oc 1 w' sb sv sL r.2) := by
 obtain ⟨e0, he0⟩ : ∃ e0, e0 = entM w0 [sb] [Ss] := ⟨_, rfl⟩
 have hE := En.refl w0 e0
 have hs := hs.inM he0 hmb 0 rfl
 have hL := hL.argM he0 0 (K := [40]) rfl hLn rfl
 rw [Src_Range] at hF
 refine enter (l := [.pointer (some ⟨sb, 0, none⟩), .int .i64 a1, .int .i64 a2]) Try.func19 rfl Try.ntmps19 rfl ?_
 refine CW.sub (L' := [(0, .pointer (some ⟨sb, 0, none⟩)), (1, .int .i64 a1), (2, .int .i64 a2)]) ⟨rfl, rfl, rfl, trivial⟩ ?_
 refine CW.sr fun K1 hK1 => ?_
 refine WL.p (.int .i64 0) rfl rfl ?_
 refine WL.nx hK1 ?_
 refine CW.sr fun K2 hK2 => ?_
 refine WL.p (.int .i64 a1) rfl rfl ?_
 refine WL.p (.pointer (some ⟨sb, 0, none⟩)) rfl rfl ?_
 refine WL.p (.int .i64 a2) rfl rfl ?_
 refine WL.p (.int .i64 a1) rfl rfl ?_
 refine WL.p (.int .i64 ((W (a2 - a1)))) rfl rfl ?_
 refine WL.p (.int .i64 ((W (((W (a2 - a1))) + 1)))) rfl rfl ?_
 have hm3 : MbOk e0 w0 0 [sb] [1] := ⟨.inl ⟨hs.1.lt, hs.2⟩, trivial⟩
 obtain ⟨⟨y4, st5⟩, q6, hF⟩ := bindE hF
 dsimp only at hF
 refine WL.step (OW.call Try.call31 rfl (Src_N_ok q6 hs.1 (hL.baseM hE rfl) (hm3.sep rfl) (hm3.nodup rfl))) rfl ?_
 rintro _ w7 ⟨o11, hn_, rfl, hs⟩
 obtain ⟨o8, ev9, hA10⟩ := adopt (o := e0) (ks := [1]) (Ks := [[40]]) 100 ([]) [1, 100] hn_ hm3 rfl rfl rfl rfl
 have hs := hs.ad (c' := 1) hA10 rfl
 have hE := hE.evo ev9 rfl rfl
 refine WL.p (.int .i64 ((W (a1 + y4)))) rfl rfl ?_
 refine WL.p (.int .i64 ((W (a1 + y4)))) rfl rfl ?_
 refine WL.nx hK2 ?_
 obtain rfl := Option.some.inj hF
 exact CW.rets (vs := [.int .i64 ((W (a1 + y4)))]) Try.results19 ⟨rfl, trivial⟩ ⟨_, rfl, _, (hE.rn he0 100 [] rfl rfl), rfl, (hs.rn (c' := 1) rfl)⟩ (fun _ _ h => h)

set_option maxHeartbeats 1000000 in
theorem board_in_ok {a0 : Int} {a1 : Int} {a2 : Int} {r : Bool} (hF : board_in a0 a1 a2 = some r) {w0 : World}  :
    Calls Try.prog 63 #[.int .i64 a0, .int .i64 a1, .int .i64 a2] w0 (Ret fun v w' => ∃ (oc : Cls), En w0 (entM w0 [] []) oc w' ∧ v = .bool r) := by
 obtain ⟨e0, he0⟩ : ∃ e0, e0 = entM w0 [] [] := ⟨_, rfl⟩
 have hE := En.refl w0 e0
 rw [board_in] at hF
 refine enter (l := [.int .i64 a0, .int .i64 a1, .int .i64 a2]) Try.func63 rfl Try.ntmps63 rfl ?_
 refine CW.sub (L' := [(0, .int .i64 a0), (1, .int .i64 a1), (2, .int .i64 a2)]) ⟨rfl, rfl, rfl, trivial⟩ ?_
 refine CW.sr fun K1 hK1 => ?_
 refine WL.p (.bool false) rfl rfl ?_
 refine WL.nx hK1 ?_
 refine CW.sr fun K2 hK2 => ?_
 refine WL.p (.int .i64 a0) rfl rfl ?_
 refine WL.p (.int .i64 a1) rfl rfl ?_
 refine WL.p (.bool ((decide (a0 ≥ a1)))) rfl rfl ?_
 refine WL.p (.bool ((decide (a0 ≥ a1)))) rfl rfl ?_
 obtain ⟨x3, q4, hF⟩ := bindE hF
 have hJ7 : ∀ (w5 : World) (o6 : Cls), En w0 e0 o6 w5 → NK 15 K2 [(6, .bool x3)] w5 := by
  intro w5 o6  hE
  refine hK2 _ _ ?_
  obtain rfl := Option.some.inj hF
  exact CW.rets (vs := [.bool x3]) Try.results63 ⟨rfl, trivial⟩ ⟨_, rfl, _, (hE.rn he0 100 [] rfl rfl), rfl⟩ (fun _ _ h => h)
 rcases Bool.eq_false_or_eq_true ((decide (a0 ≥ a1))) with hc8 | hc8
 ·have q4 := iteT hc8 q4
  refine WL.stepGE rfl rfl rfl hc8 (OW.pv (v := (.int .i64 a0)) rfl) rfl ?_
  refine WL.stepGE rfl rfl rfl hc8 (OW.pv (v := (.int .i64 a2)) rfl) rfl ?_
  refine WL.stepGE rfl rfl rfl hc8 (OW.pv (v := (.bool ((decide (a0 ≤ a2))))) rfl) rfl ?_
  refine WL.stepE (OW.pickT rfl hc8 rfl) rfl ?_
  refine WL.p (.bool ((decide (a0 ≤ a2)))) rfl rfl ?_
  refine WL.nil ?_
  have e9 := Option.some.inj q4
  subst e9
  exact NK.sb (hJ7 w0 e0 hE) ⟨rfl, trivial⟩
 ·have q4 := iteF hc8 q4
  refine WL.skipG rfl rfl rfl (by rw [hc8]; rfl) rfl ?_
  refine WL.skipG rfl rfl rfl (by rw [hc8]; rfl) rfl ?_
  refine WL.skipG rfl rfl rfl (by rw [hc8]; rfl) rfl ?_
  refine WL.stepE (OW.pickF rfl hc8 rfl) rfl ?_
  refine WL.p (.bool false) rfl rfl ?_
  refine WL.nil ?_
  have e10 := Option.some.inj q4
  subst e10
  exact NK.sb (hJ7 w0 e0 hE) ⟨rfl, trivial⟩

set_option maxHeartbeats 1000000 in
theorem slices_Index_int_int_ok {a0 : (List Int)} {a1 : Int} {r : Int} (hF : slices_Index_int_int a0 a1 = some r) {w0 : World} {p0 : Value} {S0 : Nat → Prop} (g0 : Rv S0 w0 p0 a0) :
    Calls Try.prog 79 #[p0, .int .i64 a1] w0 (Ret fun v w' => ∃ (oc : Cls), En w0 (entM w0 [] [S0]) oc w' ∧ v = .int .i64 r) := by
 obtain ⟨e0, he0⟩ : ∃ e0, e0 = entM w0 [] [S0] := ⟨_, rfl⟩
 have hE := En.refl w0 e0
 have g0 := g0.argM he0 0 (K := [40]) rfl (nosep rfl) rfl
 rw [slices_Index_int_int] at hF
 refine enter (l := [p0, .int .i64 a1]) Try.func79 rfl Try.ntmps79 rfl ?_
 refine CW.sub (L' := [(0, p0), (1, .int .i64 a1)]) ⟨rfl, rfl, trivial⟩ ?_
 refine CW.sr fun K1 hK1 => ?_
 refine WL.p (.int .i64 0) rfl rfl ?_
 refine WL.nx hK1 ?_
 refine CW.seq fun K2 hK2 => ?_
 refine CW.sr fun K3 hK3 => ?_
 refine WL.p p0 rfl rfl ?_
 refine WL.stepE (OW.len Try.underlying22 rfl (g0.baseM hE rfl)) rfl ?_
 refine WL.p (.int .i64 0) rfl rfl ?_
 refine WL.nx hK3 ?_
 refine CW.block ?_
 obtain ⟨r6, hl5, hF⟩ := bindE hF
 have hJ9 : ∀ (w7 : World) (o8 : Cls), .inl () = r6 → En w0 e0 o8 w7 → NK 19 K2 [] w7 := by
  intro  w7 o8  e_ hE
  subst e_
  have hF := elimL hF
  try dsimp only at hF
  refine hK2 _ _ ?_
  refine CW.sr fun K10 hK10 => ?_
  refine WL.p (.int .i64 (-1)) rfl rfl ?_
  refine WL.nx hK10 ?_
  obtain rfl := Option.some.inj hF
  exact CW.rets (vs := [.int .i64 (-1)]) Try.results79 ⟨rfl, trivial⟩ ⟨_, rfl, _, (hE.rn he0 100 [] rfl rfl), rfl⟩ (fun _ _ h => h)
 refine CW.sub (L' := [(0, p0), (1, .int .i64 a1), (7, .int .i64 (len a0)), (8, .int .i64 0)]) ⟨rfl, rfl, rfl, rfl, trivial⟩ ?_
 refine CW.loop (slices_Index_int_int_L1 a0 a1) (fun s_ L_ w11 => ∃ (o12 : Cls) (x4 : Int), x4 = s_ ∧ L_ = [(0, p0), (1, .int .i64 a1), (7, .int .i64 (len a0)), (8, .int .i64 x4)] ∧ En w0 e0 o12 w11) hl5 ?_ ?_
 ·exact ⟨e0, 0, rfl, rfl, hE⟩
 intro K13 s_ L_ w11 hi_ x14 hx15 hr16 hk17
 obtain ⟨o12, x4, rfl, rfl, hE⟩ := hi_
 rw [slices_Index_int_int_L1] at hx15
 refine CW.sr fun K18 hK18 => ?_
 refine WL.p (.bool ((decide (x4 < (len a0))))) rfl rfl ?_
 refine WL.nx hK18 ?_
 refine CW.seq fun K19 hK19 => ?_
 refine CW.cond (b := (decide (x4 < (len a0)))) rfl (fun hc20 => ?_) (fun hc20 => ?_)
 ·have hx15 := iteT hc20 hx15
  refine CW.skip ?_
  refine hK19 _ _ ?_
  refine CW.seq fun K21 hK21 => ?_
  refine CW.block ?_
  refine CW.sr fun K22 hK22 => ?_
  refine WL.p (.int .i64 x4) rfl rfl ?_
  refine WL.p (.int .i64 x4) rfl rfl ?_
  refine WL.nx hK22 ?_
  refine CW.sr fun K23 hK23 => ?_
  refine WL.p (.int .i64 a1) rfl rfl ?_
  refine WL.p p0 rfl rfl ?_
  refine WL.p (.int .i64 x4) rfl rfl ?_
  obtain ⟨y24, q28, hx15⟩ := bindE hx15
  refine WL.stepP (OW.indexAddr Try.underlying22 ty3 rfl (g0.baseM hE rfl) rfl q28) rfl fun _ ⟨pa25, hv_, hp26, he27⟩ => ?_
  subst hv_
  refine WL.stepE (OW.loadI ty3 rfl hp26) rfl ?_
  refine WL.p (.bool (((a1 == y24)))) rfl rfl ?_
  refine WL.nx hK23 ?_
  refine CW.cond (b := ((a1 == y24))) rfl (fun hc29 => ?_) (fun hc29 => ?_)
  ·have hx15 := iteT hc29 hx15
   refine CW.sr fun K30 hK30 => ?_
   refine WL.p (.int .i64 x4) rfl rfl ?_
   refine WL.p (.int .i64 x4) rfl rfl ?_
   refine WL.nx hK30 ?_
   have e_ := hr16 _ (Option.some.inj hx15).symm
   subst e_
   have hF := elimR hF
   obtain rfl := Option.some.inj hF
   exact CW.rets (vs := [.int .i64 x4]) Try.results79 ⟨rfl, trivial⟩ ⟨_, rfl, _, (hE.rn he0 100 [] rfl rfl), rfl⟩ (fun _ _ h => h)
  ·have hx15 := iteF hc29 hx15
   refine CW.skip ?_
   refine hK21 _ _ ?_
   refine CW.region ?_
   refine WL.p (.int .i64 ((W (x4 + 1)))) rfl rfl ?_
   refine WL.p (.int .i64 ((W (x4 + 1)))) rfl rfl ?_
   refine WL.nil ?_
   exact NK.sb (hk17 _ _ _ (Option.some.inj hx15).symm ⟨o12, (W (x4 + 1)), rfl, rfl, hE⟩) ⟨rfl, rfl, rfl, rfl, trivial⟩
 ·have hx15 := iteF hc20 hx15
  refine CW.exit ?_
  exact NK.sb (hJ9 w11 o12 (hr16 _ (Option.some.inj hx15).symm) hE) trivial

set_option maxHeartbeats 1000000 in
theorem slices_Contains_int_int_ok {a0 : (List Int)} {a1 : Int} {r : Bool} (hF : slices_Contains_int_int a0 a1 = some r) {w0 : World} {p0 : Value} {S0 : Nat → Prop} (g0 : Rv S0 w0 p0 a0) :
    Calls Try.prog 45 #[p0, .int .i64 a1] w0 (Ret fun v w' => ∃ (oc : Cls), En w0 (entM w0 [] [S0]) oc w' ∧ v = .bool r) := by
 obtain ⟨e0, he0⟩ : ∃ e0, e0 = entM w0 [] [S0] := ⟨_, rfl⟩
 have hE := En.refl w0 e0
 have g0 := g0.argM he0 0 (K := [40]) rfl (nosep rfl) rfl
 rw [slices_Contains_int_int] at hF
 refine enter (l := [p0, .int .i64 a1]) Try.func45 rfl Try.ntmps45 rfl ?_
 refine CW.sub (L' := [(0, p0), (1, .int .i64 a1)]) ⟨rfl, rfl, trivial⟩ ?_
 refine CW.sr fun K1 hK1 => ?_
 refine WL.p (.bool false) rfl rfl ?_
 refine WL.nx hK1 ?_
 refine CW.sr fun K2 hK2 => ?_
 refine WL.p p0 rfl rfl ?_
 refine WL.p (.int .i64 a1) rfl rfl ?_
 obtain ⟨y3, q4, hF⟩ := bindE hF
 refine WL.step (OW.call Try.call79 rfl (slices_Index_int_int_ok q4 (g0.baseM hE rfl))) rfl ?_
 rintro _ w5 ⟨o9, hn_, rfl⟩
 obtain ⟨o6, ev7, hA8⟩ := adopt (o := e0) (ks := []) (Ks := [[40]]) 100 ([]) [100] hn_ MbOk.nil rfl rfl rfl rfl
 have hE := hE.evo ev7 rfl rfl
 refine WL.p (.bool ((decide (y3 ≥ 0)))) rfl rfl ?_
 refine WL.p (.bool ((decide (y3 ≥ 0)))) rfl rfl ?_
 refine WL.nx hK2 ?_
 obtain rfl := Option.some.inj hF
 exact CW.rets (vs := [.bool ((decide (y3 ≥ 0)))]) Try.results45 ⟨rfl, trivial⟩ ⟨_, rfl, _, (hE.rn he0 100 [] rfl rfl), rfl⟩ (fun _ _ h => h)

set_option maxHeartbeats 1000000 in
theorem slices_IndexFunc_int_int_ok {a0 : (List (List Int))} {f1 : ((List Int) → Option Bool)} {r : Int} (hF : slices_IndexFunc_int_int a0 f1 = some r) {w0 : World} {p0 : Value} {S0 : Nat → Prop} (g0 : Rv S0 w0 p0 a0) {q1 : FuncId} {z1 : Array Value} (m1 : Fn1 Try.prog q1 z1 (fun w => Bts [] w0 w) f1) :
    Calls Try.prog 98 #[p0, .func (.func q1) #[] z1] w0 (Ret fun v w' => ∃ (oc : Cls), En w0 (entM w0 [] [S0]) oc w' ∧ v = .int .i64 r) := by
 obtain ⟨e0, he0⟩ : ∃ e0, e0 = entM w0 [] [S0] := ⟨_, rfl⟩
 have hE := En.refl w0 e0
 have g0 := g0.argM he0 0 (K := [40]) rfl (nosep rfl) rfl
 rw [slices_IndexFunc_int_int] at hF
 refine enter (l := [p0, .func (.func q1) #[] z1]) Try.func98 rfl Try.ntmps98 rfl ?_
 refine CW.sub (L' := [(0, p0), (1, .func (.func q1) #[] z1)]) ⟨rfl, rfl, trivial⟩ ?_
 refine CW.sr fun K1 hK1 => ?_
 refine WL.p (.int .i64 0) rfl rfl ?_
 refine WL.nx hK1 ?_
 refine CW.seq fun K2 hK2 => ?_
 refine CW.sr fun K3 hK3 => ?_
 refine WL.p p0 rfl rfl ?_
 refine WL.stepE (OW.len Try.underlying115 rfl (g0.baseM hE rfl)) rfl ?_
 refine WL.p (.int .i64 0) rfl rfl ?_
 refine WL.nx hK3 ?_
 refine CW.block ?_
 obtain ⟨r6, hl5, hF⟩ := bindE hF
 have hJ9 : ∀ (w7 : World) (o8 : Cls), .inl () = r6 → En w0 e0 o8 w7 → NK 19 K2 [] w7 := by
  intro  w7 o8  e_ hE
  subst e_
  have hF := elimL hF
  try dsimp only at hF
  refine hK2 _ _ ?_
  refine CW.sr fun K10 hK10 => ?_
  refine WL.p (.int .i64 (-1)) rfl rfl ?_
  refine WL.nx hK10 ?_
  obtain rfl := Option.some.inj hF
  exact CW.rets (vs := [.int .i64 (-1)]) Try.results98 ⟨rfl, trivial⟩ ⟨_, rfl, _, (hE.rn he0 100 [] rfl rfl), rfl⟩ (fun _ _ h => h)
 refine CW.sub (L' := [(0, p0), (1, .func (.func q1) #[] z1), (7, .int .i64 (len a0)), (8, .int .i64 0)]) ⟨rfl, rfl, rfl, rfl, trivial⟩ ?_
 refine CW.loop (slices_IndexFunc_int_int_L1 a0 f1) (fun s_ L_ w11 => ∃ (o12 : Cls) (x4 : Int), x4 = s_ ∧ L_ = [(0, p0), (1, .func (.func q1) #[] z1), (7, .int .i64 (len a0)), (8, .int .i64 x4)] ∧ En w0 e0 o12 w11) hl5 ?_ ?_
 ·exact ⟨e0, 0, rfl, rfl, hE⟩
 intro K13 s_ L_ w11 hi_ x14 hx15 hr16 hk17
 obtain ⟨o12, x4, rfl, rfl, hE⟩ := hi_
 rw [slices_IndexFunc_int_int_L1] at hx15
 refine CW.sr fun K18 hK18 => ?_
 refine WL.p (.bool ((decide (x4 < (len a0))))) rfl rfl ?_
 refine WL.nx hK18 ?_
 refine CW.seq fun K19 hK19 => ?_
 refine CW.cond (b := (decide (x4 < (len a0)))) rfl (fun hc20 => ?_) (fun hc20 => ?_)
 ·have hx15 := iteT hc20 hx15
  refine CW.skip ?_
  refine hK19 _ _ ?_
  refine CW.seq fun K21 hK21 => ?_
  refine CW.block ?_
  refine CW.sr fun K22 hK22 => ?_
  refine WL.p (.int .i64 x4) rfl rfl ?_
  refine WL.p (.int .i64 x4) rfl rfl ?_
  refine WL.nx hK22 ?_
  refine CW.sr fun K23 hK23 => ?_
  refine WL.p (.func (.func q1) #[] z1) rfl rfl ?_
  refine WL.p p0 rfl rfl ?_
  refine WL.p (.int .i64 x4) rfl rfl ?_
  obtain ⟨y24, q28, hx15⟩ := bindE hx15
  refine WL.stepP (OW.indexAddr Try.underlying115 ty22 rfl (g0.baseM hE rfl) rfl q28) rfl fun _ ⟨pa25, hv_, hp26, he27⟩ => ?_
  subst hv_
  refine WL.stepP (OW.load ty22 rfl hp26) rfl fun v29 h30 => ?_
  obtain ⟨y31, q32, hx15⟩ := bindE hx15
  refine WL.step (OW.callV m1.1 rfl rfl (m1.2 _ (hE.bts he0 rfl) _ _ q32 _ _ h30)) rfl ?_
  rintro v39 w33 ⟨hb37, h38⟩
  obtain rfl := rv_bool.1 h38
  obtain ⟨o34, ev35, hn36⟩ := fresh_new (o := o12) 100 hb37
  have hE := hE.evo ev35 rfl rfl
  have h30 := h30.evo ev35 rfl
  refine WL.nx hK23 ?_
  refine CW.cond (b := y31) rfl (fun hc40 => ?_) (fun hc40 => ?_)
  ·have hx15 := iteT hc40 hx15
   refine CW.sr fun K41 hK41 => ?_
   refine WL.p (.int .i64 x4) rfl rfl ?_
   refine WL.p (.int .i64 x4) rfl rfl ?_
   refine WL.nx hK41 ?_
   have e_ := hr16 _ (Option.some.inj hx15).symm
   subst e_
   have hF := elimR hF
   obtain rfl := Option.some.inj hF
   exact CW.rets (vs := [.int .i64 x4]) Try.results98 ⟨rfl, trivial⟩ ⟨_, rfl, _, (hE.rn he0 100 [] rfl rfl), rfl⟩ (fun _ _ h => h)
  ·have hx15 := iteF hc40 hx15
   refine CW.skip ?_
   refine hK21 _ _ ?_
   refine CW.region ?_
   refine WL.p (.int .i64 ((W (x4 + 1)))) rfl rfl ?_
   refine WL.p (.int .i64 ((W (x4 + 1)))) rfl rfl ?_
   refine WL.nil ?_
   exact NK.sb (hk17 _ _ _ (Option.some.inj hx15).symm ⟨o34, (W (x4 + 1)), rfl, rfl, hE⟩) ⟨rfl, rfl, rfl, rfl, trivial⟩
 ·have hx15 := iteF hc20 hx15
  refine CW.exit ?_
  exact NK.sb (hJ9 w11 o12 (hr16 _ (Option.some.inj hx15).symm) hE) trivial

set_option maxHeartbeats 1000000 in
theorem slices_ContainsFunc_int_int_ok {a0 : (List (List Int))} {f1 : ((List Int) → Option Bool)} {r : Bool} (hF : slices_ContainsFunc_int_int a0 f1 = some r) {w0 : World} {p0 : Value} {S0 : Nat → Prop} (g0 : Rv S0 w0 p0 a0) {q1 : FuncId} {z1 : Array Value} (m1 : Fn1 Try.prog q1 z1 (fun w => Bts [] w0 w) f1) :
    Calls Try.prog 95 #[p0, .func (.func q1) #[] z1] w0 (Ret fun v w' => ∃ (oc : Cls), En w0 (entM w0 [] [S0]) oc w' ∧ v = .bool r) := by
 obtain ⟨e0, he0⟩ : ∃ e0, e0 = entM w0 [] [S0] := ⟨_, rfl⟩
 have hE := En.refl w0 e0
 have g0 := g0.argM he0 0 (K := [40]) rfl (nosep rfl) rfl
 rw [slices_ContainsFunc_int_int] at hF
 refine enter (l := [p0, .func (.func q1) #[] z1]) Try.func95 rfl Try.ntmps95 rfl ?_
 refine CW.sub (L' := [(0, p0), (1, .func (.func q1) #[] z1)]) ⟨rfl, rfl, trivial⟩ ?_
 refine CW.sr fun K1 hK1 => ?_
 refine WL.p (.bool false) rfl rfl ?_
 refine WL.nx hK1 ?_
 refine CW.sr fun K2 hK2 => ?_
 refine WL.p p0 rfl rfl ?_
 refine WL.p (.func (.func q1) #[] z1) rfl rfl ?_
 obtain ⟨y3, q4, hF⟩ := bindE hF
 refine WL.step (OW.call Try.call98 rfl (slices_IndexFunc_int_int_ok q4 (g0.baseM hE rfl) (m1.mono fun _ h_ => hE.on he0 rfl MbOk.nil rfl h_))) rfl ?_
 rintro _ w5 ⟨o9, hn_, rfl⟩
 obtain ⟨o6, ev7, hA8⟩ := adopt (o := e0) (ks := []) (Ks := [[40]]) 100 ([]) [100] hn_ MbOk.nil rfl rfl rfl rfl
 have hE := hE.evo ev7 rfl rfl
 refine WL.p (.bool ((decide (y3 ≥ 0)))) rfl rfl ?_
 refine WL.p (.bool ((decide (y3 ≥ 0)))) rfl rfl ?_
 refine WL.nx hK2 ?_
 obtain rfl := Option.some.inj hF
 exact CW.rets (vs := [.bool ((decide (y3 ≥ 0)))]) Try.results95 ⟨rfl, trivial⟩ ⟨_, rfl, _, (hE.rn he0 100 [] rfl rfl), rfl⟩ (fun _ _ h => h)

set_option maxHeartbeats 1000000 in
theorem board_breakers_1_ok {a0 : (List Int)} {r : Bool} (hF : board_breakers_1 a0 = some r) {w0 : World} {p0 : Value} {S0 : Nat → Prop} (g0 : Rv S0 w0 p0 a0) :
    Calls Try.prog 96 #[p0] w0 (Ret fun v w' => ∃ (oc : Cls), En w0 (entM w0 [] [S0]) oc w' ∧ v = .bool r) := by
 obtain ⟨e0, he0⟩ : ∃ e0, e0 = entM w0 [] [S0] := ⟨_, rfl⟩
 have hE := En.refl w0 e0
 have g0 := g0.argM he0 0 (K := [40]) rfl (nosep rfl) rfl
 rw [board_breakers_1] at hF
 refine enter (l := [p0]) Try.func96 rfl Try.ntmps96 rfl ?_
 refine CW.sub (L' := [(0, p0)]) ⟨rfl, trivial⟩ ?_
 refine CW.sr fun K1 hK1 => ?_
 refine WL.p (.bool false) rfl rfl ?_
 refine WL.nx hK1 ?_
 refine CW.sr fun K2 hK2 => ?_
 refine WL.p p0 rfl rfl ?_
 refine WL.stepE (OW.len Try.underlying22 rfl (g0.baseM hE rfl)) rfl ?_
 refine WL.p (.bool ((((len a0) == 0)))) rfl rfl ?_
 refine WL.p (.bool ((((len a0) == 0)))) rfl rfl ?_
 refine WL.nx hK2 ?_
 obtain rfl := Option.some.inj hF
 exact CW.rets (vs := [.bool ((((len a0) == 0)))]) Try.results96 ⟨rfl, trivial⟩ ⟨_, rfl, _, (hE.rn he0 100 [] rfl rfl), rfl⟩ (fun _ _ h => h)

end Go.Proofs.Ytdfkfohpgakihaa
