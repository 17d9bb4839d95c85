/- Walks. Written by a program (wip/gen). -/
import Derived.Test.YtnpghnnlcakbfaaHw
set_option linter.unusedVariables false
set_option linter.unusedSimpArgs false
namespace Go.Proofs.Ytnpghnnlcakbfaa
open Go Go.RowKit Dp

set_option maxRecDepth 100000

set_option maxHeartbeats 1000000 in
theorem dynposref15_Copy_ok {a0 : Power} {r : Power} (hF : dynposref15_Copy a0 = some r) {w0 : World} {p0 : Value} {S0 : Nat → Prop} (g0 : Rv S0 w0 p0 a0) :
    Calls Try.prog 21 #[p0] w0 (Ret fun v w' => ∃ (oc : Cls) (x0_0 : Value) (x0_1 : Value) (x0_2 : Value) (x0_3 : Value), En w0 (entM w0 [] [S0]) oc w' ∧ v = .agg #[x0_0, x0_1, x0_2, x0_3] ∧ Ow 4 oc 100 [] w' x0_0 r.Closed ∧ Ow 64 oc 101 [] w' x0_1 r.Sources ∧ Ow 3 oc 102 [] w' x0_2 r.Limits ∧ Ow 66 oc 103 [] w' x0_3 r.Broken) := by
 obtain ⟨e0, he0⟩ : ∃ e0, e0 = entM w0 [] [S0] := ⟨_, rfl⟩
 have hE := En.refl w0 e0
 have g0 := g0.argM he0 0 (K := [40]) rfl (nosep rfl) rfl
 obtain ⟨u1, u2, u3, u4, rfl, h5, h6, h7, h8⟩ := op45 g0
 rw [dynposref15_Copy] at hF
 refine enter (l := [.agg #[u1, u2, u3, u4]]) Try.func21 rfl Try.ntmps21 rfl ?_
 refine CW.sub (L' := [(0, .agg #[u1, u2, u3, u4])]) ⟨rfl, trivial⟩ ?_
 refine CW.sr fun K9 hK9 => ?_
 refine WL.step (OW.boxK (o := e0) 100 [u1, u2, u3, u4] rfl rfl) rfl ?_
 rintro _ w12 ⟨pa10, o11, rfl, ev13, hb14⟩
 have hE := hE.evo ev13 rfl rfl
 refine WL.step (OW.allocK (o := o11) Power 101 [.slice none 0 0, .slice none 0 0, .slice none 0 0, .slice none 0 0] ty45 rfl) rfl ?_
 rintro _ w17 ⟨pa15, o16, rfl, ev18, hb19⟩
 have hE := hE.evo ev18 rfl rfl
 have hb14 := hb14.evo ev18 rfl
 have h20 := Ow.nil (α := Bool) 4 o16 102 [] w17
 have h21 := Ow.nil (α := Running) 64 o16 103 [] w17
 have h22 := Ow.nil (α := Int) 3 o16 104 [] w17
 have h23 := Ow.nil (α := Part) 66 o16 105 [] w17
 refine WL.nx hK9 ?_
 refine CW.seq fun K24 hK24 => ?_
 obtain ⟨y26, q27, hF⟩ := bindE hF
 obtain ⟨y34, q35, hF⟩ := bindE hF
 obtain ⟨y42, q43, hF⟩ := bindE hF
 obtain ⟨y50, q51, hF⟩ := bindE hF
 have ev_ := Evo.drew o16 w17
 refine CW.anyS (N := [101, 106, 107, 108, 109]) hmix [sBk none none [] 100 (vk pa10) (vk ([u1, u2, u3, u4])), sBk none (some 13) [] 101 (vk pa15) (vk ([(.slice none 0 0), (.slice none 0 0), (.slice none 0 0), (.slice none 0 0)])), sOw (some 2) none [2] 4 106 [] (vn 0) y26, sOw (some 5) none [5] 64 107 [] (vn 0) y34, sOw (some 8) none [8] 3 108 [] (vn 0) y42, sOw (some 11) none [11] 66 109 [] (vn 0) y50, sBk (some 13) none [2, 5, 8, 11] 101 (vk pa15) (fun x_ => [(x_.getD 0 undef), (x_.getD 1 undef), (x_.getD 2 undef), (x_.getD 3 undef)])] [⟨[], [], [], [], vk (.pointer (some (pa10.add 0))), false⟩, ⟨[], [0], [0], [], vk u1, false⟩, ⟨[106], [], [0, 1], [2], vn 0, false⟩, ⟨[], [], [], [], vk (.pointer (some (pa10.add 1))), false⟩, ⟨[], [0], [3], [], vk u2, false⟩, ⟨[107], [], rg 0 5, [5], vn 0, false⟩, ⟨[], [], [], [], vk (.pointer (some (pa10.add 2))), false⟩, ⟨[], [0], [6], [], vk u3, false⟩, ⟨[108], [], rg 0 8, [8], vn 0, false⟩, ⟨[], [], [], [], vk (.pointer (some (pa10.add 3))), false⟩, ⟨[], [0], [9], [], vk u4, false⟩, ⟨[109], [], rg 0 11, [11], vn 0, false⟩, ⟨[], [2, 3, 4, 5], rg 0 12, [2, 5, 8, 11], fun x_ => .agg #[(x_.getD 0 undef), (x_.getD 1 undef), (x_.getD 2 undef), (x_.getD 3 undef)], false⟩, ⟨[101], [1, 2, 3, 4, 5], rg 0 13, [], vk undef, false⟩] [101, 106, 107, 108, 109] hE rfl (by kernel_rfl) (by kernel_rfl) ⟨hb14.evo ev_ rfl, hb19.evo ev_ rfl, trivial⟩ ⟨?_, ?_, ?_, ?_, ?_, ?_, ?_, ?_, ?_, ?_, ?_, ?_, ?_, ?_, trivial⟩ ?_
 ·intro vs60 o_ w_ hE 
  exact OW.q [(1, .pointer (some pa10))] ⟨rfl, trivial⟩ (OW.fldAddr (FldOk.at f45_0) rfl) (er rfl trivial)
 ·intro vs60 o_ w_ hE hb14
  have hb14 := tBk hb14
  exact OW.q [(3, .pointer (some (pa10.add 0)))] ⟨rfl, trivial⟩ (OW.loadK (off := 0) (List Bool) (u1) ty41 rfl hb14 rfl rfl) (er rfl trivial)
 ·intro vs60 o_ w_ hE 
  have hE := hE.1
  have h25 := Ow.nil (α := Bool) 4 o_ 106 [] w_
  refine OW.r [(4, u1)] ⟨rfl, trivial⟩ (OW.append (K := []) Try.underlying41 ty4 rfl rfl h25 (h5.baseM hE rfl).els.flat q27 rfl) ?_
  rintro v28 w29 ⟨o30, ev31, h32⟩
  exact ⟨o30, ev31.sub rfl rfl, rfl, h32, trivial⟩
 ·intro vs60 o_ w_ hE 
  exact OW.q [(1, .pointer (some pa10))] ⟨rfl, trivial⟩ (OW.fldAddr (FldOk.at f45_1) rfl) (er rfl trivial)
 ·intro vs60 o_ w_ hE hb14
  have hb14 := tBk hb14
  exact OW.q [(6, .pointer (some (pa10.add 1)))] ⟨rfl, trivial⟩ (OW.loadK (off := 1) (List Running) (u2) ty42 rfl hb14 rfl rfl) (er rfl trivial)
 ·intro vs60 o_ w_ hE 
  have hE := hE.1
  have h33 := Ow.nil (α := Running) 64 o_ 107 [] w_
  refine OW.r [(7, u2)] ⟨rfl, trivial⟩ (OW.append (K := []) Try.underlying42 ty64 rfl rfl h33 (h6.baseM hE rfl).els.flat q35 rfl) ?_
  rintro v36 w37 ⟨o38, ev39, h40⟩
  exact ⟨o38, ev39.sub rfl rfl, rfl, h40, trivial⟩
 ·intro vs60 o_ w_ hE 
  exact OW.q [(1, .pointer (some pa10))] ⟨rfl, trivial⟩ (OW.fldAddr (FldOk.at f45_2) rfl) (er rfl trivial)
 ·intro vs60 o_ w_ hE hb14
  have hb14 := tBk hb14
  exact OW.q [(9, .pointer (some (pa10.add 2)))] ⟨rfl, trivial⟩ (OW.loadK (off := 2) (List Int) (u3) ty22 rfl hb14 rfl rfl) (er rfl trivial)
 ·intro vs60 o_ w_ hE 
  have hE := hE.1
  have h41 := Ow.nil (α := Int) 3 o_ 108 [] w_
  refine OW.r [(10, u3)] ⟨rfl, trivial⟩ (OW.append (K := []) Try.underlying22 ty3 rfl rfl h41 (h7.baseM hE rfl).els.flat q43 rfl) ?_
  rintro v44 w45 ⟨o46, ev47, h48⟩
  exact ⟨o46, ev47.sub rfl rfl, rfl, h48, trivial⟩
 ·intro vs60 o_ w_ hE 
  exact OW.q [(1, .pointer (some pa10))] ⟨rfl, trivial⟩ (OW.fldAddr (FldOk.at f45_3) rfl) (er rfl trivial)
 ·intro vs60 o_ w_ hE hb14
  have hb14 := tBk hb14
  exact OW.q [(12, .pointer (some (pa10.add 3)))] ⟨rfl, trivial⟩ (OW.loadK (off := 3) (List Part) (u4) ty43 rfl hb14 rfl rfl) (er rfl trivial)
 ·intro vs60 o_ w_ hE 
  have hE := hE.1
  have h49 := Ow.nil (α := Part) 66 o_ 109 [] w_
  refine OW.r [(13, u4)] ⟨rfl, trivial⟩ (OW.append (K := []) Try.underlying43 ty66 rfl rfl h49 (h8.baseM hE rfl).els.flat q51 rfl) ?_
  rintro v52 w53 ⟨o54, ev55, h56⟩
  exact ⟨o54, ev55.sub rfl rfl, rfl, h56, trivial⟩
 ·intro vs60 o_ w_ hE h32 h40 h48 h56
  have h32 := tOw h32
  have h40 := tOw h40
  have h48 := tOw h48
  have h56 := tOw h56
  exact OW.q [(5, (vs60 2)), (8, (vs60 5)), (11, (vs60 8)), (14, (vs60 11))] ⟨rfl, rfl, rfl, rfl, trivial⟩ (OW.buildK Power [(0, [(vs60 2)]), (1, [(vs60 5)]), (2, [(vs60 8)]), (3, [(vs60 11)])] [(vs60 2), (vs60 5), (vs60 8), (vs60 11)] st45 ty45 rfl ⟨rfl, (cells_one (h32.one)), rfl, (cells_one (h40.one)), rfl, (cells_one (h48.one)), rfl, (cells_one (h56.one)), trivial⟩ rfl) (er rfl trivial)
 ·intro vs60 o_ w_ hE hb19 h32 h40 h48 h56
  have hb19 := tBk hb19
  have h32 := tOw h32
  have h40 := tOw h40
  have h48 := tOw h48
  have h56 := tOw h56
  refine OW.r [(2, .pointer (some pa15)), (15, .agg #[(vs60 2), (vs60 5), (vs60 8), (vs60 11)])] ⟨rfl, rfl, trivial⟩ (OW.storeK0 Power [(vs60 2), (vs60 5), (vs60 8), (vs60 11)] [(vs60 2), (vs60 5), (vs60 8), (vs60 11)] ty45 rfl rfl hb19 rfl ⟨(h32.one), (h40.one), (h48.one), (h56.one), trivial⟩ rfl rfl rfl) ?_
  rintro _ w57 ⟨ev58, hb59⟩
  exact ⟨o_, ev58.sub rfl rfl, trivial, hb59, trivial⟩
 ·intro vs60 o62 w61 hE hb14 h32 h40 h48 h56 hb59
  obtain ⟨hE, evT_⟩ := hE
  have hb14 : Bk o62 100 w61 pa10 [u1, u2, u3, u4] := hb14
  have h32 : Ow 4 o62 106 [] w61 (vs60 2) y26 := h32
  have h40 : Ow 64 o62 107 [] w61 (vs60 5) y34 := h40
  have h48 : Ow 3 o62 108 [] w61 (vs60 8) y42 := h48
  have h56 : Ow 66 o62 109 [] w61 (vs60 11) y50 := h56
  have hb59 : Bk o62 101 w61 pa15 [(vs60 2), (vs60 5), (vs60 8), (vs60 11)] := hb59
  have h20 := h20.evo evT_ rfl
  have h21 := h21.evo evT_ rfl
  have h22 := h22.evo evT_ rfl
  have h23 := h23.evo evT_ rfl
  refine hK24 _ _ ?_
  obtain rfl := Option.some.inj hF
  exact CW.rets (vs := [.agg #[(vs60 2), (vs60 5), (vs60 8), (vs60 11)]]) Try.results21 ⟨ResIs.bk Power (.agg #[(vs60 2), (vs60 5), (vs60 8), (vs60 11)]) ty45 rfl hb59 rfl rfl, trivial⟩ ⟨_, rfl, _, ((vs60 2)), ((vs60 5)), ((vs60 8)), ((vs60 11)), (hE.rn he0 104 [(106, 100), (107, 101), (108, 102), (109, 103)] rfl rfl), rfl, (h32.rn (c' := 100) (K' := []) rfl rfl), (h40.rn (c' := 101) (K' := []) rfl rfl), (h48.rn (c' := 102) (K' := []) rfl rfl), (h56.rn (c' := 103) (K' := []) rfl rfl)⟩ (fun _ _ h => h)

set_option maxHeartbeats 1000000 in
theorem dynposref01_Has_ok {a0 : (List Int)} {a1 : Int} {r : Bool} (hF : dynposref01_Has a0 a1 = some r) {w0 : World} {p0 : Value} {S0 : Nat → Prop} (g0 : Rv S0 w0 p0 a0) :
    Calls Try.prog 23 #[p0, .int .i64 a1] w0 (Ret fun v w' => ∃ (oc : Cls), En w0 (entM w0 [] [S0]) oc w' ∧ v = .bool r) := by
 obtain ⟨e0, he0⟩ : ∃ e0, e0 = entM w0 [] [S0] := ⟨_, rfl⟩
 have hE := En.refl w0 e0
 have g0 := g0.argM he0 0 (K := [40]) rfl (nosep rfl) rfl
 rw [dynposref01_Has] at hF
 refine enter (l := [p0, .int .i64 a1]) Try.func23 rfl Try.ntmps23 rfl ?_
 refine CW.sub (L' := [(0, p0), (1, .int .i64 a1)]) ⟨rfl, rfl, trivial⟩ ?_
 refine CW.sr fun K1 hK1 => ?_
 refine WL.p (.bool false) rfl rfl ?_
 refine WL.nx hK1 ?_
 refine CW.seq fun K2 hK2 => ?_
 refine CW.sr fun K3 hK3 => ?_
 refine WL.p p0 rfl rfl ?_
 refine WL.stepE (OW.len Try.underlying22 rfl (g0.baseM hE rfl)) rfl ?_
 refine WL.p (.int .i64 0) rfl rfl ?_
 refine WL.nx hK3 ?_
 refine CW.block ?_
 obtain ⟨r6, hl5, hF⟩ := bindE hF
 have hJ9 : ∀ (w7 : World) (o8 : Cls), .inl () = r6 → En w0 e0 o8 w7 → NK 17 K2 [] w7 := by
  intro  w7 o8  e_ hE
  subst e_
  have hF := elimL hF
  try dsimp only at hF
  refine hK2 _ _ ?_
  refine CW.sr fun K10 hK10 => ?_
  refine WL.p (.bool false) rfl rfl ?_
  refine WL.nx hK10 ?_
  obtain rfl := Option.some.inj hF
  exact CW.rets (vs := [.bool false]) Try.results23 ⟨rfl, trivial⟩ ⟨_, rfl, _, (hE.rn he0 100 [] rfl rfl), rfl⟩ (fun _ _ h => h)
 refine CW.sub (L' := [(1, .int .i64 a1), (7, p0), (8, .int .i64 (len a0)), (9, .int .i64 0)]) ⟨rfl, rfl, rfl, rfl, trivial⟩ ?_
 refine CW.loop (dynposref01_Has_L1 a0 a1) (fun s_ L_ w11 => ∃ (o12 : Cls) (x4 : Int), x4 = s_ ∧ L_ = [(1, .int .i64 a1), (7, p0), (8, .int .i64 (len a0)), (9, .int .i64 x4)] ∧ En w0 e0 o12 w11) hl5 ?_ ?_
 ·exact ⟨e0, 0, rfl, rfl, hE⟩
 intro K13 s_ L_ w11 hi_ x14 hx15 hr16 hk17
 obtain ⟨o12, x4, rfl, rfl, hE⟩ := hi_
 rw [dynposref01_Has_L1] at hx15
 refine CW.sr fun K18 hK18 => ?_
 refine WL.p (.bool ((decide (x4 < (len a0))))) rfl rfl ?_
 refine WL.nx hK18 ?_
 refine CW.seq fun K19 hK19 => ?_
 refine CW.cond (b := (decide (x4 < (len a0)))) rfl (fun hc20 => ?_) (fun hc20 => ?_)
 ·have hx15 := iteT hc20 hx15
  refine CW.skip ?_
  refine hK19 _ _ ?_
  refine CW.seq fun K21 hK21 => ?_
  refine CW.block ?_
  refine CW.sr fun K22 hK22 => ?_
  obtain ⟨y23, q27, hx15⟩ := bindE hx15
  refine WL.stepP (OW.indexAddr Try.underlying22 ty3 rfl (g0.baseM hE rfl) rfl q27) rfl fun _ ⟨pa24, hv_, hp25, he26⟩ => ?_
  subst hv_
  refine WL.stepE (OW.loadI ty3 rfl hp25) rfl ?_
  refine WL.p (.int .i64 y23) rfl rfl ?_
  refine WL.nx hK22 ?_
  refine CW.sr fun K28 hK28 => ?_
  refine WL.p (.int .i64 y23) rfl rfl ?_
  refine WL.p (.int .i64 a1) rfl rfl ?_
  refine WL.p (.bool (((y23 == a1)))) rfl rfl ?_
  refine WL.nx hK28 ?_
  refine CW.cond (b := ((y23 == a1))) rfl (fun hc29 => ?_) (fun hc29 => ?_)
  ·have hx15 := iteT hc29 hx15
   refine CW.sr fun K30 hK30 => ?_
   refine WL.p (.bool true) rfl rfl ?_
   refine WL.nx hK30 ?_
   have e_ := hr16 _ (Option.some.inj hx15).symm
   subst e_
   have hF := elimR hF
   obtain rfl := Option.some.inj hF
   exact CW.rets (vs := [.bool true]) Try.results23 ⟨rfl, trivial⟩ ⟨_, rfl, _, (hE.rn he0 100 [] rfl rfl), rfl⟩ (fun _ _ h => h)
  ·have hx15 := iteF hc29 hx15
   refine CW.skip ?_
   refine hK21 _ _ ?_
   refine CW.region ?_
   refine WL.p (.int .i64 ((W (x4 + 1)))) rfl rfl ?_
   refine WL.p (.int .i64 ((W (x4 + 1)))) rfl rfl ?_
   refine WL.nil ?_
   exact NK.sb (hk17 _ _ _ (Option.some.inj hx15).symm ⟨o12, (W (x4 + 1)), rfl, rfl, hE⟩) ⟨rfl, rfl, rfl, rfl, trivial⟩
 ·have hx15 := iteF hc20 hx15
  refine CW.exit ?_
  exact NK.sb (hJ9 w11 o12 (hr16 _ (Option.some.inj hx15).symm) hE) trivial

end Go.Proofs.Ytnpghnnlcakbfaa
