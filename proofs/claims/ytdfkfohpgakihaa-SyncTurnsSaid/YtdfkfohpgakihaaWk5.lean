/- Walks. Written by a program (wip/gen). -/
import Derived.Test.YtdfkfohpgakihaaHw
import Derived.Test.YtdfkfohpgakihaaWk1
import Derived.Test.YtdfkfohpgakihaaWk4
set_option linter.unusedVariables false
set_option linter.unusedSimpArgs false
namespace Go.Proofs.Ytdfkfohpgakihaa
open Go Go.RowKit Dp

set_option maxRecDepth 100000

set_option maxHeartbeats 1000000 in
theorem board_broken_ok {a0 : Board} {a1 : (List Part)} {r : Bool} (hF : board_broken a0 a1 = some r) {w0 : World} {p0 : Value} {S0 : Nat → Prop} (g0 : Rv S0 w0 p0 a0) {p1 : Value} {S1 : Nat → Prop} (g1 : Rv S1 w0 p1 a1) :
    Calls Try.prog 59 #[p0, p1] w0 (Ret fun v w' => ∃ (oc : Cls), En w0 (entM w0 [] [S0, S1]) oc w' ∧ v = .bool r) := by
 obtain ⟨e0, he0⟩ : ∃ e0, e0 = entM w0 [] [S0, S1] := ⟨_, rfl⟩
 have hE := En.refl w0 e0
 have g0 := g0.argM he0 0 (K := [40]) rfl (nosep rfl) rfl
 have g1 := g1.argM he0 1 (K := [40, 41]) rfl (nosep rfl) rfl
 obtain ⟨u1, u2, u3, rfl, h4, h5, h6⟩ := op29 g0
 rw [board_broken] at hF
 refine enter (l := [.agg #[.int .i64 a0.Buses, u1, u2, u3, .int .i64 a0.Phase, .int .i64 a0.Frequency], p1]) Try.func59 rfl Try.ntmps59 rfl ?_
 refine CW.sub (L' := [(0, .agg #[.int .i64 a0.Buses, u1, u2, u3, .int .i64 a0.Phase, .int .i64 a0.Frequency]), (1, p1)]) ⟨rfl, rfl, trivial⟩ ?_
 refine CW.sr fun K7 hK7 => ?_
 refine WL.step (OW.boxK (o := e0) 100 [.int .i64 a0.Buses, u1, u2, u3, .int .i64 a0.Phase, .int .i64 a0.Frequency] rfl rfl) rfl ?_
 rintro _ w10 ⟨pa8, o9, rfl, ev11, hb12⟩
 have hE := hE.evo ev11 rfl rfl
 refine WL.p (.bool false) rfl rfl ?_
 refine WL.nx hK7 ?_
 refine CW.seq fun K13 hK13 => ?_
 refine CW.sr fun K14 hK14 => ?_
 refine WL.p p1 rfl rfl ?_
 refine WL.stepE (OW.len Try.underlying32 rfl (g1.baseM hE rfl)) rfl ?_
 refine WL.p (.int .i64 0) rfl rfl ?_
 refine WL.nx hK14 ?_
 refine CW.block ?_
 obtain ⟨r17, hl16, hF⟩ := bindE hF
 have hJ20 : ∀ (w18 : World) (o19 : Cls), .inl () = r17 → En w0 e0 o19 w18 → NK 54 K13 [(1, p1)] w18 := by
  intro  w18 o19  e_ hE
  subst e_
  have hF := elimL hF
  try dsimp only at hF
  refine hK13 _ _ ?_
  refine CW.sr fun K21 hK21 => ?_
  refine WL.p p1 rfl rfl ?_
  refine WL.stepE (OW.len Try.underlying32 rfl (g1.baseM hE rfl)) rfl ?_
  refine WL.p (.bool ((decide ((len a1) ≤ 32)))) rfl rfl ?_
  refine WL.p (.bool ((decide ((len a1) ≤ 32)))) rfl rfl ?_
  refine WL.nx hK21 ?_
  obtain rfl := Option.some.inj hF
  exact CW.rets (vs := [.bool ((decide ((len a1) ≤ 32)))]) Try.results59 ⟨rfl, trivial⟩ ⟨_, rfl, _, (hE.rn he0 100 [] rfl rfl), rfl⟩ (fun _ _ h => h)
 refine CW.sub (L' := [(1, p1), (2, .pointer (some pa8)), (7, p1), (8, .int .i64 (len a1)), (9, .int .i64 0)]) ⟨rfl, rfl, rfl, rfl, rfl, trivial⟩ ?_
 refine CW.loop (board_broken_L1 a0 a1) (fun s_ L_ w22 => ∃ (o23 : Cls) (x15 : Int), x15 = s_ ∧ L_ = [(1, p1), (2, .pointer (some pa8)), (7, p1), (8, .int .i64 (len a1)), (9, .int .i64 x15)] ∧ En w0 e0 o23 w22 ∧ Bk o23 100 w22 pa8 [.int .i64 a0.Buses, u1, u2, u3, .int .i64 a0.Phase, .int .i64 a0.Frequency]) hl16 ?_ ?_
 ·exact ⟨o9, 0, rfl, rfl, hE, hb12⟩
 intro K24 s_ L_ w22 hi_ x25 hx26 hr27 hk28
 obtain ⟨o23, x15, rfl, rfl, hE, hb12⟩ := hi_
 rw [board_broken_L1] at hx26
 refine CW.sr fun K29 hK29 => ?_
 refine WL.p (.bool ((decide (x15 < (len a1))))) rfl rfl ?_
 refine WL.nx hK29 ?_
 refine CW.seq fun K30 hK30 => ?_
 refine CW.cond (b := (decide (x15 < (len a1)))) rfl (fun hc31 => ?_) (fun hc31 => ?_)
 ·have hx26 := iteT hc31 hx26
  refine CW.skip ?_
  refine hK30 _ _ ?_
  refine CW.seq fun K32 hK32 => ?_
  refine CW.block ?_
  refine CW.sr fun K33 hK33 => ?_
  refine WL.p (.int .i64 x15) rfl rfl ?_
  obtain ⟨y34, q38, hx26⟩ := bindE hx26
  refine WL.stepP (OW.indexAddr Try.underlying32 ty65 rfl (g1.baseM hE rfl) rfl q38) rfl fun _ ⟨pa35, hv_, hp36, he37⟩ => ?_
  subst hv_
  refine WL.stepP (OW.load ty65 rfl hp36) rfl fun v39 h40 => ?_
  obtain rfl := op65 h40
  refine WL.step (OW.allocK (o := o23) Part 101 [.int .i64 0, .int .i64 0] ty65 rfl) rfl ?_
  rintro _ w43 ⟨pa41, o42, rfl, ev44, hb45⟩
  have hE := hE.evo ev44 rfl rfl
  have hb12 := hb12.evo ev44 rfl
  refine WL.p (.int .i64 x15) rfl rfl ?_
  refine WL.step0 (OW.storeK0 Part [.int .i64 y34.Kind, .int .i64 y34.Number] [.int .i64 y34.Kind, .int .i64 y34.Number] ty65 rfl rfl hb45 rfl ⟨rfl, rfl, trivial⟩ rfl rfl rfl) ?_
  rintro _ w46 ⟨ev47, hb45⟩
  have hE := hE.evo ev47 rfl rfl
  have hb12 := hb12.evo ev47 rfl
  refine WL.nx hK33 ?_
  refine CW.seq fun K48 hK48 => ?_
  obtain ⟨y49, q50, hx26⟩ := bindE hx26
  obtain ⟨y56, q57, hx26⟩ := bindE hx26
  obtain ⟨x63, q64, hx26⟩ := bindE hx26
  have hJ67 : ∀ (w65 : World) (o66 : Cls), En w0 e0 o66 w65 → Bk o66 100 w65 pa8 [.int .i64 a0.Buses, u1, u2, u3, .int .i64 a0.Phase, .int .i64 a0.Frequency] → NK 54 K48 [(1, p1), (2, .pointer (some pa8)), (7, p1), (8, .int .i64 (len a1)), (9, .int .i64 x15), (49, .bool x63)] w65 := by
   intro w65 o66  hE hb12
   refine hK48 _ _ ?_
   refine CW.cond (b := x63) rfl (fun hc68 => ?_) (fun hc68 => ?_)
   ·have hx26 := iteT hc68 hx26
    refine CW.sr fun K69 hK69 => ?_
    refine WL.p (.bool false) rfl rfl ?_
    refine WL.nx hK69 ?_
    have e_ := hr27 _ (Option.some.inj hx26).symm
    subst e_
    have hF := elimR hF
    obtain rfl := Option.some.inj hF
    exact CW.rets (vs := [.bool false]) Try.results59 ⟨rfl, trivial⟩ ⟨_, rfl, _, (hE.rn he0 100 [] rfl rfl), rfl⟩ (fun _ _ h => h)
   ·have hx26 := iteF hc68 hx26
    refine CW.skip ?_
    refine hK32 _ _ ?_
    refine CW.region ?_
    refine WL.p (.int .i64 ((W (x15 + 1)))) rfl rfl ?_
    refine WL.p (.int .i64 ((W (x15 + 1)))) rfl rfl ?_
    refine WL.nil ?_
    exact NK.sb (hk28 _ _ _ (Option.some.inj hx26).symm ⟨o66, (W (x15 + 1)), rfl, rfl, hE, hb12⟩) ⟨rfl, rfl, rfl, rfl, rfl, trivial⟩
  rcases Bool.eq_false_or_eq_true (!y56) with hc70 | hc70
  ·have q64 := iteT hc70 q64
   have ev_ := Evo.drew o42 w46
   refine CW.anyS (N := [102, 103]) hmix [sBk none none [] 101 (vk pa41) (vk ([.int .i64 y34.Kind, .int .i64 y34.Number])), sBk none none [] 100 (vk pa8) (vk ([.int .i64 a0.Buses, u1, u2, u3, .int .i64 a0.Phase, .int .i64 a0.Frequency]))] [⟨[], [], [], [], vk (.pointer (some (pa41.add 1))), false⟩, ⟨[], [0], [0], [], vk (.int .i64 y34.Number), false⟩, ⟨[], [1], [], [], vk (.agg #[.int .i64 a0.Buses, u1, u2, u3, .int .i64 a0.Phase, .int .i64 a0.Frequency]), false⟩, ⟨[], [], [], [], vk (.pointer (some (pa41.add 0))), false⟩, ⟨[], [0], [3], [], vk (.int .i64 y34.Kind), false⟩, ⟨[], [], [2, 3, 4], [], vk (.int .i64 y49), false⟩, ⟨[], [], rg 2 4, [], vk (.int .i64 ((W (y49 - 1)))), false⟩, ⟨[], [], rg 0 7, [], vk (.bool y56), false⟩, ⟨[], [], rg 0 8, [], vk (.bool (!y56)), false⟩, ⟨[], [], rg 0 9, [], vk (.bool (!y56)), false⟩, ⟨[], [], rg 0 10, [], vk undef, true⟩, ⟨[], [], rg 0 11, [], vk undef, true⟩, ⟨[], [], rg 0 12, [], vk undef, true⟩, ⟨[], [], rg 0 13, [], vk undef, true⟩, ⟨[], [], rg 0 13, [], vk undef, true⟩, ⟨[], [], [0, 1, 2, 3, 4, 5, 6, 7, 8, 9, 10, 11, 12, 14], [], vk undef, true⟩, ⟨[], [], rg 0 16, [], vk undef, true⟩, ⟨[], [], rg 0 17, [], vk undef, true⟩, ⟨[], [], rg 0 18, [], vk undef, true⟩, ⟨[], [], rg 0 13, [], vk undef, true⟩, ⟨[], [], [0, 1, 2, 3, 4, 5, 6, 7, 8, 9, 10, 11, 12, 19], [], vk undef, true⟩, ⟨[], [], rg 0 21, [], vk undef, true⟩, ⟨[], [], rg 0 13, [], vk undef, true⟩, ⟨[], [], rg 0 13, [], vk undef, true⟩, ⟨[], [], [0, 1, 2, 3, 4, 5, 6, 7, 8, 9, 10, 11, 12, 23], [], vk undef, true⟩, ⟨[], [], [0, 1, 2, 3, 4, 5, 6, 7, 8, 9, 10, 11, 12, 22, 23, 24], [], vk undef, true⟩, ⟨[], [], [0, 1, 2, 3, 4, 5, 6, 7, 8, 9, 10, 11, 12, 22, 23, 24, 25], [], vk undef, true⟩, ⟨[], [], [0, 1, 2, 3, 4, 5, 6, 7, 8, 9, 10, 11, 12, 22, 23, 24, 25, 26], [], vk undef, true⟩, ⟨[], [], rg 0 13, [], vk undef, true⟩, ⟨[], [], [0, 1, 2, 3, 4, 5, 6, 7, 8, 9, 10, 11, 12, 28], [], vk undef, true⟩, ⟨[], [], rg 0 30, [], vk undef, true⟩, ⟨[], [], rg 0 31, [], vk undef, true⟩, ⟨[], [], rg 0 32, [], vk undef, true⟩, ⟨[], [], rg 0 33, [], vk undef, true⟩, ⟨[], [], rg 0 34, [], vk undef, true⟩, ⟨[], [], rg 0 35, [], vk (.bool true), false⟩] [] hE rfl (by kernel_rfl) (by kernel_rfl) ⟨hb45.evo ev_ rfl, hb12.evo ev_ rfl, trivial⟩ ⟨?_, ?_, ?_, ?_, ?_, ?_, Ob.pv rfl rfl (fun _ => rfl) rfl (fun _ _ _ => trivial), ?_, Ob.pv rfl rfl (fun _ => rfl) rfl (fun _ _ _ => trivial), Ob.pv rfl rfl (fun _ => rfl) rfl (fun _ _ _ => trivial), ?_, ?_, ?_, ?_, ?_, ?_, ?_, ?_, ?_, ?_, ?_, ?_, ?_, ?_, ?_, ?_, ?_, ?_, ?_, ?_, ?_, ?_, ?_, ?_, ?_, ?_, trivial⟩ ?_
   ·intro vs71 o_ w_ hE 
    exact OW.q [(6, .pointer (some pa41))] ⟨rfl, trivial⟩ (OW.fldAddr (FldOk.at f65_1) rfl) (er rfl trivial)
   ·intro vs71 o_ w_ hE hb45
    have hb45 := tBk hb45
    exact OW.q [(14, .pointer (some (pa41.add 1)))] ⟨rfl, trivial⟩ (OW.loadK (off := 1) Int (.int .i64 y34.Number) ty3 rfl hb45 rfl rfl) (er rfl trivial)
   ·intro vs71 o_ w_ hE hb12
    have hb12 := tBk hb12
    exact OW.q [(2, .pointer (some pa8))] ⟨rfl, trivial⟩ (OW.loadK0 Board (.agg #[.int .i64 a0.Buses, u1, u2, u3, .int .i64 a0.Phase, .int .i64 a0.Frequency]) ty29 rfl hb12 rfl rfl) (er rfl trivial)
   ·intro vs71 o_ w_ hE 
    exact OW.q [(6, .pointer (some pa41))] ⟨rfl, trivial⟩ (OW.fldAddr (FldOk.at f65_0) rfl) (er rfl trivial)
   ·intro vs71 o_ w_ hE hb45
    have hb45 := tBk hb45
    exact OW.q [(17, .pointer (some (pa41.add 0)))] ⟨rfl, trivial⟩ (OW.loadK (off := 0) Int (.int .i64 y34.Kind) ty3 rfl hb45 rfl rfl) (er rfl trivial)
   ·intro vs71 o_ w_ hE 
    have hE := hE.1
    refine OW.r [(16, .agg #[.int .i64 a0.Buses, u1, u2, u3, .int .i64 a0.Phase, .int .i64 a0.Frequency]), (18, .int .i64 y34.Kind)] ⟨rfl, rfl, trivial⟩ (OW.call Try.call88 rfl (board_size_ok q50 (mk29 (x := a0) (h4.baseM hE rfl) (h5.baseM hE rfl) (h6.baseM hE rfl)))) ?_
    rintro _ w51 ⟨o55, hn_, rfl⟩
    obtain ⟨o52, ev53, hA54⟩ := adopt (o := o_) (ks := []) (Ks := [[40]]) 102 ([]) [102] hn_ MbOk.nil rfl rfl rfl rfl
    exact ⟨o52, ev53.sub rfl rfl, rfl, trivial⟩
   ·intro vs71 o_ w_ hE 
    refine OW.r [(15, .int .i64 y34.Number), (20, .int .i64 ((W (y49 - 1))))] ⟨rfl, rfl, trivial⟩ (OW.call Try.call63 rfl (board_in_ok q57)) ?_
    rintro _ w58 ⟨o62, hn_, rfl⟩
    obtain ⟨o59, ev60, hA61⟩ := adopt (o := o_) (ks := []) (Ks := []) 103 ([]) [103] hn_ MbOk.nil rfl rfl rfl rfl
    exact ⟨o59, ev60.sub rfl rfl, rfl, trivial⟩
   ·intro vs71 o_ w_ hE 
    exact ⟨⟨_, rfl, .inl (congrArg (fun b => some (Value.bool b)) hc70)⟩, rfl, trivial⟩
   ·intro vs71 o_ w_ hE 
    exact ⟨⟨_, rfl, .inl (congrArg (fun b => some (Value.bool b)) hc70)⟩, rfl, trivial⟩
   ·intro vs71 o_ w_ hE 
    exact ⟨⟨_, rfl, .inl (congrArg (fun b => some (Value.bool b)) hc70)⟩, rfl, trivial⟩
   ·intro vs71 o_ w_ hE 
    exact ⟨⟨_, rfl, .inr rfl⟩, rfl, trivial⟩
   ·intro vs71 o_ w_ hE 
    exact ⟨⟨_, rfl, .inr rfl⟩, rfl, trivial⟩
   ·intro vs71 o_ w_ hE 
    exact ⟨⟨_, rfl, .inr rfl⟩, rfl, trivial⟩
   ·intro vs71 o_ w_ hE 
    exact ⟨⟨_, rfl, .inr rfl⟩, rfl, trivial⟩
   ·intro vs71 o_ w_ hE 
    exact ⟨⟨_, rfl, .inr rfl⟩, rfl, trivial⟩
   ·intro vs71 o_ w_ hE 
    exact ⟨⟨_, rfl, .inr rfl⟩, rfl, trivial⟩
   ·intro vs71 o_ w_ hE 
    exact ⟨⟨_, rfl, .inr rfl⟩, rfl, trivial⟩
   ·intro vs71 o_ w_ hE 
    exact ⟨⟨_, rfl, .inr rfl⟩, rfl, trivial⟩
   ·intro vs71 o_ w_ hE 
    exact ⟨⟨_, rfl, .inr rfl⟩, rfl, trivial⟩
   ·intro vs71 o_ w_ hE 
    exact ⟨⟨_, rfl, .inr rfl⟩, rfl, trivial⟩
   ·intro vs71 o_ w_ hE 
    exact ⟨⟨_, rfl, .inr rfl⟩, rfl, trivial⟩
   ·intro vs71 o_ w_ hE 
    exact ⟨⟨_, rfl, .inr rfl⟩, rfl, trivial⟩
   ·intro vs71 o_ w_ hE 
    exact ⟨⟨_, rfl, .inr rfl⟩, rfl, trivial⟩
   ·intro vs71 o_ w_ hE 
    exact ⟨⟨_, rfl, .inr rfl⟩, rfl, trivial⟩
   ·intro vs71 o_ w_ hE 
    exact ⟨⟨_, rfl, .inr rfl⟩, rfl, trivial⟩
   ·intro vs71 o_ w_ hE 
    exact ⟨⟨_, rfl, .inr rfl⟩, rfl, trivial⟩
   ·intro vs71 o_ w_ hE 
    exact ⟨⟨_, rfl, .inr rfl⟩, rfl, trivial⟩
   ·intro vs71 o_ w_ hE 
    exact ⟨⟨_, rfl, .inr rfl⟩, rfl, trivial⟩
   ·intro vs71 o_ w_ hE 
    exact ⟨⟨_, rfl, .inr rfl⟩, rfl, trivial⟩
   ·intro vs71 o_ w_ hE 
    exact ⟨⟨_, rfl, .inr rfl⟩, rfl, trivial⟩
   ·intro vs71 o_ w_ hE 
    exact ⟨⟨_, rfl, .inr rfl⟩, rfl, trivial⟩
   ·intro vs71 o_ w_ hE 
    exact ⟨⟨_, rfl, .inl (congrArg (fun b => some (Value.bool b)) hc70)⟩, rfl, trivial⟩
   ·intro vs71 o_ w_ hE 
    exact OW.q [(23, .bool (!y56)), (48, undef)] ⟨rfl, rfl, trivial⟩ (OW.pickT rfl hc70 rfl) (er rfl trivial)
   ·intro vs71 o73 w72 hE hb45 hb12
    obtain ⟨hE, evT_⟩ := hE
    have hb45 : Bk o73 101 w72 pa41 [.int .i64 y34.Kind, .int .i64 y34.Number] := hb45
    have hb12 : Bk o73 100 w72 pa8 [.int .i64 a0.Buses, u1, u2, u3, .int .i64 a0.Phase, .int .i64 a0.Frequency] := hb12
    have e74 := Option.some.inj q64
    subst e74
    exact NK.sb (hJ67 w72 o73 hE hb12) ⟨rfl, rfl, rfl, rfl, rfl, rfl, trivial⟩
  ·have q64 := iteF hc70 q64
   obtain ⟨z_, q77, q64⟩ := bindE q64
   obtain ⟨x75, x76⟩ := z_
   try dsimp only at q64
   have hJ80 : ∀ (w78 : World) (o79 : Cls), En w0 e0 o79 w78 → Bk o79 100 w78 pa8 [.int .i64 a0.Buses, u1, u2, u3, .int .i64 a0.Phase, .int .i64 a0.Frequency] → NK 54 K48 [(1, p1), (2, .pointer (some pa8)), (7, p1), (8, .int .i64 (len a1)), (9, .int .i64 x15), (24, .int .i64 x15), (25, .bool ((decide (x15 > 0)))), (26, .bool ((decide (x15 > 0)))), (48, .bool x75), (49, .bool x76)] w78 := by
    intro w78 o79  hE hb12
    have e81 := Option.some.inj q64
    subst e81
    exact NK.sb (hJ67 w78 o79 hE hb12) ⟨rfl, rfl, rfl, rfl, rfl, rfl, trivial⟩
   rcases Bool.eq_false_or_eq_true ((decide (x15 > 0))) with hc82 | hc82
   ·have q77 := iteT hc82 q77
    obtain ⟨y83, q87, q77⟩ := bindE q77
    obtain ⟨y88, q89, q77⟩ := bindE q77
    obtain ⟨y99, q100, q77⟩ := bindE q77
    obtain ⟨y111, q112, q77⟩ := bindE q77
    have ev_ := Evo.drew o42 w46
    refine CW.anyS (N := [102, 103, 104, 105, 106, 107]) hmix [sBk none none [] 101 (vk pa41) (vk ([.int .i64 y34.Kind, .int .i64 y34.Number])), sBk none none [] 100 (vk pa8) (vk ([.int .i64 a0.Buses, u1, u2, u3, .int .i64 a0.Phase, .int .i64 a0.Frequency])), sPt (some 16) none [16] [40, 41] (vp 0) y83, sEp (some 16) none [16] (vk p1) 2 ((W (x15 - 1))) (vp 0), sPt (some 25) none [25] [40, 41] (vp 0) y83, sEp (some 25) none [25] (vk p1) 2 ((W (x15 - 1))) (vp 0), sOw (some 31) none [31] 3 106 [] (vn 0) ([y88, y99] : List Int)] [⟨[], [], [], [], vk (.pointer (some (pa41.add 1))), false⟩, ⟨[], [0], [0], [], vk (.int .i64 y34.Number), false⟩, ⟨[], [1], [], [], vk (.agg #[.int .i64 a0.Buses, u1, u2, u3, .int .i64 a0.Phase, .int .i64 a0.Frequency]), false⟩, ⟨[], [], [], [], vk (.pointer (some (pa41.add 0))), false⟩, ⟨[], [0], [3], [], vk (.int .i64 y34.Kind), false⟩, ⟨[], [], [2, 3, 4], [], vk (.int .i64 y49), false⟩, ⟨[], [], rg 2 4, [], vk (.int .i64 ((W (y49 - 1)))), false⟩, ⟨[], [], rg 0 7, [], vk (.bool y56), false⟩, ⟨[], [], rg 0 8, [], vk (.bool (!y56)), false⟩, ⟨[], [], rg 0 9, [], vk (.bool (!y56)), false⟩, ⟨[], [], rg 0 10, [], vk (.int .i64 x15), false⟩, ⟨[], [], rg 0 11, [], vk (.bool ((decide (x15 > 0)))), false⟩, ⟨[], [], rg 0 12, [], vk (.bool ((decide (x15 > 0)))), false⟩, ⟨[], [], rg 0 13, [], vk p1, false⟩, ⟨[], [], rg 0 13, [], vk (.int .i64 x15), false⟩, ⟨[], [], [0, 1, 2, 3, 4, 5, 6, 7, 8, 9, 10, 11, 12, 14], [], vk (.int .i64 ((W (x15 - 1)))), false⟩, ⟨[], [], rg 0 16, [16], vq 0, false⟩, ⟨[], [], rg 0 17, [16], fun x_ => .pointer (some ((pOf (x_.getD 0 undef)).add 0)), false⟩, ⟨[], [2], rg 0 18, [], vk (.int .i64 y83.Kind), false⟩, ⟨[], [], rg 0 13, [], vk (.pointer (some (pa41.add 0))), false⟩, ⟨[], [0], [0, 1, 2, 3, 4, 5, 6, 7, 8, 9, 10, 11, 12, 19], [], vk (.int .i64 y34.Kind), false⟩, ⟨[], [], rg 0 21, [], vk (.int .i64 y88), false⟩, ⟨[], [], rg 0 13, [], vk p1, false⟩, ⟨[], [], rg 0 13, [], vk (.int .i64 x15), false⟩, ⟨[], [], [0, 1, 2, 3, 4, 5, 6, 7, 8, 9, 10, 11, 12, 23], [], vk (.int .i64 ((W (x15 - 1)))), false⟩, ⟨[], [], [0, 1, 2, 3, 4, 5, 6, 7, 8, 9, 10, 11, 12, 22, 23, 24], [25], vq 0, false⟩, ⟨[], [], [0, 1, 2, 3, 4, 5, 6, 7, 8, 9, 10, 11, 12, 22, 23, 24, 25], [25], fun x_ => .pointer (some ((pOf (x_.getD 0 undef)).add 1)), false⟩, ⟨[], [4], [0, 1, 2, 3, 4, 5, 6, 7, 8, 9, 10, 11, 12, 22, 23, 24, 25, 26], [], vk (.int .i64 y83.Number), false⟩, ⟨[], [], rg 0 13, [], vk (.pointer (some (pa41.add 1))), false⟩, ⟨[], [0], [0, 1, 2, 3, 4, 5, 6, 7, 8, 9, 10, 11, 12, 28], [], vk (.int .i64 y34.Number), false⟩, ⟨[], [], rg 0 30, [], vk (.int .i64 y99), false⟩, ⟨[], [], rg 0 31, [31], vn 0, false⟩, ⟨[], [6], rg 0 32, [], vk (.int .i64 y111), false⟩, ⟨[], [], rg 0 33, [], vk (.bool ((decide (y111 ≥ 0)))), false⟩, ⟨[], [], rg 0 34, [], vk (.bool ((decide (y111 ≥ 0)))), false⟩, ⟨[], [], rg 0 35, [], vk (.bool ((decide (y111 ≥ 0)))), false⟩] [] hE rfl (by kernel_rfl) (by kernel_rfl) ⟨hb45.evo ev_ rfl, hb12.evo ev_ rfl, trivial⟩ ⟨?_, ?_, ?_, ?_, ?_, ?_, Ob.pv rfl rfl (fun _ => rfl) rfl (fun _ _ _ => trivial), ?_, Ob.pv rfl rfl (fun _ => rfl) rfl (fun _ _ _ => trivial), Ob.pv rfl rfl (fun _ => rfl) rfl (fun _ _ _ => trivial), ?_, ?_, ?_, ?_, ?_, ?_, ?_, ?_, ?_, ?_, ?_, ?_, ?_, ?_, ?_, ?_, ?_, ?_, ?_, ?_, ?_, ?_, ?_, ?_, ?_, ?_, trivial⟩ ?_
    ·intro vs118 o_ w_ hE 
     exact OW.q [(6, .pointer (some pa41))] ⟨rfl, trivial⟩ (OW.fldAddr (FldOk.at f65_1) rfl) (er rfl trivial)
    ·intro vs118 o_ w_ hE hb45
     have hb45 := tBk hb45
     exact OW.q [(14, .pointer (some (pa41.add 1)))] ⟨rfl, trivial⟩ (OW.loadK (off := 1) Int (.int .i64 y34.Number) ty3 rfl hb45 rfl rfl) (er rfl trivial)
    ·intro vs118 o_ w_ hE hb12
     have hb12 := tBk hb12
     exact OW.q [(2, .pointer (some pa8))] ⟨rfl, trivial⟩ (OW.loadK0 Board (.agg #[.int .i64 a0.Buses, u1, u2, u3, .int .i64 a0.Phase, .int .i64 a0.Frequency]) ty29 rfl hb12 rfl rfl) (er rfl trivial)
    ·intro vs118 o_ w_ hE 
     exact OW.q [(6, .pointer (some pa41))] ⟨rfl, trivial⟩ (OW.fldAddr (FldOk.at f65_0) rfl) (er rfl trivial)
    ·intro vs118 o_ w_ hE hb45
     have hb45 := tBk hb45
     exact OW.q [(17, .pointer (some (pa41.add 0)))] ⟨rfl, trivial⟩ (OW.loadK (off := 0) Int (.int .i64 y34.Kind) ty3 rfl hb45 rfl rfl) (er rfl trivial)
    ·intro vs118 o_ w_ hE 
     have hE := hE.1
     refine OW.r [(16, .agg #[.int .i64 a0.Buses, u1, u2, u3, .int .i64 a0.Phase, .int .i64 a0.Frequency]), (18, .int .i64 y34.Kind)] ⟨rfl, rfl, trivial⟩ (OW.call Try.call88 rfl (board_size_ok q50 (mk29 (x := a0) (h4.baseM hE rfl) (h5.baseM hE rfl) (h6.baseM hE rfl)))) ?_
     rintro _ w51 ⟨o55, hn_, rfl⟩
     obtain ⟨o52, ev53, hA54⟩ := adopt (o := o_) (ks := []) (Ks := [[40]]) 102 ([]) [102] hn_ MbOk.nil rfl rfl rfl rfl
     exact ⟨o52, ev53.sub rfl rfl, rfl, trivial⟩
    ·intro vs118 o_ w_ hE 
     refine OW.r [(15, .int .i64 y34.Number), (20, .int .i64 ((W (y49 - 1))))] ⟨rfl, rfl, trivial⟩ (OW.call Try.call63 rfl (board_in_ok q57)) ?_
     rintro _ w58 ⟨o62, hn_, rfl⟩
     obtain ⟨o59, ev60, hA61⟩ := adopt (o := o_) (ks := []) (Ks := []) 103 ([]) [103] hn_ MbOk.nil rfl rfl rfl rfl
     exact ⟨o59, ev60.sub rfl rfl, rfl, trivial⟩
    ·intro vs118 o_ w_ hE 
     refine ⟨⟨_, rfl, congrArg (fun b => some (Value.bool b)) hc70⟩, ?_⟩
     exact OW.q [(5, .int .i64 x15)] ⟨rfl, trivial⟩ (OW.pv (v := (.int .i64 x15)) rfl) (er rfl trivial)
    ·intro vs118 o_ w_ hE 
     refine ⟨⟨_, rfl, congrArg (fun b => some (Value.bool b)) hc70⟩, ?_⟩
     exact OW.q [(24, .int .i64 x15)] ⟨rfl, trivial⟩ (OW.pv (v := (.bool ((decide (x15 > 0))))) rfl) (er rfl trivial)
    ·intro vs118 o_ w_ hE 
     refine ⟨⟨_, rfl, congrArg (fun b => some (Value.bool b)) hc70⟩, ?_⟩
     exact OW.q [(25, .bool ((decide (x15 > 0))))] ⟨rfl, trivial⟩ (OW.pv (v := (.bool ((decide (x15 > 0))))) rfl) (er rfl trivial)
    ·intro vs118 o_ w_ hE 
     refine ⟨⟨_, rfl, congrArg (fun b => some (Value.bool b)) hc82⟩, ?_⟩
     exact OW.q [(1, p1)] ⟨rfl, trivial⟩ (OW.pv (v := p1) rfl) (er rfl trivial)
    ·intro vs118 o_ w_ hE 
     refine ⟨⟨_, rfl, congrArg (fun b => some (Value.bool b)) hc82⟩, ?_⟩
     exact OW.q [(5, .int .i64 x15)] ⟨rfl, trivial⟩ (OW.pv (v := (.int .i64 x15)) rfl) (er rfl trivial)
    ·intro vs118 o_ w_ hE 
     refine ⟨⟨_, rfl, congrArg (fun b => some (Value.bool b)) hc82⟩, ?_⟩
     exact OW.q [(28, .int .i64 x15)] ⟨rfl, trivial⟩ (OW.pv (v := (.int .i64 ((W (x15 - 1))))) rfl) (er rfl trivial)
    ·intro vs118 o_ w_ hE 
     have hE := hE.1
     refine ⟨⟨_, rfl, congrArg (fun b => some (Value.bool b)) hc82⟩, ?_⟩
     refine OW.r [(27, p1), (29, .int .i64 ((W (x15 - 1))))] ⟨rfl, rfl, trivial⟩ (OW.indexAddr Try.underlying32 ty65 rfl (g1.baseM hE rfl) rfl q87) ?_
     rintro _ _ ⟨rfl, ⟨pa84, hv_, hp85, he86⟩⟩
     subst hv_
     exact ⟨_, Evo.refl _ _ _ _, rfl, hp85, he86, trivial⟩
    ·intro vs118 o_ w_ hE 
     refine ⟨⟨_, rfl, congrArg (fun b => some (Value.bool b)) hc82⟩, ?_⟩
     exact OW.q [(30, .pointer (some (pOf (vs118 16))))] ⟨rfl, trivial⟩ (OW.fldAddr (FldOk.at f65_0) rfl) (er rfl trivial)
    ·intro vs118 o_ w_ hE hp85
     have hp85 := tPt hp85
     refine ⟨⟨_, rfl, congrArg (fun b => some (Value.bool b)) hc82⟩, ?_⟩
     exact OW.q [(31, .pointer (some ((pOf (vs118 16)).add 0)))] ⟨rfl, trivial⟩ (OW.loadI ty3 rfl (hp85.fld f65_0)) (er rfl trivial)
    ·intro vs118 o_ w_ hE 
     refine ⟨⟨_, rfl, congrArg (fun b => some (Value.bool b)) hc82⟩, ?_⟩
     exact OW.q [(6, .pointer (some pa41))] ⟨rfl, trivial⟩ (OW.fldAddr (FldOk.at f65_0) rfl) (er rfl trivial)
    ·intro vs118 o_ w_ hE hb45
     have hb45 := tBk hb45
     refine ⟨⟨_, rfl, congrArg (fun b => some (Value.bool b)) hc82⟩, ?_⟩
     exact OW.q [(33, .pointer (some (pa41.add 0)))] ⟨rfl, trivial⟩ (OW.loadK (off := 0) Int (.int .i64 y34.Kind) ty3 rfl hb45 rfl rfl) (er rfl trivial)
    ·intro vs118 o_ w_ hE 
     refine ⟨⟨_, rfl, congrArg (fun b => some (Value.bool b)) hc82⟩, ?_⟩
     refine OW.r [(32, .int .i64 y83.Kind), (34, .int .i64 y34.Kind)] ⟨rfl, rfl, trivial⟩ (OW.call Try.call90 rfl (cmp_Compare_int_ok q89)) ?_
     rintro _ w90 ⟨o94, hn_, rfl⟩
     obtain ⟨o91, ev92, hA93⟩ := adopt (o := o_) (ks := []) (Ks := []) 104 ([]) [104] hn_ MbOk.nil rfl rfl rfl rfl
     exact ⟨o91, ev92.sub rfl rfl, rfl, trivial⟩
    ·intro vs118 o_ w_ hE 
     refine ⟨⟨_, rfl, congrArg (fun b => some (Value.bool b)) hc82⟩, ?_⟩
     exact OW.q [(1, p1)] ⟨rfl, trivial⟩ (OW.pv (v := p1) rfl) (er rfl trivial)
    ·intro vs118 o_ w_ hE 
     refine ⟨⟨_, rfl, congrArg (fun b => some (Value.bool b)) hc82⟩, ?_⟩
     exact OW.q [(5, .int .i64 x15)] ⟨rfl, trivial⟩ (OW.pv (v := (.int .i64 x15)) rfl) (er rfl trivial)
    ·intro vs118 o_ w_ hE 
     refine ⟨⟨_, rfl, congrArg (fun b => some (Value.bool b)) hc82⟩, ?_⟩
     exact OW.q [(37, .int .i64 x15)] ⟨rfl, trivial⟩ (OW.pv (v := (.int .i64 ((W (x15 - 1))))) rfl) (er rfl trivial)
    ·intro vs118 o_ w_ hE 
     have hE := hE.1
     refine ⟨⟨_, rfl, congrArg (fun b => some (Value.bool b)) hc82⟩, ?_⟩
     refine OW.r [(36, p1), (38, .int .i64 ((W (x15 - 1))))] ⟨rfl, rfl, trivial⟩ (OW.indexAddr Try.underlying32 ty65 rfl (g1.baseM hE rfl) rfl q87) ?_
     rintro _ _ ⟨rfl, ⟨pa96, hv_, hp97, he98⟩⟩
     subst hv_
     exact ⟨_, Evo.refl _ _ _ _, rfl, hp97, he98, trivial⟩
    ·intro vs118 o_ w_ hE 
     refine ⟨⟨_, rfl, congrArg (fun b => some (Value.bool b)) hc82⟩, ?_⟩
     exact OW.q [(39, .pointer (some (pOf (vs118 25))))] ⟨rfl, trivial⟩ (OW.fldAddr (FldOk.at f65_1) rfl) (er rfl trivial)
    ·intro vs118 o_ w_ hE hp97
     have hp97 := tPt hp97
     refine ⟨⟨_, rfl, congrArg (fun b => some (Value.bool b)) hc82⟩, ?_⟩
     exact OW.q [(40, .pointer (some ((pOf (vs118 25)).add 1)))] ⟨rfl, trivial⟩ (OW.loadI ty3 rfl (hp97.fld f65_1)) (er rfl trivial)
    ·intro vs118 o_ w_ hE 
     refine ⟨⟨_, rfl, congrArg (fun b => some (Value.bool b)) hc82⟩, ?_⟩
     exact OW.q [(6, .pointer (some pa41))] ⟨rfl, trivial⟩ (OW.fldAddr (FldOk.at f65_1) rfl) (er rfl trivial)
    ·intro vs118 o_ w_ hE hb45
     have hb45 := tBk hb45
     refine ⟨⟨_, rfl, congrArg (fun b => some (Value.bool b)) hc82⟩, ?_⟩
     exact OW.q [(42, .pointer (some (pa41.add 1)))] ⟨rfl, trivial⟩ (OW.loadK (off := 1) Int (.int .i64 y34.Number) ty3 rfl hb45 rfl rfl) (er rfl trivial)
    ·intro vs118 o_ w_ hE 
     refine ⟨⟨_, rfl, congrArg (fun b => some (Value.bool b)) hc82⟩, ?_⟩
     refine OW.r [(41, .int .i64 y83.Number), (43, .int .i64 y34.Number)] ⟨rfl, rfl, trivial⟩ (OW.call Try.call90 rfl (cmp_Compare_int_ok q100)) ?_
     rintro _ w101 ⟨o105, hn_, rfl⟩
     obtain ⟨o102, ev103, hA104⟩ := adopt (o := o_) (ks := []) (Ks := []) 105 ([]) [105] hn_ MbOk.nil rfl rfl rfl rfl
     exact ⟨o102, ev103.sub rfl rfl, rfl, trivial⟩
    ·intro vs118 o_ w_ hE 
     refine ⟨⟨_, rfl, congrArg (fun b => some (Value.bool b)) hc82⟩, ?_⟩
     refine OW.r [(35, .int .i64 y88), (44, .int .i64 y99)] ⟨rfl, rfl, trivial⟩ (OW.buildSlice (o := o_) (k := 106) (K := []) (xs := ([y88, y99] : List Int)) Try.underlying22 ty3 rfl ⟨(rv_int.2 rfl), (rv_int.2 rfl), trivial⟩ rfl rfl) ?_
     rintro v106 w107 ⟨o108, ev109, h110⟩
     exact ⟨o108, ev109.sub rfl rfl, rfl, h110, trivial⟩
    ·intro vs118 o_ w_ hE h110
     have h110 := tOw h110
     refine ⟨⟨_, rfl, congrArg (fun b => some (Value.bool b)) hc82⟩, ?_⟩
     refine OW.r [(45, (vs118 31))] ⟨rfl, trivial⟩ (OW.call Try.call89 rfl (cmp_Or_int_ok q112 h110.rv)) ?_
     rintro _ w113 ⟨o117, hn_, rfl⟩
     obtain ⟨o114, ev115, hA116⟩ := adopt (o := o_) (ks := []) (Ks := [[106]]) 107 ([]) [107] hn_ MbOk.nil rfl rfl rfl rfl
     exact ⟨o114, ev115.sub rfl rfl, rfl, trivial⟩
    ·intro vs118 o_ w_ hE 
     refine ⟨⟨_, rfl, congrArg (fun b => some (Value.bool b)) hc82⟩, ?_⟩
     exact OW.q [(46, .int .i64 y111)] ⟨rfl, trivial⟩ (OW.pv (v := (.bool ((decide (y111 ≥ 0))))) rfl) (er rfl trivial)
    ·intro vs118 o_ w_ hE 
     refine ⟨⟨_, rfl, congrArg (fun b => some (Value.bool b)) hc70⟩, ?_⟩
     exact OW.q [(26, .bool ((decide (x15 > 0)))), (47, .bool ((decide (y111 ≥ 0))))] ⟨rfl, rfl, trivial⟩ (OW.pickT rfl hc82 rfl) (er rfl trivial)
    ·intro vs118 o_ w_ hE 
     exact OW.q [(23, .bool (!y56)), (48, .bool ((decide (y111 ≥ 0))))] ⟨rfl, rfl, trivial⟩ (OW.pickF rfl hc70 rfl) (er rfl trivial)
    ·intro vs118 o120 w119 hE hb45 hb12 hp85 he86 hp97 he98 h110
     obtain ⟨hE, evT_⟩ := hE
     have hb45 : Bk o120 101 w119 pa41 [.int .i64 y34.Kind, .int .i64 y34.Number] := hb45
     have hb12 : Bk o120 100 w119 pa8 [.int .i64 a0.Buses, u1, u2, u3, .int .i64 a0.Phase, .int .i64 a0.Frequency] := hb12
     have hp85 : PtrAt (In o120 [40, 41]) w119 (pOf (vs118 16)) y83 := hp85
     have he86 : EPtr p1 2 ((W (x15 - 1))) (pOf (vs118 16)) := he86
     have hp97 : PtrAt (In o120 [40, 41]) w119 (pOf (vs118 25)) y83 := hp97
     have he98 : EPtr p1 2 ((W (x15 - 1))) (pOf (vs118 25)) := he98
     have h110 : Ow 3 o120 106 [] w119 (vs118 31) ([y88, y99] : List Int) := h110
     have e121 := Option.some.inj q77
     obtain ⟨e122, e123⟩ := Prod.mk.inj e121
     subst e122 e123
     exact NK.sb (hJ80 w119 o120 hE hb12) ⟨rfl, rfl, rfl, rfl, rfl, rfl, rfl, rfl, rfl, rfl, trivial⟩
   ·have q77 := iteF hc82 q77
    have ev_ := Evo.drew o42 w46
    refine CW.anyS (N := [102, 103]) hmix [sBk none none [] 101 (vk pa41) (vk ([.int .i64 y34.Kind, .int .i64 y34.Number])), sBk none none [] 100 (vk pa8) (vk ([.int .i64 a0.Buses, u1, u2, u3, .int .i64 a0.Phase, .int .i64 a0.Frequency]))] [⟨[], [], [], [], vk (.pointer (some (pa41.add 1))), false⟩, ⟨[], [0], [0], [], vk (.int .i64 y34.Number), false⟩, ⟨[], [1], [], [], vk (.agg #[.int .i64 a0.Buses, u1, u2, u3, .int .i64 a0.Phase, .int .i64 a0.Frequency]), false⟩, ⟨[], [], [], [], vk (.pointer (some (pa41.add 0))), false⟩, ⟨[], [0], [3], [], vk (.int .i64 y34.Kind), false⟩, ⟨[], [], [2, 3, 4], [], vk (.int .i64 y49), false⟩, ⟨[], [], rg 2 4, [], vk (.int .i64 ((W (y49 - 1)))), false⟩, ⟨[], [], rg 0 7, [], vk (.bool y56), false⟩, ⟨[], [], rg 0 8, [], vk (.bool (!y56)), false⟩, ⟨[], [], rg 0 9, [], vk (.bool (!y56)), false⟩, ⟨[], [], rg 0 10, [], vk (.int .i64 x15), false⟩, ⟨[], [], rg 0 11, [], vk (.bool ((decide (x15 > 0)))), false⟩, ⟨[], [], rg 0 12, [], vk (.bool ((decide (x15 > 0)))), false⟩, ⟨[], [], rg 0 13, [], vk undef, true⟩, ⟨[], [], rg 0 13, [], vk undef, true⟩, ⟨[], [], [0, 1, 2, 3, 4, 5, 6, 7, 8, 9, 10, 11, 12, 14], [], vk undef, true⟩, ⟨[], [], rg 0 16, [], vk undef, true⟩, ⟨[], [], rg 0 17, [], vk undef, true⟩, ⟨[], [], rg 0 18, [], vk undef, true⟩, ⟨[], [], rg 0 13, [], vk undef, true⟩, ⟨[], [], [0, 1, 2, 3, 4, 5, 6, 7, 8, 9, 10, 11, 12, 19], [], vk undef, true⟩, ⟨[], [], rg 0 21, [], vk undef, true⟩, ⟨[], [], rg 0 13, [], vk undef, true⟩, ⟨[], [], rg 0 13, [], vk undef, true⟩, ⟨[], [], [0, 1, 2, 3, 4, 5, 6, 7, 8, 9, 10, 11, 12, 23], [], vk undef, true⟩, ⟨[], [], [0, 1, 2, 3, 4, 5, 6, 7, 8, 9, 10, 11, 12, 22, 23, 24], [], vk undef, true⟩, ⟨[], [], [0, 1, 2, 3, 4, 5, 6, 7, 8, 9, 10, 11, 12, 22, 23, 24, 25], [], vk undef, true⟩, ⟨[], [], [0, 1, 2, 3, 4, 5, 6, 7, 8, 9, 10, 11, 12, 22, 23, 24, 25, 26], [], vk undef, true⟩, ⟨[], [], rg 0 13, [], vk undef, true⟩, ⟨[], [], [0, 1, 2, 3, 4, 5, 6, 7, 8, 9, 10, 11, 12, 28], [], vk undef, true⟩, ⟨[], [], rg 0 30, [], vk undef, true⟩, ⟨[], [], rg 0 31, [], vk undef, true⟩, ⟨[], [], rg 0 32, [], vk undef, true⟩, ⟨[], [], rg 0 33, [], vk undef, true⟩, ⟨[], [], rg 0 34, [], vk (.bool false), false⟩, ⟨[], [], rg 0 35, [], vk (.bool false), false⟩] [] hE rfl (by kernel_rfl) (by kernel_rfl) ⟨hb45.evo ev_ rfl, hb12.evo ev_ rfl, trivial⟩ ⟨?_, ?_, ?_, ?_, ?_, ?_, Ob.pv rfl rfl (fun _ => rfl) rfl (fun _ _ _ => trivial), ?_, Ob.pv rfl rfl (fun _ => rfl) rfl (fun _ _ _ => trivial), Ob.pv rfl rfl (fun _ => rfl) rfl (fun _ _ _ => trivial), ?_, ?_, ?_, ?_, ?_, ?_, ?_, ?_, ?_, ?_, ?_, ?_, ?_, ?_, ?_, ?_, ?_, ?_, ?_, ?_, ?_, ?_, ?_, ?_, ?_, ?_, trivial⟩ ?_
    ·intro vs124 o_ w_ hE 
     exact OW.q [(6, .pointer (some pa41))] ⟨rfl, trivial⟩ (OW.fldAddr (FldOk.at f65_1) rfl) (er rfl trivial)
    ·intro vs124 o_ w_ hE hb45
     have hb45 := tBk hb45
     exact OW.q [(14, .pointer (some (pa41.add 1)))] ⟨rfl, trivial⟩ (OW.loadK (off := 1) Int (.int .i64 y34.Number) ty3 rfl hb45 rfl rfl) (er rfl trivial)
    ·intro vs124 o_ w_ hE hb12
     have hb12 := tBk hb12
     exact OW.q [(2, .pointer (some pa8))] ⟨rfl, trivial⟩ (OW.loadK0 Board (.agg #[.int .i64 a0.Buses, u1, u2, u3, .int .i64 a0.Phase, .int .i64 a0.Frequency]) ty29 rfl hb12 rfl rfl) (er rfl trivial)
    ·intro vs124 o_ w_ hE 
     exact OW.q [(6, .pointer (some pa41))] ⟨rfl, trivial⟩ (OW.fldAddr (FldOk.at f65_0) rfl) (er rfl trivial)
    ·intro vs124 o_ w_ hE hb45
     have hb45 := tBk hb45
     exact OW.q [(17, .pointer (some (pa41.add 0)))] ⟨rfl, trivial⟩ (OW.loadK (off := 0) Int (.int .i64 y34.Kind) ty3 rfl hb45 rfl rfl) (er rfl trivial)
    ·intro vs124 o_ w_ hE 
     have hE := hE.1
     refine OW.r [(16, .agg #[.int .i64 a0.Buses, u1, u2, u3, .int .i64 a0.Phase, .int .i64 a0.Frequency]), (18, .int .i64 y34.Kind)] ⟨rfl, rfl, trivial⟩ (OW.call Try.call88 rfl (board_size_ok q50 (mk29 (x := a0) (h4.baseM hE rfl) (h5.baseM hE rfl) (h6.baseM hE rfl)))) ?_
     rintro _ w51 ⟨o55, hn_, rfl⟩
     obtain ⟨o52, ev53, hA54⟩ := adopt (o := o_) (ks := []) (Ks := [[40]]) 102 ([]) [102] hn_ MbOk.nil rfl rfl rfl rfl
     exact ⟨o52, ev53.sub rfl rfl, rfl, trivial⟩
    ·intro vs124 o_ w_ hE 
     refine OW.r [(15, .int .i64 y34.Number), (20, .int .i64 ((W (y49 - 1))))] ⟨rfl, rfl, trivial⟩ (OW.call Try.call63 rfl (board_in_ok q57)) ?_
     rintro _ w58 ⟨o62, hn_, rfl⟩
     obtain ⟨o59, ev60, hA61⟩ := adopt (o := o_) (ks := []) (Ks := []) 103 ([]) [103] hn_ MbOk.nil rfl rfl rfl rfl
     exact ⟨o59, ev60.sub rfl rfl, rfl, trivial⟩
    ·intro vs124 o_ w_ hE 
     refine ⟨⟨_, rfl, congrArg (fun b => some (Value.bool b)) hc70⟩, ?_⟩
     exact OW.q [(5, .int .i64 x15)] ⟨rfl, trivial⟩ (OW.pv (v := (.int .i64 x15)) rfl) (er rfl trivial)
    ·intro vs124 o_ w_ hE 
     refine ⟨⟨_, rfl, congrArg (fun b => some (Value.bool b)) hc70⟩, ?_⟩
     exact OW.q [(24, .int .i64 x15)] ⟨rfl, trivial⟩ (OW.pv (v := (.bool ((decide (x15 > 0))))) rfl) (er rfl trivial)
    ·intro vs124 o_ w_ hE 
     refine ⟨⟨_, rfl, congrArg (fun b => some (Value.bool b)) hc70⟩, ?_⟩
     exact OW.q [(25, .bool ((decide (x15 > 0))))] ⟨rfl, trivial⟩ (OW.pv (v := (.bool ((decide (x15 > 0))))) rfl) (er rfl trivial)
    ·intro vs124 o_ w_ hE 
     exact ⟨⟨_, rfl, .inl (congrArg (fun b => some (Value.bool b)) hc82)⟩, rfl, trivial⟩
    ·intro vs124 o_ w_ hE 
     exact ⟨⟨_, rfl, .inl (congrArg (fun b => some (Value.bool b)) hc82)⟩, rfl, trivial⟩
    ·intro vs124 o_ w_ hE 
     exact ⟨⟨_, rfl, .inl (congrArg (fun b => some (Value.bool b)) hc82)⟩, rfl, trivial⟩
    ·intro vs124 o_ w_ hE 
     exact ⟨⟨_, rfl, .inl (congrArg (fun b => some (Value.bool b)) hc82)⟩, rfl, trivial⟩
    ·intro vs124 o_ w_ hE 
     exact ⟨⟨_, rfl, .inl (congrArg (fun b => some (Value.bool b)) hc82)⟩, rfl, trivial⟩
    ·intro vs124 o_ w_ hE 
     exact ⟨⟨_, rfl, .inl (congrArg (fun b => some (Value.bool b)) hc82)⟩, rfl, trivial⟩
    ·intro vs124 o_ w_ hE 
     exact ⟨⟨_, rfl, .inl (congrArg (fun b => some (Value.bool b)) hc82)⟩, rfl, trivial⟩
    ·intro vs124 o_ w_ hE 
     exact ⟨⟨_, rfl, .inl (congrArg (fun b => some (Value.bool b)) hc82)⟩, rfl, trivial⟩
    ·intro vs124 o_ w_ hE 
     exact ⟨⟨_, rfl, .inl (congrArg (fun b => some (Value.bool b)) hc82)⟩, rfl, trivial⟩
    ·intro vs124 o_ w_ hE 
     exact ⟨⟨_, rfl, .inl (congrArg (fun b => some (Value.bool b)) hc82)⟩, rfl, trivial⟩
    ·intro vs124 o_ w_ hE 
     exact ⟨⟨_, rfl, .inl (congrArg (fun b => some (Value.bool b)) hc82)⟩, rfl, trivial⟩
    ·intro vs124 o_ w_ hE 
     exact ⟨⟨_, rfl, .inl (congrArg (fun b => some (Value.bool b)) hc82)⟩, rfl, trivial⟩
    ·intro vs124 o_ w_ hE 
     exact ⟨⟨_, rfl, .inl (congrArg (fun b => some (Value.bool b)) hc82)⟩, rfl, trivial⟩
    ·intro vs124 o_ w_ hE 
     exact ⟨⟨_, rfl, .inl (congrArg (fun b => some (Value.bool b)) hc82)⟩, rfl, trivial⟩
    ·intro vs124 o_ w_ hE 
     exact ⟨⟨_, rfl, .inl (congrArg (fun b => some (Value.bool b)) hc82)⟩, rfl, trivial⟩
    ·intro vs124 o_ w_ hE 
     exact ⟨⟨_, rfl, .inl (congrArg (fun b => some (Value.bool b)) hc82)⟩, rfl, trivial⟩
    ·intro vs124 o_ w_ hE 
     exact ⟨⟨_, rfl, .inl (congrArg (fun b => some (Value.bool b)) hc82)⟩, rfl, trivial⟩
    ·intro vs124 o_ w_ hE 
     exact ⟨⟨_, rfl, .inl (congrArg (fun b => some (Value.bool b)) hc82)⟩, rfl, trivial⟩
    ·intro vs124 o_ w_ hE 
     exact ⟨⟨_, rfl, .inl (congrArg (fun b => some (Value.bool b)) hc82)⟩, rfl, trivial⟩
    ·intro vs124 o_ w_ hE 
     exact ⟨⟨_, rfl, .inl (congrArg (fun b => some (Value.bool b)) hc82)⟩, rfl, trivial⟩
    ·intro vs124 o_ w_ hE 
     exact ⟨⟨_, rfl, .inl (congrArg (fun b => some (Value.bool b)) hc82)⟩, rfl, trivial⟩
    ·intro vs124 o_ w_ hE 
     refine ⟨⟨_, rfl, congrArg (fun b => some (Value.bool b)) hc70⟩, ?_⟩
     exact OW.q [(26, .bool ((decide (x15 > 0)))), (47, undef)] ⟨rfl, rfl, trivial⟩ (OW.pickF rfl hc82 rfl) (er rfl trivial)
    ·intro vs124 o_ w_ hE 
     exact OW.q [(23, .bool (!y56)), (48, .bool false)] ⟨rfl, rfl, trivial⟩ (OW.pickF rfl hc70 rfl) (er rfl trivial)
    ·intro vs124 o126 w125 hE hb45 hb12
     obtain ⟨hE, evT_⟩ := hE
     have hb45 : Bk o126 101 w125 pa41 [.int .i64 y34.Kind, .int .i64 y34.Number] := hb45
     have hb12 : Bk o126 100 w125 pa8 [.int .i64 a0.Buses, u1, u2, u3, .int .i64 a0.Phase, .int .i64 a0.Frequency] := hb12
     have e127 := Option.some.inj q77
     obtain ⟨e128, e129⟩ := Prod.mk.inj e127
     subst e128 e129
     exact NK.sb (hJ80 w125 o126 hE hb12) ⟨rfl, rfl, rfl, rfl, rfl, rfl, rfl, rfl, rfl, rfl, trivial⟩
 ·have hx26 := iteF hc31 hx26
  refine CW.exit ?_
  exact NK.sb (hJ20 w22 o23 (hr27 _ (Option.some.inj hx26).symm) hE) ⟨rfl, trivial⟩

set_option maxHeartbeats 1000000 in
theorem slices_IndexFunc_Running_Running_ok {a0 : (List Running)} {f1 : (Running → Option Bool)} {r : Int} (hF : slices_IndexFunc_Running_Running a0 f1 = some r) {w0 : World} {p0 : Value} {S0 : Nat → Prop} (g0 : Rv S0 w0 p0 a0) {q1 : FuncId} {z1 : Array Value} (m1 : Fn1 Try.prog q1 z1 (fun w => Bts [] w0 w) f1) :
    Calls Try.prog 91 #[p0, .func (.func q1) #[] z1] w0 (Ret fun v w' => ∃ (oc : Cls), En w0 (entM w0 [] [S0]) oc w' ∧ v = .int .i64 r) := by
 obtain ⟨e0, he0⟩ : ∃ e0, e0 = entM w0 [] [S0] := ⟨_, rfl⟩
 have hE := En.refl w0 e0
 have g0 := g0.argM he0 0 (K := [40]) rfl (nosep rfl) rfl
 rw [slices_IndexFunc_Running_Running] at hF
 refine enter (l := [p0, .func (.func q1) #[] z1]) Try.func91 rfl Try.ntmps91 rfl ?_
 refine CW.sub (L' := [(0, p0), (1, .func (.func q1) #[] z1)]) ⟨rfl, rfl, trivial⟩ ?_
 refine CW.sr fun K1 hK1 => ?_
 refine WL.p (.int .i64 0) rfl rfl ?_
 refine WL.nx hK1 ?_
 refine CW.seq fun K2 hK2 => ?_
 refine CW.sr fun K3 hK3 => ?_
 refine WL.p p0 rfl rfl ?_
 refine WL.stepE (OW.len Try.underlying31 rfl (g0.baseM hE rfl)) rfl ?_
 refine WL.p (.int .i64 0) rfl rfl ?_
 refine WL.nx hK3 ?_
 refine CW.block ?_
 obtain ⟨r6, hl5, hF⟩ := bindE hF
 have hJ9 : ∀ (w7 : World) (o8 : Cls), .inl () = r6 → En w0 e0 o8 w7 → NK 19 K2 [] w7 := by
  intro  w7 o8  e_ hE
  subst e_
  have hF := elimL hF
  try dsimp only at hF
  refine hK2 _ _ ?_
  refine CW.sr fun K10 hK10 => ?_
  refine WL.p (.int .i64 (-1)) rfl rfl ?_
  refine WL.nx hK10 ?_
  obtain rfl := Option.some.inj hF
  exact CW.rets (vs := [.int .i64 (-1)]) Try.results91 ⟨rfl, trivial⟩ ⟨_, rfl, _, (hE.rn he0 100 [] rfl rfl), rfl⟩ (fun _ _ h => h)
 refine CW.sub (L' := [(0, p0), (1, .func (.func q1) #[] z1), (7, .int .i64 (len a0)), (8, .int .i64 0)]) ⟨rfl, rfl, rfl, rfl, trivial⟩ ?_
 refine CW.loop (slices_IndexFunc_Running_Running_L1 a0 f1) (fun s_ L_ w11 => ∃ (o12 : Cls) (x4 : Int), x4 = s_ ∧ L_ = [(0, p0), (1, .func (.func q1) #[] z1), (7, .int .i64 (len a0)), (8, .int .i64 x4)] ∧ En w0 e0 o12 w11) hl5 ?_ ?_
 ·exact ⟨e0, 0, rfl, rfl, hE⟩
 intro K13 s_ L_ w11 hi_ x14 hx15 hr16 hk17
 obtain ⟨o12, x4, rfl, rfl, hE⟩ := hi_
 rw [slices_IndexFunc_Running_Running_L1] at hx15
 refine CW.sr fun K18 hK18 => ?_
 refine WL.p (.bool ((decide (x4 < (len a0))))) rfl rfl ?_
 refine WL.nx hK18 ?_
 refine CW.seq fun K19 hK19 => ?_
 refine CW.cond (b := (decide (x4 < (len a0)))) rfl (fun hc20 => ?_) (fun hc20 => ?_)
 ·have hx15 := iteT hc20 hx15
  refine CW.skip ?_
  refine hK19 _ _ ?_
  refine CW.seq fun K21 hK21 => ?_
  refine CW.block ?_
  refine CW.sr fun K22 hK22 => ?_
  refine WL.p (.int .i64 x4) rfl rfl ?_
  refine WL.p (.int .i64 x4) rfl rfl ?_
  refine WL.nx hK22 ?_
  refine CW.sr fun K23 hK23 => ?_
  refine WL.p (.func (.func q1) #[] z1) rfl rfl ?_
  refine WL.p p0 rfl rfl ?_
  refine WL.p (.int .i64 x4) rfl rfl ?_
  obtain ⟨y24, q28, hx15⟩ := bindE hx15
  refine WL.stepP (OW.indexAddr Try.underlying31 ty48 rfl (g0.baseM hE rfl) rfl q28) rfl fun _ ⟨pa25, hv_, hp26, he27⟩ => ?_
  subst hv_
  refine WL.stepP (OW.load ty48 rfl hp26) rfl fun v29 h30 => ?_
  obtain rfl := op48 h30
  obtain ⟨y31, q32, hx15⟩ := bindE hx15
  refine WL.step (OW.callV m1.1 rfl rfl (m1.2 _ (hE.bts he0 rfl) _ _ q32 _ _ (mk48 (S := In o12 []) (x := y24)))) rfl ?_
  rintro v39 w33 ⟨hb37, h38⟩
  obtain rfl := rv_bool.1 h38
  obtain ⟨o34, ev35, hn36⟩ := fresh_new (o := o12) 100 hb37
  have hE := hE.evo ev35 rfl rfl
  refine WL.nx hK23 ?_
  refine CW.cond (b := y31) rfl (fun hc40 => ?_) (fun hc40 => ?_)
  ·have hx15 := iteT hc40 hx15
   refine CW.sr fun K41 hK41 => ?_
   refine WL.p (.int .i64 x4) rfl rfl ?_
   refine WL.p (.int .i64 x4) rfl rfl ?_
   refine WL.nx hK41 ?_
   have e_ := hr16 _ (Option.some.inj hx15).symm
   subst e_
   have hF := elimR hF
   obtain rfl := Option.some.inj hF
   exact CW.rets (vs := [.int .i64 x4]) Try.results91 ⟨rfl, trivial⟩ ⟨_, rfl, _, (hE.rn he0 100 [] rfl rfl), rfl⟩ (fun _ _ h => h)
  ·have hx15 := iteF hc40 hx15
   refine CW.skip ?_
   refine hK21 _ _ ?_
   refine CW.region ?_
   refine WL.p (.int .i64 ((W (x4 + 1)))) rfl rfl ?_
   refine WL.p (.int .i64 ((W (x4 + 1)))) rfl rfl ?_
   refine WL.nil ?_
   exact NK.sb (hk17 _ _ _ (Option.some.inj hx15).symm ⟨o34, (W (x4 + 1)), rfl, rfl, hE⟩) ⟨rfl, rfl, rfl, rfl, trivial⟩
 ·have hx15 := iteF hc20 hx15
  refine CW.exit ?_
  exact NK.sb (hJ9 w11 o12 (hr16 _ (Option.some.inj hx15).symm) hE) trivial

set_option maxHeartbeats 1000000 in
theorem slices_ContainsFunc_Running_Running_ok {a0 : (List Running)} {f1 : (Running → Option Bool)} {r : Bool} (hF : slices_ContainsFunc_Running_Running a0 f1 = some r) {w0 : World} {p0 : Value} {S0 : Nat → Prop} (g0 : Rv S0 w0 p0 a0) {q1 : FuncId} {z1 : Array Value} (m1 : Fn1 Try.prog q1 z1 (fun w => Bts [] w0 w) f1) :
    Calls Try.prog 60 #[p0, .func (.func q1) #[] z1] w0 (Ret fun v w' => ∃ (oc : Cls), En w0 (entM w0 [] [S0]) oc w' ∧ v = .bool r) := by
 obtain ⟨e0, he0⟩ : ∃ e0, e0 = entM w0 [] [S0] := ⟨_, rfl⟩
 have hE := En.refl w0 e0
 have g0 := g0.argM he0 0 (K := [40]) rfl (nosep rfl) rfl
 rw [slices_ContainsFunc_Running_Running] at hF
 refine enter (l := [p0, .func (.func q1) #[] z1]) Try.func60 rfl Try.ntmps60 rfl ?_
 refine CW.sub (L' := [(0, p0), (1, .func (.func q1) #[] z1)]) ⟨rfl, rfl, trivial⟩ ?_
 refine CW.sr fun K1 hK1 => ?_
 refine WL.p (.bool false) rfl rfl ?_
 refine WL.nx hK1 ?_
 refine CW.sr fun K2 hK2 => ?_
 refine WL.p p0 rfl rfl ?_
 refine WL.p (.func (.func q1) #[] z1) rfl rfl ?_
 obtain ⟨y3, q4, hF⟩ := bindE hF
 refine WL.step (OW.call Try.call91 rfl (slices_IndexFunc_Running_Running_ok q4 (g0.baseM hE rfl) (m1.mono fun _ h_ => hE.on he0 rfl MbOk.nil rfl h_))) rfl ?_
 rintro _ w5 ⟨o9, hn_, rfl⟩
 obtain ⟨o6, ev7, hA8⟩ := adopt (o := e0) (ks := []) (Ks := [[40]]) 100 ([]) [100] hn_ MbOk.nil rfl rfl rfl rfl
 have hE := hE.evo ev7 rfl rfl
 refine WL.p (.bool ((decide (y3 ≥ 0)))) rfl rfl ?_
 refine WL.p (.bool ((decide (y3 ≥ 0)))) rfl rfl ?_
 refine WL.nx hK2 ?_
 obtain rfl := Option.some.inj hF
 exact CW.rets (vs := [.bool ((decide (y3 ≥ 0)))]) Try.results60 ⟨rfl, trivial⟩ ⟨_, rfl, _, (hE.rn he0 100 [] rfl rfl), rfl⟩ (fun _ _ h => h)

end Go.Proofs.Ytdfkfohpgakihaa
