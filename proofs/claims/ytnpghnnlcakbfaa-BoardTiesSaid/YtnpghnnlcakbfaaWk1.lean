/- Walks. Written by a program (wip/gen). -/
import Derived.Test.YtnpghnnlcakbfaaHw
set_option linter.unusedVariables false
set_option linter.unusedSimpArgs false
namespace Go.Proofs.Ytnpghnnlcakbfaa
open Go Go.RowKit Dp

set_option maxRecDepth 100000

set_option maxHeartbeats 1000000 in
theorem Src_Range_ok {st0 : List Int} {a1 : Int} {a2 : Int} {r : (Int × List Int)} (hF : Src_Range st0 a1 a2 = some r) {w0 : World} {sb : Nat} {sv : Value} {sL : List Int} {Ss : Nat → Prop} (hs : SrcB w0 sb sv sL st0) (hL : Rv Ss w0 sv sL) (hLn : ∀ b, b < w0.heap.size → Ss b → b ∉ [sb]) (hmb : [sb].Nodup) :
    Calls Try.prog 12 #[.pointer (some ⟨sb, 0, none⟩), .int .i64 a1, .int .i64 a2] w0 (Ret fun v w' => ∃ (oc : Cls), En w0 (entM w0 [sb] [Ss]) oc w' ∧ v = .int .i64 r.1 ∧ SrcC oc 1 w' sb sv sL r.2) := by
 obtain ⟨e0, he0⟩ : ∃ e0, e0 = entM w0 [sb] [Ss] := ⟨_, rfl⟩
 have hE := En.refl w0 e0
 have hs := hs.inM he0 hmb 0 rfl
 have hL := hL.argM he0 0 (K := [40]) rfl hLn rfl
 rw [Src_Range] at hF
 refine enter (l := [.pointer (some ⟨sb, 0, none⟩), .int .i64 a1, .int .i64 a2]) Try.func12 rfl Try.ntmps12 rfl ?_
 refine CW.sub (L' := [(0, .pointer (some ⟨sb, 0, none⟩)), (1, .int .i64 a1), (2, .int .i64 a2)]) ⟨rfl, rfl, rfl, trivial⟩ ?_
 refine CW.sr fun K1 hK1 => ?_
 refine WL.p (.int .i64 0) rfl rfl ?_
 refine WL.nx hK1 ?_
 refine CW.sr fun K2 hK2 => ?_
 refine WL.p (.int .i64 a1) rfl rfl ?_
 refine WL.p (.pointer (some ⟨sb, 0, none⟩)) rfl rfl ?_
 refine WL.p (.int .i64 a2) rfl rfl ?_
 refine WL.p (.int .i64 a1) rfl rfl ?_
 refine WL.p (.int .i64 ((W (a2 - a1)))) rfl rfl ?_
 refine WL.p (.int .i64 ((W (((W (a2 - a1))) + 1)))) rfl rfl ?_
 have hm3 : MbOk e0 w0 0 [sb] [1] := ⟨.inl ⟨hs.1.lt, hs.2⟩, trivial⟩
 obtain ⟨⟨y4, st5⟩, q6, hF⟩ := bindE hF
 dsimp only at hF
 refine WL.step (OW.call Try.call13 rfl (Src_N_ok q6 hs.1 (hL.baseM hE rfl) (hm3.sep rfl) (hm3.nodup rfl))) rfl ?_
 rintro _ w7 ⟨o11, hn_, rfl, hs⟩
 obtain ⟨o8, ev9, hA10⟩ := adopt (o := e0) (ks := [1]) (Ks := [[40]]) 100 ([]) [1, 100] hn_ hm3 rfl rfl rfl rfl
 have hs := hs.ad (c' := 1) hA10 rfl
 have hE := hE.evo ev9 rfl rfl
 refine WL.p (.int .i64 ((W (a1 + y4)))) rfl rfl ?_
 refine WL.p (.int .i64 ((W (a1 + y4)))) rfl rfl ?_
 refine WL.nx hK2 ?_
 obtain rfl := Option.some.inj hF
 exact CW.rets (vs := [.int .i64 ((W (a1 + y4)))]) Try.results12 ⟨rfl, trivial⟩ ⟨_, rfl, _, (hE.rn he0 100 [] rfl rfl), rfl, (hs.rn (c' := 1) rfl)⟩ (fun _ _ h => h)

set_option maxHeartbeats 1000000 in
theorem Src_Pick_ok {st0 : List Int} {a1 : (List Int)} {r : (Int × List Int)} (hF : Src_Pick st0 a1 = some r) {w0 : World} {sb : Nat} {sv : Value} {sL : List Int} {Ss : Nat → Prop} (hs : SrcB w0 sb sv sL st0) (hL : Rv Ss w0 sv sL) (hLn : ∀ b, b < w0.heap.size → Ss b → b ∉ [sb]) {p1 : Value} {S1 : Nat → Prop} (g1 : Rv S1 w0 p1 a1) (n1 : ∀ b, b < w0.heap.size → S1 b → b ∉ [sb]) (hmb : [sb].Nodup) :
    Calls Try.prog 44 #[.pointer (some ⟨sb, 0, none⟩), p1] w0 (Ret fun v w' => ∃ (oc : Cls), En w0 (entM w0 [sb] [Ss, S1]) oc w' ∧ v = .int .i64 r.1 ∧ SrcC oc 1 w' sb sv sL r.2) := by
 obtain ⟨e0, he0⟩ : ∃ e0, e0 = entM w0 [sb] [Ss, S1] := ⟨_, rfl⟩
 have hE := En.refl w0 e0
 have hs := hs.inM he0 hmb 0 rfl
 have hL := hL.argM he0 0 (K := [40]) rfl hLn rfl
 have g1 := g1.argM he0 1 (K := [40, 41]) rfl n1 rfl
 rw [Src_Pick] at hF
 refine enter (l := [.pointer (some ⟨sb, 0, none⟩), p1]) Try.func44 rfl Try.ntmps44 rfl ?_
 refine CW.sub (L' := [(0, .pointer (some ⟨sb, 0, none⟩)), (1, p1)]) ⟨rfl, rfl, trivial⟩ ?_
 refine CW.sr fun K1 hK1 => ?_
 refine WL.p (.int .i64 0) rfl rfl ?_
 refine WL.nx hK1 ?_
 refine CW.sr fun K2 hK2 => ?_
 refine WL.p p1 rfl rfl ?_
 refine WL.p (.pointer (some ⟨sb, 0, none⟩)) rfl rfl ?_
 refine WL.p p1 rfl rfl ?_
 refine WL.stepE (OW.len Try.underlying22 rfl (g1.baseM hE rfl)) rfl ?_
 have hm3 : MbOk e0 w0 0 [sb] [1] := ⟨.inl ⟨hs.1.lt, hs.2⟩, trivial⟩
 obtain ⟨⟨y4, st5⟩, q6, hF⟩ := bindE hF
 dsimp only at hF
 refine WL.step (OW.call Try.call13 rfl (Src_N_ok q6 hs.1 (hL.baseM hE rfl) (hm3.sep rfl) (hm3.nodup rfl))) rfl ?_
 rintro _ w7 ⟨o11, hn_, rfl, hs⟩
 obtain ⟨o8, ev9, hA10⟩ := adopt (o := e0) (ks := [1]) (Ks := [[40]]) 100 ([]) [1, 100] hn_ hm3 rfl rfl rfl rfl
 have hs := hs.ad (c' := 1) hA10 rfl
 have hE := hE.evo ev9 rfl rfl
 obtain ⟨y12, q16, hF⟩ := bindE hF
 refine WL.stepP (OW.indexAddr Try.underlying22 ty3 rfl (g1.baseM hE rfl) rfl q16) rfl fun _ ⟨pa13, hv_, hp14, he15⟩ => ?_
 subst hv_
 refine WL.stepE (OW.loadI ty3 rfl hp14) rfl ?_
 refine WL.p (.int .i64 y12) rfl rfl ?_
 refine WL.nx hK2 ?_
 obtain rfl := Option.some.inj hF
 exact CW.rets (vs := [.int .i64 y12]) Try.results44 ⟨rfl, trivial⟩ ⟨_, rfl, _, (hE.rn he0 100 [] rfl rfl), rfl, (hs.rn (c' := 1) rfl)⟩ (fun _ _ h => h)

end Go.Proofs.Ytnpghnnlcakbfaa
