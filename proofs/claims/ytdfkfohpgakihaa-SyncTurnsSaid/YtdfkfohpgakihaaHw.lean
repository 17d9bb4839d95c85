/- Contracts typed by hand. -/
import Derived.Test.YtdfkfohpgakihaaW0
set_option linter.unusedVariables false
set_option linter.unusedSimpArgs false
namespace Go.Proofs.Ytdfkfohpgakihaa
open Go Go.RowKit Dp
set_option maxRecDepth 100000

theorem mod_eq (x n : Int) : dynposmake_Mod x n = modO x n := by
  unfold dynposmake_Mod modO
  by_cases h : n < 1
  · simp [h]
  · simp only [h, decide_false, if_false, Bool.false_eq_true]
    cases remO x n with
    | none => rfl
    | some y =>
      simp only [Option.bind_some]
      cases remO (W (y + n)) n <;> rfl

theorem Src_N_ok {st0 : List Int} {a1 : Int} {r : Int × List Int} (hF : Src_N st0 a1 = some r) {w0 : World} {sb : Nat} {sv : Value} {sL : List Int} {Ss : Nat → Prop} (hs : SrcB w0 sb sv sL st0) (hL : Rv Ss w0 sv sL) (hLn : ∀ b, b < w0.heap.size → Ss b → b ∉ [sb]) (hmb : [sb].Nodup) :
    Calls Try.prog 31 #[.pointer (some ⟨sb, 0, none⟩), .int .i64 a1] w0 (Ret fun v w' => ∃ (oc : Cls), En w0 (entM w0 [sb] [Ss]) oc w' ∧ v = .int .i64 r.1 ∧ SrcC oc 1 w' sb sv sL r.2) := by
  obtain ⟨T, k, hb, hk, rfl⟩ := hs
  have hm : (sL.length : Int) ≤ 9223372036854775807 := by
    obtain ⟨p, cap, _, h1, h2, _⟩ := rv_list hL
    unfold maxLen at h2
    omega
  have hB : BkI w0 ⟨sb, 0, none⟩ [sv, .int .i64 (⟨sL, (k : Int)⟩ : Src).At] := ⟨rfl, rfl, T, hb⟩
  by_cases hlt : k < sL.length
  · have hd : sL.drop k = sL[k] :: sL.drop (k + 1) := List.drop_eq_getElem_cons hlt
    rw [hd, Src_N] at hF
    obtain ⟨y, hy, hr⟩ := bindE hF
    obtain rfl := Option.some.inj hr
    have e1 : W ((k : Int) + 1) = (k : Int) + 1 := W_in (by omega) (by omega)
    have e2 : W ((k : Int) + 1 - 1) = (k : Int) := by rw [show (k : Int) + 1 - 1 = (k : Int) from by omega]; exact W_in (by omega) (by omega)
    have hraw : Src_N_raw ⟨sL, (k : Int)⟩ a1 = some (y, ⟨sL, (k : Int) + 1⟩) := by
      unfold Src_N_raw
      have h1 : decide ((k : Int) ≥ len sL) = false := by unfold len; simp; exact hlt
      dsimp only
      rw [h1, e1, e2]
      simp only [Bool.false_eq_true, if_false]
      have h2 : idx sL (k : Int) = some sL[k] := by unfold idx; simp [hlt]
      rw [h2]
      simp only [Option.bind_some, mod_eq, hy]
    refine (Src_N_raw_ok hraw hB hL hLn hmb).mono ?_
    rintro e w' ⟨v, rfl, oc, h1, rfl, h2⟩
    obtain ⟨T', h3⟩ := h2.cells
    exact ⟨_, rfl, oc, h1, rfl, ⟨T', k + 1, h3, hlt, rfl⟩, h2.own⟩
  · have hke : k = sL.length := by omega
    subst hke
    rw [List.drop_length, Src_N] at hF
    obtain rfl := Option.some.inj hF
    have hraw : Src_N_raw ⟨sL, (sL.length : Int)⟩ a1 = some (0, ⟨sL, (sL.length : Int)⟩) := by
      unfold Src_N_raw
      have h1 : decide ((sL.length : Int) ≥ len sL) = true := by unfold len; simp
      dsimp only
      rw [h1]
      rfl
    refine (Src_N_raw_ok hraw hB hL hLn hmb).mono ?_
    rintro e w' ⟨v, rfl, oc, h1, rfl, h2⟩
    obtain ⟨T', h3⟩ := h2.cells
    exact ⟨_, rfl, oc, h1, rfl, ⟨T', sL.length, h3, Nat.le_refl _, by simp⟩, h2.own⟩

theorem dynposmake_New_ok {a0 : List Int} {r : List Int} (hF : dynposmake_New a0 = some r) {w0 : World} {p0 : Value} {S0 : Nat → Prop} (g0 : Rv S0 w0 p0 a0) :
    Calls Try.prog 9 #[p0] w0 (Ret fun v w' => Below w0.heap.size w0 w' ∧ ∃ sb sv, v = .pointer (some ⟨sb, 0, none⟩) ∧ w0.heap.size ≤ sb ∧ SrcB w' sb sv r r ∧ Rv (fun b => S0 b ∧ b < w0.heap.size) w' sv r) := by
  rw [dynposmake_New] at hF
  refine enter (l := [p0]) Try.func9 rfl Try.ntmps9 rfl ?_
  refine CW.sub (L' := [(0, p0)]) ⟨rfl, trivial⟩ ?_
  refine CW.seq fun K1 hK1 => ?_
  refine CW.region ?_
  refine WL.stepE (OW.pv (v := .pointer none) rfl) rfl ?_
  refine WL.nil ?_
  refine NK.sub (L' := [(0, p0)]) ⟨rfl, trivial⟩ ?_
  refine hK1 _ _ ?_
  refine CW.seq fun K2 hK2 => ?_
  refine CW.region ?_
  refine WL.stepE (OW.pv (v := p0) rfl) rfl ?_
  refine WL.stepE (OW.pv (v := p0) rfl) rfl ?_
  refine WL.stepE (OW.len Try.underlying22 rfl g0) rfl ?_
  refine WL.stepE (OW.min rfl rfl) rfl ?_
  refine WL.stepP (OW.slice Try.underlying22 ty3 rfl g0 (.inl ⟨rfl, rfl⟩) (.inr ⟨_, rfl, rfl⟩) hF) rfl fun v1 h1 => ?_
  refine WL.stepE (OW.buildK Src [(0, [v1])] [v1, .int .i64 0] st69 ty69 rfl ⟨rfl, cells_one (h1.one rfl), trivial⟩ rfl) rfl ?_
  refine WL.step (OW.boxK (o := fun _ => 0) 2 [v1, .int .i64 0] rfl rfl) rfl ?_
  rintro _ w2 ⟨pa, o2, rfl, hev, hb⟩
  refine WL.stepE (OW.pv (v := .pointer (some pa)) rfl) rfl ?_
  refine WL.nil ?_
  refine NK.sub (L' := [(2, .pointer (some pa))]) ⟨rfl, trivial⟩ ?_
  refine hK2 _ _ ?_
  have hpa : pa = ⟨pa.block, 0, none⟩ := addr_eq hb.off hb.spot
  have hge : w0.heap.size ≤ pa.block := by
    rcases Nat.lt_or_ge pa.block w0.heap.size with h | h
    · have e1 := hev.old _ h
      have e2 := hb.own
      rw [e1] at e2
      cases e2
    · exact h
  obtain ⟨T, hc⟩ := hb.cells
  exact CW.rets (vs := [.pointer (some pa)]) Try.results9 ⟨rfl, trivial⟩ ⟨_, rfl, ⟨hev.os, hev.tape, hev.output, hev.size, fun b hb => hev.blk b hb (by simp)⟩, pa.block, v1, by rw [← hpa]; rfl, hge, ⟨T, 0, hc, Nat.zero_le _, rfl⟩, h1.mono fun b hb hlt => ⟨⟨hb, hlt⟩, hev.blk b hlt (by simp)⟩⟩ (fun _ _ h => h)

end Go.Proofs.Ytdfkfohpgakihaa
