/- The reference's clearing; what clearing leaves. -/
import Derived.Test.YtfnphdhcgkondaaGreatH7
set_option linter.unusedVariables false
set_option linter.unusedSimpArgs false
namespace Go.Proofs.YtfnphdhcgkondaaGreat
open Go Go.RowKit Dp
namespace Rx
section
variable {b : Board} {p : Power}
theorem stt_clrP (h : stt b p = 0) : stt b (clrP b p) = 0 := stt_fol (stt_clr2 h)
theorem sm_clrP (hp : SmP p) : SmP (clrP b p) := sm_fol (sm_clr2 hp)
/-- the reference's follow -/
theorem reffol_in {x1 : Power} {x : Island} {out : List Running} {i : Nat} (hsm : Sm x.Sources) (hi : idx x.Sources 0 = some (i : Int)) (hi2 : i < x1.Sources.length) (h : ∀ k ∈ x.Sources, 0 ≤ k ∧ k < out.length) :
    loopO (dynposref16_follow_L2 x1 x) ((0 : Int), out) = some (setAll out (gt x1.Sources i) x.Sources) := by
  refine loop_run (step := dynposref16_follow_L2 x1 x) (fun k => ((k : Int), setAll out (gt x1.Sources i) (x.Sources.take k))) x.Sources.length (fun k hk => ?_) (by simp only [dynposref16_follow_L2, nlt_len, Bool.false_eq_true, if_false, List.take_length])
  obtain ⟨k0, k1⟩ := h _ (gt_mem hk)
  obtain ⟨j, hj⟩ := Int.eq_ofNat_of_zero_le k0
  have hj : gt x.Sources k = (j : Int) := hj
  have hjl : j < (setAll out (gt x1.Sources i) (x.Sources.take k)).length := by rw [setAll_len]; omega
  have hjs : j < ((setAll out (gt x1.Sources i) (x.Sources.take k)).set j { gt (setAll out (gt x1.Sources i) (x.Sources.take k)) j with Frequency := (gt x1.Sources i).Frequency }).length := by simpa using hjl
  simp only [dynposref16_follow_L2, lt_len hk, if_true, idx_gt hk, hi, idx_gt hi2, Option.bind_some, hj, idx_gt hjl, setO_nat hjl, idx_gt hjs, setO_nat hjs, W_succ (sm_lt hsm hk), gt_set hjl, take_gt hk, setAll_snoc, Int.toNat_natCast, List.set_set]
  rfl
theorem reffol_loop (hb : BrkOk b) (hl : Lim b) (hsl : p.Sources.length = b.Sources.length) {x1 : Power} (hx1 : x1.Sources = p.Sources) : loopO (dynposref16_follow_L1 x1 (isl b p)) ((0 : Int), p.Sources) = some (folL b p) := by
  have hbus := hl.bus
  have hsr := hl.src
  have hil := isl_len (b := b) (p := p)
  refine wp_eq.1 ?_
  refine wp_upto (isl b p).length (fun k s => ∃ out, s = ((k : Int), out) ∧ out.length = p.Sources.length ∧ ∀ j, j < p.Sources.length → gt out j = if ∃ q, q < k ∧ (j : Int) ∈ (gt (isl b p) q).Sources then fol b p j else gt p.Sources j) ⟨_, rfl, rfl, fun j hj => by rw [if_neg (by rintro ⟨q, hq, _⟩; omega)]⟩ ?_ ?_
  · rintro k s hk ⟨out, rfl, h1, h2⟩
    have hx := gt_mem hk
    have hsrc : ∀ s ∈ (gt (isl b p) k).Sources, 0 ≤ s ∧ s < (p.Sources.length : Int) := fun s hs => by
      obtain ⟨j, rfl, h, _⟩ := isl_src hx hs
      omega
    unfold dynposref16_follow_L1
    simp only [lt_len hk, if_true, idx_gt hk, Option.bind_some]
    have hsplit : ∀ j : Nat, (∃ q, q < k + 1 ∧ (j : Int) ∈ (gt (isl b p) q).Sources) ↔ (∃ q, q < k ∧ (j : Int) ∈ (gt (isl b p) q).Sources) ∨ (j : Int) ∈ (gt (isl b p) k).Sources := fun j => by
      constructor
      · rintro ⟨q, hq, h⟩
        by_cases hqk : q = k
        · subst hqk; exact .inr h
        · exact .inl ⟨q, by omega, h⟩
      · rintro (⟨q, hq, h⟩ | h)
        · exact ⟨q, by omega, h⟩
        · exact ⟨k, by omega, h⟩
    by_cases h0 : (gt (isl b p) k).Sources.length = 0
    · have e2 : (gt (isl b p) k).Sources = [] := List.length_eq_zero_iff.1 h0
      have e3 : loopO (dynposref16_follow_L2 x1 (gt (isl b p) k)) ((0 : Int), out) = some out := loopO_of (.done (by simp [dynposref16_follow_L2, e2, len])) (by omega)
      rw [e3]
      simp only [Option.bind_some]
      refine wp_some.2 ⟨out, by rw [W_succ (by omega)], h1, fun j hj => ?_⟩
      rw [h2 j hj]
      have hi : (∃ q, q < k + 1 ∧ (j : Int) ∈ (gt (isl b p) q).Sources) ↔ (∃ q, q < k ∧ (j : Int) ∈ (gt (isl b p) q).Sources) := by
        rw [hsplit, e2]; simp
      by_cases hh : ∃ q, q < k ∧ (j : Int) ∈ (gt (isl b p) q).Sources
      · rw [if_pos hh, if_pos (hi.2 hh)]
      · rw [if_neg hh, if_neg (fun h => hh (hi.1 h))]
    · have hlen : 0 < (gt (isl b p) k).Sources.length := by omega
      obtain ⟨i, f1, f2, f3, f4⟩ := isl_src hx (gt_mem hlen)
      have e0 : idx (gt (isl b p) k).Sources 0 = some (i : Int) := by
        have := idx_gt hlen
        rw [f1] at this
        exact this
      have hsm : Sm (gt (isl b p) k).Sources := by
        obtain ⟨f, _, e, _⟩ := mem_isl.1 hx
        rw [e]
        have := (isle_len (b := b) (p := p) f).2.1
        unfold Sm; omega
      rw [reffol_in hsm e0 (by rw [hx1]; omega) (fun s hs => by have := hsrc s hs; omega), hx1]
      simp only [Option.bind_some]
      refine wp_some.2 ⟨_, by rw [W_succ (by omega)], by rw [setAll_len]; exact h1, fun j hj => ?_⟩
      rw [setAll_gt _ _ _ _ (fun s hs => by have := hsrc s hs; omega), h2 j hj]
      by_cases hjx : (j : Int) ∈ (gt (isl b p) k).Sources
      · rw [if_pos hjx, if_pos ((hsplit j).2 (.inr hjx))]
        obtain ⟨j', g1, g2, g3, g4⟩ := isl_src hx hjx
        have : j' = j := by omega
        subst this
        have hld : ldr b p j' = i := by unfold ldr; rw [← g4, f1, Int.toNat_natCast]
        have hf : fol b p j' = like (gt p.Sources j') (gt p.Sources i) := by unfold fol; rw [if_pos g3, hld]
        rw [hf]
        split <;> rfl
      · rw [if_neg hjx]
        by_cases hh : ∃ q, q < k ∧ (j : Int) ∈ (gt (isl b p) q).Sources
        · rw [if_pos hh, if_pos ((hsplit j).2 (.inl hh))]
        · rw [if_neg hh, if_neg (fun h => ((hsplit j).1 h).elim hh hjx)]
  · rintro s ⟨out, rfl, h1, h2⟩
    unfold dynposref16_follow_L1
    simp only [nlt_len, Bool.false_eq_true, if_false]
    refine wp_some.2 ?_
    apply ext_gt
    · rw [folL_len, h1]
    · intro j hj
      rw [h2 j (by omega), folL_gt (by omega)]
      by_cases hc : (conn b p (j : Int)).2 = true
      · obtain ⟨g1, g2⟩ := src_isl hb (show j < b.Sources.length by omega) hc
        obtain ⟨q, hq, e⟩ := mem_gt g1
        rw [if_pos ⟨q, hq, by rw [e]; exact g2⟩]
      · have hf : fol b p j = gt p.Sources j := by unfold fol; rw [if_neg hc]
        rw [hf]
        split <;> rfl
theorem refcopy_eq (h : SmP p) : dynposref15_Copy p = some (p.Closed, p.Sources, p.Limits, p.Broken) := by
  obtain ⟨h1, h2, h3, h4⟩ := h
  unfold Sm at *
  unfold dynposref15_Copy
  rw [app_sm (by simp; omega), app_sm (by simp; omega), app_sm (by simp; omega), app_sm (by simp; omega)]
  rfl
theorem reffollow_eq (hb : SmB b) (hp : SmP p) (h : stt b p = 0) : dynposref16_Follow b p = some (0, p.Closed, folL b p, p.Limits, p.Broken) := by
  obtain ⟨⟨hl, hg⟩, ⟨s1, s2, s3⟩, _⟩ := stt_zero.1 h
  unfold dynposref16_Follow dynposref16_follow
  have e : (stt b p != 0) = false := by rw [h]; rfl
  simp only [refstate_eq hb hp, Option.bind_some, e, Bool.false_eq_true, if_false, refcopy_eq hp, refislands_eq hb hp h, reffol_loop hg.1 hl s2 (x1 := p) rfl]
theorem refwrong_eq (hp : SmP p) (h : stt b p = 0) {k : Nat} (hk : k < b.Breakers.length) : dynposref18_wrong b p (k : Int) = some (dng p (gt b.Breakers k)) := by
  unfold dynposref18_wrong dng
  simp only [idx_gt hk, Option.bind_some, refbrk_has hp]
  cases brk p 3 (gt b.Breakers k).A with
  | true => simp only [if_true, Bool.true_or]
  | false =>
    simp only [Bool.false_eq_true, if_false, Bool.false_or]
    by_cases h1 : (gt b.Breakers k).Kind = 1
    · rw [beqT h1, if_pos h1]
      simp only [if_true]
    · rw [beqF h1, if_neg h1]
      simp only [Bool.false_eq_true, if_false]
      by_cases h2 : (gt b.Breakers k).Kind = 2
      · rw [beqT h2, if_pos h2]
        simp only [if_true]
        cases brk p 1 (gt b.Breakers k).B with
        | true => simp only [if_true, Option.bind_some, Bool.true_or]
        | false =>
          have := src_at h hk h2
          simp only [Bool.false_eq_true, if_false, idx_gtZ this.1 this.2, Option.bind_some, Bool.false_or]
      · rw [beqF h2, if_neg h2]
        simp only [Bool.false_eq_true, if_false]
/-- opened among the first k -/
def opnK (C : List Bool) (P : Nat → Bool) (k : Nat) : List Bool := opn C fun i => decide (i < k) && P i
theorem opnK_at {C : List Bool} {P : Nat → Bool} {k : Nat} (hk : k < C.length) : gt (opnK C P k) k = gt C k := by
  unfold opnK
  rw [opn_gt hk, dF (by omega)]
  simp
theorem opnK_len (C : List Bool) (P : Nat → Bool) (k : Nat) : (opnK C P k).length = C.length := opn_len _ _
theorem opnK_zero (C : List Bool) (P : Nat → Bool) : opnK C P 0 = C := opn_none C fun i => by rw [dF (by omega)]; rfl
theorem opnK_all (C : List Bool) (P : Nat → Bool) : opnK C P C.length = opn C P := opn_congr fun i hi => by rw [dT hi]; rfl
theorem opnK_succ {C : List Bool} {P : Nat → Bool} {k : Nat} (hk : k < C.length) : opnK C P (k + 1) = if (gt C k && P k) = true then (opnK C P k).set k false else opnK C P k := by
  refine ext_gt (by split <;> simp [opnK_len]) fun i hi => ?_
  rw [opnK_len] at hi
  have e1 : gt (opnK C P (k + 1)) i = (gt C i && !(decide (i < k + 1) && P i)) := opn_gt hi
  have e2 : gt (opnK C P k) i = (gt C i && !(decide (i < k) && P i)) := opn_gt hi
  by_cases e : i = k
  · subst e
    rw [e1, dT (by omega)]
    split
    · rename_i hc
      rw [gt_set (by rw [opnK_len]; exact hi), if_pos rfl]
      simp only [Bool.and_eq_true] at hc
      rw [hc.1, hc.2]; rfl
    · rename_i hc
      rw [e2, dF (by omega)]
      cases hx : gt C i with
      | false => simp
      | true =>
        cases hy : P i with
        | false => simp
        | true => rw [hx, hy] at hc; exact (hc rfl).elim
  · have ed : decide (i < k + 1) = decide (i < k) := decide_eq_decide.2 (by omega)
    rw [e1, ed, ← e2]
    split
    · rw [gt_set (by rw [opnK_len]; exact hk), if_neg e]
    · rfl
theorem refclear_L1 (hp : SmP p) (h : stt b p = 0) : loopO (dynposref18_Clear_L1 b p) (0, [], p.Closed) = some ((fnd p.Closed fun i => dng p (gt b.Breakers i)).map actO, (clr1 b p).Closed) := by
  obtain ⟨s1, s2, s3, _⟩ := brk_lens h
  have hrun := loop_run (step := dynposref18_Clear_L1 b p) (r := ((fnd p.Closed fun i => dng p (gt b.Breakers i)).map actO, (clr1 b p).Closed)) (fun k => ((k : Int), (rangeF (fun i => gt p.Closed i && dng p (gt b.Breakers i)) k).map actO, opnK p.Closed (fun i => dng p (gt b.Breakers i)) k)) b.Breakers.length (fun k hk => by
    have hkc : k < p.Closed.length := by omega
    have hl := opnK_len p.Closed (fun i => dng p (gt b.Breakers i)) k
    have hat := opnK_at (P := fun i => dng p (gt b.Breakers i)) hkc
    have hsc := opnK_succ (P := fun i => dng p (gt b.Breakers i)) hkc
    have hrl := rangeF_len (fun i => gt p.Closed i && dng p (gt b.Breakers i)) k
    have hrs := rangeF_succ (fun i => gt p.Closed i && dng p (gt b.Breakers i)) k
    unfold dynposref18_Clear_L1
    simp only [lt_len hk, if_true]
    rw [idx_gt (by omega), hat, W_succ (by omega), hrs, hsc]
    simp only [Option.bind_some, refwrong_eq hp h hk]
    cases gt p.Closed k with
    | false => simp
    | true =>
      cases dng p (gt b.Breakers k) with
      | false => simp
      | true =>
        simp only [if_true, Option.bind_some, Bool.and_self]
        rw [setO_nat (by omega), app_sm (by simp; omega)]
        simp [actO]) (by
    unfold dynposref18_Clear_L1
    simp only [nlt_len, Bool.false_eq_true, if_false]
    rw [← s1, opnK_all]
    rfl) (by omega)
  have hrun' : loopO (dynposref18_Clear_L1 b p) (0, [], opnK p.Closed (fun i => dng p (gt b.Breakers i)) 0) = _ := hrun
  rw [opnK_zero] at hrun'
  exact hrun'
theorem stt_opnK {q : Power} (h : stt b q = 0) (P : Nat → Bool) (k : Nat) : stt b { q with Closed := opnK q.Closed P k } = 0 := stt_less h (opnK_len _ _ _) rfl rfl rfl fun j hj => opn_le hj
theorem refclear_L2 (hb : SmB b) (hp : SmP p) (h : stt b p = 0) (A : List Act) (hA : A.length ≤ 1000) : loopO (dynposref18_Clear_L2 b (p.Closed, p.Sources, p.Limits, p.Broken)) (0, A, (clr1 b p).Closed) = some (A ++ (fnd (clr1 b p).Closed fun i => dead b (clr1 b p) (gt b.Breakers i)).map actO, (clr2 b p).Closed) := by
  obtain ⟨s1, s2, s3, _⟩ := brk_lens h
  have hc1 : (clr1 b p).Closed.length = b.Breakers.length := by show (opn p.Closed _).length = _; rw [opn_len, s1]
  have hrun := loop_run (step := dynposref18_Clear_L2 b (p.Closed, p.Sources, p.Limits, p.Broken)) (r := (A ++ (fnd (clr1 b p).Closed fun i => dead b (clr1 b p) (gt b.Breakers i)).map actO, (clr2 b p).Closed)) (fun k => ((k : Int), A ++ (rangeF (fun i => gt (clr1 b p).Closed i && dead b (clr1 b p) (gt b.Breakers i)) k).map actO, opnK (clr1 b p).Closed (fun i => dead b (clr1 b p) (gt b.Breakers i)) k)) b.Breakers.length (fun k hk => by
    have hkc : k < (clr1 b p).Closed.length := by omega
    have hl := opnK_len (clr1 b p).Closed (fun i => dead b (clr1 b p) (gt b.Breakers i)) k
    have hat := opnK_at (P := fun i => dead b (clr1 b p) (gt b.Breakers i)) hkc
    have hsc := opnK_succ (P := fun i => dead b (clr1 b p) (gt b.Breakers i)) hkc
    have hrl := rangeF_len (fun i => gt (clr1 b p).Closed i && dead b (clr1 b p) (gt b.Breakers i)) k
    have hrs := rangeF_succ (fun i => gt (clr1 b p).Closed i && dead b (clr1 b p) (gt b.Breakers i)) k
    have hq := stt_opnK (stt_clr1 h) (fun i => dead b (clr1 b p) (gt b.Breakers i)) k
    have hsm : SmP { clr1 b p with Closed := opnK (clr1 b p).Closed (fun i => dead b (clr1 b p) (gt b.Breakers i)) k } := sm_opn (sm_clr1 (b := b) hp) hl rfl rfl rfl
    have hsame : SameT b (clr1 b p) { clr1 b p with Closed := opnK (clr1 b p).Closed (fun i => dead b (clr1 b p) (gt b.Breakers i)) k } := ⟨rfl, fun _ _ => rfl, fun j hj h3 => by
      show gt (opn (clr1 b p).Closed _) j = _
      rw [opn_gt (by omega)]
      have e3 : dead b (clr1 b p) (gt b.Breakers j) = false := by unfold dead; rw [beqF h3]; rfl
      simp [e3]⟩
    have hlv := hsame.liv (stt_clr1 h) hq (gt b.Breakers k).A
    have hrlv := refliv_eq hb hsm (gt b.Breakers k).A
    rw [hlv] at hrlv
    have hrlv' : dynposref15_Live b ⟨opnK (clr1 b p).Closed (fun i => dead b (clr1 b p) (gt b.Breakers i)) k, p.Sources, p.Limits, p.Broken⟩ (gt b.Breakers k).A = _ := hrlv
    unfold dynposref18_Clear_L2
    simp only [lt_len hk, if_true, idx_gt hk, Option.bind_some]
    rw [idx_gt (by omega), hat, W_succ (by omega), hrs, hsc]
    simp only [Option.bind_some, hrlv']
    have hdd : dead b (clr1 b p) (gt b.Breakers k) = ((gt b.Breakers k).Kind == 3 && !liv b (clr1 b p) (gt b.Breakers k).A) := rfl
    rw [hdd]
    cases (gt b.Breakers k).Kind == 3 with
    | false => simp
    | true =>
      cases gt (clr1 b p).Closed k with
      | false => simp
      | true =>
        cases liv b (clr1 b p) (gt b.Breakers k).A with
        | true => simp
        | false =>
          simp only [if_true, Option.bind_some, Bool.and_self, Bool.not_false]
          rw [setO_nat (by omega), app_sm (by simp; omega)]
          simp [actO]) (by
    unfold dynposref18_Clear_L2
    simp only [nlt_len, Bool.false_eq_true, if_false]
    rw [← hc1, opnK_all]
    rfl) (by omega)
  have hrun' : loopO (dynposref18_Clear_L2 b (p.Closed, p.Sources, p.Limits, p.Broken)) (0, A ++ [], opnK (clr1 b p).Closed (fun i => dead b (clr1 b p) (gt b.Breakers i)) 0) = _ := hrun
  rw [opnK_zero, List.append_nil] at hrun'
  exact hrun'
theorem refclear_eq (hb : SmB b) (hp : SmP p) (h : stt b p = 0) : dynposref18_Clear b p = some (0, (clrP b p).Closed, (clrP b p).Sources, (clrP b p).Limits, (clrP b p).Broken, clrA b p) := by
  obtain ⟨s1, s2, s3, _⟩ := brk_lens h
  have hfl := fnd_len p.Closed fun i => dng p (gt b.Breakers i)
  unfold dynposref18_Clear
  have e : (stt b p != 0) = false := by rw [h]; rfl
  simp only [refstate_eq hb hp, Option.bind_some, e, Bool.false_eq_true, if_false, refcopy_eq hp, refclear_L1 hp h]
  rw [refclear_L2 hb hp h _ (by rw [List.length_map]; omega)]
  simp only [Option.bind_some]
  have e3 := reffollow_eq hb (sm_clr2 (b := b) hp) (stt_clr2 h)
  rw [show dynposref16_Follow b ⟨(clr2 b p).Closed, p.Sources, p.Limits, p.Broken⟩ = _ from e3]
  rfl
end
end Rx
end Go.Proofs.YtfnphdhcgkondaaGreat
