/- What may be closed; closing and opening; the reference: follow. -/
import Derived.Test.YtcekgnnekooohaaS4
import Derived.KernelRfl
set_option linter.unusedVariables false
set_option linter.unusedSimpArgs false
namespace Go.Proofs.Ytcekgnnekooohaa
open Go Go.RowKit Dp
namespace Rx
open Classical

section
variable {b : Board} {p : Power}
/-- the reference's follow -/
theorem reffol_in {x1 : List Bool × List Running × List Int × List Part × List Bool × List Running × List Int × List Part} {x : Island} {out : List Running} {i : Nat} (hsm : Sm x.Sources) (hi : idx x.Sources 0 = some (i : Int)) (hi2 : i < x1.2.1.length) (h : ∀ k ∈ x.Sources, 0 ≤ k ∧ k < out.length) :
    loopO (dynposref16_follow_L2 x1 x) ((0 : Int), out) = some (setAll out (gt x1.2.1 i) x.Sources) := by
  refine loop_run (step := dynposref16_follow_L2 x1 x) (fun k => ((k : Int), setAll out (gt x1.2.1 i) (x.Sources.take k))) x.Sources.length (fun k hk => ?_) (by simp only [dynposref16_follow_L2, nlt_len, Bool.false_eq_true, if_false, List.take_length])
  obtain ⟨k0, k1⟩ := h _ (gt_mem hk)
  obtain ⟨j, hj⟩ := Int.eq_ofNat_of_zero_le k0
  have hj : gt x.Sources k = (j : Int) := hj
  have hjl : j < (setAll out (gt x1.2.1 i) (x.Sources.take k)).length := by rw [setAll_len]; omega
  have hjs : j < ((setAll out (gt x1.2.1 i) (x.Sources.take k)).set j { gt (setAll out (gt x1.2.1 i) (x.Sources.take k)) j with Frequency := (gt x1.2.1 i).Frequency }).length := by simpa using hjl
  simp only [dynposref16_follow_L2, lt_len hk, if_true, idx_gt hk, hi, idx_gt hi2, Option.bind_some, hj, idx_gt hjl, setO_nat hjl, idx_gt hjs, setO_nat hjs, W_succ (sm_lt hsm hk), gt_set hjl, take_gt hk, setAll_snoc, Int.toNat_natCast, List.set_set]
  rfl
theorem reffol_loop (hb : BrkOk b) (hl : Lim b) (hsl : p.Sources.length = b.Sources.length) {x1 : List Bool × List Running × List Int × List Part × List Bool × List Running × List Int × List Part} (hx1 : x1.2.1 = p.Sources) : loopO (dynposref16_follow_L1 x1 (isl b p)) ((0 : Int), p.Sources) = some (folL b p) := by
  have hbus := hl.bus
  have hsr := hl.src
  have hil := isl_len (b := b) (p := p)
  refine wp_eq.1 ?_
  refine wp_upto (isl b p).length (fun k s => ∃ out, s = ((k : Int), out) ∧ out.length = p.Sources.length ∧ ∀ j, j < p.Sources.length → gt out j = if ∃ q, q < k ∧ (j : Int) ∈ (gt (isl b p) q).Sources then fol b p j else gt p.Sources j) ⟨_, rfl, rfl, fun j hj => by rw [if_neg (by rintro ⟨q, hq, _⟩; omega)]⟩ ?_ ?_
  · rintro k s hk ⟨out, rfl, h1, h2⟩
    have hx := gt_mem hk
    have hsrc : ∀ s ∈ (gt (isl b p) k).Sources, 0 ≤ s ∧ s < (p.Sources.length : Int) := fun s hs => by
      obtain ⟨j, rfl, h, _⟩ := isl_src hx hs
      omega
    unfold dynposref16_follow_L1
    simp only [lt_len hk, if_true, idx_gt hk, Option.bind_some]
    have hsplit : ∀ j : Nat, (∃ q, q < k + 1 ∧ (j : Int) ∈ (gt (isl b p) q).Sources) ↔ (∃ q, q < k ∧ (j : Int) ∈ (gt (isl b p) q).Sources) ∨ (j : Int) ∈ (gt (isl b p) k).Sources := fun j => by
      constructor
      · rintro ⟨q, hq, h⟩
        by_cases hqk : q = k
        · subst hqk; exact .inr h
        · exact .inl ⟨q, by omega, h⟩
      · rintro (⟨q, hq, h⟩ | h)
        · exact ⟨q, by omega, h⟩
        · exact ⟨k, by omega, h⟩
    by_cases h0 : (gt (isl b p) k).Sources.length = 0
    · have e2 : (gt (isl b p) k).Sources = [] := List.length_eq_zero_iff.1 h0
      have e3 : loopO (dynposref16_follow_L2 x1 (gt (isl b p) k)) ((0 : Int), out) = some out := loopO_of (.done (by simp [dynposref16_follow_L2, e2, len])) (by omega)
      rw [e3]
      simp only [Option.bind_some]
      refine wp_some.2 ⟨out, by rw [W_succ (by omega)], h1, fun j hj => ?_⟩
      rw [h2 j hj]
      have hi : (∃ q, q < k + 1 ∧ (j : Int) ∈ (gt (isl b p) q).Sources) ↔ (∃ q, q < k ∧ (j : Int) ∈ (gt (isl b p) q).Sources) := by
        rw [hsplit, e2]; simp
      by_cases hh : ∃ q, q < k ∧ (j : Int) ∈ (gt (isl b p) q).Sources
      · rw [if_pos hh, if_pos (hi.2 hh)]
      · rw [if_neg hh, if_neg (fun h => hh (hi.1 h))]
    · have hlen : 0 < (gt (isl b p) k).Sources.length := by omega
      obtain ⟨i, f1, f2, f3, f4⟩ := isl_src hx (gt_mem hlen)
      have e0 : idx (gt (isl b p) k).Sources 0 = some (i : Int) := by
        have := idx_gt hlen
        rw [f1] at this
        exact this
      have hsm : Sm (gt (isl b p) k).Sources := by
        obtain ⟨f, _, e, _⟩ := mem_isl.1 hx
        rw [e]
        have := (isle_len (b := b) (p := p) f).2.1
        unfold Sm; omega
      rw [reffol_in hsm e0 (by rw [hx1]; omega) (fun s hs => by have := hsrc s hs; omega), hx1]
      simp only [Option.bind_some]
      refine wp_some.2 ⟨_, by rw [W_succ (by omega)], by rw [setAll_len]; exact h1, fun j hj => ?_⟩
      rw [setAll_gt _ _ _ _ (fun s hs => by have := hsrc s hs; omega), h2 j hj]
      by_cases hjx : (j : Int) ∈ (gt (isl b p) k).Sources
      · rw [if_pos hjx, if_pos ((hsplit j).2 (.inr hjx))]
        obtain ⟨j', g1, g2, g3, g4⟩ := isl_src hx hjx
        have : j' = j := by omega
        subst this
        have hld : ldr b p j' = i := by unfold ldr; rw [← g4, f1, Int.toNat_natCast]
        have hf : fol b p j' = like (gt p.Sources j') (gt p.Sources i) := by unfold fol; rw [if_pos g3, hld]
        rw [hf]
        split <;> rfl
      · rw [if_neg hjx]
        by_cases hh : ∃ q, q < k ∧ (j : Int) ∈ (gt (isl b p) q).Sources
        · rw [if_pos hh, if_pos ((hsplit j).2 (.inl hh))]
        · rw [if_neg hh, if_neg (fun h => ((hsplit j).1 h).elim hh hjx)]
  · rintro s ⟨out, rfl, h1, h2⟩
    unfold dynposref16_follow_L1
    simp only [nlt_len, Bool.false_eq_true, if_false]
    refine wp_some.2 ?_
    apply ext_gt
    · rw [folL_len, h1]
    · intro j hj
      rw [h2 j (by omega), folL_gt (by omega)]
      by_cases hc : (conn b p (j : Int)).2 = true
      · obtain ⟨g1, g2⟩ := src_isl hb (show j < b.Sources.length by omega) hc
        obtain ⟨q, hq, e⟩ := mem_gt g1
        rw [if_pos ⟨q, hq, by rw [e]; exact g2⟩]
      · have hf : fol b p j = gt p.Sources j := by unfold fol; rw [if_neg hc]
        rw [hf]
        split <;> rfl
theorem refcopy_eq (h : SmP p) : dynposref15_CopyV p = some (p.Closed, p.Sources, p.Limits, p.Broken, p.Closed, p.Sources, p.Limits, p.Broken) := by
  obtain ⟨h1, h2, h3, h4⟩ := h
  unfold Sm at *
  unfold dynposref15_CopyV
  rw [app_sm (by simp; omega), app_sm (by simp; omega), app_sm (by simp; omega), app_sm (by simp; omega)]
  rfl
theorem reffollow_eq (hb : SmB b) (hp : SmP p) (h : stt b p = 0) : dynposref16_Follow b p = some (0, b.Breakers, b.Sources, b.Consumers, p.Closed, p.Sources, p.Limits, p.Broken, p.Closed, folL b p, p.Limits, p.Broken) := by
  obtain ⟨⟨hl, hg⟩, ⟨s1, s2, s3⟩, _⟩ := stt_zero.1 h
  unfold dynposref16_Follow dynposref16_follow
  have e : (stt b p != 0) = false := by rw [h]; rfl
  have hlp := reffol_loop hg.1 hl s2 (x1 := (p.Closed, p.Sources, p.Limits, p.Broken, p.Closed, p.Sources, p.Limits, p.Broken)) rfl
  have hisl : dynposref15_Islands b ⟨p.Closed, p.Sources, p.Limits, p.Broken⟩ = some (isl b p) := refislands_eq hb hp h
  simp only [refstate_eq hb hp, Option.bind_some, e, Bool.false_eq_true, if_false, refcopy_eq hp, hisl, hlp]
theorem wpFollowed' {l : List Int} {a : Int} (hs : Sr l a) (hb : Gen b) : Wp (Src_Followed ⟨l, a⟩ b) fun r => ∃ l a q, r = (l, a, b.Breakers, b.Sources, b.Consumers, q.Closed, q.Sources, q.Limits, q.Broken) ∧ Sr l a ∧ SmP q ∧ stt b q = 0 ∧ folL b q = q.Sources := by
  unfold Src_Followed
  refine (wpPower hs hb).bind fun r hr => ?_
  obtain ⟨l, a, cl, run, lim, brk, rfl, hs, hp⟩ := hr
  have hps := hp.sm hb
  have h0 := hp.stt hb
  have hf := reffollow_eq hb.sm hps h0
  obtain ⟨nb, br, S, C, ph, fr⟩ := b
  simp only at hf ⊢
  rw [hf]
  simp only [Option.bind_some]
  exact wp_some.2 ⟨_, _, folP ⟨nb, br, S, C, ph, fr⟩ ⟨cl, run, lim, brk⟩, rfl, hs, sm_fol hps, stt_fol h0, fol_fol h0⟩
theorem wpFollowed {l : List Int} {a : Int} (hs : Sr l a) (hb : Gen b) : Wp (Src_Followed ⟨l, a⟩ b) fun r => ∃ l a q, r = (l, a, b.Breakers, b.Sources, b.Consumers, q.Closed, q.Sources, q.Limits, q.Broken) ∧ Sr l a ∧ SmP q ∧ stt b q = 0 :=
  (wpFollowed' hs hb).mono fun _ ⟨l, a, q, h1, h2, h3, h4, _⟩ => ⟨l, a, q, h1, h2, h3, h4⟩

/-! what may be closed -/
theorem brkB_eq (hp : SmP p) (k n : Int) : board_Broken p k n = some (decide ((⟨k, n⟩ : Part) ∈ p.Broken)) := by
  have hsm := hp.2.2.2
  have h := loop_find (step := slices_Index_Part_Part_L1 p.Broken ⟨k, n⟩) (fun i => (i : Int)) p.Broken.length (fun i => (k == (gt p.Broken i).Kind && n == (gt p.Broken i).Number)) (R := fun i => .inr (i : Int)) (e := .inl ())
    (fun i hi hq => by simp only [slices_Index_Part_Part_L1, lt_len hi, if_true, idx_gt hi, Option.bind_some, hq, Bool.false_eq_true, if_false, W_succ (sm_lt hsm hi)])
    (fun i hi hq => by simp only [slices_Index_Part_Part_L1, lt_len hi, if_true, idx_gt hi, Option.bind_some, hq])
    (by simp only [slices_Index_Part_Part_L1, nlt_len, Bool.false_eq_true, if_false])
  have h' : loopO (slices_Index_Part_Part_L1 p.Broken ⟨k, n⟩) 0 = _ := h
  have hz : ∀ i, (k == (gt p.Broken i).Kind && n == (gt p.Broken i).Number) = true ↔ (⟨k, n⟩ : Part) = gt p.Broken i := fun i => partB ⟨k, n⟩ (gt p.Broken i)
  unfold board_Broken slices_Contains_Part_Part slices_Index_Part_Part
  rw [h']
  cases hf : (List.range p.Broken.length).find? (fun i => (k == (gt p.Broken i).Kind && n == (gt p.Broken i).Number)) with
  | none =>
    have : ¬ (⟨k, n⟩ : Part) ∈ p.Broken := fun hm => by
      obtain ⟨i, hi, e⟩ := mem_gt hm
      have := List.find?_eq_none.1 hf i (List.mem_range.2 hi)
      exact this ((hz i).2 e.symm)
    rw [dF this]
    rfl
  | some i =>
    have hi := List.mem_range.1 (List.mem_of_find?_eq_some hf)
    have hq := (hz i).1 (List.find?_some (p := fun i => (k == (gt p.Broken i).Kind && n == (gt p.Broken i).Number)) hf)
    have : (⟨k, n⟩ : Part) ∈ p.Broken := by rw [hq]; exact gt_mem hi
    rw [dT this]
    simp
/-- one breaker closed -/
def clP (p : Power) (i : Nat) : Power := ⟨p.Closed.set i true, p.Sources, p.Limits, p.Broken⟩
theorem clo_close {i : Nat} (hi : i < p.Closed.length) (hc : gt p.Closed i = false) (j : Int) : ∀ n, clo b (clP p i) j n = clo b p j n + if i < n ∧ (gt b.Breakers i).Kind = 3 ∧ (gt b.Breakers i).B = j then 1 else 0
  | 0 => by rw [if_neg (by omega)]; rfl
  | n + 1 => by
    show clo b (clP p i) j n + (if (gt b.Breakers n).Kind = 3 ∧ (gt b.Breakers n).B = j ∧ gt (p.Closed.set i true) n = true then 1 else 0) = clo b p j n + (if (gt b.Breakers n).Kind = 3 ∧ (gt b.Breakers n).B = j ∧ gt p.Closed n = true then 1 else 0) + _
    rw [clo_close hi hc j n, gt_set hi]
    by_cases hn : n = i
    · subst hn
      rw [if_pos rfl, hc]
      by_cases hk : (gt b.Breakers n).Kind = 3 ∧ (gt b.Breakers n).B = j
      · simp [hk.1, hk.2]
      · have a1 : ¬ ((gt b.Breakers n).Kind = 3 ∧ (gt b.Breakers n).B = j ∧ true = true) := fun h => hk ⟨h.1, h.2.1⟩
        have a2 : ¬ ((gt b.Breakers n).Kind = 3 ∧ (gt b.Breakers n).B = j ∧ false = true) := fun h => hk ⟨h.1, h.2.1⟩
        have a3 : ∀ m, ¬ (n < m ∧ (gt b.Breakers n).Kind = 3 ∧ (gt b.Breakers n).B = j) := fun m h => hk h.2
        rw [if_neg a1, if_neg a2, if_neg (a3 _), if_neg (a3 _)]
    · rw [if_neg hn]
      by_cases hin : i < n
      · by_cases hk : (gt b.Breakers i).Kind = 3 ∧ (gt b.Breakers i).B = j
        · have a1 : i < n ∧ (gt b.Breakers i).Kind = 3 ∧ (gt b.Breakers i).B = j := ⟨hin, hk⟩
          have a2 : i < n + 1 ∧ (gt b.Breakers i).Kind = 3 ∧ (gt b.Breakers i).B = j := ⟨by omega, hk⟩
          rw [if_pos a1, if_pos a2]; omega
        · have a3 : ∀ m, ¬ (i < m ∧ (gt b.Breakers i).Kind = 3 ∧ (gt b.Breakers i).B = j) := fun m h => hk h.2
          rw [if_neg (a3 n), if_neg (a3 (n + 1))]
          omega
      · have a1 : ¬ (i < n ∧ (gt b.Breakers i).Kind = 3 ∧ (gt b.Breakers i).B = j) := fun h => hin h.1
        have a2 : ¬ (i < n + 1 ∧ (gt b.Breakers i).Kind = 3 ∧ (gt b.Breakers i).B = j) := fun h => by have := h.1; omega
        rw [if_neg a1, if_neg a2]
        omega
theorem clo_none {j : Int} (h : (led b p 3 j).2 = false) : ∀ n, n ≤ b.Breakers.length → clo b p j n = 0
  | 0, _ => rfl
  | n + 1, hn => by
    show clo b p j n + _ = 0
    rw [clo_none h n (by omega), if_neg]
    rintro ⟨h1, h2, h3⟩
    unfold led at h
    cases hf : (List.range b.Breakers.length).find? (ledAt b p 3 j) with
    | some k => rw [hf] at h; cases h
    | none =>
      have := List.find?_eq_none.1 hf n (List.mem_range.2 (by omega))
      unfold ledAt at this
      simp [h1, h2, h3] at this
theorem stt_close (h : stt b p = 0) {i : Nat} (hi : i < b.Breakers.length) (hc : gt p.Closed i = false) (hled : (gt b.Breakers i).Kind ≠ 1 → (gt b.Breakers i).Kind ≠ 2 → (led b p 3 (gt b.Breakers i).B).2 = false) : stt b (clP p i) = 0 := by
  obtain ⟨h1, ⟨s1, s2, s3⟩, g1, g2, g3⟩ := stt_zero.1 h
  refine stt_zero.2 ⟨h1, ⟨by show (p.Closed.set i true).length = _; rw [List.length_set]; exact s1, s2, s3⟩, g1, g2, fun k hk => ?_⟩
  obtain ⟨f1, f2⟩ := g3 k hk
  refine ⟨f1, ?_⟩
  rw [clo_close (by omega) hc]
  by_cases hk3 : (gt b.Breakers i).Kind = 3 ∧ (gt b.Breakers i).B = (k : Int)
  · have := clo_none (b := b) (p := p) (by have := hled (by omega) (by omega); rw [hk3.2] at this; exact this) b.Breakers.length (Nat.le_refl _)
    rw [this, if_pos ⟨hi, hk3⟩]
    exact Nat.le_refl _
  · rw [if_neg (fun h => hk3 h.2)]
    exact f2
end
end Rx
end Go.Proofs.Ytcekgnnekooohaa
