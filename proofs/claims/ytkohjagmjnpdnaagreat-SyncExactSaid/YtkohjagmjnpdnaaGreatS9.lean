/- The interlock: what the reference's functions answer, whatever they are given: the program's answers. Plain laws. -/
import Derived.Test.YtkohjagmjnpdnaaGreatS8
import Derived.Test.YtkohjagmjnpdnaaGreatBt
set_option linter.unusedVariables false
set_option linter.unusedSimpArgs false
namespace Go.Proofs.YtkohjagmjnpdnaaGreat
open Go Go.RowKit Dp
namespace Rx
open Classical

section
variable {b : Board} {p : Power}
theorem part_ext {p q : Part} (h1 : p.Kind = q.Kind) (h2 : p.Number = q.Number) : p = q := by
  cases p; cases q; simp at h1 h2; rw [h1, h2]
theorem led_none (hb : BrkOk b) {j : Int} (hj : ¬ (0 ≤ j ∧ j < b.Consumers.length)) : led b p 3 j = (0, false) := by
  unfold led
  have : (List.range b.Breakers.length).find? (ledAt b p 3 j) = none := find_none fun k hk => by
    unfold ledAt
    cases h1 : (gt b.Breakers k).Kind == 3 with
    | false => rfl
    | true =>
      cases h2 : (gt b.Breakers k).B == j with
      | false => rfl
      | true =>
        exfalso
        have e1 : (gt b.Breakers k).Kind = 3 := by simpa using h1
        have e2 : (gt b.Breakers k).B = j := by simpa using h2
        have := (hb.1 k hk).2
        rcases this with h | h | h <;> omega
  rw [this]
theorem reffed_all (hb : SmB b) (hp : SmP p) (j : Int) : dynposref15_Fed b p j = some (fedB b p j) := by
  by_cases hj : 0 ≤ j ∧ j < b.Consumers.length
  · exact reffed_eq hb hp hj
  unfold dynposref15_Fed fedB
  rw [refstate_eq hb hp]
  by_cases h : stt b p = 0
  · have hbk := ((stt_zero.1 h).1.2).1
    rw [if_pos h, h, led_none hbk hj]
    simp only [Option.bind_some, bne_self_eq_false, Bool.false_eq_true, if_false]
    by_cases h1 : j < 0
    · simp [h1]
    · have : ¬ j < (b.Consumers.length : Int) := fun h2 => hj ⟨by omega, h2⟩
      have h2 : j ≥ len b.Consumers := by unfold len; omega
      simp [h1, h2]
  · rw [if_neg h]
    have : (stt b p != 0) = true := by simpa using h
    simp only [Option.bind_some, this, if_true]
theorem refbrk_has (hp : SmP p) (k n : Int) : dynposref15_Broken p k n = some (dB ((⟨k, n⟩ : Part) ∈ p.Broken)) := by
  have hl := hp.2.2.2
  have h := loop_anyB (step := dynposref15_Broken_L1 p k n) (fun i => (i : Int)) p.Broken.length (fun i => gt p.Broken i = (⟨k, n⟩ : Part)) (r := .inr true) (e := .inl ()) (fun i hi hne => by
    unfold dynposref15_Broken_L1
    simp only [lt_len hi, if_true, idx_gt hi, Option.bind_some]
    have : (if ((gt p.Broken i).Kind == k) = true then some ((gt p.Broken i).Number == n) else some false) = some false := by
      by_cases h1 : (gt p.Broken i).Kind = k
      · by_cases h2 : (gt p.Broken i).Number = n
        · exact (hne (part_ext h1 h2)).elim
        · simp [h1, h2]
      · simp [h1]
    simp only [this, Option.bind_some, Bool.false_eq_true, if_false]
    rw [W_succ (sm_lt hl hi)]) (fun i hi he => by
    unfold dynposref15_Broken_L1
    simp only [lt_len hi, if_true, idx_gt hi, Option.bind_some, he, beq_self_eq_true]) (by
    unfold dynposref15_Broken_L1
    simp only [nlt_len, Bool.false_eq_true, if_false])
  have h' : loopO (dynposref15_Broken_L1 p k n) 0 = _ := h
  have hm : dB (∃ i, i < p.Broken.length ∧ gt p.Broken i = (⟨k, n⟩ : Part)) = dB ((⟨k, n⟩ : Part) ∈ p.Broken) := dB_congr mem_iff_gt.symm
  unfold dynposref15_Broken
  rw [h', hm]
  cases dB ((⟨k, n⟩ : Part) ∈ p.Broken) <;> rfl

theorem remO_3600 (a : Int) : remO a 3600 = some (a.tmod 3600) := by unfold remO; rw [if_neg (by omega)]
theorem normA_eq (a : Int) : angle_Norm a = some (a % 3600) := by
  obtain ⟨e1, e2⟩ := tmod_3600 a
  unfold angle_Norm
  rw [remO_3600]
  simp only [Option.bind_some, Option.bind_fun_some]
  by_cases h : a.tmod 3600 < 0
  · rw [dT h, if_pos rfl, W_sm (by omega) (by omega), e1, if_pos h]
  · rw [dF h, if_neg (by simp), e1, if_neg h]
theorem difA_eq (a c : Int) : angle_Diff a c = some (dif a c) := by
  unfold angle_Diff dif
  simp only [normA_eq, Option.bind_some]
  rw [W_sm (x := c % 3600 - a % 3600) (by omega) (by omega)]
  by_cases h : (c % 3600 - a % 3600) % 3600 > 1800
  · simp only [dT h, if_true, if_pos h, Option.bind_some, W_sm (x := (c % 3600 - a % 3600) % 3600 - 3600) (by omega) (by omega)]
  · simp only [dF h, Bool.false_eq_true, if_false, if_neg h, Option.bind_some]
theorem refnorm_eq (a : Int) : dynposref02_Norm a = some (a % 3600) := by
  unfold dynposref02_Norm
  obtain ⟨h1, h2, h3⟩ := tmod_3600 a
  simp only [remO_3600, Option.bind_some, Option.bind_fun_some]
  rw [W_sm (by omega) (by omega), Int.tmod_eq_emod_of_nonneg (by omega)]
  congr 1
  split at h1 <;> omega
theorem refdif_eq (a c : Int) : dynposref02_Diff a c = some (dif a c) := by
  unfold dynposref02_Diff dif
  simp only [refnorm_eq, Option.bind_some, Option.bind_fun_some]
  rw [W_sm (x := c % 3600 - a % 3600) (by omega) (by omega)]
  by_cases h : (c % 3600 - a % 3600) % 3600 > 1800
  · simp only [dT h, if_true, if_pos h, W_sm (x := (c % 3600 - a % 3600) % 3600 - 3600) (by omega) (by omega)]
  · simp only [dF h, Bool.false_eq_true, if_false, if_neg h]
/-- agreeing, whatever the board and the generators are -/
theorem agreeA_eq (b : Board) (x y : Running) : sync_Agree b x y = some (dB (agr b x y)) := by
  have hd := dif_bd x.Phase y.Phase
  unfold sync_Agree
  by_cases q1 : 0 ≤ x.Frequency ∧ 0 ≤ y.Frequency
  · by_cases q2 : x.Frequency ≤ 6000 ∧ y.Frequency ≤ 6000
    · have e1 : ¬ imin x.Frequency y.Frequency < 0 := by unfold imin; split <;> omega
      have e2 : ¬ imax x.Frequency y.Frequency > 6000 := by unfold imax; split <;> omega
      simp only [dF e1, dF e2, Bool.false_eq_true, if_false, Option.bind_some, difA_eq]
      rw [W_sm (x := x.Frequency - y.Frequency) (by omega) (by omega), W_sm (x := y.Frequency - x.Frequency) (by omega) (by omega), W_sm (x := -dif x.Phase y.Phase) (by omega) (by omega)]
      have e3 : imax (x.Frequency - y.Frequency) (y.Frequency - x.Frequency) ≤ b.Frequency ↔ (x.Frequency - y.Frequency ≤ b.Frequency ∧ y.Frequency - x.Frequency ≤ b.Frequency) := by unfold imax; split <;> omega
      have e4 : imax (dif x.Phase y.Phase) (-dif x.Phase y.Phase) ≤ b.Phase ↔ (dif x.Phase y.Phase ≤ b.Phase ∧ -dif x.Phase y.Phase ≤ b.Phase) := by unfold imax; split <;> omega
      by_cases q3 : imax (x.Frequency - y.Frequency) (y.Frequency - x.Frequency) ≤ b.Frequency
      · simp only [dT q3, if_true, Option.bind_some]
        congr 1
        refine dB_eq ?_
        rw [decide_eq_true_eq, e4]
        unfold agr
        rw [e3] at q3
        exact ⟨fun h => ⟨⟨q1, q2⟩, q3, h⟩, fun h => h.2.2⟩
      · simp only [dF q3, Bool.false_eq_true, if_false, Option.bind_some]
        rw [dB_F]
        unfold agr
        rw [e3] at q3
        exact fun h => q3 h.2.1
    · have e2 : imax x.Frequency y.Frequency > 6000 := by unfold imax; split <;> omega
      have : (if decide (imin x.Frequency y.Frequency < 0) = true then some true else some (decide (imax x.Frequency y.Frequency > 6000))) = some true := by
        rw [dT e2]; split <;> rfl
      simp only [this, Option.bind_some, if_true]
      rw [dB_F]
      unfold agr
      exact fun h => q2 h.1.2
  · have e1 : imin x.Frequency y.Frequency < 0 := by unfold imin; split <;> omega
    simp only [dT e1, if_true, Option.bind_some]
    rw [dB_F]
    unfold agr
    exact fun h => q1 h.1.1
/-- a number that a board can hold -/
def I64 (n : Int) : Prop := -9223372036854775808 ≤ n ∧ n ≤ 9223372036854775807
theorem neg_W {n : Int} (h : I64 n) (d : Int) (h1 : -1000000 ≤ d) (h2 : d ≤ 1000000) : (d ≥ W (-n) ∧ d ≤ n) ↔ (d ≤ n ∧ -d ≤ n) := by
  by_cases e : n = -9223372036854775808
  · subst e
    constructor <;> rintro ⟨_, _⟩ <;> omega
  · obtain ⟨h3, h4⟩ := h
    rw [W_in (x := -n) (by omega) (by omega)]
    omega
theorem refagreeA_eq {b : Board} (hF : I64 b.Frequency) (hP : I64 b.Phase) (x y : Running) : dynposref16_Agree b x y = some (dB (agr b x y)) := by
  have hd := dif_bd x.Phase y.Phase
  have hl : loopO (dynposref16_Agree_L1 x y) 0 = some (cond (dB (∃ k, k < 2 ∧ ¬ (0 ≤ gt [x.Frequency, y.Frequency] k ∧ gt [x.Frequency, y.Frequency] k ≤ 6000))) (.inr false) (.inl ())) := by
    have key : ∀ k : Nat, k < 2 → dynposref16_Agree_L1 x y (k : Int) = if ¬ (0 ≤ gt [x.Frequency, y.Frequency] k ∧ gt [x.Frequency, y.Frequency] k ≤ 6000) then some (.inr (.inr false)) else some (.inl ((k + 1 : Nat) : Int)) := fun k hk => by
      simp only [dynposref16_Agree_L1, dT (show (k : Int) < 2 by omega), if_true, idx_gt (show k < [x.Frequency, y.Frequency].length from hk), Option.bind_some, W_succ (show k < 1000000000000000000 by omega)]
      by_cases h1 : gt [x.Frequency, y.Frequency] k < 0
      · simp only [dT h1, if_true, Option.bind_some]
        rw [if_pos (by omega)]
      · by_cases h2 : gt [x.Frequency, y.Frequency] k > 6000
        · simp only [dF h1, dT h2, Bool.false_eq_true, if_false, if_true, Option.bind_some]
          rw [if_pos (by omega)]
        · simp only [dF h1, dF h2, Bool.false_eq_true, if_false, Option.bind_some]
          rw [if_neg (by omega)]
    exact loop_anyB (step := dynposref16_Agree_L1 x y) (r := .inr false) (e := .inl ()) (fun k => (k : Int)) 2 (fun k => ¬ (0 ≤ gt [x.Frequency, y.Frequency] k ∧ gt [x.Frequency, y.Frequency] k ≤ 6000)) (fun k hk hn => by rw [key k hk, if_neg hn]) (fun k hk hn => by rw [key k hk, if_pos hn]) (by simp only [dynposref16_Agree_L1, dF (show ¬ ((2 : Nat) : Int) < 2 by omega), Bool.false_eq_true, if_false])
  unfold dynposref16_Agree
  rw [hl]
  by_cases hfr : (0 ≤ x.Frequency ∧ x.Frequency ≤ 6000) ∧ (0 ≤ y.Frequency ∧ y.Frequency ≤ 6000)
  · rw [dB_F (by
      rintro ⟨k, hk, hn⟩
      match k, hk with
      | 0, _ => exact hn hfr.1
      | 1, _ => exact hn hfr.2)]
    simp only [cond_false, Option.bind_some, Sum.elim_inl, refdif_eq, Option.bind_fun_some]
    rw [W_sm (x := x.Frequency - y.Frequency) (by omega) (by omega)]
    have n1 := neg_W hF (x.Frequency - y.Frequency) (by omega) (by omega)
    have n2 := neg_W hP (dif x.Phase y.Phase) (by omega) (by omega)
    have e1 : agr b x y ↔ (x.Frequency - y.Frequency ≥ W (-b.Frequency) ∧ x.Frequency - y.Frequency ≤ b.Frequency) ∧ (dif x.Phase y.Phase ≥ W (-b.Phase) ∧ dif x.Phase y.Phase ≤ b.Phase) := by
      rw [n1, n2]
      unfold agr
      omega
    by_cases h1 : x.Frequency - y.Frequency ≥ W (-b.Frequency)
    · by_cases h2 : x.Frequency - y.Frequency ≤ b.Frequency
      · by_cases h3 : dif x.Phase y.Phase ≥ W (-b.Phase)
        · simp only [dT h1, dT h2, dT h3, if_true]
          congr 1
          refine dB_eq ?_
          rw [decide_eq_true_eq, e1]
          exact ⟨fun h => ⟨⟨h1, h2⟩, h3, h⟩, fun h => h.2.2⟩
        · simp only [dT h1, dT h2, dF h3, if_true, Bool.false_eq_true, if_false]
          rw [dB_F fun h => h3 (e1.1 h).2.1]
      · simp only [dT h1, dF h2, if_true, Bool.false_eq_true, if_false]
        rw [dB_F fun h => h2 (e1.1 h).1.2]
    · simp only [dF h1, Bool.false_eq_true, if_false]
      rw [dB_F fun h => h1 (e1.1 h).1.1]
  · rw [dB_T (by
      by_cases h0 : 0 ≤ x.Frequency ∧ x.Frequency ≤ 6000
      · exact ⟨1, by omega, fun hn => hfr ⟨h0, hn⟩⟩
      · exact ⟨0, by omega, h0⟩)]
    simp only [cond_true, Option.bind_some, Sum.elim_inr]
    rw [dB_F]
    unfold agr
    omega
theorem good_64 {b : Board} (hg : BGood b) : I64 b.Frequency ∧ I64 b.Phase := by
  obtain ⟨_, ⟨p1, p2⟩, ⟨f1, f2⟩, _⟩ := hg
  exact ⟨⟨by omega, by omega⟩, by omega, by omega⟩
theorem reflead_eq (hb : SmB b) (hp : SmP p) (k : Int) : dynposref16_Leader b p k = some (lead b p k) := by
  have hfalse : (ofB b p k).2 = false → (ofB b p k).1.Sources = [] := fun he => by
    unfold ofB at he ⊢
    split at he
    · cases he
    · rename_i hn
      rw [if_neg hn]
  unfold dynposref16_Leader lead
  simp only [refof_isle hb hp, Option.bind_some, ofR]
  by_cases hs : (ofB b p k).1.Sources = []
  · rw [if_pos hs]
    have : (if (!(ofB b p k).2) = true then some true else some (len (ofB b p k).1.Sources == 0)) = some true := by
      rw [hs]
      split <;> rfl
    rw [this]
    rfl
  · rw [if_neg hs]
    have hl := List.length_pos_iff.2 hs
    have h2 : (ofB b p k).2 = true := by
      cases hh : (ofB b p k).2 with
      | true => rfl
      | false => exact (hs (hfalse hh)).elim
    have e : (len (ofB b p k).1.Sources == 0) = false := beqF (by unfold len; omega)
    have ei : idx (ofB b p k).1.Sources 0 = some (gt (ofB b p k).1.Sources 0) := idx_gt hl
    simp only [h2, e, Bool.not_true, Bool.false_eq_true, if_false, Option.bind_some, ei]
theorem refmay_eq (hb : SmB b) (hp : SmP p) (i : Int) : dynposref16_May b p i = some (mayV b p i) := by
  unfold dynposref16_May mayV
  simp only [refstate_eq hb hp, Option.bind_some]
  by_cases h : stt b p = 0
  case neg => rw [if_pos (bneT h), if_pos h]
  rw [if_neg (show ¬ ((stt b p != 0) = true) by rw [h]; simp), if_neg (show ¬ (stt b p ≠ 0) from fun hn => hn h)]
  obtain ⟨⟨hl, hg⟩, ⟨s1, s2, s3⟩, g1, g2, g3⟩ := stt_zero.1 h
  by_cases h1 : i < 0
  · simp only [dT h1, if_true, Option.bind_some]
    rw [if_pos (.inl h1)]
  by_cases h2 : (b.Breakers.length : Int) ≤ i
  · simp only [dF h1, Bool.false_eq_true, if_false, dT (show i ≥ len b.Breakers from h2), if_true, Option.bind_some]
    rw [if_pos (.inr h2)]
  obtain ⟨k, rfl, hk⟩ := range_ne h1 h2
  have hk : k < b.Breakers.length := by omega
  rw [if_neg (show ¬ ((k : Int) < 0 ∨ (b.Breakers.length : Int) ≤ (k : Int)) by omega)]
  obtain ⟨gF, gP⟩ := good_64 hg
  obtain ⟨hA, _, hB2, hB3, _⟩ := brk_B hg.1 hk
  simp only [dF h1, Bool.false_eq_true, if_false, dF (show ¬ (k : Int) ≥ len b.Breakers from h2), Option.bind_some, idx_gt hk, idx_gt (show k < p.Closed.length by omega), refbrk_has hp, reflead_eq hb hp, Int.toNat_natCast]
  have bad : ∀ (hS : ¬ SndB b p k), (if ¬ SndB b p k then (11 : Int) else if ¬ InB b p k ∧ ¬ SynB b p k then 12 else 0) = 11 := fun hS => if_pos hS
  have good : ∀ (hS : SndB b p k), (if ¬ SndB b p k then (11 : Int) else if ¬ InB b p k ∧ ¬ SynB b p k then 12 else 0) = if ¬ InB b p k ∧ ¬ SynB b p k then 12 else 0 := fun hS => if_neg fun hn => hn hS
  cases hc : gt p.Closed k with
  | true =>
    rw [bad fun hS => by rw [hS.1] at hc; cases hc]
    simp only [if_true, Option.bind_some]
  | false =>
    simp only [Bool.false_eq_true, if_false]
    by_cases c2 : (⟨2, (k : Int)⟩ : Part) ∈ p.Broken
    · rw [bad fun hS => hS.2.1 c2]
      simp only [dB_T c2, if_true, Option.bind_some]
    simp only [dB_F c2, Bool.false_eq_true, if_false, Option.bind_some]
    by_cases c3 : (⟨3, (gt b.Breakers k).A⟩ : Part) ∈ p.Broken
    · rw [bad fun hS => hS.2.2.1 c3]
      simp only [dB_T c3, if_true]
    simp only [dB_F c3, Bool.false_eq_true, if_false]
    by_cases k1 : (gt b.Breakers k).Kind = 1
    · simp only [beqT k1, if_true]
      by_cases c4 : (⟨3, (gt b.Breakers k).B⟩ : Part) ∈ p.Broken
      · rw [bad fun hS => by have := hS.2.2.2; rw [if_pos k1] at this; exact this c4]
        simp only [dB_T c4, if_true, Option.bind_some, Sum.elim_inr]
      have hS : SndB b p k := ⟨hc, c2, c3, by rw [if_pos k1]; exact c4⟩
      rw [good hS]
      simp only [dB_F c4, Bool.false_eq_true, if_false, refof_isle hb hp, Option.bind_some]
      have hin : InB b p k ↔ (gt b.Breakers k).B ∈ (ofB b p (gt b.Breakers k).A).1.Buses := ⟨fun h => h.2, fun h => ⟨k1, h⟩⟩
      have hhas : dynposref01_Has (ofR b p (gt b.Breakers k).A).2.1 (gt b.Breakers k).B = some (dB (InB b p k)) := by
        show dynposref01_Has (ofB b p (gt b.Breakers k).A).1.Buses _ = _
        rw [has_eq (sm_buses hl _)]
        congr 1
        refine dB_eq ?_
        rw [decide_eq_true_eq, hin]
      cases hv : (lead b p (gt b.Breakers k).A).2 with
      | false =>
        have hy : SynB b p k := fun h => by rw [h] at hv; cases hv
        simp only [Bool.false_eq_true, if_false, Option.bind_some, Sum.elim_inl]
        rw [if_neg fun hn => hn.2 hy]
      | true =>
        obtain ⟨j, e1, hj⟩ := lead_in h hv
        cases hv2 : (lead b p (gt b.Breakers k).B).2 with
        | false =>
          have hy : SynB b p k := fun _ => by rw [if_pos k1]; intro h; rw [h] at hv2; cases hv2
          simp only [if_true, Bool.false_eq_true, if_false, Option.bind_some, Sum.elim_inl]
          rw [if_neg fun hn => hn.2 hy]
        | true =>
          obtain ⟨j2, e2, hj2⟩ := lead_in h hv2
          simp only [if_true, hhas, Option.bind_some]
          by_cases hi : InB b p k
          · simp only [dB_T hi, Bool.not_true, Bool.false_eq_true, if_false, Option.bind_some, Sum.elim_inl]
            rw [if_neg fun hn => hn.1 hi]
          · simp only [dB_F hi, Bool.not_false, if_true, e1, e2, idx_gt hj, idx_gt hj2, Option.bind_some, refagreeA_eq gF gP]
            have hsy : SynB b p k ↔ agr b (gt p.Sources j) (gt p.Sources j2) := by
              unfold SynB
              rw [if_pos k1, e1, e2, Int.toNat_natCast, Int.toNat_natCast]
              exact ⟨fun h => h hv hv2, fun h _ _ => h⟩
            by_cases ha : agr b (gt p.Sources j) (gt p.Sources j2)
            · simp only [dB_T ha, Bool.not_true, Bool.false_eq_true, if_false, Option.bind_some, Sum.elim_inl]
              rw [if_neg fun hn => hn.2 (hsy.2 ha)]
            · simp only [dB_F ha, Bool.not_false, if_true, Option.bind_some, Sum.elim_inr]
              rw [if_pos ⟨hi, fun hn => ha (hsy.1 hn)⟩]
    have hni : ¬ InB b p k := fun hn => k1 hn.1
    simp only [beqF k1, Bool.false_eq_true, if_false]
    by_cases k2 : (gt b.Breakers k).Kind = 2
    · obtain ⟨b1, b2⟩ := hB2 k2
      have hB : (gt b.Breakers k).B < (p.Sources.length : Int) := by omega
      simp only [beqT k2, if_true]
      by_cases c4 : (⟨1, (gt b.Breakers k).B⟩ : Part) ∈ p.Broken
      · rw [bad fun hS => by have := hS.2.2.2; rw [if_neg k1, if_pos k2] at this; exact this.1 c4]
        simp only [dB_T c4, if_true, Option.bind_some, Sum.elim_inr]
      simp only [dB_F c4, Bool.false_eq_true, if_false, idx_gtZ b1 hB, Option.bind_some]
      by_cases c5 : (gt p.Sources (gt b.Breakers k).B.toNat).State = 2
      · have hS : SndB b p k := ⟨hc, c2, c3, by rw [if_neg k1, if_pos k2]; exact ⟨c4, c5⟩⟩
        rw [good hS]
        simp only [bneF c5, Bool.false_eq_true, if_false]
        cases hv : (lead b p (gt b.Breakers k).A).2 with
        | false =>
          have hy : SynB b p k := fun h => by rw [h] at hv; cases hv
          simp only [Bool.false_eq_true, if_false, Option.bind_some, Sum.elim_inl]
          rw [if_neg fun hn => hn.2 hy]
        | true =>
          obtain ⟨j, e1, hj⟩ := lead_in h hv
          have hsy : SynB b p k ↔ agr b (gt p.Sources j) (gt p.Sources (gt b.Breakers k).B.toNat) := by
            unfold SynB
            rw [if_neg k1, if_pos k2, e1, Int.toNat_natCast]
            exact ⟨fun h => h hv, fun h _ => h⟩
          simp only [if_true, e1, idx_gt hj, Option.bind_some, refagreeA_eq gF gP]
          by_cases ha : agr b (gt p.Sources j) (gt p.Sources (gt b.Breakers k).B.toNat)
          · simp only [dB_T ha, Bool.not_true, Bool.false_eq_true, if_false, Option.bind_some, Sum.elim_inl]
            rw [if_neg fun hn => hn.2 (hsy.2 ha)]
          · simp only [dB_F ha, Bool.not_false, if_true, Option.bind_some, Sum.elim_inr]
            rw [if_pos ⟨hni, fun hn => ha (hsy.1 hn)⟩]
      · rw [bad fun hS => by have := hS.2.2.2; rw [if_neg k1, if_pos k2] at this; exact c5 this.2]
        simp only [bneT c5, if_true, Option.bind_some, Sum.elim_inr]
    · have hfed : fedB b p (gt b.Breakers k).B = led b p 3 (gt b.Breakers k).B := by unfold fedB; rw [if_pos h]
      simp only [beqF k2, Bool.false_eq_true, if_false, reffed_all hb hp, hfed, Option.bind_some]
      cases hf : (led b p 3 (gt b.Breakers k).B).2 with
      | true =>
        rw [bad fun hS => by have := hS.2.2.2; rw [if_neg k1, if_neg k2] at this; rw [this.2] at hf; cases hf]
        simp only [if_true, Option.bind_some, Sum.elim_inr]
      | false =>
        simp only [Bool.false_eq_true, if_false]
        by_cases c4 : (⟨4, (gt b.Breakers k).B⟩ : Part) ∈ p.Broken
        · rw [bad fun hS => by have := hS.2.2.2; rw [if_neg k1, if_neg k2] at this; exact this.1 c4]
          simp only [dB_T c4, if_true, Option.bind_some, Sum.elim_inr]
        · have hS : SndB b p k := ⟨hc, c2, c3, by rw [if_neg k1, if_neg k2]; exact ⟨c4, hf⟩⟩
          rw [good hS]
          simp only [dB_F c4, Bool.false_eq_true, if_false, Option.bind_some, Sum.elim_inl]
          rw [if_neg fun hn => hn.2 fun _ => by rw [if_neg k1, if_neg k2]; trivial]
end
end Rx
end Go.Proofs.YtkohjagmjnpdnaaGreat
