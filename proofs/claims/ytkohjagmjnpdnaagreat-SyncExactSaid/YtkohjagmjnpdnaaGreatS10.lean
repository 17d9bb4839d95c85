/- The interlock: closing, opening, matching, a tick, and what was brought together, as the reference has it. Plain laws. -/
import Derived.Test.YtkohjagmjnpdnaaGreatS9
set_option linter.unusedVariables false
set_option linter.unusedSimpArgs false
namespace Go.Proofs.YtkohjagmjnpdnaaGreat
open Go Go.RowKit Dp
namespace Rx
open Classical

section
variable {b : Board} {p q : Power}
theorem copyB_eq (h : SmP p) : dynposref15_Copy p = some (p.Closed, p.Sources, p.Limits, p.Broken) := by
  obtain ⟨h1, h2, h3, h4⟩ := h
  unfold Sm at *
  unfold dynposref15_Copy
  rw [app_sm (by simp; omega), app_sm (by simp; omega), app_sm (by simp; omega), app_sm (by simp; omega)]
  rfl
theorem copyV_eq (h : SmP p) : dynposref15_CopyV p = some (p.Closed, p.Sources, p.Limits, p.Broken, p.Closed, p.Sources, p.Limits, p.Broken) := by
  obtain ⟨h1, h2, h3, h4⟩ := h
  unfold Sm at *
  unfold dynposref15_CopyV
  rw [app_sm (by simp; omega), app_sm (by simp; omega), app_sm (by simp; omega), app_sm (by simp; omega)]
  rfl
theorem followB_eq (hb : SmB b) (hp : SmP p) (h : stt b p = 0) : dynposref16_followB b p = some (p.Closed, folL b p, p.Limits, p.Broken) := by
  obtain ⟨⟨hl, hg⟩, ⟨s1, s2, s3⟩, _⟩ := stt_zero.1 h
  have e : dynposref16_followB_L1 p = dynposref16_follow_L1 (p.Closed, p.Sources, p.Limits, p.Broken, p.Closed, p.Sources, p.Limits, p.Broken) := rfl
  unfold dynposref16_followB
  simp only [copyB_eq hp, refislands_eq hb hp h, Option.bind_some, e, reffol_loop hg.1 hl s2 (x1 := (p.Closed, p.Sources, p.Limits, p.Broken, p.Closed, p.Sources, p.Limits, p.Broken)) rfl]
theorem follow8_eq (hb : SmB b) (hp : SmP p) (h : stt b p = 0) : dynposref16_follow b p = some (p.Closed, p.Sources, p.Limits, p.Broken, p.Closed, folL b p, p.Limits, p.Broken) := by
  obtain ⟨⟨hl, hg⟩, ⟨s1, s2, s3⟩, _⟩ := stt_zero.1 h
  have hisl : dynposref15_Islands b ⟨p.Closed, p.Sources, p.Limits, p.Broken⟩ = some (isl b p) := refislands_eq hb hp h
  unfold dynposref16_follow
  simp only [copyV_eq hp, hisl, Option.bind_some, reffol_loop hg.1 hl s2 (x1 := (p.Closed, p.Sources, p.Limits, p.Broken, p.Closed, p.Sources, p.Limits, p.Broken)) rfl]
theorem followV_eq (hb : SmB b) (hp : SmP p) (h : stt b p = 0) : dynposref16_FollowV b p = some (0, p.Closed, p.Sources, p.Limits, p.Broken, p.Closed, folL b p, p.Limits, p.Broken) := by
  unfold dynposref16_FollowV
  have e : (stt b p != 0) = false := by rw [h]; rfl
  simp only [refstate_eq hb hp, Option.bind_some, e, Bool.false_eq_true, if_false, follow8_eq hb hp h]
noncomputable def folA (b : Board) (p : Power) : Int × List Bool × List Running × List Int × List Part := if stt b p ≠ 0 then (stt b p, [], [], [], []) else (0, p.Closed, folL b p, p.Limits, p.Broken)
theorem followA_eq (hb : SmB b) (hp : SmP p) : sync_Follow b p = some (folA b p) := by
  unfold folA
  by_cases h : stt b p = 0
  · rw [if_neg fun hn => hn h]
    exact follow_eq hb hp h
  · rw [if_pos h]
    unfold sync_Follow
    simp only [state_eq hb hp, Option.bind_some, bneT h, if_true]
theorem reffollowA_eq (hb : SmB b) (hp : SmP p) : dynposref16_FollowB b p = some (folA b p) := by
  unfold folA dynposref16_FollowB
  by_cases h : stt b p = 0
  · have e : (stt b p != 0) = false := by rw [h]; rfl
    rw [if_neg fun hn => hn h]
    simp only [refstate_eq hb hp, Option.bind_some, e, Bool.false_eq_true, if_false, followB_eq hb hp h]
  · rw [if_pos h]
    simp only [refstate_eq hb hp, Option.bind_some, bneT h, if_true]
theorem refclose_eq (hb : SmB b) (hp : SmP p) (i : Int) : dynposref16_Close b p i = some (if mayV b p i ≠ 0 then (mayV b p i, [], [], [], []) else (0, p.Closed.set i.toNat true, folL b (clP p i.toNat), p.Limits, p.Broken)) := by
  unfold dynposref16_Close
  by_cases h : mayV b p i = 0
  · obtain ⟨h0, k, rfl, hk, hs, _⟩ := may_zero h
    obtain ⟨_, ⟨s1, s2, s3⟩, _⟩ := stt_zero.1 h0
    rw [if_neg (show ¬ (mayV b p (k : Int) ≠ 0) from fun hn => hn h)]
    have hkc : k < p.Closed.length := by omega
    have hf := follow8_eq hb (p := clP p k) (sm_cl hp) (stt_close h0 hk hs.1 (snd_led hs))
    have hf' : dynposref16_follow b ⟨p.Closed.set k true, p.Sources, p.Limits, p.Broken⟩ = _ := hf
    simp only [refmay_eq hb hp, h, Option.bind_some, bne_self_eq_false, Bool.false_eq_true, if_false, copyB_eq hp, idx_gt hkc, setO_nat hkc, hf', Int.toNat_natCast]
    rfl
  · rw [if_pos h]
    simp only [refmay_eq hb hp, Option.bind_some, bneT h, if_true]
theorem refopen_eq (hb : SmB b) (hp : SmP p) (i : Int) : dynposref16_Open b p i = some (if stt b p ≠ 0 then (stt b p, [], [], [], []) else if i < 0 ∨ (b.Breakers.length : Int) ≤ i then (10, [], [], [], []) else if gt p.Closed i.toNat = false ∨ (⟨2, i⟩ : Part) ∈ p.Broken then (11, [], [], [], []) else (0, p.Closed.set i.toNat false, p.Sources, p.Limits, p.Broken)) := by
  unfold dynposref16_Open
  simp only [refstate_eq hb hp, Option.bind_some]
  by_cases h : stt b p = 0
  case neg => rw [if_pos (bneT h), if_pos h]
  have e : (stt b p != 0) = false := by rw [h]; rfl
  rw [if_neg (show ¬ (stt b p ≠ 0) from fun hn => hn h)]
  obtain ⟨_, ⟨s1, s2, s3⟩, _⟩ := stt_zero.1 h
  simp only [e, Bool.false_eq_true, if_false]
  by_cases h1 : i < 0
  · simp only [dT h1, if_true, Option.bind_some]
    rw [if_pos (.inl h1)]
  by_cases h2 : (b.Breakers.length : Int) ≤ i
  · simp only [dF h1, Bool.false_eq_true, if_false, dT (show i ≥ len b.Breakers from h2), if_true, Option.bind_some]
    rw [if_pos (.inr h2)]
  obtain ⟨k, rfl, hk⟩ := range_ne h1 h2
  have hkc : k < p.Closed.length := by omega
  rw [if_neg (show ¬ ((k : Int) < 0 ∨ (b.Breakers.length : Int) ≤ (k : Int)) by omega)]
  simp only [dF h1, Bool.false_eq_true, if_false, dF (show ¬ (k : Int) ≥ len b.Breakers from h2), Option.bind_some, idx_gt hkc, refbrk_has hp, Int.toNat_natCast]
  cases hc : gt p.Closed k with
  | false =>
    rw [if_pos (show false = false ∨ (⟨2, (k : Int)⟩ : Part) ∈ p.Broken from .inl rfl)]
    simp only [Bool.not_false, if_true, Option.bind_some]
  | true =>
    simp only [Bool.not_true, Bool.false_eq_true, if_false, Option.bind_some]
    by_cases h3 : (⟨2, (k : Int)⟩ : Part) ∈ p.Broken
    · rw [if_pos (show true = false ∨ (⟨2, (k : Int)⟩ : Part) ∈ p.Broken from .inr h3)]
      simp only [dB_T h3, if_true]
    · rw [if_neg (show ¬ (true = false ∨ (⟨2, (k : Int)⟩ : Part) ∈ p.Broken) from fun hn => hn.elim (fun hh => by cases hh) h3)]
      simp only [dB_F h3, Bool.false_eq_true, if_false, copyB_eq hp, Option.bind_some, idx_gt hkc, setO_nat hkc]
theorem refmat_loop {l : List Int} {y : Running} {m : Nat} (hm : m < p.Sources.length) (hl : Sm l) (h : ∀ k ∈ l, 0 ≤ k ∧ k < p.Sources.length) (v : Bool) : loopO (dynposref16_Match_L1 p ((m : Int), v) l) (0, p.Sources) = some (setAll p.Sources (gt p.Sources m) l) := by
  refine loop_run (step := dynposref16_Match_L1 p ((m : Int), v) l) (fun k => ((k : Int), setAll p.Sources (gt p.Sources m) (l.take k))) l.length (fun k hk => ?_) (by simp only [dynposref16_Match_L1, nlt_len, Bool.false_eq_true, if_false, List.take_length])
  obtain ⟨k0, k1⟩ := h _ (gt_mem hk)
  obtain ⟨j, hj⟩ := Int.eq_ofNat_of_zero_le k0
  have hj : gt l k = (j : Int) := hj
  have hjl : j < (setAll p.Sources (gt p.Sources m) (l.take k)).length := by rw [setAll_len]; omega
  have hjs : j < ((setAll p.Sources (gt p.Sources m) (l.take k)).set j { gt (setAll p.Sources (gt p.Sources m) (l.take k)) j with Frequency := (gt p.Sources m).Frequency }).length := by simpa using hjl
  simp only [dynposref16_Match_L1, lt_len hk, if_true, idx_gt hk, idx_gt hm, Option.bind_some, hj, idx_gt hjl, setO_nat hjl, idx_gt hjs, setO_nat hjs, W_succ (sm_lt hl hk), gt_set hjl, take_gt hk, setAll_snoc, Int.toNat_natCast, List.set_set]
  rfl
theorem refmatch_eq (hb : SmB b) (hp : SmP p) (s k : Int) : dynposref16_Match b p s k = some (if stt b p ≠ 0 then (stt b p, [], [], [], []) else if s < 0 ∨ (b.Sources.length : Int) ≤ s ∨ k < 0 ∨ b.Buses ≤ k then (10, [], [], [], []) else
    if (lead b p k).2 = false ∨ (gt p.Sources s.toNat).State ≠ 2 then (11, [], [], [], []) else (0, p.Closed, (matP b p s.toNat (lead b p k).1.toNat).Sources, p.Limits, p.Broken)) := by
  unfold dynposref16_Match
  simp only [refstate_eq hb hp, Option.bind_some]
  by_cases h : stt b p = 0
  case neg => rw [if_pos (bneT h), if_pos h]
  have e : (stt b p != 0) = false := by rw [h]; rfl
  rw [if_neg (show ¬ (stt b p ≠ 0) from fun hn => hn h)]
  obtain ⟨⟨hl, hg⟩, ⟨s1, s2, s3⟩, g1, g2, g3⟩ := stt_zero.1 h
  simp only [e, Bool.false_eq_true, if_false]
  by_cases h1 : s < 0
  · rw [if_pos (show s < 0 ∨ _ from .inl h1)]
    simp only [dT h1, if_true, Option.bind_some]
  by_cases h2 : (b.Sources.length : Int) ≤ s
  · rw [if_pos (show s < 0 ∨ (b.Sources.length : Int) ≤ s ∨ _ from .inr (.inl h2))]
    simp only [dF h1, dT (show s ≥ len b.Sources from h2), Bool.false_eq_true, if_false, if_true, Option.bind_some]
  by_cases h3 : k < 0
  · rw [if_pos (show s < 0 ∨ (b.Sources.length : Int) ≤ s ∨ k < 0 ∨ _ from .inr (.inr (.inl h3)))]
    simp only [dF h1, dF (show ¬ s ≥ len b.Sources from h2), dT h3, Bool.false_eq_true, if_false, if_true, Option.bind_some]
  by_cases h4 : b.Buses ≤ k
  · rw [if_pos (show s < 0 ∨ (b.Sources.length : Int) ≤ s ∨ k < 0 ∨ b.Buses ≤ k from .inr (.inr (.inr h4)))]
    simp only [dF h1, dF (show ¬ s ≥ len b.Sources from h2), dF h3, dT (show k ≥ b.Buses from h4), Bool.false_eq_true, if_false, if_true, Option.bind_some]
  rw [if_neg (show ¬ (s < 0 ∨ (b.Sources.length : Int) ≤ s ∨ k < 0 ∨ b.Buses ≤ k) by omega)]
  obtain ⟨j, rfl, hj⟩ := range_ne h1 h2
  have hj : j < p.Sources.length := by omega
  simp only [dF h1, dF (show ¬ (j : Int) ≥ len b.Sources from h2), dF h3, dF (show ¬ k ≥ b.Buses from h4), Bool.false_eq_true, if_false, Option.bind_some, reflead_eq hb hp, idx_gt hj, Int.toNat_natCast]
  by_cases h5 : (gt p.Sources j).State = 2
  · cases hv : (lead b p k).2 with
    | false =>
      rw [if_pos (show false = false ∨ (gt p.Sources j).State ≠ 2 from .inl rfl)]
      simp only [bneF h5, Bool.false_eq_true, if_false, Bool.not_false, Option.bind_some, if_true]
    | true =>
      rw [if_neg (show ¬ (true = false ∨ (gt p.Sources j).State ≠ 2) from fun hn => hn.elim (fun hh => by cases hh) fun hh => hh h5)]
      obtain ⟨m, em, hm⟩ := lead_in h hv
      have hcb : connB b p (j : Int) = conn b p (j : Int) := by unfold connB; rw [if_pos h]
      have how : (if (conn b p (j : Int)).2 = true then Option.bind (dynposref15_Of b p (conn b p (j : Int)).1) fun x8 => some x8.2.2.1 else some [(j : Int)]) = some (ownL b p j) := by
        unfold ownL
        by_cases hc : (conn b p (j : Int)).2 = true
        · have c := conn_bd hg.1 hc
          rw [if_pos hc, if_pos hc, refof_isle hb hp]
          simp only [Option.bind_some]
          show some (ofB b p (conn b p (j : Int)).1).1.Sources = _
          rw [ofB_in' h c.1 c.2]
        · rw [if_neg hc, if_neg hc]
      have hpair : lead b p k = ((m : Int), true) := by rw [← em, ← hv]
      simp only [bneF h5, Bool.false_eq_true, if_false, Bool.not_true, Option.bind_some, refconn_eq hb hp, hcb, how, copyB_eq hp, hpair, refmat_loop (y := gt p.Sources m) hm (ownL_in h hj).2 (ownL_in h hj).1 true, Int.toNat_natCast]
      rfl
  · rw [if_pos (show (lead b p k).2 = false ∨ (gt p.Sources j).State ≠ 2 from .inr h5)]
    simp only [bneT h5, if_true, Option.bind_some]
noncomputable def turA (b : Board) (p : Power) : Int × List Bool × List Running × List Int × List Part := if stt b p ≠ 0 then (stt b p, [], [], [], []) else (0, p.Closed, p.Sources.map tick, p.Limits, p.Broken)
theorem turnA_eq (hb : SmB b) (hp : SmP p) : sync_Turn b p = some (turA b p) := by
  unfold turA
  by_cases h : stt b p = 0
  · rw [if_neg fun hn => hn h]
    exact turn_eq hb hp h
  · rw [if_pos h]
    unfold sync_Turn
    simp only [state_eq hb hp, Option.bind_some, bneT h, if_true]
theorem refturn_loop (hp : SmP p) (hr : ∀ k, k < p.Sources.length → RunOk (gt p.Sources k)) {x2 : List Bool × List Running × List Int × List Part} (hx : x2.2.1 = p.Sources) : loopO (dynposref16_Turn_L1 x2) ((0 : Int), p.Sources) = some (p.Sources.map tick) := by
  have hsm := hp.2.1
  have h := loop_run (step := dynposref16_Turn_L1 x2) (fun k => ((k : Int), turnAt p.Sources k)) p.Sources.length (r := turnAt p.Sources p.Sources.length) (fun k hk => by
    have hx' := hr k hk
    obtain ⟨_, _, ⟨f0, f1⟩, p0, p1⟩ := hx'
    have hl : k < (turnAt p.Sources k).length := by simpa [turnAt] using hk
    have hg : gt (turnAt p.Sources k) k = gt p.Sources k := by
      unfold turnAt; rw [gt_map_range _ hk, if_neg (by omega)]
    have hw : W ((gt p.Sources k).Phase + W (36 * W ((gt p.Sources k).Frequency - 5000))) = (gt p.Sources k).Phase + 36 * ((gt p.Sources k).Frequency - 5000) := by
      rw [W_sm (x := (gt p.Sources k).Frequency - 5000) (by omega) (by omega), W_sm (x := 36 * ((gt p.Sources k).Frequency - 5000)) (by omega) (by omega), W_sm (by omega) (by omega)]
    simp only [dynposref16_Turn_L1, hx, lt_len hk, if_true, idx_gt hl, hg, Option.bind_some, W_succ (sm_lt hp.2.1 hk), hw]
    have ht := turnAt_set p.Sources hk
    unfold tick at ht
    by_cases hs : (gt p.Sources k).State = 2
    · rw [if_pos hs] at ht
      simp only [beqT hs, if_true, refnorm_eq, idx_gt hl, Option.bind_some, setO_nat hl, hg, ht]
    · rw [if_neg hs] at ht
      have : turnAt p.Sources (k + 1) = turnAt p.Sources k := by
        rw [← ht, ← hg]
        apply ext_gt
        · simp
        · intro i hi
          rw [gt_set hl]
          split
          · rename_i e; rw [e]
          · rfl
      simp only [beqF hs, Bool.false_eq_true, if_false, Option.bind_some, this]) (by simp only [dynposref16_Turn_L1, hx, nlt_len, Bool.false_eq_true, if_false])
  rw [turnAt_all] at h
  have h0 := turnAt_zero p.Sources
  simp only [h0] at h
  exact h
theorem refturnA_eq (hb : SmB b) (hp : SmP p) : dynposref16_Turn b p = some (turA b p) := by
  unfold turA dynposref16_Turn
  by_cases h : stt b p = 0
  · obtain ⟨_, _, _, hr, _⟩ := stt_zero.1 h
    have e : (stt b p != 0) = false := by rw [h]; rfl
    rw [if_neg fun hn => hn h]
    simp only [refstate_eq hb hp, Option.bind_some, e, Bool.false_eq_true, if_false, copyB_eq hp, refturn_loop hp hr (x2 := (p.Closed, p.Sources, p.Limits, p.Broken)) rfl]
  · rw [if_pos h]
    simp only [refstate_eq hb hp, Option.bind_some, bneT h, if_true]
/-- together, told by buses -/
theorem bus_tog (hb : SmB b) (h : stt b q = 0) {x y : Nat} (hx : (conn b q (x : Int)).2 = true) (hy : (conn b q (y : Int)).2 = true) (hq : SmP q) : dynposref01_Has (ofR b q (conn b q (x : Int)).1).2.1 (conn b q (y : Int)).1 = some (dB (tog b q x y)) := by
  obtain ⟨⟨hl, hg⟩, _⟩ := stt_zero.1 h
  obtain ⟨x0, x1⟩ := conn_bd hg.1 hx
  obtain ⟨y0, y1⟩ := conn_bd hg.1 hy
  show dynposref01_Has (ofB b q (conn b q (x : Int)).1).1.Buses _ = _
  rw [has_eq (sm_buses hl _)]
  congr 1
  refine dB_eq ?_
  rw [decide_eq_true_eq, ofB_in' h x0 x1]
  have hgb := (grp_bd hg.1 (p := q) (show (conn b q (x : Int)).1.toNat < b.Buses.toNat by omega)).1
  constructor
  · intro hm
    obtain ⟨i, hi, h1, h2⟩ := mem_bus.1 hm
    refine ⟨hx, hy, ?_⟩
    rw [show (conn b q (y : Int)).1.toNat = i by omega, h1]
    omega
  · rintro ⟨_, _, h3⟩
    exact mem_bus.2 ⟨(conn b q (y : Int)).1.toNat, by omega, by rw [← h3]; omega, by omega⟩
theorem refbad_eq (hb : SmB b) (hp : SmP p) (hq : SmP q) (h : stt b p = 0) (h' : stt b q = 0) : dynposref16_Bad b p q = some (dB (BadB b p q)) := by
  obtain ⟨⟨hl, hg⟩, ⟨s1, s2, s3⟩, g1, g2, g3⟩ := stt_zero.1 h
  obtain ⟨gF, gP⟩ := good_64 hg
  have hsl := hl.src
  have cp : ∀ j, connB b p j = conn b p j := fun j => by unfold connB; rw [if_pos h]
  have cq : ∀ j, connB b q j = conn b q j := fun j => by unfold connB; rw [if_pos h']
  have inner : ∀ x, x < b.Sources.length → loopO (dynposref16_Bad_L2 b p q (x : Int)) 0 = some (cond (dB (∃ y, y < x ∧ (tog b q x y ∧ ¬ tog b p x y ∧ ¬ agr b (gt p.Sources x) (gt p.Sources y)))) (.inr (.inr (.inr true))) (.inl ())) := by
    intro x hx
    have key : ∀ y, y < x → dynposref16_Bad_L2 b p q (x : Int) (y : Int) = if tog b q x y ∧ ¬ tog b p x y ∧ ¬ agr b (gt p.Sources x) (gt p.Sources y) then some (.inr (.inr (.inr (.inr true)))) else some (.inl ((y + 1 : Nat) : Int)) := by
      intro y hy
      simp only [dynposref16_Bad_L2, dT (show (y : Int) < (x : Int) by omega), if_true, refconn_eq hb hp, refconn_eq hb hq, cp, cq, Option.bind_some, idx_gt (show x < p.Sources.length by omega), idx_gt (show y < p.Sources.length by omega), W_succ (show y < 1000000000000000000 by omega), refagreeA_eq gF gP, refof_isle hb hp, refof_isle hb hq]
      cases hx2 : (conn b q (x : Int)).2 with
      | false =>
        simp only [Bool.not_false, if_true, Option.bind_some, Sum.elim_inl]
        rw [if_neg fun hn => by rw [hn.1.1] at hx2; cases hx2]
      | true =>
        cases hy2 : (conn b q (y : Int)).2 with
        | false =>
          simp only [Bool.not_true, Bool.not_false, Bool.false_eq_true, if_false, if_true, Option.bind_some, Sum.elim_inl]
          rw [if_neg fun hn => by rw [hn.1.2.1] at hy2; cases hy2]
        | true =>
          simp only [Bool.not_true, Bool.false_eq_true, if_false, Option.bind_some, bus_tog hb h' hx2 hy2 hq]
          by_cases ht : tog b q x y
          · simp only [dB_T ht, Bool.not_true, Bool.false_eq_true, if_false]
            have fin : ¬ tog b p x y → (Option.bind (some (dB (agr b (gt p.Sources x) (gt p.Sources y)))) fun x20 => if (!x20) = true then some (.inr (.inr (.inr (.inr (.inr true))))) else some (.inl ())) = (if ¬ agr b (gt p.Sources x) (gt p.Sources y) then some (.inr (.inr (.inr (.inr (.inr true))))) else some (.inl ()) : Option (Unit ⊕ Int ⊕ Unit ⊕ Int ⊕ Unit ⊕ Bool)) := fun _ => by
              by_cases ha : agr b (gt p.Sources x) (gt p.Sources y)
              · rw [dB_T ha, if_neg fun hn => hn ha]; rfl
              · rw [dB_F ha, if_pos ha]; rfl
            have done : ¬ tog b p x y → ∀ z : Option (Unit ⊕ Int ⊕ Unit ⊕ Int ⊕ Unit ⊕ Bool), z = (if ¬ agr b (gt p.Sources x) (gt p.Sources y) then some (.inr (.inr (.inr (.inr (.inr true))))) else some (.inl ())) → (Option.bind z fun x22 => Sum.elim (fun x23 => some (.inl ((y + 1 : Nat) : Int))) (fun x24 => some x24) x22) = if tog b q x y ∧ ¬ tog b p x y ∧ ¬ agr b (gt p.Sources x) (gt p.Sources y) then some (.inr (.inr (.inr (.inr true)))) else some (.inl ((y + 1 : Nat) : Int)) := fun hn z hz => by
              rw [hz]
              by_cases ha : agr b (gt p.Sources x) (gt p.Sources y)
              · rw [if_neg fun hh => hh ha, if_neg fun hh => hh.2.2 ha]; rfl
              · rw [if_pos ha, if_pos ⟨ht, hn, ha⟩]; rfl
            cases hx1 : (conn b p (x : Int)).2 with
            | false =>
              have hn : ¬ tog b p x y := fun hh => by rw [hh.1] at hx1; cases hx1
              simp only [Bool.false_eq_true, if_false, Option.bind_some, Sum.elim_inl]
              exact done hn _ (fin hn)
            | true =>
              cases hy1 : (conn b p (y : Int)).2 with
              | false =>
                have hn : ¬ tog b p x y := fun hh => by rw [hh.2.1] at hy1; cases hy1
                simp only [Bool.false_eq_true, if_false, if_true, Option.bind_some, Sum.elim_inl]
                exact done hn _ (fin hn)
              | true =>
                simp only [if_true, Option.bind_some, bus_tog hb h hx1 hy1 hp]
                by_cases hn : tog b p x y
                · simp only [dB_T hn, if_true, Option.bind_some, Sum.elim_inr, Sum.elim_inl]
                  rw [if_neg fun hh => hh.2.1 hn]
                · simp only [dB_F hn, Bool.false_eq_true, if_false, Option.bind_some, Sum.elim_inl]
                  exact done hn _ (fin hn)
          · simp only [dB_F ht, Bool.not_false, if_true, Option.bind_some, Sum.elim_inl]
            rw [if_neg fun hn => ht hn.1]
    exact loop_anyB (step := dynposref16_Bad_L2 b p q (x : Int)) (r := .inr (.inr (.inr true))) (e := .inl ()) (fun k => (k : Int)) x (fun y => tog b q x y ∧ ¬ tog b p x y ∧ ¬ agr b (gt p.Sources x) (gt p.Sources y)) (fun y hy hn => by rw [key y hy, if_neg hn]) (fun y hy hn => by rw [key y hy, if_pos hn]) (by simp only [dynposref16_Bad_L2, dF (show ¬ (x : Int) < (x : Int) by omega), Bool.false_eq_true, if_false]) (by omega)
  have outer : loopO (dynposref16_Bad_L1 b p q) 0 = some (cond (dB (BadB b p q)) (.inr true) (.inl ())) := by
    have key : ∀ x, x < b.Sources.length → dynposref16_Bad_L1 b p q (x : Int) = cond (dB (∃ y, y < x ∧ (tog b q x y ∧ ¬ tog b p x y ∧ ¬ agr b (gt p.Sources x) (gt p.Sources y)))) (some (.inr (.inr true))) (some (.inl ((x + 1 : Nat) : Int))) := by
      intro x hx
      simp only [dynposref16_Bad_L1, lt_len hx, if_true, inner x hx, Option.bind_some, W_succ (show x < 1000000000000000000 by omega)]
      by_cases hn : ∃ y, y < x ∧ (tog b q x y ∧ ¬ tog b p x y ∧ ¬ agr b (gt p.Sources x) (gt p.Sources y))
      · rw [dB_T hn]; rfl
      · rw [dB_F hn]; rfl
    exact loop_anyB (step := dynposref16_Bad_L1 b p q) (r := .inr true) (e := .inl ()) (fun k => (k : Int)) b.Sources.length (fun x => ∃ y, y < x ∧ (tog b q x y ∧ ¬ tog b p x y ∧ ¬ agr b (gt p.Sources x) (gt p.Sources y))) (fun x hx hn => by rw [key x hx, dB_F hn]; rfl) (fun x hx hn => by rw [key x hx, dB_T hn]; rfl) (by simp only [dynposref16_Bad_L1, nlt_len, Bool.false_eq_true, if_false]) (by omega)
  unfold dynposref16_Bad
  have e : (stt b p != 0) = false := by rw [h]; rfl
  have e' : (stt b q != 0) = false := by rw [h']; rfl
  simp only [refstate_eq hb hp, refstate_eq hb hq, Option.bind_some, e, e', Bool.false_eq_true, if_false, outer]
  by_cases hn : BadB b p q
  · rw [dB_T hn]; rfl
  · rw [dB_F hn]; rfl
theorem bad_same (hb : SmB b) (hp : SmP p) (hq : SmP q) : ∃ v, sync_Bad b p q = some v ∧ dynposref16_Bad b p q = some v := by
  by_cases h : stt b p = 0
  · by_cases h' : stt b q = 0
    · exact ⟨_, bad_eq hb hp hq h h', refbad_eq hb hp hq h h'⟩
    · have e : (stt b p != 0) = false := by rw [h]; rfl
      refine ⟨false, ?_, ?_⟩
      · unfold sync_Bad
        simp only [state_eq hb hp, state_eq hb hq, Option.bind_some, e, bneT h', Bool.false_eq_true, if_false, if_true]
      · unfold dynposref16_Bad
        simp only [refstate_eq hb hp, refstate_eq hb hq, Option.bind_some, e, bneT h', Bool.false_eq_true, if_false, if_true]
  · refine ⟨false, ?_, ?_⟩
    · unfold sync_Bad
      simp only [state_eq hb hp, Option.bind_some, bneT h, if_true]
    · unfold dynposref16_Bad
      simp only [refstate_eq hb hp, Option.bind_some, bneT h, if_true]
end
end Rx
end Go.Proofs.YtkohjagmjnpdnaaGreat
