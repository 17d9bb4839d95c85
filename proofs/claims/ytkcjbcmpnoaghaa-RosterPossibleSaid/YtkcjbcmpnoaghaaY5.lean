/- The reference's commands (chapter 16), where they are permitted. Plain laws. -/
import Derived.Test.YtkcjbcmpnoaghaaY4
import Derived.Test.YtkcjbcmpnoaghaaS8
set_option linter.unusedVariables false
set_option linter.unusedSimpArgs false
namespace Go.Proofs.Ytkcjbcmpnoaghaa
open Go Go.RowKit Dp
namespace Rx
open Classical

section
variable {b : Board} {p : Power}
theorem remOY (a : Int) : remO a 3600 = some (a.tmod 3600) := by unfold remO; rw [if_neg (by omega)]
theorem refnormY (a : Int) : dynposref02_Norm a = some (a % 3600) := by
  unfold dynposref02_Norm
  obtain ⟨h1, h2, h3⟩ := tmod_3600 a
  simp only [remOY, Option.bind_some, Option.bind_fun_some]
  rw [W_sm (by omega) (by omega), Int.tmod_eq_emod_of_nonneg (by omega)]
  congr 1
  split at h1 <;> omega
theorem refdifY (a c : Int) : dynposref02_Diff a c = some (dif a c) := by
  unfold dynposref02_Diff dif
  simp only [refnormY, Option.bind_some, Option.bind_fun_some]
  rw [W_sm (x := c % 3600 - a % 3600) (by omega) (by omega)]
  by_cases h : (c % 3600 - a % 3600) % 3600 > 1800
  · simp only [dT h, if_true, if_pos h, W_sm (x := (c % 3600 - a % 3600) % 3600 - 3600) (by omega) (by omega)]
  · simp only [dF h, Bool.false_eq_true, if_false, if_neg h]
theorem refagreeY (hg : BGood b) (x y : Running) : dynposref16_Agree b x y = some (dB (agr b x y)) := by
  have hd := dif_bd x.Phase y.Phase
  obtain ⟨_, ⟨p1, p2⟩, ⟨f1, f2⟩, _⟩ := hg
  have hl : loopO (dynposref16_Agree_L1 x y) 0 = some (cond (dB (∃ k, k < 2 ∧ ¬ (0 ≤ gt [x.Frequency, y.Frequency] k ∧ gt [x.Frequency, y.Frequency] k ≤ 6000))) (.inr false) (.inl ())) := by
    have key : ∀ k : Nat, k < 2 → dynposref16_Agree_L1 x y (k : Int) = if ¬ (0 ≤ gt [x.Frequency, y.Frequency] k ∧ gt [x.Frequency, y.Frequency] k ≤ 6000) then some (.inr (.inr false)) else some (.inl ((k + 1 : Nat) : Int)) := fun k hk => by
      simp only [dynposref16_Agree_L1, dT (show (k : Int) < 2 by omega), if_true, idx_gt (show k < [x.Frequency, y.Frequency].length from hk), Option.bind_some, W_succ (show k < 1000000000000000000 by omega)]
      by_cases h1 : gt [x.Frequency, y.Frequency] k < 0
      · simp only [dT h1, if_true, Option.bind_some]
        rw [if_pos (by omega)]
      · by_cases h2 : gt [x.Frequency, y.Frequency] k > 6000
        · simp only [dF h1, dT h2, Bool.false_eq_true, if_false, if_true, Option.bind_some]
          rw [if_pos (by omega)]
        · simp only [dF h1, dF h2, Bool.false_eq_true, if_false, Option.bind_some]
          rw [if_neg (by omega)]
    exact loop_anyB (step := dynposref16_Agree_L1 x y) (r := .inr false) (e := .inl ()) (fun k => (k : Int)) 2 (fun k => ¬ (0 ≤ gt [x.Frequency, y.Frequency] k ∧ gt [x.Frequency, y.Frequency] k ≤ 6000)) (fun k hk hn => by rw [key k hk, if_neg hn]) (fun k hk hn => by rw [key k hk, if_pos hn]) (by simp only [dynposref16_Agree_L1, dF (show ¬ ((2 : Nat) : Int) < 2 by omega), Bool.false_eq_true, if_false])
  unfold dynposref16_Agree
  rw [hl]
  by_cases hfr : (0 ≤ x.Frequency ∧ x.Frequency ≤ 6000) ∧ (0 ≤ y.Frequency ∧ y.Frequency ≤ 6000)
  · rw [dB_F (by
      rintro ⟨k, hk, hn⟩
      match k, hk with
      | 0, _ => exact hn hfr.1
      | 1, _ => exact hn hfr.2)]
    simp only [cond_false, Option.bind_some, Sum.elim_inl, refdifY, Option.bind_fun_some]
    rw [W_sm (x := x.Frequency - y.Frequency) (by omega) (by omega), W_sm (x := -b.Frequency) (by omega) (by omega), W_sm (x := -b.Phase) (by omega) (by omega)]
    by_cases h1 : x.Frequency - y.Frequency ≥ -b.Frequency
    · by_cases h2 : x.Frequency - y.Frequency ≤ b.Frequency
      · by_cases h3 : dif x.Phase y.Phase ≥ -b.Phase
        · simp only [dT h1, dT h2, dT h3, if_true]
          congr 1
          refine dB_eq ?_
          unfold agr
          rw [decide_eq_true_eq]
          omega
        · simp only [dT h1, dT h2, dF h3, if_true, Bool.false_eq_true, if_false]
          rw [dB_F]
          unfold agr
          omega
      · simp only [dT h1, dF h2, if_true, Bool.false_eq_true, if_false]
        rw [dB_F]
        unfold agr
        omega
    · simp only [dF h1, Bool.false_eq_true, if_false]
      rw [dB_F]
      unfold agr
      omega
  · rw [dB_T (by
      by_cases h0 : 0 ≤ x.Frequency ∧ x.Frequency ≤ 6000
      · exact ⟨1, by omega, fun hn => hfr ⟨h0, hn⟩⟩
      · exact ⟨0, by omega, h0⟩)]
    simp only [cond_true, Option.bind_some, Sum.elim_inr]
    rw [dB_F]
    unfold agr
    omega


theorem refcopyv_eq (h : SmP p) : dynposref15_Copy_v1 p = some (p.Closed, p.Sources, p.Limits, p.Broken) := by
  obtain ⟨h1, h2, h3, h4⟩ := h
  unfold Sm at *
  unfold dynposref15_Copy_v1
  rw [app_sm (by simp; omega), app_sm (by simp; omega), app_sm (by simp; omega), app_sm (by simp; omega)]
  rfl
theorem reffolv_eq (hb : SmB b) (hp : SmP p) (h : stt b p = 0) : dynposref16_follow_v1 b p = some (p.Closed, p.Sources, p.Limits, p.Broken, p.Closed, folL b p, p.Limits, p.Broken) := by
  obtain ⟨⟨hl, hg⟩, ⟨s1, s2, s3⟩, _⟩ := stt_zero.1 h
  unfold dynposref16_follow_v1
  have hlp : loopO (dynposref16_follow_v1_L1 (p.Closed, p.Sources, p.Limits, p.Broken, p.Closed, p.Sources, p.Limits, p.Broken) (isl b p)) ((0 : Int), p.Sources) = some (folL b p) := reffol_loop hg.1 hl s2 (x1 := (p.Closed, p.Sources, p.Limits, p.Broken, p.Closed, p.Sources, p.Limits, p.Broken)) rfl
  have hisl : dynposref15_Islands b ⟨p.Closed, p.Sources, p.Limits, p.Broken⟩ = some (isl b p) := refislands_eq hb hp h
  simp only [refcopy_eq hp, Option.bind_some, hisl, hlp]
theorem reflead_eq (hb : SmB b) (hp : SmP p) (k : Int) : dynposref16_Leader b p k = some (lead b p k) := by
  unfold dynposref16_Leader lead
  rw [refof_isle hb hp]
  unfold ofR
  by_cases hc : stt b p = 0 ∧ 0 ≤ k ∧ k < b.Buses
  · have e : ofB b p k = (isleOf b p k, true) := by unfold ofB; rw [if_pos hc]
    rw [e]
    by_cases hs : (isleOf b p k).Sources = []
    · have : (len (isleOf b p k).Sources == 0) = true := by rw [hs]; rfl
      simp only [Option.bind_some, Bool.not_true, Bool.false_eq_true, if_false, this, if_true, if_pos hs]
    · have hpos := List.length_pos_iff.2 hs
      have : (len (isleOf b p k).Sources == 0) = false := by unfold len; simp; exact hs
      have e0 : idx (isleOf b p k).Sources 0 = some (gt (isleOf b p k).Sources 0) := idx_gt hpos
      simp only [Option.bind_some, Bool.not_true, Bool.false_eq_true, if_false, this, if_neg hs, e0]
  · have e : ofB b p k = (⟨[], [], []⟩, false) := by unfold ofB; rw [if_neg hc]
    rw [e]
    simp
/-- a generator that is not connected made to run like another one -/
theorem refmatch_eq (hb : SmB b) (hp : SmP p) (h : stt b p = 0) {j : Nat} (hj : j < b.Sources.length) {k : Int} (k0 : 0 ≤ k) (k1 : k < b.Buses) (hS : (gt p.Sources j).State = 2) {m : Nat} (hL : lead b p k = ((m : Int), true)) (hm : m < p.Sources.length) (hc : (conn b p (j : Int)).2 = false) :
    dynposref16_Match b p (j : Int) k = some (0, (matP b p j m).Closed, (matP b p j m).Sources, (matP b p j m).Limits, (matP b p j m).Broken) := by
  obtain ⟨⟨hl, hg⟩, ⟨s1, s2, s3⟩, _⟩ := stt_zero.1 h
  have hjp : j < p.Sources.length := by omega
  have hjs : j < (p.Sources.set j { gt p.Sources j with Frequency := (gt p.Sources m).Frequency }).length := by simpa using hjp
  have how : ownL b p j = [(j : Int)] := by unfold ownL; rw [hc]; rfl
  have hcb : connB b p (j : Int) = conn b p (j : Int) := by unfold connB; rw [if_pos h]
  have hloop : loopO (dynposref16_Match_L1 p ((m : Int), true) [(j : Int)]) ((0 : Int), p.Sources) = some (p.Sources.set j (like (gt p.Sources j) (gt p.Sources m))) := by
    have := loop_run (step := dynposref16_Match_L1 p ((m : Int), true) [(j : Int)]) (fun i => ((i : Int), if i = 0 then p.Sources else p.Sources.set j (like (gt p.Sources j) (gt p.Sources m)))) 1 (r := p.Sources.set j (like (gt p.Sources j) (gt p.Sources m))) (fun i hi => by
      have : i = 0 := by omega
      subst this
      have e0 : decide (((0 : Nat) : Int) < len [(j : Int)]) = true := rfl
      have e1 : idx [(j : Int)] ((0 : Nat) : Int) = some (j : Int) := rfl
      simp only [dynposref16_Match_L1, e0, e1, if_true, Option.bind_some, idx_gt hm, idx_gt hjp, setO_nat hjp, idx_gt hjs, setO_nat hjs, gt_set hjp, W_succ (show 0 < 1000000000000000000 by omega), List.set_set]
      rfl) (by
      have e0 : decide (((1 : Nat) : Int) < len [(j : Int)]) = false := rfl
      simp only [dynposref16_Match_L1, e0, Bool.false_eq_true, if_false]
      rfl)
    exact this
  have hmat : (matP b p j m).Sources = p.Sources.set j (like (gt p.Sources j) (gt p.Sources m)) := by
    unfold matP
    rw [how]
    rfl
  have hst : ((gt p.Sources j).State != 2) = false := by rw [hS]; rfl
  unfold dynposref16_Match
  simp only [refstate_eq hb hp, h, Option.bind_some, bne_self_eq_false, Bool.false_eq_true, if_false, dF (show ¬ (j : Int) < 0 by omega), dF (show ¬ (j : Int) ≥ len b.Sources by unfold len; omega), dF (show ¬ k < 0 by omega), dF (show ¬ k ≥ b.Buses by omega), reflead_eq hb hp, hL, idx_gt hjp, hst, Bool.not_true, refconn_eq hb hp, hcb, hc, refcopyv_eq hp, hloop]
  rw [hmat]
  rfl
/-- a generator's breaker closed -/
theorem refclose_eq (hb : SmB b) (hp : SmP p) (h : stt b p = 0) {j : Nat} (hj : j < b.Sources.length) (hs : SndB b p (bk b j)) {m : Nat} (hL : lead b p (gt b.Breakers (bk b j)).A = ((m : Int), true)) (hm : m < p.Sources.length) (ha : agr b (gt p.Sources m) (gt p.Sources j)) :
    dynposref16_Close b p (bk b j : Int) = some (0, (folP b (clP p (bk b j))).Closed, (folP b (clP p (bk b j))).Sources, (folP b (clP p (bk b j))).Limits, (folP b (clP p (bk b j))).Broken) := by
  obtain ⟨⟨hl, hg⟩, ⟨s1, s2, s3⟩, _⟩ := stt_zero.1 h
  obtain ⟨k1, k2, k3⟩ := bk_spec hg.1 hj
  have hjp : j < p.Sources.length := by omega
  have hcl : bk b j < p.Closed.length := by omega
  obtain ⟨a1, a2, a3, a4⟩ := hs
  rw [if_neg (by rw [k2.1]; decide), if_pos k2.1, k2.2, Int.toNat_natCast] at a4
  have e1 : ((gt b.Breakers (bk b j)).Kind == 1) = false := by rw [k2.1]; rfl
  have e2 : ((gt b.Breakers (bk b j)).Kind == 2) = true := by rw [k2.1]; rfl
  have e3 : ((gt p.Sources j).State != 2) = false := by rw [a4.2]; rfl
  have hmay : dynposref16_May b p (bk b j : Int) = some 0 := by
    unfold dynposref16_May
    simp only [refstate_eq hb hp, h, Option.bind_some, bne_self_eq_false, Bool.false_eq_true, if_false, dF (show ¬ (bk b j : Int) < 0 by omega), dF (show ¬ (bk b j : Int) ≥ len b.Breakers by unfold len; omega), idx_gt k1, idx_gt hcl, a1, refBroken_eq hp, dF a2, dF a3, reflead_eq hb hp, hL, e1, e2, if_true, k2.2, dF a4.1, idx_gt hjp, e3, idx_gt hm, refagreeY hg, dB_T ha, Bool.not_true, Sum.elim_inl]
  have h1 := stt_close h k1 a1 (fun n1 n2 => absurd k2.1 n2)
  have hfol := reffolv_eq hb (sm_cl (i := bk b j) hp) h1
  unfold dynposref16_Close
  simp only [hmay, Option.bind_some, bne_self_eq_false, Bool.false_eq_true, if_false, refcopyv_eq hp, idx_gt hcl, setO_nat hcl]
  rw [show (⟨p.Closed.set (bk b j) true, p.Sources, p.Limits, p.Broken⟩ : Power) = clP p (bk b j) from rfl, hfol]
  rfl
/-- a breaker opened -/
theorem refopen_eq (hb : SmB b) (hp : SmP p) (h : stt b p = 0) {i : Nat} (hi : i < b.Breakers.length) (hc : gt p.Closed i = true) (hn : ¬ (⟨2, (i : Int)⟩ : Part) ∈ p.Broken) :
    dynposref16_Open b p (i : Int) = some (0, (opP p i).Closed, (opP p i).Sources, (opP p i).Limits, (opP p i).Broken) := by
  obtain ⟨⟨hl, hg⟩, ⟨s1, s2, s3⟩, _⟩ := stt_zero.1 h
  have hcl : i < p.Closed.length := by omega
  unfold dynposref16_Open
  simp only [refstate_eq hb hp, h, Option.bind_some, bne_self_eq_false, Bool.false_eq_true, if_false, dF (show ¬ (i : Int) < 0 by omega), dF (show ¬ (i : Int) ≥ len b.Breakers by unfold len; omega), idx_gt hcl, hc, Bool.not_true, refBroken_eq hp, dF hn, refcopyv_eq hp, setO_nat hcl]
  rfl
theorem refbad_no (hb : SmB b) (hp : SmP p) {q : Power} (hq : SmP q) (h : stt b p = 0) (h' : stt b q = 0) (hno : ¬ BadB b p q) : dynposref16_Bad b p q = some false := by
  obtain ⟨⟨hl, hg⟩, ⟨s1, s2, s3⟩, g1, g2, g3⟩ := stt_zero.1 h
  obtain ⟨_, ⟨t1, t2, t3⟩, _⟩ := stt_zero.1 h'
  have hsl := hl.src
  have cb : ∀ z : Int, connB b p z = conn b p z := fun z => by unfold connB; rw [if_pos h]
  have cb' : ∀ z : Int, connB b q z = conn b q z := fun z => by unfold connB; rw [if_pos h']
  have has : ∀ (r : Power), stt b r = 0 → SmP r → ∀ x y : Int, (conn b r x).2 = true → (conn b r y).2 = true → dynposref15_Of b r (conn b r x).1 = some (true, (isleOf b r (conn b r x).1).Buses, (isleOf b r (conn b r x).1).Sources, (isleOf b r (conn b r x).1).Consumers) ∧
      dynposref01_Has (isleOf b r (conn b r x).1).Buses (conn b r y).1 = some (decide (gt (grp b r) (conn b r x).1.toNat = gt (grp b r) (conn b r y).1.toNat)) := fun r hr hsr x y hx hy => by
    have bx := conn_bd hg.1 hx
    have bY := conn_bd hg.1 hy
    refine ⟨by rw [refof_isle hb hsr, ofR, ofB_in' hr bx.1 bx.2], ?_⟩
    rw [refhas_isle hg.1 hl bx.1 bx.2 bY]
    congr 1
    have hg0 := (grp_bd (p := r) hg.1 (show (conn b r x).1.toNat < b.Buses.toNat by omega)).1
    rw [Bool.eq_iff_iff, beq_iff_eq, decide_eq_true_iff]
    omega
  have inner : ∀ x, x < b.Sources.length → loopO (dynposref16_Bad_L2 b p q (x : Int)) 0 = some (.inl ()) := by
    intro x hx
    refine loop_run (step := dynposref16_Bad_L2 b p q (x : Int)) (fun y => (y : Int)) x (r := .inl ()) (fun y hy => ?_) (by simp only [dynposref16_Bad_L2, dF (show ¬ (x : Int) < (x : Int) by omega), Bool.false_eq_true, if_false])
    have hyl : y < b.Sources.length := by omega
    simp only [dynposref16_Bad_L2, dT (show (y : Int) < (x : Int) by omega), if_true, refconn_eq hb hp, refconn_eq hb hq, cb, cb', Option.bind_some]
    have hW := W_succ (show y < 1000000000000000000 by omega)
    by_cases c1 : (conn b q (x : Int)).2 = true
    case neg =>
      have c1 : (conn b q (x : Int)).2 = false := by simpa using c1
      simp only [c1, Bool.not_false, if_true, Option.bind_some, Sum.elim_inl, hW]
    by_cases c2 : (conn b q (y : Int)).2 = true
    case neg =>
      have c2 : (conn b q (y : Int)).2 = false := by simpa using c2
      simp only [c1, c2, Bool.not_true, Bool.not_false, Bool.false_eq_true, if_false, if_true, Option.bind_some, Sum.elim_inl, hW]
    obtain ⟨o1, o2⟩ := has q h' hq x y c1 c2
    simp only [c1, c2, Bool.not_true, Bool.false_eq_true, if_false, Option.bind_some, o1, o2]
    by_cases c3 : gt (grp b q) (conn b q (x : Int)).1.toNat = gt (grp b q) (conn b q (y : Int)).1.toNat
    case neg => simp only [dF c3, Bool.not_false, if_true, Option.bind_some, Sum.elim_inl, hW]
    simp only [dT c3, Bool.not_true, Bool.false_eq_true, if_false]
    have tq : tog b q x y := ⟨c1, c2, c3⟩
    have hag : ¬ tog b p x y → agr b (gt p.Sources x) (gt p.Sources y) := fun hn => by
      apply Classical.byContradiction
      intro h3
      exact hno ⟨x, hx, y, hy, tq, hn, h3⟩
    have hxp : x < p.Sources.length := by omega
    have hyp : y < p.Sources.length := by omega
    by_cases d1 : (conn b p (x : Int)).2 = true
    case neg =>
      have ha := hag fun ht => d1 ht.1
      have d1 : (conn b p (x : Int)).2 = false := by simpa using d1
      simp only [d1, Bool.false_eq_true, if_false, Option.bind_some, Sum.elim_inl, idx_gt hxp, idx_gt hyp, refagreeY hg, dB_T ha, Bool.not_true, hW]
    by_cases d2 : (conn b p (y : Int)).2 = true
    case neg =>
      have ha := hag fun ht => d2 ht.2.1
      have d2 : (conn b p (y : Int)).2 = false := by simpa using d2
      simp only [d1, d2, if_true, Bool.false_eq_true, if_false, Option.bind_some, Sum.elim_inl, idx_gt hxp, idx_gt hyp, refagreeY hg, dB_T ha, Bool.not_true, hW]
    obtain ⟨o3, o4⟩ := has p h hp x y d1 d2
    simp only [d1, d2, if_true, Option.bind_some, o3, o4]
    by_cases d3 : gt (grp b p) (conn b p (x : Int)).1.toNat = gt (grp b p) (conn b p (y : Int)).1.toNat
    · simp only [dT d3, if_true, Option.bind_some, Sum.elim_inr, Sum.elim_inl, hW]
    · have ha := hag fun ht => d3 ht.2.2
      simp only [dF d3, Bool.false_eq_true, if_false, Option.bind_some, Sum.elim_inl, idx_gt hxp, idx_gt hyp, refagreeY hg, dB_T ha, Bool.not_true, hW]
  have outer : loopO (dynposref16_Bad_L1 b p q) 0 = some (.inl ()) :=
    loop_run (step := dynposref16_Bad_L1 b p q) (fun x => (x : Int)) b.Sources.length (r := .inl ()) (fun x hx => by simp only [dynposref16_Bad_L1, lt_len hx, if_true, inner x hx, Option.bind_some, Sum.elim_inl, W_succ (show x < 1000000000000000000 by omega)]) (by simp only [dynposref16_Bad_L1, nlt_len, Bool.false_eq_true, if_false])
  unfold dynposref16_Bad
  simp only [refstate_eq hb hp, refstate_eq hb hq, h, h', Option.bind_some, bne_self_eq_false, Bool.false_eq_true, if_false, outer, Sum.elim_inl]
end
end Rx
end Go.Proofs.Ytkcjbcmpnoaghaa
