/- SyncExact: all functions of the interlock answer as the reference does, whatever boards, states, generators and numbers they are given. Plain law. -/
import Derived.Test.YtkohjagmjnpdnaaGreatS10
set_option linter.unusedVariables false
set_option linter.unusedSimpArgs false
namespace Go.Proofs.YtkohjagmjnpdnaaGreat
open Go Go.RowKit Dp
namespace Rx

section
variable {b : Board} {p q : Power}
abbrev pw (v : Int × List Bool × List Running × List Int × List Part) : Power := ⟨v.2.1, v.2.2.1, v.2.2.2.1, v.2.2.2.2⟩
theorem sm_e : SmP ⟨[], [], [], []⟩ := ⟨by unfold Sm; simp, by unfold Sm; simp, by unfold Sm; simp, by unfold Sm; simp⟩
theorem close_same (hb : SmB b) (hp : SmP p) (i : Int) : ∃ v, sync_Close b p i = some v ∧ dynposref16_Close b p i = some v ∧ SmP (pw v) := by
  refine ⟨_, closeA_eq hb hp i, refclose_eq hb hp i, ?_⟩
  split
  · exact sm_e
  · exact sm_fol (sm_cl hp)
theorem open_same (hb : SmB b) (hp : SmP p) (i : Int) : ∃ v, sync_Open b p i = some v ∧ dynposref16_Open b p i = some v ∧ SmP (pw v) := by
  refine ⟨_, openA_eq hb hp i, refopen_eq hb hp i, ?_⟩
  split
  · exact sm_e
  · split
    · exact sm_e
    · split
      · exact sm_e
      · exact sm_set hp
theorem match_same (hb : SmB b) (hp : SmP p) (s k : Int) : ∃ v, sync_Match b p s k = some v ∧ dynposref16_Match b p s k = some v ∧ SmP (pw v) := by
  refine ⟨_, matchA_eq hb hp s k, refmatch_eq hb hp s k, ?_⟩
  split
  · exact sm_e
  · split
    · exact sm_e
    · split
      · exact sm_e
      · exact sm_mat hp
theorem follow_same (hb : SmB b) (hp : SmP p) : ∃ v, sync_Follow b p = some v ∧ dynposref16_FollowB b p = some v ∧ SmP (pw v) := by
  refine ⟨_, followA_eq hb hp, reffollowA_eq hb hp, ?_⟩
  unfold folA
  split
  · exact sm_e
  · exact sm_fol hp
theorem turn_same (hb : SmB b) (hp : SmP p) : ∃ v, sync_Turn b p = some v ∧ dynposref16_Turn b p = some v ∧ SmP (pw v) := by
  refine ⟨_, turnA_eq hb hp, refturnA_eq hb hp, ?_⟩
  unfold turA
  split
  · exact sm_e
  · exact sm_turned hp
theorem same_pw {v : Int × List Bool × List Running × List Int × List Part} (h : SmP (pw v)) : dynposref15_Same (Power.mk v.2.1 v.2.2.1 v.2.2.2.1 v.2.2.2.2) (Power.mk v.2.1 v.2.2.1 v.2.2.2.1 v.2.2.2.2) = some true := same_refl h
theorem exactS4 (hb : SmB b) (hp : SmP p) (i k : Int) (x : Int × List Int × Int) (s : List Bool × List Running × List Int × List Part × List Bool × List Running × List Int × List Part) :
    Wp (loopO (dynposlaw16_SyncExact_L4 k b p i x) (0, s)) fun r => ∃ y, r = .inl y := by
  refine wp_upto 2 (fun k s => s.1 = (k : Int)) rfl (fun j s hj hs => ?_) (fun s hs => ?_) (by omega)
  · obtain ⟨z, s⟩ := s
    simp only at hs
    subst hs
    obtain ⟨m, hm⟩ : ∃ m, idx [k, x.1] (j : Int) = some m := ⟨_, idx_gt (l := [k, x.1]) (by simpa using hj)⟩
    obtain ⟨v, v1, v2, v3⟩ := match_same hb hp i m
    unfold dynposlaw16_SyncExact_L4
    simp only [dT (c := (j : Int) < 2) (by omega), if_true, hm, Option.bind_some, v1, v2, same_pw v3, Bool.not_true, bne_self_eq_false, Bool.false_eq_true, if_false]
    rw [W_succ (by omega)]
    exact wp_some.2 rfl
  · obtain ⟨z, s⟩ := s
    simp only at hs
    subst hs
    unfold dynposlaw16_SyncExact_L4
    simp only [dF (c := ((2 : Nat) : Int) < 2) (by omega), Bool.false_eq_true, if_false]
    exact wp_some.2 ⟨_, rfl⟩
theorem exactS3 (hb : SmB b) (hp : SmP p) (n k : Int) (x : Int × List Int × Int) {l : List Int} {a : Int} (hs : Sr l a) :
    Wp (loopO (dynposlaw16_SyncExact_L3 n k b p x) (0, l, a)) fun r => ∃ l a, r = .inl (l, a) ∧ Sr l a := by
  refine wp_upto 3 (fun k s => ∃ l a, s = ((k : Int), l, a) ∧ Sr l a) ⟨_, _, rfl, hs⟩ (fun j s hj hi => ?_) (fun s hi => ?_) (by omega)
  · obtain ⟨l, a, rfl, hs⟩ := hi
    obtain ⟨i, hi⟩ : ∃ i, idx [n, x.1, 0] (j : Int) = some i := ⟨_, idx_gt (l := [n, x.1, 0]) (by simpa using hj)⟩
    obtain ⟨v, v1, v2, v3⟩ := close_same hb hp i
    obtain ⟨w, w1, w2, w3⟩ := open_same hb hp i
    obtain ⟨c, c1, c2⟩ := bad_same hb hp v3
    have c1 : sync_Bad b p (Power.mk v.2.1 v.2.2.1 v.2.2.2.1 v.2.2.2.2) = some c := c1
    have c2 : dynposref16_Bad b p (Power.mk v.2.1 v.2.2.1 v.2.2.2.1 v.2.2.2.2) = some c := c2
    unfold dynposlaw16_SyncExact_L3
    simp only [dT (c := (j : Int) < 3) (by omega), if_true, hi, Option.bind_some, lead_eq hb hp, reflead_eq hb hp, may_eq hb hp, refmay_eq hb hp, v1, v2, same_pw v3, c1, c2, w1, w2, same_pw w3, Bool.not_true, bne_self_eq_false, beq_self_eq_true, Bool.false_eq_true, if_false]
    refine (wpN hs (n := 5) (by omega) (by omega)).bind fun z hz => ?_
    refine (exactS4 hb hp i k z _).bind fun y hy => ?_
    obtain ⟨y, rfl⟩ := hy
    simp only [Sum.elim_inl]
    rw [W_succ (by omega)]
    exact wp_some.2 ⟨_, _, rfl, hz.2⟩
  · obtain ⟨l, a, rfl, hs⟩ := hi
    unfold dynposlaw16_SyncExact_L3
    simp only [dF (c := ((3 : Nat) : Int) < 3) (by omega), Bool.false_eq_true, if_false]
    exact wp_some.2 ⟨_, _, rfl, hs⟩
end
theorem exactS2 {b : Board} (hb : SmB b) {p0 p1 p2 odd q other : Power} (h0 : SmP p0) (h1 : SmP p1) (h2 : SmP p2) (h3 : SmP odd) (hq : SmP q) (ho : SmP other) (n k : Int) {l l' l'' : List Int} {a a' a'' : Int} (hs : Sr l a) (nb ph fr : Int) (xl : List Int) (xa : Int) (yl : List Int) (ya : Int) (B B' : List Breaker) (S S' : List Source) (C C' : List Consumer) :
    Wp (loopO (dynposlaw16_SyncExact_L2 odd other n k (nb, ph, fr, xl, xa, B, S, C, p0.Closed, p0.Sources, p0.Limits, p0.Broken) (yl, ya, B', S', C', q.Closed, q.Sources, q.Limits, q.Broken) b (l', a', p1.Closed, p1.Sources, p1.Limits, p1.Broken) (l'', a'', p2.Closed, p2.Sources, p2.Limits, p2.Broken)) (0, l, a)) fun r => ∃ l a, r = .inl (l, a) ∧ Sr l a := by
  refine wp_upto 4 (fun k s => ∃ l a, s = ((k : Int), l, a) ∧ Sr l a) ⟨_, _, rfl, hs⟩ (fun j s hj hi => ?_) (fun s hi => ?_) (by omega)
  · obtain ⟨l, a, rfl, hs⟩ := hi
    obtain ⟨u, hu, hus⟩ : ∃ u, idx [p0, p1, p2, odd] (j : Int) = some u ∧ SmP u := by
      rcases j with _ | _ | _ | _ | j
      · exact ⟨p0, rfl, h0⟩
      · exact ⟨p1, rfl, h1⟩
      · exact ⟨p2, rfl, h2⟩
      · exact ⟨odd, rfl, h3⟩
      · omega
    have hu' : idx [Power.mk p0.Closed p0.Sources p0.Limits p0.Broken, Power.mk p1.Closed p1.Sources p1.Limits p1.Broken, Power.mk p2.Closed p2.Sources p2.Limits p2.Broken, odd] (j : Int) = some u := hu
    obtain ⟨v, v1, v2, v3⟩ := follow_same hb hus
    obtain ⟨w, w1, w2, w3⟩ := turn_same hb hus
    obtain ⟨c, c1, c2⟩ := bad_same hb hus hq
    obtain ⟨d, d1, d2⟩ := bad_same hb hus ho
    have c1 : sync_Bad b u (Power.mk q.Closed q.Sources q.Limits q.Broken) = some c := c1
    have c2 : dynposref16_Bad b u (Power.mk q.Closed q.Sources q.Limits q.Broken) = some c := c2
    unfold dynposlaw16_SyncExact_L2
    simp only [dT (c := (j : Int) < 4) (by omega), if_true, hu', Option.bind_some]
    refine (wpN hs (n := 12) (by omega) (by omega)).bind fun z hz => ?_
    refine (exactS3 hb hus n k z hz.2).bind fun y hy => ?_
    obtain ⟨l1, a1, rfl, hy⟩ := hy
    simp only [Sum.elim_inl, v1, v2, same_pw v3, w1, w2, same_pw w3, c1, c2, d1, d2, Option.bind_some, Bool.not_true, bne_self_eq_false, beq_self_eq_true, Bool.false_eq_true, if_false]
    rw [W_succ (by omega)]
    exact wp_some.2 ⟨_, _, rfl, hy⟩
  · obtain ⟨l, a, rfl, hs⟩ := hi
    unfold dynposlaw16_SyncExact_L2
    simp only [dF (c := ((4 : Nat) : Int) < 4) (by omega), Bool.false_eq_true, if_false]
    exact wp_some.2 ⟨_, _, rfl, hs⟩
theorem powerS_eq (s : Src) (b : Board) : Src_PowerS s b = Option.bind (Src_Power s b) fun r => some (r.1, r.2.1, r.2.2.2.2.2.1, r.2.2.2.2.2.2.1, r.2.2.2.2.2.2.2.1, r.2.2.2.2.2.2.2.2) := by
  have e1 : Src_PowerS_L1 b = Src_Power_L1 b := rfl
  have e2 : Src_PowerS_L2 b = Src_Power_L2 b := rfl
  have e4 : Src_PowerS_L4 b = Src_Power_L4 b := rfl
  have e5 : Src_PowerS_L5 b = Src_Power_L5 b := rfl
  have e6 : Src_PowerS_L6 b = Src_Power_L6 b := rfl
  unfold Src_PowerS Src_Power
  simp only [e1, e2, e4, e5, e6, Option.bind_assoc, Option.bind_some]
theorem wpFollowedB {l : List Int} {a : Int} (hs : Sr l a) {b : Board} (hb : Gen b) : Wp (Src_FollowedB ⟨l, a⟩ b) fun r => Sr r.1 r.2.1 ∧ SmP ⟨r.2.2.1, r.2.2.2.1, r.2.2.2.2.1, r.2.2.2.2.2⟩ := by
  unfold Src_FollowedB
  rw [powerS_eq]
  simp only [Option.bind_assoc]
  refine (wpPower hs hb).bind fun r hr => ?_
  obtain ⟨l, a, cl, run, lim, brk, rfl, hs, hp⟩ := hr
  have hps := hp.sm hb
  have hf := followV_eq hb.sm hps (hp.stt hb)
  simp only [Option.bind_some, hf]
  exact wp_some.2 ⟨hs, sm_fol hps⟩
theorem sane16 : dynposlaw16_sane = some true := by kernel_rfl
theorem wf_64 {n : Int} (h : (Lit.int .i64 n).wf = true) : I64 n := by
  simp only [Lit.wf, Bool.and_eq_true, decide_eq_true_eq] at h
  have h1 : IntKind.min .i64 = -9223372036854775808 := by decide
  have h2 : IntKind.max .i64 = 9223372036854775807 := by decide
  rw [h1, h2] at h
  exact h
theorem law_SyncExact (t : List Int) (raw : Board) (odd other : Power) (x y : Running) (n k : Int) (hl : raw.Consumers.length ≤ maxLen) (hP : (Lit.int .i64 raw.Phase).wf = true) (hF : (Lit.int .i64 raw.Frequency).wf = true) : dynposlaw16_SyncExact t raw odd other x y n k = some true := by
  refine Wp.true' ?_
  unfold dynposlaw16_SyncExact
  obtain ⟨r, hr, hsm⟩ := small_eq (b := raw) (p := odd) (Nat.le_trans hl (by decide))
  obtain ⟨r2, hr2, hsm2⟩ := small_eq (b := raw) (p := other) (Nat.le_trans hl (by decide))
  simp only [hr, hr2, sane16, Option.bind_some]
  have hcond : (if (!r) = true then some true else some !r2) = some (!r || !r2) := by cases r <;> rfl
  rw [hcond]
  simp only [Option.bind_some]
  refine Wp.ite (fun _ => wp_some.2 rfl) fun h => ?_
  simp only [Bool.or_eq_false_iff] at h
  obtain ⟨hrs, hos⟩ := hsm (by simpa using h.1)
  obtain ⟨_, hts⟩ := hsm2 (by simpa using h.2)
  refine (wpNew t).bind fun s hs => ?_
  obtain ⟨l0, a0⟩ := s
  unfold dynposlaw16_world
  simp only [Option.bind_assoc]
  refine (wpBoard hs).bind fun x3 h3 => ?_
  obtain ⟨nb, ph, fr, l1, a1, B, S, C⟩ := x3
  simp only at h3 ⊢
  obtain ⟨hs1, hg⟩ := h3
  refine (wpPower hs1 hg).bind fun x4 h4 => ?_
  obtain ⟨l2, a2, cl, run, lim, brk, rfl, hs2, hgp⟩ := h4
  simp only [Option.bind_some]
  refine (wpPower hs2 hg).bind fun x6 h6 => ?_
  obtain ⟨l3, a3, cl', run', lim', brk', rfl, hs3, hgq⟩ := h6
  simp only
  have hsb := hg.sm
  have hsp := hgp.sm hg
  have hsq := hgq.sm hg
  obtain ⟨q1, q2, q3⟩ := hgp.shape
  have q4 := hgp.brok
  have g1 := hg.brk
  have g2 := hg.src
  have g3 := hg.con
  simp only at q1 q2 q3 q4 g1 g2 g3
  have hloop : Wp (loopO (dynposlaw16_SyncExact_L1 raw odd other x y n k (nb, ph, fr, l2, a2, B, S, C, cl, run, lim, brk) (l3, a3, B, S, C, cl', run', lim', brk')) (0, l3, a3)) fun r => ∃ z, r = .inl z := by
    refine wp_upto 2 (fun k s => ∃ l a, s = ((k : Int), l, a) ∧ Sr l a) ⟨_, _, rfl, hs3⟩ (fun j s hj hi => ?_) (fun s hi => ?_) (by omega)
    · obtain ⟨l, a, rfl, hs⟩ := hi
      obtain ⟨c, hc, hcs, hc1, hc2⟩ : ∃ c, idx [Board.mk nb B S C ph fr, raw] (j : Int) = some c ∧ SmB c ∧ I64 c.Frequency ∧ I64 c.Phase := by
        rcases j with _ | _ | j
        · exact ⟨_, rfl, hsb, (good_64 hg.good).1, (good_64 hg.good).2⟩
        · exact ⟨_, rfl, hrs, wf_64 hF, wf_64 hP⟩
        · omega
      unfold dynposlaw16_SyncExact_L1
      simp only [dT (c := (j : Int) < 2) (by omega), if_true, hc, Option.bind_some, agreeA_eq, refagreeA_eq hc1 hc2, beq_self_eq_true, Bool.not_true, Bool.false_eq_true, if_false]
      refine (wpFollowedB hs hg).bind fun x14 h14 => ?_
      obtain ⟨l4, a4, c4, r4, m4, k4⟩ := x14
      simp only at h14 ⊢
      refine (wpBentPower h14.1 (p := ⟨cl, run, lim, brk⟩) (by simp only; omega) (by simp only; omega) (by simp only; omega) (by simp only; omega)).bind fun x15 h15 => ?_
      obtain ⟨l5, a5, c5, r5, m5, k5⟩ := x15
      simp only at h15 ⊢
      refine (exactS2 hcs (p0 := ⟨cl, run, lim, brk⟩) (p1 := ⟨c4, r4, m4, k4⟩) (p2 := ⟨c5, r5, m5, k5⟩) (odd := odd) (q := ⟨cl', run', lim', brk'⟩) (other := other) hsp h14.2 h15.2 hos hsq hts n k h15.1 (l' := l4) (a' := a4) (l'' := l5) (a'' := a5) nb ph fr l2 a2 l3 a3 B B S S C C).bind fun z hz => ?_
      obtain ⟨l6, a6, rfl, hz⟩ := hz
      simp only [Sum.elim_inl]
      rw [W_succ (by omega)]
      exact wp_some.2 ⟨_, _, rfl, hz⟩
    · obtain ⟨l, a, rfl, hs⟩ := hi
      unfold dynposlaw16_SyncExact_L1
      simp only [dF (c := ((2 : Nat) : Int) < 2) (by omega), Bool.false_eq_true, if_false]
      exact wp_some.2 ⟨_, rfl⟩
  refine hloop.bind fun r hr => ?_
  obtain ⟨z, rfl⟩ := hr
  exact wp_some.2 rfl
end Rx
end Go.Proofs.YtkohjagmjnpdnaaGreat
