/- The law SyncRefuses, plainly. -/
import Derived.Test.YtdfkfohpgakihaaS8
import Derived.KernelRfl
set_option linter.unusedVariables false
set_option linter.unusedSimpArgs false
namespace Go.Proofs.Ytdfkfohpgakihaa
open Go Go.RowKit Dp
namespace Rx
open Classical
theorem sane16 : dynposlaw16_sane = some true := by kernel_rfl

section
variable {b : Board} {p : Power}
theorem remO_3600 (a : Int) : remO a 3600 = some (a.tmod 3600) := by unfold remO; rw [if_neg (by omega)]
theorem refnorm_eq (a : Int) : dynposref02_Norm a = some (a % 3600) := by
  unfold dynposref02_Norm
  obtain ⟨h1, h2, h3⟩ := tmod_3600 a
  simp only [remO_3600, Option.bind_some, Option.bind_fun_some]
  rw [W_sm (by omega) (by omega), Int.tmod_eq_emod_of_nonneg (by omega)]
  congr 1
  split at h1 <;> omega
theorem refdif_eq (a c : Int) : dynposref02_Diff a c = some (dif a c) := by
  unfold dynposref02_Diff dif
  simp only [refnorm_eq, Option.bind_some, Option.bind_fun_some]
  rw [W_sm (x := c % 3600 - a % 3600) (by omega) (by omega)]
  by_cases h : (c % 3600 - a % 3600) % 3600 > 1800
  · simp only [dT h, if_true, if_pos h, W_sm (x := (c % 3600 - a % 3600) % 3600 - 3600) (by omega) (by omega)]
  · simp only [dF h, Bool.false_eq_true, if_false, if_neg h]
theorem refagree_eq (hg : BGood b) (x y : Running) : dynposref16_Agree b x y = some (dB (agr b x y)) := by
  have hd := dif_bd x.Phase y.Phase
  obtain ⟨_, ⟨p1, p2⟩, ⟨f1, f2⟩, _⟩ := hg
  have hl : loopO (dynposref16_Agree_L1 x y) 0 = some (cond (dB (∃ k, k < 2 ∧ ¬ (0 ≤ gt [x.Frequency, y.Frequency] k ∧ gt [x.Frequency, y.Frequency] k ≤ 6000))) (.inr false) (.inl ())) := by
    have key : ∀ k : Nat, k < 2 → dynposref16_Agree_L1 x y (k : Int) = if ¬ (0 ≤ gt [x.Frequency, y.Frequency] k ∧ gt [x.Frequency, y.Frequency] k ≤ 6000) then some (.inr (.inr false)) else some (.inl ((k + 1 : Nat) : Int)) := fun k hk => by
      simp only [dynposref16_Agree_L1, dT (show (k : Int) < 2 by omega), if_true, idx_gt (show k < [x.Frequency, y.Frequency].length from hk), Option.bind_some, W_succ (show k < 1000000000000000000 by omega)]
      by_cases h1 : gt [x.Frequency, y.Frequency] k < 0
      · simp only [dT h1, if_true, Option.bind_some]
        rw [if_pos (by omega)]
      · by_cases h2 : gt [x.Frequency, y.Frequency] k > 6000
        · simp only [dF h1, dT h2, Bool.false_eq_true, if_false, if_true, Option.bind_some]
          rw [if_pos (by omega)]
        · simp only [dF h1, dF h2, Bool.false_eq_true, if_false, Option.bind_some]
          rw [if_neg (by omega)]
    exact loop_anyB (step := dynposref16_Agree_L1 x y) (r := .inr false) (e := .inl ()) (fun k => (k : Int)) 2 (fun k => ¬ (0 ≤ gt [x.Frequency, y.Frequency] k ∧ gt [x.Frequency, y.Frequency] k ≤ 6000)) (fun k hk hn => by rw [key k hk, if_neg hn]) (fun k hk hn => by rw [key k hk, if_pos hn]) (by simp only [dynposref16_Agree_L1, dF (show ¬ ((2 : Nat) : Int) < 2 by omega), Bool.false_eq_true, if_false])
  unfold dynposref16_Agree
  rw [hl]
  by_cases hfr : (0 ≤ x.Frequency ∧ x.Frequency ≤ 6000) ∧ (0 ≤ y.Frequency ∧ y.Frequency ≤ 6000)
  · rw [dB_F (by
      rintro ⟨k, hk, hn⟩
      match k, hk with
      | 0, _ => exact hn hfr.1
      | 1, _ => exact hn hfr.2)]
    simp only [cond_false, Option.bind_some, Sum.elim_inl, refdif_eq, Option.bind_fun_some]
    rw [W_sm (x := x.Frequency - y.Frequency) (by omega) (by omega), W_sm (x := -b.Frequency) (by omega) (by omega), W_sm (x := -b.Phase) (by omega) (by omega)]
    by_cases h1 : x.Frequency - y.Frequency ≥ -b.Frequency
    · by_cases h2 : x.Frequency - y.Frequency ≤ b.Frequency
      · by_cases h3 : dif x.Phase y.Phase ≥ -b.Phase
        · simp only [dT h1, dT h2, dT h3, if_true]
          congr 1
          refine dB_eq ?_
          unfold agr
          rw [decide_eq_true_eq]
          omega
        · simp only [dT h1, dT h2, dF h3, if_true, Bool.false_eq_true, if_false]
          rw [dB_F]
          unfold agr
          omega
      · simp only [dT h1, dF h2, if_true, Bool.false_eq_true, if_false]
        rw [dB_F]
        unfold agr
        omega
    · simp only [dF h1, Bool.false_eq_true, if_false]
      rw [dB_F]
      unfold agr
      omega
  · rw [dB_T (by
      by_cases h0 : 0 ≤ x.Frequency ∧ x.Frequency ≤ 6000
      · exact ⟨1, by omega, fun hn => hfr ⟨h0, hn⟩⟩
      · exact ⟨0, by omega, h0⟩)]
    simp only [cond_true, Option.bind_some, Sum.elim_inr]
    rw [dB_F]
    unfold agr
    omega
/-- ties -/
theorem ties_loop (hbl : Sm b.Breakers) {x3 : List Int × Int × List Breaker × List Source × List Consumer × List Bool × List Running × List Int × List Part} (h1 : x3.2.2.1 = b.Breakers) :
    loopO (dynposlaw16_SyncRefuses_L1 x3) ((0 : Int), []) = some (rangeF (fun k => (gt b.Breakers k).Kind == 1) b.Breakers.length) := by
  unfold Sm at hbl
  have hr := loop_run (step := dynposlaw16_SyncRefuses_L1 x3) (fun k => ((k : Int), rangeF (fun k => (gt b.Breakers k).Kind == 1) k)) b.Breakers.length (r := rangeF (fun k => (gt b.Breakers k).Kind == 1) b.Breakers.length) (fun k hk => by
    have hlen := rangeF_len (fun k => (gt b.Breakers k).Kind == 1) k
    simp only [dynposlaw16_SyncRefuses_L1, h1, lt_len hk, if_true, idx_gt hk, Option.bind_some, W_succ (show k < 1000000000000000000 by omega), rangeF_succ]
    cases hc : ((gt b.Breakers k).Kind == 1) with
    | true =>
      simp only [if_true]
      rw [app_sm (by simp; omega)]
      rfl
    | false => simp only [Bool.false_eq_true, if_false, Option.bind_some, List.append_nil]) (by simp only [dynposlaw16_SyncRefuses_L1, h1, nlt_len, Bool.false_eq_true, if_false])
  exact hr
theorem lead_same {k c : Int} (h : stt b p = 0) (hk : 0 ≤ k ∧ k < b.Buses) (hm : c ∈ (ofB b p k).1.Buses) : lead b p c = lead b p k := by
  obtain ⟨⟨hl, hg⟩, _⟩ := stt_zero.1 h
  rw [ofB_in' h hk.1 hk.2] at hm
  obtain ⟨h1, h2, h3⟩ := isleOf_uniq (isleOf_in (p := p) hg.1 hk.1 hk.2).1 hm
  unfold lead
  rw [ofB_in' h hk.1 hk.2, ofB_in' h h1 (by omega), ← h3]
theorem lead_conn (h : stt b p = 0) {k : Int} (hk : (lead b p k).2 = true) : ∃ j : Nat, (lead b p k).1 = (j : Int) ∧ j < p.Sources.length ∧ (conn b p (j : Int)).2 = true := by
  obtain ⟨⟨hl, hg⟩, ⟨s1, s2, s3⟩, g1, g2, g3⟩ := stt_zero.1 h
  unfold lead at hk ⊢
  by_cases h1 : (ofB b p k).1.Sources = []
  · rw [if_pos h1] at hk; cases hk
  · rw [if_neg h1]
    unfold ofB at h1 ⊢
    by_cases h2 : stt b p = 0 ∧ 0 ≤ k ∧ k < b.Buses
    · rw [if_pos h2] at h1 ⊢
      obtain ⟨j, e, hj, hc, _⟩ := isl_src (isleOf_in (p := p) hg.1 h2.2.1 h2.2.2).1 (gt_mem (List.length_pos_iff.2 h1))
      exact ⟨j, e, by omega, hc⟩
    · rw [if_neg h2] at h1; exact (h1 rfl).elim
theorem lead_like {q : Power} (h : stt b p = 0) (h' : stt b q = 0) (hc : q.Closed = p.Closed) (hl : q.Sources.length = p.Sources.length) (hs : ∀ j, j < p.Sources.length → (gt q.Sources j).State = (gt p.Sources j).State) (k : Int) : lead b q k = lead b p k := by
  have : ofB b q k = ofB b p k := by
    unfold ofB
    rw [isleOf_same hc hl hs, h, h']
  unfold lead
  rw [this]
theorem may_tie (h : stt b p = 0) {i : Nat} (hi : i < b.Breakers.length) (hk : (gt b.Breakers i).Kind = 1) (hc : gt p.Closed i = false) (hbr : p.Broken = []) : mayV b p (i : Int) = cond (dB (InB b p i ∨ SynB b p i)) 0 12 := by
  have hs : SndB b p i := ⟨hc, by rw [hbr]; simp, by rw [hbr]; simp, by rw [if_pos hk, hbr]; simp⟩
  unfold mayV
  rw [if_neg (show ¬ (stt b p ≠ 0) from fun hn => hn h), if_neg (show ¬ ((i : Int) < 0 ∨ (b.Breakers.length : Int) ≤ (i : Int)) by omega), Int.toNat_natCast, if_neg (show ¬ ¬ SndB b p i from fun hn => hn hs)]
  by_cases h1 : InB b p i
  · rw [if_neg (show ¬ (¬ InB b p i ∧ ¬ SynB b p i) from fun hn => hn.1 h1), dB_T (.inl h1)]; rfl
  · by_cases h2 : SynB b p i
    · rw [if_neg (show ¬ (¬ InB b p i ∧ ¬ SynB b p i) from fun hn => hn.2 h2), dB_T (.inr h2)]; rfl
    · rw [if_pos ⟨h1, h2⟩, dB_F (fun hn => hn.elim h1 h2)]; rfl
/-- what lies behind the following -/
theorem tie_tail (hb : SmB b) (hp : SmP p) (h : stt b p = 0) (hf : folL b p = p.Sources) {i : Nat} (hi : i < b.Breakers.length) (hk : (gt b.Breakers i).Kind = 1) (hc : gt p.Closed i = false) (hbr : p.Broken = []) (hA : (lead b p (gt b.Breakers i).A).2 = true) (hBl : (lead b p (gt b.Breakers i).B).2 = true) :
    ∃ q : Power, sync_Match b p (lead b p (gt b.Breakers i).B).1 (gt b.Breakers i).A = some (0, q.Closed, q.Sources, q.Limits, q.Broken) ∧ sync_May b q (i : Int) = some 0 ∧
      ∃ r : Power, sync_Close b q (i : Int) = some (0, r.Closed, r.Sources, r.Limits, r.Broken) ∧ ∃ so li br, sync_Open b r (i : Int) = some (0, p.Closed, so, li, br) := by
  obtain ⟨⟨hl, hg⟩, ⟨s1, s2, s3⟩, g1, g2, g3⟩ := stt_zero.1 h
  obtain ⟨a0, hB1, _⟩ := brk_B hg.1 hi
  obtain ⟨m, em, hm, cm⟩ := lead_conn h hA
  obtain ⟨n, en, hn, cn⟩ := lead_conn h hBl
  have hic : i < p.Closed.length := by omega
  have hgd := good_mat (s := n) (m := m) hp h hf hn hm
  refine ⟨matP b p n m, ?_, ?_⟩
  · rw [matchA_eq hb hp, if_neg (show ¬ (stt b p ≠ 0) from fun hn => hn h), en, em, if_neg (show ¬ ((n : Int) < 0 ∨ (b.Sources.length : Int) ≤ (n : Int) ∨ (gt b.Breakers i).A < 0 ∨ b.Buses ≤ (gt b.Breakers i).A) by omega), Int.toNat_natCast, Int.toNat_natCast,
      if_neg (show ¬ ((lead b p (gt b.Breakers i).A).2 = false ∨ (gt p.Sources n).State ≠ 2) from fun hn => hn.elim (fun e => by rw [hA] at e; cases e) (fun e => e (conn_state cn)))]
    rfl
  have hst : ∀ j, j < p.Sources.length → (gt (matP b p n m).Sources j).State = (gt p.Sources j).State := fun j _ => mat_state h hn j
  have hld := lead_like (q := matP b p n m) h hgd.st rfl mat_len hst
  obtain ⟨_, _, _, q2, _⟩ := stt_zero.1 hgd.st
  have hmay : mayV b (matP b p n m) (i : Int) = 0 := by
    rw [may_tie hgd.st hi hk hc hbr, dB_T]
    · rfl
    · refine .inr fun _ => ?_
      rw [if_pos hk]
      intro _
      rw [hld, hld, em, en, Int.toNat_natCast, Int.toNat_natCast]
      have gn : gt (matP b p n m).Sources n = like (gt p.Sources n) (gt p.Sources m) := by
        rw [mat_gt h hn, if_pos ((mem_own h hn hn cn).2 ⟨cn, cn, rfl⟩)]
      have gm : (gt (matP b p n m).Sources m).Frequency = (gt p.Sources m).Frequency ∧ (gt (matP b p n m).Sources m).Phase = (gt p.Sources m).Phase := by
        rw [mat_gt h hn]
        split <;> exact ⟨rfl, rfl⟩
      refine agr_self hg (q2 m (by rw [mat_len]; exact hm)) ?_ ?_
      · rw [gm.1, gn]; rfl
      · rw [gm.2, gn]; rfl
  refine ⟨by rw [may_eq hb hgd.sm, hmay], folP b (clP (matP b p n m) i), ?_, ?_⟩
  · rw [closeA_eq hb hgd.sm, if_neg (show ¬ (mayV b (matP b p n m) (i : Int) ≠ 0) from fun hn => hn hmay), Int.toNat_natCast]
    rfl
  · obtain ⟨_, k, ek, hk', hs, _⟩ := may_zero hmay
    have : i = k := by omega
    subst this
    have h1 := stt_close hgd.st hi hs.1 (snd_led hs)
    have h2 := stt_fol h1
    have hsm := sm_fol (b := b) (sm_cl (i := i) hgd.sm)
    rw [openA_eq hb hsm, if_neg (show ¬ (stt b (folP b (clP (matP b p n m) i)) ≠ 0) from fun hn => hn h2), if_neg (show ¬ ((i : Int) < 0 ∨ (b.Breakers.length : Int) ≤ (i : Int)) by omega), Int.toNat_natCast, if_neg]
    · refine ⟨(folP b (clP (matP b p n m) i)).Sources, (folP b (clP (matP b p n m) i)).Limits, (folP b (clP (matP b p n m) i)).Broken, ?_⟩
      refine congrArg (fun c => some ((0 : Int), c, (folP b (clP (matP b p n m) i)).Sources, (folP b (clP (matP b p n m) i)).Limits, (folP b (clP (matP b p n m) i)).Broken)) ?_
      show (p.Closed.set i true).set i false = p.Closed
      apply ext_gt
      · simp
      · intro k hk
        rw [gt_set (by simpa using hic), gt_set hic]
        by_cases hki : k = i
        · rw [if_pos hki, hki, hc]
        · rw [if_neg hki, if_neg hki]
    · rintro (e | e)
      · have e : gt (p.Closed.set i true) i = false := e
        rw [gt_set hic, if_pos rfl] at e
        cases e
      · have e : (⟨2, (i : Int)⟩ : Part) ∈ p.Broken := e
        rw [hbr] at e
        cases e
end
theorem law_SyncRefuses (t : List Int) (n : Int) (n0 : 0 ≤ n) (n1 : n < 1000000) : dynposlaw16_SyncRefuses t n = some true := by
  unfold dynposlaw16_SyncRefuses
  obtain ⟨⟨l, a⟩, e0, hs⟩ := wpNew t
  obtain ⟨⟨nb, ph, fr, l1, a1, br, S, C⟩, e1, hs1, hb⟩ := wpBoard hs
  simp only at hs1 hb
  obtain ⟨r, e2, l2, a2, q, rfl, hs2, hq, h0, hf⟩ := wpFollowed' hs1 hb
  simp only [e0, e1, e2, Option.bind_some, sane16]
  obtain ⟨b, hB⟩ : ∃ b : Board, b = ⟨nb, br, S, C, ph, fr⟩ := ⟨_, rfl⟩
  rw [← hB] at hb h0 hf
  have hbs := hb.sm
  obtain ⟨⟨hl, hg⟩, ⟨s1, s2, s3⟩, g1, g2, g3⟩ := stt_zero.1 h0
  have hbr : br = b.Breakers := by rw [hB]
  have hbl := hbs.1
  rw [ties_loop (b := b) hbl (x3 := (l2, a2, br, S, C, q.Closed, q.Sources, q.Limits, q.Broken)) hbr]
  simp only [Option.bind_some]
  generalize hL : rangeF (fun k => (gt b.Breakers k).Kind == 1) b.Breakers.length = L
  have hmem : ∀ x ∈ L, ∃ i : Nat, i < b.Breakers.length ∧ (gt b.Breakers i).Kind = 1 ∧ x = (i : Int) := fun x hx => by
    rw [← hL] at hx
    obtain ⟨i, hi, h1, e⟩ := mem_rangeF.1 hx
    exact ⟨i, hi, by simpa using h1, e⟩
  have hLl : L.length ≤ b.Breakers.length := by rw [← hL]; exact rangeF_len _ _
  by_cases hz : L.length = 0
  · rw [if_pos (beqT (show len L = 0 by unfold len; omega))]
  rw [if_neg (show ¬ ((len L == 0) = true) by rw [beqF (show len L ≠ 0 by unfold len; omega)]; simp)]
  unfold Sm at hbl
  have hlen : len L = (L.length : Int) := rfl
  rw [W_sm (x := n) (by omega) (by omega), remO_nn n0 (show (0 : Int) < len L by omega)]
  simp only [Option.bind_some]
  have hr0 := Int.emod_nonneg n (show len L ≠ 0 by omega)
  have hr1 := Int.emod_lt_of_pos n (show 0 < len L by omega)
  rw [idx_gtZ hr0 (show n % len L < (L.length : Int) by omega)]
  obtain ⟨i, hi, hk, ei⟩ := hmem _ (gt_mem (l := L) (k := (n % len L).toNat) (by omega))
  rw [ei]
  have hic : i < q.Closed.length := by omega
  simp only [Option.bind_some, idx_gt hic, setO_nat hic]
  obtain ⟨p1, hp1⟩ : ∃ p1 : Power, p1 = ⟨q.Closed.set i false, q.Sources, q.Limits, []⟩ := ⟨_, rfl⟩
  have hc1 : ∀ k, k < b.Breakers.length → gt p1.Closed k = true → gt q.Closed k = true := fun k _ hk => op_less hic k (by rw [hp1] at hk; exact hk)
  have z1 : stt b p1 = 0 := stt_less h0 (by rw [hp1]; show (q.Closed.set i false).length = _; simp) hc1 (by rw [hp1]) (by rw [hp1]) (by rw [hp1]; exact ⟨fun k hk => absurd hk (by simp), by simp⟩)
  have m1 : SmP p1 := by
    rw [hp1]
    exact ⟨(sm_set (i := i) (v := false) hq).1, hq.2.1, hq.2.2.1, by unfold Sm; simp⟩
  have ef := reffollow_eq hbs m1 z1
  rw [hp1, hB] at ef
  simp only at ef
  simp only [ef, Option.bind_some]
  rw [← hp1, ← hB, hbr]
  obtain ⟨p, hp⟩ : ∃ p : Power, p = folP b p1 := ⟨_, rfl⟩
  have mp : SmP p := by rw [hp]; exact sm_fol m1
  have zp : stt b p = 0 := by rw [hp]; exact stt_fol z1
  have fp : folL b p = p.Sources := by rw [hp]; exact fol_fol z1
  have hpc : gt p.Closed i = false := by
    rw [hp, show (folP b p1).Closed = p1.Closed from rfl, hp1]
    show gt (q.Closed.set i false) i = false
    rw [gt_set hic, if_pos rfl]
  have hpb : p.Broken = [] := by rw [hp, show (folP b p1).Broken = p1.Broken from rfl, hp1]
  have hBk : Board.mk nb b.Breakers S C ph fr = b := by rw [← hbr]; exact hB.symm
  have hPk : Power.mk p1.Closed (folL b p1) p1.Limits p1.Broken = p := hp.symm
  have hP1 : Power.mk (q.Closed.set i false) (folL b p1) q.Limits [] = p := by rw [← hPk, hp1]
  have c1 : q.Closed.set i false = p.Closed := by rw [← hP1]
  have so1 : folL b p1 = p.Sources := by rw [← hP1]
  have hsrc := hl.src
  simp only [hBk, hP1, idx_gt hi, Option.bind_some, lead_eq hbs mp, may_eq hbs mp, so1, c1]
  rw [c1, so1] at hP1
  obtain ⟨a0, hB1, _⟩ := brk_B hg.1 hi
  have hv := may_tie zp hi hk hpc hpb
  simp only [hP1, lead_eq hbs mp, may_eq hbs mp, Option.bind_some]
  cases hA : (lead b p (gt b.Breakers i).A).2 with
  | false =>
    rw [dB_T (.inr fun h => by rw [hA] at h; cases h)] at hv
    simp only [Bool.not_false, if_true, Option.bind_some, hv]
    rfl
  | true =>
  cases hBl : (lead b p (gt b.Breakers i).B).2 with
  | false =>
    rw [dB_T (.inr fun _ => by rw [if_pos hk]; intro h; rw [hBl] at h; cases h)] at hv
    simp only [Bool.not_true, Bool.not_false, Bool.false_eq_true, if_false, if_true, Option.bind_some, hv]
    rfl
  | true =>
    obtain ⟨m, em, hm, cm⟩ := lead_conn zp hA
    obtain ⟨n', en, hn, cn⟩ := lead_conn zp hBl
    obtain ⟨_, _, _, r2, _⟩ := stt_zero.1 zp
    have hS : SynB b p i ↔ agr b (gt p.Sources m) (gt p.Sources n') := by
      unfold SynB
      rw [if_pos hk, em, en, Int.toNat_natCast, Int.toNat_natCast]
      exact ⟨fun h => h hA hBl, fun h _ _ => h⟩
    have hIn : InB b p i → m = n' := fun hin => by
      have := lead_same zp ⟨a0.1, by omega⟩ hin.2
      rw [this] at en
      omega
    have hmid : (if ((lead b p (gt b.Breakers i).A).1 == (lead b p (gt b.Breakers i).B).1) = true then
                    if (!(mayV b p (i : Int) == 0) == true) = true then some true
                    else if (mayV b p (i : Int) != 0) = true then some (mayV b p (i : Int) != 12) else some false
                  else
                    (idx p.Sources (lead b p (gt b.Breakers i).A).1).bind fun x20 =>
                      (idx p.Sources (lead b p (gt b.Breakers i).B).1).bind fun x21 =>
                        (dynposref16_Agree b x20 x21).bind fun x22 =>
                          if (!(mayV b p (i : Int) == 0) == x22) = true then some true
                          else if (mayV b p (i : Int) != 0) = true then some (mayV b p (i : Int) != 12) else some false) = some false := by
      rw [em, en]
      by_cases hmn : m = n'
      · subst hmn
        rw [dB_T (.inr (hS.2 (agr_self hg (r2 m hm) rfl rfl)))] at hv
        simp only [beqT (show (m : Int) = (m : Int) from rfl), if_true, hv, cond_true]
        rfl
      · have hni : ¬ InB b p i := fun hin => hmn (hIn hin)
        simp only [beqF (show (m : Int) ≠ (n' : Int) by omega), Bool.false_eq_true, if_false, idx_gt hm, idx_gt hn, Option.bind_some, refagree_eq hg]
        by_cases hsy : SynB b p i
        · rw [dB_T (.inr hsy)] at hv
          rw [hv, dB_T (hS.1 hsy)]
          rfl
        · rw [dB_F (fun h => h.elim hni hsy)] at hv
          rw [hv, dB_F (fun h => hsy (hS.2 h))]
          rfl
    obtain ⟨q2, w1, w2, r', w3, so, li, br', w4⟩ := tie_tail hbs mp zp fp hi hk hpc hpb hA hBl
    have hbo : dynposref01_Bools p.Closed p.Closed = some true := by rw [bools_eq mp.1, dT rfl]
    have hq2 : Power.mk q2.Closed q2.Sources q2.Limits q2.Broken = q2 := rfl
    have hr2 : Power.mk r'.Closed r'.Sources r'.Limits r'.Broken = r' := rfl
    simp only [Bool.not_true, Bool.false_eq_true, if_false, Option.bind_some, hmid, w1, hq2, w2, w3, hr2, w4, hbo]
    rfl
end Rx
end Go.Proofs.Ytdfkfohpgakihaa
