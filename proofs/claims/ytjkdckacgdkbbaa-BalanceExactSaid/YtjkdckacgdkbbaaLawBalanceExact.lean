/- BalanceExact: all functions of the balance answer as the reference does, whatever boards, states, totals and ratings they are given. Plain law. -/
import Derived.Test.YtjkdckacgdkbbaaB4
import Derived.Test.YtjkdckacgdkbbaaBt
set_option linter.unusedVariables false
set_option linter.unusedSimpArgs false
namespace Go.Proofs.Ytjkdckacgdkbbaa
open Go Go.RowKit Dp
namespace Rx

section
variable {b : Board} {p : Power}
theorem refload_eq (hb : SmB b) (hp : SmP p) (k : Int) : dynposref17_Load b p k = some (loadI p (ofB b p k).1) := by
  by_cases h : stt b p = 0
  case neg =>
    unfold dynposref17_Load
    rw [refof_isle hb hp]
    have e2 : (ofB b p k).2 = false := by unfold ofB; rw [if_neg (fun hn => h hn.1)]
    have e : ofR b p k = (false, [], [], []) := by unfold ofR; rw [ofB_zero h, e2]
    rw [e, ofB_zero h]
    rfl
  obtain ⟨⟨hl, hg⟩, ⟨s1, s2, s3⟩, _⟩ := stt_zero.1 h
  obtain ⟨h1, h2, h3, h4⟩ := ofB_parts (p := p) hg.1 k
  have h8 := hl.con
  have hfalse : (ofB b p k).2 = false → (ofB b p k).1.Sources = [] := fun he => by
    unfold ofB at he ⊢
    split at he
    · cases he
    · rename_i hn
      rw [if_neg hn]
  unfold dynposref17_Load
  rw [refof_isle hb hp]
  simp only [Option.bind_some]
  have e1 : (ofR b p k).2.2.2 = (ofB b p k).1.Consumers := rfl
  have e2 : (ofR b p k).2.2.1 = (ofB b p k).1.Sources := rfl
  have e3 : (ofR b p k).1 = (ofB b p k).2 := rfl
  by_cases hs : (ofB b p k).1.Sources = []
  · have : (if (!(ofR b p k).1) = true then some true else some (len (ofR b p k).2.2.1 == 0)) = some true := by
      rw [e2, hs]
      split <;> rfl
    rw [this]
    simp only [Option.bind_some, if_true]
    unfold loadI
    rw [if_pos hs]
  · have ht : (ofR b p k).1 = true := by
      rw [e3]
      cases hh : (ofB b p k).2 with
      | true => rfl
      | false => exact (hs (hfalse hh)).elim
    have hlen : (len (ofR b p k).2.2.1 == 0) = false := by
      rw [e2]
      have := List.length_pos_iff.2 hs
      exact beqF (by unfold len; omega)
    rw [hlen, ht]
    simp only [Bool.not_true, Bool.false_eq_true, if_false, Option.bind_some]
    generalize hx : (ofB b p k).1 = x at *
    have hlp := loop_run (step := dynposref17_Load_L1 p (ofR b p k)) (fun i => (sumF (gt p.Limits) (x.Consumers.take i), (i : Int))) x.Consumers.length (r := loadI p x) (fun i hi => by
      obtain ⟨c0, c1⟩ := h1 _ (gt_mem hi)
      obtain ⟨c, ec⟩ := Int.eq_ofNat_of_zero_le c0
      have ec : gt x.Consumers i = (c : Int) := ec
      have hc : c < p.Limits.length := by omega
      have hbd := sumF_bd (f := gt p.Limits) (l := x.Consumers.take i) (B := 50000) (fun c hc => by
        have := h1 c (List.mem_of_mem_take hc)
        exact lim_bd h (by omega))
      have hlen : (x.Consumers.take i).length ≤ 16 := by simp; omega
      have hcb := lim_bd h (k := c) (by omega)
      simp only [dynposref17_Load_L1, e1, lt_len hi, if_true, idx_gt hi, ec, Option.bind_some, idx_gt hc, W_succ (show i < 1000000000000000000 by omega), take_gt hi, sumF_snoc, Int.toNat_natCast]
      rw [W_sm (by omega) (by omega)]) (by
      simp only [dynposref17_Load_L1, e1, nlt_len, Bool.false_eq_true, if_false, List.take_length]
      unfold loadI
      rw [if_neg hs]) (by omega)
    have hlp' : loopO (dynposref17_Load_L1 p (ofR b p k)) (0, 0) = _ := hlp
    rw [hlp']
    rfl
theorem refrating_eq (hb : SmB b) (hp : SmP p) (k : Int) : dynposref17_Rating b p k = some (rateI b (ofB b p k).1) := by
  by_cases h : stt b p = 0
  case neg =>
    unfold dynposref17_Rating
    rw [refof_isle hb hp]
    have e : ofR b p k = ((ofB b p k).2, [], [], []) := by unfold ofR; rw [ofB_zero h]
    rw [e, ofB_zero h]
    rfl
  obtain ⟨⟨hl, hg⟩, ⟨s1, s2, s3⟩, _⟩ := stt_zero.1 h
  obtain ⟨h1, h2, h3, h4⟩ := ofB_parts (p := p) hg.1 k
  have h8 := hl.src
  generalize hx : (ofB b p k).1 = x at *
  have e2 : (ofR b p k).2.2.1 = x.Sources := by rw [← hx]; rfl
  have hlp := loop_run (step := dynposref17_Rating_L1 b (ofR b p k)) (fun i => (sumF (fun k => (gt b.Sources k).Rating) (x.Sources.take i), (i : Int))) x.Sources.length (r := rateI b x) (fun i hi => by
    obtain ⟨c0, c1⟩ := h2 _ (gt_mem hi)
    obtain ⟨c, ec⟩ := Int.eq_ofNat_of_zero_le c0
    have ec : gt x.Sources i = (c : Int) := ec
    have hc : c < b.Sources.length := by omega
    have hbd := sumF_bd (f := fun k => (gt b.Sources k).Rating) (l := x.Sources.take i) (B := 50000) (fun c hc => by
      have := h2 c (List.mem_of_mem_take hc)
      have := rat_bd h (k := c.toNat) (by omega)
      exact ⟨by omega, this.2⟩)
    have hlen : (x.Sources.take i).length ≤ 8 := by simp; omega
    have hcb := rat_bd h (k := c) (by omega)
    simp only [dynposref17_Rating_L1, e2, lt_len hi, if_true, idx_gt hi, ec, Option.bind_some, idx_gt hc, W_succ (show i < 1000000000000000000 by omega), take_gt hi, sumF_snoc, Int.toNat_natCast]
    rw [W_sm (by omega) (by omega)]) (by
    simp only [dynposref17_Rating_L1, e2, nlt_len, Bool.false_eq_true, if_false, List.take_length]
    rfl)
  unfold dynposref17_Rating
  have hlp' : loopO (dynposref17_Rating_L1 b (ofR b p k)) (0, 0) = _ := hlp
  simp only [refof_isle hb hp, Option.bind_some, hlp']
theorem refover_eq (hb : SmB b) (hp : SmP p) (k : Int) : dynposref17_Overloaded b p k = some (decide (rateI b (ofB b p k).1 < loadI p (ofB b p k).1)) := by
  unfold dynposref17_Overloaded
  simp only [refload_eq hb hp, refrating_eq hb hp, Option.bind_some]
theorem refshare_run (h : stt b p = 0) {x : Island} (hx : x ∈ isl b p) : dynposref17_Split (loadI p x) (ratesI b x) = some (0, shareI b p x) := by
  obtain ⟨e, l, h1, h2, _⟩ := split_same (loadI p x) (ratesI b x)
  rw [h2, ← h1, share_run h hx]
theorem refof_loads (hb : SmB b) (hp : SmP p) (h : stt b p = 0) : dynposref17_Of b p = some (0, allI b p (isl b p).length) := by
  obtain ⟨⟨hl, hg⟩, ⟨s1, s2, s3⟩, _⟩ := stt_zero.1 h
  have hil := isl_len (b := b) (p := p)
  have hbus := hl.bus
  have hsrc := hl.src
  have inner : ∀ x, x ∈ isl b p → loopO (dynposref17_Of_L2 b x) (0, []) = some (ratesI b x) := fun x hx => by
    obtain ⟨h1, h2, h3, h4, _⟩ := isl_parts hg.1 hx
    have hr := loop_run (step := dynposref17_Of_L2 b x) (fun i => ((i : Int), (x.Sources.take i).map fun k => (gt b.Sources k.toNat).Rating)) x.Sources.length (r := ratesI b x) (fun i hi => by
      obtain ⟨c0, c1⟩ := h2 _ (gt_mem hi)
      obtain ⟨c, ec⟩ := Int.eq_ofNat_of_zero_le c0
      have ec : gt x.Sources i = (c : Int) := ec
      have hc : c < b.Sources.length := by omega
      have ha : app ((x.Sources.take i).map fun k => (gt b.Sources k.toNat).Rating) [(gt b.Sources c).Rating] = some (((x.Sources.take i).map fun k => (gt b.Sources k.toNat).Rating) ++ [(gt b.Sources c).Rating]) := app_sm (by simp; omega)
      simp only [dynposref17_Of_L2, lt_len hi, if_true, idx_gt hi, ec, Option.bind_some, idx_gt hc, ha, W_succ (show i < 1000000000000000000 by omega), take_gt hi, List.map_append, List.map_cons, List.map_nil, Int.toNat_natCast]) (by
      simp only [dynposref17_Of_L2, nlt_len, Bool.false_eq_true, if_false, List.take_length]
      rfl)
    exact hr
  have outer : ∀ x, x ∈ isl b p → ∀ o : List Int, o.length = b.Sources.length → ∀ c, loopO (dynposref17_Of_L3 x (c, shareI b p x)) (0, o) = some (putI x (shareI b p x) o x.Sources.length) := fun x hx o ho c => by
    obtain ⟨h1, h2, h3, h4, _⟩ := isl_parts hg.1 hx
    have hsl := (share_facts h hx).1
    have hr := loop_run (step := dynposref17_Of_L3 x (c, shareI b p x)) (fun i => ((i : Int), putI x (shareI b p x) o i)) x.Sources.length (r := putI x (shareI b p x) o x.Sources.length) (fun i hi => by
      obtain ⟨c0, c1⟩ := h2 _ (gt_mem hi)
      obtain ⟨c, ec⟩ := Int.eq_ofNat_of_zero_le c0
      have ec : gt x.Sources i = (c : Int) := ec
      have hc : c < (putI x (shareI b p x) o i).length := by rw [putI_len]; omega
      simp only [dynposref17_Of_L3, lt_len hi, if_true, idx_gt hi, ec, Option.bind_some, idx_gt (show i < (shareI b p x).length by omega), idx_gt hc, setO_nat hc, W_succ (show i < 1000000000000000000 by omega), putI_succ, Int.toNat_natCast]) (by simp only [dynposref17_Of_L3, nlt_len, Bool.false_eq_true, if_false])
    exact hr
  have hr := loop_run (step := dynposref17_Of_L1 b p (isl b p)) (fun k => ((k : Int), allI b p k)) (isl b p).length (r := allI b p (isl b p).length) (fun k hk => by
    have hx := gt_mem hk
    have hb0 := (isl_parts hg.1 hx).2.2.2.2
    simp only [dynposref17_Of_L1, lt_len hk, if_true, idx_gt hk, Option.bind_some, inner _ hx, show idx (gt (isl b p) k).Buses 0 = some (gt (gt (isl b p) k).Buses 0) from idx_gt hb0, refload_eq hb hp, isl_of h hx, refshare_run h hx, outer _ hx _ (allI_len k), W_succ (show k < 1000000000000000000 by omega), allI_succ]) (by simp only [dynposref17_Of_L1, nlt_len, Bool.false_eq_true, if_false])
  have hr' : loopO (dynposref17_Of_L1 b p (isl b p)) (0, List.replicate b.Sources.length 0) = _ := hr
  unfold dynposref17_Of
  have e : (stt b p != 0) = false := by rw [h]; rfl
  simp only [refstate_eq hb hp, Option.bind_some, e, Bool.false_eq_true, if_false, show mkZ (0 : Int) (len b.Sources) = some (List.replicate b.Sources.length 0) from mkZ_nat (by omega), refislands_eq hb hp h, hr']
theorem of_same (hb : SmB b) (hp : SmP p) : ∃ e l, balance_Of b p = some (e, l) ∧ dynposref17_Of b p = some (e, l) ∧ Sm l := by
  by_cases h : stt b p = 0
  · refine ⟨_, _, of_loads hb hp h, refof_loads hb hp h, ?_⟩
    have := hb.2.1
    unfold Sm at this ⊢
    rw [allI_len]
    exact this
  · have hn : (stt b p != 0) = true := by simpa using h
    refine ⟨stt b p, [], ?_, ?_, by unfold Sm; simp⟩
    · unfold balance_Of
      simp only [state_eq hb hp, Option.bind_some, hn, if_true]
    · unfold dynposref17_Of
      simp only [refstate_eq hb hp, Option.bind_some, hn, if_true]
theorem exactB5 (hb : SmB b) (hp : SmP p) (total : Int) (x : Int × List Int × Int) : loopO (dynposlaw17_BalanceExact_L5 total b p x) 0 = some (.inl ()) := by
  have h := loop_run (step := dynposlaw17_BalanceExact_L5 total b p x) (r := .inl ()) (fun k => (k : Int)) 3 (fun k hk => by
    obtain ⟨n, hn⟩ : ∃ n, idx [total, x.1, 0] (k : Int) = some n := ⟨_, idx_gt (l := [total, x.1, 0]) (by simpa using hk)⟩
    unfold dynposlaw17_BalanceExact_L5
    simp only [dT (c := (k : Int) < 3) (by omega), if_true, hn, Option.bind_some, load_eq hb hp, refload_eq hb hp, rating_eq hb hp, refrating_eq hb hp, over_eq hb hp, refover_eq hb hp, bne_self_eq_false, beq_self_eq_true, Bool.not_true, Bool.false_eq_true, if_false]
    rw [W_succ (by omega)]) (by
    unfold dynposlaw17_BalanceExact_L5
    simp)
  exact h
end
theorem exactB4 {b : Board} (hb : SmB b) {p0 p1 p2 : Power} (h0 : SmP p0) (h1 : SmP p1) (h2 : SmP p2) (total : Int) {l l' : List Int} {a a' : Int} (hs : Sr l a) (xl : List Int) (xa : Int) (xB : List Breaker) (xS : List Source) (xC : List Consumer) :
    Wp (loopO (dynposlaw17_BalanceExact_L4 p2 total (xl, xa, xB, xS, xC, p0.Closed, p0.Sources, p0.Limits, p0.Broken) b (l', a', p1.Closed, p1.Sources, p1.Limits, p1.Broken)) (0, l, a)) fun r => ∃ l a, r = .inl (l, a) ∧ Sr l a := by
  refine wp_upto 3 (fun k s => ∃ l a, s = ((k : Int), l, a) ∧ Sr l a) ⟨_, _, rfl, hs⟩ (fun k s hk hi => ?_) (fun s hi => ?_) (by omega)
  · obtain ⟨l, a, rfl, hs⟩ := hi
    obtain ⟨q, hq, hqs⟩ : ∃ q, idx [p0, p1, p2] (k : Int) = some q ∧ SmP q := by
      rcases k with _ | _ | _ | k
      · exact ⟨p0, rfl, h0⟩
      · exact ⟨p1, rfl, h1⟩
      · exact ⟨p2, rfl, h2⟩
      · omega
    have hq' : idx [Power.mk p0.Closed p0.Sources p0.Limits p0.Broken, Power.mk p1.Closed p1.Sources p1.Limits p1.Broken, p2] (k : Int) = some q := hq
    obtain ⟨e, y, e1, e2, e3⟩ := of_same hb hqs
    unfold dynposlaw17_BalanceExact_L4
    simp only [dT (c := (k : Int) < 3) (by omega), if_true, hq', Option.bind_some, e1, e2, ints_eq e3, decide_true, bne_self_eq_false, Bool.not_true, Bool.false_eq_true, if_false]
    refine (wpN hs (n := 5) (by omega) (by omega)).bind fun z hz => ?_
    simp only [exactB5 hb hqs, Option.bind_some, Sum.elim_inl]
    rw [W_succ (by omega)]
    exact wp_some.2 ⟨_, _, rfl, hz.2⟩
  · obtain ⟨l, a, rfl, hs⟩ := hi
    unfold dynposlaw17_BalanceExact_L4
    simp only [dF (c := ((3 : Nat) : Int) < 3) (by omega), Bool.false_eq_true, if_false]
    exact wp_some.2 ⟨_, _, rfl, hs⟩
theorem wpRatings {l : List Int} {a : Int} (hs : Sr l a) : Wp (dynposlaw17_ratings ⟨l, a⟩) fun r => Sr r.1 r.2.1 ∧ r.2.2.length ≤ 6 := by
  unfold dynposlaw17_ratings
  refine (wpN hs (n := 6) (by omega) (by omega)).bind fun y hy => ?_
  obtain ⟨y, l1, a1⟩ := y
  simp only at hy ⊢
  have hloop : Wp (loopO dynposlaw17_ratings_L1 (y, [], l1, a1)) fun r => Sr r.2.1 r.2.2 ∧ r.1.length ≤ 6 := by
    refine wp_while (fun s => s.1.toNat) (fun s => 0 ≤ s.1 ∧ (s.2.1.length : Int) + s.1 ≤ 6 ∧ Sr s.2.2.1 s.2.2.2) (fun s hi => ?_) ⟨hy.1.1, by simp only [List.length_nil]; omega, hy.2⟩ (by simp only; omega)
    obtain ⟨k, o, sl, sa⟩ := s
    simp only at hi
    obtain ⟨i1, i2, i3⟩ := hi
    unfold dynposlaw17_ratings_L1
    simp only
    refine Wp.ite (fun hk => ?_) (fun hk => ?_)
    · have hk := of_decide_eq_true hk
      refine (wpPickS i3 (by simp) (by simp)).bind fun z hz => ?_
      rw [app_sm (by simp; omega)]
      simp only [Option.bind_some]
      rw [W_sm (x := k - 1) (by omega) (by omega)]
      exact wp_some.2 ⟨⟨by simp only; omega, by simp; omega, hz⟩, by simp only; omega⟩
    · exact wp_some.2 ⟨i3, by simp only; omega⟩
  exact hloop.bind fun r hr => wp_some.2 ⟨hr.1, hr.2⟩
theorem exactB2 (l m : List Int) (hl : l.length ≤ 100) (hm : m.length ≤ 100) (xl : List Int) (xa : Int) (r0 : List Int) (total : Int) (r1 : List Int) : loopO (dynposlaw17_BalanceExact_L2 l m (xl, xa, r0) total r1) 0 = some (.inl ()) := by
  have h := loop_run (step := dynposlaw17_BalanceExact_L2 l m (xl, xa, r0) total r1) (r := .inl ()) (fun k => (k : Int)) 3 (fun k hk => by
    obtain ⟨x, hx⟩ : ∃ x, idx [r0, l, r1] (k : Int) = some x := ⟨_, idx_gt (l := [r0, l, r1]) (by simpa using hk)⟩
    obtain ⟨e, o, e1, e2, e3⟩ := split_same total x
    obtain ⟨v, v1, v2⟩ := check_same total x o (by omega)
    obtain ⟨w, w1, w2⟩ := check_same total x m (by omega)
    unfold dynposlaw17_BalanceExact_L2
    simp only [dT (c := (k : Int) < 3) (by omega), if_true, hx, Option.bind_some, e1, e2, ints_eq (show Sm o by unfold Sm; omega), decide_true, v1, v2, w1, w2, bne_self_eq_false, beq_self_eq_true, Bool.not_true, Bool.false_eq_true, if_false]
    rw [W_succ (by omega)]) (by
    unfold dynposlaw17_BalanceExact_L2
    simp)
  exact h
theorem sane17 : dynposlaw17_sane = some true := by kernel_rfl
theorem law_BalanceExact (t : List Int) (raw : Board) (odd : Power) (total : Int) (l m : List Int) (hl : raw.Consumers.length ≤ maxLen) : dynposlaw17_BalanceExact t raw odd total l m = some true := by
  refine Wp.true' ?_
  unfold dynposlaw17_BalanceExact
  obtain ⟨r, hr, hsm⟩ := small_eq (b := raw) (p := odd) (Nat.le_trans hl (by decide))
  simp only [hr, sane17, Option.bind_some]
  have hcond : (if (!r) = true then some true else if decide (len l > 10) = true then some true else some (decide (len m > 10))) = some (!r || decide (len l > 10) || decide (len m > 10)) := by
    cases r with
    | false => rfl
    | true => cases decide (len l > 10) <;> rfl
  rw [hcond]
  simp only [Option.bind_some]
  refine Wp.ite (fun _ => wp_some.2 rfl) fun h => ?_
  simp only [Bool.or_eq_false_iff] at h
  obtain ⟨⟨hr1, hl1⟩, hm1⟩ := h
  have hl1 := of_decide_eq_false hl1
  have hm1 := of_decide_eq_false hm1
  obtain ⟨hrs, hos⟩ := hsm (by simpa using hr1)
  refine (wpNew t).bind fun s hs => ?_
  obtain ⟨l0, a0⟩ := s
  refine (wpBoard hs).bind fun x3 h3 => ?_
  obtain ⟨nb, ph, fr, l1, a1, B, S, C⟩ := x3
  simp only at h3 ⊢
  obtain ⟨hs1, hg⟩ := h3
  refine (wpPower hs1 hg).bind fun x4 h4 => ?_
  obtain ⟨l2, a2, cl, run, lim, brk, rfl, hs2, hgp⟩ := h4
  simp only
  have hsb := hg.sm
  have hsp := hgp.sm hg
  obtain ⟨q1, q2, q3⟩ := hgp.shape
  have q4 := hgp.brok
  have g1 := hg.brk
  have g2 := hg.src
  have g3 := hg.con
  simp only at q1 q2 q3 q4 g1 g2 g3
  refine (wpRatings hs2).bind fun x6 h6 => ?_
  obtain ⟨l3, a3, r0⟩ := x6
  simp only at h6 ⊢
  refine (wpN h6.1 (n := 400) (by omega) (by omega)).bind fun x7 h7 => ?_
  obtain ⟨k7, l4, a4⟩ := x7
  simp only at h7 ⊢
  refine (wpOdd h7.2).bind fun x8 h8 => ?_
  obtain ⟨k8, l5, a5⟩ := x8
  simp only at h8 ⊢
  have hloop1 : Wp (loopO (dynposlaw17_BalanceExact_L1 total l m (l3, a3, r0) (k7, l4, a4) (k8, l5, a5)) (0, l5, a5)) fun r => ∃ l a, r = .inl (l, a) ∧ Sr l a := by
    refine wp_upto 3 (fun k s => ∃ l a, s = ((k : Int), l, a) ∧ Sr l a) ⟨_, _, rfl, h8⟩ (fun k s hk hi => ?_) (fun s hi => ?_) (by omega)
    · obtain ⟨sl, sa, rfl, hs⟩ := hi
      obtain ⟨n, hn⟩ : ∃ n, idx [total, k7, k8] (k : Int) = some n := ⟨_, idx_gt (l := [total, k7, k8]) (by simpa using hk)⟩
      unfold dynposlaw17_BalanceExact_L1
      simp only [dT (c := (k : Int) < 3) (by omega), if_true, hn, Option.bind_some]
      refine (wpRatings hs).bind fun y hy => ?_
      obtain ⟨sl1, sa1, ry⟩ := y
      simp only at hy ⊢
      refine (wpOdd hy.1).bind fun z hz => ?_
      rw [app_sm (by simp; omega)]
      simp only [Option.bind_some, exactB2 l m (by unfold len at hl1; omega) (by unfold len at hm1; omega), Sum.elim_inl]
      rw [W_succ (by omega)]
      exact wp_some.2 ⟨_, _, rfl, hz⟩
    · obtain ⟨sl, sa, rfl, hs⟩ := hi
      unfold dynposlaw17_BalanceExact_L1
      simp only [dF (c := ((3 : Nat) : Int) < 3) (by omega), Bool.false_eq_true, if_false]
      exact wp_some.2 ⟨_, _, rfl, hs⟩
  refine hloop1.bind fun x27 h27 => ?_
  obtain ⟨l6, a6, rfl, h27⟩ := h27
  simp only [Sum.elim_inl]
  have hloop3 : Wp (loopO (dynposlaw17_BalanceExact_L3 raw odd total (nb, ph, fr, l1, a1, B, S, C) (l2, a2, B, S, C, cl, run, lim, brk)) (0, l6, a6)) fun r => ∃ x, r = .inl x := by
    refine wp_upto 2 (fun k s => ∃ l a, s = ((k : Int), l, a) ∧ Sr l a) ⟨_, _, rfl, h27⟩ (fun k s hk hi => ?_) (fun s hi => ?_) (by omega)
    · obtain ⟨l, a, rfl, hs⟩ := hi
      obtain ⟨x, hx, hxs⟩ : ∃ x, idx [Board.mk nb B S C ph fr, raw] (k : Int) = some x ∧ SmB x := by
        rcases k with _ | _ | k
        · exact ⟨_, rfl, hsb⟩
        · exact ⟨_, rfl, hrs⟩
        · omega
      unfold dynposlaw17_BalanceExact_L3
      simp only [dT (c := (k : Int) < 2) (by omega), if_true, hx, Option.bind_some]
      refine (wpBentPower hs (p := ⟨cl, run, lim, brk⟩) (by simp only; omega) (by simp only; omega) (by simp only; omega) (by simp only; omega)).bind fun y hy => ?_
      obtain ⟨l', a', c', r', m', k'⟩ := y
      simp only at hy ⊢
      refine (exactB4 hxs (p0 := ⟨cl, run, lim, brk⟩) (p1 := ⟨c', r', m', k'⟩) (p2 := odd) hsp hy.2 hos total hy.1 (l' := l') (a' := a') l2 a2 B S C).bind fun z hz => ?_
      obtain ⟨l'', a'', rfl, hz⟩ := hz
      simp only [Sum.elim_inl]
      rw [W_succ (by omega)]
      exact wp_some.2 ⟨_, _, rfl, hz⟩
    · obtain ⟨l, a, rfl, hs⟩ := hi
      unfold dynposlaw17_BalanceExact_L3
      simp only [dF (c := ((2 : Nat) : Int) < 2) (by omega), Bool.false_eq_true, if_false]
      exact wp_some.2 ⟨_, rfl⟩
  refine hloop3.bind fun r hr => ?_
  obtain ⟨x, rfl⟩ := hr
  exact wp_some.2 rfl
end Rx
end Go.Proofs.Ytjkdckacgdkbbaa
