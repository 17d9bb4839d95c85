/- Roster: a generator's breaker opened; the reference's load and rating. Plain laws. -/
import Derived.Test.YtkcjbcmpnoaghaaY3
set_option linter.unusedVariables false
set_option linter.unusedSimpArgs false
namespace Go.Proofs.Ytkcjbcmpnoaghaa
open Go Go.RowKit Dp
namespace Rx
open Classical

section
variable {b : Board} {p : Power}
theorem led_srcZ {j k : Nat} (hk : k < b.Breakers.length) (hs : isS (gt b.Breakers k) j) (hu : ∀ i, i < b.Breakers.length → isS (gt b.Breakers i) j → i = k) : led b p 2 (j : Int) = if gt p.Closed k = true then ((gt b.Breakers k).A, true) else (0, false) := by
  have hz : ∀ i, i < b.Breakers.length → (ledAt b p 2 (j : Int) i = true ↔ i = k ∧ gt p.Closed k = true) := fun i hi => by
    unfold ledAt
    simp only [Bool.and_eq_true, beq_iff_eq]
    constructor
    · rintro ⟨⟨h1, h2⟩, h3⟩
      have := hu i hi ⟨h1, h2⟩
      subst this
      exact ⟨rfl, h3⟩
    · rintro ⟨rfl, h3⟩
      exact ⟨⟨hs.1, hs.2⟩, h3⟩
  unfold led
  cases hf : (List.range b.Breakers.length).find? (ledAt b p 2 (j : Int)) with
  | none =>
    rw [if_neg]
    intro hc
    have := List.find?_eq_none.1 hf k (List.mem_range.2 hk)
    exact this ((hz k hk).2 ⟨rfl, hc⟩)
  | some i =>
    have hi := List.mem_range.1 (List.mem_of_find?_eq_some hf)
    have hq := (hz i hi).1 (List.find?_some (p := ledAt b p 2 (j : Int)) hf)
    obtain ⟨rfl, hc⟩ := hq
    rw [if_pos hc]
theorem conn_srcZ {j k : Nat} (hj : j < p.Sources.length) (hk : k < b.Breakers.length) (hs : isS (gt b.Breakers k) j) (hu : ∀ i, i < b.Breakers.length → isS (gt b.Breakers i) j → i = k) : conn b p (j : Int) = if (gt p.Sources j).State = 2 ∧ gt p.Closed k = true then ((gt b.Breakers k).A, true) else (0, false) := by
  unfold conn
  rw [if_pos ⟨by omega, by omega⟩, Int.toNat_natCast, led_srcZ hk hs hu]
  by_cases h1 : (gt p.Sources j).State = 2
  · rw [if_pos h1]
    by_cases h2 : gt p.Closed k = true
    · rw [if_pos h2, if_pos ⟨h1, h2⟩]
    · rw [if_neg h2, if_neg (fun h => h2 h.2)]
  · rw [if_neg h1, if_neg (fun h => h1 h.1)]

/-! the reference's load and rating -/
theorem refload_eq (hb : SmB b) (hp : SmP p) (h : stt b p = 0) {k : Int} (k0 : 0 ≤ k) (k1 : k < b.Buses) : dynposref17_Load b p k = some (loadI p (isleOf b p k)) := by
  obtain ⟨⟨hl, hg⟩, ⟨s1, s2, s3⟩, _⟩ := stt_zero.1 h
  have hpa := ofB_parts (p := p) hg.1 k
  have hof : dynposref15_Of b p k = some (true, (isleOf b p k).Buses, (isleOf b p k).Sources, (isleOf b p k).Consumers) := by
    rw [refof_isle hb hp, ofR, ofB_in' h k0 k1]
  rw [ofB_in' h k0 k1] at hpa
  dsimp only at hpa
  obtain ⟨h1, h2, h3, h4⟩ := hpa
  have h8 := hl.con
  generalize isleOf b p k = x at *
  unfold dynposref17_Load
  rw [hof]
  by_cases hs : x.Sources = []
  · have : (len x.Sources == 0) = true := by rw [hs]; rfl
    simp only [Option.bind_some, Bool.not_true, Bool.false_eq_true, if_false, this, if_true]
    unfold loadI
    rw [if_pos hs]
  have hne : (len x.Sources == 0) = false := by
    have := List.length_pos_iff.2 hs
    unfold len
    simp
    exact hs
  have hlp := loop_run (step := dynposref17_Load_L1 p (true, x.Buses, x.Sources, x.Consumers)) (fun i => (sumF (gt p.Limits) (x.Consumers.take i), (i : Int))) x.Consumers.length (r := loadI p x) (fun i hi => by
    obtain ⟨c0, c1⟩ := h1 _ (gt_mem hi)
    obtain ⟨c, ec⟩ := Int.eq_ofNat_of_zero_le c0
    have ec : gt x.Consumers i = (c : Int) := ec
    have hc : c < p.Limits.length := by omega
    have hbd := sumF_bd (f := gt p.Limits) (l := x.Consumers.take i) (B := 50000) (fun c hc => by
      have := h1 c (List.mem_of_mem_take hc)
      exact lim_bd h (by omega))
    have hlen : (x.Consumers.take i).length ≤ 16 := by simp; omega
    have hcb := lim_bd h (k := c) (by omega)
    simp only [dynposref17_Load_L1, lt_len hi, if_true, idx_gt hi, ec, Option.bind_some, idx_gt hc, W_succ (show i < 1000000000000000000 by omega), take_gt hi, sumF_snoc, Int.toNat_natCast]
    rw [W_sm (by omega) (by omega)]) (by
    simp only [dynposref17_Load_L1, nlt_len, Bool.false_eq_true, if_false, List.take_length]
    unfold loadI
    rw [if_neg hs])
  have hlp' : loopO (dynposref17_Load_L1 p (true, x.Buses, x.Sources, x.Consumers)) (0, 0) = _ := hlp
  simp only [Option.bind_some, Bool.not_true, Bool.false_eq_true, if_false, hne, hlp']
theorem refrating_eq (hb : SmB b) (hp : SmP p) (h : stt b p = 0) {k : Int} (k0 : 0 ≤ k) (k1 : k < b.Buses) : dynposref17_Rating b p k = some (rateI b (isleOf b p k)) := by
  obtain ⟨⟨hl, hg⟩, ⟨s1, s2, s3⟩, _⟩ := stt_zero.1 h
  have hpa := ofB_parts (p := p) hg.1 k
  have hof : dynposref15_Of b p k = some (true, (isleOf b p k).Buses, (isleOf b p k).Sources, (isleOf b p k).Consumers) := by
    rw [refof_isle hb hp, ofR, ofB_in' h k0 k1]
  rw [ofB_in' h k0 k1] at hpa
  dsimp only at hpa
  obtain ⟨h1, h2, h3, h4⟩ := hpa
  have h8 := hl.src
  generalize isleOf b p k = x at *
  unfold dynposref17_Rating
  rw [hof]
  have hlp := loop_run (step := dynposref17_Rating_L1 b (true, x.Buses, x.Sources, x.Consumers)) (fun i => (sumF (fun k => (gt b.Sources k).Rating) (x.Sources.take i), (i : Int))) x.Sources.length (r := rateI b x) (fun i hi => by
    obtain ⟨c0, c1⟩ := h2 _ (gt_mem hi)
    obtain ⟨c, ec⟩ := Int.eq_ofNat_of_zero_le c0
    have ec : gt x.Sources i = (c : Int) := ec
    have hc : c < b.Sources.length := by omega
    have hbd := sumF_bd (f := fun k => (gt b.Sources k).Rating) (l := x.Sources.take i) (B := 50000) (fun c hc => by
      have := h2 c (List.mem_of_mem_take hc)
      have := rat_bd h (k := c.toNat) (by omega)
      exact ⟨by omega, this.2⟩)
    have hlen : (x.Sources.take i).length ≤ 8 := by simp; omega
    have hcb := rat_bd h (k := c) (by omega)
    simp only [dynposref17_Rating_L1, lt_len hi, if_true, idx_gt hi, ec, Option.bind_some, idx_gt hc, W_succ (show i < 1000000000000000000 by omega), take_gt hi, sumF_snoc, Int.toNat_natCast]
    rw [W_sm (by omega) (by omega)]) (by
    simp only [dynposref17_Rating_L1, nlt_len, Bool.false_eq_true, if_false, List.take_length]
    rfl)
  have hlp' : loopO (dynposref17_Rating_L1 b (true, x.Buses, x.Sources, x.Consumers)) (0, 0) = _ := hlp
  simp only [Option.bind_some, hlp']

/-! a generator's breaker opened -/
noncomputable def opn (b : Board) (p : Power) (j : Nat) : Power := ⟨p.Closed.set (bk b j) false, p.Sources, p.Limits, p.Broken⟩
theorem opn_gt {j i : Nat} (hi : i ≠ bk b j) : gt (opn b p j).Closed i = gt p.Closed i := by
  unfold opn gt
  simp only [List.getD_eq_getElem?_getD, List.getElem?_set_ne (Ne.symm hi)]
theorem opn_kind (hb : BrkOk b) {j : Nat} (hj : j < b.Sources.length) {i : Nat} (hi : (gt b.Breakers i).Kind ≠ 2) : gt (opn b p j).Closed i = gt p.Closed i :=
  opn_gt fun e => hi (by rw [e]; exact (bk_spec hb hj).2.1.1)
theorem opn_sm (hp : SmP p) {j : Nat} : SmP (opn b p j) := ⟨by unfold opn Sm; simp only [List.length_set]; exact hp.1, hp.2.1, hp.2.2.1, hp.2.2.2⟩
theorem opn_stt (h : stt b p = 0) {j : Nat} (hj : j < b.Sources.length) : stt b (opn b p j) = 0 := by
  obtain ⟨⟨hl, hg⟩, ⟨s1, s2, s3⟩, g1, g2, g3⟩ := stt_zero.1 h
  refine stt_zero.2 ⟨⟨hl, hg⟩, ⟨by unfold opn; simp only [List.length_set]; exact s1, s2, s3⟩, g1, g2, fun k hk => ?_⟩
  obtain ⟨q1, q2⟩ := g3 k hk
  refine ⟨q1, ?_⟩
  rw [← clo_congr (p := p) (q := opn b p j) fun i hi hk _ => (opn_kind hg.1 hj (by rw [hk]; decide)).symm]
  exact q2
theorem opn_tie (hb : BrkOk b) {j : Nat} (hj : j < b.Sources.length) (k : Nat) (f : List Int) : tieRun b (opn b p j) k f = tieRun b p k f := by
  induction k with
  | zero => rfl
  | succ k ih =>
    unfold tieRun
    rw [ih]
    unfold tieStep
    by_cases hk : (gt b.Breakers k).Kind = 1
    · rw [opn_kind hb hj (by rw [hk]; decide)]
    · rw [if_neg fun h => hk h.1, if_neg fun h => hk h.1]
theorem opn_grp (hb : BrkOk b) {j : Nat} (hj : j < b.Sources.length) : grp b (opn b p j) = grp b p := by
  unfold grp
  generalize b.Buses.toNat = r
  have : ∀ r o, rounds b (opn b p j) r o = rounds b p r o := by
    intro r o
    induction r with
    | zero => rfl
    | succ r ih => unfold rounds; rw [ih, opn_tie hb hj]
  exact this _ _
theorem opn_led (hb : BrkOk b) {j : Nat} (hj : j < b.Sources.length) (i : Int) : led b (opn b p j) 3 i = led b p 3 i := by
  have : ledAt b (opn b p j) 3 i = ledAt b p 3 i := by
    funext k
    unfold ledAt
    by_cases hk : (gt b.Breakers k).Kind = 3
    · rw [opn_kind hb hj (by rw [hk]; decide)]
    · have : ((gt b.Breakers k).Kind == 3) = false := by simpa using hk
      simp [this]
  unfold led
  rw [this]
theorem opn_conn (hb : BrkOk b) {j : Nat} (hj : j < b.Sources.length) (hc : p.Closed.length = b.Breakers.length) (hs : p.Sources.length = b.Sources.length) {i : Nat} (hi : i < b.Sources.length) : conn b (opn b p j) (i : Int) = if i = j then (0, false) else conn b p (i : Int) := by
  obtain ⟨k1, k2, k3⟩ := bk_spec hb hi
  have hip : i < p.Sources.length := by omega
  rw [conn_srcZ (p := opn b p j) hip k1 k2 k3, conn_srcZ hip k1 k2 k3]
  by_cases e : i = j
  · subst e
    rw [if_pos rfl]
    have : gt (opn b p i).Closed (bk b i) = false := by
      unfold opn gt
      simp only [List.getD_eq_getElem?_getD]
      rw [List.getElem?_set_self (by omega)]
      rfl
    rw [this]
    rw [if_neg (fun h => by cases h.2)]
  · rw [if_neg e]
    have hne : bk b i ≠ bk b j := fun h => by
      obtain ⟨_, q2, _⟩ := bk_spec hb hj
      rw [h] at k2
      have := k2.2.symm.trans q2.2
      omega
    rw [opn_gt hne]
    rfl
theorem opn_isle (hb : BrkOk b) {j : Nat} (hj : j < b.Sources.length) (hc : p.Closed.length = b.Breakers.length) (hs : p.Sources.length = b.Sources.length) (f : Nat) : isle b (opn b p j) f = ⟨(isle b p f).Buses, (isle b p f).Sources.filter (fun x => !(x == (j : Int))), (isle b p f).Consumers⟩ := by
  unfold isle
  have e1 : busP b (opn b p j) f = busP b p f := by funext i; unfold busP; rw [opn_grp hb hj]
  have e3 : conP b (opn b p j) f = conP b p f := by funext i; unfold conP; rw [opn_grp hb hj, opn_led hb hj]
  have e2 : rangeF (srcP b (opn b p j) f) b.Sources.length = (rangeF (srcP b p f) b.Sources.length).filter (fun x => !(x == (j : Int))) := by
    unfold rangeF
    rw [List.filter_map, List.filter_filter]
    congr 1
    refine List.filter_congr fun i hi => ?_
    have hi := List.mem_range.1 hi
    unfold srcP
    rw [opn_conn hb hj hc hs hi, opn_grp hb hj]
    by_cases e : i = j
    · subst e
      simp
    · have : ¬ (i : Int) = (j : Int) := by omega
      simp [e, this]
  rw [e1, e2, e3]
theorem sumF_erase (f : Nat → Int) (j : Int) : ∀ {l : List Int}, l.Nodup → j ∈ l → sumF f (l.filter fun x => !(x == j)) = sumF f l - f j.toNat
  | [], _, h => by cases h
  | x :: l, hn, hm => by
    have hn' := List.nodup_cons.1 hn
    have hc : ∀ (y : Int) (m : List Int), sumF f (y :: m) = f y.toNat + sumF f m := fun y m => rfl
    by_cases e : x = j
    · subst e
      have hfl : l.filter (fun y => !(y == x)) = l := List.filter_eq_self.2 fun y hy => by
        have : y ≠ x := fun h => hn'.1 (h ▸ hy)
        simpa using this
      rw [List.filter_cons_of_neg (by simp), hfl, hc]
      omega
    · rw [List.filter_cons_of_pos (by simpa using e), hc, hc, sumF_erase f j hn'.2 ((List.mem_cons.1 hm).resolve_left fun h => e h.symm)]
      omega
end
end Rx
end Go.Proofs.Ytkcjbcmpnoaghaa
