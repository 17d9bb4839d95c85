/- The reference's reach, and what is connected by it, answer as the board's. Plain laws. -/
import Derived.Test.YtfnphdhcgkondaaGreatN3
set_option linter.unusedVariables false
set_option linter.unusedSimpArgs false
namespace Go.Proofs.YtfnphdhcgkondaaGreat
open Go Go.RowKit Dp
namespace Rx
open Classical

def mStep (b : Board) (p : Power) (m : List Bool) (k : Nat) : List Bool :=
  if (gt b.Breakers k).Kind = 1 ∧ gt p.Closed k = true ∧ (gt m (gt b.Breakers k).A.toNat = true ∨ gt m (gt b.Breakers k).B.toNat = true) then (m.set (gt b.Breakers k).A.toNat true).set (gt b.Breakers k).B.toNat true else m
def mRun (b : Board) (p : Power) (m : List Bool) : Nat → List Bool
  | 0 => m
  | k + 1 => mStep b p (mRun b p m k) k
def mRounds (b : Board) (p : Power) (m : List Bool) : Nat → List Bool
  | 0 => m
  | r + 1 => mRun b p (mRounds b p m r) b.Breakers.length
theorem mStep_len (b : Board) (p : Power) (m : List Bool) (k : Nat) : (mStep b p m k).length = m.length := by unfold mStep; split <;> simp
theorem mRun_len (b : Board) (p : Power) (m : List Bool) (k : Nat) : (mRun b p m k).length = m.length := by
  induction k with
  | zero => rfl
  | succ k ih => unfold mRun; rw [mStep_len, ih]
theorem mRounds_len (b : Board) (p : Power) (m : List Bool) (r : Nat) : (mRounds b p m r).length = m.length := by
  induction r with
  | zero => rfl
  | succ r ih => unfold mRounds; rw [mRun_len, ih]
section
variable {b : Board} {p : Power}
theorem mStep_gt (hb : BrkOk b) {m : List Bool} (hm : m.length = b.Buses.toNat) {k : Nat} (hk : k < b.Breakers.length) (i : Nat) : gt (mStep b p m k) i = if (gt b.Breakers k).Kind = 1 ∧ gt p.Closed k = true ∧ (gt m (gt b.Breakers k).A.toNat = true ∨ gt m (gt b.Breakers k).B.toNat = true) ∧ (i = (gt b.Breakers k).A.toNat ∨ i = (gt b.Breakers k).B.toNat) then true else gt m i := by
  unfold mStep
  by_cases h : (gt b.Breakers k).Kind = 1 ∧ gt p.Closed k = true ∧ (gt m (gt b.Breakers k).A.toNat = true ∨ gt m (gt b.Breakers k).B.toNat = true)
  · obtain ⟨e1, e2, _, _⟩ := tieEnds hb hk h.1
    rw [if_pos h, gt_set (by simp; omega), gt_set (by omega)]
    by_cases hi : i = (gt b.Breakers k).B.toNat
    · rw [if_pos hi, if_pos ⟨h.1, h.2.1, h.2.2, .inr hi⟩]
    · rw [if_neg hi]
      by_cases hi2 : i = (gt b.Breakers k).A.toNat
      · rw [if_pos hi2, if_pos ⟨h.1, h.2.1, h.2.2, .inl hi2⟩]
      · rw [if_neg hi2, if_neg (fun hh => hh.2.2.2.elim hi2 hi)]
  · rw [if_neg h, if_neg (fun hh => h ⟨hh.1, hh.2.1, hh.2.2.1⟩)]
theorem mStep_mono (hb : BrkOk b) {m : List Bool} (hm : m.length = b.Buses.toNat) {k : Nat} (hk : k < b.Breakers.length) {i : Nat} (h : gt m i = true) : gt (mStep b p m k) i = true := by
  rw [mStep_gt hb hm hk]
  split
  · rfl
  · exact h
theorem mRun_mono (hb : BrkOk b) {m : List Bool} (hm : m.length = b.Buses.toNat) {i : Nat} (k : Nat) : ∀ d, k + d ≤ b.Breakers.length → gt (mRun b p m k) i = true → gt (mRun b p m (k + d)) i = true
  | 0, _, h => h
  | d + 1, hd, h => mStep_mono hb (by rw [mRun_len, hm]) (show k + d < b.Breakers.length by omega) (mRun_mono hb hm k d (by omega) h)
theorem mRun_edge (hb : BrkOk b) {m : List Bool} (hm : m.length = b.Buses.toNat) {i j : Nat} (h : gt m i = true) (ht : Tied b p i j) : gt (mRun b p m b.Breakers.length) j = true := by
  obtain ⟨k, hk, h1, h2, h3⟩ := ht
  have e := tieEnds hb hk h1
  have hi := mRun_mono (p := p) hb hm 0 k (by omega) h
  rw [Nat.zero_add] at hi
  have hj : gt (mRun b p m (k + 1)) j = true := by
    show gt (mStep b p (mRun b p m k) k) j = true
    rw [mStep_gt hb (by rw [mRun_len, hm]) hk, if_pos]
    refine ⟨h1, h2, ?_, ?_⟩
    · rcases h3 with h3 | h3
      · exact .inl (by rw [show (gt b.Breakers k).A.toNat = i from by omega]; exact hi)
      · exact .inr (by rw [show (gt b.Breakers k).B.toNat = i from by omega]; exact hi)
    · omega
  have := mRun_mono hb hm (k + 1) (b.Breakers.length - (k + 1)) (by omega) hj
  rwa [show k + 1 + (b.Breakers.length - (k + 1)) = b.Breakers.length from by omega] at this
theorem mRun_sound (hb : BrkOk b) {m : List Bool} (hm : m.length = b.Buses.toNat) {s : Nat} (h : ∀ i, gt m i = true → Conn (Tied b p) s i) : ∀ k, k ≤ b.Breakers.length → ∀ i, gt (mRun b p m k) i = true → Conn (Tied b p) s i
  | 0, _, i, hi => h i hi
  | k + 1, hk, i, hi => by
    have ih := mRun_sound hb hm h k (by omega)
    have hi' : gt (mStep b p (mRun b p m k) k) i = true := hi
    rw [mStep_gt hb (by rw [mRun_len, hm]) (by omega)] at hi'
    split at hi'
    · rename_i hc
      obtain ⟨h1, h2, h3, h4⟩ := hc
      have e := tieEnds hb (show k < b.Breakers.length by omega) h1
      have ht : Tied b p (gt b.Breakers k).A.toNat (gt b.Breakers k).B.toNat := ⟨k, by omega, h1, h2, .inl ⟨e.2.2.1, e.2.2.2⟩⟩
      rcases h3 with h3 | h3
      · have c := ih _ h3
        rcases h4 with rfl | rfl
        · exact c
        · exact c.trans (.one ht)
      · have c := ih _ h3
        rcases h4 with rfl | rfl
        · exact c.trans (.one ht.symm)
        · exact c
    · exact ih i hi'
theorem mRounds_sound (hb : BrkOk b) {m : List Bool} (hm : m.length = b.Buses.toNat) {s : Nat} (h : ∀ i, gt m i = true → Conn (Tied b p) s i) : ∀ r i, gt (mRounds b p m r) i = true → Conn (Tied b p) s i
  | 0, i, hi => h i hi
  | r + 1, i, hi => mRun_sound hb (by rw [mRounds_len, hm]) (mRounds_sound hb hm h r) _ (Nat.le_refl _) i hi
theorem mRounds_walk (hb : BrkOk b) {m : List Bool} (hm : m.length = b.Buses.toNat) {s : Nat} (h : gt m s = true) : ∀ r j, Walk (Tied b p) r s j → gt (mRounds b p m r) j = true
  | 0, j, w => by rw [← w.zero]; exact h
  | r + 1, j, w => by
    have hl : (mRounds b p m r).length = b.Buses.toNat := by rw [mRounds_len, hm]
    rcases w.last with h1 | ⟨i, h1, h2⟩
    · have := mRun_mono (p := p) hb hl 0 b.Breakers.length (by omega) (mRounds_walk hb hm h r j h1)
      rw [Nat.zero_add] at this
      exact this
    · exact mRun_edge hb hl (mRounds_walk hb hm h r i h1) h2
def mark0 (n s : Nat) : List Bool := (List.replicate n false).set s true
theorem mark_iff (hb : BrkOk b) {s : Nat} (hs : s < b.Buses.toNat) {j : Nat} : gt (mRounds b p (mark0 b.Buses.toNat s) b.Buses.toNat) j = true ↔ Conn (Tied b p) s j := by
  have hm : (mark0 b.Buses.toNat s).length = b.Buses.toNat := by simp [mark0]
  have h0 : gt (mark0 b.Buses.toNat s) s = true := by unfold mark0; rw [gt_set (by simpa using hs), if_pos rfl]
  constructor
  · refine mRounds_sound hb hm (fun i hi => ?_) _ j
    unfold mark0 at hi
    rw [gt_set (by simpa using hs)] at hi
    by_cases his : i = s
    · subst his; exact .refl _
    · rw [if_neg his] at hi
      by_cases hib : i < b.Buses.toNat
      · rw [gt_replicate hib] at hi; cases hi
      · unfold gt at hi
        simp [List.getD_eq_getElem?_getD, hib] at hi
  · intro h
    have hw := (h.walk (n := b.Buses.toNat) (fun i j h => (h.lt hb).2) hs).more (r' := b.Buses.toNat) (by omega)
    exact mRounds_walk hb hm h0 _ _ hw
theorem rangeF_congr {P Q : Nat → Bool} {n : Nat} (h : ∀ i, i < n → P i = Q i) : rangeF P n = rangeF Q n := by
  unfold rangeF
  rw [List.filter_congr fun x hx => h x (List.mem_range.1 hx)]
theorem reach_run (hb : BrkOk b) (hs : Sm b.Breakers) (hc : p.Closed.length = b.Breakers.length) {m : List Bool} (hm : (m.length : Int) = b.Buses) : loopO (dynposref15_reach_L2 b p) ((0 : Int), m) = some (mRun b p m b.Breakers.length) := by
  refine loop_run (step := dynposref15_reach_L2 b p) (fun k => ((k : Int), mRun b p m k)) b.Breakers.length (fun k hk => ?_) (by simp only [dynposref15_reach_L2, nlt_len, Bool.false_eq_true, if_false])
  have hok := hb.1 k hk
  have hl := mRun_len b p m k
  have hsucc : mRun b p m (k + 1) = mStep b p (mRun b p m k) k := rfl
  simp only [dynposref15_reach_L2, lt_len hk, if_true, idx_gt hk, idx_gt (show k < p.Closed.length by omega), Option.bind_some, W_succ (sm_lt hs hk), hsucc]
  generalize mRun b p m k = q at hl ⊢
  by_cases h1 : (gt b.Breakers k).Kind = 1
  case neg =>
    have e0 : mStep b p q k = q := by unfold mStep; rw [if_neg (fun h => h1 h.1)]
    simp only [beqF h1, e0, Bool.false_eq_true, if_false, Option.bind_some]
  cases h2 : gt p.Closed k with
  | false =>
    have e0 : mStep b p q k = q := by unfold mStep; rw [if_neg (fun h => by rw [h2] at h; exact absurd h.2.1 (by simp))]
    simp only [beqT h1, e0, if_true, Bool.false_eq_true, if_false, Option.bind_some]
  | true =>
    have e := tieEnds hb hk h1
    have iA : ∀ x : List Bool, x.length = q.length → idx x (gt b.Breakers k).A = some (gt x (gt b.Breakers k).A.toNat) := fun x hx => idx_gtZ (by omega) (by omega)
    have iB : ∀ x : List Bool, x.length = q.length → idx x (gt b.Breakers k).B = some (gt x (gt b.Breakers k).B.toNat) := fun x hx => idx_gtZ (by omega) (by omega)
    have sA : ∀ x : List Bool, x.length = q.length → setO x (gt b.Breakers k).A true = some (x.set (gt b.Breakers k).A.toNat true) := fun x hx => setO_gt (by omega) (by omega)
    have sB : ∀ x : List Bool, x.length = q.length → setO x (gt b.Breakers k).B true = some (x.set (gt b.Breakers k).B.toNat true) := fun x hx => setO_gt (by omega) (by omega)
    simp only [beqT h1, if_true, Option.bind_some, iA q rfl, iB q rfl, sA q rfl, iB (q.set (gt b.Breakers k).A.toNat true) (by simp), sB (q.set (gt b.Breakers k).A.toNat true) (by simp)]
    cases h3 : gt q (gt b.Breakers k).A.toNat with
    | true =>
      have e0 : mStep b p q k = (q.set (gt b.Breakers k).A.toNat true).set (gt b.Breakers k).B.toNat true := by unfold mStep; rw [if_pos ⟨h1, h2, .inl h3⟩]
      simp only [if_true, Option.bind_some, e0]
    | false =>
      cases h4 : gt q (gt b.Breakers k).B.toNat with
      | true =>
        have e0 : mStep b p q k = (q.set (gt b.Breakers k).A.toNat true).set (gt b.Breakers k).B.toNat true := by unfold mStep; rw [if_pos ⟨h1, h2, .inr h4⟩]
        simp only [if_true, Bool.false_eq_true, if_false, Option.bind_some, e0]
      | false =>
        have e0 : mStep b p q k = q := by unfold mStep; rw [if_neg (fun h => by rcases h.2.2 with h | h <;> simp [h3, h4] at h)]
        simp only [Bool.false_eq_true, if_false, Option.bind_some, e0]
theorem reach_eq (hl : Lim b) (hb : BrkOk b) (hs : Sm b.Breakers) (hc : p.Closed.length = b.Breakers.length) {k : Int} (h0 : 0 ≤ k) (h1 : k < b.Buses) : dynposref15_reach b p k = some (isleOf b p k).Buses := by
  have hbus := hl.bus
  obtain ⟨n, hn⟩ := Int.eq_ofNat_of_zero_le (show 0 ≤ b.Buses by omega)
  obtain ⟨s, hk⟩ := Int.eq_ofNat_of_zero_le h0
  subst hk
  have hsn : s < n := by omega
  have hnb : b.Buses.toNat = n := by omega
  have hml : (mark0 n s).length = n := by simp [mark0]
  have hst : (List.replicate n false).set s true = mark0 n s := rfl
  have l1 : loopO (dynposref15_reach_L1 b p (mark0 n s)) ((0 : Int), mark0 n s) = some (mRounds b p (mark0 n s) n) := by
    refine loop_run (step := dynposref15_reach_L1 b p (mark0 n s)) (fun k => ((k : Int), mRounds b p (mark0 n s) k)) n (fun k hk => ?_) ?_
    · have e1 : decide ((k : Int) < len (mark0 n s)) = true := dT (by unfold len; omega)
      have hrl := mRounds_len b p (mark0 n s) k
      simp only [dynposref15_reach_L1, e1, if_true, reach_run hb hs hc (m := mRounds b p (mark0 n s) k) (by omega), Option.bind_some, W_succ (show k < 1000000000000000000 by omega)]
      rfl
    · have e1 : decide ((n : Int) < len (mark0 n s)) = false := dF (by unfold len; omega)
      simp only [dynposref15_reach_L1, e1, Bool.false_eq_true, if_false]
  have l3 : ∀ m : List Bool, m.length = n → loopO (dynposref15_reach_L3 m) ((0 : Int), []) = some (rangeF (fun j => gt m j) n) := by
    intro m hm
    refine loop_run (step := dynposref15_reach_L3 m) (fun k => ((k : Int), rangeF (fun j => gt m j) k)) n (fun k hk => ?_) ?_
    · have hrl := rangeF_len (fun j => gt m j) k
      have hap : app (rangeF (fun j => gt m j) k) [(k : Int)] = some (rangeF (fun j => gt m j) k ++ [(k : Int)]) := app_sm (by simp; omega)
      simp only [dynposref15_reach_L3, lt_len (show k < m.length by omega), if_true, idx_gt (show k < m.length by omega), Option.bind_some, rangeF_succ, hap, W_succ (show k < 1000000000000000000 by omega)]
      cases gt m k <;> simp
    · have e1 : decide ((n : Int) < len m) = false := dF (by unfold len; omega)
      simp only [dynposref15_reach_L3, e1, Bool.false_eq_true, if_false]
  unfold dynposref15_reach
  rw [hn, mkZ_nat (by omega)]
  have hrl : (List.replicate n false).length = n := by simp
  have hmr := mRounds_len b p (mark0 n s) n
  rw [hml] at hmr
  simp only [Option.bind_some, Int.ofNat_eq_natCast, idx_gt (show s < (List.replicate n false).length by omega), setO_nat (show s < (List.replicate n false).length by omega), hst, l1, l3 _ hmr]
  have hgb := grp_bd (p := p) hb (show s < b.Buses.toNat by omega)
  show some _ = some (rangeF (busP b p (gt (grp b p) ((s : Int)).toNat).toNat) b.Buses.toNat)
  rw [hnb, Int.toNat_natCast]
  congr 1
  refine rangeF_congr fun i hi => ?_
  have h4 := mark_iff (p := p) hb (s := s) (j := i) (by omega)
  have h5 := grp_iff (p := p) hb (i := i) (j := s) (by omega) (by omega)
  rw [hnb] at h4
  have hsy : ∀ i j, Tied b p i j → Tied b p j i := fun _ _ h => h.symm
  have h6 : gt (mRounds b p (mark0 n s) n) i = true ↔ busP b p (gt (grp b p) s).toNat i = true := by
    rw [h4]
    unfold busP
    rw [beq_iff_eq, show (((gt (grp b p) s).toNat : Nat) : Int) = gt (grp b p) s from by omega, h5]
    exact ⟨fun h => h.symm hsy, fun h => h.symm hsy⟩
  exact Bool.eq_iff_iff.2 h6
end
end Rx
end Go.Proofs.YtfnphdhcgkondaaGreat
