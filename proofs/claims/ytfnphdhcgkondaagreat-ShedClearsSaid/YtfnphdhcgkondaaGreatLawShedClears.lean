/- ShedClears: for every list of numbers the statement answers true: clearing opens just what it has to, and doing it again does nothing. No condition. -/
import Derived.Test.YtfnphdhcgkondaaGreatH1
set_option linter.unusedVariables false
set_option linter.unusedSimpArgs false
namespace Go.Proofs.YtfnphdhcgkondaaGreat
open Go Go.RowKit Dp
namespace Rx

section
variable {b : Board} {p : Power}
theorem opn_id {C : List Bool} {P : Nat → Bool} (h : ∀ i, i < C.length → gt C i = true → P i = false) : opn C P = C := by
  refine ext_gt (opn_len _ _) fun i hi => ?_
  rw [opn_len] at hi
  rw [opn_gt hi]
  cases hc : gt C i with
  | false => rfl
  | true => rw [h i hi hc]; rfl
theorem fnd_nil {C : List Bool} {P : Nat → Bool} (h : ∀ i, i < C.length → gt C i = true → P i = false) : fnd C P = [] := by
  refine List.length_eq_zero_iff.1 (rangeF_len0.2 fun i hi => ?_)
  cases hc : gt C i with
  | false => rfl
  | true => rw [h i hi hc]; rfl
theorem dng_same {q : Power} (hb : q.Broken = p.Broken) (hs : ∀ j, j < p.Sources.length → (gt q.Sources j).State = (gt p.Sources j).State) {x : Breaker} (hx : x.Kind = 2 → 0 ≤ x.B ∧ x.B < p.Sources.length) : dng q x = dng p x := by
  unfold dng brk
  rw [hb]
  by_cases h2 : x.Kind = 2
  · have := hx h2
    rw [hs x.B.toNat (by omega)]
  · by_cases h1 : x.Kind = 1
    · rw [if_pos h1, if_pos h1]
    · rw [if_neg h1, if_neg h2, if_neg h1, if_neg h2]
theorem clrP_at (h : stt b p = 0) {i : Nat} (hi : i < b.Breakers.length) : gt (clrP b p).Closed i = (gt p.Closed i && !dng p (gt b.Breakers i) && !dead b (clr1 b p) (gt b.Breakers i)) := by
  obtain ⟨s1, _⟩ := brk_lens h
  show gt (opn (opn p.Closed _) _) i = _
  rw [opn_gt (by rw [opn_len]; omega), opn_gt (by omega)]
theorem same_clrP (h : stt b p = 0) : SameT b (clr1 b p) (clrP b p) := (same_clr2 h).trans (same_fol (stt_clr2 h))
theorem stt_clrP (h : stt b p = 0) : stt b (clrP b p) = 0 := stt_fol (stt_clr2 h)
theorem sm_clrP (hp : SmP p) : SmP (clrP b p) := sm_fol (sm_clr2 hp)
theorem clr_again (h : stt b p = 0) : clrP b (clrP b p) = clrP b p ∧ clrA b (clrP b p) = [] := by
  obtain ⟨s1, s2, _⟩ := brk_lens h
  have hl : (clrP b p).Closed.length = b.Breakers.length := by
    show (opn (opn p.Closed _) _).length = _
    rw [opn_len, opn_len, s1]
  have hd : ∀ i, i < (clrP b p).Closed.length → gt (clrP b p).Closed i = true → dng (clrP b p) (gt b.Breakers i) = false := fun i hi hc => by
    rw [hl] at hi
    rw [clrP_at h hi] at hc
    rw [dng_same (q := clrP b p) (p := p) rfl (fun j hj => (same_clrP h).st j hj) (src_at h hi)]
    cases hdd : dng p (gt b.Breakers i) with
    | false => rfl
    | true => rw [hdd] at hc; simp at hc
  have e1 : clr1 b (clrP b p) = clrP b p := by
    unfold clr1
    rw [opn_id hd]
  have hq : ∀ i, i < (clrP b p).Closed.length → gt (clrP b p).Closed i = true → dead b (clrP b p) (gt b.Breakers i) = false := fun i hi hc => by
    rw [hl] at hi
    rw [clrP_at h hi] at hc
    unfold dead at hc ⊢
    rw [(same_clrP h).liv (stt_clr1 h) (stt_clrP h)]
    cases hdd : ((gt b.Breakers i).Kind == 3 && !liv b (clr1 b p) (gt b.Breakers i).A) with
    | false => rfl
    | true => rw [hdd] at hc; simp at hc
  have e2 : clr2 b (clrP b p) = clrP b p := by
    unfold clr2
    rw [e1, opn_id hq]
  refine ⟨?_, ?_⟩
  · show folP b (clr2 b (clrP b p)) = _
    rw [e2]
    show folP b (folP b (clr2 b p)) = folP b (clr2 b p)
    unfold folP
    rw [show folL b ⟨(clr2 b p).Closed, folL b (clr2 b p), (clr2 b p).Limits, (clr2 b p).Broken⟩ = folL b (clr2 b p) from fol_fol (stt_clr2 h)]
  · unfold clrA
    rw [fnd_nil hd, e1, fnd_nil hq]
    rfl
theorem range_sum {P Q R : Nat → Bool} (h : ∀ i, (if R i = true then 1 else 0) = (if P i = true then 1 else 0) + (if Q i = true then 1 else 0)) (n : Nat) : (rangeF R n).length = (rangeF P n).length + (rangeF Q n).length := by
  induction n with
  | zero => rfl
  | succ n ih => rw [rangeF_len_succ, rangeF_len_succ, rangeF_len_succ, ih, h n]; omega
end
theorem clears_L1 {b : Board} {p : Power} (hb : SmB b) (hp : SmP p) (h : stt b p = 0) (l : List Int) (a : Int) (ac : List Act) :
    loopO (dynposlaw18_ShedClears_L1 (b.Buses, b.Phase, b.Frequency, l, a, b.Breakers, b.Sources, b.Consumers, p.Closed, p.Sources, p.Limits, p.Broken) (0, (clrP b p).Closed, (clrP b p).Sources, (clrP b p).Limits, (clrP b p).Broken, ac)) (0, 0) = some (.inl ((rangeF (fun i => gt p.Closed i && !gt (clrP b p).Closed i) b.Breakers.length).length : Int)) := by
  obtain ⟨s1, s2, s3, _⟩ := brk_lens h
  have hl : (clrP b p).Closed.length = b.Breakers.length := by
    show (opn (opn p.Closed _) _).length = _
    rw [opn_len, opn_len, s1]
  have hbe : (⟨b.Buses, b.Breakers, b.Sources, b.Consumers, b.Phase, b.Frequency⟩ : Board) = b := rfl
  have hpe : (⟨p.Closed, p.Sources, p.Limits, p.Broken⟩ : Power) = p := rfl
  have hqe : (⟨(clrP b p).Closed, (clrP b p).Sources, (clrP b p).Limits, (clrP b p).Broken⟩ : Power) = clrP b p := rfl
  refine loop_run (r := Sum.inl ((rangeF (fun i => gt p.Closed i && !gt (clrP b p).Closed i) b.Breakers.length).length : Int)) (fun k => (((rangeF (fun i => gt p.Closed i && !gt (clrP b p).Closed i) k).length : Int), (k : Int))) b.Breakers.length (fun k hk => ?_) ?_ (by omega)
  · have hat := clrP_at h hk
    have hrl := rangeF_len (fun i => gt p.Closed i && !gt (clrP b p).Closed i) k
    unfold dynposlaw18_ShedClears_L1
    simp only [lt_len hk, if_true, idx_gt hk, Option.bind_some, idx_gt (l := p.Closed) (k := k) (by omega), idx_gt (l := (clrP b p).Closed) (k := k) (by omega), hbe, hpe, hqe, refbrk_has hp, refliv_eq hb (sm_clrP hp)]
    rw [W_succ (k := k) (by omega), W_succ (by omega), rangeF_len_succ]
    cases hq : gt (clrP b p).Closed k with
    | false =>
      cases hc : gt p.Closed k with
      | false =>
        simp
      | true =>
        simp
    | true =>
      rw [hq] at hat
      have hc : gt p.Closed k = true := by
        cases hc : gt p.Closed k with
        | true => rfl
        | false => rw [hc] at hat; cases hat
      have hd : dng p (gt b.Breakers k) = false := by
        cases hd : dng p (gt b.Breakers k) with
        | false => rfl
        | true => rw [hd] at hat; simp at hat
      have he : dead b (clr1 b p) (gt b.Breakers k) = false := by
        cases he : dead b (clr1 b p) (gt b.Breakers k) with
        | false => rfl
        | true => rw [he] at hat; simp at hat
      rw [hc]
      have h3 : brk p 3 (gt b.Breakers k).A = false := by
        unfold dng at hd
        cases h3 : brk p 3 (gt b.Breakers k).A with
        | false => rfl
        | true => rw [h3] at hd; simp at hd
      simp only [beq_self_eq_true, if_true, h3, Bool.false_eq_true, if_false]
      by_cases k3 : (gt b.Breakers k).Kind = 3
      · have hlv : liv b (clrP b p) (gt b.Breakers k).A = true := by
          rw [(same_clrP h).liv (stt_clr1 h) (stt_clrP h)]
          unfold dead at he
          rw [beqT k3] at he
          simpa using he
        rw [beqT k3, hlv, beqF (a := (gt b.Breakers k).Kind) (b := 2) (by omega)]
        simp
      · rw [beqF k3]
        simp only [Bool.false_eq_true, if_false]
        by_cases k2 : (gt b.Breakers k).Kind = 2
        · have hs := src_at h hk k2
          have : ((gt p.Sources (gt b.Breakers k).B.toNat).State != 2) = false := by
            unfold dng at hd
            rw [h3, if_neg (by omega), if_pos k2] at hd
            simp only [Bool.false_or, Bool.or_eq_false_iff] at hd
            exact hd.2
          rw [beqT k2, idx_gtZ hs.1 hs.2]
          simp [this]
        · rw [beqF k2]
          simp
  · unfold dynposlaw18_ShedClears_L1
    simp only [nlt_len, Bool.false_eq_true, if_false]
theorem law_ShedClears (t : List Int) : dynposlaw18_ShedClears t = some true := by
  unfold dynposlaw18_ShedClears
  refine wp_eq.1 ((wpNew t).bind fun r hr => ?_)
  refine (wpWorld hr).bind fun w hw => ?_
  obtain ⟨b, p, l, a, rfl, hg, hgp, hs, hb, hp, h⟩ := hw
  simp only
  have hbe : (⟨b.Buses, b.Breakers, b.Sources, b.Consumers, b.Phase, b.Frequency⟩ : Board) = b := rfl
  have hpe : (⟨p.Closed, p.Sources, p.Limits, p.Broken⟩ : Power) = p := rfl
  have hqe : (⟨(clrP b p).Closed, (clrP b p).Sources, (clrP b p).Limits, (clrP b p).Broken⟩ : Power) = clrP b p := rfl
  obtain ⟨s1, s2, s3, _⟩ := brk_lens h
  have hl : (clrP b p).Closed.length = p.Closed.length := by
    show (opn (opn p.Closed _) _).length = _
    rw [opn_len, opn_len]
  obtain ⟨a1, a2⟩ := clr_again h
  simp only [hbe, hpe, clear_eq hb hp h, Option.bind_some, hqe, clear_eq hb (sm_clrP (b := b) hp) (stt_clrP h), a1, a2, show ((0 : Int) != 0) = false from rfl, Bool.false_eq_true, if_false, show decide (len ([] : List Act) > 0) = false from rfl, same_refl (sm_clrP (b := b) hp), Bool.not_true]
  rw [bneF (a := len (clrP b p).Closed) (by unfold len; omega)]
  have hli : (clrP b p).Limits = p.Limits := rfl
  have hi : dynposref01_Ints (clrP b p).Limits p.Limits = some true := by
    rw [hli, ints_eq hp.2.2.1, dT rfl]
  simp only [Bool.false_eq_true, if_false, hi, Option.bind_some, Bool.not_true, clears_L1 hb hp h l a (clrA b p), Sum.elim_inl]
  have hc : ((rangeF (fun i => gt p.Closed i && !gt (clrP b p).Closed i) b.Breakers.length).length : Int) = len (clrA b p) := by
    unfold clrA len fnd
    rw [List.length_append, List.length_map, List.length_map, show (clr1 b p).Closed.length = b.Breakers.length by show (opn p.Closed _).length = _; rw [opn_len, s1], s1]
    congr 1
    have : ∀ n, n ≤ b.Breakers.length → (rangeF (fun i => gt p.Closed i && !gt (clrP b p).Closed i) n).length = (rangeF (fun i => gt p.Closed i && dng p (gt b.Breakers i)) n).length + (rangeF (fun i => gt (clr1 b p).Closed i && dead b (clr1 b p) (gt b.Breakers i)) n).length := by
      intro n
      induction n with
      | zero => intro _; rfl
      | succ n ih =>
        intro hn
        rw [rangeF_len_succ, rangeF_len_succ, rangeF_len_succ, ih (by omega), clrP_at h (by omega), show gt (clr1 b p).Closed n = (gt p.Closed n && !dng p (gt b.Breakers n)) from opn_gt (by omega)]
        cases gt p.Closed n <;> cases dng p (gt b.Breakers n) <;> cases dead b (clr1 b p) (gt b.Breakers n) <;> simp <;> omega
    exact this _ (Nat.le_refl _)
  rw [beqT hc]
  simp only [if_true, sane_T, Option.bind_some]
  exact wp_some.2 rfl
end Rx
end Go.Proofs.YtfnphdhcgkondaaGreat
