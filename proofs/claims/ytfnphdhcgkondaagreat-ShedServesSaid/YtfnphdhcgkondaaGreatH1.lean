/- Clearing: what the sweeps open, what stays; broken parts; drawn worlds. Plain laws. -/
import Derived.Test.YtfnphdhcgkondaaGreatS4s
import Derived.Test.YtfnphdhcgkondaaGreatM4
import Derived.Test.YtfnphdhcgkondaaGreatM7
import Derived.Test.YtfnphdhcgkondaaGreatN5
set_option linter.unusedVariables false
set_option linter.unusedSimpArgs false
namespace Go.Proofs.YtfnphdhcgkondaaGreat
open Go Go.RowKit Dp
namespace Rx

theorem part_ext {p q : Part} (h1 : p.Kind = q.Kind) (h2 : p.Number = q.Number) : p = q := by
  cases p; cases q; simp at h1 h2; rw [h1, h2]
section
variable {b : Board} {p : Power}
/-- a part is broken -/
noncomputable def brk (p : Power) (k n : Int) : Bool := dB ((⟨k, n⟩ : Part) ∈ p.Broken)
theorem refbrk_has (hp : SmP p) (k n : Int) : dynposref15_Broken p k n = some (brk p k n) := by
  have hl := hp.2.2.2
  have h := loop_anyB (step := dynposref15_Broken_L1 p k n) (fun i => (i : Int)) p.Broken.length (fun i => gt p.Broken i = (⟨k, n⟩ : Part)) (r := .inr true) (e := .inl ()) (fun i hi hne => by
    unfold dynposref15_Broken_L1
    simp only [lt_len hi, if_true, idx_gt hi, Option.bind_some]
    have : (if ((gt p.Broken i).Kind == k) = true then some ((gt p.Broken i).Number == n) else some false) = some false := by
      by_cases h1 : (gt p.Broken i).Kind = k
      · by_cases h2 : (gt p.Broken i).Number = n
        · exact (hne (part_ext h1 h2)).elim
        · simp [h1, h2]
      · simp [h1]
    simp only [this, Option.bind_some, Bool.false_eq_true, if_false]
    rw [W_succ (sm_lt hl hi)]) (fun i hi he => by
    unfold dynposref15_Broken_L1
    simp only [lt_len hi, if_true, idx_gt hi, Option.bind_some, he, beq_self_eq_true]) (by
    unfold dynposref15_Broken_L1
    simp only [nlt_len, Bool.false_eq_true, if_false])
  have h' : loopO (dynposref15_Broken_L1 p k n) 0 = _ := h
  have hm : dB (∃ i, i < p.Broken.length ∧ gt p.Broken i = (⟨k, n⟩ : Part)) = brk p k n := dB_congr mem_iff_gt.symm
  unfold dynposref15_Broken
  rw [h', hm]
  cases brk p k n <;> rfl
theorem brk_has (hp : SmP p) (k n : Int) : board_Broken p k n = some (brk p k n) := by
  have hl := hp.2.2.2
  unfold board_Broken slices_Contains_Part_Part slices_Index_Part_Part
  have e1 : ∀ i, ((k == (gt p.Broken i).Kind && n == (gt p.Broken i).Number) = true ↔ gt p.Broken i = (⟨k, n⟩ : Part)) := fun i => by
    simp only [Bool.and_eq_true, beq_iff_eq]
    exact ⟨fun ⟨h1, h2⟩ => part_ext h1.symm h2.symm, fun h => by rw [h]; exact ⟨rfl, rfl⟩⟩
  by_cases hm : (⟨k, n⟩ : Part) ∈ p.Broken
  · have hw : Wp (loopO (slices_Index_Part_Part_L1 p.Broken ⟨k, n⟩) 0) fun r => ∃ q : Nat, r = .inr (q : Int) := by
      obtain ⟨j, hj, he⟩ := mem_gt hm
      refine wp_upto p.Broken.length (fun k s => s = (k : Int) ∧ k ≤ j) ⟨rfl, by omega⟩ (fun i s hi hv => ?_) (fun s hv => by omega) (sm_le hl)
      obtain ⟨rfl, hv⟩ := hv
      unfold slices_Index_Part_Part_L1
      simp only [lt_len hi, if_true, idx_gt hi, Option.bind_some]
      cases hb : (k == (gt p.Broken i).Kind && n == (gt p.Broken i).Number) with
      | true => simp only [if_true]; exact wp_some.2 ⟨i, rfl⟩
      | false =>
        simp only [Bool.false_eq_true, if_false]
        refine wp_some.2 ⟨W_succ (sm_lt hl hi), ?_⟩
        by_cases e : i = j
        · subst e
          rw [(e1 i).2 he] at hb
          cases hb
        · omega
    obtain ⟨r, e, q, rfl⟩ := hw
    rw [e]
    unfold brk
    rw [dB_T hm]
    simp only [Option.bind_some, Sum.elim_inr]
    rw [dT (by omega)]
  · have e : loopO (slices_Index_Part_Part_L1 p.Broken ⟨k, n⟩) 0 = some (.inl ()) := loop_run (r := Sum.inl ()) (fun k => (k : Int)) p.Broken.length (fun i hi => by
      unfold slices_Index_Part_Part_L1
      simp only [lt_len hi, if_true, idx_gt hi, Option.bind_some]
      cases hb : (k == (gt p.Broken i).Kind && n == (gt p.Broken i).Number) with
      | true => exact (hm ((e1 i).1 hb ▸ gt_mem hi)).elim
      | false =>
        simp only [Bool.false_eq_true, if_false]
        rw [W_succ (sm_lt hl hi)]) (by
      unfold slices_Index_Part_Part_L1
      simp only [nlt_len, Bool.false_eq_true, if_false]) (sm_le hl)
    rw [e]
    unfold brk
    rw [dB_F hm]
    simp only [Option.bind_some, Sum.elim_inl]
    rw [dF (by omega)]
/-- a bus is alive -/
noncomputable def liv (b : Board) (p : Power) (k : Int) : Bool := decide (0 < (ofB b p k).1.Sources.length)
theorem liv_eq (hb : SmB b) (hp : SmP p) (k : Int) : board_Live b p k = some (liv b p k) := live_eq hb hp k
theorem refliv_eq (hb : SmB b) (hp : SmP p) (k : Int) : dynposref15_Live b p k = some (liv b p k) := by
  unfold dynposref15_Live liv
  rw [refof_isle hb hp]
  simp only [ofR, Option.bind_some]
  by_cases h : stt b p = 0 ∧ 0 ≤ k ∧ k < b.Buses
  · have e : (ofB b p k).2 = true := by unfold ofB; rw [if_pos h]
    rw [e]
    simp only [if_true, Option.bind_some]
    congr 1
    rw [decide_eq_decide]
    unfold len
    omega
  · have e : (ofB b p k).2 = false := by unfold ofB; rw [if_neg h]
    have e' : (ofB b p k).1.Sources.length = 0 := by unfold ofB; rw [if_neg h]; rfl
    rw [e, e']
    rfl
/-- a closed breaker leads to something that is broken, or does not run -/
noncomputable def dng (p : Power) (x : Breaker) : Bool := brk p 3 x.A || (if x.Kind = 1 then brk p 3 x.B else if x.Kind = 2 then brk p 1 x.B || ((gt p.Sources x.B.toNat).State != 2) else brk p 4 x.B)
theorem dng_eq (hp : SmP p) {x : Breaker} (hx : x.Kind = 2 → 0 ≤ x.B ∧ x.B < p.Sources.length) (a : List Act) : relief_dangerous ⟨b, p, a⟩ x = some (dng p x) := by
  unfold relief_dangerous shed_relief__dangerous_1 dng
  simp only [brk_has hp, Option.bind_some]
  cases brk p 3 x.A with
  | true => simp only [if_true, Bool.true_or]
  | false =>
    simp only [Bool.false_eq_true, if_false, Bool.false_or]
    by_cases h1 : x.Kind = 1
    · rw [beqT h1, if_pos h1]
      simp only [if_true]
    · rw [beqF h1, if_neg h1]
      simp only [Bool.false_eq_true, if_false]
      by_cases h2 : x.Kind = 2
      · rw [beqT h2, if_pos h2]
        simp only [if_true]
        cases brk p 1 x.B with
        | true => simp only [if_true, Option.bind_some, Bool.true_or]
        | false =>
          have := hx h2
          simp only [Bool.false_eq_true, if_false, idx_gtZ this.1 this.2, Option.bind_some, Bool.false_or]
      · rw [beqF h2, if_neg h2]
        simp only [Bool.false_eq_true, if_false]
/-! opening -/
/-- breakers opened: those of which something holds -/
def opn (C : List Bool) (P : Nat → Bool) : List Bool := (List.range C.length).map fun i => gt C i && !P i
theorem opn_len (C : List Bool) (P : Nat → Bool) : (opn C P).length = C.length := by simp [opn]
theorem opn_gt {C : List Bool} {P : Nat → Bool} {i : Nat} (h : i < C.length) : gt (opn C P) i = (gt C i && !P i) := gt_map_range _ h
def actO (i : Int) : Act := ⟨2, i, 0⟩
/-- the breakers that a sweep finds -/
def fnd (C : List Bool) (P : Nat → Bool) : List Int := rangeF (fun i => gt C i && P i) C.length
def tup (b : Board) (p : Power) (a : List Act) : Int × List Breaker × List Source × List Consumer × Int × Int × List Bool × List Running × List Int × List Part × List Act := (b.Buses, b.Breakers, b.Sources, b.Consumers, b.Phase, b.Frequency, p.Closed, p.Sources, p.Limits, p.Broken, a)
theorem opnAll (C : List Bool) (l : List Int) (h : ∀ k ∈ l, 0 ≤ k ∧ k < (C.length : Int)) : ∀ i, gt (l.foldl (fun c k => c.set k.toNat false) C) i = (gt C i && !decide ((i : Int) ∈ l)) ∧ (l.foldl (fun c k => c.set k.toNat false) C).length = C.length := by
  induction l generalizing C with
  | nil => intro i; simp
  | cons k l ih =>
    intro i
    have hk := h k (by simp)
    have := ih (C.set k.toNat false) (fun j hj => by have := h j (by simp [hj]); simpa using this) i
    simp only [List.foldl_cons]
    rw [this.1, this.2]
    refine ⟨?_, by simp⟩
    rw [gt_set (by omega)]
    by_cases e : i = k.toNat
    · have : (i : Int) = k := by omega
      rw [if_pos e, this]; simp
    · have : (i : Int) ≠ k := by omega
      rw [if_neg e]
      simp [this]
theorem open_run {b : Board} {p : Power} {a : List Act} {l : List Int} (hC : p.Closed.length ≤ 1000) (hl : l.length ≤ 1000) (ha : a.length ≤ 10000000) (h : ∀ k ∈ l, 0 ≤ k ∧ k < (p.Closed.length : Int)) :
    loopO (relief_sweep_v5_L2 l) (0, tup b p a) = some (tup b { p with Closed := l.foldl (fun c k => c.set k.toNat false) p.Closed } (a ++ l.map actO)) := by
  have := loop_run (step := relief_sweep_v5_L2 l) (r := tup b { p with Closed := l.foldl (fun c k => c.set k.toNat false) p.Closed } (a ++ l.map actO)) (fun k => ((k : Int), tup b { p with Closed := (l.take k).foldl (fun c k => c.set k.toNat false) p.Closed } (a ++ (l.take k).map actO))) l.length (fun k hk => by
    have hg := h _ (gt_mem hk)
    have hln := (opnAll p.Closed (l.take k) (fun j hj => h j (List.mem_of_mem_take hj)) 0).2
    unfold relief_sweep_v5_L2 relief_open_v1
    simp only [tup, lt_len hk, if_true, idx_gt hk, Option.bind_some]
    rw [idx_gtZ (l := (l.take k).foldl (fun c k => c.set k.toNat false) p.Closed) hg.1 (by rw [hln]; exact hg.2), setO_gt hg.1 (by rw [hln]; exact hg.2), app_sm (by simp; omega), W_succ (by omega)]
    simp only [Option.bind_some, take_gt hk, List.foldl_append, List.foldl_cons, List.foldl_nil, List.map_append, List.map_cons, List.map_nil, List.append_assoc]
    rfl) (by
    unfold relief_sweep_v5_L2
    simp only [tup, nlt_len, Bool.false_eq_true, if_false, List.take_length]) (by omega)
  simpa using this
theorem fnd_mem {C : List Bool} {P : Nat → Bool} : ∀ k ∈ fnd C P, 0 ≤ k ∧ k < (C.length : Int) := fun k hk => by
  obtain ⟨i, hi, _, rfl⟩ := mem_rangeF.1 hk
  omega
theorem fnd_opn (C : List Bool) (P : Nat → Bool) : (fnd C P).foldl (fun c k => c.set k.toNat false) C = opn C P := by
  refine ext_gt (by rw [(opnAll C (fnd C P) fnd_mem 0).2, opn_len]) fun i hi => ?_
  rw [(opnAll C (fnd C P) fnd_mem 0).2] at hi
  rw [(opnAll C (fnd C P) fnd_mem i).1, opn_gt hi]
  cases hc : gt C i with
  | false => simp
  | true =>
    simp only [Bool.true_and]
    congr 1
    cases hP : P i with
    | true => exact decide_eq_true (mem_rangeF.2 ⟨i, hi, by simp [hc, hP], rfl⟩)
    | false =>
      refine decide_eq_false fun hm => ?_
      obtain ⟨j, _, hj, e⟩ := mem_rangeF.1 hm
      have : i = j := by omega
      subst this
      rw [hP] at hj
      simp at hj
theorem fnd_len (C : List Bool) (P : Nat → Bool) : (fnd C P).length ≤ C.length := rangeF_len _ _
/-- behind the first sweep -/
noncomputable def clr1 (b : Board) (p : Power) : Power := { p with Closed := opn p.Closed fun i => dng p (gt b.Breakers i) }
/-- a consumer without a live bus -/
noncomputable def dead (b : Board) (p : Power) (x : Breaker) : Bool := x.Kind == 3 && !liv b p x.A
noncomputable def clr2 (b : Board) (p : Power) : Power := { clr1 b p with Closed := opn (clr1 b p).Closed fun i => dead b (clr1 b p) (gt b.Breakers i) }
noncomputable def clrA (b : Board) (p : Power) : List Act := (fnd p.Closed fun i => dng p (gt b.Breakers i)).map actO ++ (fnd (clr1 b p).Closed fun i => dead b (clr1 b p) (gt b.Breakers i)).map actO
noncomputable def clrP (b : Board) (p : Power) : Power := folP b (clr2 b p)
/-- a state with fewer closed breakers is a state too -/
theorem clo_mono {q : Power} {j : Int} (h : ∀ k, gt q.Closed k = true → gt p.Closed k = true) : ∀ n, clo b q j n ≤ clo b p j n := by
  intro n
  induction n with
  | zero => exact Nat.le_refl _
  | succ n ih =>
    unfold clo
    by_cases hc : (gt b.Breakers n).Kind = 3 ∧ (gt b.Breakers n).B = j ∧ gt q.Closed n = true
    · rw [if_pos hc, if_pos ⟨hc.1, hc.2.1, h n hc.2.2⟩]; omega
    · rw [if_neg hc]; omega
theorem stt_less {q : Power} (h : stt b p = 0) (hl : q.Closed.length = p.Closed.length) (hs : q.Sources = p.Sources) (hm : q.Limits = p.Limits) (hb : q.Broken = p.Broken) (hc : ∀ k, gt q.Closed k = true → gt p.Closed k = true) : stt b q = 0 := by
  obtain ⟨h1, ⟨s1, s2, s3⟩, ⟨g1, g2⟩, g3, g4⟩ := stt_zero.1 h
  refine stt_zero.2 ⟨h1, ⟨by omega, by rw [hs]; exact s2, by rw [hm]; exact s3⟩, ⟨by rw [hb]; exact g1, by rw [hb]; exact g2⟩, by rw [hs]; exact g3, fun k hk => ?_⟩
  rw [hm] at hk
  obtain ⟨a, c⟩ := g4 k hk
  refine ⟨by rw [hm]; exact a, ?_⟩
  have := clo_mono (b := b) (j := (k : Int)) hc b.Breakers.length
  omega
theorem opn_le {C : List Bool} {P : Nat → Bool} {k : Nat} (h : gt (opn C P) k = true) : gt C k = true := by
  by_cases hk : k < C.length
  · rw [opn_gt hk] at h
    cases hc : gt C k with
    | true => rfl
    | false => rw [hc] at h; cases h
  · unfold gt at h
    rw [List.getD_eq_getElem?_getD, List.getElem?_eq_none (by rw [opn_len]; omega)] at h
    exact Bool.noConfusion h
theorem stt_clr1 (h : stt b p = 0) : stt b (clr1 b p) = 0 := stt_less h (opn_len _ _) rfl rfl rfl fun k hk => opn_le hk
theorem stt_clr2 (h : stt b p = 0) : stt b (clr2 b p) = 0 := stt_less (stt_clr1 h) (opn_len _ _) rfl rfl rfl fun k hk => opn_le hk
theorem sm_opn {q : Power} (hp : SmP p) (hl : q.Closed.length = p.Closed.length) (hs : q.Sources = p.Sources) (hm : q.Limits = p.Limits) (hb : q.Broken = p.Broken) : SmP q := by
  obtain ⟨h1, h2, h3, h4⟩ := hp
  refine ⟨?_, by rw [hs]; exact h2, by rw [hm]; exact h3, by rw [hb]; exact h4⟩
  unfold Sm at h1 ⊢; omega
theorem sm_clr1 (hp : SmP p) : SmP (clr1 b p) := sm_opn hp (opn_len _ _) rfl rfl rfl
theorem sm_clr2 (hp : SmP p) : SmP (clr2 b p) := sm_opn (sm_clr1 (b := b) hp) (opn_len _ _) rfl rfl rfl
theorem brk_lens (h : stt b p = 0) : p.Closed.length = b.Breakers.length ∧ p.Sources.length = b.Sources.length ∧ b.Breakers.length ≤ 24 ∧ b.Sources.length ≤ 8 ∧ b.Consumers.length ≤ 16 ∧ p.Limits.length = b.Consumers.length := by
  obtain ⟨⟨hl, _⟩, ⟨s1, s2, s3⟩, _⟩ := stt_zero.1 h
  exact ⟨s1, s2, hl.brk, hl.src, hl.con, s3⟩
theorem src_at (h : stt b p = 0) {k : Nat} (hk : k < b.Breakers.length) (h2 : (gt b.Breakers k).Kind = 2) : 0 ≤ (gt b.Breakers k).B ∧ (gt b.Breakers k).B < (p.Sources.length : Int) := by
  obtain ⟨s1, s2, _⟩ := brk_lens h
  have := (((stt_zero.1 h).1.2).1.1 k hk).2
  rcases this with c | c | c <;> omega
/-- the first sweep -/
theorem sweep1_eq (hp : SmP p) (h : stt b p = 0) {a : List Act} (ha : a.length ≤ 1000000) : relief_sweep_v5 ⟨b, p, a⟩ = some (tup b (clr1 b p) (a ++ (fnd p.Closed fun i => dng p (gt b.Breakers i)).map actO)) := by
  obtain ⟨s1, s2, s3, _⟩ := brk_lens h
  unfold relief_sweep_v5
  have e1 : loopO (relief_sweep_v5_L1 ⟨b, p, a⟩) (0, []) = some (fnd p.Closed fun i => dng p (gt b.Breakers i)) := by
    have := loop_run (step := relief_sweep_v5_L1 ⟨b, p, a⟩) (r := fnd p.Closed fun i => dng p (gt b.Breakers i)) (fun k => ((k : Int), rangeF (fun i => gt p.Closed i && dng p (gt b.Breakers i)) k)) b.Breakers.length (fun k hk => by
      have hrl := rangeF_len (fun i => gt p.Closed i && dng p (gt b.Breakers i)) k
      unfold relief_sweep_v5_L1
      simp only [lt_len hk, if_true, idx_gt hk, Option.bind_some, idx_gt (l := p.Closed) (k := k) (by omega), dng_eq (b := b) hp (x := gt b.Breakers k) (src_at h hk) a]
      rw [W_succ (by omega), rangeF_succ]
      cases gt p.Closed k with
      | false => simp
      | true =>
        cases dng p (gt b.Breakers k) with
        | false => simp
        | true =>
          simp only [if_true, Option.bind_some, Bool.and_self]
          rw [app_sm (by simp; omega)]
          rfl) (by
      unfold relief_sweep_v5_L1
      simp only [nlt_len, Bool.false_eq_true, if_false]
      unfold fnd
      rw [s1]) (by omega)
    simpa [rangeF] using this
  rw [e1]
  have hfl : (fnd p.Closed fun i => dng p (gt b.Breakers i)).length ≤ 1000 := by
    have := fnd_len p.Closed fun i => dng p (gt b.Breakers i)
    omega
  have e2 := open_run (b := b) (p := p) (a := a) (l := fnd p.Closed fun i => dng p (gt b.Breakers i)) (by omega) hfl (by omega) fnd_mem
  simp only [Option.bind_some]
  rw [show loopO (relief_sweep_v5_L2 (fnd p.Closed fun i => dng p (gt b.Breakers i))) (0, b.Buses, b.Breakers, b.Sources, b.Consumers, b.Phase, b.Frequency, p.Closed, p.Sources, p.Limits, p.Broken, a) = _ from e2, fnd_opn]
  rfl
theorem sweep2_eq (hb : SmB b) (hp : SmP p) (h : stt b p = 0) {a : List Act} (ha : a.length ≤ 1000000) : relief_sweep_v6 ⟨b, p, a⟩ = some (tup b { p with Closed := opn p.Closed fun i => dead b p (gt b.Breakers i) } (a ++ (fnd p.Closed fun i => dead b p (gt b.Breakers i)).map actO)) := by
  obtain ⟨s1, s2, s3, _⟩ := brk_lens h
  unfold relief_sweep_v6
  have e1 : loopO (relief_sweep_v6_L1 ⟨b, p, a⟩) (0, [], tup b p a) = some (fnd p.Closed fun i => dead b p (gt b.Breakers i), tup b p a) := by
    have := loop_run (step := relief_sweep_v6_L1 ⟨b, p, a⟩) (r := (fnd p.Closed fun i => dead b p (gt b.Breakers i), tup b p a)) (fun k => ((k : Int), rangeF (fun i => gt p.Closed i && dead b p (gt b.Breakers i)) k, tup b p a)) b.Breakers.length (fun k hk => by
      have hrl := rangeF_len (fun i => gt p.Closed i && dead b p (gt b.Breakers i)) k
      have hbe : (⟨b.Buses, b.Breakers, b.Sources, b.Consumers, b.Phase, b.Frequency⟩ : Board) = b := rfl
      have hpe : (⟨p.Closed, p.Sources, p.Limits, p.Broken⟩ : Power) = p := rfl
      unfold relief_sweep_v6_L1 shed_relief__clear_1_v1
      simp only [tup, lt_len hk, if_true, idx_gt hk, Option.bind_some, idx_gt (l := p.Closed) (k := k) (by omega), hbe, hpe, liv_eq hb hp]
      rw [W_succ (by omega), rangeF_succ]
      generalize rangeF (fun i => gt p.Closed i && dead b p (gt b.Breakers i)) k = R at hrl ⊢
      unfold dead
      cases gt p.Closed k with
      | false => simp
      | true =>
        cases (gt b.Breakers k).Kind == 3 with
        | false => simp
        | true =>
          cases liv b p (gt b.Breakers k).A with
          | true => simp
          | false =>
            simp only [if_true, Option.bind_some, Bool.and_self, Bool.not_false]
            rw [app_sm (by simp; omega)]
            rfl) (by
      unfold relief_sweep_v6_L1
      simp only [tup, nlt_len, Bool.false_eq_true, if_false]
      unfold fnd
      rw [s1]) (by omega)
    simpa [rangeF] using this
  rw [show loopO (relief_sweep_v6_L1 ⟨b, p, a⟩) (0, [], b.Buses, b.Breakers, b.Sources, b.Consumers, b.Phase, b.Frequency, p.Closed, p.Sources, p.Limits, p.Broken, a) = _ from e1]
  have hfl : (fnd p.Closed fun i => dead b p (gt b.Breakers i)).length ≤ 1000 := by
    have := fnd_len p.Closed fun i => dead b p (gt b.Breakers i)
    omega
  have e2 := open_run (b := b) (p := p) (a := a) (l := fnd p.Closed fun i => dead b p (gt b.Breakers i)) (by omega) hfl (by omega) fnd_mem
  simp only [Option.bind_some]
  rw [show loopO (relief_sweep_v6_L2 (fnd p.Closed fun i => dead b p (gt b.Breakers i), tup b p a)) (0, (tup b p a).1, (tup b p a).2.1, (tup b p a).2.2.1, (tup b p a).2.2.2.1, (tup b p a).2.2.2.2.1, (tup b p a).2.2.2.2.2.1, (tup b p a).2.2.2.2.2.2.1, (tup b p a).2.2.2.2.2.2.2.1, (tup b p a).2.2.2.2.2.2.2.2.1, (tup b p a).2.2.2.2.2.2.2.2.2.1, (tup b p a).2.2.2.2.2.2.2.2.2.2) = _ from e2, fnd_opn]
  rfl
theorem clear_run (hb : SmB b) (hp : SmP p) (h : stt b p = 0) : relief_clear_v1 ⟨b, p, []⟩ = some (b.Buses, b.Breakers, b.Sources, b.Consumers, b.Phase, b.Frequency, (clr2 b p).Closed, (clr2 b p).Sources, (clr2 b p).Limits, (clr2 b p).Broken, (clrP b p).Closed, (clrP b p).Sources, (clrP b p).Limits, (clrP b p).Broken, clrA b p) := by
  obtain ⟨s1, s2, s3, _⟩ := brk_lens h
  have hfl := fnd_len p.Closed fun i => dng p (gt b.Breakers i)
  unfold relief_clear_v1
  rw [sweep1_eq hp h (by simp)]
  simp only [Option.bind_some, tup]
  have e2 := sweep2_eq (a := [] ++ (fnd p.Closed fun i => dng p (gt b.Breakers i)).map actO) hb (sm_clr1 (b := b) hp) (stt_clr1 h) (by simp only [List.nil_append, List.length_map]; omega)
  rw [show (⟨⟨b.Buses, b.Breakers, b.Sources, b.Consumers, b.Phase, b.Frequency⟩, ⟨(clr1 b p).Closed, (clr1 b p).Sources, (clr1 b p).Limits, (clr1 b p).Broken⟩, [] ++ (fnd p.Closed fun i => dng p (gt b.Breakers i)).map actO⟩ : relief) = ⟨b, clr1 b p, [] ++ (fnd p.Closed fun i => dng p (gt b.Breakers i)).map actO⟩ from rfl, e2]
  simp only [Option.bind_some, tup]
  have e3 := follow_eq hb (sm_clr2 (b := b) hp) (stt_clr2 h)
  rw [show sync_Follow ⟨b.Buses, b.Breakers, b.Sources, b.Consumers, b.Phase, b.Frequency⟩ ⟨opn (clr1 b p).Closed fun i => dead b (clr1 b p) (gt b.Breakers i), (clr1 b p).Sources, (clr1 b p).Limits, (clr1 b p).Broken⟩ = _ from e3]
  simp only [Option.bind_some, List.nil_append]
  rfl
/-! what consumers' breakers do not change -/
theorem tieRun_ties {q : Power} (hc : ∀ k, k < b.Breakers.length → (gt b.Breakers k).Kind = 1 → gt q.Closed k = gt p.Closed k) (k : Nat) (hk : k ≤ b.Breakers.length) (f : List Int) : tieRun b q k f = tieRun b p k f := by
  induction k with
  | zero => rfl
  | succ k ih =>
    unfold tieRun
    rw [ih (by omega)]
    unfold tieStep
    by_cases h1 : (gt b.Breakers k).Kind = 1
    · rw [hc k (by omega) h1]
    · rw [if_neg fun h => h1 h.1, if_neg fun h => h1 h.1]
theorem grp_ties {q : Power} (hc : ∀ k, k < b.Breakers.length → (gt b.Breakers k).Kind = 1 → gt q.Closed k = gt p.Closed k) : grp b q = grp b p := by
  unfold grp
  have : ∀ r f, rounds b q r f = rounds b p r f := by
    intro r f
    induction r with
    | zero => rfl
    | succ r ih => unfold rounds; rw [ih, tieRun_ties hc _ (Nat.le_refl _)]
  exact this _ _
theorem find_congr {n : Nat} {P Q : Nat → Bool} (h : ∀ k, k < n → P k = Q k) : (List.range n).find? P = (List.range n).find? Q := by
  induction n with
  | zero => rfl
  | succ n ih => rw [List.range_succ, List.find?_append, List.find?_append, ih fun k hk => h k (by omega)]; simp [List.find?_cons, h n (by omega)]
theorem led_kind {q : Power} {kind j : Int} (hc : ∀ k, k < b.Breakers.length → (gt b.Breakers k).Kind = kind → (gt b.Breakers k).B = j → gt q.Closed k = gt p.Closed k) : led b q kind j = led b p kind j := by
  unfold led
  rw [find_congr (P := ledAt b q kind j) (Q := ledAt b p kind j) fun k hk => by
    unfold ledAt
    cases h1 : (gt b.Breakers k).Kind == kind with
    | false => rfl
    | true =>
      cases h2 : (gt b.Breakers k).B == j with
      | false => rfl
      | true => rw [hc k hk (by simpa using h1) (by simpa using h2)]]
theorem conn_src {q : Power} (hl : q.Sources.length = p.Sources.length) (hs : ∀ j, j < p.Sources.length → (gt q.Sources j).State = (gt p.Sources j).State) (hc : ∀ k, k < b.Breakers.length → (gt b.Breakers k).Kind = 2 → gt q.Closed k = gt p.Closed k) (j : Int) : conn b q j = conn b p j := by
  unfold conn
  rw [hl]
  by_cases h : 0 ≤ j ∧ j ≤ (p.Sources.length : Int) - 1
  · rw [if_pos h, if_pos h, hs j.toNat (by omega), led_kind fun k hk h2 _ => hc k hk h2]
  · rw [if_neg h, if_neg h]
/-- two states that differ in consumers' breakers and phases alone -/
structure SameT (b : Board) (p q : Power) : Prop where
  len : q.Sources.length = p.Sources.length
  st : ∀ j, j < p.Sources.length → (gt q.Sources j).State = (gt p.Sources j).State
  cl : ∀ k, k < b.Breakers.length → (gt b.Breakers k).Kind ≠ 3 → gt q.Closed k = gt p.Closed k
theorem SameT.grp {q : Power} (h : SameT b p q) : grp b q = grp b p := grp_ties fun k hk h1 => h.cl k hk (by omega)
theorem SameT.conn {q : Power} (h : SameT b p q) (j : Int) : conn b q j = conn b p j := conn_src h.len h.st (fun k hk h2 => h.cl k hk (by omega)) j
theorem SameT.srcs {q : Power} (h : SameT b p q) (f : Nat) : (isle b q f).Sources = (isle b p f).Sources ∧ (isle b q f).Buses = (isle b p f).Buses := by
  unfold isle
  refine ⟨?_, ?_⟩
  · show rangeF (srcP b q f) _ = rangeF (srcP b p f) _
    congr 1
    funext j
    unfold srcP
    rw [h.grp, h.conn]
  · show rangeF (busP b q f) _ = rangeF (busP b p f) _
    congr 1
    funext j
    unfold busP
    rw [h.grp]
theorem SameT.ofS {q : Power} (h : SameT b p q) (hp : stt b p = 0) (hq : stt b q = 0) (k : Int) : (ofB b q k).1.Sources = (ofB b p k).1.Sources := by
  unfold ofB
  by_cases c : 0 ≤ k ∧ k < b.Buses
  · rw [if_pos ⟨hq, c⟩, if_pos ⟨hp, c⟩]
    show (isleOf b q k).Sources = (isleOf b p k).Sources
    unfold isleOf
    rw [h.grp]
    exact (h.srcs _).1
  · rw [if_neg fun x => c x.2, if_neg fun x => c x.2]
theorem SameT.liv {q : Power} (h : SameT b p q) (hp : stt b p = 0) (hq : stt b q = 0) (k : Int) : liv b q k = liv b p k := by
  unfold Rx.liv
  rw [h.ofS hp hq]
theorem same_clr2 (h : stt b p = 0) : SameT b (clr1 b p) (clr2 b p) := by
  obtain ⟨s1, _⟩ := brk_lens h
  refine ⟨rfl, fun _ _ => rfl, fun k hk h3 => ?_⟩
  show gt (opn (clr1 b p).Closed _) k = _
  rw [opn_gt (by show k < (opn p.Closed _).length; rw [opn_len]; omega)]
  unfold dead
  rw [beqF h3]
  simp
theorem same_fol (h : stt b p = 0) : SameT b p (folP b p) := ⟨folL_len, fun j hj => by rw [folP_state hj], fun _ _ _ => rfl⟩
theorem SameT.trans {q r : Power} (h : SameT b p q) (h' : SameT b q r) : SameT b p r := ⟨by rw [h'.len, h.len], fun j hj => by rw [h'.st j (by rw [h.len]; exact hj), h.st j hj], fun k hk h3 => by rw [h'.cl k hk h3, h.cl k hk h3]⟩
end
/-! the drawn world -/
theorem wpWorld {l : List Int} {a : Int} (hs : Sr l a) : Wp (dynposlaw18_world ⟨l, a⟩) fun r => ∃ (b : Board) (p : Power) (l : List Int) (a : Int), r = (b.Buses, b.Phase, b.Frequency, l, a, b.Breakers, b.Sources, b.Consumers, p.Closed, p.Sources, p.Limits, p.Broken) ∧ Gen b ∧ GenP b p ∧ Sr l a ∧ SmB b ∧ SmP p ∧ stt b p = 0 := by
  unfold dynposlaw18_world
  refine (wpBoard hs).bind fun r hr => ?_
  obtain ⟨nb, ph, fr, l1, a1, br, S, C⟩ := r
  obtain ⟨h1, hg⟩ := hr
  simp only at h1 hg ⊢
  refine (wpPower h1 hg).bind fun r hr => ?_
  obtain ⟨l2, a2, cl, run, lim, brkn, rfl, h2, hp⟩ := hr
  exact wp_some.2 ⟨⟨nb, br, S, C, ph, fr⟩, ⟨cl, run, lim, brkn⟩, l2, a2, rfl, hg, hp, h2, hg.sm, hp.sm hg, hp.stt hg⟩
theorem sane_T : dynposlaw18_sane = some true := by kernel_rfl
end Rx
end Go.Proofs.YtfnphdhcgkondaaGreat
