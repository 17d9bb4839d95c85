/- Roster: without whom the load is low, when it is high, a step. Plain laws. -/
import Derived.Test.YtkcjbcmpnoaghaaY2
set_option linter.unusedVariables false
set_option linter.unusedSimpArgs false
namespace Go.Proofs.Ytkcjbcmpnoaghaa
open Go Go.RowKit Dp
namespace Rx
open Classical

section
variable {b : Board} {p : Power}
theorem isle_bd (h : stt b p = 0) {k : Int} (h0 : 0 ≤ k) (h1 : k < b.Buses) : (0 ≤ loadI p (isleOf b p k) ∧ loadI p (isleOf b p k) ≤ 800000) ∧ 0 ≤ rateI b (isleOf b p k) ∧ rateI b (isleOf b p k) ≤ 400000 := by
  obtain ⟨⟨hl, hg⟩, _⟩ := stt_zero.1 h
  have hx := (isleOf_in (p := p) hg.1 h0 h1).1
  have hl2 := load_bd h hx
  have hr := rat_isl h hx
  have := sumL_bd hr.2
  rw [ratesI_sum] at this
  have h8 := hr.1
  refine ⟨⟨hl2.1, hl2.2.1⟩, ?_, ?_⟩ <;> omega
/-- without this one the load is low -/
def LowOk (b : Board) (p : Power) (t : Table) (x : Island) (j : Nat) : Prop := j < b.Sources.length ∧ (j : Int) ∈ x.Sources ∧ ¬ (⟨2, (bk b j : Int)⟩ : Part) ∈ p.Broken ∧ 100 * loadI p x ≤ t.Stop * (rateI b x - (gt b.Sources j).Rating)
theorem wpLow (hb : SmB b) (hp : SmP p) (h : stt b p = 0) (t : Table) {k : Int} (h0 : 0 ≤ k) (h1 : k < b.Buses) : Wp (roster_Low b t p k) fun r => r.2 = true → (vT t ∧ 2 ≤ (isleOf b p k).Sources.length) ∧ ∃ j : Nat, r.1 = (j : Int) ∧ LowOk b p t (isleOf b p k) j := by
  obtain ⟨⟨hl, hg⟩, ⟨s1, s2, s3⟩, _⟩ := stt_zero.1 h
  obtain ⟨m1, m2, _⟩ := isle_sm (p := p) hl (gt (grp b p) k.toNat).toNat
  have m2 : Sm (isleOf b p k).Sources := m2
  have ho : board_Of b p k = some ((isleOf b p k).Buses, (isleOf b p k).Sources, (isleOf b p k).Consumers, true) := by
    rw [of_eq hb hp, ofT, ofB_in' h h0 h1]
  have hld : balance_Load b p k = some (loadI p (isleOf b p k)) := by rw [load_eq hb hp, ofB_in' h h0 h1]
  have hrt : balance_Rating b p k = some (rateI b (isleOf b p k)) := by rw [rating_eq hb hp, ofB_in' h h0 h1]
  obtain ⟨⟨l1, l2⟩, l3, l4⟩ := isle_bd h h0 h1
  have hin := (isl_parts hg.1 (isleOf_in (p := p) hg.1 h0 h1).1).2.1
  unfold roster_Low
  rw [ho]
  simp only [Option.bind_some, valid_eq, slices_Backward_int_int]
  by_cases hv : vT t
  case neg => simp only [dF hv, Bool.not_false, if_true, Option.bind_some]; exact wp_some.2 (fun h => by cases h)
  simp only [dT hv, Bool.not_true, Bool.false_eq_true, if_false, Option.bind_some]
  by_cases hlen : len (isleOf b p k).Sources < 2
  · simp only [dT hlen, if_true]; exact wp_some.2 (fun h => by cases h)
  simp only [dF hlen, Bool.false_eq_true, if_false]
  have hlen' : 2 ≤ (isleOf b p k).Sources.length := by unfold len at hlen; omega
  refine (wp_while (step := roster_Low_L1 b t p k (isleOf b p k).Sources) (fun s => (s.1 + 1).toNat) (fun s => -1 ≤ s.1 ∧ s.1 < (isleOf b p k).Sources.length) (Q := fun r => match r with | .inl _ => True | .inr r => r.2 = true → ∃ j : Nat, r.1 = (j : Int) ∧ LowOk b p t (isleOf b p k) j) (fun s hs => ?_) ⟨by unfold len; omega, by unfold len; omega⟩ (by unfold len; unfold Sm at m2; omega)).bind fun r hr => ?_
  · obtain ⟨i, c0, c1⟩ := s
    dsimp only at hs ⊢
    unfold roster_Low_L1
    dsimp only
    by_cases hi : i < 0
    · simp only [dT hi, if_true]
      exact wp_some.2 trivial
    simp only [dF hi, Bool.false_eq_true, if_false]
    obtain ⟨q, rfl⟩ := Int.eq_ofNat_of_zero_le (show 0 ≤ i by omega)
    have hq : q < (isleOf b p k).Sources.length := by omega
    have hm := gt_mem hq
    obtain ⟨n0, n1⟩ := hin _ hm
    obtain ⟨j, hj⟩ := Int.eq_ofNat_of_zero_le n0
    have hj : gt (isleOf b p k).Sources q = (j : Int) := hj
    have hjl : j < b.Sources.length := by omega
    rw [idx_gt hq, hj]
    simp only [Option.bind_some, breaker_eq hb.1 hg.1 hjl, brkB_eq hp]
    by_cases hbk : (⟨2, (bk b j : Int)⟩ : Part) ∈ p.Broken
    · simp only [dT hbk, if_true, Option.bind_some, Sum.elim_inl]
      exact wp_some.2 ⟨⟨by dsimp only; omega, by dsimp only; omega⟩, by dsimp only; omega⟩
    simp only [dF hbk, Bool.false_eq_true, if_false, hrt, hld, Option.bind_some, idx_gt hjl]
    obtain ⟨r1, r2⟩ := rat_bd h hjl
    obtain ⟨⟨v1, v2⟩, ⟨v3, v4⟩, _⟩ := hv
    have e1 : W (rateI b (isleOf b p k) - (gt b.Sources j).Rating) = rateI b (isleOf b p k) - (gt b.Sources j).Rating := W_sm (by omega) (by omega)
    have b1 : -5000000 ≤ t.Stop * (rateI b (isleOf b p k) - (gt b.Sources j).Rating) ∧ t.Stop * (rateI b (isleOf b p k) - (gt b.Sources j).Rating) ≤ 40000000 := by
      constructor
      · have : t.Stop * (-50000) ≤ t.Stop * (rateI b (isleOf b p k) - (gt b.Sources j).Rating) := Int.mul_le_mul_of_nonneg_left (by omega) (by omega)
        omega
      · have : t.Stop * (rateI b (isleOf b p k) - (gt b.Sources j).Rating) ≤ t.Stop * 400000 := Int.mul_le_mul_of_nonneg_left (by omega) (by omega)
        omega
    have e2 : W (t.Stop * (rateI b (isleOf b p k) - (gt b.Sources j).Rating)) = t.Stop * (rateI b (isleOf b p k) - (gt b.Sources j).Rating) := W_sm (by omega) (by omega)
    have e3 : W (100 * loadI p (isleOf b p k)) = 100 * loadI p (isleOf b p k) := W_sm (by omega) (by omega)
    rw [e1, e2, e3]
    by_cases hle : 100 * loadI p (isleOf b p k) ≤ t.Stop * (rateI b (isleOf b p k) - (gt b.Sources j).Rating)
    · simp only [dT hle, if_true, Option.bind_some, Sum.elim_inr]
      refine wp_some.2 fun _ => ⟨j, rfl, hjl, by rw [← hj]; exact hm, hbk, hle⟩
    · simp only [dF hle, Bool.false_eq_true, if_false, Option.bind_some, Sum.elim_inl]
      exact wp_some.2 ⟨⟨by dsimp only; omega, by dsimp only; omega⟩, by dsimp only; omega⟩
  · cases r with
    | inl r => exact wp_some.2 (fun h => by cases h)
    | inr r => exact wp_some.2 fun h => ⟨⟨hv, hlen'⟩, hr h⟩
/-- the load is high -/
def Hi (b : Board) (p : Power) (t : Table) (x : Island) : Prop := vT t ∧ x.Sources ≠ [] ∧ t.Start * rateI b x < 100 * loadI p x
theorem high_eq (hb : SmB b) (hp : SmP p) (h : stt b p = 0) (t : Table) {k : Int} (h0 : 0 ≤ k) (h1 : k < b.Buses) : roster_High b t p k = some (decide (Hi b p t (isleOf b p k))) := by
  obtain ⟨⟨l1, l2⟩, l3, l4⟩ := isle_bd h h0 h1
  have hld : balance_Load b p k = some (loadI p (isleOf b p k)) := by rw [load_eq hb hp, ofB_in' h h0 h1]
  have hrt : balance_Rating b p k = some (rateI b (isleOf b p k)) := by rw [rating_eq hb hp, ofB_in' h h0 h1]
  unfold roster_High Hi
  by_cases hv : vT t
  case neg => simp [valid_eq, hv]
  simp only [valid_eq, dT hv, Option.bind_some, if_true, live_eq hb hp, ofB_in' h h0 h1, hld, hrt]
  obtain ⟨⟨v1, v2⟩, ⟨v3, v4⟩, _⟩ := hv
  have b1 : 0 ≤ t.Start * rateI b (isleOf b p k) ∧ t.Start * rateI b (isleOf b p k) ≤ 40000000 := by
    constructor
    · exact Int.mul_nonneg (by omega) l3
    · have : t.Start * rateI b (isleOf b p k) ≤ t.Start * 400000 := Int.mul_le_mul_of_nonneg_left l4 (by omega)
      omega
  have e2 : W (t.Start * rateI b (isleOf b p k)) = t.Start * rateI b (isleOf b p k) := W_sm (by omega) (by omega)
  have e3 : W (100 * loadI p (isleOf b p k)) = 100 * loadI p (isleOf b p k) := W_sm (by omega) (by omega)
  rw [e2, e3]
  have hv : vT t := ⟨⟨v1, v2⟩, ⟨v3, v4⟩, by assumption⟩
  by_cases hs : 0 < (isleOf b p k).Sources.length
  · have hs' : (isleOf b p k).Sources ≠ [] := List.length_pos_iff.1 hs
    simp only [dT hs, if_true, Option.bind_some]
    congr 1
    rw [decide_eq_decide]
    exact ⟨fun h => ⟨hv, hs', h⟩, fun h => h.2.2⟩
  · have hs' : (isleOf b p k).Sources = [] := List.length_eq_zero_iff.1 (by omega)
    simp [hs']
theorem since_eq (a : Int) (c : Bool) (tm : Int) : roster_since a c tm = some (if c = true then (if a = -1 then tm else a) else -1) := by
  unfold roster_since
  cases c with
  | false => rfl
  | true => by_cases h : a = -1 <;> simp [h]
noncomputable def startA (b : Board) (p : Power) (k : Int) (j : Nat) : List Act := if (gt p.Sources j).State = 0 then [⟨3, j, 0⟩] else if (gt p.Sources j).State = 2 then [⟨6, j, (connB b p (lead b p k).1).1⟩, ⟨1, bk b j, 0⟩] else []
theorem start_eq (hb : SmB b) (hp : SmP p) (h : stt b p = 0) (k : Int) {j : Nat} (hj : j < b.Sources.length) : ∃ c, roster_start b p k (j : Int) = some (c, startA b p k j) := by
  obtain ⟨⟨hl, hg⟩, ⟨s1, s2, s3⟩, _⟩ := stt_zero.1 h
  unfold roster_start startA
  simp only [idx_gt (show j < p.Sources.length by omega), Option.bind_some]
  by_cases h1 : (gt p.Sources j).State = 0
  · exact ⟨false, by simp [h1]⟩
  by_cases h2 : (gt p.Sources j).State = 2
  · refine ⟨true, ?_⟩
    have e1 : ((gt p.Sources j).State == 0) = false := by simpa using h1
    have e2 : ((gt p.Sources j).State == 2) = true := by simpa using h2
    rw [if_neg h1, if_pos h2]
    simp only [e1, e2, Bool.false_eq_true, if_false, if_true, lead_eq hb hp, connB_eq hb hp, Option.bind_some, breaker_eq hb.1 hg.1 hj]
  · refine ⟨false, ?_⟩
    have e1 : ((gt p.Sources j).State == 0) = false := by simpa using h1
    have e2 : ((gt p.Sources j).State == 2) = false := by simpa using h2
    rw [if_neg h1, if_neg h2]
    simp only [e1, e2, Bool.false_eq_true, if_false]
/-- a time since when something is so, long ago enough -/
def Due (t : Table) (old tm : Int) : Prop := ∃ v, (v = tm ∨ v = old) ∧ v ≠ -1 ∧ t.Delay ≤ tm - v
/-- what a step does -/
def Acts (b : Board) (p : Power) (t : Table) (k : Int) (r : Roster) (tm : Int) (l : List Act) : Prop := l = [] ∨
  (∃ j, NextOk b p (isleOf b p k) j ∧ Hi b p t (isleOf b p k) ∧ Due t r.High tm ∧ l = startA b p k j) ∨
  (∃ j, LowOk b p t (isleOf b p k) j ∧ 2 ≤ (isleOf b p k).Sources.length ∧ Due t r.Low tm ∧ l = [⟨2, bk b j, 0⟩, ⟨4, j, 0⟩])
theorem wpStep (hb : SmB b) (hp : SmP p) (h : stt b p = 0) {t : Table} (hv : vT t) {k : Int} (h0 : 0 ≤ k) (h1 : k < b.Buses) {tm : Int} (t0 : 0 ≤ tm) (t1 : tm ≤ 2147483648) {r : Roster} (hr : (-1 ≤ r.High ∧ r.High ≤ tm) ∧ -1 ≤ r.Low ∧ r.Low ≤ tm) :
    Wp (roster_Step b t p k tm r) fun x => x.2.2.1 = 0 ∧ Acts b p t k r tm x.2.2.2 ∧ ((isleOf b p k).Sources = [] → x = (-1, -1, 0, [])) := by
  obtain ⟨⟨hl, hg⟩, ⟨s1, s2, s3⟩, _⟩ := stt_zero.1 h
  obtain ⟨⟨hh1, hh2⟩, hh3, hh4⟩ := hr
  unfold roster_Step
  have q1 : roster_Step_1 r.High tm = some true := by unfold roster_Step_1; simp [hh1, hh2]
  have q2 : roster_Step_1 r.Low tm = some true := by unfold roster_Step_1; simp [hh3, hh4]
  simp only [state_eq hb hp, h, Option.bind_some, bne_self_eq_false, Bool.false_eq_true, if_false, valid_eq, dT hv, Bool.not_true, dF (show ¬ tm < 0 by omega), dF (show ¬ tm > 2147483648 by omega), q1, q2, dF (show ¬ k < 0 by omega), dF (show ¬ k ≥ b.Buses by omega)]
  refine (wpLow hb hp h t h0 h1).bind fun x7 h7 => ?_
  rw [high_eq hb hp h t h0 h1]
  simp only [Option.bind_some, since_eq]
  refine (wpNext hb hp h h0 h1).bind fun x11 h11 => ?_
  have dueH : ∀ {v : Int}, v = (if decide (Hi b p t (isleOf b p k)) = true then (if r.High = -1 then tm else r.High) else -1) → v ≠ -1 → W (tm - v) ≥ t.Delay → Hi b p t (isleOf b p k) ∧ Due t r.High tm := by
    intro v e hne hd
    by_cases hi : Hi b p t (isleOf b p k)
    case neg => rw [dF hi] at e; simp at e; exact (hne e).elim
    rw [dT hi, if_pos rfl] at e
    have hb : -1 ≤ v ∧ v ≤ tm := by split at e <;> omega
    rw [W_sm (by omega) (by omega)] at hd
    refine ⟨hi, v, ?_, hne, hd⟩
    split at e
    · exact .inl e
    · exact .inr e
  have hfin : Wp (Option.bind (if ((if x7.2 = true then (if r.Low = -1 then tm else r.Low) else -1) != (-1)) = true then some (decide (W (tm - (if x7.2 = true then (if r.Low = -1 then tm else r.Low) else -1)) ≥ t.Delay)) else some false) fun x13 =>
      if x13 = true then Option.bind (roster_breaker b x7.1) fun x14 => some ((if decide (Hi b p t (isleOf b p k)) = true then (if r.High = -1 then tm else r.High) else -1), (-1 : Int), (0 : Int), [Act.mk 2 x14 0, Act.mk 4 x7.1 0])
      else some ((if decide (Hi b p t (isleOf b p k)) = true then (if r.High = -1 then tm else r.High) else -1), (if x7.2 = true then (if r.Low = -1 then tm else r.Low) else -1), (0 : Int), ([] : List Act)))
      fun x => x.2.2.1 = 0 ∧ Acts b p t k r tm x.2.2.2 ∧ ((isleOf b p k).Sources = [] → x = (-1, -1, 0, [])) := by
    have hHi : (isleOf b p k).Sources = [] → ¬ Hi b p t (isleOf b p k) := fun e hh => hh.2.1 e
    cases hx : x7.2 with
    | false =>
      simp only [Bool.false_eq_true, if_false, bne_self_eq_false, Option.bind_some]
      exact wp_some.2 ⟨rfl, .inl rfl, fun e => by rw [dF (hHi e)]; rfl⟩
    | true =>
      obtain ⟨⟨_, hlen⟩, j, ej, hj⟩ := h7 hx
      have hne : (isleOf b p k).Sources = [] → False := fun e => by rw [e] at hlen; simp at hlen
      simp only [if_true]
      generalize hv' : (if r.Low = -1 then tm else r.Low) = v
      have hvb : -1 ≤ v ∧ v ≤ tm := by rw [← hv']; split <;> omega
      by_cases hv1 : v = -1
      · subst hv1
        simp only [bne_self_eq_false, Bool.false_eq_true, if_false, Option.bind_some]
        exact wp_some.2 ⟨rfl, .inl rfl, fun e => (hne e).elim⟩
      have hv2 : (v != -1) = true := by simpa using hv1
      have hW : W (tm - v) = tm - v := W_sm (by omega) (by omega)
      simp only [hv2, if_true, hW, Option.bind_some]
      by_cases hd : tm - v ≥ t.Delay
      · rw [ej]
        simp only [dT hd, if_true, breaker_eq hb.1 hg.1 hj.1, Option.bind_some]
        refine wp_some.2 ⟨rfl, .inr (.inr ⟨j, hj, hlen, ⟨v, ?_, hv1, hd⟩, rfl⟩), fun e => (hne e).elim⟩
        rw [← hv']
        split
        · exact .inl rfl
        · exact .inr rfl
      · simp only [dF hd, Bool.false_eq_true, if_false]
        exact wp_some.2 ⟨rfl, .inl rfl, fun e => (hne e).elim⟩
  cases hx : x11.2 with
  | false =>
    simp only [Bool.false_eq_true, if_false, Option.bind_some]
    exact hfin
  | true =>
    obtain ⟨j, ej, hj⟩ := h11 hx
    simp only [if_true]
    generalize hve : (if decide (Hi b p t (isleOf b p k)) = true then (if r.High = -1 then tm else r.High) else -1) = v at hfin ⊢
    by_cases hv1 : v = -1
    · subst hv1
      simp only [bne_self_eq_false, Bool.false_eq_true, if_false, Option.bind_some]
      exact hfin
    have hv2 : (v != -1) = true := by simpa using hv1
    simp only [hv2, if_true, Option.bind_some]
    by_cases hd : W (tm - v) ≥ t.Delay
    · obtain ⟨g1, g2⟩ := dueH hve.symm hv1 hd
      rw [ej]
      obtain ⟨c, hc⟩ := start_eq hb hp h k hj.1
      simp only [dT hd, if_true, hc, Option.bind_some]
      cases c <;> simp only [Bool.false_eq_true, if_false, if_true, Option.bind_some] <;> exact wp_some.2 ⟨rfl, .inr (.inl ⟨j, hj, g1, g2, rfl⟩), fun e => (g1.2.1 e).elim⟩
    · simp only [dF hd, Bool.false_eq_true, if_false]
      exact hfin
end
end Rx
end Go.Proofs.Ytkcjbcmpnoaghaa
