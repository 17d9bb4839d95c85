/- Roster: a step, the program's and the reference's. Plain laws. -/
import Derived.Test.YtcekgnnekooohaaY6
set_option linter.unusedVariables false
set_option linter.unusedSimpArgs false
namespace Go.Proofs.Ytcekgnnekooohaa
open Go Go.RowKit Dp
namespace Rx
open Classical

section
variable {b : Board} {p : Power}
theorem startS (hb : SmB b) (hp : SmP p) (h : stt b p = 0) (k : Int) {j : Nat} (hj : j < b.Sources.length) : roster_start b p k (j : Int) = some (decide ((gt p.Sources j).State = 2), startA b p k j) := by
  obtain ⟨⟨hl, hg⟩, ⟨s1, s2, s3⟩, _⟩ := stt_zero.1 h
  unfold roster_start startA
  simp only [idx_gt (show j < p.Sources.length by omega), Option.bind_some]
  by_cases h1 : (gt p.Sources j).State = 0
  · simp [h1]
  by_cases h2 : (gt p.Sources j).State = 2
  · rw [if_neg h1, if_pos h2]
    simp only [beqF h1, beqT h2, dT h2, Bool.false_eq_true, if_false, if_true, lead_eq hb hp, connB_eq hb hp, Option.bind_some, breaker_eq hb.1 hg.1 hj]
  · rw [if_neg h1, if_neg h2]
    simp only [beqF h1, beqF h2, dF h2, Bool.false_eq_true, if_false]
theorem refstart (hb : SmB b) (hp : SmP p) (h : stt b p = 0) (k : Int) {j : Nat} (hj : j < b.Sources.length) (vH vL : Int) :
    (Option.bind (idx p.Sources (j : Int)) fun x14 : Running =>
      if (x14.State == 0) = true then some (vH, vL, (0 : Int), [Act.mk 3 (j : Int) 0])
      else if (x14.State == 2) = true then
        Option.bind (dynposref16_Leader b p k) fun x15 =>
          Option.bind (dynposref15_Connected b p x15.1) fun x16 =>
            Option.bind (dynposref15_Find b 2 (j : Int)) fun x17 =>
              Option.bind (idx x17 0) fun x18 => some (-1, vL, (0 : Int), [Act.mk 6 (j : Int) x16.1, Act.mk 1 x18 0])
      else some (vH, vL, (0 : Int), [])) = some ((if (gt p.Sources j).State = 2 then -1 else vH), vL, 0, startA b p k j) := by
  obtain ⟨⟨hl, hg⟩, ⟨s1, s2, s3⟩, _⟩ := stt_zero.1 h
  have hck : chk b = 0 := chk_zero.2 ⟨hl, hg⟩
  unfold startA
  simp only [idx_gt (show j < p.Sources.length by omega), Option.bind_some]
  by_cases h1 : (gt p.Sources j).State = 0
  · simp [h1]
  by_cases h2 : (gt p.Sources j).State = 2
  · rw [if_neg h1, if_pos h2, if_pos h2]
    simp only [beqF h1, beqT h2, Bool.false_eq_true, if_false, if_true, reflead_eqX hb hp, refconn_eq hb hp, Option.bind_some, refFind_eq hb hck hj, show ∀ n : Int, idx [n] 0 = some n from fun _ => rfl]
  · rw [if_neg h1, if_neg h2, if_neg h2]
    simp only [beqF h1, beqF h2, Bool.false_eq_true, if_false]
def snc (c : Bool) (a tm : Int) : Int := if c = true then (if a = -1 then tm else a) else -1
theorem snc_eq (a : Int) (c : Bool) (tm : Int) : roster_since a c tm = some (snc c a tm) := since_eq a c tm
theorem refsnc_eq {a : Int} (ha : -1 ≤ a) (c : Bool) (tm : Int) : dynposref19_since c a tm = some (snc c a tm) := by
  unfold dynposref19_since snc
  cases c with
  | false => rfl
  | true =>
    by_cases h : a = -1
    · subst h; rfl
    · have : a ≥ 0 := by omega
      simp [h, this]
theorem snc_bd {a tm : Int} (ha : -1 ≤ a) (ht : 0 ≤ tm) (c : Bool) : -1 ≤ snc c a tm := by
  unfold snc
  split
  · split <;> omega
  · omega
theorem startA_len (b : Board) (p : Power) (k : Int) (j : Nat) : (startA b p k j).length ≤ 2 := by
  unfold startA
  split
  · simp
  · split <;> simp
theorem step_same (hb : SmB b) (hp : SmP p) (t : Table) (k tm : Int) (r : Roster) : ∃ v, roster_Step b t p k tm r = some v ∧ dynposref19_Step b t p k tm r = some v ∧ v.2.2.2.length ≤ 2 := by
  by_cases h : stt b p = 0
  case neg => exact ⟨(0, 0, stt b p, []), by unfold roster_Step; simp only [state_eq hb hp, Option.bind_some, bneT h, if_true], by unfold dynposref19_Step; simp only [refstate_eq hb hp, Option.bind_some, bneT h, if_true], by simp⟩
  have hchk : ∀ (hbad : ¬ (vT t ∧ 0 ≤ tm ∧ tm ≤ 2147483648 ∧ (-1 ≤ r.High ∧ r.High ≤ tm) ∧ -1 ≤ r.Low ∧ r.Low ≤ tm)), ∃ v, roster_Step b t p k tm r = some v ∧ dynposref19_Step b t p k tm r = some v ∧ v.2.2.2.length ≤ 2 := fun hbad => by
    refine ⟨(0, 0, 1, []), ?_, ?_, by simp⟩
    · unfold roster_Step roster_Step_1
      simp only [state_eq hb hp, h, Option.bind_some, bne_self_eq_false, Bool.false_eq_true, if_false, valid_eq]
      by_cases g1 : vT t
      case neg => simp only [dF g1, Bool.not_false, if_true, Option.bind_some]
      by_cases g2 : tm < 0
      · simp only [dT g1, dT g2, Bool.not_true, Bool.false_eq_true, if_false, if_true, Option.bind_some]
      by_cases g3 : tm > 2147483648
      · simp only [dT g1, dF g2, dT g3, Bool.not_true, Bool.false_eq_true, if_false, if_true, Option.bind_some]
      by_cases g4 : r.High ≥ -1
      case neg => simp only [dT g1, dF g2, dF g3, dF g4, Bool.not_true, Bool.not_false, Bool.false_eq_true, if_false, if_true, Option.bind_some]
      by_cases g5 : r.High ≤ tm
      case neg => simp only [dT g1, dF g2, dF g3, dT g4, dF g5, Bool.not_true, Bool.not_false, Bool.false_eq_true, if_false, if_true, Option.bind_some]
      by_cases g6 : r.Low ≥ -1
      case neg => simp only [dT g1, dF g2, dF g3, dT g4, dT g5, dF g6, Bool.not_true, Bool.not_false, Bool.false_eq_true, if_false, if_true, Option.bind_some]
      by_cases g7 : r.Low ≤ tm
      case neg => simp only [dT g1, dF g2, dF g3, dT g4, dT g5, dT g6, dF g7, Bool.not_true, Bool.not_false, Bool.false_eq_true, if_false, if_true, Option.bind_some]
      exact (hbad ⟨g1, by omega, by omega, ⟨g4, g5⟩, g6, g7⟩).elim
    · unfold dynposref19_Step
      simp only [refstate_eq hb hp, h, Option.bind_some, bne_self_eq_false, Bool.false_eq_true, if_false, refvalid_eq]
      by_cases g1 : vT t
      case neg => simp only [dF g1, Bool.not_false, if_true, Option.bind_some]
      by_cases g2 : tm < 0
      · simp only [dT g1, dT g2, Bool.not_true, Bool.false_eq_true, if_false, if_true, Option.bind_some]
      by_cases g3 : tm > 2147483648
      · simp only [dT g1, dF g2, dT g3, Bool.not_true, Bool.false_eq_true, if_false, if_true, Option.bind_some]
      by_cases g4 : r.High < -1
      · simp only [dT g1, dF g2, dF g3, dT g4, Bool.not_true, Bool.not_false, Bool.false_eq_true, if_false, if_true, Option.bind_some]
      by_cases g5 : r.High > tm
      · simp only [dT g1, dF g2, dF g3, dF g4, dT g5, Bool.not_true, Bool.not_false, Bool.false_eq_true, if_false, if_true, Option.bind_some]
      by_cases g6 : r.Low < -1
      · simp only [dT g1, dF g2, dF g3, dF g4, dF g5, dT g6, Bool.not_true, Bool.not_false, Bool.false_eq_true, if_false, if_true, Option.bind_some]
      by_cases g7 : r.Low > tm
      · simp only [dT g1, dF g2, dF g3, dF g4, dF g5, dF g6, dT g7, Bool.not_true, Bool.not_false, Bool.false_eq_true, if_false, if_true, Option.bind_some]
      exact (hbad ⟨g1, by omega, by omega, ⟨by omega, by omega⟩, by omega, by omega⟩).elim
  by_cases hok : vT t ∧ 0 ≤ tm ∧ tm ≤ 2147483648 ∧ (-1 ≤ r.High ∧ r.High ≤ tm) ∧ -1 ≤ r.Low ∧ r.Low ≤ tm
  case neg => exact hchk hok
  clear hchk
  obtain ⟨hv, t0, t1, ⟨hh1, hh2⟩, hh3, hh4⟩ := hok
  have q1 : roster_Step_1 r.High tm = some true := by unfold roster_Step_1; simp [hh1, hh2]
  have q2 : roster_Step_1 r.Low tm = some true := by unfold roster_Step_1; simp [hh3, hh4]
  unfold roster_Step dynposref19_Step
  simp only [state_eq hb hp, refstate_eq hb hp, h, Option.bind_some, bne_self_eq_false, Bool.false_eq_true, if_false, valid_eq, refvalid_eq, dT hv, Bool.not_true, dF (show ¬ tm < 0 by omega), dF (show ¬ tm > 2147483648 by omega), q1, q2, dF (show ¬ r.High < -1 by omega), dF (show ¬ r.High > tm by omega), dF (show ¬ r.Low < -1 by omega), dF (show ¬ r.Low > tm by omega)]
  by_cases k0 : k < 0
  · exact ⟨(0, 0, 10, []), by simp only [dT k0, if_true, Option.bind_some], by simp only [dT k0, if_true, Option.bind_some], by simp⟩
  by_cases k1 : k ≥ b.Buses
  · exact ⟨(0, 0, 10, []), by simp only [dF k0, dT k1, Bool.false_eq_true, if_false, if_true, Option.bind_some], by simp only [dF k0, dT k1, Bool.false_eq_true, if_false, if_true, Option.bind_some], by simp⟩
  obtain ⟨H, hH1, hH2⟩ := high_same hb hp t k
  simp only [dF k0, dF k1, Bool.false_eq_true, if_false, Option.bind_some, low_eq hb hp, reflow_eq hb hp, hH1, hH2, snc_eq, refsnc_eq hh1, refsnc_eq hh3, next_eq hb hp, refnext_eq hb hp]
  obtain ⟨⟨hl, hg⟩, ⟨s1, s2, s3⟩, _⟩ := stt_zero.1 h
  have hck : chk b = 0 := chk_zero.2 ⟨hl, hg⟩
  have hLi := lowV_in (b := b) (p := p) (t := t) (x := (ofB b p k).1)
  have hNi := nxtV_in (b := b) (p := p) (o := ofB b p k)
  have hpa := (ofB_parts (p := p) hg.1 k).2.1
  generalize lowV b p t (ofB b p k).1 = L at *
  generalize nxtV b p (ofB b p k) = N at *
  have bH := snc_bd hh1 t0 H
  have bL := snc_bd hh3 t0 L.2
  have hL2 : snc L.2 r.Low tm ≠ -1 → L.2 = true := fun hn => by
    cases hc : L.2 with
    | true => rfl
    | false => rw [hc] at hn; exact (hn rfl).elim
  generalize snc H r.High tm = vH at *
  generalize snc L.2 r.Low tm = vL at *
  have c1 : (if N.2 = true then (if (vH != -1) = true then some (decide (W (tm - vH) ≥ t.Delay)) else some false) else some false) = some (dB (N.2 = true ∧ vH ≠ -1 ∧ W (tm - vH) ≥ t.Delay)) := by
    by_cases a1 : N.2 = true
    case neg => rw [if_neg a1, dB_F fun hn => a1 hn.1]
    by_cases a2 : vH = -1
    · rw [if_pos a1, bneF a2, dB_F fun hn => hn.2.1 a2]; rfl
    rw [if_pos a1, bneT a2, if_pos rfl]
    congr 1
    refine dB_eq ?_
    rw [decide_eq_true_eq]
    exact ⟨fun hh => ⟨a1, a2, hh⟩, fun hh => hh.2.2⟩
  have c2 : (if decide (vH ≥ 0) = true then (if decide (W (tm - vH) ≥ t.Delay) = true then some N.2 else some false) else some false) = some (dB (N.2 = true ∧ vH ≠ -1 ∧ W (tm - vH) ≥ t.Delay)) := by
    by_cases a2 : vH ≥ 0
    case neg => rw [dF a2, dB_F fun hn => hn.2.1 (by omega)]; rfl
    by_cases a3 : W (tm - vH) ≥ t.Delay
    case neg => rw [dT a2, dF a3, dB_F fun hn => a3 hn.2.2]; rfl
    rw [dT a2, dT a3, if_pos rfl, if_pos rfl]
    congr 1
    refine dB_eq ?_
    exact ⟨fun hh => ⟨hh, by omega, a3⟩, fun hh => hh.1⟩
  have d1 : (if (vL != -1) = true then some (decide (W (tm - vL) ≥ t.Delay)) else some false) = some (dB (vL ≠ -1 ∧ W (tm - vL) ≥ t.Delay)) := by
    by_cases a2 : vL = -1
    · rw [bneF a2, dB_F fun hn => hn.1 a2]; rfl
    rw [bneT a2, if_pos rfl]
    congr 1
    refine dB_eq ?_
    rw [decide_eq_true_eq]
    exact ⟨fun hh => ⟨a2, hh⟩, fun hh => hh.2⟩
  have d2 : (if decide (vL ≥ 0) = true then some (decide (W (tm - vL) ≥ t.Delay)) else some false) = some (dB (vL ≠ -1 ∧ W (tm - vL) ≥ t.Delay)) := by
    by_cases a2 : vL ≥ 0
    case neg => rw [dF a2, dB_F fun hn => hn.1 (by omega)]; rfl
    rw [dT a2, if_pos rfl]
    congr 1
    refine dB_eq ?_
    rw [decide_eq_true_eq]
    exact ⟨fun hh => ⟨by omega, hh⟩, fun hh => hh.2⟩
  rw [c1, c2, d1, d2]
  simp only [Option.bind_some]
  by_cases hC : N.2 = true ∧ vH ≠ -1 ∧ W (tm - vH) ≥ t.Delay
  · obtain ⟨_, j, ej, hj⟩ := hNi hC.1
    have hjl : j < b.Sources.length := by omega
    rw [dB_T hC, if_pos rfl, if_pos rfl, ej]
    refine ⟨_, ?_, refstart hb hp h k hjl vH vL, startA_len _ _ _ _⟩
    rw [startS hb hp h k hjl]
    simp only [Option.bind_some]
    by_cases h2 : (gt p.Sources j).State = 2
    · rw [dT h2, if_pos h2]; rfl
    · rw [dF h2, if_neg h2]; rfl
  rw [dB_F hC]
  simp only [Bool.false_eq_true, if_false]
  by_cases hD : vL ≠ -1 ∧ W (tm - vL) ≥ t.Delay
  · obtain ⟨n0, n1⟩ := hpa _ (hLi (hL2 hD.1))
    obtain ⟨j, ej⟩ := Int.eq_ofNat_of_zero_le n0
    have ej : L.1 = (j : Int) := ej
    have hjl : j < b.Sources.length := by omega
    rw [dB_T hD, ej]
    simp only [if_true, breaker_eq hb.1 hg.1 hjl, refFind_eq hb hck hjl, Option.bind_some, show ∀ n : Int, idx [n] 0 = some n from fun _ => rfl]
    exact ⟨_, rfl, rfl, by simp⟩
  · rw [dB_F hD]
    simp only [Bool.false_eq_true, if_false]
    exact ⟨_, rfl, rfl, by simp⟩
end
theorem acts_self (l : List Act) (hl : l.length ≤ 2) : dynposref18_Acts l l = some true := by
  have h := loop_run (step := dynposref18_Acts_L1 l l) (r := .inl ()) (fun k => (k : Int)) l.length (fun k hk => by
    simp only [dynposref18_Acts_L1, lt_len hk, if_true, idx_gt hk, Option.bind_some, beq_self_eq_true, Bool.and_self, Bool.not_true, Bool.false_eq_true, if_false]
    rw [W_succ (by omega)]) (by simp only [dynposref18_Acts_L1, nlt_len, Bool.false_eq_true, if_false])
  have h' : loopO (dynposref18_Acts_L1 l l) 0 = _ := h
  unfold dynposref18_Acts
  rw [h']
  simp
end Rx
end Go.Proofs.Ytcekgnnekooohaa
