/- The reference's load and rating; sums of an island behind shedding. -/
import Derived.Test.YtfnphdhcgkondaaGreatH6
set_option linter.unusedVariables false
set_option linter.unusedSimpArgs false
namespace Go.Proofs.YtfnphdhcgkondaaGreat
open Go Go.RowKit Dp
namespace Rx
section
variable {b : Board} {p : Power} {L T : List Int} {x : Island}
theorem refload_eq (hb : SmB b) (hp : SmP p) (k : Int) : dynposref17_Load b p k = some (loadI p (ofB b p k).1) := by
  unfold dynposref17_Load
  rw [refof_isle hb hp]
  simp only [Option.bind_some]
  have ef : (ofR b p k).1 = (ofB b p k).2 := rfl
  have es : (ofR b p k).2.2.1 = (ofB b p k).1.Sources := rfl
  rw [ef, es]
  by_cases hs : (ofB b p k).1.Sources = []
  · have : loadI p (ofB b p k).1 = 0 := by unfold loadI; rw [if_pos hs]
    rw [this, hs]
    cases (ofB b p k).2 <;> rfl
  · have h : stt b p = 0 := by
      by_cases h : stt b p = 0
      · exact h
      · rw [ofB_zero h] at hs; exact (hs rfl).elim
    have hf : (ofB b p k).2 = true := by
      unfold ofB at hs ⊢
      split
      · rfl
      · rename_i hn
        rw [if_neg hn] at hs
        exact (hs rfl).elim
    obtain ⟨⟨hl, hg⟩, ⟨s1, s2, s3⟩, _⟩ := stt_zero.1 h
    obtain ⟨h1, h2, h3, h4⟩ := ofB_parts (p := p) hg.1 k
    have h8 := hl.con
    have hpos := List.length_pos_iff.2 hs
    have hlo : loadI p (ofB b p k).1 = sumF (gt p.Limits) (ofB b p k).1.Consumers := by unfold loadI; rw [if_neg hs]
    rw [hf, hlo, beqF (a := len (ofB b p k).1.Sources) (by unfold len; omega)]
    simp only [Bool.not_true, Bool.false_eq_true, if_false, Option.bind_some]
    have ec : (ofR b p k).2.2.2 = (ofB b p k).1.Consumers := rfl
    generalize (ofB b p k).1.Consumers = C at *
    have hlp := loop_run (step := dynposref17_Load_L1 p (ofR b p k)) (fun i => (sumF (gt p.Limits) (C.take i), (i : Int))) C.length (r := sumF (gt p.Limits) C) (fun i hi => by
      have hc := h1 _ (gt_mem hi)
      have hbd := sumF_bd (f := gt p.Limits) (l := C.take i) (B := 50000) (fun c hc => by
        have := h1 c (List.mem_of_mem_take hc)
        exact lim_bd h (by omega))
      have hlen : (C.take i).length ≤ 16 := by simp; omega
      have hcb := lim_bd h (k := (gt C i).toNat) (by omega)
      unfold dynposref17_Load_L1
      simp only [ec, lt_len hi, if_true, idx_gt hi, Option.bind_some]
      rw [idx_gtZ hc.1 (by omega), W_succ (by omega), take_gt hi, sumF_snoc]
      simp only [Option.bind_some]
      rw [W_sm (by omega) (by omega)]) (by
      unfold dynposref17_Load_L1
      simp only [ec, nlt_len, Bool.false_eq_true, if_false, List.take_length]) (by omega)
    have hlp' : loopO (dynposref17_Load_L1 p (ofR b p k)) (0, 0) = _ := hlp
    rw [hlp']
    rfl
theorem refrating_eq (hb : SmB b) (hp : SmP p) (k : Int) : dynposref17_Rating b p k = some (rateI b (ofB b p k).1) := by
  unfold dynposref17_Rating
  rw [refof_isle hb hp]
  simp only [Option.bind_some]
  have es : (ofR b p k).2.2.1 = (ofB b p k).1.Sources := rfl
  by_cases h : stt b p = 0
  case neg =>
    have : loopO (dynposref17_Rating_L1 b (ofR b p k)) (0, 0) = some 0 := loopO_of (.done (by
      unfold dynposref17_Rating_L1
      rw [es, ofB_zero h]
      rfl)) (Nat.zero_le _)
    rw [this, ofB_zero h]
    rfl
  obtain ⟨⟨hl, hg⟩, ⟨s1, s2, s3⟩, _⟩ := stt_zero.1 h
  obtain ⟨h1, h2, h3, h4⟩ := ofB_parts (p := p) hg.1 k
  have h8 := hl.src
  unfold rateI
  generalize (ofB b p k).1.Sources = C at *
  have hlp := loop_run (step := dynposref17_Rating_L1 b (ofR b p k)) (fun i => (sumF (fun k => (gt b.Sources k).Rating) (C.take i), (i : Int))) C.length (r := sumF (fun k => (gt b.Sources k).Rating) C) (fun i hi => by
    have hc := h2 _ (gt_mem hi)
    have hbd := sumF_bd (f := fun k => (gt b.Sources k).Rating) (l := C.take i) (B := 50000) (fun c hc => by
      have := h2 c (List.mem_of_mem_take hc)
      have := rat_bd h (k := c.toNat) (by omega)
      exact ⟨by omega, this.2⟩)
    have hlen : (C.take i).length ≤ 8 := by simp; omega
    have hcb := rat_bd h (k := (gt C i).toNat) (by omega)
    unfold dynposref17_Rating_L1
    simp only [es, lt_len hi, if_true, idx_gt hi, Option.bind_some]
    rw [idx_gtZ hc.1 (by omega), W_succ (by omega), take_gt hi, sumF_snoc]
    simp only [Option.bind_some]
    rw [W_sm (by omega) (by omega)]) (by
    unfold dynposref17_Rating_L1
    simp only [es, nlt_len, Bool.false_eq_true, if_false, List.take_length]) (by omega)
  have hlp' : loopO (dynposref17_Rating_L1 b (ofR b p k)) (0, 0) = _ := hlp
  rw [hlp']
  rfl
theorem rateI_nil (hs : x.Sources = []) : rateI b x = 0 := by
  unfold rateI
  rw [hs]
  rfl
theorem loadI_nil (hs : x.Sources = []) : loadI p x = 0 := by
  unfold loadI
  rw [if_pos hs]
end
end Rx
end Go.Proofs.YtfnphdhcgkondaaGreat
