/- Balance: the reference's loads and ratings, for all buses. Plain laws. -/
import Derived.Test.YtcekgnnekooohaaB2
import Derived.Test.YtcekgnnekooohaaN5
set_option linter.unusedVariables false
set_option linter.unusedSimpArgs false
namespace Go.Proofs.Ytcekgnnekooohaa
open Go Go.RowKit Dp
namespace Rx

section
variable {b : Board} {p : Power}
theorem refload_eq (hb : SmB b) (hp : SmP p) (k : Int) : dynposref17_Load b p k = some (loadI p (ofB b p k).1) := by
  by_cases h : stt b p = 0
  case neg =>
    unfold dynposref17_Load
    rw [refof_isle hb hp]
    have e2 : (ofB b p k).2 = false := by unfold ofB; rw [if_neg (fun hn => h hn.1)]
    have e : ofR b p k = (false, [], [], []) := by unfold ofR; rw [ofB_zero h, e2]
    rw [e, ofB_zero h]
    rfl
  obtain ⟨⟨hl, hg⟩, ⟨s1, s2, s3⟩, _⟩ := stt_zero.1 h
  obtain ⟨h1, h2, h3, h4⟩ := ofB_parts (p := p) hg.1 k
  have h8 := hl.con
  have hfalse : (ofB b p k).2 = false → (ofB b p k).1.Sources = [] := fun he => by
    unfold ofB at he ⊢
    split at he
    · cases he
    · rename_i hn
      rw [if_neg hn]
  unfold dynposref17_Load
  rw [refof_isle hb hp]
  simp only [Option.bind_some]
  have e1 : (ofR b p k).2.2.2 = (ofB b p k).1.Consumers := rfl
  have e2 : (ofR b p k).2.2.1 = (ofB b p k).1.Sources := rfl
  have e3 : (ofR b p k).1 = (ofB b p k).2 := rfl
  by_cases hs : (ofB b p k).1.Sources = []
  · have : (if (!(ofR b p k).1) = true then some true else some (len (ofR b p k).2.2.1 == 0)) = some true := by
      rw [e2, hs]
      split <;> rfl
    rw [this]
    simp only [Option.bind_some, if_true]
    unfold loadI
    rw [if_pos hs]
  · have ht : (ofR b p k).1 = true := by
      rw [e3]
      cases hh : (ofB b p k).2 with
      | true => rfl
      | false => exact (hs (hfalse hh)).elim
    have hlen : (len (ofR b p k).2.2.1 == 0) = false := by
      rw [e2]
      have := List.length_pos_iff.2 hs
      exact beqF (by unfold len; omega)
    rw [hlen, ht]
    simp only [Bool.not_true, Bool.false_eq_true, if_false, Option.bind_some]
    generalize hx : (ofB b p k).1 = x at *
    have hlp := loop_run (step := dynposref17_Load_L1 p (ofR b p k)) (fun i => (sumF (gt p.Limits) (x.Consumers.take i), (i : Int))) x.Consumers.length (r := loadI p x) (fun i hi => by
      obtain ⟨c0, c1⟩ := h1 _ (gt_mem hi)
      obtain ⟨c, ec⟩ := Int.eq_ofNat_of_zero_le c0
      have ec : gt x.Consumers i = (c : Int) := ec
      have hc : c < p.Limits.length := by omega
      have hbd := sumF_bd (f := gt p.Limits) (l := x.Consumers.take i) (B := 50000) (fun c hc => by
        have := h1 c (List.mem_of_mem_take hc)
        exact lim_bd h (by omega))
      have hlen : (x.Consumers.take i).length ≤ 16 := by simp; omega
      have hcb := lim_bd h (k := c) (by omega)
      simp only [dynposref17_Load_L1, e1, lt_len hi, if_true, idx_gt hi, ec, Option.bind_some, idx_gt hc, W_succ (show i < 1000000000000000000 by omega), take_gt hi, sumF_snoc, Int.toNat_natCast]
      rw [W_sm (by omega) (by omega)]) (by
      simp only [dynposref17_Load_L1, e1, nlt_len, Bool.false_eq_true, if_false, List.take_length]
      unfold loadI
      rw [if_neg hs]) (by omega)
    have hlp' : loopO (dynposref17_Load_L1 p (ofR b p k)) (0, 0) = _ := hlp
    rw [hlp']
    rfl
theorem refrating_eq (hb : SmB b) (hp : SmP p) (k : Int) : dynposref17_Rating b p k = some (rateI b (ofB b p k).1) := by
  by_cases h : stt b p = 0
  case neg =>
    unfold dynposref17_Rating
    rw [refof_isle hb hp]
    have e : ofR b p k = ((ofB b p k).2, [], [], []) := by unfold ofR; rw [ofB_zero h]
    rw [e, ofB_zero h]
    rfl
  obtain ⟨⟨hl, hg⟩, ⟨s1, s2, s3⟩, _⟩ := stt_zero.1 h
  obtain ⟨h1, h2, h3, h4⟩ := ofB_parts (p := p) hg.1 k
  have h8 := hl.src
  generalize hx : (ofB b p k).1 = x at *
  have e2 : (ofR b p k).2.2.1 = x.Sources := by rw [← hx]; rfl
  have hlp := loop_run (step := dynposref17_Rating_L1 b (ofR b p k)) (fun i => (sumF (fun k => (gt b.Sources k).Rating) (x.Sources.take i), (i : Int))) x.Sources.length (r := rateI b x) (fun i hi => by
    obtain ⟨c0, c1⟩ := h2 _ (gt_mem hi)
    obtain ⟨c, ec⟩ := Int.eq_ofNat_of_zero_le c0
    have ec : gt x.Sources i = (c : Int) := ec
    have hc : c < b.Sources.length := by omega
    have hbd := sumF_bd (f := fun k => (gt b.Sources k).Rating) (l := x.Sources.take i) (B := 50000) (fun c hc => by
      have := h2 c (List.mem_of_mem_take hc)
      have := rat_bd h (k := c.toNat) (by omega)
      exact ⟨by omega, this.2⟩)
    have hlen : (x.Sources.take i).length ≤ 8 := by simp; omega
    have hcb := rat_bd h (k := c) (by omega)
    simp only [dynposref17_Rating_L1, e2, lt_len hi, if_true, idx_gt hi, ec, Option.bind_some, idx_gt hc, W_succ (show i < 1000000000000000000 by omega), take_gt hi, sumF_snoc, Int.toNat_natCast]
    rw [W_sm (by omega) (by omega)]) (by
    simp only [dynposref17_Rating_L1, e2, nlt_len, Bool.false_eq_true, if_false, List.take_length]
    rfl)
  unfold dynposref17_Rating
  have hlp' : loopO (dynposref17_Rating_L1 b (ofR b p k)) (0, 0) = _ := hlp
  simp only [refof_isle hb hp, Option.bind_some, hlp']
end
end Rx
end Go.Proofs.Ytcekgnnekooohaa
