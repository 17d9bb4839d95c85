/- FaultsNormal: a normal script is valid, a valid one is normal, and faults in the order of their times lead to what is broken. Plain law. -/
import Derived.Test.YtmjcndmphjdjgaaLawFaultsMerge
set_option linter.unusedVariables false
set_option linter.unusedSimpArgs false
namespace Go.Proofs.Ytmjcndmphjdjgaa
open Go Go.RowKit Dp
namespace Rx

theorem reverse_eq {l : List Fault} (hl : l.length ≤ 1000) : slices_Reverse_Fault_Fault l = some l.reverse := by
  have hloop : Wp (loopO slices_Reverse_Fault_Fault_L1 (0, W (len l - 1), l)) fun r => r = l.reverse := by
    have e0 : W (len l - 1) = len l - 1 := W_sm (by unfold len; omega) (by unfold len; omega)
    rw [e0]
    refine wp_while (fun s => (s.2.1 + 1).toNat) (fun s => ∃ i : Nat, 2 * i ≤ l.length + 1 ∧ s.1 = (i : Int) ∧ s.2.1 = len l - 1 - i ∧ s.2.2.length = l.length ∧ ∀ q, q < l.length → gt s.2.2 q = if q < i ∨ l.length - i ≤ q then gt l (l.length - 1 - q) else gt l q) (fun s hs => ?_) ⟨0, by omega, rfl, by simp only; omega, rfl, fun q hq => by rw [if_neg (by omega)]⟩ (by simp only [len]; omega)
    obtain ⟨x, y, d⟩ := s
    obtain ⟨i, i1, i2, i3, i4, i5⟩ := hs
    simp only at i2 i3 i4 i5
    subst i2
    unfold slices_Reverse_Fault_Fault_L1
    simp only
    by_cases hlt : 2 * i + 1 < l.length
    · have hy : y = ((l.length - 1 - i : Nat) : Int) := by rw [i3]; unfold len; omega
      subst hy
      rw [dT (c := (i : Int) < ((l.length - 1 - i : Nat) : Int)) (by omega)]
      simp only [if_true, idx_gt (show l.length - 1 - i < d.length by omega), idx_gt (show i < d.length by omega), Option.bind_some]
      rw [setO_nat (show i < d.length by omega)]
      simp only [Option.bind_some]
      rw [idx_gt (show l.length - 1 - i < (d.set i (gt d (l.length - 1 - i))).length by simp; omega)]
      simp only [Option.bind_some]
      rw [setO_nat (by simp; omega)]
      simp only [Option.bind_some]
      rw [W_succ (by omega), W_pred (k := l.length - 1 - i) (by omega) (by omega)]
      refine wp_some.2 ⟨⟨i + 1, by omega, rfl, by simp only [len]; omega, by simp [i4], fun q hq => ?_⟩, by simp only; omega⟩
      simp only
      rw [gt_set (by simp; omega), gt_set (by omega)]
      by_cases h1 : q = l.length - 1 - i
      · rw [if_pos h1, if_pos (by omega), i5 i (by omega), if_neg (by omega)]
        congr 1
        omega
      · rw [if_neg h1]
        by_cases h2 : q = i
        · rw [if_pos h2, if_pos (by omega), i5 _ (by omega), if_neg (by omega)]
          congr 1
          omega
        · rw [if_neg h2, i5 q hq]
          by_cases h3 : q < i ∨ l.length - i ≤ q
          · rw [if_pos h3, if_pos (by omega)]
          · rw [if_neg h3, if_neg (by omega)]
    · rw [dF (c := (i : Int) < y) (by rw [i3]; unfold len; omega)]
      simp only [Bool.false_eq_true, if_false]
      refine wp_some.2 (ext_gt (by simp [i4]) fun q hq => ?_)
      rw [i4] at hq
      have er : gt l.reverse q = gt l (l.length - 1 - q) := by rw [gt_get (by simpa using hq), gt_get (by omega), List.getElem_reverse]
      rw [er, i5 q hq]
      split
      · rfl
      · congr 1
        omega
  obtain ⟨r, hr, rfl⟩ := hloop
  unfold slices_Reverse_Fault_Fault
  rw [hr]
  rfl
theorem Normal_eq {x : List Fault} (hx : x.length < 20) (hv : ∀ f ∈ x, VF f) : ∃ C, Col fk x.reverse C ∧ C.length ≤ x.length ∧ faults_Normal x = some (0, trn C) := by
  have hC := col_srt (key := fk) x.reverse
  have hv' : ∀ f ∈ x.reverse, VF f := fun f hf => hv f (List.mem_reverse.1 hf)
  have hcl := hC.len
  rw [List.length_reverse] at hcl
  refine ⟨_, hC, hcl, ?_⟩
  unfold faults_Normal slices_Clone_Fault_Fault
  rw [wrong_F (by omega) hv]
  simp only [Option.bind_some, Bool.false_eq_true, if_false]
  rw [dF (c := len x > 60) (by unfold len; omega), app_sm (by simp; omega)]
  simp only [Bool.false_eq_true, if_false, List.nil_append, Option.bind_some]
  rw [reverse_eq (by omega)]
  simp only [Option.bind_some]
  rw [collect1_eq (by simp; omega) hv']
  simp only [Option.bind_some]
  rw [turns_eq (by omega) fun f hf => hv' f (hC.sub f hf)]
  simp only [Option.bind_some]
  have := (trn_sub (dd fk (srt fk x.reverse))).length_le
  rw [dF (by unfold len; omega)]
  rfl
instance decPart : DecidableEq Part := fun a b => if h : eqP a b = true then .isTrue (eqP_iff.1 h) else .isFalse fun e => h (eqP_iff.2 e)
/-- the look at all faults of a time -/
def inn (x : List Fault) (k : Int) (p : Part) (v : Bool) : Bool := x.foldl (fun v y => if y.Time = k ∧ y.Part = p then (y.Kind == 1) else v) v
theorem inn_head {x : List Fault} (hv : ∀ f ∈ x, VF f) {p : Part} (hp : VP p) (k : Int) (v : Bool) : inn x k p v = match (x.reverse.filter fun z => decide (fk z = k * 1024 + pk p)).head? with | some y => (y.Kind == 1) | none => v := by
  induction x using snoc_ind with
  | h0 => rfl
  | h1 l y ih =>
    have ih := ih fun f hf => hv f (List.mem_append_left _ hf)
    have hy := (hv y (by simp)).p
    have e : inn (l ++ [y]) k p v = if y.Time = k ∧ y.Part = p then (y.Kind == 1) else inn l k p v := by
      unfold inn
      rw [List.foldl_append]
      rfl
    rw [e, List.reverse_append, List.reverse_singleton, List.singleton_append, List.filter_cons]
    have hiff : fk y = k * 1024 + pk p ↔ y.Time = k ∧ y.Part = p := by
      constructor
      · intro h
        exact fk_inj (g := ⟨k, 0, p⟩) hy hp h
      · rintro ⟨h1, h2⟩
        unfold fk
        rw [h1, h2]
    by_cases h : y.Time = k ∧ y.Part = p
    · rw [if_pos h, dT (hiff.2 h), if_pos rfl]
      rfl
    · rw [if_neg h, dF fun e => h (hiff.1 e), if_neg (by simp)]
      exact ih
theorem inn_step {x C : List Fault} (hv : ∀ f ∈ x, VF f) (hC : Col fk x.reverse C) {p : Part} (hp : VP p) (k : Int) : inn x k p (dB (lst (Up C (k - 1)) p = 1)) = dB (lst (Up C k) p = 1) := by
  have hv' : ∀ f ∈ x.reverse, VF f := fun f hf => hv f (List.mem_reverse.1 hf)
  have vC := col_vs hC hv'
  rw [inn_head hv hp]
  by_cases hex : ∃ f ∈ C, f.Time = k ∧ f.Part = p
  · obtain ⟨f, hf, h1, h2⟩ := hex
    have hh := hC.head f hf
    rw [show fk f = k * 1024 + pk p from by unfold fk; rw [h1, h2]] at hh
    rw [hh]
    have := lst_at vC hf
    rw [h1, h2] at this
    rw [this]
    refine dB_eq ?_
    simp
  · have hn : x.reverse.filter (fun z => decide (fk z = k * 1024 + pk p)) = [] := List.filter_eq_nil_iff.2 fun z hz he => by
      have he := of_decide_eq_true he
      obtain ⟨y, hy, e⟩ := hC.all z hz
      have := fk_inj (f := y) (g := ⟨k, 0, p⟩) (vC.vf y hy).p hp (by rw [e, he]; rfl)
      exact hex ⟨y, hy, this⟩
    rw [hn]
    simp only [List.head?_nil]
    refine dB_congr ?_
    rw [Up_congr (m := C) (u := k) fun g hg hgp => ?_]
    have : g.Time ≠ k := fun e => hex ⟨g, hg, e, hgp⟩
    omega
theorem law_FaultsNormal (t : List Int) : dynposlaw34_FaultsNormal t = some true := by
  refine Wp.true' ?_
  unfold dynposlaw34_FaultsNormal
  simp only [sane_T, Option.bind_some]
  refine Wp.ite (fun _ => wp_some.2 rfl) fun _ => ?_
  refine (wpNew t).bind fun s hs => ?_
  obtain ⟨l0, a0⟩ := s
  refine (wpAny hs (c := 12) (by omega) (by omega)).bind fun x2 h2 => ?_
  obtain ⟨l1, a1, x⟩ := x2
  simp only at h2 ⊢
  obtain ⟨_, lx, hx⟩ := h2
  have hv : ∀ f ∈ x, VF f := fun f hf => (hx f hf).1
  obtain ⟨C, hC, lC, e1⟩ := Normal_eq (by omega) hv
  have vC := col_vs hC fun f hf => hv f (List.mem_reverse.1 hf)
  have vt := trn_vl vC
  have lt := (trn_sub C).length_le
  have ec := check_ok vt (by omega)
  obtain ⟨C2, hC2, lC2, e2⟩ := Normal_eq (x := trn C) (by omega) vt.vf
  have hcs : C2 = trn C := asc_ext hC2.asc vt.asc fun f => by
    rw [hC2.mem fun f hf g hg he => vt.asc.inj (List.mem_reverse.1 hf) (List.mem_reverse.1 hg) he, List.mem_reverse]
  rw [hcs, vt.trn] at e2
  simp only [e1, e2, ec, Option.bind_some, bne_self_eq_false, Bool.false_eq_true, if_false, same34_T (l := trn C) (by omega), Bool.not_true]
  obtain ⟨ps, hps, pp⟩ := Parts_eq vt (by omega)
  have hpl : ps.length ≤ 1000 := by
    have := pp.len (l := (trn C).map Fault.Part) fun p ⟨f, hf, e⟩ => List.mem_map.2 ⟨f, hf, e⟩
    simp at this
    omega
  have hloop := loop_run (step := dynposlaw34_FaultsNormal_L1 (l1, a1, x) (0, trn C)) (r := .inl ()) (fun k => (k : Int)) 9 (fun k hk => by
    obtain ⟨d, hd, pd⟩ := Active_eq vt (by omega) (k : Int)
    have hdl := act_len pd
    have hin := loop_run (step := dynposlaw34_FaultsNormal_L2 (l1, a1, x) (0, trn C) (k : Int) ps) (r := .inl ()) (fun i => (i : Int)) ps.length (fun i hi => by
      have hp := pp.vp _ (gt_mem hi)
      have h3 : loopO (dynposlaw34_FaultsNormal_L3 (l1, a1, x) (k : Int) (gt ps i)) (false, 0) = some (dB (lst (Up C (k : Int)) (gt ps i) = 1)) := by
        have e := loop_run (step := dynposlaw34_FaultsNormal_L3 (l1, a1, x) (k : Int) (gt ps i)) (r := dB (lst (Up C (k : Int)) (gt ps i) = 1)) (fun j => (dB (lst (Up C ((j : Int) - 1)) (gt ps i) = 1), (j : Int))) (k + 1) (fun j hj => by
          have h4 := loop_run (step := dynposlaw34_FaultsNormal_L4 (l1, a1, x) (gt ps i) (dB (lst (Up C ((j : Int) - 1)) (gt ps i) = 1), (j : Int))) (r := inn x (j : Int) (gt ps i) (dB (lst (Up C ((j : Int) - 1)) (gt ps i) = 1))) (fun q => (inn (x.take q) (j : Int) (gt ps i) (dB (lst (Up C ((j : Int) - 1)) (gt ps i) = 1)), (q : Int))) x.length (fun q hq => by
            have es : inn (x.take (q + 1)) (j : Int) (gt ps i) (dB (lst (Up C ((j : Int) - 1)) (gt ps i) = 1)) = if (gt x q).Time = (j : Int) ∧ (gt x q).Part = gt ps i then ((gt x q).Kind == 1) else inn (x.take q) (j : Int) (gt ps i) (dB (lst (Up C ((j : Int) - 1)) (gt ps i) = 1)) := by
              rw [take_gt hq]
              unfold inn
              rw [List.foldl_append]
              rfl
            unfold dynposlaw34_FaultsNormal_L4
            simp only [lt_len hq, if_true, idx_gt hq, Option.bind_some]
            rw [show ((gt x q).Part.Kind == (gt ps i).Kind && (gt x q).Part.Number == (gt ps i).Number) = eqP (gt x q).Part (gt ps i) from rfl, es]
            by_cases ht : (gt x q).Time = (j : Int)
            · rw [beqT ht]
              simp only [if_true, Option.bind_some]
              by_cases hp : (gt x q).Part = gt ps i
              · rw [eqP_iff.2 hp, if_pos (c := (gt x q).Time = (j : Int) ∧ (gt x q).Part = gt ps i) ⟨ht, hp⟩]
                simp only [if_true, Option.bind_some]
                rw [W_succ (by omega)]
              · rw [eqP_F hp, if_neg (c := (gt x q).Time = (j : Int) ∧ (gt x q).Part = gt ps i) fun h => hp h.2]
                simp only [Bool.false_eq_true, if_false, Option.bind_some]
                rw [W_succ (by omega)]
            · rw [beqF ht, if_neg (c := (gt x q).Time = (j : Int) ∧ (gt x q).Part = gt ps i) fun h => ht h.1]
              simp only [Bool.false_eq_true, if_false, Option.bind_some]
              rw [W_succ (by omega)]) (by
            unfold dynposlaw34_FaultsNormal_L4
            simp only [nlt_len, Bool.false_eq_true, if_false, List.take_length]) (by omega)
          rw [inn_step hv hC hp] at h4
          have h4' : loopO (dynposlaw34_FaultsNormal_L4 (l1, a1, x) (gt ps i) (dB (lst (Up C ((j : Int) - 1)) (gt ps i) = 1), (j : Int))) (dB (lst (Up C ((j : Int) - 1)) (gt ps i) = 1), 0) = some (dB (lst (Up C (j : Int)) (gt ps i) = 1)) := h4
          unfold dynposlaw34_FaultsNormal_L3
          simp only [dT (c := (j : Int) ≤ (k : Int)) (by omega), if_true, h4', Option.bind_some]
          rw [W_succ (by omega), show (((j + 1 : Nat) : Int) - 1) = (j : Int) by omega]) (by
          unfold dynposlaw34_FaultsNormal_L3
          simp only [dF (c := (((k + 1 : Nat) : Int)) ≤ (k : Int)) (by omega), Bool.false_eq_true, if_false]
          rw [show (((k + 1 : Nat) : Int) - 1) = (k : Int) by omega]) (by omega)
        have e0 : dB (lst (Up C (((0 : Nat) : Int) - 1)) (gt ps i) = 1) = false := by
          rw [Up_none (l := C) fun f hf => by have := (vC.vf f hf).t0; omega]
          exact dB_F (by simp [lst_nil])
        have e2 : loopO (dynposlaw34_FaultsNormal_L3 (l1, a1, x) (k : Int) (gt ps i)) (dB (lst (Up C (((0 : Nat) : Int) - 1)) (gt ps i) = 1), 0) = some (dB (lst (Up C (k : Int)) (gt ps i) = 1)) := e
        rw [e0] at e2
        exact e2
      unfold dynposlaw34_FaultsNormal_L2
      simp only [lt_len hi, if_true, idx_gt hi, Option.bind_some, h3, hd, rhas_eq (l := d) (by omega)]
      rw [show dB (gt ps i ∈ d) = dB (lst (Up C (k : Int)) (gt ps i) = 1) from dB_congr (by rw [pd.mem, trn_br vC])]
      simp only [beq_self_eq_true, Bool.not_true, Bool.false_eq_true, if_false]
      rw [W_succ (by omega)]) (by
      unfold dynposlaw34_FaultsNormal_L2
      simp only [nlt_len, Bool.false_eq_true, if_false]) (by omega)
    simp only [show ((0 : Nat) : Int) = 0 from rfl] at hin
    unfold dynposlaw34_FaultsNormal_L1
    simp only [dT (c := (k : Int) < 9) (by omega), if_true, hps, hin, Option.bind_some, Sum.elim_inl]
    rw [W_succ (by omega)]) (by
    unfold dynposlaw34_FaultsNormal_L1
    simp only [dF (c := ((9 : Nat) : Int) < 9) (by omega), Bool.false_eq_true, if_false])
  simp only [show ((0 : Nat) : Int) = 0 from rfl] at hloop
  rw [hloop]
  exact wp_some.2 rfl
end Rx
end Go.Proofs.Ytmjcndmphjdjgaa
