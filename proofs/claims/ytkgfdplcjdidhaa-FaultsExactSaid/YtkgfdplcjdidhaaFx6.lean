/- Scripts of faults: the checks, for all lists. Plain laws. -/
import Derived.Test.YtkgfdplcjdidhaaFx5
set_option linter.unusedVariables false
set_option linter.unusedSimpArgs false
namespace Go.Proofs.Ytkgfdplcjdidhaa
open Go Go.RowKit Dp
namespace Rx

theorem ifor (c b : Bool) : (if c = true then some true else some b) = some (c || b) := by cases c <;> rfl
theorem ifand (c b : Bool) : (if c = true then some b else some false) = some (c && b) := by cases c <;> rfl
theorem ifb (c a b : Bool) : (if c = true then some a else some b) = some (if c = true then a else b) := by cases c <;> rfl
theorem idx_ex {α : Type} {xs : List α} {k : Nat} (h : k < xs.length) : ∃ y, y ∈ xs ∧ idx xs (k : Int) = some y :=
  ⟨xs[k], List.getElem_mem _, by rw [idx_nat, List.getElem?_eq_getElem h]⟩
theorem search_all {α : Type} [Rep α] {ρ : Type} {step : Int → Option (Int ⊕ ρ)} (l : List α) (hl : l.length ≤ 1000000) (P : Nat → Prop) {r e : ρ}
    (next : ∀ k, k < l.length → ¬ P k → step (k : Int) = some (.inl (W ((k : Int) + 1)))) (hit : ∀ k, k < l.length → P k → step (k : Int) = some (.inr r)) (stop : step (l.length : Int) = some (.inr e)) :
    loopO step 0 = some (cond (dB (∃ k, k < l.length ∧ P k)) r e) :=
  loop_anyB (fun k => (k : Int)) l.length P (fun k hk hp => by rw [next k hk hp, W_succ (by omega)]) hit stop (by omega)
theorem valid_eq (p : Part) : design_Valid p = some (dB (VP p)) := by
  unfold design_Valid
  simp only [ifand, Option.bind_some]
  congr 1
  refine dB_eq ?_
  simp only [Bool.and_eq_true, decide_eq_true_eq]
  exact ⟨fun ⟨a, b, c, d⟩ => ⟨a, b, c, d⟩, fun h => ⟨h.k0, h.k1, h.n0, h.n1⟩⟩
theorem right_eq (f : Fault) : faults_right f = some (dB (VF f)) := by
  have e : faults_right f = some (decide (f.Time ≥ 0) && (decide (f.Time ≤ 2147483648) && (if (f.Kind == 1) = true then dB (VP f.Part) else ((f.Kind == 2) && dB (VP f.Part))))) := by
    unfold faults_right
    simp only [valid_eq, Option.bind_some]
    generalize decide (f.Time ≥ 0) = a
    generalize decide (f.Time ≤ 2147483648) = b
    generalize (f.Kind == 1) = c
    generalize (f.Kind == 2) = d
    generalize dB (VP f.Part) = e
    cases a <;> cases b <;> cases c <;> cases d <;> cases e <;> rfl
  rw [e]
  congr 1
  refine dB_eq ?_
  simp only [Bool.and_eq_true, decide_eq_true_eq]
  constructor
  · rintro ⟨a, b, c⟩
    by_cases h1 : f.Kind = 1
    · rw [if_pos (beqT h1)] at c
      exact ⟨a, b, .inl h1, dB_iff.1 c⟩
    · rw [if_neg (by rw [beqF h1]; simp)] at c
      simp only [Bool.and_eq_true, beq_iff_eq] at c
      exact ⟨a, b, .inr c.1, dB_iff.1 c.2⟩
  · intro h
    refine ⟨h.t0, h.t1, ?_⟩
    rcases h.k with h1 | h1
    · rw [if_pos (beqT h1), dB_T h.p]
    · rw [if_neg (by rw [beqF (by omega)]; simp), beqT h1, dB_T h.p]; rfl
theorem rright_eq (f : Fault) : dynposref34_Right f = some (dB (VF f)) := by
  have e1 : dynposref26_Valid f.Part = design_Valid f.Part := rfl
  have e : dynposref34_Right f = faults_right f := by
    unfold dynposref34_Right faults_right
    rw [e1]
  rw [e, right_eq]
/-- some fault is wrong -/
def Bad1 (l : List Fault) : Prop := ∃ k, k < l.length ∧ ¬ VF (gt l k)
/-- two faults are not in order -/
def Bad2 (l : List Fault) : Prop := ∃ k, k < l.length - 1 ∧ ¬ fk (gt l k) < fk (gt l (k + 1))
/-- a fault changes nothing -/
def Bad3 (l : List Fault) : Prop := ∃ k, k < l.length ∧ (gt l k).Kind ≠ 3 - lst (l.take k) (gt l k).Part
theorem bad1_F {l : List Fault} (h : ¬ Bad1 l) : ∀ f ∈ l, VF f := fun f hf => by
  obtain ⟨k, hk, rfl⟩ := mem_gt hf
  exact Classical.byContradiction fun hh => h ⟨k, hk, hh⟩
theorem wrong_eq {l : List Fault} (hl : l.length ≤ 1000000) : faults_wrong l = some (dB (Bad1 l)) := by
  have h : Wp (loopO (slices_IndexFunc_Fault_Fault_L1 l) 0) fun r => (r = .inl () ∧ ¬ Bad1 l) ∨ ∃ k : Nat, r = .inr (k : Int) ∧ Bad1 l := by
    refine wp_upto (s := (0 : Int)) l.length (fun k s => s = (k : Int) ∧ ∀ j, j < k → VF (gt l j)) ⟨rfl, fun j hj => by omega⟩ (fun k s hk hi => ?_) (fun s hi => ?_) (by omega)
    · obtain ⟨rfl, hi⟩ := hi
      unfold slices_IndexFunc_Fault_Fault_L1 faults_wrong_1
      simp only [lt_len hk, if_true, idx_gt hk, Option.bind_some, right_eq]
      by_cases he : VF (gt l k)
      · simp only [dB_T he, Bool.not_true, Bool.false_eq_true, if_false]
        rw [W_succ (by omega)]
        exact wp_some.2 ⟨rfl, fun j hj => by
          by_cases hjk : j = k
          · rw [hjk]; exact he
          · exact hi j (by omega)⟩
      · simp only [dB_F he, Bool.not_false, if_true]
        exact wp_some.2 (.inr ⟨k, rfl, k, hk, he⟩)
    · obtain ⟨rfl, hi⟩ := hi
      unfold slices_IndexFunc_Fault_Fault_L1
      simp only [nlt_len, Bool.false_eq_true, if_false]
      exact wp_some.2 (.inl ⟨rfl, fun ⟨k, hk, hn⟩ => hn (hi k hk)⟩)
  obtain ⟨r, hr, h⟩ := h
  unfold faults_wrong slices_ContainsFunc_Fault_Fault slices_IndexFunc_Fault_Fault
  rw [hr]
  rcases h with ⟨rfl, h⟩ | ⟨k, rfl, h⟩
  · rw [dB_F h]; rfl
  · rw [dB_T h]
    simp only [Option.bind_some, Sum.elim_inr, dT (c := (k : Int) ≥ 0) (by omega)]
theorem rwrong_eq {l : List Fault} (hl : l.length ≤ 1000000) : loopO (dynposref34_Check_L1 l) 0 = some (cond (dB (Bad1 l)) (.inr 1) (.inl ())) := by
  refine search_all (step := dynposref34_Check_L1 l) l hl (fun k => ¬ VF (gt l k)) (fun k hk hp => ?_) (fun k hk hp => ?_) (by unfold dynposref34_Check_L1; simp only [nlt_len, Bool.false_eq_true, if_false])
  · unfold dynposref34_Check_L1
    simp only [lt_len hk, if_true, idx_gt hk, Option.bind_some, rright_eq, dB_T (Classical.byContradiction hp), Bool.not_true, Bool.false_eq_true, if_false]
  · unfold dynposref34_Check_L1
    simp only [lt_len hk, if_true, idx_gt hk, Option.bind_some, rright_eq, dB_F hp, Bool.not_false, if_true]
theorem nwrong_eq {l : List Fault} (hl : l.length ≤ 1000000) : loopO (dynposref34_Normal_L1 l) 0 = some (cond (dB (Bad1 l)) (.inr (1, [])) (.inl ())) := by
  refine search_all (step := dynposref34_Normal_L1 l) l hl (fun k => ¬ VF (gt l k)) (fun k hk hp => ?_) (fun k hk hp => ?_) (by unfold dynposref34_Normal_L1; simp only [nlt_len, Bool.false_eq_true, if_false])
  · unfold dynposref34_Normal_L1
    simp only [lt_len hk, if_true, idx_gt hk, Option.bind_some, rright_eq, dB_T (Classical.byContradiction hp), Bool.not_true, Bool.false_eq_true, if_false]
  · unfold dynposref34_Normal_L1
    simp only [lt_len hk, if_true, idx_gt hk, Option.bind_some, rright_eq, dB_F hp, Bool.not_false, if_true]
/-- what a check says -/
noncomputable def chk (l : List Fault) : Int := if l.length > 24 then 2 else cond (dB (Bad1 l)) 1 (cond (dB (Bad2 l)) 7 (cond (dB (Bad3 l)) 70 0))
theorem check_eq (l : List Fault) : faults_Check l = some (chk l) := by
  unfold faults_Check chk
  by_cases h24 : l.length > 24
  · rw [dT (c := len l > 24) (by unfold len; omega), if_pos h24]; rfl
  rw [dF (c := len l > 24) (by unfold len; omega), if_neg h24]
  simp only [Bool.false_eq_true, if_false]
  rw [wrong_eq (by omega)]
  simp only [Option.bind_some]
  by_cases h1 : Bad1 l
  · rw [dB_T h1]; rfl
  rw [dB_F h1]
  have hv := bad1_F h1
  simp only [Bool.false_eq_true, if_false, cond_false]
  have e1 : loopO (faults_Check_L1 l) 1 = some (cond (dB (Bad2 l)) (.inr 7) (.inl ())) := by
    have step : ∀ k, k < l.length - 1 → faults_Check_L1 l ((k + 1 : Nat) : Int) = if decide (fk (gt l k) < fk (gt l (k + 1))) = true then some (.inl (W (((k + 1 : Nat) : Int) + 1))) else some (.inr (.inr 7)) := fun k hk => by
      have hk1 : k + 1 < l.length := by omega
      obtain ⟨c, hc, c1, c2⟩ := fcmp_eq (hv _ (gt_mem (show k < l.length by omega))).p (hv _ (gt_mem hk1)).p
      unfold faults_Check_L1
      simp only [lt_len hk1, if_true, W_pred (k := k + 1) (by omega) (by omega), Nat.add_sub_cancel, idx_gt hk1, idx_gt (show k < l.length by omega), Option.bind_some, hc]
      by_cases hlt : fk (gt l k) < fk (gt l (k + 1))
      · rw [dT hlt, dF (c := c ≥ 0) (by have := c1.2 hlt; omega)]; rfl
      · rw [dF hlt, dT (c := c ≥ 0) (by have := fun h => hlt (c1.1 h); omega)]; rfl
    have e := loop_anyB (step := faults_Check_L1 l) (fun k => ((k + 1 : Nat) : Int)) (l.length - 1) (fun k => ¬ fk (gt l k) < fk (gt l (k + 1))) (r := .inr 7) (e := .inl ()) (fun k hk hp => by
      rw [step k hk, dT (Classical.byContradiction hp)]
      simp only [if_true]
      rw [W_succ (by omega)]) (fun k hk hp => by rw [step k hk, dF hp]; rfl) (by
      unfold faults_Check_L1
      rw [dF (c := ((l.length - 1 + 1 : Nat) : Int) < len l) (by unfold len; omega)]
      simp only [Bool.false_eq_true, if_false]) (by omega)
    exact e
  rw [e1]
  simp only [Option.bind_some]
  by_cases h2 : Bad2 l
  · rw [dB_T h2]; rfl
  rw [dB_F h2]
  simp only [cond_false, Sum.elim_inl]
  have e2 : loopO (faults_Check_L2 l) 0 = some (cond (dB (Bad3 l)) (.inr 70) (.inl ())) := by
    have step : ∀ k, k < l.length → faults_Check_L2 l (k : Int) = if ((gt l k).Kind != 3 - lst (l.take k) (gt l k).Part) = true then some (.inr (.inr 70)) else some (.inl (W ((k : Int) + 1))) := fun k hk => by
      unfold faults_Check_L2
      simp only [lt_len hk, if_true, idx_gt hk, Option.bind_some]
      rw [slc_take (by omega)]
      simp only [Option.bind_some]
      rw [last_eq (by simp; omega)]
      simp only [Option.bind_some]
      rw [other_eq (lst_rng (fun f hf => hv f (List.mem_of_mem_take hf)) _)]
      simp only [Option.bind_some]
    refine search_all (step := faults_Check_L2 l) l (by omega) (fun k => (gt l k).Kind ≠ 3 - lst (l.take k) (gt l k).Part) (fun k hk hp => ?_) (fun k hk hp => ?_) (by unfold faults_Check_L2; simp only [nlt_len, Bool.false_eq_true, if_false])
    · rw [step k hk, bneF (Classical.byContradiction hp)]; rfl
    · rw [step k hk, bneT hp]; rfl
  rw [e2]
  by_cases h3 : Bad3 l
  · rw [dB_T h3]; rfl
  · rw [dB_F h3]; rfl
theorem rlast_eq {m : List Fault} (hl : m.length ≤ 1000) (f : Fault) : loopO (dynposref34_Check_L4 f m) (false, 0) = some (lst m f.Part == 1) := by
  have h : Wp (loopO (dynposref34_Check_L4 f m) (false, 0)) fun r => r = (lst m f.Part == 1) := by
    refine wp_upto m.length (fun k s => s.2 = (k : Int) ∧ s.1 = (lst (m.take k) f.Part == 1)) ⟨rfl, rfl⟩ (fun k s hk hv => ?_) (fun s hv => ?_) (by omega)
    · obtain ⟨c, z⟩ := s
      simp only at hv
      obtain ⟨rfl, rfl⟩ := hv
      unfold dynposref34_Check_L4
      simp only [lt_len hk, if_true, idx_gt hk, Option.bind_some]
      rw [show ((gt m k).Part.Kind == f.Part.Kind && (gt m k).Part.Number == f.Part.Number) = eqP (gt m k).Part f.Part from rfl, ifb]
      simp only [Option.bind_some]
      rw [W_succ (by omega)]
      refine wp_some.2 ⟨rfl, ?_⟩
      simp only
      rw [take_gt hk, lst_snoc]
      split <;> rfl
    · obtain ⟨c, z⟩ := s
      simp only at hv
      obtain ⟨rfl, rfl⟩ := hv
      unfold dynposref34_Check_L4
      simp only [nlt_len, Bool.false_eq_true, if_false]
      rw [List.take_length]
      exact wp_some.2 rfl
  exact wp_eq.1 h
theorem rcheck_eq (l : List Fault) : dynposref34_Check l = some (chk l) := by
  unfold dynposref34_Check chk
  by_cases h24 : l.length > 24
  · rw [dT (c := len l > 24) (by unfold len; omega), if_pos h24]; rfl
  rw [dF (c := len l > 24) (by unfold len; omega), if_neg h24]
  simp only [Bool.false_eq_true, if_false]
  rw [rwrong_eq (by omega)]
  simp only [Option.bind_some]
  by_cases h1 : Bad1 l
  · rw [dB_T h1]; rfl
  rw [dB_F h1]
  have hv := bad1_F h1
  simp only [Sum.elim_inl, cond_false]
  have e1 : loopO (dynposref34_Check_L2 l) 1 = some (cond (dB (Bad2 l)) (.inr 7) (.inl ())) := by
    have step : ∀ k, k < l.length - 1 → dynposref34_Check_L2 l ((k + 1 : Nat) : Int) = if decide (fk (gt l k) < fk (gt l (k + 1))) = true then some (.inl (W (((k + 1 : Nat) : Int) + 1))) else some (.inr (.inr 7)) := fun k hk => by
      have hk1 : k + 1 < l.length := by omega
      have p1 := (hv _ (gt_mem (show k < l.length by omega))).p
      have p2 := (hv _ (gt_mem hk1)).p
      have b1 := p1.bd
      have b2 := p2.bd
      unfold dynposref34_Check_L2
      simp only [lt_len hk1, if_true, W_pred (k := k + 1) (by omega) (by omega), Nat.add_sub_cancel, idx_gt hk1, idx_gt (show k < l.length by omega), Option.bind_some, less_eq p1 p2]
      unfold fk
      by_cases ht : (gt l k).Time < (gt l (k + 1)).Time
      · rw [dT ht, dT (c := (gt l k).Time * 1024 + pk (gt l k).Part < (gt l (k + 1)).Time * 1024 + pk (gt l (k + 1)).Part) (by omega)]; rfl
      · rw [dF ht]
        by_cases he : (gt l k).Time = (gt l (k + 1)).Time
        · rw [beqT he]
          by_cases hp : pk (gt l k).Part < pk (gt l (k + 1)).Part
          · rw [dB_T hp, dT (c := (gt l k).Time * 1024 + pk (gt l k).Part < (gt l (k + 1)).Time * 1024 + pk (gt l (k + 1)).Part) (by omega)]; rfl
          · rw [dB_F hp, dF (c := (gt l k).Time * 1024 + pk (gt l k).Part < (gt l (k + 1)).Time * 1024 + pk (gt l (k + 1)).Part) (by omega)]; rfl
        · rw [beqF he, dF (c := (gt l k).Time * 1024 + pk (gt l k).Part < (gt l (k + 1)).Time * 1024 + pk (gt l (k + 1)).Part) (by omega)]; rfl
    have e := loop_anyB (step := dynposref34_Check_L2 l) (fun k => ((k + 1 : Nat) : Int)) (l.length - 1) (fun k => ¬ fk (gt l k) < fk (gt l (k + 1))) (r := .inr 7) (e := .inl ()) (fun k hk hp => by
      rw [step k hk, dT (Classical.byContradiction hp)]
      simp only [if_true]
      rw [W_succ (by omega)]) (fun k hk hp => by rw [step k hk, dF hp]; rfl) (by
      unfold dynposref34_Check_L2
      rw [dF (c := ((l.length - 1 + 1 : Nat) : Int) < len l) (by unfold len; omega)]
      simp only [Bool.false_eq_true, if_false]) (by omega)
    exact e
  rw [e1]
  simp only [Option.bind_some]
  by_cases h2 : Bad2 l
  · rw [dB_T h2]; rfl
  rw [dB_F h2]
  simp only [cond_false, Sum.elim_inl]
  have e2 : loopO (dynposref34_Check_L3 l) 0 = some (cond (dB (Bad3 l)) (.inr 70) (.inl ())) := by
    have step : ∀ k, k < l.length → dynposref34_Check_L3 l (k : Int) = if ((gt l k).Kind != 3 - lst (l.take k) (gt l k).Part) = true then some (.inr (.inr 70)) else some (.inl (W ((k : Int) + 1))) := fun k hk => by
      unfold dynposref34_Check_L3
      simp only [lt_len hk, if_true, idx_gt hk, Option.bind_some]
      rw [slc_take (by omega)]
      simp only [Option.bind_some]
      rw [rlast_eq (by simp; omega)]
      simp only [Option.bind_some]
      have h3 := lst_rng (fun f hf => hv f (List.mem_of_mem_take (i := k) hf)) (gt l k).Part
      have h4 := (hv _ (gt_mem hk)).k
      rcases h3 with h3 | h3 <;> rcases h4 with h4 | h4 <;> rw [h3, h4] <;> rfl
    refine search_all (step := dynposref34_Check_L3 l) l (by omega) (fun k => (gt l k).Kind ≠ 3 - lst (l.take k) (gt l k).Part) (fun k hk hp => ?_) (fun k hk hp => ?_) (by unfold dynposref34_Check_L3; simp only [nlt_len, Bool.false_eq_true, if_false])
    · rw [step k hk, bneF (Classical.byContradiction hp)]; rfl
    · rw [step k hk, bneT hp]; rfl
  rw [e2]
  by_cases h3 : Bad3 l
  · rw [dB_T h3]; rfl
  · rw [dB_F h3]; rfl
/-- a list that passes is valid -/
theorem chk_vl {l : List Fault} (h : chk l = 0) : l.length ≤ 24 ∧ Vl l := by
  unfold chk at h
  by_cases h24 : l.length > 24
  · rw [if_pos h24] at h; omega
  rw [if_neg h24] at h
  by_cases h1 : Bad1 l
  · rw [dB_T h1] at h; simp at h
  rw [dB_F h1] at h
  by_cases h2 : Bad2 l
  · rw [dB_T h2] at h; simp at h
  rw [dB_F h2] at h
  by_cases h3 : Bad3 l
  · rw [dB_T h3] at h; simp at h
  refine ⟨by omega, Vl.of ⟨bad1_F h1, ?_⟩ fun a f b he => ?_⟩
  · have key : ∀ d i, i + d + 1 < l.length → fk (gt l i) < fk (gt l (i + d + 1)) := by
      intro d
      induction d with
      | zero => intro i hi; exact Classical.byContradiction fun hh => h2 ⟨i, by omega, by simpa using hh⟩
      | succ d ih =>
        intro i hi
        have q1 := ih i (by omega)
        have q2 : fk (gt l (i + d + 1)) < fk (gt l (i + d + 1 + 1)) := Classical.byContradiction fun hh => h2 ⟨i + d + 1, by omega, hh⟩
        rw [show i + (d + 1) + 1 = i + d + 1 + 1 by omega]
        omega
    refine List.pairwise_iff_getElem.2 fun i j hi hj hij => ?_
    have := key (j - i - 1) i (by omega)
    rw [show i + (j - i - 1) + 1 = j by omega, gt_get hi, gt_get hj] at this
    exact this
  · have hk : a.length < l.length := by rw [he]; simp
    have hh : (gt l a.length).Kind = 3 - lst (l.take a.length) (gt l a.length).Part := Classical.byContradiction fun hh => h3 ⟨a.length, hk, hh⟩
    have e1 : gt l a.length = f := by rw [gt_get hk]; simp [he]
    have e2 : l.take a.length = a := by rw [he]; simp
    rwa [e1, e2] at hh
end Rx
end Go.Proofs.Ytkgfdplcjdidhaa
