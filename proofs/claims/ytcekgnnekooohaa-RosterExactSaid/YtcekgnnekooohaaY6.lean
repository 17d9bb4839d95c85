/- Roster: without whom the load is low, who can help: the program's and the reference's answers, whatever board, table and bus they are given. Plain laws. -/
import Derived.Test.YtcekgnnekooohaaY3
import Derived.Test.YtcekgnnekooohaaB5
set_option linter.unusedVariables false
set_option linter.unusedSimpArgs false
namespace Go.Proofs.Ytcekgnnekooohaa
open Go Go.RowKit Dp
namespace Rx
open Classical

section
variable {b : Board} {p : Power}
theorem led_srcX {j k : Nat} (hk : k < b.Breakers.length) (hs : isS (gt b.Breakers k) j) (hu : ∀ i, i < b.Breakers.length → isS (gt b.Breakers i) j → i = k) (h : (led b p 2 (j : Int)).2 = true) : (led b p 2 (j : Int)).1 = (gt b.Breakers k).A := by
  unfold led at h ⊢
  cases hf : (List.range b.Breakers.length).find? (ledAt b p 2 (j : Int)) with
  | none => rw [hf] at h; cases h
  | some i =>
    have hi := List.mem_range.1 (List.mem_of_find?_eq_some hf)
    have hq : ledAt b p 2 (j : Int) i = true := List.find?_some (p := ledAt b p 2 (j : Int)) hf
    unfold ledAt at hq
    simp only [Bool.and_eq_true, beq_iff_eq] at hq
    have := hu i hi ⟨hq.1.1, hq.1.2⟩
    subst this
    rfl
/-- a generator whose breaker lies on an island is among its generators if it is connected -/
theorem on_iff (hb : BrkOk b) {j : Nat} (hj : j < b.Sources.length) {k : Int} (hA : (gt b.Breakers (bk b j)).A ∈ (isleOf b p k).Buses) : (j : Int) ∈ (isleOf b p k).Sources ↔ (conn b p (j : Int)).2 = true := by
  obtain ⟨k1, k2, k3⟩ := bk_spec hb hj
  unfold isleOf at hA ⊢
  constructor
  · intro h
    obtain ⟨j', _, h2, _, h4⟩ := mem_src.1 h
    rw [h4]
    exact h2
  · intro h
    refine mem_src.2 ⟨j, hj, h, ?_, rfl⟩
    have e : (conn b p (j : Int)).1 = (gt b.Breakers (bk b j)).A := by
      unfold conn at h ⊢
      split at h
      · split at h
        · rename_i h1 h2
          rw [if_pos h1, if_pos h2]
          exact led_srcX k1 k2 k3 h
        · cases h
      · cases h
    obtain ⟨i, _, h2, h3⟩ := mem_bus.1 hA
    rw [e, h3, Int.toNat_natCast]
    exact h2
theorem reflead_eqX (hb : SmB b) (hp : SmP p) (k : Int) : dynposref16_Leader b p k = some (lead b p k) := by
  have hfalse : (ofB b p k).2 = false → (ofB b p k).1.Sources = [] := fun he => by
    unfold ofB at he ⊢
    split at he
    · cases he
    · rename_i hn
      rw [if_neg hn]
  unfold dynposref16_Leader lead
  simp only [refof_isle hb hp, Option.bind_some, ofR]
  by_cases hs : (ofB b p k).1.Sources = []
  · rw [if_pos hs]
    have : (if (!(ofB b p k).2) = true then some true else some (len (ofB b p k).1.Sources == 0)) = some true := by
      rw [hs]
      split <;> rfl
    rw [this]
    rfl
  · rw [if_neg hs]
    have hl := List.length_pos_iff.2 hs
    have h2 : (ofB b p k).2 = true := by
      cases hh : (ofB b p k).2 with
      | true => rfl
      | false => exact (hs (hfalse hh)).elim
    have e : (len (ofB b p k).1.Sources == 0) = false := beqF (by unfold len; omega)
    have ei : idx (ofB b p k).1.Sources 0 = some (gt (ofB b p k).1.Sources 0) := idx_gt hl
    simp only [h2, e, Bool.not_true, Bool.false_eq_true, if_false, Option.bind_some, ei]
theorem reflive_eq (hb : SmB b) (hp : SmP p) (k : Int) : dynposref15_Live b p k = some (decide (0 < (ofB b p k).1.Sources.length)) := by
  unfold dynposref15_Live
  rw [refof_isle hb hp]
  simp only [Option.bind_some, ofR]
  unfold ofB
  split
  · simp only [if_true, Option.bind_some]
    congr 1
    rw [decide_eq_decide]
    unfold len
    omega
  · simp
theorem ofB_two {k : Int} (h : (ofB b p k).2 = true) : stt b p = 0 ∧ 0 ≤ k ∧ k < b.Buses := by
  unfold ofB at h
  split at h
  · assumption
  · cases h
theorem ofB_src {k : Int} (h : (ofB b p k).1.Sources ≠ []) : (ofB b p k).2 = true := by
  unfold ofB at h ⊢
  split
  · rfl
  · rename_i hn
    rw [if_neg hn] at h
    exact (h rfl).elim
theorem refvalid_eq (t : Table) : dynposref19_Valid t = some (decide (vT t)) := by
  have : dynposref19_Valid t = roster_Valid t := rfl
  rw [this, valid_eq]
/-! high -/
theorem high_same (hb : SmB b) (hp : SmP p) (t : Table) (k : Int) : ∃ v, roster_High b t p k = some v ∧ dynposref19_High b t p k = some v := by
  refine ⟨decide (vT t) && (decide (0 < (ofB b p k).1.Sources.length) && decide (W (100 * loadI p (ofB b p k).1) > W (t.Start * rateI b (ofB b p k).1))), ?_, ?_⟩
  · unfold roster_High
    rw [valid_eq, live_eq hb hp, load_eq hb hp, rating_eq hb hp]
    cases decide (vT t) <;> cases decide (0 < (ofB b p k).1.Sources.length) <;> simp
  · unfold dynposref19_High
    rw [refvalid_eq, reflive_eq hb hp, refload_eq hb hp, refrating_eq hb hp]
    cases decide (vT t) <;> cases decide (0 < (ofB b p k).1.Sources.length) <;> simp
/-! low -/
def lowQ (b : Board) (p : Power) (t : Table) (x : Island) (s : Int) : Prop := ¬ (⟨2, (bk b s.toNat : Int)⟩ : Part) ∈ p.Broken ∧ W (100 * loadI p x) ≤ W (t.Stop * W (rateI b x - (gt b.Sources s.toNat).Rating))
noncomputable def lowP (b : Board) (p : Power) (t : Table) (x : Island) (m : Nat) : Bool := dB (lowQ b p t x (gt x.Sources (x.Sources.length - 1 - m)))
noncomputable def lowV (b : Board) (p : Power) (t : Table) (x : Island) : Int × Bool := if vT t ∧ 2 ≤ x.Sources.length then (match (List.range x.Sources.length).find? (lowP b p t x) with
  | some m => (gt x.Sources (x.Sources.length - 1 - m), true)
  | none => (0, false)) else (0, false)
theorem lowV_no {t : Table} {x : Island} (h : ¬ (vT t ∧ 2 ≤ x.Sources.length)) : lowV b p t x = (0, false) := if_neg h
theorem lowV_yes {t : Table} {x : Island} (h : vT t ∧ 2 ≤ x.Sources.length) : lowV b p t x = (match (List.range x.Sources.length).find? (lowP b p t x) with
  | some m => (gt x.Sources (x.Sources.length - 1 - m), true)
  | none => (0, false)) := if_pos h
theorem lowV_in {t : Table} {x : Island} (h : (lowV b p t x).2 = true) : (lowV b p t x).1 ∈ x.Sources := by
  unfold lowV at h ⊢
  split at h
  · rename_i hc
    rw [if_pos hc]
    cases hf : (List.range x.Sources.length).find? (lowP b p t x) with
    | none => rw [hf] at h; cases h
    | some m => exact gt_mem (by omega)
  · cases h
theorem low_eq (hb : SmB b) (hp : SmP p) (t : Table) (k : Int) : roster_Low b t p k = some (lowV b p t (ofB b p k).1) := by
  unfold roster_Low
  rw [of_eq hb hp, ofT]
  simp only [Option.bind_some, valid_eq, slices_Backward_int_int]
  by_cases hv : vT t
  case neg => rw [lowV_no fun h => hv h.1]; simp only [dF hv, Bool.not_false, if_true, Option.bind_some]
  simp only [dT hv, Bool.not_true, Bool.false_eq_true, if_false, Option.bind_some]
  by_cases hlen : len (ofB b p k).1.Sources < 2
  · have hlen' : ¬ 2 ≤ (ofB b p k).1.Sources.length := by unfold len at hlen; omega
    rw [lowV_no fun h => hlen' h.2]
    simp only [dT hlen, if_true]
  have hlen' : 2 ≤ (ofB b p k).1.Sources.length := by unfold len at hlen; omega
  rw [lowV_yes ⟨hv, hlen'⟩]
  simp only [dF hlen, Bool.false_eq_true, if_false]
  have h2 := ofB_src (b := b) (p := p) (k := k) (fun h => by rw [h] at hlen'; simp at hlen')
  obtain ⟨h, h0, h1⟩ := ofB_two h2
  obtain ⟨⟨hl, hg⟩, ⟨s1, s2, s3⟩, _⟩ := stt_zero.1 h
  have hpa := ofB_parts (p := p) hg.1 k
  have h8 := hl.src
  have hld := load_eq hb hp k
  have hrt := rating_eq hb hp k
  generalize (ofB b p k).1 = x at *
  obtain ⟨_, hin, _, hxl⟩ := hpa
  have hf := loop_find (step := roster_Low_L1 b t p k x.Sources) (fun i => ((x.Sources.length : Int) - 1 - (i : Int), (0 : Int), false)) x.Sources.length (lowP b p t x) (R := fun m => .inr (gt x.Sources (x.Sources.length - 1 - m), true)) (e := .inl (0, false))
    (fun i hi hq => by
      have e : (x.Sources.length : Int) - 1 - (i : Int) = ((x.Sources.length - 1 - i : Nat) : Int) := by omega
      have hq' : x.Sources.length - 1 - i < x.Sources.length := by omega
      obtain ⟨n0, n1⟩ := hin _ (gt_mem hq')
      obtain ⟨j, hj⟩ := Int.eq_ofNat_of_zero_le n0
      have hj : gt x.Sources (x.Sources.length - 1 - i) = (j : Int) := hj
      have hjl : j < b.Sources.length := by omega
      unfold lowP at hq
      have hq : ¬ lowQ b p t x (gt x.Sources (x.Sources.length - 1 - i)) := fun hn => by rw [dB_T hn] at hq; cases hq
      unfold lowQ at hq
      rw [hj, Int.toNat_natCast] at hq
      unfold roster_Low_L1
      simp only [dF (show ¬ (x.Sources.length : Int) - 1 - (i : Int) < 0 by omega), Bool.false_eq_true, if_false]
      rw [e, idx_gt hq', hj]
      simp only [Option.bind_some, breaker_eq hb.1 hg.1 hjl, brkB_eq hp]
      have e2 : (((x.Sources.length - 1 - i : Nat) : Int) - 1) = (x.Sources.length : Int) - 1 - ((i + 1 : Nat) : Int) := by omega
      by_cases hbk : (⟨2, (bk b j : Int)⟩ : Part) ∈ p.Broken
      · simp only [dT hbk, if_true, Option.bind_some, Sum.elim_inl, e2]
      · simp only [dF hbk, Bool.false_eq_true, if_false, hrt, hld, Option.bind_some, idx_gt hjl]
        have hle : ¬ W (100 * loadI p x) ≤ W (t.Stop * W (rateI b x - (gt b.Sources j).Rating)) := fun hle => hq ⟨hbk, hle⟩
        simp only [dF hle, Bool.false_eq_true, if_false, Option.bind_some, Sum.elim_inl, e2])
    (fun i hi hq => by
      have e : (x.Sources.length : Int) - 1 - (i : Int) = ((x.Sources.length - 1 - i : Nat) : Int) := by omega
      have hq' : x.Sources.length - 1 - i < x.Sources.length := by omega
      obtain ⟨n0, n1⟩ := hin _ (gt_mem hq')
      obtain ⟨j, hj⟩ := Int.eq_ofNat_of_zero_le n0
      have hj : gt x.Sources (x.Sources.length - 1 - i) = (j : Int) := hj
      have hjl : j < b.Sources.length := by omega
      unfold lowP at hq
      have hq := dB_iff.1 hq
      unfold lowQ at hq
      rw [hj, Int.toNat_natCast] at hq
      obtain ⟨hbk, hle⟩ := hq
      unfold roster_Low_L1
      simp only [dF (show ¬ (x.Sources.length : Int) - 1 - (i : Int) < 0 by omega), Bool.false_eq_true, if_false]
      rw [e, idx_gt hq', hj]
      simp only [Option.bind_some, breaker_eq hb.1 hg.1 hjl, brkB_eq hp, dF hbk, Bool.false_eq_true, if_false, hrt, hld, idx_gt hjl, dT hle, if_true, Sum.elim_inr])
    (by simp only [roster_Low_L1, dT (show (x.Sources.length : Int) - 1 - ((x.Sources.length : Nat) : Int) < 0 by omega), if_true])
  rw [show (x.Sources.length : Int) - 1 - ((0 : Nat) : Int) = len x.Sources - 1 by unfold len; omega] at hf
  rw [hf]
  cases (List.range x.Sources.length).find? (lowP b p t x) <;> rfl
theorem reflow_eq (hb : SmB b) (hp : SmP p) (t : Table) (k : Int) : dynposref19_Low b t p k = some (lowV b p t (ofB b p k).1) := by
  unfold dynposref19_Low
  rw [refof_isle hb hp]
  simp only [Option.bind_some, refvalid_eq]
  have hgen : (ofR b p k).2.2.1 = (ofB b p k).1.Sources := rfl
  rw [hgen]
  have hbad : ¬ (vT t ∧ 2 ≤ (ofB b p k).1.Sources.length) → (if (!(ofR b p k).1) = true then some true else if (!decide (vT t)) = true then some true else some (decide (len (ofB b p k).1.Sources < 2))) = some true := fun hn => by
    split
    · rfl
    · split
      · rfl
      · rename_i h1 h2
        have hv : vT t := by simpa using h2
        rw [dT]
        unfold len
        apply Classical.byContradiction
        intro h3
        exact hn ⟨hv, by omega⟩
  by_cases hc : vT t ∧ 2 ≤ (ofB b p k).1.Sources.length
  case neg => rw [hbad hc, lowV_no hc]; simp only [Option.bind_some, if_true]
  obtain ⟨hv, hlen'⟩ := hc
  have h2 := ofB_src (b := b) (p := p) (k := k) (fun h => by rw [h] at hlen'; simp at hlen')
  have h2' : (ofR b p k).1 = true := h2
  rw [lowV_yes ⟨hv, hlen'⟩]
  simp only [h2', dT hv, dF (show ¬ len (ofB b p k).1.Sources < 2 by unfold len; omega), Bool.not_true, Bool.false_eq_true, if_false, Option.bind_some]
  obtain ⟨h, h0, h1⟩ := ofB_two h2
  obtain ⟨⟨hl, hg⟩, ⟨s1, s2, s3⟩, _⟩ := stt_zero.1 h
  have hck : chk b = 0 := chk_zero.2 ⟨hl, hg⟩
  have hpa := ofB_parts (p := p) hg.1 k
  have h8 := hl.src
  have hld := refload_eq hb hp k
  have hrt := refrating_eq hb hp k
  generalize hy : ofR b p k = y at *
  generalize (ofB b p k).1 = x at *
  obtain ⟨_, hin, _, hxl⟩ := hpa
  have hf := loop_find (step := dynposref19_Low_L1 b t p k y) (fun i => (x.Sources.length : Int) - 1 - (i : Int)) x.Sources.length (lowP b p t x) (R := fun m => .inr (gt x.Sources (x.Sources.length - 1 - m), true)) (e := .inl ())
    (fun i hi hq => by
      have e : (x.Sources.length : Int) - 1 - (i : Int) = ((x.Sources.length - 1 - i : Nat) : Int) := by omega
      have hq' : x.Sources.length - 1 - i < x.Sources.length := by omega
      obtain ⟨n0, n1⟩ := hin _ (gt_mem hq')
      obtain ⟨j, hj⟩ := Int.eq_ofNat_of_zero_le n0
      have hj : gt x.Sources (x.Sources.length - 1 - i) = (j : Int) := hj
      have hjl : j < b.Sources.length := by omega
      unfold lowP at hq
      have hq : ¬ lowQ b p t x (gt x.Sources (x.Sources.length - 1 - i)) := fun hn => by rw [dB_T hn] at hq; cases hq
      unfold lowQ at hq
      rw [hj, Int.toNat_natCast] at hq
      unfold dynposref19_Low_L1
      simp only [dT (show (x.Sources.length : Int) - 1 - (i : Int) ≥ 0 by omega), if_true]
      rw [e, hgen, idx_gt hq', hj]
      simp only [Option.bind_some, refFind_eq hb hck hjl, show idx [(bk b j : Int)] 0 = some (bk b j : Int) from rfl, refBroken_eq hp]
      have e2 : W (((x.Sources.length - 1 - i : Nat) : Int) - 1) = (x.Sources.length : Int) - 1 - ((i + 1 : Nat) : Int) := by rw [W_sm (by omega) (by omega)]; omega
      by_cases hbk : (⟨2, (bk b j : Int)⟩ : Part) ∈ p.Broken
      · simp only [dT hbk, if_true, Option.bind_some, Sum.elim_inl, e2]
      · simp only [dF hbk, Bool.false_eq_true, if_false, hrt, hld, Option.bind_some, idx_gt hjl]
        have hle : ¬ W (100 * loadI p x) ≤ W (t.Stop * W (rateI b x - (gt b.Sources j).Rating)) := fun hle => hq ⟨hbk, hle⟩
        simp only [dF hle, Bool.false_eq_true, if_false, Option.bind_some, Sum.elim_inl, e2])
    (fun i hi hq => by
      have e : (x.Sources.length : Int) - 1 - (i : Int) = ((x.Sources.length - 1 - i : Nat) : Int) := by omega
      have hq' : x.Sources.length - 1 - i < x.Sources.length := by omega
      obtain ⟨n0, n1⟩ := hin _ (gt_mem hq')
      obtain ⟨j, hj⟩ := Int.eq_ofNat_of_zero_le n0
      have hj : gt x.Sources (x.Sources.length - 1 - i) = (j : Int) := hj
      have hjl : j < b.Sources.length := by omega
      unfold lowP at hq
      have hq := dB_iff.1 hq
      unfold lowQ at hq
      rw [hj, Int.toNat_natCast] at hq
      obtain ⟨hbk, hle⟩ := hq
      unfold dynposref19_Low_L1
      simp only [dT (show (x.Sources.length : Int) - 1 - (i : Int) ≥ 0 by omega), if_true]
      rw [e, hgen, idx_gt hq', hj]
      simp only [Option.bind_some, refFind_eq hb hck hjl, show idx [(bk b j : Int)] 0 = some (bk b j : Int) from rfl, refBroken_eq hp, dF hbk, Bool.false_eq_true, if_false, hrt, hld, idx_gt hjl, dT hle, if_true, Sum.elim_inr])
    (by simp only [dynposref19_Low_L1, dF (show ¬ (x.Sources.length : Int) - 1 - ((x.Sources.length : Nat) : Int) ≥ 0 by omega), Bool.false_eq_true, if_false])
  rw [show (x.Sources.length : Int) - 1 - ((0 : Nat) : Int) = W (len x.Sources - 1) by unfold len; rw [W_sm (by omega) (by omega)]; omega] at hf
  rw [hf]
  cases (List.range x.Sources.length).find? (lowP b p t x) <;> rfl
/-! who can help -/
noncomputable def nxtV (b : Board) (p : Power) (o : Island × Bool) : Int × Bool := if o.2 = true then (match (List.range 3).find? (fun q => ((List.range p.Sources.length).find? (nxP b p o.1 (gt [2, 1, 0] q))).isSome) with
  | some q => (((((List.range p.Sources.length).find? (nxP b p o.1 (gt [2, 1, 0] q))).getD 0 : Nat) : Int), true)
  | none => (0, false)) else (0, false)
theorem nxtV_in {o : Island × Bool} (h : (nxtV b p o).2 = true) : o.2 = true ∧ ∃ j : Nat, (nxtV b p o).1 = (j : Int) ∧ j < p.Sources.length := by
  unfold nxtV at h ⊢
  split at h
  · rename_i hc
    refine ⟨hc, ?_⟩
    rw [if_pos hc]
    cases hf : (List.range 3).find? (fun q => ((List.range p.Sources.length).find? (nxP b p o.1 (gt [2, 1, 0] q))).isSome) with
    | none => rw [hf] at h; cases h
    | some q =>
      have hq := List.find?_some (p := fun q => ((List.range p.Sources.length).find? (nxP b p o.1 (gt [2, 1, 0] q))).isSome) hf
      obtain ⟨m, hm⟩ := Option.isSome_iff_exists.1 hq
      have m1 := List.mem_range.1 (List.mem_of_find?_eq_some hm)
      refine ⟨m, ?_, m1⟩
      show (((List.find? (nxP b p o.1 (gt [2, 1, 0] q)) (List.range p.Sources.length)).getD 0 : Nat) : Int) = _
      rw [hm]
      rfl
  · cases h
theorem next_eq (hb : SmB b) (hp : SmP p) (k : Int) : roster_Next b p k = some (nxtV b p (ofB b p k)) := by
  unfold roster_Next nxtV
  rw [of_eq hb hp, ofT]
  simp only [Option.bind_some]
  cases h2 : (ofB b p k).2 with
  | false => simp only [Bool.not_false, Bool.false_eq_true, if_true, if_false]
  | true =>
    obtain ⟨h, h0, h1⟩ := ofB_two h2
    obtain ⟨⟨hl, hg⟩, ⟨s1, s2, s3⟩, _⟩ := stt_zero.1 h
    obtain ⟨m1, m2, _⟩ := isle_sm (p := p) hl (gt (grp b p) k.toNat).toNat
    rw [ofB_in' h h0 h1]
    have hin := fun st => next_in hb hp h (x := isleOf b p k) m1 m2 true st
    have hf := loop_find (step := roster_Next_L1 b p ((isleOf b p k).Buses, (isleOf b p k).Sources, (isleOf b p k).Consumers, true)) (fun i => (i : Int)) 3 (fun q => ((List.range p.Sources.length).find? (nxP b p (isleOf b p k) (gt [2, 1, 0] q))).isSome)
      (R := fun q => .inr ((((List.range p.Sources.length).find? (nxP b p (isleOf b p k) (gt [2, 1, 0] q))).getD 0 : Nat), true)) (e := .inl ())
      (fun i hi hq => by
        have hn : (List.range p.Sources.length).find? (nxP b p (isleOf b p k) (gt [2, 1, 0] i)) = none := by simpa using hq
        simp only [roster_Next_L1, l3 hi, decide_true, if_true, idx_gt (l := ([2, 1, 0] : List Int)) hi, Option.bind_some, hin, hn, Sum.elim_inl, W_succ (show i < 1000000000000000000 by omega)])
      (fun i hi hq => by
        obtain ⟨m, hm⟩ := Option.isSome_iff_exists.1 hq
        simp only [roster_Next_L1, l3 hi, decide_true, if_true, idx_gt (l := ([2, 1, 0] : List Int)) hi, Option.bind_some, hin, hm, Sum.elim_inr, Option.getD_some])
      (by simp only [roster_Next_L1, show decide (((3 : Nat) : Int) < len ([2, 1, 0] : List Nat)) = false from rfl, Bool.false_eq_true, if_false])
    have hf' : loopO (roster_Next_L1 b p ((isleOf b p k).Buses, (isleOf b p k).Sources, (isleOf b p k).Consumers, true)) 0 = _ := hf
    simp only [Bool.not_true, Bool.false_eq_true, if_false, if_true]
    rw [hf']
    cases (List.range 3).find? (fun q => ((List.range p.Sources.length).find? (nxP b p (isleOf b p k) (gt [2, 1, 0] q))).isSome) <;> rfl
theorem refnext_in (hb : SmB b) (hp : SmP p) (h : stt b p = 0) {k : Int} (h0 : 0 ≤ k) (h1 : k < b.Buses) (st : Int) (hst : st ≠ 3) : loopO (dynposref19_Next_L2 b p (ofR b p k) st) 0 = some (match (List.range p.Sources.length).find? (nxP b p (isleOf b p k) st) with | some m => .inr (.inr (.inr ((m : Int), true))) | none => .inl ()) := by
  obtain ⟨⟨hl, hg⟩, ⟨s1, s2, s3⟩, _⟩ := stt_zero.1 h
  have hck : chk b = 0 := chk_zero.2 ⟨hl, hg⟩
  have hsm := hp.2.1
  obtain ⟨m1, m2, _⟩ := isle_sm (p := p) hl (gt (grp b p) k.toNat).toNat
  have hbs : (ofR b p k).2.1 = (isleOf b p k).Buses := by rw [ofR, ofB_in' h h0 h1]
  have key : ∀ i, i < p.Sources.length → (if ((gt p.Sources i).State == st) = true then
      if (!(connB b p (i : Int)).2) = true then
        Option.bind (dynposref15_Broken p 1 (i : Int)) fun x10 =>
          if (!x10) = true then
            Option.bind (dynposref15_Broken p 2 (bk b i : Int)) fun x11 =>
              if (!x11) = true then
                Option.bind (dynposref15_Broken p 3 (gt b.Breakers (bk b i)).A) fun x12 =>
                  if (!x12) = true then Option.bind (dynposref01_Has (ofR b p k).2.1 (gt b.Breakers (bk b i)).A) fun x13 => some x13
                  else some false
              else some false
          else some false
      else some false
    else some false) = some (nxP b p (isleOf b p k) st i) := fun i hi => by
    have ec : connB b p (i : Int) = conn b p (i : Int) := by unfold connB; rw [if_pos h]
    have hn : ∀ (hno : ¬ ((gt p.Sources i).State = st ∧ hlp b p (isleOf b p k) i)), some (nxP b p (isleOf b p k) st i) = some false := fun hno => by unfold nxP; rw [dF hno]
    by_cases a0 : (gt p.Sources i).State = st
    case neg => rw [hn fun hh => a0 hh.1, beqF a0]; rfl
    rw [beqT a0, if_pos rfl, ec]
    simp only [refBroken_eq hp, hbs, has_eq (show Sm (isleOf b p k).Buses from m1)]
    by_cases a1 : (⟨1, (i : Int)⟩ : Part) ∈ p.Broken
    · rw [hn fun hh => hh.2.1.1 a1]
      simp only [dT a1, Option.bind_some, Bool.not_true, Bool.false_eq_true, if_false]
      split <;> rfl
    by_cases a2 : (⟨2, (bk b i : Int)⟩ : Part) ∈ p.Broken
    · rw [hn fun hh => hh.2.1.2.1 a2]
      simp only [dF a1, dT a2, Option.bind_some, Bool.not_true, Bool.not_false, Bool.false_eq_true, if_false, if_true]
      split <;> rfl
    by_cases a3 : (⟨3, (gt b.Breakers (bk b i)).A⟩ : Part) ∈ p.Broken
    · rw [hn fun hh => hh.2.1.2.2 a3]
      simp only [dF a1, dF a2, dT a3, Option.bind_some, Bool.not_true, Bool.not_false, Bool.false_eq_true, if_false, if_true]
      split <;> rfl
    by_cases a4 : (gt b.Breakers (bk b i)).A ∈ (isleOf b p k).Buses
    case neg =>
      rw [hn fun hh => a4 hh.2.2.1]
      simp only [dF a1, dF a2, dF a3, dF a4, Option.bind_some, Bool.not_false, if_true]
      split <;> rfl
    have hon := on_iff (p := p) hg.1 (show i < b.Sources.length by omega) a4
    simp only [dF a1, dF a2, dF a3, dT a4, Option.bind_some, Bool.not_false, if_true]
    cases hc : (conn b p (i : Int)).2 with
    | true =>
      rw [hn fun hh => hh.2.2.2.1 (hon.2 hc)]
      simp only [Bool.not_true, Bool.false_eq_true, if_false]
    | false =>
      have hns : ¬ (i : Int) ∈ (isleOf b p k).Sources := fun hh => by rw [hon.1 hh] at hc; cases hc
      have hh : hlp b p (isleOf b p k) i := ⟨⟨a1, a2, a3⟩, a4, hns, by rw [a0]; exact hst⟩
      unfold nxP
      rw [dT ⟨a0, hh⟩]
      simp only [Bool.not_false, if_true]
  have hf := loop_find (step := dynposref19_Next_L2 b p (ofR b p k) st) (fun i => (i : Int)) p.Sources.length (nxP b p (isleOf b p k) st) (R := fun i => .inr (.inr (.inr ((i : Int), true)))) (e := .inl ())
    (fun i hi hq => by simp only [dynposref19_Next_L2, lt_len hi, if_true, idx_gt hi, Option.bind_some, refFind_eq hb hck (show i < b.Sources.length by omega), show ∀ n : Int, idx [n] 0 = some n from fun _ => rfl, idx_gt (bk_spec hg.1 (show i < b.Sources.length by omega)).1, refconn_eq hb hp, key i hi, hq, Bool.false_eq_true, if_false, W_succ (sm_lt hsm hi)])
    (fun i hi hq => by simp only [dynposref19_Next_L2, lt_len hi, if_true, idx_gt hi, Option.bind_some, refFind_eq hb hck (show i < b.Sources.length by omega), show ∀ n : Int, idx [n] 0 = some n from fun _ => rfl, idx_gt (bk_spec hg.1 (show i < b.Sources.length by omega)).1, refconn_eq hb hp, key i hi, hq])
    (by simp only [dynposref19_Next_L2, nlt_len, Bool.false_eq_true, if_false])
  exact hf
theorem refnext_eq (hb : SmB b) (hp : SmP p) (k : Int) : dynposref19_Next b p k = some (nxtV b p (ofB b p k)) := by
  unfold dynposref19_Next nxtV
  rw [refof_isle hb hp]
  simp only [Option.bind_some]
  cases h2 : (ofB b p k).2 with
  | false =>
    have h2' : (ofR b p k).1 = false := h2
    simp only [h2', Bool.not_false, Bool.false_eq_true, if_true, if_false]
  | true =>
    have h2' : (ofR b p k).1 = true := h2
    obtain ⟨h, h0, h1⟩ := ofB_two h2
    have hin := fun st hst => refnext_in hb hp h h0 h1 st hst
    have hne : ∀ i, i < 3 → gt [2, 1, 0] i ≠ (3 : Int) := fun i hi => by
      match i, hi with
      | 0, _ => decide
      | 1, _ => decide
      | 2, _ => decide
    have hf := loop_find (step := dynposref19_Next_L1 b p (ofR b p k)) (fun i => (i : Int)) 3 (fun q => ((List.range p.Sources.length).find? (nxP b p (isleOf b p k) (gt [2, 1, 0] q))).isSome)
      (R := fun q => .inr ((((List.range p.Sources.length).find? (nxP b p (isleOf b p k) (gt [2, 1, 0] q))).getD 0 : Nat), true)) (e := .inl ())
      (fun i hi hq => by
        have hn : (List.range p.Sources.length).find? (nxP b p (isleOf b p k) (gt [2, 1, 0] i)) = none := by simpa using hq
        simp only [dynposref19_Next_L1, dT (show (i : Int) < 3 by omega), if_true, idx_gt (l := ([2, 1, 0] : List Int)) hi, Option.bind_some, hin _ (hne i hi), hn, Sum.elim_inl, W_succ (show i < 1000000000000000000 by omega)])
      (fun i hi hq => by
        obtain ⟨m, hm⟩ := Option.isSome_iff_exists.1 hq
        simp only [dynposref19_Next_L1, dT (show (i : Int) < 3 by omega), if_true, idx_gt (l := ([2, 1, 0] : List Int)) hi, Option.bind_some, hin _ (hne i hi), hm, Sum.elim_inr, Option.getD_some])
      (by simp only [dynposref19_Next_L1, dF (show ¬ ((3 : Nat) : Int) < 3 by omega), Bool.false_eq_true, if_false])
    have hf' : loopO (dynposref19_Next_L1 b p (ofR b p k)) 0 = _ := hf
    rw [ofB_in' h h0 h1]
    simp only [h2', Bool.not_true, Bool.false_eq_true, if_false, if_true]
    rw [hf']
    cases (List.range 3).find? (fun q => ((List.range p.Sources.length).find? (nxP b p (isleOf b p k) (gt [2, 1, 0] q))).isSome) <;> rfl
end
end Rx
end Go.Proofs.Ytcekgnnekooohaa
