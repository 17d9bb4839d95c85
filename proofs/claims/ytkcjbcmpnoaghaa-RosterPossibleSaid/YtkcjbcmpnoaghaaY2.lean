/- Roster: who can help, without whom the load is low, a step. Plain laws. -/
import Derived.Test.YtkcjbcmpnoaghaaY1
set_option linter.unusedVariables false
set_option linter.unusedSimpArgs false
namespace Go.Proofs.Ytkcjbcmpnoaghaa
open Go Go.RowKit Dp
namespace Rx
open Classical

section
variable {b : Board} {p : Power}
theorem isle_sm (hl : Lim b) (f : Nat) : Sm (isle b p f).Buses ∧ Sm (isle b p f).Sources ∧ Sm (isle b p f).Consumers := by
  obtain ⟨h1, h2, h3⟩ := isle_len (b := b) (p := p) f
  have := hl.src
  have := hl.con
  have := hl.bus
  unfold Sm
  omega
/-- who can help an island -/
def hlp (b : Board) (p : Power) (x : Island) (j : Nat) : Prop := (¬ (⟨1, (j : Int)⟩ : Part) ∈ p.Broken ∧ ¬ (⟨2, (bk b j : Int)⟩ : Part) ∈ p.Broken ∧ ¬ (⟨3, (gt b.Breakers (bk b j)).A⟩ : Part) ∈ p.Broken) ∧ (gt b.Breakers (bk b j)).A ∈ x.Buses ∧ ¬ (j : Int) ∈ x.Sources ∧ (gt p.Sources j).State ≠ 3
theorem helps_eq (hb : SmB b) (hp : SmP p) (h : stt b p = 0) {x : Island} (h1 : Sm x.Buses) (h2 : Sm x.Sources) {j : Nat} (hj : j < b.Sources.length) : roster_helps b p x (j : Int) = some (decide (hlp b p x j)) := by
  obtain ⟨⟨hl, hg⟩, ⟨s1, s2, s3⟩, _⟩ := stt_zero.1 h
  obtain ⟨k1, k2, k3⟩ := bk_spec hg.1 hj
  unfold roster_helps
  simp only [breaker_eq hb.1 hg.1 hj, Option.bind_some, idx_gt k1, brkB_eq hp, contains_eq h1, contains_eq h2, idx_gt (show j < p.Sources.length by omega)]
  unfold hlp
  by_cases a1 : (⟨1, (j : Int)⟩ : Part) ∈ p.Broken
  · simp [a1]
  by_cases a2 : (⟨2, (bk b j : Int)⟩ : Part) ∈ p.Broken
  · simp [a1, a2]
  by_cases a3 : (⟨3, (gt b.Breakers (bk b j)).A⟩ : Part) ∈ p.Broken
  · simp [a1, a2, a3]
  by_cases a4 : (gt b.Breakers (bk b j)).A ∈ x.Buses
  case neg => simp [a1, a2, a3, a4]
  by_cases a5 : (j : Int) ∈ x.Sources
  · simp [a1, a2, a3, a4, a5]
  simp only [a1, a2, a3, a4, a5, decide_true, decide_false, Bool.false_eq_true, if_false, if_true, Option.bind_some, Bool.not_false, not_false_eq_true, and_self, true_and]
  congr 1
  by_cases a6 : (gt p.Sources j).State = 3 <;> simp [a6]

theorem l3 {i : Nat} (h : i < 3) : ((i : Int) < len ([2, 1, 0] : List Nat)) = True := by
  have : len ([2, 1, 0] : List Nat) = 3 := rfl
  rw [this]; simp; omega
noncomputable def nxP (b : Board) (p : Power) (x : Island) (st : Int) (i : Nat) : Bool := decide ((gt p.Sources i).State = st ∧ hlp b p x i)
theorem next_in (hb : SmB b) (hp : SmP p) (h : stt b p = 0) {x : Island} (h1 : Sm x.Buses) (h2 : Sm x.Sources) (c : Bool) (st : Int) : loopO (roster_Next_L2 b p (x.Buses, x.Sources, x.Consumers, c) st) 0 = some (match (List.range p.Sources.length).find? (nxP b p x st) with | some m => .inr (.inr (.inr ((m : Int), true))) | none => .inl ()) := by
  obtain ⟨⟨hl, hg⟩, ⟨s1, s2, s3⟩, _⟩ := stt_zero.1 h
  have hsm := hp.2.1
  have key : ∀ i, i < p.Sources.length → (if ((gt p.Sources i).State == st) = true then Option.bind (roster_helps b p (Island.mk x.Buses x.Sources x.Consumers) (i : Int)) fun x6 => some x6 else some false) = some (nxP b p x st i) := fun i hi => by
    unfold nxP
    by_cases hs : (gt p.Sources i).State = st
    · have e : ((gt p.Sources i).State == st) = true := by simpa using hs
      rw [e, if_pos rfl, show (Island.mk x.Buses x.Sources x.Consumers) = x from rfl, helps_eq hb hp h h1 h2 (by omega), Option.bind_some]
      simp [hs]
    · have e : ((gt p.Sources i).State == st) = false := by simpa using hs
      simp [e, hs]
  have hf := loop_find (step := roster_Next_L2 b p (x.Buses, x.Sources, x.Consumers, c) st) (fun i => (i : Int)) p.Sources.length (nxP b p x st) (R := fun i => .inr (.inr (.inr ((i : Int), true)))) (e := .inl ())
    (fun i hi hq => by simp only [roster_Next_L2, lt_len hi, if_true, idx_gt hi, Option.bind_some, key i hi, hq, Bool.false_eq_true, if_false, W_succ (sm_lt hsm hi)])
    (fun i hi hq => by simp only [roster_Next_L2, lt_len hi, if_true, idx_gt hi, Option.bind_some, key i hi, hq])
    (by simp only [roster_Next_L2, nlt_len, Bool.false_eq_true, if_false])
  exact hf
/-- what is known of the next one -/
def NextOk (b : Board) (p : Power) (x : Island) (j : Nat) : Prop := j < b.Sources.length ∧ hlp b p x j ∧ ∀ i, i < b.Sources.length → (gt p.Sources i).State = 2 → hlp b p x i → (gt p.Sources j).State = 2 ∧ j ≤ i
theorem wpNext (hb : SmB b) (hp : SmP p) (h : stt b p = 0) {k : Int} (h0 : 0 ≤ k) (h1 : k < b.Buses) : Wp (roster_Next b p k) fun r => r.2 = true → ∃ j : Nat, r.1 = (j : Int) ∧ NextOk b p (isleOf b p k) j := by
  obtain ⟨⟨hl, hg⟩, ⟨s1, s2, s3⟩, _⟩ := stt_zero.1 h
  obtain ⟨m1, m2, _⟩ := isle_sm (p := p) hl (gt (grp b p) k.toNat).toNat
  have ho : board_Of b p k = some ((isleOf b p k).Buses, (isleOf b p k).Sources, (isleOf b p k).Consumers, true) := by
    rw [of_eq hb hp, ofT, ofB_in' h h0 h1]
  have hin := fun st => next_in hb hp h (x := isleOf b p k) m1 m2 true st
  have hf := loop_find (step := roster_Next_L1 b p ((isleOf b p k).Buses, (isleOf b p k).Sources, (isleOf b p k).Consumers, true)) (fun i => (i : Int)) 3 (fun q => ((List.range p.Sources.length).find? (nxP b p (isleOf b p k) (gt [2, 1, 0] q))).isSome)
    (R := fun q => .inr ((((List.range p.Sources.length).find? (nxP b p (isleOf b p k) (gt [2, 1, 0] q))).getD 0 : Nat), true)) (e := .inl ())
    (fun i hi hq => by
      have hn : (List.range p.Sources.length).find? (nxP b p (isleOf b p k) (gt [2, 1, 0] i)) = none := by simpa using hq
      simp only [roster_Next_L1, l3 hi, decide_true, if_true, idx_gt (l := ([2, 1, 0] : List Int)) hi, Option.bind_some, hin, hn, Sum.elim_inl, W_succ (show i < 1000000000000000000 by omega)])
    (fun i hi hq => by
      obtain ⟨m, hm⟩ := Option.isSome_iff_exists.1 hq
      simp only [roster_Next_L1, l3 hi, decide_true, if_true, idx_gt (l := ([2, 1, 0] : List Int)) hi, Option.bind_some, hin, hm, Sum.elim_inr, Option.getD_some])
    (by simp only [roster_Next_L1, show decide (((3 : Nat) : Int) < len ([2, 1, 0] : List Nat)) = false from rfl, Bool.false_eq_true, if_false])
  have hf' : loopO (roster_Next_L1 b p ((isleOf b p k).Buses, (isleOf b p k).Sources, (isleOf b p k).Consumers, true)) 0 = _ := hf
  unfold roster_Next
  rw [ho]
  simp only [Option.bind_some, Bool.not_true, Bool.false_eq_true, if_false]
  rw [hf']
  cases hc : (List.range 3).find? (fun q => ((List.range p.Sources.length).find? (nxP b p (isleOf b p k) (gt [2, 1, 0] q))).isSome) with
  | none => exact wp_some.2 (fun h => by cases h)
  | some q =>
    refine wp_some.2 fun _ => ?_
    have hq := List.find?_some (p := fun q => ((List.range p.Sources.length).find? (nxP b p (isleOf b p k) (gt [2, 1, 0] q))).isSome) hc
    obtain ⟨m, hm⟩ := Option.isSome_iff_exists.1 hq
    have m1 := List.mem_range.1 (List.mem_of_find?_eq_some hm)
    have m2 : nxP b p (isleOf b p k) (gt [2, 1, 0] q) m = true := List.find?_some (p := nxP b p (isleOf b p k) (gt [2, 1, 0] q)) hm
    unfold nxP at m2
    have m2 := of_decide_eq_true m2
    rw [hm]
    refine ⟨m, rfl, by omega, m2.2, fun i hi hs hh => ?_⟩
    have hi' : i < p.Sources.length := by omega
    have h0 : ((List.range p.Sources.length).find? (nxP b p (isleOf b p k) (gt [2, 1, 0] 0))).isSome = true := by
      rw [List.find?_isSome]
      exact ⟨i, List.mem_range.2 hi', by unfold nxP; exact decide_eq_true ⟨hs, hh⟩⟩
    have hq0 : q = 0 := by
      have hr : (List.range 3) = [0, 1, 2] := rfl
      rw [hr, List.find?_cons, h0] at hc
      exact (Option.some.inj hc).symm
    subst hq0
    refine ⟨m2.1, ?_⟩
    apply Classical.byContradiction
    intro hlt
    have := List.find?_range_eq_some.1 hm
    have h5 := this.2.2 i (by omega)
    unfold nxP at h5
    simp [hs, hh] at h5
    exact h5 rfl
end
end Rx
end Go.Proofs.Ytkcjbcmpnoaghaa
