/- Roster: who can help, without whom the load is low, a step. Plain laws. -/
import Derived.Test.YtcekgnnekooohaaY1
set_option linter.unusedVariables false
set_option linter.unusedSimpArgs false
namespace Go.Proofs.Ytcekgnnekooohaa
open Go Go.RowKit Dp
namespace Rx
open Classical

section
variable {b : Board} {p : Power}
theorem isle_sm (hl : Lim b) (f : Nat) : Sm (isle b p f).Buses ∧ Sm (isle b p f).Sources ∧ Sm (isle b p f).Consumers := by
  obtain ⟨h1, h2, h3⟩ := isle_len (b := b) (p := p) f
  have := hl.src
  have := hl.con
  have := hl.bus
  unfold Sm
  omega
/-- who can help an island -/
def hlp (b : Board) (p : Power) (x : Island) (j : Nat) : Prop := (¬ (⟨1, (j : Int)⟩ : Part) ∈ p.Broken ∧ ¬ (⟨2, (bk b j : Int)⟩ : Part) ∈ p.Broken ∧ ¬ (⟨3, (gt b.Breakers (bk b j)).A⟩ : Part) ∈ p.Broken) ∧ (gt b.Breakers (bk b j)).A ∈ x.Buses ∧ ¬ (j : Int) ∈ x.Sources ∧ (gt p.Sources j).State ≠ 3
theorem helps_eq (hb : SmB b) (hp : SmP p) (h : stt b p = 0) {x : Island} (h1 : Sm x.Buses) (h2 : Sm x.Sources) {j : Nat} (hj : j < b.Sources.length) : roster_helps b p x (j : Int) = some (decide (hlp b p x j)) := by
  obtain ⟨⟨hl, hg⟩, ⟨s1, s2, s3⟩, _⟩ := stt_zero.1 h
  obtain ⟨k1, k2, k3⟩ := bk_spec hg.1 hj
  unfold roster_helps
  simp only [breaker_eq hb.1 hg.1 hj, Option.bind_some, idx_gt k1, brkB_eq hp, contains_eq h1, contains_eq h2, idx_gt (show j < p.Sources.length by omega)]
  unfold hlp
  by_cases a1 : (⟨1, (j : Int)⟩ : Part) ∈ p.Broken
  · simp [a1]
  by_cases a2 : (⟨2, (bk b j : Int)⟩ : Part) ∈ p.Broken
  · simp [a1, a2]
  by_cases a3 : (⟨3, (gt b.Breakers (bk b j)).A⟩ : Part) ∈ p.Broken
  · simp [a1, a2, a3]
  by_cases a4 : (gt b.Breakers (bk b j)).A ∈ x.Buses
  case neg => simp [a1, a2, a3, a4]
  by_cases a5 : (j : Int) ∈ x.Sources
  · simp [a1, a2, a3, a4, a5]
  simp only [a1, a2, a3, a4, a5, decide_true, decide_false, Bool.false_eq_true, if_false, if_true, Option.bind_some, Bool.not_false, not_false_eq_true, and_self, true_and]
  congr 1
  by_cases a6 : (gt p.Sources j).State = 3 <;> simp [a6]

theorem l3 {i : Nat} (h : i < 3) : ((i : Int) < len ([2, 1, 0] : List Nat)) = True := by
  have : len ([2, 1, 0] : List Nat) = 3 := rfl
  rw [this]; simp; omega
noncomputable def nxP (b : Board) (p : Power) (x : Island) (st : Int) (i : Nat) : Bool := decide ((gt p.Sources i).State = st ∧ hlp b p x i)
theorem next_in (hb : SmB b) (hp : SmP p) (h : stt b p = 0) {x : Island} (h1 : Sm x.Buses) (h2 : Sm x.Sources) (c : Bool) (st : Int) : loopO (roster_Next_L2 b p (x.Buses, x.Sources, x.Consumers, c) st) 0 = some (match (List.range p.Sources.length).find? (nxP b p x st) with | some m => .inr (.inr (.inr ((m : Int), true))) | none => .inl ()) := by
  obtain ⟨⟨hl, hg⟩, ⟨s1, s2, s3⟩, _⟩ := stt_zero.1 h
  have hsm := hp.2.1
  have key : ∀ i, i < p.Sources.length → (if ((gt p.Sources i).State == st) = true then Option.bind (roster_helps b p (Island.mk x.Buses x.Sources x.Consumers) (i : Int)) fun x6 => some x6 else some false) = some (nxP b p x st i) := fun i hi => by
    unfold nxP
    by_cases hs : (gt p.Sources i).State = st
    · have e : ((gt p.Sources i).State == st) = true := by simpa using hs
      rw [e, if_pos rfl, show (Island.mk x.Buses x.Sources x.Consumers) = x from rfl, helps_eq hb hp h h1 h2 (by omega), Option.bind_some]
      simp [hs]
    · have e : ((gt p.Sources i).State == st) = false := by simpa using hs
      simp [e, hs]
  have hf := loop_find (step := roster_Next_L2 b p (x.Buses, x.Sources, x.Consumers, c) st) (fun i => (i : Int)) p.Sources.length (nxP b p x st) (R := fun i => .inr (.inr (.inr ((i : Int), true)))) (e := .inl ())
    (fun i hi hq => by simp only [roster_Next_L2, lt_len hi, if_true, idx_gt hi, Option.bind_some, key i hi, hq, Bool.false_eq_true, if_false, W_succ (sm_lt hsm hi)])
    (fun i hi hq => by simp only [roster_Next_L2, lt_len hi, if_true, idx_gt hi, Option.bind_some, key i hi, hq])
    (by simp only [roster_Next_L2, nlt_len, Bool.false_eq_true, if_false])
  exact hf
end
end Rx
end Go.Proofs.Ytcekgnnekooohaa
