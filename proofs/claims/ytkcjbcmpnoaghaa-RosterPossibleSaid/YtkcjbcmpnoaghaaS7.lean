/- Together, the independent look at two states, what each command does to who is together. -/
import Derived.Test.YtkcjbcmpnoaghaaS6
set_option linter.unusedVariables false
set_option linter.unusedSimpArgs false
namespace Go.Proofs.Ytkcjbcmpnoaghaa
open Go Go.RowKit Dp
namespace Rx
open Classical
section
variable {b : Board} {p q : Power}
/-- both are connected, to one island -/
def tog (b : Board) (p : Power) (x y : Nat) : Prop := (conn b p (x : Int)).2 = true ∧ (conn b p (y : Int)).2 = true ∧ gt (grp b p) (conn b p (x : Int)).1.toNat = gt (grp b p) (conn b p (y : Int)).1.toNat
/-- two that did not agree were brought together -/
def BadB (b : Board) (p q : Power) : Prop := ∃ x, x < b.Sources.length ∧ ∃ y, y < x ∧ tog b q x y ∧ ¬ tog b p x y ∧ ¬ agr b (gt p.Sources x) (gt p.Sources y)
/-! agreeing -/
theorem agr_symm {x y : Running} (h : agr b x y) : agr b y x := by
  obtain ⟨⟨⟨f1, f2⟩, f3, f4⟩, ⟨f5, f6⟩, f7, f8⟩ := h
  refine ⟨⟨⟨f2, f1⟩, f4, f3⟩, ⟨f6, f5⟩, ?_⟩
  unfold dif at *
  constructor <;> (split at f7 <;> split <;> rename_i g1 g2 <;> (try rw [if_pos g1] at f8) <;> (try rw [if_neg g1] at f8) <;> omega)
theorem agr_congr {x y x' y' : Running} (h : agr b x y) (h1 : x'.Frequency = x.Frequency) (h2 : x'.Phase = x.Phase) (h3 : y'.Frequency = y.Frequency) (h4 : y'.Phase = y.Phase) : agr b x' y' := by
  unfold agr at *
  rw [h1, h2, h3, h4]
  exact h

/-! graphs: one edge more -/
theorem conn_more {E E' : Nat → Nat → Prop} {u v : Nat} (hs : ∀ i j, E i j → E j i) (h : ∀ i j, E' i j → E i j ∨ (i = u ∧ j = v) ∨ (i = v ∧ j = u)) {x y : Nat} (hc : Conn E' x y) : Conn E x y ∨ (Conn E x u ∧ Conn E v y) ∨ (Conn E x v ∧ Conn E u y) := by
  induction hc with
  | refl => exact .inl (.refl _)
  | step e _ ih =>
    rcases h _ _ e with h1 | ⟨h1, h2⟩ | ⟨h1, h2⟩
    · rcases ih with k | ⟨k1, k2⟩ | ⟨k1, k2⟩
      · exact .inl (.step h1 k)
      · exact .inr (.inl ⟨.step h1 k1, k2⟩)
      · exact .inr (.inr ⟨.step h1 k1, k2⟩)
    · subst h1 h2
      rcases ih with k | ⟨k1, k2⟩ | ⟨k1, k2⟩
      · exact .inr (.inl ⟨.refl _, k⟩)
      · exact .inr (.inl ⟨.refl _, k2⟩)
      · exact .inl k2
    · subst h1 h2
      rcases ih with k | ⟨k1, k2⟩ | ⟨k1, k2⟩
      · exact .inr (.inr ⟨.refl _, k⟩)
      · exact .inl k2
      · exact .inr (.inr ⟨.refl _, k2⟩)

/-! who is together -/
theorem tog_iff (h : stt b p = 0) {x y : Nat} : tog b p x y ↔ (conn b p (x : Int)).2 = true ∧ (conn b p (y : Int)).2 = true ∧ Conn (Tied b p) (conn b p (x : Int)).1.toNat (conn b p (y : Int)).1.toNat := by
  obtain ⟨⟨hl, hg⟩, _⟩ := stt_zero.1 h
  constructor
  · rintro ⟨h1, h2, h3⟩
    have a := conn_bd hg.1 h1
    have c := conn_bd hg.1 h2
    exact ⟨h1, h2, (grp_iff hg.1 (by omega) (by omega)).1 h3⟩
  · rintro ⟨h1, h2, h3⟩
    have a := conn_bd hg.1 h1
    have c := conn_bd hg.1 h2
    exact ⟨h1, h2, (grp_iff hg.1 (by omega) (by omega)).2 h3⟩
/-- the leader of the island of a bus stands for all that are connected there -/
theorem lead_at (h : stt b p = 0) (hf : folL b p = p.Sources) {x : Nat} (hx : x < p.Sources.length) (hc : (conn b p (x : Int)).2 = true) {a : Int} (h0 : 0 ≤ a) (h1 : a < b.Buses) (hg : Conn (Tied b p) (conn b p (x : Int)).1.toNat a.toNat) :
    (lead b p a).2 = true ∧ (gt p.Sources x).Frequency = (gt p.Sources (lead b p a).1.toNat).Frequency ∧ (gt p.Sources x).Phase = (gt p.Sources (lead b p a).1.toNat).Phase := by
  obtain ⟨⟨hl, hg0⟩, ⟨s1, s2, s3⟩, _⟩ := stt_zero.1 h
  have c := conn_bd hg0.1 hc
  have e : isleOf b p (conn b p (x : Int)).1 = isleOf b p a := by
    unfold isleOf
    rw [(grp_iff hg0.1 (show (conn b p (x : Int)).1.toNat < b.Buses.toNat by omega) (show a.toNat < b.Buses.toNat by omega)).2 hg]
  obtain ⟨_, hm⟩ := src_isl hg0.1 (show x < b.Sources.length by omega) hc
  rw [e] at hm
  have hne : (ofB b p a).1.Sources ≠ [] := by
    rw [ofB_in' h h0 h1]
    exact List.ne_nil_of_mem hm
  have hld : lead b p a = (gt (isleOf b p a).Sources 0, true) := by
    unfold lead
    rw [if_neg hne, ofB_in' h h0 h1]
  rw [hld]
  refine ⟨rfl, ?_⟩
  have hf' := foll_at hf hx hc
  have : ldr b p x = (gt (isleOf b p a).Sources 0).toNat := by unfold ldr; rw [e]
  rw [this] at hf'
  exact hf'
end
end Rx
end Go.Proofs.Ytkcjbcmpnoaghaa
