/- Together, the independent look at two states, what each command does to who is together. -/
import Derived.Test.YtkohjagmjnpdnaaGreatS6
set_option linter.unusedVariables false
set_option linter.unusedSimpArgs false
namespace Go.Proofs.YtkohjagmjnpdnaaGreat
open Go Go.RowKit Dp
namespace Rx
open Classical
section
variable {b : Board} {p q : Power}
/-- both are connected, to one island -/
def tog (b : Board) (p : Power) (x y : Nat) : Prop := (conn b p (x : Int)).2 = true ∧ (conn b p (y : Int)).2 = true ∧ gt (grp b p) (conn b p (x : Int)).1.toNat = gt (grp b p) (conn b p (y : Int)).1.toNat
theorem tog_eq (hb : SmB b) (hp : SmP p) (h : stt b p = 0) {x y : Nat} (hy : y < b.Sources.length) : sync_together b p (x : Int) (y : Int) = some (dB (tog b p x y)) := by
  obtain ⟨⟨hl, hg⟩, ⟨s1, s2, s3⟩, _⟩ := stt_zero.1 h
  have hc : connB b p (x : Int) = conn b p (x : Int) := by unfold connB; rw [if_pos h]
  unfold sync_together
  simp only [connB_eq hb hp, hc, Option.bind_some, Option.bind_fun_some, of_eq hb hp]
  cases hv : (conn b p (x : Int)).2 with
  | false =>
    simp only [Bool.not_false, if_true]
    rw [dB_F (fun hn => by rw [hn.1] at hv; cases hv)]
  | true =>
    obtain ⟨c0, c1⟩ := conn_bd hg.1 hv
    have ho : (ofT b p (conn b p (x : Int)).1).2.1 = (isleOf b p (conn b p (x : Int)).1).Sources := by
      show (ofB b p _).1.Sources = _
      rw [ofB_in' h c0 c1]
    have hsm : Sm (isleOf b p (conn b p (x : Int)).1).Sources := by
      have h4 : (isleOf b p (conn b p (x : Int)).1).Sources.length ≤ b.Sources.length := (isle_len (b := b) (p := p) (gt (grp b p) (conn b p (x : Int)).1.toNat).toNat).2.1
      have := hl.src
      unfold Sm; omega
    simp only [Bool.not_true, Bool.false_eq_true, if_false, ho, contains_eq hsm]
    congr 1
    refine dB_eq ?_
    rw [decide_eq_true_eq]
    have hgb := (grp_bd hg.1 (p := p) (show (conn b p (x : Int)).1.toNat < b.Buses.toNat by omega)).1
    constructor
    · intro hm
      obtain ⟨j, hj, h1, h2, e⟩ := mem_src.1 hm
      have : y = j := by omega
      subst this
      exact ⟨hv, h1, by rw [h2]; omega⟩
    · rintro ⟨_, h1, h2⟩
      exact mem_src.2 ⟨y, hy, h1, by rw [← h2]; omega, rfl⟩
/-- two that did not agree were brought together -/
def BadB (b : Board) (p q : Power) : Prop := ∃ x, x < b.Sources.length ∧ ∃ y, y < x ∧ tog b q x y ∧ ¬ tog b p x y ∧ ¬ agr b (gt p.Sources x) (gt p.Sources y)
theorem bad_eq (hb : SmB b) (hp : SmP p) (hq : SmP q) (h : stt b p = 0) (h' : stt b q = 0) : sync_Bad b p q = some (dB (BadB b p q)) := by
  obtain ⟨⟨hl, hg⟩, ⟨s1, s2, s3⟩, g1, g2, g3⟩ := stt_zero.1 h
  have hsl := hl.src
  have inner : ∀ x, x < b.Sources.length → loopO (sync_Bad_L2 b p q (x : Int)) 0 = some (cond (dB (∃ y, y < x ∧ (tog b q x y ∧ ¬ tog b p x y ∧ ¬ agr b (gt p.Sources x) (gt p.Sources y)))) (.inr (.inr (.inr true))) (.inl ())) := by
    intro x hx
    have key : ∀ y, y < x → sync_Bad_L2 b p q (x : Int) (y : Int) = if tog b q x y ∧ ¬ tog b p x y ∧ ¬ agr b (gt p.Sources x) (gt p.Sources y) then some (.inr (.inr (.inr (.inr true)))) else some (.inl ((y + 1 : Nat) : Int)) := by
      intro y hy
      have ha := agree_eq (b := b) (SmR.of (g2 x (by omega))) (SmR.of (g2 y (by omega)))
      simp only [sync_Bad_L2, dT (show (y : Int) < (x : Int) by omega), if_true, tog_eq hb hq h' (show y < b.Sources.length by omega), tog_eq hb hp h (show y < b.Sources.length by omega), Option.bind_some, idx_gt (show x < p.Sources.length by omega), idx_gt (show y < p.Sources.length by omega), ha, W_succ (show y < 1000000000000000000 by omega)]
      by_cases h1 : tog b q x y
      · by_cases h2 : tog b p x y
        · simp only [dB_T h1, dB_T h2, if_true, Bool.not_true, Bool.false_eq_true, if_false, Option.bind_some]
          rw [if_neg (fun hn => hn.2.1 h2)]
        · by_cases h3 : agr b (gt p.Sources x) (gt p.Sources y)
          · simp only [dB_T h1, dB_F h2, dT h3, if_true, Bool.not_true, Bool.not_false, Bool.false_eq_true, if_false, Option.bind_some]
            rw [if_neg (fun hn => hn.2.2 h3)]
          · simp only [dB_T h1, dB_F h2, dF h3, if_true, Bool.not_true, Bool.not_false, Bool.false_eq_true, if_false, Option.bind_some]
            rw [if_pos ⟨h1, h2, h3⟩]
      · simp only [dB_F h1, Bool.false_eq_true, if_false, Option.bind_some]
        rw [if_neg (fun hn => h1 hn.1)]
    exact loop_anyB (step := sync_Bad_L2 b p q (x : Int)) (r := .inr (.inr (.inr true))) (e := .inl ()) (fun k => (k : Int)) x (fun y => tog b q x y ∧ ¬ tog b p x y ∧ ¬ agr b (gt p.Sources x) (gt p.Sources y)) (fun y hy hn => by rw [key y hy, if_neg hn]) (fun y hy hn => by rw [key y hy, if_pos hn]) (by simp only [sync_Bad_L2, dF (show ¬ (x : Int) < (x : Int) by omega), Bool.false_eq_true, if_false])
  have outer : loopO (sync_Bad_L1 b p q) 0 = some (cond (dB (BadB b p q)) (.inr true) (.inl ())) := by
    have key : ∀ x, x < b.Sources.length → sync_Bad_L1 b p q (x : Int) = cond (dB (∃ y, y < x ∧ (tog b q x y ∧ ¬ tog b p x y ∧ ¬ agr b (gt p.Sources x) (gt p.Sources y)))) (some (.inr (.inr true))) (some (.inl ((x + 1 : Nat) : Int))) := by
      intro x hx
      simp only [sync_Bad_L1, lt_len hx, if_true, inner x hx, Option.bind_some, W_succ (show x < 1000000000000000000 by omega)]
      by_cases hn : ∃ y, y < x ∧ (tog b q x y ∧ ¬ tog b p x y ∧ ¬ agr b (gt p.Sources x) (gt p.Sources y))
      · rw [dB_T hn]; rfl
      · rw [dB_F hn]; rfl
    exact loop_anyB (step := sync_Bad_L1 b p q) (r := .inr true) (e := .inl ()) (fun k => (k : Int)) b.Sources.length (fun x => ∃ y, y < x ∧ (tog b q x y ∧ ¬ tog b p x y ∧ ¬ agr b (gt p.Sources x) (gt p.Sources y))) (fun x hx hn => by rw [key x hx, dB_F hn]; rfl) (fun x hx hn => by rw [key x hx, dB_T hn]; rfl) (by simp only [sync_Bad_L1, nlt_len, Bool.false_eq_true, if_false])
  unfold sync_Bad
  have e : (stt b p != 0) = false := by rw [h]; rfl
  have e' : (stt b q != 0) = false := by rw [h']; rfl
  simp only [state_eq hb hp, state_eq hb hq, Option.bind_some, e, e', Bool.false_eq_true, if_false, outer]
  by_cases hn : BadB b p q
  · rw [dB_T hn]; rfl
  · rw [dB_F hn]; rfl

/-! agreeing -/
theorem agr_symm {x y : Running} (h : agr b x y) : agr b y x := by
  obtain ⟨⟨⟨f1, f2⟩, f3, f4⟩, ⟨f5, f6⟩, f7, f8⟩ := h
  refine ⟨⟨⟨f2, f1⟩, f4, f3⟩, ⟨f6, f5⟩, ?_⟩
  unfold dif at *
  constructor <;> (split at f7 <;> split <;> rename_i g1 g2 <;> (try rw [if_pos g1] at f8) <;> (try rw [if_neg g1] at f8) <;> omega)
theorem agr_congr {x y x' y' : Running} (h : agr b x y) (h1 : x'.Frequency = x.Frequency) (h2 : x'.Phase = x.Phase) (h3 : y'.Frequency = y.Frequency) (h4 : y'.Phase = y.Phase) : agr b x' y' := by
  unfold agr at *
  rw [h1, h2, h3, h4]
  exact h

/-! graphs: one edge more -/
theorem conn_more {E E' : Nat → Nat → Prop} {u v : Nat} (hs : ∀ i j, E i j → E j i) (h : ∀ i j, E' i j → E i j ∨ (i = u ∧ j = v) ∨ (i = v ∧ j = u)) {x y : Nat} (hc : Conn E' x y) : Conn E x y ∨ (Conn E x u ∧ Conn E v y) ∨ (Conn E x v ∧ Conn E u y) := by
  induction hc with
  | refl => exact .inl (.refl _)
  | step e _ ih =>
    rcases h _ _ e with h1 | ⟨h1, h2⟩ | ⟨h1, h2⟩
    · rcases ih with k | ⟨k1, k2⟩ | ⟨k1, k2⟩
      · exact .inl (.step h1 k)
      · exact .inr (.inl ⟨.step h1 k1, k2⟩)
      · exact .inr (.inr ⟨.step h1 k1, k2⟩)
    · subst h1 h2
      rcases ih with k | ⟨k1, k2⟩ | ⟨k1, k2⟩
      · exact .inr (.inl ⟨.refl _, k⟩)
      · exact .inr (.inl ⟨.refl _, k2⟩)
      · exact .inl k2
    · subst h1 h2
      rcases ih with k | ⟨k1, k2⟩ | ⟨k1, k2⟩
      · exact .inr (.inr ⟨.refl _, k⟩)
      · exact .inl k2
      · exact .inr (.inr ⟨.refl _, k2⟩)

/-! who is together -/
theorem tog_iff (h : stt b p = 0) {x y : Nat} : tog b p x y ↔ (conn b p (x : Int)).2 = true ∧ (conn b p (y : Int)).2 = true ∧ Conn (Tied b p) (conn b p (x : Int)).1.toNat (conn b p (y : Int)).1.toNat := by
  obtain ⟨⟨hl, hg⟩, _⟩ := stt_zero.1 h
  constructor
  · rintro ⟨h1, h2, h3⟩
    have a := conn_bd hg.1 h1
    have c := conn_bd hg.1 h2
    exact ⟨h1, h2, (grp_iff hg.1 (by omega) (by omega)).1 h3⟩
  · rintro ⟨h1, h2, h3⟩
    have a := conn_bd hg.1 h1
    have c := conn_bd hg.1 h2
    exact ⟨h1, h2, (grp_iff hg.1 (by omega) (by omega)).2 h3⟩
/-- the leader of the island of a bus stands for all that are connected there -/
theorem lead_at (h : stt b p = 0) (hf : folL b p = p.Sources) {x : Nat} (hx : x < p.Sources.length) (hc : (conn b p (x : Int)).2 = true) {a : Int} (h0 : 0 ≤ a) (h1 : a < b.Buses) (hg : Conn (Tied b p) (conn b p (x : Int)).1.toNat a.toNat) :
    (lead b p a).2 = true ∧ (gt p.Sources x).Frequency = (gt p.Sources (lead b p a).1.toNat).Frequency ∧ (gt p.Sources x).Phase = (gt p.Sources (lead b p a).1.toNat).Phase := by
  obtain ⟨⟨hl, hg0⟩, ⟨s1, s2, s3⟩, _⟩ := stt_zero.1 h
  have c := conn_bd hg0.1 hc
  have e : isleOf b p (conn b p (x : Int)).1 = isleOf b p a := by
    unfold isleOf
    rw [(grp_iff hg0.1 (show (conn b p (x : Int)).1.toNat < b.Buses.toNat by omega) (show a.toNat < b.Buses.toNat by omega)).2 hg]
  obtain ⟨_, hm⟩ := src_isl hg0.1 (show x < b.Sources.length by omega) hc
  rw [e] at hm
  have hne : (ofB b p a).1.Sources ≠ [] := by
    rw [ofB_in' h h0 h1]
    exact List.ne_nil_of_mem hm
  have hld : lead b p a = (gt (isleOf b p a).Sources 0, true) := by
    unfold lead
    rw [if_neg hne, ofB_in' h h0 h1]
  rw [hld]
  refine ⟨rfl, ?_⟩
  have hf' := foll_at hf hx hc
  have : ldr b p x = (gt (isleOf b p a).Sources 0).toNat := by unfold ldr; rw [e]
  rw [this] at hf'
  exact hf'
end
end Rx
end Go.Proofs.YtkohjagmjnpdnaaGreat
