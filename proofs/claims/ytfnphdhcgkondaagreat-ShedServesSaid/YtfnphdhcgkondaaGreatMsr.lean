/- The source of numbers. Plain laws. Graphs on the numbers below n: who reaches whom, and that n steps are enough. Nothing here names a program. -/
import Derived.Test.YtfnphdhcgkondaaGreatM1
import Derived.Test.YtfnphdhcgkondaaGreatPg
set_option linter.unusedVariables false
set_option linter.unusedSimpArgs false
namespace Go.Proofs.YtfnphdhcgkondaaGreat
open Go Go.RowKit Dp
namespace Rx

theorem Wp.ite {α : Type} {c : Bool} {a b : Option α} {Q : α → Prop} (ha : c = true → Wp a Q) (hb : c = false → Wp b Q) : Wp (if c = true then a else b) Q := by
  cases c with
  | true => exact ha rfl
  | false => exact hb rfl
/-- a source's list and place -/
def Sr (l : List Int) (a : Int) : Prop := 0 ≤ a ∧ l.length ≤ 1000000 ∧ a ≤ l.length
theorem mod_eq {x n : Int} (h1 : 1 ≤ n) (h2 : n ≤ 1000000000000) : dynposmake_Mod x n = some ((x.tmod n + n) % n) := by
  have hm1 : -n < x.tmod n := by
    have := Int.lt_tmod_of_pos x (b := n) (by omega)
    omega
  have hm2 : x.tmod n < n := Int.tmod_lt_of_pos x (by omega)
  unfold dynposmake_Mod
  have e1 : remO x n = some (x.tmod n) := by unfold remO; rw [if_neg (by omega)]
  rw [dF (c := n < 1) (by omega)]
  simp only [Bool.false_eq_true, if_false, e1, Option.bind_some, Option.bind_fun_some]
  rw [W_sm (by omega) (by omega), remO_nn (by omega) (by omega)]
theorem wpN {l : List Int} {a n : Int} (hs : Sr l a) (h1 : 1 ≤ n) (h2 : n ≤ 1000000000000) : Wp (Src_N ⟨l, a⟩ n) fun r => (0 ≤ r.1 ∧ r.1 < n) ∧ Sr r.2.1 r.2.2 := by
  obtain ⟨s1, s2, s3⟩ := hs
  unfold Src_N
  simp only
  refine Wp.ite (fun h => wp_some.2 ⟨⟨Int.le_refl _, by simp only; omega⟩, s1, s2, s3⟩) fun h => ?_
  have h' : a < l.length := by have := of_decide_eq_false h; unfold len at this; omega
  have e1 : W (W (a + 1) - 1) = a := by rw [W_sm (x := a + 1) (by omega) (by omega), W_sm (by omega) (by omega)]; omega
  rw [e1, idx_gtZ s1 h']
  simp only [Option.bind_some, mod_eq h1 h2, W_sm (x := a + 1) (by omega) (by omega)]
  exact wp_some.2 ⟨⟨Int.emod_nonneg _ (by omega), Int.emod_lt_of_pos _ (by omega)⟩, by simp only; omega, s2, by simp only; omega⟩
theorem wpRange {l : List Int} {a lo hi : Int} (hs : Sr l a) (h : lo ≤ hi) (h1 : -1000000000000 ≤ lo) (h2 : hi ≤ 100000000000) (h3 : hi - lo + 1 ≤ 1000000000000) : Wp (Src_Range ⟨l, a⟩ lo hi) fun r => (lo ≤ r.1 ∧ r.1 ≤ hi) ∧ Sr r.2.1 r.2.2 := by
  unfold Src_Range
  have e1 : W (hi - lo) = hi - lo := W_sm (by omega) (by omega)
  have e2 : W (hi - lo + 1) = hi - lo + 1 := W_sm (by omega) (by omega)
  simp only [e1, e2]
  refine (wpN hs (n := hi - lo + 1) (by omega) (by omega)).bind fun y hy => ?_
  obtain ⟨y, l', a'⟩ := y
  simp only at hy ⊢
  rw [W_sm (by omega) (by omega)]
  exact wp_some.2 ⟨⟨by simp only; omega, by simp only; omega⟩, hy.2⟩
theorem wpPick {l : List Int} {a : Int} {w : List Int} (hs : Sr l a) (h0 : w ≠ []) (hl : w.length ≤ 1000000) : Wp (Src_Pick ⟨l, a⟩ w) fun r => r.1 ∈ w ∧ Sr r.2.1 r.2.2.1 := by
  unfold Src_Pick
  have hp : 0 < w.length := List.length_pos_iff.2 h0
  refine (wpN hs (n := len w) (by unfold len; omega) (by unfold len; omega)).bind fun y hy => ?_
  obtain ⟨y, l', a'⟩ := y
  simp only at hy ⊢
  unfold len at hy
  rw [idx_gtZ hy.1.1 hy.1.2]
  exact wp_some.2 ⟨gt_mem (by omega), hy.2⟩
theorem wpNew (t : List Int) : Wp (dynposmake_New t) fun r => Sr r.1 r.2 := by
  unfold dynposmake_New
  have e : slc t 0 (imin (len t) 600) = some (t.take (imin (len t) 600).toNat) := by
    unfold slc imin len
    rw [if_pos (by split <;> omega)]
    simp
  rw [e]
  refine wp_some.2 ⟨Int.le_refl _, ?_, by simp only; omega⟩
  simp only [List.length_take]
  unfold imin
  split <;> omega
end Rx
end Go.Proofs.YtfnphdhcgkondaaGreat
namespace Go.Proofs.YtfnphdhcgkondaaGreat
open Go Go.RowKit
open Classical

namespace Dp

/-- joined by edges, in either direction -/
inductive Conn (E : Nat → Nat → Prop) : Nat → Nat → Prop
  | refl (i : Nat) : Conn E i i
  | step {i j k : Nat} : E i j → Conn E j k → Conn E i k
/-- joined by at most r edges -/
inductive Walk (E : Nat → Nat → Prop) : Nat → Nat → Nat → Prop
  | refl (r i : Nat) : Walk E r i i
  | step {r i j k : Nat} : E i j → Walk E r j k → Walk E (r + 1) i k

section
variable {E E' : Nat → Nat → Prop} {n : Nat}
theorem Conn.trans {i j k : Nat} (h : Conn E i j) (h' : Conn E j k) : Conn E i k := by
  induction h with
  | refl => exact h'
  | step e _ ih => exact .step e (ih h')
theorem Conn.one {i j : Nat} (h : E i j) : Conn E i j := .step h (.refl _)
theorem Conn.symm (hs : ∀ i j, E i j → E j i) {i j : Nat} (h : Conn E i j) : Conn E j i := by
  induction h with
  | refl => exact .refl _
  | step e _ ih => exact ih.trans (.one (hs _ _ e))
theorem Conn.mono (he : ∀ i j, E i j → E' i j) {i j : Nat} (h : Conn E i j) : Conn E' i j := by
  induction h with
  | refl => exact .refl _
  | step e _ ih => exact .step (he _ _ e) ih
theorem Walk.conn {r i j : Nat} (h : Walk E r i j) : Conn E i j := by
  induction h with
  | refl => exact .refl _
  | step e _ ih => exact .step e ih
theorem Walk.more {r r' i j : Nat} (h : Walk E r i j) (hr : r ≤ r') : Walk E r' i j := by
  induction h generalizing r' with
  | refl => exact .refl _ _
  | step e _ ih =>
    cases r' with
    | zero => omega
    | succ r' => exact .step e (ih (by omega))
theorem Walk.snoc {r i j k : Nat} (h : Walk E r i j) (e : E j k) : Walk E (r + 1) i k := by
  induction h with
  | refl r i => exact .step e (.refl _ _)
  | step e' _ ih => exact .step e' (ih e)
theorem Walk.zero {i j : Nat} (h : Walk E 0 i j) : i = j := by cases h; rfl
theorem Walk.last {r i k : Nat} (h : Walk E (r + 1) i k) : Walk E r i k ∨ ∃ j, Walk E r i j ∧ E j k := by
  generalize hm : r + 1 = m at h
  induction h generalizing r with
  | refl => exact .inl (.refl _ _)
  | @step r' i j k e w ih =>
    cases r' with
    | zero =>
      have : r = 0 := by omega
      subst this
      have := w.zero
      subst this
      exact .inr ⟨i, .refl _ _, e⟩
    | succ r'' =>
      have : r = r'' + 1 := by omega
      subst this
      rcases ih rfl with h | ⟨j', h1, h2⟩
      · exact .inl (.step e h)
      · exact .inr ⟨j', .step e h1, h2⟩

/-- how many are reached within r edges -/
noncomputable def reachN (E : Nat → Nat → Prop) (n r i : Nat) : Nat := ((List.range n).filter fun j => decide (Walk E r i j)).length
theorem filter_le_of {p q : Nat → Bool} (h : ∀ x, p x = true → q x = true) : ∀ l : List Nat, (l.filter p).length ≤ (l.filter q).length
  | [] => Nat.le_refl _
  | x :: l => by
    have ih := filter_le_of h l
    by_cases hp : p x = true
    · rw [List.filter_cons_of_pos hp, List.filter_cons_of_pos (h x hp)]; simpa using ih
    · rw [List.filter_cons_of_neg hp]
      by_cases hq : q x = true
      · rw [List.filter_cons_of_pos hq]; simp; omega
      · rw [List.filter_cons_of_neg hq]; exact ih
theorem filter_eq_of {p q : Nat → Bool} (h : ∀ x, p x = true → q x = true) : ∀ l : List Nat, (l.filter p).length = (l.filter q).length → ∀ x ∈ l, q x = true → p x = true
  | [], _, x, hx, _ => by cases hx
  | y :: l, he, x, hx, hq => by
    have hle := filter_le_of h l
    by_cases hp : p y = true
    · rw [List.filter_cons_of_pos hp, List.filter_cons_of_pos (h y hp)] at he
      rcases List.mem_cons.1 hx with rfl | hx
      · exact hp
      · exact filter_eq_of h l (by simpa using he) x hx hq
    · rw [List.filter_cons_of_neg hp] at he
      by_cases hq' : q y = true
      · rw [List.filter_cons_of_pos hq'] at he
        simp at he
        omega
      · rw [List.filter_cons_of_neg hq'] at he
        rcases List.mem_cons.1 hx with rfl | hx
        · exact (hq' hq).elim
        · exact filter_eq_of h l he x hx hq
theorem reachN_le (r i : Nat) : reachN E n r i ≤ n := by
  unfold reachN
  refine Nat.le_trans (List.length_filter_le _ _) ?_
  simp
/-- once nothing is added, nothing is added any more -/
theorem stable (hE : ∀ i j, E i j → j < n) {r i : Nat} (hi : i < n) (h : reachN E n r i = reachN E n (r + 1) i) : ∀ m j, Walk E (r + m) i j → Walk E r i j := by
  have h1 : ∀ j, j < n → Walk E (r + 1) i j → Walk E r i j := by
    intro j hj hw
    have := filter_eq_of (p := fun j => decide (Walk E r i j)) (q := fun j => decide (Walk E (r + 1) i j)) (fun x hx => decide_eq_true ((of_decide_eq_true hx).more (by omega))) (List.range n) h j (List.mem_range.2 hj) (decide_eq_true hw)
    exact of_decide_eq_true this
  intro m
  induction m with
  | zero => intro j h; exact h
  | succ m ih =>
    intro j hw
    rcases Walk.last (r := r + m) hw with h2 | ⟨k, h2, h3⟩
    · exact ih j h2
    · exact h1 j (hE _ _ h3) ((ih k h2).snoc h3)
/-- n - 1 edges are enough -/
theorem Conn.walk (hE : ∀ i j, E i j → j < n) {i j : Nat} (hi : i < n) (h : Conn E i j) : Walk E (n - 1) i j := by
  have hsome : ∃ m, Walk E m i j := by
    induction h with
    | refl => exact ⟨0, .refl _ _⟩
    | step e _ ih =>
      obtain ⟨m, hm⟩ := ih (hE _ _ e)
      exact ⟨m + 1, .step e hm⟩
  obtain ⟨m, hm⟩ := hsome
  -- some round adds nothing
  have : ∃ r, r ≤ n - 1 ∧ reachN E n r i = reachN E n (r + 1) i := by
    apply Classical.byContradiction
    intro hn
    have hgrow : ∀ r, r ≤ n → r + 1 ≤ reachN E n r i := by
      intro r
      induction r with
      | zero =>
        intro _
        unfold reachN
        have : i ∈ (List.range n).filter fun j => decide (Walk E 0 i j) := List.mem_filter.2 ⟨List.mem_range.2 hi, decide_eq_true (.refl _ _)⟩
        exact List.length_pos_of_mem this
      | succ r ih =>
        intro hr
        have h1 := ih (by omega)
        have h2 : reachN E n r i ≤ reachN E n (r + 1) i := filter_le_of (fun x hx => decide_eq_true ((of_decide_eq_true hx).more (by omega))) _
        have h3 : reachN E n r i ≠ reachN E n (r + 1) i := fun e => hn ⟨r, by omega, e⟩
        omega
    have h4 := hgrow n (Nat.le_refl _)
    have h5 := reachN_le (E := E) (n := n) n i
    omega
  obtain ⟨r, hr, he⟩ := this
  have h6 : Walk E r i j := stable hE hi he m j (hm.more (by omega))
  exact h6.more hr
end
end Dp
end Go.Proofs.YtfnphdhcgkondaaGreat
