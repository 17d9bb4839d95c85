/- Shares: who comes first in the sort, and what each gets. -/
import Derived.Test.YtnpghnnlcakbfaaLawBal2
namespace Go.Proofs.Ytnpghnnlcakbfaa
open Go Go.RowKit Dp

/-- the sort's step, on the front part turned round -/
def insR (lt : Int → Int → Bool) (x : Int) : List Int → List Int
  | [] => [x]
  | y :: l => if lt x y = true then y :: insR lt x l else x :: y :: l
theorem insR_len (lt : Int → Int → Bool) (x : Int) : ∀ l : List Int, (insR lt x l).length = l.length + 1
  | [] => rfl
  | y :: l => by
    unfold insR
    split
    · simp [insR_len lt x l]
    · rfl
theorem insR_perm (lt : Int → Int → Bool) (x : Int) : ∀ l : List Int, (insR lt x l).Perm (x :: l)
  | [] => List.Perm.refl _
  | y :: l => by
    unfold insR
    split
    · exact ((insR_perm lt x l).cons y).trans (List.Perm.swap x y l)
    · exact List.Perm.refl _
theorem getD_app (l m : List Int) (a : Int) : (l ++ a :: m).getD l.length 0 = a := by simp [List.getD]
theorem inner_eq (lt : Int → Int → Bool) (x : Int) : ∀ (l post : List Int), inner lt l.length (l.reverse ++ x :: post) = (insR lt x l).reverse ++ post
  | [], post => rfl
  | y :: l, post => by
    have hl : l.reverse.length = l.length := List.length_reverse
    have e0 : (y :: l).reverse ++ x :: post = l.reverse ++ y :: x :: post := by simp
    have e1 : (l.reverse ++ y :: x :: post).getD l.length 0 = y := by rw [← hl]; exact getD_app _ _ _
    have e2 : (l.reverse ++ y :: x :: post).getD (l.length + 1) 0 = x := by
      simp
    rw [e0]
    show inner lt (l.length + 1) _ = _
    rw [inner, e1, e2, insR]
    split
    · rename_i h
      have e3 : swapAt (l.reverse ++ y :: x :: post) l.length = l.reverse ++ x :: y :: post := by
        unfold swapAt
        rw [e1, e2, List.set_append_right _ _ (by omega), hl]
        have : l.length + 1 - l.length = 1 := by omega
        rw [this, List.set_append_right _ _ (by omega), hl, Nat.sub_self]
        rfl
      rw [e3, inner_eq lt x l (y :: post)]
      simp
    · simp
theorem outer_eq (lt : Int → Int → Bool) : ∀ (xs l : List Int), outer lt xs.length l.length (l.reverse ++ xs) = (xs.foldl (fun a x => insR lt x a) l).reverse
  | [], l => by simp [outer]
  | x :: xs, l => by
    show outer lt (xs.length + 1) l.length _ = _
    rw [outer, inner_eq lt x l xs]
    have := outer_eq lt xs (insR lt x l)
    rw [insR_len] at this
    rw [this]
    rfl

/-- in the list turned round, a stands behind b in the order -/
def Behind (f : Int → Int) (a b : Int) : Prop := f a < f b ∨ (f a = f b ∧ b < a)
theorem insR_sorted {lt : Int → Int → Bool} {f : Int → Int} (hlt : ∀ x y, lt x y = true ↔ f y < f x) {x : Int} : ∀ {l : List Int}, (∀ y ∈ l, y < x) → l.Pairwise (Behind f) → (insR lt x l).Pairwise (Behind f)
  | [], _, _ => by simp [insR]
  | y :: l, hx, h => by
    have h' := List.pairwise_cons.1 h
    unfold insR
    split
    · rename_i hh
      have hf := (hlt x y).1 hh
      refine List.pairwise_cons.2 ⟨fun z hz => ?_, insR_sorted hlt (fun z hz => hx z (List.mem_cons_of_mem _ hz)) h'.2⟩
      have hz' := (insR_perm lt x l).mem_iff.1 hz
      rcases List.mem_cons.1 hz' with rfl | hz'
      · exact .inl hf
      · exact h'.1 z hz'
    · rename_i hh
      have hf : f x ≤ f y := by
        apply Int.not_lt.1
        intro h2
        exact hh ((hlt x y).2 h2)
      refine List.pairwise_cons.2 ⟨fun z hz => ?_, h⟩
      have hzx := hx z hz
      have hzy : f y ≤ f z := by
        rcases List.mem_cons.1 hz with rfl | hz
        · exact Int.le_refl _
        · rcases h'.1 z hz with h3 | h3 <;> omega
      rcases Int.lt_or_le (f x) (f z) with h4 | h4
      · exact .inl h4
      · exact .inr ⟨by omega, hzx⟩
theorem fold_sorted {lt : Int → Int → Bool} {f : Int → Int} (hlt : ∀ x y, lt x y = true ↔ f y < f x) : ∀ (xs l : List Int), xs.Pairwise (· < ·) → (∀ y ∈ l, ∀ x ∈ xs, y < x) → l.Pairwise (Behind f) →
    (xs.foldl (fun a x => insR lt x a) l).Pairwise (Behind f) ∧ (xs.foldl (fun a x => insR lt x a) l).Perm (xs ++ l)
  | [], l, _, _, h => ⟨h, List.Perm.refl _⟩
  | x :: xs, l, hp, hl, h => by
    have hp' := List.pairwise_cons.1 hp
    have h1 := insR_sorted hlt (x := x) (l := l) (fun y hy => hl y hy x List.mem_cons_self) h
    have ih := fold_sorted hlt xs (insR lt x l) hp'.2 (fun y hy z hz => by
      have hy' := (insR_perm lt x l).mem_iff.1 hy
      rcases List.mem_cons.1 hy' with rfl | hy'
      · exact hp'.1 z hz
      · exact hl y hy' z (List.mem_cons_of_mem _ hz)) h1
    refine ⟨ih.1, ih.2.trans ?_⟩
    exact ((insR_perm lt x l).append_left xs).trans List.perm_middle
theorem firsts_sorted (n : Nat) : (firsts n).Pairwise (· < ·) := by
  unfold firsts
  rw [List.pairwise_map]
  exact List.pairwise_lt_range.imp fun h => by simpa using h
/-- the order of the sort: those with more first; of equals the earlier ones first; each place once -/
theorem order_spec (total : Int) (r : List Int) (s : Int) (hne : r ≠ []) :
    (order total r s).Pairwise (fun a b => Behind (rest total r s) b a) ∧ (order total r s).Perm (firsts r.length) := by
  have hpos : 1 ≤ r.length := List.length_pos_iff.2 hne
  have hlt : ∀ x y, before_ total r s x y = true ↔ rest total r s y < rest total r s x := fun x y => by
    unfold before_
    rw [decide_eq_true_iff]
    omega
  have e : order total r s = ((firsts r.length).foldl (fun a x => insR (before_ total r s) x a) []).reverse := by
    unfold order
    obtain ⟨x, xs, hx⟩ : ∃ x xs, firsts r.length = x :: xs := by
      cases hf : firsts r.length with
      | nil => have := firsts_len r.length; rw [hf] at this; simp at this; omega
      | cons x xs => exact ⟨x, xs, rfl⟩
    have hl : xs.length = r.length - 1 := by
      have := firsts_len r.length
      rw [hx] at this
      simp at this
      omega
    have := outer_eq (before_ total r s) xs [x]
    rw [hx, ← hl]
    exact this
  have h := fold_sorted hlt (firsts r.length) [] (firsts_sorted _) (by simp) (by simp)
  rw [e]
  refine ⟨List.pairwise_reverse.2 h.1, (List.reverse_perm _).trans (by simpa using h.2)⟩

end Go.Proofs.Ytnpghnnlcakbfaa
