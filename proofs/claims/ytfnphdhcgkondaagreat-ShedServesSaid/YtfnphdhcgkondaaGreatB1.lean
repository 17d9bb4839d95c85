/- Shares: the division, its order, its sum. -/
import Derived.Test.YtfnphdhcgkondaaGreatRz
import Derived.Test.YtfnphdhcgkondaaGreatPg
import Derived.KernelRfl
set_option linter.unusedVariables false
set_option linter.unusedSimpArgs false
namespace Go.Proofs.YtfnphdhcgkondaaGreat
open Go Go.RowKit Dp
namespace Rx
/-! the sort -/
def swapAt (d : List Int) (j : Nat) : List Int := (d.set (j + 1) (d.getD j 0)).set j (d.getD (j + 1) 0)
def inner (lt : Int → Int → Bool) : Nat → List Int → List Int
  | 0, d => d
  | j + 1, d => if lt (d.getD (j + 1) 0) (d.getD j 0) = true then inner lt j (swapAt d j) else d
def outer (lt : Int → Int → Bool) : Nat → Nat → List Int → List Int
  | 0, _, d => d
  | m + 1, i, d => outer lt m (i + 1) (inner lt i d)
def Ok (n : Nat) (p : Int → Prop) (d : List Int) : Prop := d.length = n ∧ ∀ x ∈ d, p x

theorem ok_getD {n : Nat} {p : Int → Prop} {d : List Int} (h : Ok n p d) {j : Nat} (hj : j < n) : p (d.getD j 0) := by
  have hl := h.1
  have : d.getD j 0 = d[j] := by simp [List.getD, hl, hj]
  rw [this]
  exact h.2 _ (List.getElem_mem _)
theorem ok_swap {n : Nat} {p : Int → Prop} {d : List Int} (h : Ok n p d) {j : Nat} (hj : j + 1 < n) : Ok n p (swapAt d j) := by
  refine ⟨by simp [swapAt, h.1], fun x hx => ?_⟩
  unfold swapAt at hx
  rcases List.mem_or_eq_of_mem_set hx with hx | rfl
  · rcases List.mem_or_eq_of_mem_set hx with hx | rfl
    · exact h.2 x hx
    · exact ok_getD h (by omega)
  · exact ok_getD h hj

/-! the division -/
def sumL (r : List Int) : Int := r.foldr (· + ·) 0
/-- what the division computes, in plain words -/
def rest (total : Int) (r : List Int) (s : Int) (i : Int) : Int := (total * r.getD i.toNat 0) % s
def firsts (n : Nat) : List Int := (List.range n).map Int.ofNat
theorem firsts_len (n : Nat) : (firsts n).length = n := by simp [firsts]
theorem sum_bd {l : List Int} {B : Int} (h : ∀ x ∈ l, 0 ≤ x ∧ x ≤ B) : 0 ≤ sumL l ∧ sumL l ≤ B * l.length := by
  induction l with
  | nil => simp [sumL]
  | cons x l ih =>
    have h1 := ih fun y hy => h y (List.mem_cons_of_mem _ hy)
    have h2 := h x List.mem_cons_self
    have : sumL (x :: l) = x + sumL l := rfl
    rw [this]
    have e : B * ((x :: l).length : Int) = B * l.length + B := by simp [Int.mul_add]
    rw [e]
    omega
theorem firsts_ok (n : Nat) : Ok n (fun x => 0 ≤ x ∧ x < n) (firsts n) := by
  refine ⟨firsts_len n, fun x hx => ?_⟩
  obtain ⟨k, hk, rfl⟩ := List.mem_map.1 hx
  have := List.mem_range.1 hk
  exact ⟨Int.natCast_nonneg k, by simpa using this⟩

/-! the printed loops -/
section
variable {r : List Int} {total s : Int}
theorem idx_getD {d : List Int} {j : Nat} (h : j < d.length) : idx d (j : Int) = some (d.getD j 0) := idx_gt h
end

/-- the sort's step, on the front part turned round -/
def insR (lt : Int → Int → Bool) (x : Int) : List Int → List Int
  | [] => [x]
  | y :: l => if lt x y = true then y :: insR lt x l else x :: y :: l
theorem insR_len (lt : Int → Int → Bool) (x : Int) : ∀ l : List Int, (insR lt x l).length = l.length + 1
  | [] => rfl
  | y :: l => by
    unfold insR
    split
    · simp [insR_len lt x l]
    · rfl
theorem insR_perm (lt : Int → Int → Bool) (x : Int) : ∀ l : List Int, (insR lt x l).Perm (x :: l)
  | [] => List.Perm.refl _
  | y :: l => by
    unfold insR
    split
    · exact ((insR_perm lt x l).cons y).trans (List.Perm.swap x y l)
    · exact List.Perm.refl _
theorem getD_app (l m : List Int) (a : Int) : (l ++ a :: m).getD l.length 0 = a := by simp [List.getD]
theorem inner_eq (lt : Int → Int → Bool) (x : Int) : ∀ (l post : List Int), inner lt l.length (l.reverse ++ x :: post) = (insR lt x l).reverse ++ post
  | [], post => rfl
  | y :: l, post => by
    have hl : l.reverse.length = l.length := List.length_reverse
    have e0 : (y :: l).reverse ++ x :: post = l.reverse ++ y :: x :: post := by simp
    have e1 : (l.reverse ++ y :: x :: post).getD l.length 0 = y := by rw [← hl]; exact getD_app _ _ _
    have e2 : (l.reverse ++ y :: x :: post).getD (l.length + 1) 0 = x := by
      simp
    rw [e0]
    show inner lt (l.length + 1) _ = _
    rw [inner, e1, e2, insR]
    split
    · rename_i h
      have e3 : swapAt (l.reverse ++ y :: x :: post) l.length = l.reverse ++ x :: y :: post := by
        unfold swapAt
        rw [e1, e2, List.set_append_right _ _ (by omega), hl]
        have : l.length + 1 - l.length = 1 := by omega
        rw [this, List.set_append_right _ _ (by omega), hl, Nat.sub_self]
        rfl
      rw [e3, inner_eq lt x l (y :: post)]
      simp
    · simp
theorem outer_eq (lt : Int → Int → Bool) : ∀ (xs l : List Int), outer lt xs.length l.length (l.reverse ++ xs) = (xs.foldl (fun a x => insR lt x a) l).reverse
  | [], l => by simp [outer]
  | x :: xs, l => by
    show outer lt (xs.length + 1) l.length _ = _
    rw [outer, inner_eq lt x l xs]
    have := outer_eq lt xs (insR lt x l)
    rw [insR_len] at this
    rw [this]
    rfl

/-- in the list turned round, a stands behind b in the order -/
def Behind (f : Int → Int) (a b : Int) : Prop := f a < f b ∨ (f a = f b ∧ b < a)
theorem insR_sorted {lt : Int → Int → Bool} {f : Int → Int} (hlt : ∀ x y, lt x y = true ↔ f y < f x) {x : Int} : ∀ {l : List Int}, (∀ y ∈ l, y < x) → l.Pairwise (Behind f) → (insR lt x l).Pairwise (Behind f)
  | [], _, _ => by simp [insR]
  | y :: l, hx, h => by
    have h' := List.pairwise_cons.1 h
    unfold insR
    split
    · rename_i hh
      have hf := (hlt x y).1 hh
      refine List.pairwise_cons.2 ⟨fun z hz => ?_, insR_sorted hlt (fun z hz => hx z (List.mem_cons_of_mem _ hz)) h'.2⟩
      have hz' := (insR_perm lt x l).mem_iff.1 hz
      rcases List.mem_cons.1 hz' with rfl | hz'
      · exact .inl hf
      · exact h'.1 z hz'
    · rename_i hh
      have hf : f x ≤ f y := by
        apply Int.not_lt.1
        intro h2
        exact hh ((hlt x y).2 h2)
      refine List.pairwise_cons.2 ⟨fun z hz => ?_, h⟩
      have hzx := hx z hz
      have hzy : f y ≤ f z := by
        rcases List.mem_cons.1 hz with rfl | hz
        · exact Int.le_refl _
        · rcases h'.1 z hz with h3 | h3 <;> omega
      rcases Int.lt_or_le (f x) (f z) with h4 | h4
      · exact .inl h4
      · exact .inr ⟨by omega, hzx⟩
theorem fold_sorted {lt : Int → Int → Bool} {f : Int → Int} (hlt : ∀ x y, lt x y = true ↔ f y < f x) : ∀ (xs l : List Int), xs.Pairwise (· < ·) → (∀ y ∈ l, ∀ x ∈ xs, y < x) → l.Pairwise (Behind f) →
    (xs.foldl (fun a x => insR lt x a) l).Pairwise (Behind f) ∧ (xs.foldl (fun a x => insR lt x a) l).Perm (xs ++ l)
  | [], l, _, _, h => ⟨h, List.Perm.refl _⟩
  | x :: xs, l, hp, hl, h => by
    have hp' := List.pairwise_cons.1 hp
    have h1 := insR_sorted hlt (x := x) (l := l) (fun y hy => hl y hy x List.mem_cons_self) h
    have ih := fold_sorted hlt xs (insR lt x l) hp'.2 (fun y hy z hz => by
      have hy' := (insR_perm lt x l).mem_iff.1 hy
      rcases List.mem_cons.1 hy' with rfl | hy'
      · exact hp'.1 z hz
      · exact hl y hy' z (List.mem_cons_of_mem _ hz)) h1
    refine ⟨ih.1, ih.2.trans ?_⟩
    exact ((insR_perm lt x l).append_left xs).trans List.perm_middle
theorem firsts_sorted (n : Nat) : (firsts n).Pairwise (· < ·) := by
  unfold firsts
  rw [List.pairwise_map]
  exact List.pairwise_lt_range.imp fun h => by simpa using h
theorem sumL_append (a b : List Int) : sumL (a ++ b) = sumL a + sumL b := by
  induction a with
  | nil => simp [sumL]
  | cons x a ih => show x + sumL (a ++ b) = x + sumL a + sumL b; rw [ih]; omega
section
variable {r : List Int} {total : Int}
end
end Rx
end Go.Proofs.YtfnphdhcgkondaaGreat
