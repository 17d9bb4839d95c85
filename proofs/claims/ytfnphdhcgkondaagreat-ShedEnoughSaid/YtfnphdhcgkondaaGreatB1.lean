/- Shares: the division, its order, its sum. -/
import Derived.Test.YtfnphdhcgkondaaGreatRz
import Derived.Test.YtfnphdhcgkondaaGreatPg
import Derived.KernelRfl
set_option linter.unusedVariables false
set_option linter.unusedSimpArgs false
namespace Go.Proofs.YtfnphdhcgkondaaGreat
open Go Go.RowKit Dp
namespace Rx
/-! the sort -/
def swapAt (d : List Int) (j : Nat) : List Int := (d.set (j + 1) (d.getD j 0)).set j (d.getD (j + 1) 0)
def inner (lt : Int → Int → Bool) : Nat → List Int → List Int
  | 0, d => d
  | j + 1, d => if lt (d.getD (j + 1) 0) (d.getD j 0) = true then inner lt j (swapAt d j) else d
def outer (lt : Int → Int → Bool) : Nat → Nat → List Int → List Int
  | 0, _, d => d
  | m + 1, i, d => outer lt m (i + 1) (inner lt i d)
def Ok (n : Nat) (p : Int → Prop) (d : List Int) : Prop := d.length = n ∧ ∀ x ∈ d, p x

theorem ok_getD {n : Nat} {p : Int → Prop} {d : List Int} (h : Ok n p d) {j : Nat} (hj : j < n) : p (d.getD j 0) := by
  have hl := h.1
  have : d.getD j 0 = d[j] := by simp [List.getD, hl, hj]
  rw [this]
  exact h.2 _ (List.getElem_mem _)
theorem ok_swap {n : Nat} {p : Int → Prop} {d : List Int} (h : Ok n p d) {j : Nat} (hj : j + 1 < n) : Ok n p (swapAt d j) := by
  refine ⟨by simp [swapAt, h.1], fun x hx => ?_⟩
  unfold swapAt at hx
  rcases List.mem_or_eq_of_mem_set hx with hx | rfl
  · rcases List.mem_or_eq_of_mem_set hx with hx | rfl
    · exact h.2 x hx
    · exact ok_getD h (by omega)
  · exact ok_getD h hj

/-! the division -/
def sumL (r : List Int) : Int := r.foldr (· + ·) 0
/-- what the division computes, in plain words -/
def rest (total : Int) (r : List Int) (s : Int) (i : Int) : Int := (total * r.getD i.toNat 0) % s
def before_ (total : Int) (r : List Int) (s : Int) (x y : Int) : Bool := decide (rest total r s y - rest total r s x < 0)
def floors (total : Int) (r : List Int) (s : Int) : List Int := r.map fun x => total * x / s
def firsts (n : Nat) : List Int := (List.range n).map Int.ofNat
def incs (o : List Int) (l : List Int) : List Int := l.foldl (fun o i => o.set i.toNat (o.getD i.toNat 0 + 1)) o
def order (total : Int) (r : List Int) (s : Int) : List Int := outer (before_ total r s) (r.length - 1) 1 (firsts r.length)
def splitP (total : Int) (r : List Int) (s : Int) : List Int := incs (floors total r s) ((order total r s).take (total - sumL (floors total r s)).toNat)
/-- the ratings that are allowed -/
def Rat (r : List Int) : Prop := r.length ≤ 8 ∧ ∀ x ∈ r, 1 ≤ x ∧ x ≤ 50000

theorem sumL_take {r : List Int} {i : Nat} (h : i < r.length) : sumL (r.take (i + 1)) = sumL (r.take i) + r[i] := by
  unfold sumL
  rw [List.take_succ_eq_append_getElem h, List.foldr_append]
  simp only [List.foldr_cons, List.foldr_nil, Int.add_zero]
  have : ∀ (l : List Int) (a : Int), l.foldr (· + ·) a = l.foldr (· + ·) 0 + a := by
    intro l a
    induction l with
    | nil => simp
    | cons x l ih => simp only [List.foldr_cons, ih]; omega
  exact this _ _
theorem sumL_bd {r : List Int} (h : ∀ x ∈ r, 1 ≤ x ∧ x ≤ 50000) : (r.length : Int) ≤ sumL r ∧ sumL r ≤ 50000 * r.length := by
  induction r with
  | nil => simp [sumL]
  | cons x r ih =>
    have h1 := ih fun y hy => h y (List.mem_cons_of_mem _ hy)
    have h2 := h x List.mem_cons_self
    have : sumL (x :: r) = x + sumL r := rfl
    rw [this]
    simp only [List.length_cons]
    omega
theorem sumL_take_bd {r : List Int} (h : Rat r) (i : Nat) : 0 ≤ sumL (r.take i) ∧ sumL (r.take i) ≤ 400000 := by
  have h1 := sumL_bd (r := r.take i) fun x hx => h.2 x (List.mem_of_mem_take hx)
  have h2 : (r.take i).length ≤ 8 := by simp; have := h.1; omega
  omega
def fillZ (l : List Int) (i : Nat) : List Int := l.take i ++ List.replicate (l.length - i) 0
theorem fillZ_len {l : List Int} {i : Nat} (h : i ≤ l.length) : (fillZ l i).length = l.length := by simp [fillZ]; omega
theorem fillZ_set {l : List Int} {i : Nat} (h : i < l.length) : (fillZ l i).set i l[i] = fillZ l (i + 1) := by
  have e : l.length - i = (l.length - (i + 1)) + 1 := by omega
  have hl : (l.take i).length = i := by simp; omega
  unfold fillZ
  rw [e, List.replicate_succ, List.take_succ_eq_append_getElem h, List.set_append_right _ _ (by omega), hl, Nat.sub_self, List.set_cons_zero]
  simp only [List.append_assoc, List.singleton_append]
theorem fillZ_zero (l : List Int) : fillZ l 0 = List.replicate l.length 0 := by simp [fillZ]
theorem fillZ_end (l : List Int) : fillZ l l.length = l := by simp [fillZ]
theorem fillZ_get {l : List Int} {i : Nat} (h : i < l.length) : (fillZ l (i + 1)).getD i 0 = l[i] := by
  rw [← fillZ_set h, List.getD_eq_getElem?_getD, List.getElem?_set_self (by rw [fillZ_len (by omega)]; exact h)]
  rfl

theorem floors_len (total : Int) (r : List Int) (s : Int) : (floors total r s).length = r.length := by simp [floors]
theorem firsts_len (n : Nat) : (firsts n).length = n := by simp [firsts]
theorem floor_bd {total s x : Int} (h0 : 0 ≤ total) (h1 : total ≤ 800000) (hs : 0 < s) (hx : 1 ≤ x ∧ x ≤ 50000) : 0 ≤ total * x ∧ total * x ≤ 40000000000 ∧ 0 ≤ total * x / s ∧ total * x / s ≤ 40000000000 := by
  have a1 : 0 ≤ total * x := Int.mul_nonneg h0 (by omega)
  have a2 : total * x ≤ 800000 * 50000 := Int.mul_le_mul h1 hx.2 (by omega) (by omega)
  have a3 : 0 ≤ total * x / s := Int.ediv_nonneg a1 (by omega)
  have a4 : total * x / s ≤ total * x := Int.ediv_le_self _ a1
  omega
theorem floors_mem {total s : Int} {r : List Int} (h : Rat r) (h0 : 0 ≤ total) (h1 : total ≤ 800000) (hs : 0 < s) : ∀ x ∈ floors total r s, 0 ≤ x ∧ x ≤ 40000000000 := by
  intro x hx
  obtain ⟨y, hy, rfl⟩ := List.mem_map.1 hx
  have := floor_bd h0 h1 hs (h.2 y hy)
  omega
theorem sum_bd {l : List Int} {B : Int} (h : ∀ x ∈ l, 0 ≤ x ∧ x ≤ B) : 0 ≤ sumL l ∧ sumL l ≤ B * l.length := by
  induction l with
  | nil => simp [sumL]
  | cons x l ih =>
    have h1 := ih fun y hy => h y (List.mem_cons_of_mem _ hy)
    have h2 := h x List.mem_cons_self
    have : sumL (x :: l) = x + sumL l := rfl
    rw [this]
    have e : B * ((x :: l).length : Int) = B * l.length + B := by simp [Int.mul_add]
    rw [e]
    omega
theorem left_bd {total s : Int} (h0 : 0 ≤ total) (hs : 0 < s) : ∀ l : List Int, s * sumL (floors total l s) ≤ total * sumL l ∧ total * sumL l ≤ s * sumL (floors total l s) + s * l.length
  | [] => by simp [floors, sumL]
  | x :: l => by
    have ih := left_bd h0 hs l
    have e1 : sumL (floors total (x :: l) s) = total * x / s + sumL (floors total l s) := rfl
    have e2 : sumL (x :: l) = x + sumL l := rfl
    have e3 : s * (total * x / s) + total * x % s = total * x := Int.mul_ediv_add_emod _ _
    have e4 := Int.emod_nonneg (total * x) (b := s) (by omega)
    have e5 := Int.emod_lt_of_pos (total * x) hs
    rw [e1, e2, Int.mul_add, Int.mul_add]
    have e6 : s * ((x :: l).length : Int) = s * l.length + s := by simp [Int.mul_add]
    rw [e6]
    omega
theorem left_ok {r : List Int} (hs : 0 < sumL r) {total : Int} (h0 : 0 ≤ total) : 0 ≤ total - sumL (floors total r (sumL r)) ∧ total - sumL (floors total r (sumL r)) ≤ r.length := by
  have h := left_bd h0 hs r
  have c1 : total * sumL r = sumL r * total := Int.mul_comm _ _
  rw [c1] at h
  have h1 := Int.le_of_mul_le_mul_left h.1 hs
  have h2 : sumL r * total ≤ sumL r * (sumL (floors total r (sumL r)) + r.length) := by rw [Int.mul_add]; exact h.2
  have h3 := Int.le_of_mul_le_mul_left h2 hs
  omega

theorem rest_bd (total : Int) (r : List Int) {s : Int} (hs : 0 < s) (x : Int) : 0 ≤ rest total r s x ∧ rest total r s x < s := ⟨Int.emod_nonneg _ (by omega), Int.emod_lt_of_pos _ hs⟩
theorem firsts_ok (n : Nat) : Ok n (fun x => 0 ≤ x ∧ x < n) (firsts n) := by
  refine ⟨firsts_len n, fun x hx => ?_⟩
  obtain ⟨k, hk, rfl⟩ := List.mem_map.1 hx
  have := List.mem_range.1 hk
  exact ⟨Int.natCast_nonneg k, by simpa using this⟩


/-! the printed loops -/
section
variable {r : List Int} {total s : Int}
theorem idx_getD {d : List Int} {j : Nat} (h : j < d.length) : idx d (j : Int) = some (d.getD j 0) := idx_gt h
end


/-- the sort's step, on the front part turned round -/
def insR (lt : Int → Int → Bool) (x : Int) : List Int → List Int
  | [] => [x]
  | y :: l => if lt x y = true then y :: insR lt x l else x :: y :: l
theorem insR_len (lt : Int → Int → Bool) (x : Int) : ∀ l : List Int, (insR lt x l).length = l.length + 1
  | [] => rfl
  | y :: l => by
    unfold insR
    split
    · simp [insR_len lt x l]
    · rfl
theorem insR_perm (lt : Int → Int → Bool) (x : Int) : ∀ l : List Int, (insR lt x l).Perm (x :: l)
  | [] => List.Perm.refl _
  | y :: l => by
    unfold insR
    split
    · exact ((insR_perm lt x l).cons y).trans (List.Perm.swap x y l)
    · exact List.Perm.refl _
theorem getD_app (l m : List Int) (a : Int) : (l ++ a :: m).getD l.length 0 = a := by simp [List.getD]
theorem inner_eq (lt : Int → Int → Bool) (x : Int) : ∀ (l post : List Int), inner lt l.length (l.reverse ++ x :: post) = (insR lt x l).reverse ++ post
  | [], post => rfl
  | y :: l, post => by
    have hl : l.reverse.length = l.length := List.length_reverse
    have e0 : (y :: l).reverse ++ x :: post = l.reverse ++ y :: x :: post := by simp
    have e1 : (l.reverse ++ y :: x :: post).getD l.length 0 = y := by rw [← hl]; exact getD_app _ _ _
    have e2 : (l.reverse ++ y :: x :: post).getD (l.length + 1) 0 = x := by
      simp
    rw [e0]
    show inner lt (l.length + 1) _ = _
    rw [inner, e1, e2, insR]
    split
    · rename_i h
      have e3 : swapAt (l.reverse ++ y :: x :: post) l.length = l.reverse ++ x :: y :: post := by
        unfold swapAt
        rw [e1, e2, List.set_append_right _ _ (by omega), hl]
        have : l.length + 1 - l.length = 1 := by omega
        rw [this, List.set_append_right _ _ (by omega), hl, Nat.sub_self]
        rfl
      rw [e3, inner_eq lt x l (y :: post)]
      simp
    · simp
theorem outer_eq (lt : Int → Int → Bool) : ∀ (xs l : List Int), outer lt xs.length l.length (l.reverse ++ xs) = (xs.foldl (fun a x => insR lt x a) l).reverse
  | [], l => by simp [outer]
  | x :: xs, l => by
    show outer lt (xs.length + 1) l.length _ = _
    rw [outer, inner_eq lt x l xs]
    have := outer_eq lt xs (insR lt x l)
    rw [insR_len] at this
    rw [this]
    rfl

/-- in the list turned round, a stands behind b in the order -/
def Behind (f : Int → Int) (a b : Int) : Prop := f a < f b ∨ (f a = f b ∧ b < a)
theorem insR_sorted {lt : Int → Int → Bool} {f : Int → Int} (hlt : ∀ x y, lt x y = true ↔ f y < f x) {x : Int} : ∀ {l : List Int}, (∀ y ∈ l, y < x) → l.Pairwise (Behind f) → (insR lt x l).Pairwise (Behind f)
  | [], _, _ => by simp [insR]
  | y :: l, hx, h => by
    have h' := List.pairwise_cons.1 h
    unfold insR
    split
    · rename_i hh
      have hf := (hlt x y).1 hh
      refine List.pairwise_cons.2 ⟨fun z hz => ?_, insR_sorted hlt (fun z hz => hx z (List.mem_cons_of_mem _ hz)) h'.2⟩
      have hz' := (insR_perm lt x l).mem_iff.1 hz
      rcases List.mem_cons.1 hz' with rfl | hz'
      · exact .inl hf
      · exact h'.1 z hz'
    · rename_i hh
      have hf : f x ≤ f y := by
        apply Int.not_lt.1
        intro h2
        exact hh ((hlt x y).2 h2)
      refine List.pairwise_cons.2 ⟨fun z hz => ?_, h⟩
      have hzx := hx z hz
      have hzy : f y ≤ f z := by
        rcases List.mem_cons.1 hz with rfl | hz
        · exact Int.le_refl _
        · rcases h'.1 z hz with h3 | h3 <;> omega
      rcases Int.lt_or_le (f x) (f z) with h4 | h4
      · exact .inl h4
      · exact .inr ⟨by omega, hzx⟩
theorem fold_sorted {lt : Int → Int → Bool} {f : Int → Int} (hlt : ∀ x y, lt x y = true ↔ f y < f x) : ∀ (xs l : List Int), xs.Pairwise (· < ·) → (∀ y ∈ l, ∀ x ∈ xs, y < x) → l.Pairwise (Behind f) →
    (xs.foldl (fun a x => insR lt x a) l).Pairwise (Behind f) ∧ (xs.foldl (fun a x => insR lt x a) l).Perm (xs ++ l)
  | [], l, _, _, h => ⟨h, List.Perm.refl _⟩
  | x :: xs, l, hp, hl, h => by
    have hp' := List.pairwise_cons.1 hp
    have h1 := insR_sorted hlt (x := x) (l := l) (fun y hy => hl y hy x List.mem_cons_self) h
    have ih := fold_sorted hlt xs (insR lt x l) hp'.2 (fun y hy z hz => by
      have hy' := (insR_perm lt x l).mem_iff.1 hy
      rcases List.mem_cons.1 hy' with rfl | hy'
      · exact hp'.1 z hz
      · exact hl y hy' z (List.mem_cons_of_mem _ hz)) h1
    refine ⟨ih.1, ih.2.trans ?_⟩
    exact ((insR_perm lt x l).append_left xs).trans List.perm_middle
theorem firsts_sorted (n : Nat) : (firsts n).Pairwise (· < ·) := by
  unfold firsts
  rw [List.pairwise_map]
  exact List.pairwise_lt_range.imp fun h => by simpa using h
/-- the order of the sort: those with more first; of equals the earlier ones first; each place once -/
theorem order_spec (total : Int) (r : List Int) (s : Int) (hne : r ≠ []) :
    (order total r s).Pairwise (fun a b => Behind (rest total r s) b a) ∧ (order total r s).Perm (firsts r.length) := by
  have hpos : 1 ≤ r.length := List.length_pos_iff.2 hne
  have hlt : ∀ x y, before_ total r s x y = true ↔ rest total r s y < rest total r s x := fun x y => by
    unfold before_
    rw [decide_eq_true_iff]
    omega
  have e : order total r s = ((firsts r.length).foldl (fun a x => insR (before_ total r s) x a) []).reverse := by
    unfold order
    obtain ⟨x, xs, hx⟩ : ∃ x xs, firsts r.length = x :: xs := by
      cases hf : firsts r.length with
      | nil => have := firsts_len r.length; rw [hf] at this; simp at this; omega
      | cons x xs => exact ⟨x, xs, rfl⟩
    have hl : xs.length = r.length - 1 := by
      have := firsts_len r.length
      rw [hx] at this
      simp at this
      omega
    have := outer_eq (before_ total r s) xs [x]
    rw [hx, ← hl]
    exact this
  have h := fold_sorted hlt (firsts r.length) [] (firsts_sorted _) (by simp) (by simp)
  rw [e]
  refine ⟨List.pairwise_reverse.2 h.1, (List.reverse_perm _).trans (by simpa using h.2)⟩



theorem incs_len : ∀ (l o : List Int), (incs o l).length = o.length
  | [], _ => rfl
  | x :: l, o => by
    show (incs (o.set _ _) l).length = _
    rw [incs_len l]; simp
theorem incs_get : ∀ (l o : List Int), l.Nodup → (∀ x ∈ l, 0 ≤ x) → ∀ i : Nat, i < o.length → (incs o l).getD i 0 = o.getD i 0 + if (i : Int) ∈ l then 1 else 0
  | [], o, _, _, i, _ => by simp [incs]
  | x :: l, o, hn, h0, i, hi => by
    have hn' := List.nodup_cons.1 hn
    have ih := incs_get l (o.set x.toNat (o.getD x.toNat 0 + 1)) hn'.2 (fun y hy => h0 y (List.mem_cons_of_mem _ hy)) i (by simpa using hi)
    show (incs (o.set x.toNat (o.getD x.toNat 0 + 1)) l).getD i 0 = _
    rw [ih]
    have hx := h0 x List.mem_cons_self
    by_cases he : (i : Int) = x
    · have hin : ¬ (i : Int) ∈ l := by rw [he]; exact hn'.1
      have e1 : x.toNat = i := by omega
      rw [if_neg hin, if_pos (by rw [he]; exact List.mem_cons_self), e1]
      simp [List.getD, hi]
    · have e1 : x.toNat ≠ i := by omega
      have e2 : (o.set x.toNat (o.getD x.toNat 0 + 1)).getD i 0 = o.getD i 0 := by
        simp only [List.getD_eq_getElem?_getD, List.getElem?_set_ne e1]
      rw [e2]
      by_cases hl : (i : Int) ∈ l
      · rw [if_pos hl, if_pos (List.mem_cons_of_mem _ hl)]
      · rw [if_neg hl, if_neg (by
          intro hh
          rcases List.mem_cons.1 hh with hh | hh
          · exact he hh
          · exact hl hh)]
theorem sumL_set : ∀ (o : List Int) (i : Nat), i < o.length → sumL (o.set i (o.getD i 0 + 1)) = sumL o + 1
  | [], i, h => by simp at h
  | x :: o, 0, _ => by
    show x + 1 + sumL o = x + sumL o + 1
    omega
  | x :: o, i + 1, h => by
    have ih := sumL_set o i (by simpa using h)
    show x + sumL (o.set i (o.getD i 0 + 1)) = x + sumL o + 1
    rw [ih]; omega
theorem sumL_incs : ∀ (l o : List Int), (∀ x ∈ l, 0 ≤ x ∧ x < (o.length : Int)) → sumL (incs o l) = sumL o + l.length
  | [], o, _ => by simp [incs]
  | x :: l, o, h => by
    have hx := h x List.mem_cons_self
    show sumL (incs (o.set x.toNat (o.getD x.toNat 0 + 1)) l) = _
    rw [sumL_incs l _ (fun y hy => by have := h y (List.mem_cons_of_mem _ hy); simpa using this), sumL_set o x.toNat (by omega)]
    simp only [List.length_cons]
    omega
theorem sumL_perm {a b : List Int} (h : a.Perm b) : sumL a = sumL b := by
  induction h with
  | nil => rfl
  | cons x _ ih => exact congrArg (x + ·) ih
  | swap x y l => show y + (x + sumL l) = x + (y + sumL l); omega
  | trans _ _ h1 h2 => exact h1.trans h2
theorem sumL_append (a b : List Int) : sumL (a ++ b) = sumL a + sumL b := by
  induction a with
  | nil => simp [sumL]
  | cons x a ih => show x + sumL (a ++ b) = x + sumL a + sumL b; rw [ih]; omega
theorem sum_lt {f : Int → Int} {s : Int} : ∀ {T : List Int}, (∀ y ∈ T, 0 ≤ f y ∧ f y < s) → sumL (T.map f) ≤ s * T.length
  | [], _ => by simp [sumL]
  | y :: T, h => by
    have ih := sum_lt (T := T) fun z hz => h z (List.mem_cons_of_mem _ hz)
    have hy := h y List.mem_cons_self
    show f y + sumL (T.map f) ≤ _
    have e : s * ((y :: T).length : Int) = s * T.length + s := by simp [Int.mul_add]
    rw [e]; omega
theorem sum_lt0 {f : Int → Int} {s x : Int} : ∀ {T : List Int}, (∀ y ∈ T, 0 ≤ f y ∧ f y < s) → x ∈ T → f x = 0 → sumL (T.map f) ≤ s * T.length - s
  | y :: T, h, hx, h0 => by
    have hy := h y List.mem_cons_self
    have e : s * ((y :: T).length : Int) = s * T.length + s := by simp [Int.mul_add]
    show f y + sumL (T.map f) ≤ _
    rw [e]
    rcases List.mem_cons.1 hx with rfl | hx
    · have := sum_lt (T := T) fun z hz => h z (List.mem_cons_of_mem _ hz)
      omega
    · have := sum_lt0 (T := T) (fun z hz => h z (List.mem_cons_of_mem _ hz)) hx h0
      omega
theorem sum_zero {f : Int → Int} : ∀ {T : List Int}, (∀ y ∈ T, f y = 0) → sumL (T.map f) = 0
  | [], _ => rfl
  | y :: T, h => by
    show f y + sumL (T.map f) = 0
    rw [h y List.mem_cons_self, sum_zero fun z hz => h z (List.mem_cons_of_mem _ hz)]
    omega
theorem rests_sum (total : Int) (r : List Int) (s : Int) : sumL ((firsts r.length).map (rest total r s)) = total * sumL r - s * sumL (floors total r s) := by
  have e : (firsts r.length).map (rest total r s) = r.map fun x => total * x % s := by
    refine List.ext_getElem (by simp [firsts]) fun i h1 h2 => ?_
    have hi : i < r.length := by simpa using h2
    simp [firsts, rest, List.getD, hi]
  rw [e]
  have : ∀ l : List Int, sumL (l.map fun x => total * x % s) = total * sumL l - s * sumL (floors total l s) := by
    intro l
    induction l with
    | nil => simp [sumL, floors]
    | cons x l ih =>
      have e1 : sumL (floors total (x :: l) s) = total * x / s + sumL (floors total l s) := rfl
      have e2 : sumL (x :: l) = x + sumL l := rfl
      have e3 : s * (total * x / s) + total * x % s = total * x := Int.mul_ediv_add_emod _ _
      show total * x % s + sumL (l.map fun x => total * x % s) = _
      rw [ih, e1, e2, Int.mul_add, Int.mul_add]
      omega
  exact this r

/-- the places that get one more -/
def tops (total : Int) (r : List Int) : List Int := (order total r (sumL r)).take (total - sumL (floors total r (sumL r))).toNat

theorem sum_pos {r : List Int} (h : Rat r) (hne : r ≠ []) {total : Int} (h0 : 0 ≤ total) : 0 < sumL r := by
  have hpos : 1 ≤ r.length := List.length_pos_iff.2 hne
  have := sumL_bd h.2
  omega
theorem order_len {r : List Int} (h : Rat r) (hne : r ≠ []) {total : Int} (h0 : 0 ≤ total) : (order total r (sumL r)).length = r.length := by rw [(order_spec total r (sumL r) hne).2.length_eq, firsts_len]
theorem order_mem {r : List Int} (h : Rat r) (hne : r ≠ []) {total : Int} (h0 : 0 ≤ total) {x : Int} : x ∈ order total r (sumL r) ↔ 0 ≤ x ∧ x < r.length := by
  rw [(order_spec total r (sumL r) hne).2.mem_iff]
  constructor
  · exact (firsts_ok r.length).2 x
  · rintro ⟨h1, h2⟩
    obtain ⟨k, rfl⟩ := Int.eq_ofNat_of_zero_le h1
    exact List.mem_map.2 ⟨k, List.mem_range.2 (by omega), rfl⟩
theorem order_nodup {r : List Int} (h : Rat r) (hne : r ≠ []) {total : Int} (h0 : 0 ≤ total) : (order total r (sumL r)).Nodup := by
  rw [(order_spec total r (sumL r) hne).2.nodup_iff]
  exact (firsts_sorted r.length).imp fun h => by omega
theorem tops_nodup {r : List Int} (h : Rat r) (hne : r ≠ []) {total : Int} (h0 : 0 ≤ total) : (tops total r).Nodup := (order_nodup h hne h0).sublist (List.take_sublist _ _)
theorem tops_mem {r : List Int} (h : Rat r) (hne : r ≠ []) {total : Int} (h0 : 0 ≤ total) {x : Int} (hx : x ∈ tops total r) : 0 ≤ x ∧ x < r.length := (order_mem h hne h0).1 (List.mem_of_mem_take hx)
theorem tops_len {r : List Int} (h : Rat r) (hne : r ≠ []) {total : Int} (h0 : 0 ≤ total) : ((tops total r).length : Int) = total - sumL (floors total r (sumL r)) := by
  have hl := left_ok (sum_pos h hne h0) h0
  have ho := order_len h hne h0
  unfold tops
  rw [List.length_take, ho]
  omega
theorem tops_pos {r : List Int} (h : Rat r) (hne : r ≠ []) {total : Int} (h0 : 0 ≤ total) {x : Int} (hx : x ∈ tops total r) : 0 < rest total r (sumL r) x := by
  have hs := sum_pos h hne h0
  have hb := fun y => rest_bd total r hs y
  apply Int.not_le.1
  intro hle
  have hz : rest total r (sumL r) x = 0 := by have := hb x; omega
  have ho := order_spec total r (sumL r) hne
  have hsplit : tops total r ++ (order total r (sumL r)).drop (total - sumL (floors total r (sumL r))).toNat = order total r (sumL r) := List.take_append_drop _ _
  have hp := ho.1
  rw [← hsplit] at hp
  have hp3 := (List.pairwise_append.1 hp).2.2
  have hD : sumL (((order total r (sumL r)).drop (total - sumL (floors total r (sumL r))).toNat).map (rest total r (sumL r))) = 0 := sum_zero fun d hd => by
    have h1 := hp3 x hx d hd
    have h2 := hb d
    rcases h1 with h1 | h1 <;> omega
  have hT := sum_lt0 (f := rest total r (sumL r)) (s := sumL r) (T := tops total r) (fun y _ => hb y) hx hz
  have hsum : sumL ((order total r (sumL r)).map (rest total r (sumL r))) = total * sumL r - sumL r * sumL (floors total r (sumL r)) := by
    rw [← rests_sum]
    exact sumL_perm (ho.2.map _)
  have e1 : sumL ((order total r (sumL r)).map (rest total r (sumL r))) = sumL ((tops total r).map (rest total r (sumL r))) := by
    rw [← hsplit, List.map_append, sumL_append, hD, Int.add_zero]
  have c1 : total * sumL r = sumL r * total := Int.mul_comm _ _
  rw [e1, c1, ← Int.mul_sub, ← tops_len h hne h0] at hsum
  omega
theorem tops_first {r : List Int} (h : Rat r) (hne : r ≠ []) {total : Int} (h0 : 0 ≤ total) {i j : Int} (hi : 0 ≤ i) (hij : i < j) (he : rest total r (sumL r) i = rest total r (sumL r) j) (hj : j ∈ tops total r) : i ∈ tops total r := by
  have hjm := tops_mem h hne h0 hj
  have him : i ∈ order total r (sumL r) := (order_mem h hne h0).2 ⟨hi, by omega⟩
  have hsplit : tops total r ++ (order total r (sumL r)).drop (total - sumL (floors total r (sumL r))).toNat = order total r (sumL r) := List.take_append_drop _ _
  have hp := (order_spec total r (sumL r) hne).1
  rw [← hsplit] at hp him
  rcases List.mem_append.1 him with hm | hm
  · exact hm
  · rcases (List.pairwise_append.1 hp).2.2 j hj i hm with h1 | h1 <;> omega
theorem split_len {r : List Int} (h : Rat r) (hne : r ≠ []) {total : Int} (h0 : 0 ≤ total) : (splitP total r (sumL r)).length = r.length := by unfold splitP; rw [incs_len, floors_len]
theorem split_get {r : List Int} (h : Rat r) (hne : r ≠ []) {total : Int} (h0 : 0 ≤ total) {i : Nat} (hi : i < r.length) : (splitP total r (sumL r)).getD i 0 = total * r.getD i 0 / sumL r + if (i : Int) ∈ tops total r then 1 else 0 := by
  have := incs_get (tops total r) (floors total r (sumL r)) (tops_nodup h hne h0) (fun x hx => (tops_mem h hne h0 hx).1) i (by rw [floors_len]; exact hi)
  have e : (floors total r (sumL r)).getD i 0 = total * r.getD i 0 / sumL r := by simp [floors, List.getD, hi]
  rw [e] at this
  exact this
theorem split_sum {r : List Int} (h : Rat r) (hne : r ≠ []) {total : Int} (h0 : 0 ≤ total) : sumL (splitP total r (sumL r)) = total := by
  have := sumL_incs (tops total r) (floors total r (sumL r)) (fun x hx => by rw [floors_len]; exact tops_mem h hne h0 hx)
  rw [tops_len h hne h0] at this
  have e : splitP total r (sumL r) = incs (floors total r (sumL r)) (tops total r) := rfl
  rw [e, this]
  omega


section
variable {r : List Int} {total : Int}
def fine (total s x y : Int) : Prop := total * x / s ≤ y ∧ y ≤ (total * x + s - 1) / s
theorem ceil_bd {a s : Int} (ha : 0 ≤ a) (hs : 0 < s) : (a + s - 1) / s ≤ a / s + 1 ∧ (0 < a % s → a / s + 1 ≤ (a + s - 1) / s) ∧ a / s ≤ (a + s - 1) / s := by
  have e := Int.mul_ediv_add_emod a s
  have h1 := Int.emod_nonneg a (b := s) (by omega)
  have h2 := Int.emod_lt_of_pos a hs
  have e2 : a + s - 1 = (a % s + s - 1) + s * (a / s) := by omega
  have e3 : (a + s - 1) / s = (a % s + s - 1) / s + a / s := by rw [e2, Int.add_mul_ediv_left _ _ (by omega)]
  have hq : 0 ≤ (a % s + s - 1) / s ∧ (a % s + s - 1) / s ≤ 1 := by
    constructor
    · exact Int.ediv_nonneg (by omega) (by omega)
    · have : (a % s + s - 1) / s < 2 := Int.ediv_lt_of_lt_mul hs (by omega)
      omega
  rw [e3]
  refine ⟨by omega, fun hp => ?_, by omega⟩
  have : 1 ≤ (a % s + s - 1) / s := (Int.le_ediv_iff_mul_le hs).2 (by omega)
  omega
theorem out_get (h : Rat r) (hne : r ≠ []) (h0 : 0 ≤ total) {i : Nat} (hi : i < r.length) : ∃ d, (splitP total r (sumL r)).getD i 0 = total * r.getD i 0 / sumL r + d ∧ (d = 0 ∧ ¬ (i : Int) ∈ tops total r ∨ d = 1 ∧ (i : Int) ∈ tops total r) := by
  have := split_get h hne h0 hi
  by_cases ht : (i : Int) ∈ tops total r
  · rw [if_pos ht] at this; exact ⟨1, this, .inr ⟨rfl, ht⟩⟩
  · rw [if_neg ht] at this; exact ⟨0, this, .inl ⟨rfl, ht⟩⟩
theorem out_fine (h : Rat r) (hne : r ≠ []) (h0 : 0 ≤ total) (h1 : total ≤ 800000) {i : Nat} (hi : i < r.length) : fine total (sumL r) (r.getD i 0) ((splitP total r (sumL r)).getD i 0) := by
  have hs := sum_pos h hne h0
  have er : r.getD i 0 = r[i] := by simp [List.getD, hi]
  have hfb := floor_bd h0 h1 hs (h.2 r[i] (List.getElem_mem _))
  rw [← er] at hfb
  have hc := ceil_bd hfb.1 hs
  obtain ⟨d, hd, h2⟩ := out_get h hne h0 hi
  unfold fine
  rw [hd]
  rcases h2 with ⟨rfl, _⟩ | ⟨rfl, ht⟩
  · omega
  · have hp := tops_pos h hne h0 ht
    unfold rest at hp
    rw [Int.toNat_natCast] at hp
    have := hc.2.1 hp
    omega
theorem out_bd (h : Rat r) (hne : r ≠ []) (h0 : 0 ≤ total) (h1 : total ≤ 800000) : ∀ x ∈ splitP total r (sumL r), 0 ≤ x ∧ x ≤ 50000000000 := by
  intro x hx
  obtain ⟨i, hi, rfl⟩ := List.getElem_of_mem hx
  have hl := split_len h hne h0
  have hi' : i < r.length := by omega
  have hs := sum_pos h hne h0
  have er : r.getD i 0 = r[i] := by simp [List.getD, hi']
  have hfb := floor_bd h0 h1 hs (h.2 r[i] (List.getElem_mem _))
  rw [← er] at hfb
  obtain ⟨d, hd, h2⟩ := out_get h hne h0 hi'
  have eo : (splitP total r (sumL r)).getD i 0 = (splitP total r (sumL r))[i] := by simp [List.getD, hi]
  rw [eo] at hd
  omega
theorem out_le (h : Rat r) (hne : r ≠ []) (h0 : 0 ≤ total) (h1 : total ≤ 800000) (ht : total ≤ sumL r) {i : Nat} (hi : i < r.length) : (splitP total r (sumL r)).getD i 0 ≤ r.getD i 0 := by
  have hs := sum_pos h hne h0
  have er : r.getD i 0 = r[i] := by simp [List.getD, hi]
  have hx := h.2 r[i] (List.getElem_mem _)
  rw [← er] at hx
  have hf := (out_fine h hne h0 h1 hi).2
  have hm : total * r.getD i 0 ≤ sumL r * r.getD i 0 := Int.mul_le_mul_of_nonneg_right ht (by omega)
  have e : (r.getD i 0 + 1) * sumL r = sumL r * r.getD i 0 + sumL r := by rw [Int.add_mul, Int.one_mul, Int.mul_comm]
  have : (total * r.getD i 0 + sumL r - 1) / sumL r < r.getD i 0 + 1 := Int.ediv_lt_of_lt_mul hs (by rw [e]; omega)
  omega
end
end Rx
end Go.Proofs.YtfnphdhcgkondaaGreat
