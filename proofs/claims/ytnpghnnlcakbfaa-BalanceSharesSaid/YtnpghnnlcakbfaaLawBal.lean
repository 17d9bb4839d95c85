/- Shares: what the sort and the division compute. Plain laws, no program in sight but the plain functions. -/
import Derived.Test.YtnpghnnlcakbfaaPl
import Derived.Test.YtnpghnnlcakbfaaFn
namespace Go.Proofs.Ytnpghnnlcakbfaa
open Go Go.RowKit Dp

/-! the source -/
theorem src_N_some (st : List Int) {n : Int} (h1 : 1 ≤ n) (h2 : n ≤ 1000000000000) : ∃ y st', Src_N st n = some (y, st') ∧ 0 ≤ y ∧ y < n := by
  cases st with
  | nil => exact ⟨0, [], rfl, by omega, by omega⟩
  | cons x r =>
    have hm1 : -n < x.tmod n := by
      have := Int.lt_tmod_of_pos x (b := n) (by omega)
      omega
    have hm2 : x.tmod n < n := Int.tmod_lt_of_pos x (by omega)
    refine ⟨(x.tmod n + n) % n, r, ?_, Int.emod_nonneg _ (by omega), Int.emod_lt_of_pos _ (by omega)⟩
    show (modO x n).bind (fun y => some (y, r)) = _
    unfold modO
    rw [if_neg (by omega)]
    have e1 : remO x n = some (x.tmod n) := by unfold remO; rw [if_neg (by omega)]
    rw [e1]
    simp only [Option.bind_some]
    rw [W_sm (by omega) (by omega), remO_nn (by omega) (by omega)]
    rfl

/-! the sort -/
def swapAt (d : List Int) (j : Nat) : List Int := (d.set (j + 1) (d.getD j 0)).set j (d.getD (j + 1) 0)
def inner (lt : Int → Int → Bool) : Nat → List Int → List Int
  | 0, d => d
  | j + 1, d => if lt (d.getD (j + 1) 0) (d.getD j 0) = true then inner lt j (swapAt d j) else d
def outer (lt : Int → Int → Bool) : Nat → Nat → List Int → List Int
  | 0, _, d => d
  | m + 1, i, d => outer lt m (i + 1) (inner lt i d)
/-- f answers at all elements that p allows, and is negative just where lt is true -/
def Cmp (f : Int → Int → Option Int) (lt : Int → Int → Bool) (p : Int → Prop) : Prop := ∀ x y, p x → p y → ∃ c, f x y = some c ∧ decide (c < 0) = lt x y
def Ok (n : Nat) (p : Int → Prop) (d : List Int) : Prop := d.length = n ∧ ∀ x ∈ d, p x

theorem ok_getD {n : Nat} {p : Int → Prop} {d : List Int} (h : Ok n p d) {j : Nat} (hj : j < n) : p (d.getD j 0) := by
  have hl := h.1
  have : d.getD j 0 = d[j] := by simp [List.getD, hl, hj]
  rw [this]
  exact h.2 _ (List.getElem_mem _)
theorem ok_swap {n : Nat} {p : Int → Prop} {d : List Int} (h : Ok n p d) {j : Nat} (hj : j + 1 < n) : Ok n p (swapAt d j) := by
  refine ⟨by simp [swapAt, h.1], fun x hx => ?_⟩
  unfold swapAt at hx
  rcases List.mem_or_eq_of_mem_set hx with hx | rfl
  · rcases List.mem_or_eq_of_mem_set hx with hx | rfl
    · exact h.2 x hx
    · exact ok_getD h (by omega)
  · exact ok_getD h hj

theorem inner_run {f : Int → Int → Option Int} {lt : Int → Int → Bool} {p : Int → Prop} (hf : Cmp f lt p) {n : Nat} (hn : n ≤ 1000) :
    ∀ (j : Nat) (d : List Int), j < n → Ok n p d → loopR (slices_insertionSortCmpFunc_int_L2 0 f) (d, (j : Int)) = some (inner lt j d) ∧ Ok n p (inner lt j d)
  | 0, d, hj, h => by
    refine ⟨loopR_done ?_, h⟩
    simp [slices_insertionSortCmpFunc_int_L2, inner]
  | j + 1, d, hj, h => by
    obtain ⟨c, hc, hl⟩ := hf _ _ (ok_getD h hj) (ok_getD h (j := j) (by omega))
    have hlen := h.1
    have e1 : W (((j + 1 : Nat) : Int) - 1) = (j : Int) := by rw [W_sm (by omega) (by omega)]; omega
    have i1 : idx d ((j + 1 : Nat) : Int) = some (d.getD (j + 1) 0) := idx_getD (by omega) 0
    have i2 : idx d (j : Int) = some (d.getD j 0) := idx_getD (by omega) 0
    have s1 : setO d ((j + 1 : Nat) : Int) (d.getD j 0) = some (d.set (j + 1) (d.getD j 0)) := setO_nat (by omega) _
    have s2 : setO (d.set (j + 1) (d.getD j 0)) (j : Int) (d.getD (j + 1) 0) = some (swapAt d j) := setO_nat (by simp; omega) _
    have hpos : decide (((j + 1 : Nat) : Int) > 0) = true := decide_eq_true (by omega)
    cases hlt : lt (d.getD (j + 1) 0) (d.getD j 0) with
    | true =>
      have ih := inner_run hf hn j (swapAt d j) (by omega) (ok_swap h hj)
      have hstep : slices_insertionSortCmpFunc_int_L2 0 f (d, ((j + 1 : Nat) : Int)) = some (.inl (swapAt d j, (j : Int))) := by
        rw [hlt] at hl
        simp only [slices_insertionSortCmpFunc_int_L2, hpos, if_true, i1, e1, i2, Option.bind_some, hc, hl, s1, s2]
      refine ⟨?_, ?_⟩
      · rw [loopR_next hstep, ih.1, inner, if_pos hlt]
      · rw [inner, if_pos hlt]; exact ih.2
    | false =>
      have hstep : slices_insertionSortCmpFunc_int_L2 0 f (d, ((j + 1 : Nat) : Int)) = some (.inr d) := by
        rw [hlt] at hl
        simp only [slices_insertionSortCmpFunc_int_L2, hpos, if_true, i1, e1, i2, Option.bind_some, hc, hl]
        rfl
      have hne : ¬ (lt (d.getD (j + 1) 0) (d.getD j 0) = true) := by rw [hlt]; simp
      refine ⟨?_, ?_⟩
      · rw [loopR_done hstep, inner, if_neg hne]
      · rw [inner, if_neg hne]; exact h
theorem outer_run {f : Int → Int → Option Int} {lt : Int → Int → Bool} {p : Int → Prop} (hf : Cmp f lt p) {n : Nat} (hn : n ≤ 1000) :
    ∀ (m i : Nat) (d : List Int), m + i = n → Ok n p d → loopR (slices_insertionSortCmpFunc_int_L1 0 (n : Int) f) (d, (i : Int)) = some (outer lt m i d) ∧ Ok n p (outer lt m i d)
  | 0, i, d, hi, h => by
    refine ⟨loopR_done ?_, h⟩
    have : decide ((i : Int) < (n : Int)) = false := decide_eq_false (by omega)
    simp only [slices_insertionSortCmpFunc_int_L1, outer, this, Bool.false_eq_true, if_false]
  | m + 1, i, d, hi, h => by
    have hr := inner_run hf hn i d (by omega) h
    have ih := outer_run hf hn m (i + 1) (inner lt i d) (by omega) hr.2
    have hd : decide ((i : Int) < (n : Int)) = true := decide_eq_true (by omega)
    have e1 : W ((i : Int) + 1) = ((i + 1 : Nat) : Int) := by rw [W_sm (by omega) (by omega)]; omega
    have hstep : slices_insertionSortCmpFunc_int_L1 0 (n : Int) f (d, (i : Int)) = some (.inl (inner lt i d, ((i + 1 : Nat) : Int))) := by
      simp only [slices_insertionSortCmpFunc_int_L1, hd, if_true, hr.1, Option.bind_some, e1]
    exact ⟨by rw [loopR_next hstep, ih.1, outer], by rw [outer]; exact ih.2⟩
theorem sort_run {f : Int → Int → Option Int} {lt : Int → Int → Bool} {p : Int → Prop} (hf : Cmp f lt p) {n : Nat} (hn : n < 20) (h1 : 1 ≤ n) {d : List Int} (h : Ok n p d) :
    slices_SortStableFunc_int_int d f = some (outer lt (n - 1) 1 d) ∧ Ok n p (outer lt (n - 1) 1 d) := by
  have hr := outer_run hf (by omega) (n - 1) 1 d (by omega) h
  refine ⟨?_, hr.2⟩
  have hl : len d = (n : Int) := by unfold len; rw [h.1]
  have hs1 : slices_stableCmpFunc_int_L1 (n : Int) f (d, 0, 20) = some (.inr (d, 0)) := by
    have : decide ((20 : Int) ≤ (n : Int)) = false := by simp; omega
    simp [slices_stableCmpFunc_int_L1, this]
  have hs2 : ∀ x, slices_stableCmpFunc_int_L2 (n : Int) f (x, 20) = some (.inr x) := fun x => by
    have : decide ((20 : Int) < (n : Int)) = false := by simp; omega
    simp [slices_stableCmpFunc_int_L2, this]
  have hw : W (0 + 1) = ((1 : Nat) : Int) := by rw [W_sm (by omega) (by omega)]; rfl
  simp only [slices_SortStableFunc_int_int, slices_stableCmpFunc_int, hl, loopR_done hs1, Option.bind_some, slices_insertionSortCmpFunc_int, hw, hr.1, loopR_done (hs2 _)]

/-! the division -/
def sumL (r : List Int) : Int := r.foldr (· + ·) 0
/-- what the division computes, in plain words -/
def rest (total : Int) (r : List Int) (s : Int) (i : Int) : Int := (total * r.getD i.toNat 0) % s
def before_ (total : Int) (r : List Int) (s : Int) (x y : Int) : Bool := decide (rest total r s y - rest total r s x < 0)
def floors (total : Int) (r : List Int) (s : Int) : List Int := r.map fun x => total * x / s
def firsts (n : Nat) : List Int := (List.range n).map Int.ofNat
def incs (o : List Int) (l : List Int) : List Int := l.foldl (fun o i => o.set i.toNat (o.getD i.toNat 0 + 1)) o
def order (total : Int) (r : List Int) (s : Int) : List Int := outer (before_ total r s) (r.length - 1) 1 (firsts r.length)
def splitP (total : Int) (r : List Int) (s : Int) : List Int := incs (floors total r s) ((order total r s).take (total - sumL (floors total r s)).toNat)
/-- the ratings that are allowed -/
def Rat (r : List Int) : Prop := r.length ≤ 8 ∧ ∀ x ∈ r, 1 ≤ x ∧ x ≤ 50000

theorem sumL_take {r : List Int} {i : Nat} (h : i < r.length) : sumL (r.take (i + 1)) = sumL (r.take i) + r[i] := by
  unfold sumL
  rw [List.take_succ_eq_append_getElem h, List.foldr_append]
  simp only [List.foldr_cons, List.foldr_nil, Int.add_zero]
  have : ∀ (l : List Int) (a : Int), l.foldr (· + ·) a = l.foldr (· + ·) 0 + a := by
    intro l a
    induction l with
    | nil => simp
    | cons x l ih => simp only [List.foldr_cons, ih]; omega
  exact this _ _
theorem sumL_bd {r : List Int} (h : ∀ x ∈ r, 1 ≤ x ∧ x ≤ 50000) : (r.length : Int) ≤ sumL r ∧ sumL r ≤ 50000 * r.length := by
  induction r with
  | nil => simp [sumL]
  | cons x r ih =>
    have h1 := ih fun y hy => h y (List.mem_cons_of_mem _ hy)
    have h2 := h x List.mem_cons_self
    have : sumL (x :: r) = x + sumL r := rfl
    rw [this]
    simp only [List.length_cons]
    omega
theorem sumL_take_bd {r : List Int} (h : Rat r) (i : Nat) : 0 ≤ sumL (r.take i) ∧ sumL (r.take i) ≤ 400000 := by
  have h1 := sumL_bd (r := r.take i) fun x hx => h.2 x (List.mem_of_mem_take hx)
  have h2 : (r.take i).length ≤ 8 := by simp; have := h.1; omega
  omega
theorem check_loop {r : List Int} (h : Rat r) : ∀ (m i : Nat), m + i = r.length → loopR (balance_check_L1 r) (sumL (r.take i), (i : Int)) = some (.inl (sumL r))
  | 0, i, hi => by
    have hi' : r.length = i := by omega
    have : decide ((i : Int) < len r) = false := decide_eq_false (by unfold len; omega)
    refine loopR_done ?_
    simp only [balance_check_L1, this, Bool.false_eq_true, if_false]
    rw [← hi', List.take_length]
  | m + 1, i, hi => by
    have hlt : i < r.length := by omega
    have hb := h.2 r[i] (List.getElem_mem _)
    have h1 : decide ((i : Int) < len r) = true := decide_eq_true (by unfold len; omega)
    have h2 : decide (r[i] < 1) = false := decide_eq_false (by omega)
    have h3 : decide (r[i] > 50000) = false := decide_eq_false (by omega)
    have hs := sumL_take_bd h i
    have h8 := h.1
    have e1 : W (sumL (r.take i) + r[i]) = sumL (r.take (i + 1)) := by rw [W_sm (by omega) (by omega), sumL_take hlt]
    have e2 : W ((i : Int) + 1) = ((i + 1 : Nat) : Int) := by rw [W_sm (by omega) (by omega)]; omega
    have hstep : balance_check_L1 r (sumL (r.take i), (i : Int)) = some (.inl (sumL (r.take (i + 1)), ((i + 1 : Nat) : Int))) := by
      simp only [balance_check_L1, h1, if_true, idx_get hlt, Option.bind_some, h2, h3, Bool.false_eq_true, if_false, e1, e2]
    rw [loopR_next hstep]
    exact check_loop h m (i + 1) (by omega)
theorem check_run {r : List Int} (h : Rat r) (hne : r ≠ []) {total : Int} (h0 : 0 ≤ total) (h1 : total ≤ 800000) : balance_check total r = some (sumL r, 0) := by
  have e1 : decide (len r > 8) = false := decide_eq_false (by have := h.1; unfold len; omega)
  have hl := check_loop h r.length 0 (by omega)
  have e2 : sumL (r.take 0) = 0 := rfl
  rw [e2] at hl
  have hl' : loopR (balance_check_L1 r) (0, 0) = some (.inl (sumL r)) := hl
  have e3 : decide (total < 0) = false := decide_eq_false (by omega)
  have e4 : decide (total > 800000) = false := decide_eq_false (by omega)
  have e5 : (len r == 0) = false := by
    have : 0 < r.length := List.length_pos_iff.2 hne
    simp [len]; exact hne
  simp only [balance_check, e1, Bool.false_eq_true, if_false, hl', Option.bind_some, Sum.elim_inl, e3, e4, e5]

end Go.Proofs.Ytnpghnnlcakbfaa
