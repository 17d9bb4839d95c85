/- The law BalanceScales, plainly. -/
import Derived.Test.YtnpghnnlcakbfaaLawBal2
namespace Go.Proofs.Ytnpghnnlcakbfaa
open Go Go.RowKit Dp

/-! the ratings that are drawn -/
def Drawn (r : List Int) : Prop := r.length ≤ 5 ∧ ∀ x ∈ r, 1 ≤ x ∧ x ≤ 100
theorem pick_run (st : List Int) : ∃ y st', Src_Pick st [1, 3, 10, 50, 100] = some (y, st') ∧ 1 ≤ y ∧ y ≤ 100 := by
  obtain ⟨k, st', h1, h2, h3⟩ := src_N_some st (n := 5) (by omega) (by omega)
  obtain ⟨j, rfl⟩ := Int.eq_ofNat_of_zero_le h2
  have hj : j < 5 := by omega
  have hl : len ([1, 3, 10, 50, 100] : List Int) = 5 := rfl
  have hi : ∃ y, idx ([1, 3, 10, 50, 100] : List Int) (j : Int) = some y ∧ 1 ≤ y ∧ y ≤ 100 := by
    rw [idx_nat]
    match j, hj with
    | 0, _ => exact ⟨1, rfl, by omega, by omega⟩
    | 1, _ => exact ⟨3, rfl, by omega, by omega⟩
    | 2, _ => exact ⟨10, rfl, by omega, by omega⟩
    | 3, _ => exact ⟨50, rfl, by omega, by omega⟩
    | 4, _ => exact ⟨100, rfl, by omega, by omega⟩
  obtain ⟨y, hy, hb⟩ := hi
  exact ⟨y, st', by simp only [Src_Pick, hl, h1, Option.bind_some, hy], hb⟩
theorem ratings_loop : ∀ (k : Nat) (r st : List Int), r.length + k ≤ 5 → (∀ x ∈ r, 1 ≤ x ∧ x ≤ 100) → ∃ r' st', loopR dynposlaw17_ratings_L1 (r, (k : Int), st) = some (r', st') ∧ Drawn r'
  | 0, r, st, h, hr => ⟨r, st, loopR_done (by simp [dynposlaw17_ratings_L1]), by omega, hr⟩
  | k + 1, r, st, h, hr => by
    obtain ⟨y, st', h1, h2⟩ := pick_run st
    obtain ⟨r', st2, h3, h4⟩ := ratings_loop k (r ++ [y]) st' (by simp; omega) (fun x hx => by
      rcases List.mem_append.1 hx with hx | hx
      · exact hr x hx
      · simp at hx; subst hx; exact h2)
    refine ⟨r', st2, (loopR_next ?_).trans h3, h4⟩
    have e1 : decide (((k + 1 : Nat) : Int) > 0) = true := decide_eq_true (by omega)
    have e2 : W (((k + 1 : Nat) : Int) - 1) = (k : Int) := by rw [W_sm (by omega) (by omega)]; omega
    simp only [dynposlaw17_ratings_L1, e1, if_true, h1, Option.bind_some, app_sm (xs := r) (ys := [y]) (by simp; omega), e2]
theorem ratings_run (st : List Int) : ∃ r st', dynposlaw17_ratings st = some (r, st') ∧ Drawn r := by
  obtain ⟨k, st', h1, h2, h3⟩ := src_N_some st (n := 6) (by omega) (by omega)
  obtain ⟨j, rfl⟩ := Int.eq_ofNat_of_zero_le h2
  obtain ⟨r, st2, h4, h5⟩ := ratings_loop j [] st' (by simp; omega) (by simp)
  exact ⟨r, st2, by simp only [dynposlaw17_ratings, h1, Option.bind_some, h4], h5⟩
theorem new_run (t : List Int) : ∃ st, dynposmake_New t = some st := by
  unfold dynposmake_New
  have : slc t 0 (if 600 < len t then 600 else len t) = some (t.take (if 600 < len t then 600 else len t).toNat) := by
    unfold slc len
    rw [if_pos (by split <;> omega)]
    simp
  exact ⟨_, this⟩
theorem Drawn.rat {r : List Int} (h : Drawn r) : Rat r := ⟨by have := h.1; omega, fun x hx => by have := h.2 x hx; omega⟩

/-! comparing -/
theorem ints_loop (a : List Int) (ha : a.length ≤ 1000000) : ∀ m i : Nat, m + i = a.length → loopR (dynposref01_Ints_L1 a a) (i : Int) = some (.inl ())
  | 0, i, hi => by
    have : decide ((i : Int) < len a) = false := decide_eq_false (by unfold len; omega)
    exact loopR_done (by simp only [dynposref01_Ints_L1, this, Bool.false_eq_true, if_false])
  | m + 1, i, hi => by
    have hlt : i < a.length := by omega
    have h1 : decide ((i : Int) < len a) = true := decide_eq_true (by unfold len; omega)
    have e2 : W ((i : Int) + 1) = ((i + 1 : Nat) : Int) := by rw [W_sm (by omega) (by omega)]; omega
    refine (loopR_next ?_).trans (ints_loop a ha m (i + 1) (by omega))
    simp only [dynposref01_Ints_L1, h1, if_true, idx_get hlt, Option.bind_some, bne_self_eq_false, Bool.false_eq_true, if_false, e2]
theorem ints_run (a : List Int) (ha : a.length ≤ 1000000) : dynposref01_Ints a a = some true := by
  have h := ints_loop a ha a.length 0 (by omega)
  have h' : loopR (dynposref01_Ints_L1 a a) 0 = some (.inl ()) := h
  simp only [dynposref01_Ints, bne_self_eq_false, Bool.false_eq_true, if_false, h', Option.bind_some, Sum.elim_inl]

/-! the example of the chapter -/
theorem sane_run : dynposlaw17_sane = some true := by
  have hr : Rat [2, 2, 2] := ⟨by simp, by simp⟩
  have h1 : balance_Split 10 [2, 2, 2] = some ([4, 3, 3], 0) := by
    rw [split_run hr (by simp) (by omega) (by omega)]
    rfl
  have h2 := check_run hr (by simp) (total := 10) (by omega) (by omega)
  have e6 : sumL [2, 2, 2] = 6 := rfl
  rw [e6] at h2
  have s0 : balance_Check_L1 10 [2, 2, 2] [4, 3, 3] 6 (0, 0) = some (.inl (4, 1)) := rfl
  have s1 : balance_Check_L1 10 [2, 2, 2] [4, 3, 3] 6 (4, 1) = some (.inl (7, 2)) := rfl
  have s2 : balance_Check_L1 10 [2, 2, 2] [4, 3, 3] 6 (7, 2) = some (.inl (10, 3)) := rfl
  have s3 : balance_Check_L1 10 [2, 2, 2] [4, 3, 3] 6 (10, 3) = some (.inr (.inl 10)) := rfl
  have hl : loopR (balance_Check_L1 10 [2, 2, 2] [4, 3, 3] 6) (0, 0) = some (.inl 10) := by
    rw [loopR_next s0, loopR_next s1, loopR_next s2, loopR_done s3]
  have h3 : balance_Check 10 [2, 2, 2] [4, 3, 3] = some true := by
    have ea : ((0 : Int) != 0) = false := rfl
    have eb : (len ([4, 3, 3] : List Int) != len ([2, 2, 2] : List Int)) = false := rfl
    simp only [balance_Check, h2, Option.bind_some, ea, eb, Bool.false_eq_true, if_false, hl, Sum.elim_inl]
    rfl
  have ec : ((0 : Int) == 0) = true := rfl
  simp only [dynposlaw17_sane, h1, Option.bind_some, ec, if_true, ints_run [4, 3, 3] (by simp), h3]

/-! multiplied ratings -/
theorem sumL_mul (k : Int) (r : List Int) : sumL (r.map (k * ·)) = k * sumL r := by
  induction r with
  | nil => simp [sumL]
  | cons x r ih =>
    have e1 : sumL ((x :: r).map (k * ·)) = k * x + sumL (r.map (k * ·)) := rfl
    have e2 : sumL (x :: r) = x + sumL r := rfl
    rw [e1, e2, ih, Int.mul_add]
theorem floors_mul {k : Int} (hk : 1 ≤ k) (total : Int) (r : List Int) (s : Int) : floors total (r.map (k * ·)) (k * s) = floors total r s := by
  unfold floors
  rw [List.map_map]
  refine List.map_congr_left fun x _ => ?_
  show total * (k * x) / (k * s) = total * x / s
  have : total * (k * x) = k * (total * x) := by rw [← Int.mul_assoc, Int.mul_comm total k, Int.mul_assoc]
  rw [this, Int.mul_ediv_mul_of_pos _ _ (by omega)]
theorem rest_mul {k : Int} (hk : 1 ≤ k) (total : Int) (r : List Int) (s x : Int) : rest total (r.map (k * ·)) (k * s) x = k * rest total r s x := by
  unfold rest
  have e : (r.map (k * ·)).getD x.toNat 0 = k * r.getD x.toNat 0 := by
    simp only [List.getD_eq_getElem?_getD, List.getElem?_map]
    cases r[x.toNat]? <;> simp
  have e2 : total * (k * r.getD x.toNat 0) = k * (total * r.getD x.toNat 0) := by rw [← Int.mul_assoc, Int.mul_comm total k, Int.mul_assoc]
  rw [e, e2, Int.mul_emod_mul_of_pos _ _ (by omega)]
theorem before_mul {k : Int} (hk : 1 ≤ k) (total : Int) (r : List Int) (s : Int) : before_ total (r.map (k * ·)) (k * s) = before_ total r s := by
  funext x y
  unfold before_
  rw [rest_mul hk, rest_mul hk, ← Int.mul_sub]
  have : (k * (rest total r s y - rest total r s x) < 0) ↔ (rest total r s y - rest total r s x < 0) := by
    constructor
    · intro h
      apply Int.not_le.1
      intro h2
      have := Int.mul_nonneg (a := k) (by omega) h2
      omega
    · intro h
      exact Int.mul_neg_of_pos_of_neg (by omega) h
  simp only [this]
theorem splitP_mul {k : Int} (hk : 1 ≤ k) (total : Int) (r : List Int) : splitP total (r.map (k * ·)) (sumL (r.map (k * ·))) = splitP total r (sumL r) := by
  unfold splitP order
  rw [sumL_mul, floors_mul hk, before_mul hk, List.length_map]
theorem splitP_exact {k : Int} {r : List Int} (hs : 0 < sumL r) : splitP (k * sumL r) r (sumL r) = r.map (k * ·) := by
  have e : floors (k * sumL r) r (sumL r) = r.map (k * ·) := by
    unfold floors
    refine List.map_congr_left fun x _ => ?_
    have : k * sumL r * x = k * x * sumL r := by rw [Int.mul_assoc, Int.mul_comm (sumL r) x, ← Int.mul_assoc]
    rw [this, Int.mul_ediv_cancel _ (by omega)]
  unfold splitP
  rw [e, sumL_mul, Int.sub_self]
  rfl

theorem many_loop {r : List Int} (h : Drawn r) {k : Int} (hk : 1 ≤ k ∧ k ≤ 5) : ∀ m i : Nat, m + i = r.length →
    loopR (dynposlaw17_BalanceScales_L1 r k) (r, sumL (r.take i), (r.take i).map (k * ·), r, (i : Int)) = some (r, sumL r, r.map (k * ·))
  | 0, i, hi => by
    have hi' : i = r.length := by omega
    have : decide ((i : Int) < len r) = false := decide_eq_false (by unfold len; omega)
    refine loopR_done ?_
    have et : r.take i = r := by rw [hi', List.take_length]
    simp only [dynposlaw17_BalanceScales_L1, this, Bool.false_eq_true, if_false, et]
  | m + 1, i, hi => by
    have hlt : i < r.length := by omega
    have h1 : decide ((i : Int) < len r) = true := decide_eq_true (by unfold len; omega)
    have hb := h.2 r[i] (List.getElem_mem _)
    have h5 := h.1
    have hs := sumL_take_bd h.rat i
    have a1 : 0 ≤ k * r[i] := Int.mul_nonneg (by omega) (by omega)
    have a2 : k * r[i] ≤ 5 * 100 := Int.mul_le_mul hk.2 hb.2 (by omega) (by omega)
    have e1 : W (k * r[i]) = k * r[i] := W_sm (by omega) (by omega)
    have e2 : W (sumL (r.take i) + r[i]) = sumL (r.take (i + 1)) := by rw [W_sm (by omega) (by omega), sumL_take hlt]
    have e3 : W ((i : Int) + 1) = ((i + 1 : Nat) : Int) := by rw [W_sm (by omega) (by omega)]; omega
    have e4 : app ((r.take i).map (k * ·)) [k * r[i]] = some ((r.take (i + 1)).map (k * ·)) := by
      rw [app_sm (by simp; omega), List.take_succ_eq_append_getElem hlt, List.map_append]
      rfl
    refine (loopR_next ?_).trans (many_loop h hk m (i + 1) (by omega))
    simp only [dynposlaw17_BalanceScales_L1, h1, if_true, idx_get hlt, Option.bind_some, e1, e2, e3, e4]

theorem dynposlaw17_BalanceScales_law (t : List Int) : dynposlaw17_BalanceScales t = some true := by
  obtain ⟨st, h1⟩ := new_run t
  obtain ⟨r, st2, h2, hr⟩ := ratings_run st
  simp only [dynposlaw17_BalanceScales, h1, Option.bind_some, h2]
  by_cases hne : r = []
  · subst hne
    have e : (len ([] : List Int) == 0) = true := rfl
    simp only [e, if_true, sane_run, Option.bind_some]
  have hpos : 1 ≤ r.length := List.length_pos_iff.2 hne
  have e0 : (len r == 0) = false := by
    simp [len]; exact hne
  have hsb := sumL_bd hr.rat.2
  have hs : 0 < sumL r := by omega
  have hs5 : sumL r ≤ 500 := by
    have := sum_bd (l := r) (B := 100) fun x hx => by have := hr.2 x hx; omega
    have := hr.1
    omega
  obtain ⟨k0, st3, h3, hk1, hk2⟩ := src_N_some st2 (n := 5) (by omega) (by omega)
  have e5 : W (W (5 - 1) + 1) = 5 := rfl
  have ek : W (1 + k0) = 1 + k0 := W_sm (by omega) (by omega)
  have hrange : Src_Range st2 1 5 = some (1 + k0, st3) := by simp only [Src_Range, e5, h3, Option.bind_some, ek]
  obtain ⟨k, hk⟩ : ∃ k, k = 1 + k0 := ⟨_, rfl⟩
  rw [← hk] at hrange
  have hk15 : 1 ≤ k ∧ k ≤ 5 := by omega
  have hmany := many_loop hr hk15 r.length 0 (by omega)
  have hmany' : loopR (dynposlaw17_BalanceScales_L1 r k) (r, 0, [], r, 0) = some (r, sumL r, r.map (k * ·)) := hmany
  have e3 : W (3 * sumL r) = 3 * sumL r := W_sm (by omega) (by omega)
  obtain ⟨total, st4, h4, ht1, ht2⟩ := src_N_some st3 (n := 3 * sumL r) (by omega) (by omega)
  have hks : 0 ≤ k * sumL r ∧ k * sumL r ≤ 5 * 500 := ⟨Int.mul_nonneg (by omega) (by omega), Int.mul_le_mul hk15.2 hs5 (by omega) (by omega)⟩
  have eks : W (k * sumL r) = k * sumL r := W_sm (by omega) (by omega)
  have hrm : Rat (r.map (k * ·)) := by
    refine ⟨by have := hr.1; simp; omega, fun x hx => ?_⟩
    obtain ⟨y, hy, rfl⟩ := List.mem_map.1 hx
    have hb := hr.2 y hy
    have a1 : 1 * 1 ≤ k * y := Int.mul_le_mul hk15.1 hb.1 (by omega) (by omega)
    have a2 : k * y ≤ 5 * 100 := Int.mul_le_mul hk15.2 hb.2 (by omega) (by omega)
    omega
  have s1 := split_run hr.rat hne (total := total) (by omega) (by omega)
  have s2 := split_run hrm (by simpa using hne) (total := total) (by omega) (by omega)
  have s3 := split_run hr.rat hne (total := k * sumL r) (by omega) (by omega)
  rw [splitP_mul hk15.1] at s2
  rw [splitP_exact hs] at s3
  have hlen : (splitP total r (sumL r)).length ≤ 1000000 := by
    have : ∀ (l o : List Int), (incs o l).length = o.length := by
      intro l
      induction l with
      | nil => intro o; rfl
      | cons x l ih => intro o; show (incs (o.set _ _) l).length = _; rw [ih]; simp
    unfold splitP
    rw [this, floors_len]
    have := hr.1
    omega
  have i1 := ints_run (splitP total r (sumL r)) hlen
  have i2 := ints_run (r.map (k * ·)) (by have := hr.1; simp; omega)
  have ec : ((0 : Int) == 0) = true := rfl
  simp only [e0, Bool.false_eq_true, if_false, hrange, Option.bind_some, hmany', e3, h4, s1, s2, eks, s3, ec, if_true, i1, i2, sane_run]

end Go.Proofs.Ytnpghnnlcakbfaa
