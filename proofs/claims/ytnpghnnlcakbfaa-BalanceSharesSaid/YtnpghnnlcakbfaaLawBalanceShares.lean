/- The law BalanceShares, plainly. -/
import Derived.Test.YtnpghnnlcakbfaaLawBal4
import Derived.Test.YtnpghnnlcakbfaaLawBalanceScales
namespace Go.Proofs.Ytnpghnnlcakbfaa
open Go Go.RowKit Dp

/-! the check of shares -/
/-- what a place may have -/
def fine (total s x y : Int) : Prop := total * x / s ≤ y ∧ y ≤ (total * x + s - 1) / s
theorem ceil_bd {a s : Int} (ha : 0 ≤ a) (hs : 0 < s) : (a + s - 1) / s ≤ a / s + 1 ∧ (0 < a % s → a / s + 1 ≤ (a + s - 1) / s) ∧ a / s ≤ (a + s - 1) / s := by
  have e := Int.mul_ediv_add_emod a s
  have h1 := Int.emod_nonneg a (b := s) (by omega)
  have h2 := Int.emod_lt_of_pos a hs
  have e2 : a + s - 1 = (a % s + s - 1) + s * (a / s) := by omega
  have e3 : (a + s - 1) / s = (a % s + s - 1) / s + a / s := by rw [e2, Int.add_mul_ediv_left _ _ (by omega)]
  have hq : 0 ≤ (a % s + s - 1) / s ∧ (a % s + s - 1) / s ≤ 1 := by
    constructor
    · exact Int.ediv_nonneg (by omega) (by omega)
    · have : (a % s + s - 1) / s < 2 := Int.ediv_lt_of_lt_mul hs (by omega)
      omega
  rw [e3]
  refine ⟨by omega, fun hp => ?_, by omega⟩
  have : 1 ≤ (a % s + s - 1) / s := (Int.le_ediv_iff_mul_le hs).2 (by omega)
  omega
section
variable {total s : Int}
theorem check_step {r l : List Int} (h : Rat r) (h0 : 0 ≤ total) (h1 : total ≤ 800000) (hs : 0 < s) (hs2 : s ≤ 1000000) (hl : l.length = r.length) {i : Nat} (hi : i < r.length) (acc : Int) :
    (fine total s (r.getD i 0) (l.getD i 0) → balance_Check_L1 total r l s (acc, (i : Int)) = some (.inl (W (acc + l.getD i 0), ((i + 1 : Nat) : Int)))) ∧
    (¬ fine total s (r.getD i 0) (l.getD i 0) → balance_Check_L1 total r l s (acc, (i : Int)) = some (.inr (.inr false))) := by
  have er : r.getD i 0 = r[i] := by simp [List.getD, hi]
  have hfb := floor_bd h0 h1 hs (h.2 r[i] (List.getElem_mem _))
  have h8 := h.1
  have c1 : decide ((i : Int) < len l) = true := decide_eq_true (by unfold len; omega)
  have i1 : idx l (i : Int) = some (l.getD i 0) := idx_getD (by omega) 0
  have i2 : idx r (i : Int) = some (r.getD i 0) := idx_getD hi 0
  have w1 : W (total * r.getD i 0) = total * r.getD i 0 := by rw [er]; exact W_sm (by omega) (by omega)
  have q1 : quoO (total * r.getD i 0) s = some (total * r.getD i 0 / s) := by rw [er]; exact quoO_nn (by omega) hs (by omega)
  have w2 : W (total * r.getD i 0 + s) = total * r.getD i 0 + s := by rw [er]; exact W_sm (by omega) (by omega)
  have w3 : W (total * r.getD i 0 + s - 1) = total * r.getD i 0 + s - 1 := by rw [er]; exact W_sm (by omega) (by omega)
  have q2 : quoO (total * r.getD i 0 + s - 1) s = some ((total * r.getD i 0 + s - 1) / s) := by rw [er]; exact quoO_nn (by omega) hs (by omega)
  have e7 : W ((i : Int) + 1) = ((i + 1 : Nat) : Int) := by rw [W_sm (by omega) (by omega)]; omega
  unfold fine
  constructor
  · rintro ⟨f1, f2⟩
    have d1 : decide (l.getD i 0 < total * r.getD i 0 / s) = false := decide_eq_false (by omega)
    have d2 : decide (l.getD i 0 > (total * r.getD i 0 + s - 1) / s) = false := decide_eq_false (by omega)
    simp only [balance_Check_L1, c1, if_true, i1, i2, Option.bind_some, w1, q1, d1, Bool.false_eq_true, if_false, w2, w3, q2, d2, e7]
  · intro hf
    by_cases f1 : l.getD i 0 < total * r.getD i 0 / s
    · have d1 : decide (l.getD i 0 < total * r.getD i 0 / s) = true := decide_eq_true f1
      simp only [balance_Check_L1, c1, if_true, i1, i2, Option.bind_some, w1, q1, d1]
    · have d1 : decide (l.getD i 0 < total * r.getD i 0 / s) = false := decide_eq_false f1
      have d2 : decide (l.getD i 0 > (total * r.getD i 0 + s - 1) / s) = true := decide_eq_true (by omega)
      simp only [balance_Check_L1, c1, if_true, i1, i2, Option.bind_some, w1, q1, d1, Bool.false_eq_true, if_false, w2, w3, q2, d2]
theorem check_end {r l : List Int} {i : Nat} (hi : i = l.length) (acc : Int) : balance_Check_L1 total r l s (acc, (i : Int)) = some (.inr (.inl acc)) := by
  have c1 : decide ((i : Int) < len l) = false := decide_eq_false (by unfold len; omega)
  simp only [balance_Check_L1, c1, Bool.false_eq_true, if_false]
theorem check_true {r l : List Int} (h : Rat r) (h0 : 0 ≤ total) (h1 : total ≤ 800000) (hs : 0 < s) (hs2 : s ≤ 1000000) (hl : l.length = r.length) (hb : ∀ x ∈ l, 0 ≤ x ∧ x ≤ 1000000000000)
    (hf : ∀ i, i < r.length → fine total s (r.getD i 0) (l.getD i 0)) : ∀ (m i : Nat), m + i = r.length → loopR (balance_Check_L1 total r l s) (sumL (l.take i), (i : Int)) = some (.inl (sumL l))
  | 0, i, hi => by
    have et : l.take i = l := by rw [List.take_of_length_le (by omega)]
    rw [loopR_done (check_end (by omega) _), et]
  | m + 1, i, hi => by
    have hlt : i < l.length := by omega
    have h8 := h.1
    have hsb := sum_bd (l := l.take i) (B := 1000000000000) fun x hx => hb x (List.mem_of_mem_take hx)
    have hln : (l.take i).length ≤ 8 := by simp; omega
    have hv := hb l[i] (List.getElem_mem _)
    have eg : l.getD i 0 = l[i] := by simp [List.getD, hlt]
    rw [loopR_next ((check_step h h0 h1 hs hs2 hl (i := i) (by omega) _).1 (hf i (by omega))), eg, W_sm (by omega) (by omega), ← sumL_take hlt]
    exact check_true h h0 h1 hs hs2 hl hb hf m (i + 1) (by omega)
theorem check_false {r l : List Int} (h : Rat r) (h0 : 0 ≤ total) (h1 : total ≤ 800000) (hs : 0 < s) (hs2 : s ≤ 1000000) (hl : l.length = r.length) {j : Nat} (hj : j < r.length)
    (hf : ¬ fine total s (r.getD j 0) (l.getD j 0)) : ∀ (m i : Nat) (acc : Int), m + i = j → loopR (balance_Check_L1 total r l s) (acc, (i : Int)) = some (.inr false)
  | 0, i, acc, hi => by
    have : i = j := by omega
    subst this
    exact loopR_done ((check_step h h0 h1 hs hs2 hl hj _).2 hf)
  | m + 1, i, acc, hi => by
    by_cases hfi : fine total s (r.getD i 0) (l.getD i 0)
    · rw [loopR_next ((check_step h h0 h1 hs hs2 hl (i := i) (by omega) _).1 hfi)]
      exact check_false h h0 h1 hs hs2 hl hj hf m (i + 1) _ (by omega)
    · exact loopR_done ((check_step h h0 h1 hs hs2 hl (i := i) (by omega) _).2 hfi)
end
theorem Check_true {r l : List Int} (h : Rat r) (hne : r ≠ []) {total : Int} (h0 : 0 ≤ total) (h1 : total ≤ 800000) (hl : l.length = r.length) (hb : ∀ x ∈ l, 0 ≤ x ∧ x ≤ 1000000000000)
    (hf : ∀ i, i < r.length → fine total (sumL r) (r.getD i 0) (l.getD i 0)) (hsum : sumL l = total) : balance_Check total r l = some true := by
  have hs := sum_pos h hne h0
  have hsb := sumL_bd h.2
  have h8 := h.1
  have hc := check_true h h0 h1 hs (by omega) hl hb hf r.length 0 (by omega)
  have hc' : loopR (balance_Check_L1 total r l (sumL r)) (0, 0) = some (.inl (sumL l)) := hc
  have ea : ((0 : Int) != 0) = false := rfl
  have eb : (len l != len r) = false := by simp [len, hl]
  simp only [balance_Check, check_run h hne h0 h1, Option.bind_some, ea, eb, Bool.false_eq_true, if_false, hc', Sum.elim_inl, hsum, beq_self_eq_true]
theorem Check_false {r l : List Int} (h : Rat r) (hne : r ≠ []) {total : Int} (h0 : 0 ≤ total) (h1 : total ≤ 800000) (hl : l.length = r.length) {j : Nat} (hj : j < r.length)
    (hf : ¬ fine total (sumL r) (r.getD j 0) (l.getD j 0)) : balance_Check total r l = some false := by
  have hs := sum_pos h hne h0
  have hsb := sumL_bd h.2
  have h8 := h.1
  have hc := check_false h h0 h1 hs (by omega) hl hj hf j 0 0 (by omega)
  have hc' : loopR (balance_Check_L1 total r l (sumL r)) (0, 0) = some (.inr false) := hc
  have ea : ((0 : Int) != 0) = false := rfl
  have eb : (len l != len r) = false := by simp [len, hl]
  simp only [balance_Check, check_run h hne h0 h1, Option.bind_some, ea, eb, Bool.false_eq_true, if_false, hc', Sum.elim_inr]

/-! the shares -/
section
variable {r : List Int} {total : Int}
theorem out_get (h : Rat r) (hne : r ≠ []) (h0 : 0 ≤ total) {i : Nat} (hi : i < r.length) : ∃ d, (splitP total r (sumL r)).getD i 0 = total * r.getD i 0 / sumL r + d ∧ (d = 0 ∧ ¬ (i : Int) ∈ tops total r ∨ d = 1 ∧ (i : Int) ∈ tops total r) := by
  have := split_get h hne h0 hi
  by_cases ht : (i : Int) ∈ tops total r
  · rw [if_pos ht] at this; exact ⟨1, this, .inr ⟨rfl, ht⟩⟩
  · rw [if_neg ht] at this; exact ⟨0, this, .inl ⟨rfl, ht⟩⟩
theorem out_fine (h : Rat r) (hne : r ≠ []) (h0 : 0 ≤ total) (h1 : total ≤ 800000) {i : Nat} (hi : i < r.length) : fine total (sumL r) (r.getD i 0) ((splitP total r (sumL r)).getD i 0) := by
  have hs := sum_pos h hne h0
  have er : r.getD i 0 = r[i] := by simp [List.getD, hi]
  have hfb := floor_bd h0 h1 hs (h.2 r[i] (List.getElem_mem _))
  rw [← er] at hfb
  have hc := ceil_bd hfb.1 hs
  obtain ⟨d, hd, h2⟩ := out_get h hne h0 hi
  unfold fine
  rw [hd]
  rcases h2 with ⟨rfl, _⟩ | ⟨rfl, ht⟩
  · omega
  · have hp := tops_pos h hne h0 ht
    unfold rest at hp
    rw [Int.toNat_natCast] at hp
    have := hc.2.1 hp
    omega
theorem out_bd (h : Rat r) (hne : r ≠ []) (h0 : 0 ≤ total) (h1 : total ≤ 800000) : ∀ x ∈ splitP total r (sumL r), 0 ≤ x ∧ x ≤ 50000000000 := by
  intro x hx
  obtain ⟨i, hi, rfl⟩ := List.getElem_of_mem hx
  have hl := split_len h hne h0
  have hi' : i < r.length := by omega
  have hs := sum_pos h hne h0
  have er : r.getD i 0 = r[i] := by simp [List.getD, hi']
  have hfb := floor_bd h0 h1 hs (h.2 r[i] (List.getElem_mem _))
  rw [← er] at hfb
  obtain ⟨d, hd, h2⟩ := out_get h hne h0 hi'
  have eo : (splitP total r (sumL r)).getD i 0 = (splitP total r (sumL r))[i] := by simp [List.getD, hi]
  rw [eo] at hd
  omega
theorem out_le (h : Rat r) (hne : r ≠ []) (h0 : 0 ≤ total) (h1 : total ≤ 800000) (ht : total ≤ sumL r) {i : Nat} (hi : i < r.length) : (splitP total r (sumL r)).getD i 0 ≤ r.getD i 0 := by
  have hs := sum_pos h hne h0
  have er : r.getD i 0 = r[i] := by simp [List.getD, hi]
  have hx := h.2 r[i] (List.getElem_mem _)
  rw [← er] at hx
  have hf := (out_fine h hne h0 h1 hi).2
  have hm : total * r.getD i 0 ≤ sumL r * r.getD i 0 := Int.mul_le_mul_of_nonneg_right ht (by omega)
  have e : (r.getD i 0 + 1) * sumL r = sumL r * r.getD i 0 + sumL r := by rw [Int.add_mul, Int.one_mul, Int.mul_comm]
  have : (total * r.getD i 0 + sumL r - 1) / sumL r < r.getD i 0 + 1 := Int.ediv_lt_of_lt_mul hs (by rw [e]; omega)
  omega
theorem out_pair (h : Rat r) (hne : r ≠ []) (h0 : 0 ≤ total) {i k : Nat} (hi : i < r.length) (hk : k < r.length) (he : r.getD i 0 = r.getD k 0) :
    (splitP total r (sumL r)).getD i 0 - (splitP total r (sumL r)).getD k 0 ≤ 1 ∧ (splitP total r (sumL r)).getD k 0 - (splitP total r (sumL r)).getD i 0 ≤ 1 ∧ (i < k → (splitP total r (sumL r)).getD k 0 ≤ (splitP total r (sumL r)).getD i 0) := by
  obtain ⟨d, hd, h2⟩ := out_get h hne h0 hi
  obtain ⟨d', hd', h2'⟩ := out_get h hne h0 hk
  rw [hd, hd', he]
  refine ⟨by omega, by omega, fun hlt => ?_⟩
  rcases h2' with ⟨rfl, _⟩ | ⟨rfl, ht'⟩
  · omega
  · have hr : rest total r (sumL r) (i : Int) = rest total r (sumL r) (k : Int) := by unfold rest; rw [Int.toNat_natCast, Int.toNat_natCast, he]
    have := tops_first h hne h0 (i := (i : Int)) (j := (k : Int)) (by omega) (by omega) hr ht'
    rcases h2 with ⟨_, hn⟩ | ⟨rfl, _⟩
    · exact (hn this).elim
    · omega
end

/-! the loops of the statement -/
theorem sum_loop {r : List Int} (h : Drawn r) : ∀ m i : Nat, m + i = r.length → loopR (dynposlaw17_BalanceShares_L1 r) (r, sumL (r.take i), r, (i : Int)) = some (r, sumL r)
  | 0, i, hi => by
    have et : r.take i = r := by rw [List.take_of_length_le (by omega)]
    have : decide ((i : Int) < len r) = false := decide_eq_false (by unfold len; omega)
    refine loopR_done ?_
    simp only [dynposlaw17_BalanceShares_L1, this, Bool.false_eq_true, if_false, et]
  | m + 1, i, hi => by
    have hlt : i < r.length := by omega
    have h1 : decide ((i : Int) < len r) = true := decide_eq_true (by unfold len; omega)
    have hb := h.2 r[i] (List.getElem_mem _)
    have h5 := h.1
    have hs := sumL_take_bd h.rat i
    have e2 : W (sumL (r.take i) + r[i]) = sumL (r.take (i + 1)) := by rw [W_sm (by omega) (by omega), sumL_take hlt]
    have e3 : W ((i : Int) + 1) = ((i + 1 : Nat) : Int) := by rw [W_sm (by omega) (by omega)]; omega
    refine (loopR_next ?_).trans (sum_loop h m (i + 1) (by omega))
    simp only [dynposlaw17_BalanceShares_L1, h1, if_true, idx_get hlt, Option.bind_some, e2, e3]
section
variable {r out : List Int}
theorem pair_loop (h5 : r.length ≤ 5) (hl : out.length = r.length) (hb : ∀ x ∈ out, 0 ≤ x ∧ x ≤ 50000000000) {i : Nat} (hi : i < r.length)
    (hp : ∀ k, k < r.length → r.getD i 0 = r.getD k 0 → out.getD i 0 - out.getD k 0 ≤ 1 ∧ out.getD k 0 - out.getD i 0 ≤ 1 ∧ (i < k → out.getD k 0 ≤ out.getD i 0)) :
    ∀ m k : Nat, m + k = r.length → loopR (dynposlaw17_BalanceShares_L3 (i : Int) (out.getD i 0) out) (r, out, out, (k : Int)) = some (.inl (r, out, out))
  | 0, k, hk => by
    have : decide ((k : Int) < len out) = false := decide_eq_false (by unfold len; omega)
    refine loopR_done ?_
    simp only [dynposlaw17_BalanceShares_L3, this, Bool.false_eq_true, if_false]
  | m + 1, k, hk => by
    have hkr : k < r.length := by omega
    have c1 : decide ((k : Int) < len out) = true := decide_eq_true (by unfold len; omega)
    have i1 : idx r (i : Int) = some (r.getD i 0) := idx_getD hi 0
    have i2 : idx r (k : Int) = some (r.getD k 0) := idx_getD hkr 0
    have i3 : idx out (k : Int) = some (out.getD k 0) := idx_getD (by omega) 0
    have ei : out.getD i 0 = out[i] := by simp [List.getD, hl, hi]
    have ek : out.getD k 0 = out[k] := by simp [List.getD, hl, hkr]
    have b1 := hb out[i] (List.getElem_mem _)
    have b2 := hb out[k] (List.getElem_mem _)
    rw [← ei] at b1
    rw [← ek] at b2
    have w1 : W (out.getD i 0 - out.getD k 0) = out.getD i 0 - out.getD k 0 := W_sm (by omega) (by omega)
    have w2 : W (out.getD k 0 - out.getD i 0) = out.getD k 0 - out.getD i 0 := W_sm (by omega) (by omega)
    have e3 : W ((k : Int) + 1) = ((k + 1 : Nat) : Int) := by rw [W_sm (by omega) (by omega)]; omega
    refine (loopR_next ?_).trans (pair_loop h5 hl hb hi hp m (k + 1) (by omega))
    by_cases he : r.getD i 0 = r.getD k 0
    · obtain ⟨p1, p2, p3⟩ := hp k hkr he
      have t0 : (r.getD i 0 == r.getD k 0) = true := by rw [he]; exact beq_self_eq_true _
      have d1 : decide (out.getD i 0 - out.getD k 0 > 1) = false := decide_eq_false (by omega)
      have d2 : decide (out.getD k 0 - out.getD i 0 > 1) = false := decide_eq_false (by omega)
      by_cases hik : i < k
      · have d3 : decide ((i : Int) < (k : Int)) = true := decide_eq_true (by omega)
        have d4 : decide (out.getD i 0 < out.getD k 0) = false := decide_eq_false (by have := p3 hik; omega)
        simp only [dynposlaw17_BalanceShares_L3, c1, if_true, i1, i2, Option.bind_some, t0, i3, w1, d1, Bool.false_eq_true, if_false, w2, d2, d3, d4, e3]
      · have d3 : decide ((i : Int) < (k : Int)) = false := decide_eq_false (by omega)
        simp only [dynposlaw17_BalanceShares_L3, c1, if_true, i1, i2, Option.bind_some, t0, i3, w1, d1, Bool.false_eq_true, if_false, w2, d2, d3, e3]
    · have t0 : (r.getD i 0 == r.getD k 0) = false := by simpa using he
      simp only [dynposlaw17_BalanceShares_L3, c1, if_true, i1, i2, Option.bind_some, t0, Bool.false_eq_true, if_false, e3]
theorem all_loop {s total : Int} (h5 : r.length ≤ 5) (hl : out.length = r.length) (hb : ∀ x ∈ out, 0 ≤ x ∧ x ≤ 50000000000)
    (hle : total ≤ s → ∀ i, i < r.length → out.getD i 0 ≤ r.getD i 0)
    (hp : ∀ i k, i < r.length → k < r.length → r.getD i 0 = r.getD k 0 → out.getD i 0 - out.getD k 0 ≤ 1 ∧ out.getD k 0 - out.getD i 0 ≤ 1 ∧ (i < k → out.getD k 0 ≤ out.getD i 0)) :
    ∀ m i : Nat, m + i = r.length → loopR (dynposlaw17_BalanceShares_L2 s total out) (r, out, sumL (out.take i), out, (i : Int)) = some (.inl (r, out, sumL out))
  | 0, i, hi => by
    have et : out.take i = out := by rw [List.take_of_length_le (by omega)]
    have : decide ((i : Int) < len out) = false := decide_eq_false (by unfold len; omega)
    refine loopR_done ?_
    simp only [dynposlaw17_BalanceShares_L2, this, Bool.false_eq_true, if_false, et]
  | m + 1, i, hi => by
    have hir : i < r.length := by omega
    have hio : i < out.length := by omega
    have c1 : decide ((i : Int) < len out) = true := decide_eq_true (by unfold len; omega)
    have i1 : idx r (i : Int) = some (r.getD i 0) := idx_getD hir 0
    have i3 : idx out (i : Int) = some (out.getD i 0) := idx_getD hio 0
    have ei : out.getD i 0 = out[i] := by simp [List.getD, hio]
    have b1 := hb out[i] (List.getElem_mem _)
    rw [← ei] at b1
    have d1 : decide (out.getD i 0 < 0) = false := decide_eq_false (by omega)
    have hsb := sum_bd (l := out.take i) (B := 50000000000) fun x hx => hb x (List.mem_of_mem_take hx)
    have hln : (out.take i).length ≤ 5 := by simp; omega
    have w1 : W (sumL (out.take i) + out.getD i 0) = sumL (out.take (i + 1)) := by rw [W_sm (by omega) (by omega), sumL_take hio, ei]
    have e3 : W ((i : Int) + 1) = ((i + 1 : Nat) : Int) := by rw [W_sm (by omega) (by omega)]; omega
    have hin := pair_loop h5 hl hb hir (fun k hk => hp i k hir hk) r.length 0 (by omega)
    have hin' : loopR (dynposlaw17_BalanceShares_L3 (i : Int) (out.getD i 0) out) (r, out, out, 0) = some (.inl (r, out, out)) := hin
    refine (loopR_next ?_).trans (all_loop h5 hl hb hle hp m (i + 1) (by omega))
    by_cases ht : total ≤ s
    · have d2 : decide (total ≤ s) = true := decide_eq_true ht
      have d3 : decide (out.getD i 0 > r.getD i 0) = false := decide_eq_false (by have := hle ht i hir; omega)
      simp only [dynposlaw17_BalanceShares_L2, c1, if_true, i3, Option.bind_some, d1, Bool.false_eq_true, if_false, d2, i1, d3, hin', Sum.elim_inl, w1, e3]
    · have d2 : decide (total ≤ s) = false := decide_eq_false ht
      simp only [dynposlaw17_BalanceShares_L2, c1, if_true, i3, Option.bind_some, d1, Bool.false_eq_true, if_false, d2, hin', Sum.elim_inl, w1, e3]
end

theorem split_empty1 : balance_Split 1 [] = some ([], 9) := by
  have hl : loopR (balance_check_L1 []) (0, 0) = some (.inl 0) := loopR_done rfl
  have hc : balance_check 1 [] = some (0, 9) := by
    have e1 : decide (len ([] : List Int) > 8) = false := rfl
    have e3 : decide ((1 : Int) < 0) = false := rfl
    have e4 : decide ((1 : Int) > 800000) = false := rfl
    have e5 : (len ([] : List Int) == 0) = true := rfl
    have e6 : ((1 : Int) != 0) = true := rfl
    simp only [balance_check, e1, Bool.false_eq_true, if_false, hl, Option.bind_some, Sum.elim_inl, e3, e4, e5, e6, if_true]
  have e7 : ((9 : Int) != 0) = true := rfl
  simp only [balance_Split, hc, Option.bind_some, e7, if_true]
theorem sort_empty (f : Int → Int → Option Int) : slices_SortStableFunc_int_int [] f = some [] := by
  have hl : len ([] : List Int) = 0 := rfl
  have h1 : loopR (slices_stableCmpFunc_int_L1 0 f) ([], 0, 20) = some ([], 0) := loopR_done rfl
  have h2 : loopR (slices_insertionSortCmpFunc_int_L1 0 0 f) ([], W (0 + 1)) = some [] := loopR_done rfl
  have h3 : loopR (slices_stableCmpFunc_int_L2 0 f) ([], 20) = some [] := loopR_done rfl
  simp only [slices_SortStableFunc_int_int, slices_stableCmpFunc_int, hl, h1, Option.bind_some, slices_insertionSortCmpFunc_int, h2, h3]
theorem split_empty0 : balance_Split 0 [] = some ([], 0) := by
  have hl : loopR (balance_check_L1 []) (0, 0) = some (.inl 0) := loopR_done rfl
  have hc : balance_check 0 [] = some (0, 0) := by
    have e1 : decide (len ([] : List Int) > 8) = false := rfl
    have e3 : decide ((0 : Int) < 0) = false := rfl
    have e4 : decide ((0 : Int) > 800000) = false := rfl
    have e5 : (len ([] : List Int) == 0) = true := rfl
    have e6 : ((0 : Int) != 0) = false := rfl
    simp only [balance_check, e1, Bool.false_eq_true, if_false, hl, Option.bind_some, Sum.elim_inl, e3, e4, e5, e6, if_true]
  have e7 : ((0 : Int) != 0) = false := rfl
  have e8 : mkL Int (len ([] : List Int)) = some [] := mkL_int (n := 0) (by omega)
  have h1 : loopR (balance_Split_L1 0 [] 0) ([], [], 0, 0) = some ([], [], 0) := loopR_done rfl
  have h2 : slc ([] : List Int) 0 0 = some [] := rfl
  have h3 : loopR (balance_Split_L2 []) ([], [], 0) = some [] := loopR_done rfl
  simp only [balance_Split, hc, Option.bind_some, e7, Bool.false_eq_true, if_false, e8, h1, sort_empty, h2, h3]

theorem dynposlaw17_BalanceShares_law (t : List Int) : dynposlaw17_BalanceShares t = some true := by
  obtain ⟨st, h1⟩ := new_run t
  obtain ⟨r, st2, h2, hr⟩ := ratings_run st
  simp only [dynposlaw17_BalanceShares, h1, Option.bind_some, h2]
  by_cases hne : r = []
  · subst hne
    have e : (len ([] : List Int) == 0) = true := rfl
    have e9 : ((9 : Int) == 9) = true := rfl
    have ec : ((0 : Int) == 0) = true := rfl
    simp only [e, if_true, split_empty1, split_empty0, e9, ec, sane_run, Option.bind_some]
  have hpos : 1 ≤ r.length := List.length_pos_iff.2 hne
  have e0 : (len r == 0) = false := by
    simp [len]; exact hne
  have hsb := sumL_bd hr.rat.2
  have hs : 0 < sumL r := by omega
  have hs5 : sumL r ≤ 500 := by
    have := sum_bd (l := r) (B := 100) fun x hx => by have := hr.2 x hx; omega
    have := hr.1
    omega
  have hsum := sum_loop hr r.length 0 (by omega)
  have hsum' : loopR (dynposlaw17_BalanceShares_L1 r) (r, 0, r, 0) = some (r, sumL r) := hsum
  have e3 : W (W (2 * sumL r) + 1) = 2 * sumL r + 1 := by
    rw [W_sm (x := 2 * sumL r) (by omega) (by omega), W_sm (by omega) (by omega)]
  obtain ⟨total, st4, h4, ht1, ht2⟩ := src_N_some st2 (n := 2 * sumL r + 1) (by omega) (by omega)
  have hT : total ≤ 800000 := by omega
  have s1 := split_run hr.rat hne (total := total) ht1 hT
  have hlen := split_len hr.rat hne ht1
  have hb := out_bd hr.rat hne ht1 hT
  have hfine := fun i (hi : i < r.length) => out_fine hr.rat hne ht1 hT hi
  have hosum := split_sum hr.rat hne ht1
  have hck := Check_true hr.rat hne ht1 hT hlen (fun x hx => by have := hb x hx; omega) hfine hosum
  have hall := all_loop (s := sumL r) (total := total) hr.1 hlen hb (fun ht i hi => out_le hr.rat hne ht1 hT ht hi) (fun i k hi hk he => out_pair hr.rat hne ht1 hi hk he) r.length 0 (by omega)
  rw [hosum] at hall
  obtain ⟨out, hout⟩ : ∃ out, out = splitP total r (sumL r) := ⟨_, rfl⟩
  rw [← hout] at s1 hlen hb hfine hck hall
  have hall' : loopR (dynposlaw17_BalanceShares_L2 (sumL r) total out) (r, out, 0, out, 0) = some (.inl (r, out, total)) := hall
  have ea : ((0 : Int) != 0) = false := rfl
  have eb : ((r.length : Int) != len r) = false := by simp [len]
  have eapp : app ([] : List Int) out = some out := by
    rw [app_sm (by have := hr.1; simp; omega)]; rfl
  have hln : len out = (r.length : Int) := by unfold len; rw [hlen]
  obtain ⟨ii, st5, h5, hi1, hi2⟩ := src_N_some st4 (n := (r.length : Int)) (by omega) (by have := hr.1; omega)
  obtain ⟨kk, st6, h6, hk1, hk2⟩ := src_N_some st5 (n := (r.length : Int)) (by omega) (by have := hr.1; omega)
  obtain ⟨i, rfl⟩ := Int.eq_ofNat_of_zero_le hi1
  obtain ⟨k, rfl⟩ := Int.eq_ofNat_of_zero_le hk1
  have hi : i < r.length := by omega
  have hk : k < r.length := by omega
  have ei : out.getD i 0 = out[i] := by simp [List.getD, hlen, hi]
  have ek : out.getD k 0 = out[k] := by simp [List.getD, hlen, hk]
  have bi := hb out[i] (List.getElem_mem _)
  have bk := hb out[k] (List.getElem_mem _)
  rw [← ei] at bi
  rw [← ek] at bk
  have x1 : idx out (i : Int) = some (out.getD i 0) := idx_getD (by omega) 0
  have x2 : idx out (k : Int) = some (out.getD k 0) := idx_getD (by omega) 0
  have w1 : W (out.getD i 0 + 2) = out.getD i 0 + 2 := W_sm (by omega) (by omega)
  have w2 : W (out.getD k 0 - 2) = out.getD k 0 - 2 := W_sm (by omega) (by omega)
  have s2 : setO out (i : Int) (out.getD i 0 + 2) = some (out.set i (out.getD i 0 + 2)) := setO_nat (by omega) _
  have s3 : setO (out.set i (out.getD i 0 + 2)) (k : Int) (out.getD k 0 - 2) = some ((out.set i (out.getD i 0 + 2)).set k (out.getD k 0 - 2)) := setO_nat (by simp; omega) _
  simp only [e0, Bool.false_eq_true, if_false, hsum', Option.bind_some, e3, h4, s1, ea, eb, hck, Bool.not_true, hall', Sum.elim_inl, eapp, hln, h5, h6, x1, x2, w1, w2, s2, s3, beq_self_eq_true, if_true]
  by_cases hik : i = k
  · subst hik
    simp only [beq_self_eq_true, if_true, sane_run, Option.bind_some]
  · have hne2 : (((i : Nat) : Int) == ((k : Nat) : Int)) = false := by
      simp only [beq_eq_false_iff_ne, ne_eq]
      omega
    have eg : ((out.set i (out.getD i 0 + 2)).set k (out.getD k 0 - 2)).getD i 0 = out.getD i 0 + 2 := by
      rw [List.getD_eq_getElem?_getD, List.getElem?_set_ne (by omega), List.getElem?_set_self (by omega)]
      rfl
    have hbad : ¬ fine total (sumL r) (r.getD i 0) (((out.set i (out.getD i 0 + 2)).set k (out.getD k 0 - 2)).getD i 0) := by
      rw [eg]
      rintro ⟨_, f2⟩
      have f3 := (hfine i hi).1
      have er : r.getD i 0 = r[i] := by simp [List.getD, hi]
      have hfb := floor_bd ht1 hT hs (hr.rat.2 r[i] (List.getElem_mem _))
      rw [← er] at hfb
      have hc := ceil_bd hfb.1 hs
      omega
    have hcf := Check_false hr.rat hne ht1 hT (l := (out.set i (out.getD i 0 + 2)).set k (out.getD k 0 - 2)) (by simp; omega) hi hbad
    simp only [hne2, Bool.false_eq_true, if_false, hcf, Option.bind_some, Bool.not_false, if_true, sane_run]

end Go.Proofs.Ytnpghnnlcakbfaa
