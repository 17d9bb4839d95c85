/- Shares: the division. -/
import Derived.Test.YtnpghnnlcakbfaaLawBal
namespace Go.Proofs.Ytnpghnnlcakbfaa
open Go Go.RowKit Dp

def fillZ (l : List Int) (i : Nat) : List Int := l.take i ++ List.replicate (l.length - i) 0
theorem fillZ_len {l : List Int} {i : Nat} (h : i ≤ l.length) : (fillZ l i).length = l.length := by simp [fillZ]; omega
theorem fillZ_set {l : List Int} {i : Nat} (h : i < l.length) : (fillZ l i).set i l[i] = fillZ l (i + 1) := by
  have e : l.length - i = (l.length - (i + 1)) + 1 := by omega
  have hl : (l.take i).length = i := by simp; omega
  unfold fillZ
  rw [e, List.replicate_succ, List.take_succ_eq_append_getElem h, List.set_append_right _ _ (by omega), hl, Nat.sub_self, List.set_cons_zero]
  simp only [List.append_assoc, List.singleton_append]
theorem fillZ_zero (l : List Int) : fillZ l 0 = List.replicate l.length 0 := by simp [fillZ]
theorem fillZ_end (l : List Int) : fillZ l l.length = l := by simp [fillZ]
theorem fillZ_get {l : List Int} {i : Nat} (h : i < l.length) : (fillZ l (i + 1)).getD i 0 = l[i] := by
  rw [← fillZ_set h, List.getD_eq_getElem?_getD, List.getElem?_set_self (by rw [fillZ_len (by omega)]; exact h)]
  rfl

theorem floors_len (total : Int) (r : List Int) (s : Int) : (floors total r s).length = r.length := by simp [floors]
theorem firsts_len (n : Nat) : (firsts n).length = n := by simp [firsts]
theorem floor_bd {total s x : Int} (h0 : 0 ≤ total) (h1 : total ≤ 800000) (hs : 0 < s) (hx : 1 ≤ x ∧ x ≤ 50000) : 0 ≤ total * x ∧ total * x ≤ 40000000000 ∧ 0 ≤ total * x / s ∧ total * x / s ≤ 40000000000 := by
  have a1 : 0 ≤ total * x := Int.mul_nonneg h0 (by omega)
  have a2 : total * x ≤ 800000 * 50000 := Int.mul_le_mul h1 hx.2 (by omega) (by omega)
  have a3 : 0 ≤ total * x / s := Int.ediv_nonneg a1 (by omega)
  have a4 : total * x / s ≤ total * x := Int.ediv_le_self _ a1
  omega
theorem floors_mem {total s : Int} {r : List Int} (h : Rat r) (h0 : 0 ≤ total) (h1 : total ≤ 800000) (hs : 0 < s) : ∀ x ∈ floors total r s, 0 ≤ x ∧ x ≤ 40000000000 := by
  intro x hx
  obtain ⟨y, hy, rfl⟩ := List.mem_map.1 hx
  have := floor_bd h0 h1 hs (h.2 y hy)
  omega
theorem sum_bd {l : List Int} {B : Int} (h : ∀ x ∈ l, 0 ≤ x ∧ x ≤ B) : 0 ≤ sumL l ∧ sumL l ≤ B * l.length := by
  induction l with
  | nil => simp [sumL]
  | cons x l ih =>
    have h1 := ih fun y hy => h y (List.mem_cons_of_mem _ hy)
    have h2 := h x List.mem_cons_self
    have : sumL (x :: l) = x + sumL l := rfl
    rw [this]
    have e : B * ((x :: l).length : Int) = B * l.length + B := by simp [Int.mul_add]
    rw [e]
    omega
theorem split_loop {r : List Int} (h : Rat r) {total s : Int} (h0 : 0 ≤ total) (h1 : total ≤ 800000) (hs : 0 < s) : ∀ (m i : Nat), m + i = r.length →
    loopR (balance_Split_L1 total r s) (fillZ (floors total r s) i, fillZ (firsts r.length) i, total - sumL ((floors total r s).take i), (i : Int)) = some (floors total r s, firsts r.length, total - sumL (floors total r s))
  | 0, i, hi => by
    have hi' : i = r.length := by omega
    have : decide ((i : Int) < len r) = false := decide_eq_false (by unfold len; omega)
    refine loopR_done ?_
    simp only [balance_Split_L1, this, Bool.false_eq_true, if_false]
    have e1 : fillZ (floors total r s) i = floors total r s := by rw [hi', ← floors_len total r s, fillZ_end]
    have e2 : fillZ (firsts r.length) i = firsts r.length := by
      have := fillZ_end (firsts r.length)
      rw [firsts_len] at this
      rw [hi', this]
    have e3 : (floors total r s).take i = floors total r s := by rw [hi', ← floors_len total r s, List.take_length]
    rw [e1, e2, e3]
  | m + 1, i, hi => by
    have hlt : i < r.length := by omega
    have hb := h.2 r[i] (List.getElem_mem _)
    have hfb := floor_bd h0 h1 hs hb
    have h2 : decide ((i : Int) < len r) = true := decide_eq_true (by unfold len; omega)
    have hfl : i < (floors total r s).length := by rw [floors_len]; exact hlt
    have hfi : (floors total r s)[i] = total * r[i] / s := by simp [floors]
    have hff : i < (firsts r.length).length := by rw [firsts_len]; exact hlt
    have hfg : (firsts r.length)[i] = (i : Int) := by simp [firsts]
    have e1 : W (total * r[i]) = total * r[i] := W_sm (by omega) (by omega)
    have e2 : quoO (total * r[i]) s = some ((floors total r s)[i]) := by rw [quoO_nn (by omega) hs (by omega), hfi]
    have l1 : i < (fillZ (floors total r s) i).length := by rw [fillZ_len (by omega)]; exact hfl
    have l2 : i < (fillZ (firsts r.length) i).length := by rw [fillZ_len (by omega)]; exact hff
    have e3 : setO (fillZ (floors total r s) i) (i : Int) ((floors total r s)[i]) = some (fillZ (floors total r s) (i + 1)) := by rw [setO_nat l1, fillZ_set hfl]
    have e4 : setO (fillZ (firsts r.length) i) (i : Int) (i : Int) = some (fillZ (firsts r.length) (i + 1)) := by
      have := fillZ_set hff
      rw [hfg] at this
      rw [setO_nat l2, this]
    have e5 : idx (fillZ (floors total r s) (i + 1)) (i : Int) = some ((floors total r s)[i]) := by
      rw [idx_getD (by rw [fillZ_len (by omega)]; exact hfl) 0, fillZ_get hfl]
    have h8 := h.1
    have hsb := sum_bd (l := (floors total r s).take i) (B := 40000000000) fun x hx => floors_mem h h0 h1 hs x (List.mem_of_mem_take hx)
    have hln : ((floors total r s).take i).length ≤ 8 := by simp [floors_len]; omega
    have e6 : W (total - sumL ((floors total r s).take i) - (floors total r s)[i]) = total - sumL ((floors total r s).take (i + 1)) := by
      rw [sumL_take hfl, hfi]
      have : W (total - sumL ((floors total r s).take i) - total * r[i] / s) = total - sumL ((floors total r s).take i) - total * r[i] / s := W_sm (by omega) (by omega)
      rw [this]; omega
    have e7 : W ((i : Int) + 1) = ((i + 1 : Nat) : Int) := by rw [W_sm (by omega) (by omega)]; omega
    refine (loopR_next (s' := (fillZ (floors total r s) (i + 1), fillZ (firsts r.length) (i + 1), total - sumL ((floors total r s).take (i + 1)), ((i + 1 : Nat) : Int))) ?_).trans (split_loop h h0 h1 hs m (i + 1) (by omega))
    simp only [balance_Split_L1, h2, if_true, idx_get hlt, Option.bind_some, e1, e2, idx_get l1, idx_get l2, e3, e4, e5, e6, e7]

theorem left_bd {total s : Int} (h0 : 0 ≤ total) (hs : 0 < s) : ∀ l : List Int, s * sumL (floors total l s) ≤ total * sumL l ∧ total * sumL l ≤ s * sumL (floors total l s) + s * l.length
  | [] => by simp [floors, sumL]
  | x :: l => by
    have ih := left_bd h0 hs l
    have e1 : sumL (floors total (x :: l) s) = total * x / s + sumL (floors total l s) := rfl
    have e2 : sumL (x :: l) = x + sumL l := rfl
    have e3 : s * (total * x / s) + total * x % s = total * x := Int.mul_ediv_add_emod _ _
    have e4 := Int.emod_nonneg (total * x) (b := s) (by omega)
    have e5 := Int.emod_lt_of_pos (total * x) hs
    rw [e1, e2, Int.mul_add, Int.mul_add]
    have e6 : s * ((x :: l).length : Int) = s * l.length + s := by simp [Int.mul_add]
    rw [e6]
    omega
theorem left_ok {r : List Int} (hs : 0 < sumL r) {total : Int} (h0 : 0 ≤ total) : 0 ≤ total - sumL (floors total r (sumL r)) ∧ total - sumL (floors total r (sumL r)) ≤ r.length := by
  have h := left_bd h0 hs r
  have c1 : total * sumL r = sumL r * total := Int.mul_comm _ _
  rw [c1] at h
  have h1 := Int.le_of_mul_le_mul_left h.1 hs
  have h2 : sumL r * total ≤ sumL r * (sumL (floors total r (sumL r)) + r.length) := by rw [Int.mul_add]; exact h.2
  have h3 := Int.le_of_mul_le_mul_left h2 hs
  omega

theorem rest_run {r : List Int} (h : Rat r) {total s : Int} (h0 : 0 ≤ total) (h1 : total ≤ 800000) (hs : 0 < s) {x : Int} (hx : 0 ≤ x ∧ x < r.length) : balance_Split_1 x total r s = some (rest total r s x) := by
  obtain ⟨k, rfl⟩ := Int.eq_ofNat_of_zero_le hx.1
  have hk : k < r.length := by omega
  have hb := floor_bd h0 h1 hs (h.2 r[k] (List.getElem_mem _))
  have e : r.getD k 0 = r[k] := by simp [List.getD, hk]
  simp only [balance_Split_1, idx_get hk, Option.bind_some, W_sm (x := total * r[k]) (by omega) (by omega), remO_nn (a := total * r[k]) (by omega) hs, rest, Int.toNat_natCast, e]
theorem rest_bd (total : Int) (r : List Int) {s : Int} (hs : 0 < s) (x : Int) : 0 ≤ rest total r s x ∧ rest total r s x < s := ⟨Int.emod_nonneg _ (by omega), Int.emod_lt_of_pos _ hs⟩
theorem cmp_run {r : List Int} (h : Rat r) {total s : Int} (h0 : 0 ≤ total) (h1 : total ≤ 800000) (hs : 0 < s) (hs2 : s ≤ 1000000) :
    Cmp (fun a b => balance_Split_2 a b fun i => balance_Split_1 i total r s) (before_ total r s) (fun x => 0 ≤ x ∧ x < r.length) := by
  intro x y hx hy
  have b1 := rest_bd total r hs x
  have b2 := rest_bd total r hs y
  refine ⟨rest total r s y - rest total r s x, ?_, rfl⟩
  simp only [balance_Split_2, rest_run h h0 h1 hs hx, rest_run h h0 h1 hs hy, Option.bind_some, W_sm (x := rest total r s y - rest total r s x) (by omega) (by omega)]
theorem firsts_ok (n : Nat) : Ok n (fun x => 0 ≤ x ∧ x < n) (firsts n) := by
  refine ⟨firsts_len n, fun x hx => ?_⟩
  obtain ⟨k, hk, rfl⟩ := List.mem_map.1 hx
  have := List.mem_range.1 hk
  exact ⟨Int.natCast_nonneg k, by simpa using this⟩

theorem incs_loop {y : List Int} {n : Nat} (hy : ∀ x ∈ y, 0 ≤ x ∧ x < (n : Int)) (hn : y.length ≤ 1000) : ∀ (m i : Nat) (o : List Int), m + i = y.length → o.length = n → (∀ x ∈ o, 0 ≤ x ∧ x ≤ 1000000000000 + (i : Int)) →
    loopR (balance_Split_L2 y) (o, y, (i : Int)) = some (incs o (y.drop i))
  | 0, i, o, hi, ho, hb => by
    have : decide ((i : Int) < len y) = false := decide_eq_false (by unfold len; omega)
    refine loopR_done ?_
    simp only [balance_Split_L2, this, Bool.false_eq_true, if_false]
    rw [List.drop_of_length_le (by omega)]
    rfl
  | m + 1, i, o, hi, ho, hb => by
    have hlt : i < y.length := by omega
    have h1 : decide ((i : Int) < len y) = true := decide_eq_true (by unfold len; omega)
    have hyi := hy y[i] (List.getElem_mem _)
    obtain ⟨k, hk⟩ := Int.eq_ofNat_of_zero_le hyi.1
    have hkn : k < o.length := by omega
    have hv := hb o[k] (List.getElem_mem _)
    have e1 : W (o[k] + 1) = o[k] + 1 := W_sm (by omega) (by omega)
    have e2 : W ((i : Int) + 1) = ((i + 1 : Nat) : Int) := by rw [W_sm (by omega) (by omega)]; omega
    have e3 : idx y (i : Int) = some (k : Int) := by rw [idx_get hlt, hk]
    have eg : o.getD k 0 = o[k] := by simp [List.getD, hkn]
    have ih := incs_loop hy hn m (i + 1) (o.set k (o[k] + 1)) (by omega) (by simp [ho]) (fun x hx => by
      rcases List.mem_or_eq_of_mem_set hx with hx | rfl
      · have := hb x hx; omega
      · omega)
    refine (loopR_next (s' := (o.set k (o[k] + 1), y, ((i + 1 : Nat) : Int))) ?_).trans (ih.trans ?_)
    · simp only [balance_Split_L2, h1, if_true, e3, Option.bind_some, idx_get hkn, e1, setO_nat hkn, e2]
    · rw [List.drop_eq_getElem_cons hlt, hk]
      simp [incs, hkn]

theorem split_run {r : List Int} (h : Rat r) (hne : r ≠ []) {total : Int} (h0 : 0 ≤ total) (h1 : total ≤ 800000) : balance_Split total r = some (splitP total r (sumL r), 0) := by
  have hpos : 1 ≤ r.length := List.length_pos_iff.2 hne
  have hsb := sumL_bd h.2
  have h8 := h.1
  have hs : 0 < sumL r := by omega
  have hsort := sort_run (cmp_run h h0 h1 hs (by omega)) (n := r.length) (by omega) hpos (firsts_ok _)
  have hl := left_ok hs h0
  have hloop := split_loop h h0 h1 hs r.length 0 (by omega)
  rw [fillZ_zero, fillZ_zero, floors_len, firsts_len] at hloop
  have e0 : total - sumL ((floors total r (sumL r)).take 0) = total := by simp [sumL]
  rw [e0] at hloop
  have hloop' : loopR (balance_Split_L1 total r (sumL r)) (List.replicate r.length 0, List.replicate r.length 0, total, 0) = some (floors total r (sumL r), firsts r.length, total - sumL (floors total r (sumL r))) := hloop
  obtain ⟨k, hk⟩ := Int.eq_ofNat_of_zero_le hl.1
  have hkn : k ≤ r.length := by omega
  have hsl : slc (order total r (sumL r)) 0 (total - sumL (floors total r (sumL r))) = some ((order total r (sumL r)).take k) := by
    rw [hk]
    exact slc_take (by have := hsort.2.1; unfold order; omega)
  have hmk : mkL Int (len r) = some (List.replicate r.length 0) := mkL_int (by omega)
  have hinc := incs_loop (y := (order total r (sumL r)).take k) (n := r.length) (fun x hx => hsort.2.2 x (List.mem_of_mem_take hx)) (by simp; omega) ((order total r (sumL r)).take k).length 0 (floors total r (sumL r)) (by omega) (floors_len _ _ _)
    (fun x hx => by have := floors_mem h h0 h1 hs x hx; omega)
  have hinc' : loopR (balance_Split_L2 ((order total r (sumL r)).take k)) (floors total r (sumL r), (order total r (sumL r)).take k, 0) = some (incs (floors total r (sumL r)) ((order total r (sumL r)).take k)) := by
    simpa using hinc
  have hso : slices_SortStableFunc_int_int (firsts r.length) (fun z0_ z1_ => balance_Split_2 z0_ z1_ (fun z0_ => balance_Split_1 z0_ total r (sumL r))) = some (order total r (sumL r)) := hsort.1
  have et : (total - sumL (floors total r (sumL r))).toNat = k := by rw [hk]; rfl
  have eb : ((0 : Int) != 0) = false := rfl
  simp only [balance_Split, check_run h hne h0 h1, Option.bind_some, eb, Bool.false_eq_true, if_false, hmk, hloop', hso, hsl, hinc', splitP, et]

end Go.Proofs.Ytnpghnnlcakbfaa
