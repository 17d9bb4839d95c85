/- Shares: what each gets. -/
import Derived.Test.YtnpghnnlcakbfaaLawBal3
namespace Go.Proofs.Ytnpghnnlcakbfaa
open Go Go.RowKit Dp

theorem incs_len : ∀ (l o : List Int), (incs o l).length = o.length
  | [], _ => rfl
  | x :: l, o => by
    show (incs (o.set _ _) l).length = _
    rw [incs_len l]; simp
theorem incs_get : ∀ (l o : List Int), l.Nodup → (∀ x ∈ l, 0 ≤ x) → ∀ i : Nat, i < o.length → (incs o l).getD i 0 = o.getD i 0 + if (i : Int) ∈ l then 1 else 0
  | [], o, _, _, i, _ => by simp [incs]
  | x :: l, o, hn, h0, i, hi => by
    have hn' := List.nodup_cons.1 hn
    have ih := incs_get l (o.set x.toNat (o.getD x.toNat 0 + 1)) hn'.2 (fun y hy => h0 y (List.mem_cons_of_mem _ hy)) i (by simpa using hi)
    show (incs (o.set x.toNat (o.getD x.toNat 0 + 1)) l).getD i 0 = _
    rw [ih]
    have hx := h0 x List.mem_cons_self
    by_cases he : (i : Int) = x
    · have hin : ¬ (i : Int) ∈ l := by rw [he]; exact hn'.1
      have e1 : x.toNat = i := by omega
      rw [if_neg hin, if_pos (by rw [he]; exact List.mem_cons_self), e1]
      simp [List.getD, hi]
    · have e1 : x.toNat ≠ i := by omega
      have e2 : (o.set x.toNat (o.getD x.toNat 0 + 1)).getD i 0 = o.getD i 0 := by
        simp only [List.getD_eq_getElem?_getD, List.getElem?_set_ne e1]
      rw [e2]
      by_cases hl : (i : Int) ∈ l
      · rw [if_pos hl, if_pos (List.mem_cons_of_mem _ hl)]
      · rw [if_neg hl, if_neg (by
          intro hh
          rcases List.mem_cons.1 hh with hh | hh
          · exact he hh
          · exact hl hh)]
theorem sumL_set : ∀ (o : List Int) (i : Nat), i < o.length → sumL (o.set i (o.getD i 0 + 1)) = sumL o + 1
  | [], i, h => by simp at h
  | x :: o, 0, _ => by
    show x + 1 + sumL o = x + sumL o + 1
    omega
  | x :: o, i + 1, h => by
    have ih := sumL_set o i (by simpa using h)
    show x + sumL (o.set i (o.getD i 0 + 1)) = x + sumL o + 1
    rw [ih]; omega
theorem sumL_incs : ∀ (l o : List Int), (∀ x ∈ l, 0 ≤ x ∧ x < (o.length : Int)) → sumL (incs o l) = sumL o + l.length
  | [], o, _ => by simp [incs]
  | x :: l, o, h => by
    have hx := h x List.mem_cons_self
    show sumL (incs (o.set x.toNat (o.getD x.toNat 0 + 1)) l) = _
    rw [sumL_incs l _ (fun y hy => by have := h y (List.mem_cons_of_mem _ hy); simpa using this), sumL_set o x.toNat (by omega)]
    simp only [List.length_cons]
    omega
theorem sumL_perm {a b : List Int} (h : a.Perm b) : sumL a = sumL b := by
  induction h with
  | nil => rfl
  | cons x _ ih => exact congrArg (x + ·) ih
  | swap x y l => show y + (x + sumL l) = x + (y + sumL l); omega
  | trans _ _ h1 h2 => exact h1.trans h2
theorem sumL_append (a b : List Int) : sumL (a ++ b) = sumL a + sumL b := by
  induction a with
  | nil => simp [sumL]
  | cons x a ih => show x + sumL (a ++ b) = x + sumL a + sumL b; rw [ih]; omega
theorem sum_lt {f : Int → Int} {s : Int} : ∀ {T : List Int}, (∀ y ∈ T, 0 ≤ f y ∧ f y < s) → sumL (T.map f) ≤ s * T.length
  | [], _ => by simp [sumL]
  | y :: T, h => by
    have ih := sum_lt (T := T) fun z hz => h z (List.mem_cons_of_mem _ hz)
    have hy := h y List.mem_cons_self
    show f y + sumL (T.map f) ≤ _
    have e : s * ((y :: T).length : Int) = s * T.length + s := by simp [Int.mul_add]
    rw [e]; omega
theorem sum_lt0 {f : Int → Int} {s x : Int} : ∀ {T : List Int}, (∀ y ∈ T, 0 ≤ f y ∧ f y < s) → x ∈ T → f x = 0 → sumL (T.map f) ≤ s * T.length - s
  | y :: T, h, hx, h0 => by
    have hy := h y List.mem_cons_self
    have e : s * ((y :: T).length : Int) = s * T.length + s := by simp [Int.mul_add]
    show f y + sumL (T.map f) ≤ _
    rw [e]
    rcases List.mem_cons.1 hx with rfl | hx
    · have := sum_lt (T := T) fun z hz => h z (List.mem_cons_of_mem _ hz)
      omega
    · have := sum_lt0 (T := T) (fun z hz => h z (List.mem_cons_of_mem _ hz)) hx h0
      omega
theorem sum_zero {f : Int → Int} : ∀ {T : List Int}, (∀ y ∈ T, f y = 0) → sumL (T.map f) = 0
  | [], _ => rfl
  | y :: T, h => by
    show f y + sumL (T.map f) = 0
    rw [h y List.mem_cons_self, sum_zero fun z hz => h z (List.mem_cons_of_mem _ hz)]
    omega
theorem rests_sum (total : Int) (r : List Int) (s : Int) : sumL ((firsts r.length).map (rest total r s)) = total * sumL r - s * sumL (floors total r s) := by
  have e : (firsts r.length).map (rest total r s) = r.map fun x => total * x % s := by
    refine List.ext_getElem (by simp [firsts]) fun i h1 h2 => ?_
    have hi : i < r.length := by simpa using h2
    simp [firsts, rest, List.getD, hi]
  rw [e]
  have : ∀ l : List Int, sumL (l.map fun x => total * x % s) = total * sumL l - s * sumL (floors total l s) := by
    intro l
    induction l with
    | nil => simp [sumL, floors]
    | cons x l ih =>
      have e1 : sumL (floors total (x :: l) s) = total * x / s + sumL (floors total l s) := rfl
      have e2 : sumL (x :: l) = x + sumL l := rfl
      have e3 : s * (total * x / s) + total * x % s = total * x := Int.mul_ediv_add_emod _ _
      show total * x % s + sumL (l.map fun x => total * x % s) = _
      rw [ih, e1, e2, Int.mul_add, Int.mul_add]
      omega
  exact this r

/-- the places that get one more -/
def tops (total : Int) (r : List Int) : List Int := (order total r (sumL r)).take (total - sumL (floors total r (sumL r))).toNat

theorem sum_pos {r : List Int} (h : Rat r) (hne : r ≠ []) {total : Int} (h0 : 0 ≤ total) : 0 < sumL r := by
  have hpos : 1 ≤ r.length := List.length_pos_iff.2 hne
  have := sumL_bd h.2
  omega
theorem order_len {r : List Int} (h : Rat r) (hne : r ≠ []) {total : Int} (h0 : 0 ≤ total) : (order total r (sumL r)).length = r.length := by rw [(order_spec total r (sumL r) hne).2.length_eq, firsts_len]
theorem order_mem {r : List Int} (h : Rat r) (hne : r ≠ []) {total : Int} (h0 : 0 ≤ total) {x : Int} : x ∈ order total r (sumL r) ↔ 0 ≤ x ∧ x < r.length := by
  rw [(order_spec total r (sumL r) hne).2.mem_iff]
  constructor
  · exact (firsts_ok r.length).2 x
  · rintro ⟨h1, h2⟩
    obtain ⟨k, rfl⟩ := Int.eq_ofNat_of_zero_le h1
    exact List.mem_map.2 ⟨k, List.mem_range.2 (by omega), rfl⟩
theorem order_nodup {r : List Int} (h : Rat r) (hne : r ≠ []) {total : Int} (h0 : 0 ≤ total) : (order total r (sumL r)).Nodup := by
  rw [(order_spec total r (sumL r) hne).2.nodup_iff]
  exact (firsts_sorted r.length).imp fun h => by omega
theorem tops_nodup {r : List Int} (h : Rat r) (hne : r ≠ []) {total : Int} (h0 : 0 ≤ total) : (tops total r).Nodup := (order_nodup h hne h0).sublist (List.take_sublist _ _)
theorem tops_mem {r : List Int} (h : Rat r) (hne : r ≠ []) {total : Int} (h0 : 0 ≤ total) {x : Int} (hx : x ∈ tops total r) : 0 ≤ x ∧ x < r.length := (order_mem h hne h0).1 (List.mem_of_mem_take hx)
theorem tops_len {r : List Int} (h : Rat r) (hne : r ≠ []) {total : Int} (h0 : 0 ≤ total) : ((tops total r).length : Int) = total - sumL (floors total r (sumL r)) := by
  have hl := left_ok (sum_pos h hne h0) h0
  have ho := order_len h hne h0
  unfold tops
  rw [List.length_take, ho]
  omega
theorem tops_pos {r : List Int} (h : Rat r) (hne : r ≠ []) {total : Int} (h0 : 0 ≤ total) {x : Int} (hx : x ∈ tops total r) : 0 < rest total r (sumL r) x := by
  have hs := sum_pos h hne h0
  have hb := fun y => rest_bd total r hs y
  apply Int.not_le.1
  intro hle
  have hz : rest total r (sumL r) x = 0 := by have := hb x; omega
  have ho := order_spec total r (sumL r) hne
  have hsplit : tops total r ++ (order total r (sumL r)).drop (total - sumL (floors total r (sumL r))).toNat = order total r (sumL r) := List.take_append_drop _ _
  have hp := ho.1
  rw [← hsplit] at hp
  have hp3 := (List.pairwise_append.1 hp).2.2
  have hD : sumL (((order total r (sumL r)).drop (total - sumL (floors total r (sumL r))).toNat).map (rest total r (sumL r))) = 0 := sum_zero fun d hd => by
    have h1 := hp3 x hx d hd
    have h2 := hb d
    rcases h1 with h1 | h1 <;> omega
  have hT := sum_lt0 (f := rest total r (sumL r)) (s := sumL r) (T := tops total r) (fun y _ => hb y) hx hz
  have hsum : sumL ((order total r (sumL r)).map (rest total r (sumL r))) = total * sumL r - sumL r * sumL (floors total r (sumL r)) := by
    rw [← rests_sum]
    exact sumL_perm (ho.2.map _)
  have e1 : sumL ((order total r (sumL r)).map (rest total r (sumL r))) = sumL ((tops total r).map (rest total r (sumL r))) := by
    rw [← hsplit, List.map_append, sumL_append, hD, Int.add_zero]
  have c1 : total * sumL r = sumL r * total := Int.mul_comm _ _
  rw [e1, c1, ← Int.mul_sub, ← tops_len h hne h0] at hsum
  omega
theorem tops_first {r : List Int} (h : Rat r) (hne : r ≠ []) {total : Int} (h0 : 0 ≤ total) {i j : Int} (hi : 0 ≤ i) (hij : i < j) (he : rest total r (sumL r) i = rest total r (sumL r) j) (hj : j ∈ tops total r) : i ∈ tops total r := by
  have hjm := tops_mem h hne h0 hj
  have him : i ∈ order total r (sumL r) := (order_mem h hne h0).2 ⟨hi, by omega⟩
  have hsplit : tops total r ++ (order total r (sumL r)).drop (total - sumL (floors total r (sumL r))).toNat = order total r (sumL r) := List.take_append_drop _ _
  have hp := (order_spec total r (sumL r) hne).1
  rw [← hsplit] at hp him
  rcases List.mem_append.1 him with hm | hm
  · exact hm
  · rcases (List.pairwise_append.1 hp).2.2 j hj i hm with h1 | h1 <;> omega
theorem split_len {r : List Int} (h : Rat r) (hne : r ≠ []) {total : Int} (h0 : 0 ≤ total) : (splitP total r (sumL r)).length = r.length := by unfold splitP; rw [incs_len, floors_len]
theorem split_get {r : List Int} (h : Rat r) (hne : r ≠ []) {total : Int} (h0 : 0 ≤ total) {i : Nat} (hi : i < r.length) : (splitP total r (sumL r)).getD i 0 = total * r.getD i 0 / sumL r + if (i : Int) ∈ tops total r then 1 else 0 := by
  have := incs_get (tops total r) (floors total r (sumL r)) (tops_nodup h hne h0) (fun x hx => (tops_mem h hne h0 hx).1) i (by rw [floors_len]; exact hi)
  have e : (floors total r (sumL r)).getD i 0 = total * r.getD i 0 / sumL r := by simp [floors, List.getD, hi]
  rw [e] at this
  exact this
theorem split_sum {r : List Int} (h : Rat r) (hne : r ≠ []) {total : Int} (h0 : 0 ≤ total) : sumL (splitP total r (sumL r)) = total := by
  have := sumL_incs (tops total r) (floors total r (sumL r)) (fun x hx => by rw [floors_len]; exact tops_mem h hne h0 hx)
  rw [tops_len h hne h0] at this
  have e : splitP total r (sumL r) = incs (floors total r (sumL r)) (tops total r) := rfl
  rw [e, this]
  omega

end Go.Proofs.Ytnpghnnlcakbfaa
