/- The order of the consumers: sorted by preference, equals as they stand. Plain laws. -/
import Derived.Test.YtfnphdhcgkondaaGreatH1
import Derived.Test.YtfnphdhcgkondaaGreatB2
set_option linter.unusedVariables false
set_option linter.unusedSimpArgs false
namespace Go.Proofs.YtfnphdhcgkondaaGreat
open Go Go.RowKit Dp
namespace Rx

/-- a consumer's preference -/
def prf (b : Board) (c : Int) : Int := (gt b.Consumers c.toNat).Preference
def ltP (b : Board) (x y : Int) : Bool := decide (prf b x < prf b y)
theorem ordc_eq {b : Board} {x y : Int} (hx : 0 ≤ x ∧ x < (b.Consumers.length : Int)) (hy : 0 ≤ y ∧ y < (b.Consumers.length : Int)) : ∃ c, shed_Order_1 x y b = some c ∧ decide (c < 0) = ltP b x y := by
  unfold shed_Order_1
  rw [idx_gtZ hx.1 hx.2, idx_gtZ hy.1 hy.2]
  simp only [Option.bind_some, compare_eq]
  refine ⟨_, rfl, ?_⟩
  unfold ltP prf
  by_cases h1 : (gt b.Consumers x.toNat).Preference < (gt b.Consumers y.toNat).Preference
  · rw [if_pos h1, dT h1]; rfl
  · rw [if_neg h1, dF h1]
    split <;> rfl
theorem inr_run {b : Board} {n : Nat} (hn : n = b.Consumers.length) (h1000 : n ≤ 1000) :
    ∀ (j : Nat) (d : List Int), j < n → Ok n (fun x => 0 ≤ x ∧ x < (n : Int)) d → (∃ k, k ≤ j ∧ Runs (slices_insertionSortCmpFunc_int_L2 0 b) k ((j : Int), d) (inner (ltP b) j d)) ∧ Ok n (fun x => 0 ≤ x ∧ x < (n : Int)) (inner (ltP b) j d)
  | 0, d, hj, h => by
    refine ⟨⟨0, Nat.le_refl _, .done ?_⟩, h⟩
    simp [slices_insertionSortCmpFunc_int_L2, inner]
  | j + 1, d, hj, h => by
    obtain ⟨c, hc, hl⟩ := ordc_eq (b := b) (by rw [← hn]; exact ok_getD h hj) (by rw [← hn]; exact ok_getD h (j := j) (by omega))
    have hlen := h.1
    have e1 : W (((j + 1 : Nat) : Int) - 1) = (j : Int) := by rw [W_sm (by omega) (by omega)]; omega
    have i1 : idx d ((j + 1 : Nat) : Int) = some (d.getD (j + 1) 0) := idx_getD (by omega)
    have i2 : idx d (j : Int) = some (d.getD j 0) := idx_getD (by omega)
    have s1 : setO d ((j + 1 : Nat) : Int) (d.getD j 0) = some (d.set (j + 1) (d.getD j 0)) := setO_nat (by omega) _
    have i3 : idx (d.set (j + 1) (d.getD j 0)) (j : Int) = some ((d.set (j + 1) (d.getD j 0)).getD j 0) := idx_getD (by simp; omega)
    have s2 : setO (d.set (j + 1) (d.getD j 0)) (j : Int) (d.getD (j + 1) 0) = some (swapAt d j) := setO_nat (by simp; omega) _
    have hpos : decide (((j + 1 : Nat) : Int) > 0) = true := decide_eq_true (by omega)
    cases hlt : ltP b (d.getD (j + 1) 0) (d.getD j 0) with
    | true =>
      obtain ⟨⟨k, hk, hr⟩, ho⟩ := inr_run hn h1000 j (swapAt d j) (by omega) (ok_swap h hj)
      rw [inner, if_pos hlt]
      refine ⟨⟨k + 1, by omega, .more ?_ hr⟩, ho⟩
      rw [hlt] at hl
      simp only [slices_insertionSortCmpFunc_int_L2, hpos, if_true, i1, e1, i2, Option.bind_some, hc, hl, s1, i3, s2]
    | false =>
      have hne : ¬ (ltP b (d.getD (j + 1) 0) (d.getD j 0) = true) := by rw [hlt]; simp
      rw [inner, if_neg hne]
      refine ⟨⟨0, by omega, .done ?_⟩, h⟩
      rw [hlt] at hl
      simp only [slices_insertionSortCmpFunc_int_L2, hpos, if_true, i1, e1, i2, Option.bind_some, hc, hl]
      rfl
theorem otr_run {b : Board} {n : Nat} (hn : n = b.Consumers.length) (h1000 : n ≤ 1000) :
    ∀ (m i : Nat) (d : List Int), m + i = n → Ok n (fun x => 0 ≤ x ∧ x < (n : Int)) d → Runs (slices_insertionSortCmpFunc_int_L1 0 (n : Int) b) m ((i : Int), d) (outer (ltP b) m i d) ∧ Ok n (fun x => 0 ≤ x ∧ x < (n : Int)) (outer (ltP b) m i d)
  | 0, i, d, hi, h => by
    refine ⟨.done ?_, h⟩
    have : decide ((i : Int) < (n : Int)) = false := decide_eq_false (by omega)
    simp only [slices_insertionSortCmpFunc_int_L1, outer, this, Bool.false_eq_true, if_false]
  | m + 1, i, d, hi, h => by
    obtain ⟨⟨k, hk, hr⟩, ho⟩ := inr_run hn h1000 i d (by omega) h
    obtain ⟨h1, h2⟩ := otr_run hn h1000 m (i + 1) (inner (ltP b) i d) (by omega) ho
    have hd : decide ((i : Int) < (n : Int)) = true := decide_eq_true (by omega)
    rw [outer]
    refine ⟨.more ?_ h1, h2⟩
    simp only [slices_insertionSortCmpFunc_int_L1, hd, if_true, loopO_of hr (by omega), Option.bind_some, W_succ (show i < 1000000000000000000 by omega)]
/-- the order -/
def ordL (b : Board) : List Int := outer (ltP b) (b.Consumers.length - 1) 1 (firsts b.Consumers.length)
theorem srt_run {b : Board} (hn : b.Consumers.length < 20) : slices_SortStableFunc_int_int (firsts b.Consumers.length) b = some (ordL b) := by
  have hl : len (firsts b.Consumers.length) = (b.Consumers.length : Int) := by unfold len; rw [firsts_len]
  have hs1 : ∀ d, slices_stableCmpFunc_int_L1 (b.Consumers.length : Int) b (0, 20, d) = some (.inr (0, d)) := fun d => by
    simp only [slices_stableCmpFunc_int_L1, dF (show ¬ (20 : Int) ≤ (b.Consumers.length : Int) by omega), Bool.false_eq_true, if_false]
  have hs2 : slices_stableCmpFunc_int_L2 (b.Consumers.length : Int) 20 = some (.inr ()) := by
    simp only [slices_stableCmpFunc_int_L2, dF (show ¬ (20 : Int) < (b.Consumers.length : Int) by omega), Bool.false_eq_true, if_false]
  have hw : W (0 + 1) = ((1 : Nat) : Int) := by rw [W_sm (by omega) (by omega)]; rfl
  have hin : loopO (slices_insertionSortCmpFunc_int_L1 0 (b.Consumers.length : Int) b) (((1 : Nat) : Int), firsts b.Consumers.length) = some (ordL b) := by
    by_cases h1 : 1 ≤ b.Consumers.length
    · obtain ⟨h2, h3⟩ := otr_run (b := b) rfl (by omega) (b.Consumers.length - 1) 1 (firsts b.Consumers.length) (by omega) (firsts_ok _)
      exact loopO_of h2 (by omega)
    · have h0 : b.Consumers.length = 0 := by omega
      have : ordL b = firsts b.Consumers.length := by unfold ordL; rw [h0]; rfl
      rw [this]
      refine loopO_of (.done ?_) (Nat.zero_le _)
      simp only [slices_insertionSortCmpFunc_int_L1, dF (show ¬ ((1 : Nat) : Int) < (b.Consumers.length : Int) by omega), Bool.false_eq_true, if_false]
  simp only [slices_SortStableFunc_int_int, slices_stableCmpFunc_int, hl, loopO_of (.done (hs1 _)) (Nat.zero_le _), Option.bind_some, slices_insertionSortCmpFunc_int, hw, hin, loopO_of (.done hs2) (Nat.zero_le _)]
theorem ordL_spec (b : Board) : (ordL b).Pairwise (fun x y => prf b x < prf b y ∨ prf b x = prf b y ∧ x < y) ∧ (ordL b).Perm (firsts b.Consumers.length) := by
  by_cases h1 : 1 ≤ b.Consumers.length
  case neg =>
    have h0 : b.Consumers.length = 0 := by omega
    have e : ordL b = [] := by unfold ordL; rw [h0]; rfl
    rw [e, h0]
    exact ⟨.nil, .refl _⟩
  have hlt : ∀ x y, ltP b x y = true ↔ (fun c => - prf b c) y < (fun c => - prf b c) x := fun x y => by
    unfold ltP
    rw [decide_eq_true_iff]
    simp only
    omega
  have e : ordL b = ((firsts b.Consumers.length).foldl (fun a x => insR (ltP b) x a) []).reverse := by
    unfold ordL
    obtain ⟨x, xs, hx⟩ : ∃ x xs, firsts b.Consumers.length = x :: xs := by
      cases hf : firsts b.Consumers.length with
      | nil => have := firsts_len b.Consumers.length; rw [hf] at this; simp at this; omega
      | cons x xs => exact ⟨x, xs, rfl⟩
    have hl : xs.length = b.Consumers.length - 1 := by
      have := firsts_len b.Consumers.length
      rw [hx] at this
      simp at this
      omega
    have := outer_eq (ltP b) xs [x]
    rw [hx, ← hl]
    exact this
  have h := fold_sorted hlt (firsts b.Consumers.length) [] (firsts_sorted _) (by simp) (by simp)
  rw [e]
  refine ⟨(List.pairwise_reverse.2 h.1).imp fun hb => ?_, (List.reverse_perm _).trans (by simpa using h.2)⟩
  unfold Behind at hb
  simp only at hb
  omega
theorem ord_mem {b : Board} {c : Int} : c ∈ ordL b ↔ 0 ≤ c ∧ c < (b.Consumers.length : Int) := by
  rw [(ordL_spec b).2.mem_iff]
  unfold firsts
  rw [List.mem_map]
  constructor
  · rintro ⟨k, hk, rfl⟩
    have := List.mem_range.1 hk
    simp; omega
  · rintro ⟨h0, h1⟩
    exact ⟨c.toNat, List.mem_range.2 (by omega), by simp; omega⟩
theorem ord_len (b : Board) : (ordL b).length = b.Consumers.length := by rw [(ordL_spec b).2.length_eq, firsts_len]
theorem order_eq {b : Board} (hb : SmB b) (h : chk b = 0) : shed_Order b = some (ordL b) := by
  have hl := (chk_zero.1 h).1.con
  unfold shed_Order
  rw [check_eq hb, h]
  simp only [Option.bind_some, bne_self_eq_false, Bool.false_eq_true, if_false]
  have e : loopO (shed_Order_L1 b) (0, []) = some (firsts b.Consumers.length) := by
    have := loop_run (step := shed_Order_L1 b) (r := firsts b.Consumers.length) (fun k => ((k : Int), firsts k)) b.Consumers.length (fun k hk => by
      unfold shed_Order_L1
      rw [dT (c := (k : Int) < len b.Consumers) (by unfold len; omega), app_sm (by simp [firsts_len]; omega), W_succ (by omega)]
      simp only [if_true, Option.bind_some]
      unfold firsts
      rw [List.range_succ, List.map_append]
      rfl) (by
      unfold shed_Order_L1
      simp only [nlt_len, Bool.false_eq_true, if_false]) (by omega)
    simpa [firsts] using this
  rw [e]
  simp only [Option.bind_some, srt_run (b := b) (by omega)]
/-! an island's consumers in the order -/
/-- those of an island, in the order -/
def ownL (b : Board) (x : Island) : List Int := (ordL b).filter fun c => decide (c ∈ x.Consumers)
theorem own_mem {b : Board} {x : Island} (hx : ∀ c ∈ x.Consumers, 0 ≤ c ∧ c < (b.Consumers.length : Int)) {c : Int} : c ∈ ownL b x ↔ c ∈ x.Consumers := by
  unfold ownL
  rw [List.mem_filter, ord_mem, decide_eq_true_iff]
  exact ⟨fun h => h.2, fun h => ⟨hx c h, h⟩⟩
theorem own_len (b : Board) (x : Island) : (ownL b x).length ≤ b.Consumers.length := by
  have := List.length_filter_le (fun c => decide (c ∈ x.Consumers)) (ordL b)
  rw [ord_len] at this
  exact this
theorem keep_eq {x : Island} {c : Int} (hx : Sm x.Consumers) : shed_relief__shed_1 c x = some (!decide (c ∈ x.Consumers)) := by
  unfold shed_relief__shed_1
  rw [contains_eq hx]
  rfl
theorem take_set_snoc {l : List Int} {i : Nat} {x : Int} (h : i < l.length) : (l.set i x).take (i + 1) = l.take i ++ [x] := by
  rw [take_gt (by simpa using h), gt_set h, if_pos rfl]
  congr 1
  refine ext_gt (by simp) fun k hk => ?_
  have hk' : k < i := by simp at hk; omega
  rw [gt_get (by simp; omega), gt_get (by simp; omega)]
  simp [List.getElem_set]
  omega
theorem delete_own {x : Island} (hx : Sm x.Consumers) {l : List Int} (hl : l.length ≤ 1000) : slices_DeleteFunc_int_int l x = some (l.filter fun c => decide (c ∈ x.Consumers)) := by
  unfold slices_DeleteFunc_int_int slices_IndexFunc_int_int_flat
  have h1 := loop_find (step := slices_IndexFunc_int_int_flat_L1 l x) (fun k => (k : Int)) l.length (fun k => !decide (gt l k ∈ x.Consumers)) (R := fun k => .inr (k : Int)) (e := .inl ()) (fun k hk hp => by
    unfold slices_IndexFunc_int_int_flat_L1
    simp only [lt_len hk, if_true, idx_gt hk, Option.bind_some, keep_eq hx, hp, Bool.false_eq_true, if_false]
    rw [W_succ (by omega)]) (fun k hk hp => by
    unfold slices_IndexFunc_int_int_flat_L1
    simp only [lt_len hk, if_true, idx_gt hk, Option.bind_some, keep_eq hx, hp]) (by
    unfold slices_IndexFunc_int_int_flat_L1
    simp only [nlt_len, Bool.false_eq_true, if_false]) (by omega)
  simp only [show ((0 : Nat) : Int) = 0 from rfl] at h1
  rw [h1]
  cases hf : (List.range l.length).find? (fun k => !decide (gt l k ∈ x.Consumers)) with
  | none =>
    have hall : ∀ c ∈ l, decide (c ∈ x.Consumers) = true := fun c hc => by
      obtain ⟨k, hk, rfl⟩ := mem_gt hc
      have := List.find?_eq_none.1 hf k (List.mem_range.2 hk)
      simpa using this
    simp only [Option.bind_some, Sum.elim_inl]
    rw [List.filter_eq_self.2 hall]
    rfl
  | some s =>
    have hs := List.mem_range.1 (List.mem_of_find?_eq_some hf)
    simp only [Option.bind_some, Sum.elim_inr]
    rw [beqF (by omega), W_succ (by omega)]
    simp only [Bool.false_eq_true, if_false]
    have hpre : ∀ k, k < s → decide (gt l k ∈ x.Consumers) = true := fun k hk => by
      obtain ⟨_, as1, bs, h2, h3⟩ := List.find?_eq_some_iff_append.1 hf
      have hln : as1.length = s := by
        have h4 : (List.range l.length)[as1.length]? = some s := by rw [h2]; simp
        rw [List.getElem?_range (by
          have := congrArg List.length h2
          simp at this
          omega)] at h4
        exact Option.some.inj h4
      have hmem : k ∈ as1 := by
        have h4 : (List.range l.length)[k]? = some k := List.getElem?_range (by omega)
        rw [h2, List.getElem?_append_left (by omega)] at h4
        exact List.mem_of_getElem? h4
      have := h3 k hmem
      simpa using this
    have hs0 : decide (gt l s ∈ x.Consumers) = false := by
      have := (List.find?_eq_some_iff_append.1 hf).1
      simpa using this
    have hloop : Wp (loopO (slices_DeleteFunc_int_int_L1 x) ((s : Int), ((s + 1 : Nat) : Int), l)) fun r => ∃ n : Nat, r.1 = (n : Int) ∧ n ≤ r.2.length ∧ r.2.length = l.length ∧ r.2.take n = l.filter fun c => decide (c ∈ x.Consumers) := by
      refine wp_upto (l.length - (s + 1)) (fun t st => ∃ n : Nat, st.1 = (n : Int) ∧ st.2.1 = ((s + 1 + t : Nat) : Int) ∧ n < s + 1 + t ∧ st.2.2.length = l.length ∧ st.2.2.take n = (l.take (s + 1 + t)).filter (fun c => decide (c ∈ x.Consumers)) ∧ ∀ k, s + 1 + t ≤ k → k < l.length → gt st.2.2 k = gt l k) ⟨s, rfl, rfl, by omega, rfl, ?_, fun _ _ _ => rfl⟩ (fun t st ht hv => ?_) (fun st hv => ?_) (by omega)
      · simp only [Nat.add_zero]
        rw [take_gt hs, List.filter_append]
        have : (l.take s).filter (fun c => decide (c ∈ x.Consumers)) = l.take s := List.filter_eq_self.2 fun c hc => by
          obtain ⟨k, hk, rfl⟩ := mem_gt hc
          rw [List.length_take] at hk
          have : gt (l.take s) k = gt l k := by
            rw [gt_get (by rw [List.length_take]; exact hk), gt_get (by omega)]; simp
          rw [this]
          exact hpre k (by omega)
        rw [this]
        simp [hs0]
      · obtain ⟨m, z, c⟩ := st
        obtain ⟨n, rfl, rfl, hn, hlc, htk, hrest⟩ := hv
        simp only at hlc htk hrest
        have hk : s + 1 + t < l.length := by omega
        have hgk := hrest (s + 1 + t) (Nat.le_refl _) hk
        unfold slices_DeleteFunc_int_int_L1
        simp only [lt_len (l := c) (k := s + 1 + t) (by omega), if_true, idx_gt (l := c) (k := s + 1 + t) (by omega), hgk, Option.bind_some, keep_eq hx, Bool.not_not]
        rw [W_succ (k := s + 1 + t) (by omega)]
        cases hp : decide (gt l (s + 1 + t) ∈ x.Consumers) with
        | true =>
          simp only [if_true, idx_gt (l := c) (k := n) (by omega), Option.bind_some, setO_nat (xs := c) (j := n) (by omega)]
          rw [W_succ (by omega)]
          refine wp_some.2 ⟨n + 1, rfl, rfl, by omega, by simp [hlc], ?_, fun k h1 h2 => ?_⟩
          · simp only
            rw [take_set_snoc (by omega), htk, show s + 1 + (t + 1) = (s + 1 + t) + 1 by omega, take_gt hk, List.filter_append]
            simp [hp]
          · simp only
            rw [gt_set (by omega), if_neg (by omega)]
            exact hrest k (by omega) h2
        | false =>
          simp only [Bool.false_eq_true, if_false, Option.bind_some]
          refine wp_some.2 ⟨n, rfl, rfl, by omega, hlc, ?_, fun k h1 h2 => hrest k (by omega) h2⟩
          simp only
          rw [htk, show s + 1 + (t + 1) = (s + 1 + t) + 1 by omega, take_gt hk, List.filter_append]
          simp [hp]
      · obtain ⟨m, z, c⟩ := st
        obtain ⟨n, rfl, rfl, hn, hlc, htk, hrest⟩ := hv
        simp only at hlc htk
        unfold slices_DeleteFunc_int_int_L1
        rw [show s + 1 + (l.length - (s + 1)) = c.length by omega]
        simp only [nlt_len, Bool.false_eq_true, if_false]
        refine wp_some.2 ⟨n, rfl, (by show n ≤ c.length; omega), hlc, ?_⟩
        simp only
        rw [htk, show s + 1 + (l.length - (s + 1)) = l.length by omega, List.take_length]
    obtain ⟨⟨m, c⟩, e, n, rfl, hn, hlc, htk⟩ := hloop
    simp only at hn hlc htk
    rw [e]
    have e1 : slc c (n : Int) (len c) = some (c.drop n) := slc_drop hn
    have hcl : (clrT 0 c (n : Int)).length = c.length := by unfold clrT; simp; omega
    have e2 : slc (clrT 0 c (n : Int)) 0 (n : Int) = some ((clrT 0 c (n : Int)).take n) := slc_take (by omega)
    have e3 : (clrT 0 c (n : Int)).take n = c.take n := by
      unfold clrT
      rw [List.take_append_of_le_length (by simp; omega), List.take_take, Int.toNat_natCast, Nat.min_self]
    simp only [Option.bind_some, e1, e2, e3, htk]
end Rx
end Go.Proofs.YtfnphdhcgkondaaGreat
