/- Scripts of faults: the program's comparison, its stable sort and what it leaves out behind it. Plain laws. -/
import Derived.Test.YtkgfdplcjdidhaaF2
set_option linter.unusedVariables false
set_option linter.unusedSimpArgs false
namespace Go.Proofs.Ytkgfdplcjdidhaa
open Go Go.RowKit Dp
namespace Rx

theorem half_eq {x : Int} (h0 : 0 ≤ x) (h1 : x ≤ 1000000000) : shrO 64 (iwrap IntKind.u64 (W x)) 1 = some (x / 2) := by
  have e1 : W x = x := W_sm (by omega) (by omega)
  have e2 : IntKind.u64.wrap x = x := by
    have hb : IntKind.u64.bits = 64 := rfl
    simp [IntKind.wrap, hb, IntKind.signed]
    omega
  show (if (1 : Int) < 0 then none else some ((IntKind.u64.wrap (W x)).fdiv (2 ^ min (1 : Int).toNat 64))) = _
  rw [e1, e2, if_neg (by omega)]
  congr 1
  show x.fdiv (2 ^ 1) = x / 2
  rw [Int.fdiv_eq_ediv_of_nonneg _ (by decide)]
  rfl
def cmpI (a b : Int) : Int := if a < b then -1 else if a > b then 1 else 0
theorem cmp_eq (a b : Int) : cmp_Compare_int a b = some (cmpI a b) := by
  unfold cmp_Compare_int cmp_isNaN_int cmpI
  simp only [Option.bind_some, bne_self_eq_false, Bool.false_eq_true, if_false]
  by_cases h : a < b
  · simp [h]
  · by_cases h2 : a > b
    · simp [h, h2]
    · simp [h, h2]
theorem cmpI_tri (x y : Int) : (x < y ∧ cmpI x y = -1) ∨ (x = y ∧ cmpI x y = 0) ∨ (x > y ∧ cmpI x y = 1) := by
  unfold cmpI
  by_cases h1 : x < y
  · exact .inl ⟨h1, if_pos h1⟩
  · rw [if_neg h1]
    by_cases h2 : x > y
    · exact .inr (.inr ⟨h2, if_pos h2⟩)
    · exact .inr (.inl ⟨by omega, if_neg h2⟩)
theorem or2_eq (x y : Int) : cmp_Or_int [x, y] = some (if x = 0 then y else x) := by
  unfold cmp_Or_int
  by_cases hx : x = 0
  · by_cases hy : y = 0
    · have e := loop_run (step := cmp_Or_int_L1 [x, y]) (r := .inl ()) (fun k => (k : Int)) 2 (fun k hk => by
        unfold cmp_Or_int_L1
        rcases k with _ | _ | k
        · simp [len, idx, hx, W_sm]
        · simp [len, idx, hy, W_sm]
        · omega) (by unfold cmp_Or_int_L1; simp [len])
      simp only [show ((0 : Nat) : Int) = 0 from rfl] at e
      rw [e, if_pos hx, hy]
      rfl
    · have e := loop_find (step := cmp_Or_int_L1 [x, y]) (fun k => (k : Int)) 2 (fun k => k == 1) (R := fun k => .inr y) (e := .inl ()) (fun k hk hp => by
        unfold cmp_Or_int_L1
        rcases k with _ | _ | k
        · simp [len, idx, hx, W_sm]
        · simp at hp
        · omega) (fun k hk hp => by
        have hk1 : k = 1 := by simpa using hp
        subst hk1
        unfold cmp_Or_int_L1
        simp [len, idx, hy]) (by unfold cmp_Or_int_L1; simp [len])
      simp only [show ((0 : Nat) : Int) = 0 from rfl] at e
      rw [e, if_pos hx]
      rfl
  · have e := loop_find (step := cmp_Or_int_L1 [x, y]) (fun k => if k = 0 then 0 else 2) 1 (fun k => true) (R := fun k => .inr x) (e := .inl ()) (fun k hk hp => by simp at hp) (fun k hk hp => by
      have hk1 : k = 0 := by omega
      subst hk1
      unfold cmp_Or_int_L1
      simp [len, idx, hx]) (by unfold cmp_Or_int_L1; simp [len])
    simp only [if_true] at e
    rw [e, if_neg hx]
    rfl
theorem pcmp_eq {a b : Part} (ha : VP a) (hb : VP b) : ∃ c, design_Compare a b = some c ∧ (c < 0 ↔ pk a < pk b) ∧ (c = 0 ↔ pk a = pk b) ∧ (-1 ≤ c ∧ c ≤ 1) := by
  unfold design_Compare
  simp only [cmp_eq, or2_eq, Option.bind_some]
  refine ⟨_, rfl, ?_⟩
  obtain ⟨h1, h2, h3, h4⟩ := ha
  obtain ⟨g1, g2, g3, g4⟩ := hb
  unfold pk
  rcases cmpI_tri a.Kind b.Kind with ⟨c1, c2⟩ | ⟨c1, c2⟩ | ⟨c1, c2⟩ <;> rw [c2]
  · rw [if_neg (by omega)]; omega
  · rw [if_pos rfl]
    rcases cmpI_tri a.Number b.Number with ⟨d1, d2⟩ | ⟨d1, d2⟩ | ⟨d1, d2⟩ <;> rw [d2] <;> omega
  · rw [if_neg (by omega)]; omega
theorem fcmp_eq {a b : Fault} (ha : VP a.Part) (hb : VP b.Part) : ∃ c, faults_compare a b = some c ∧ (c < 0 ↔ fk a < fk b) ∧ (c = 0 ↔ fk a = fk b) := by
  obtain ⟨c, hc, c1, c2, c3⟩ := pcmp_eq ha hb
  unfold faults_compare
  simp only [cmp_eq, hc, or2_eq, Option.bind_some]
  refine ⟨_, rfl, ?_⟩
  have b1 := ha.bd
  have b2 := hb.bd
  unfold fk
  rcases cmpI_tri a.Time b.Time with ⟨d1, d2⟩ | ⟨d1, d2⟩ | ⟨d1, d2⟩ <;> rw [d2]
  · rw [if_neg (by omega)]; omega
  · rw [if_pos rfl]; omega
  · rw [if_neg (by omega)]; omega

theorem at0 {α : Type} (a : List α) (y : α) (b : List α) : idx (a ++ y :: b) ((a.length : Nat) : Int) = some y := by
  rw [idx_nat]; simp
theorem at1 {α : Type} (a : List α) (y x : α) (b : List α) : idx (a ++ y :: x :: b) ((a.length + 1 : Nat) : Int) = some x := by
  rw [idx_nat, List.getElem?_append_right (by omega), show a.length + 1 - a.length = 1 by omega]; rfl
theorem set0 {α : Type} (a : List α) (y z : α) (b : List α) : (a ++ y :: b).set a.length z = a ++ z :: b := by
  induction a with
  | nil => rfl
  | cons c a ih => simp [ih]
theorem set1 {α : Type} (a : List α) (y x z : α) (b : List α) : (a ++ y :: x :: b).set (a.length + 1) z = a ++ y :: z :: b := by
  induction a with
  | nil => rfl
  | cons c a ih => simp [ih]
theorem idx_drp {α : Type} [Rep α] {s : List α} {i j : Nat} (h : i + j < s.length) : idx (drpI s (i : Int)) (j : Int) = some (gt s (i + j)) := by
  rw [idx_nat, drpI, Int.toNat_natCast, List.getElem?_drop, ← idx_nat, idx_gt h]
theorem ddp_snoc {α : Type} {key : α → Int} (x : α) : ∀ (l : List α) (k : Int), ddp key k (l ++ [x]) = ddp key k l ++ if key x = (l.getLast?.elim k key) then [] else [x] := by
  intro l
  induction l with
  | nil => intro k; by_cases h : key x = k <;> simp [ddp, h]
  | cons y l ih =>
    intro k
    have e : (y :: l).getLast?.elim k key = l.getLast?.elim (key y) key := by
      cases l with
      | nil => rfl
      | cons z l => rw [List.getLast?_cons_cons]; cases h : (z :: l).getLast? with
        | none => simp at h
        | some w => rfl
    rw [e, List.cons_append]
    by_cases hy : key y = k
    · rw [ddp, if_pos hy, ih, ddp, if_pos hy, hy]
    · rw [ddp, if_neg hy, ih, ddp, if_neg hy]
      rfl
section
variable {α : Type} [Rep α] {key : α → Int}
theorem dd_take {l : List α} {m : Nat} (h1 : 1 ≤ m) (h : m < l.length) : dd key (l.take (m + 1)) = dd key (l.take m) ++ if key (gt l m) = key (gt l (m - 1)) then [] else [gt l m] := by
  rw [take_gt h]
  cases l with
  | nil => simp at h
  | cons x r =>
    obtain ⟨p, rfl⟩ : ∃ p, m = p + 1 := ⟨m - 1, by omega⟩
    simp only [List.length_cons] at h
    rw [List.take_succ_cons, List.cons_append, dd, ddp_snoc, dd, List.cons_append]
    congr 3
    rw [show p + 1 - 1 = p by omega]
    cases p with
    | zero => rfl
    | succ p =>
      have hp : p < r.length := by omega
      rw [take_gt hp, List.getLast?_concat]
      rfl
end

/-! Part -/
theorem samePart {a b : Part} (ha : VP a) (hb : VP b) : api_Part__1 a b = some (dB (pk a = pk b)) := by
  obtain ⟨c, hc, c1⟩ := pcmp_eq ha hb
  unfold api_Part__1
  rw [hc]
  simp only [Option.bind_some]
  congr 1
  refine dB_eq ?_
  rw [← c1.2.1]
  simp
theorem compactPart_eq {l : List Part} (hn : l.length ≤ 1000) (hl : ∀ x ∈ l, VP x) : slices_CompactFunc_Part_Part l = some (dd pk l) := by
  have hg : ∀ k, k < l.length → VP (gt l k) := fun k hk => hl _ (gt_mem hk)
  unfold slices_CompactFunc_Part_Part
  by_cases h2 : l.length < 2
  · rw [dT (c := len l < 2) (by unfold len; omega), if_pos rfl]
    rcases l with _ | ⟨x, _ | ⟨y, r⟩⟩
    · rfl
    · rfl
    · simp at h2; omega
  rw [dF (c := len l < 2) (by unfold len; omega)]
  simp only [Bool.false_eq_true, if_false]
  have hloop : Wp (loopO slices_CompactFunc_Part_Part_L1 (1, l)) fun r => r = .inl (dd pk l) ∨ r = .inr (dd pk l) := by
    refine wp_while (fun s => l.length - s.1.toNat) (fun s => ∃ i : Nat, s = ((i : Int), l) ∧ 1 ≤ i ∧ i ≤ l.length ∧ dd pk (l.take i) = l.take i) (fun s hs => ?_) ⟨1, rfl, Nat.le_refl _, by omega, by
      rcases l with _ | ⟨x, r⟩
      · simp at h2
      · rfl⟩ (by omega)
    obtain ⟨i, rfl, i1, i2, i3⟩ := hs
    unfold slices_CompactFunc_Part_Part_L1
    simp only
    by_cases hi : i < l.length
    · simp only [lt_len hi, if_true, W_pred (k := i) (by omega) i1, idx_gt hi, idx_gt (show i - 1 < l.length by omega), Option.bind_some, samePart (hg i hi) (hg (i - 1) (by omega))]
      have hd := dd_take (key := pk) i1 hi
      by_cases he : pk (gt l i) = pk (gt l (i - 1))
      · rw [if_pos he, List.append_nil] at hd
        simp only [dB_T he, if_true]
        rw [slc_drop (by omega)]
        simp only [Option.bind_some]
        have hin : Wp (loopO (slices_CompactFunc_Part_Part_L2 ((i : Int), l)) ((i : Int), 1, l)) fun r => ∃ (k : Nat) (s : List Part), r = ((k : Int), s) ∧ k ≤ s.length ∧ s.length = l.length ∧ s.take k = dd pk l := by
          refine wp_while (fun s => l.length - s.2.1.toNat) (fun s => ∃ (k j : Nat) (d : List Part), s = ((k : Int), (j : Int), d) ∧ 1 ≤ j ∧ i + j ≤ l.length ∧ k + 1 ≤ i + j ∧ d.length = l.length ∧ d.take k = dd pk (l.take (i + j)) ∧ ∀ q, k ≤ q → q < l.length → gt d q = gt l q) (fun s hs => ?_) ⟨i, 1, l, rfl, Nat.le_refl _, by omega, by omega, rfl, by rw [hd, i3], fun q _ _ => rfl⟩ (by omega)
          obtain ⟨k, j, d, rfl, j1, j2, j3, j4, j5, j6⟩ := hs
          unfold slices_CompactFunc_Part_Part_L2
          simp only
          by_cases hj : i + j < l.length
          · have hd2 := dd_take (key := pk) (l := l) (m := i + j) (by omega) hj
            have ea : gt d (i + j) = gt l (i + j) := j6 _ (by omega) hj
            have eb : gt d (i + (j - 1)) = gt l (i + j - 1) := by rw [show i + (j - 1) = i + j - 1 by omega]; exact j6 _ (by omega) (by omega)
            simp only [dT (c := (j : Int) < len d - (i : Int)) (by unfold len; omega), if_true, W_pred (k := j) (by omega) j1, idx_drp (show i + j < d.length by omega), idx_drp (show i + (j - 1) < d.length by omega), Option.bind_some, ea, eb, samePart (hg (i + j) hj) (hg (i + j - 1) (by omega))]
            by_cases he2 : pk (gt l (i + j)) = pk (gt l (i + j - 1))
            · rw [if_pos he2, List.append_nil] at hd2
              simp only [dB_T he2, Bool.not_true, Bool.false_eq_true, if_false, Option.bind_some]
              rw [W_succ (by omega)]
              exact wp_some.2 ⟨⟨k, j + 1, d, rfl, by omega, by omega, by omega, j4, by rw [j5, ← hd2]; rfl, j6⟩, by simp only; omega⟩
            · rw [if_neg he2] at hd2
              simp only [dB_F he2, Bool.not_false, if_true, idx_gt (show k < d.length by omega), Option.bind_some]
              rw [setO_nat (show k < d.length by omega)]
              simp only [Option.bind_some]
              rw [W_succ (by omega), W_succ (by omega)]
              refine wp_some.2 ⟨⟨k + 1, j + 1, d.set k (gt l (i + j)), rfl, by omega, by omega, by omega, by simp [j4], ?_, fun q hq hql => ?_⟩, by simp only; omega⟩
              · rw [show i + (j + 1) = i + j + 1 by omega, hd2, ← j5]
                rw [take_gt (by simp; omega), gt_set (by omega), if_pos rfl, List.take_set_of_le (Nat.le_refl _)]
              · rw [gt_set (by omega), if_neg (by omega)]
                exact j6 q (by omega) hql
          · have hj : i + j = l.length := by omega
            simp only [dF (c := (j : Int) < len d - (i : Int)) (by unfold len; omega), Bool.false_eq_true, if_false]
            rw [hj, List.take_length] at j5
            exact wp_some.2 ⟨k, d, rfl, by omega, j4, j5⟩
        obtain ⟨r, hr, k, d, rfl, k1, k2, k3⟩ := hin
        rw [hr]
        simp only [Option.bind_some]
        rw [slc_drop k1]
        simp only [Option.bind_some]
        rw [slc_take (by simp [clrT]; omega)]
        have ht : (clrT (Part.mk 0 0 : Part) d (k : Int)).take k = d.take k := by
          unfold clrT
          rw [Int.toNat_natCast, List.take_append_of_le_length (by simp; omega), List.take_take, Nat.min_self]
        simp only [Option.bind_some, ht, k3]
        exact wp_some.2 (.inr rfl)
      · rw [if_neg he] at hd
        simp only [dB_F he, Bool.false_eq_true, if_false]
        rw [W_succ (by omega)]
        exact wp_some.2 ⟨⟨i + 1, rfl, by omega, by omega, by rw [hd, i3, take_gt hi]⟩, by simp only; omega⟩
    · have hi : i = l.length := by omega
      subst hi
      simp only [nlt_len, Bool.false_eq_true, if_false]
      rw [List.take_length] at i3
      exact wp_some.2 (.inl (by rw [i3]))
  obtain ⟨r, hr, h⟩ := hloop
  rw [hr]
  rcases h with rfl | rfl <;> rfl

/-! Fault -/
def VFP (f : Fault) : Prop := VP f.Part
theorem sameFault {a b : Fault} (ha : VFP a) (hb : VFP b) : api_Fault__1 a b = some (dB (fk a = fk b)) := by
  obtain ⟨c, hc, c1⟩ := fcmp_eq ha hb
  unfold api_Fault__1
  rw [hc]
  simp only [Option.bind_some]
  congr 1
  refine dB_eq ?_
  rw [← c1.2]
  simp
theorem compactFault_eq {l : List Fault} (hn : l.length ≤ 1000) (hl : ∀ x ∈ l, VFP x) : slices_CompactFunc_Fault_Fault l = some (dd fk l) := by
  have hg : ∀ k, k < l.length → VFP (gt l k) := fun k hk => hl _ (gt_mem hk)
  unfold slices_CompactFunc_Fault_Fault
  by_cases h2 : l.length < 2
  · rw [dT (c := len l < 2) (by unfold len; omega), if_pos rfl]
    rcases l with _ | ⟨x, _ | ⟨y, r⟩⟩
    · rfl
    · rfl
    · simp at h2; omega
  rw [dF (c := len l < 2) (by unfold len; omega)]
  simp only [Bool.false_eq_true, if_false]
  have hloop : Wp (loopO slices_CompactFunc_Fault_Fault_L1 (1, l)) fun r => r = .inl (dd fk l) ∨ r = .inr (dd fk l) := by
    refine wp_while (fun s => l.length - s.1.toNat) (fun s => ∃ i : Nat, s = ((i : Int), l) ∧ 1 ≤ i ∧ i ≤ l.length ∧ dd fk (l.take i) = l.take i) (fun s hs => ?_) ⟨1, rfl, Nat.le_refl _, by omega, by
      rcases l with _ | ⟨x, r⟩
      · simp at h2
      · rfl⟩ (by omega)
    obtain ⟨i, rfl, i1, i2, i3⟩ := hs
    unfold slices_CompactFunc_Fault_Fault_L1
    simp only
    by_cases hi : i < l.length
    · simp only [lt_len hi, if_true, W_pred (k := i) (by omega) i1, idx_gt hi, idx_gt (show i - 1 < l.length by omega), Option.bind_some, sameFault (hg i hi) (hg (i - 1) (by omega))]
      have hd := dd_take (key := fk) i1 hi
      by_cases he : fk (gt l i) = fk (gt l (i - 1))
      · rw [if_pos he, List.append_nil] at hd
        simp only [dB_T he, if_true]
        rw [slc_drop (by omega)]
        simp only [Option.bind_some]
        have hin : Wp (loopO (slices_CompactFunc_Fault_Fault_L2 ((i : Int), l)) ((i : Int), 1, l)) fun r => ∃ (k : Nat) (s : List Fault), r = ((k : Int), s) ∧ k ≤ s.length ∧ s.length = l.length ∧ s.take k = dd fk l := by
          refine wp_while (fun s => l.length - s.2.1.toNat) (fun s => ∃ (k j : Nat) (d : List Fault), s = ((k : Int), (j : Int), d) ∧ 1 ≤ j ∧ i + j ≤ l.length ∧ k + 1 ≤ i + j ∧ d.length = l.length ∧ d.take k = dd fk (l.take (i + j)) ∧ ∀ q, k ≤ q → q < l.length → gt d q = gt l q) (fun s hs => ?_) ⟨i, 1, l, rfl, Nat.le_refl _, by omega, by omega, rfl, by rw [hd, i3], fun q _ _ => rfl⟩ (by omega)
          obtain ⟨k, j, d, rfl, j1, j2, j3, j4, j5, j6⟩ := hs
          unfold slices_CompactFunc_Fault_Fault_L2
          simp only
          by_cases hj : i + j < l.length
          · have hd2 := dd_take (key := fk) (l := l) (m := i + j) (by omega) hj
            have ea : gt d (i + j) = gt l (i + j) := j6 _ (by omega) hj
            have eb : gt d (i + (j - 1)) = gt l (i + j - 1) := by rw [show i + (j - 1) = i + j - 1 by omega]; exact j6 _ (by omega) (by omega)
            simp only [dT (c := (j : Int) < len d - (i : Int)) (by unfold len; omega), if_true, W_pred (k := j) (by omega) j1, idx_drp (show i + j < d.length by omega), idx_drp (show i + (j - 1) < d.length by omega), Option.bind_some, ea, eb, sameFault (hg (i + j) hj) (hg (i + j - 1) (by omega))]
            by_cases he2 : fk (gt l (i + j)) = fk (gt l (i + j - 1))
            · rw [if_pos he2, List.append_nil] at hd2
              simp only [dB_T he2, Bool.not_true, Bool.false_eq_true, if_false, Option.bind_some]
              rw [W_succ (by omega)]
              exact wp_some.2 ⟨⟨k, j + 1, d, rfl, by omega, by omega, by omega, j4, by rw [j5, ← hd2]; rfl, j6⟩, by simp only; omega⟩
            · rw [if_neg he2] at hd2
              simp only [dB_F he2, Bool.not_false, if_true, idx_gt (show k < d.length by omega), Option.bind_some]
              rw [setO_nat (show k < d.length by omega)]
              simp only [Option.bind_some]
              rw [W_succ (by omega), W_succ (by omega)]
              refine wp_some.2 ⟨⟨k + 1, j + 1, d.set k (gt l (i + j)), rfl, by omega, by omega, by omega, by simp [j4], ?_, fun q hq hql => ?_⟩, by simp only; omega⟩
              · rw [show i + (j + 1) = i + j + 1 by omega, hd2, ← j5]
                rw [take_gt (by simp; omega), gt_set (by omega), if_pos rfl, List.take_set_of_le (Nat.le_refl _)]
              · rw [gt_set (by omega), if_neg (by omega)]
                exact j6 q (by omega) hql
          · have hj : i + j = l.length := by omega
            simp only [dF (c := (j : Int) < len d - (i : Int)) (by unfold len; omega), Bool.false_eq_true, if_false]
            rw [hj, List.take_length] at j5
            exact wp_some.2 ⟨k, d, rfl, by omega, j4, j5⟩
        obtain ⟨r, hr, k, d, rfl, k1, k2, k3⟩ := hin
        rw [hr]
        simp only [Option.bind_some]
        rw [slc_drop k1]
        simp only [Option.bind_some]
        rw [slc_take (by simp [clrT]; omega)]
        have ht : (clrT (Fault.mk 0 0 (Part.mk 0 0) : Fault) d (k : Int)).take k = d.take k := by
          unfold clrT
          rw [Int.toNat_natCast, List.take_append_of_le_length (by simp; omega), List.take_take, Nat.min_self]
        simp only [Option.bind_some, ht, k3]
        exact wp_some.2 (.inr rfl)
      · rw [if_neg he] at hd
        simp only [dB_F he, Bool.false_eq_true, if_false]
        rw [W_succ (by omega)]
        exact wp_some.2 ⟨⟨i + 1, rfl, by omega, by omega, by rw [hd, i3, take_gt hi]⟩, by simp only; omega⟩
    · have hi : i = l.length := by omega
      subst hi
      simp only [nlt_len, Bool.false_eq_true, if_false]
      rw [List.take_length] at i3
      exact wp_some.2 (.inl (by rw [i3]))
  obtain ⟨r, hr, h⟩ := hloop
  rw [hr]
  rcases h with rfl | rfl <;> rfl
end Rx
end Go.Proofs.Ytkgfdplcjdidhaa
