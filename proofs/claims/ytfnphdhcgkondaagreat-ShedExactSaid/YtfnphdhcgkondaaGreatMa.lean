import Derived.Test.YtfnphdhcgkondaaGreatPg
import Derived.Test.YtfnphdhcgkondaaGreatRz
set_option linter.unusedVariables false
set_option linter.unusedSimpArgs false
namespace Go.Proofs.YtfnphdhcgkondaaGreat
open Go Go.RowKit Dp
namespace Rx
open Classical
theorem ints_eq {a b : List Int} (ha : Sm a) : dynposref01_Ints a b = some (decide (a = b)) := by
 unfold dynposref01_Ints
 by_cases hl : a.length = b.length
 ·have e1 : (len a != len b) = false := by simp [len, hl]
  have h := loop_any (step := dynposref01_Ints_L1 a b) (fun k => (k : Int)) a.length (fun k => gt a k ≠ gt b k) (r := .inr false) (e := .inl ())
   (fun k hk hp => by
    have hp' : gt a k = gt b k := Classical.not_not.1 hp
    simp only [dynposref01_Ints_L1, lt_len hk, if_true, idx_gt hk, idx_gt (show k < b.length by omega), Option.bind_some, Sum.elim_inl, Sum.elim_inr, eqO_self, hp', bne_self_eq_false, Bool.false_eq_true, if_false, W_succ (sm_lt ha hk)])
   (fun k hk hp => by
    have e2 : (gt a k != gt b k) = true := by simpa using hp
    simp only [dynposref01_Ints_L1, lt_len hk, if_true, idx_gt hk, idx_gt (show k < b.length by omega), Option.bind_some, Sum.elim_inl, Sum.elim_inr, eqO_self, e2])
   (by simp only [dynposref01_Ints_L1, nlt_len, Bool.false_eq_true, if_false])
  have h' : loopO (dynposref01_Ints_L1 a b) 0 = _ := h
  simp only [e1, Bool.false_eq_true, if_false, h', Option.bind_some, Sum.elim_inl, Sum.elim_inr, eqO_self]
  by_cases he : a = b
  ·subst he
   rw [if_neg (by simp)]
   simp
  ·have : ∃ k, k < a.length ∧ gt a k ≠ gt b k := by
    apply Classical.byContradiction
    intro hn
    exact he (ext_gt hl fun k hk => Classical.byContradiction fun h => hn ⟨k, hk, h⟩)
   rw [if_pos this]
   simp [he]
 ·have e1 : (len a != len b) = true := by simp [len]; omega
  have he : a ≠ b := fun e => hl (e ▸ rfl)
  simp [e1, he]
theorem has_eq {l : List Int} {x : Int} (hl : Sm l) : dynposref01_Has l x = some (decide (x ∈ l)) := by
 unfold dynposref01_Has
 have h := loop_any (step := dynposref01_Has_L1 l x) (fun k => (k : Int)) l.length (fun k => gt l k = x) (r := .inr true) (e := .inl ())
  (fun k hk hp => by simp only [dynposref01_Has_L1, lt_len hk, if_true, idx_gt hk, Option.bind_some, Sum.elim_inl, Sum.elim_inr, eqO_self, beqF hp, Bool.false_eq_true, if_false, W_succ (sm_lt hl hk)])
  (fun k hk hp => by simp only [dynposref01_Has_L1, lt_len hk, if_true, idx_gt hk, Option.bind_some, Sum.elim_inl, Sum.elim_inr, eqO_self, beqT hp])
  (by simp only [dynposref01_Has_L1, nlt_len, Bool.false_eq_true, if_false])
 have h' : loopO (dynposref01_Has_L1 l x) 0 = _ := h
 rw [h']
 by_cases he : x ∈ l
 ·rw [if_pos (mem_iff_gt.1 he)]; simp [he]
 ·rw [if_neg (fun hh => he (mem_iff_gt.2 hh))]; simp [he]
theorem index_ge {l : List Int} {x : Int} (hl : Sm l) : ∃ j : Int, slices_Index_int_int l x = some j ∧ (0 ≤ j ↔ x ∈ l) := by
 have h := loop_find (step := slices_Index_int_int_L1 l x) (fun k => (k : Int)) l.length (fun k => x == gt l k) (R := fun k => .inr (k : Int)) (e := .inl ())
  (fun k hk hp => by simp only [slices_Index_int_int_L1, lt_len hk, if_true, idx_gt hk, Option.bind_some, Sum.elim_inl, Sum.elim_inr, eqO_self, hp, Bool.false_eq_true, if_false, W_succ (sm_lt hl hk)])
  (fun k hk hp => by simp only [slices_Index_int_int_L1, lt_len hk, if_true, idx_gt hk, Option.bind_some, Sum.elim_inl, Sum.elim_inr, eqO_self, hp])
  (by simp only [slices_Index_int_int_L1, nlt_len, Bool.false_eq_true, if_false])
 have h' : loopO (slices_Index_int_int_L1 l x) 0 = _ := h
 unfold slices_Index_int_int
 rw [h']
 cases hf : (List.range l.length).find? (fun k => x == gt l k) with
 | none =>
  refine ⟨-1, by simp, by omega, fun hx => ?_⟩
  obtain ⟨k, hk, e⟩ := mem_gt hx
  have := List.find?_eq_none.1 hf k (List.mem_range.2 hk)
  simp [e] at this
 | some k =>
  have hk := List.mem_range.1 (List.mem_of_find?_eq_some hf)
  have hp := List.find?_some hf
  refine ⟨k, by simp, fun _ => ?_, fun _ => by omega⟩
  have e : x = gt l k := by simpa using hp
  rw [e]
  exact gt_mem hk
theorem contains_eq {l : List Int} {x : Int} (hl : Sm l) : slices_Contains_int_int l x = some (decide (x ∈ l)) := by
 obtain ⟨j, h1, h2⟩ := index_ge (x := x) hl
 unfold slices_Contains_int_int
 rw [h1]
 simp only [Option.bind_some, Option.some.injEq, decide_eq_decide]
 exact h2
theorem in_eq (a b c : Int) : board_in a b c = some (decide (b ≤ a ∧ a ≤ c)) := by
 unfold board_in
 by_cases h : b ≤ a <;> simp [h]
theorem source_eq (x : Source) : board_source x = some (decide ((1 ≤ x.Rating ∧ x.Rating ≤ 50000) ∧ (0 ≤ x.Least ∧ x.Least ≤ x.Rating) ∧ 0 ≤ x.Start ∧ x.Start ≤ 600)) := by
 unfold board_source
 simp only [in_eq, Option.bind_some, Sum.elim_inl, Sum.elim_inr, eqO_self]
 by_cases h1 : 1 ≤ x.Rating ∧ x.Rating ≤ 50000 <;> by_cases h2 : 0 ≤ x.Least ∧ x.Least ≤ x.Rating <;> simp [h1, h2]
theorem running_eq (x : Running) : board_running x = some (decide ((0 ≤ x.State ∧ x.State ≤ 3) ∧ (0 ≤ x.Since ∧ x.Since ≤ 2147483648) ∧ (0 ≤ x.Frequency ∧ x.Frequency ≤ 6000) ∧ 0 ≤ x.Phase ∧ x.Phase ≤ 3599)) := by
 unfold board_running
 simp only [in_eq, Option.bind_some, Sum.elim_inl, Sum.elim_inr, eqO_self]
 by_cases h1 : 0 ≤ x.State ∧ x.State ≤ 3 <;> by_cases h2 : 0 ≤ x.Since ∧ x.Since ≤ 2147483648 <;> by_cases h3 : 0 ≤ x.Frequency ∧ x.Frequency ≤ 6000 <;> simp [h1, h2, h3]
def NeedsOk (l : List Int) (k : Nat) : Prop := ∀ i, i < l.length → (0 ≤ gt l i ∧ gt l i ≤ (k : Int) - 1) ∧ (0 < i → gt l (i - 1) < gt l i)
def CsOk (x : Consumer) (k : Nat) : Prop := NeedsOk x.Needs k ∧ (0 ≤ x.Load ∧ x.Load ≤ 50000) ∧ (0 ≤ x.Least ∧ x.Least ≤ x.Load) ∧ (0 ≤ x.Preference ∧ x.Preference ≤ 15) ∧ (-1 ≤ x.Thruster ∧ x.Thruster ≤ 7) ∧ x.Needs.length ≤ 4
theorem consumer_eq {x : Consumer} {k : Nat} (hl : Sm x.Needs) (hk : k ≤ 1000000) : board_consumer x (k : Int) = some (decide (CsOk x k)) := by
 have e0 : W ((k : Int) - 1) = (k : Int) - 1 := W_sm (by omega) (by omega)
 have h := loop_any (step := board_consumer_L1 x (k : Int)) (fun i => (i : Int)) x.Needs.length (fun i => ¬ ((0 ≤ gt x.Needs i ∧ gt x.Needs i ≤ (k : Int) - 1) ∧ (0 < i → gt x.Needs (i - 1) < gt x.Needs i))) (r := .inr false) (e := .inl ())
  (fun i hi hp => by
   obtain ⟨h1, h2⟩ := Classical.not_not.1 hp
   simp only [board_consumer_L1, lt_len hi, if_true, idx_gt hi, Option.bind_some, Sum.elim_inl, Sum.elim_inr, eqO_self, in_eq, e0, dT h1, Bool.not_true, Bool.false_eq_true, if_false]
   by_cases hi0 : 0 < i
   ·have h3 := h2 hi0
    rw [dT (c := (i : Int) > 0) (by omega)]
    simp only [if_true, W_pred (sm_lt hl hi) hi0, idx_gt (show i - 1 < x.Needs.length by omega), Option.bind_some, Sum.elim_inl, Sum.elim_inr, eqO_self, dF (c := gt x.Needs (i - 1) ≥ gt x.Needs i) (by omega), Bool.false_eq_true, if_false, W_succ (sm_lt hl hi)]
   ·rw [dF (c := (i : Int) > 0) (by omega)]
    simp only [Bool.false_eq_true, if_false, Option.bind_some, Sum.elim_inl, Sum.elim_inr, eqO_self, W_succ (sm_lt hl hi)])
  (fun i hi hp => by
   simp only [board_consumer_L1, lt_len hi, if_true, idx_gt hi, Option.bind_some, Sum.elim_inl, Sum.elim_inr, eqO_self, in_eq, e0]
   by_cases h1 : 0 ≤ gt x.Needs i ∧ gt x.Needs i ≤ (k : Int) - 1
   ·have h2 : 0 < i ∧ gt x.Needs i ≤ gt x.Needs (i - 1) := by
     by_cases hi0 : 0 < i
     ·refine ⟨hi0, Int.not_lt.1 fun h => hp ⟨h1, fun _ => h⟩⟩
     ·exact (hp ⟨h1, fun h => (hi0 h).elim⟩).elim
    rw [dT h1, dT (c := (i : Int) > 0) (by omega)]
    simp only [Bool.not_true, Bool.false_eq_true, if_false, if_true, W_pred (sm_lt hl hi) h2.1, idx_gt (show i - 1 < x.Needs.length by omega), Option.bind_some, Sum.elim_inl, Sum.elim_inr, eqO_self, dT (c := gt x.Needs (i - 1) ≥ gt x.Needs i) (by omega)]
   ·rw [dF h1]
    simp only [Bool.not_false, if_true, Option.bind_some, Sum.elim_inl, Sum.elim_inr, eqO_self])
  (by simp only [board_consumer_L1, nlt_len, Bool.false_eq_true, if_false])
 have h' : loopO (board_consumer_L1 x (k : Int)) 0 = _ := h
 unfold board_consumer
 rw [h']
 by_cases hn : NeedsOk x.Needs k
 ·rw [if_neg (by rintro ⟨i, hi, hp⟩; exact hp (hn i hi))]
  simp only [Option.bind_some, Sum.elim_inl, Sum.elim_inr, eqO_self, in_eq]
  have e5 : decide (len x.Needs ≤ 4) = decide (x.Needs.length ≤ 4) := by rw [decide_eq_decide]; unfold len; omega
  rw [e5]
  unfold CsOk
  by_cases h1 : 0 ≤ x.Load ∧ x.Load ≤ 50000 <;> by_cases h2 : 0 ≤ x.Least ∧ x.Least ≤ x.Load <;> by_cases h3 : 0 ≤ x.Preference ∧ x.Preference ≤ 15 <;> by_cases h4 : -1 ≤ x.Thruster ∧ x.Thruster ≤ 7 <;> simp [hn, h1, h2, h3, h4]
 ·have : ∃ i, i < x.Needs.length ∧ ¬ ((0 ≤ gt x.Needs i ∧ gt x.Needs i ≤ (k : Int) - 1) ∧ (0 < i → gt x.Needs (i - 1) < gt x.Needs i)) := by
   apply Classical.byContradiction
   intro hh
   exact hn fun i hi => Classical.byContradiction fun h => hh ⟨i, hi, h⟩
  rw [if_pos this]
  have hc : ¬ CsOk x k := fun h => hn h.1
  simp [hc]
def isS (x : Breaker) (j : Nat) : Prop := x.Kind = 2 ∧ x.B = (j : Int)
def isC (x : Breaker) (j : Nat) : Prop := x.Kind = 3 ∧ x.B = (j : Int)
def OkAt (b : Board) (k : Nat) : Prop :=
 (0 ≤ (gt b.Breakers k).A ∧ (gt b.Breakers k).A ≤ b.Buses - 1) ∧
 (((gt b.Breakers k).Kind = 1 ∧ (gt b.Breakers k).A + 1 ≤ (gt b.Breakers k).B ∧ (gt b.Breakers k).B ≤ b.Buses - 1) ∨
  ((gt b.Breakers k).Kind = 2 ∧ (0 ≤ (gt b.Breakers k).B ∧ (gt b.Breakers k).B ≤ (b.Sources.length : Int) - 1) ∧ ∀ i, i < k → ¬ ((gt b.Breakers i).Kind = 2 ∧ (gt b.Breakers i).B = (gt b.Breakers k).B)) ∨
  ((gt b.Breakers k).Kind = 3 ∧ (0 ≤ (gt b.Breakers k).B ∧ (gt b.Breakers k).B ≤ (b.Consumers.length : Int) - 1) ∧ ∀ i, i < k → ¬ ((gt b.Breakers i).Kind = 3 ∧ (gt b.Breakers i).B = (gt b.Breakers k).B ∧ (gt b.Breakers i).A = (gt b.Breakers k).A)))
def BrkOk (b : Board) : Prop := (∀ k, k < b.Breakers.length → OkAt b k) ∧ (∀ j, j < b.Sources.length → ∃ k, k < b.Breakers.length ∧ isS (gt b.Breakers k) j) ∧ (∀ j, j < b.Consumers.length → ∃ k, k < b.Breakers.length ∧ isC (gt b.Breakers k) j)
noncomputable def cntS (b : Board) (k j : Nat) : Nat := ((b.Breakers.take k).filter fun x => decide (isS x j)).length
noncomputable def busC (b : Board) (k j : Nat) : List Int := ((b.Breakers.take k).filter fun x => decide (isC x j)).map (·.A)
noncomputable def srcsAt (b : Board) (k : Nat) : List Int := (List.range b.Sources.length).map fun j => (cntS b k j : Int)
noncomputable def consAt (b : Board) (k : Nat) : List (List Int) := (List.range b.Consumers.length).map fun j => busC b k j
theorem cntS_succ {b : Board} {k j : Nat} (hk : k < b.Breakers.length) : cntS b (k + 1) j = cntS b k j + if isS (gt b.Breakers k) j then 1 else 0 := by
 unfold cntS
 rw [take_gt hk, List.filter_append, List.length_append]
 by_cases h : isS (gt b.Breakers k) j <;> simp [h]
theorem busC_succ {b : Board} {k j : Nat} (hk : k < b.Breakers.length) : busC b (k + 1) j = busC b k j ++ if isC (gt b.Breakers k) j then [(gt b.Breakers k).A] else [] := by
 unfold busC
 rw [take_gt hk, List.filter_append, List.map_append]
 by_cases h : isC (gt b.Breakers k) j <;> simp [h]
theorem mem_take_gt {α : Type} [Rep α] {l : List α} {k : Nat} (hk : k ≤ l.length) {x : α} : x ∈ l.take k ↔ ∃ i, i < k ∧ gt l i = x := by
 constructor
 ·intro h
  obtain ⟨i, hi, e⟩ := List.getElem_of_mem h
  have hi' : i < k := by simp at hi; omega
  refine ⟨i, hi', ?_⟩
  rw [gt_get (by omega), ← e]
  simp
 ·rintro ⟨i, hi, rfl⟩
  rw [gt_get (by omega)]
  exact List.mem_take_iff_getElem.2 ⟨i, by omega, rfl⟩
theorem cntS_zero {b : Board} {k j : Nat} (hk : k ≤ b.Breakers.length) : cntS b k j = 0 ↔ ∀ i, i < k → ¬ isS (gt b.Breakers i) j := by
 unfold cntS
 rw [List.length_eq_zero_iff, List.filter_eq_nil_iff]
 constructor
 ·intro h i hi hs
  exact h _ ((mem_take_gt hk).2 ⟨i, hi, rfl⟩) (by simpa using hs)
 ·intro h x hx hs
  obtain ⟨i, hi, rfl⟩ := (mem_take_gt hk).1 hx
  exact h i hi (by simpa using hs)
theorem mem_busC {b : Board} {k j : Nat} (hk : k ≤ b.Breakers.length) {a : Int} : a ∈ busC b k j ↔ ∃ i, i < k ∧ isC (gt b.Breakers i) j ∧ (gt b.Breakers i).A = a := by
 unfold busC
 rw [List.mem_map]
 constructor
 ·rintro ⟨x, hx, rfl⟩
  rw [List.mem_filter] at hx
  obtain ⟨i, hi, rfl⟩ := (mem_take_gt hk).1 hx.1
  exact ⟨i, hi, by simpa using hx.2, rfl⟩
 ·rintro ⟨i, hi, hc, rfl⟩
  exact ⟨_, List.mem_filter.2 ⟨(mem_take_gt hk).2 ⟨i, hi, rfl⟩, by simpa using hc⟩, rfl⟩
theorem busC_len {b : Board} {k j : Nat} (hk : k ≤ b.Breakers.length) : (busC b k j).length ≤ k := by
 unfold busC
 rw [List.length_map]
 refine Nat.le_trans (List.length_filter_le _ _) ?_
 simp; omega
structure Lim (b : Board) : Prop where
 bus : 1 ≤ b.Buses ∧ b.Buses ≤ 6
 brk : b.Breakers.length ≤ 24
 src : b.Sources.length ≤ 8
 con : b.Consumers.length ≤ 16
theorem breakers_loop {b : Board} (hl : Lim b) : loopO (board_breakers_L1 b) ((0 : Int), srcsAt b 0, consAt b 0) = some (if ∃ k, k < b.Breakers.length ∧ ¬ OkAt b k then .inr false else .inl (srcsAt b b.Breakers.length, consAt b b.Breakers.length)) := by
 have hb := hl.bus
 have hbr := hl.brk
 have hsr := hl.src
 have hco := hl.con
 have eB : W (b.Buses - 1) = b.Buses - 1 := W_sm (by omega) (by omega)
 have hfin := loop_any (step := board_breakers_L1 b) (fun k => ((k : Int), srcsAt b k, consAt b k)) b.Breakers.length (fun k => ¬ OkAt b k) (r := .inr false) (e := .inl (srcsAt b b.Breakers.length, consAt b b.Breakers.length)) ?nx ?ht (by simp only [board_breakers_L1, nlt_len, Bool.false_eq_true, if_false])
 exact hfin.trans (by congr)
 case nx =>
  intro k hk hp
  obtain ⟨hA, hB⟩ := Classical.not_not.1 hp
  have hs : k < 1000000000000000000 := by omega
  have eS : len (srcsAt b k) = (b.Sources.length : Int) := by simp [len, srcsAt]
  have eC : len (consAt b k) = (b.Consumers.length : Int) := by simp [len, consAt]
  have eS1 : W ((b.Sources.length : Int) - 1) = (b.Sources.length : Int) - 1 := W_sm (by omega) (by omega)
  have eC1 : W ((b.Consumers.length : Int) - 1) = (b.Consumers.length : Int) - 1 := W_sm (by omega) (by omega)
  have eA1 : W ((gt b.Breakers k).A + 1) = (gt b.Breakers k).A + 1 := W_sm (by omega) (by omega)
  simp only [board_breakers_L1, lt_len hk, if_true, idx_gt hk, Option.bind_some, Sum.elim_inl, Sum.elim_inr, eqO_self, in_eq, eB, eA1, eS, eC, eS1, eC1, dT hA, Bool.not_true, Bool.false_eq_true, if_false]
  rcases hB with ⟨h1, h2⟩ | ⟨h1, h2, h3⟩ | ⟨h1, h2, h3⟩
  ·have n1 : ∀ j, ¬ isS (gt b.Breakers k) j := fun j h => by have := h.1; omega
   have n2 : ∀ j, ¬ isC (gt b.Breakers k) j := fun j h => by have := h.1; omega
   have f1 : srcsAt b (k + 1) = srcsAt b k := List.map_congr_left fun j _ => by rw [cntS_succ hk, if_neg (n1 j)]; rfl
   have f2 : consAt b (k + 1) = consAt b k := List.map_congr_left fun j _ => by rw [busC_succ hk, if_neg (n2 j)]; simp
   simp only [beqT h1, if_true, dT h2, Option.bind_some, Sum.elim_inl, Sum.elim_inr, eqO_self, W_succ hs, f1, f2]
  ·have hj : (gt b.Breakers k).B = ((gt b.Breakers k).B.toNat : Int) := by omega
   generalize (gt b.Breakers k).B.toNat = j at hj
   rw [hj] at h2 h3
   have hjl : j < b.Sources.length := by omega
   have hz : cntS b k j = 0 := (cntS_zero (by omega)).2 fun i hi h => h3 i hi h
   have hg : gt (srcsAt b k) j = 0 := by unfold srcsAt; rw [gt_map_range _ hjl, hz]; rfl
   have hln : (srcsAt b k).length = b.Sources.length := by simp [srcsAt]
   have n2 : ∀ j, ¬ isC (gt b.Breakers k) j := fun j h => by have := h.1; omega
   have f2 : consAt b (k + 1) = consAt b k := List.map_congr_left fun j _ => by rw [busC_succ hk, if_neg (n2 j)]; simp
   have f1 : (srcsAt b k).set j (W (0 + 1)) = srcsAt b (k + 1) := by
    apply ext_gt
    ·simp [srcsAt]
    ·intro i hi
     have hi' : i < b.Sources.length := by simpa [srcsAt] using hi
     rw [gt_set (by omega)]
     unfold srcsAt
     rw [gt_map_range _ hi', gt_map_range _ hi', cntS_succ hk]
     by_cases hij : i = j
     ·subst hij
      rw [if_pos rfl, if_pos ⟨h1, hj⟩, hz]
      rfl
     ·rw [if_neg hij, if_neg (fun h => hij (by have := h.2; omega))]
      rfl
   have k1 : ((gt b.Breakers k).Kind == 1) = false := beqF (by omega)
   simp only [k1, beqT h1, if_true, if_false, Bool.false_eq_true, Option.bind_some, Sum.elim_inl, Sum.elim_inr, eqO_self, hj, dT h2, idx_gt (show j < (srcsAt b k).length by omega), hg, beq_self_eq_true, setO_nat (show j < (srcsAt b k).length by omega), f1, f2, W_succ hs]
  ·have hj : (gt b.Breakers k).B = ((gt b.Breakers k).B.toNat : Int) := by omega
   generalize (gt b.Breakers k).B.toNat = j at hj
   rw [hj] at h2 h3
   have hjl : j < b.Consumers.length := by omega
   have hnc : (gt b.Breakers k).A ∉ busC b k j := fun h => by
    obtain ⟨i, hi, hc, ha⟩ := (mem_busC (by omega)).1 h
    exact h3 i hi ⟨hc.1, hc.2, ha⟩
   have hg : gt (consAt b k) j = busC b k j := by unfold consAt; rw [gt_map_range _ hjl]
   have hln : (consAt b k).length = b.Consumers.length := by simp [consAt]
   have hln' : (consAt b (k + 1)).length = b.Consumers.length := by simp [consAt]
   have hbl := busC_len (b := b) (k := k) (j := j) (by omega)
   have n1 : ∀ j, ¬ isS (gt b.Breakers k) j := fun j h => by have := h.1; omega
   have f1 : srcsAt b (k + 1) = srcsAt b k := List.map_congr_left fun j _ => by rw [cntS_succ hk, if_neg (n1 j)]; rfl
   have f2 : (consAt b k).set j (busC b k j ++ [(gt b.Breakers k).A]) = consAt b (k + 1) := by
    apply ext_gt
    ·simp [consAt]
    ·intro i hi
     have hi' : i < b.Consumers.length := by simpa [consAt] using hi
     rw [gt_set (by omega)]
     unfold consAt
     rw [gt_map_range _ hi', gt_map_range _ hi', busC_succ hk]
     by_cases hij : i = j
     ·subst hij
      rw [if_pos rfl, if_pos ⟨h1, hj⟩]
     ·rw [if_neg hij, if_neg (fun h => hij (by have := h.2; omega))]
      simp
   have k1 : ((gt b.Breakers k).Kind == 1) = false := beqF (by omega)
   have k2 : ((gt b.Breakers k).Kind == 2) = false := beqF (by omega)
   have hsm : Sm (busC b k j) := by unfold Sm; omega
   simp only [k1, k2, beqT h1, if_true, if_false, Bool.false_eq_true, Option.bind_some, Sum.elim_inl, Sum.elim_inr, eqO_self, hj, dT h2, idx_gt (show j < (consAt b k).length by omega), hg, contains_eq hsm, dF hnc, idx_gt (show j < (consAt b (k + 1)).length by omega), Bool.not_false, app_sm (show (busC b k j).length + [(gt b.Breakers k).A].length ≤ 1073741824 by simp; omega), setO_nat (show j < (consAt b k).length by omega), f1, f2, W_succ hs]
 case ht =>
  intro k hk hp
  have hs : k < 1000000000000000000 := by omega
  have eS : len (srcsAt b k) = (b.Sources.length : Int) := by simp [len, srcsAt]
  have eC : len (consAt b k) = (b.Consumers.length : Int) := by simp [len, consAt]
  have eS1 : W ((b.Sources.length : Int) - 1) = (b.Sources.length : Int) - 1 := W_sm (by omega) (by omega)
  have eC1 : W ((b.Consumers.length : Int) - 1) = (b.Consumers.length : Int) - 1 := W_sm (by omega) (by omega)
  by_cases hA : 0 ≤ (gt b.Breakers k).A ∧ (gt b.Breakers k).A ≤ b.Buses - 1
  ·have eA1 : W ((gt b.Breakers k).A + 1) = (gt b.Breakers k).A + 1 := W_sm (by omega) (by omega)
   simp only [board_breakers_L1, lt_len hk, if_true, idx_gt hk, Option.bind_some, Sum.elim_inl, Sum.elim_inr, eqO_self, in_eq, eB, eA1, eS, eC, eS1, eC1, dT hA, Bool.not_true, Bool.false_eq_true, if_false]
   by_cases k1 : (gt b.Breakers k).Kind = 1
   ·have h2 : ¬ ((gt b.Breakers k).A + 1 ≤ (gt b.Breakers k).B ∧ (gt b.Breakers k).B ≤ b.Buses - 1) := fun h => hp ⟨hA, .inl ⟨k1, h⟩⟩
    have k2 : ((gt b.Breakers k).Kind == 2) = false := beqF (by omega)
    have k3 : ((gt b.Breakers k).Kind == 3) = false := beqF (by omega)
    simp only [beqT k1, k2, k3, if_true, if_false, Bool.false_eq_true, dF h2, Option.bind_some, Sum.elim_inl, Sum.elim_inr, eqO_self]
   ·by_cases k2 : (gt b.Breakers k).Kind = 2
    ·have k3 : ((gt b.Breakers k).Kind == 3) = false := beqF (by omega)
     by_cases h2 : 0 ≤ (gt b.Breakers k).B ∧ (gt b.Breakers k).B ≤ (b.Sources.length : Int) - 1
     ·have hj : (gt b.Breakers k).B = ((gt b.Breakers k).B.toNat : Int) := by omega
      have hjl : (gt b.Breakers k).B.toNat < b.Sources.length := by omega
      have hne : gt (srcsAt b k) (gt b.Breakers k).B.toNat ≠ 0 := by
       unfold srcsAt
       rw [gt_map_range _ hjl]
       intro h0
       have hz : cntS b k (gt b.Breakers k).B.toNat = 0 := by omega
       refine hp ⟨hA, .inr (.inl ⟨k2, h2, fun i hi h => (cntS_zero (by omega)).1 hz i hi ⟨h.1, by rw [h.2]; exact hj⟩⟩)⟩
      have hln : (srcsAt b k).length = b.Sources.length := by simp [srcsAt]
      simp only [beqF k1, beqT k2, k3, if_true, if_false, Bool.false_eq_true, dT h2, Option.bind_some, Sum.elim_inl, Sum.elim_inr, eqO_self, idx_gtZ h2.1 (show (gt b.Breakers k).B < ((srcsAt b k).length : Int) by omega), beqF hne]
     ·simp only [beqF k1, beqT k2, k3, if_true, if_false, Bool.false_eq_true, dF h2, Option.bind_some, Sum.elim_inl, Sum.elim_inr, eqO_self]
    ·by_cases k3 : (gt b.Breakers k).Kind = 3
     ·by_cases h2 : 0 ≤ (gt b.Breakers k).B ∧ (gt b.Breakers k).B ≤ (b.Consumers.length : Int) - 1
      ·have hj : (gt b.Breakers k).B = ((gt b.Breakers k).B.toNat : Int) := by omega
       have hjl : (gt b.Breakers k).B.toNat < b.Consumers.length := by omega
       have hg : gt (consAt b k) (gt b.Breakers k).B.toNat = busC b k (gt b.Breakers k).B.toNat := by unfold consAt; rw [gt_map_range _ hjl]
       have hmem : (gt b.Breakers k).A ∈ busC b k (gt b.Breakers k).B.toNat := by
        apply Classical.byContradiction
        intro hn
        refine hp ⟨hA, .inr (.inr ⟨k3, h2, fun i hi h => hn ((mem_busC (by omega)).2 ⟨i, hi, ⟨h.1, by rw [h.2.1]; exact hj⟩, h.2.2⟩)⟩)⟩
       have hln : (consAt b k).length = b.Consumers.length := by simp [consAt]
       have hbl := busC_len (b := b) (k := k) (j := (gt b.Breakers k).B.toNat) (by omega)
       have hsm : Sm (busC b k (gt b.Breakers k).B.toNat) := by unfold Sm; omega
       simp only [beqF k1, beqF k2, beqT k3, if_true, if_false, Bool.false_eq_true, dT h2, Option.bind_some, Sum.elim_inl, Sum.elim_inr, eqO_self, idx_gtZ h2.1 (show (gt b.Breakers k).B < ((consAt b k).length : Int) by omega), hg, contains_eq hsm, dT hmem, Bool.not_true]
      ·simp only [beqF k1, beqF k2, beqT k3, if_true, if_false, Bool.false_eq_true, dF h2, Option.bind_some, Sum.elim_inl, Sum.elim_inr, eqO_self]
     ·simp only [beqF k1, beqF k2, beqF k3, if_false, Bool.false_eq_true, Option.bind_some, Sum.elim_inl, Sum.elim_inr, eqO_self]
  ·simp only [board_breakers_L1, lt_len hk, if_true, idx_gt hk, Option.bind_some, Sum.elim_inl, Sum.elim_inr, eqO_self, in_eq, eB, dF hA, Bool.not_false]
end Rx
namespace Rx
open Classical
theorem zero_mem_srcs {b : Board} : (0 : Int) ∈ srcsAt b b.Breakers.length ↔ ∃ j, j < b.Sources.length ∧ ∀ k, k < b.Breakers.length → ¬ isS (gt b.Breakers k) j := by
 unfold srcsAt
 rw [List.mem_map]
 constructor
 ·rintro ⟨j, hj, h⟩
  exact ⟨j, List.mem_range.1 hj, (cntS_zero (Nat.le_refl _)).1 (by omega)⟩
 ·rintro ⟨j, hj, h⟩
  exact ⟨j, List.mem_range.2 hj, by rw [(cntS_zero (Nat.le_refl _)).2 h]; rfl⟩
theorem containsEmpty_eq {l : List (List Int)} (hl : Sm l) : slices_ContainsFunc_int_int l = some (decide (∃ k, k < l.length ∧ gt l k = [])) := by
 have h := loop_find (step := slices_IndexFunc_int_int_L1 l) (fun k => (k : Int)) l.length (fun k => (len (gt l k) == 0)) (R := fun k => .inr (k : Int)) (e := .inl ())
  (fun k hk hp => by simp only [slices_IndexFunc_int_int_L1, board_breakers_1, lt_len hk, if_true, idx_gt hk, Option.bind_some, Option.bind_fun_some, Sum.elim_inl, Sum.elim_inr, eqO_self, hp, Bool.false_eq_true, if_false, W_succ (sm_lt hl hk)])
  (fun k hk hp => by simp only [slices_IndexFunc_int_int_L1, board_breakers_1, lt_len hk, if_true, idx_gt hk, Option.bind_some, Option.bind_fun_some, Sum.elim_inl, Sum.elim_inr, eqO_self, hp])
  (by simp only [slices_IndexFunc_int_int_L1, nlt_len, Bool.false_eq_true, if_false])
 have h' : loopO (slices_IndexFunc_int_int_L1 l) 0 = _ := h
 unfold slices_ContainsFunc_int_int slices_IndexFunc_int_int
 rw [h']
 have hz : ∀ k, (len (gt l k) == 0) = true ↔ gt l k = [] := fun k => by simp [len]
 cases hf : (List.range l.length).find? (fun k => (len (gt l k) == 0)) with
 | none =>
  have : ¬ ∃ k, k < l.length ∧ gt l k = [] := fun ⟨k, hk, e⟩ => by
   have := List.find?_eq_none.1 hf k (List.mem_range.2 hk)
   exact this ((hz k).2 e)
  simp [this]
 | some k =>
  have hk := List.mem_range.1 (List.mem_of_find?_eq_some hf)
  have hp := (hz k).1 (List.find?_some (p := fun k => (len (gt l k) == 0)) hf)
  have : ∃ k, k < l.length ∧ gt l k = [] := ⟨k, hk, hp⟩
  simp [this]
theorem breakers_eq {b : Board} (hl : Lim b) : board_breakers b = some (decide (BrkOk b)) := by
 have hbr := hl.brk
 have hsr := hl.src
 have hco := hl.con
 have e1 : mkZ (0 : Int) (len b.Sources) = some (srcsAt b 0) := by
  rw [len_nat, mkZ_nat (by omega)]
  congr 1
  apply ext_gt
  ·simp [srcsAt]
  ·intro k hk
   have hk' : k < b.Sources.length := by simpa using hk
   rw [gt_replicate hk']
   unfold srcsAt
   rw [gt_map_range _ hk']
   simp [cntS]
 have e2 : mkZ ([] : List Int) (len b.Consumers) = some (consAt b 0) := by
  rw [len_nat, mkZ_nat (by omega)]
  congr 1
  apply ext_gt
  ·simp [consAt]
  ·intro k hk
   have hk' : k < b.Consumers.length := by simpa using hk
   rw [gt_replicate hk']
   unfold consAt
   rw [gt_map_range _ hk']
   simp [busC]
 have hloop := breakers_loop hl
 unfold board_breakers
 simp only [e1, e2, Option.bind_some, Option.bind_fun_some, Sum.elim_inl, Sum.elim_inr, eqO_self, hloop]
 by_cases hall : ∀ k, k < b.Breakers.length → OkAt b k
 ·rw [if_neg (by rintro ⟨k, hk, h⟩; exact h (hall k hk))]
  have s1 : Sm (srcsAt b b.Breakers.length) := by unfold Sm; simp [srcsAt]; omega
  have s2 : Sm (consAt b b.Breakers.length) := by unfold Sm; simp [consAt]; omega
  have hcl : (consAt b b.Breakers.length).length = b.Consumers.length := by simp [consAt]
  simp only [Option.bind_some, Option.bind_fun_some, Sum.elim_inl, Sum.elim_inr, eqO_self, Sum.elim_inl, contains_eq s1, containsEmpty_eq s2]
  by_cases h0 : (0 : Int) ∈ srcsAt b b.Breakers.length
  ·have : ¬ BrkOk b := fun h => by
    obtain ⟨j, hj, hn⟩ := zero_mem_srcs.1 h0
    obtain ⟨k, hk, hs⟩ := h.2.1 j hj
    exact hn k hk hs
   simp [h0, this]
  ·have hS : ∀ j, j < b.Sources.length → ∃ k, k < b.Breakers.length ∧ isS (gt b.Breakers k) j := fun j hj => by
    apply Classical.byContradiction
    intro hn
    exact h0 (zero_mem_srcs.2 ⟨j, hj, fun k hk hs => hn ⟨k, hk, hs⟩⟩)
   by_cases hE : ∃ k, k < (consAt b b.Breakers.length).length ∧ gt (consAt b b.Breakers.length) k = []
   ·have : ¬ BrkOk b := fun h => by
     obtain ⟨j, hj, he⟩ := hE
     rw [hcl] at hj
     obtain ⟨k, hk, hc⟩ := h.2.2 j hj
     unfold consAt at he
     rw [gt_map_range _ hj] at he
     have : (gt b.Breakers k).A ∈ busC b b.Breakers.length j := (mem_busC (Nat.le_refl _)).2 ⟨k, hk, hc, rfl⟩
     rw [he] at this
     cases this
    simp [h0, hE, this]
   ·have : BrkOk b := ⟨hall, hS, fun j hj => by
     apply Classical.byContradiction
     intro hn
     refine hE ⟨j, by rw [hcl]; exact hj, ?_⟩
     unfold consAt
     rw [gt_map_range _ hj]
     apply List.eq_nil_iff_forall_not_mem.2
     intro a ha
     obtain ⟨i, hi, hc, _⟩ := (mem_busC (Nat.le_refl _)).1 ha
     exact hn ⟨i, hi, hc⟩⟩
    simp [h0, hE, this]
 ·have : ∃ k, k < b.Breakers.length ∧ ¬ OkAt b k := by
   apply Classical.byContradiction
   intro hn
   exact hall fun k hk => Classical.byContradiction fun h => hn ⟨k, hk, h⟩
  rw [if_pos this]
  have : ¬ BrkOk b := fun h => hall h.1
  simp [this]
def SrcOk (x : Source) : Prop := (1 ≤ x.Rating ∧ x.Rating ≤ 50000) ∧ (0 ≤ x.Least ∧ x.Least ≤ x.Rating) ∧ 0 ≤ x.Start ∧ x.Start ≤ 600
def BGood (b : Board) : Prop := BrkOk b ∧ (0 ≤ b.Phase ∧ b.Phase ≤ 1800) ∧ (0 ≤ b.Frequency ∧ b.Frequency ≤ 6000) ∧ (∀ k, k < b.Sources.length → SrcOk (gt b.Sources k)) ∧ ∀ k, k < b.Consumers.length → CsOk (gt b.Consumers k) k
noncomputable def chk (b : Board) : Int := if Lim b then (if BGood b then 0 else 14) else 2
def SmB (b : Board) : Prop := Sm b.Breakers ∧ Sm b.Sources ∧ Sm b.Consumers ∧ ∀ x ∈ b.Consumers, Sm x.Needs
theorem source_ok (x : Source) : board_source x = some (decide (SrcOk x)) := by
 rw [source_eq]
 congr 1
 rw [decide_eq_decide]
 exact Iff.rfl
theorem dB_d (p : Prop) [Decidable p] : decide p = dB p := by
 by_cases h : p
 ·rw [dT h, dB_T h]
 ·rw [dF h, dB_F h]
theorem dB_self (r : Bool) {S : Prop} (h : S) : r = dB (r = true ∧ S) := by
 cases r
 ·rw [dB_F (fun h => by cases h.1)]
 ·rw [dB_T ⟨rfl, h⟩]
theorem fin_eq {r : Bool} {S C G : Prop} (h : (r = true ∧ S) ∧ C ↔ G) : (if (!dB (dB (r = true ∧ S) = true ∧ C)) = true then some (14 : Int) else some 0) = some (if G then 0 else 14) := by
 by_cases hg : G
 ·obtain ⟨h1, h2⟩ := h.2 hg
  rw [dB_T h1, dB_T (p := true = true ∧ C) ⟨rfl, h2⟩, if_pos hg]
  rfl
 ·by_cases h1 : r = true ∧ S
  ·rw [dB_T h1, dB_F (p := true = true ∧ C) (fun h2 => hg (h.1 ⟨h1, h2.2⟩)), if_neg hg]
   rfl
  ·rw [dB_F h1, dB_F (p := false = true ∧ C) (fun h2 => by cases h2.1), if_neg hg]
   rfl
theorem fin_eq2 {r : Bool} {S G : Prop} (h : (r = true ∧ S) ↔ G) : (if (!dB (r = true ∧ S)) = true then some (11 : Int) else some 0) = some (if G then 0 else 11) := by
 by_cases hg : G
 ·rw [dB_T (h.2 hg), if_pos hg]
  rfl
 ·rw [dB_F (fun h1 => hg (h.1 h1)), if_neg hg]
  rfl
theorem srcs_loop {b : Board} (hl : Lim b) (r : Bool) : loopO (board_Check_L1 b) (r, (0 : Int)) = some (dB (r = true ∧ ∀ k, k < b.Sources.length → SrcOk (gt b.Sources k))) := by
 have hsr := hl.src
 have h := loop_run (step := board_Check_L1 b) (fun k => (dB (r = true ∧ ∀ i, i < k → SrcOk (gt b.Sources i)), (k : Int))) b.Sources.length (r := dB (r = true ∧ ∀ i, i < b.Sources.length → SrcOk (gt b.Sources i)))
  (fun k hk => by
   simp only [board_Check_L1, lt_len hk, if_true, idx_gt hk, Option.bind_some, Option.bind_fun_some, Sum.elim_inl, Sum.elim_inr, eqO_self, source_ok, W_succ (show k < 1000000000000000000 by omega)]
   by_cases h1 : r = true ∧ ∀ i, i < k → SrcOk (gt b.Sources i)
   ·have e : dB (r = true ∧ ∀ i, i < k + 1 → SrcOk (gt b.Sources i)) = decide (SrcOk (gt b.Sources k)) := by
     rw [dB_d]
     apply dB_congr
     refine ⟨fun h => h.2 k (by omega), fun h => ⟨h1.1, fun i hi => ?_⟩⟩
     by_cases hik : i = k
     ·subst hik; exact h
     ·exact h1.2 i (by omega)
    rw [dB_T h1, e]
    rfl
   ·have h2 : ¬ (r = true ∧ ∀ i, i < k + 1 → SrcOk (gt b.Sources i)) := fun h => h1 ⟨h.1, fun i hi => h.2 i (by omega)⟩
    rw [dB_F h1, dB_F h2]
    rfl)
  (by simp only [board_Check_L1, nlt_len, Bool.false_eq_true, if_false])
 have e0 : r = dB (r = true ∧ ∀ i, i < 0 → SrcOk (gt b.Sources i)) := dB_self r (fun i hi => by omega)
 exact (congrArg (fun q => loopO (board_Check_L1 b) (q, (0 : Int))) e0).trans h
theorem cons_loop {b : Board} (hl : Lim b) (hs : SmB b) (r : Bool) : loopO (board_Check_L2 b) (r, (0 : Int)) = some (dB (r = true ∧ ∀ k, k < b.Consumers.length → CsOk (gt b.Consumers k) k)) := by
 have hco := hl.con
 have h := loop_run (step := board_Check_L2 b) (fun k => (dB (r = true ∧ ∀ i, i < k → CsOk (gt b.Consumers i) i), (k : Int))) b.Consumers.length (r := dB (r = true ∧ ∀ i, i < b.Consumers.length → CsOk (gt b.Consumers i) i))
  (fun k hk => by
   simp only [board_Check_L2, lt_len hk, if_true, idx_gt hk, Option.bind_some, Option.bind_fun_some, Sum.elim_inl, Sum.elim_inr, eqO_self, consumer_eq (hs.2.2.2 _ (gt_mem hk)) (show k ≤ 1000000 by omega), W_succ (show k < 1000000000000000000 by omega)]
   by_cases h1 : r = true ∧ ∀ i, i < k → CsOk (gt b.Consumers i) i
   ·have e : dB (r = true ∧ ∀ i, i < k + 1 → CsOk (gt b.Consumers i) i) = decide (CsOk (gt b.Consumers k) k) := by
     rw [dB_d]
     apply dB_congr
     refine ⟨fun h => h.2 k (by omega), fun h => ⟨h1.1, fun i hi => ?_⟩⟩
     by_cases hik : i = k
     ·subst hik; exact h
     ·exact h1.2 i (by omega)
    rw [dB_T h1, e]
    rfl
   ·have h2 : ¬ (r = true ∧ ∀ i, i < k + 1 → CsOk (gt b.Consumers i) i) := fun h => h1 ⟨h.1, fun i hi => h.2 i (by omega)⟩
    rw [dB_F h1, dB_F h2]
    rfl)
  (by simp only [board_Check_L2, nlt_len, Bool.false_eq_true, if_false])
 have e0 : r = dB (r = true ∧ ∀ i, i < 0 → CsOk (gt b.Consumers i) i) := dB_self r (fun i hi => by omega)
 exact (congrArg (fun q => loopO (board_Check_L2 b) (q, (0 : Int))) e0).trans h
theorem check_eq {b : Board} (hs : SmB b) : board_Check b = some (chk b) := by
 unfold board_Check chk
 simp only [in_eq, Option.bind_some, Option.bind_fun_some, Sum.elim_inl, Sum.elim_inr, eqO_self]
 by_cases h1 : 1 ≤ b.Buses ∧ b.Buses ≤ 6
 case neg =>
  have : ¬ Lim b := fun h => h1 h.bus
  simp [h1, this]
 by_cases h2 : b.Breakers.length ≤ 24
 case neg =>
  have : ¬ Lim b := fun h => h2 h.brk
  have e : decide (len b.Breakers > 24) = true := dT (by unfold len; omega)
  simp [h1, this, e]
 by_cases h3 : b.Sources.length ≤ 8
 case neg =>
  have : ¬ Lim b := fun h => h3 h.src
  have e1 : decide (len b.Breakers > 24) = false := dF (by unfold len; omega)
  have e : decide (len b.Sources > 8) = true := dT (by unfold len; omega)
  simp [h1, this, e, e1]
 by_cases h4 : b.Consumers.length ≤ 16
 case neg =>
  have : ¬ Lim b := fun h => h4 h.con
  have e1 : decide (len b.Breakers > 24) = false := dF (by unfold len; omega)
  have e2 : decide (len b.Sources > 8) = false := dF (by unfold len; omega)
  have e : decide (len b.Consumers > 16) = true := dT (by unfold len; omega)
  simp [h1, this, e, e1, e2]
 have hl : Lim b := ⟨h1, h2, h3, h4⟩
 have e1 : decide (len b.Breakers > 24) = false := dF (by unfold len; omega)
 have e2 : decide (len b.Sources > 8) = false := dF (by unfold len; omega)
 have e3 : decide (len b.Consumers > 16) = false := dF (by unfold len; omega)
 simp only [dT h1, e1, e2, e3, Bool.not_true, Bool.false_eq_true, if_false, Option.bind_some, Option.bind_fun_some, Sum.elim_inl, Sum.elim_inr, eqO_self, breakers_eq hl, if_pos hl]
 by_cases g1 : BrkOk b
 case neg =>
  simp only [dF g1, Bool.false_eq_true, if_false, Option.bind_some, Option.bind_fun_some, Sum.elim_inl, Sum.elim_inr, eqO_self]
  rw [srcs_loop hl, Option.bind_some, cons_loop hl hs, Option.bind_some]
  exact fin_eq (r := false) ⟨(fun h => by cases h.1.1), fun h => (g1 h.1).elim⟩
 by_cases g2 : 0 ≤ b.Phase ∧ b.Phase ≤ 1800
 case neg =>
  simp only [dT g1, dF g2, Bool.false_eq_true, if_false, if_true, Option.bind_some, Option.bind_fun_some, Sum.elim_inl, Sum.elim_inr, eqO_self]
  rw [srcs_loop hl, Option.bind_some, cons_loop hl hs, Option.bind_some]
  exact fin_eq (r := false) ⟨(fun h => by cases h.1.1), fun h => (g2 h.2.1).elim⟩
 by_cases g3 : 0 ≤ b.Frequency ∧ b.Frequency ≤ 6000
 case neg =>
  simp only [dT g1, dT g2, dF g3, Bool.false_eq_true, if_false, if_true, Option.bind_some, Option.bind_fun_some, Sum.elim_inl, Sum.elim_inr, eqO_self]
  rw [srcs_loop hl, Option.bind_some, cons_loop hl hs, Option.bind_some]
  exact fin_eq (r := false) ⟨(fun h => by cases h.1.1), fun h => (g3 h.2.2.1).elim⟩
 rw [dT g1, dT g2, dT g3]
 simp only [if_true, Option.bind_some, Option.bind_fun_some, Sum.elim_inl, Sum.elim_inr, eqO_self]
 rw [srcs_loop hl, Option.bind_some, cons_loop hl hs, Option.bind_some]
 exact fin_eq (r := true) ⟨fun h => ⟨g1, g2, g3, h.1.2, h.2⟩, fun h => ⟨⟨rfl, h.2.2.2.1⟩, h.2.2.2.2⟩⟩
theorem compare_eq (a b : Int) : cmp_Compare_int a b = some (if a < b then -1 else if b < a then 1 else 0) := by
 unfold cmp_Compare_int cmp_isNaN_int
 by_cases h1 : a < b <;> by_cases h2 : b < a <;> simp [h1, h2]
theorem or2_eq (a b : Int) : cmp_Or_int [a, b] = some (if a ≠ 0 then a else b) := by
 have hl : len [a, b] = 2 := rfl
 have i0 : idx [a, b] 0 = some a := rfl
 have i1 : idx [a, b] 1 = some b := rfl
 have w1 : W 1 = 1 := W_sm (by omega) (by omega)
 have w2 : W 2 = 2 := W_sm (by omega) (by omega)
 unfold cmp_Or_int
 by_cases ha : a = 0
 ·subst ha
  have s0 : cmp_Or_int_L1 [0, b] 0 = some (.inl 1) := by simp [cmp_Or_int_L1, hl, i0, w1]
  by_cases hb : b = 0
  ·subst hb
   have s1 : cmp_Or_int_L1 [0, 0] 1 = some (.inl 2) := by simp [cmp_Or_int_L1, hl, i1, w2]
   have s2 : cmp_Or_int_L1 [0, 0] 2 = some (.inr (.inl ())) := by simp [cmp_Or_int_L1, hl]
   rw [loopO_of (.more s0 (.more s1 (.done s2))) (by omega)]
   rfl
  ·have s1 : cmp_Or_int_L1 [0, b] 1 = some (.inr (.inr b)) := by simp [cmp_Or_int_L1, hl, i1, hb]
   rw [loopO_of (.more s0 (.done s1)) (by omega)]
   simp
 ·have s0 : cmp_Or_int_L1 [a, b] 0 = some (.inr (.inr a)) := by simp [cmp_Or_int_L1, hl, i0, ha]
  rw [loopO_of (.done s0) (by omega)]
  simp [ha]
noncomputable def bsize (b : Board) (kind : Int) : Int := if kind = 1 then b.Sources.length else if kind = 2 then b.Breakers.length else if kind = 3 then b.Buses else if kind = 4 then b.Consumers.length else 0
theorem size_eq (b : Board) (k : Int) : board_size b k = some (bsize b k) := by
 unfold board_size bsize
 by_cases h1 : k = 1 <;> by_cases h2 : k = 2 <;> by_cases h3 : k = 3 <;> by_cases h4 : k = 4 <;> simp [h1, h2, h3, h4, len]
def before (x y : Part) : Prop := x.Kind < y.Kind ∨ x.Kind = y.Kind ∧ x.Number < y.Number
def BrokenAt (b : Board) (l : List Part) (k : Nat) : Prop := (0 ≤ (gt l k).Number ∧ (gt l k).Number ≤ bsize b (gt l k).Kind - 1) ∧ (0 < k → before (gt l (k - 1)) (gt l k))
theorem cmpPart (x y : Part) : decide ((if (if x.Kind < y.Kind then (-1 : Int) else if y.Kind < x.Kind then 1 else 0) ≠ 0 then (if x.Kind < y.Kind then (-1 : Int) else if y.Kind < x.Kind then 1 else 0) else (if x.Number < y.Number then (-1 : Int) else if y.Number < x.Number then 1 else 0)) ≥ 0) = decide (¬ before x y) := by
 rw [decide_eq_decide]
 unfold before
 by_cases h1 : x.Kind < y.Kind
 ·simp [h1]
 ·by_cases h2 : y.Kind < x.Kind
  ·simp [h1, h2]; omega
  ·by_cases h3 : x.Number < y.Number
   ·simp [h1, h2, h3]; omega
   ·by_cases h4 : y.Number < x.Number
    ·simp [h1, h2, h3, h4]
    ·simp [h1, h2, h3, h4]
theorem broken_eq {b : Board} {l : List Part} (hb : Lim b) (hl : Sm l) : board_broken b l = some (decide ((∀ k, k < l.length → BrokenAt b l k) ∧ l.length ≤ 32)) := by
 have h1 := hb.bus
 have h2 := hb.brk
 have h3 := hb.src
 have h4 := hb.con
 have eW : ∀ k, W (bsize b k - 1) = bsize b k - 1 := fun k => by
  apply W_sm <;> unfold bsize <;> (repeat' split) <;> omega
 have h := loop_any (step := board_broken_L1 b l) (fun i => (i : Int)) l.length (fun i => ¬ BrokenAt b l i) (r := .inr false) (e := .inl ())
  (fun i hi hp => by
   obtain ⟨p1, p2⟩ := Classical.not_not.1 hp
   simp only [board_broken_L1, lt_len hi, if_true, idx_gt hi, Option.bind_some, Option.bind_fun_some, Sum.elim_inl, Sum.elim_inr, eqO_self, size_eq, in_eq, eW, dT p1, Bool.not_true, Bool.false_eq_true, if_false]
   by_cases hi0 : 0 < i
   ·have p3 := p2 hi0
    rw [dT (c := (i : Int) > 0) (by omega)]
    simp only [if_true, W_pred (sm_lt hl hi) hi0, idx_gt (show i - 1 < l.length by omega), Option.bind_some, Option.bind_fun_some, Sum.elim_inl, Sum.elim_inr, eqO_self, compare_eq, or2_eq, cmpPart, dF (c := ¬ before (gt l (i - 1)) (gt l i)) (fun h => h p3), Bool.false_eq_true, if_false, W_succ (sm_lt hl hi)]
   ·rw [dF (c := (i : Int) > 0) (by omega)]
    simp only [Bool.false_eq_true, if_false, Option.bind_some, Option.bind_fun_some, Sum.elim_inl, Sum.elim_inr, eqO_self, W_succ (sm_lt hl hi)])
  (fun i hi hp => by
   simp only [board_broken_L1, lt_len hi, if_true, idx_gt hi, Option.bind_some, Option.bind_fun_some, Sum.elim_inl, Sum.elim_inr, eqO_self, size_eq, in_eq, eW]
   by_cases p1 : 0 ≤ (gt l i).Number ∧ (gt l i).Number ≤ bsize b (gt l i).Kind - 1
   ·have p2 : 0 < i ∧ ¬ before (gt l (i - 1)) (gt l i) := by
     by_cases hi0 : 0 < i
     ·exact ⟨hi0, fun h => hp ⟨p1, fun _ => h⟩⟩
     ·exact (hp ⟨p1, fun h => (hi0 h).elim⟩).elim
    rw [dT p1, dT (c := (i : Int) > 0) (by omega)]
    simp only [Bool.not_true, Bool.false_eq_true, if_false, if_true, W_pred (sm_lt hl hi) p2.1, idx_gt (show i - 1 < l.length by omega), Option.bind_some, Option.bind_fun_some, Sum.elim_inl, Sum.elim_inr, eqO_self, compare_eq, or2_eq, cmpPart, dT p2.2]
   ·rw [dF p1]
    simp only [Bool.not_false, if_true, Option.bind_some, Option.bind_fun_some, Sum.elim_inl, Sum.elim_inr, eqO_self])
  (by simp only [board_broken_L1, nlt_len, Bool.false_eq_true, if_false])
 have h' : loopO (board_broken_L1 b l) 0 = _ := h
 unfold board_broken
 rw [h']
 by_cases hn : ∀ k, k < l.length → BrokenAt b l k
 ·rw [if_neg (by rintro ⟨i, hi, hp⟩; exact hp (hn i hi))]
  show some (decide (len l ≤ 32)) = _
  congr 1
  rw [decide_eq_decide]
  unfold len
  exact ⟨fun h => ⟨hn, by omega⟩, fun h => by have := h.2; omega⟩
 ·have : ∃ i, i < l.length ∧ ¬ BrokenAt b l i := by
   apply Classical.byContradiction
   intro hh
   exact hn fun i hi => Classical.byContradiction fun h => hh ⟨i, hi, h⟩
  rw [if_pos this, dF (c := (∀ k, k < l.length → BrokenAt b l k) ∧ l.length ≤ 32) (fun h => hn h.1)]
  rfl
def RunOk (x : Running) : Prop := (0 ≤ x.State ∧ x.State ≤ 3) ∧ (0 ≤ x.Since ∧ x.Since ≤ 2147483648) ∧ (0 ≤ x.Frequency ∧ x.Frequency ≤ 6000) ∧ 0 ≤ x.Phase ∧ x.Phase ≤ 3599
theorem containsBad_eq {l : List Running} (hl : Sm l) : slices_ContainsFunc_Running_Running l = some (decide (∃ k, k < l.length ∧ ¬ RunOk (gt l k))) := by
 have e1 : ∀ x, board_State_1 x = some (decide (¬ RunOk x)) := fun x => by
  unfold board_State_1
  rw [running_eq]
  have : RunOk x ↔ ((0 ≤ x.State ∧ x.State ≤ 3) ∧ (0 ≤ x.Since ∧ x.Since ≤ 2147483648) ∧ (0 ≤ x.Frequency ∧ x.Frequency ≤ 6000) ∧ 0 ≤ x.Phase ∧ x.Phase ≤ 3599) := Iff.rfl
  by_cases h : RunOk x
  ·rw [dT (this.1 h), dF (c := ¬ RunOk x) (fun hh => hh h)]; rfl
  ·rw [dF (fun hh => h (this.2 hh)), dT h]; rfl
 have h := loop_find (step := slices_IndexFunc_Running_Running_L1 l) (fun k => (k : Int)) l.length (fun k => decide (¬ RunOk (gt l k))) (R := fun k => .inr (k : Int)) (e := .inl ())
  (fun k hk hp => by simp only [slices_IndexFunc_Running_Running_L1, e1, lt_len hk, if_true, idx_gt hk, Option.bind_some, Option.bind_fun_some, Sum.elim_inl, Sum.elim_inr, eqO_self, hp, Bool.false_eq_true, if_false, W_succ (sm_lt hl hk)])
  (fun k hk hp => by simp only [slices_IndexFunc_Running_Running_L1, e1, lt_len hk, if_true, idx_gt hk, Option.bind_some, Option.bind_fun_some, Sum.elim_inl, Sum.elim_inr, eqO_self, hp])
  (by simp only [slices_IndexFunc_Running_Running_L1, nlt_len, Bool.false_eq_true, if_false])
 have h' : loopO (slices_IndexFunc_Running_Running_L1 l) 0 = _ := h
 unfold slices_ContainsFunc_Running_Running slices_IndexFunc_Running_Running
 rw [h']
 cases hf : (List.range l.length).find? (fun k => decide (¬ RunOk (gt l k))) with
 | none =>
  have : ¬ ∃ k, k < l.length ∧ ¬ RunOk (gt l k) := fun ⟨k, hk, e⟩ => by
   have := List.find?_eq_none.1 hf k (List.mem_range.2 hk)
   exact this (dT e)
  rw [dF this]
  rfl
 | some k =>
  have hk := List.mem_range.1 (List.mem_of_find?_eq_some hf)
  have hp := of_decide_eq_true (List.find?_some (p := fun k => decide (¬ RunOk (gt l k))) hf)
  have : ∃ k, k < l.length ∧ ¬ RunOk (gt l k) := ⟨k, hk, hp⟩
  rw [dT this]
  simp
noncomputable def clo (b : Board) (p : Power) (j : Int) : Nat → Nat
 | 0 => 0
 | k + 1 => clo b p j k + if (gt b.Breakers k).Kind = 3 ∧ (gt b.Breakers k).B = j ∧ gt p.Closed k = true then 1 else 0
theorem clo_le (b : Board) (p : Power) (j : Int) (k : Nat) : clo b p j k ≤ k := by
 induction k with
 | zero => exact Nat.le_refl _
 | succ k ih => unfold clo; split <;> omega
theorem closed_eq {b : Board} {p : Power} (j : Int) (hl : Sm b.Breakers) (hc : p.Closed.length = b.Breakers.length) : board_closed b p j = some (clo b p j b.Breakers.length : Int) := by
 have h := loop_run (step := board_closed_L1 b p j) (fun k => ((clo b p j k : Int), (k : Int))) b.Breakers.length (r := (clo b p j b.Breakers.length : Int))
  (fun k hk => by
   have := clo_le b p j k
   have hs := sm_lt hl hk
   simp only [board_closed_L1, lt_len hk, if_true, idx_gt hk, idx_gt (l := p.Closed) (show k < p.Closed.length by omega), Option.bind_some, Option.bind_fun_some, Sum.elim_inl, Sum.elim_inr, eqO_self, W_succ hs, W_succ (show clo b p j k < 1000000000000000000 by omega)]
   by_cases h1 : (gt b.Breakers k).Kind = 3
   ·by_cases h2 : (gt b.Breakers k).B = j
    ·cases h3 : gt p.Closed k with
     | true => simp [clo, h1, h2, h3]
     | false => simp [clo, h1, h2, h3]
    ·simp [clo, h1, h2]
   ·simp [clo, h1])
  (by simp only [board_closed_L1, nlt_len, Bool.false_eq_true, if_false])
 have h' : loopO (board_closed_L1 b p j) (0, 0) = _ := h
 unfold board_closed
 rw [h']
 rfl
def Shape (b : Board) (p : Power) : Prop := p.Closed.length = b.Breakers.length ∧ p.Sources.length = b.Sources.length ∧ p.Limits.length = b.Consumers.length
def LimAt (b : Board) (p : Power) (k : Nat) : Prop := (0 ≤ gt p.Limits k ∧ gt p.Limits k ≤ (gt b.Consumers k).Load) ∧ clo b p (k : Int) b.Breakers.length ≤ 1
def PGood (b : Board) (p : Power) : Prop := ((∀ k, k < p.Broken.length → BrokenAt b p.Broken k) ∧ p.Broken.length ≤ 32) ∧ (∀ k, k < p.Sources.length → RunOk (gt p.Sources k)) ∧ ∀ k, k < p.Limits.length → LimAt b p k
noncomputable def stt (b : Board) (p : Power) : Int := if chk b = 0 then (if Shape b p then (if PGood b p then 0 else 11) else 8) else chk b
def SmP (p : Power) : Prop := Sm p.Closed ∧ Sm p.Sources ∧ Sm p.Limits ∧ Sm p.Broken
theorem chk_zero {b : Board} : chk b = 0 ↔ Lim b ∧ BGood b := by
 unfold chk
 by_cases h1 : Lim b <;> by_cases h2 : BGood b <;> simp [h1, h2]
theorem limits_loop {b : Board} {p : Power} (hb : SmB b) (hp : SmP p) (hsh : Shape b p) (r : Bool) : loopO (board_State_L1 b p) (r, (0 : Int)) = some (dB (r = true ∧ ∀ k, k < p.Limits.length → LimAt b p k)) := by
 obtain ⟨s1, s2, s3⟩ := hsh
 have hsl : Sm p.Limits := hp.2.2.1
 have h := loop_run (step := board_State_L1 b p) (fun k => (dB (r = true ∧ ∀ i, i < k → LimAt b p i), (k : Int))) p.Limits.length (r := dB (r = true ∧ ∀ i, i < p.Limits.length → LimAt b p i))
  (fun k hk => by
   have hkc : k < b.Consumers.length := by omega
   simp only [board_State_L1, lt_len hk, if_true, idx_gt hk, idx_gt hkc, Option.bind_some, Option.bind_fun_some, Sum.elim_inl, Sum.elim_inr, eqO_self, in_eq, closed_eq (k : Int) hb.1 s1, W_succ (sm_lt hp.2.2.1 hk)]
   have e5 : decide ((clo b p (k : Int) b.Breakers.length : Int) ≤ 1) = decide (clo b p (k : Int) b.Breakers.length ≤ 1) := by rw [decide_eq_decide]; omega
   by_cases h1 : r = true ∧ ∀ i, i < k → LimAt b p i
   ·have e : dB (r = true ∧ ∀ i, i < k + 1 → LimAt b p i) = decide (LimAt b p k) := by
     rw [dB_d]
     apply dB_congr
     refine ⟨fun h => h.2 k (by omega), fun h => ⟨h1.1, fun i hi => ?_⟩⟩
     by_cases hik : i = k
     ·subst hik; exact h
     ·exact h1.2 i (by omega)
    rw [dB_T h1, e, e5]
    unfold LimAt
    by_cases h2 : 0 ≤ gt p.Limits k ∧ gt p.Limits k ≤ (gt b.Consumers k).Load <;> by_cases h3 : clo b p (k : Int) b.Breakers.length ≤ 1 <;> simp [h2, h3]
   ·have h2 : ¬ (r = true ∧ ∀ i, i < k + 1 → LimAt b p i) := fun h => h1 ⟨h.1, fun i hi => h.2 i (by omega)⟩
    rw [dB_F h1, dB_F h2]
    rfl)
  (by simp only [board_State_L1, nlt_len, Bool.false_eq_true, if_false])
 have e0 : r = dB (r = true ∧ ∀ i, i < 0 → LimAt b p i) := dB_self r (fun i hi => by omega)
 exact (congrArg (fun q => loopO (board_State_L1 b p) (q, (0 : Int))) e0).trans h
theorem state_eq {b : Board} {p : Power} (hb : SmB b) (hp : SmP p) : board_State b p = some (stt b p) := by
 unfold board_State stt
 rw [check_eq hb]
 simp only [Option.bind_some, Option.bind_fun_some, Sum.elim_inl, Sum.elim_inr, eqO_self]
 by_cases h0 : chk b = 0
 case neg => simp [h0]
 have hL := (chk_zero.1 h0).1
 have e0 : (chk b != 0) = false := by simp [h0]
 simp only [e0, Bool.false_eq_true, if_false, if_pos h0]
 by_cases h1 : p.Closed.length = b.Breakers.length
 case neg =>
  have : ¬ Shape b p := fun h => h1 h.1
  have e : (len p.Closed != len b.Breakers) = true := by simp [len]; omega
  simp [e, this]
 by_cases h2 : p.Sources.length = b.Sources.length
 case neg =>
  have : ¬ Shape b p := fun h => h2 h.2.1
  have e1 : (len p.Closed != len b.Breakers) = false := by simp [len, h1]
  have e : (len p.Sources != len b.Sources) = true := by simp [len]; omega
  simp [e, e1, this]
 by_cases h3 : p.Limits.length = b.Consumers.length
 case neg =>
  have : ¬ Shape b p := fun h => h3 h.2.2
  have e1 : (len p.Closed != len b.Breakers) = false := by simp [len, h1]
  have e2 : (len p.Sources != len b.Sources) = false := by simp [len, h2]
  have e : (len p.Limits != len b.Consumers) = true := by simp [len]; omega
  simp [e, e1, e2, this]
 have hsh : Shape b p := ⟨h1, h2, h3⟩
 have e1 : (len p.Closed != len b.Breakers) = false := by simp [len, h1]
 have e2 : (len p.Sources != len b.Sources) = false := by simp [len, h2]
 have e3 : (len p.Limits != len b.Consumers) = false := by simp [len, h3]
 simp only [e1, e2, e3, Bool.false_eq_true, if_false, Option.bind_some, Option.bind_fun_some, Sum.elim_inl, Sum.elim_inr, eqO_self, broken_eq hL hp.2.2.2, if_pos hsh]
 have hx : (∃ k, k < p.Sources.length ∧ ¬ RunOk (gt p.Sources k)) ↔ ¬ ∀ k, k < p.Sources.length → RunOk (gt p.Sources k) := by
  constructor
  ·rintro ⟨k, hk, h⟩ hh; exact h (hh k hk)
  ·intro h
   apply Classical.byContradiction
   intro hn
   exact h fun k hk => Classical.byContradiction fun hr => hn ⟨k, hk, hr⟩
 by_cases g1 : (∀ k, k < p.Broken.length → BrokenAt b p.Broken k) ∧ p.Broken.length ≤ 32
 case neg =>
  simp only [dF g1, Bool.false_eq_true, if_false, Option.bind_some, Option.bind_fun_some, Sum.elim_inl, Sum.elim_inr, eqO_self]
  rw [limits_loop hb hp hsh, Option.bind_some]
  exact fin_eq2 (r := false) ⟨(fun h => by cases h.1), fun h => (g1 h.1).elim⟩
 by_cases g2 : ∀ k, k < p.Sources.length → RunOk (gt p.Sources k)
 case neg =>
  simp only [dT g1, if_true, containsBad_eq hp.2.1, dT (c := ∃ k, k < p.Sources.length ∧ ¬ RunOk (gt p.Sources k)) (hx.2 g2), Bool.not_true, Option.bind_some, Option.bind_fun_some, Sum.elim_inl, Sum.elim_inr, eqO_self]
  rw [limits_loop hb hp hsh, Option.bind_some]
  exact fin_eq2 (r := false) ⟨(fun h => by cases h.1), fun h => (g2 h.2.1).elim⟩
 simp only [dT g1, if_true, containsBad_eq hp.2.1, dF (c := ∃ k, k < p.Sources.length ∧ ¬ RunOk (gt p.Sources k)) (fun h => hx.1 h g2), Bool.not_false, Option.bind_some, Option.bind_fun_some, Sum.elim_inl, Sum.elim_inr, eqO_self]
 rw [limits_loop hb hp hsh, Option.bind_some]
 exact fin_eq2 (r := true) ⟨fun h => ⟨g1, g2, h.2⟩, fun h => ⟨rfl, h.2.2⟩⟩
end Rx
namespace Rx
theorem Wp.ite {α : Type} {c : Bool} {a b : Option α} {Q : α → Prop} (ha : c = true → Wp a Q) (hb : c = false → Wp b Q) : Wp (if c = true then a else b) Q := by
 cases c with
 | true => exact ha rfl
 | false => exact hb rfl
def Sr (l : List Int) (a : Int) : Prop := 0 ≤ a ∧ l.length ≤ 1000000 ∧ a ≤ l.length
theorem mod_eq {x n : Int} (h1 : 1 ≤ n) (h2 : n ≤ 1000000000000) : dynposmake_Mod x n = some ((x.tmod n + n) % n) := by
 have hm1 : -n < x.tmod n := by
  have := Int.lt_tmod_of_pos x (b := n) (by omega)
  omega
 have hm2 : x.tmod n < n := Int.tmod_lt_of_pos x (by omega)
 unfold dynposmake_Mod
 have e1 : remO x n = some (x.tmod n) := by unfold remO; rw [if_neg (by omega)]
 rw [dF (c := n < 1) (by omega)]
 simp only [Bool.false_eq_true, if_false, e1, Option.bind_some, Option.bind_fun_some]
 rw [W_sm (by omega) (by omega), remO_nn (by omega) (by omega)]
theorem wpN {l : List Int} {a n : Int} (hs : Sr l a) (h1 : 1 ≤ n) (h2 : n ≤ 1000000000000) : Wp (Src_N ⟨l, a⟩ n) fun r => (0 ≤ r.1 ∧ r.1 < n) ∧ Sr r.2.1 r.2.2 := by
 obtain ⟨s1, s2, s3⟩ := hs
 unfold Src_N
 simp only
 refine Wp.ite (fun h => wp_some.2 ⟨⟨Int.le_refl _, by simp only; omega⟩, s1, s2, s3⟩) fun h => ?_
 have h' : a < l.length := by have := of_decide_eq_false h; unfold len at this; omega
 have e1 : W (W (a + 1) - 1) = a := by rw [W_sm (x := a + 1) (by omega) (by omega), W_sm (by omega) (by omega)]; omega
 rw [e1, idx_gtZ s1 h']
 simp only [Option.bind_some, mod_eq h1 h2, W_sm (x := a + 1) (by omega) (by omega)]
 exact wp_some.2 ⟨⟨Int.emod_nonneg _ (by omega), Int.emod_lt_of_pos _ (by omega)⟩, by simp only; omega, s2, by simp only; omega⟩
theorem wpRange {l : List Int} {a lo hi : Int} (hs : Sr l a) (h : lo ≤ hi) (h1 : -1000000000000 ≤ lo) (h2 : hi ≤ 100000000000) (h3 : hi - lo + 1 ≤ 1000000000000) : Wp (Src_Range ⟨l, a⟩ lo hi) fun r => (lo ≤ r.1 ∧ r.1 ≤ hi) ∧ Sr r.2.1 r.2.2 := by
 unfold Src_Range
 have e1 : W (hi - lo) = hi - lo := W_sm (by omega) (by omega)
 have e2 : W (hi - lo + 1) = hi - lo + 1 := W_sm (by omega) (by omega)
 simp only [e1, e2]
 refine (wpN hs (n := hi - lo + 1) (by omega) (by omega)).bind fun y hy => ?_
 obtain ⟨y, l', a'⟩ := y
 simp only at hy ⊢
 rw [W_sm (by omega) (by omega)]
 exact wp_some.2 ⟨⟨by simp only; omega, by simp only; omega⟩, hy.2⟩
theorem wpPick {l : List Int} {a : Int} {w : List Int} (hs : Sr l a) (h0 : w ≠ []) (hl : w.length ≤ 1000000) : Wp (Src_Pick ⟨l, a⟩ w) fun r => r.1 ∈ w ∧ Sr r.2.1 r.2.2.1 := by
 unfold Src_Pick
 have hp : 0 < w.length := List.length_pos_iff.2 h0
 refine (wpN hs (n := len w) (by unfold len; omega) (by unfold len; omega)).bind fun y hy => ?_
 obtain ⟨y, l', a'⟩ := y
 simp only at hy ⊢
 unfold len at hy
 rw [idx_gtZ hy.1.1 hy.1.2]
 exact wp_some.2 ⟨gt_mem (by omega), hy.2⟩
theorem wpNew (t : List Int) : Wp (dynposmake_New t) fun r => Sr r.1 r.2 := by
 unfold dynposmake_New
 have e : slc t 0 (imin (len t) 600) = some (t.take (imin (len t) 600).toNat) := by
  unfold slc imin len
  rw [if_pos (by split <;> omega)]
  simp
 rw [e]
 refine wp_some.2 ⟨Int.le_refl _, ?_, by simp only; omega⟩
 simp only [List.length_take]
 unfold imin
 split <;> omega
end Rx
end Go.Proofs.YtfnphdhcgkondaaGreat
namespace Go.Proofs.YtfnphdhcgkondaaGreat
open Go Go.RowKit
open Classical
namespace Dp
inductive Conn (E : Nat → Nat → Prop) : Nat → Nat → Prop
 | refl (i : Nat) : Conn E i i
 | step {i j k : Nat} : E i j → Conn E j k → Conn E i k
inductive Walk (E : Nat → Nat → Prop) : Nat → Nat → Nat → Prop
 | refl (r i : Nat) : Walk E r i i
 | step {r i j k : Nat} : E i j → Walk E r j k → Walk E (r + 1) i k
section
variable {E E' : Nat → Nat → Prop} {n : Nat}
theorem Conn.trans {i j k : Nat} (h : Conn E i j) (h' : Conn E j k) : Conn E i k := by
 induction h with
 | refl => exact h'
 | step e _ ih => exact .step e (ih h')
theorem Conn.one {i j : Nat} (h : E i j) : Conn E i j := .step h (.refl _)
theorem Conn.symm (hs : ∀ i j, E i j → E j i) {i j : Nat} (h : Conn E i j) : Conn E j i := by
 induction h with
 | refl => exact .refl _
 | step e _ ih => exact ih.trans (.one (hs _ _ e))
theorem Conn.mono (he : ∀ i j, E i j → E' i j) {i j : Nat} (h : Conn E i j) : Conn E' i j := by
 induction h with
 | refl => exact .refl _
 | step e _ ih => exact .step (he _ _ e) ih
theorem Walk.conn {r i j : Nat} (h : Walk E r i j) : Conn E i j := by
 induction h with
 | refl => exact .refl _
 | step e _ ih => exact .step e ih
theorem Walk.more {r r' i j : Nat} (h : Walk E r i j) (hr : r ≤ r') : Walk E r' i j := by
 induction h generalizing r' with
 | refl => exact .refl _ _
 | step e _ ih =>
  cases r' with
  | zero => omega
  | succ r' => exact .step e (ih (by omega))
theorem Walk.snoc {r i j k : Nat} (h : Walk E r i j) (e : E j k) : Walk E (r + 1) i k := by
 induction h with
 | refl r i => exact .step e (.refl _ _)
 | step e' _ ih => exact .step e' (ih e)
theorem Walk.zero {i j : Nat} (h : Walk E 0 i j) : i = j := by cases h; rfl
theorem Walk.last {r i k : Nat} (h : Walk E (r + 1) i k) : Walk E r i k ∨ ∃ j, Walk E r i j ∧ E j k := by
 generalize hm : r + 1 = m at h
 induction h generalizing r with
 | refl => exact .inl (.refl _ _)
 | @step r' i j k e w ih =>
  cases r' with
  | zero =>
   have : r = 0 := by omega
   subst this
   have := w.zero
   subst this
   exact .inr ⟨i, .refl _ _, e⟩
  | succ r'' =>
   have : r = r'' + 1 := by omega
   subst this
   rcases ih rfl with h | ⟨j', h1, h2⟩
   ·exact .inl (.step e h)
   ·exact .inr ⟨j', .step e h1, h2⟩
noncomputable def reachN (E : Nat → Nat → Prop) (n r i : Nat) : Nat := ((List.range n).filter fun j => decide (Walk E r i j)).length
theorem filter_le_of {p q : Nat → Bool} (h : ∀ x, p x = true → q x = true) : ∀ l : List Nat, (l.filter p).length ≤ (l.filter q).length
 | [] => Nat.le_refl _
 | x :: l => by
  have ih := filter_le_of h l
  by_cases hp : p x = true
  ·rw [List.filter_cons_of_pos hp, List.filter_cons_of_pos (h x hp)]; simpa using ih
  ·rw [List.filter_cons_of_neg hp]
   by_cases hq : q x = true
   ·rw [List.filter_cons_of_pos hq]; simp; omega
   ·rw [List.filter_cons_of_neg hq]; exact ih
theorem filter_eq_of {p q : Nat → Bool} (h : ∀ x, p x = true → q x = true) : ∀ l : List Nat, (l.filter p).length = (l.filter q).length → ∀ x ∈ l, q x = true → p x = true
 | [], _, x, hx, _ => by cases hx
 | y :: l, he, x, hx, hq => by
  have hle := filter_le_of h l
  by_cases hp : p y = true
  ·rw [List.filter_cons_of_pos hp, List.filter_cons_of_pos (h y hp)] at he
   rcases List.mem_cons.1 hx with rfl | hx
   ·exact hp
   ·exact filter_eq_of h l (by simpa using he) x hx hq
  ·rw [List.filter_cons_of_neg hp] at he
   by_cases hq' : q y = true
   ·rw [List.filter_cons_of_pos hq'] at he
    simp at he
    omega
   ·rw [List.filter_cons_of_neg hq'] at he
    rcases List.mem_cons.1 hx with rfl | hx
    ·exact (hq' hq).elim
    ·exact filter_eq_of h l he x hx hq
theorem reachN_le (r i : Nat) : reachN E n r i ≤ n := by
 unfold reachN
 refine Nat.le_trans (List.length_filter_le _ _) ?_
 simp
theorem stable (hE : ∀ i j, E i j → j < n) {r i : Nat} (hi : i < n) (h : reachN E n r i = reachN E n (r + 1) i) : ∀ m j, Walk E (r + m) i j → Walk E r i j := by
 have h1 : ∀ j, j < n → Walk E (r + 1) i j → Walk E r i j := by
  intro j hj hw
  have := filter_eq_of (p := fun j => decide (Walk E r i j)) (q := fun j => decide (Walk E (r + 1) i j)) (fun x hx => decide_eq_true ((of_decide_eq_true hx).more (by omega))) (List.range n) h j (List.mem_range.2 hj) (decide_eq_true hw)
  exact of_decide_eq_true this
 intro m
 induction m with
 | zero => intro j h; exact h
 | succ m ih =>
  intro j hw
  rcases Walk.last (r := r + m) hw with h2 | ⟨k, h2, h3⟩
  ·exact ih j h2
  ·exact h1 j (hE _ _ h3) ((ih k h2).snoc h3)
theorem Conn.walk (hE : ∀ i j, E i j → j < n) {i j : Nat} (hi : i < n) (h : Conn E i j) : Walk E (n - 1) i j := by
 have hsome : ∃ m, Walk E m i j := by
  induction h with
  | refl => exact ⟨0, .refl _ _⟩
  | step e _ ih =>
   obtain ⟨m, hm⟩ := ih (hE _ _ e)
   exact ⟨m + 1, .step e hm⟩
 obtain ⟨m, hm⟩ := hsome
 have : ∃ r, r ≤ n - 1 ∧ reachN E n r i = reachN E n (r + 1) i := by
  apply Classical.byContradiction
  intro hn
  have hgrow : ∀ r, r ≤ n → r + 1 ≤ reachN E n r i := by
   intro r
   induction r with
   | zero =>
    intro _
    unfold reachN
    have : i ∈ (List.range n).filter fun j => decide (Walk E 0 i j) := List.mem_filter.2 ⟨List.mem_range.2 hi, decide_eq_true (.refl _ _)⟩
    exact List.length_pos_of_mem this
   | succ r ih =>
    intro hr
    have h1 := ih (by omega)
    have h2 : reachN E n r i ≤ reachN E n (r + 1) i := filter_le_of (fun x hx => decide_eq_true ((of_decide_eq_true hx).more (by omega))) _
    have h3 : reachN E n r i ≠ reachN E n (r + 1) i := fun e => hn ⟨r, by omega, e⟩
    omega
  have h4 := hgrow n (Nat.le_refl _)
  have h5 := reachN_le (E := E) (n := n) n i
  omega
 obtain ⟨r, hr, he⟩ := this
 have h6 : Walk E r i j := stable hE hi he m j (hm.more (by omega))
 exact h6.more hr
end
end Dp
end Go.Proofs.YtfnphdhcgkondaaGreat
namespace Go.Proofs.YtfnphdhcgkondaaGreat
open Go Go.RowKit Dp
namespace Rx
open Classical
abbrev bd (nb : Int) (br : List Breaker) (S : List Source) (C : List Consumer) : Board := ⟨nb, br, S, C, 0, 0⟩
theorem BrkOk.snoc {nb : Int} {br : List Breaker} {S S' : List Source} {C C' : List Consumer} {x : Breaker} (h : BrkOk (bd nb br S C)) (hS : S.length ≤ S'.length) (hC : C.length ≤ C'.length)
  (hA : 0 ≤ x.A ∧ x.A ≤ nb - 1)
  (hx : (x.Kind = 1 ∧ x.A + 1 ≤ x.B ∧ x.B ≤ nb - 1) ∨ (x.Kind = 2 ∧ (0 ≤ x.B ∧ x.B ≤ (S'.length : Int) - 1) ∧ ∀ i, i < br.length → ¬ ((gt br i).Kind = 2 ∧ (gt br i).B = x.B)) ∨ (x.Kind = 3 ∧ (0 ≤ x.B ∧ x.B ≤ (C'.length : Int) - 1) ∧ ∀ i, i < br.length → ¬ ((gt br i).Kind = 3 ∧ (gt br i).B = x.B ∧ (gt br i).A = x.A)))
  (cS : ∀ j, S.length ≤ j → j < S'.length → isS x j) (cC : ∀ j, C.length ≤ j → j < C'.length → isC x j) : BrkOk (bd nb (br ++ [x]) S' C') := by
 obtain ⟨h1, h2, h3⟩ := h
 refine ⟨fun k hk => ?_, fun j hj => ?_, fun j hj => ?_⟩
 ·have hk' : k < br.length + 1 := by simpa using hk
  by_cases hkl : k < br.length
  ·have h4 := h1 k hkl
   unfold OkAt at h4 ⊢
   simp only at h4 ⊢
   have e : ∀ i, i ≤ k → gt (br ++ [x]) i = gt br i := fun i hi => by rw [gt_snoc (by omega), if_pos (by omega)]
   rw [e k (Nat.le_refl _)]
   refine ⟨h4.1, ?_⟩
   rcases h4.2 with h5 | ⟨h5, h6, h7⟩ | ⟨h5, h6, h7⟩
   ·exact .inl h5
   ·exact .inr (.inl ⟨h5, by omega, fun i hi => by rw [e i (by omega)]; exact h7 i hi⟩)
   ·exact .inr (.inr ⟨h5, by omega, fun i hi => by rw [e i (by omega)]; exact h7 i hi⟩)
  ·have : k = br.length := by omega
   subst this
   unfold OkAt
   simp only
   have e : ∀ i, i < br.length → gt (br ++ [x]) i = gt br i := fun i hi => by rw [gt_snoc (by omega), if_pos hi]
   rw [gt_app_last]
   refine ⟨hA, ?_⟩
   rcases hx with h5 | ⟨h5, h6, h7⟩ | ⟨h5, h6, h7⟩
   ·exact .inl h5
   ·exact .inr (.inl ⟨h5, h6, fun i hi => by rw [e i hi]; exact h7 i hi⟩)
   ·exact .inr (.inr ⟨h5, h6, fun i hi => by rw [e i hi]; exact h7 i hi⟩)
 ·by_cases hjl : j < S.length
  ·obtain ⟨k, hk, hs⟩ := h2 j hjl
   have hk' : k < br.length := hk
   exact ⟨k, by simp; omega, by show isS (gt (br ++ [x]) k) j; rw [gt_app_left hk']; exact hs⟩
  ·exact ⟨br.length, by simp, by show isS (gt (br ++ [x]) br.length) j; rw [gt_app_last]; exact cS j (by omega) hj⟩
 ·by_cases hjl : j < C.length
  ·obtain ⟨k, hk, hs⟩ := h3 j hjl
   have hk' : k < br.length := hk
   exact ⟨k, by simp; omega, by show isC (gt (br ++ [x]) k) j; rw [gt_app_left hk']; exact hs⟩
  ·exact ⟨br.length, by simp, by show isC (gt (br ++ [x]) br.length) j; rw [gt_app_last]; exact cC j (by omega) hj⟩
theorem BrkOk.srcB {nb : Int} {br : List Breaker} {S : List Source} {C : List Consumer} (h : BrkOk (bd nb br S C)) {i : Nat} (hi : i < br.length) (hk : (gt br i).Kind = 2) : (gt br i).B ≤ (S.length : Int) - 1 := by
 have := (h.1 i hi).2
 simp only at this
 rcases this with h5 | ⟨h5, h6, h7⟩ | ⟨h5, h6, h7⟩ <;> omega
theorem BrkOk.conB {nb : Int} {br : List Breaker} {S : List Source} {C : List Consumer} (h : BrkOk (bd nb br S C)) {i : Nat} (hi : i < br.length) (hk : (gt br i).Kind = 3) : (gt br i).B ≤ (C.length : Int) - 1 := by
 have := (h.1 i hi).2
 simp only at this
 rcases this with h5 | ⟨h5, h6, h7⟩ | ⟨h5, h6, h7⟩ <;> omega
theorem BrkOk.tie {nb : Int} {br : List Breaker} {S : List Source} {C : List Consumer} (h : BrkOk (bd nb br S C)) {a c : Int} (h0 : 0 ≤ a) (h1 : a + 1 ≤ c) (h2 : c ≤ nb - 1) : BrkOk (bd nb (br ++ [⟨1, a, c⟩]) S C) :=
 h.snoc (Nat.le_refl _) (Nat.le_refl _) ⟨h0, by simp only; omega⟩ (.inl ⟨rfl, h1, h2⟩) (fun j _ _ => by omega) (fun j _ _ => by omega)
theorem BrkOk.src {nb : Int} {br : List Breaker} {S : List Source} {C : List Consumer} (h : BrkOk (bd nb br S C)) {a : Int} (h0 : 0 ≤ a) (h1 : a ≤ nb - 1) (s : Source) : BrkOk (bd nb (br ++ [⟨2, a, len S⟩]) (S ++ [s]) C) := by
 refine h.snoc (by simp) (Nat.le_refl _) ⟨h0, h1⟩ (.inr (.inl ⟨rfl, by simp [len], fun i hi hh => ?_⟩)) (fun j h3 h4 => ⟨rfl, by simp at h4; unfold len; simp only; omega⟩) (fun j _ _ => by omega)
 have := h.srcB hi hh.1
 have e := hh.2
 simp only [len] at e
 omega
theorem BrkOk.con {nb : Int} {br : List Breaker} {S : List Source} {C : List Consumer} (h : BrkOk (bd nb br S C)) {a : Int} (h0 : 0 ≤ a) (h1 : a ≤ nb - 1) (c : Consumer) : BrkOk (bd nb (br ++ [⟨3, a, len C⟩]) S (C ++ [c])) := by
 refine h.snoc (Nat.le_refl _) (by simp) ⟨h0, h1⟩ (.inr (.inr ⟨rfl, by simp [len], fun i hi hh => ?_⟩)) (fun j _ _ => by omega) (fun j h3 h4 => ⟨rfl, by simp at h4; unfold len; simp only; omega⟩)
 have := h.conB hi hh.1
 have e := hh.2.1
 simp only [len] at e
 omega
theorem BrkOk.con2 {nb : Int} {br : List Breaker} {S : List Source} {C : List Consumer} (h : BrkOk (bd nb br S C)) {a a' : Int} (h0 : 0 ≤ a) (h1 : a ≤ nb - 1) (h0' : 0 ≤ a') (h1' : a' ≤ nb - 1) (hne : a ≠ a') (c : Consumer) : BrkOk (bd nb (br ++ [⟨3, a, len C⟩] ++ [⟨3, a', len C⟩]) S (C ++ [c])) := by
 have h2 := h.con h0 h1 c
 refine h2.snoc (Nat.le_refl _) (Nat.le_refl _) ⟨h0', h1'⟩ (.inr (.inr ⟨rfl, by simp [len], fun i hi hh => ?_⟩)) (fun j _ _ => by omega) (fun j _ _ => by omega)
 have hi' : i < br.length + 1 := by simpa using hi
 rw [gt_snoc hi'] at hh
 by_cases hl : i < br.length
 ·rw [if_pos hl] at hh
  have := h.conB hl hh.1
  have e := hh.2.1
  simp only [len] at e
  omega
 ·rw [if_neg hl] at hh
  exact hne hh.2.2
structure Gen (b : Board) : Prop where
 bus : 1 ≤ b.Buses ∧ b.Buses ≤ 4
 brk : b.Breakers.length ≤ 18
 src : b.Sources.length ≤ 4
 con : b.Consumers.length ≤ 5
 good : BGood b
 rate : ∀ x ∈ b.Sources, 10 ≤ x.Rating ∧ x.Rating ≤ 100
 load : ∀ x ∈ b.Consumers, 0 ≤ x.Load ∧ x.Load ≤ 40
theorem Gen.lim {b : Board} (h : Gen b) : Lim b := ⟨⟨h.bus.1, by have := h.bus.2; omega⟩, by have := h.brk; omega, by have := h.src; omega, by have := h.con; omega⟩
theorem Gen.sm {b : Board} (h : Gen b) : SmB b := by
 refine ⟨by have := h.brk; unfold Sm; omega, by have := h.src; unfold Sm; omega, by have := h.con; unfold Sm; omega, fun x hx => ?_⟩
 obtain ⟨k, hk, rfl⟩ := mem_gt hx
 have := (h.good.2.2.2.2 k hk).2.2.2.2.2
 unfold Sm; omega
theorem Gen.chk {b : Board} (h : Gen b) : chk b = 0 := chk_zero.2 ⟨h.lim, h.good⟩
theorem wpBoard {l : List Int} {a : Int} (hs : Sr l a) : Wp (Src_Board ⟨l, a⟩) fun r => Sr r.2.2.2.1 r.2.2.2.2.1 ∧ Gen ⟨r.1, r.2.2.2.2.2.1, r.2.2.2.2.2.2.1, r.2.2.2.2.2.2.2, r.2.1, r.2.2.1⟩ := by
 unfold Src_Board
 refine (wpRange hs (lo := 1) (hi := 4) (by omega) (by omega) (by omega) (by omega)).bind fun y hy => ?_
 obtain ⟨nb, l, a⟩ := y
 obtain ⟨hnb, hs⟩ := hy
 simp only at hnb hs ⊢
 refine (wpPick hs (by simp) (by simp)).bind fun y hy => ?_
 obtain ⟨ph, l, a, z⟩ := y
 obtain ⟨hph, hs⟩ := hy
 simp only [List.mem_cons, List.not_mem_nil, or_false] at hph hs ⊢
 refine (wpPick hs (by simp) (by simp)).bind fun y hy => ?_
 obtain ⟨fr, l, a, z⟩ := y
 obtain ⟨hfr, hs⟩ := hy
 simp only [List.mem_cons, List.not_mem_nil, or_false] at hfr hs ⊢
 refine Wp.bind (Q := fun x => ∃ l a br, x = (l, a, nb, ph, fr, br) ∧ Sr l a ∧ BrkOk (bd nb br [] []) ∧ br.length ≤ 3) ?_ fun x hx => ?_
 ·refine wp_upto (nb - 1).toNat (fun k s => ∃ l a br, s = ((k : Int) + 1, l, a, nb, ph, fr, br) ∧ Sr l a ∧ BrkOk (bd nb br [] []) ∧ br.length ≤ k) ⟨_, _, _, rfl, hs, ⟨fun k hk => absurd hk (by simp), fun j hj => absurd hj (by simp), fun j hj => absurd hj (by simp)⟩, Nat.le_refl _⟩ ?_ ?_
  ·rintro k s hk ⟨l, a, br, rfl, hs, h1, h2⟩
   unfold Src_Board_L1
   simp only [dT (c := (k : Int) + 1 < nb) (by omega), if_true]
   refine (wpN hs (n := 6) (by omega) (by omega)).bind fun y hy => ?_
   obtain ⟨y, l, a⟩ := y
   obtain ⟨hy, hs⟩ := hy
   simp only at hy hs ⊢
   refine Wp.bind (Q := fun x => ∃ l a br, x = (l, a, nb, ph, fr, br) ∧ Sr l a ∧ BrkOk (bd nb br [] []) ∧ br.length ≤ k + 1) ?_ fun x hx => ?_
   ·refine Wp.ite (fun _ => ?_) (fun _ => wp_some.2 ⟨_, _, _, rfl, hs, h1, by omega⟩)
    refine (wpN hs (n := (k : Int) + 1) (by omega) (by omega)).bind fun z hz => ?_
    obtain ⟨z, l, a⟩ := z
    obtain ⟨hz, hs⟩ := hz
    simp only at hz hs ⊢
    rw [app_sm (by simp; omega)]
    exact wp_some.2 ⟨_, _, _, rfl, hs, h1.tie hz.1 (by omega) (by omega), by simp; omega⟩
   ·obtain ⟨l, a, br', rfl, hs, h3, h4⟩ := hx
    refine wp_some.2 ⟨l, a, br', ?_, hs, h3, h4⟩
    simp only
    rw [W_sm (by omega) (by omega)]
    rfl
  ·rintro s ⟨l, a, br, rfl, hs, h1, h2⟩
   unfold Src_Board_L1
   simp only [dF (c := (((nb - 1).toNat : Nat) : Int) + 1 < nb) (by omega), Bool.false_eq_true, if_false]
   exact wp_some.2 ⟨_, _, _, rfl, hs, h1, by omega⟩
 obtain ⟨l, a, br1, rfl, hs, hx, hx'⟩ := hx
 simp only
 refine Wp.bind (Q := fun x => ∃ c l a, x = (c, l, a) ∧ Sr l a ∧ (c = true → 2 < nb)) ?_ fun x hx2 => ?_
 ·refine Wp.ite (fun h => ?_) (fun _ => wp_some.2 ⟨_, _, _, rfl, hs, fun h => by cases h⟩)
  refine (wpN hs (n := 2) (by omega) (by omega)).bind fun y hy => ?_
  obtain ⟨y, l, a⟩ := y
  exact wp_some.2 ⟨_, _, _, rfl, hy.2, fun _ => of_decide_eq_true h⟩
 obtain ⟨more, l, a, rfl, hs, hx2⟩ := hx2
 simp only
 refine Wp.bind (Q := fun x => ∃ br, x = (nb, ph, fr, br) ∧ BrkOk (bd nb br [] []) ∧ br.length ≤ 4) ?_ fun x hx3 => ?_
 ·refine Wp.ite (fun h => ?_) (fun _ => wp_some.2 ⟨_, rfl, hx, by omega⟩)
  have h2 := hx2 h
  rw [app_sm (by simp; omega), W_sm (x := nb - 1) (by omega) (by omega)]
  exact wp_some.2 ⟨_, rfl, hx.tie (Int.le_refl _) (by omega) (Int.le_refl _), by simp; omega⟩
 obtain ⟨br2, rfl, hx3, hx4⟩ := hx3
 simp only
 refine (wpN hs (n := 5) (by omega) (by omega)).bind fun y hy => ?_
 obtain ⟨m, l, a⟩ := y
 obtain ⟨hy, hs⟩ := hy
 simp only at hy hs ⊢
 refine Wp.bind (Q := fun x => ∃ l a br S, x = (l, a, nb, ph, fr, br, S) ∧ Sr l a ∧ BrkOk (bd nb br S []) ∧ br.length ≤ 8 ∧ S.length ≤ 4 ∧ ∀ s ∈ S, SrcOk s ∧ 10 ≤ s.Rating ∧ s.Rating ≤ 100) ?_ fun x hx => ?_
 ·refine wp_upto m.toNat (fun k s => ∃ l a br S, s = (m - k, l, a, nb, ph, fr, br, S) ∧ Sr l a ∧ BrkOk (bd nb br S []) ∧ br.length ≤ 4 + k ∧ S.length = k ∧ ∀ q ∈ S, SrcOk q ∧ 10 ≤ q.Rating ∧ q.Rating ≤ 100) ⟨l, a, br2, [], by simp, hs, hx3, by simpa using hx4, rfl, by simp⟩ ?_ ?_
  ·rintro k s hk ⟨l, a, br, S, rfl, hs, h1, h2, h3, h4⟩
   unfold Src_Board_L2
   simp only [dT (c := m - (k : Int) > 0) (by omega), if_true]
   refine (wpN hs (n := nb) (by omega) (by omega)).bind fun y hy2 => ?_
   obtain ⟨c, l, a⟩ := y
   obtain ⟨hy2, hs⟩ := hy2
   simp only at hy2 hs ⊢
   rw [app_sm (xs := br) (by simp; omega)]
   simp only [Option.bind_some]
   refine (wpPick hs (by simp) (by simp)).bind fun y hr => ?_
   obtain ⟨r, l, a, z⟩ := y
   obtain ⟨hr, hs⟩ := hr
   simp only [List.mem_cons, List.not_mem_nil, or_false] at hr hs ⊢
   refine (wpPick hs (by simp) (by simp)).bind fun y hl => ?_
   obtain ⟨le, l, a, z⟩ := y
   obtain ⟨hl, hs⟩ := hl
   simp only [List.mem_cons, List.not_mem_nil, or_false] at hl hs ⊢
   refine (wpPick hs (by simp) (by simp)).bind fun y ht => ?_
   obtain ⟨st, l, a, z⟩ := y
   obtain ⟨ht, hs⟩ := ht
   simp only [List.mem_cons, List.not_mem_nil, or_false] at ht hs ⊢
   rw [app_sm (xs := S) (by simp; omega)]
   simp only [Option.bind_some]
   refine wp_some.2 ⟨l, a, _, _, ?_, hs, h1.src hy2.1 (by omega) ⟨r, le, st⟩, by simp; omega, by simp; omega, fun q hq => ?_⟩
   ·rw [W_sm (by omega) (by omega), show m - (k : Int) - 1 = m - ((k + 1 : Nat) : Int) from by omega]
   ·rcases List.mem_append.1 hq with hq | hq
    ·exact h4 q hq
    ·simp only [List.mem_singleton] at hq
     subst hq
     unfold SrcOk
     simp only
     omega
  ·rintro s ⟨l, a, br, S, rfl, hs, h1, h2, h3, h4⟩
   unfold Src_Board_L2
   simp only [dF (c := m - ((m.toNat : Nat) : Int) > 0) (by omega), Bool.false_eq_true, if_false]
   exact wp_some.2 ⟨_, _, _, _, rfl, hs, h1, by omega, by omega, h4⟩
 obtain ⟨l, a, br3, S, rfl, hs, g1, g2, g3, g4⟩ := hx
 simp only
 refine (wpN hs (n := 6) (by omega) (by omega)).bind fun y hy2 => ?_
 obtain ⟨m2, l, a⟩ := y
 obtain ⟨hy2, hs⟩ := hy2
 simp only at hy2 hs ⊢
 refine Wp.bind (Q := fun x => ∃ l a br C, x = (l, a, nb, ph, fr, br, C) ∧ Sr l a ∧ BrkOk (bd nb br S C) ∧ br.length ≤ 18 ∧ C.length ≤ 5 ∧ (∀ k, k < C.length → CsOk (gt C k) k) ∧ ∀ c ∈ C, 0 ≤ c.Load ∧ c.Load ≤ 40) ?_ fun x hx => ?_
 ·refine wp_upto m2.toNat (fun k s => ∃ l a br C, s = (m2 - k, l, a, nb, ph, fr, br, C) ∧ Sr l a ∧ BrkOk (bd nb br S C) ∧ br.length ≤ 8 + 2 * k ∧ C.length = k ∧ (∀ j, j < C.length → CsOk (gt C j) j) ∧ ∀ c ∈ C, 0 ≤ c.Load ∧ c.Load ≤ 40) ⟨l, a, br3, [], by simp, hs, g1, by simpa using g2, rfl, fun j hj => absurd hj (by simp), by simp⟩ ?_ ?_
  ·rintro k s hk ⟨l, a, br, C, rfl, hs, h1, h2, h3, h4, h5⟩
   unfold Src_Board_L3
   simp only [dT (c := m2 - (k : Int) > 0) (by omega), if_true]
   refine (wpN hs (n := nb) (by omega) (by omega)).bind fun y hy3 => ?_
   obtain ⟨c, l, a⟩ := y
   obtain ⟨hy3, hs⟩ := hy3
   simp only at hy3 hs ⊢
   rw [app_sm (xs := br) (by simp; omega)]
   simp only [Option.bind_some]
   refine Wp.bind (Q := fun x => ∃ c l a, x = (c, l, a) ∧ Sr l a ∧ (c = true → 1 < nb)) ?_ fun x hx6 => ?_
   ·refine Wp.ite (fun h => ?_) (fun _ => wp_some.2 ⟨_, _, _, rfl, hs, fun h => by cases h⟩)
    refine (wpN hs (n := 4) (by omega) (by omega)).bind fun y hy => ?_
    obtain ⟨y, l, a⟩ := y
    exact wp_some.2 ⟨_, _, _, rfl, hy.2, fun _ => of_decide_eq_true h⟩
   obtain ⟨two, l, a, rfl, hs, hx6⟩ := hx6
   simp only
   refine Wp.bind (Q := fun x => ∃ br, x = (nb, ph, fr, br) ∧ (∀ c, BrkOk (bd nb br S (C ++ [c]))) ∧ br.length ≤ 8 + 2 * (k + 1)) ?_ fun x hx7 => ?_
   ·refine Wp.ite (fun h => ?_) (fun _ => wp_some.2 ⟨_, rfl, fun q => h1.con hy3.1 (by omega) q, by simp; omega⟩)
    have hnb := hx6 h
    have e1 : remO (W (c + 1)) nb = some ((c + 1) % nb) := by
     rw [W_sm (by omega) (by omega), remO_nn (by omega) (by omega)]
    rw [e1]
    simp only [Option.bind_some]
    rw [app_sm (by simp; omega)]
    have hm0 : 0 ≤ (c + 1) % nb := Int.emod_nonneg _ (by omega)
    have hm1 : (c + 1) % nb < nb := Int.emod_lt_of_pos _ (by omega)
    have hne : c ≠ (c + 1) % nb := by
     by_cases ha : c + 1 < nb
     ·rw [Int.emod_eq_of_lt (by omega) ha]; omega
     ·have : c + 1 = nb := by omega
      rw [this, Int.emod_self]
      omega
    exact wp_some.2 ⟨_, rfl, fun q => h1.con2 hy3.1 (by omega) hm0 (by omega) hne q, by simp; omega⟩
   obtain ⟨br', rfl, hbr, hbl⟩ := hx7
   simp only
   refine (wpPick hs (by simp) (by simp)).bind fun y hl => ?_
   obtain ⟨lo, l, a, z⟩ := y
   obtain ⟨hl, hs⟩ := hl
   simp only [List.mem_cons, List.not_mem_nil, or_false] at hl hs ⊢
   rw [quoO_nn (by omega) (by omega) (by omega)]
   simp only [Option.bind_some]
   refine (wpPick hs (by simp) (by simp)).bind fun y hle => ?_
   obtain ⟨le, l, a, z⟩ := y
   obtain ⟨hle, hs⟩ := hle
   simp only [List.mem_cons, List.not_mem_nil, or_false] at hle hs ⊢
   refine (wpN hs (n := 3) (by omega) (by omega)).bind fun y hpr => ?_
   obtain ⟨pr, l, a⟩ := y
   obtain ⟨hpr, hs⟩ := hpr
   simp only at hpr hs ⊢
   refine (wpRange hs (lo := -1) (hi := 2) (by omega) (by omega) (by omega) (by omega)).bind fun y hth => ?_
   obtain ⟨th, l, a⟩ := y
   obtain ⟨hth, hs⟩ := hth
   simp only at hth hs ⊢
   refine Wp.bind (Q := fun x => ∃ c l a, x = (c, l, a) ∧ Sr l a ∧ (c = true → 0 < k)) ?_ fun x hx8 => ?_
   ·refine Wp.ite (fun h => ?_) (fun _ => wp_some.2 ⟨_, _, _, rfl, hs, fun h => by cases h⟩)
    refine (wpN hs (n := 4) (by omega) (by omega)).bind fun y hy => ?_
    obtain ⟨y, l, a⟩ := y
    exact wp_some.2 ⟨_, _, _, rfl, hy.2, fun _ => by have := of_decide_eq_true h; unfold len at this; omega⟩
   obtain ⟨nd, l, a, rfl, hs, hx8⟩ := hx8
   simp only
   refine Wp.bind (Q := fun x => ∃ l a w, x = (l, a, lo, le, pr, th, w) ∧ Sr l a ∧ NeedsOk w k ∧ w.length ≤ 4) ?_ fun x hx9 => ?_
   ·refine Wp.ite (fun h => ?_) (fun _ => wp_some.2 ⟨_, _, _, rfl, hs, fun i hi => absurd hi (by simp), by simp⟩)
    have hk0 := hx8 h
    refine (wpN hs (n := len C) (by unfold len; omega) (by unfold len; omega)).bind fun y hy4 => ?_
    obtain ⟨y, l, a⟩ := y
    obtain ⟨hy4, hs⟩ := hy4
    simp only [len] at hy4 hs ⊢
    refine wp_some.2 ⟨_, _, _, rfl, hs, fun i hi => ?_, by simp⟩
    have hi0 : i = 0 := by simp at hi; omega
    subst hi0
    have e : gt [y] 0 = y := rfl
    rw [e]
    exact ⟨by omega, fun h => by omega⟩
   obtain ⟨l, a, needs, rfl, hs, hx9, hx10⟩ := hx9
   simp only
   rw [app_sm (xs := C) (by simp; omega)]
   simp only [Option.bind_some]
   refine wp_some.2 ⟨l, a, _, _, ?_, hs, hbr ⟨lo, le, pr, th, needs⟩, by omega, by simp; omega, fun j hj => ?_, fun c hc => ?_⟩
   ·rw [W_sm (by omega) (by omega), show m2 - (k : Int) - 1 = m2 - ((k + 1 : Nat) : Int) from by omega]
   ·have hj' : j < C.length + 1 := by simpa using hj
    rw [gt_snoc hj']
    by_cases hjl : j < C.length
    ·rw [if_pos hjl]; exact h4 j hjl
    ·rw [if_neg hjl]
     have : j = k := by omega
     subst this
     refine ⟨hx9, ?_, ?_, ?_, ?_, hx10⟩ <;> simp only <;> omega
   ·rcases List.mem_append.1 hc with hc | hc
    ·exact h5 c hc
    ·simp only [List.mem_singleton] at hc
     subst hc
     simp only
     omega
  ·rintro s ⟨l, a, br, C, rfl, hs, h1, h2, h3, h4, h5⟩
   unfold Src_Board_L3
   simp only [dF (c := m2 - ((m2.toNat : Nat) : Int) > 0) (by omega), Bool.false_eq_true, if_false]
   exact wp_some.2 ⟨_, _, _, _, rfl, hs, h1, by omega, by omega, h4, h5⟩
 obtain ⟨l, a, br4, C, rfl, hs, k1, k2, k3, k4, k5⟩ := hx
 simp only
 exact wp_some.2 ⟨hs, hnb, k2, g3, k3, ⟨⟨fun k hk => k1.1 k hk, k1.2.1, k1.2.2⟩, by simp only; omega, by simp only; omega, fun k hk => (g4 _ (gt_mem hk)).1, k4⟩, fun s hs => (g4 s hs).2, k5⟩
end Rx
namespace Rx
open Classical
theorem clo_congr {b : Board} {p q : Power} {j : Int} {n : Nat} (h : ∀ i, i < n → (gt b.Breakers i).Kind = 3 → (gt b.Breakers i).B = j → gt p.Closed i = gt q.Closed i) : clo b p j n = clo b q j n := by
 induction n with
 | zero => rfl
 | succ n ih =>
  unfold clo
  rw [ih fun i hi => h i (by omega)]
  congr 1
  by_cases h1 : (gt b.Breakers n).Kind = 3
  ·by_cases h2 : (gt b.Breakers n).B = j
   ·rw [h n (by omega) h1 h2]
   ·simp [h2]
  ·simp [h1]
abbrev pc (cl : List Bool) : Power := ⟨cl, [], [], []⟩
theorem within_eq (a b c : Int) : dynposref15_within a b c = some (decide (b ≤ a ∧ a ≤ c)) := by
 unfold dynposref15_within
 by_cases h : b ≤ a <;> simp [h]
theorem exists_eq {b : Board} (hb : Lim b) (x : Part) : dynposref15_Exists b x = some (decide (0 ≤ x.Number ∧ x.Number ≤ bsize b x.Kind - 1)) := by
 have h1 := hb.bus
 have h2 := hb.brk
 have h3 := hb.src
 have h4 := hb.con
 have e1 : W (len b.Sources - 1) = (b.Sources.length : Int) - 1 := by unfold len; exact W_sm (by omega) (by omega)
 have e2 : W (len b.Breakers - 1) = (b.Breakers.length : Int) - 1 := by unfold len; exact W_sm (by omega) (by omega)
 have e3 : W (b.Buses - 1) = b.Buses - 1 := W_sm (by omega) (by omega)
 have e4 : W (len b.Consumers - 1) = (b.Consumers.length : Int) - 1 := by unfold len; exact W_sm (by omega) (by omega)
 unfold dynposref15_Exists bsize
 simp only [within_eq, e1, e2, e3, e4]
 by_cases k1 : x.Kind = 1
 ·simp [k1]
 by_cases k2 : x.Kind = 2
 ·simp [k2]
 by_cases k3 : x.Kind = 3
 ·simp [k3]
 by_cases k4 : x.Kind = 4
 ·simp [k4]
 have : ¬ (0 ≤ x.Number ∧ x.Number ≤ (0 : Int) - 1) := by omega
 simp [k1, k2, k3, k4]
 omega
theorem open_loop {b : Board} (hb : Sm b.Breakers) (i : Nat) (w : List Bool) {cl : List Bool} (hl : cl.length = b.Breakers.length) :
  Wp (loopO (Src_Power_L3 b ((i : Int), w)) (true, 0, cl)) fun r => r.length = b.Breakers.length ∧ clo b (pc r) (i : Int) b.Breakers.length ≤ 1 ∧ ∀ k, ¬ isC (gt b.Breakers k) i → gt r k = gt cl k := by
 refine wp_upto b.Breakers.length (fun k s => ∃ f c, s = (f, (k : Int), c) ∧ c.length = b.Breakers.length ∧ clo b (pc c) (i : Int) k = (if f = true then 0 else 1) ∧ ∀ j, (k ≤ j ∨ ¬ isC (gt b.Breakers j) i) → gt c j = gt cl j) ⟨_, _, rfl, hl, rfl, fun _ _ => rfl⟩ ?_ ?_
 ·rintro k s hk ⟨f, c, rfl, h1, h2, h3⟩
  have hs := sm_lt hb hk
  unfold Src_Power_L3
  simp only [lt_len hk, if_true, idx_gt hk, idx_gt (show k < c.length by omega), Option.bind_some, W_succ hs, setO_nat (show k < c.length by omega)]
  by_cases hc : isC (gt b.Breakers k) i
  ·rw [beqT hc.1, beqT hc.2]
   simp only [if_true, Option.bind_some]
   cases hv : gt c k with
   | true =>
    simp only [if_true, Option.bind_some]
    refine wp_some.2 ⟨_, _, rfl, by simpa using h1, ?_, fun j hj => ?_⟩
    ·simp only [Bool.false_eq_true, if_false]
     unfold clo
     have e1 : clo b (pc (c.set k f)) (i : Int) k = clo b (pc c) (i : Int) k := clo_congr fun j hj _ _ => by
      show gt (c.set k f) j = gt c j
      rw [gt_set (by omega), if_neg (by omega)]
     have e2 : gt (c.set k f) k = f := by rw [gt_set (by omega), if_pos rfl]
     rw [e1, h2]
     cases f with
     | true => simp [hc.1, hc.2, e2]
     | false => simp [e2]
    ·rw [gt_set (by omega)]
     by_cases hjk : j = k
     ·subst hjk
      rcases hj with hj | hj
      ·omega
      ·exact (hj hc).elim
     ·rw [if_neg hjk]
      exact h3 j (hj.imp (fun h => by omega) id)
   | false =>
    simp only [Bool.false_eq_true, if_false, Option.bind_some]
    refine wp_some.2 ⟨_, _, rfl, h1, ?_, fun j hj => h3 j (hj.imp (fun h => by omega) id)⟩
    show clo b (pc c) (i : Int) k + _ = _
    rw [h2]
    simp [hv]
  ·have : (if ((gt b.Breakers k).Kind == 3) = true then (if ((gt b.Breakers k).B == (i : Int)) = true then some (gt c k) else some false) else some false : Option Bool) = some false := by
    by_cases h4 : (gt b.Breakers k).Kind = 3
    ·have h5 : (gt b.Breakers k).B ≠ (i : Int) := fun h => hc ⟨h4, h⟩
     rw [beqT h4, beqF h5]; rfl
    ·rw [beqF h4]; rfl
   rw [this]
   simp only [Option.bind_some, Bool.false_eq_true, if_false]
   refine wp_some.2 ⟨_, _, rfl, h1, ?_, fun j hj => h3 j (hj.imp (fun h => by omega) id)⟩
   have hz : ¬ ((gt b.Breakers k).Kind = 3 ∧ (gt b.Breakers k).B = (i : Int) ∧ gt c k = true) := fun h => hc ⟨h.1, h.2.1⟩
   show clo b (pc c) (i : Int) k + (if (gt b.Breakers k).Kind = 3 ∧ (gt b.Breakers k).B = (i : Int) ∧ gt c k = true then 1 else 0) = _
   rw [h2, if_neg hz, Nat.add_zero]
 ·rintro s ⟨f, c, rfl, h1, h2, h3⟩
  unfold Src_Power_L3
  simp only [nlt_len, Bool.false_eq_true, if_false]
  refine wp_some.2 ⟨h1, ?_, fun k hk => h3 k (.inr hk)⟩
  rw [h2]
  split <;> omega
structure GenP (b : Board) (p : Power) : Prop where
 shape : Shape b p
 good : PGood b p
 brok : p.Broken.length ≤ 4
 freq : ∀ x ∈ p.Sources, 4950 ≤ x.Frequency ∧ x.Frequency ≤ 5005
theorem GenP.sm {b : Board} {p : Power} (hb : Gen b) (h : GenP b p) : SmP p := by
 obtain ⟨h1, h2, h3⟩ := h.shape
 have := hb.brk
 have := hb.src
 have := hb.con
 have := h.brok
 exact ⟨by unfold Sm; omega, by unfold Sm; omega, by unfold Sm; omega, by unfold Sm; omega⟩
theorem GenP.stt {b : Board} {p : Power} (hb : Gen b) (h : GenP b p) : stt b p = 0 := by
 unfold Go.Proofs.YtfnphdhcgkondaaGreat.Rx.stt
 rw [if_pos hb.chk, if_pos h.shape, if_pos h.good]
def GenQ (b : Board) (l : List Int) (a : Int) (cl : List Bool) (run : List Running) (lim : List Int) (brk : List Part) : Prop := Sr l a ∧ GenP b ⟨cl, run, lim, brk⟩
theorem wpPower {l : List Int} {a : Int} (hs : Sr l a) {b : Board} (hb : Gen b) : Wp (Src_Power ⟨l, a⟩ b) fun r => ∃ l a cl run lim brk, r = (l, a, b.Breakers, b.Sources, b.Consumers, cl, run, lim, brk) ∧ GenQ b l a cl run lim brk := by
 have hbr := hb.brk
 have hsr := hb.src
 have hco := hb.con
 have hsm := hb.sm
 unfold Src_Power
 refine Wp.bind (Q := fun x => ∃ l a cl, x = (l, a, cl) ∧ Sr l a ∧ cl.length = b.Breakers.length) ?_ fun x hx => ?_
 ·refine wp_upto b.Breakers.length (fun k s => ∃ l a cl, s = ((k : Int), l, a, cl) ∧ Sr l a ∧ cl.length = k) ⟨_, _, _, rfl, hs, rfl⟩ ?_ ?_
  ·rintro k s hk ⟨l, a, cl, rfl, hs, h1⟩
   unfold Src_Power_L1
   simp only [lt_len hk, if_true]
   refine (wpN hs (n := 2) (by omega) (by omega)).bind fun y hy => ?_
   obtain ⟨y, l, a⟩ := y
   simp only
   rw [app_sm (by simp; omega)]
   exact wp_some.2 ⟨_, _, _, by rw [W_succ (by omega)], hy.2, by simp; omega⟩
  ·rintro s ⟨l, a, cl, rfl, hs, h1⟩
   unfold Src_Power_L1
   simp only [nlt_len, Bool.false_eq_true, if_false]
   exact wp_some.2 ⟨_, _, _, rfl, hs, h1⟩
 obtain ⟨l, a, cl0, rfl, hs, hx⟩ := hx
 simp only
 refine Wp.bind (Q := fun c : List Bool => c.length = b.Breakers.length ∧ ∀ j, j < b.Consumers.length → clo b (pc c) (j : Int) b.Breakers.length ≤ 1) ?_ fun cl hcl => ?_
 ·refine wp_upto b.Consumers.length (fun k s => ∃ c, s = ((k : Int), c) ∧ c.length = b.Breakers.length ∧ ∀ j, j < k → clo b (pc c) (j : Int) b.Breakers.length ≤ 1) ⟨_, rfl, hx, fun j hj => by omega⟩ ?_ ?_
  ·rintro k s hk ⟨c, rfl, h1, h2⟩
   unfold Src_Power_L2
   simp only [lt_len hk, if_true]
   refine (open_loop hsm.1 k c h1).bind fun r hr => ?_
   refine wp_some.2 ⟨_, by rw [W_succ (by omega)], hr.1, fun j hj => ?_⟩
   by_cases hjk : j = k
   ·subst hjk; exact hr.2.1
   ·rw [clo_congr (q := pc c) fun i hi h3 h4 => hr.2.2 i fun hh => by have := hh.2; omega]
    exact h2 j (by omega)
  ·rintro s ⟨c, rfl, h1, h2⟩
   unfold Src_Power_L2
   simp only [nlt_len, Bool.false_eq_true, if_false]
   exact wp_some.2 ⟨h1, h2⟩
 refine Wp.bind (Q := fun x => ∃ l a run, x = (l, a, run) ∧ Sr l a ∧ run.length = b.Sources.length ∧ ∀ r ∈ run, RunOk r ∧ 4950 ≤ r.Frequency ∧ r.Frequency ≤ 5005) ?_ fun x hx2 => ?_
 ·refine wp_upto b.Sources.length (fun k s => ∃ l a run, s = ((k : Int), l, a, run) ∧ Sr l a ∧ run.length = k ∧ ∀ r ∈ run, RunOk r ∧ 4950 ≤ r.Frequency ∧ r.Frequency ≤ 5005) ⟨_, _, _, rfl, hs, rfl, by simp⟩ ?_ ?_
  ·rintro k s hk ⟨l, a, run, rfl, hs, h1, h2⟩
   unfold Src_Power_L4
   simp only [lt_len hk, if_true]
   refine (wpPick hs (by simp) (by simp)).bind fun y e1 => ?_
   obtain ⟨y1, l, a, z⟩ := y
   obtain ⟨e1, hs⟩ := e1
   simp only [List.mem_cons, List.not_mem_nil, or_false] at e1 hs ⊢
   refine (wpN hs (n := 5) (by omega) (by omega)).bind fun y e2 => ?_
   obtain ⟨y2, l, a⟩ := y
   obtain ⟨e2, hs⟩ := e2
   simp only at e2 hs ⊢
   refine (wpPick hs (by simp) (by simp)).bind fun y e3 => ?_
   obtain ⟨y3, l, a, z⟩ := y
   obtain ⟨e3, hs⟩ := e3
   simp only [List.mem_cons, List.not_mem_nil, or_false] at e3 hs ⊢
   refine (wpPick hs (by simp) (by simp)).bind fun y e4 => ?_
   obtain ⟨y4, l, a, z⟩ := y
   obtain ⟨e4, hs⟩ := e4
   simp only [List.mem_cons, List.not_mem_nil, or_false] at e4 hs ⊢
   rw [app_sm (by simp; omega)]
   simp only [Option.bind_some]
   refine wp_some.2 ⟨_, _, _, by rw [W_succ (by omega)], hs, by simp; omega, fun r hr => ?_⟩
   rcases List.mem_append.1 hr with hr | hr
   ·exact h2 r hr
   ·simp only [List.mem_singleton] at hr
    subst hr
    unfold RunOk
    simp only
    omega
  ·rintro s ⟨l, a, run, rfl, hs, h1, h2⟩
   unfold Src_Power_L4
   simp only [nlt_len, Bool.false_eq_true, if_false]
   exact wp_some.2 ⟨_, _, _, rfl, hs, h1, h2⟩
 obtain ⟨l, a, run, rfl, hs, hx2, hx2'⟩ := hx2
 simp only
 refine Wp.bind (Q := fun x => ∃ l a lim, x = (l, a, lim) ∧ Sr l a ∧ lim.length = b.Consumers.length ∧ ∀ k, k < b.Consumers.length → 0 ≤ gt lim k ∧ gt lim k ≤ (gt b.Consumers k).Load) ?_ fun x hx3 => ?_
 ·refine wp_upto b.Consumers.length (fun k s => ∃ l a lim, s = ((k : Int), l, a, lim) ∧ Sr l a ∧ lim.length = k ∧ ∀ j, j < k → 0 ≤ gt lim j ∧ gt lim j ≤ (gt b.Consumers j).Load) ⟨_, _, _, rfl, hs, rfl, fun j hj => by omega⟩ ?_ ?_
  ·rintro k s hk ⟨l, a, lim, rfl, hs, h1, h2⟩
   have hcon := hb.good.2.2.2.2 k hk
   unfold Src_Power_L5
   have hld := hcon.2.1
   have hls := hcon.2.2.1
   simp only [lt_len hk, if_true, idx_gt hk, Option.bind_some]
   rw [quoO_nn hld.1 (by omega) (by omega)]
   simp only [Option.bind_some]
   refine (wpPick hs (by simp) (by simp)).bind fun y e1 => ?_
   obtain ⟨y1, l, a, z⟩ := y
   obtain ⟨e1, hs⟩ := e1
   simp only [List.mem_cons, List.not_mem_nil, or_false] at e1 hs ⊢
   rw [app_sm (by simp; omega)]
   simp only [Option.bind_some]
   refine wp_some.2 ⟨_, _, _, by rw [W_succ (by omega)], hs, by simp; omega, fun j hj => ?_⟩
   rw [gt_snoc (by omega)]
   by_cases hjl : j < lim.length
   ·rw [if_pos hjl]; exact h2 j (by omega)
   ·rw [if_neg hjl]
    have : j = k := by omega
    subst this
    omega
  ·rintro s ⟨l, a, lim, rfl, hs, h1, h2⟩
   unfold Src_Power_L5
   simp only [nlt_len, Bool.false_eq_true, if_false]
   exact wp_some.2 ⟨_, _, _, rfl, hs, h1, h2⟩
 obtain ⟨l, a, lim, rfl, hs, hx3, hx3'⟩ := hx3
 simp only
 refine Wp.bind (Q := fun x => ∃ l a brk, x = (l, a, brk) ∧ Sr l a ∧ brk.length ≤ 4 ∧ ∀ k, k < brk.length → BrokenAt b brk k) ?_ fun x hx4 => ?_
 ·refine wp_upto 4 (fun k s => ∃ l a brk, s = ((k : Int) + 1, l, a, brk) ∧ Sr l a ∧ brk.length ≤ k ∧ (∀ x ∈ brk, x.Kind ≤ (k : Int)) ∧ ∀ j, j < brk.length → BrokenAt b brk j) ⟨_, _, _, rfl, hs, Nat.le_refl _, by simp, fun j hj => absurd hj (by simp)⟩ ?_ ?_
  ·rintro k s hk ⟨l, a, brk, rfl, hs, h1, h2, h3⟩
   unfold Src_Power_L6
   simp only [dT (c := (k : Int) + 1 ≤ 4) (by omega), if_true]
   refine (wpN hs (n := 5) (by omega) (by omega)).bind fun y hy => ?_
   obtain ⟨y1, l, a⟩ := y
   obtain ⟨hy, hs⟩ := hy
   simp only at hy hs ⊢
   refine Wp.bind (Q := fun x => ∃ l a brk, x = (l, a, brk) ∧ Sr l a ∧ brk.length ≤ k + 1 ∧ (∀ q ∈ brk, q.Kind ≤ (k : Int) + 1) ∧ ∀ j, j < brk.length → BrokenAt b brk j) ?_ fun x hx5 => ?_
   ·refine Wp.ite (fun _ => ?_) (fun _ => wp_some.2 ⟨_, _, _, rfl, hs, by omega, fun q hq => by have := h2 q hq; omega, h3⟩)
    refine (wpN hs (n := 4) (by omega) (by omega)).bind fun y e1 => ?_
    obtain ⟨y2, l, a⟩ := y
    obtain ⟨e1, hs⟩ := e1
    simp only at e1 hs ⊢
    rw [exists_eq hb.lim]
    simp only [Option.bind_some, Option.bind_fun_some]
    refine Wp.bind (Q := fun x : List Part => x.length ≤ k + 1 ∧ (∀ q ∈ x, q.Kind ≤ (k : Int) + 1) ∧ ∀ j, j < x.length → BrokenAt b x j) ?_ fun x hx6 => wp_some.2 ⟨_, _, _, rfl, hs, hx6⟩
    refine Wp.ite (fun he => ?_) (fun _ => wp_some.2 ⟨by omega, fun q hq => by have := h2 q hq; omega, h3⟩)
    have he' := of_decide_eq_true he
    rw [app_sm (by simp; omega)]
    refine wp_some.2 ⟨by simp; omega, fun q hq => ?_, fun j hj => ?_⟩
    ·rcases List.mem_append.1 hq with hq | hq
     ·have := h2 q hq; omega
     ·simp only [List.mem_singleton] at hq
      subst hq
      exact Int.le_refl _
    ·have hj' : j < brk.length + 1 := by simpa using hj
     unfold BrokenAt
     rw [gt_snoc hj']
     by_cases hjl : j < brk.length
     ·rw [if_pos hjl, gt_snoc (by omega), if_pos (by omega)]
      exact h3 j hjl
     ·rw [if_neg hjl]
      refine ⟨he', fun h0 => .inl ?_⟩
      rw [gt_snoc (by omega), if_pos (by omega)]
      have := h2 _ (gt_mem (show j - 1 < brk.length by omega))
      simp only
      omega
   ·obtain ⟨l, a, brk', rfl, hs, q1, q2, q3⟩ := hx5
    refine wp_some.2 ⟨l, a, brk', ?_, hs, q1, fun q hq => by have := q2 q hq; omega, q3⟩
    rw [W_sm (by omega) (by omega), show (k : Int) + 1 + 1 = ((k + 1 : Nat) : Int) + 1 from by omega]
  ·rintro s ⟨l, a, brk, rfl, hs, h1, h2, h3⟩
   unfold Src_Power_L6
   simp only [dF (c := ((4 : Nat) : Int) + 1 ≤ 4) (by omega), Bool.false_eq_true, if_false]
   exact wp_some.2 ⟨_, _, _, rfl, hs, h1, h3⟩
 obtain ⟨l, a, brk, rfl, hs, hx4, hx4'⟩ := hx4
 simp only
 refine wp_some.2 ⟨_, _, _, _, _, _, rfl, hs, ⟨hcl.1, hx2, hx3⟩, ⟨⟨hx4', by simp only; omega⟩, fun k hk => (hx2' _ (gt_mem hk)).1, fun k hk => ?_⟩, hx4, fun r hr => (hx2' r hr).2⟩
 simp only at hk
 have hk' : k < b.Consumers.length := by omega
 refine ⟨hx3' k hk', ?_⟩
 exact Nat.le_trans (Nat.le_of_eq (clo_congr (b := b) (p := ⟨cl, run, lim, brk⟩) (q := pc cl) (fun _ _ _ _ => rfl))) (hcl.2 k hk')
end Rx
namespace Rx
def ledAt (b : Board) (p : Power) (kind j : Int) (k : Nat) : Bool := ((gt b.Breakers k).Kind == kind && (gt b.Breakers k).B == j) && gt p.Closed k
def led (b : Board) (p : Power) (kind j : Int) : Int × Bool := match (List.range b.Breakers.length).find? (ledAt b p kind j) with
 | some k => ((gt b.Breakers k).A, true)
 | none => (0, false)
theorem led_eq {b : Board} {p : Power} (hs : Sm b.Breakers) (hc : p.Closed.length = b.Breakers.length) (kind j : Int) : board_led b p kind j = some (led b p kind j) := by
 have h := loop_find (step := board_led_L1 b p kind j) (fun k => (k : Int)) b.Breakers.length (ledAt b p kind j) (R := fun k => .inr ((gt b.Breakers k).A, true)) (e := .inl ())
  (fun k hk hp => by
   simp only [board_led_L1, lt_len hk, if_true, idx_gt hk, idx_gt (show k < p.Closed.length by omega), Option.bind_some, Option.bind_fun_some, Sum.elim_inl, Sum.elim_inr, eqO_self, W_succ (sm_lt hs hk)]
   unfold ledAt at hp
   cases h1 : (gt b.Breakers k).Kind == kind with
   | false => simp
   | true =>
    cases h2 : (gt b.Breakers k).B == j with
    | false => simp
    | true =>
     rw [h1, h2] at hp
     simp only [Bool.and_self, Bool.true_and] at hp
     simp [hp])
  (fun k hk hp => by
   simp only [board_led_L1, lt_len hk, if_true, idx_gt hk, idx_gt (show k < p.Closed.length by omega), Option.bind_some, Option.bind_fun_some, Sum.elim_inl, Sum.elim_inr, eqO_self]
   unfold ledAt at hp
   simp only [Bool.and_eq_true] at hp
   simp [hp.1.1, hp.1.2, hp.2])
  (by simp only [board_led_L1, nlt_len, Bool.false_eq_true, if_false])
 have h' : loopO (board_led_L1 b p kind j) 0 = _ := h
 unfold board_led led
 rw [h']
 cases (List.range b.Breakers.length).find? (ledAt b p kind j) <;> rfl
def conn (b : Board) (p : Power) (j : Int) : Int × Bool := if 0 ≤ j ∧ j ≤ (p.Sources.length : Int) - 1 then (if (gt p.Sources j.toNat).State = 2 then led b p 2 j else (0, false)) else (0, false)
theorem connected_eq {b : Board} {p : Power} (hs : Sm b.Breakers) (hp : Sm p.Sources) (hc : p.Closed.length = b.Breakers.length) (j : Int) : board_connected b p j = some (conn b p j) := by
 unfold Sm at hp
 have e1 : W (len p.Sources - 1) = (p.Sources.length : Int) - 1 := by unfold len; exact W_sm (by omega) (by omega)
 unfold board_connected conn
 simp only [e1, in_eq, Option.bind_some, Option.bind_fun_some, Sum.elim_inl, Sum.elim_inr, eqO_self]
 by_cases h : 0 ≤ j ∧ j ≤ (p.Sources.length : Int) - 1
 ·rw [dT h, if_pos h]
  simp only [Bool.not_true, Bool.false_eq_true, if_false, idx_gtZ h.1 (show j < (p.Sources.length : Int) by omega), Option.bind_some, Option.bind_fun_some, Sum.elim_inl, Sum.elim_inr, eqO_self, led_eq hs hc]
  by_cases h2 : (gt p.Sources j.toNat).State = 2
  ·simp [h2]
  ·simp [h2]
 ·rw [dF h, if_neg h]
  rfl
theorem fed_eq {b : Board} {p : Power} (hs : Sm b.Breakers) (hc : p.Closed.length = b.Breakers.length) (j : Int) : board_fed b p j = some (led b p 3 j) := by
 unfold board_fed
 rw [led_eq hs hc]
 rfl
def least (f : List Int) (x : Breaker) : Int := if gt f x.B.toNat < gt f x.A.toNat then gt f x.B.toNat else gt f x.A.toNat
def tieStep (b : Board) (p : Power) (f : List Int) (k : Nat) : List Int :=
 if (gt b.Breakers k).Kind = 1 ∧ gt p.Closed k = true then (f.set (gt b.Breakers k).A.toNat (least f (gt b.Breakers k))).set (gt b.Breakers k).B.toNat (least f (gt b.Breakers k)) else f
def tieRun (b : Board) (p : Power) : Nat → List Int → List Int
 | 0, f => f
 | k + 1, f => tieStep b p (tieRun b p k f) k
def rounds (b : Board) (p : Power) : Nat → List Int → List Int
 | 0, f => f
 | r + 1, f => tieRun b p b.Breakers.length (rounds b p r f)
def own (n : Nat) : List Int := (List.range n).map Int.ofNat
def grp (b : Board) (p : Power) : List Int := rounds b p b.Buses.toNat (own b.Buses.toNat)
theorem tieStep_len (b : Board) (p : Power) (f : List Int) (k : Nat) : (tieStep b p f k).length = f.length := by unfold tieStep; split <;> simp
theorem tieRun_len (b : Board) (p : Power) (k : Nat) (f : List Int) : (tieRun b p k f).length = f.length := by
 induction k with
 | zero => rfl
 | succ k ih => unfold tieRun; rw [tieStep_len, ih]
theorem rounds_len (b : Board) (p : Power) (r : Nat) (f : List Int) : (rounds b p r f).length = f.length := by
 induction r with
 | zero => rfl
 | succ r ih => unfold rounds; rw [tieRun_len, ih]
theorem grp_len (b : Board) (p : Power) : (grp b p).length = b.Buses.toNat := by unfold grp; rw [rounds_len]; simp [own]
theorem own_gt {n k : Nat} (h : k < n) : gt (own n) k = (k : Int) := by unfold own; rw [gt_map_range _ h]; rfl
theorem run_loop {b : Board} {p : Power} (hb : BrkOk b) (hs : Sm b.Breakers) (hc : p.Closed.length = b.Breakers.length) {f : List Int} (hf : (f.length : Int) = b.Buses) : loopO (board_groups_L3 b p) ((0 : Int), f) = some (tieRun b p b.Breakers.length f) := by
 refine loop_run (step := board_groups_L3 b p) (fun k => ((k : Int), tieRun b p k f)) b.Breakers.length (fun k hk => ?_) (by simp only [board_groups_L3, nlt_len, Bool.false_eq_true, if_false])
 have hok := hb.1 k hk
 have hl := tieRun_len b p k f
 simp only [board_groups_L3, lt_len hk, if_true, idx_gt hk, idx_gt (show k < p.Closed.length by omega), Option.bind_some, Option.bind_fun_some, Sum.elim_inl, Sum.elim_inr, eqO_self, W_succ (sm_lt hs hk)]
 by_cases h1 : (gt b.Breakers k).Kind = 1
 ·rw [beqT h1]
  simp only [if_true, Option.bind_some, Option.bind_fun_some, Sum.elim_inl, Sum.elim_inr, eqO_self]
  cases h2 : gt p.Closed k with
  | false =>
   simp only [Bool.false_eq_true, if_false, Option.bind_some, Option.bind_fun_some, Sum.elim_inl, Sum.elim_inr, eqO_self]
   have e : tieRun b p (k + 1) f = tieRun b p k f := by
    show tieStep b p (tieRun b p k f) k = _
    unfold tieStep
    rw [if_neg (fun h => by rw [h2] at h; exact absurd h.2 (by simp))]
   rw [e]
  | true =>
   have hA := hok.1
   have hB : (gt b.Breakers k).A + 1 ≤ (gt b.Breakers k).B ∧ (gt b.Breakers k).B ≤ b.Buses - 1 := by
    rcases hok.2 with h | h | h
    ·exact h.2
    ·have := h.1; omega
    ·have := h.1; omega
   simp only [if_true, idx_gtZ hA.1 (show (gt b.Breakers k).A < ((tieRun b p k f).length : Int) by omega), idx_gtZ (show 0 ≤ (gt b.Breakers k).B by omega) (show (gt b.Breakers k).B < ((tieRun b p k f).length : Int) by omega), Option.bind_some, Option.bind_fun_some, Sum.elim_inl, Sum.elim_inr, eqO_self]
   have e : tieRun b p (k + 1) f = ((tieRun b p k f).set (gt b.Breakers k).A.toNat (least (tieRun b p k f) (gt b.Breakers k))).set (gt b.Breakers k).B.toNat (least (tieRun b p k f) (gt b.Breakers k)) := by
    show tieStep b p (tieRun b p k f) k = _
    unfold tieStep
    rw [if_pos ⟨h1, h2⟩]
   rw [setO_gt hA.1 (by omega)]
   simp only [Option.bind_some, Option.bind_fun_some, Sum.elim_inl, Sum.elim_inr, eqO_self]
   rw [setO_gt (by omega) (by simp; omega), e, idx_gtZ (show 0 ≤ (gt b.Breakers k).B by omega) (by simp; omega)]
   rfl
 ·rw [beqF h1]
  simp only [Bool.false_eq_true, if_false, Option.bind_some, Option.bind_fun_some, Sum.elim_inl, Sum.elim_inr, eqO_self]
  have e : tieRun b p (k + 1) f = tieRun b p k f := by
   show tieStep b p (tieRun b p k f) k = _
   unfold tieStep
   rw [if_neg (fun h => h1 h.1)]
  rw [e]
theorem groups_eq {b : Board} {p : Power} (hl : Lim b) (hb : BrkOk b) (hs : Sm b.Breakers) (hc : p.Closed.length = b.Breakers.length) : board_groups b p = some (grp b p) := by
 have hbus := hl.bus
 obtain ⟨n, hn⟩ := Int.eq_ofNat_of_zero_le (show 0 ≤ b.Buses by omega)
 have hn6 : n ≤ 6 := by omega
 unfold board_groups
 rw [hn, mkZ_nat (by omega)]
 simp only [Option.bind_some, Option.bind_fun_some, Sum.elim_inl, Sum.elim_inr, eqO_self]
 have hini : loopO (board_groups_L1 (List.replicate n (0 : Int))) ((0 : Int), List.replicate n (0 : Int)) = some (own n) := by
  have hlz : (List.replicate n (0 : Int)).length = n := by simp
  have h := loop_run (step := board_groups_L1 (List.replicate n (0 : Int))) (fun k => ((k : Int), (List.range n).map fun i : Nat => if i < k then (i : Int) else 0)) n (r := own n)
   (fun k hk => by
    have hlen : ((List.range n).map fun i : Nat => if i < k then (i : Int) else 0).length = n := by simp
    have e1 : decide ((k : Int) < len (List.replicate n (0 : Int))) = true := dT (by unfold len; omega)
    simp only [board_groups_L1, e1, if_true, idx_gt (show k < ((List.range n).map fun i : Nat => if i < k then (i : Int) else 0).length by omega), Option.bind_some, Option.bind_fun_some, Sum.elim_inl, Sum.elim_inr, eqO_self, setO_nat (show k < ((List.range n).map fun i : Nat => if i < k then (i : Int) else 0).length by omega), W_succ (show k < 1000000000000000000 by omega)]
    congr 3
    apply ext_gt
    ·simp
    ·intro i hi
     have hi' : i < n := by simpa using hi
     rw [gt_set (by omega), gt_map_range _ hi', gt_map_range _ hi']
     by_cases hik : i = k
     ·subst hik; rw [if_pos rfl, if_pos (by omega)]
     ·rw [if_neg hik]
      by_cases h1 : i < k
      ·rw [if_pos h1, if_pos (by omega)]
      ·rw [if_neg h1, if_neg (by omega)])
   (by
    have e1 : decide ((n : Int) < len (List.replicate n (0 : Int))) = false := dF (by unfold len; omega)
    simp only [board_groups_L1, e1, Bool.false_eq_true, if_false]
    congr 2
    apply ext_gt
    ·simp [own]
    ·intro i hi
     have hi' : i < n := by simpa using hi
     rw [gt_map_range _ hi', if_pos hi', own_gt hi'])
  have e0 : ((List.range n).map fun i : Nat => if i < 0 then (i : Int) else 0) = List.replicate n (0 : Int) := by
   apply ext_gt
   ·simp
   ·intro i hi
    have hi' : i < n := by simpa using hi
    rw [gt_map_range _ hi', gt_replicate hi']
    rfl
  rw [← e0] at h ⊢
  exact h
 rw [hini]
 simp only [Option.bind_some, Option.bind_fun_some, Sum.elim_inl, Sum.elim_inr, eqO_self]
 have hol : (own n).length = n := by simp [own]
 have hro : loopO (board_groups_L2 b p (own n)) ((0 : Int), own n) = some (rounds b p n (own n)) := by
  refine loop_run (step := board_groups_L2 b p (own n)) (fun k => ((k : Int), rounds b p k (own n))) n (fun k hk => ?_) ?_
  ·have e1 : decide ((k : Int) < len (own n)) = true := dT (by unfold len; omega)
   have hrl := rounds_len b p k (own n)
   simp only [board_groups_L2, e1, if_true, run_loop hb hs hc (f := rounds b p k (own n)) (by omega), Option.bind_some, Option.bind_fun_some, Sum.elim_inl, Sum.elim_inr, eqO_self, W_succ (show k < 1000000000000000000 by omega)]
   rfl
  ·have e1 : decide ((n : Int) < len (own n)) = false := dF (by unfold len; omega)
   simp only [board_groups_L2, e1, Bool.false_eq_true, if_false]
 rw [hro]
 unfold grp
 rw [hn]
 rfl
def Tied (b : Board) (p : Power) (i j : Nat) : Prop := ∃ k, k < b.Breakers.length ∧ (gt b.Breakers k).Kind = 1 ∧ gt p.Closed k = true ∧ (((gt b.Breakers k).A = (i : Int) ∧ (gt b.Breakers k).B = (j : Int)) ∨ ((gt b.Breakers k).A = (j : Int) ∧ (gt b.Breakers k).B = (i : Int)))
theorem Tied.symm {b : Board} {p : Power} {i j : Nat} (h : Tied b p i j) : Tied b p j i := by
 obtain ⟨k, h1, h2, h3, h4⟩ := h
 exact ⟨k, h1, h2, h3, h4.symm⟩
theorem Tied.lt {b : Board} {p : Power} (hb : BrkOk b) {i j : Nat} (h : Tied b p i j) : i < b.Buses.toNat ∧ j < b.Buses.toNat := by
 obtain ⟨k, h1, h2, h3, h4⟩ := h
 have hok := hb.1 k h1
 have hA := hok.1
 have hB : (gt b.Breakers k).A + 1 ≤ (gt b.Breakers k).B ∧ (gt b.Breakers k).B ≤ b.Buses - 1 := by
  rcases hok.2 with h | h | h
  ·exact h.2
  ·have := h.1; omega
  ·have := h.1; omega
 rcases h4 with h4 | h4 <;> omega
structure KeepG (b : Board) (p : Power) (f : List Int) : Prop where
 len : f.length = b.Buses.toNat
 sound : ∀ i, i < b.Buses.toNat → ∃ m : Nat, gt f i = (m : Int) ∧ m ≤ i ∧ Conn (Tied b p) i m
theorem keep_own (b : Board) (p : Power) : KeepG b p (own b.Buses.toNat) := ⟨by simp [own], fun i hi => ⟨i, own_gt hi, Nat.le_refl _, .refl _⟩⟩
theorem tieEnds {b : Board} (hb : BrkOk b) {k : Nat} (hk : k < b.Breakers.length) (h1 : (gt b.Breakers k).Kind = 1) : (gt b.Breakers k).A.toNat < (gt b.Breakers k).B.toNat ∧ (gt b.Breakers k).B.toNat < b.Buses.toNat ∧ (gt b.Breakers k).A = ((gt b.Breakers k).A.toNat : Int) ∧ (gt b.Breakers k).B = ((gt b.Breakers k).B.toNat : Int) := by
 have hok := hb.1 k hk
 have hA := hok.1
 have hB : (gt b.Breakers k).A + 1 ≤ (gt b.Breakers k).B ∧ (gt b.Breakers k).B ≤ b.Buses - 1 := by
  rcases hok.2 with h | h | h
  ·exact h.2
  ·have := h.1; omega
  ·have := h.1; omega
 omega
theorem step_gt {b : Board} {p : Power} (hb : BrkOk b) {f : List Int} (hf : f.length = b.Buses.toNat) {k : Nat} (hk : k < b.Breakers.length) (i : Nat) :
  gt (tieStep b p f k) i = if (gt b.Breakers k).Kind = 1 ∧ gt p.Closed k = true ∧ (i = (gt b.Breakers k).A.toNat ∨ i = (gt b.Breakers k).B.toNat) then least f (gt b.Breakers k) else gt f i := by
 unfold tieStep
 by_cases h1 : (gt b.Breakers k).Kind = 1 ∧ gt p.Closed k = true
 ·have he := tieEnds hb hk h1.1
  rw [if_pos h1, gt_set (by simp; omega), gt_set (by omega)]
  by_cases hB : i = (gt b.Breakers k).B.toNat
  ·rw [if_pos hB, if_pos ⟨h1.1, h1.2, .inr hB⟩]
  ·rw [if_neg hB]
   by_cases hA : i = (gt b.Breakers k).A.toNat
   ·rw [if_pos hA, if_pos ⟨h1.1, h1.2, .inl hA⟩]
   ·rw [if_neg hA, if_neg (fun h => by rcases h.2.2 with h | h <;> contradiction)]
 ·rw [if_neg h1, if_neg (fun h => h1 ⟨h.1, h.2.1⟩)]
theorem least_le (f : List Int) (x : Breaker) : least f x ≤ gt f x.A.toNat ∧ least f x ≤ gt f x.B.toNat := by unfold least; split <;> omega
theorem step_keep {b : Board} {p : Power} (hb : BrkOk b) {f : List Int} (hf : KeepG b p f) {k : Nat} (hk : k < b.Breakers.length) : KeepG b p (tieStep b p f k) ∧ ∀ i, gt (tieStep b p f k) i ≤ gt f i := by
 refine ⟨⟨by rw [tieStep_len, hf.len], fun i hi => ?_⟩, fun i => ?_⟩
 ·rw [step_gt hb hf.len hk]
  split
  ·rename_i h
   obtain ⟨h1, h2, h3⟩ := h
   have he := tieEnds hb hk h1
   have hT : Tied b p (gt b.Breakers k).A.toNat (gt b.Breakers k).B.toNat := ⟨k, hk, h1, h2, .inl ⟨he.2.2.1, he.2.2.2⟩⟩
   obtain ⟨m1, e1, l1, c1⟩ := hf.sound (gt b.Breakers k).A.toNat (by omega)
   obtain ⟨m2, e2, l2, c2⟩ := hf.sound (gt b.Breakers k).B.toNat he.2.1
   unfold least
   rw [e1, e2]
   by_cases hlt : (m2 : Int) < (m1 : Int)
   ·rw [if_pos hlt]
    refine ⟨m2, rfl, ?_, ?_⟩
    ·rcases h3 with rfl | rfl <;> omega
    ·rcases h3 with rfl | rfl
     ·exact .step hT c2
     ·exact c2
   ·rw [if_neg hlt]
    refine ⟨m1, rfl, ?_, ?_⟩
    ·rcases h3 with rfl | rfl <;> omega
    ·rcases h3 with rfl | rfl
     ·exact c1
     ·exact .step hT.symm c1
  ·exact hf.sound i hi
 ·rw [step_gt hb hf.len hk]
  split
  ·rename_i h
   have := least_le f (gt b.Breakers k)
   rcases h.2.2 with rfl | rfl
   ·exact this.1
   ·exact this.2
  ·exact Int.le_refl _
theorem run_keep {b : Board} {p : Power} (hb : BrkOk b) {f : List Int} (hf : KeepG b p f) : ∀ k, k ≤ b.Breakers.length → KeepG b p (tieRun b p k f) ∧ ∀ i, gt (tieRun b p k f) i ≤ gt f i
 | 0, _ => ⟨hf, fun _ => Int.le_refl _⟩
 | k + 1, hk => by
  obtain ⟨h1, h2⟩ := run_keep hb hf k (by omega)
  obtain ⟨h3, h4⟩ := step_keep hb h1 (k := k) (by omega)
  exact ⟨h3, fun i => Int.le_trans (h4 i) (h2 i)⟩
theorem run_mono {b : Board} {p : Power} (hb : BrkOk b) {f : List Int} (hf : KeepG b p f) {k : Nat} : ∀ m, k + m ≤ b.Breakers.length → ∀ i, gt (tieRun b p (k + m) f) i ≤ gt (tieRun b p k f) i
 | 0, _ => fun _ => Int.le_refl _
 | m + 1, hm => fun i => by
  have h1 := run_mono hb hf m (k := k) (by omega) i
  have h2 := (step_keep hb (run_keep hb hf (k + m) (by omega)).1 (k := k + m) (by omega)).2 i
  exact Int.le_trans h2 h1
theorem run_edge {b : Board} {p : Power} (hb : BrkOk b) {f : List Int} (hf : KeepG b p f) {i j : Nat} (h : Tied b p i j) : gt (tieRun b p b.Breakers.length f) i ≤ gt f j := by
 obtain ⟨k, hk, h1, h2, h3⟩ := h
 have he := tieEnds hb hk h1
 have hm := run_mono hb hf (k := k + 1) (b.Breakers.length - (k + 1)) (by omega) i
 rw [show k + 1 + (b.Breakers.length - (k + 1)) = b.Breakers.length from by omega] at hm
 refine Int.le_trans hm ?_
 show gt (tieStep b p (tieRun b p k f) k) i ≤ gt f j
 have hkk := run_keep hb hf k (by omega)
 rw [step_gt hb hkk.1.len hk]
 have hl := least_le (tieRun b p k f) (gt b.Breakers k)
 have hj := hkk.2 j
 rw [if_pos ⟨h1, h2, by rcases h3 with h3 | h3 <;> omega⟩]
 rcases h3 with h3 | h3
 ·have : (gt b.Breakers k).B.toNat = j := by omega
  rw [this] at hl
  omega
 ·have : (gt b.Breakers k).A.toNat = j := by omega
  rw [this] at hl
  omega
theorem rounds_keep {b : Board} {p : Power} (hb : BrkOk b) (r : Nat) : KeepG b p (rounds b p r (own b.Buses.toNat)) := by
 induction r with
 | zero => exact keep_own b p
 | succ r ih => exact (run_keep hb ih _ (Nat.le_refl _)).1
theorem rounds_walk {b : Board} {p : Power} (hb : BrkOk b) : ∀ (r : Nat) {i j : Nat}, i < b.Buses.toNat → Walk (Tied b p) r i j → gt (rounds b p r (own b.Buses.toNat)) i ≤ (j : Int)
 | 0, i, j, hi, h => by
  have := h.zero
  subst this
  rw [show rounds b p 0 (own b.Buses.toNat) = own b.Buses.toNat from rfl, own_gt hi]
  exact Int.le_refl _
 | r + 1, i, j, hi, h => by
  have hk := rounds_keep (p := p) hb r
  cases h with
  | refl =>
   obtain ⟨m, h1, h2, _⟩ := (rounds_keep (p := p) hb (r + 1)).sound i hi
   rw [h1]; omega
  | step e w =>
   exact Int.le_trans (run_edge hb hk e) (rounds_walk hb r (e.lt hb).2 w)
theorem grp_spec {b : Board} {p : Power} (hb : BrkOk b) {i : Nat} (hi : i < b.Buses.toNat) : ∃ m : Nat, gt (grp b p) i = (m : Int) ∧ Conn (Tied b p) i m ∧ ∀ j, Conn (Tied b p) i j → m ≤ j := by
 obtain ⟨m, h1, h2, h3⟩ := (rounds_keep (p := p) hb b.Buses.toNat).sound i hi
 refine ⟨m, h1, h3, fun j hj => ?_⟩
 have hw := (hj.walk (n := b.Buses.toNat) (fun i j h => (h.lt hb).2) hi).more (r' := b.Buses.toNat) (by omega)
 have := rounds_walk hb b.Buses.toNat hi hw
 have h1' : gt (rounds b p b.Buses.toNat (own b.Buses.toNat)) i = (m : Int) := h1
 rw [h1'] at this
 omega
theorem grp_iff {b : Board} {p : Power} (hb : BrkOk b) {i j : Nat} (hi : i < b.Buses.toNat) (hj : j < b.Buses.toNat) : gt (grp b p) i = gt (grp b p) j ↔ Conn (Tied b p) i j := by
 obtain ⟨m, h1, h2, h3⟩ := grp_spec (p := p) hb hi
 obtain ⟨m', h1', h2', h3'⟩ := grp_spec (p := p) hb hj
 rw [h1, h1']
 have hs : ∀ i j, Tied b p i j → Tied b p j i := fun _ _ h => h.symm
 constructor
 ·intro h
  have : m = m' := by omega
  subst this
  exact h2.trans (h2'.symm hs)
 ·intro h
  have e1 := h3 m' (h.trans h2')
  have e2 := h3' m ((h.symm hs).trans h2)
  omega
theorem grp_bd {b : Board} {p : Power} (hb : BrkOk b) {i : Nat} (hi : i < b.Buses.toNat) : 0 ≤ gt (grp b p) i ∧ gt (grp b p) i ≤ (i : Int) := by
 obtain ⟨m, h1, h2, h3⟩ := grp_spec (p := p) hb hi
 have := h3 i (.refl _)
 omega
end Rx
namespace Rx
def rangeF (P : Nat → Bool) (k : Nat) : List Int := ((List.range k).filter P).map Int.ofNat
theorem rangeF_succ (P : Nat → Bool) (k : Nat) : rangeF P (k + 1) = rangeF P k ++ if P k = true then [(k : Int)] else [] := by
 unfold rangeF
 rw [List.range_succ, List.filter_append, List.map_append]
 cases h : P k <;> simp [h]
theorem rangeF_len (P : Nat → Bool) (k : Nat) : (rangeF P k).length ≤ k := by
 unfold rangeF
 rw [List.length_map]
 refine Nat.le_trans (List.length_filter_le _ _) ?_
 simp
theorem mem_rangeF {P : Nat → Bool} {k : Nat} {x : Int} : x ∈ rangeF P k ↔ ∃ i, i < k ∧ P i = true ∧ x = (i : Int) := by
 unfold rangeF
 rw [List.mem_map]
 constructor
 ·rintro ⟨i, hi, rfl⟩
  rw [List.mem_filter, List.mem_range] at hi
  exact ⟨i, hi.1, hi.2, rfl⟩
 ·rintro ⟨i, h1, h2, rfl⟩
  exact ⟨i, by rw [List.mem_filter, List.mem_range]; exact ⟨h1, h2⟩, rfl⟩
theorem rangeF_nodup (P : Nat → Bool) (k : Nat) : (rangeF P k).Nodup := by
 unfold rangeF
 rw [List.nodup_iff_pairwise_ne]
 refine List.Pairwise.map _ (R := fun a b => a ≠ b) (fun a b h e => h ?_) ((List.nodup_iff_pairwise_ne.1 List.nodup_range).filter _)
 exact Int.ofNat.inj e
def busP (b : Board) (p : Power) (f i : Nat) : Bool := gt (grp b p) i == (f : Int)
def srcP (b : Board) (p : Power) (f j : Nat) : Bool := (conn b p (j : Int)).2 && gt (grp b p) (conn b p (j : Int)).1.toNat == (f : Int)
def conP (b : Board) (p : Power) (f j : Nat) : Bool := (led b p 3 (j : Int)).2 && gt (grp b p) (led b p 3 (j : Int)).1.toNat == (f : Int)
def islAt (b : Board) (p : Power) (i j k : Nat) : List Island := (List.range b.Buses.toNat).map fun f => ⟨rangeF (busP b p f) i, rangeF (srcP b p f) j, rangeF (conP b p f) k⟩
def isle (b : Board) (p : Power) (f : Nat) : Island := ⟨rangeF (busP b p f) b.Buses.toNat, rangeF (srcP b p f) b.Sources.length, rangeF (conP b p f) b.Consumers.length⟩
def isl (b : Board) (p : Power) : List Island := (islAt b p b.Buses.toNat b.Sources.length b.Consumers.length).filter fun x => !x.Buses.isEmpty
theorem led_bd {b : Board} {p : Power} (hb : BrkOk b) {kind j : Int} (h : (led b p kind j).2 = true) : 0 ≤ (led b p kind j).1 ∧ (led b p kind j).1 < b.Buses := by
 unfold led at h ⊢
 cases hf : (List.range b.Breakers.length).find? (ledAt b p kind j) with
 | none => rw [hf] at h; simp at h
 | some k =>
  have hk := List.mem_range.1 (List.mem_of_find?_eq_some hf)
  have := (hb.1 k hk).1
  simp only
  omega
theorem conn_bd {b : Board} {p : Power} (hb : BrkOk b) {j : Int} (h : (conn b p j).2 = true) : 0 ≤ (conn b p j).1 ∧ (conn b p j).1 < b.Buses := by
 unfold conn at h ⊢
 by_cases h1 : 0 ≤ j ∧ j ≤ (p.Sources.length : Int) - 1
 ·rw [if_pos h1] at h ⊢
  by_cases h2 : (gt p.Sources j.toNat).State = 2
  ·rw [if_pos h2] at h ⊢
   exact led_bd hb h
  ·rw [if_neg h2] at h; simp at h
 ·rw [if_neg h1] at h; simp at h
theorem islAt_len (b : Board) (p : Power) (i j k : Nat) : (islAt b p i j k).length = b.Buses.toNat := by simp [islAt]
theorem islAt_gt {b : Board} {p : Power} {i j k f : Nat} (h : f < b.Buses.toNat) : gt (islAt b p i j k) f = ⟨rangeF (busP b p f) i, rangeF (srcP b p f) j, rangeF (conP b p f) k⟩ := by
 unfold islAt; rw [gt_map_range _ h]
section
variable {b : Board} {p : Power}
theorem fill1 (hl : Lim b) (hb : BrkOk b) : loopO (board_Islands_L1 (grp b p)) ((0 : Int), islAt b p 0 0 0) = some (islAt b p b.Buses.toNat 0 0) := by
 have hbus := hl.bus
 have hgl := grp_len b p
 refine loop_run (step := board_Islands_L1 (grp b p)) (fun k => ((k : Int), islAt b p k 0 0)) b.Buses.toNat (fun k hk => ?_) ?_
 ·have e1 : decide ((k : Int) < len (grp b p)) = true := dT (by unfold len; omega)
  obtain ⟨g0, g1⟩ := grp_bd (p := p) hb hk
  have hlen := islAt_len b p k 0 0
  obtain ⟨m, hm⟩ := Int.eq_ofNat_of_zero_le g0
  have hm' : m < b.Buses.toNat := by omega
  have hrl := rangeF_len (busP b p m) k
  have e2 : (islAt b p k 0 0).set m ⟨rangeF (busP b p m) k ++ [(k : Int)], rangeF (srcP b p m) 0, rangeF (conP b p m) 0⟩ = islAt b p (k + 1) 0 0 := by
   apply ext_gt
   ·simp [islAt]
   ·intro i hi
    have hi' : i < b.Buses.toNat := by simpa [islAt] using hi
    rw [gt_set (by omega), islAt_gt hi', islAt_gt hi', rangeF_succ]
    by_cases him : i = m
    ·subst him
     have : busP b p i k = true := by unfold busP; rw [hm]; simp
     rw [if_pos rfl, if_pos this]
    ·have : busP b p i k = false := by unfold busP; rw [hm]; exact beqF (by omega)
     rw [if_neg him, this]
     simp
  have e3 : (islAt b p (k + 1) 0 0).length = b.Buses.toNat := islAt_len _ _ _ _ _
  simp only [board_Islands_L1, e1, if_true, idx_gt (show k < (grp b p).length by omega), Option.bind_some, Option.bind_fun_some, Sum.elim_inl, Sum.elim_inr, eqO_self, hm, Int.ofNat_eq_natCast, idx_gt (show m < (islAt b p k 0 0).length by omega), islAt_gt hm', app_sm (show (rangeF (busP b p m) k).length + [(k : Int)].length ≤ 1073741824 by simp; omega), setO_nat (show m < (islAt b p k 0 0).length by omega), e2, idx_gt (show m < (islAt b p (k + 1) 0 0).length by omega), W_succ (show k < 1000000000000000000 by omega)]
 ·have e1 : decide ((b.Buses.toNat : Int) < len (grp b p)) = false := dF (by unfold len; omega)
  simp only [board_Islands_L1, e1, Bool.false_eq_true, if_false]
theorem fill2 (hl : Lim b) (hb : BrkOk b) (hs : Sm b.Breakers) (hp : Sm p.Sources) (hc : p.Closed.length = b.Breakers.length) : loopO (board_Islands_L2 b p (grp b p)) ((0 : Int), islAt b p b.Buses.toNat 0 0) = some (islAt b p b.Buses.toNat b.Sources.length 0) := by
 have hbus := hl.bus
 have hgl := grp_len b p
 have hsr := hl.src
 refine loop_run (step := board_Islands_L2 b p (grp b p)) (fun k => ((k : Int), islAt b p b.Buses.toNat k 0)) b.Sources.length (fun k hk => ?_) (by simp only [board_Islands_L2, nlt_len, Bool.false_eq_true, if_false])
 have hlen := islAt_len b p b.Buses.toNat k 0
 simp only [board_Islands_L2, lt_len hk, if_true, connected_eq hs hp hc, Option.bind_some, Option.bind_fun_some, Sum.elim_inl, Sum.elim_inr, eqO_self, W_succ (show k < 1000000000000000000 by omega)]
 cases hcn : (conn b p (k : Int)).2 with
 | false =>
  have e2 : islAt b p b.Buses.toNat (k + 1) 0 = islAt b p b.Buses.toNat k 0 := by
   unfold islAt
   refine List.map_congr_left fun f _ => ?_
   rw [rangeF_succ, show srcP b p f k = false by unfold srcP; rw [hcn]; rfl]
   simp
  simp only [Bool.false_eq_true, if_false, Option.bind_some, Option.bind_fun_some, Sum.elim_inl, Sum.elim_inr, eqO_self, e2]
 | true =>
  obtain ⟨c0, c1⟩ := conn_bd hb hcn
  have ht : (conn b p (k : Int)).1.toNat < b.Buses.toNat := by omega
  obtain ⟨g0, g1⟩ := grp_bd (p := p) hb ht
  obtain ⟨m, hm⟩ := Int.eq_ofNat_of_zero_le g0
  have hm' : m < b.Buses.toNat := by omega
  have hrl := rangeF_len (srcP b p m) k
  have e2 : (islAt b p b.Buses.toNat k 0).set m ⟨rangeF (busP b p m) b.Buses.toNat, rangeF (srcP b p m) k ++ [(k : Int)], rangeF (conP b p m) 0⟩ = islAt b p b.Buses.toNat (k + 1) 0 := by
   apply ext_gt
   ·simp [islAt]
   ·intro i hi
    have hi' : i < b.Buses.toNat := by simpa [islAt] using hi
    rw [gt_set (by omega), islAt_gt hi', islAt_gt hi', rangeF_succ]
    by_cases him : i = m
    ·subst him
     have : srcP b p i k = true := by unfold srcP; rw [hcn, hm]; simp
     rw [if_pos rfl, if_pos this]
    ·have : srcP b p i k = false := by unfold srcP; rw [hcn, hm]; simp; omega
     rw [if_neg him, this]
     simp
  have e3 : (islAt b p b.Buses.toNat (k + 1) 0).length = b.Buses.toNat := islAt_len _ _ _ _ _
  simp only [if_true, idx_gtZ c0 (show (conn b p (k : Int)).1 < ((grp b p).length : Int) by omega), Option.bind_some, Option.bind_fun_some, Sum.elim_inl, Sum.elim_inr, eqO_self, hm, Int.ofNat_eq_natCast, idx_gt (show m < (islAt b p b.Buses.toNat k 0).length by omega), islAt_gt hm', app_sm (show (rangeF (srcP b p m) k).length + [(k : Int)].length ≤ 1073741824 by simp; omega), setO_nat (show m < (islAt b p b.Buses.toNat k 0).length by omega), e2, idx_gt (show m < (islAt b p b.Buses.toNat (k + 1) 0).length by omega)]
theorem fill3 (hl : Lim b) (hb : BrkOk b) (hs : Sm b.Breakers) (hc : p.Closed.length = b.Breakers.length) : loopO (board_Islands_L3 b p (grp b p)) ((0 : Int), islAt b p b.Buses.toNat b.Sources.length 0) = some (islAt b p b.Buses.toNat b.Sources.length b.Consumers.length) := by
 have hbus := hl.bus
 have hgl := grp_len b p
 have hsr := hl.con
 refine loop_run (step := board_Islands_L3 b p (grp b p)) (fun k => ((k : Int), islAt b p b.Buses.toNat b.Sources.length k)) b.Consumers.length (fun k hk => ?_) (by simp only [board_Islands_L3, nlt_len, Bool.false_eq_true, if_false])
 have hlen := islAt_len b p b.Buses.toNat b.Sources.length k
 simp only [board_Islands_L3, lt_len hk, if_true, fed_eq hs hc, Option.bind_some, Option.bind_fun_some, Sum.elim_inl, Sum.elim_inr, eqO_self, W_succ (show k < 1000000000000000000 by omega)]
 cases hcn : (led b p 3 (k : Int)).2 with
 | false =>
  have e2 : islAt b p b.Buses.toNat b.Sources.length (k + 1) = islAt b p b.Buses.toNat b.Sources.length k := by
   unfold islAt
   refine List.map_congr_left fun f _ => ?_
   rw [rangeF_succ, show conP b p f k = false by unfold conP; rw [hcn]; rfl]
   simp
  simp only [Bool.false_eq_true, if_false, Option.bind_some, Option.bind_fun_some, Sum.elim_inl, Sum.elim_inr, eqO_self, e2]
 | true =>
  obtain ⟨c0, c1⟩ := led_bd hb hcn
  have ht : (led b p 3 (k : Int)).1.toNat < b.Buses.toNat := by omega
  obtain ⟨g0, g1⟩ := grp_bd (p := p) hb ht
  obtain ⟨m, hm⟩ := Int.eq_ofNat_of_zero_le g0
  have hm' : m < b.Buses.toNat := by omega
  have hrl := rangeF_len (conP b p m) k
  have e2 : (islAt b p b.Buses.toNat b.Sources.length k).set m ⟨rangeF (busP b p m) b.Buses.toNat, rangeF (srcP b p m) b.Sources.length, rangeF (conP b p m) k ++ [(k : Int)]⟩ = islAt b p b.Buses.toNat b.Sources.length (k + 1) := by
   apply ext_gt
   ·simp [islAt]
   ·intro i hi
    have hi' : i < b.Buses.toNat := by simpa [islAt] using hi
    rw [gt_set (by omega), islAt_gt hi', islAt_gt hi', rangeF_succ]
    by_cases him : i = m
    ·subst him
     have : conP b p i k = true := by unfold conP; rw [hcn, hm]; simp
     rw [if_pos rfl, if_pos this]
    ·have : conP b p i k = false := by unfold conP; rw [hcn, hm]; simp; omega
     rw [if_neg him, this]
     simp
  have e3 : (islAt b p b.Buses.toNat b.Sources.length (k + 1)).length = b.Buses.toNat := islAt_len _ _ _ _ _
  simp only [if_true, idx_gtZ c0 (show (led b p 3 (k : Int)).1 < ((grp b p).length : Int) by omega), Option.bind_some, Option.bind_fun_some, Sum.elim_inl, Sum.elim_inr, eqO_self, hm, Int.ofNat_eq_natCast, idx_gt (show m < (islAt b p b.Buses.toNat b.Sources.length k).length by omega), islAt_gt hm', app_sm (show (rangeF (conP b p m) k).length + [(k : Int)].length ≤ 1073741824 by simp; omega), setO_nat (show m < (islAt b p b.Buses.toNat b.Sources.length k).length by omega), e2, idx_gt (show m < (islAt b p b.Buses.toNat b.Sources.length (k + 1)).length by omega)]
end
theorem delete_eq {l : List Island} (hl : Sm l) : slices_DeleteFunc_Island_Island l = some (l.filter fun x => !x.Buses.isEmpty) := by
 have hE : ∀ x : Island, board_Islands_1 x = some (x.Buses.isEmpty) := fun x => by
  unfold board_Islands_1
  cases h : x.Buses with
  | nil => rfl
  | cons a l => simp [len]; omega
 have h := loop_find (step := slices_IndexFunc_Island_Island_L1 l) (fun k => (k : Int)) l.length (fun k => (gt l k).Buses.isEmpty) (R := fun k => .inr (k : Int)) (e := .inl ())
  (fun k hk hp => by simp only [slices_IndexFunc_Island_Island_L1, hE, lt_len hk, if_true, idx_gt hk, Option.bind_some, Option.bind_fun_some, Sum.elim_inl, Sum.elim_inr, eqO_self, hp, Bool.false_eq_true, if_false, W_succ (sm_lt hl hk)])
  (fun k hk hp => by simp only [slices_IndexFunc_Island_Island_L1, hE, lt_len hk, if_true, idx_gt hk, Option.bind_some, Option.bind_fun_some, Sum.elim_inl, Sum.elim_inr, eqO_self, hp])
  (by simp only [slices_IndexFunc_Island_Island_L1, nlt_len, Bool.false_eq_true, if_false])
 have h' : loopO (slices_IndexFunc_Island_Island_L1 l) 0 = _ := h
 have hpre : ∀ m, m ≤ l.length → (∀ k, k < m → (gt l k).Buses.isEmpty = false) → (l.take m).filter (fun x => !x.Buses.isEmpty) = l.take m := by
  intro m hm hk
  rw [List.filter_eq_self]
  intro x hx
  obtain ⟨k, h1, rfl⟩ := (mem_take_gt hm).1 hx
  rw [hk k h1]; rfl
 unfold slices_DeleteFunc_Island_Island slices_IndexFunc_Island_Island
 rw [h']
 cases hf : (List.range l.length).find? (fun k => (gt l k).Buses.isEmpty) with
 | none =>
  have hall : ∀ k, k < l.length → (gt l k).Buses.isEmpty = false := fun k hk => by
   have := List.find?_eq_none.1 hf k (List.mem_range.2 hk)
   simpa using this
  have := hpre l.length (Nat.le_refl _) hall
  rw [List.take_length] at this
  rw [this]
  rfl
 | some k0 =>
  have hk0 := List.mem_range.1 (List.mem_of_find?_eq_some hf)
  have hp0 : (gt l k0).Buses.isEmpty = true := List.find?_some (p := fun k => (gt l k).Buses.isEmpty) hf
  have hbef : ∀ k, k < k0 → (gt l k).Buses.isEmpty = false := by
   obtain ⟨_, la, lb, h2, h3⟩ := List.find?_eq_some_iff_append.1 hf
   intro k hk
   have hlen : la.length = k0 := by
    have h4 : (List.range l.length)[la.length]? = some k0 := by rw [h2]; simp
    rw [List.getElem?_range (by
     have := congrArg List.length h2
     simp at this
     omega)] at h4
    exact Option.some.inj h4
   have hmem : k ∈ la := by
    have h4 : (List.range l.length)[k]? = some k := List.getElem?_range (by omega)
    rw [h2, List.getElem?_append_left (by omega)] at h4
    exact List.mem_of_getElem? h4
   simpa using h3 k hmem
  have hne : ((k0 : Int) == -1) = false := beqF (by omega)
  have hs0 : k0 < 1000000000000000000 := sm_lt hl hk0
  simp only [Option.bind_some, Option.bind_fun_some, Sum.elim_inl, Sum.elim_inr, eqO_self, Sum.elim_inr, hne, Bool.false_eq_true, if_false, W_succ hs0]
  have hloop : Wp (loopO slices_DeleteFunc_Island_Island_L1 ((k0 : Int), ((k0 + 1 : Nat) : Int), l)) fun r => ∃ (i : Nat) (x : List Island), r = ((i : Int), x) ∧ i ≤ l.length ∧ x.length = l.length ∧ x.take i = l.filter fun x => !x.Buses.isEmpty := by
   refine wp_upto (l.length - (k0 + 1)) (fun m s => ∃ (i : Nat) (x : List Island), s = ((i : Int), ((k0 + 1 + m : Nat) : Int), x) ∧ i < k0 + 1 + m ∧ x.length = l.length ∧ x.take i = (l.take (k0 + 1 + m)).filter (fun x => !x.Buses.isEmpty) ∧ ∀ q, k0 + 1 + m ≤ q → gt x q = gt l q) ⟨k0, l, rfl, by omega, rfl, ?_, fun _ _ => rfl⟩ ?_ ?_
   ·rw [Nat.add_zero, take_gt hk0, List.filter_append, hpre k0 (by omega) hbef]
    simp [hp0]
   ·rintro m s hm ⟨i, x, rfl, h1, h2, h3, h4⟩
    have hj : k0 + 1 + m < l.length := by omega
    have hs : k0 + 1 + m < 1000000000000000000 := sm_lt hl hj
    have hg := h4 (k0 + 1 + m) (Nat.le_refl _)
    unfold slices_DeleteFunc_Island_Island_L1
    simp only [lt_len (show k0 + 1 + m < x.length by omega), if_true, idx_gt (show k0 + 1 + m < x.length by omega), idx_gt (show i < x.length by omega), hg, hE, Option.bind_some, Option.bind_fun_some, Sum.elim_inl, Sum.elim_inr, eqO_self, setO_nat (show i < x.length by omega), W_succ (show i < 1000000000000000000 by omega), W_succ hs]
    cases he : (gt l (k0 + 1 + m)).Buses.isEmpty with
    | true =>
     simp only [Bool.not_true, Bool.false_eq_true, if_false, Option.bind_some, Option.bind_fun_some, Sum.elim_inl, Sum.elim_inr, eqO_self]
     refine wp_some.2 ⟨i, x, rfl, by omega, h2, ?_, fun q hq => h4 q (by omega)⟩
     rw [show k0 + 1 + (m + 1) = k0 + 1 + m + 1 from rfl, take_gt hj, List.filter_append, h3]
     simp [he]
    | false =>
     simp only [Bool.not_false, if_true, Option.bind_some, Option.bind_fun_some, Sum.elim_inl, Sum.elim_inr, eqO_self]
     refine wp_some.2 ⟨i + 1, _, rfl, by omega, by simpa using h2, ?_, fun q hq => ?_⟩
     ·rw [show k0 + 1 + (m + 1) = k0 + 1 + m + 1 from rfl, take_gt hj, List.filter_append, ← h3, take_gt (show i < (x.set i (gt l (k0 + 1 + m))).length by simp; omega), gt_set (by omega), if_pos rfl, List.take_set_of_le (Nat.le_refl _)]
      simp [he]
     ·rw [gt_set (by omega), if_neg (by omega)]
      exact h4 q (by omega)
   ·rintro s ⟨i, x, rfl, h1, h2, h3, h4⟩
    have e : k0 + 1 + (l.length - (k0 + 1)) = l.length := by omega
    rw [e] at h1 h3 ⊢
    rw [List.take_length] at h3
    unfold slices_DeleteFunc_Island_Island_L1
    have e1 : decide ((l.length : Int) < len x) = false := dF (by unfold len; omega)
    simp only [e1, Bool.false_eq_true, if_false]
    exact wp_some.2 ⟨i, x, rfl, by omega, h2, h3⟩
  obtain ⟨r, hr, i, x, rfl, h2, h3, h4⟩ := hloop
  rw [hr]
  simp only [Option.bind_some, Option.bind_fun_some, Sum.elim_inl, Sum.elim_inr, eqO_self]
  have s1 : slc x (i : Int) (len x) = some ((x.take (len x).toNat).drop (i : Int).toNat) := by
   unfold slc len
   rw [if_pos ⟨by omega, by omega, by omega⟩]
  rw [s1]
  simp only [Option.bind_some, Option.bind_fun_some, Sum.elim_inl, Sum.elim_inr, eqO_self, Int.toNat_natCast]
  have hl2 : (x.take i).length = i := by simp; omega
  unfold clrT
  rw [Int.toNat_natCast, slc_take (xs := x.take i ++ List.replicate (x.length - i) (⟨[], [], []⟩ : Island)) (n := i) (by simp; omega)]
  rw [List.take_append_of_le_length (by omega), List.take_of_length_le (by omega), h4]
section
variable {b : Board} {p : Power}
theorem stt_zero : stt b p = 0 ↔ (Lim b ∧ BGood b) ∧ Shape b p ∧ PGood b p := by
 unfold stt
 by_cases h0 : chk b = 0
 ·rw [if_pos h0]
  have h1 := chk_zero.1 h0
  by_cases h2 : Shape b p <;> by_cases h3 : PGood b p <;> simp [h1, h2, h3]
 ·rw [if_neg h0]
  exact ⟨fun h => (h0 h).elim, fun h => (h0 (chk_zero.2 h.1)).elim⟩
theorem islands_eq (hb : SmB b) (hp : SmP p) (h : stt b p = 0) : board_Islands b p = some (isl b p) := by
 obtain ⟨⟨hl, hg⟩, hsh, _⟩ := stt_zero.1 h
 have hbus := hl.bus
 obtain ⟨n, hn⟩ := Int.eq_ofNat_of_zero_le (show 0 ≤ b.Buses by omega)
 have hmk : mkZ (⟨[], [], []⟩ : Island) b.Buses = some (islAt b p 0 0 0) := by
  rw [hn, mkZ_nat (by omega)]
  congr 1
  apply ext_gt
  ·simp [islAt, hn]
  ·intro k hk
   have hk' : k < n := by simpa using hk
   rw [gt_replicate hk', islAt_gt (by omega)]
   rfl
 unfold board_Islands
 rw [state_eq hb hp, h]
 simp only [Option.bind_some, Option.bind_fun_some, Sum.elim_inl, Sum.elim_inr, eqO_self, bne_self_eq_false, Bool.false_eq_true, if_false, groups_eq hl hg.1 hb.1 hsh.1, hmk, fill1 hl hg.1, fill2 hl hg.1 hb.1 hp.2.1 hsh.1, fill3 hl hg.1 hb.1 hsh.1]
 rw [delete_eq (by unfold Sm; rw [islAt_len]; omega)]
 rfl
theorem islands_bad (hb : SmB b) (hp : SmP p) (h : stt b p ≠ 0) : board_Islands b p = some [] := by
 unfold board_Islands
 rw [state_eq hb hp]
 have : (stt b p != 0) = true := by simpa using h
 simp only [Option.bind_some, Option.bind_fun_some, Sum.elim_inl, Sum.elim_inr, eqO_self, this, if_true]
theorem mem_isl {x : Island} : x ∈ isl b p ↔ ∃ f, f < b.Buses.toNat ∧ x = isle b p f ∧ (isle b p f).Buses ≠ [] := by
 unfold isl islAt
 rw [List.mem_filter, List.mem_map]
 constructor
 ·rintro ⟨⟨f, hf, rfl⟩, h⟩
  refine ⟨f, List.mem_range.1 hf, rfl, fun e => ?_⟩
  have e' : rangeF (busP b p f) b.Buses.toNat = [] := e
  rw [e'] at h
  cases h
 ·rintro ⟨f, hf, rfl, h⟩
  refine ⟨⟨f, List.mem_range.2 hf, rfl⟩, ?_⟩
  cases he : (isle b p f).Buses with
  | nil => exact (h he).elim
  | cons _ _ => rfl
theorem mem_bus {f : Nat} {x : Int} : x ∈ (isle b p f).Buses ↔ ∃ i, i < b.Buses.toNat ∧ gt (grp b p) i = (f : Int) ∧ x = (i : Int) := by
 show x ∈ rangeF (busP b p f) b.Buses.toNat ↔ _
 rw [mem_rangeF]
 constructor
 ·rintro ⟨i, h1, h2, h3⟩
  exact ⟨i, h1, by simpa [busP] using h2, h3⟩
 ·rintro ⟨i, h1, h2, h3⟩
  exact ⟨i, h1, by simp [busP, h2], h3⟩
theorem mem_src {f : Nat} {x : Int} : x ∈ (isle b p f).Sources ↔ ∃ j, j < b.Sources.length ∧ (conn b p (j : Int)).2 = true ∧ gt (grp b p) (conn b p (j : Int)).1.toNat = (f : Int) ∧ x = (j : Int) := by
 show x ∈ rangeF (srcP b p f) b.Sources.length ↔ _
 rw [mem_rangeF]
 constructor
 ·rintro ⟨i, h1, h2, h3⟩
  unfold srcP at h2
  simp only [Bool.and_eq_true, beq_iff_eq] at h2
  exact ⟨i, h1, h2.1, h2.2, h3⟩
 ·rintro ⟨i, h1, h2, h3, h4⟩
  exact ⟨i, h1, by unfold srcP; rw [h2, h3]; simp, h4⟩
theorem mem_con {f : Nat} {x : Int} : x ∈ (isle b p f).Consumers ↔ ∃ j, j < b.Consumers.length ∧ (led b p 3 (j : Int)).2 = true ∧ gt (grp b p) (led b p 3 (j : Int)).1.toNat = (f : Int) ∧ x = (j : Int) := by
 show x ∈ rangeF (conP b p f) b.Consumers.length ↔ _
 rw [mem_rangeF]
 constructor
 ·rintro ⟨i, h1, h2, h3⟩
  unfold conP at h2
  simp only [Bool.and_eq_true, beq_iff_eq] at h2
  exact ⟨i, h1, h2.1, h2.2, h3⟩
 ·rintro ⟨i, h1, h2, h3, h4⟩
  exact ⟨i, h1, by unfold conP; rw [h2, h3]; simp, h4⟩
def isleOf (b : Board) (p : Power) (k : Int) : Island := isle b p (gt (grp b p) k.toNat).toNat
theorem isleOf_in (hb : BrkOk b) {k : Int} (h0 : 0 ≤ k) (h1 : k < b.Buses) : isleOf b p k ∈ isl b p ∧ k ∈ (isleOf b p k).Buses := by
 obtain ⟨g0, g1⟩ := grp_bd (p := p) hb (show k.toNat < b.Buses.toNat by omega)
 have hm : k ∈ (isleOf b p k).Buses := mem_bus.2 ⟨k.toNat, by omega, by omega, by omega⟩
 exact ⟨mem_isl.2 ⟨_, by omega, rfl, fun e => by rw [show isle b p (gt (grp b p) k.toNat).toNat = isleOf b p k from rfl] at e; rw [e] at hm; cases hm⟩, hm⟩
theorem isleOf_uniq {x : Island} (hx : x ∈ isl b p) {k : Int} (hk : k ∈ x.Buses) : 0 ≤ k ∧ k < b.Buses.toNat ∧ x = isleOf b p k := by
 obtain ⟨f, hf, rfl, _⟩ := mem_isl.1 hx
 obtain ⟨i, hi, hg, rfl⟩ := mem_bus.1 hk
 refine ⟨by omega, by omega, ?_⟩
 unfold isleOf
 rw [Int.toNat_natCast, hg, Int.toNat_natCast]
theorem isl_len : (isl b p).length ≤ b.Buses.toNat := by
 unfold isl
 refine Nat.le_trans (List.length_filter_le _ _) ?_
 rw [islAt_len]
 exact Nat.le_refl _
theorem isle_len (f : Nat) : (isle b p f).Buses.length ≤ b.Buses.toNat ∧ (isle b p f).Sources.length ≤ b.Sources.length ∧ (isle b p f).Consumers.length ≤ b.Consumers.length :=
 ⟨rangeF_len _ _, rangeF_len _ _, rangeF_len _ _⟩
noncomputable def ofB (b : Board) (p : Power) (k : Int) : Island × Bool := if stt b p = 0 ∧ 0 ≤ k ∧ k < b.Buses then (isleOf b p k, true) else (⟨[], [], []⟩, false)
noncomputable def ofT (b : Board) (p : Power) (k : Int) : List Int × List Int × List Int × Bool := ((ofB b p k).1.Buses, (ofB b p k).1.Sources, (ofB b p k).1.Consumers, (ofB b p k).2)
theorem of_eq (hb : SmB b) (hp : SmP p) (k : Int) : board_Of b p k = some (ofT b p k) := by
 unfold board_Of ofT ofB
 by_cases h : stt b p = 0
 case neg =>
  rw [islands_bad hb hp h, if_neg (fun hh => h hh.1)]
  have : loopO (board_Of_L1 k []) 0 = some (.inl ()) := loopO_of (.done (by simp [board_Of_L1, len])) (by omega)
  simp only [Option.bind_some, Option.bind_fun_some, Sum.elim_inl, Sum.elim_inr, eqO_self, this, Sum.elim_inl]
 obtain ⟨⟨hl, hg⟩, hsh, _⟩ := stt_zero.1 h
 have hbus := hl.bus
 have hil := isl_len (b := b) (p := p)
 rw [islands_eq hb hp h]
 simp only [Option.bind_some, Option.bind_fun_some, Sum.elim_inl, Sum.elim_inr, eqO_self]
 have hsm : ∀ q, q < (isl b p).length → Sm (gt (isl b p) q).Buses := fun q hq => by
  obtain ⟨f, hf, e, _⟩ := mem_isl.1 (gt_mem hq)
  rw [e]
  have := (isle_len (b := b) (p := p) f).1
  unfold Sm; omega
 have h1 := loop_find (step := board_Of_L1 k (isl b p)) (fun i => (i : Int)) (isl b p).length (fun i => decide (k ∈ (gt (isl b p) i).Buses)) (R := fun i => .inr ((gt (isl b p) i).Buses, (gt (isl b p) i).Sources, (gt (isl b p) i).Consumers, true)) (e := .inl ())
  (fun i hi hq => by simp only [board_Of_L1, lt_len hi, if_true, idx_gt hi, Option.bind_some, Option.bind_fun_some, Sum.elim_inl, Sum.elim_inr, eqO_self, contains_eq (hsm i hi), hq, Bool.false_eq_true, if_false, W_succ (show i < 1000000000000000000 by omega)])
  (fun i hi hq => by simp only [board_Of_L1, lt_len hi, if_true, idx_gt hi, Option.bind_some, Option.bind_fun_some, Sum.elim_inl, Sum.elim_inr, eqO_self, contains_eq (hsm i hi), hq])
  (by simp only [board_Of_L1, nlt_len, Bool.false_eq_true, if_false])
 have h1' : loopO (board_Of_L1 k (isl b p)) 0 = _ := h1
 rw [h1']
 cases hf : (List.range (isl b p).length).find? (fun i => decide (k ∈ (gt (isl b p) i).Buses)) with
 | none =>
  have : ¬ (stt b p = 0 ∧ 0 ≤ k ∧ k < b.Buses) := fun hh => by
   obtain ⟨h2, h3⟩ := isleOf_in (p := p) hg.1 hh.2.1 hh.2.2
   obtain ⟨q, hq, e⟩ := mem_gt h2
   have := List.find?_eq_none.1 hf q (List.mem_range.2 hq)
   rw [e] at this
   simp [h3] at this
  rw [if_neg this]
  rfl
 | some q =>
  have hq := List.mem_range.1 (List.mem_of_find?_eq_some hf)
  have hk : k ∈ (gt (isl b p) q).Buses := of_decide_eq_true (List.find?_some (p := fun i => decide (k ∈ (gt (isl b p) i).Buses)) hf)
  obtain ⟨k0, k1, e⟩ := isleOf_uniq (gt_mem hq) hk
  rw [if_pos ⟨h, k0, by omega⟩, ← e]
  rfl
noncomputable def connB (b : Board) (p : Power) (j : Int) : Int × Bool := if stt b p = 0 then conn b p j else (0, false)
noncomputable def fedB (b : Board) (p : Power) (j : Int) : Int × Bool := if stt b p = 0 then led b p 3 j else (0, false)
end
def findP (b : Board) (kind j : Int) (k : Nat) : Bool := (gt b.Breakers k).Kind == kind && ((gt b.Breakers k).B == j || (kind == 1 && (gt b.Breakers k).A == j))
end Rx
namespace Rx
section
variable {b : Board} {p : Power}
theorem live_eq (hb : SmB b) (hp : SmP p) (k : Int) : board_Live b p k = some (decide (0 < (ofB b p k).1.Sources.length)) := by
 unfold board_Live
 rw [of_eq hb hp]
 simp only [Option.bind_some, Option.bind_fun_some, Sum.elim_inl, Sum.elim_inr, eqO_self]
 congr 1
 rw [decide_eq_decide]
 simp only [ofT, len]
 omega
end
end Rx
namespace Rx
section
variable {b : Board} {p : Power}
theorem fedB_eq (hb : SmB b) (hp : SmP p) (j : Int) : board_Fed b p j = some (fedB b p j) := by
 unfold board_Fed fedB
 rw [state_eq hb hp]
 by_cases h : stt b p = 0
 ·rw [if_pos h, h]
  simp only [Option.bind_some, Option.bind_fun_some, Sum.elim_inl, Sum.elim_inr, eqO_self, bne_self_eq_false, Bool.false_eq_true, if_false, fed_eq hb.1 (stt_zero.1 h).2.1.1]
 ·have : (stt b p != 0) = true := by simpa using h
  simp only [Option.bind_some, Option.bind_fun_some, Sum.elim_inl, Sum.elim_inr, eqO_self, this, if_true, if_neg h]
end
section
variable {b : Board} {p : Power}
end
end Rx
namespace Rx
open Classical
theorem refof_eq {b : Board} (hs : Sm b.Breakers) (kind j : Int) : dynposref15_of b kind j = some (rangeF (findP b kind j) b.Breakers.length) := by
 have h1 := loop_run (step := dynposref15_of_L1 b kind j) (fun k => ((k : Int), rangeF (findP b kind j) k)) b.Breakers.length (r := rangeF (findP b kind j) b.Breakers.length)
  (fun k hk => by
   have hrl := rangeF_len (findP b kind j) k
   have hkk := sm_lt hs hk
   have hap : app (rangeF (findP b kind j) k) [(k : Int)] = some (rangeF (findP b kind j) k ++ [(k : Int)]) := app_sm (by unfold Sm at hs; simp; omega)
   simp only [dynposref15_of_L1, lt_len hk, if_true, idx_gt hk, Option.bind_some, W_succ hkk, rangeF_succ, hap]
   unfold findP
   cases e1 : (gt b.Breakers k).Kind == kind <;> cases e2 : (gt b.Breakers k).B == j <;> cases e3 : kind == 1 <;> cases e4 : (gt b.Breakers k).A == j <;> simp)
  (by simp only [dynposref15_of_L1, nlt_len, Bool.false_eq_true, if_false])
 have h1' : loopO (dynposref15_of_L1 b kind j) (0, []) = _ := h1
 unfold dynposref15_of
 rw [h1']
 rfl
theorem rangeF_len_succ (P : Nat → Bool) (k : Nat) : (rangeF P (k + 1)).length = (rangeF P k).length + if P k = true then 1 else 0 := by
 rw [rangeF_succ, List.length_append]
 split <;> rfl
theorem rangeF_len0 {P : Nat → Bool} {n : Nat} : (rangeF P n).length = 0 ↔ ∀ k, k < n → P k = false := by
 induction n with
 | zero => simp [rangeF]
 | succ n ih =>
  rw [rangeF_len_succ]
  constructor
  ·intro h k hk
   by_cases hp : P n = true
   ·rw [if_pos hp] at h; omega
   ·by_cases hkn : k = n
    ·subst hkn; simpa using hp
    ·exact ih.1 (by omega) k (by omega)
  ·intro h
   rw [ih.2 fun k hk => h k (by omega), h n (by omega)]
   rfl
theorem rangeF_len1 {P : Nat → Bool} {n : Nat} : (rangeF P n).length = 1 ↔ (∃ k, k < n ∧ P k = true) ∧ ∀ i j, i < j → j < n → P i = true → P j = true → False := by
 induction n with
 | zero => simp [rangeF]
 | succ n ih =>
  rw [rangeF_len_succ]
  constructor
  ·intro h
   by_cases hp : P n = true
   ·rw [if_pos hp] at h
    have h0 := rangeF_len0.1 (show (rangeF P n).length = 0 by omega)
    refine ⟨⟨n, by omega, hp⟩, fun i j hij hj hi _ => ?_⟩
    rw [h0 i (by omega)] at hi
    cases hi
   ·rw [if_neg hp] at h
    obtain ⟨⟨k, hk, hpk⟩, hu⟩ := ih.1 (by omega)
    refine ⟨⟨k, by omega, hpk⟩, fun i j hij hj hi hpj => ?_⟩
    by_cases hjn : j = n
    ·subst hjn; exact hp hpj
    ·exact hu i j hij (by omega) hi hpj
  ·rintro ⟨⟨k, hk, hpk⟩, hu⟩
   by_cases hp : P n = true
   ·rw [if_pos hp, rangeF_len0.2 fun i hi => by
     cases hpi : P i with
     | false => rfl
     | true => exact (hu i n hi (by omega) hpi hp).elim]
   ·rw [if_neg hp]
    have hkn : k ≠ n := fun e => hp (e ▸ hpk)
    exact ih.2 ⟨⟨k, by omega, hpk⟩, fun i j hij hj => hu i j hij (by omega)⟩
theorem findP2 {b : Board} {j k : Nat} : findP b 2 (j : Int) k = true ↔ isS (gt b.Breakers k) j := by
 unfold findP isS
 by_cases h1 : (gt b.Breakers k).Kind = 2 <;> by_cases h2 : (gt b.Breakers k).B = (j : Int) <;> simp [h1, h2]
theorem findP3 {b : Board} {j k : Nat} : findP b 3 (j : Int) k = true ↔ isC (gt b.Breakers k) j := by
 unfold findP isC
 by_cases h1 : (gt b.Breakers k).Kind = 3 <;> by_cases h2 : (gt b.Breakers k).B = (j : Int) <;> simp [h1, h2]
def RefAt (b : Board) (k : Nat) : Prop :=
 (0 ≤ (gt b.Breakers k).A ∧ (gt b.Breakers k).A ≤ b.Buses - 1) ∧
 (((gt b.Breakers k).Kind = 1 ∧ (gt b.Breakers k).A + 1 ≤ (gt b.Breakers k).B ∧ (gt b.Breakers k).B ≤ b.Buses - 1) ∨
  ((gt b.Breakers k).Kind = 2 ∧ (0 ≤ (gt b.Breakers k).B ∧ (gt b.Breakers k).B ≤ (b.Sources.length : Int) - 1)) ∨
  ((gt b.Breakers k).Kind = 3 ∧ (0 ≤ (gt b.Breakers k).B ∧ (gt b.Breakers k).B ≤ (b.Consumers.length : Int) - 1) ∧ ∀ i, i < k → ¬ ((gt b.Breakers i).Kind = (gt b.Breakers k).Kind ∧ (gt b.Breakers i).A = (gt b.Breakers k).A ∧ (gt b.Breakers i).B = (gt b.Breakers k).B)))
theorem refBrk_iff {b : Board} : BrkOk b ↔ (∀ k, k < b.Breakers.length → RefAt b k) ∧ (∀ j, j < b.Sources.length → (rangeF (findP b 2 (j : Int)) b.Breakers.length).length = 1) ∧ ∀ j, j < b.Consumers.length → (rangeF (findP b 3 (j : Int)) b.Breakers.length).length ≠ 0 := by
 constructor
 ·rintro ⟨h1, h2, h3⟩
  refine ⟨fun k hk => ?_, fun j hj => rangeF_len1.2 ⟨?_, fun i k hik hk hi hp => ?_⟩, fun j hj h0 => ?_⟩
  ·obtain ⟨hA, hB⟩ := h1 k hk
   refine ⟨hA, ?_⟩
   rcases hB with h | ⟨h4, h5, _⟩ | ⟨h4, h5, h6⟩
   ·exact .inl h
   ·exact .inr (.inl ⟨h4, h5⟩)
   ·exact .inr (.inr ⟨h4, h5, fun i hi hh => h6 i hi ⟨by rw [hh.1]; exact h4, hh.2.2, hh.2.1⟩⟩)
  ·obtain ⟨k, hk, hs⟩ := h2 j hj
   exact ⟨k, hk, findP2.2 hs⟩
  ·have hi' := findP2.1 hi
   have hp' := findP2.1 hp
   rcases (h1 k hk).2 with h | ⟨h4, h5, h6⟩ | ⟨h4, _⟩
   ·have := h.1; have := hp'.1; omega
   ·exact h6 i hik ⟨hi'.1, by rw [hi'.2, hp'.2]⟩
   ·have := hp'.1; omega
  ·obtain ⟨k, hk, hs⟩ := h3 j hj
   have := rangeF_len0.1 h0 k hk
   rw [findP3.2 hs] at this
   cases this
 ·rintro ⟨h1, h2, h3⟩
  refine ⟨fun k hk => ?_, fun j hj => ?_, fun j hj => ?_⟩
  ·obtain ⟨hA, hB⟩ := h1 k hk
   refine ⟨hA, ?_⟩
   rcases hB with h | ⟨h4, h5⟩ | ⟨h4, h5, h6⟩
   ·exact .inl h
   ·refine .inr (.inl ⟨h4, h5, fun i hi hh => ?_⟩)
    have hj : (gt b.Breakers k).B = ((gt b.Breakers k).B.toNat : Int) := by omega
    obtain ⟨_, hu⟩ := rangeF_len1.1 (h2 (gt b.Breakers k).B.toNat (by omega))
    exact hu i k hi hk (findP2.2 ⟨hh.1, by rw [hh.2]; exact hj⟩) (findP2.2 ⟨h4, hj⟩)
   ·exact .inr (.inr ⟨h4, h5, fun i hi hh => h6 i hi ⟨by rw [hh.1, h4], hh.2.2, hh.2.1⟩⟩)
  ·obtain ⟨⟨k, hk, hp⟩, _⟩ := rangeF_len1.1 (h2 j hj)
   exact ⟨k, hk, findP2.1 hp⟩
  ·apply Classical.byContradiction
   intro hn
   refine h3 j hj (rangeF_len0.2 fun k hk => ?_)
   cases hp : findP b 3 (j : Int) k with
   | false => rfl
   | true => exact (hn ⟨k, hk, findP3.1 hp⟩).elim
theorem refbrk_eq {b : Board} (hl : Lim b) : dynposref15_breakers b = some (decide (BrkOk b)) := by
 have hb := hl.bus
 have hbr := hl.brk
 have hsr := hl.src
 have hco := hl.con
 have hsm : Sm b.Breakers := by unfold Sm; omega
 have eB : W (b.Buses - 1) = b.Buses - 1 := W_sm (by omega) (by omega)
 have eS : W (len b.Sources - 1) = (b.Sources.length : Int) - 1 := by unfold len; exact W_sm (by omega) (by omega)
 have eC : W (len b.Consumers - 1) = (b.Consumers.length : Int) - 1 := by unfold len; exact W_sm (by omega) (by omega)
 have hin : ∀ k, k < b.Breakers.length → loopO (dynposref15_breakers_L2 (gt b.Breakers k) (b.Breakers.take k)) 0 = some (if ∃ i, i < k ∧ ((gt b.Breakers i).Kind = (gt b.Breakers k).Kind ∧ (gt b.Breakers i).A = (gt b.Breakers k).A ∧ (gt b.Breakers i).B = (gt b.Breakers k).B) then .inr (.inr (.inr (.inr (.inr false)))) else .inl ()) := by
  intro k hk
  have hlen : (b.Breakers.take k).length = k := by simp; omega
  have hg : ∀ i, i < k → gt (b.Breakers.take k) i = gt b.Breakers i := fun i hi => by
   rw [gt_get (by omega), gt_get (by omega)]; simp
  refine Eq.trans (loop_any (step := dynposref15_breakers_L2 (gt b.Breakers k) (b.Breakers.take k)) (fun i => (i : Int)) k (fun i => (gt b.Breakers i).Kind = (gt b.Breakers k).Kind ∧ (gt b.Breakers i).A = (gt b.Breakers k).A ∧ (gt b.Breakers i).B = (gt b.Breakers k).B) (r := .inr (.inr (.inr (.inr (.inr false))))) (e := .inl ())
   (fun i hi hp => by
    have e : ((gt b.Breakers i).Kind == (gt b.Breakers k).Kind && ((gt b.Breakers i).A == (gt b.Breakers k).A && (gt b.Breakers i).B == (gt b.Breakers k).B)) = false := by
     by_cases h1 : (gt b.Breakers i).Kind = (gt b.Breakers k).Kind
     ·by_cases h2 : (gt b.Breakers i).A = (gt b.Breakers k).A
      ·rw [beqT h1, beqT h2, beqF (fun h3 => hp ⟨h1, h2, h3⟩)]; rfl
      ·rw [beqT h1, beqF h2]; rfl
     ·rw [beqF h1]; rfl
    simp only [dynposref15_breakers_L2, lt_len (show i < (b.Breakers.take k).length by omega), if_true, idx_gt (show i < (b.Breakers.take k).length by omega), hg i hi, Option.bind_some, e, Bool.false_eq_true, if_false, W_succ (show i < 1000000000000000000 by omega)])
   (fun i hi hp => by
    simp only [dynposref15_breakers_L2, lt_len (show i < (b.Breakers.take k).length by omega), if_true, idx_gt (show i < (b.Breakers.take k).length by omega), hg i hi, Option.bind_some, beqT hp.1, beqT hp.2.1, beqT hp.2.2, Bool.and_self])
   (by
    have e1 : decide ((k : Int) < len (b.Breakers.take k)) = false := dF (by unfold len; omega)
    simp only [dynposref15_breakers_L2, e1, Bool.false_eq_true, if_false])) (by congr)
 have l1 : loopO (dynposref15_breakers_L1 b) 0 = some (if ∃ k, k < b.Breakers.length ∧ ¬ RefAt b k then .inr false else .inl ()) := by
  refine Eq.trans (loop_any (r := .inr false) (e := .inl ()) (step := dynposref15_breakers_L1 b) (fun k => (k : Int)) b.Breakers.length (fun k => ¬ RefAt b k) (fun k hk hp => ?_) (fun k hk hp => ?_) (by simp only [dynposref15_breakers_L1, nlt_len, Bool.false_eq_true, if_false])) (by congr)
  ·obtain ⟨hA, hB⟩ := Classical.not_not.1 hp
   have eA1 : W ((gt b.Breakers k).A + 1) = (gt b.Breakers k).A + 1 := W_sm (by omega) (by omega)
   simp only [dynposref15_breakers_L1, lt_len hk, if_true, idx_gt hk, Option.bind_some, within_eq, eB, eS, eC, eA1, dT hA, Bool.not_true, Bool.false_eq_true, if_false]
   rcases hB with ⟨h1, h2⟩ | ⟨h1, h2⟩ | ⟨h1, h2, h3⟩
   ·simp only [beqT h1, if_true, dT h2, Bool.not_true, Bool.false_eq_true, if_false, Option.bind_some, Sum.elim_inl, W_succ (show k < 1000000000000000000 by omega)]
   ·simp only [beqF (show (gt b.Breakers k).Kind ≠ 1 by omega), beqT h1, if_true, dT h2, Bool.not_true, Bool.false_eq_true, if_false, Option.bind_some, Sum.elim_inl, W_succ (show k < 1000000000000000000 by omega)]
   ·have hno : ¬ ∃ i, i < k ∧ ((gt b.Breakers i).Kind = (gt b.Breakers k).Kind ∧ (gt b.Breakers i).A = (gt b.Breakers k).A ∧ (gt b.Breakers i).B = (gt b.Breakers k).B) := fun ⟨i, hi, hh⟩ => h3 i hi hh
    simp only [beqF (show (gt b.Breakers k).Kind ≠ 1 by omega), beqF (show (gt b.Breakers k).Kind ≠ 2 by omega), beqT h1, if_true, dT h2, Bool.not_true, Bool.false_eq_true, if_false, slc_take (show k ≤ b.Breakers.length by omega), Option.bind_some, hin k hk, if_neg hno, Sum.elim_inl, W_succ (show k < 1000000000000000000 by omega)]
  ·by_cases hA : 0 ≤ (gt b.Breakers k).A ∧ (gt b.Breakers k).A ≤ b.Buses - 1
   case neg => simp only [dynposref15_breakers_L1, lt_len hk, if_true, idx_gt hk, Option.bind_some, within_eq, eB, dF hA, Bool.not_false]
   have eA1 : W ((gt b.Breakers k).A + 1) = (gt b.Breakers k).A + 1 := W_sm (by omega) (by omega)
   simp only [dynposref15_breakers_L1, lt_len hk, if_true, idx_gt hk, Option.bind_some, within_eq, eB, eS, eC, eA1, dT hA, Bool.not_true, Bool.false_eq_true, if_false]
   by_cases h1 : (gt b.Breakers k).Kind = 1
   ·have h2 : ¬ ((gt b.Breakers k).A + 1 ≤ (gt b.Breakers k).B ∧ (gt b.Breakers k).B ≤ b.Buses - 1) := fun h => hp ⟨hA, .inl ⟨h1, h⟩⟩
    simp only [beqT h1, if_true, dF h2, Bool.not_false, Option.bind_some, Sum.elim_inr]
   by_cases h2 : (gt b.Breakers k).Kind = 2
   ·have h3 : ¬ (0 ≤ (gt b.Breakers k).B ∧ (gt b.Breakers k).B ≤ (b.Sources.length : Int) - 1) := fun h => hp ⟨hA, .inr (.inl ⟨h2, h⟩)⟩
    simp only [beqF h1, beqT h2, if_true, dF h3, Bool.not_false, Bool.false_eq_true, if_false, Option.bind_some, Sum.elim_inr]
   by_cases h3 : (gt b.Breakers k).Kind = 3
   case neg => simp only [beqF h1, beqF h2, beqF h3, Bool.false_eq_true, if_false, Option.bind_some, Sum.elim_inr]
   by_cases h4 : 0 ≤ (gt b.Breakers k).B ∧ (gt b.Breakers k).B ≤ (b.Consumers.length : Int) - 1
   case neg => simp only [beqF h1, beqF h2, beqT h3, if_true, dF h4, Bool.not_false, Bool.false_eq_true, if_false, Option.bind_some, Sum.elim_inr]
   have hyes : ∃ i, i < k ∧ ((gt b.Breakers i).Kind = (gt b.Breakers k).Kind ∧ (gt b.Breakers i).A = (gt b.Breakers k).A ∧ (gt b.Breakers i).B = (gt b.Breakers k).B) := by
    apply Classical.byContradiction
    intro hn
    exact hp ⟨hA, .inr (.inr ⟨h3, h4, fun i hi hh => hn ⟨i, hi, hh⟩⟩)⟩
   simp only [beqF h1, beqF h2, beqT h3, if_true, dT h4, Bool.not_true, Bool.false_eq_true, if_false, slc_take (show k ≤ b.Breakers.length by omega), Option.bind_some, hin k hk, if_pos hyes, Sum.elim_inr]
 have l3 : loopO (dynposref15_breakers_L3 b) 0 = some (if ∃ j, j < b.Sources.length ∧ ¬ (rangeF (findP b 2 (j : Int)) b.Breakers.length).length = 1 then .inr false else .inl ()) := by
  refine Eq.trans (loop_any (r := .inr false) (e := .inl ()) (step := dynposref15_breakers_L3 b) (fun k => (k : Int)) b.Sources.length (fun j => ¬ (rangeF (findP b 2 (j : Int)) b.Breakers.length).length = 1) (fun j hj hp => ?_) (fun j hj hp => ?_) (by simp only [dynposref15_breakers_L3, nlt_len, Bool.false_eq_true, if_false])) (by congr)
  ·have e : (len (rangeF (findP b 2 (j : Int)) b.Breakers.length) != 1) = false := by have := Classical.not_not.1 hp; simp [len, this]
   simp only [dynposref15_breakers_L3, lt_len hj, if_true, refof_eq hsm, Option.bind_some, e, Bool.false_eq_true, if_false, W_succ (show j < 1000000000000000000 by omega)]
  ·have e : (len (rangeF (findP b 2 (j : Int)) b.Breakers.length) != 1) = true := by simp [len]; omega
   simp only [dynposref15_breakers_L3, lt_len hj, if_true, refof_eq hsm, Option.bind_some, e]
 have l4 : loopO (dynposref15_breakers_L4 b) 0 = some (if ∃ j, j < b.Consumers.length ∧ (rangeF (findP b 3 (j : Int)) b.Breakers.length).length = 0 then .inr false else .inl ()) := by
  refine Eq.trans (loop_any (r := .inr false) (e := .inl ()) (step := dynposref15_breakers_L4 b) (fun k => (k : Int)) b.Consumers.length (fun j => (rangeF (findP b 3 (j : Int)) b.Breakers.length).length = 0) (fun j hj hp => ?_) (fun j hj hp => ?_) (by simp only [dynposref15_breakers_L4, nlt_len, Bool.false_eq_true, if_false])) (by congr)
  ·have e : decide (len (rangeF (findP b 3 (j : Int)) b.Breakers.length) < 1) = false := dF (by unfold len; omega)
   simp only [dynposref15_breakers_L4, lt_len hj, if_true, refof_eq hsm, Option.bind_some, e, Bool.false_eq_true, if_false, W_succ (show j < 1000000000000000000 by omega)]
  ·have e : decide (len (rangeF (findP b 3 (j : Int)) b.Breakers.length) < 1) = true := dT (by unfold len; omega)
   simp only [dynposref15_breakers_L4, lt_len hj, if_true, refof_eq hsm, Option.bind_some, e]
 unfold dynposref15_breakers
 rw [l1, Option.bind_some]
 by_cases g1 : ∃ k, k < b.Breakers.length ∧ ¬ RefAt b k
 ·rw [if_pos g1, dF (fun h : BrkOk b => by obtain ⟨k, hk, hn⟩ := g1; exact hn ((refBrk_iff.1 h).1 k hk))]
  rfl
 rw [if_neg g1, Sum.elim_inl, l3, Option.bind_some]
 by_cases g2 : ∃ j, j < b.Sources.length ∧ ¬ (rangeF (findP b 2 (j : Int)) b.Breakers.length).length = 1
 ·rw [if_pos g2, dF (fun h : BrkOk b => by obtain ⟨k, hk, hn⟩ := g2; exact hn ((refBrk_iff.1 h).2.1 k hk))]
  rfl
 rw [if_neg g2, Sum.elim_inl, l4, Option.bind_some]
 by_cases g3 : ∃ j, j < b.Consumers.length ∧ (rangeF (findP b 3 (j : Int)) b.Breakers.length).length = 0
 ·rw [if_pos g3, dF (fun h : BrkOk b => by obtain ⟨k, hk, hn⟩ := g3; exact (refBrk_iff.1 h).2.2 k hk hn)]
  rfl
 rw [if_neg g3, dT (refBrk_iff.2 ⟨fun k hk => Classical.byContradiction fun h => g1 ⟨k, hk, h⟩, fun k hk => Classical.byContradiction fun h => g2 ⟨k, hk, h⟩, fun k hk h => g3 ⟨k, hk, h⟩⟩)]
 rfl
end Rx
namespace Rx
open Classical
theorem refsrc_eq {b : Board} (hl : Lim b) : dynposref15_sources b = some (decide (∀ k, k < b.Sources.length → SrcOk (gt b.Sources k))) := by
 have hsr := hl.src
 have h : loopO (dynposref15_sources_L1 b) 0 = some (if ∃ k, k < b.Sources.length ∧ ¬ SrcOk (gt b.Sources k) then .inr false else .inl ()) := by
  refine Eq.trans (loop_any (r := .inr false) (e := .inl ()) (step := dynposref15_sources_L1 b) (fun k => (k : Int)) b.Sources.length (fun k => ¬ SrcOk (gt b.Sources k)) (fun k hk hp => ?_) (fun k hk hp => ?_) (by simp only [dynposref15_sources_L1, nlt_len, Bool.false_eq_true, if_false])) (by congr)
  ·obtain ⟨h1, h2, h3⟩ := Classical.not_not.1 hp
   simp only [dynposref15_sources_L1, lt_len hk, if_true, idx_gt hk, Option.bind_some, within_eq, dT h1, dT h2, dT h3, Bool.not_true, Bool.false_eq_true, if_false, W_succ (show k < 1000000000000000000 by omega)]
  ·simp only [dynposref15_sources_L1, lt_len hk, if_true, idx_gt hk, Option.bind_some, within_eq]
   by_cases h1 : 1 ≤ (gt b.Sources k).Rating ∧ (gt b.Sources k).Rating ≤ 50000
   case neg => simp [h1]
   by_cases h2 : 0 ≤ (gt b.Sources k).Least ∧ (gt b.Sources k).Least ≤ (gt b.Sources k).Rating
   case neg => simp [h1, h2]
   have h3 : ¬ (0 ≤ (gt b.Sources k).Start ∧ (gt b.Sources k).Start ≤ 600) := fun h => hp ⟨h1, h2, h⟩
   simp [h1, h2, h3]
 unfold dynposref15_sources
 rw [h, Option.bind_some]
 by_cases g : ∃ k, k < b.Sources.length ∧ ¬ SrcOk (gt b.Sources k)
 ·rw [if_pos g, dF (c := ∀ k, k < b.Sources.length → SrcOk (gt b.Sources k)) (fun h => by obtain ⟨k, hk, hn⟩ := g; exact hn (h k hk))]; rfl
 ·rw [if_neg g, dT (c := ∀ k, k < b.Sources.length → SrcOk (gt b.Sources k)) (fun k hk => Classical.byContradiction fun h => g ⟨k, hk, h⟩)]; rfl
theorem refcon_eq {b : Board} (hl : Lim b) (hs : SmB b) : dynposref15_consumers b = some (decide (∀ k, k < b.Consumers.length → CsOk (gt b.Consumers k) k)) := by
 have hco := hl.con
 have hin : ∀ k, k < b.Consumers.length → loopO (dynposref15_consumers_L2 (k : Int) (gt b.Consumers k)) 0 = some (if ∃ i, i < (gt b.Consumers k).Needs.length ∧ ¬ ((0 ≤ gt (gt b.Consumers k).Needs i ∧ gt (gt b.Consumers k).Needs i ≤ (k : Int) - 1) ∧ (0 < i → gt (gt b.Consumers k).Needs (i - 1) < gt (gt b.Consumers k).Needs i)) then .inr (.inr (.inr false)) else .inl ()) := by
  intro k hk
  generalize hx : gt b.Consumers k = x
  have hl : Sm x.Needs := hx ▸ hs.2.2.2 _ (gt_mem hk)
  have e0 : W ((k : Int) - 1) = (k : Int) - 1 := W_sm (by omega) (by omega)
  refine Eq.trans (loop_any (step := dynposref15_consumers_L2 (k : Int) x) (fun i => (i : Int)) x.Needs.length (fun i => ¬ ((0 ≤ gt x.Needs i ∧ gt x.Needs i ≤ (k : Int) - 1) ∧ (0 < i → gt x.Needs (i - 1) < gt x.Needs i))) (r := .inr (.inr (.inr false))) (e := .inl ()) (fun i hi hp => ?_) (fun i hi hp => ?_) (by simp only [dynposref15_consumers_L2, nlt_len, Bool.false_eq_true, if_false])) (by congr)
  ·obtain ⟨h1, h2⟩ := Classical.not_not.1 hp
   simp only [dynposref15_consumers_L2, lt_len hi, if_true, idx_gt hi, Option.bind_some, within_eq, e0, dT h1, Bool.not_true, Bool.false_eq_true, if_false]
   by_cases hi0 : 0 < i
   ·have h3 := h2 hi0
    rw [dT (c := (i : Int) > 0) (by omega)]
    simp only [if_true, W_pred (sm_lt hl hi) hi0, idx_gt (show i - 1 < x.Needs.length by omega), Option.bind_some, dF (c := gt x.Needs (i - 1) ≥ gt x.Needs i) (by omega), Bool.false_eq_true, if_false, W_succ (sm_lt hl hi)]
   ·rw [dF (c := (i : Int) > 0) (by omega)]
    simp only [Bool.false_eq_true, if_false, Option.bind_some, W_succ (sm_lt hl hi)]
  ·simp only [dynposref15_consumers_L2, lt_len hi, if_true, idx_gt hi, Option.bind_some, within_eq, e0]
   by_cases h1 : 0 ≤ gt x.Needs i ∧ gt x.Needs i ≤ (k : Int) - 1
   ·have h2 : 0 < i ∧ gt x.Needs i ≤ gt x.Needs (i - 1) := by
     by_cases hi0 : 0 < i
     ·refine ⟨hi0, Int.not_lt.1 fun h => hp ⟨h1, fun _ => h⟩⟩
     ·exact (hp ⟨h1, fun h => (hi0 h).elim⟩).elim
    rw [dT h1, dT (c := (i : Int) > 0) (by omega)]
    simp only [Bool.not_true, Bool.false_eq_true, if_false, if_true, W_pred (sm_lt hl hi) h2.1, idx_gt (show i - 1 < x.Needs.length by omega), Option.bind_some, dT (c := gt x.Needs (i - 1) ≥ gt x.Needs i) (by omega)]
   ·rw [dF h1]
    simp only [Bool.not_false, if_true, Option.bind_some]
 have hst : ∀ x : Consumer, (Option.bind (some (decide (0 ≤ x.Load ∧ x.Load ≤ 50000))) fun x3 => if (!x3) = true then some true else Option.bind (some (decide (0 ≤ x.Least ∧ x.Least ≤ x.Load))) fun x4 => if (!x4) = true then some true else Option.bind (some (decide (0 ≤ x.Preference ∧ x.Preference ≤ 15))) fun x5 => if (!x5) = true then some true else Option.bind (some (decide (-1 ≤ x.Thruster ∧ x.Thruster ≤ 7))) fun x6 => if (!x6) = true then some true else some (decide (len x.Needs > 4))) = some (decide (¬ ((0 ≤ x.Load ∧ x.Load ≤ 50000) ∧ (0 ≤ x.Least ∧ x.Least ≤ x.Load) ∧ (0 ≤ x.Preference ∧ x.Preference ≤ 15) ∧ (-1 ≤ x.Thruster ∧ x.Thruster ≤ 7) ∧ x.Needs.length ≤ 4))) := by
  intro x
  have e5 : decide (len x.Needs > 4) = decide (¬ x.Needs.length ≤ 4) := by rw [decide_eq_decide]; unfold len; omega
  rw [e5]
  simp only [Option.bind_some]
  by_cases h1 : 0 ≤ x.Load ∧ x.Load ≤ 50000
  case neg => rw [dF h1, dT (c := ¬ (_ ∧ _)) (fun h => h1 h.1)]; rfl
  by_cases h2 : 0 ≤ x.Least ∧ x.Least ≤ x.Load
  case neg => rw [dT h1, dF h2, dT (c := ¬ (_ ∧ _)) (fun h => h2 h.2.1)]; rfl
  by_cases h3 : 0 ≤ x.Preference ∧ x.Preference ≤ 15
  case neg => rw [dT h1, dT h2, dF h3, dT (c := ¬ (_ ∧ _)) (fun h => h3 h.2.2.1)]; rfl
  by_cases h4 : -1 ≤ x.Thruster ∧ x.Thruster ≤ 7
  case neg => rw [dT h1, dT h2, dT h3, dF h4, dT (c := ¬ (_ ∧ _)) (fun h => h4 h.2.2.2.1)]; rfl
  rw [dT h1, dT h2, dT h3, dT h4]
  by_cases h5 : x.Needs.length ≤ 4
  ·rw [dF (c := ¬ x.Needs.length ≤ 4) (fun h => h h5), dF (c := ¬ (_ ∧ _)) (fun h => h ⟨h1, h2, h3, h4, h5⟩)]; rfl
  ·rw [dT (c := ¬ x.Needs.length ≤ 4) h5, dT (c := ¬ (_ ∧ _)) (fun h => h5 h.2.2.2.2)]; rfl
 have hiff : ∀ k, NeedsOk (gt b.Consumers k).Needs k ↔ ¬ ∃ i, i < (gt b.Consumers k).Needs.length ∧ ¬ ((0 ≤ gt (gt b.Consumers k).Needs i ∧ gt (gt b.Consumers k).Needs i ≤ (k : Int) - 1) ∧ (0 < i → gt (gt b.Consumers k).Needs (i - 1) < gt (gt b.Consumers k).Needs i)) :=
  fun k => ⟨fun h ⟨i, hi, hn⟩ => hn (h i hi), fun h i hi => Classical.byContradiction fun hn => h ⟨i, hi, hn⟩⟩
 have h : loopO (dynposref15_consumers_L1 b) 0 = some (if ∃ k, k < b.Consumers.length ∧ ¬ CsOk (gt b.Consumers k) k then .inr false else .inl ()) := by
  refine Eq.trans (loop_any (r := .inr false) (e := .inl ()) (step := dynposref15_consumers_L1 b) (fun k => (k : Int)) b.Consumers.length (fun k => ¬ CsOk (gt b.Consumers k) k) (fun k hk hp => ?_) (fun k hk hp => ?_) (by simp only [dynposref15_consumers_L1, nlt_len, Bool.false_eq_true, if_false])) (by congr)
  ·obtain ⟨h1, h2⟩ := Classical.not_not.1 hp
   simp only [dynposref15_consumers_L1, lt_len hk, if_true, idx_gt hk, Option.bind_some, within_eq]
   have := hst (gt b.Consumers k)
   simp only [Option.bind_some] at this
   rw [this, dF (c := ¬ (_ ∧ _)) (fun h => h h2)]
   simp only [Option.bind_some, Bool.false_eq_true, if_false]
   rw [hin k hk, if_neg ((hiff k).1 h1)]
   simp only [Option.bind_some, Sum.elim_inl, W_succ (show k < 1000000000000000000 by omega)]
  ·simp only [dynposref15_consumers_L1, lt_len hk, if_true, idx_gt hk, Option.bind_some, within_eq]
   have := hst (gt b.Consumers k)
   simp only [Option.bind_some] at this
   rw [this]
   by_cases h2 : (0 ≤ (gt b.Consumers k).Load ∧ (gt b.Consumers k).Load ≤ 50000) ∧ (0 ≤ (gt b.Consumers k).Least ∧ (gt b.Consumers k).Least ≤ (gt b.Consumers k).Load) ∧ (0 ≤ (gt b.Consumers k).Preference ∧ (gt b.Consumers k).Preference ≤ 15) ∧ (-1 ≤ (gt b.Consumers k).Thruster ∧ (gt b.Consumers k).Thruster ≤ 7) ∧ (gt b.Consumers k).Needs.length ≤ 4
   ·rw [dF (c := ¬ (_ ∧ _)) (fun h => h h2)]
    simp only [Option.bind_some, Bool.false_eq_true, if_false]
    rw [hin k hk, if_pos (Classical.byContradiction fun hn => hp ⟨(hiff k).2 hn, h2⟩)]
    rfl
   ·rw [dT (c := ¬ (_ ∧ _)) h2]
    rfl
 unfold dynposref15_consumers
 rw [h, Option.bind_some]
 by_cases g : ∃ k, k < b.Consumers.length ∧ ¬ CsOk (gt b.Consumers k) k
 ·rw [if_pos g, dF (c := ∀ k, k < b.Consumers.length → CsOk (gt b.Consumers k) k) (fun h => by obtain ⟨k, hk, hn⟩ := g; exact hn (h k hk))]; rfl
 ·rw [if_neg g, dT (c := ∀ k, k < b.Consumers.length → CsOk (gt b.Consumers k) k) (fun k hk => Classical.byContradiction fun h => g ⟨k, hk, h⟩)]; rfl
theorem refcheck_eq {b : Board} (hs : SmB b) : dynposref15_Check b = some (chk b) := by
 unfold dynposref15_Check chk
 by_cases h1 : 1 ≤ b.Buses ∧ b.Buses ≤ 6
 case neg =>
  have hn : ¬ Lim b := fun h => h1 h.bus
  by_cases h1a : b.Buses < 1
  ·simp [h1a, hn]
  ·have h1b : b.Buses > 6 := by omega
   simp [h1a, h1b, hn]
 have a1 : decide (b.Buses < 1) = false := dF (by omega)
 have a2 : decide (b.Buses > 6) = false := dF (by omega)
 by_cases h2 : b.Breakers.length ≤ 24
 case neg =>
  have : ¬ Lim b := fun h => h2 h.brk
  have e : decide (len b.Breakers > 24) = true := dT (by unfold len; omega)
  simp [a1, a2, this, e]
 have a3 : decide (len b.Breakers > 24) = false := dF (by unfold len; omega)
 by_cases h3 : b.Sources.length ≤ 8
 case neg =>
  have : ¬ Lim b := fun h => h3 h.src
  have e : decide (len b.Sources > 8) = true := dT (by unfold len; omega)
  simp [a1, a2, a3, this, e]
 have a4 : decide (len b.Sources > 8) = false := dF (by unfold len; omega)
 by_cases h4 : b.Consumers.length ≤ 16
 case neg =>
  have : ¬ Lim b := fun h => h4 h.con
  have e : decide (len b.Consumers > 16) = true := dT (by unfold len; omega)
  simp [a1, a2, a3, a4, this, e]
 have a5 : decide (len b.Consumers > 16) = false := dF (by unfold len; omega)
 have hl : Lim b := ⟨h1, h2, h3, h4⟩
 simp only [a1, a2, a3, a4, a5, Bool.false_eq_true, if_false, Option.bind_some, refbrk_eq hl, refsrc_eq hl, refcon_eq hl hs, if_pos hl]
 by_cases g1 : BrkOk b
 case neg => rw [dF g1, if_neg (fun h : BGood b => g1 h.1)]; rfl
 by_cases g2 : ∀ k, k < b.Sources.length → SrcOk (gt b.Sources k)
 case neg => rw [dT g1, dF g2, if_neg (fun h : BGood b => g2 h.2.2.2.1)]; rfl
 by_cases g3 : ∀ k, k < b.Consumers.length → CsOk (gt b.Consumers k) k
 case neg => rw [dT g1, dT g2, dF g3, if_neg (fun h : BGood b => g3 h.2.2.2.2)]; rfl
 rw [dT g1, dT g2, dT g3]
 simp only [Bool.not_true, Bool.false_eq_true, if_false]
 by_cases g4 : b.Phase < 0
 ·rw [dT g4, if_neg (fun h : BGood b => by have := h.2.1; omega)]; rfl
 by_cases g5 : b.Phase > 1800
 ·rw [dF g4, dT g5, if_neg (fun h : BGood b => by have := h.2.1; omega)]; rfl
 by_cases g6 : b.Frequency < 0
 ·rw [dF g4, dF g5, dT g6, if_neg (fun h : BGood b => by have := h.2.2.1; omega)]; rfl
 by_cases g7 : b.Frequency > 6000
 ·rw [dF g4, dF g5, dF g6, dT g7, if_neg (fun h : BGood b => by have := h.2.2.1; omega)]; rfl
 rw [dF g4, dF g5, dF g6, dF g7, if_pos (show BGood b from ⟨g1, by omega, by omega, g2, g3⟩)]
 rfl
end Rx
namespace Rx
open Classical
theorem refbefore_eq (x y : Part) : dynposref15_Before x y = some (decide (before x y)) := by
 unfold dynposref15_Before before
 by_cases h1 : x.Kind < y.Kind
 ·simp [h1]
 ·by_cases h2 : x.Kind = y.Kind
  ·by_cases h3 : x.Number < y.Number <;> simp [h1, h2, h3]
  ·simp [h1, h2]
def cntL (p : Power) (l : List Int) : Nat := (l.filter fun k => gt p.Closed k.toNat).length
theorem cntL_app (p : Power) (l m : List Int) : cntL p (l ++ m) = cntL p l + cntL p m := by unfold cntL; rw [List.filter_append, List.length_append]
theorem cntL_le (p : Power) (l : List Int) : cntL p l ≤ l.length := List.length_filter_le _ _
theorem cntL_clo (b : Board) (p : Power) (j : Nat) (n : Nat) : cntL p (rangeF (findP b 3 (j : Int)) n) = clo b p (j : Int) n := by
 induction n with
 | zero => rfl
 | succ n ih =>
  rw [rangeF_succ, cntL_app, ih]
  show clo b p (j : Int) n + _ = clo b p (j : Int) n + _
  congr 1
  by_cases h : findP b 3 (j : Int) n = true
  ·obtain ⟨h1, h2⟩ := findP3.1 h
   rw [if_pos h]
   cases h3 : gt p.Closed n <;> simp [cntL, h1, h2, h3]
  ·rw [if_neg h, if_neg (fun hh => h (findP3.2 ⟨hh.1, hh.2.1⟩))]
   rfl
theorem refcnt_eq {b : Board} {p : Power} (hc : p.Closed.length = b.Breakers.length) (hs : Sm b.Breakers) (j : Nat) : loopO (dynposref15_State_L5 p (rangeF (findP b 3 (j : Int)) b.Breakers.length)) (0, 0) = some (clo b p (j : Int) b.Breakers.length : Int) := by
 generalize hl : rangeF (findP b 3 (j : Int)) b.Breakers.length = l
 have hll : l.length ≤ b.Breakers.length := hl ▸ rangeF_len _ _
 have hmem : ∀ k, k < l.length → ∃ i : Nat, gt l k = (i : Int) ∧ i < p.Closed.length := fun k hk => by
  have h1 : gt l k ∈ rangeF (findP b 3 (j : Int)) b.Breakers.length := by rw [hl]; exact gt_mem hk
  obtain ⟨i, hi, _, e⟩ := mem_rangeF.1 h1
  exact ⟨i, e, by omega⟩
 have hsm : Sm l := by unfold Sm at hs ⊢; omega
 have h := loop_run (step := dynposref15_State_L5 p l) (fun k => ((cntL p (l.take k) : Int), (k : Int))) l.length (r := (cntL p l : Int))
  (fun k hk => by
   obtain ⟨i, e, hi⟩ := hmem k hk
   have hle := cntL_le p (l.take k)
   have hle2 : (l.take k).length ≤ k := by simp; omega
   simp only [dynposref15_State_L5, lt_len hk, if_true, idx_gt hk, e, idx_gt hi, Option.bind_some, W_succ (sm_lt hsm hk), take_gt hk, cntL_app]
   cases h3 : gt p.Closed i with
   | true =>
    have : cntL p [(i : Int)] = 1 := by simp [cntL, h3]
    simp only [if_true, Option.bind_some, this]
    rw [W_succ (show cntL p (l.take k) < 1000000000000000000 by have := sm_lt hsm hk; omega)]
   | false =>
    have : cntL p [(i : Int)] = 0 := by simp [cntL, h3]
    simp only [Bool.false_eq_true, if_false, Option.bind_some, this, Nat.add_zero])
  (by simp only [dynposref15_State_L5, nlt_len, Bool.false_eq_true, if_false, List.take_length])
 have h' : loopO (dynposref15_State_L5 p l) (0, 0) = _ := h
 rw [h', ← hl, cntL_clo]
theorem refstate_eq {b : Board} {p : Power} (hb : SmB b) (hp : SmP p) : dynposref15_State b p = some (stt b p) := by
 unfold dynposref15_State stt
 rw [refcheck_eq hb]
 simp only [Option.bind_some]
 by_cases h0 : chk b = 0
 case neg => simp [h0]
 have hL := (chk_zero.1 h0).1
 have h3 := hL.con
 have e0 : (chk b != 0) = false := by simp [h0]
 simp only [e0, Bool.false_eq_true, if_false, if_pos h0]
 by_cases h1 : p.Closed.length = b.Breakers.length
 case neg =>
  have : ¬ Shape b p := fun h => h1 h.1
  have e : (len p.Closed != len b.Breakers) = true := by simp [len]; omega
  simp [e, this]
 by_cases h2 : p.Sources.length = b.Sources.length
 case neg =>
  have : ¬ Shape b p := fun h => h2 h.2.1
  have e1 : (len p.Closed != len b.Breakers) = false := by simp [len, h1]
  have e : (len p.Sources != len b.Sources) = true := by simp [len]; omega
  simp [e, e1, this]
 by_cases h4 : p.Limits.length = b.Consumers.length
 case neg =>
  have : ¬ Shape b p := fun h => h4 h.2.2
  have e1 : (len p.Closed != len b.Breakers) = false := by simp [len, h1]
  have e2 : (len p.Sources != len b.Sources) = false := by simp [len, h2]
  have e : (len p.Limits != len b.Consumers) = true := by simp [len]; omega
  simp [e, e1, e2, this]
 have hsh : Shape b p := ⟨h1, h2, h4⟩
 have e1 : (len p.Closed != len b.Breakers) = false := by simp [len, h1]
 have e2 : (len p.Sources != len b.Sources) = false := by simp [len, h2]
 have e3 : (len p.Limits != len b.Consumers) = false := by simp [len, h4]
 have l1 : loopO (dynposref15_State_L1 p) 0 = some (if ∃ k, k < p.Sources.length ∧ ¬ RunOk (gt p.Sources k) then .inr 11 else .inl ()) := by
  have hsm := hp.2.1
  refine Eq.trans (loop_any (r := .inr 11) (e := .inl ()) (step := dynposref15_State_L1 p) (fun k => (k : Int)) p.Sources.length (fun k => ¬ RunOk (gt p.Sources k)) (fun k hk hq => ?_) (fun k hk hq => ?_) (by simp only [dynposref15_State_L1, nlt_len, Bool.false_eq_true, if_false])) (by congr)
  ·obtain ⟨q1, q2, q3, q4⟩ := Classical.not_not.1 hq
   simp only [dynposref15_State_L1, lt_len hk, if_true, idx_gt hk, Option.bind_some, within_eq, dT q1, dT q2, dT q3, dT q4, Bool.not_true, Bool.false_eq_true, if_false, W_succ (sm_lt hsm hk)]
  ·simp only [dynposref15_State_L1, lt_len hk, if_true, idx_gt hk, Option.bind_some, within_eq]
   by_cases q1 : 0 ≤ (gt p.Sources k).State ∧ (gt p.Sources k).State ≤ 3
   case neg => simp [q1]
   by_cases q2 : 0 ≤ (gt p.Sources k).Since ∧ (gt p.Sources k).Since ≤ 2147483648
   case neg => simp [q1, q2]
   by_cases q3 : 0 ≤ (gt p.Sources k).Frequency ∧ (gt p.Sources k).Frequency ≤ 6000
   case neg => simp [q1, q2, q3]
   have q4 : ¬ (0 ≤ (gt p.Sources k).Phase ∧ (gt p.Sources k).Phase ≤ 3599) := fun h => hq ⟨q1, q2, q3, h⟩
   simp [q1, q2, q3, q4]
 have l2 : loopO (dynposref15_State_L2 b p) 0 = some (if ∃ k, k < p.Limits.length ∧ ¬ (0 ≤ gt p.Limits k ∧ gt p.Limits k ≤ (gt b.Consumers k).Load) then .inr 11 else .inl ()) := by
  have hsm := hp.2.2.1
  refine Eq.trans (loop_any (r := .inr 11) (e := .inl ()) (step := dynposref15_State_L2 b p) (fun k => (k : Int)) p.Limits.length (fun k => ¬ (0 ≤ gt p.Limits k ∧ gt p.Limits k ≤ (gt b.Consumers k).Load)) (fun k hk hq => ?_) (fun k hk hq => ?_) (by simp only [dynposref15_State_L2, nlt_len, Bool.false_eq_true, if_false])) (by congr)
  ·simp only [dynposref15_State_L2, lt_len hk, if_true, idx_gt hk, idx_gt (show k < b.Consumers.length by omega), Option.bind_some, within_eq, dT (Classical.not_not.1 hq), Bool.not_true, Bool.false_eq_true, if_false, W_succ (sm_lt hsm hk)]
  ·simp only [dynposref15_State_L2, lt_len hk, if_true, idx_gt hk, idx_gt (show k < b.Consumers.length by omega), Option.bind_some, within_eq, dF hq, Bool.not_false]
 have l3 : loopO (dynposref15_State_L3 b p) 0 = some (if ∃ k, k < p.Broken.length ∧ ¬ BrokenAt b p.Broken k then .inr 11 else .inl ()) := by
  have hsm := hp.2.2.2
  refine Eq.trans (loop_any (r := .inr 11) (e := .inl ()) (step := dynposref15_State_L3 b p) (fun k => (k : Int)) p.Broken.length (fun k => ¬ BrokenAt b p.Broken k) (fun k hk hq => ?_) (fun k hk hq => ?_) (by simp only [dynposref15_State_L3, nlt_len, Bool.false_eq_true, if_false])) (by congr)
  ·obtain ⟨q1, q2⟩ := Classical.not_not.1 hq
   simp only [dynposref15_State_L3, lt_len hk, if_true, idx_gt hk, Option.bind_some, exists_eq hL, dT q1, Bool.not_true, Bool.false_eq_true, if_false]
   by_cases hk0 : 0 < k
   ·rw [dT (c := (k : Int) > 0) (by omega)]
    simp only [if_true, W_pred (sm_lt hsm hk) hk0, idx_gt (show k - 1 < p.Broken.length by omega), Option.bind_some, refbefore_eq, dT (q2 hk0), Bool.not_true, Bool.false_eq_true, if_false, W_succ (sm_lt hsm hk)]
   ·rw [dF (c := (k : Int) > 0) (by omega)]
    simp only [Bool.false_eq_true, if_false, Option.bind_some, W_succ (sm_lt hsm hk)]
  ·simp only [dynposref15_State_L3, lt_len hk, if_true, idx_gt hk, Option.bind_some, exists_eq hL]
   by_cases q1 : 0 ≤ (gt p.Broken k).Number ∧ (gt p.Broken k).Number ≤ bsize b (gt p.Broken k).Kind - 1
   ·have q2 : 0 < k ∧ ¬ before (gt p.Broken (k - 1)) (gt p.Broken k) := by
     by_cases hk0 : 0 < k
     ·exact ⟨hk0, fun h => hq ⟨q1, fun _ => h⟩⟩
     ·exact (hq ⟨q1, fun h => (hk0 h).elim⟩).elim
    rw [dT q1, dT (c := (k : Int) > 0) (by omega)]
    simp only [Bool.not_true, Bool.false_eq_true, if_false, if_true, W_pred (sm_lt hsm hk) q2.1, idx_gt (show k - 1 < p.Broken.length by omega), Option.bind_some, refbefore_eq, dF q2.2, Bool.not_false]
   ·rw [dF q1]
    simp only [Bool.not_false, if_true, Option.bind_some]
 have l4 : loopO (dynposref15_State_L4 b p) 0 = some (if ∃ k, k < b.Consumers.length ∧ ¬ clo b p (k : Int) b.Breakers.length ≤ 1 then .inr 11 else .inl ()) := by
  refine Eq.trans (loop_any (r := .inr 11) (e := .inl ()) (step := dynposref15_State_L4 b p) (fun k => (k : Int)) b.Consumers.length (fun k => ¬ clo b p (k : Int) b.Breakers.length ≤ 1) (fun k hk hq => ?_) (fun k hk hq => ?_) (by simp only [dynposref15_State_L4, nlt_len, Bool.false_eq_true, if_false])) (by congr)
  ·simp only [dynposref15_State_L4, lt_len hk, if_true, refof_eq hb.1, Option.bind_some, refcnt_eq h1 hb.1, dF (c := (clo b p (k : Int) b.Breakers.length : Int) > 1) (by omega), Bool.false_eq_true, if_false, W_succ (show k < 1000000000000000000 by omega)]
  ·simp only [dynposref15_State_L4, lt_len hk, if_true, refof_eq hb.1, Option.bind_some, refcnt_eq h1 hb.1, dT (c := (clo b p (k : Int) b.Breakers.length : Int) > 1) (by omega)]
 simp only [e1, e2, e3, Bool.false_eq_true, if_false, Option.bind_some, if_pos hsh, l1, l2, l3, l4]
 by_cases g1 : ∃ k, k < p.Sources.length ∧ ¬ RunOk (gt p.Sources k)
 ·rw [if_pos g1, if_neg (fun h : PGood b p => by obtain ⟨k, hk, hn⟩ := g1; exact hn (h.2.1 k hk))]; rfl
 rw [if_neg g1, Sum.elim_inl]
 by_cases g2 : ∃ k, k < p.Limits.length ∧ ¬ (0 ≤ gt p.Limits k ∧ gt p.Limits k ≤ (gt b.Consumers k).Load)
 ·rw [if_pos g2, if_neg (fun h : PGood b p => by obtain ⟨k, hk, hn⟩ := g2; exact hn (h.2.2 k hk).1)]; rfl
 rw [if_neg g2, Sum.elim_inl]
 by_cases g3 : p.Broken.length ≤ 32
 case neg => rw [dT (c := len p.Broken > 32) (by unfold len; omega), if_neg (fun h : PGood b p => g3 h.1.2)]; rfl
 rw [dF (c := len p.Broken > 32) (by unfold len; omega)]
 simp only [Bool.false_eq_true, if_false]
 by_cases g4 : ∃ k, k < p.Broken.length ∧ ¬ BrokenAt b p.Broken k
 ·rw [if_pos g4, if_neg (fun h : PGood b p => by obtain ⟨k, hk, hn⟩ := g4; exact hn (h.1.1 k hk))]; rfl
 rw [if_neg g4, Sum.elim_inl]
 by_cases g5 : ∃ k, k < b.Consumers.length ∧ ¬ clo b p (k : Int) b.Breakers.length ≤ 1
 ·rw [if_pos g5, if_neg (fun h : PGood b p => by obtain ⟨k, hk, hn⟩ := g5; exact hn (h.2.2 k (by omega)).2)]; rfl
 rw [if_neg g5, Sum.elim_inl, if_pos (show PGood b p from ⟨⟨fun k hk => Classical.byContradiction fun h => g4 ⟨k, hk, h⟩, g3⟩, fun k hk => Classical.byContradiction fun h => g1 ⟨k, hk, h⟩, fun k hk => ⟨Classical.byContradiction fun h => g2 ⟨k, hk, h⟩, Classical.byContradiction fun h => g5 ⟨k, by omega, h⟩⟩⟩)]
end Rx
namespace Rx
open Classical
def mStep (b : Board) (p : Power) (m : List Bool) (k : Nat) : List Bool :=
 if (gt b.Breakers k).Kind = 1 ∧ gt p.Closed k = true ∧ (gt m (gt b.Breakers k).A.toNat = true ∨ gt m (gt b.Breakers k).B.toNat = true) then (m.set (gt b.Breakers k).A.toNat true).set (gt b.Breakers k).B.toNat true else m
def mRun (b : Board) (p : Power) (m : List Bool) : Nat → List Bool
 | 0 => m
 | k + 1 => mStep b p (mRun b p m k) k
def mRounds (b : Board) (p : Power) (m : List Bool) : Nat → List Bool
 | 0 => m
 | r + 1 => mRun b p (mRounds b p m r) b.Breakers.length
theorem mStep_len (b : Board) (p : Power) (m : List Bool) (k : Nat) : (mStep b p m k).length = m.length := by unfold mStep; split <;> simp
theorem mRun_len (b : Board) (p : Power) (m : List Bool) (k : Nat) : (mRun b p m k).length = m.length := by
 induction k with
 | zero => rfl
 | succ k ih => unfold mRun; rw [mStep_len, ih]
theorem mRounds_len (b : Board) (p : Power) (m : List Bool) (r : Nat) : (mRounds b p m r).length = m.length := by
 induction r with
 | zero => rfl
 | succ r ih => unfold mRounds; rw [mRun_len, ih]
section
variable {b : Board} {p : Power}
theorem mStep_gt (hb : BrkOk b) {m : List Bool} (hm : m.length = b.Buses.toNat) {k : Nat} (hk : k < b.Breakers.length) (i : Nat) : gt (mStep b p m k) i = if (gt b.Breakers k).Kind = 1 ∧ gt p.Closed k = true ∧ (gt m (gt b.Breakers k).A.toNat = true ∨ gt m (gt b.Breakers k).B.toNat = true) ∧ (i = (gt b.Breakers k).A.toNat ∨ i = (gt b.Breakers k).B.toNat) then true else gt m i := by
 unfold mStep
 by_cases h : (gt b.Breakers k).Kind = 1 ∧ gt p.Closed k = true ∧ (gt m (gt b.Breakers k).A.toNat = true ∨ gt m (gt b.Breakers k).B.toNat = true)
 ·obtain ⟨e1, e2, _, _⟩ := tieEnds hb hk h.1
  rw [if_pos h, gt_set (by simp; omega), gt_set (by omega)]
  by_cases hi : i = (gt b.Breakers k).B.toNat
  ·rw [if_pos hi, if_pos ⟨h.1, h.2.1, h.2.2, .inr hi⟩]
  ·rw [if_neg hi]
   by_cases hi2 : i = (gt b.Breakers k).A.toNat
   ·rw [if_pos hi2, if_pos ⟨h.1, h.2.1, h.2.2, .inl hi2⟩]
   ·rw [if_neg hi2, if_neg (fun hh => hh.2.2.2.elim hi2 hi)]
 ·rw [if_neg h, if_neg (fun hh => h ⟨hh.1, hh.2.1, hh.2.2.1⟩)]
theorem mStep_mono (hb : BrkOk b) {m : List Bool} (hm : m.length = b.Buses.toNat) {k : Nat} (hk : k < b.Breakers.length) {i : Nat} (h : gt m i = true) : gt (mStep b p m k) i = true := by
 rw [mStep_gt hb hm hk]
 split
 ·rfl
 ·exact h
theorem mRun_mono (hb : BrkOk b) {m : List Bool} (hm : m.length = b.Buses.toNat) {i : Nat} (k : Nat) : ∀ d, k + d ≤ b.Breakers.length → gt (mRun b p m k) i = true → gt (mRun b p m (k + d)) i = true
 | 0, _, h => h
 | d + 1, hd, h => mStep_mono hb (by rw [mRun_len, hm]) (show k + d < b.Breakers.length by omega) (mRun_mono hb hm k d (by omega) h)
theorem mRun_edge (hb : BrkOk b) {m : List Bool} (hm : m.length = b.Buses.toNat) {i j : Nat} (h : gt m i = true) (ht : Tied b p i j) : gt (mRun b p m b.Breakers.length) j = true := by
 obtain ⟨k, hk, h1, h2, h3⟩ := ht
 have e := tieEnds hb hk h1
 have hi := mRun_mono (p := p) hb hm 0 k (by omega) h
 rw [Nat.zero_add] at hi
 have hj : gt (mRun b p m (k + 1)) j = true := by
  show gt (mStep b p (mRun b p m k) k) j = true
  rw [mStep_gt hb (by rw [mRun_len, hm]) hk, if_pos]
  refine ⟨h1, h2, ?_, ?_⟩
  ·rcases h3 with h3 | h3
   ·exact .inl (by rw [show (gt b.Breakers k).A.toNat = i from by omega]; exact hi)
   ·exact .inr (by rw [show (gt b.Breakers k).B.toNat = i from by omega]; exact hi)
  ·omega
 have := mRun_mono hb hm (k + 1) (b.Breakers.length - (k + 1)) (by omega) hj
 rwa [show k + 1 + (b.Breakers.length - (k + 1)) = b.Breakers.length from by omega] at this
theorem mRun_sound (hb : BrkOk b) {m : List Bool} (hm : m.length = b.Buses.toNat) {s : Nat} (h : ∀ i, gt m i = true → Conn (Tied b p) s i) : ∀ k, k ≤ b.Breakers.length → ∀ i, gt (mRun b p m k) i = true → Conn (Tied b p) s i
 | 0, _, i, hi => h i hi
 | k + 1, hk, i, hi => by
  have ih := mRun_sound hb hm h k (by omega)
  have hi' : gt (mStep b p (mRun b p m k) k) i = true := hi
  rw [mStep_gt hb (by rw [mRun_len, hm]) (by omega)] at hi'
  split at hi'
  ·rename_i hc
   obtain ⟨h1, h2, h3, h4⟩ := hc
   have e := tieEnds hb (show k < b.Breakers.length by omega) h1
   have ht : Tied b p (gt b.Breakers k).A.toNat (gt b.Breakers k).B.toNat := ⟨k, by omega, h1, h2, .inl ⟨e.2.2.1, e.2.2.2⟩⟩
   rcases h3 with h3 | h3
   ·have c := ih _ h3
    rcases h4 with rfl | rfl
    ·exact c
    ·exact c.trans (.one ht)
   ·have c := ih _ h3
    rcases h4 with rfl | rfl
    ·exact c.trans (.one ht.symm)
    ·exact c
  ·exact ih i hi'
theorem mRounds_sound (hb : BrkOk b) {m : List Bool} (hm : m.length = b.Buses.toNat) {s : Nat} (h : ∀ i, gt m i = true → Conn (Tied b p) s i) : ∀ r i, gt (mRounds b p m r) i = true → Conn (Tied b p) s i
 | 0, i, hi => h i hi
 | r + 1, i, hi => mRun_sound hb (by rw [mRounds_len, hm]) (mRounds_sound hb hm h r) _ (Nat.le_refl _) i hi
theorem mRounds_walk (hb : BrkOk b) {m : List Bool} (hm : m.length = b.Buses.toNat) {s : Nat} (h : gt m s = true) : ∀ r j, Walk (Tied b p) r s j → gt (mRounds b p m r) j = true
 | 0, j, w => by rw [← w.zero]; exact h
 | r + 1, j, w => by
  have hl : (mRounds b p m r).length = b.Buses.toNat := by rw [mRounds_len, hm]
  rcases w.last with h1 | ⟨i, h1, h2⟩
  ·have := mRun_mono (p := p) hb hl 0 b.Breakers.length (by omega) (mRounds_walk hb hm h r j h1)
   rw [Nat.zero_add] at this
   exact this
  ·exact mRun_edge hb hl (mRounds_walk hb hm h r i h1) h2
def mark0 (n s : Nat) : List Bool := (List.replicate n false).set s true
theorem mark_iff (hb : BrkOk b) {s : Nat} (hs : s < b.Buses.toNat) {j : Nat} : gt (mRounds b p (mark0 b.Buses.toNat s) b.Buses.toNat) j = true ↔ Conn (Tied b p) s j := by
 have hm : (mark0 b.Buses.toNat s).length = b.Buses.toNat := by simp [mark0]
 have h0 : gt (mark0 b.Buses.toNat s) s = true := by unfold mark0; rw [gt_set (by simpa using hs), if_pos rfl]
 constructor
 ·refine mRounds_sound hb hm (fun i hi => ?_) _ j
  unfold mark0 at hi
  rw [gt_set (by simpa using hs)] at hi
  by_cases his : i = s
  ·subst his; exact .refl _
  ·rw [if_neg his] at hi
   by_cases hib : i < b.Buses.toNat
   ·rw [gt_replicate hib] at hi; cases hi
   ·unfold gt at hi
    simp [List.getD_eq_getElem?_getD, hib] at hi
 ·intro h
  have hw := (h.walk (n := b.Buses.toNat) (fun i j h => (h.lt hb).2) hs).more (r' := b.Buses.toNat) (by omega)
  exact mRounds_walk hb hm h0 _ _ hw
theorem rangeF_congr {P Q : Nat → Bool} {n : Nat} (h : ∀ i, i < n → P i = Q i) : rangeF P n = rangeF Q n := by
 unfold rangeF
 rw [List.filter_congr fun x hx => h x (List.mem_range.1 hx)]
theorem reach_run (hb : BrkOk b) (hs : Sm b.Breakers) (hc : p.Closed.length = b.Breakers.length) {m : List Bool} (hm : (m.length : Int) = b.Buses) : loopO (dynposref15_reach_L2 b p) ((0 : Int), m) = some (mRun b p m b.Breakers.length) := by
 refine loop_run (step := dynposref15_reach_L2 b p) (fun k => ((k : Int), mRun b p m k)) b.Breakers.length (fun k hk => ?_) (by simp only [dynposref15_reach_L2, nlt_len, Bool.false_eq_true, if_false])
 have hok := hb.1 k hk
 have hl := mRun_len b p m k
 have hsucc : mRun b p m (k + 1) = mStep b p (mRun b p m k) k := rfl
 simp only [dynposref15_reach_L2, lt_len hk, if_true, idx_gt hk, idx_gt (show k < p.Closed.length by omega), Option.bind_some, W_succ (sm_lt hs hk), hsucc]
 generalize mRun b p m k = q at hl ⊢
 by_cases h1 : (gt b.Breakers k).Kind = 1
 case neg =>
  have e0 : mStep b p q k = q := by unfold mStep; rw [if_neg (fun h => h1 h.1)]
  simp only [beqF h1, e0, Bool.false_eq_true, if_false, Option.bind_some]
 cases h2 : gt p.Closed k with
 | false =>
  have e0 : mStep b p q k = q := by unfold mStep; rw [if_neg (fun h => by rw [h2] at h; exact absurd h.2.1 (by simp))]
  simp only [beqT h1, e0, if_true, Bool.false_eq_true, if_false, Option.bind_some]
 | true =>
  have e := tieEnds hb hk h1
  have iA : ∀ x : List Bool, x.length = q.length → idx x (gt b.Breakers k).A = some (gt x (gt b.Breakers k).A.toNat) := fun x hx => idx_gtZ (by omega) (by omega)
  have iB : ∀ x : List Bool, x.length = q.length → idx x (gt b.Breakers k).B = some (gt x (gt b.Breakers k).B.toNat) := fun x hx => idx_gtZ (by omega) (by omega)
  have sA : ∀ x : List Bool, x.length = q.length → setO x (gt b.Breakers k).A true = some (x.set (gt b.Breakers k).A.toNat true) := fun x hx => setO_gt (by omega) (by omega)
  have sB : ∀ x : List Bool, x.length = q.length → setO x (gt b.Breakers k).B true = some (x.set (gt b.Breakers k).B.toNat true) := fun x hx => setO_gt (by omega) (by omega)
  simp only [beqT h1, if_true, Option.bind_some, iA q rfl, iB q rfl, sA q rfl, iB (q.set (gt b.Breakers k).A.toNat true) (by simp), sB (q.set (gt b.Breakers k).A.toNat true) (by simp)]
  cases h3 : gt q (gt b.Breakers k).A.toNat with
  | true =>
   have e0 : mStep b p q k = (q.set (gt b.Breakers k).A.toNat true).set (gt b.Breakers k).B.toNat true := by unfold mStep; rw [if_pos ⟨h1, h2, .inl h3⟩]
   simp only [if_true, Option.bind_some, e0]
  | false =>
   cases h4 : gt q (gt b.Breakers k).B.toNat with
   | true =>
    have e0 : mStep b p q k = (q.set (gt b.Breakers k).A.toNat true).set (gt b.Breakers k).B.toNat true := by unfold mStep; rw [if_pos ⟨h1, h2, .inr h4⟩]
    simp only [if_true, Bool.false_eq_true, if_false, Option.bind_some, e0]
   | false =>
    have e0 : mStep b p q k = q := by unfold mStep; rw [if_neg (fun h => by rcases h.2.2 with h | h <;> simp [h3, h4] at h)]
    simp only [Bool.false_eq_true, if_false, Option.bind_some, e0]
theorem reach_eq (hl : Lim b) (hb : BrkOk b) (hs : Sm b.Breakers) (hc : p.Closed.length = b.Breakers.length) {k : Int} (h0 : 0 ≤ k) (h1 : k < b.Buses) : dynposref15_reach b p k = some (isleOf b p k).Buses := by
 have hbus := hl.bus
 obtain ⟨n, hn⟩ := Int.eq_ofNat_of_zero_le (show 0 ≤ b.Buses by omega)
 obtain ⟨s, hk⟩ := Int.eq_ofNat_of_zero_le h0
 subst hk
 have hsn : s < n := by omega
 have hnb : b.Buses.toNat = n := by omega
 have hml : (mark0 n s).length = n := by simp [mark0]
 have hst : (List.replicate n false).set s true = mark0 n s := rfl
 have l1 : loopO (dynposref15_reach_L1 b p (mark0 n s)) ((0 : Int), mark0 n s) = some (mRounds b p (mark0 n s) n) := by
  refine loop_run (step := dynposref15_reach_L1 b p (mark0 n s)) (fun k => ((k : Int), mRounds b p (mark0 n s) k)) n (fun k hk => ?_) ?_
  ·have e1 : decide ((k : Int) < len (mark0 n s)) = true := dT (by unfold len; omega)
   have hrl := mRounds_len b p (mark0 n s) k
   simp only [dynposref15_reach_L1, e1, if_true, reach_run hb hs hc (m := mRounds b p (mark0 n s) k) (by omega), Option.bind_some, W_succ (show k < 1000000000000000000 by omega)]
   rfl
  ·have e1 : decide ((n : Int) < len (mark0 n s)) = false := dF (by unfold len; omega)
   simp only [dynposref15_reach_L1, e1, Bool.false_eq_true, if_false]
 have l3 : ∀ m : List Bool, m.length = n → loopO (dynposref15_reach_L3 m) ((0 : Int), []) = some (rangeF (fun j => gt m j) n) := by
  intro m hm
  refine loop_run (step := dynposref15_reach_L3 m) (fun k => ((k : Int), rangeF (fun j => gt m j) k)) n (fun k hk => ?_) ?_
  ·have hrl := rangeF_len (fun j => gt m j) k
   have hap : app (rangeF (fun j => gt m j) k) [(k : Int)] = some (rangeF (fun j => gt m j) k ++ [(k : Int)]) := app_sm (by simp; omega)
   simp only [dynposref15_reach_L3, lt_len (show k < m.length by omega), if_true, idx_gt (show k < m.length by omega), Option.bind_some, rangeF_succ, hap, W_succ (show k < 1000000000000000000 by omega)]
   cases gt m k <;> simp
  ·have e1 : decide ((n : Int) < len m) = false := dF (by unfold len; omega)
   simp only [dynposref15_reach_L3, e1, Bool.false_eq_true, if_false]
 unfold dynposref15_reach
 rw [hn, mkZ_nat (by omega)]
 have hrl : (List.replicate n false).length = n := by simp
 have hmr := mRounds_len b p (mark0 n s) n
 rw [hml] at hmr
 simp only [Option.bind_some, Int.ofNat_eq_natCast, idx_gt (show s < (List.replicate n false).length by omega), setO_nat (show s < (List.replicate n false).length by omega), hst, l1, l3 _ hmr]
 have hgb := grp_bd (p := p) hb (show s < b.Buses.toNat by omega)
 show some _ = some (rangeF (busP b p (gt (grp b p) ((s : Int)).toNat).toNat) b.Buses.toNat)
 rw [hnb, Int.toNat_natCast]
 congr 1
 refine rangeF_congr fun i hi => ?_
 have h4 := mark_iff (p := p) hb (s := s) (j := i) (by omega)
 have h5 := grp_iff (p := p) hb (i := i) (j := s) (by omega) (by omega)
 rw [hnb] at h4
 have hsy : ∀ i j, Tied b p i j → Tied b p j i := fun _ _ h => h.symm
 have h6 : gt (mRounds b p (mark0 n s) n) i = true ↔ busP b p (gt (grp b p) s).toNat i = true := by
  rw [h4]
  unfold busP
  rw [beq_iff_eq, show (((gt (grp b p) s).toNat : Nat) : Int) = gt (grp b p) s from by omega, h5]
  exact ⟨fun h => h.symm hsy, fun h => h.symm hsy⟩
 exact Bool.eq_iff_iff.2 h6
end
end Rx
namespace Rx
open Classical
theorem list_gt {α : Type} [Rep α] (l : List α) : (List.range l.length).map (gt l) = l := by
 apply ext_gt
 ·simp
 ·intro k hk
  have hk' : k < l.length := by simpa using hk
  rw [gt_map_range _ hk']
theorem find_gt {α : Type} [Rep α] (l : List α) (P : α → Bool) : l.find? P = ((List.range l.length).find? fun q => P (gt l q)).map (gt l) := by
 have h := congrArg (List.find? P) (list_gt l)
 rw [List.find?_map] at h
 exact h.symm
theorem find_rangeF (F : Nat → Bool) (P : Int → Bool) (n : Nat) : (rangeF F n).find? P = ((List.range n).find? fun k => F k && P (k : Int)).map Int.ofNat := by
 unfold rangeF
 rw [List.find?_map, List.find?_filter]
 congr 2
 funext k
 simp
theorem rangeF_head {P : Nat → Bool} {m : Nat} (hP : P m = true) (hmin : ∀ i, i < m → P i = false) : ∀ n, m < n → 0 < (rangeF P n).length ∧ gt (rangeF P n) 0 = (m : Int)
 | 0, h => by omega
 | n + 1, h => by
  rw [rangeF_succ]
  by_cases hmn : m < n
  ·obtain ⟨h1, h2⟩ := rangeF_head hP hmin n hmn
   exact ⟨by simp; omega, by rw [gt_app_left h1]; exact h2⟩
  ·have : m = n := by omega
   subst this
   have h0 : rangeF P m = [] := List.length_eq_zero_iff.1 (rangeF_len0.2 hmin)
   rw [h0, if_pos hP]
   exact ⟨by simp, rfl⟩
section
variable {b : Board} {p : Power}
theorem grp_root (hb : BrkOk b) {k : Nat} (hk : k < b.Buses.toNat) : ∃ m : Nat, gt (grp b p) k = (m : Int) ∧ m ≤ k ∧ gt (grp b p) m = (m : Int) := by
 obtain ⟨m, h1, h2, h3⟩ := grp_spec (p := p) hb hk
 have hmk : m ≤ k := h3 k (.refl _)
 refine ⟨m, h1, hmk, ?_⟩
 rw [← h1]
 exact ((grp_iff (p := p) hb hk (by omega)).2 h2).symm
theorem isle_head (hb : BrkOk b) {k : Nat} (hk : k < b.Buses.toNat) : 0 < (isleOf b p (k : Int)).Buses.length ∧ gt (isleOf b p (k : Int)).Buses 0 = gt (grp b p) k := by
 obtain ⟨m, h1, h2, h3⟩ := grp_root (p := p) hb hk
 have he : isleOf b p (k : Int) = isle b p m := by unfold isleOf; rw [Int.toNat_natCast, h1, Int.toNat_natCast]
 rw [he, h1]
 refine rangeF_head (P := busP b p m) (by unfold busP; rw [h3]; simp) (fun i hi => ?_) _ (by omega)
 unfold busP
 have := (grp_bd (p := p) hb (show i < b.Buses.toNat by omega)).2
 exact beqF (by omega)
theorem isle_root (hb : BrkOk b) {k : Nat} (hk : k < b.Buses.toNat) : (isle b p k).Buses.isEmpty = false ↔ gt (grp b p) k = (k : Int) := by
 constructor
 ·intro h
  cases hl : (isle b p k).Buses with
  | nil => rw [hl] at h; cases h
  | cons x l =>
   obtain ⟨i, h1, h2, h3⟩ := mem_bus.1 (show x ∈ (isle b p k).Buses by rw [hl]; exact List.mem_cons_self)
   obtain ⟨m, e1, e2, e3⟩ := grp_root (p := p) hb h1
   have : m = k := by omega
   subst this
   exact e3
 ·intro h
  cases hl : (isle b p k).Buses with
  | nil =>
   have := mem_bus (f := k) (x := (k : Int)) |>.2 ⟨k, hk, h, rfl⟩
   rw [hl] at this
   cases this
  | cons _ _ => rfl
theorem isl_filter : isl b p = ((List.range b.Buses.toNat).filter fun f => !(isle b p f).Buses.isEmpty).map (isle b p) := by
 unfold isl islAt
 rw [List.filter_map]
 rfl
theorem refconn_eq (hb : SmB b) (hp : SmP p) (j : Int) : dynposref15_Connected b p j = some (connB b p j) := by
 unfold dynposref15_Connected connB
 rw [refstate_eq hb hp]
 by_cases h : stt b p = 0
 case neg =>
  have : (stt b p != 0) = true := by simpa using h
  simp only [Option.bind_some, this, if_true, if_neg h]
 obtain ⟨⟨hl, hg⟩, ⟨s1, s2, s3⟩, _⟩ := stt_zero.1 h
 have hsr := hl.src
 have h0 : (stt b p != 0) = false := by simp [h]
 simp only [Option.bind_some, h0, Bool.false_eq_true, if_false, if_pos h]
 unfold conn
 by_cases h1 : j < 0
 ·have hno : ¬ (0 ≤ j ∧ j ≤ (p.Sources.length : Int) - 1) := by omega
  rw [dT h1, if_neg hno]; rfl
 rw [dF h1]
 by_cases h2 : j ≥ (b.Sources.length : Int)
 ·have hno : ¬ (0 ≤ j ∧ j ≤ (p.Sources.length : Int) - 1) := by omega
  rw [dT (c := j ≥ len b.Sources) h2, if_neg hno]; rfl
 have hyes : 0 ≤ j ∧ j ≤ (p.Sources.length : Int) - 1 := by omega
 rw [dF (c := j ≥ len b.Sources) h2, if_pos hyes]
 obtain ⟨i, rfl⟩ := Int.eq_ofNat_of_zero_le (show 0 ≤ j by omega)
 simp only [Int.ofNat_eq_natCast, Int.toNat_natCast, Bool.false_eq_true, if_false]
 rw [idx_gt (show i < p.Sources.length by omega)]
 simp only [Option.bind_some]
 by_cases h3 : (gt p.Sources i).State = 2
 case neg => rw [if_neg h3, bneT h3]; rfl
 rw [if_pos h3, bneF h3]
 simp only [Bool.false_eq_true, if_false, refof_eq hb.1, Option.bind_some]
 have hlen := (refBrk_iff.1 hg.1).2.1 i (by omega)
 obtain ⟨⟨k, hk, hpk⟩, hu⟩ := rangeF_len1.1 hlen
 have huniq : ∀ q, q < b.Breakers.length → findP b 2 (i : Int) q = true → q = k := fun q hq hpq => by
  rcases Nat.lt_trichotomy q k with hlt | he | hlt
  ·exact (hu q k hlt hk hpq hpk).elim
  ·exact he
  ·exact (hu k q hlt hq hpk hpq).elim
 have hd := rangeF_head (P := findP b 2 (i : Int)) hpk (fun q hq => by
  cases hpq : findP b 2 (i : Int) q with
  | false => rfl
  | true => have := huniq q (by omega) hpq; omega) b.Breakers.length hk
 have e0 : idx (rangeF (findP b 2 (i : Int)) b.Breakers.length) 0 = some (k : Int) := by
  have := idx_gt hd.1
  rw [hd.2] at this
  exact this
 rw [e0]
 simp only [Option.bind_some, idx_gt (show k < p.Closed.length by omega), idx_gt hk]
 have hled : ∀ q, ledAt b p 2 (i : Int) q = (findP b 2 (i : Int) q && gt p.Closed q) := fun q => by
  unfold ledAt findP
  simp
 unfold led
 cases hc : gt p.Closed k with
 | false =>
  rw [find_none (fun q hq => by
   rw [hled]
   cases hpq : findP b 2 (i : Int) q with
   | false => rfl
   | true => rw [huniq q hq hpq, hc]; rfl)]
  rfl
 | true =>
  cases hf : (List.range b.Breakers.length).find? (ledAt b p 2 (i : Int)) with
  | none =>
   have := List.find?_eq_none.1 hf k (List.mem_range.2 hk)
   rw [hled, hpk, hc] at this
   simp at this
  | some q =>
   have hq := List.mem_range.1 (List.mem_of_find?_eq_some hf)
   have hpq := List.find?_some hf
   rw [hled, Bool.and_eq_true] at hpq
   rw [huniq q hq hpq.1]
   rfl
theorem reffed_eq (hb : SmB b) (hp : SmP p) {j : Int} (hj : 0 ≤ j ∧ j < b.Consumers.length) : dynposref15_Fed b p j = some (fedB b p j) := by
 unfold dynposref15_Fed fedB
 rw [refstate_eq hb hp]
 by_cases h : stt b p = 0
 case neg =>
  have : (stt b p != 0) = true := by simpa using h
  simp only [Option.bind_some, this, if_true, if_neg h]
 obtain ⟨⟨hl, hg⟩, ⟨s1, s2, s3⟩, _⟩ := stt_zero.1 h
 have hbr := hl.brk
 have h0 : (stt b p != 0) = false := by simp [h]
 simp only [Option.bind_some, h0, Bool.false_eq_true, if_false, if_pos h]
 rw [dF (c := j < 0) (by omega), dF (c := j ≥ len b.Consumers) (by unfold len; omega)]
 simp only [Bool.false_eq_true, if_false, refof_eq hb.1, Option.bind_some]
 have hlist : (rangeF (findP b 3 j) b.Breakers.length).length ≤ b.Breakers.length := rangeF_len _ _
 have hel : ∀ q, q < (rangeF (findP b 3 j) b.Breakers.length).length → ∃ i : Nat, gt (rangeF (findP b 3 j) b.Breakers.length) q = (i : Int) ∧ i < b.Breakers.length := fun q hq => by
  obtain ⟨i, hi, _, e⟩ := mem_rangeF.1 (gt_mem hq)
  exact ⟨i, e, hi⟩
 have hfind := find_gt (rangeF (findP b 3 j) b.Breakers.length) (fun x => gt p.Closed x.toNat)
 rw [find_rangeF] at hfind
 generalize rangeF (findP b 3 j) b.Breakers.length = l at hlist hel hfind ⊢
 have h1 := loop_find (step := dynposref15_Fed_L1 b p l) (fun q => (q : Int)) l.length (fun q => gt p.Closed (gt l q).toNat) (R := fun q => .inr ((gt b.Breakers (gt l q).toNat).A, true)) (e := .inl ())
  (fun q hq hpq => by
   obtain ⟨i, e, hi⟩ := hel q hq
   rw [e, Int.toNat_natCast] at hpq
   simp only [dynposref15_Fed_L1, lt_len hq, if_true, idx_gt hq, e, idx_gt (show i < p.Closed.length by omega), Option.bind_some, hpq, Bool.false_eq_true, if_false, W_succ (show q < 1000000000000000000 by omega)])
  (fun q hq hpq => by
   obtain ⟨i, e, hi⟩ := hel q hq
   rw [e, Int.toNat_natCast] at hpq
   simp only [dynposref15_Fed_L1, lt_len hq, if_true, idx_gt hq, e, Int.toNat_natCast, idx_gt (show i < p.Closed.length by omega), idx_gt hi, Option.bind_some, hpq])
  (by simp only [dynposref15_Fed_L1, nlt_len, Bool.false_eq_true, if_false])
 have h1' : loopO (dynposref15_Fed_L1 b p l) 0 = _ := h1
 rw [h1']
 have hled : ledAt b p 3 j = fun k => findP b 3 j k && gt p.Closed ((k : Int)).toNat := by
  funext q
  unfold ledAt findP
  simp
 unfold led
 rw [hled]
 cases hf : (List.range l.length).find? (fun q => gt p.Closed (gt l q).toNat) with
 | none =>
  rw [hf] at hfind
  have : (List.range b.Breakers.length).find? (fun k => findP b 3 j k && gt p.Closed ((k : Int)).toNat) = none := by
   cases hx : (List.range b.Breakers.length).find? (fun k => findP b 3 j k && gt p.Closed ((k : Int)).toNat) with
   | none => rfl
   | some k => rw [hx] at hfind; cases hfind
  rw [this]
  rfl
 | some q =>
  rw [hf] at hfind
  cases hx : (List.range b.Breakers.length).find? (fun k => findP b 3 j k && gt p.Closed ((k : Int)).toNat) with
  | none => rw [hx] at hfind; cases hfind
  | some k =>
   rw [hx] at hfind
   have e : (k : Int) = gt l q := Option.some.inj hfind
   simp only [Option.bind_some, Sum.elim_inr]
   rw [← e, Int.toNat_natCast]
theorem refhas_isle {k : Int} (hb : BrkOk b) (hl : Lim b) (h0 : 0 ≤ k) (h1 : k < b.Buses) {a : Int} (ha : 0 ≤ a ∧ a < b.Buses) : dynposref01_Has (isleOf b p k).Buses a = some (gt (grp b p) a.toNat == (((gt (grp b p) k.toNat).toNat : Nat) : Int)) := by
 have hbus := hl.bus
 have hln := (isle_len (b := b) (p := p) (gt (grp b p) k.toNat).toNat).1
 rw [has_eq (show Sm (isleOf b p k).Buses by unfold Sm; show (isle b p _).Buses.length ≤ _; omega)]
 congr 1
 rw [Bool.eq_iff_iff, decide_eq_true_iff, beq_iff_eq]
 show a ∈ (isle b p (gt (grp b p) k.toNat).toNat).Buses ↔ _
 rw [mem_bus]
 constructor
 ·rintro ⟨i, _, h, rfl⟩; rw [Int.toNat_natCast]; exact h
 ·intro h; exact ⟨a.toNat, by omega, h, by omega⟩
noncomputable def ofR (b : Board) (p : Power) (k : Int) : Bool × List Int × List Int × List Int := ((ofB b p k).2, (ofB b p k).1.Buses, (ofB b p k).1.Sources, (ofB b p k).1.Consumers)
theorem refof_isle (hb : SmB b) (hp : SmP p) (k : Int) : dynposref15_Of b p k = some (ofR b p k) := by
 unfold dynposref15_Of ofR ofB
 rw [refstate_eq hb hp]
 by_cases h : stt b p = 0
 case neg =>
  have : (stt b p != 0) = true := by simpa using h
  simp only [Option.bind_some, this, if_true, if_neg (fun hh : stt b p = 0 ∧ _ => h hh.1)]
 obtain ⟨⟨hl, hg⟩, ⟨s1, s2, s3⟩, _⟩ := stt_zero.1 h
 have hsr := hl.src
 have hco := hl.con
 have h0 : (stt b p != 0) = false := by simp [h]
 simp only [Option.bind_some, h0, Bool.false_eq_true, if_false]
 by_cases h1 : k < 0
 ·have hno : ¬ (stt b p = 0 ∧ 0 ≤ k ∧ k < b.Buses) := by omega
  rw [dT h1, if_neg hno]; rfl
 rw [dF h1]
 by_cases h2 : k ≥ b.Buses
 ·have hno : ¬ (stt b p = 0 ∧ 0 ≤ k ∧ k < b.Buses) := by omega
  rw [dT h2, if_neg hno]; rfl
 have hyes : stt b p = 0 ∧ 0 ≤ k ∧ k < b.Buses := ⟨h, by omega, by omega⟩
 rw [dF h2, if_pos hyes]
 simp only [Bool.false_eq_true, if_false]
 rw [reach_eq hl hg.1 hb.1 s1 (by omega) (by omega)]
 simp only [Option.bind_some]
 have l1 : loopO (dynposref15_Of_L1 b p (isleOf b p k).Buses) ((0 : Int), []) = some (isleOf b p k).Sources := by
  refine loop_run (step := dynposref15_Of_L1 b p (isleOf b p k).Buses) (fun i => ((i : Int), rangeF (srcP b p (gt (grp b p) k.toNat).toNat) i)) b.Sources.length (fun i hi => ?_) (by simp only [dynposref15_Of_L1, nlt_len, Bool.false_eq_true, if_false]; rfl)
  have hrl := rangeF_len (srcP b p (gt (grp b p) k.toNat).toNat) i
  have hap : app (rangeF (srcP b p (gt (grp b p) k.toNat).toNat) i) [(i : Int)] = some (rangeF (srcP b p (gt (grp b p) k.toNat).toNat) i ++ [(i : Int)]) := app_sm (by simp; omega)
  have ec : connB b p (i : Int) = conn b p (i : Int) := by unfold connB; rw [if_pos h]
  simp only [dynposref15_Of_L1, lt_len hi, if_true, refconn_eq hb hp, ec, Option.bind_some, rangeF_succ, hap, W_succ (show i < 1000000000000000000 by omega)]
  cases hc : (conn b p (i : Int)).2 with
  | false =>
   have : srcP b p (gt (grp b p) k.toNat).toNat i = false := by unfold srcP; rw [hc]; rfl
   simp [this]
  | true =>
   have hbd := conn_bd hg.1 hc
   have : srcP b p (gt (grp b p) k.toNat).toNat i = (gt (grp b p) (conn b p (i : Int)).1.toNat == (((gt (grp b p) k.toNat).toNat : Nat) : Int)) := by unfold srcP; rw [hc]; rfl
   simp only [if_true, refhas_isle hg.1 hl (show 0 ≤ k by omega) (show k < b.Buses by omega) hbd, Option.bind_some, this]
   cases (gt (grp b p) (conn b p (i : Int)).1.toNat == (((gt (grp b p) k.toNat).toNat : Nat) : Int)) <;> simp
 have l2 : loopO (dynposref15_Of_L2 b p (isleOf b p k).Buses) ((0 : Int), []) = some (isleOf b p k).Consumers := by
  refine loop_run (step := dynposref15_Of_L2 b p (isleOf b p k).Buses) (fun i => ((i : Int), rangeF (conP b p (gt (grp b p) k.toNat).toNat) i)) b.Consumers.length (fun i hi => ?_) (by simp only [dynposref15_Of_L2, nlt_len, Bool.false_eq_true, if_false]; rfl)
  have hrl := rangeF_len (conP b p (gt (grp b p) k.toNat).toNat) i
  have hap : app (rangeF (conP b p (gt (grp b p) k.toNat).toNat) i) [(i : Int)] = some (rangeF (conP b p (gt (grp b p) k.toNat).toNat) i ++ [(i : Int)]) := app_sm (by simp; omega)
  have ec : fedB b p (i : Int) = led b p 3 (i : Int) := by unfold fedB; rw [if_pos h]
  simp only [dynposref15_Of_L2, lt_len hi, if_true, reffed_eq hb hp (j := (i : Int)) ⟨by omega, by omega⟩, ec, Option.bind_some, rangeF_succ, hap, W_succ (show i < 1000000000000000000 by omega)]
  cases hc : (led b p 3 (i : Int)).2 with
  | false =>
   have : conP b p (gt (grp b p) k.toNat).toNat i = false := by unfold conP; rw [hc]; rfl
   simp [this]
  | true =>
   have hbd := led_bd hg.1 hc
   have : conP b p (gt (grp b p) k.toNat).toNat i = (gt (grp b p) (led b p 3 (i : Int)).1.toNat == (((gt (grp b p) k.toNat).toNat : Nat) : Int)) := by unfold conP; rw [hc]; rfl
   simp only [if_true, refhas_isle hg.1 hl (show 0 ≤ k by omega) (show k < b.Buses by omega) hbd, Option.bind_some, this]
   cases (gt (grp b p) (led b p 3 (i : Int)).1.toNat == (((gt (grp b p) k.toNat).toNat : Nat) : Int)) <;> simp
 rw [l1, l2]
 rfl
theorem refislands_eq (hb : SmB b) (hp : SmP p) (h : stt b p = 0) : dynposref15_Islands b p = some (isl b p) := by
 obtain ⟨⟨hl, hg⟩, ⟨s1, s2, s3⟩, _⟩ := stt_zero.1 h
 have hbus := hl.bus
 obtain ⟨n, hn⟩ := Int.eq_ofNat_of_zero_le (show 0 ≤ b.Buses by omega)
 have hnb : b.Buses.toNat = n := by omega
 unfold dynposref15_Islands
 rw [refstate_eq hb hp, h]
 simp only [Option.bind_some, bne_self_eq_false, Bool.false_eq_true, if_false]
 have l1 : loopO (dynposref15_Islands_L1 b p) ((0 : Int), []) = some (((List.range n).filter fun f => !(isle b p f).Buses.isEmpty).map (isle b p)) := by
  refine loop_run (step := dynposref15_Islands_L1 b p) (fun k => ((k : Int), ((List.range k).filter fun f => !(isle b p f).Buses.isEmpty).map (isle b p))) n (fun k hk => ?_) ?_
  ·have e1 : decide ((k : Int) < b.Buses) = true := dT (by omega)
   have hof : ofR b p (k : Int) = (true, (isleOf b p (k : Int)).Buses, (isleOf b p (k : Int)).Sources, (isleOf b p (k : Int)).Consumers) := by
    unfold ofR ofB
    rw [if_pos ⟨h, by omega, by omega⟩]
   obtain ⟨hd1, hd2⟩ := isle_head (p := p) hg.1 (show k < b.Buses.toNat by omega)
   have e2 : idx (isleOf b p (k : Int)).Buses 0 = some (gt (grp b p) k) := by
    have := idx_gt hd1
    rw [hd2] at this
    exact this
   have hlen : (((List.range k).filter fun f => !(isle b p f).Buses.isEmpty).map (isle b p)).length ≤ k := by
    rw [List.length_map]
    refine Nat.le_trans (List.length_filter_le _ _) ?_
    simp
   have hap : ∀ x : Island, app (((List.range k).filter fun f => !(isle b p f).Buses.isEmpty).map (isle b p)) [x] = some ((((List.range k).filter fun f => !(isle b p f).Buses.isEmpty).map (isle b p)) ++ [x]) := fun x => app_sm (by simp only [List.length_singleton]; omega)
   simp only [dynposref15_Islands_L1, e1, if_true, refof_isle hb hp, hof, Option.bind_some, e2, hap, W_succ (show k < 1000000000000000000 by omega), List.range_succ, List.filter_append, List.map_append]
   have hroot := isle_root (p := p) hg.1 (show k < b.Buses.toNat by omega)
   by_cases hr : gt (grp b p) k = (k : Int)
   ·have e3 : isleOf b p (k : Int) = isle b p k := by unfold isleOf; rw [Int.toNat_natCast, hr, Int.toNat_natCast]
    have e4 : ([k].filter fun f => !(isle b p f).Buses.isEmpty) = [k] := by simp [List.filter_cons, hroot.2 hr]
    rw [beqT hr, e4, e3]
    rfl
   ·have e5 : (isle b p k).Buses.isEmpty = true := by
     cases hx : (isle b p k).Buses.isEmpty with
     | true => rfl
     | false => exact (hr (hroot.1 hx)).elim
    have e4 : ([k].filter fun f => !(isle b p f).Buses.isEmpty) = [] := by simp [List.filter_cons, e5]
    rw [beqF hr, e4]
    simp
  ·have e1 : decide ((n : Int) < b.Buses) = false := dF (by omega)
   simp only [dynposref15_Islands_L1, e1, Bool.false_eq_true, if_false]
 rw [l1, isl_filter, hnb]
 rfl
end
end Rx
end Go.Proofs.YtfnphdhcgkondaaGreat
