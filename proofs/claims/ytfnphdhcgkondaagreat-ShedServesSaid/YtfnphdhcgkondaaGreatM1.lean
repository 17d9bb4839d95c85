/- Board: small functions, and what its check computes. Plain laws. -/
import Derived.Test.YtfnphdhcgkondaaGreatPg
import Derived.Test.YtfnphdhcgkondaaGreatRz
set_option linter.unusedVariables false
set_option linter.unusedSimpArgs false
namespace Go.Proofs.YtfnphdhcgkondaaGreat
open Go Go.RowKit Dp
namespace Rx
open Classical

theorem has_eq {l : List Int} {x : Int} (hl : Sm l) : dynposref01_Has l x = some (decide (x ∈ l)) := by
  unfold dynposref01_Has
  have h := loop_any (step := dynposref01_Has_L1 l x) (fun k => (k : Int)) l.length (fun k => gt l k = x) (r := .inr true) (e := .inl ())
    (fun k hk hp => by simp only [dynposref01_Has_L1, lt_len hk, if_true, idx_gt hk, Option.bind_some, Sum.elim_inl, Sum.elim_inr, eqO_self, beqF hp, Bool.false_eq_true, if_false, W_succ (sm_lt hl hk)])
    (fun k hk hp => by simp only [dynposref01_Has_L1, lt_len hk, if_true, idx_gt hk, Option.bind_some, Sum.elim_inl, Sum.elim_inr, eqO_self, beqT hp])
    (by simp only [dynposref01_Has_L1, nlt_len, Bool.false_eq_true, if_false])
  have h' : loopO (dynposref01_Has_L1 l x) 0 = _ := h
  rw [h']
  by_cases he : x ∈ l
  · rw [if_pos (mem_iff_gt.1 he)]; simp [he]
  · rw [if_neg (fun hh => he (mem_iff_gt.2 hh))]; simp [he]

/-- the place of the first x, or -1 -/
theorem index_ge {l : List Int} {x : Int} (hl : Sm l) : ∃ j : Int, slices_Index_int_int l x = some j ∧ (0 ≤ j ↔ x ∈ l) := by
  have h := loop_find (step := slices_Index_int_int_L1 l x) (fun k => (k : Int)) l.length (fun k => x == gt l k) (R := fun k => .inr (k : Int)) (e := .inl ())
    (fun k hk hp => by simp only [slices_Index_int_int_L1, lt_len hk, if_true, idx_gt hk, Option.bind_some, Sum.elim_inl, Sum.elim_inr, eqO_self, hp, Bool.false_eq_true, if_false, W_succ (sm_lt hl hk)])
    (fun k hk hp => by simp only [slices_Index_int_int_L1, lt_len hk, if_true, idx_gt hk, Option.bind_some, Sum.elim_inl, Sum.elim_inr, eqO_self, hp])
    (by simp only [slices_Index_int_int_L1, nlt_len, Bool.false_eq_true, if_false])
  have h' : loopO (slices_Index_int_int_L1 l x) 0 = _ := h
  unfold slices_Index_int_int
  rw [h']
  cases hf : (List.range l.length).find? (fun k => x == gt l k) with
  | none =>
    refine ⟨-1, by simp, by omega, fun hx => ?_⟩
    obtain ⟨k, hk, e⟩ := mem_gt hx
    have := List.find?_eq_none.1 hf k (List.mem_range.2 hk)
    simp [e] at this
  | some k =>
    have hk := List.mem_range.1 (List.mem_of_find?_eq_some hf)
    have hp := List.find?_some hf
    refine ⟨k, by simp, fun _ => ?_, fun _ => by omega⟩
    have e : x = gt l k := by simpa using hp
    rw [e]
    exact gt_mem hk
theorem contains_eq {l : List Int} {x : Int} (hl : Sm l) : slices_Contains_int_int l x = some (decide (x ∈ l)) := by
  obtain ⟨j, h1, h2⟩ := index_ge (x := x) hl
  unfold slices_Contains_int_int
  rw [h1]
  simp only [Option.bind_some, Option.some.injEq, decide_eq_decide]
  exact h2
theorem in_eq (a b c : Int) : board_in a b c = some (decide (b ≤ a ∧ a ≤ c)) := by
  unfold board_in
  by_cases h : b ≤ a <;> simp [h]
theorem source_eq (x : Source) : board_source x = some (decide ((1 ≤ x.Rating ∧ x.Rating ≤ 50000) ∧ (0 ≤ x.Least ∧ x.Least ≤ x.Rating) ∧ 0 ≤ x.Start ∧ x.Start ≤ 600)) := by
  unfold board_source
  simp only [in_eq, Option.bind_some, Sum.elim_inl, Sum.elim_inr, eqO_self]
  by_cases h1 : 1 ≤ x.Rating ∧ x.Rating ≤ 50000 <;> by_cases h2 : 0 ≤ x.Least ∧ x.Least ≤ x.Rating <;> simp [h1, h2]
theorem running_eq (x : Running) : board_running x = some (decide ((0 ≤ x.State ∧ x.State ≤ 3) ∧ (0 ≤ x.Since ∧ x.Since ≤ 2147483648) ∧ (0 ≤ x.Frequency ∧ x.Frequency ≤ 6000) ∧ 0 ≤ x.Phase ∧ x.Phase ≤ 3599)) := by
  unfold board_running
  simp only [in_eq, Option.bind_some, Sum.elim_inl, Sum.elim_inr, eqO_self]
  by_cases h1 : 0 ≤ x.State ∧ x.State ≤ 3 <;> by_cases h2 : 0 ≤ x.Since ∧ x.Since ≤ 2147483648 <;> by_cases h3 : 0 ≤ x.Frequency ∧ x.Frequency ≤ 6000 <;> simp [h1, h2, h3]

/-! consumers -/
def NeedsOk (l : List Int) (k : Nat) : Prop := ∀ i, i < l.length → (0 ≤ gt l i ∧ gt l i ≤ (k : Int) - 1) ∧ (0 < i → gt l (i - 1) < gt l i)
def CsOk (x : Consumer) (k : Nat) : Prop := NeedsOk x.Needs k ∧ (0 ≤ x.Load ∧ x.Load ≤ 50000) ∧ (0 ≤ x.Least ∧ x.Least ≤ x.Load) ∧ (0 ≤ x.Preference ∧ x.Preference ≤ 15) ∧ (-1 ≤ x.Thruster ∧ x.Thruster ≤ 7) ∧ x.Needs.length ≤ 4
theorem consumer_eq {x : Consumer} {k : Nat} (hl : Sm x.Needs) (hk : k ≤ 1000000) : board_consumer x (k : Int) = some (decide (CsOk x k)) := by
  have e0 : W ((k : Int) - 1) = (k : Int) - 1 := W_sm (by omega) (by omega)
  have h := loop_any (step := board_consumer_L1 x (k : Int)) (fun i => (i : Int)) x.Needs.length (fun i => ¬ ((0 ≤ gt x.Needs i ∧ gt x.Needs i ≤ (k : Int) - 1) ∧ (0 < i → gt x.Needs (i - 1) < gt x.Needs i))) (r := .inr false) (e := .inl ())
    (fun i hi hp => by
      obtain ⟨h1, h2⟩ := Classical.not_not.1 hp
      simp only [board_consumer_L1, lt_len hi, if_true, idx_gt hi, Option.bind_some, Sum.elim_inl, Sum.elim_inr, eqO_self, in_eq, e0, dT h1, Bool.not_true, Bool.false_eq_true, if_false]
      by_cases hi0 : 0 < i
      · have h3 := h2 hi0
        rw [dT (c := (i : Int) > 0) (by omega)]
        simp only [if_true, W_pred (sm_lt hl hi) hi0, idx_gt (show i - 1 < x.Needs.length by omega), Option.bind_some, Sum.elim_inl, Sum.elim_inr, eqO_self, dF (c := gt x.Needs (i - 1) ≥ gt x.Needs i) (by omega), Bool.false_eq_true, if_false, W_succ (sm_lt hl hi)]
      · rw [dF (c := (i : Int) > 0) (by omega)]
        simp only [Bool.false_eq_true, if_false, Option.bind_some, Sum.elim_inl, Sum.elim_inr, eqO_self, W_succ (sm_lt hl hi)])
    (fun i hi hp => by
      simp only [board_consumer_L1, lt_len hi, if_true, idx_gt hi, Option.bind_some, Sum.elim_inl, Sum.elim_inr, eqO_self, in_eq, e0]
      by_cases h1 : 0 ≤ gt x.Needs i ∧ gt x.Needs i ≤ (k : Int) - 1
      · have h2 : 0 < i ∧ gt x.Needs i ≤ gt x.Needs (i - 1) := by
          by_cases hi0 : 0 < i
          · refine ⟨hi0, Int.not_lt.1 fun h => hp ⟨h1, fun _ => h⟩⟩
          · exact (hp ⟨h1, fun h => (hi0 h).elim⟩).elim
        rw [dT h1, dT (c := (i : Int) > 0) (by omega)]
        simp only [Bool.not_true, Bool.false_eq_true, if_false, if_true, W_pred (sm_lt hl hi) h2.1, idx_gt (show i - 1 < x.Needs.length by omega), Option.bind_some, Sum.elim_inl, Sum.elim_inr, eqO_self, dT (c := gt x.Needs (i - 1) ≥ gt x.Needs i) (by omega)]
      · rw [dF h1]
        simp only [Bool.not_false, if_true, Option.bind_some, Sum.elim_inl, Sum.elim_inr, eqO_self])
    (by simp only [board_consumer_L1, nlt_len, Bool.false_eq_true, if_false])
  have h' : loopO (board_consumer_L1 x (k : Int)) 0 = _ := h
  unfold board_consumer
  rw [h']
  by_cases hn : NeedsOk x.Needs k
  · rw [if_neg (by rintro ⟨i, hi, hp⟩; exact hp (hn i hi))]
    simp only [Option.bind_some, Sum.elim_inl, Sum.elim_inr, eqO_self, in_eq]
    have e5 : decide (len x.Needs ≤ 4) = decide (x.Needs.length ≤ 4) := by rw [decide_eq_decide]; unfold len; omega
    rw [e5]
    unfold CsOk
    by_cases h1 : 0 ≤ x.Load ∧ x.Load ≤ 50000 <;> by_cases h2 : 0 ≤ x.Least ∧ x.Least ≤ x.Load <;> by_cases h3 : 0 ≤ x.Preference ∧ x.Preference ≤ 15 <;> by_cases h4 : -1 ≤ x.Thruster ∧ x.Thruster ≤ 7 <;> simp [hn, h1, h2, h3, h4]
  · have : ∃ i, i < x.Needs.length ∧ ¬ ((0 ≤ gt x.Needs i ∧ gt x.Needs i ≤ (k : Int) - 1) ∧ (0 < i → gt x.Needs (i - 1) < gt x.Needs i)) := by
      apply Classical.byContradiction
      intro hh
      exact hn fun i hi => Classical.byContradiction fun h => hh ⟨i, hi, h⟩
    rw [if_pos this]
    have hc : ¬ CsOk x k := fun h => hn h.1
    simp [hc]

/-! breakers -/
def isS (x : Breaker) (j : Nat) : Prop := x.Kind = 2 ∧ x.B = (j : Int)
def isC (x : Breaker) (j : Nat) : Prop := x.Kind = 3 ∧ x.B = (j : Int)
def OkAt (b : Board) (k : Nat) : Prop :=
  (0 ≤ (gt b.Breakers k).A ∧ (gt b.Breakers k).A ≤ b.Buses - 1) ∧
  (((gt b.Breakers k).Kind = 1 ∧ (gt b.Breakers k).A + 1 ≤ (gt b.Breakers k).B ∧ (gt b.Breakers k).B ≤ b.Buses - 1) ∨
   ((gt b.Breakers k).Kind = 2 ∧ (0 ≤ (gt b.Breakers k).B ∧ (gt b.Breakers k).B ≤ (b.Sources.length : Int) - 1) ∧ ∀ i, i < k → ¬ ((gt b.Breakers i).Kind = 2 ∧ (gt b.Breakers i).B = (gt b.Breakers k).B)) ∨
   ((gt b.Breakers k).Kind = 3 ∧ (0 ≤ (gt b.Breakers k).B ∧ (gt b.Breakers k).B ≤ (b.Consumers.length : Int) - 1) ∧ ∀ i, i < k → ¬ ((gt b.Breakers i).Kind = 3 ∧ (gt b.Breakers i).B = (gt b.Breakers k).B ∧ (gt b.Breakers i).A = (gt b.Breakers k).A)))
def BrkOk (b : Board) : Prop := (∀ k, k < b.Breakers.length → OkAt b k) ∧ (∀ j, j < b.Sources.length → ∃ k, k < b.Breakers.length ∧ isS (gt b.Breakers k) j) ∧ (∀ j, j < b.Consumers.length → ∃ k, k < b.Breakers.length ∧ isC (gt b.Breakers k) j)

noncomputable def cntS (b : Board) (k j : Nat) : Nat := ((b.Breakers.take k).filter fun x => decide (isS x j)).length
noncomputable def busC (b : Board) (k j : Nat) : List Int := ((b.Breakers.take k).filter fun x => decide (isC x j)).map (·.A)
noncomputable def srcsAt (b : Board) (k : Nat) : List Int := (List.range b.Sources.length).map fun j => (cntS b k j : Int)
noncomputable def consAt (b : Board) (k : Nat) : List (List Int) := (List.range b.Consumers.length).map fun j => busC b k j
theorem cntS_succ {b : Board} {k j : Nat} (hk : k < b.Breakers.length) : cntS b (k + 1) j = cntS b k j + if isS (gt b.Breakers k) j then 1 else 0 := by
  unfold cntS
  rw [take_gt hk, List.filter_append, List.length_append]
  by_cases h : isS (gt b.Breakers k) j <;> simp [h]
theorem busC_succ {b : Board} {k j : Nat} (hk : k < b.Breakers.length) : busC b (k + 1) j = busC b k j ++ if isC (gt b.Breakers k) j then [(gt b.Breakers k).A] else [] := by
  unfold busC
  rw [take_gt hk, List.filter_append, List.map_append]
  by_cases h : isC (gt b.Breakers k) j <;> simp [h]
theorem mem_take_gt {α : Type} [Rep α] {l : List α} {k : Nat} (hk : k ≤ l.length) {x : α} : x ∈ l.take k ↔ ∃ i, i < k ∧ gt l i = x := by
  constructor
  · intro h
    obtain ⟨i, hi, e⟩ := List.getElem_of_mem h
    have hi' : i < k := by simp at hi; omega
    refine ⟨i, hi', ?_⟩
    rw [gt_get (by omega), ← e]
    simp
  · rintro ⟨i, hi, rfl⟩
    rw [gt_get (by omega)]
    exact List.mem_take_iff_getElem.2 ⟨i, by omega, rfl⟩
theorem cntS_zero {b : Board} {k j : Nat} (hk : k ≤ b.Breakers.length) : cntS b k j = 0 ↔ ∀ i, i < k → ¬ isS (gt b.Breakers i) j := by
  unfold cntS
  rw [List.length_eq_zero_iff, List.filter_eq_nil_iff]
  constructor
  · intro h i hi hs
    exact h _ ((mem_take_gt hk).2 ⟨i, hi, rfl⟩) (by simpa using hs)
  · intro h x hx hs
    obtain ⟨i, hi, rfl⟩ := (mem_take_gt hk).1 hx
    exact h i hi (by simpa using hs)
theorem mem_busC {b : Board} {k j : Nat} (hk : k ≤ b.Breakers.length) {a : Int} : a ∈ busC b k j ↔ ∃ i, i < k ∧ isC (gt b.Breakers i) j ∧ (gt b.Breakers i).A = a := by
  unfold busC
  rw [List.mem_map]
  constructor
  · rintro ⟨x, hx, rfl⟩
    rw [List.mem_filter] at hx
    obtain ⟨i, hi, rfl⟩ := (mem_take_gt hk).1 hx.1
    exact ⟨i, hi, by simpa using hx.2, rfl⟩
  · rintro ⟨i, hi, hc, rfl⟩
    exact ⟨_, List.mem_filter.2 ⟨(mem_take_gt hk).2 ⟨i, hi, rfl⟩, by simpa using hc⟩, rfl⟩
theorem busC_len {b : Board} {k j : Nat} (hk : k ≤ b.Breakers.length) : (busC b k j).length ≤ k := by
  unfold busC
  rw [List.length_map]
  refine Nat.le_trans (List.length_filter_le _ _) ?_
  simp; omega

/-- sizes that are not yet refused -/
structure Lim (b : Board) : Prop where
  bus : 1 ≤ b.Buses ∧ b.Buses ≤ 6
  brk : b.Breakers.length ≤ 24
  src : b.Sources.length ≤ 8
  con : b.Consumers.length ≤ 16

theorem breakers_loop {b : Board} (hl : Lim b) : loopO (board_breakers_L1 b) ((0 : Int), srcsAt b 0, consAt b 0) = some (if ∃ k, k < b.Breakers.length ∧ ¬ OkAt b k then .inr false else .inl (srcsAt b b.Breakers.length, consAt b b.Breakers.length)) := by
  have hb := hl.bus
  have hbr := hl.brk
  have hsr := hl.src
  have hco := hl.con
  have eB : W (b.Buses - 1) = b.Buses - 1 := W_sm (by omega) (by omega)
  have hfin := loop_any (step := board_breakers_L1 b) (fun k => ((k : Int), srcsAt b k, consAt b k)) b.Breakers.length (fun k => ¬ OkAt b k) (r := .inr false) (e := .inl (srcsAt b b.Breakers.length, consAt b b.Breakers.length)) ?nx ?ht (by simp only [board_breakers_L1, nlt_len, Bool.false_eq_true, if_false])
  exact hfin.trans (by congr)
  case nx =>
    intro k hk hp
    obtain ⟨hA, hB⟩ := Classical.not_not.1 hp
    have hs : k < 1000000000000000000 := by omega
    have eS : len (srcsAt b k) = (b.Sources.length : Int) := by simp [len, srcsAt]
    have eC : len (consAt b k) = (b.Consumers.length : Int) := by simp [len, consAt]
    have eS1 : W ((b.Sources.length : Int) - 1) = (b.Sources.length : Int) - 1 := W_sm (by omega) (by omega)
    have eC1 : W ((b.Consumers.length : Int) - 1) = (b.Consumers.length : Int) - 1 := W_sm (by omega) (by omega)
    have eA1 : W ((gt b.Breakers k).A + 1) = (gt b.Breakers k).A + 1 := W_sm (by omega) (by omega)
    simp only [board_breakers_L1, lt_len hk, if_true, idx_gt hk, Option.bind_some, Sum.elim_inl, Sum.elim_inr, eqO_self, in_eq, eB, eA1, eS, eC, eS1, eC1, dT hA, Bool.not_true, Bool.false_eq_true, if_false]
    rcases hB with ⟨h1, h2⟩ | ⟨h1, h2, h3⟩ | ⟨h1, h2, h3⟩
    · have n1 : ∀ j, ¬ isS (gt b.Breakers k) j := fun j h => by have := h.1; omega
      have n2 : ∀ j, ¬ isC (gt b.Breakers k) j := fun j h => by have := h.1; omega
      have f1 : srcsAt b (k + 1) = srcsAt b k := List.map_congr_left fun j _ => by rw [cntS_succ hk, if_neg (n1 j)]; rfl
      have f2 : consAt b (k + 1) = consAt b k := List.map_congr_left fun j _ => by rw [busC_succ hk, if_neg (n2 j)]; simp
      simp only [beqT h1, if_true, dT h2, Option.bind_some, Sum.elim_inl, Sum.elim_inr, eqO_self, W_succ hs, f1, f2]
    · have hj : (gt b.Breakers k).B = ((gt b.Breakers k).B.toNat : Int) := by omega
      generalize (gt b.Breakers k).B.toNat = j at hj
      rw [hj] at h2 h3
      have hjl : j < b.Sources.length := by omega
      have hz : cntS b k j = 0 := (cntS_zero (by omega)).2 fun i hi h => h3 i hi h
      have hg : gt (srcsAt b k) j = 0 := by unfold srcsAt; rw [gt_map_range _ hjl, hz]; rfl
      have hln : (srcsAt b k).length = b.Sources.length := by simp [srcsAt]
      have n2 : ∀ j, ¬ isC (gt b.Breakers k) j := fun j h => by have := h.1; omega
      have f2 : consAt b (k + 1) = consAt b k := List.map_congr_left fun j _ => by rw [busC_succ hk, if_neg (n2 j)]; simp
      have f1 : (srcsAt b k).set j (W (0 + 1)) = srcsAt b (k + 1) := by
        apply ext_gt
        · simp [srcsAt]
        · intro i hi
          have hi' : i < b.Sources.length := by simpa [srcsAt] using hi
          rw [gt_set (by omega)]
          unfold srcsAt
          rw [gt_map_range _ hi', gt_map_range _ hi', cntS_succ hk]
          by_cases hij : i = j
          · subst hij
            rw [if_pos rfl, if_pos ⟨h1, hj⟩, hz]
            rfl
          · rw [if_neg hij, if_neg (fun h => hij (by have := h.2; omega))]
            rfl
      have k1 : ((gt b.Breakers k).Kind == 1) = false := beqF (by omega)
      simp only [k1, beqT h1, if_true, if_false, Bool.false_eq_true, Option.bind_some, Sum.elim_inl, Sum.elim_inr, eqO_self, hj, dT h2, idx_gt (show j < (srcsAt b k).length by omega), hg, beq_self_eq_true, setO_nat (show j < (srcsAt b k).length by omega), f1, f2, W_succ hs]
    · have hj : (gt b.Breakers k).B = ((gt b.Breakers k).B.toNat : Int) := by omega
      generalize (gt b.Breakers k).B.toNat = j at hj
      rw [hj] at h2 h3
      have hjl : j < b.Consumers.length := by omega
      have hnc : (gt b.Breakers k).A ∉ busC b k j := fun h => by
        obtain ⟨i, hi, hc, ha⟩ := (mem_busC (by omega)).1 h
        exact h3 i hi ⟨hc.1, hc.2, ha⟩
      have hg : gt (consAt b k) j = busC b k j := by unfold consAt; rw [gt_map_range _ hjl]
      have hln : (consAt b k).length = b.Consumers.length := by simp [consAt]
      have hln' : (consAt b (k + 1)).length = b.Consumers.length := by simp [consAt]
      have hbl := busC_len (b := b) (k := k) (j := j) (by omega)
      have n1 : ∀ j, ¬ isS (gt b.Breakers k) j := fun j h => by have := h.1; omega
      have f1 : srcsAt b (k + 1) = srcsAt b k := List.map_congr_left fun j _ => by rw [cntS_succ hk, if_neg (n1 j)]; rfl
      have f2 : (consAt b k).set j (busC b k j ++ [(gt b.Breakers k).A]) = consAt b (k + 1) := by
        apply ext_gt
        · simp [consAt]
        · intro i hi
          have hi' : i < b.Consumers.length := by simpa [consAt] using hi
          rw [gt_set (by omega)]
          unfold consAt
          rw [gt_map_range _ hi', gt_map_range _ hi', busC_succ hk]
          by_cases hij : i = j
          · subst hij
            rw [if_pos rfl, if_pos ⟨h1, hj⟩]
          · rw [if_neg hij, if_neg (fun h => hij (by have := h.2; omega))]
            simp
      have k1 : ((gt b.Breakers k).Kind == 1) = false := beqF (by omega)
      have k2 : ((gt b.Breakers k).Kind == 2) = false := beqF (by omega)
      have hsm : Sm (busC b k j) := by unfold Sm; omega
      simp only [k1, k2, beqT h1, if_true, if_false, Bool.false_eq_true, Option.bind_some, Sum.elim_inl, Sum.elim_inr, eqO_self, hj, dT h2, idx_gt (show j < (consAt b k).length by omega), hg, contains_eq hsm, dF hnc, idx_gt (show j < (consAt b (k + 1)).length by omega), Bool.not_false, app_sm (show (busC b k j).length + [(gt b.Breakers k).A].length ≤ 1073741824 by simp; omega), setO_nat (show j < (consAt b k).length by omega), f1, f2, W_succ hs]
  case ht =>
    intro k hk hp
    have hs : k < 1000000000000000000 := by omega
    have eS : len (srcsAt b k) = (b.Sources.length : Int) := by simp [len, srcsAt]
    have eC : len (consAt b k) = (b.Consumers.length : Int) := by simp [len, consAt]
    have eS1 : W ((b.Sources.length : Int) - 1) = (b.Sources.length : Int) - 1 := W_sm (by omega) (by omega)
    have eC1 : W ((b.Consumers.length : Int) - 1) = (b.Consumers.length : Int) - 1 := W_sm (by omega) (by omega)
    by_cases hA : 0 ≤ (gt b.Breakers k).A ∧ (gt b.Breakers k).A ≤ b.Buses - 1
    · have eA1 : W ((gt b.Breakers k).A + 1) = (gt b.Breakers k).A + 1 := W_sm (by omega) (by omega)
      simp only [board_breakers_L1, lt_len hk, if_true, idx_gt hk, Option.bind_some, Sum.elim_inl, Sum.elim_inr, eqO_self, in_eq, eB, eA1, eS, eC, eS1, eC1, dT hA, Bool.not_true, Bool.false_eq_true, if_false]
      by_cases k1 : (gt b.Breakers k).Kind = 1
      · have h2 : ¬ ((gt b.Breakers k).A + 1 ≤ (gt b.Breakers k).B ∧ (gt b.Breakers k).B ≤ b.Buses - 1) := fun h => hp ⟨hA, .inl ⟨k1, h⟩⟩
        have k2 : ((gt b.Breakers k).Kind == 2) = false := beqF (by omega)
        have k3 : ((gt b.Breakers k).Kind == 3) = false := beqF (by omega)
        simp only [beqT k1, k2, k3, if_true, if_false, Bool.false_eq_true, dF h2, Option.bind_some, Sum.elim_inl, Sum.elim_inr, eqO_self]
      · by_cases k2 : (gt b.Breakers k).Kind = 2
        · have k3 : ((gt b.Breakers k).Kind == 3) = false := beqF (by omega)
          by_cases h2 : 0 ≤ (gt b.Breakers k).B ∧ (gt b.Breakers k).B ≤ (b.Sources.length : Int) - 1
          · have hj : (gt b.Breakers k).B = ((gt b.Breakers k).B.toNat : Int) := by omega
            have hjl : (gt b.Breakers k).B.toNat < b.Sources.length := by omega
            have hne : gt (srcsAt b k) (gt b.Breakers k).B.toNat ≠ 0 := by
              unfold srcsAt
              rw [gt_map_range _ hjl]
              intro h0
              have hz : cntS b k (gt b.Breakers k).B.toNat = 0 := by omega
              refine hp ⟨hA, .inr (.inl ⟨k2, h2, fun i hi h => (cntS_zero (by omega)).1 hz i hi ⟨h.1, by rw [h.2]; exact hj⟩⟩)⟩
            have hln : (srcsAt b k).length = b.Sources.length := by simp [srcsAt]
            simp only [beqF k1, beqT k2, k3, if_true, if_false, Bool.false_eq_true, dT h2, Option.bind_some, Sum.elim_inl, Sum.elim_inr, eqO_self, idx_gtZ h2.1 (show (gt b.Breakers k).B < ((srcsAt b k).length : Int) by omega), beqF hne]
          · simp only [beqF k1, beqT k2, k3, if_true, if_false, Bool.false_eq_true, dF h2, Option.bind_some, Sum.elim_inl, Sum.elim_inr, eqO_self]
        · by_cases k3 : (gt b.Breakers k).Kind = 3
          · by_cases h2 : 0 ≤ (gt b.Breakers k).B ∧ (gt b.Breakers k).B ≤ (b.Consumers.length : Int) - 1
            · have hj : (gt b.Breakers k).B = ((gt b.Breakers k).B.toNat : Int) := by omega
              have hjl : (gt b.Breakers k).B.toNat < b.Consumers.length := by omega
              have hg : gt (consAt b k) (gt b.Breakers k).B.toNat = busC b k (gt b.Breakers k).B.toNat := by unfold consAt; rw [gt_map_range _ hjl]
              have hmem : (gt b.Breakers k).A ∈ busC b k (gt b.Breakers k).B.toNat := by
                apply Classical.byContradiction
                intro hn
                refine hp ⟨hA, .inr (.inr ⟨k3, h2, fun i hi h => hn ((mem_busC (by omega)).2 ⟨i, hi, ⟨h.1, by rw [h.2.1]; exact hj⟩, h.2.2⟩)⟩)⟩
              have hln : (consAt b k).length = b.Consumers.length := by simp [consAt]
              have hbl := busC_len (b := b) (k := k) (j := (gt b.Breakers k).B.toNat) (by omega)
              have hsm : Sm (busC b k (gt b.Breakers k).B.toNat) := by unfold Sm; omega
              simp only [beqF k1, beqF k2, beqT k3, if_true, if_false, Bool.false_eq_true, dT h2, Option.bind_some, Sum.elim_inl, Sum.elim_inr, eqO_self, idx_gtZ h2.1 (show (gt b.Breakers k).B < ((consAt b k).length : Int) by omega), hg, contains_eq hsm, dT hmem, Bool.not_true]
            · simp only [beqF k1, beqF k2, beqT k3, if_true, if_false, Bool.false_eq_true, dF h2, Option.bind_some, Sum.elim_inl, Sum.elim_inr, eqO_self]
          · simp only [beqF k1, beqF k2, beqF k3, if_false, Bool.false_eq_true, Option.bind_some, Sum.elim_inl, Sum.elim_inr, eqO_self]
    · simp only [board_breakers_L1, lt_len hk, if_true, idx_gt hk, Option.bind_some, Sum.elim_inl, Sum.elim_inr, eqO_self, in_eq, eB, dF hA, Bool.not_false]

end Rx
end Go.Proofs.YtfnphdhcgkondaaGreat
