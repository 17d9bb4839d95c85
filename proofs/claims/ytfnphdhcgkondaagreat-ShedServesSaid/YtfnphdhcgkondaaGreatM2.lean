/- Board: the check of a board and of a state, exactly. Plain laws. -/
import Derived.Test.YtfnphdhcgkondaaGreatM1
set_option linter.unusedVariables false
set_option linter.unusedSimpArgs false
namespace Go.Proofs.YtfnphdhcgkondaaGreat
open Go Go.RowKit Dp
namespace Rx
open Classical

theorem zero_mem_srcs {b : Board} : (0 : Int) ∈ srcsAt b b.Breakers.length ↔ ∃ j, j < b.Sources.length ∧ ∀ k, k < b.Breakers.length → ¬ isS (gt b.Breakers k) j := by
  unfold srcsAt
  rw [List.mem_map]
  constructor
  · rintro ⟨j, hj, h⟩
    exact ⟨j, List.mem_range.1 hj, (cntS_zero (Nat.le_refl _)).1 (by omega)⟩
  · rintro ⟨j, hj, h⟩
    exact ⟨j, List.mem_range.2 hj, by rw [(cntS_zero (Nat.le_refl _)).2 h]; rfl⟩
theorem containsEmpty_eq {l : List (List Int)} (hl : Sm l) : slices_ContainsFunc_int_int l = some (decide (∃ k, k < l.length ∧ gt l k = [])) := by
  have h := loop_find (step := slices_IndexFunc_int_int_L1 l) (fun k => (k : Int)) l.length (fun k => (len (gt l k) == 0)) (R := fun k => .inr (k : Int)) (e := .inl ())
    (fun k hk hp => by simp only [slices_IndexFunc_int_int_L1, board_breakers_1, lt_len hk, if_true, idx_gt hk, Option.bind_some, Option.bind_fun_some, Sum.elim_inl, Sum.elim_inr, eqO_self, hp, Bool.false_eq_true, if_false, W_succ (sm_lt hl hk)])
    (fun k hk hp => by simp only [slices_IndexFunc_int_int_L1, board_breakers_1, lt_len hk, if_true, idx_gt hk, Option.bind_some, Option.bind_fun_some, Sum.elim_inl, Sum.elim_inr, eqO_self, hp])
    (by simp only [slices_IndexFunc_int_int_L1, nlt_len, Bool.false_eq_true, if_false])
  have h' : loopO (slices_IndexFunc_int_int_L1 l) 0 = _ := h
  unfold slices_ContainsFunc_int_int slices_IndexFunc_int_int
  rw [h']
  have hz : ∀ k, (len (gt l k) == 0) = true ↔ gt l k = [] := fun k => by simp [len]
  cases hf : (List.range l.length).find? (fun k => (len (gt l k) == 0)) with
  | none =>
    have : ¬ ∃ k, k < l.length ∧ gt l k = [] := fun ⟨k, hk, e⟩ => by
      have := List.find?_eq_none.1 hf k (List.mem_range.2 hk)
      exact this ((hz k).2 e)
    simp [this]
  | some k =>
    have hk := List.mem_range.1 (List.mem_of_find?_eq_some hf)
    have hp := (hz k).1 (List.find?_some (p := fun k => (len (gt l k) == 0)) hf)
    have : ∃ k, k < l.length ∧ gt l k = [] := ⟨k, hk, hp⟩
    simp [this]
theorem breakers_eq {b : Board} (hl : Lim b) : board_breakers b = some (decide (BrkOk b)) := by
  have hbr := hl.brk
  have hsr := hl.src
  have hco := hl.con
  have e1 : mkZ (0 : Int) (len b.Sources) = some (srcsAt b 0) := by
    rw [len_nat, mkZ_nat (by omega)]
    congr 1
    apply ext_gt
    · simp [srcsAt]
    · intro k hk
      have hk' : k < b.Sources.length := by simpa using hk
      rw [gt_replicate hk']
      unfold srcsAt
      rw [gt_map_range _ hk']
      simp [cntS]
  have e2 : mkZ ([] : List Int) (len b.Consumers) = some (consAt b 0) := by
    rw [len_nat, mkZ_nat (by omega)]
    congr 1
    apply ext_gt
    · simp [consAt]
    · intro k hk
      have hk' : k < b.Consumers.length := by simpa using hk
      rw [gt_replicate hk']
      unfold consAt
      rw [gt_map_range _ hk']
      simp [busC]
  have hloop := breakers_loop hl
  unfold board_breakers
  simp only [e1, e2, Option.bind_some, Option.bind_fun_some, Sum.elim_inl, Sum.elim_inr, eqO_self, hloop]
  by_cases hall : ∀ k, k < b.Breakers.length → OkAt b k
  · rw [if_neg (by rintro ⟨k, hk, h⟩; exact h (hall k hk))]
    have s1 : Sm (srcsAt b b.Breakers.length) := by unfold Sm; simp [srcsAt]; omega
    have s2 : Sm (consAt b b.Breakers.length) := by unfold Sm; simp [consAt]; omega
    have hcl : (consAt b b.Breakers.length).length = b.Consumers.length := by simp [consAt]
    simp only [Option.bind_some, Option.bind_fun_some, Sum.elim_inl, Sum.elim_inr, eqO_self, Sum.elim_inl, contains_eq s1, containsEmpty_eq s2]
    by_cases h0 : (0 : Int) ∈ srcsAt b b.Breakers.length
    · have : ¬ BrkOk b := fun h => by
        obtain ⟨j, hj, hn⟩ := zero_mem_srcs.1 h0
        obtain ⟨k, hk, hs⟩ := h.2.1 j hj
        exact hn k hk hs
      simp [h0, this]
    · have hS : ∀ j, j < b.Sources.length → ∃ k, k < b.Breakers.length ∧ isS (gt b.Breakers k) j := fun j hj => by
        apply Classical.byContradiction
        intro hn
        exact h0 (zero_mem_srcs.2 ⟨j, hj, fun k hk hs => hn ⟨k, hk, hs⟩⟩)
      by_cases hE : ∃ k, k < (consAt b b.Breakers.length).length ∧ gt (consAt b b.Breakers.length) k = []
      · have : ¬ BrkOk b := fun h => by
          obtain ⟨j, hj, he⟩ := hE
          rw [hcl] at hj
          obtain ⟨k, hk, hc⟩ := h.2.2 j hj
          unfold consAt at he
          rw [gt_map_range _ hj] at he
          have : (gt b.Breakers k).A ∈ busC b b.Breakers.length j := (mem_busC (Nat.le_refl _)).2 ⟨k, hk, hc, rfl⟩
          rw [he] at this
          cases this
        simp [h0, hE, this]
      · have : BrkOk b := ⟨hall, hS, fun j hj => by
          apply Classical.byContradiction
          intro hn
          refine hE ⟨j, by rw [hcl]; exact hj, ?_⟩
          unfold consAt
          rw [gt_map_range _ hj]
          apply List.eq_nil_iff_forall_not_mem.2
          intro a ha
          obtain ⟨i, hi, hc, _⟩ := (mem_busC (Nat.le_refl _)).1 ha
          exact hn ⟨i, hi, hc⟩⟩
        simp [h0, hE, this]
  · have : ∃ k, k < b.Breakers.length ∧ ¬ OkAt b k := by
      apply Classical.byContradiction
      intro hn
      exact hall fun k hk => Classical.byContradiction fun h => hn ⟨k, hk, h⟩
    rw [if_pos this]
    have : ¬ BrkOk b := fun h => hall h.1
    simp [this]

def SrcOk (x : Source) : Prop := (1 ≤ x.Rating ∧ x.Rating ≤ 50000) ∧ (0 ≤ x.Least ∧ x.Least ≤ x.Rating) ∧ 0 ≤ x.Start ∧ x.Start ≤ 600
def BGood (b : Board) : Prop := BrkOk b ∧ (0 ≤ b.Phase ∧ b.Phase ≤ 1800) ∧ (0 ≤ b.Frequency ∧ b.Frequency ≤ 6000) ∧ (∀ k, k < b.Sources.length → SrcOk (gt b.Sources k)) ∧ ∀ k, k < b.Consumers.length → CsOk (gt b.Consumers k) k
noncomputable def chk (b : Board) : Int := if Lim b then (if BGood b then 0 else 14) else 2
/-- the lists within are such that Go can count them -/
def SmB (b : Board) : Prop := Sm b.Breakers ∧ Sm b.Sources ∧ Sm b.Consumers ∧ ∀ x ∈ b.Consumers, Sm x.Needs

theorem source_ok (x : Source) : board_source x = some (decide (SrcOk x)) := by
  rw [source_eq]
  congr 1
  rw [decide_eq_decide]
  exact Iff.rfl
theorem dB_d (p : Prop) [Decidable p] : decide p = dB p := by
  by_cases h : p
  · rw [dT h, dB_T h]
  · rw [dF h, dB_F h]
theorem dB_self (r : Bool) {S : Prop} (h : S) : r = dB (r = true ∧ S) := by
  cases r
  · rw [dB_F (fun h => by cases h.1)]
  · rw [dB_T ⟨rfl, h⟩]
theorem fin_eq {r : Bool} {S C G : Prop} (h : (r = true ∧ S) ∧ C ↔ G) : (if (!dB (dB (r = true ∧ S) = true ∧ C)) = true then some (14 : Int) else some 0) = some (if G then 0 else 14) := by
  by_cases hg : G
  · obtain ⟨h1, h2⟩ := h.2 hg
    rw [dB_T h1, dB_T (p := true = true ∧ C) ⟨rfl, h2⟩, if_pos hg]
    rfl
  · by_cases h1 : r = true ∧ S
    · rw [dB_T h1, dB_F (p := true = true ∧ C) (fun h2 => hg (h.1 ⟨h1, h2.2⟩)), if_neg hg]
      rfl
    · rw [dB_F h1, dB_F (p := false = true ∧ C) (fun h2 => by cases h2.1), if_neg hg]
      rfl
theorem fin_eq2 {r : Bool} {S G : Prop} (h : (r = true ∧ S) ↔ G) : (if (!dB (r = true ∧ S)) = true then some (11 : Int) else some 0) = some (if G then 0 else 11) := by
  by_cases hg : G
  · rw [dB_T (h.2 hg), if_pos hg]
    rfl
  · rw [dB_F (fun h1 => hg (h.1 h1)), if_neg hg]
    rfl
theorem srcs_loop {b : Board} (hl : Lim b) (r : Bool) : loopO (board_Check_L1 b) (r, (0 : Int)) = some (dB (r = true ∧ ∀ k, k < b.Sources.length → SrcOk (gt b.Sources k))) := by
  have hsr := hl.src
  have h := loop_run (step := board_Check_L1 b) (fun k => (dB (r = true ∧ ∀ i, i < k → SrcOk (gt b.Sources i)), (k : Int))) b.Sources.length (r := dB (r = true ∧ ∀ i, i < b.Sources.length → SrcOk (gt b.Sources i)))
    (fun k hk => by
      simp only [board_Check_L1, lt_len hk, if_true, idx_gt hk, Option.bind_some, Option.bind_fun_some, Sum.elim_inl, Sum.elim_inr, eqO_self, source_ok, W_succ (show k < 1000000000000000000 by omega)]
      by_cases h1 : r = true ∧ ∀ i, i < k → SrcOk (gt b.Sources i)
      · have e : dB (r = true ∧ ∀ i, i < k + 1 → SrcOk (gt b.Sources i)) = decide (SrcOk (gt b.Sources k)) := by
          rw [dB_d]
          apply dB_congr
          refine ⟨fun h => h.2 k (by omega), fun h => ⟨h1.1, fun i hi => ?_⟩⟩
          by_cases hik : i = k
          · subst hik; exact h
          · exact h1.2 i (by omega)
        rw [dB_T h1, e]
        rfl
      · have h2 : ¬ (r = true ∧ ∀ i, i < k + 1 → SrcOk (gt b.Sources i)) := fun h => h1 ⟨h.1, fun i hi => h.2 i (by omega)⟩
        rw [dB_F h1, dB_F h2]
        rfl)
    (by simp only [board_Check_L1, nlt_len, Bool.false_eq_true, if_false])
  have e0 : r = dB (r = true ∧ ∀ i, i < 0 → SrcOk (gt b.Sources i)) := dB_self r (fun i hi => by omega)
  exact (congrArg (fun q => loopO (board_Check_L1 b) (q, (0 : Int))) e0).trans h
theorem cons_loop {b : Board} (hl : Lim b) (hs : SmB b) (r : Bool) : loopO (board_Check_L2 b) (r, (0 : Int)) = some (dB (r = true ∧ ∀ k, k < b.Consumers.length → CsOk (gt b.Consumers k) k)) := by
  have hco := hl.con
  have h := loop_run (step := board_Check_L2 b) (fun k => (dB (r = true ∧ ∀ i, i < k → CsOk (gt b.Consumers i) i), (k : Int))) b.Consumers.length (r := dB (r = true ∧ ∀ i, i < b.Consumers.length → CsOk (gt b.Consumers i) i))
    (fun k hk => by
      simp only [board_Check_L2, lt_len hk, if_true, idx_gt hk, Option.bind_some, Option.bind_fun_some, Sum.elim_inl, Sum.elim_inr, eqO_self, consumer_eq (hs.2.2.2 _ (gt_mem hk)) (show k ≤ 1000000 by omega), W_succ (show k < 1000000000000000000 by omega)]
      by_cases h1 : r = true ∧ ∀ i, i < k → CsOk (gt b.Consumers i) i
      · have e : dB (r = true ∧ ∀ i, i < k + 1 → CsOk (gt b.Consumers i) i) = decide (CsOk (gt b.Consumers k) k) := by
          rw [dB_d]
          apply dB_congr
          refine ⟨fun h => h.2 k (by omega), fun h => ⟨h1.1, fun i hi => ?_⟩⟩
          by_cases hik : i = k
          · subst hik; exact h
          · exact h1.2 i (by omega)
        rw [dB_T h1, e]
        rfl
      · have h2 : ¬ (r = true ∧ ∀ i, i < k + 1 → CsOk (gt b.Consumers i) i) := fun h => h1 ⟨h.1, fun i hi => h.2 i (by omega)⟩
        rw [dB_F h1, dB_F h2]
        rfl)
    (by simp only [board_Check_L2, nlt_len, Bool.false_eq_true, if_false])
  have e0 : r = dB (r = true ∧ ∀ i, i < 0 → CsOk (gt b.Consumers i) i) := dB_self r (fun i hi => by omega)
  exact (congrArg (fun q => loopO (board_Check_L2 b) (q, (0 : Int))) e0).trans h
theorem check_eq {b : Board} (hs : SmB b) : board_Check b = some (chk b) := by
  unfold board_Check chk
  simp only [in_eq, Option.bind_some, Option.bind_fun_some, Sum.elim_inl, Sum.elim_inr, eqO_self]
  by_cases h1 : 1 ≤ b.Buses ∧ b.Buses ≤ 6
  case neg =>
    have : ¬ Lim b := fun h => h1 h.bus
    simp [h1, this]
  by_cases h2 : b.Breakers.length ≤ 24
  case neg =>
    have : ¬ Lim b := fun h => h2 h.brk
    have e : decide (len b.Breakers > 24) = true := dT (by unfold len; omega)
    simp [h1, this, e]
  by_cases h3 : b.Sources.length ≤ 8
  case neg =>
    have : ¬ Lim b := fun h => h3 h.src
    have e1 : decide (len b.Breakers > 24) = false := dF (by unfold len; omega)
    have e : decide (len b.Sources > 8) = true := dT (by unfold len; omega)
    simp [h1, this, e, e1]
  by_cases h4 : b.Consumers.length ≤ 16
  case neg =>
    have : ¬ Lim b := fun h => h4 h.con
    have e1 : decide (len b.Breakers > 24) = false := dF (by unfold len; omega)
    have e2 : decide (len b.Sources > 8) = false := dF (by unfold len; omega)
    have e : decide (len b.Consumers > 16) = true := dT (by unfold len; omega)
    simp [h1, this, e, e1, e2]
  have hl : Lim b := ⟨h1, h2, h3, h4⟩
  have e1 : decide (len b.Breakers > 24) = false := dF (by unfold len; omega)
  have e2 : decide (len b.Sources > 8) = false := dF (by unfold len; omega)
  have e3 : decide (len b.Consumers > 16) = false := dF (by unfold len; omega)
  simp only [dT h1, e1, e2, e3, Bool.not_true, Bool.false_eq_true, if_false, Option.bind_some, Option.bind_fun_some, Sum.elim_inl, Sum.elim_inr, eqO_self, breakers_eq hl, if_pos hl]
  by_cases g1 : BrkOk b
  case neg =>
    simp only [dF g1, Bool.false_eq_true, if_false, Option.bind_some, Option.bind_fun_some, Sum.elim_inl, Sum.elim_inr, eqO_self]
    rw [srcs_loop hl, Option.bind_some, cons_loop hl hs, Option.bind_some]
    exact fin_eq (r := false) ⟨(fun h => by cases h.1.1), fun h => (g1 h.1).elim⟩
  by_cases g2 : 0 ≤ b.Phase ∧ b.Phase ≤ 1800
  case neg =>
    simp only [dT g1, dF g2, Bool.false_eq_true, if_false, if_true, Option.bind_some, Option.bind_fun_some, Sum.elim_inl, Sum.elim_inr, eqO_self]
    rw [srcs_loop hl, Option.bind_some, cons_loop hl hs, Option.bind_some]
    exact fin_eq (r := false) ⟨(fun h => by cases h.1.1), fun h => (g2 h.2.1).elim⟩
  by_cases g3 : 0 ≤ b.Frequency ∧ b.Frequency ≤ 6000
  case neg =>
    simp only [dT g1, dT g2, dF g3, Bool.false_eq_true, if_false, if_true, Option.bind_some, Option.bind_fun_some, Sum.elim_inl, Sum.elim_inr, eqO_self]
    rw [srcs_loop hl, Option.bind_some, cons_loop hl hs, Option.bind_some]
    exact fin_eq (r := false) ⟨(fun h => by cases h.1.1), fun h => (g3 h.2.2.1).elim⟩
  rw [dT g1, dT g2, dT g3]
  simp only [if_true, Option.bind_some, Option.bind_fun_some, Sum.elim_inl, Sum.elim_inr, eqO_self]
  rw [srcs_loop hl, Option.bind_some, cons_loop hl hs, Option.bind_some]
  exact fin_eq (r := true) ⟨fun h => ⟨g1, g2, g3, h.1.2, h.2⟩, fun h => ⟨⟨rfl, h.2.2.2.1⟩, h.2.2.2.2⟩⟩

/-! states -/
theorem compare_eq (a b : Int) : cmp_Compare_int a b = some (if a < b then -1 else if b < a then 1 else 0) := by
  unfold cmp_Compare_int cmp_isNaN_int
  by_cases h1 : a < b <;> by_cases h2 : b < a <;> simp [h1, h2]
theorem or2_eq (a b : Int) : cmp_Or_int [a, b] = some (if a ≠ 0 then a else b) := by
  have hl : len [a, b] = 2 := rfl
  have i0 : idx [a, b] 0 = some a := rfl
  have i1 : idx [a, b] 1 = some b := rfl
  have w1 : W 1 = 1 := W_sm (by omega) (by omega)
  have w2 : W 2 = 2 := W_sm (by omega) (by omega)
  unfold cmp_Or_int
  by_cases ha : a = 0
  · subst ha
    have s0 : cmp_Or_int_L1 [0, b] 0 = some (.inl 1) := by simp [cmp_Or_int_L1, hl, i0, w1]
    by_cases hb : b = 0
    · subst hb
      have s1 : cmp_Or_int_L1 [0, 0] 1 = some (.inl 2) := by simp [cmp_Or_int_L1, hl, i1, w2]
      have s2 : cmp_Or_int_L1 [0, 0] 2 = some (.inr (.inl ())) := by simp [cmp_Or_int_L1, hl]
      rw [loopO_of (.more s0 (.more s1 (.done s2))) (by omega)]
      rfl
    · have s1 : cmp_Or_int_L1 [0, b] 1 = some (.inr (.inr b)) := by simp [cmp_Or_int_L1, hl, i1, hb]
      rw [loopO_of (.more s0 (.done s1)) (by omega)]
      simp
  · have s0 : cmp_Or_int_L1 [a, b] 0 = some (.inr (.inr a)) := by simp [cmp_Or_int_L1, hl, i0, ha]
    rw [loopO_of (.done s0) (by omega)]
    simp [ha]
noncomputable def bsize (b : Board) (kind : Int) : Int := if kind = 1 then b.Sources.length else if kind = 2 then b.Breakers.length else if kind = 3 then b.Buses else if kind = 4 then b.Consumers.length else 0
theorem size_eq (b : Board) (k : Int) : board_size b k = some (bsize b k) := by
  unfold board_size bsize
  by_cases h1 : k = 1 <;> by_cases h2 : k = 2 <;> by_cases h3 : k = 3 <;> by_cases h4 : k = 4 <;> simp [h1, h2, h3, h4, len]
def before (x y : Part) : Prop := x.Kind < y.Kind ∨ x.Kind = y.Kind ∧ x.Number < y.Number
def BrokenAt (b : Board) (l : List Part) (k : Nat) : Prop := (0 ≤ (gt l k).Number ∧ (gt l k).Number ≤ bsize b (gt l k).Kind - 1) ∧ (0 < k → before (gt l (k - 1)) (gt l k))
theorem cmpPart (x y : Part) : decide ((if (if x.Kind < y.Kind then (-1 : Int) else if y.Kind < x.Kind then 1 else 0) ≠ 0 then (if x.Kind < y.Kind then (-1 : Int) else if y.Kind < x.Kind then 1 else 0) else (if x.Number < y.Number then (-1 : Int) else if y.Number < x.Number then 1 else 0)) ≥ 0) = decide (¬ before x y) := by
  rw [decide_eq_decide]
  unfold before
  by_cases h1 : x.Kind < y.Kind
  · simp [h1]
  · by_cases h2 : y.Kind < x.Kind
    · simp [h1, h2]; omega
    · by_cases h3 : x.Number < y.Number
      · simp [h1, h2, h3]; omega
      · by_cases h4 : y.Number < x.Number
        · simp [h1, h2, h3, h4]
        · simp [h1, h2, h3, h4]
theorem broken_eq {b : Board} {l : List Part} (hb : Lim b) (hl : Sm l) : board_broken b l = some (decide ((∀ k, k < l.length → BrokenAt b l k) ∧ l.length ≤ 32)) := by
  have h1 := hb.bus
  have h2 := hb.brk
  have h3 := hb.src
  have h4 := hb.con
  have eW : ∀ k, W (bsize b k - 1) = bsize b k - 1 := fun k => by
    apply W_sm <;> unfold bsize <;> (repeat' split) <;> omega
  have h := loop_any (step := board_broken_L1 b l) (fun i => (i : Int)) l.length (fun i => ¬ BrokenAt b l i) (r := .inr false) (e := .inl ())
    (fun i hi hp => by
      obtain ⟨p1, p2⟩ := Classical.not_not.1 hp
      simp only [board_broken_L1, lt_len hi, if_true, idx_gt hi, Option.bind_some, Option.bind_fun_some, Sum.elim_inl, Sum.elim_inr, eqO_self, size_eq, in_eq, eW, dT p1, Bool.not_true, Bool.false_eq_true, if_false]
      by_cases hi0 : 0 < i
      · have p3 := p2 hi0
        rw [dT (c := (i : Int) > 0) (by omega)]
        simp only [if_true, W_pred (sm_lt hl hi) hi0, idx_gt (show i - 1 < l.length by omega), Option.bind_some, Option.bind_fun_some, Sum.elim_inl, Sum.elim_inr, eqO_self, compare_eq, or2_eq, cmpPart, dF (c := ¬ before (gt l (i - 1)) (gt l i)) (fun h => h p3), Bool.false_eq_true, if_false, W_succ (sm_lt hl hi)]
      · rw [dF (c := (i : Int) > 0) (by omega)]
        simp only [Bool.false_eq_true, if_false, Option.bind_some, Option.bind_fun_some, Sum.elim_inl, Sum.elim_inr, eqO_self, W_succ (sm_lt hl hi)])
    (fun i hi hp => by
      simp only [board_broken_L1, lt_len hi, if_true, idx_gt hi, Option.bind_some, Option.bind_fun_some, Sum.elim_inl, Sum.elim_inr, eqO_self, size_eq, in_eq, eW]
      by_cases p1 : 0 ≤ (gt l i).Number ∧ (gt l i).Number ≤ bsize b (gt l i).Kind - 1
      · have p2 : 0 < i ∧ ¬ before (gt l (i - 1)) (gt l i) := by
          by_cases hi0 : 0 < i
          · exact ⟨hi0, fun h => hp ⟨p1, fun _ => h⟩⟩
          · exact (hp ⟨p1, fun h => (hi0 h).elim⟩).elim
        rw [dT p1, dT (c := (i : Int) > 0) (by omega)]
        simp only [Bool.not_true, Bool.false_eq_true, if_false, if_true, W_pred (sm_lt hl hi) p2.1, idx_gt (show i - 1 < l.length by omega), Option.bind_some, Option.bind_fun_some, Sum.elim_inl, Sum.elim_inr, eqO_self, compare_eq, or2_eq, cmpPart, dT p2.2]
      · rw [dF p1]
        simp only [Bool.not_false, if_true, Option.bind_some, Option.bind_fun_some, Sum.elim_inl, Sum.elim_inr, eqO_self])
    (by simp only [board_broken_L1, nlt_len, Bool.false_eq_true, if_false])
  have h' : loopO (board_broken_L1 b l) 0 = _ := h
  unfold board_broken
  rw [h']
  by_cases hn : ∀ k, k < l.length → BrokenAt b l k
  · rw [if_neg (by rintro ⟨i, hi, hp⟩; exact hp (hn i hi))]
    show some (decide (len l ≤ 32)) = _
    congr 1
    rw [decide_eq_decide]
    unfold len
    exact ⟨fun h => ⟨hn, by omega⟩, fun h => by have := h.2; omega⟩
  · have : ∃ i, i < l.length ∧ ¬ BrokenAt b l i := by
      apply Classical.byContradiction
      intro hh
      exact hn fun i hi => Classical.byContradiction fun h => hh ⟨i, hi, h⟩
    rw [if_pos this, dF (c := (∀ k, k < l.length → BrokenAt b l k) ∧ l.length ≤ 32) (fun h => hn h.1)]
    rfl
def RunOk (x : Running) : Prop := (0 ≤ x.State ∧ x.State ≤ 3) ∧ (0 ≤ x.Since ∧ x.Since ≤ 2147483648) ∧ (0 ≤ x.Frequency ∧ x.Frequency ≤ 6000) ∧ 0 ≤ x.Phase ∧ x.Phase ≤ 3599
theorem containsBad_eq {l : List Running} (hl : Sm l) : slices_ContainsFunc_Running_Running l = some (decide (∃ k, k < l.length ∧ ¬ RunOk (gt l k))) := by
  have e1 : ∀ x, board_State_1 x = some (decide (¬ RunOk x)) := fun x => by
    unfold board_State_1
    rw [running_eq]
    have : RunOk x ↔ ((0 ≤ x.State ∧ x.State ≤ 3) ∧ (0 ≤ x.Since ∧ x.Since ≤ 2147483648) ∧ (0 ≤ x.Frequency ∧ x.Frequency ≤ 6000) ∧ 0 ≤ x.Phase ∧ x.Phase ≤ 3599) := Iff.rfl
    by_cases h : RunOk x
    · rw [dT (this.1 h), dF (c := ¬ RunOk x) (fun hh => hh h)]; rfl
    · rw [dF (fun hh => h (this.2 hh)), dT h]; rfl
  have h := loop_find (step := slices_IndexFunc_Running_Running_L1 l) (fun k => (k : Int)) l.length (fun k => decide (¬ RunOk (gt l k))) (R := fun k => .inr (k : Int)) (e := .inl ())
    (fun k hk hp => by simp only [slices_IndexFunc_Running_Running_L1, e1, lt_len hk, if_true, idx_gt hk, Option.bind_some, Option.bind_fun_some, Sum.elim_inl, Sum.elim_inr, eqO_self, hp, Bool.false_eq_true, if_false, W_succ (sm_lt hl hk)])
    (fun k hk hp => by simp only [slices_IndexFunc_Running_Running_L1, e1, lt_len hk, if_true, idx_gt hk, Option.bind_some, Option.bind_fun_some, Sum.elim_inl, Sum.elim_inr, eqO_self, hp])
    (by simp only [slices_IndexFunc_Running_Running_L1, nlt_len, Bool.false_eq_true, if_false])
  have h' : loopO (slices_IndexFunc_Running_Running_L1 l) 0 = _ := h
  unfold slices_ContainsFunc_Running_Running slices_IndexFunc_Running_Running
  rw [h']
  cases hf : (List.range l.length).find? (fun k => decide (¬ RunOk (gt l k))) with
  | none =>
    have : ¬ ∃ k, k < l.length ∧ ¬ RunOk (gt l k) := fun ⟨k, hk, e⟩ => by
      have := List.find?_eq_none.1 hf k (List.mem_range.2 hk)
      exact this (dT e)
    rw [dF this]
    rfl
  | some k =>
    have hk := List.mem_range.1 (List.mem_of_find?_eq_some hf)
    have hp := of_decide_eq_true (List.find?_some (p := fun k => decide (¬ RunOk (gt l k))) hf)
    have : ∃ k, k < l.length ∧ ¬ RunOk (gt l k) := ⟨k, hk, hp⟩
    rw [dT this]
    simp

/-- how many closed breakers of consumer j there are among the first k -/
noncomputable def clo (b : Board) (p : Power) (j : Int) : Nat → Nat
  | 0 => 0
  | k + 1 => clo b p j k + if (gt b.Breakers k).Kind = 3 ∧ (gt b.Breakers k).B = j ∧ gt p.Closed k = true then 1 else 0
theorem clo_le (b : Board) (p : Power) (j : Int) (k : Nat) : clo b p j k ≤ k := by
  induction k with
  | zero => exact Nat.le_refl _
  | succ k ih => unfold clo; split <;> omega
theorem closed_eq {b : Board} {p : Power} (j : Int) (hl : Sm b.Breakers) (hc : p.Closed.length = b.Breakers.length) : board_closed b p j = some (clo b p j b.Breakers.length : Int) := by
  have h := loop_run (step := board_closed_L1 b p j) (fun k => ((clo b p j k : Int), (k : Int))) b.Breakers.length (r := (clo b p j b.Breakers.length : Int))
    (fun k hk => by
      have := clo_le b p j k
      have hs := sm_lt hl hk
      simp only [board_closed_L1, lt_len hk, if_true, idx_gt hk, idx_gt (l := p.Closed) (show k < p.Closed.length by omega), Option.bind_some, Option.bind_fun_some, Sum.elim_inl, Sum.elim_inr, eqO_self, W_succ hs, W_succ (show clo b p j k < 1000000000000000000 by omega)]
      by_cases h1 : (gt b.Breakers k).Kind = 3
      · by_cases h2 : (gt b.Breakers k).B = j
        · cases h3 : gt p.Closed k with
          | true => simp [clo, h1, h2, h3]
          | false => simp [clo, h1, h2, h3]
        · simp [clo, h1, h2]
      · simp [clo, h1])
    (by simp only [board_closed_L1, nlt_len, Bool.false_eq_true, if_false])
  have h' : loopO (board_closed_L1 b p j) (0, 0) = _ := h
  unfold board_closed
  rw [h']
  rfl
def Shape (b : Board) (p : Power) : Prop := p.Closed.length = b.Breakers.length ∧ p.Sources.length = b.Sources.length ∧ p.Limits.length = b.Consumers.length
def LimAt (b : Board) (p : Power) (k : Nat) : Prop := (0 ≤ gt p.Limits k ∧ gt p.Limits k ≤ (gt b.Consumers k).Load) ∧ clo b p (k : Int) b.Breakers.length ≤ 1
def PGood (b : Board) (p : Power) : Prop := ((∀ k, k < p.Broken.length → BrokenAt b p.Broken k) ∧ p.Broken.length ≤ 32) ∧ (∀ k, k < p.Sources.length → RunOk (gt p.Sources k)) ∧ ∀ k, k < p.Limits.length → LimAt b p k
noncomputable def stt (b : Board) (p : Power) : Int := if chk b = 0 then (if Shape b p then (if PGood b p then 0 else 11) else 8) else chk b
def SmP (p : Power) : Prop := Sm p.Closed ∧ Sm p.Sources ∧ Sm p.Limits ∧ Sm p.Broken
theorem chk_zero {b : Board} : chk b = 0 ↔ Lim b ∧ BGood b := by
  unfold chk
  by_cases h1 : Lim b <;> by_cases h2 : BGood b <;> simp [h1, h2]
theorem limits_loop {b : Board} {p : Power} (hb : SmB b) (hp : SmP p) (hsh : Shape b p) (r : Bool) : loopO (board_State_L1 b p) (r, (0 : Int)) = some (dB (r = true ∧ ∀ k, k < p.Limits.length → LimAt b p k)) := by
  obtain ⟨s1, s2, s3⟩ := hsh
  have hsl : Sm p.Limits := hp.2.2.1
  have h := loop_run (step := board_State_L1 b p) (fun k => (dB (r = true ∧ ∀ i, i < k → LimAt b p i), (k : Int))) p.Limits.length (r := dB (r = true ∧ ∀ i, i < p.Limits.length → LimAt b p i))
    (fun k hk => by
      have hkc : k < b.Consumers.length := by omega
      simp only [board_State_L1, lt_len hk, if_true, idx_gt hk, idx_gt hkc, Option.bind_some, Option.bind_fun_some, Sum.elim_inl, Sum.elim_inr, eqO_self, in_eq, closed_eq (k : Int) hb.1 s1, W_succ (sm_lt hp.2.2.1 hk)]
      have e5 : decide ((clo b p (k : Int) b.Breakers.length : Int) ≤ 1) = decide (clo b p (k : Int) b.Breakers.length ≤ 1) := by rw [decide_eq_decide]; omega
      by_cases h1 : r = true ∧ ∀ i, i < k → LimAt b p i
      · have e : dB (r = true ∧ ∀ i, i < k + 1 → LimAt b p i) = decide (LimAt b p k) := by
          rw [dB_d]
          apply dB_congr
          refine ⟨fun h => h.2 k (by omega), fun h => ⟨h1.1, fun i hi => ?_⟩⟩
          by_cases hik : i = k
          · subst hik; exact h
          · exact h1.2 i (by omega)
        rw [dB_T h1, e, e5]
        unfold LimAt
        by_cases h2 : 0 ≤ gt p.Limits k ∧ gt p.Limits k ≤ (gt b.Consumers k).Load <;> by_cases h3 : clo b p (k : Int) b.Breakers.length ≤ 1 <;> simp [h2, h3]
      · have h2 : ¬ (r = true ∧ ∀ i, i < k + 1 → LimAt b p i) := fun h => h1 ⟨h.1, fun i hi => h.2 i (by omega)⟩
        rw [dB_F h1, dB_F h2]
        rfl)
    (by simp only [board_State_L1, nlt_len, Bool.false_eq_true, if_false])
  have e0 : r = dB (r = true ∧ ∀ i, i < 0 → LimAt b p i) := dB_self r (fun i hi => by omega)
  exact (congrArg (fun q => loopO (board_State_L1 b p) (q, (0 : Int))) e0).trans h
theorem state_eq {b : Board} {p : Power} (hb : SmB b) (hp : SmP p) : board_State b p = some (stt b p) := by
  unfold board_State stt
  rw [check_eq hb]
  simp only [Option.bind_some, Option.bind_fun_some, Sum.elim_inl, Sum.elim_inr, eqO_self]
  by_cases h0 : chk b = 0
  case neg => simp [h0]
  have hL := (chk_zero.1 h0).1
  have e0 : (chk b != 0) = false := by simp [h0]
  simp only [e0, Bool.false_eq_true, if_false, if_pos h0]
  by_cases h1 : p.Closed.length = b.Breakers.length
  case neg =>
    have : ¬ Shape b p := fun h => h1 h.1
    have e : (len p.Closed != len b.Breakers) = true := by simp [len]; omega
    simp [e, this]
  by_cases h2 : p.Sources.length = b.Sources.length
  case neg =>
    have : ¬ Shape b p := fun h => h2 h.2.1
    have e1 : (len p.Closed != len b.Breakers) = false := by simp [len, h1]
    have e : (len p.Sources != len b.Sources) = true := by simp [len]; omega
    simp [e, e1, this]
  by_cases h3 : p.Limits.length = b.Consumers.length
  case neg =>
    have : ¬ Shape b p := fun h => h3 h.2.2
    have e1 : (len p.Closed != len b.Breakers) = false := by simp [len, h1]
    have e2 : (len p.Sources != len b.Sources) = false := by simp [len, h2]
    have e : (len p.Limits != len b.Consumers) = true := by simp [len]; omega
    simp [e, e1, e2, this]
  have hsh : Shape b p := ⟨h1, h2, h3⟩
  have e1 : (len p.Closed != len b.Breakers) = false := by simp [len, h1]
  have e2 : (len p.Sources != len b.Sources) = false := by simp [len, h2]
  have e3 : (len p.Limits != len b.Consumers) = false := by simp [len, h3]
  simp only [e1, e2, e3, Bool.false_eq_true, if_false, Option.bind_some, Option.bind_fun_some, Sum.elim_inl, Sum.elim_inr, eqO_self, broken_eq hL hp.2.2.2, if_pos hsh]
  have hx : (∃ k, k < p.Sources.length ∧ ¬ RunOk (gt p.Sources k)) ↔ ¬ ∀ k, k < p.Sources.length → RunOk (gt p.Sources k) := by
    constructor
    · rintro ⟨k, hk, h⟩ hh; exact h (hh k hk)
    · intro h
      apply Classical.byContradiction
      intro hn
      exact h fun k hk => Classical.byContradiction fun hr => hn ⟨k, hk, hr⟩
  by_cases g1 : (∀ k, k < p.Broken.length → BrokenAt b p.Broken k) ∧ p.Broken.length ≤ 32
  case neg =>
    simp only [dF g1, Bool.false_eq_true, if_false, Option.bind_some, Option.bind_fun_some, Sum.elim_inl, Sum.elim_inr, eqO_self]
    rw [limits_loop hb hp hsh, Option.bind_some]
    exact fin_eq2 (r := false) ⟨(fun h => by cases h.1), fun h => (g1 h.1).elim⟩
  by_cases g2 : ∀ k, k < p.Sources.length → RunOk (gt p.Sources k)
  case neg =>
    simp only [dT g1, if_true, containsBad_eq hp.2.1, dT (c := ∃ k, k < p.Sources.length ∧ ¬ RunOk (gt p.Sources k)) (hx.2 g2), Bool.not_true, Option.bind_some, Option.bind_fun_some, Sum.elim_inl, Sum.elim_inr, eqO_self]
    rw [limits_loop hb hp hsh, Option.bind_some]
    exact fin_eq2 (r := false) ⟨(fun h => by cases h.1), fun h => (g2 h.2.1).elim⟩
  simp only [dT g1, if_true, containsBad_eq hp.2.1, dF (c := ∃ k, k < p.Sources.length ∧ ¬ RunOk (gt p.Sources k)) (fun h => hx.1 h g2), Bool.not_false, Option.bind_some, Option.bind_fun_some, Sum.elim_inl, Sum.elim_inr, eqO_self]
  rw [limits_loop hb hp hsh, Option.bind_some]
  exact fin_eq2 (r := true) ⟨fun h => ⟨g1, g2, h.2⟩, fun h => ⟨rfl, h.2.2⟩⟩

end Rx
end Go.Proofs.YtfnphdhcgkondaaGreat
