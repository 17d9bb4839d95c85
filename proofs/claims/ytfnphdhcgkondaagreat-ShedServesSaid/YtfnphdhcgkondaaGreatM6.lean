/- Board: the islands, exactly. Plain laws. -/
import Derived.Test.YtfnphdhcgkondaaGreatM5
set_option linter.unusedVariables false
set_option linter.unusedSimpArgs false
namespace Go.Proofs.YtfnphdhcgkondaaGreat
open Go Go.RowKit Dp
namespace Rx

/-- the numbers below k with a property -/
def rangeF (P : Nat → Bool) (k : Nat) : List Int := ((List.range k).filter P).map Int.ofNat
theorem rangeF_succ (P : Nat → Bool) (k : Nat) : rangeF P (k + 1) = rangeF P k ++ if P k = true then [(k : Int)] else [] := by
  unfold rangeF
  rw [List.range_succ, List.filter_append, List.map_append]
  cases h : P k <;> simp [h]
theorem rangeF_len (P : Nat → Bool) (k : Nat) : (rangeF P k).length ≤ k := by
  unfold rangeF
  rw [List.length_map]
  refine Nat.le_trans (List.length_filter_le _ _) ?_
  simp
theorem mem_rangeF {P : Nat → Bool} {k : Nat} {x : Int} : x ∈ rangeF P k ↔ ∃ i, i < k ∧ P i = true ∧ x = (i : Int) := by
  unfold rangeF
  rw [List.mem_map]
  constructor
  · rintro ⟨i, hi, rfl⟩
    rw [List.mem_filter, List.mem_range] at hi
    exact ⟨i, hi.1, hi.2, rfl⟩
  · rintro ⟨i, h1, h2, rfl⟩
    exact ⟨i, by rw [List.mem_filter, List.mem_range]; exact ⟨h1, h2⟩, rfl⟩
def busP (b : Board) (p : Power) (f i : Nat) : Bool := gt (grp b p) i == (f : Int)
def srcP (b : Board) (p : Power) (f j : Nat) : Bool := (conn b p (j : Int)).2 && gt (grp b p) (conn b p (j : Int)).1.toNat == (f : Int)
def conP (b : Board) (p : Power) (f j : Nat) : Bool := (led b p 3 (j : Int)).2 && gt (grp b p) (led b p 3 (j : Int)).1.toNat == (f : Int)
def islAt (b : Board) (p : Power) (i j k : Nat) : List Island := (List.range b.Buses.toNat).map fun f => ⟨rangeF (busP b p f) i, rangeF (srcP b p f) j, rangeF (conP b p f) k⟩
def isle (b : Board) (p : Power) (f : Nat) : Island := ⟨rangeF (busP b p f) b.Buses.toNat, rangeF (srcP b p f) b.Sources.length, rangeF (conP b p f) b.Consumers.length⟩
def isl (b : Board) (p : Power) : List Island := (islAt b p b.Buses.toNat b.Sources.length b.Consumers.length).filter fun x => !x.Buses.isEmpty

theorem led_bd {b : Board} {p : Power} (hb : BrkOk b) {kind j : Int} (h : (led b p kind j).2 = true) : 0 ≤ (led b p kind j).1 ∧ (led b p kind j).1 < b.Buses := by
  unfold led at h ⊢
  cases hf : (List.range b.Breakers.length).find? (ledAt b p kind j) with
  | none => rw [hf] at h; simp at h
  | some k =>
    have hk := List.mem_range.1 (List.mem_of_find?_eq_some hf)
    have := (hb.1 k hk).1
    simp only
    omega
theorem conn_bd {b : Board} {p : Power} (hb : BrkOk b) {j : Int} (h : (conn b p j).2 = true) : 0 ≤ (conn b p j).1 ∧ (conn b p j).1 < b.Buses := by
  unfold conn at h ⊢
  by_cases h1 : 0 ≤ j ∧ j ≤ (p.Sources.length : Int) - 1
  · rw [if_pos h1] at h ⊢
    by_cases h2 : (gt p.Sources j.toNat).State = 2
    · rw [if_pos h2] at h ⊢
      exact led_bd hb h
    · rw [if_neg h2] at h; simp at h
  · rw [if_neg h1] at h; simp at h
theorem islAt_len (b : Board) (p : Power) (i j k : Nat) : (islAt b p i j k).length = b.Buses.toNat := by simp [islAt]
theorem islAt_gt {b : Board} {p : Power} {i j k f : Nat} (h : f < b.Buses.toNat) : gt (islAt b p i j k) f = ⟨rangeF (busP b p f) i, rangeF (srcP b p f) j, rangeF (conP b p f) k⟩ := by
  unfold islAt; rw [gt_map_range _ h]

section
variable {b : Board} {p : Power}
theorem fill1 (hl : Lim b) (hb : BrkOk b) : loopO (board_Islands_L1 (grp b p)) ((0 : Int), islAt b p 0 0 0) = some (islAt b p b.Buses.toNat 0 0) := by
  have hbus := hl.bus
  have hgl := grp_len b p
  refine loop_run (step := board_Islands_L1 (grp b p)) (fun k => ((k : Int), islAt b p k 0 0)) b.Buses.toNat (fun k hk => ?_) ?_
  · have e1 : decide ((k : Int) < len (grp b p)) = true := dT (by unfold len; omega)
    obtain ⟨g0, g1⟩ := grp_bd (p := p) hb hk
    have hlen := islAt_len b p k 0 0
    obtain ⟨m, hm⟩ := Int.eq_ofNat_of_zero_le g0
    have hm' : m < b.Buses.toNat := by omega
    have hrl := rangeF_len (busP b p m) k
    have e2 : (islAt b p k 0 0).set m ⟨rangeF (busP b p m) k ++ [(k : Int)], rangeF (srcP b p m) 0, rangeF (conP b p m) 0⟩ = islAt b p (k + 1) 0 0 := by
      apply ext_gt
      · simp [islAt]
      · intro i hi
        have hi' : i < b.Buses.toNat := by simpa [islAt] using hi
        rw [gt_set (by omega), islAt_gt hi', islAt_gt hi', rangeF_succ]
        by_cases him : i = m
        · subst him
          have : busP b p i k = true := by unfold busP; rw [hm]; simp
          rw [if_pos rfl, if_pos this]
        · have : busP b p i k = false := by unfold busP; rw [hm]; exact beqF (by omega)
          rw [if_neg him, this]
          simp
    have e3 : (islAt b p (k + 1) 0 0).length = b.Buses.toNat := islAt_len _ _ _ _ _
    simp only [board_Islands_L1, e1, if_true, idx_gt (show k < (grp b p).length by omega), Option.bind_some, Option.bind_fun_some, Sum.elim_inl, Sum.elim_inr, eqO_self, hm, Int.ofNat_eq_natCast, idx_gt (show m < (islAt b p k 0 0).length by omega), islAt_gt hm', app_sm (show (rangeF (busP b p m) k).length + [(k : Int)].length ≤ 1073741824 by simp; omega), setO_nat (show m < (islAt b p k 0 0).length by omega), e2, idx_gt (show m < (islAt b p (k + 1) 0 0).length by omega), W_succ (show k < 1000000000000000000 by omega)]
  · have e1 : decide ((b.Buses.toNat : Int) < len (grp b p)) = false := dF (by unfold len; omega)
    simp only [board_Islands_L1, e1, Bool.false_eq_true, if_false]
theorem fill2 (hl : Lim b) (hb : BrkOk b) (hs : Sm b.Breakers) (hp : Sm p.Sources) (hc : p.Closed.length = b.Breakers.length) : loopO (board_Islands_L2 b p (grp b p)) ((0 : Int), islAt b p b.Buses.toNat 0 0) = some (islAt b p b.Buses.toNat b.Sources.length 0) := by
  have hbus := hl.bus
  have hgl := grp_len b p
  have hsr := hl.src
  refine loop_run (step := board_Islands_L2 b p (grp b p)) (fun k => ((k : Int), islAt b p b.Buses.toNat k 0)) b.Sources.length (fun k hk => ?_) (by simp only [board_Islands_L2, nlt_len, Bool.false_eq_true, if_false])
  have hlen := islAt_len b p b.Buses.toNat k 0
  simp only [board_Islands_L2, lt_len hk, if_true, connected_eq hs hp hc, Option.bind_some, Option.bind_fun_some, Sum.elim_inl, Sum.elim_inr, eqO_self, W_succ (show k < 1000000000000000000 by omega)]
  cases hcn : (conn b p (k : Int)).2 with
  | false =>
    have e2 : islAt b p b.Buses.toNat (k + 1) 0 = islAt b p b.Buses.toNat k 0 := by
      unfold islAt
      refine List.map_congr_left fun f _ => ?_
      rw [rangeF_succ, show srcP b p f k = false by unfold srcP; rw [hcn]; rfl]
      simp
    simp only [Bool.false_eq_true, if_false, Option.bind_some, Option.bind_fun_some, Sum.elim_inl, Sum.elim_inr, eqO_self, e2]
  | true =>
    obtain ⟨c0, c1⟩ := conn_bd hb hcn
    have ht : (conn b p (k : Int)).1.toNat < b.Buses.toNat := by omega
    obtain ⟨g0, g1⟩ := grp_bd (p := p) hb ht
    obtain ⟨m, hm⟩ := Int.eq_ofNat_of_zero_le g0
    have hm' : m < b.Buses.toNat := by omega
    have hrl := rangeF_len (srcP b p m) k
    have e2 : (islAt b p b.Buses.toNat k 0).set m ⟨rangeF (busP b p m) b.Buses.toNat, rangeF (srcP b p m) k ++ [(k : Int)], rangeF (conP b p m) 0⟩ = islAt b p b.Buses.toNat (k + 1) 0 := by
      apply ext_gt
      · simp [islAt]
      · intro i hi
        have hi' : i < b.Buses.toNat := by simpa [islAt] using hi
        rw [gt_set (by omega), islAt_gt hi', islAt_gt hi', rangeF_succ]
        by_cases him : i = m
        · subst him
          have : srcP b p i k = true := by unfold srcP; rw [hcn, hm]; simp
          rw [if_pos rfl, if_pos this]
        · have : srcP b p i k = false := by unfold srcP; rw [hcn, hm]; simp; omega
          rw [if_neg him, this]
          simp
    have e3 : (islAt b p b.Buses.toNat (k + 1) 0).length = b.Buses.toNat := islAt_len _ _ _ _ _
    simp only [if_true, idx_gtZ c0 (show (conn b p (k : Int)).1 < ((grp b p).length : Int) by omega), Option.bind_some, Option.bind_fun_some, Sum.elim_inl, Sum.elim_inr, eqO_self, hm, Int.ofNat_eq_natCast, idx_gt (show m < (islAt b p b.Buses.toNat k 0).length by omega), islAt_gt hm', app_sm (show (rangeF (srcP b p m) k).length + [(k : Int)].length ≤ 1073741824 by simp; omega), setO_nat (show m < (islAt b p b.Buses.toNat k 0).length by omega), e2, idx_gt (show m < (islAt b p b.Buses.toNat (k + 1) 0).length by omega)]
theorem fill3 (hl : Lim b) (hb : BrkOk b) (hs : Sm b.Breakers) (hc : p.Closed.length = b.Breakers.length) : loopO (board_Islands_L3 b p (grp b p)) ((0 : Int), islAt b p b.Buses.toNat b.Sources.length 0) = some (islAt b p b.Buses.toNat b.Sources.length b.Consumers.length) := by
  have hbus := hl.bus
  have hgl := grp_len b p
  have hsr := hl.con
  refine loop_run (step := board_Islands_L3 b p (grp b p)) (fun k => ((k : Int), islAt b p b.Buses.toNat b.Sources.length k)) b.Consumers.length (fun k hk => ?_) (by simp only [board_Islands_L3, nlt_len, Bool.false_eq_true, if_false])
  have hlen := islAt_len b p b.Buses.toNat b.Sources.length k
  simp only [board_Islands_L3, lt_len hk, if_true, fed_eq hs hc, Option.bind_some, Option.bind_fun_some, Sum.elim_inl, Sum.elim_inr, eqO_self, W_succ (show k < 1000000000000000000 by omega)]
  cases hcn : (led b p 3 (k : Int)).2 with
  | false =>
    have e2 : islAt b p b.Buses.toNat b.Sources.length (k + 1) = islAt b p b.Buses.toNat b.Sources.length k := by
      unfold islAt
      refine List.map_congr_left fun f _ => ?_
      rw [rangeF_succ, show conP b p f k = false by unfold conP; rw [hcn]; rfl]
      simp
    simp only [Bool.false_eq_true, if_false, Option.bind_some, Option.bind_fun_some, Sum.elim_inl, Sum.elim_inr, eqO_self, e2]
  | true =>
    obtain ⟨c0, c1⟩ := led_bd hb hcn
    have ht : (led b p 3 (k : Int)).1.toNat < b.Buses.toNat := by omega
    obtain ⟨g0, g1⟩ := grp_bd (p := p) hb ht
    obtain ⟨m, hm⟩ := Int.eq_ofNat_of_zero_le g0
    have hm' : m < b.Buses.toNat := by omega
    have hrl := rangeF_len (conP b p m) k
    have e2 : (islAt b p b.Buses.toNat b.Sources.length k).set m ⟨rangeF (busP b p m) b.Buses.toNat, rangeF (srcP b p m) b.Sources.length, rangeF (conP b p m) k ++ [(k : Int)]⟩ = islAt b p b.Buses.toNat b.Sources.length (k + 1) := by
      apply ext_gt
      · simp [islAt]
      · intro i hi
        have hi' : i < b.Buses.toNat := by simpa [islAt] using hi
        rw [gt_set (by omega), islAt_gt hi', islAt_gt hi', rangeF_succ]
        by_cases him : i = m
        · subst him
          have : conP b p i k = true := by unfold conP; rw [hcn, hm]; simp
          rw [if_pos rfl, if_pos this]
        · have : conP b p i k = false := by unfold conP; rw [hcn, hm]; simp; omega
          rw [if_neg him, this]
          simp
    have e3 : (islAt b p b.Buses.toNat b.Sources.length (k + 1)).length = b.Buses.toNat := islAt_len _ _ _ _ _
    simp only [if_true, idx_gtZ c0 (show (led b p 3 (k : Int)).1 < ((grp b p).length : Int) by omega), Option.bind_some, Option.bind_fun_some, Sum.elim_inl, Sum.elim_inr, eqO_self, hm, Int.ofNat_eq_natCast, idx_gt (show m < (islAt b p b.Buses.toNat b.Sources.length k).length by omega), islAt_gt hm', app_sm (show (rangeF (conP b p m) k).length + [(k : Int)].length ≤ 1073741824 by simp; omega), setO_nat (show m < (islAt b p b.Buses.toNat b.Sources.length k).length by omega), e2, idx_gt (show m < (islAt b p b.Buses.toNat b.Sources.length (k + 1)).length by omega)]
end

/-- what is deleted: the empty ones -/
theorem delete_eq {l : List Island} (hl : Sm l) : slices_DeleteFunc_Island_Island l = some (l.filter fun x => !x.Buses.isEmpty) := by
  have hE : ∀ x : Island, board_Islands_1 x = some (x.Buses.isEmpty) := fun x => by
    unfold board_Islands_1
    cases h : x.Buses with
    | nil => rfl
    | cons a l => simp [len]; omega
  have h := loop_find (step := slices_IndexFunc_Island_Island_L1 l) (fun k => (k : Int)) l.length (fun k => (gt l k).Buses.isEmpty) (R := fun k => .inr (k : Int)) (e := .inl ())
    (fun k hk hp => by simp only [slices_IndexFunc_Island_Island_L1, hE, lt_len hk, if_true, idx_gt hk, Option.bind_some, Option.bind_fun_some, Sum.elim_inl, Sum.elim_inr, eqO_self, hp, Bool.false_eq_true, if_false, W_succ (sm_lt hl hk)])
    (fun k hk hp => by simp only [slices_IndexFunc_Island_Island_L1, hE, lt_len hk, if_true, idx_gt hk, Option.bind_some, Option.bind_fun_some, Sum.elim_inl, Sum.elim_inr, eqO_self, hp])
    (by simp only [slices_IndexFunc_Island_Island_L1, nlt_len, Bool.false_eq_true, if_false])
  have h' : loopO (slices_IndexFunc_Island_Island_L1 l) 0 = _ := h
  have hpre : ∀ m, m ≤ l.length → (∀ k, k < m → (gt l k).Buses.isEmpty = false) → (l.take m).filter (fun x => !x.Buses.isEmpty) = l.take m := by
    intro m hm hk
    rw [List.filter_eq_self]
    intro x hx
    obtain ⟨k, h1, rfl⟩ := (mem_take_gt hm).1 hx
    rw [hk k h1]; rfl
  unfold slices_DeleteFunc_Island_Island slices_IndexFunc_Island_Island
  rw [h']
  cases hf : (List.range l.length).find? (fun k => (gt l k).Buses.isEmpty) with
  | none =>
    have hall : ∀ k, k < l.length → (gt l k).Buses.isEmpty = false := fun k hk => by
      have := List.find?_eq_none.1 hf k (List.mem_range.2 hk)
      simpa using this
    have := hpre l.length (Nat.le_refl _) hall
    rw [List.take_length] at this
    rw [this]
    rfl
  | some k0 =>
    have hk0 := List.mem_range.1 (List.mem_of_find?_eq_some hf)
    have hp0 : (gt l k0).Buses.isEmpty = true := List.find?_some (p := fun k => (gt l k).Buses.isEmpty) hf
    have hbef : ∀ k, k < k0 → (gt l k).Buses.isEmpty = false := by
      obtain ⟨_, la, lb, h2, h3⟩ := List.find?_eq_some_iff_append.1 hf
      intro k hk
      have hlen : la.length = k0 := by
        have h4 : (List.range l.length)[la.length]? = some k0 := by rw [h2]; simp
        rw [List.getElem?_range (by
          have := congrArg List.length h2
          simp at this
          omega)] at h4
        exact Option.some.inj h4
      have hmem : k ∈ la := by
        have h4 : (List.range l.length)[k]? = some k := List.getElem?_range (by omega)
        rw [h2, List.getElem?_append_left (by omega)] at h4
        exact List.mem_of_getElem? h4
      simpa using h3 k hmem
    have hne : ((k0 : Int) == -1) = false := beqF (by omega)
    have hs0 : k0 < 1000000000000000000 := sm_lt hl hk0
    simp only [Option.bind_some, Option.bind_fun_some, Sum.elim_inl, Sum.elim_inr, eqO_self, Sum.elim_inr, hne, Bool.false_eq_true, if_false, W_succ hs0]
    have hloop : Wp (loopO slices_DeleteFunc_Island_Island_L1 ((k0 : Int), ((k0 + 1 : Nat) : Int), l)) fun r => ∃ (i : Nat) (x : List Island), r = ((i : Int), x) ∧ i ≤ l.length ∧ x.length = l.length ∧ x.take i = l.filter fun x => !x.Buses.isEmpty := by
      refine wp_upto (l.length - (k0 + 1)) (fun m s => ∃ (i : Nat) (x : List Island), s = ((i : Int), ((k0 + 1 + m : Nat) : Int), x) ∧ i < k0 + 1 + m ∧ x.length = l.length ∧ x.take i = (l.take (k0 + 1 + m)).filter (fun x => !x.Buses.isEmpty) ∧ ∀ q, k0 + 1 + m ≤ q → gt x q = gt l q) ⟨k0, l, rfl, by omega, rfl, ?_, fun _ _ => rfl⟩ ?_ ?_
      · rw [Nat.add_zero, take_gt hk0, List.filter_append, hpre k0 (by omega) hbef]
        simp [hp0]
      · rintro m s hm ⟨i, x, rfl, h1, h2, h3, h4⟩
        have hj : k0 + 1 + m < l.length := by omega
        have hs : k0 + 1 + m < 1000000000000000000 := sm_lt hl hj
        have hg := h4 (k0 + 1 + m) (Nat.le_refl _)
        unfold slices_DeleteFunc_Island_Island_L1
        simp only [lt_len (show k0 + 1 + m < x.length by omega), if_true, idx_gt (show k0 + 1 + m < x.length by omega), idx_gt (show i < x.length by omega), hg, hE, Option.bind_some, Option.bind_fun_some, Sum.elim_inl, Sum.elim_inr, eqO_self, setO_nat (show i < x.length by omega), W_succ (show i < 1000000000000000000 by omega), W_succ hs]
        cases he : (gt l (k0 + 1 + m)).Buses.isEmpty with
        | true =>
          simp only [Bool.not_true, Bool.false_eq_true, if_false, Option.bind_some, Option.bind_fun_some, Sum.elim_inl, Sum.elim_inr, eqO_self]
          refine wp_some.2 ⟨i, x, rfl, by omega, h2, ?_, fun q hq => h4 q (by omega)⟩
          rw [show k0 + 1 + (m + 1) = k0 + 1 + m + 1 from rfl, take_gt hj, List.filter_append, h3]
          simp [he]
        | false =>
          simp only [Bool.not_false, if_true, Option.bind_some, Option.bind_fun_some, Sum.elim_inl, Sum.elim_inr, eqO_self]
          refine wp_some.2 ⟨i + 1, _, rfl, by omega, by simpa using h2, ?_, fun q hq => ?_⟩
          · rw [show k0 + 1 + (m + 1) = k0 + 1 + m + 1 from rfl, take_gt hj, List.filter_append, ← h3, take_gt (show i < (x.set i (gt l (k0 + 1 + m))).length by simp; omega), gt_set (by omega), if_pos rfl, List.take_set_of_le (Nat.le_refl _)]
            simp [he]
          · rw [gt_set (by omega), if_neg (by omega)]
            exact h4 q (by omega)
      · rintro s ⟨i, x, rfl, h1, h2, h3, h4⟩
        have e : k0 + 1 + (l.length - (k0 + 1)) = l.length := by omega
        rw [e] at h1 h3 ⊢
        rw [List.take_length] at h3
        unfold slices_DeleteFunc_Island_Island_L1
        have e1 : decide ((l.length : Int) < len x) = false := dF (by unfold len; omega)
        simp only [e1, Bool.false_eq_true, if_false]
        exact wp_some.2 ⟨i, x, rfl, by omega, h2, h3⟩
    obtain ⟨r, hr, i, x, rfl, h2, h3, h4⟩ := hloop
    rw [hr]
    simp only [Option.bind_some, Option.bind_fun_some, Sum.elim_inl, Sum.elim_inr, eqO_self]
    have s1 : slc x (i : Int) (len x) = some ((x.take (len x).toNat).drop (i : Int).toNat) := by
      unfold slc len
      rw [if_pos ⟨by omega, by omega, by omega⟩]
    rw [s1]
    simp only [Option.bind_some, Option.bind_fun_some, Sum.elim_inl, Sum.elim_inr, eqO_self, Int.toNat_natCast]
    have hl2 : (x.take i).length = i := by simp; omega
    unfold clrT
    rw [Int.toNat_natCast, slc_take (xs := x.take i ++ List.replicate (x.length - i) (⟨[], [], []⟩ : Island)) (n := i) (by simp; omega)]
    rw [List.take_append_of_le_length (by omega), List.take_of_length_le (by omega), h4]

section
variable {b : Board} {p : Power}
theorem stt_zero : stt b p = 0 ↔ (Lim b ∧ BGood b) ∧ Shape b p ∧ PGood b p := by
  unfold stt
  by_cases h0 : chk b = 0
  · rw [if_pos h0]
    have h1 := chk_zero.1 h0
    by_cases h2 : Shape b p <;> by_cases h3 : PGood b p <;> simp [h1, h2, h3]
  · rw [if_neg h0]
    exact ⟨fun h => (h0 h).elim, fun h => (h0 (chk_zero.2 h.1)).elim⟩
theorem islands_eq (hb : SmB b) (hp : SmP p) (h : stt b p = 0) : board_Islands b p = some (isl b p) := by
  obtain ⟨⟨hl, hg⟩, hsh, _⟩ := stt_zero.1 h
  have hbus := hl.bus
  obtain ⟨n, hn⟩ := Int.eq_ofNat_of_zero_le (show 0 ≤ b.Buses by omega)
  have hmk : mkZ (⟨[], [], []⟩ : Island) b.Buses = some (islAt b p 0 0 0) := by
    rw [hn, mkZ_nat (by omega)]
    congr 1
    apply ext_gt
    · simp [islAt, hn]
    · intro k hk
      have hk' : k < n := by simpa using hk
      rw [gt_replicate hk', islAt_gt (by omega)]
      rfl
  unfold board_Islands
  rw [state_eq hb hp, h]
  simp only [Option.bind_some, Option.bind_fun_some, Sum.elim_inl, Sum.elim_inr, eqO_self, bne_self_eq_false, Bool.false_eq_true, if_false, groups_eq hl hg.1 hb.1 hsh.1, hmk, fill1 hl hg.1, fill2 hl hg.1 hb.1 hp.2.1 hsh.1, fill3 hl hg.1 hb.1 hsh.1]
  rw [delete_eq (by unfold Sm; rw [islAt_len]; omega)]
  rfl
theorem islands_bad (hb : SmB b) (hp : SmP p) (h : stt b p ≠ 0) : board_Islands b p = some [] := by
  unfold board_Islands
  rw [state_eq hb hp]
  have : (stt b p != 0) = true := by simpa using h
  simp only [Option.bind_some, Option.bind_fun_some, Sum.elim_inl, Sum.elim_inr, eqO_self, this, if_true]

theorem mem_isl {x : Island} : x ∈ isl b p ↔ ∃ f, f < b.Buses.toNat ∧ x = isle b p f ∧ (isle b p f).Buses ≠ [] := by
  unfold isl islAt
  rw [List.mem_filter, List.mem_map]
  constructor
  · rintro ⟨⟨f, hf, rfl⟩, h⟩
    refine ⟨f, List.mem_range.1 hf, rfl, fun e => ?_⟩
    have e' : rangeF (busP b p f) b.Buses.toNat = [] := e
    rw [e'] at h
    cases h
  · rintro ⟨f, hf, rfl, h⟩
    refine ⟨⟨f, List.mem_range.2 hf, rfl⟩, ?_⟩
    cases he : (isle b p f).Buses with
    | nil => exact (h he).elim
    | cons _ _ => rfl
theorem mem_bus {f : Nat} {x : Int} : x ∈ (isle b p f).Buses ↔ ∃ i, i < b.Buses.toNat ∧ gt (grp b p) i = (f : Int) ∧ x = (i : Int) := by
  show x ∈ rangeF (busP b p f) b.Buses.toNat ↔ _
  rw [mem_rangeF]
  constructor
  · rintro ⟨i, h1, h2, h3⟩
    exact ⟨i, h1, by simpa [busP] using h2, h3⟩
  · rintro ⟨i, h1, h2, h3⟩
    exact ⟨i, h1, by simp [busP, h2], h3⟩
theorem mem_src {f : Nat} {x : Int} : x ∈ (isle b p f).Sources ↔ ∃ j, j < b.Sources.length ∧ (conn b p (j : Int)).2 = true ∧ gt (grp b p) (conn b p (j : Int)).1.toNat = (f : Int) ∧ x = (j : Int) := by
  show x ∈ rangeF (srcP b p f) b.Sources.length ↔ _
  rw [mem_rangeF]
  constructor
  · rintro ⟨i, h1, h2, h3⟩
    unfold srcP at h2
    simp only [Bool.and_eq_true, beq_iff_eq] at h2
    exact ⟨i, h1, h2.1, h2.2, h3⟩
  · rintro ⟨i, h1, h2, h3, h4⟩
    exact ⟨i, h1, by unfold srcP; rw [h2, h3]; simp, h4⟩
theorem mem_con {f : Nat} {x : Int} : x ∈ (isle b p f).Consumers ↔ ∃ j, j < b.Consumers.length ∧ (led b p 3 (j : Int)).2 = true ∧ gt (grp b p) (led b p 3 (j : Int)).1.toNat = (f : Int) ∧ x = (j : Int) := by
  show x ∈ rangeF (conP b p f) b.Consumers.length ↔ _
  rw [mem_rangeF]
  constructor
  · rintro ⟨i, h1, h2, h3⟩
    unfold conP at h2
    simp only [Bool.and_eq_true, beq_iff_eq] at h2
    exact ⟨i, h1, h2.1, h2.2, h3⟩
  · rintro ⟨i, h1, h2, h3, h4⟩
    exact ⟨i, h1, by unfold conP; rw [h2, h3]; simp, h4⟩
/-- the island of a bus -/
def isleOf (b : Board) (p : Power) (k : Int) : Island := isle b p (gt (grp b p) k.toNat).toNat
theorem isleOf_in (hb : BrkOk b) {k : Int} (h0 : 0 ≤ k) (h1 : k < b.Buses) : isleOf b p k ∈ isl b p ∧ k ∈ (isleOf b p k).Buses := by
  obtain ⟨g0, g1⟩ := grp_bd (p := p) hb (show k.toNat < b.Buses.toNat by omega)
  have hm : k ∈ (isleOf b p k).Buses := mem_bus.2 ⟨k.toNat, by omega, by omega, by omega⟩
  exact ⟨mem_isl.2 ⟨_, by omega, rfl, fun e => by rw [show isle b p (gt (grp b p) k.toNat).toNat = isleOf b p k from rfl] at e; rw [e] at hm; cases hm⟩, hm⟩
theorem isleOf_uniq {x : Island} (hx : x ∈ isl b p) {k : Int} (hk : k ∈ x.Buses) : 0 ≤ k ∧ k < b.Buses.toNat ∧ x = isleOf b p k := by
  obtain ⟨f, hf, rfl, _⟩ := mem_isl.1 hx
  obtain ⟨i, hi, hg, rfl⟩ := mem_bus.1 hk
  refine ⟨by omega, by omega, ?_⟩
  unfold isleOf
  rw [Int.toNat_natCast, hg, Int.toNat_natCast]
theorem isl_len : (isl b p).length ≤ b.Buses.toNat := by
  unfold isl
  refine Nat.le_trans (List.length_filter_le _ _) ?_
  rw [islAt_len]
  exact Nat.le_refl _
theorem isle_len (f : Nat) : (isle b p f).Buses.length ≤ b.Buses.toNat ∧ (isle b p f).Sources.length ≤ b.Sources.length ∧ (isle b p f).Consumers.length ≤ b.Consumers.length :=
  ⟨rangeF_len _ _, rangeF_len _ _, rangeF_len _ _⟩
noncomputable def ofB (b : Board) (p : Power) (k : Int) : Island × Bool := if stt b p = 0 ∧ 0 ≤ k ∧ k < b.Buses then (isleOf b p k, true) else (⟨[], [], []⟩, false)
noncomputable def ofT (b : Board) (p : Power) (k : Int) : List Int × List Int × List Int × Bool := ((ofB b p k).1.Buses, (ofB b p k).1.Sources, (ofB b p k).1.Consumers, (ofB b p k).2)
theorem of_eq (hb : SmB b) (hp : SmP p) (k : Int) : board_Of b p k = some (ofT b p k) := by
  unfold board_Of ofT ofB
  by_cases h : stt b p = 0
  case neg =>
    rw [islands_bad hb hp h, if_neg (fun hh => h hh.1)]
    have : loopO (board_Of_L1 k []) 0 = some (.inl ()) := loopO_of (.done (by simp [board_Of_L1, len])) (by omega)
    simp only [Option.bind_some, Option.bind_fun_some, Sum.elim_inl, Sum.elim_inr, eqO_self, this, Sum.elim_inl]
  obtain ⟨⟨hl, hg⟩, hsh, _⟩ := stt_zero.1 h
  have hbus := hl.bus
  have hil := isl_len (b := b) (p := p)
  rw [islands_eq hb hp h]
  simp only [Option.bind_some, Option.bind_fun_some, Sum.elim_inl, Sum.elim_inr, eqO_self]
  have hsm : ∀ q, q < (isl b p).length → Sm (gt (isl b p) q).Buses := fun q hq => by
    obtain ⟨f, hf, e, _⟩ := mem_isl.1 (gt_mem hq)
    rw [e]
    have := (isle_len (b := b) (p := p) f).1
    unfold Sm; omega
  have h1 := loop_find (step := board_Of_L1 k (isl b p)) (fun i => (i : Int)) (isl b p).length (fun i => decide (k ∈ (gt (isl b p) i).Buses)) (R := fun i => .inr ((gt (isl b p) i).Buses, (gt (isl b p) i).Sources, (gt (isl b p) i).Consumers, true)) (e := .inl ())
    (fun i hi hq => by simp only [board_Of_L1, lt_len hi, if_true, idx_gt hi, Option.bind_some, Option.bind_fun_some, Sum.elim_inl, Sum.elim_inr, eqO_self, contains_eq (hsm i hi), hq, Bool.false_eq_true, if_false, W_succ (show i < 1000000000000000000 by omega)])
    (fun i hi hq => by simp only [board_Of_L1, lt_len hi, if_true, idx_gt hi, Option.bind_some, Option.bind_fun_some, Sum.elim_inl, Sum.elim_inr, eqO_self, contains_eq (hsm i hi), hq])
    (by simp only [board_Of_L1, nlt_len, Bool.false_eq_true, if_false])
  have h1' : loopO (board_Of_L1 k (isl b p)) 0 = _ := h1
  rw [h1']
  cases hf : (List.range (isl b p).length).find? (fun i => decide (k ∈ (gt (isl b p) i).Buses)) with
  | none =>
    have : ¬ (stt b p = 0 ∧ 0 ≤ k ∧ k < b.Buses) := fun hh => by
      obtain ⟨h2, h3⟩ := isleOf_in (p := p) hg.1 hh.2.1 hh.2.2
      obtain ⟨q, hq, e⟩ := mem_gt h2
      have := List.find?_eq_none.1 hf q (List.mem_range.2 hq)
      rw [e] at this
      simp [h3] at this
    rw [if_neg this]
    rfl
  | some q =>
    have hq := List.mem_range.1 (List.mem_of_find?_eq_some hf)
    have hk : k ∈ (gt (isl b p) q).Buses := of_decide_eq_true (List.find?_some (p := fun i => decide (k ∈ (gt (isl b p) i).Buses)) hf)
    obtain ⟨k0, k1, e⟩ := isleOf_uniq (gt_mem hq) hk
    rw [if_pos ⟨h, k0, by omega⟩, ← e]
    rfl
noncomputable def connB (b : Board) (p : Power) (j : Int) : Int × Bool := if stt b p = 0 then conn b p j else (0, false)
noncomputable def fedB (b : Board) (p : Power) (j : Int) : Int × Bool := if stt b p = 0 then led b p 3 j else (0, false)
end
/-! breakers found -/
def findP (b : Board) (kind j : Int) (k : Nat) : Bool := (gt b.Breakers k).Kind == kind && ((gt b.Breakers k).B == j || (kind == 1 && (gt b.Breakers k).A == j))
end Rx
end Go.Proofs.YtfnphdhcgkondaaGreat
