/- Board: who is connected, the groups and the islands, exactly. Plain laws. -/
import Derived.Test.YtfnphdhcgkondaaGreatM4
import Derived.Test.YtfnphdhcgkondaaGreatMsr
set_option linter.unusedVariables false
set_option linter.unusedSimpArgs false
namespace Go.Proofs.YtfnphdhcgkondaaGreat
open Go Go.RowKit Dp
namespace Rx

/-! the first closed breaker of a kind for a number -/
def ledAt (b : Board) (p : Power) (kind j : Int) (k : Nat) : Bool := ((gt b.Breakers k).Kind == kind && (gt b.Breakers k).B == j) && gt p.Closed k
def led (b : Board) (p : Power) (kind j : Int) : Int × Bool := match (List.range b.Breakers.length).find? (ledAt b p kind j) with
  | some k => ((gt b.Breakers k).A, true)
  | none => (0, false)
theorem led_eq {b : Board} {p : Power} (hs : Sm b.Breakers) (hc : p.Closed.length = b.Breakers.length) (kind j : Int) : board_led b p kind j = some (led b p kind j) := by
  have h := loop_find (step := board_led_L1 b p kind j) (fun k => (k : Int)) b.Breakers.length (ledAt b p kind j) (R := fun k => .inr ((gt b.Breakers k).A, true)) (e := .inl ())
    (fun k hk hp => by
      simp only [board_led_L1, lt_len hk, if_true, idx_gt hk, idx_gt (show k < p.Closed.length by omega), Option.bind_some, Option.bind_fun_some, Sum.elim_inl, Sum.elim_inr, eqO_self, W_succ (sm_lt hs hk)]
      unfold ledAt at hp
      cases h1 : (gt b.Breakers k).Kind == kind with
      | false => simp
      | true =>
        cases h2 : (gt b.Breakers k).B == j with
        | false => simp
        | true =>
          rw [h1, h2] at hp
          simp only [Bool.and_self, Bool.true_and] at hp
          simp [hp])
    (fun k hk hp => by
      simp only [board_led_L1, lt_len hk, if_true, idx_gt hk, idx_gt (show k < p.Closed.length by omega), Option.bind_some, Option.bind_fun_some, Sum.elim_inl, Sum.elim_inr, eqO_self]
      unfold ledAt at hp
      simp only [Bool.and_eq_true] at hp
      simp [hp.1.1, hp.1.2, hp.2])
    (by simp only [board_led_L1, nlt_len, Bool.false_eq_true, if_false])
  have h' : loopO (board_led_L1 b p kind j) 0 = _ := h
  unfold board_led led
  rw [h']
  cases (List.range b.Breakers.length).find? (ledAt b p kind j) <;> rfl
def conn (b : Board) (p : Power) (j : Int) : Int × Bool := if 0 ≤ j ∧ j ≤ (p.Sources.length : Int) - 1 then (if (gt p.Sources j.toNat).State = 2 then led b p 2 j else (0, false)) else (0, false)
theorem connected_eq {b : Board} {p : Power} (hs : Sm b.Breakers) (hp : Sm p.Sources) (hc : p.Closed.length = b.Breakers.length) (j : Int) : board_connected b p j = some (conn b p j) := by
  unfold Sm at hp
  have e1 : W (len p.Sources - 1) = (p.Sources.length : Int) - 1 := by unfold len; exact W_sm (by omega) (by omega)
  unfold board_connected conn
  simp only [e1, in_eq, Option.bind_some, Option.bind_fun_some, Sum.elim_inl, Sum.elim_inr, eqO_self]
  by_cases h : 0 ≤ j ∧ j ≤ (p.Sources.length : Int) - 1
  · rw [dT h, if_pos h]
    simp only [Bool.not_true, Bool.false_eq_true, if_false, idx_gtZ h.1 (show j < (p.Sources.length : Int) by omega), Option.bind_some, Option.bind_fun_some, Sum.elim_inl, Sum.elim_inr, eqO_self, led_eq hs hc]
    by_cases h2 : (gt p.Sources j.toNat).State = 2
    · simp [h2]
    · simp [h2]
  · rw [dF h, if_neg h]
    rfl
theorem fed_eq {b : Board} {p : Power} (hs : Sm b.Breakers) (hc : p.Closed.length = b.Breakers.length) (j : Int) : board_fed b p j = some (led b p 3 j) := by
  unfold board_fed
  rw [led_eq hs hc]
  rfl

/-! groups -/
def least (f : List Int) (x : Breaker) : Int := if gt f x.B.toNat < gt f x.A.toNat then gt f x.B.toNat else gt f x.A.toNat
def tieStep (b : Board) (p : Power) (f : List Int) (k : Nat) : List Int :=
  if (gt b.Breakers k).Kind = 1 ∧ gt p.Closed k = true then (f.set (gt b.Breakers k).A.toNat (least f (gt b.Breakers k))).set (gt b.Breakers k).B.toNat (least f (gt b.Breakers k)) else f
def tieRun (b : Board) (p : Power) : Nat → List Int → List Int
  | 0, f => f
  | k + 1, f => tieStep b p (tieRun b p k f) k
def rounds (b : Board) (p : Power) : Nat → List Int → List Int
  | 0, f => f
  | r + 1, f => tieRun b p b.Breakers.length (rounds b p r f)
def own (n : Nat) : List Int := (List.range n).map Int.ofNat
def grp (b : Board) (p : Power) : List Int := rounds b p b.Buses.toNat (own b.Buses.toNat)
theorem tieStep_len (b : Board) (p : Power) (f : List Int) (k : Nat) : (tieStep b p f k).length = f.length := by unfold tieStep; split <;> simp
theorem tieRun_len (b : Board) (p : Power) (k : Nat) (f : List Int) : (tieRun b p k f).length = f.length := by
  induction k with
  | zero => rfl
  | succ k ih => unfold tieRun; rw [tieStep_len, ih]
theorem rounds_len (b : Board) (p : Power) (r : Nat) (f : List Int) : (rounds b p r f).length = f.length := by
  induction r with
  | zero => rfl
  | succ r ih => unfold rounds; rw [tieRun_len, ih]
theorem grp_len (b : Board) (p : Power) : (grp b p).length = b.Buses.toNat := by unfold grp; rw [rounds_len]; simp [own]
theorem own_gt {n k : Nat} (h : k < n) : gt (own n) k = (k : Int) := by unfold own; rw [gt_map_range _ h]; rfl

theorem run_loop {b : Board} {p : Power} (hb : BrkOk b) (hs : Sm b.Breakers) (hc : p.Closed.length = b.Breakers.length) {f : List Int} (hf : (f.length : Int) = b.Buses) : loopO (board_groups_L3 b p) ((0 : Int), f) = some (tieRun b p b.Breakers.length f) := by
  refine loop_run (step := board_groups_L3 b p) (fun k => ((k : Int), tieRun b p k f)) b.Breakers.length (fun k hk => ?_) (by simp only [board_groups_L3, nlt_len, Bool.false_eq_true, if_false])
  have hok := hb.1 k hk
  have hl := tieRun_len b p k f
  simp only [board_groups_L3, lt_len hk, if_true, idx_gt hk, idx_gt (show k < p.Closed.length by omega), Option.bind_some, Option.bind_fun_some, Sum.elim_inl, Sum.elim_inr, eqO_self, W_succ (sm_lt hs hk)]
  by_cases h1 : (gt b.Breakers k).Kind = 1
  · rw [beqT h1]
    simp only [if_true, Option.bind_some, Option.bind_fun_some, Sum.elim_inl, Sum.elim_inr, eqO_self]
    cases h2 : gt p.Closed k with
    | false =>
      simp only [Bool.false_eq_true, if_false, Option.bind_some, Option.bind_fun_some, Sum.elim_inl, Sum.elim_inr, eqO_self]
      have e : tieRun b p (k + 1) f = tieRun b p k f := by
        show tieStep b p (tieRun b p k f) k = _
        unfold tieStep
        rw [if_neg (fun h => by rw [h2] at h; exact absurd h.2 (by simp))]
      rw [e]
    | true =>
      have hA := hok.1
      have hB : (gt b.Breakers k).A + 1 ≤ (gt b.Breakers k).B ∧ (gt b.Breakers k).B ≤ b.Buses - 1 := by
        rcases hok.2 with h | h | h
        · exact h.2
        · have := h.1; omega
        · have := h.1; omega
      simp only [if_true, idx_gtZ hA.1 (show (gt b.Breakers k).A < ((tieRun b p k f).length : Int) by omega), idx_gtZ (show 0 ≤ (gt b.Breakers k).B by omega) (show (gt b.Breakers k).B < ((tieRun b p k f).length : Int) by omega), Option.bind_some, Option.bind_fun_some, Sum.elim_inl, Sum.elim_inr, eqO_self]
      have e : tieRun b p (k + 1) f = ((tieRun b p k f).set (gt b.Breakers k).A.toNat (least (tieRun b p k f) (gt b.Breakers k))).set (gt b.Breakers k).B.toNat (least (tieRun b p k f) (gt b.Breakers k)) := by
        show tieStep b p (tieRun b p k f) k = _
        unfold tieStep
        rw [if_pos ⟨h1, h2⟩]
      rw [setO_gt hA.1 (by omega)]
      simp only [Option.bind_some, Option.bind_fun_some, Sum.elim_inl, Sum.elim_inr, eqO_self]
      rw [setO_gt (by omega) (by simp; omega), e, idx_gtZ (show 0 ≤ (gt b.Breakers k).B by omega) (by simp; omega)]
      rfl
  · rw [beqF h1]
    simp only [Bool.false_eq_true, if_false, Option.bind_some, Option.bind_fun_some, Sum.elim_inl, Sum.elim_inr, eqO_self]
    have e : tieRun b p (k + 1) f = tieRun b p k f := by
      show tieStep b p (tieRun b p k f) k = _
      unfold tieStep
      rw [if_neg (fun h => h1 h.1)]
    rw [e]
theorem groups_eq {b : Board} {p : Power} (hl : Lim b) (hb : BrkOk b) (hs : Sm b.Breakers) (hc : p.Closed.length = b.Breakers.length) : board_groups b p = some (grp b p) := by
  have hbus := hl.bus
  obtain ⟨n, hn⟩ := Int.eq_ofNat_of_zero_le (show 0 ≤ b.Buses by omega)
  have hn6 : n ≤ 6 := by omega
  unfold board_groups
  rw [hn, mkZ_nat (by omega)]
  simp only [Option.bind_some, Option.bind_fun_some, Sum.elim_inl, Sum.elim_inr, eqO_self]
  have hini : loopO (board_groups_L1 (List.replicate n (0 : Int))) ((0 : Int), List.replicate n (0 : Int)) = some (own n) := by
    have hlz : (List.replicate n (0 : Int)).length = n := by simp
    have h := loop_run (step := board_groups_L1 (List.replicate n (0 : Int))) (fun k => ((k : Int), (List.range n).map fun i : Nat => if i < k then (i : Int) else 0)) n (r := own n)
      (fun k hk => by
        have hlen : ((List.range n).map fun i : Nat => if i < k then (i : Int) else 0).length = n := by simp
        have e1 : decide ((k : Int) < len (List.replicate n (0 : Int))) = true := dT (by unfold len; omega)
        simp only [board_groups_L1, e1, if_true, idx_gt (show k < ((List.range n).map fun i : Nat => if i < k then (i : Int) else 0).length by omega), Option.bind_some, Option.bind_fun_some, Sum.elim_inl, Sum.elim_inr, eqO_self, setO_nat (show k < ((List.range n).map fun i : Nat => if i < k then (i : Int) else 0).length by omega), W_succ (show k < 1000000000000000000 by omega)]
        congr 3
        apply ext_gt
        · simp
        · intro i hi
          have hi' : i < n := by simpa using hi
          rw [gt_set (by omega), gt_map_range _ hi', gt_map_range _ hi']
          by_cases hik : i = k
          · subst hik; rw [if_pos rfl, if_pos (by omega)]
          · rw [if_neg hik]
            by_cases h1 : i < k
            · rw [if_pos h1, if_pos (by omega)]
            · rw [if_neg h1, if_neg (by omega)])
      (by
        have e1 : decide ((n : Int) < len (List.replicate n (0 : Int))) = false := dF (by unfold len; omega)
        simp only [board_groups_L1, e1, Bool.false_eq_true, if_false]
        congr 2
        apply ext_gt
        · simp [own]
        · intro i hi
          have hi' : i < n := by simpa using hi
          rw [gt_map_range _ hi', if_pos hi', own_gt hi'])
    have e0 : ((List.range n).map fun i : Nat => if i < 0 then (i : Int) else 0) = List.replicate n (0 : Int) := by
      apply ext_gt
      · simp
      · intro i hi
        have hi' : i < n := by simpa using hi
        rw [gt_map_range _ hi', gt_replicate hi']
        rfl
    rw [← e0] at h ⊢
    exact h
  rw [hini]
  simp only [Option.bind_some, Option.bind_fun_some, Sum.elim_inl, Sum.elim_inr, eqO_self]
  have hol : (own n).length = n := by simp [own]
  have hro : loopO (board_groups_L2 b p (own n)) ((0 : Int), own n) = some (rounds b p n (own n)) := by
    refine loop_run (step := board_groups_L2 b p (own n)) (fun k => ((k : Int), rounds b p k (own n))) n (fun k hk => ?_) ?_
    · have e1 : decide ((k : Int) < len (own n)) = true := dT (by unfold len; omega)
      have hrl := rounds_len b p k (own n)
      simp only [board_groups_L2, e1, if_true, run_loop hb hs hc (f := rounds b p k (own n)) (by omega), Option.bind_some, Option.bind_fun_some, Sum.elim_inl, Sum.elim_inr, eqO_self, W_succ (show k < 1000000000000000000 by omega)]
      rfl
    · have e1 : decide ((n : Int) < len (own n)) = false := dF (by unfold len; omega)
      simp only [board_groups_L2, e1, Bool.false_eq_true, if_false]
  rw [hro]
  unfold grp
  rw [hn]
  rfl

/-! what the groups are -/
def Tied (b : Board) (p : Power) (i j : Nat) : Prop := ∃ k, k < b.Breakers.length ∧ (gt b.Breakers k).Kind = 1 ∧ gt p.Closed k = true ∧ (((gt b.Breakers k).A = (i : Int) ∧ (gt b.Breakers k).B = (j : Int)) ∨ ((gt b.Breakers k).A = (j : Int) ∧ (gt b.Breakers k).B = (i : Int)))
theorem Tied.symm {b : Board} {p : Power} {i j : Nat} (h : Tied b p i j) : Tied b p j i := by
  obtain ⟨k, h1, h2, h3, h4⟩ := h
  exact ⟨k, h1, h2, h3, h4.symm⟩
theorem Tied.lt {b : Board} {p : Power} (hb : BrkOk b) {i j : Nat} (h : Tied b p i j) : i < b.Buses.toNat ∧ j < b.Buses.toNat := by
  obtain ⟨k, h1, h2, h3, h4⟩ := h
  have hok := hb.1 k h1
  have hA := hok.1
  have hB : (gt b.Breakers k).A + 1 ≤ (gt b.Breakers k).B ∧ (gt b.Breakers k).B ≤ b.Buses - 1 := by
    rcases hok.2 with h | h | h
    · exact h.2
    · have := h.1; omega
    · have := h.1; omega
  rcases h4 with h4 | h4 <;> omega
/-- what is kept by each step: own group's numbers, no greater than before -/
structure KeepG (b : Board) (p : Power) (f : List Int) : Prop where
  len : f.length = b.Buses.toNat
  sound : ∀ i, i < b.Buses.toNat → ∃ m : Nat, gt f i = (m : Int) ∧ m ≤ i ∧ Conn (Tied b p) i m
theorem keep_own (b : Board) (p : Power) : KeepG b p (own b.Buses.toNat) := ⟨by simp [own], fun i hi => ⟨i, own_gt hi, Nat.le_refl _, .refl _⟩⟩
theorem tieEnds {b : Board} (hb : BrkOk b) {k : Nat} (hk : k < b.Breakers.length) (h1 : (gt b.Breakers k).Kind = 1) : (gt b.Breakers k).A.toNat < (gt b.Breakers k).B.toNat ∧ (gt b.Breakers k).B.toNat < b.Buses.toNat ∧ (gt b.Breakers k).A = ((gt b.Breakers k).A.toNat : Int) ∧ (gt b.Breakers k).B = ((gt b.Breakers k).B.toNat : Int) := by
  have hok := hb.1 k hk
  have hA := hok.1
  have hB : (gt b.Breakers k).A + 1 ≤ (gt b.Breakers k).B ∧ (gt b.Breakers k).B ≤ b.Buses - 1 := by
    rcases hok.2 with h | h | h
    · exact h.2
    · have := h.1; omega
    · have := h.1; omega
  omega
theorem step_gt {b : Board} {p : Power} (hb : BrkOk b) {f : List Int} (hf : f.length = b.Buses.toNat) {k : Nat} (hk : k < b.Breakers.length) (i : Nat) :
    gt (tieStep b p f k) i = if (gt b.Breakers k).Kind = 1 ∧ gt p.Closed k = true ∧ (i = (gt b.Breakers k).A.toNat ∨ i = (gt b.Breakers k).B.toNat) then least f (gt b.Breakers k) else gt f i := by
  unfold tieStep
  by_cases h1 : (gt b.Breakers k).Kind = 1 ∧ gt p.Closed k = true
  · have he := tieEnds hb hk h1.1
    rw [if_pos h1, gt_set (by simp; omega), gt_set (by omega)]
    by_cases hB : i = (gt b.Breakers k).B.toNat
    · rw [if_pos hB, if_pos ⟨h1.1, h1.2, .inr hB⟩]
    · rw [if_neg hB]
      by_cases hA : i = (gt b.Breakers k).A.toNat
      · rw [if_pos hA, if_pos ⟨h1.1, h1.2, .inl hA⟩]
      · rw [if_neg hA, if_neg (fun h => by rcases h.2.2 with h | h <;> contradiction)]
  · rw [if_neg h1, if_neg (fun h => h1 ⟨h.1, h.2.1⟩)]
theorem least_le (f : List Int) (x : Breaker) : least f x ≤ gt f x.A.toNat ∧ least f x ≤ gt f x.B.toNat := by unfold least; split <;> omega
theorem step_keep {b : Board} {p : Power} (hb : BrkOk b) {f : List Int} (hf : KeepG b p f) {k : Nat} (hk : k < b.Breakers.length) : KeepG b p (tieStep b p f k) ∧ ∀ i, gt (tieStep b p f k) i ≤ gt f i := by
  refine ⟨⟨by rw [tieStep_len, hf.len], fun i hi => ?_⟩, fun i => ?_⟩
  · rw [step_gt hb hf.len hk]
    split
    · rename_i h
      obtain ⟨h1, h2, h3⟩ := h
      have he := tieEnds hb hk h1
      have hT : Tied b p (gt b.Breakers k).A.toNat (gt b.Breakers k).B.toNat := ⟨k, hk, h1, h2, .inl ⟨he.2.2.1, he.2.2.2⟩⟩
      obtain ⟨m1, e1, l1, c1⟩ := hf.sound (gt b.Breakers k).A.toNat (by omega)
      obtain ⟨m2, e2, l2, c2⟩ := hf.sound (gt b.Breakers k).B.toNat he.2.1
      unfold least
      rw [e1, e2]
      by_cases hlt : (m2 : Int) < (m1 : Int)
      · rw [if_pos hlt]
        refine ⟨m2, rfl, ?_, ?_⟩
        · rcases h3 with rfl | rfl <;> omega
        · rcases h3 with rfl | rfl
          · exact .step hT c2
          · exact c2
      · rw [if_neg hlt]
        refine ⟨m1, rfl, ?_, ?_⟩
        · rcases h3 with rfl | rfl <;> omega
        · rcases h3 with rfl | rfl
          · exact c1
          · exact .step hT.symm c1
    · exact hf.sound i hi
  · rw [step_gt hb hf.len hk]
    split
    · rename_i h
      have := least_le f (gt b.Breakers k)
      rcases h.2.2 with rfl | rfl
      · exact this.1
      · exact this.2
    · exact Int.le_refl _
theorem run_keep {b : Board} {p : Power} (hb : BrkOk b) {f : List Int} (hf : KeepG b p f) : ∀ k, k ≤ b.Breakers.length → KeepG b p (tieRun b p k f) ∧ ∀ i, gt (tieRun b p k f) i ≤ gt f i
  | 0, _ => ⟨hf, fun _ => Int.le_refl _⟩
  | k + 1, hk => by
    obtain ⟨h1, h2⟩ := run_keep hb hf k (by omega)
    obtain ⟨h3, h4⟩ := step_keep hb h1 (k := k) (by omega)
    exact ⟨h3, fun i => Int.le_trans (h4 i) (h2 i)⟩
theorem run_mono {b : Board} {p : Power} (hb : BrkOk b) {f : List Int} (hf : KeepG b p f) {k : Nat} : ∀ m, k + m ≤ b.Breakers.length → ∀ i, gt (tieRun b p (k + m) f) i ≤ gt (tieRun b p k f) i
  | 0, _ => fun _ => Int.le_refl _
  | m + 1, hm => fun i => by
    have h1 := run_mono hb hf m (k := k) (by omega) i
    have h2 := (step_keep hb (run_keep hb hf (k + m) (by omega)).1 (k := k + m) (by omega)).2 i
    exact Int.le_trans h2 h1
/-- a round brings neighbours' numbers over -/
theorem run_edge {b : Board} {p : Power} (hb : BrkOk b) {f : List Int} (hf : KeepG b p f) {i j : Nat} (h : Tied b p i j) : gt (tieRun b p b.Breakers.length f) i ≤ gt f j := by
  obtain ⟨k, hk, h1, h2, h3⟩ := h
  have he := tieEnds hb hk h1
  have hm := run_mono hb hf (k := k + 1) (b.Breakers.length - (k + 1)) (by omega) i
  rw [show k + 1 + (b.Breakers.length - (k + 1)) = b.Breakers.length from by omega] at hm
  refine Int.le_trans hm ?_
  show gt (tieStep b p (tieRun b p k f) k) i ≤ gt f j
  have hkk := run_keep hb hf k (by omega)
  rw [step_gt hb hkk.1.len hk]
  have hl := least_le (tieRun b p k f) (gt b.Breakers k)
  have hj := hkk.2 j
  rw [if_pos ⟨h1, h2, by rcases h3 with h3 | h3 <;> omega⟩]
  rcases h3 with h3 | h3
  · have : (gt b.Breakers k).B.toNat = j := by omega
    rw [this] at hl
    omega
  · have : (gt b.Breakers k).A.toNat = j := by omega
    rw [this] at hl
    omega
theorem rounds_keep {b : Board} {p : Power} (hb : BrkOk b) (r : Nat) : KeepG b p (rounds b p r (own b.Buses.toNat)) := by
  induction r with
  | zero => exact keep_own b p
  | succ r ih => exact (run_keep hb ih _ (Nat.le_refl _)).1
theorem rounds_walk {b : Board} {p : Power} (hb : BrkOk b) : ∀ (r : Nat) {i j : Nat}, i < b.Buses.toNat → Walk (Tied b p) r i j → gt (rounds b p r (own b.Buses.toNat)) i ≤ (j : Int)
  | 0, i, j, hi, h => by
    have := h.zero
    subst this
    rw [show rounds b p 0 (own b.Buses.toNat) = own b.Buses.toNat from rfl, own_gt hi]
    exact Int.le_refl _
  | r + 1, i, j, hi, h => by
    have hk := rounds_keep (p := p) hb r
    cases h with
    | refl =>
      obtain ⟨m, h1, h2, _⟩ := (rounds_keep (p := p) hb (r + 1)).sound i hi
      rw [h1]; omega
    | step e w =>
      exact Int.le_trans (run_edge hb hk e) (rounds_walk hb r (e.lt hb).2 w)
/-- the groups: each bus has the least one that it is joined with -/
theorem grp_spec {b : Board} {p : Power} (hb : BrkOk b) {i : Nat} (hi : i < b.Buses.toNat) : ∃ m : Nat, gt (grp b p) i = (m : Int) ∧ Conn (Tied b p) i m ∧ ∀ j, Conn (Tied b p) i j → m ≤ j := by
  obtain ⟨m, h1, h2, h3⟩ := (rounds_keep (p := p) hb b.Buses.toNat).sound i hi
  refine ⟨m, h1, h3, fun j hj => ?_⟩
  have hw := (hj.walk (n := b.Buses.toNat) (fun i j h => (h.lt hb).2) hi).more (r' := b.Buses.toNat) (by omega)
  have := rounds_walk hb b.Buses.toNat hi hw
  have h1' : gt (rounds b p b.Buses.toNat (own b.Buses.toNat)) i = (m : Int) := h1
  rw [h1'] at this
  omega
theorem grp_iff {b : Board} {p : Power} (hb : BrkOk b) {i j : Nat} (hi : i < b.Buses.toNat) (hj : j < b.Buses.toNat) : gt (grp b p) i = gt (grp b p) j ↔ Conn (Tied b p) i j := by
  obtain ⟨m, h1, h2, h3⟩ := grp_spec (p := p) hb hi
  obtain ⟨m', h1', h2', h3'⟩ := grp_spec (p := p) hb hj
  rw [h1, h1']
  have hs : ∀ i j, Tied b p i j → Tied b p j i := fun _ _ h => h.symm
  constructor
  · intro h
    have : m = m' := by omega
    subst this
    exact h2.trans (h2'.symm hs)
  · intro h
    have e1 := h3 m' (h.trans h2')
    have e2 := h3' m ((h.symm hs).trans h2)
    omega
theorem grp_bd {b : Board} {p : Power} (hb : BrkOk b) {i : Nat} (hi : i < b.Buses.toNat) : 0 ≤ gt (grp b p) i ∧ gt (grp b p) i ≤ (i : Int) := by
  obtain ⟨m, h1, h2, h3⟩ := grp_spec (p := p) hb hi
  have := h3 i (.refl _)
  omega

end Rx
end Go.Proofs.YtfnphdhcgkondaaGreat
