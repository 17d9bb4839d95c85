/- The interlock, plainly: leaders, agreement, what a command does; and the example of chapter 16. -/
import Derived.Test.YtfnphdhcgkondaaGreatM8
import Derived.Test.YtfnphdhcgkondaaGreatN5
set_option linter.unusedVariables false
set_option linter.unusedSimpArgs false
namespace Go.Proofs.YtfnphdhcgkondaaGreat
open Go Go.RowKit Dp
namespace Rx

theorem tmod_3600 (a : Int) : (a % 3600 = if a.tmod 3600 < 0 then a.tmod 3600 + 3600 else a.tmod 3600) ∧ -3600 < a.tmod 3600 ∧ a.tmod 3600 < 3600 := by
  by_cases ha : 0 ≤ a
  · rw [Int.tmod_eq_emod_of_nonneg ha, if_neg (by omega)]
    exact ⟨rfl, by omega, by omega⟩
  · have hn : a.tmod 3600 = -((-a) % 3600) := by
      rw [← Int.tmod_eq_emod_of_nonneg (show 0 ≤ -a by omega), Int.neg_tmod, Int.neg_neg]
    rw [hn]
    refine ⟨?_, by omega, by omega⟩
    split <;> omega
theorem clone_eq {p : Power} (h : SmP p) : states_Clone p = some (p.Closed, p.Sources, p.Limits, p.Broken) := by
  obtain ⟨h1, h2, h3, h4⟩ := h
  unfold Sm at *
  unfold states_Clone slices_Clone_bool_bool slices_Clone_Running_Running slices_Clone_int_int slices_Clone_Part_Part
  rw [app_sm (by simp; omega), app_sm (by simp; omega), app_sm (by simp; omega), app_sm (by simp; omega)]
  rfl

/-- a tick for one generator -/
def tick (x : Running) : Running := if x.State = 2 then { x with Phase := (x.Phase + 36 * (x.Frequency - 5000)) % 3600 } else x
def turned (p : Power) : Power := ⟨p.Closed, p.Sources.map tick, p.Limits, p.Broken⟩
def turnAt (l : List Running) (k : Nat) : List Running := (List.range l.length).map fun i => if i < k then tick (gt l i) else gt l i
theorem turnAt_zero (l : List Running) : turnAt l 0 = l := by
  apply ext_gt
  · simp [turnAt]
  · intro k hk
    have hk' : k < l.length := by simpa [turnAt] using hk
    unfold turnAt
    rw [gt_map_range _ hk', if_neg (by omega)]
theorem turnAt_all (l : List Running) : turnAt l l.length = l.map tick := by
  apply ext_gt
  · simp [turnAt]
  · intro k hk
    have hk' : k < l.length := by simpa [turnAt] using hk
    unfold turnAt
    rw [gt_map_range _ hk', if_pos hk', gt_get (l := l.map tick) (by simpa using hk'), List.getElem_map, gt_get hk']
theorem turnAt_set (l : List Running) {k : Nat} (hk : k < l.length) : (turnAt l k).set k (tick (gt l k)) = turnAt l (k + 1) := by
  apply ext_gt
  · simp [turnAt]
  · intro i hi
    have hi' : i < l.length := by simpa [turnAt] using hi
    rw [gt_set (by simpa [turnAt] using hk)]
    unfold turnAt
    rw [gt_map_range _ hi', gt_map_range _ hi']
    by_cases h : i = k
    · subst h; rw [if_pos rfl, if_pos (by omega)]
    · rw [if_neg h]
      by_cases h2 : i < k
      · rw [if_pos h2, if_pos (by omega)]
      · rw [if_neg h2, if_neg (by omega)]
theorem has_one {l : List Int} {x : Int} (hl : Sm l) : slices_Contains_int_int l x = some (decide (x ∈ l)) := contains_eq hl
section
variable {b : Board} {p : Power}
theorem ofB_in' (h : stt b p = 0) {k : Int} (h0 : 0 ≤ k) (h1 : k < b.Buses) : ofB b p k = (isleOf b p k, true) := by
  unfold ofB; rw [if_pos ⟨h, h0, h1⟩]
/-- the leader of a bus -/
noncomputable def lead (b : Board) (p : Power) (k : Int) : Int × Bool := if (ofB b p k).1.Sources = [] then (0, false) else (gt (ofB b p k).1.Sources 0, true)
/-- the turn from one angle to another -/
def dif (a c : Int) : Int := if (c % 3600 - a % 3600) % 3600 > 1800 then (c % 3600 - a % 3600) % 3600 - 3600 else (c % 3600 - a % 3600) % 3600
theorem dif_bd (a c : Int) : -1800 < dif a c ∧ dif a c ≤ 1800 := by unfold dif; split <;> omega
/-- what is looked at of two generators -/
def agr (b : Board) (x y : Running) : Prop := ((0 ≤ x.Frequency ∧ 0 ≤ y.Frequency) ∧ x.Frequency ≤ 6000 ∧ y.Frequency ≤ 6000) ∧ (x.Frequency - y.Frequency ≤ b.Frequency ∧ y.Frequency - x.Frequency ≤ b.Frequency) ∧ dif x.Phase y.Phase ≤ b.Phase ∧ -dif x.Phase y.Phase ≤ b.Phase
instance (b : Board) (x y : Running) : Decidable (agr b x y) := by unfold agr; exact inferInstance
def SmR (x : Running) : Prop := (-100000000000000000 ≤ x.Frequency ∧ x.Frequency ≤ 100000000000000000) ∧ -100000000000000000 ≤ x.Phase ∧ x.Phase ≤ 100000000000000000
theorem SmR.of {x : Running} (h : RunOk x) : SmR x := by
  obtain ⟨_, _, ⟨h1, h2⟩, h3, h4⟩ := h
  exact ⟨⟨by omega, by omega⟩, by omega, by omega⟩
/-! a generator follows -/
def like (x y : Running) : Running := { x with Frequency := y.Frequency, Phase := y.Phase }
def setAll (S : List Running) (y : Running) : List Int → List Running
  | [] => S
  | k :: l => setAll (S.set k.toNat (like (gt S k.toNat) y)) y l
theorem setAll_len (y : Running) : ∀ (l : List Int) (S : List Running), (setAll S y l).length = S.length
  | [], _ => rfl
  | k :: l, S => by unfold setAll; rw [setAll_len y l]; simp
theorem setAll_snoc (y : Running) (k : Int) : ∀ (l : List Int) (S : List Running), setAll S y (l ++ [k]) = (setAll S y l).set k.toNat (like (gt (setAll S y l) k.toNat) y)
  | [], _ => rfl
  | j :: l, S => by
    show setAll _ y (l ++ [k]) = _
    rw [setAll_snoc y k l]
    rfl
theorem set_eq {l : List Int} {y : Running} (hl : Sm l) (h : ∀ k ∈ l, 0 ≤ k ∧ k < p.Sources.length) : sync_set p l y = some (setAll p.Sources y l) := by
  have hr := loop_run (step := sync_set_L1 l y) (fun k => ((k : Int), setAll p.Sources y (l.take k))) l.length (r := setAll p.Sources y l) (fun k hk => by
    obtain ⟨k0, k1⟩ := h _ (gt_mem hk)
    obtain ⟨j, hj⟩ := Int.eq_ofNat_of_zero_le k0
    have hj : gt l k = (j : Int) := hj
    have hjl : j < (setAll p.Sources y (l.take k)).length := by rw [setAll_len]; omega
    have hjs : j < ((setAll p.Sources y (l.take k)).set j { gt (setAll p.Sources y (l.take k)) j with Frequency := y.Frequency }).length := by simpa using hjl
    simp only [sync_set_L1, lt_len hk, if_true, idx_gt hk, Option.bind_some, Option.bind_fun_some, Sum.elim_inl, Sum.elim_inr, eqO_self, hj, idx_gt hjl, setO_nat hjl, idx_gt hjs, setO_nat hjs, W_succ (sm_lt hl hk), gt_set hjl, take_gt hk, setAll_snoc, Int.toNat_natCast, List.set_set]
    rfl) (by simp only [sync_set_L1, nlt_len, Bool.false_eq_true, if_false, List.take_length])
  unfold sync_set
  have hr' : loopO (sync_set_L1 l y) ((0 : Int), p.Sources) = some (setAll p.Sources y l) := hr
  rw [hr']
  rfl
end
end Rx
end Go.Proofs.YtfnphdhcgkondaaGreat
