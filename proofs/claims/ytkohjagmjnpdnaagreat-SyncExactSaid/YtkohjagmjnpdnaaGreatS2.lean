/- The interlock, plainly: leaders, agreement, what a command does; and the example of chapter 16. -/
import Derived.Test.YtkohjagmjnpdnaaGreatM8
import Derived.Test.YtkohjagmjnpdnaaGreatN5
set_option linter.unusedVariables false
set_option linter.unusedSimpArgs false
namespace Go.Proofs.YtkohjagmjnpdnaaGreat
open Go Go.RowKit Dp
namespace Rx

theorem tmod_3600 (a : Int) : (a % 3600 = if a.tmod 3600 < 0 then a.tmod 3600 + 3600 else a.tmod 3600) ∧ -3600 < a.tmod 3600 ∧ a.tmod 3600 < 3600 := by
  by_cases ha : 0 ≤ a
  · rw [Int.tmod_eq_emod_of_nonneg ha, if_neg (by omega)]
    exact ⟨rfl, by omega, by omega⟩
  · have hn : a.tmod 3600 = -((-a) % 3600) := by
      rw [← Int.tmod_eq_emod_of_nonneg (show 0 ≤ -a by omega), Int.neg_tmod, Int.neg_neg]
    rw [hn]
    refine ⟨?_, by omega, by omega⟩
    split <;> omega
theorem norm_eq {a : Int} (h1 : -100000000000000000 ≤ a) (h2 : a ≤ 100000000000000000) : angle_Norm a = some (a % 3600) := by
  have e0 : remO a 3600 = some (a.tmod 3600) := by unfold remO; rw [if_neg (by decide)]
  obtain ⟨e1, e2⟩ := tmod_3600 a
  unfold angle_Norm
  rw [e0]
  simp only [Option.bind_some, Option.bind_fun_some, Sum.elim_inl, Sum.elim_inr, eqO_self]
  by_cases h : a.tmod 3600 < 0
  · rw [dT h, if_pos rfl, W_sm (by omega) (by omega), e1, if_pos h]
  · rw [dF h, if_neg (by simp), e1, if_neg h]
theorem clone_eq {p : Power} (h : SmP p) : states_Clone p = some (p.Closed, p.Sources, p.Limits, p.Broken) := by
  obtain ⟨h1, h2, h3, h4⟩ := h
  unfold Sm at *
  unfold states_Clone slices_Clone_bool_bool slices_Clone_Running_Running slices_Clone_int_int slices_Clone_Part_Part
  rw [app_sm (by simp; omega), app_sm (by simp; omega), app_sm (by simp; omega), app_sm (by simp; omega)]
  rfl

/-- a tick for one generator -/
def tick (x : Running) : Running := if x.State = 2 then { x with Phase := (x.Phase + 36 * (x.Frequency - 5000)) % 3600 } else x
def turned (p : Power) : Power := ⟨p.Closed, p.Sources.map tick, p.Limits, p.Broken⟩
def turnAt (l : List Running) (k : Nat) : List Running := (List.range l.length).map fun i => if i < k then tick (gt l i) else gt l i
theorem turnAt_zero (l : List Running) : turnAt l 0 = l := by
  apply ext_gt
  · simp [turnAt]
  · intro k hk
    have hk' : k < l.length := by simpa [turnAt] using hk
    unfold turnAt
    rw [gt_map_range _ hk', if_neg (by omega)]
theorem turnAt_all (l : List Running) : turnAt l l.length = l.map tick := by
  apply ext_gt
  · simp [turnAt]
  · intro k hk
    have hk' : k < l.length := by simpa [turnAt] using hk
    unfold turnAt
    rw [gt_map_range _ hk', if_pos hk', gt_get (l := l.map tick) (by simpa using hk'), List.getElem_map, gt_get hk']
theorem turnAt_set (l : List Running) {k : Nat} (hk : k < l.length) : (turnAt l k).set k (tick (gt l k)) = turnAt l (k + 1) := by
  apply ext_gt
  · simp [turnAt]
  · intro i hi
    have hi' : i < l.length := by simpa [turnAt] using hi
    rw [gt_set (by simpa [turnAt] using hk)]
    unfold turnAt
    rw [gt_map_range _ hi', gt_map_range _ hi']
    by_cases h : i = k
    · subst h; rw [if_pos rfl, if_pos (by omega)]
    · rw [if_neg h]
      by_cases h2 : i < k
      · rw [if_pos h2, if_pos (by omega)]
      · rw [if_neg h2, if_neg (by omega)]
theorem turn_loop {p : Power} (hp : SmP p) (hr : ∀ k, k < p.Sources.length → RunOk (gt p.Sources k)) : loopO (sync_Turn_L1 p) ((0 : Int), p.Sources) = some (p.Sources.map tick) := by
  have hsm := hp.2.1
  have h := loop_run (step := sync_Turn_L1 p) (fun k => ((k : Int), turnAt p.Sources k)) p.Sources.length (r := turnAt p.Sources p.Sources.length) (fun k hk => by
    have hx := hr k hk
    obtain ⟨_, _, ⟨f0, f1⟩, p0, p1⟩ := hx
    have hl : k < (turnAt p.Sources k).length := by simpa [turnAt] using hk
    have hg : gt (turnAt p.Sources k) k = gt p.Sources k := by
      unfold turnAt; rw [gt_map_range _ hk, if_neg (by omega)]
    have hw : W ((gt p.Sources k).Phase + W (36 * W ((gt p.Sources k).Frequency - 5000))) = (gt p.Sources k).Phase + 36 * ((gt p.Sources k).Frequency - 5000) := by
      rw [W_sm (x := (gt p.Sources k).Frequency - 5000) (by omega) (by omega), W_sm (x := 36 * ((gt p.Sources k).Frequency - 5000)) (by omega) (by omega), W_sm (by omega) (by omega)]
    simp only [sync_Turn_L1, lt_len hk, if_true, idx_gt hk, Option.bind_some, Option.bind_fun_some, Sum.elim_inl, Sum.elim_inr, eqO_self, W_succ (sm_lt hp.2.1 hk), hw]
    have ht := turnAt_set p.Sources hk
    unfold tick at ht
    by_cases hs : (gt p.Sources k).State = 2
    · rw [if_pos hs] at ht
      simp only [beqT hs, if_true, norm_eq (a := (gt p.Sources k).Phase + 36 * ((gt p.Sources k).Frequency - 5000)) (by omega) (by omega), idx_gt hl, Option.bind_some, Option.bind_fun_some, Sum.elim_inl, Sum.elim_inr, eqO_self, setO_nat hl, hg, ht]
    · rw [if_neg hs] at ht
      have : turnAt p.Sources (k + 1) = turnAt p.Sources k := by
        rw [← ht, ← hg]
        apply ext_gt
        · simp
        · intro i hi
          rw [gt_set hl]
          split
          · rename_i e; rw [e]
          · rfl
      simp only [beqF hs, Bool.false_eq_true, if_false, Option.bind_some, Option.bind_fun_some, Sum.elim_inl, Sum.elim_inr, eqO_self, this]) (by simp only [sync_Turn_L1, nlt_len, Bool.false_eq_true, if_false])
  rw [turnAt_all] at h
  have h0 := turnAt_zero p.Sources
  simp only [h0] at h
  exact h
theorem turn_eq {b : Board} {p : Power} (hb : SmB b) (hp : SmP p) (h : stt b p = 0) : sync_Turn b p = some (0, p.Closed, p.Sources.map tick, p.Limits, p.Broken) := by
  obtain ⟨_, _, _, hr, _⟩ := stt_zero.1 h
  unfold sync_Turn
  have e : (stt b p != 0) = false := by rw [h]; rfl
  simp only [state_eq hb hp, Option.bind_some, Option.bind_fun_some, Sum.elim_inl, Sum.elim_inr, eqO_self, e, Bool.false_eq_true, if_false, clone_eq hp, turn_loop hp hr]


theorem has_one {l : List Int} {x : Int} (hl : Sm l) : slices_Contains_int_int l x = some (decide (x ∈ l)) := contains_eq hl
section
variable {b : Board} {p : Power}
theorem ofB_in' (h : stt b p = 0) {k : Int} (h0 : 0 ≤ k) (h1 : k < b.Buses) : ofB b p k = (isleOf b p k, true) := by
  unfold ofB; rw [if_pos ⟨h, h0, h1⟩]
/-- the leader of a bus -/
noncomputable def lead (b : Board) (p : Power) (k : Int) : Int × Bool := if (ofB b p k).1.Sources = [] then (0, false) else (gt (ofB b p k).1.Sources 0, true)
theorem lead_eq (hb : SmB b) (hp : SmP p) (k : Int) : sync_Leader b p k = some (lead b p k) := by
  unfold sync_Leader lead
  simp only [of_eq hb hp, ofT, Option.bind_some, Option.bind_fun_some, Sum.elim_inl, Sum.elim_inr, eqO_self]
  by_cases h : (ofB b p k).1.Sources = []
  · simp only [h]
    rfl
  · have hl := List.length_pos_iff.2 h
    have e : (len (ofB b p k).1.Sources == 0) = false := beqF (by unfold len; omega)
    have ei : idx (ofB b p k).1.Sources 0 = some (gt (ofB b p k).1.Sources 0) := idx_gt hl
    simp only [e, Bool.false_eq_true, if_false, h, ei, Option.bind_some, Option.bind_fun_some, Sum.elim_inl, Sum.elim_inr, eqO_self]
/-- the turn from one angle to another -/
def dif (a c : Int) : Int := if (c % 3600 - a % 3600) % 3600 > 1800 then (c % 3600 - a % 3600) % 3600 - 3600 else (c % 3600 - a % 3600) % 3600
theorem dif_bd (a c : Int) : -1800 < dif a c ∧ dif a c ≤ 1800 := by unfold dif; split <;> omega
theorem dif_eq {a c : Int} (h1 : -100000000000000000 ≤ a) (h2 : a ≤ 100000000000000000) (h3 : -100000000000000000 ≤ c) (h4 : c ≤ 100000000000000000) : angle_Diff a c = some (dif a c) := by
  unfold angle_Diff dif
  simp only [norm_eq h1 h2, norm_eq h3 h4, Option.bind_some, Option.bind_fun_some, Sum.elim_inl, Sum.elim_inr, eqO_self]
  rw [W_sm (x := c % 3600 - a % 3600) (by omega) (by omega), norm_eq (by omega) (by omega)]
  simp only [Option.bind_some, Option.bind_fun_some, Sum.elim_inl, Sum.elim_inr, eqO_self]
  by_cases h : (c % 3600 - a % 3600) % 3600 > 1800
  · simp only [dT h, if_true, if_pos h, Option.bind_some, Option.bind_fun_some, Sum.elim_inl, Sum.elim_inr, eqO_self, W_sm (x := (c % 3600 - a % 3600) % 3600 - 3600) (by omega) (by omega)]
  · simp only [dF h, Bool.false_eq_true, if_false, if_neg h, Option.bind_some, Option.bind_fun_some, Sum.elim_inl, Sum.elim_inr, eqO_self]
/-- what is looked at of two generators -/
def agr (b : Board) (x y : Running) : Prop := ((0 ≤ x.Frequency ∧ 0 ≤ y.Frequency) ∧ x.Frequency ≤ 6000 ∧ y.Frequency ≤ 6000) ∧ (x.Frequency - y.Frequency ≤ b.Frequency ∧ y.Frequency - x.Frequency ≤ b.Frequency) ∧ dif x.Phase y.Phase ≤ b.Phase ∧ -dif x.Phase y.Phase ≤ b.Phase
instance (b : Board) (x y : Running) : Decidable (agr b x y) := by unfold agr; exact inferInstance
def SmR (x : Running) : Prop := (-100000000000000000 ≤ x.Frequency ∧ x.Frequency ≤ 100000000000000000) ∧ -100000000000000000 ≤ x.Phase ∧ x.Phase ≤ 100000000000000000
theorem SmR.of {x : Running} (h : RunOk x) : SmR x := by
  obtain ⟨_, _, ⟨h1, h2⟩, h3, h4⟩ := h
  exact ⟨⟨by omega, by omega⟩, by omega, by omega⟩
theorem agree_eq {x y : Running} (hx : SmR x) (hy : SmR y) : sync_Agree b x y = some (decide (agr b x y)) := by
  obtain ⟨⟨f1, f2⟩, p1, p2⟩ := hx
  obtain ⟨⟨f3, f4⟩, p3, p4⟩ := hy
  have hd := dif_bd x.Phase y.Phase
  unfold sync_Agree
  simp only [dif_eq p1 p2 p3 p4, Option.bind_some, Option.bind_fun_some, Sum.elim_inl, Sum.elim_inr, eqO_self]
  rw [W_sm (x := x.Frequency - y.Frequency) (by omega) (by omega), W_sm (x := y.Frequency - x.Frequency) (by omega) (by omega), W_sm (x := -dif x.Phase y.Phase) (by omega) (by omega)]
  have e1 : (if y.Frequency < x.Frequency then y.Frequency else x.Frequency) < 0 ↔ ¬ (0 ≤ x.Frequency ∧ 0 ≤ y.Frequency) := by split <;> omega
  have e2 : (if x.Frequency < y.Frequency then y.Frequency else x.Frequency) > 6000 ↔ ¬ (x.Frequency ≤ 6000 ∧ y.Frequency ≤ 6000) := by split <;> omega
  have e3 : (if x.Frequency - y.Frequency < y.Frequency - x.Frequency then y.Frequency - x.Frequency else x.Frequency - y.Frequency) ≤ b.Frequency ↔ (x.Frequency - y.Frequency ≤ b.Frequency ∧ y.Frequency - x.Frequency ≤ b.Frequency) := by split <;> omega
  have e4 : (if dif x.Phase y.Phase < -dif x.Phase y.Phase then -dif x.Phase y.Phase else dif x.Phase y.Phase) ≤ b.Phase ↔ (dif x.Phase y.Phase ≤ b.Phase ∧ -dif x.Phase y.Phase ≤ b.Phase) := by split <;> omega
  simp only [e1, e2, e3, e4]
  unfold agr
  by_cases q1 : 0 ≤ x.Frequency ∧ 0 ≤ y.Frequency
  · by_cases q2 : x.Frequency ≤ 6000 ∧ y.Frequency ≤ 6000
    · by_cases q3 : x.Frequency - y.Frequency ≤ b.Frequency ∧ y.Frequency - x.Frequency ≤ b.Frequency
      · simp [q1, q2, q3]
      · simp [q1, q2, q3]
    · simp [q1, q2]
  · simp [q1]

/-! a generator follows -/
def like (x y : Running) : Running := { x with Frequency := y.Frequency, Phase := y.Phase }
def setAll (S : List Running) (y : Running) : List Int → List Running
  | [] => S
  | k :: l => setAll (S.set k.toNat (like (gt S k.toNat) y)) y l
theorem setAll_len (y : Running) : ∀ (l : List Int) (S : List Running), (setAll S y l).length = S.length
  | [], _ => rfl
  | k :: l, S => by unfold setAll; rw [setAll_len y l]; simp
theorem setAll_snoc (y : Running) (k : Int) : ∀ (l : List Int) (S : List Running), setAll S y (l ++ [k]) = (setAll S y l).set k.toNat (like (gt (setAll S y l) k.toNat) y)
  | [], _ => rfl
  | j :: l, S => by
    show setAll _ y (l ++ [k]) = _
    rw [setAll_snoc y k l]
    rfl
theorem set_eq {l : List Int} {y : Running} (hl : Sm l) (h : ∀ k ∈ l, 0 ≤ k ∧ k < p.Sources.length) : sync_set p l y = some (p.Closed, setAll p.Sources y l, p.Limits, p.Broken) := by
  have hr := loop_run (step := sync_set_L1 l y) (fun k => ((k : Int), setAll p.Sources y (l.take k))) l.length (r := setAll p.Sources y l) (fun k hk => by
    obtain ⟨k0, k1⟩ := h _ (gt_mem hk)
    obtain ⟨j, hj⟩ := Int.eq_ofNat_of_zero_le k0
    have hj : gt l k = (j : Int) := hj
    have hjl : j < (setAll p.Sources y (l.take k)).length := by rw [setAll_len]; omega
    have hjs : j < ((setAll p.Sources y (l.take k)).set j { gt (setAll p.Sources y (l.take k)) j with Frequency := y.Frequency }).length := by simpa using hjl
    simp only [sync_set_L1, lt_len hk, if_true, idx_gt hk, Option.bind_some, Option.bind_fun_some, Sum.elim_inl, Sum.elim_inr, eqO_self, hj, idx_gt hjl, setO_nat hjl, idx_gt hjs, setO_nat hjs, W_succ (sm_lt hl hk), gt_set hjl, take_gt hk, setAll_snoc, Int.toNat_natCast, List.set_set]
    rfl) (by simp only [sync_set_L1, nlt_len, Bool.false_eq_true, if_false, List.take_length])
  unfold sync_set
  have hr' : loopO (sync_set_L1 l y) ((0 : Int), p.Sources) = some (setAll p.Sources y l) := hr
  rw [hr']
  rfl
end
end Rx
end Go.Proofs.YtkohjagmjnpdnaaGreat
