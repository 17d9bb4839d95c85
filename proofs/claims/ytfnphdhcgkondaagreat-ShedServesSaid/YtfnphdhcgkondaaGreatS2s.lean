/- The interlock, plainly: leaders, agreement, what a command does; and the example of chapter 16. -/
import Derived.Test.YtfnphdhcgkondaaGreatM7
import Derived.Test.YtfnphdhcgkondaaGreatN5
set_option linter.unusedVariables false
set_option linter.unusedSimpArgs false
namespace Go.Proofs.YtfnphdhcgkondaaGreat
open Go Go.RowKit Dp
namespace Rx

theorem clone_eq {p : Power} (h : SmP p) : states_Clone p = some (p.Closed, p.Sources, p.Limits, p.Broken) := by
  obtain ⟨h1, h2, h3, h4⟩ := h
  unfold Sm at *
  unfold states_Clone slices_Clone_bool_bool slices_Clone_Running_Running slices_Clone_int_int slices_Clone_Part_Part
  rw [app_sm (by simp; omega), app_sm (by simp; omega), app_sm (by simp; omega), app_sm (by simp; omega)]
  rfl

section
variable {b : Board} {p : Power}
/-- the turn from one angle to another -/
def dif (a c : Int) : Int := if (c % 3600 - a % 3600) % 3600 > 1800 then (c % 3600 - a % 3600) % 3600 - 3600 else (c % 3600 - a % 3600) % 3600
/-- what is looked at of two generators -/
def agr (b : Board) (x y : Running) : Prop := ((0 ≤ x.Frequency ∧ 0 ≤ y.Frequency) ∧ x.Frequency ≤ 6000 ∧ y.Frequency ≤ 6000) ∧ (x.Frequency - y.Frequency ≤ b.Frequency ∧ y.Frequency - x.Frequency ≤ b.Frequency) ∧ dif x.Phase y.Phase ≤ b.Phase ∧ -dif x.Phase y.Phase ≤ b.Phase
instance (b : Board) (x y : Running) : Decidable (agr b x y) := by unfold agr; exact inferInstance
def SmR (x : Running) : Prop := (-100000000000000000 ≤ x.Frequency ∧ x.Frequency ≤ 100000000000000000) ∧ -100000000000000000 ≤ x.Phase ∧ x.Phase ≤ 100000000000000000
theorem SmR.of {x : Running} (h : RunOk x) : SmR x := by
  obtain ⟨_, _, ⟨h1, h2⟩, h3, h4⟩ := h
  exact ⟨⟨by omega, by omega⟩, by omega, by omega⟩
/-! a generator follows -/
def like (x y : Running) : Running := { x with Frequency := y.Frequency, Phase := y.Phase }
def setAll (S : List Running) (y : Running) : List Int → List Running
  | [] => S
  | k :: l => setAll (S.set k.toNat (like (gt S k.toNat) y)) y l
theorem setAll_len (y : Running) : ∀ (l : List Int) (S : List Running), (setAll S y l).length = S.length
  | [], _ => rfl
  | k :: l, S => by unfold setAll; rw [setAll_len y l]; simp
theorem setAll_snoc (y : Running) (k : Int) : ∀ (l : List Int) (S : List Running), setAll S y (l ++ [k]) = (setAll S y l).set k.toNat (like (gt (setAll S y l) k.toNat) y)
  | [], _ => rfl
  | j :: l, S => by
    show setAll _ y (l ++ [k]) = _
    rw [setAll_snoc y k l]
    rfl
theorem set_eq {l : List Int} {y : Running} (hl : Sm l) (h : ∀ k ∈ l, 0 ≤ k ∧ k < p.Sources.length) : sync_set p l y = some (setAll p.Sources y l) := by
  have hr := loop_run (step := sync_set_L1 l y) (fun k => ((k : Int), setAll p.Sources y (l.take k))) l.length (r := setAll p.Sources y l) (fun k hk => by
    obtain ⟨k0, k1⟩ := h _ (gt_mem hk)
    obtain ⟨j, hj⟩ := Int.eq_ofNat_of_zero_le k0
    have hj : gt l k = (j : Int) := hj
    have hjl : j < (setAll p.Sources y (l.take k)).length := by rw [setAll_len]; omega
    have hjs : j < ((setAll p.Sources y (l.take k)).set j { gt (setAll p.Sources y (l.take k)) j with Frequency := y.Frequency }).length := by simpa using hjl
    simp only [sync_set_L1, lt_len hk, if_true, idx_gt hk, Option.bind_some, Option.bind_fun_some, Sum.elim_inl, Sum.elim_inr, eqO_self, hj, idx_gt hjl, setO_nat hjl, idx_gt hjs, setO_nat hjs, W_succ (sm_lt hl hk), gt_set hjl, take_gt hk, setAll_snoc, Int.toNat_natCast, List.set_set]
    rfl) (by simp only [sync_set_L1, nlt_len, Bool.false_eq_true, if_false, List.take_length])
  unfold sync_set
  have hr' : loopO (sync_set_L1 l y) ((0 : Int), p.Sources) = some (setAll p.Sources y l) := hr
  rw [hr']
  rfl
end
end Rx
end Go.Proofs.YtfnphdhcgkondaaGreat
