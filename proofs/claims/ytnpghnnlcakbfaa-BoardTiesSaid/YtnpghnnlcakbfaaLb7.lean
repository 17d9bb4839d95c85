/- The example of the board's chapter; the one breaker of a generator. -/
import Derived.Test.YtnpghnnlcakbfaaLb6
import Derived.KernelRfl
set_option linter.unusedVariables false
set_option linter.unusedSimpArgs false
namespace Go.Proofs.Ytnpghnnlcakbfaa
open Go Go.RowKit Dp

/-! the example of the chapter -/
def twoB : Board := ⟨2, [⟨1, 0, 1⟩, ⟨2, 0, 0⟩, ⟨2, 1, 1⟩, ⟨3, 0, 0⟩], [⟨100, 0, 0⟩, ⟨100, 0, 0⟩], [⟨60, 0, 0, -1, []⟩], 50, 10⟩
def twoP : Power := ⟨[false, true, true, true], [⟨2, 0, 5000, 0⟩, ⟨2, 0, 5000, 0⟩], [60], []⟩
theorem lt4 {P : Nat → Prop} (h0 : P 0) (h1 : P 1) (h2 : P 2) (h3 : P 3) : ∀ k, k < 4 → P k
  | 0, _ => h0
  | 1, _ => h1
  | 2, _ => h2
  | 3, _ => h3
  | k + 4, h => by omega
theorem two_stt : stt twoB twoP = 0 := by
  refine stt_zero.2 ⟨⟨⟨by decide, by decide, by decide, by decide⟩, ⟨?_, ?_, ?_⟩, by decide, by decide, ?_, ?_⟩, ⟨by decide, by decide, by decide⟩, ⟨?_, by decide⟩, ?_, ?_⟩
  · refine lt4 ?_ ?_ ?_ ?_ <;> (unfold OkAt; decide +kernel)
  · intro j hj
    have hj' : j < 2 := hj
    match j, hj' with
    | 0, _ => exact ⟨1, by decide, by unfold isS; decide +kernel⟩
    | 1, _ => exact ⟨2, by decide, by unfold isS; decide +kernel⟩
  · intro j hj
    have hj' : j < 1 := hj
    match j, hj' with
    | 0, _ => exact ⟨3, by decide, by unfold isC; decide +kernel⟩
  · intro j hj
    have hj' : j < 2 := hj
    match j, hj' with
    | 0, _ => unfold SrcOk; decide +kernel
    | 1, _ => unfold SrcOk; decide +kernel
  · intro j hj
    have hj' : j < 1 := hj
    match j, hj' with
    | 0, _ => exact ⟨fun i hi => absurd hi (by show ¬ i < 0; omega), by decide +kernel, by decide +kernel, by decide +kernel, by decide +kernel, by decide +kernel⟩
  · intro k hk
    exact absurd hk (by show ¬ k < 0; omega)
  · intro j hj
    have hj' : j < 2 := hj
    match j, hj' with
    | 0, _ => unfold RunOk; decide +kernel
    | 1, _ => unfold RunOk; decide +kernel
  · intro j hj
    have hj' : j < 1 := hj
    match j, hj' with
    | 0, _ =>
      refine ⟨by decide +kernel, ?_⟩
      show clo twoB twoP 0 4 ≤ 1
      simp [clo, twoB, twoP, gt]
theorem two_smB : SmB twoB := ⟨by unfold Sm; decide, by unfold Sm; decide, by unfold Sm; decide, fun x hx => by
  have : x = ⟨60, 0, 0, -1, []⟩ := by simpa [twoB] using hx
  subst this
  unfold Sm; decide⟩
theorem two_smP : SmP twoP := ⟨by unfold Sm; decide, by unfold Sm; decide, by unfold Sm; decide, by unfold Sm; decide⟩
theorem two_isl : isl twoB twoP = [⟨[0], [0], [0]⟩, ⟨[1], [1], []⟩] := by kernel_rfl
theorem island_eq {x y : Island} (h1 : Sm x.Buses) (h2 : Sm x.Sources) (h3 : Sm x.Consumers) : dynposref15_Island x y = some (decide (x = y)) := by
  unfold dynposref15_Island
  simp only [ints_eq h1, ints_eq h2, ints_eq h3, Option.bind_some]
  obtain ⟨a, b, c⟩ := x
  obtain ⟨a', b', c'⟩ := y
  by_cases e1 : a = a' <;> by_cases e2 : b = b' <;> by_cases e3 : c = c' <;> simp [e1, e2, e3]
theorem sane15_run : dynposlaw15_sane = some true := by
  have e1 : dynposlaw15_two = some twoB := rfl
  have e2 : board_Islands twoB twoP = some _ := islands_eq two_smB two_smP two_stt
  have e3 : board_Fed twoB twoP 0 = some (0, true) := by
    rw [fedB_eq two_smB two_smP]
    unfold fedB
    rw [if_pos two_stt]
    kernel_rfl
  have e4 : board_State twoB twoP = some 0 := by rw [state_eq two_smB two_smP, two_stt]
  have e5 : board_Live twoB twoP 1 = some true := by
    rw [live_eq two_smB two_smP]
    unfold ofB
    rw [if_pos ⟨two_stt, by decide, by decide⟩]
    have : (isleOf twoB twoP 1).Sources = [1] := by kernel_rfl
    simp only [this]
    rfl
  have e6 : board_Find twoB 2 1 = some [2] := by
    rw [find_eq two_smB]
    unfold findB
    rw [if_pos (chk_zero.2 (stt_zero.1 two_stt).1)]
    kernel_rfl
  have hP : (⟨[false, true, true, true], [⟨2, 0, 5000, 0⟩, ⟨2, 0, 5000, 0⟩], [60], []⟩ : Power) = twoP := rfl
  unfold dynposlaw15_sane
  simp only [e1, Option.bind_some, hP, e2, e3, e4, two_isl, beq_self_eq_true, if_true]
  have e7 : (len ([⟨[0], [0], [0]⟩, ⟨[1], [1], []⟩] : List Island) == 2) = true := rfl
  have e8 : idx ([⟨[0], [0], [0]⟩, ⟨[1], [1], []⟩] : List Island) 0 = some ⟨[0], [0], [0]⟩ := rfl
  simp only [e7, if_true, e8, Option.bind_some]
  rw [island_eq (by unfold Sm; decide) (by unfold Sm; decide) (by unfold Sm; decide)]
  have e9 : decide ((⟨[0], [0], [0]⟩ : Island) = ⟨[0], [0], [0]⟩) = true := dT rfl
  simp only [e9, Option.bind_some, if_true, e5, e6]
  rw [ints_eq (by unfold Sm; decide)]
  rfl

/-- the one breaker of a generator -/
theorem src_one {b : Board} (hb : BrkOk b) {j : Nat} (hj : j < b.Sources.length) : ∃ k, k < b.Breakers.length ∧ isS (gt b.Breakers k) j ∧ ∀ i, i < b.Breakers.length → isS (gt b.Breakers i) j → i = k := by
  obtain ⟨k, hk, hs⟩ := hb.2.1 j hj
  refine ⟨k, hk, hs, fun i hi h => ?_⟩
  have key : ∀ {x y : Nat}, x < y → y < b.Breakers.length → isS (gt b.Breakers x) j → isS (gt b.Breakers y) j → False := by
    intro x y hxy hy h1 h2
    rcases (hb.1 y hy).2 with h | h | h
    · have := h.1; have := h2.1; omega
    · exact h.2.2 x hxy ⟨h1.1, by rw [h1.2, h2.2]⟩
    · have := h.1; have := h2.1; omega
  rcases Nat.lt_trichotomy i k with h1 | h1 | h1
  · exact (key h1 hk h hs).elim
  · exact h1
  · exact (key h1 hi hs h).elim
theorem rangeF_one {P : Nat → Bool} {k : Nat} : ∀ {n : Nat}, k < n → P k = true → (∀ i, i < n → P i = true → i = k) → rangeF P n = [(k : Int)]
  | 0, hk, _, _ => by omega
  | n + 1, hk, hp, hu => by
    rw [rangeF_succ]
    by_cases h : k = n
    · subst h
      have : rangeF P k = [] := by
        apply List.eq_nil_iff_forall_not_mem.2
        intro x hx
        obtain ⟨i, h1, h2, _⟩ := mem_rangeF.1 hx
        have := hu i (by omega) h2
        omega
      rw [this, if_pos hp]
      rfl
    · have hn : P n ≠ true := fun h2 => h (hu n (by omega) h2).symm
      rw [rangeF_one (k := k) (by omega) hp (fun i hi h2 => hu i (by omega) h2), if_neg hn]
      rfl
theorem find_src {b : Board} (hb : BrkOk b) (h0 : chk b = 0) {j k : Nat} (hk : k < b.Breakers.length) (hs : isS (gt b.Breakers k) j) (hu : ∀ i, i < b.Breakers.length → isS (gt b.Breakers i) j → i = k) : findB b 2 (j : Int) = [(k : Int)] := by
  unfold findB
  rw [if_pos h0]
  refine rangeF_one hk ?_ fun i hi h => hu i hi ?_
  · unfold findP; simp [hs.1, hs.2]
  · unfold findP at h
    simp at h
    exact ⟨h.1, h.2⟩
theorem led_src {b : Board} {p : Power} {j k : Nat} (hk : k < b.Breakers.length) (hs : isS (gt b.Breakers k) j) (hu : ∀ i, i < b.Breakers.length → isS (gt b.Breakers i) j → i = k) : led b p 2 (j : Int) = if gt p.Closed k = true then ((gt b.Breakers k).A, true) else (0, false) := by
  have hat : ∀ i, i < b.Breakers.length → ledAt b p 2 (j : Int) i = true → i = k ∧ gt p.Closed k = true := fun i hi h => by
    unfold ledAt at h
    simp only [Bool.and_eq_true, beq_iff_eq] at h
    have := hu i hi ⟨h.1.1, h.1.2⟩
    subst this
    exact ⟨rfl, h.2⟩
  unfold led
  cases hf : (List.range b.Breakers.length).find? (ledAt b p 2 (j : Int)) with
  | none =>
    by_cases hc : gt p.Closed k = true
    · have := List.find?_eq_none.1 hf k (List.mem_range.2 hk)
      exact (this (by unfold ledAt; simp [hs.1, hs.2, hc])).elim
    · rw [if_neg hc]
  | some i =>
    have hi := List.mem_range.1 (List.mem_of_find?_eq_some hf)
    obtain ⟨e, hc⟩ := hat i hi (List.find?_some hf)
    subst e
    rw [if_pos hc]
section
variable {b : Board} {p : Power}
theorem ofB_in (h : stt b p = 0) {k : Int} (h0 : 0 ≤ k) (h1 : k < b.Buses) : ofB b p k = (isleOf b p k, true) := by
  unfold ofB; rw [if_pos ⟨h, h0, h1⟩]
end

end Go.Proofs.Ytnpghnnlcakbfaa
