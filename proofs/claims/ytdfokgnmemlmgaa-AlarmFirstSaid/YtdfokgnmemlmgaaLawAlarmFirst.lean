/- AlarmFirst: the first alarm is there, and none that is there is older. Plain law. -/
import Derived.Test.YtdfokgnmemlmgaaA2
set_option linter.unusedVariables false
set_option linter.unusedSimpArgs false
namespace Go.Proofs.Ytdfokgnmemlmgaa
open Go Go.RowKit Dp
namespace Rx

def cmpI (a b : Int) : Int := if a < b then -1 else if a > b then 1 else 0
theorem cmp_eq (a b : Int) : cmp_Compare_int a b = some (cmpI a b) := by
  unfold cmp_Compare_int cmp_isNaN_int cmpI
  simp only [Option.bind_some, bne_self_eq_false, Bool.false_eq_true, if_false]
  by_cases h : a < b
  · simp [h]
  · by_cases h2 : a > b
    · simp [h, h2]
    · simp [h, h2]
theorem or_eq (l : List Int) (hl : l.length ≤ 1000) : ∃ r, cmp_Or_int l = some r ∧ ((r = 0 ∧ ∀ x ∈ l, x = 0) ∨ ∃ k, k < l.length ∧ r = gt l k ∧ r ≠ 0 ∧ ∀ j, j < k → gt l j = 0) := by
  have h := wp_upto (step := cmp_Or_int_L1 l) (s := (0 : Int)) l.length (fun k s => s = (k : Int) ∧ ∀ j, j < k → gt l j = 0) (Q := fun r => (r = .inl () ∧ ∀ j, j < l.length → gt l j = 0) ∨ ∃ k, k < l.length ∧ r = .inr (gt l k) ∧ gt l k ≠ 0 ∧ ∀ j, j < k → gt l j = 0) ⟨rfl, fun j hj => by omega⟩ (fun k s hk hi => by
    obtain ⟨rfl, hi⟩ := hi
    unfold cmp_Or_int_L1
    simp only [lt_len hk, if_true, idx_gt hk, Option.bind_some]
    by_cases he : gt l k = 0
    · simp only [bneF he, Bool.false_eq_true, if_false]
      rw [W_succ (by omega)]
      exact wp_some.2 ⟨rfl, fun j hj => by
        by_cases hjk : j = k
        · rw [hjk]; exact he
        · exact hi j (by omega)⟩
    · simp only [bneT he, if_true]
      exact wp_some.2 (.inr ⟨k, hk, rfl, he, hi⟩)) (fun s hi => by
    obtain ⟨rfl, hi⟩ := hi
    unfold cmp_Or_int_L1
    simp only [nlt_len, Bool.false_eq_true, if_false]
    exact wp_some.2 (.inl ⟨rfl, hi⟩)) (by omega)
  obtain ⟨r, h1, h2⟩ := h
  unfold cmp_Or_int
  rw [h1]
  rcases h2 with ⟨rfl, h2⟩ | ⟨k, hk, rfl, h3, h4⟩
  · refine ⟨0, rfl, .inl ⟨rfl, fun x hx => ?_⟩⟩
    obtain ⟨j, hj, rfl⟩ := mem_gt hx
    exact h2 j hj
  · exact ⟨_, rfl, .inr ⟨k, hk, rfl, h3, h4⟩⟩
theorem or2_eq (a b : Int) : cmp_Or_int [a, b] = some (if a = 0 then b else a) := by
  obtain ⟨r, h1, h2⟩ := or_eq [a, b] (by simp)
  rw [h1]
  congr 1
  rcases h2 with ⟨rfl, h⟩ | ⟨k, hk, rfl, h3, h4⟩
  · have e1 := h a (by simp)
    have e2 := h b (by simp)
    rw [if_pos e1, e2]
  · have hk : k < 2 := hk
    rcases k with _ | _ | k
    · have : gt [a, b] 0 = a := rfl
      rw [this] at h3 ⊢
      rw [if_neg h3]
    · have h5 : gt [a, b] 0 = 0 := h4 0 (by omega)
      have h6 : gt [a, b] 0 = a := rfl
      rw [h6] at h5
      rw [if_pos h5]
      rfl
    · omega

theorem cmp2_lt (a b c d : Int) : ((if cmpI a b = 0 then cmpI c d else cmpI a b) < 0) ↔ (a < b ∨ a = b ∧ c < d) := by
  have h0 : ∀ x y : Int, (x < y ∧ cmpI x y = -1) ∨ (x = y ∧ cmpI x y = 0) ∨ (x > y ∧ cmpI x y = 1) := fun x y => by
    unfold cmpI
    by_cases h1 : x < y
    · exact .inl ⟨h1, if_pos h1⟩
    · rw [if_neg h1]
      by_cases h2 : x > y
      · exact .inr (.inr ⟨h2, if_pos h2⟩)
      · exact .inr (.inl ⟨by omega, if_neg h2⟩)
  rcases h0 a b with ⟨h1, h2⟩ | ⟨h1, h2⟩ | ⟨h1, h2⟩ <;> rcases h0 c d with ⟨h3, h4⟩ | ⟨h3, h4⟩ | ⟨h3, h4⟩ <;> rw [h2, h4] <;> simp <;> omega
/-- an alarm comes before another one, or is it -/
def Bf (a b : Alarm) : Prop := a.Since < b.Since ∨ a.Since = b.Since ∧ a.Number ≤ b.Number
theorem wpFirst {m t : Int} {l : List Alarm} (h : Va m t l) : Wp (alarm_First l) fun r => (r.2 = false ∧ ∀ k, k < l.length → (gt l k).State = 3) ∨ (r.2 = true ∧ ∃ k, k < l.length ∧ r.1 = (gt l k).Number ∧ (gt l k).State ≠ 3 ∧ ∀ j, j < l.length → (gt l j).State ≠ 3 → Bf (gt l k) (gt l j)) := by
  have hl := h.len
  unfold alarm_First
  have hloop : Wp (loopO (alarm_First_L1 l) (false, 0, 0, 0, 0, 0)) fun r => (r.1 = false ∧ ∀ k, k < l.length → (gt l k).State = 3) ∨ (r.1 = true ∧ ∃ k, k < l.length ∧ r.2.1 = (gt l k).Number ∧ (gt l k).State ≠ 3 ∧ ∀ j, j < l.length → (gt l j).State ≠ 3 → Bf (gt l k) (gt l j)) := by
    refine wp_upto l.length (fun i s => s.2.1 = (i : Int) ∧ ((s.1 = false ∧ ∀ k, k < i → (gt l k).State = 3) ∨ (s.1 = true ∧ ∃ k, k < i ∧ s.2.2.1 = (gt l k).Number ∧ s.2.2.2.2.2 = (gt l k).Since ∧ (gt l k).State ≠ 3 ∧ ∀ j, j < i → (gt l j).State ≠ 3 → Bf (gt l k) (gt l j)))) ⟨rfl, .inl ⟨rfl, fun k hk => by omega⟩⟩ (fun i s hi hv => ?_) (fun s hv => ?_) (by omega)
    · obtain ⟨f, q, n, u, st, si⟩ := s
      simp only at hv
      obtain ⟨rfl, hv⟩ := hv
      unfold alarm_First_L1
      simp only [lt_len hi, if_true, idx_gt hi, Option.bind_some]
      by_cases hs : (gt l i).State = 3
      · simp only [bneF hs, Bool.false_eq_true, if_false, Option.bind_some]
        rw [W_succ (by omega)]
        refine wp_some.2 ⟨rfl, ?_⟩
        simp only
        rcases hv with ⟨rfl, hv⟩ | ⟨rfl, k, hk, e1, e2, e3, e4⟩
        · exact .inl ⟨rfl, fun k hk => by
            by_cases hki : k = i
            · rw [hki]; exact hs
            · exact hv k (by omega)⟩
        · exact .inr ⟨rfl, k, by omega, e1, e2, e3, fun j hj hj3 => e4 j (by
            by_cases hji : j = i
            · rw [hji] at hj3; exact (hj3 hs).elim
            · omega) hj3⟩
      · simp only [bneT hs, if_true]
        rcases hv with ⟨rfl, hv⟩ | ⟨rfl, k, hk, rfl, rfl, e3, e4⟩
        · simp only [Bool.not_false, if_true, Option.bind_some]
          rw [W_succ (by omega)]
          refine wp_some.2 ⟨rfl, .inr ⟨rfl, i, by omega, rfl, rfl, hs, fun j hj hj3 => ?_⟩⟩
          by_cases hji : j = i
          · rw [hji]; exact .inr ⟨rfl, Int.le_refl _⟩
          · exact (hj3 (hv j (by omega))).elim
        · simp only [Bool.not_true, Bool.false_eq_true, if_false, cmp_eq, Option.bind_some, or2_eq]
          have hlt : decide ((if cmpI (gt l i).Since (gt l k).Since = 0 then cmpI (gt l i).Number (gt l k).Number else cmpI (gt l i).Since (gt l k).Since) < 0) = decide ((gt l i).Since < (gt l k).Since ∨ (gt l i).Since = (gt l k).Since ∧ (gt l i).Number < (gt l k).Number) := by
            rw [decide_eq_decide]
            exact cmp2_lt _ _ _ _
          rw [hlt]
          by_cases hb : (gt l i).Since < (gt l k).Since ∨ (gt l i).Since = (gt l k).Since ∧ (gt l i).Number < (gt l k).Number
          · simp only [dT hb, if_true, Option.bind_some]
            rw [W_succ (by omega)]
            refine wp_some.2 ⟨rfl, .inr ⟨rfl, i, by omega, rfl, rfl, hs, fun j hj hj3 => ?_⟩⟩
            by_cases hji : j = i
            · rw [hji]; exact .inr ⟨rfl, Int.le_refl _⟩
            · have := e4 j (by omega) hj3
              unfold Bf at this ⊢
              omega
          · simp only [dF hb, Bool.false_eq_true, if_false, Option.bind_some]
            rw [W_succ (by omega)]
            refine wp_some.2 ⟨rfl, .inr ⟨rfl, k, by omega, rfl, rfl, e3, fun j hj hj3 => ?_⟩⟩
            by_cases hji : j = i
            · rw [hji]; unfold Bf; omega
            · exact e4 j (by omega) hj3
    · obtain ⟨f, q, n, u, st, si⟩ := s
      simp only at hv
      obtain ⟨rfl, hv⟩ := hv
      unfold alarm_First_L1
      simp only [nlt_len, Bool.false_eq_true, if_false]
      refine wp_some.2 ?_
      rcases hv with hv | ⟨e0, k, hk, e1, e2, e3, e4⟩
      · exact .inl hv
      · exact .inr ⟨e0, k, hk, e1, e3, e4⟩
  exact hloop.bind fun r hr => wp_some.2 hr

theorem law_AlarmFirst (t : List Int) : dynposlaw35_AlarmFirst t = some true := by
  refine Wp.true' ?_
  unfold dynposlaw35_AlarmFirst
  simp only [sane_T, Option.bind_some]
  refine Wp.ite (fun _ => wp_some.2 rfl) fun _ => ?_
  refine (wpNew t).bind fun s hs => ?_
  refine (wpAlarms hs (c := 20) (by omega) (by omega)).bind fun x2 hx => ?_
  obtain ⟨now, sl, sa, l⟩ := x2
  simp only at hx ⊢
  obtain ⟨_, _, hv, _⟩ := hx
  have hl := hv.len
  refine (wpFirst hv).bind fun x3 hf => ?_
  obtain ⟨n, ok⟩ := x3
  simp only at hf ⊢
  have hloop : Wp (loopO (dynposlaw35_AlarmFirst_L1 (now, sl, sa, l) (n, ok)) (false, 0)) fun r => r = .inl ok := by
    refine wp_upto l.length (fun i s => s.2 = (i : Int) ∧ (s.1 = true ↔ ∃ k, k < i ∧ (gt l k).State ≠ 3)) ⟨rfl, by simp⟩ (fun i s hi hv' => ?_) (fun s hv' => ?_) (by omega)
    · obtain ⟨th, q⟩ := s
      simp only at hv'
      obtain ⟨rfl, hth⟩ := hv'
      unfold dynposlaw35_AlarmFirst_L1
      simp only [lt_len hi, if_true, idx_gt hi, Option.bind_some]
      by_cases hs3 : (gt l i).State = 3
      · simp only [beqT hs3, if_true, Option.bind_some, Sum.elim_inl]
        rw [W_succ (by omega)]
        refine wp_some.2 ⟨rfl, hth.trans ⟨fun ⟨k, hk, h⟩ => ⟨k, by omega, h⟩, fun ⟨k, hk, h⟩ => ⟨k, by
          by_cases hki : k = i
          · rw [hki] at h; exact (h hs3).elim
          · omega, h⟩⟩⟩
      · simp only [beqF hs3, Bool.false_eq_true, if_false]
        rcases hf with ⟨rfl, hf⟩ | ⟨rfl, k, hk, rfl, e3, e4⟩
        · exact (hs3 (hf i hi)).elim
        · obtain ⟨r, hr, hr2⟩ := wpFind (l := l) (by omega) (gt l k).Number
          rw [hr]
          have hrk : r = (k : Int) := by
            rcases hr2 with ⟨_, h⟩ | ⟨j, rfl, hj, h⟩
            · exact (h k hk rfl).elim
            · rw [hv.inj hj hk h]
          subst hrk
          have hb := e4 i hi hs3
          simp only [Option.bind_some, Bool.not_true, Bool.false_eq_true, if_false, dF (c := (k : Int) < 0) (by omega), idx_gt hk, beqF e3]
          have h1 : decide ((gt l k).Since > (gt l i).Since) = false := dF (by unfold Bf at hb; omega)
          simp only [h1, Bool.false_eq_true, if_false]
          have h2 : (if ((gt l k).Since == (gt l i).Since) = true then some (decide ((gt l k).Number > (gt l i).Number)) else some false) = some false := by
            by_cases he : (gt l k).Since = (gt l i).Since
            · rw [if_pos (beqT he), dF (by unfold Bf at hb; omega)]
            · rw [beqF he]; rfl
          simp only [h2, Option.bind_some, Bool.false_eq_true, if_false, Sum.elim_inl]
          rw [W_succ (by omega)]
          exact wp_some.2 ⟨rfl, by simp only [true_iff]; exact ⟨i, by omega, hs3⟩⟩
    · obtain ⟨th, q⟩ := s
      simp only at hv'
      obtain ⟨rfl, hth⟩ := hv'
      unfold dynposlaw35_AlarmFirst_L1
      simp only [nlt_len, Bool.false_eq_true, if_false]
      refine wp_some.2 ?_
      show (Sum.inl th : Bool ⊕ Bool) = .inl ok
      congr 1
      rcases hf with ⟨rfl, hf⟩ | ⟨rfl, k, hk, _, e3, _⟩
      · cases th with
        | false => rfl
        | true =>
          obtain ⟨k, hk, h⟩ := hth.1 rfl
          exact (h (hf k hk)).elim
      · exact hth.2 ⟨k, hk, e3⟩
  refine hloop.bind fun r hr => ?_
  subst hr
  simp only [Sum.elim_inl, beq_self_eq_true, if_true, Option.bind_some]
  exact wp_some.2 rfl
end Rx
end Go.Proofs.Ytdfokgnmemlmgaa
