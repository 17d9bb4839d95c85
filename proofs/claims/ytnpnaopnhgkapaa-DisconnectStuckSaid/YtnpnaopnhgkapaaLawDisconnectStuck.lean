/- DisconnectStuck: for every list of numbers the statement answers true: a stage that uses up its tries is never done, and so the sequence is never done. No condition. -/
import Derived.Test.YtnpnaopnhgkapaaD4
set_option linter.unusedVariables false
set_option linter.unusedSimpArgs false
namespace Go.Proofs.Ytnpnaopnhgkapaa
open Go Go.RowKit Dp
namespace Rx

/-- a stage that fails each time is never done -/
theorem nxt_und {xs : List Stage} {ws : List Work} {T : Int} {F : Nat → Bool} {i : Nat} (hi : i < xs.length) (hF : F i = true) (h : (gt ws i).State ≠ 2) : (gt (nxt xs ws T F) i).State ≠ 2 := by
  intro h2
  rw [nxt_done hi, mid_gt hi] at h2
  rcases st1_cases (gt xs i) (gt ws i) T (F i) with ⟨a, b⟩ | ⟨a, b, c, d⟩ | ⟨a, b, c, d⟩ | ⟨a, b, c, d⟩ | ⟨a, b, c, d⟩
  · rw [b] at h2; exact h h2
  · rw [d] at h2; simp at h2
  · rw [d] at h2; simp at h2
  · rw [hF] at b; cases b
  · rw [hF] at b; cases b
theorem law_DisconnectStuck (t : List Int) : dynposlaw31_DisconnectStuck t = some true := by
  unfold dynposlaw31_DisconnectStuck
  by_cases hlen : len t > 600
  · rw [if_pos (dT hlen)]
    simp only [sane_T, Option.bind_some]
  · rw [if_neg (by rw [dF hlen]; simp)]
    refine wp_eq.1 ((wpNew t).bind fun r hr => ?_)
    refine (wpSequence hr).bind fun x hx => ?_
    obtain ⟨sl, sa, xs⟩ := x
    simp only at hx
    obtain ⟨hsr, k, k1, k2, hq⟩ := hx
    obtain ⟨hs, hc⟩ := hq.vs k1 k2
    have n1 := hs.n1
    have n2 := hs.n2
    have hv := VP_new hs (T := 0) (by omega) (by omega)
    simp only [new_v1_eq hs hc (T := 0) (by omega) (by omega), Option.bind_some]
    refine (wpN hsr (n := len xs) (by unfold len; omega) (by unfold len; omega)).bind fun y hy => ?_
    obtain ⟨y, l, a⟩ := y
    simp only at hy ⊢
    obtain ⟨q, rfl⟩ : ∃ q : Nat, y = q := ⟨y.toNat, by omega⟩
    have hqn : q < xs.length := by have := hy.1.2; unfold len at this; omega
    have hF : inF [(q : Int)] q = true := dB_T (by simp)
    have hloop : Wp (loopO (dynposlaw31_DisconnectStuck_L1 ((q : Int), l, a)) (0, xs, 0, new0 xs 0)) fun r => ∃ T ws, r = .inl (xs, T, ws) ∧ VP xs T ws := by
      refine wp_upto 60 (fun k s => s.1 = (k : Int) ∧ s.2.1 = xs ∧ s.2.2.1 = (k : Int) ∧ VP xs (k : Int) s.2.2.2 ∧ (gt s.2.2.2 q).State ≠ 2) ⟨rfl, rfl, rfl, hv, ?_⟩ (fun k s hk hv => ?_) (fun s hv => ?_) (by omega)
      · rcases new0_gt (T := 0) hqn with ⟨_, c⟩ | ⟨_, c⟩ <;> rw [c] <;> simp
      · obtain ⟨z, xs', T, ws⟩ := s
        simp only at hv
        obtain ⟨rfl, rfl, rfl, h2, h3⟩ := hv
        have hv' := VP_nxt hs h2 (by omega) (inF [(q : Int)])
        have hu := nxt_und (T := (k : Int)) hqn hF h3
        unfold dynposlaw31_DisconnectStuck_L1
        simp only [dT (c := (k : Int) < 60) (by omega), if_true, step_eq hs hc h2 (by omega) (fails := [(q : Int)]) (fun x hx => by
          have : x = (q : Int) := by simpa using hx
          omega) (by simp), Option.bind_some, show ((0 : Int) != 0) = false from rfl, Bool.false_eq_true, if_false, done_eq (T := (k : Int) + 1) (ws := nxt xs' ws (k : Int) (inF [(q : Int)])) (by rw [nxt_len]; omega)]
        rw [dB_F fun h => hu (h.2 q (by rw [nxt_len]; exact hqn))]
        simp only [Bool.false_eq_true, if_false]
        rw [W_succ (by omega)]
        exact wp_some.2 ⟨rfl, rfl, by simp only; omega, by rw [show (((k + 1 : Nat)) : Int) = (k : Int) + 1 by omega]; exact hv', hu⟩
      · obtain ⟨z, xs', T, ws⟩ := s
        simp only at hv
        obtain ⟨rfl, rfl, rfl, h2, h3⟩ := hv
        unfold dynposlaw31_DisconnectStuck_L1
        simp only [dF (c := ((60 : Nat) : Int) < 60) (by omega), Bool.false_eq_true, if_false]
        exact wp_some.2 ⟨_, _, rfl, h2⟩
    refine hloop.bind fun r hr => ?_
    obtain ⟨T, ws, rfl, h2⟩ := hr
    have hln := h2.ln
    simp only [Sum.elim_inl, stuck_eq (T := T) (ws := ws) (by omega)]
    by_cases hst : Stk xs ws
    · rw [left_stuck hs hc h2 hst]
      rw [dB_T (by rw [hln]; exact hst)]
      simp only [Option.bind_some, sane_T]
      exact wp_some.2 rfl
    · refine (left_ok hs hc h2 hst).bind fun r hr => ?_
      rw [dB_F (by rw [hln]; exact hst), hr.1]
      simp only [Option.bind_some, sane_T]
      exact wp_some.2 rfl
end Rx
end Go.Proofs.Ytnpnaopnhgkapaa
