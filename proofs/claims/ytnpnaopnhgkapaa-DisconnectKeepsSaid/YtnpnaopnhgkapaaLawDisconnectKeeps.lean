/- DisconnectKeeps: for every list of numbers the statement answers true: a stage that is done or has failed stays as it is, and none begins before its needs are done. No condition. -/
import Derived.Test.YtnpnaopnhgkapaaD4
set_option linter.unusedVariables false
set_option linter.unusedSimpArgs false
namespace Go.Proofs.Ytnpnaopnhgkapaa
open Go Go.RowKit Dp
namespace Rx

theorem wpFails {sl : List Int} {sa : Int} (hs : Sr sl sa) {xs : List Stage} (hl : xs.length ≤ 12) : Wp (Src_Fails_v1 ⟨sl, sa⟩ xs) fun r => Sr r.1 r.2.1 ∧ r.2.2.1 = xs ∧ r.2.2.2.length ≤ 12 ∧ ∀ x ∈ r.2.2.2, 0 ≤ x ∧ x < (xs.length : Int) := by
  unfold Src_Fails_v1
  refine (wpSomeA hs (n := xs.length) (by omega) (k := 5) (by omega) (by omega)).bind fun r hr => wp_some.2 ⟨hr.1, rfl, by simp only; omega, fun x hx => ?_⟩
  obtain ⟨j, hj, rfl⟩ := mem_gt hx
  exact hr.2.2.1 j hj
/-- what is done, or has failed, stays -/
theorem nxt_keep {xs : List Stage} {ws : List Work} {T : Int} {F : Nat → Bool} {i : Nat} (hi : i < xs.length) (h : (gt ws i).State = 2 ∨ (gt ws i).State = 3) : gt (nxt xs ws T F) i = gt ws i := by
  rw [nxt_gt hi]
  rcases st1_cases (gt xs i) (gt ws i) T (F i) with ⟨h1, h2⟩ | ⟨h1, h2⟩ | ⟨h1, h2⟩ | ⟨h1, h2⟩ | ⟨h1, h2⟩ <;> try omega
  rw [h2]
  rcases bg1_cases (gt xs i) (gt ws i) (T + 1) (mid xs ws T F) with ⟨a, b, c⟩ | ⟨b, c⟩
  · omega
  · exact c
theorem vp_rdy {xs : List Stage} {ws : List Work} {T : Int} (hv : VP xs T ws) {i : Nat} (hi : i < xs.length) (h : (gt ws i).State ≠ 0) : rdy (gt xs i) ws := by
  rcases hv.wk i hi with a | a | a | a
  · exact (h a.1).elim
  · exact a.2.1
  · exact a.2.1
  · exact a.2.1
theorem keeps_L1 {l : List Int} {a : Int} (hsr : Sr l a) {xs : List Stage} (hs : VS xs) (hc : disconnect_Check xs = some 0) {T : Int} {ws : List Work} (hv : VP xs T ws) {k : Nat} (hk : k < 14) (ht : T < 2147483648) :
    Wp (dynposlaw31_DisconnectKeeps_L1 ((k : Int), l, a, xs, T, ws)) fun r => match r with | .inl s => s.1 = ((k + 1 : Nat) : Int) ∧ Sr s.2.1 s.2.2.1 ∧ s.2.2.2.1 = xs ∧ s.2.2.2.2.1 = T + 1 ∧ VP xs (T + 1) s.2.2.2.2.2 | .inr _ => False := by
  have n2 := hs.n2
  have hln := hv.ln
  unfold dynposlaw31_DisconnectKeeps_L1
  simp only [dT (c := (k : Int) < 14) (by omega), if_true]
  refine (wpFails hsr (xs := xs) n2).bind fun r hr => ?_
  obtain ⟨l', a', xs', fs⟩ := r
  simp only at hr
  obtain ⟨h1, rfl, h2, h3⟩ := hr
  have hv' := VP_nxt hs hv ht (inF fs)
  simp only [step_eq hs hc hv ht h3 (by omega), Option.bind_some, show ((0 : Int) != 0) = false from rfl, Bool.false_eq_true, if_false, valid_eq hs hc, dB_T hv', Bool.not_true]
  have hL2 : loopO (dynposlaw31_DisconnectKeeps_L2 ((k : Int), l, a, xs', T, ws) (T + 1, 0, xs', fs, nxt xs' ws T (inF fs))) 0 = some (.inl ()) := by
    refine loop_run (r := Sum.inl ()) (fun i => (i : Int)) xs'.length (fun i hi => ?_) ?_ (by omega)
    · unfold dynposlaw31_DisconnectKeeps_L2
      simp only [lt_len (l := nxt xs' ws T (inF fs)) (k := i) (by rw [nxt_len]; exact hi), if_true, idx_gt (l := nxt xs' ws T (inF fs)) (k := i) (by rw [nxt_len]; exact hi), idx_gt (l := ws) (k := i) (by omega), idx_gt (l := xs') (k := i) hi, Option.bind_some]
      have e : (if ((gt ws i).State == 2) = true then some !((gt (nxt xs' ws T (inF fs)) i).State == (gt ws i).State && ((gt (nxt xs' ws T (inF fs)) i).Since == (gt ws i).Since && (gt (nxt xs' ws T (inF fs)) i).Tries == (gt ws i).Tries)) else if ((gt ws i).State == 3) = true then some !((gt (nxt xs' ws T (inF fs)) i).State == (gt ws i).State && ((gt (nxt xs' ws T (inF fs)) i).Since == (gt ws i).Since && (gt (nxt xs' ws T (inF fs)) i).Tries == (gt ws i).Tries)) else some false) = some false := by
        by_cases c2 : (gt ws i).State = 2
        · rw [beqT c2, nxt_keep hi (.inl c2)]; simp
        · rw [beqF c2]
          simp only [Bool.false_eq_true, if_false]
          by_cases c3 : (gt ws i).State = 3
          · rw [beqT c3, nxt_keep hi (.inr c3)]; simp
          · rw [beqF c3]; simp
      rw [e]
      simp only [Option.bind_some, Bool.false_eq_true, if_false]
      have hL3 : loopO (dynposlaw31_DisconnectKeeps_L3 (T + 1, 0, xs', fs, nxt xs' ws T (inF fs)) (gt (nxt xs' ws T (inF fs)) i) (gt xs' i)) 0 = some (.inl ()) := by
        have nl := hs.nlen hi
        refine loop_run (r := Sum.inl ()) (fun i => (i : Int)) (gt xs' i).Needs.length (fun j hj => ?_) ?_ (by omega)
        · have nd := hs.nd i hi j hj
          unfold dynposlaw31_DisconnectKeeps_L3
          simp only [lt_len hj, if_true, idx_gt hj, Option.bind_some, idx_gtZ (l := nxt xs' ws T (inF fs)) nd.1 (by rw [nxt_len]; omega)]
          by_cases c0 : (gt (nxt xs' ws T (inF fs)) i).State = 0
          · rw [bneF c0, W_succ (by omega)]; simp
          · rw [bneT c0]
            simp only [if_true, Option.bind_some]
            rw [bneF (vp_rdy hv' hi c0 j hj), W_succ (by omega)]
            simp
        · unfold dynposlaw31_DisconnectKeeps_L3
          simp only [nlt_len, Bool.false_eq_true, if_false]
      simp only [hL3, Option.bind_some, Sum.elim_inl]
      rw [W_succ (by omega)]
    · unfold dynposlaw31_DisconnectKeeps_L2
      simp only [dF (c := (xs'.length : Int) < len (nxt xs' ws T (inF fs))) (by unfold len; rw [nxt_len]; omega), Bool.false_eq_true, if_false]
  simp only [hL2, Option.bind_some, Sum.elim_inl]
  rw [W_succ (by omega)]
  exact wp_some.2 ⟨rfl, h1, rfl, rfl, hv'⟩
theorem law_DisconnectKeeps (t : List Int) : dynposlaw31_DisconnectKeeps t = some true := by
  unfold dynposlaw31_DisconnectKeeps
  by_cases hlen : len t > 600
  · rw [if_pos (dT hlen)]
    simp only [sane_T, Option.bind_some]
  · rw [if_neg (by rw [dF hlen]; simp)]
    refine wp_eq.1 ((wpNew t).bind fun r hr => ?_)
    refine (wpSequence hr).bind fun x hx => ?_
    obtain ⟨sl, sa, xs⟩ := x
    simp only at hx
    obtain ⟨hsr, k, k1, k2, hq⟩ := hx
    obtain ⟨hs, hc⟩ := hq.vs k1 k2
    refine (wpN hsr (n := 5) (by omega) (by omega)).bind fun y hy => ?_
    obtain ⟨y, l, a⟩ := y
    simp only at hy ⊢
    have hv := VP_new hs (T := y) (by omega) (by omega)
    simp only [new_v1_eq hs hc (T := y) (by omega) (by omega), Option.bind_some, show ((0 : Int) != 0) = false from rfl, Bool.false_eq_true, if_false]
    have hloop : Wp (loopO dynposlaw31_DisconnectKeeps_L1 (0, l, a, xs, y, new0 xs y)) fun r => ∃ z, r = .inl z := by
      refine wp_upto 14 (fun k s => s.1 = (k : Int) ∧ Sr s.2.1 s.2.2.1 ∧ s.2.2.2.1 = xs ∧ s.2.2.2.2.1 = y + (k : Int) ∧ VP xs (y + (k : Int)) s.2.2.2.2.2) ⟨rfl, hy.2, rfl, by simp, by simpa using hv⟩ (fun k s hk hv => ?_) (fun s hv => ?_) (by omega)
      · obtain ⟨z, l', a', xs', T, ws⟩ := s
        simp only at hv
        obtain ⟨rfl, h1, rfl, rfl, h2⟩ := hv
        refine (keeps_L1 h1 hs hc h2 hk (by omega)).mono fun r hr => ?_
        cases r with
        | inl s =>
          obtain ⟨g1, g2, g3, g4, g5⟩ := hr
          rw [show y + (k : Int) + 1 = y + ((k + 1 : Nat) : Int) by omega] at g4 g5
          exact ⟨g1, g2, g3, g4, g5⟩
        | inr _ => exact hr.elim
      · obtain ⟨z, l', a', xs', T, ws⟩ := s
        simp only at hv
        obtain ⟨rfl, h1, rfl, rfl, h2⟩ := hv
        unfold dynposlaw31_DisconnectKeeps_L1
        simp only [dF (c := ((14 : Nat) : Int) < 14) (by omega), Bool.false_eq_true, if_false]
        exact wp_some.2 ⟨_, rfl⟩
    refine hloop.bind fun r hr => ?_
    obtain ⟨z, rfl⟩ := hr
    simp only [Sum.elim_inl, sane_T, Option.bind_some]
    exact wp_some.2 rfl
end Rx
end Go.Proofs.Ytnpnaopnhgkapaa
