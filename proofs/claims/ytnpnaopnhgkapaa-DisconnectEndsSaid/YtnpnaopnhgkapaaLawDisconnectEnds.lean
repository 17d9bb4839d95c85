/- DisconnectEnds: for every list of numbers the statement answers true: without fails a progress that is not stuck is done behind as many steps as are left. No condition. -/
import Derived.Test.YtnpnaopnhgkapaaD5
import Derived.Test.YtnpnaopnhgkapaaD6
set_option linter.unusedVariables false
set_option linter.unusedSimpArgs false
namespace Go.Proofs.Ytnpnaopnhgkapaa
open Go Go.RowKit Dp
namespace Rx

theorem inF_nil : inF [] = fun _ => false := by
  funext i
  exact dB_F (by simp)
theorem nstk {xs : List Stage} {ws : List Work} (h : ¬ Stk xs ws) : ∀ i, i < xs.length → (gt ws i).State ≠ 3 := fun i hi e => h ⟨i, hi, e⟩
theorem ends_L1 {xs : List Stage} (hs : VS xs) (hc : disconnect_Check xs = some 0) {T : Int} {ws : List Work} (hv : VP xs T ws) (ht : T < 2147483648) (hn : ¬ Stk xs ws) {es : List Int} (he : EN xs ws T es) {n : Int} (htop : Top es n) (n0 : 0 < n) (n1 : n ≤ 1000000) :
    Wp (dynposlaw31_DisconnectEnds_L1 (n, xs, T, ws)) fun r => ∃ ws' es', r = .inl (n - 1, xs, T + 1, ws') ∧ VP xs (T + 1) ws' ∧ ¬ Stk xs ws' ∧ EN xs ws' (T + 1) es' ∧ Top es' (n - 1) := by
  have n2 := hs.n2
  have hln := hv.ln
  have hel := he.ln
  unfold dynposlaw31_DisconnectEnds_L1
  simp only [dT (c := n > 0) n0, if_true, done_eq (T := T) (ws := ws) (by omega), Option.bind_some]
  rw [dB_F fun hd => by
    obtain ⟨_, i, hi, e⟩ := htop
    have := (en_pos hs hv he (nstk hn) (i := i) (by omega)).2.2 (hd.2 i (by omega))
    omega]
  have hv' := VP_nxt hs hv ht (inF [])
  have hstep := fun (es' : List Int) (he' : EN xs (nxt xs ws T fun _ => false) (T + 1) es') => end_step hs hv he he' (nstk hn)
  rw [← inF_nil] at hstep
  simp only [Bool.false_eq_true, if_false, step_eq hs hc hv ht (fails := []) (fun x hx => by simp at hx) (by simp), Option.bind_some]
  obtain ⟨es0, hE, he0⟩ := ends_eq (EH.of hs hv')
  have hn' : ¬ Stk xs (nxt xs ws T (inF [])) := fun ⟨k, hk, e⟩ => (hstep es0 he0 k hk).2.1 e
  refine (left_ok hs hc hv' hn').bind fun r hr => ?_
  obtain ⟨m, b⟩ := r
  obtain ⟨rfl, es', he', htop'⟩ := hr
  have hel' := he'.ln
  have hm : m = n - 1 := by
    simp only at htop'
    obtain ⟨t1, i, hi, rfl⟩ := htop'
    obtain ⟨s1, j, hj, rfl⟩ := htop
    have a := (hstep es' he' i (by omega)).1
    have b := (hstep es' he' j (by omega)).1
    have c := t1 j (by omega)
    have d := s1 i (by omega)
    omega
  subst hm
  simp only [show ((0 : Int) != 0) = false from rfl, Bool.false_eq_true, if_false, Bool.not_true]
  rw [W_sm (x := n - 1) (by omega) (by omega), bneF rfl]
  simp only [Bool.false_eq_true, if_false, valid_eq hs hc, dB_T hv', Option.bind_some, Bool.not_true]
  exact wp_some.2 ⟨_, es', rfl, hv', hn', he', htop'⟩
theorem law_DisconnectEnds (t : List Int) : dynposlaw31_DisconnectEnds t = some true := by
  unfold dynposlaw31_DisconnectEnds
  by_cases hlen : len t > 600
  · rw [if_pos (dT hlen)]
    simp only [sane_T, Option.bind_some]
  · rw [if_neg (by rw [dF hlen]; simp)]
    refine wp_eq.1 ((wpNew t).bind fun r hr => ?_)
    refine (wpSequence hr).bind fun x hx => ?_
    obtain ⟨sl, sa, xs⟩ := x
    simp only at hx
    obtain ⟨hsr, k, k1, k2, hq⟩ := hx
    obtain ⟨hs, hc⟩ := hq.vs k1 k2
    have hrc := hq.ref k1 k2
    have n1 := hs.n1
    have n2 := hs.n2
    refine (wpProgress hsr hs hrc (m := 10) (by omega) (by omega)).bind fun y hy => ?_
    obtain ⟨T, ws, l, a, xs'⟩ := y
    simp only at hy
    obtain ⟨hv, hT, h1, rfl⟩ := hy
    have hln := hv.ln
    by_cases hst : Stk xs' ws
    · simp only [left_stuck hs hc hv hst, Option.bind_some, Bool.not_false, if_true, stuck_eq (T := T) (ws := ws) (by omega)]
      rw [dB_T (by rw [hln]; exact hst)]
      simp only [if_true, sane_T, Option.bind_some]
      exact wp_some.2 rfl
    · refine (left_ok hs hc hv hst).bind fun r hr => ?_
      obtain ⟨n, b⟩ := r
      simp only at hr
      obtain ⟨rfl, es, he, htop⟩ := hr
      have hbd := left_bd hs hv he htop
      have hel := he.ln
      simp only [Bool.not_true, Bool.false_eq_true, if_false]
      have hn0 : 0 ≤ n := by
        obtain ⟨_, i, hi, rfl⟩ := htop
        exact (en_pos hs hv he (nstk hst) (i := i) (by omega)).1
      have hloop : Wp (loopO dynposlaw31_DisconnectEnds_L1 (n, xs', T, ws)) fun r => ∃ T ws, r = .inl (xs', T, ws) ∧ ws.length = xs'.length ∧ ∀ i, i < xs'.length → (gt ws i).State = 2 := by
        refine wp_while (fun s => s.1.toNat) (fun s => s.2.1 = xs' ∧ VP xs' s.2.2.1 s.2.2.2 ∧ ¬ Stk xs' s.2.2.2 ∧ 0 ≤ s.1 ∧ s.1 ≤ 120000 ∧ s.2.2.1 + s.1 ≤ 200000 ∧ ∃ es, EN xs' s.2.2.2 s.2.2.1 es ∧ Top es s.1) (fun s hi => ?_) ⟨rfl, hv, hst, hn0, hbd, by simp only; omega, es, he, htop⟩ (by simp only; omega)
        obtain ⟨n, xs2, T, ws⟩ := s
        simp only at hi
        obtain ⟨rfl, hv, hst, i0, i1, i2, es, he, htop⟩ := hi
        by_cases hz : 0 < n
        · refine (ends_L1 hs hc hv (by omega) hst he htop hz (by omega)).mono fun r hr => ?_
          obtain ⟨ws', es', rfl, g1, g2, g3, g4⟩ := hr
          exact ⟨⟨rfl, g1, g2, by simp only; omega, by simp only; omega, by simp only; omega, es', g3, g4⟩, by simp only; omega⟩
        · unfold dynposlaw31_DisconnectEnds_L1
          simp only [dF (c := n > 0) hz, Bool.false_eq_true, if_false]
          have hln := hv.ln
          have hel := he.ln
          refine wp_some.2 ⟨T, ws, rfl, hln, fun i hi => ?_⟩
          have a := en_pos hs hv he (nstk hst) hi
          have b := htop.1 i (by omega)
          exact a.2.1 (by omega)
      refine hloop.bind fun r hr => ?_
      obtain ⟨T', ws', rfl, g1, g2⟩ := hr
      simp only [Sum.elim_inl, done_eq (T := T') (ws := ws') (by omega), Option.bind_some]
      rw [dB_T (p := 0 < ws'.length ∧ _) ⟨by omega, fun i hi => g2 i (by omega)⟩]
      simp only [if_true, sane_T, Option.bind_some]
      exact wp_some.2 rfl
end Rx
end Go.Proofs.Ytnpnaopnhgkapaa
