/- DisconnectLongest: for every list of numbers the statement answers true: a sequence whose tries are not used up is done within the longest time. No condition. -/
import Derived.Test.YtnpnaopnhgkapaaD5
set_option linter.unusedVariables false
set_option linter.unusedSimpArgs false
namespace Go.Proofs.Ytnpnaopnhgkapaa
open Go Go.RowKit Dp
namespace Rx

theorem longest_L2 {i : Int} {l : List Int} {a : Int} (hsr : Sr l a) {xs : List Stage} (hs : VS xs) {T : Int} {ws : List Work} (hl : ws.length = xs.length) :
    Wp (loopO (dynposlaw31_DisconnectLongest_L2 (i, l, a, xs, T, ws)) (0, [], l, a)) fun r => Sr r.2.1 r.2.2 ∧ r.1.length ≤ 12 ∧ ∀ x ∈ r.1, ∃ j : Nat, x = (j : Int) ∧ j < xs.length ∧ (gt ws j).Tries < (gt xs j).Tries := by
  have n2 := hs.n2
  refine wp_upto xs.length (fun k s => s.1 = (k : Int) ∧ Sr s.2.2.1 s.2.2.2 ∧ s.2.1.length ≤ k ∧ ∀ x ∈ s.2.1, ∃ j : Nat, x = (j : Int) ∧ j < xs.length ∧ (gt ws j).Tries < (gt xs j).Tries) ⟨rfl, hsr, by simp, fun x hx => by simp at hx⟩ (fun k s hk hv => ?_) (fun s hv => ?_) (by omega)
  · obtain ⟨z, fs, l1, a1⟩ := s
    simp only at hv
    obtain ⟨rfl, h1, h2, h3⟩ := hv
    unfold dynposlaw31_DisconnectLongest_L2
    simp only [lt_len (l := ws) (k := k) (by omega), if_true, idx_gt (l := ws) (k := k) (by omega), idx_gt (l := xs) hk, Option.bind_some]
    rw [W_succ (by omega)]
    refine Wp.bind (Q := fun r => Sr r.2.1 r.2.2 ∧ (r.1 = true → (gt ws k).Tries < (gt xs k).Tries)) ?_ fun r hr => ?_
    · refine Wp.ite (fun _ => Wp.ite (fun h => ?_) fun _ => wp_some.2 ⟨h1, fun h => by cases h⟩) fun _ => wp_some.2 ⟨h1, fun h => by cases h⟩
      refine (wpN h1 (n := 3) (by omega) (by omega)).bind fun y hy => wp_some.2 ⟨hy.2, fun _ => of_decide_eq_true h⟩
    · obtain ⟨b, l2, a2⟩ := r
      simp only at hr ⊢
      cases b with
      | true =>
        simp only [if_true]
        rw [app_sm (by simp; omega)]
        simp only [Option.bind_some]
        refine wp_some.2 ⟨rfl, hr.1, by simp; omega, fun x hx => ?_⟩
        rcases List.mem_append.1 hx with hx | hx
        · exact h3 x hx
        · exact ⟨k, by simpa using hx, hk, hr.2 rfl⟩
      | false =>
        simp only [Bool.false_eq_true, if_false, Option.bind_some]
        exact wp_some.2 ⟨rfl, hr.1, by simp only; omega, h3⟩
  · obtain ⟨z, fs, l1, a1⟩ := s
    simp only at hv
    obtain ⟨rfl, h1, h2, h3⟩ := hv
    unfold dynposlaw31_DisconnectLongest_L2
    simp only [dF (c := (xs.length : Int) < len ws) (by unfold len; omega), Bool.false_eq_true, if_false]
    exact wp_some.2 ⟨h1, by simp only; omega, h3⟩
theorem law_DisconnectLongest (t : List Int) : dynposlaw31_DisconnectLongest t = some true := by
  unfold dynposlaw31_DisconnectLongest
  by_cases hlen : len t > 600
  · rw [if_pos (dT hlen)]
    simp only [sane_T, Option.bind_some]
  · rw [if_neg (by rw [dF hlen]; simp)]
    refine wp_eq.1 ((wpNew t).bind fun r hr => ?_)
    refine (wpSequence hr).bind fun x hx => ?_
    obtain ⟨sl, sa, xs⟩ := x
    simp only at hx
    obtain ⟨hsr, k, k1, k2, hq⟩ := hx
    obtain ⟨hs, hc⟩ := hq.vs k1 k2
    have n1 := hs.n1
    have n2 := hs.n2
    have hv := VP_new hs (T := 0) (by omega) (by omega)
    simp only [new_v1_eq hs hc (T := 0) (by omega) (by omega), Option.bind_some, show ((0 : Int) != 0) = false from rfl, Bool.false_eq_true, if_false]
    refine (longest_eq hs hc).bind fun L hL => ?_
    obtain ⟨es, he, htop⟩ := hL
    have hel := he.ln
    rw [lng_len] at hel
    have hpt : PtO xs (new0 xs 0) 0 es := by
      refine ⟨hel, fun i hi => ?_⟩
      rw [he.eq i (by rw [lng_len]; exact hi), lng_gt hi]
      rcases new0_gt (T := 0) hi with ⟨a, b⟩ | ⟨a, b⟩ <;> rw [b]
      · rw [ef1 rfl, pf1 rfl]
        simp only [lngS]
        rw [Int.sub_mul, Int.one_mul, Int.mul_comm (gt xs i).Tries]
        omega
      · rw [ef0 rfl, pf0 rfl]
        rfl
    have h3 : ∀ i, i < xs.length → (gt (new0 xs 0) i).State ≠ 3 := fun i hi => by
      rcases new0_gt (T := 0) hi with ⟨a, b⟩ | ⟨a, b⟩ <;> rw [b] <;> simp
    have hL : L ≤ 120000 := by
      refine top_bd (K := 1800) (by rw [lng_len]; exact n2) he htop (by omega) (by omega) (en_bd he (by omega) (by omega) (fun i hi => ?_) (fun i hi => ?_) fun i hi h1 => ?_)
      all_goals rw [lng_len] at hi
      · rw [lng_gt hi]; exact hs.nd i hi
      · rw [lng_gt hi]
        have tk := hs.tk i hi
        have tr := hs.tr i hi
        have b : (gt xs i).Ticks * (gt xs i).Tries ≤ 600 * 3 := Int.mul_le_mul (by omega) (by omega) (by omega) (by omega)
        simp only [lngS]
        omega
      · rw [lng_gt hi]
        have tk := hs.tk i hi
        have tr := hs.tr i hi
        have b : (gt xs i).Ticks * (gt xs i).Tries ≤ 600 * 3 := Int.mul_le_mul (by omega) (by omega) (by omega) (by omega)
        simp only [lngS]
        rcases new0_gt (T := 0) hi with ⟨_, c⟩ | ⟨_, c⟩ <;> rw [c] at h1 ⊢
        · simp only; omega
        · simp at h1
    have hL0 : 0 ≤ L := by
      obtain ⟨_, i, hi, rfl⟩ := htop
      exact (po_pos hs hv hpt h3 (i := i) (by omega)).1
    have hloop : Wp (loopO dynposlaw31_DisconnectLongest_L1 (L, sl, sa, xs, 0, new0 xs 0)) fun r => ∃ l a T ws, r = .inl (l, a, xs, T, ws) ∧ ws.length = xs.length ∧ ∀ i, i < xs.length → (gt ws i).State = 2 := by
      refine wp_while (fun s => s.1.toNat) (fun s => s.2.2.2.1 = xs ∧ VP xs s.2.2.2.2.1 s.2.2.2.2.2 ∧ (∀ i, i < xs.length → (gt s.2.2.2.2.2 i).State ≠ 3) ∧ Sr s.2.1 s.2.2.1 ∧ 0 ≤ s.1 ∧ s.1 ≤ 120000 ∧ s.2.2.2.2.1 + s.1 ≤ 200000 ∧ ∃ es, PtO xs s.2.2.2.2.2 s.2.2.2.2.1 es ∧ ∀ i, i < xs.length → gt es i ≤ s.1) (fun s hi => ?_) ⟨rfl, hv, h3, hsr, hL0, hL, by simp only; omega, es, hpt, fun i hi => htop.1 i (by omega)⟩ (by simp only; omega)
      obtain ⟨n, l, a, xs2, T, ws⟩ := s
      simp only at hi
      obtain ⟨rfl, hv, h3, hsr, i0, i1, i2, es, hpt, hle⟩ := hi
      have hln := hv.ln
      unfold dynposlaw31_DisconnectLongest_L1
      simp only
      by_cases hz : 0 < n
      · rw [dT (c := n > 0) hz]
        simp only [if_true, done_eq (T := T) (ws := ws) (by omega), Option.bind_some]
        by_cases hd : 0 < ws.length ∧ ∀ k, k < ws.length → (gt ws k).State = 2
        · rw [dB_T hd]
          simp only [Bool.not_true, Bool.false_eq_true, if_false]
          exact wp_some.2 ⟨l, a, T, ws, rfl, hln, fun i hi => hd.2 i (by omega)⟩
        · rw [dB_F hd]
          simp only [Bool.not_false, if_true]
          refine (longest_L2 (i := n) (T := T) hsr hs hln).bind fun r hr => ?_
          obtain ⟨fs, l', a'⟩ := r
          simp only at hr
          obtain ⟨g1, g2, g3⟩ := hr
          have hv' := VP_nxt hs hv (by omega) (inF fs)
          simp only [step_eq hs hc hv (by omega) (fails := fs) (fun x hx => by
            obtain ⟨j, rfl, hj, _⟩ := g3 x hx
            omega) (by omega), Option.bind_some, show ((0 : Int) != 0) = false from rfl, Bool.false_eq_true, if_false]
          obtain ⟨es', hpt'⟩ := po_ex xs2 hs (nxt xs2 ws T (inF fs)) (T + 1)
          have hst := po_step hs hv hpt hpt' h3 (fun i hi hF => by
            obtain ⟨j, hj, _, h⟩ := g3 _ (dB_iff.1 hF)
            have : i = j := by omega
            subst this
            exact h)
          rw [W_sm (x := n - 1) (by omega) (by omega)]
          refine wp_some.2 ⟨⟨rfl, hv', fun i hi => (hst i hi).2, g1, by simp only; omega, by simp only; omega, by simp only; omega, es', hpt', fun i hi => ?_⟩, by simp only; omega⟩
          have a := (hst i hi).1
          have b := hle i hi
          simp only
          omega
      · rw [dF (c := n > 0) hz]
        simp only [Bool.false_eq_true, if_false, Option.bind_some]
        refine wp_some.2 ⟨l, a, T, ws, rfl, hln, fun i hi => ?_⟩
        have a := po_pos hs hv hpt h3 hi
        have b := hle i hi
        exact a.2.1 (by omega)
    refine hloop.bind fun r hr => ?_
    obtain ⟨l', a', T', ws', rfl, g1, g2⟩ := hr
    simp only [Sum.elim_inl, done_eq (T := T') (ws := ws') (by omega), Option.bind_some, stuck_eq (T := T') (ws := ws') (by omega)]
    rw [dB_T (p := 0 < ws'.length ∧ _) ⟨by omega, fun i hi => g2 i (by omega)⟩, dB_F fun ⟨i, hi, e⟩ => by
      have := g2 i (by omega)
      omega]
    simp only [if_true, sane_T, Option.bind_some, Bool.not_false]
    exact wp_some.2 rfl
end Rx
end Go.Proofs.Ytnpnaopnhgkapaa
