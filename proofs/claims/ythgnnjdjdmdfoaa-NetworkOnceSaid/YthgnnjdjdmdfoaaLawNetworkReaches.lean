/- NetworkReaches: reaching is the same in both directions, goes through others, and a cut certifies it. Plain law. -/
import Derived.Test.YthgnnjdjdmdfoaaNt2
set_option linter.unusedVariables false
set_option linter.unusedSimpArgs false
namespace Go.Proofs.Ythgnnjdjdmdfoaa
open Go Go.RowKit Dp
namespace Rx

theorem has_eq {l : List Int} (hl : l.length ≤ 1000) (x : Int) : slices_Contains_int_int l x = some (dB (x ∈ l)) := by
  unfold slices_Contains_int_int slices_Index_int_int
  have h := wp_upto (step := slices_Index_int_int_L1 l x) (s := (0 : Int)) l.length (fun k s => s = (k : Int) ∧ ∀ j, j < k → gt l j ≠ x) (Q := fun r => (r = .inl () ∧ ∀ j, j < l.length → gt l j ≠ x) ∨ ∃ k : Nat, k < l.length ∧ r = .inr (k : Int) ∧ gt l k = x) ⟨rfl, fun j hj => by omega⟩ (fun k s hk hi => by
    obtain ⟨rfl, hi⟩ := hi
    unfold slices_Index_int_int_L1
    simp only [lt_len hk, if_true, idx_gt hk, Option.bind_some]
    by_cases he : gt l k = x
    · simp only [beqT he.symm, if_true]
      exact wp_some.2 (.inr ⟨k, hk, rfl, he⟩)
    · simp only [beqF (Ne.symm he), Bool.false_eq_true, if_false]
      rw [W_succ (by omega)]
      exact wp_some.2 ⟨rfl, fun j hj => by
        by_cases hjk : j = k
        · rw [hjk]; exact he
        · exact hi j (by omega)⟩) (fun s hi => by
    obtain ⟨rfl, hi⟩ := hi
    unfold slices_Index_int_int_L1
    simp only [nlt_len, Bool.false_eq_true, if_false]
    exact wp_some.2 (.inl ⟨rfl, hi⟩)) (by omega)
  obtain ⟨r, h1, h2⟩ := h
  rw [h1]
  rcases h2 with ⟨rfl, h2⟩ | ⟨k, hk, rfl, h3⟩
  · rw [dB_F (fun hc => by
      obtain ⟨j, hj, he⟩ := mem_gt hc
      exact h2 j hj he)]
    rfl
  · rw [dB_T (h3 ▸ gt_mem hk)]
    simp only [Option.bind_some, Sum.elim_inr, dT (c := (k : Int) ≥ 0) (by omega)]
/-- a cable leads out of a side -/
def Outw (l : List Int) (c : Cable) : Prop := ¬ (c.A ∈ l ↔ c.B ∈ l)
theorem cut1_eq {l : List Int} (hl : l.length ≤ 1000) (c : Cable) : network_Cut_1 c l = some (dB (Outw l c)) := by
  unfold network_Cut_1
  simp only [has_eq hl, Option.bind_some]
  congr 1
  refine dB_eq ?_
  unfold Outw
  by_cases ha : c.A ∈ l <;> by_cases hb : c.B ∈ l
  · rw [dB_T ha, dB_T hb]; simp [ha, hb]
  · rw [dB_T ha, dB_F hb]; simp [ha, hb]
  · rw [dB_F ha, dB_T hb]; simp [ha, hb]
  · rw [dB_F ha, dB_F hb]; simp [ha, hb]
theorem outc_eq {w : List Cable} (hw : w.length ≤ 1000) {l : List Int} (hl : l.length ≤ 1000) : slices_ContainsFunc_Cable_Cable w l = some (dB (∃ c ∈ w, Outw l c)) := by
  unfold slices_ContainsFunc_Cable_Cable slices_IndexFunc_Cable_Cable
  have h := wp_upto (step := slices_IndexFunc_Cable_Cable_L1 w l) (s := (0 : Int)) w.length (fun k s => s = (k : Int) ∧ ∀ j, j < k → ¬ Outw l (gt w j)) (Q := fun r => (r = .inl () ∧ ∀ j, j < w.length → ¬ Outw l (gt w j)) ∨ ∃ k : Nat, k < w.length ∧ r = .inr (k : Int) ∧ Outw l (gt w k)) ⟨rfl, fun j hj => by omega⟩ (fun k s hk hi => by
    obtain ⟨rfl, hi⟩ := hi
    unfold slices_IndexFunc_Cable_Cable_L1
    simp only [lt_len hk, if_true, idx_gt hk, Option.bind_some, cut1_eq hl]
    by_cases he : Outw l (gt w k)
    · simp only [dB_T he, if_true]
      exact wp_some.2 (.inr ⟨k, hk, rfl, he⟩)
    · simp only [dB_F he, Bool.false_eq_true, if_false]
      rw [W_succ (by omega)]
      exact wp_some.2 ⟨rfl, fun j hj => by
        by_cases hjk : j = k
        · rw [hjk]; exact he
        · exact hi j (by omega)⟩) (fun s hi => by
    obtain ⟨rfl, hi⟩ := hi
    unfold slices_IndexFunc_Cable_Cable_L1
    simp only [nlt_len, Bool.false_eq_true, if_false]
    exact wp_some.2 (.inl ⟨rfl, hi⟩)) (by omega)
  obtain ⟨r, h1, h2⟩ := h
  rw [h1]
  rcases h2 with ⟨rfl, h2⟩ | ⟨k, hk, rfl, h3⟩
  · rw [dB_F (fun ⟨c, hc, he⟩ => by
      obtain ⟨j, hj, rfl⟩ := mem_gt hc
      exact h2 j hj he)]
    rfl
  · rw [dB_T ⟨_, gt_mem hk, h3⟩]
    simp only [Option.bind_some, Sum.elim_inr, dT (c := (k : Int) ≥ 0) (by omega)]
theorem asc_ok {l : List Int} (hl : l.length ≤ 1000) (h : ∀ k, 0 < k → k < l.length → gt l (k - 1) < gt l k) : network_ascending l = some true := by
  unfold network_ascending
  have e := loop_run (step := network_ascending_L1 l) (r := .inl ()) (fun k => ((k + 1 : Nat) : Int)) (l.length - 1) (fun k hk => by
    unfold network_ascending_L1
    have h1 := h (k + 1) (by omega) (by omega)
    rw [Nat.add_sub_cancel] at h1
    simp only [lt_len (show k + 1 < l.length by omega), if_true, W_pred (k := k + 1) (by omega) (by omega), Nat.add_sub_cancel, idx_gt (show k < l.length by omega), idx_gt (show k + 1 < l.length by omega), Option.bind_some, dF (c := gt l k ≥ gt l (k + 1)) (by omega), Bool.false_eq_true, if_false]
    rw [W_succ (by omega)]) (by
    unfold network_ascending_L1
    simp only [dF (c := ((l.length - 1 + 1 : Nat) : Int) < len l) (by unfold len; omega), Bool.false_eq_true, if_false])
  simp only [show ((0 + 1 : Nat) : Int) = 1 from rfl] at e
  rw [e]
  rfl

theorem law_NetworkReaches (t : List Int) : dynposlaw32_NetworkReaches t = some true := by
  refine Wp.true' ?_
  unfold dynposlaw32_NetworkReaches
  simp only [sane_T, Option.bind_some]
  refine Wp.ite (fun _ => wp_some.2 rfl) fun _ => ?_
  refine (wpNew t).bind fun s hs => ?_
  refine (wpNet hs).bind fun x2 hx2 => ?_
  obtain ⟨nn, l2, a2, cs⟩ := x2
  simp only at hx2 ⊢
  obtain ⟨hv, hs2⟩ := hx2
  have hcl := hv.len
  have hn1 := hv.n1
  have hn0 := hv.n0
  simp only at hcl hn1 hn0
  refine (wpCables hs2 (n := ⟨nn, cs⟩) hcl).bind fun x3 hx3 => ?_
  obtain ⟨l3, a3, cs3, br⟩ := x3
  simp only at hx3 ⊢
  obtain ⟨hs3, rfl, hbr⟩ := hx3
  refine (wpN hs3 (n := 2) (by omega) (by omega)).bind fun x4 hx4 => ?_
  obtain ⟨net, l4, a4⟩ := x4
  simp only at hx4 ⊢
  obtain ⟨⟨k0, k1⟩, _⟩ := hx4
  obtain ⟨N, rfl⟩ : ∃ N : Nat, nn = N := ⟨nn.toNat, by omega⟩
  obtain ⟨J, hJ⟩ : ∃ J : Int → Int → Prop, J = Joined (Ed ⟨(N : Int), cs3⟩ br net) := ⟨_, rfl⟩
  have hR : ∀ a b : Nat, a < N → b < N → network_Reach ⟨(N : Int), cs3⟩ br net a b = some (dB (J a b)) := fun a b ha hb => by
    rw [hJ]
    exact reach_eq hv (by omega) k0 k1 (by omega) (by simp only; omega) (by omega) (by simp only; omega)
  have hsym : ∀ a b, J a b → J b a := fun a b h => by rw [hJ] at h ⊢; exact h.symm fun _ _ => Ed.symm
  have htr : ∀ a b c, J a b → J b c → J a c := fun a b c h h' => by rw [hJ] at h h' ⊢; exact h.trans h'
  have e1 := loop_run (step := dynposlaw32_NetworkReaches_L1 ((N : Int), l2, a2, cs3) (l3, a3, cs3, br) (net, l4, a4)) (r := .inl ()) (fun k => (k : Int)) N (fun a ha => by
    have hin : Wp (loopO (dynposlaw32_NetworkReaches_L2 ((N : Int), l2, a2, cs3) (l3, a3, cs3, br) (net, l4, a4) (a : Int)) (0, [])) fun r => ∃ side, r = .inl side ∧ side.length ≤ N ∧ (∀ x, x ∈ side ↔ 0 ≤ x ∧ x < N ∧ J a x) ∧ ∀ k, 0 < k → k < side.length → gt side (k - 1) < gt side k := by
      refine wp_upto N (fun b s => s.1 = (b : Int) ∧ s.2.length ≤ b ∧ (∀ x, x ∈ s.2 ↔ 0 ≤ x ∧ x < (b : Int) ∧ J a x) ∧ ∀ k, 0 < k → k < s.2.length → gt s.2 (k - 1) < gt s.2 k) ⟨rfl, Nat.le_refl _, fun x => ⟨fun hx => by simp at hx, fun hx => by omega⟩, fun k _ hk => by simp at hk⟩ (fun b s hb hs => ?_) (fun s hs => ?_) (by omega)
      · obtain ⟨z, side⟩ := s
        simp only at hs
        obtain ⟨rfl, q1, q2, q3⟩ := hs
        have hback : (!dB (J a b) == dB (J b a)) = false := by
          rw [dB_congr ⟨hsym _ _, hsym _ _⟩ (p := J a b) (q := J b a)]
          cases dB (J b a) <;> rfl
        have e3 := loop_run (step := dynposlaw32_NetworkReaches_L3 ((N : Int), l2, a2, cs3) (l3, a3, cs3, br) (net, l4, a4) (a : Int) ((b : Int), side) (dB (J a b))) (r := .inl ()) (fun k => (k : Int)) N (fun c hc => by
          unfold dynposlaw32_NetworkReaches_L3
          have hcond : (if dB (J a b) = true then
              Option.bind (network_Reach (Net.mk (N : Int) cs3) br net (b : Int) (c : Int)) fun x12 =>
                if x12 = true then
                  Option.bind (network_Reach (Net.mk (N : Int) cs3) br net (a : Int) (c : Int)) fun x13 => some !x13
                else some false
            else some false) = some false := by
            by_cases h1 : J a b
            · rw [if_pos (dB_T h1), hR b c hb hc]
              simp only [Option.bind_some]
              by_cases h2 : J b c
              · rw [if_pos (dB_T h2), hR a c ha hc, dB_T (htr _ _ _ h1 h2)]
                rfl
              · rw [dB_F h2]; rfl
            · rw [dB_F h1]; rfl
          simp only [dT (c := (c : Int) < (N : Int)) (by omega), if_true, hcond, Option.bind_some, Bool.false_eq_true, if_false]
          rw [W_succ (by omega)]) (by
          unfold dynposlaw32_NetworkReaches_L3
          simp only [dF (c := (N : Int) < (N : Int)) (by omega), Bool.false_eq_true, if_false])
        simp only [show ((0 : Nat) : Int) = 0 from rfl] at e3
        unfold dynposlaw32_NetworkReaches_L2
        simp only [dT (c := (b : Int) < (N : Int)) (by omega), if_true, hR a b ha hb, hR b a hb ha, Option.bind_some, hback, Bool.false_eq_true, if_false, e3, Sum.elim_inl]
        by_cases hj : J a b
        · rw [if_pos (dB_T hj), app_sm (by simp; omega)]
          simp only [Option.bind_some]
          rw [W_succ (by omega)]
          refine wp_some.2 ⟨rfl, by simp; omega, fun x => ?_, fun k h0 hk => ?_⟩
          · simp only [List.mem_append, List.mem_singleton, q2]
            constructor
            · rintro (⟨h1, h2, h3⟩ | rfl)
              · exact ⟨h1, by omega, h3⟩
              · exact ⟨by omega, by omega, hj⟩
            · rintro ⟨h1, h2, h3⟩
              by_cases hxb : x = (b : Int)
              · exact .inr hxb
              · exact .inl ⟨h1, by omega, h3⟩
          · simp only at hk ⊢
            have hk' : k < side.length + 1 := by simpa using hk
            rw [gt_snoc hk', gt_snoc (by omega), if_pos (by omega)]
            split
            · exact q3 k h0 (by omega)
            · exact ((q2 _).1 (gt_mem (by omega))).2.1
        · rw [dB_F hj]
          simp only [Bool.false_eq_true, if_false, Option.bind_some]
          rw [W_succ (by omega)]
          refine wp_some.2 ⟨rfl, by simp only; omega, fun x => ?_, q3⟩
          simp only [q2]
          constructor
          · rintro ⟨h1, h2, h3⟩
            exact ⟨h1, by omega, h3⟩
          · rintro ⟨h1, h2, h3⟩
            by_cases hxb : x = (b : Int)
            · rw [hxb] at h3; exact (hj h3).elim
            · exact ⟨h1, by omega, h3⟩
      · obtain ⟨z, side⟩ := s
        simp only at hs
        obtain ⟨rfl, q1, q2, q3⟩ := hs
        unfold dynposlaw32_NetworkReaches_L2
        simp only [dF (c := (N : Int) < (N : Int)) (by omega), Bool.false_eq_true, if_false]
        exact wp_some.2 ⟨side, rfl, q1, q2, q3⟩
    obtain ⟨r, hr, side, rfl, q1, q2, q3⟩ := hin
    have hrefl : J a a := by rw [hJ]; exact .refl _
    have hpos : 0 < side.length := List.length_pos_iff.2 (fun he => by
      have := (q2 (a : Int)).2 ⟨by omega, by omega, hrefl⟩
      rw [he] at this
      simp at this)
    have hcut : network_Cut ⟨(N : Int), cs3⟩ br net side = some (decide (len side < (N : Int))) := by
      unfold network_Cut
      rw [right_eq hv k0 k1 (by omega), dB_F (fun ⟨x, hx, hh⟩ => by
        have := (q2 x).1 hx
        simp only at hh
        omega)]
      simp only [Option.bind_some, Bool.not_false, Bool.not_true, Bool.false_eq_true, if_false, asc_ok (show side.length ≤ 1000 by omega) q3, show (len side == 0) = false from beqF (by unfold len; omega)]
      by_cases hfull : side.length = N
      · rw [show (len side == (N : Int)) = true from beqT (by unfold len; omega)]
        simp only [if_true]
        rw [dF (by unfold len; omega)]
      · rw [show (len side == (N : Int)) = false from beqF (by unfold len; omega)]
        simp only [Bool.false_eq_true, if_false]
        obtain ⟨w, hw, hwl, hwm⟩ := wpWhole hv (show br.length ≤ 1000 by omega) net
        rw [hw]
        simp only [Option.bind_some]
        rw [outc_eq (by omega) (show side.length ≤ 1000 by omega), dB_F (fun ⟨c, hc, ho⟩ => by
          have hwc := (hwm c).1 hc
          obtain ⟨k, hk, rfl, _⟩ := hwc
          obtain ⟨r1, r2, r3, r4, r5⟩ := hv.rng k hk
          simp only at r1 r2 r3 r4 r5
          have hed : J (gt cs3 k).A (gt cs3 k).B := by rw [hJ]; exact .one ⟨gt cs3 k, (hwm _).1 hc, .inl ⟨rfl, rfl⟩⟩
          refine ho ⟨fun h => ?_, fun h => ?_⟩
          · exact (q2 _).2 ⟨by show (0 : Int) ≤ (gt cs3 k).B; omega, r5, htr _ _ _ ((q2 _).1 h).2.2 hed⟩
          · exact (q2 _).2 ⟨r3, by show (gt cs3 k).A < (N : Int); omega, htr _ _ _ ((q2 _).1 h).2.2 (hsym _ _ hed)⟩), dT (by unfold len; omega)]
        rfl
    unfold dynposlaw32_NetworkReaches_L1
    simp only [dT (c := (a : Int) < (N : Int)) (by omega), if_true, hr, Option.bind_some, Sum.elim_inl, hcut]
    have hne : (!decide (len side < (N : Int)) == decide (len side < (N : Int))) = false := by cases decide (len side < (N : Int)) <;> rfl
    simp only [hne, Bool.false_eq_true, if_false]
    rw [W_succ (by omega)]) (by
    unfold dynposlaw32_NetworkReaches_L1
    simp only [dF (c := (N : Int) < (N : Int)) (by omega), Bool.false_eq_true, if_false])
  simp only [show ((0 : Nat) : Int) = 0 from rfl] at e1
  simp only [e1, Option.bind_some, Sum.elim_inl]
  exact wp_some.2 rfl
end Rx
end Go.Proofs.Ythgnnjdjdmdfoaa
