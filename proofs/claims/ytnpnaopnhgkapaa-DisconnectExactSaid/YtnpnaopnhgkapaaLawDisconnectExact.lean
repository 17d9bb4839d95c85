/- DisconnectExact: for all numbers, sequences, progresses, lists and times the statement answers true: all functions give what the reference gives. No condition. -/
import Derived.Test.YtnpnaopnhgkapaaD10
set_option linter.unusedVariables false
set_option linter.unusedSimpArgs false
namespace Go.Proofs.Ytnpnaopnhgkapaa
open Go Go.RowKit Dp
namespace Rx

theorem ints_refl (l : List Int) (hl : l.length ≤ 1000000) : dynposref01_Ints l l = some true := by
  unfold dynposref01_Ints
  rw [bneF rfl]
  have e : loopO (dynposref01_Ints_L1 l l) 0 = some (.inl ()) := loop_run (r := Sum.inl ()) (fun k => (k : Int)) l.length (fun k hk => by
    unfold dynposref01_Ints_L1
    simp only [lt_len hk, if_true, idx_gt hk, Option.bind_some]
    rw [bneF rfl, W_succ (by omega)]; simp) (by
    unfold dynposref01_Ints_L1
    simp only [nlt_len, Bool.false_eq_true, if_false]) (by omega)
  simp only [Bool.false_eq_true, if_false, e, Option.bind_some, Sum.elim_inl]
theorem same_refl (T : Int) (ws : List Work) (hl : ws.length ≤ 1000000) : dynposref31_Same ⟨T, ws⟩ ⟨T, ws⟩ = some true := by
  unfold dynposref31_Same
  rw [bneF rfl, bneF rfl]
  have e : loopO (dynposref31_Same_L1 ⟨T, ws⟩ ⟨T, ws⟩) 0 = some (.inl ()) := loop_run (r := Sum.inl ()) (fun k => (k : Int)) ws.length (fun k hk => by
    unfold dynposref31_Same_L1
    simp only [lt_len hk, if_true, idx_gt hk, Option.bind_some]
    rw [beqT rfl, beqT rfl, beqT rfl, W_succ (by omega)]; simp) (by
    unfold dynposref31_Same_L1
    simp only [nlt_len, Bool.false_eq_true, if_false]) (by omega)
  simp only [Bool.false_eq_true, if_false, e, Option.bind_some, Sum.elim_inl]
/-! what is drawn -/
theorem wpPickA {sl : List Int} {sa : Int} (hs : Sr sl sa) {l : List Int} (h0 : 0 < l.length) (h1 : l.length ≤ 1000) : Wp (Src_Pick_v1 ⟨sl, sa⟩ l) fun r => r.1 ∈ l ∧ Sr r.2.1 r.2.2.1 := by
  unfold Src_Pick_v1
  refine (wpN hs (n := len l) (by unfold len; omega) (by unfold len; omega)).bind fun y hy => ?_
  obtain ⟨y, l', a'⟩ := y
  simp only [len] at hy ⊢
  rw [idx_gtZ (l := l) hy.1.1 hy.1.2]
  exact wp_some.2 ⟨gt_mem (by omega), hy.2⟩
theorem nds_set {xs : List Stage} {i : Nat} {x : Stage} (h : NdS xs) (hi : i < xs.length) (hx : x.Needs.length ≤ 1000000) : NdS (xs.set i x) := fun k hk => by
  rw [gt_set hi]
  by_cases e : k = i
  · rw [if_pos e]; exact hx
  · rw [if_neg e]; exact h k (by simpa using hk)
theorem wpBentSequence {sl : List Int} {sa : Int} (hs : Sr sl sa) {xs : List Stage} (h1 : 1 ≤ xs.length) (h2 : xs.length ≤ 12) (hz : NdS xs) : Wp (Src_BentSequence ⟨sl, sa⟩ xs) fun r => Sr r.1 r.2.1 ∧ NdS r.2.2 := by
  unfold Src_BentSequence
  rw [app_nl (ys := xs) (by omega)]
  simp only [Option.bind_some]
  refine (wpN hs (n := len xs) (by unfold len; omega) (by unfold len; omega)).bind fun y hy => ?_
  obtain ⟨y, l1, a1⟩ := y
  simp only [len] at hy ⊢
  refine (wpN hy.2 (n := 5) (by omega) (by omega)).bind fun z hzz => ?_
  obtain ⟨z, l2, a2⟩ := z
  simp only at hzz ⊢
  have gy := idx_gtZ (l := xs) (j := y) hy.1.1 hy.1.2
  have sy : ∀ x, setO xs y x = some (xs.set y.toNat x) := fun x => setO_gt hy.1.1 hy.1.2
  have hb := hz y.toNat (by omega)
  refine Wp.bind (Q := fun r => Sr r.1 r.2.1 ∧ NdS r.2.2) ?_ fun r hr => wp_some.2 hr
  refine Wp.ite (fun _ => ?_) fun _ => ?_
  · unfold Src_Text_v1
    rw [Option.bind_assoc]
    refine (wpN hzz.2 (n := len [bsL [], bsL [115, 97], bsL [66], bsL [99, 32, 100]]) (by unfold len; simp) (by unfold len; simp)).bind fun q hq => ?_
    obtain ⟨q, l3, a3⟩ := q
    simp only at hq ⊢
    have hql : q < (([bsL [], bsL [115, 97], bsL [66], bsL [99, 32, 100]] : List ByteArray).length : Int) := hq.1.2
    rw [idx_gtZ (l := [bsL [], bsL [115, 97], bsL [66], bsL [99, 32, 100]]) hq.1.1 hql]
    simp only [Option.bind_some, gy, sy]
    exact wp_some.2 ⟨hq.2, nds_set hz (by omega) hb⟩
  · refine Wp.bind (Q := fun r => Sr r.1 r.2.1 ∧ NdS r.2.2) ?_ fun r hr => wp_some.2 hr
    refine Wp.ite (fun _ => ?_) fun _ => ?_
    · refine (wpPickA hzz.2 (by simp) (by simp)).bind fun q hq => ?_
      simp only [Option.bind_some, gy, sy]
      exact wp_some.2 ⟨hq.2, nds_set hz (by omega) hb⟩
    · refine Wp.bind (Q := fun r => Sr r.1 r.2.1 ∧ NdS r.2.2) ?_ fun r hr => wp_some.2 hr
      refine Wp.ite (fun _ => ?_) fun _ => ?_
      · refine (wpPickA hzz.2 (by simp) (by simp)).bind fun q hq => ?_
        simp only [Option.bind_some, gy, sy]
        exact wp_some.2 ⟨hq.2, nds_set hz (by omega) hb⟩
      · refine Wp.bind (Q := fun r => Sr r.1 r.2.1 ∧ NdS r.2.2) ?_ fun r hr => wp_some.2 hr
        refine Wp.ite (fun _ => ?_) fun _ => wp_some.2 ⟨hzz.2, fun k hk => by simp at hk⟩
        refine (wpN hzz.2 (n := 4) (by omega) (by omega)).bind fun q hq => ?_
        obtain ⟨q, l3, a3⟩ := q
        simp only at hq ⊢
        have hm := gt_mem (l := [[y], [(-1)], [0, 0], [1, 0]]) (k := q.toNat) (by simp; omega)
        rw [idx_gtZ (l := [[y], [(-1)], [0, 0], [1, 0]]) hq.1.1 (by simp; omega)]
        simp only [Option.bind_some, gy, sy]
        refine wp_some.2 ⟨hq.2, nds_set hz (by omega) ?_⟩
        simp only
        generalize gt [[y], [(-1)], [0, 0], [1, 0]] q.toNat = w at hm
        simp only [List.mem_cons, List.not_mem_nil, or_false] at hm
        rcases hm with rfl | rfl | rfl | rfl <;> simp
theorem wpBentProgress {sl : List Int} {sa : Int} (hs : Sr sl sa) {T : Int} {ws : List Work} (h2 : ws.length ≤ 12) : Wp (Src_BentProgress ⟨sl, sa⟩ ⟨T, ws⟩) fun r => r.2.1.length ≤ 12 ∧ Sr r.2.2.1 r.2.2.2 := by
  unfold Src_BentProgress
  rw [app_nl (ys := ws) (by omega)]
  simp only [Option.bind_some]
  refine Wp.ite (fun _ => wp_some.2 ⟨h2, hs⟩) fun h0 => ?_
  have h1 : 1 ≤ ws.length := by
    by_cases e : len ws = 0
    · rw [beqT e] at h0; cases h0
    · unfold len at e; omega
  refine (wpN hs (n := len ws) (by unfold len; omega) (by unfold len; omega)).bind fun y hy => ?_
  obtain ⟨y, l1, a1⟩ := y
  simp only [len] at hy ⊢
  have gy := idx_gtZ (l := ws) (j := y) hy.1.1 hy.1.2
  have sy : ∀ x, setO ws y x = some (ws.set y.toNat x) := fun x => setO_gt hy.1.1 hy.1.2
  simp only [gy, Option.bind_some]
  refine (wpN hy.2 (n := 5) (by omega) (by omega)).bind fun z hzz => ?_
  obtain ⟨z, l2, a2⟩ := z
  simp only at hzz ⊢
  refine Wp.bind (Q := fun r => r.2.2.2.length ≤ 12 ∧ Sr r.1 r.2.1) ?_ fun r hr => wp_some.2 hr
  refine Wp.ite (fun _ => ?_) fun _ => ?_
  · refine (wpRange hzz.2 (lo := -1) (hi := 4) (by omega) (by omega) (by omega) (by omega)).bind fun q hq => ?_
    simp only [sy, Option.bind_some]
    exact wp_some.2 ⟨by simpa using h2, hq.2⟩
  · refine Wp.bind (Q := fun r => r.2.2.2.length ≤ 12 ∧ Sr r.1 r.2.1) ?_ fun r hr => wp_some.2 hr
    refine Wp.ite (fun _ => ?_) fun _ => ?_
    · refine (wpPickA hzz.2 (by simp) (by simp)).bind fun q hq => ?_
      simp only [sy, Option.bind_some]
      exact wp_some.2 ⟨by simpa using h2, hq.2⟩
    · refine Wp.bind (Q := fun r => r.2.2.2.length ≤ 12 ∧ Sr r.1 r.2.1) ?_ fun r hr => wp_some.2 hr
      refine Wp.ite (fun _ => ?_) fun _ => ?_
      · refine (wpRange hzz.2 (lo := -1) (hi := 4) (by omega) (by omega) (by omega) (by omega)).bind fun q hq => ?_
        simp only [sy, Option.bind_some]
        exact wp_some.2 ⟨by simpa using h2, hq.2⟩
      · refine Wp.bind (Q := fun r => r.2.2.2.length ≤ 12 ∧ Sr r.1 r.2.1) ?_ fun r hr => wp_some.2 hr
        refine Wp.ite (fun _ => ?_) fun _ => ?_
        · refine (wpPickA hzz.2 (by simp) (by simp)).bind fun q hq => ?_
          exact wp_some.2 ⟨h2, hq.2⟩
        · have := slc_drop (xs := ws) (n := 1) h1
          rw [show ((1 : Nat) : Int) = 1 from rfl] at this
          rw [show ((ws.length : Nat) : Int) = len ws from rfl, this]
          simp only [Option.bind_some]
          exact wp_some.2 ⟨by simp; omega, hzz.2⟩
/-! the statement's loops -/
theorem nb (b : Bool) : (!b == b) = false := by cases b <;> rfl
theorem ex_L3 {a3 : List Int} {y : List Stage} {d : List Int × Int × List Int} (hz : NdS y) (h1 : a3.length ≤ 1000) (h2 : d.2.2.length ≤ 1000) : loopO (dynposlaw31_DisconnectExact_L3 a3 ⟨y⟩ d) 0 = some (.inl ()) := by
  refine loop_run (r := Sum.inl ()) (fun k => (k : Int)) 2 (fun k hk => ?_) ?_ (by omega)
  · have hb : ∀ l ∈ [a3, d.2.2], l.length ≤ 1000 := fun l hl => by
      simp only [List.mem_cons, List.not_mem_nil, or_false] at hl
      rcases hl with rfl | rfl <;> assumption
    obtain ⟨b, e1, e2⟩ := proves_all hz (l := gt [a3, d.2.2] k) (hb _ (gt_mem (by simpa using hk)))
    unfold dynposlaw31_DisconnectExact_L3
    simp only [dT (c := (k : Int) < 2) (by omega), if_true, idx_gt (l := [a3, d.2.2]) (k := k) (by simpa using hk), Option.bind_some, e1, e2, nb, Bool.false_eq_true, if_false]
    rw [W_succ (by omega)]
  · unfold dynposlaw31_DisconnectExact_L3
    simp only [dF (c := ((2 : Nat) : Int) < 2) (by omega), Bool.false_eq_true, if_false]
theorem ex_L4 {a4 : Int} {y : List Stage} {d : Int × List Int × Int} (hz : NdS y) : loopO (dynposlaw31_DisconnectExact_L4 a4 ⟨y⟩ d) 0 = some (.inl ()) := by
  refine loop_run (r := Sum.inl ()) (fun k => (k : Int)) 2 (fun k hk => ?_) ?_ (by omega)
  · obtain ⟨r, e1, e2, e3⟩ := new_all hz (gt [a4, d.1] k)
    unfold dynposlaw31_DisconnectExact_L4
    simp only [dT (c := (k : Int) < 2) (by omega), if_true, idx_gt (l := [a4, d.1]) (k := k) (by simpa using hk), Option.bind_some, e1, e2, bneF (rfl : r.2.1 = r.2.1), Bool.false_eq_true, if_false, same_refl _ _ e3, Bool.not_true]
    rw [W_succ (by omega)]
  · unfold dynposlaw31_DisconnectExact_L4
    simp only [dF (c := ((2 : Nat) : Int) < 2) (by omega), Bool.false_eq_true, if_false]
theorem ex_L6 {a3 : List Int} {y : List Stage} {T : Int} {ws : List Work} {d : List Int × Int × List Int} (hz : NdS y) (h1 : a3.length ≤ 1000) (h2 : d.2.2.length ≤ 1000) : loopO (dynposlaw31_DisconnectExact_L6 a3 ⟨y⟩ ⟨T, ws⟩ d) 0 = some (.inl ()) := by
  refine loop_run (r := Sum.inl ()) (fun k => (k : Int)) 3 (fun k hk => ?_) ?_ (by omega)
  · have hb : ∀ l ∈ [a3, [], d.2.2], l.length ≤ 1000 := fun l hl => by
      simp only [List.mem_cons, List.not_mem_nil, or_false] at hl
      rcases hl with rfl | rfl | rfl
      · exact h1
      · simp
      · exact h2
    have hl := hb _ (gt_mem (l := [a3, [], d.2.2]) (k := k) (by simpa using hk))
    obtain ⟨r, e1, e2, e3⟩ := step_all hz (T := T) (ws := ws) (fails := gt [a3, [], d.2.2] k) (by omega)
    unfold dynposlaw31_DisconnectExact_L6
    simp only [dT (c := (k : Int) < 3) (by omega), if_true, idx_gt (l := [a3, [], d.2.2]) (k := k) (by simpa using hk), Option.bind_some, e1, e2, bneF (rfl : r.2.1 = r.2.1), Bool.false_eq_true, if_false, same_refl _ _ e3, Bool.not_true]
    rw [W_succ (by omega)]
  · unfold dynposlaw31_DisconnectExact_L6
    simp only [dF (c := ((3 : Nat) : Int) < 3) (by omega), Bool.false_eq_true, if_false]
theorem ex_L5 {a2 : Progress} {a3 : List Int} {x9 : List Int × Int × List Stage} {y : List Stage} {x13 x40 : Int × List Work × List Int × Int} {sl : List Int} {sa : Int} (hz : NdS y) (n2 : x9.2.2.length ≤ 12) (h1 : a3.length ≤ 1000) (w1 : x13.2.1.length ≤ 1000) (w2 : x40.2.1.length ≤ 1000) (w3 : a2.Works.length ≤ 1000) (hs : Sr sl sa) :
    Wp (loopO (dynposlaw31_DisconnectExact_L5 a2 a3 x9 ⟨y⟩ x13 x40) (0, sl, sa)) fun r => ∃ q, r = .inl q ∧ Sr q.1 q.2 := by
  refine wp_upto 3 (fun k s => s.1 = (k : Int) ∧ Sr s.2.1 s.2.2) ⟨rfl, hs⟩ (fun k s hk hv => ?_) (fun s hv => ?_) (by omega)
  · obtain ⟨z, l1, b1⟩ := s
    obtain ⟨rfl, h⟩ := hv
    simp only at h
    have hb : ∀ q ∈ [Progress.mk x13.1 x13.2.1, Progress.mk x40.1 x40.2.1, a2], q.Works.length ≤ 1000 := fun q hq => by
      simp only [List.mem_cons, List.not_mem_nil, or_false] at hq
      rcases hq with rfl | rfl | rfl <;> assumption
    have hq := hb _ (gt_mem (l := [Progress.mk x13.1 x13.2.1, Progress.mk x40.1 x40.2.1, a2]) (k := k) (by simpa using hk))
    unfold dynposlaw31_DisconnectExact_L5
    simp only [dT (c := (k : Int) < 3) (by omega), if_true, idx_gt (l := [Progress.mk x13.1 x13.2.1, Progress.mk x40.1 x40.2.1, a2]) (k := k) (by simpa using hk), Option.bind_some]
    generalize gt [Progress.mk x13.1 x13.2.1, Progress.mk x40.1 x40.2.1, a2] k = q at hq ⊢
    obtain ⟨T, ws⟩ := q
    simp only at hq
    obtain ⟨r, e1, e2⟩ := left_all hz (T := T) (ws := ws) (by omega)
    simp only [e1, e2, Option.bind_some, bneF (rfl : r.1 = r.1), Bool.false_eq_true, if_false, nb, valid_all hz, refvalid_all hz, done_eq (T := T) (ws := ws) (by omega), refdone_eq (T := T) (ws := ws) (by omega), stuck_eq (T := T) (ws := ws) (by omega), refstuck_eq (T := T) (ws := ws) (by omega)]
    refine (wpFails h n2).bind fun f hf => ?_
    simp only [ex_L6 (T := T) (ws := ws) (d := f) hz h1 (by omega), Option.bind_some, Sum.elim_inl]
    exact wp_some.2 ⟨W_succ (by omega), hf.1⟩
  · obtain ⟨z, l1, b1⟩ := s
    obtain ⟨rfl, h⟩ := hv
    unfold dynposlaw31_DisconnectExact_L5
    simp only [dF (c := ((3 : Nat) : Int) < 3) (by omega), Bool.false_eq_true, if_false]
    exact wp_some.2 ⟨_, rfl, h⟩
theorem law_DisconnectExact (t : List Int) (raw : List Stage) (odd : Progress) (l : List Int) (time : Int) : dynposlaw31_DisconnectExact t raw odd l time = some true := by
  unfold dynposlaw31_DisconnectExact
  have hs : ∀ m : Option Bool, m = some true → Option.bind m (fun x => some x) = some true := fun m h => by rw [h]; rfl
  by_cases c1 : len t > 600
  · rw [dT c1]
    simp only [if_true, Option.bind_some, sane_T]
  rw [dF c1]
  by_cases c2 : len raw > 14
  · rw [dT c2]
    simp only [Bool.false_eq_true, if_false, if_true, Option.bind_some, sane_T]
  rw [dF c2]
  by_cases c3 : len odd.Works > 14
  · rw [dT c3]
    simp only [Bool.false_eq_true, if_false, if_true, Option.bind_some, sane_T]
  rw [dF c3]
  by_cases c4 : len l > 20
  · rw [dT c4]
    simp only [Bool.false_eq_true, if_false, if_true, Option.bind_some, sane_T]
  rw [dF c4]
  unfold len at c1 c2 c3 c4
  simp only [Bool.false_eq_true, if_false, Option.bind_some]
  have h1 : Wp (loopO (dynposlaw31_DisconnectExact_L1 raw) 0) fun r => r = .inl () ∧ NdS raw ∨ r = .inr true := by
    refine wp_upto raw.length (fun k s => s = (k : Int) ∧ ∀ j, j < k → (gt raw j).Needs.length ≤ 1000000) ⟨rfl, fun j hj => by omega⟩ (fun k s hk hv => ?_) (fun s hv => ?_) (by omega)
    · obtain ⟨rfl, hn⟩ := hv
      unfold dynposlaw31_DisconnectExact_L1
      simp only [lt_len hk, if_true, idx_gt hk, Option.bind_some]
      by_cases g1 : len (gt raw k).Needs > 14
      · rw [dT g1]
        simp only [if_true, Option.bind_some, sane_T]
        exact wp_some.2 (.inr rfl)
      rw [dF g1]
      unfold len at g1
      by_cases g2 : sLen (gt raw k).Name > 40
      · rw [dT g2]
        simp only [Bool.false_eq_true, if_false, if_true, Option.bind_some, sane_T]
        exact wp_some.2 (.inr rfl)
      rw [dF g2, W_succ (by omega)]
      simp only [Bool.false_eq_true, if_false, Option.bind_some]
      refine wp_some.2 ⟨rfl, fun j hj => ?_⟩
      by_cases e : j = k
      · subst e; omega
      · exact hn j (by omega)
    · obtain ⟨rfl, hn⟩ := hv
      unfold dynposlaw31_DisconnectExact_L1
      simp only [nlt_len, Bool.false_eq_true, if_false]
      exact wp_some.2 (.inl ⟨rfl, hn⟩)
  obtain ⟨r, e1, hr⟩ := h1
  rw [e1]
  rcases hr with ⟨rfl, hraw⟩ | rfl
  case inr => rfl
  simp only [Option.bind_some, Sum.elim_inl]
  refine wp_eq.1 ((wpNew t).bind fun r hr => ?_)
  refine (wpSequence hr).bind fun x hx => ?_
  obtain ⟨hsr, k, k1, k2, hq⟩ := hx
  obtain ⟨hvs, hc⟩ := hq.vs k1 k2
  have hcr := hq.ref k1 k2
  have n1 := hvs.n1
  have n2 := hvs.n2
  have hzx : NdS x.2.2 := fun i hi => by have := hvs.nlen hi; omega
  refine (wpBentSequence hsr n1 n2 hzx).bind fun y hy => ?_
  have hloop : Wp (loopO (dynposlaw31_DisconnectExact_L2 raw odd l time x y) (0, y.1, y.2.1)) fun r => ∃ q, r = .inl q := by
    refine wp_upto 3 (fun k s => s.1 = (k : Int) ∧ Sr s.2.1 s.2.2) ⟨rfl, hy.1⟩ (fun k s hk hv => ?_) (fun s hv => ?_) (by omega)
    · obtain ⟨z, l1, b1⟩ := s
      obtain ⟨rfl, h⟩ := hv
      simp only at h
      have hb : ∀ q ∈ [Sequence.mk x.2.2, Sequence.mk y.2.2, Sequence.mk raw], NdS q.Stages := fun q hq => by
        simp only [List.mem_cons, List.not_mem_nil, or_false] at hq
        rcases hq with rfl | rfl | rfl
        · exact hzx
        · exact hy.2
        · exact hraw
      have hz := hb _ (gt_mem (l := [Sequence.mk x.2.2, Sequence.mk y.2.2, Sequence.mk raw]) (k := k) (by simpa using hk))
      unfold dynposlaw31_DisconnectExact_L2
      simp only [dT (c := (k : Int) < 3) (by omega), if_true, idx_gt (l := [Sequence.mk x.2.2, Sequence.mk y.2.2, Sequence.mk raw]) (k := k) (by simpa using hk), Option.bind_some]
      generalize gt [Sequence.mk x.2.2, Sequence.mk y.2.2, Sequence.mk raw] k = q at hz ⊢
      obtain ⟨s⟩ := q
      simp only at hz
      refine (wpProgress h hvs hcr (m := 12) (by omega) (by omega)).bind fun p hp => ?_
      have pl := hp.1.ln
      obtain ⟨L, a1, a2, _⟩ := length_all hz
      obtain ⟨M, a3, a4⟩ := longest_all hz
      obtain ⟨P, a5, a6, a7⟩ := path_all hz
      simp only [check_eq hz, refcheck_eq hz, a1, a2, a3, a4, a5, a6, Option.bind_some, bneF (rfl : L = L), bneF (rfl : M = M), bneF (rfl : cond (dB (CH s)) (0 : Int) 67 = cond (dB (CH s)) 0 67), Bool.false_eq_true, if_false, ints_refl P (by omega), Bool.not_true]
      refine (wpSomeA hp.2.2 (n := 8) (by omega) (k := 3) (by omega) (by omega)).bind fun d hd => ?_
      simp only [ex_L3 (a3 := l) (d := d) hz (by omega) (by omega), Option.bind_some, Sum.elim_inl]
      refine (wpN hd.1 (n := 9) (by omega) (by omega)).bind fun u hu => ?_
      simp only [ex_L4 (a4 := time) (d := u) hz, Option.bind_some, Sum.elim_inl]
      refine (wpBentProgress hu.2 (T := p.1) (ws := p.2.1) (by omega)).bind fun v hv => ?_
      refine (ex_L5 (a2 := odd) (a3 := l) (x9 := x) (x13 := p) (x40 := v) hz n2 (by omega) (by omega) (by omega) (by omega) hv.2).bind fun w hw => ?_
      obtain ⟨w, rfl, hw⟩ := hw
      simp only [Sum.elim_inl]
      exact wp_some.2 ⟨W_succ (by omega), hw⟩
    · obtain ⟨z, l1, b1⟩ := s
      obtain ⟨rfl, h⟩ := hv
      unfold dynposlaw31_DisconnectExact_L2
      simp only [dF (c := ((3 : Nat) : Int) < 3) (by omega), Bool.false_eq_true, if_false]
      exact wp_some.2 ⟨_, rfl⟩
  refine hloop.bind fun r hr => ?_
  obtain ⟨q, rfl⟩ := hr
  simp only [Sum.elim_inl, sane_T, Option.bind_some]
  exact wp_some.2 rfl
end Rx
end Go.Proofs.Ytnpnaopnhgkapaa
