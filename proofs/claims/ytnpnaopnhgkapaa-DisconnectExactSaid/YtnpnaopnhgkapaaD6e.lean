/- The reference's functions on sequences and progresses; drawn progresses. Plain laws. -/
import Derived.Test.YtnpnaopnhgkapaaD4e
set_option linter.unusedVariables false
set_option linter.unusedSimpArgs false
namespace Go.Proofs.Ytnpnaopnhgkapaa
open Go Go.RowKit Dp
namespace Rx

theorem refin_eq (x a b : Int) : dynposref31_in x a b = some (decide (a ≤ x ∧ x ≤ b)) := by
  unfold dynposref31_in
  by_cases h : x ≥ a
  · rw [dT h]
    by_cases h' : x ≤ b
    · rw [dT h', dT (c := a ≤ x ∧ x ≤ b) ⟨h, h'⟩]; rfl
    · rw [dF h', dF (c := a ≤ x ∧ x ≤ b) (fun e => h' e.2)]; rfl
  · rw [dF h, dF (c := a ≤ x ∧ x ≤ b) (fun e => h e.1)]; rfl
theorem refhas_eq (l : List Int) (a : Int) (hl : l.length ≤ 1000000000) : dynposref01_Has l a = some (dB (a ∈ l)) := by
  unfold dynposref01_Has
  have e := loop_anyB (step := dynposref01_Has_L1 l a) (fun k => (k : Int)) l.length (fun k => gt l k = a) (r := Sum.inr true) (e := Sum.inl ()) (fun k hk hp => by
    unfold dynposref01_Has_L1
    simp only [lt_len hk, if_true, idx_gt hk, Option.bind_some]
    rw [beqF hp, W_succ (by omega)]
    simp) (fun k hk hp => by
    unfold dynposref01_Has_L1
    simp only [lt_len hk, if_true, idx_gt hk, Option.bind_some]
    rw [beqT hp]
    simp) (by
    unfold dynposref01_Has_L1
    simp only [nlt_len, Bool.false_eq_true, if_false]) (by omega)
  simp only [show ((0 : Nat) : Int) = 0 from rfl] at e
  rw [e, Option.bind_some, dB_congr (show (∃ k, k < l.length ∧ gt l k = a) ↔ a ∈ l from mem_iff_gt.symm)]
  cases dB (a ∈ l) <;> rfl
/-- good names, by the reference -/
structure RN (xs : List Stage) : Prop where
  wd : ∀ i, i < xs.length → dynposref26_Word (gt xs i).Name = some true
  ne : ∀ i, i < xs.length → ∀ j, j < i → (gt xs j).Name ≠ (gt xs i).Name
theorem refcheck_seq {xs : List Stage} (hs : VS xs) (hn : RN xs) : dynposref31_Check xs = some 0 := by
  have n1 := hs.n1
  have n2 := hs.n2
  unfold dynposref31_Check
  simp only [refin_eq, dT (c := (1 : Int) ≤ len xs ∧ len xs ≤ 12) (by unfold len; omega), Option.bind_some, Bool.not_true, Bool.false_eq_true, if_false]
  have e : loopO (dynposref31_Check_L1 xs) 0 = some (.inl ()) := by
    refine loop_run (r := Sum.inl ()) (fun k => (k : Int)) xs.length (fun k hk => ?_) ?_ (by omega)
    · have tk := hs.tk k hk
      have tr := hs.tr k hk
      have nl := hs.nlen hk
      unfold dynposref31_Check_L1
      simp only [lt_len hk, if_true, idx_gt hk, Option.bind_some, hn.wd k hk, Bool.not_true, Bool.false_eq_true, if_false, refin_eq, dT (c := (1 : Int) ≤ (gt xs k).Ticks ∧ (gt xs k).Ticks ≤ 600) tk, dT (c := (1 : Int) ≤ (gt xs k).Tries ∧ (gt xs k).Tries ≤ 3) tr]
      have e2 : loopO (dynposref31_Check_L2 xs (k : Int) (gt xs k)) 0 = some (.inl ()) := by
        refine loop_run (r := Sum.inl ()) (fun j => (j : Int)) k (fun j hj => ?_) ?_ (by omega)
        · unfold dynposref31_Check_L2
          have : ((gt xs j).Name == (gt xs k).Name) = false := by
            cases hb : (gt xs j).Name == (gt xs k).Name with
            | false => rfl
            | true => exact (hn.ne k hk j hj ((bs_eq _ _).1 hb)).elim
          simp only [dT (c := (j : Int) < (k : Int)) (by omega), if_true, idx_gt (l := xs) (k := j) (by omega), Option.bind_some, this, Bool.false_eq_true, if_false]
          rw [W_succ (by omega)]
        · unfold dynposref31_Check_L2
          simp only [dF (c := (k : Int) < (k : Int)) (by omega), Bool.false_eq_true, if_false]
      have e3 : loopO (dynposref31_Check_L3 (k : Int) (gt xs k)) 0 = some (.inl ()) := by
        refine loop_run (r := Sum.inl ()) (fun j => (j : Int)) (gt xs k).Needs.length (fun j hj => ?_) ?_ (by omega)
        · have nd := hs.nd k hk j hj
          unfold dynposref31_Check_L3
          rw [W_sm (x := (k : Int) - 1) (by omega) (by omega)]
          simp only [lt_len hj, if_true, idx_gt hj, Option.bind_some, refin_eq, dT (c := (0 : Int) ≤ gt (gt xs k).Needs j ∧ gt (gt xs k).Needs j ≤ (k : Int) - 1) (by omega), Bool.not_true, Bool.false_eq_true, if_false]
          by_cases h0 : 0 < j
          · have ns := hs.ns k hk j h0 hj
            rw [dT (c := (j : Int) > 0) (by omega), W_pred (by omega) h0]
            simp only [if_true, idx_gt (l := (gt xs k).Needs) (k := j - 1) (by omega), Option.bind_some]
            rw [dF (by omega), W_succ (by omega)]
            simp
          · rw [dF (c := (j : Int) > 0) (by omega)]
            simp only [Bool.false_eq_true, if_false, Option.bind_some]
            rw [W_succ (by omega)]
        · unfold dynposref31_Check_L3
          simp only [nlt_len, Bool.false_eq_true, if_false]
      simp only [e2, e3, Option.bind_some, Sum.elim_inl]
      rw [W_succ (by omega)]
    · unfold dynposref31_Check_L1
      simp only [nlt_len, Bool.false_eq_true, if_false]
  rw [e]
  rfl
theorem refnm_wd {i : Nat} (h : i < 5) : dynposref26_Word (nmS i) = some true := by
  rcases i with _ | _ | _ | _ | _ | i
  · kernel_rfl
  · kernel_rfl
  · kernel_rfl
  · kernel_rfl
  · kernel_rfl
  · omega
theorem SQ.ref {k : Nat} {xs : List Stage} (h : SQ k xs) (h1 : 1 ≤ k) (h2 : k ≤ 5) : dynposref31_Check xs = some 0 := by
  have hl := h.ln
  exact refcheck_seq (h.vs h1 h2).1 ⟨fun i hi => by rw [h.nm i hi]; exact refnm_wd (by omega), fun i hi j hj => by rw [h.nm i hi, h.nm j (by omega)]; exact nm_ne (by omega) hj⟩
theorem refready_eq {x : Stage} {ws : List Work} (hx : ∀ j, j < x.Needs.length → 0 ≤ gt x.Needs j ∧ gt x.Needs j < (ws.length : Int)) (hl : x.Needs.length ≤ 1000000) : dynposref31_ready x ws = some (dB (rdy x ws)) := by
  unfold dynposref31_ready
  have e := loop_anyB (step := dynposref31_ready_L1 x ws) (fun k => (k : Int)) x.Needs.length (fun j => (gt ws (gt x.Needs j).toNat).State ≠ 2) (r := Sum.inr false) (e := Sum.inl ()) (fun k hk hp => by
    unfold dynposref31_ready_L1
    have a := hx k hk
    simp only [lt_len hk, if_true, idx_gt hk, Option.bind_some, idx_gtZ a.1 a.2]
    rw [bneF (Classical.not_not.1 hp), W_succ (by omega)]
    simp) (fun k hk hp => by
    unfold dynposref31_ready_L1
    have a := hx k hk
    simp only [lt_len hk, if_true, idx_gt hk, Option.bind_some, idx_gtZ a.1 a.2]
    rw [bneT hp]
    simp) (by
    unfold dynposref31_ready_L1
    simp only [nlt_len, Bool.false_eq_true, if_false]) (by omega)
  simp only [show ((0 : Nat) : Int) = 0 from rfl] at e
  rw [e, Option.bind_some]
  have e : rdy x ws ↔ ¬ ∃ k, k < x.Needs.length ∧ (gt ws (gt x.Needs k).toNat).State ≠ 2 :=
    ⟨fun h ⟨k, hk, hp⟩ => hp (h k hk), fun h j hj => Classical.byContradiction fun hp => h ⟨j, hj, hp⟩⟩
  by_cases h : rdy x ws
  · rw [dB_T h, dB_F (e.1 h)]; rfl
  · rw [dB_F h, dB_T (Classical.byContradiction fun hn => h (e.2 hn))]; rfl
theorem refvalid_step {xs : List Stage} (hs : VS xs) {T : Int} {ws : List Work} (t0 : 0 ≤ T) (t1 : T ≤ 2147483648) (hl : ws.length = xs.length) {k : Nat} (hk : k < xs.length) :
    dynposref31_Valid_L1 xs ⟨T, ws⟩ (k : Int) = some (cond (dB (wk (gt xs k) (gt ws k) T (rdy (gt xs k) ws))) (.inl ((k + 1 : Nat) : Int)) (.inr (.inr false))) := by
  have n2 := hs.n2
  have tk := hs.tk k hk
  have tr := hs.tr k hk
  have yes : wk (gt xs k) (gt ws k) T (rdy (gt xs k) ws) → (some (.inl ((k + 1 : Nat) : Int)) : Option (Int ⊕ Unit ⊕ Bool)) = some (cond (dB (wk (gt xs k) (gt ws k) T (rdy (gt xs k) ws))) (.inl ((k + 1 : Nat) : Int)) (.inr (.inr false))) := fun h => by rw [dB_T h]; rfl
  have no : ¬ wk (gt xs k) (gt ws k) T (rdy (gt xs k) ws) → (some (.inr (.inr false)) : Option (Int ⊕ Unit ⊕ Bool)) = some (cond (dB (wk (gt xs k) (gt ws k) T (rdy (gt xs k) ws))) (.inl ((k + 1 : Nat) : Int)) (.inr (.inr false))) := fun h => by rw [dB_F h]; rfl
  unfold dynposref31_Valid_L1
  simp only [lt_len (l := ws) (k := k) (by omega), if_true, idx_gt (l := ws) (k := k) (by omega), idx_gt hk, Option.bind_some, refready_eq (ws := ws) (nd_in hs hk (by omega)) (by have := hs.nlen hk; omega), refin_eq]
  rw [W_sm (x := T - (gt xs k).Ticks) (by omega) (by omega), W_sm (x := T - (gt xs k).Ticks + 1) (by omega) (by omega), imax_nn, W_succ (by omega)]
  by_cases h0 : (gt ws k).State = 0
  · rw [beqT h0]
    by_cases hr : rdy (gt xs k) ws
    · rw [dB_T hr]
      simp only [beq_self_eq_true, if_true]
      exact no fun h => by
        rcases h with h | h | h | h
        · exact h.2.2.2 hr
        all_goals omega
    · rw [dB_F hr]
      simp only [show (false == true) = false from rfl, Bool.false_eq_true, if_false, if_true]
      by_cases c1 : (gt ws k).Since = 0
      · rw [bneF c1]
        simp only [Bool.false_eq_true, if_false, Option.bind_some]
        by_cases c2 : (gt ws k).Tries = 0
        · rw [bneF c2]
          simp only [Bool.false_eq_true, if_false, Option.bind_some, Sum.elim_inl]
          exact yes (.inl ⟨h0, c1, c2, hr⟩)
        · rw [bneT c2]
          simp only [if_true, Option.bind_some, Sum.elim_inr]
          exact no fun h => by rcases h with h | h | h | h <;> omega
      · rw [bneT c1]
        simp only [if_true, Option.bind_some, Sum.elim_inr]
        exact no fun h => by rcases h with h | h | h | h <;> omega
  · rw [beqF h0]
    by_cases hr : rdy (gt xs k) ws
    · rw [dB_T hr]
      simp only [show (true == false) = false from rfl, Bool.false_eq_true, if_false]
      by_cases h1 : (gt ws k).State = 1
      · rw [beqT h1]
        simp only [if_true]
        by_cases c1 : max 0 (T - (gt xs k).Ticks + 1) ≤ (gt ws k).Since ∧ (gt ws k).Since ≤ T
        · rw [dT c1]
          simp only [Bool.not_true, Bool.false_eq_true, if_false, Option.bind_some]
          by_cases c2 : 1 ≤ (gt ws k).Tries ∧ (gt ws k).Tries ≤ (gt xs k).Tries
          · rw [dT c2]
            simp only [Bool.not_true, Bool.false_eq_true, if_false, Option.bind_some, Sum.elim_inl]
            exact yes (.inr (.inl ⟨h1, hr, by omega, by omega, by omega, by omega, by omega⟩))
          · rw [dF c2]
            simp only [Bool.not_false, if_true, Option.bind_some, Sum.elim_inr]
            exact no fun h => by rcases h with h | ⟨_, _, h⟩ | h | h <;> omega
        · rw [dF c1]
          simp only [Bool.not_false, if_true, Option.bind_some, Sum.elim_inr]
          exact no fun h => by rcases h with h | ⟨_, _, h⟩ | h | h <;> omega
      · rw [beqF h1]
        simp only [Bool.false_eq_true, if_false]
        by_cases h2 : (gt ws k).State = 2
        · rw [beqT h2]
          simp only [if_true]
          by_cases c1 : 0 ≤ (gt ws k).Since ∧ (gt ws k).Since ≤ T - (gt xs k).Ticks
          · rw [dT c1]
            simp only [Bool.not_true, Bool.false_eq_true, if_false, Option.bind_some]
            by_cases c2 : 1 ≤ (gt ws k).Tries ∧ (gt ws k).Tries ≤ (gt xs k).Tries
            · rw [dT c2]
              simp only [Bool.not_true, Bool.false_eq_true, if_false, Option.bind_some, Sum.elim_inl]
              exact yes (.inr (.inr (.inl ⟨h2, hr, by omega, by omega, by omega, by omega⟩)))
            · rw [dF c2]
              simp only [Bool.not_false, if_true, Option.bind_some, Sum.elim_inr]
              exact no fun h => by rcases h with h | h | ⟨_, _, h⟩ | h <;> omega
          · rw [dF c1]
            simp only [Bool.not_false, if_true, Option.bind_some, Sum.elim_inr]
            exact no fun h => by rcases h with h | h | ⟨_, _, h⟩ | h <;> omega
        · rw [beqF h2]
          simp only [Bool.false_eq_true, if_false]
          by_cases h3 : (gt ws k).State = 3
          · rw [beqT h3]
            simp only [if_true]
            by_cases c1 : 0 ≤ (gt ws k).Since ∧ (gt ws k).Since ≤ T
            · rw [dT c1]
              simp only [Bool.not_true, Bool.false_eq_true, if_false, Option.bind_some]
              by_cases c2 : (gt ws k).Tries = (gt xs k).Tries
              · rw [bneF c2]
                simp only [Bool.false_eq_true, if_false, Option.bind_some, Sum.elim_inl]
                exact yes (.inr (.inr (.inr ⟨h3, hr, c2, by omega, by omega⟩)))
              · rw [bneT c2]
                simp only [if_true, Option.bind_some, Sum.elim_inr]
                exact no fun h => by rcases h with h | h | h | ⟨_, _, h⟩ <;> omega
            · rw [dF c1]
              simp only [Bool.not_false, if_true, Option.bind_some, Sum.elim_inr]
              exact no fun h => by rcases h with h | h | h | ⟨_, _, h⟩ <;> omega
          · rw [beqF h3]
            simp only [Bool.false_eq_true, if_false, Option.bind_some, Sum.elim_inr]
            exact no fun h => by rcases h with h | h | h | h <;> omega
    · rw [dB_F hr]
      simp only [beq_self_eq_true, if_true]
      exact no fun h => by
        rcases h with h | h | h | h
        · omega
        all_goals exact hr h.2.1
theorem refvalid_eq {xs : List Stage} (hs : VS xs) (hc : dynposref31_Check xs = some 0) (T : Int) (ws : List Work) : dynposref31_Valid xs ⟨T, ws⟩ = some (dB (VP xs T ws)) := by
  have n2 := hs.n2
  unfold dynposref31_Valid
  simp only [hc, Option.bind_some, show ((0 : Int) != 0) = false from rfl, Bool.false_eq_true, if_false, refin_eq]
  by_cases h0 : 0 ≤ T ∧ T ≤ 2147483648
  · rw [dT h0]
    simp only [Bool.not_true, Bool.false_eq_true, if_false, Option.bind_some]
    by_cases hl : ws.length = xs.length
    · rw [bneF (by unfold len; omega)]
      simp only [Bool.false_eq_true, if_false]
      have e : loopO (dynposref31_Valid_L1 xs ⟨T, ws⟩) 0 = some (@ite _ (∀ k x, ws[k]? = some x → wk (gt xs k) x T (rdy (gt xs k) ws)) (Classical.propDecidable _) (.inl ()) (.inr false)) := by
        refine loop_all (step := dynposref31_Valid_L1 xs ⟨T, ws⟩) ws (fun k => (k : Int)) (fun k x => wk (gt xs k) x T (rdy (gt xs k) ws)) (e := .inl ()) (r := .inr false) (fun k x hk hp => ?_) (fun k x hk hp => ?_) ?_ (by omega)
        · have hk' := (List.getElem?_eq_some_iff.1 hk).1
          obtain rfl := gt_some hk
          rw [refvalid_step hs h0.1 h0.2 hl (by omega), dB_T hp]
          rfl
        · have hk' := (List.getElem?_eq_some_iff.1 hk).1
          obtain rfl := gt_some hk
          rw [refvalid_step hs h0.1 h0.2 hl (by omega), dB_F hp]
          rfl
        · unfold dynposref31_Valid_L1
          simp only [nlt_len, Bool.false_eq_true, if_false]
      rw [e]
      by_cases hv : VP xs T ws
      · rw [dB_T hv, if_pos fun k x hk => by have hk' := (List.getElem?_eq_some_iff.1 hk).1; have e := gt_some hk; rw [← e]; exact hv.wk k (by omega)]
        rfl
      · rw [dB_F hv, if_neg fun h => hv ⟨by omega, by omega, hl, fun i hi => h i (gt ws i) (by rw [gt_get (by omega)]; exact List.getElem?_eq_getElem (by omega))⟩]
        rfl
    · rw [bneT (by unfold len; omega)]
      simp only [if_true]
      rw [dB_F fun h => hl h.ln]
  · rw [dF h0]
    simp only [Bool.not_false, if_true, Option.bind_some]
    rw [dB_F fun h => h0 ⟨h.t0, h.t1⟩]
theorem refnew_eq {xs : List Stage} (hs : VS xs) (hc : dynposref31_Check xs = some 0) {T : Int} (h0 : 0 ≤ T) (h1 : T ≤ 2147483648) : dynposref31_New xs T = some (T, 0, new0 xs T) := by
  have n2 := hs.n2
  unfold dynposref31_New
  simp only [hc, Option.bind_some, show ((0 : Int) != 0) = false from rfl, Bool.false_eq_true, if_false, refin_eq, dT (c := 0 ≤ T ∧ T ≤ 2147483648) ⟨h0, h1⟩, Bool.not_true]
  have e : loopO (dynposref31_New_L1 xs T) (0, T, []) = some (T, new0 xs T) := by
    refine wp_eq.1 (wp_upto xs.length (fun k s => s.1 = (k : Int) ∧ s.2.1 = T ∧ s.2.2.length = k ∧ ∀ i, i < k → gt s.2.2 i = gt (new0 xs T) i) ⟨rfl, rfl, rfl, fun i hi => by omega⟩ (fun k s hk hv => ?_) (fun s hv => ?_) (by omega))
    · obtain ⟨z, T', cur⟩ := s
      simp only at hv
      obtain ⟨rfl, rfl, hl, hg⟩ := hv
      have hfin : ∀ w : Work, w = gt (new0 xs T') k → (∀ i, i < k + 1 → gt (cur ++ [w]) i = gt (new0 xs T') i) := fun w hw i hi => by
        rw [gt_snoc (by omega)]
        by_cases h : i < cur.length
        · rw [if_pos h]; exact hg i (by omega)
        · rw [if_neg h, hw, show i = k by omega]
      unfold dynposref31_New_L1
      simp only [lt_len hk, if_true, idx_gt hk, Option.bind_some]
      rcases new0_gt (T := T') hk with ⟨a, b⟩ | ⟨a, b⟩
      · rw [a, beqT (show len ([] : List Int) = 0 from rfl)]
        simp only [if_true, Option.bind_some]
        rw [app_sm (by simp; omega), W_succ (by omega)]
        exact wp_some.2 ⟨rfl, rfl, by simp [hl], hfin _ b.symm⟩
      · rw [beqF (show len (gt xs k).Needs ≠ 0 from fun e => a (List.length_eq_zero_iff.1 (by unfold len at e; omega)))]
        simp only [Bool.false_eq_true, if_false, Option.bind_some]
        rw [app_sm (by simp; omega), W_succ (by omega)]
        exact wp_some.2 ⟨rfl, rfl, by simp [hl], hfin _ b.symm⟩
    · obtain ⟨z, T', cur⟩ := s
      simp only at hv
      obtain ⟨rfl, rfl, hl, hg⟩ := hv
      unfold dynposref31_New_L1
      simp only [nlt_len, Bool.false_eq_true, if_false]
      refine wp_some.2 ?_
      rw [show cur = new0 xs T' from ext_gt (by rw [hl]; unfold new0; rw [bgn_len]) fun i hi => hg i (by omega)]
  rw [e]
  rfl
theorem refstep_loop2 {xs : List Stage} (hs : VS xs) {T : Int} {ws : List Work} (hv : VP xs T ws) (ht : T < 2147483648) {fails : List Int} (hl : fails.length ≤ 1000000) {step : Int × List Work → Option (Int × List Work ⊕ List Work)} (hstep : step = dynposref31_Step_L2 xs ⟨T, ws⟩ fails) : loopO step (0, ws) = some (mid xs ws T (inF fails)) := by
  have n2 := hs.n2
  have t0 := hv.t0
  have hln := hv.ln
  subst hstep
  refine wp_eq.1 (wp_upto xs.length (fun k s => s.1 = (k : Int) ∧ s.2.length = xs.length ∧ ∀ i, i < xs.length → gt s.2 i = if i < k then st1 (gt xs i) (gt ws i) T (inF fails i) else gt ws i) ⟨rfl, hln, fun i hi => by rw [if_neg (by omega)]⟩ (fun k s hk hv' => ?_) (fun s hv' => ?_) (by omega))
  · obtain ⟨z, cur⟩ := s
    obtain ⟨rfl, hl', hg⟩ := hv'
    simp only at hl' hg
    have hgk := hg k hk
    rw [if_neg (by omega)] at hgk
    have hw := hv.wk k hk
    have tk := hs.tk k hk
    have tr := hs.tr k hk
    have hfin : ∀ y : Work, y = st1 (gt xs k) (gt ws k) T (inF fails k) → W ((k : Int) + 1) = ((k + 1 : Nat) : Int) ∧ (cur.set k y).length = xs.length ∧ ∀ i, i < xs.length → gt (cur.set k y) i = (if i < k + 1 then st1 (gt xs i) (gt ws i) T (inF fails i) else gt ws i) := fun y hy => by
      refine ⟨W_succ (by omega), by simp [hl'], fun i hi => ?_⟩
      rw [gt_set (by omega)]
      by_cases he : i = k
      · rw [if_pos he, if_pos (by omega), he, hy]
      · rw [if_neg he, hg i hi]
        by_cases h1 : i < k
        · rw [if_pos h1, if_pos (by omega)]
        · rw [if_neg h1, if_neg (by omega)]
    have hsame : ∀ h : gt ws k = st1 (gt xs k) (gt ws k) T (inF fails k), W ((k : Int) + 1) = ((k + 1 : Nat) : Int) ∧ cur.length = xs.length ∧ ∀ i, i < xs.length → gt cur i = (if i < k + 1 then st1 (gt xs i) (gt ws i) T (inF fails i) else gt ws i) := fun h => by
      have := hfin (gt ws k) h
      rwa [show cur.set k (gt ws k) = cur from ext_gt (by simp) fun i hi => by
        rw [gt_set (by omega)]
        by_cases he : i = k
        · rw [if_pos he, he, hgk]
        · rw [if_neg he]] at this
    unfold dynposref31_Step_L2
    simp only [lt_len (l := ws) (k := k) (by omega), if_true, idx_gt (l := xs) hk, idx_gt (l := ws) (k := k) (by omega), Option.bind_some, idx_gt (l := cur) (k := k) (by omega), hgk, refhas_eq fails (k : Int) (by omega), setO_nat (xs := cur) (j := k) (by omega)]
    have hF : dB ((k : Int) ∈ fails) = inF fails k := rfl
    rw [hF]
    rcases st1_cases (gt xs k) (gt ws k) T (inF fails k) with ⟨h1, h2⟩ | ⟨h1, h3, h4, h2⟩ | ⟨h1, h3, h4, h2⟩ | ⟨h1, h3, h4, h2⟩ | ⟨h1, h3, h4, h2⟩
    · rw [bneT h1]
      simp only [if_true, Option.bind_some]
      exact wp_some.2 (hsame h2.symm)
    all_goals
      rw [bneF h1, h3]
      simp only [Bool.false_eq_true, if_false, if_true, Option.bind_some]
      unfold wk at hw
    · rw [dT h4]
      simp only [if_true, Option.bind_some]
      refine wp_some.2 (hfin _ ?_)
      rw [h2, W_sm (x := T + 1) (by omega) (by omega), W_sm (by omega) (by omega)]
    · rw [dF h4]
      simp only [if_true, Bool.false_eq_true, if_false, Option.bind_some]
      exact wp_some.2 (hfin _ h2.symm)
    · rw [W_sm (x := T + 1) (by omega) (by omega), W_sm (x := (gt ws k).Since + (gt xs k).Ticks) (by omega) (by omega), dT h4]
      simp only [if_true, Option.bind_some]
      exact wp_some.2 (hfin _ h2.symm)
    · rw [W_sm (x := T + 1) (by omega) (by omega), W_sm (x := (gt ws k).Since + (gt xs k).Ticks) (by omega) (by omega), dF h4]
      simp only [Bool.false_eq_true, if_false, Option.bind_some]
      exact wp_some.2 (hsame h2.symm)
  · obtain ⟨z, cur⟩ := s
    obtain ⟨rfl, hl', hg⟩ := hv'
    simp only at hl' hg
    unfold dynposref31_Step_L2
    simp only [dF (c := (xs.length : Int) < len ws) (by unfold len; omega), Bool.false_eq_true, if_false]
    refine wp_some.2 (ext_gt (by rw [hl', mid_len]) fun i hi => ?_)
    rw [hg i (by omega), if_pos (by omega), mid_gt (by omega)]
theorem refstep_loop3 {xs : List Stage} (hs : VS xs) {ws : List Work} {T : Int} {ms : List Work} (hm : ms.length = xs.length) (h0 : 0 ≤ T) (ht : T < 2147483648) {step : Int × List Work → Option (Int × List Work ⊕ List Work)} (hstep : step = dynposref31_Step_L3 xs ⟨T, ws⟩ ms) : loopO step (0, ms) = some (bgn xs ms (T + 1)) := by
  have n2 := hs.n2
  subst hstep
  refine wp_eq.1 (wp_upto xs.length (fun k s => s.1 = (k : Int) ∧ s.2.length = xs.length ∧ ∀ i, i < xs.length → gt s.2 i = if i < k then bg1 (gt xs i) (gt ms i) (T + 1) ms else gt ms i) ⟨rfl, hm, fun i hi => by rw [if_neg (by omega)]⟩ (fun k s hk hv => ?_) (fun s hv => ?_) (by omega))
  · obtain ⟨z, cur⟩ := s
    obtain ⟨rfl, hl, hg⟩ := hv
    simp only at hl hg
    have hcr : rdy (gt xs k) cur ↔ rdy (gt xs k) ms := by
      have e : ∀ j, j < (gt xs k).Needs.length → ((gt cur (gt (gt xs k).Needs j).toNat).State = 2 ↔ (gt ms (gt (gt xs k).Needs j).toNat).State = 2) := fun j hj => by
        have := nd_lt hs hk hj
        rw [hg _ (by omega), if_pos this]
        exact bg1_done _ _ _ _
      exact ⟨fun a j hj => (e j hj).1 (a j hj), fun a j hj => (e j hj).2 (a j hj)⟩
    have hgk := hg k hk
    rw [if_neg (by omega)] at hgk
    unfold dynposref31_Step_L3
    simp only [lt_len (l := ms) (k := k) (by omega), if_true, idx_gt (l := xs) hk, Option.bind_some, idx_gt (l := cur) (k := k) (by omega), refready_eq (x := gt xs k) (ws := cur) (nd_in hs hk (by omega)) (by have := hs.nlen hk; omega)]
    have hfin : ∀ y : List Work, y.length = xs.length → (∀ i, i < xs.length → gt y i = if i = k then bg1 (gt xs k) (gt ms k) (T + 1) ms else gt cur i) → ∀ i, i < xs.length → gt y i = if i < k + 1 then bg1 (gt xs i) (gt ms i) (T + 1) ms else gt ms i := fun y _ hy i hi => by
      rw [hy i hi]
      by_cases he : i = k
      · subst he; rw [if_pos rfl, if_pos (by omega)]
      · rw [if_neg he, hg i hi]
        by_cases h1 : i < k
        · rw [if_pos h1, if_pos (by omega)]
        · rw [if_neg h1, if_neg (by omega)]
    rw [W_sm (x := T + 1) (by omega) (by omega), W_succ (by omega)]
    by_cases h0 : (gt cur k).State = 0
    · rw [beqT h0]
      simp only [if_true, Option.bind_some]
      by_cases hr : rdy (gt xs k) cur
      · rw [dB_T hr]
        simp only [if_true, setO_nat (xs := cur) (j := k) (by omega)]
        simp only [Option.bind_some]
        refine wp_some.2 ⟨rfl, by simp [hl], hfin _ (by simp [hl]) fun i hi => ?_⟩
        rw [gt_set (by omega)]
        by_cases he : i = k
        · rw [if_pos he, if_pos he]
          rcases bg1_cases (gt xs k) (gt ms k) (T + 1) ms with ⟨a, b, c⟩ | ⟨b, c⟩
          · rw [c]
          · exact (b ⟨by rw [← hgk]; exact h0, hcr.1 hr⟩).elim
        · rw [if_neg he, if_neg he]
      · rw [dB_F hr]
        simp only [Bool.false_eq_true, if_false, Option.bind_some]
        refine wp_some.2 ⟨rfl, hl, hfin _ hl fun i hi => ?_⟩
        by_cases he : i = k
        · rw [if_pos he, he, hgk]
          rcases bg1_cases (gt xs k) (gt ms k) (T + 1) ms with ⟨a, b, c⟩ | ⟨b, c⟩
          · exact (hr (hcr.2 b)).elim
          · rw [c]
        · rw [if_neg he]
    · rw [beqF h0]
      simp only [Bool.false_eq_true, if_false, Option.bind_some]
      refine wp_some.2 ⟨rfl, hl, hfin _ hl fun i hi => ?_⟩
      by_cases he : i = k
      · rw [if_pos he, he, hgk]
        rcases bg1_cases (gt xs k) (gt ms k) (T + 1) ms with ⟨a, b, c⟩ | ⟨b, c⟩
        · exact (h0 (by rw [hgk]; exact a)).elim
        · rw [c]
      · rw [if_neg he]
  · obtain ⟨z, cur⟩ := s
    obtain ⟨rfl, hl, hg⟩ := hv
    simp only at hl hg
    unfold dynposref31_Step_L3
    simp only [dF (c := (xs.length : Int) < len ms) (by unfold len; omega), Bool.false_eq_true, if_false]
    refine wp_some.2 (ext_gt (by rw [hl, bgn_len]) fun i hi => ?_)
    rw [hg i (by omega), if_pos (by omega), bgn_gt (by omega)]
theorem refstep_eq {xs : List Stage} (hs : VS xs) (hc : dynposref31_Check xs = some 0) {T : Int} {ws : List Work} (hv : VP xs T ws) (ht : T < 2147483648) {fails : List Int} (hf : ∀ x ∈ fails, 0 ≤ x ∧ x < (xs.length : Int)) (hl : fails.length ≤ 1000000) : dynposref31_Step xs ⟨T, ws⟩ fails = some (T + 1, 0, nxt xs ws T (inF fails)) := by
  have n1 := hs.n1
  have n2 := hs.n2
  have t0 := hv.t0
  have hln := hv.ln
  unfold dynposref31_Step
  simp only [hc, Option.bind_some, show ((0 : Int) != 0) = false from rfl, Bool.false_eq_true, if_false, refvalid_eq hs hc, dB_T hv, Bool.not_true]
  have e : loopO (dynposref31_Step_L1 xs fails) (0, 0) = some (.inl 0) := by
    refine loop_run (r := Sum.inl 0) (fun k => ((k : Int), 0)) fails.length (fun k hk => ?_) ?_ (by omega)
    · have a := hf _ (gt_mem hk)
      unfold dynposref31_Step_L1
      rw [show len xs = (xs.length : Int) from rfl, W_sm (x := (xs.length : Int) - 1) (by omega) (by omega)]
      simp only [lt_len hk, if_true, idx_gt hk, Option.bind_some, refin_eq, dT (c := 0 ≤ gt fails k ∧ gt fails k ≤ (xs.length : Int) - 1) (by omega), Bool.not_true, Bool.false_eq_true, if_false]
      rw [W_succ (by omega)]
    · unfold dynposref31_Step_L1
      simp only [nlt_len, Bool.false_eq_true, if_false]
  rw [e]
  simp only [Option.bind_some, Sum.elim_inl]
  rw [beqF (by omega)]
  simp only [Bool.false_eq_true, if_false, app_nl (ys := ws) (by omega), Option.bind_some, refstep_loop2 hs hv ht hl rfl, refstep_loop3 (ws := ws) (T := T) hs (ms := mid xs ws T (inF fails)) mid_len t0 ht rfl]
  rw [W_sm (by omega) (by omega)]
  rfl
theorem refstep2_eq {xs : List Stage} (hs : VS xs) (hc : dynposref31_Check xs = some 0) {T : Int} {ws : List Work} (hv : VP xs T ws) (ht : T < 2147483648) {fails : List Int} (hf : ∀ x ∈ fails, 0 ≤ x ∧ x < (xs.length : Int)) (hl : fails.length ≤ 1000000) : dynposref31_Step_v2 xs ⟨T, ws⟩ fails = some (T + 1, 0, fails, nxt xs ws T (inF fails)) := by
  have n1 := hs.n1
  have n2 := hs.n2
  have t0 := hv.t0
  have hln := hv.ln
  unfold dynposref31_Step_v2
  simp only [hc, Option.bind_some, show ((0 : Int) != 0) = false from rfl, Bool.false_eq_true, if_false, refvalid_eq hs hc, dB_T hv, Bool.not_true]
  have e : loopO (dynposref31_Step_v2_L1 xs fails) (0, 0) = some (.inl 0) := by
    refine loop_run (r := Sum.inl 0) (fun k => ((k : Int), 0)) fails.length (fun k hk => ?_) ?_ (by omega)
    · have a := hf _ (gt_mem hk)
      unfold dynposref31_Step_v2_L1
      rw [show len xs = (xs.length : Int) from rfl, W_sm (x := (xs.length : Int) - 1) (by omega) (by omega)]
      simp only [lt_len hk, if_true, idx_gt hk, Option.bind_some, refin_eq, dT (c := 0 ≤ gt fails k ∧ gt fails k ≤ (xs.length : Int) - 1) (by omega), Bool.not_true, Bool.false_eq_true, if_false]
      rw [W_succ (by omega)]
    · unfold dynposref31_Step_v2_L1
      simp only [nlt_len, Bool.false_eq_true, if_false]
  rw [e]
  simp only [Option.bind_some, Sum.elim_inl]
  rw [beqF (by omega)]
  simp only [Bool.false_eq_true, if_false, app_nl (ys := ws) (by omega), Option.bind_some, show dynposref31_Step_v2_L2 xs ⟨T, ws⟩ fails = dynposref31_Step_L2 xs ⟨T, ws⟩ fails from rfl, show ∀ m, dynposref31_Step_v2_L3 xs ⟨T, ws⟩ m = dynposref31_Step_L3 xs ⟨T, ws⟩ m from fun _ => rfl, refstep_loop2 hs hv ht hl rfl, refstep_loop3 (ws := ws) (T := T) hs (ms := mid xs ws T (inF fails)) mid_len t0 ht rfl]
  rw [W_sm (by omega) (by omega)]
  rfl
theorem wpFails {sl : List Int} {sa : Int} (hs : Sr sl sa) {xs : List Stage} (n2 : xs.length ≤ 12) : Wp (Src_Fails ⟨sl, sa⟩ xs) fun r => Sr r.1 r.2.1 ∧ r.2.2.length ≤ 12 ∧ ∀ x ∈ r.2.2, 0 ≤ x ∧ x < (xs.length : Int) := by
  unfold Src_Fails
  refine (wpSomeA hs (n := xs.length) (by omega) (k := 5) (by omega) (by omega)).bind fun r hr => wp_some.2 ⟨hr.1, by simp only; omega, fun x hx => ?_⟩
  obtain ⟨j, hj, rfl⟩ := mem_gt hx
  exact hr.2.2.1 j hj
theorem wpProgress {sl : List Int} {sa : Int} (hsr : Sr sl sa) {xs : List Stage} (hs : VS xs) (hc : dynposref31_Check xs = some 0) {m : Int} (m0 : 0 ≤ m) (m1 : m ≤ 100) : Wp (Src_Progress ⟨sl, sa⟩ xs m) fun r => VP xs r.1 r.2.1 ∧ r.1 ≤ 4 + m ∧ Sr r.2.2.1 r.2.2.2 := by
  have n2 := hs.n2
  unfold Src_Progress
  refine (wpN hsr (n := 5) (by omega) (by omega)).bind fun y hy => ?_
  obtain ⟨y, l, a⟩ := y
  simp only at hy ⊢
  have hv := VP_new hs (T := y) (by omega) (by omega)
  simp only [refnew_eq hs hc (T := y) (by omega) (by omega), Option.bind_some]
  rw [W_sm (x := m + 1) (by omega) (by omega)]
  refine (wpN hy.2 (n := m + 1) (by omega) (by omega)).bind fun z hz => ?_
  obtain ⟨z, l', a'⟩ := z
  simp only at hz ⊢
  have hloop : Wp (loopO (Src_Progress_L1 xs) (z, l', a', y, new0 xs y)) fun r => VP xs r.2.2.1 r.2.2.2 ∧ r.2.2.1 ≤ 4 + m ∧ Sr r.1 r.2.1 := by
    refine wp_while (fun s => s.1.toNat) (fun s => 0 ≤ s.1 ∧ s.1 ≤ m ∧ Sr s.2.1 s.2.2.1 ∧ VP xs s.2.2.2.1 s.2.2.2.2 ∧ s.2.2.2.1 + s.1 ≤ 4 + m) (fun s hi => ?_) ⟨hz.1.1, by simp only; omega, hz.2, hv, by simp only; omega⟩ (by simp only; omega)
    obtain ⟨q, l1, a1, T, ws⟩ := s
    simp only at hi
    obtain ⟨q0, q1, h1, h2, h3⟩ := hi
    unfold Src_Progress_L1
    simp only
    refine Wp.ite (fun hq => ?_) fun hq => wp_some.2 ⟨h2, by simp only; omega, h1⟩
    have hq' := of_decide_eq_true hq
    refine (wpFails h1 n2).bind fun r hr => ?_
    obtain ⟨l2, a2, fs⟩ := r
    simp only at hr
    obtain ⟨g1, g2, g3⟩ := hr
    simp only [refstep2_eq hs hc h2 (by omega) g3 (by omega), Option.bind_some]
    rw [W_sm (x := q - 1) (by omega) (by omega)]
    exact wp_some.2 ⟨⟨by simp only; omega, by simp only; omega, g1, VP_nxt hs h2 (by omega) _, by simp only; omega⟩, by simp only; omega⟩
  exact hloop.bind fun r hr => wp_some.2 hr
end Rx
end Go.Proofs.Ytnpnaopnhgkapaa
