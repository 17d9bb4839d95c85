/- What the functions on sequences and progresses compute. Plain laws. -/
import Derived.Test.YtnpnaopnhgkapaaD2
set_option linter.unusedVariables false
set_option linter.unusedSimpArgs false
namespace Go.Proofs.Ytnpnaopnhgkapaa
open Go Go.RowKit Dp
namespace Rx

theorem bs_eq (a b : ByteArray) : (a == b) = true ↔ a = b := by
  rcases a with ⟨a⟩
  rcases b with ⟨b⟩
  show (a == b) = true ↔ _
  rw [beq_iff_eq]
  simp
/-- a search for a place, and whether there is one -/
theorem anyF {step : Int → Option (Int ⊕ (Unit ⊕ Int))} (n : Nat) (P : Nat → Prop) (next : ∀ k : Nat, k < n → ¬ P k → step (k : Int) = some (.inl ((k + 1 : Nat) : Int))) (hit : ∀ k : Nat, k < n → P k → step (k : Int) = some (.inr (.inr (k : Int)))) (stop : step (n : Int) = some (.inr (.inl ()))) (hn : n ≤ 1000000000000000000 := by first | omega | (simp only [Sm] at *; omega)) :
    (Option.bind (Option.bind (loopO step 0) fun x4 => Sum.elim (fun x5 => some (-1)) (fun x6 => some x6) x4) fun x1 => some (decide (x1 ≥ 0))) = some (dB (∃ k, k < n ∧ P k)) := by
  by_cases h : ∃ k, k < n ∧ P k
  · rw [dB_T h]
    have hw : Wp (loopO step 0) fun r => ∃ k : Nat, r = .inr (k : Int) := by
      obtain ⟨j, hj, hp⟩ := h
      refine wp_upto n (fun k s => s = (k : Int) ∧ k ≤ j) ⟨rfl, by omega⟩ (fun k s hk hv => ?_) (fun s hv => by omega) hn
      obtain ⟨rfl, hv⟩ := hv
      by_cases hq : P k
      · rw [hit k hk hq]; exact wp_some.2 ⟨k, rfl⟩
      · rw [next k hk hq]
        refine wp_some.2 ⟨rfl, ?_⟩
        by_cases e : k = j
        · subst e; exact (hq hp).elim
        · omega
    obtain ⟨r, e, k, rfl⟩ := hw
    rw [e]
    simp only [Option.bind_some, Sum.elim_inr]
    rw [dT (by omega)]
  · rw [dB_F h]
    have e : loopO step 0 = some (.inl ()) := loop_run (r := Sum.inl ()) (fun k => (k : Int)) n (fun k hk => next k hk fun hp => h ⟨k, hk, hp⟩) stop hn
    rw [e]
    simp only [Option.bind_some, Sum.elim_inl]
    rw [dF (by omega)]
theorem ready_eq {x : Stage} {ws : List Work} (hx : ∀ j, j < x.Needs.length → 0 ≤ gt x.Needs j ∧ gt x.Needs j < (ws.length : Int)) (hl : x.Needs.length ≤ 1000000) : disconnect_ready x ws = some (dB (rdy x ws)) := by
  unfold disconnect_ready slices_ContainsFunc_int_int slices_IndexFunc_int_int
  rw [anyF (step := slices_IndexFunc_int_int_L1 x.Needs ws) x.Needs.length (fun j => (gt ws (gt x.Needs j).toNat).State ≠ 2) (fun k hk hp => ?_) (fun k hk hp => ?_) ?_]
  · simp only [Option.bind_some]
    have e : rdy x ws ↔ ¬ ∃ k, k < x.Needs.length ∧ (gt ws (gt x.Needs k).toNat).State ≠ 2 :=
      ⟨fun h ⟨k, hk, hp⟩ => hp (h k hk), fun h j hj => Classical.byContradiction fun hp => h ⟨j, hj, hp⟩⟩
    by_cases h : rdy x ws
    · rw [dB_T h, dB_F (e.1 h)]; rfl
    · rw [dB_F h, dB_T (Classical.byContradiction fun hn => h (e.2 hn))]; rfl
  · unfold slices_IndexFunc_int_int_L1
    simp only [nlt_len, Bool.false_eq_true, if_false]
  · unfold slices_IndexFunc_int_int_L1 disconnect_ready_1
    have a := hx k hk
    simp only [lt_len hk, if_true, idx_gt hk, Option.bind_some, idx_gtZ a.1 a.2]
    rw [bneF (Classical.not_not.1 hp), W_succ (by omega)]
    simp
  · unfold slices_IndexFunc_int_int_L1 disconnect_ready_1
    have a := hx k hk
    simp only [lt_len hk, if_true, idx_gt hk, Option.bind_some, idx_gtZ a.1 a.2]
    rw [bneT hp]
    simp
theorem imax_nn (a : Int) : imax 0 a = max 0 a := by unfold imax; split <;> omega
theorem imax_eq (a b : Int) : imax a b = max a b := by unfold imax; split <;> omega
theorem sb (b : Bool) (p : Prop) (h : b = true ↔ p) : some b = some (dB p) := by rw [dB_eq h]
theorem work_eq {x : Stage} {w : Work} {T : Int} {r : Prop} (t0 : 0 ≤ T) (t1 : T ≤ 2147483648) (k1 : 1 ≤ x.Ticks) (k2 : x.Ticks ≤ 600) : disconnect_work x w T (dB r) = some (dB (wk x w T r)) := by
  have e1 : W (T - x.Ticks) = T - x.Ticks := W_sm (by omega) (by omega)
  have e2 : W (T - x.Ticks + 1) = T - x.Ticks + 1 := W_sm (by omega) (by omega)
  unfold disconnect_work
  rw [e1, e2, imax_nn]
  have hb : (if decide (w.Tries ≥ 1) = true then some (decide (w.Tries ≤ x.Tries)) else some false) = some (decide (1 ≤ w.Tries ∧ w.Tries ≤ x.Tries)) := by
    by_cases h : w.Tries ≥ 1
    · rw [dT h]; simp; omega
    · rw [dF h]; simp; omega
  rw [hb]
  simp only [Option.bind_some]
  unfold wk
  by_cases h0 : w.State = 0
  · rw [beqT h0]
    simp only [if_true, Bool.true_and]
    by_cases hz : w.Since = 0 ∧ w.Tries = 0
    · rw [beqT hz.1, beqT hz.2]
      simp only [Bool.true_and, if_true]
      by_cases hr : r
      · rw [dB_T hr]
        refine sb _ _ ⟨fun h => by simp at h, fun h => ?_⟩
        rcases h with h | h | h | h
        · exact (h.2.2.2 hr).elim
        all_goals omega
      · rw [dB_F hr]
        exact sb _ _ ⟨fun h => .inl ⟨h0, hz.1, hz.2, hr⟩, fun h => by simp⟩
    · have hz' : (w.Since == 0 && w.Tries == 0) = false := by
        rw [Bool.and_eq_false_iff]
        by_cases h : w.Since = 0
        · right; exact beqF fun h' => hz ⟨h, h'⟩
        · left; exact beqF h
      rw [hz']
      simp only [Bool.false_eq_true, if_false]
      refine sb _ _ ⟨fun h => by simp at h, fun h => ?_⟩
      rcases h with h | h | h | h
      · exact (hz ⟨h.2.1, h.2.2.1⟩).elim
      all_goals omega
  · rw [beqF h0]
    simp only [Bool.false_eq_true, if_false]
    have hr : (dB r = true) ↔ r := dB_iff
    by_cases h1 : w.State = 1
    · rw [beqT h1]
      simp only [if_true]
      by_cases hr' : r
      · rw [dB_T hr']
        simp only [if_true]
        by_cases ht : 1 ≤ w.Tries ∧ w.Tries ≤ x.Tries
        · rw [dT ht]
          simp only [if_true]
          by_cases hs : w.Since ≥ max 0 (T - x.Ticks + 1)
          · rw [dT hs]
            simp only [if_true]
            refine sb _ _ ⟨fun h => ?_, fun h => ?_⟩
            · have := of_decide_eq_true h
              exact .inr (.inl ⟨h1, hr', ht.1, ht.2, by omega, by omega, this⟩)
            · rcases h with h | h | h | h
              · omega
              · exact dT h.2.2.2.2.2.2
              all_goals omega
          · rw [dF hs]
            simp only [Bool.false_eq_true, if_false]
            refine sb _ _ ⟨fun h => by simp at h, fun h => ?_⟩
            rcases h with h | ⟨_, _, h⟩ | h | h <;> omega
        · rw [dF ht]
          simp only [Bool.false_eq_true, if_false]
          refine sb _ _ ⟨fun h => by simp at h, fun h => ?_⟩
          rcases h with h | ⟨_, _, h⟩ | h | h <;> omega
      · rw [dB_F hr']
        simp only [Bool.false_eq_true, if_false]
        refine sb _ _ ⟨fun h => by simp at h, fun h => ?_⟩
        rcases h with h | h | h | h
        · omega
        · exact (hr' h.2.1).elim
        all_goals omega
    · rw [beqF h1]
      simp only [Bool.false_eq_true, if_false]
      by_cases h2 : w.State = 2
      · rw [beqT h2]
        simp only [if_true]
        by_cases hr' : r
        · rw [dB_T hr']
          simp only [if_true]
          by_cases ht : 1 ≤ w.Tries ∧ w.Tries ≤ x.Tries
          · rw [dT ht]
            simp only [if_true]
            by_cases hs : w.Since ≥ 0
            · rw [dT hs]
              simp only [if_true]
              refine sb _ _ ⟨fun h => ?_, fun h => ?_⟩
              · have := of_decide_eq_true h
                exact .inr (.inr (.inl ⟨h2, hr', ht.1, ht.2, by omega, by omega⟩))
              · rcases h with h | h | h | h
                · omega
                · omega
                · exact dT h.2.2.2.2.2
                · omega
            · rw [dF hs]
              simp only [Bool.false_eq_true, if_false]
              refine sb _ _ ⟨fun h => by simp at h, fun h => ?_⟩
              rcases h with h | h | ⟨_, _, h⟩ | h <;> omega
          · rw [dF ht]
            simp only [Bool.false_eq_true, if_false]
            refine sb _ _ ⟨fun h => by simp at h, fun h => ?_⟩
            rcases h with h | h | ⟨_, _, h⟩ | h <;> omega
        · rw [dB_F hr']
          simp only [Bool.false_eq_true, if_false]
          refine sb _ _ ⟨fun h => by simp at h, fun h => ?_⟩
          rcases h with h | h | h | h
          · omega
          · omega
          · exact (hr' h.2.1).elim
          · omega
      · rw [beqF h2]
        simp only [Bool.false_eq_true, if_false]
        by_cases h3 : w.State = 3
        · rw [beqT h3]
          simp only [if_true]
          by_cases hr' : r
          · rw [dB_T hr']
            simp only [if_true]
            by_cases ht : w.Tries = x.Tries
            · rw [beqT ht]
              simp only [if_true]
              by_cases hs : w.Since ≥ 0
              · rw [dT hs]
                simp only [if_true]
                refine sb _ _ ⟨fun h => ?_, fun h => ?_⟩
                · have := of_decide_eq_true h
                  exact .inr (.inr (.inr ⟨h3, hr', ht, by omega, by omega⟩))
                · rcases h with h | h | h | h
                  · omega
                  · omega
                  · omega
                  · exact dT h.2.2.2.2
              · rw [dF hs]
                simp only [Bool.false_eq_true, if_false]
                refine sb _ _ ⟨fun h => by simp at h, fun h => ?_⟩
                rcases h with h | h | h | ⟨_, _, h⟩ <;> omega
            · rw [beqF ht]
              simp only [Bool.false_eq_true, if_false]
              refine sb _ _ ⟨fun h => by simp at h, fun h => ?_⟩
              rcases h with h | h | h | ⟨_, _, h⟩ <;> omega
          · rw [dB_F hr']
            simp only [Bool.false_eq_true, if_false]
            refine sb _ _ ⟨fun h => by simp at h, fun h => ?_⟩
            rcases h with h | h | h | h
            · omega
            · omega
            · omega
            · exact (hr' h.2.1).elim
        · rw [beqF h3]
          simp only [Bool.false_eq_true, if_false]
          refine sb _ _ ⟨fun h => by simp at h, fun h => ?_⟩
          rcases h with h | h | h | h <;> omega
theorem nd_in {xs : List Stage} (hs : VS xs) {i : Nat} (hi : i < xs.length) {n : Nat} (hn : i ≤ n) : ∀ j, j < (gt xs i).Needs.length → 0 ≤ gt (gt xs i).Needs j ∧ gt (gt xs i).Needs j < (n : Int) := fun j hj => by
  have := hs.nd i hi j hj
  omega
theorem valid_eq {xs : List Stage} (hs : VS xs) (hc : disconnect_Check xs = some 0) (T : Int) (ws : List Work) : disconnect_Valid xs ⟨T, ws⟩ = some (dB (VP xs T ws)) := by
  have n2 := hs.n2
  unfold disconnect_Valid
  simp only [hc, Option.bind_some, show ((0 : Int) != 0) = false from rfl, Bool.false_eq_true, if_false]
  by_cases h0 : T < 0
  · rw [dT h0]
    simp only [if_true, Option.bind_some]
    rw [dB_F fun h => by have := h.t0; omega]
  · rw [dF h0]
    simp only [Bool.false_eq_true, if_false]
    by_cases h1 : T > 2147483648
    · rw [dT h1]
      simp only [if_true, Option.bind_some]
      rw [dB_F fun h => by have := h.t1; omega]
    · rw [dF h1]
      simp only [Bool.false_eq_true, if_false, Option.bind_some]
      by_cases hl : ws.length = xs.length
      · rw [bneF (by unfold len; omega)]
        simp only [Bool.false_eq_true, if_false]
        have e : loopO (disconnect_Valid_L1 xs ⟨T, ws⟩) 0 = some (@ite _ (∀ k x, xs[k]? = some x → wk x (gt ws k) T (rdy x ws)) (Classical.propDecidable _) (.inl ()) (.inr false)) := by
          refine loop_all (step := disconnect_Valid_L1 xs ⟨T, ws⟩) xs (fun k => (k : Int)) (fun k x => wk x (gt ws k) T (rdy x ws)) (e := .inl ()) (r := .inr false) (fun k x hk hp => ?_) (fun k x hk hp => ?_) ?_ (by omega)
          · have hk' := (List.getElem?_eq_some_iff.1 hk).1
            obtain rfl := gt_some hk
            have tk := hs.tk k hk'
            unfold disconnect_Valid_L1
            simp only [lt_len hk', if_true, idx_gt hk', Option.bind_some, idx_gt (l := ws) (k := k) (by omega), ready_eq (ws := ws) (nd_in hs hk' (by omega)) (by have := hs.nlen hk'; omega), work_eq (x := gt xs k) (w := gt ws k) (r := rdy (gt xs k) ws) (T := T) (by omega) (by omega) tk.1 tk.2]
            rw [dB_T hp, W_succ (by omega)]
            rfl
          · have hk' := (List.getElem?_eq_some_iff.1 hk).1
            obtain rfl := gt_some hk
            have tk := hs.tk k hk'
            unfold disconnect_Valid_L1
            simp only [lt_len hk', if_true, idx_gt hk', Option.bind_some, idx_gt (l := ws) (k := k) (by omega), ready_eq (ws := ws) (nd_in hs hk' (by omega)) (by have := hs.nlen hk'; omega), work_eq (x := gt xs k) (w := gt ws k) (r := rdy (gt xs k) ws) (T := T) (by omega) (by omega) tk.1 tk.2]
            rw [dB_F hp]
            rfl
          · unfold disconnect_Valid_L1
            simp only [nlt_len, Bool.false_eq_true, if_false]
        rw [e]
        by_cases hv : VP xs T ws
        · rw [dB_T hv, if_pos fun k x hk => by have hk' := (List.getElem?_eq_some_iff.1 hk).1; have e := gt_some hk; rw [← e]; exact hv.wk k hk']
          rfl
        · rw [dB_F hv, if_neg fun h => hv ⟨by omega, by omega, hl, fun i hi => h i (gt xs i) (by rw [gt_get hi]; exact List.getElem?_eq_getElem hi)⟩]
          rfl
      · rw [bneT (by unfold len; omega)]
        simp only [if_true]
        rw [dB_F fun h => hl h.ln]
theorem begin_loop {xs : List Stage} (hs : VS xs) {ms : List Work} (hm : ms.length = xs.length) {T : Int} {step : Int × List Work → Option (Int × List Work ⊕ List Work)} (hstep : step = disconnect_begin_L1 xs ⟨T, ms⟩) : loopO step (0, ms) = some (bgn xs ms T) := by
  have n2 := hs.n2
  subst hstep
  refine wp_eq.1 (wp_upto xs.length (fun k s => s.1 = (k : Int) ∧ s.2.length = xs.length ∧ ∀ i, i < xs.length → gt s.2 i = if i < k then bg1 (gt xs i) (gt ms i) T ms else gt ms i) ⟨rfl, hm, fun i hi => by rw [if_neg (by omega)]⟩ (fun k s hk hv => ?_) (fun s hv => ?_) (by omega))
  · obtain ⟨z, cur⟩ := s
    obtain ⟨rfl, hl, hg⟩ := hv
    simp only at hl hg
    have hcr : rdy (gt xs k) cur ↔ rdy (gt xs k) ms := by
      have e : ∀ j, j < (gt xs k).Needs.length → ((gt cur (gt (gt xs k).Needs j).toNat).State = 2 ↔ (gt ms (gt (gt xs k).Needs j).toNat).State = 2) := fun j hj => by
        have := nd_lt hs hk hj
        rw [hg _ (by omega), if_pos this]
        exact bg1_done _ _ _ _
      exact ⟨fun a j hj => (e j hj).1 (a j hj), fun a j hj => (e j hj).2 (a j hj)⟩
    have hgk := hg k hk
    rw [if_neg (by omega)] at hgk
    unfold disconnect_begin_L1
    simp only [lt_len hk, if_true, idx_gt hk, Option.bind_some, idx_gt (l := cur) (k := k) (by omega), ready_eq (x := gt xs k) (ws := cur) (nd_in hs hk (by omega)) (by have := hs.nlen hk; omega)]
    have hfin : ∀ y : List Work, y.length = xs.length → (∀ i, i < xs.length → gt y i = if i = k then bg1 (gt xs k) (gt ms k) T ms else gt cur i) → ∀ i, i < xs.length → gt y i = if i < k + 1 then bg1 (gt xs i) (gt ms i) T ms else gt ms i := fun y _ hy i hi => by
      rw [hy i hi]
      by_cases he : i = k
      · subst he; rw [if_pos rfl, if_pos (by omega)]
      · rw [if_neg he, hg i hi]
        by_cases h1 : i < k
        · rw [if_pos h1, if_pos (by omega)]
        · rw [if_neg h1, if_neg (by omega)]
    by_cases h0 : (gt cur k).State = 0
    · rw [beqT h0]
      simp only [if_true, Option.bind_some]
      by_cases hr : rdy (gt xs k) cur
      · rw [dB_T hr]
        simp only [if_true, setO_nat (xs := cur) (j := k) (by omega)]
        simp only [Option.bind_some]
        rw [W_succ (by omega)]
        refine wp_some.2 ⟨rfl, by simp [hl], hfin _ (by simp [hl]) fun i hi => ?_⟩
        rw [gt_set (by omega)]
        by_cases he : i = k
        · rw [if_pos he, if_pos he]
          rcases bg1_cases (gt xs k) (gt ms k) T ms with ⟨a, b, c⟩ | ⟨b, c⟩
          · rw [c]
          · exact (b ⟨by rw [← hgk]; exact h0, hcr.1 hr⟩).elim
        · rw [if_neg he, if_neg he]
      · rw [dB_F hr]
        simp only [Bool.false_eq_true, if_false, Option.bind_some]
        rw [W_succ (by omega)]
        refine wp_some.2 ⟨rfl, hl, hfin _ hl fun i hi => ?_⟩
        by_cases he : i = k
        · rw [if_pos he, he, hgk]
          rcases bg1_cases (gt xs k) (gt ms k) T ms with ⟨a, b, c⟩ | ⟨b, c⟩
          · exact (hr (hcr.2 b)).elim
          · rw [c]
        · rw [if_neg he]
    · rw [beqF h0]
      simp only [Bool.false_eq_true, if_false, Option.bind_some]
      rw [W_succ (by omega)]
      refine wp_some.2 ⟨rfl, hl, hfin _ hl fun i hi => ?_⟩
      by_cases he : i = k
      · rw [if_pos he, he, hgk]
        rcases bg1_cases (gt xs k) (gt ms k) T ms with ⟨a, b, c⟩ | ⟨b, c⟩
        · exact (h0 (by rw [hgk]; exact a)).elim
        · rw [c]
      · rw [if_neg he]
  · obtain ⟨z, cur⟩ := s
    obtain ⟨rfl, hl, hg⟩ := hv
    simp only at hl hg
    unfold disconnect_begin_L1
    simp only [nlt_len, Bool.false_eq_true, if_false]
    refine wp_some.2 (ext_gt (by rw [hl, bgn_len]) fun i hi => ?_)
    rw [hg i (by omega), if_pos (by omega), bgn_gt (by omega)]
theorem begin_eq {xs : List Stage} (hs : VS xs) {ms : List Work} (hm : ms.length = xs.length) (T : Int) : disconnect_begin xs ⟨T, ms⟩ = some (bgn xs ms T) := by
  unfold disconnect_begin
  simp only [begin_loop hs hm rfl, Option.bind_some]
theorem new_eq {xs : List Stage} (hs : VS xs) (hc : disconnect_Check xs = some 0) {T : Int} (h0 : 0 ≤ T) (h1 : T ≤ 2147483648) : disconnect_New xs T = some (T, 0, new0 xs T) := by
  have n2 := hs.n2
  unfold disconnect_New
  simp only [hc, Option.bind_some, show ((0 : Int) != 0) = false from rfl, Bool.false_eq_true, if_false, dF (c := T < 0) (by omega), dF (c := T > 2147483648) (by omega)]
  rw [show len xs = (xs.length : Int) from rfl, mkZ_nat (by omega)]
  simp only [Option.bind_some, begin_eq hs (ms := List.replicate xs.length ⟨0, 0, 0⟩) (by simp) T]
  rfl
theorem cont_eq (l : List Int) (a : Int) (hl : l.length ≤ 1000000000) : slices_Contains_int_int l a = some (dB (a ∈ l)) := by
  unfold slices_Contains_int_int slices_Index_int_int
  rw [anyF (step := slices_Index_int_int_L1 l a) l.length (fun j => gt l j = a) (fun k hk hp => ?_) (fun k hk hp => ?_) ?_]
  · rw [dB_congr (show (∃ k, k < l.length ∧ gt l k = a) ↔ a ∈ l from (mem_iff_gt).symm)]
  · unfold slices_Index_int_int_L1
    simp only [nlt_len, Bool.false_eq_true, if_false]
  · unfold slices_Index_int_int_L1
    simp only [lt_len hk, if_true, idx_gt hk, Option.bind_some]
    rw [beqF fun e => hp e.symm, W_succ (by omega)]
    simp
  · unfold slices_Index_int_int_L1
    simp only [lt_len hk, if_true, idx_gt hk, Option.bind_some]
    rw [beqT (show a = gt l k from hp.symm)]
    simp
theorem stuck_eq {T : Int} {ws : List Work} (hl : ws.length ≤ 1000000000) : disconnect_Stuck ⟨T, ws⟩ = some (dB (∃ k, k < ws.length ∧ (gt ws k).State = 3)) := by
  unfold disconnect_Stuck slices_ContainsFunc_Work_Work slices_IndexFunc_Work_Work
  rw [anyF (step := slices_IndexFunc_Work_Work_L1 ws) ws.length (fun j => (gt ws j).State = 3) (fun k hk hp => ?_) (fun k hk hp => ?_) ?_]
  · rfl
  · unfold slices_IndexFunc_Work_Work_L1
    simp only [nlt_len, Bool.false_eq_true, if_false]
  · unfold slices_IndexFunc_Work_Work_L1 disconnect_Stuck_1
    simp only [lt_len hk, if_true, idx_gt hk, Option.bind_some]
    rw [beqF hp, W_succ (by omega)]
    simp
  · unfold slices_IndexFunc_Work_Work_L1 disconnect_Stuck_1
    simp only [lt_len hk, if_true, idx_gt hk, Option.bind_some]
    rw [beqT hp]
    simp
theorem done_eq {T : Int} {ws : List Work} (hl : ws.length ≤ 1000000000) : disconnect_Done ⟨T, ws⟩ = some (dB (0 < ws.length ∧ ∀ k, k < ws.length → (gt ws k).State = 2)) := by
  unfold disconnect_Done
  by_cases h0 : 0 < ws.length
  · rw [dT (c := len ws > 0) (by unfold len; omega)]
    simp only [if_true]
    unfold slices_ContainsFunc_Work_Work_v1 slices_IndexFunc_Work_Work_v1
    rw [anyF (step := slices_IndexFunc_Work_Work_v1_L1 ws) ws.length (fun j => (gt ws j).State ≠ 2) (fun k hk hp => ?_) (fun k hk hp => ?_) ?_]
    · simp only [Option.bind_some]
      by_cases h : ∀ k, k < ws.length → (gt ws k).State = 2
      · rw [dB_T (p := 0 < ws.length ∧ _) ⟨h0, h⟩, dB_F fun ⟨k, hk, hp⟩ => hp (h k hk)]; rfl
      · rw [dB_F (p := 0 < ws.length ∧ _) fun hp => h hp.2, dB_T (Classical.byContradiction fun hn => h fun k hk => Classical.byContradiction fun hp => hn ⟨k, hk, hp⟩)]; rfl
    · unfold slices_IndexFunc_Work_Work_v1_L1
      simp only [nlt_len, Bool.false_eq_true, if_false]
    · unfold slices_IndexFunc_Work_Work_v1_L1 disconnect_Done_1
      simp only [lt_len hk, if_true, idx_gt hk, Option.bind_some]
      rw [bneF (Classical.not_not.1 hp), W_succ (by omega)]
      simp
    · unfold slices_IndexFunc_Work_Work_v1_L1 disconnect_Done_1
      simp only [lt_len hk, if_true, idx_gt hk, Option.bind_some]
      rw [bneT hp]
      simp
  · rw [dF (c := len ws > 0) (by unfold len; omega)]
    simp only [Bool.false_eq_true, if_false, Option.bind_some]
    rw [dB_F fun h => h0 h.1]
theorem max_eq {es : List Int} (h0 : 0 < es.length) (hl : es.length ≤ 1000000000) : Wp (slices_Max_int_int es) (Top es) := by
  unfold slices_Max_int_int
  rw [dF (c := len es < 1) (by unfold len; omega)]
  simp only [Bool.false_eq_true, if_false]
  have e0 : idx es 0 = some (gt es 0) := idx_gt (k := 0) h0
  rw [e0]
  simp only [Option.bind_some]
  have : Wp (loopO (slices_Max_int_int_L1 es) (gt es 0, 1)) (Top es) := by
    refine wp_upto (es.length - 1) (fun k s => s.2 = ((k + 1 : Nat) : Int) ∧ (∀ i, i < k + 1 → gt es i ≤ s.1) ∧ ∃ i, i < k + 1 ∧ gt es i = s.1) ⟨rfl, fun i hi => by rw [show i = 0 by omega]; exact Int.le_refl _, 0, by omega, rfl⟩ (fun k s hk hv => ?_) (fun s hv => ?_) (by omega)
    · obtain ⟨m, z⟩ := s
      obtain ⟨rfl, h1, j, hj, h2⟩ := hv
      simp only at h1 h2
      unfold slices_Max_int_int_L1
      simp only [lt_len (l := es) (k := k + 1) (by omega), if_true, idx_gt (l := es) (k := k + 1) (by omega), Option.bind_some]
      rw [W_succ (by omega), imax_eq]
      refine wp_some.2 ⟨rfl, fun i hi => ?_, ?_⟩
      · by_cases e : i = k + 1
        · subst e; simp only; omega
        · have := h1 i (by omega); simp only; omega
      · by_cases e : m ≤ gt es (k + 1)
        · exact ⟨k + 1, by omega, by simp only; omega⟩
        · exact ⟨j, by omega, by simp only; omega⟩
    · obtain ⟨m, z⟩ := s
      obtain ⟨rfl, h1, j, hj, h2⟩ := hv
      simp only at h1 h2
      unfold slices_Max_int_int_L1
      rw [show es.length - 1 + 1 = es.length by omega] at *
      simp only [nlt_len, Bool.false_eq_true, if_false]
      exact wp_some.2 ⟨h1, j, hj, h2⟩
  exact this.bind fun r hr => wp_some.2 hr
end Rx
end Go.Proofs.Ytnpnaopnhgkapaa
