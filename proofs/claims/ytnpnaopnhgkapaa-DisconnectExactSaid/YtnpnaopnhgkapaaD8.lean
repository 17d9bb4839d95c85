/- What is left, lengths, steps: program and reference agree on all sequences. Plain laws. -/
import Derived.Test.YtnpnaopnhgkapaaD5e
import Derived.Test.YtnpnaopnhgkapaaD7
set_option linter.unusedVariables false
set_option linter.unusedSimpArgs false
namespace Go.Proofs.Ytnpnaopnhgkapaa
open Go Go.RowKit Dp
namespace Rx

theorem ch_hc {xs : List Stage} (hz : NdS xs) (h : CH xs) : disconnect_Check xs = some 0 := by rw [check_eq hz, dB_T h]; rfl
theorem ch_hr {xs : List Stage} (hz : NdS xs) (h : CH xs) : dynposref31_Check xs = some 0 := by rw [refcheck_eq hz, dB_T h]; rfl
theorem no_hc {xs : List Stage} (hz : NdS xs) (h : ¬ CH xs) : disconnect_Check xs = some 67 := by rw [check_eq hz, dB_F h]; rfl
theorem no_hr {xs : List Stage} (hz : NdS xs) (h : ¬ CH xs) : dynposref31_Check xs = some 67 := by rw [refcheck_eq hz, dB_F h]; rfl
theorem ne67 : ((67 : Int) != 0) = true := rfl
theorem ne00 : ((0 : Int) != 0) = false := rfl
theorem valid_all {xs : List Stage} (hz : NdS xs) (T : Int) (ws : List Work) : disconnect_Valid xs ⟨T, ws⟩ = some (dB (CH xs ∧ VP xs T ws)) := by
  by_cases h : CH xs
  · rw [valid_eq h.vs (ch_hc hz h), dB_congr (show VP xs T ws ↔ CH xs ∧ VP xs T ws from ⟨fun x => ⟨h, x⟩, fun x => x.2⟩)]
  · unfold disconnect_Valid
    rw [no_hc hz h, dB_F fun x => h x.1]
    simp only [Option.bind_some, ne67, if_true]
theorem refvalid_all {xs : List Stage} (hz : NdS xs) (T : Int) (ws : List Work) : dynposref31_Valid xs ⟨T, ws⟩ = some (dB (CH xs ∧ VP xs T ws)) := by
  by_cases h : CH xs
  · rw [refvalid_eq h.vs (ch_hr hz h), dB_congr (show VP xs T ws ↔ CH xs ∧ VP xs T ws from ⟨fun x => ⟨h, x⟩, fun x => x.2⟩)]
  · unfold dynposref31_Valid
    rw [no_hr hz h, dB_F fun x => h x.1]
    simp only [Option.bind_some, ne67, if_true]
theorem refstuck_eq {T : Int} {ws : List Work} (hl : ws.length ≤ 1000000000) : dynposref31_Stuck ⟨T, ws⟩ = some (dB (∃ k, k < ws.length ∧ (gt ws k).State = 3)) := by
  unfold dynposref31_Stuck
  have e := loop_anyB (step := dynposref31_Stuck_L1 ⟨T, ws⟩) (fun k => (k : Int)) ws.length (fun k => (gt ws k).State = 3) (r := Sum.inr true) (e := Sum.inl ()) (fun k hk hp => by
    unfold dynposref31_Stuck_L1
    simp only [lt_len hk, if_true, idx_gt hk, Option.bind_some]
    rw [beqF hp, W_succ (by omega)]; simp) (fun k hk hp => by
    unfold dynposref31_Stuck_L1
    simp only [lt_len hk, if_true, idx_gt hk, Option.bind_some]
    rw [beqT hp]; simp) (by
    unfold dynposref31_Stuck_L1
    simp only [nlt_len, Bool.false_eq_true, if_false]) (by omega)
  simp only [show ((0 : Nat) : Int) = 0 from rfl] at e
  rw [e, Option.bind_some]
  cases dB (∃ k, k < ws.length ∧ (gt ws k).State = 3) <;> rfl
theorem refdone_eq {T : Int} {ws : List Work} (hl : ws.length ≤ 1000000000) : dynposref31_Done ⟨T, ws⟩ = some (dB (0 < ws.length ∧ ∀ k, k < ws.length → (gt ws k).State = 2)) := by
  unfold dynposref31_Done
  have e := loop_anyB (step := dynposref31_Done_L1 ⟨T, ws⟩) (fun k => (k : Int)) ws.length (fun k => (gt ws k).State ≠ 2) (r := Sum.inr false) (e := Sum.inl ()) (fun k hk hp => by
    unfold dynposref31_Done_L1
    simp only [lt_len hk, if_true, idx_gt hk, Option.bind_some]
    rw [bneF (Classical.not_not.1 hp), W_succ (by omega)]; simp) (fun k hk hp => by
    unfold dynposref31_Done_L1
    simp only [lt_len hk, if_true, idx_gt hk, Option.bind_some]
    rw [bneT hp]; simp) (by
    unfold dynposref31_Done_L1
    simp only [nlt_len, Bool.false_eq_true, if_false]) (by omega)
  simp only [show ((0 : Nat) : Int) = 0 from rfl] at e
  rw [e, Option.bind_some]
  by_cases h : ∃ k, k < ws.length ∧ (gt ws k).State ≠ 2
  · rw [dB_T h, dB_F fun h' => by
      obtain ⟨k, hk, hp⟩ := h
      exact hp (h'.2 k hk)]
    rfl
  · rw [dB_F h]
    simp only [cond_false, Sum.elim_inl]
    by_cases h0 : 0 < ws.length
    · rw [dT (c := len ws > 0) (by unfold len; omega), dB_T ⟨h0, fun k hk => Classical.byContradiction fun hp => h ⟨k, hk, hp⟩⟩]
    · rw [dF (c := len ws > 0) (by unfold len; omega), dB_F fun h' => h0 h'.1]
/-! ends are one -/
theorem en_uniq {xs : List Stage} {ws : List Work} {T : Int} {es es' : List Int} (nd : ∀ i, i < xs.length → ∀ j, j < (gt xs i).Needs.length → 0 ≤ gt (gt xs i).Needs j ∧ gt (gt xs i).Needs j < (i : Int)) (h : EN xs ws T es) (h' : EN xs ws T es') : es = es' := by
  refine ext_gt (by rw [h.ln, h'.ln]) fun i hi => ?_
  rw [h.ln] at hi
  induction i using Nat.strongRecOn with
  | _ i ih =>
    rw [h.eq i hi, h'.eq i hi]
    unfold ef
    rw [mx_congr fun j hj => by
      have := nd i hi j hj
      exact ih _ (by omega) (by omega)]
theorem top_uniq {es : List Int} {L L' : Int} (h : Top es L) (h' : Top es L') : L = L' := by
  obtain ⟨a, i, hi, rfl⟩ := h
  obtain ⟨b, j, hj, rfl⟩ := h'
  have := a j hj
  have := b i hi
  omega
/-- the ends' inner loop -/
theorem inner_eq {needs cur : List Int} {k : Nat} (hk : k < cur.length) (hc : gt cur k = 0) (nd : ∀ j, j < needs.length → 0 ≤ gt needs j ∧ gt needs j < (k : Int)) (hl : needs.length ≤ 1000000) {step : Int × List Int → Option (Int × List Int ⊕ List Int)}
    (h1 : ∀ j b, j < needs.length → step ((j : Int), cur.set k b) = some (.inl (((j + 1 : Nat) : Int), cur.set k (max b (gt cur (gt needs j).toNat))))) (h2 : ∀ c, step ((needs.length : Int), c) = some (.inr c)) : loopO step (0, cur) = some (cur.set k (mx needs cur)) := by
  have := loop_fold (step := step) needs (fun (b : Int) j => ((j : Int), cur.set k b)) (fun m a => max m (gt cur a.toNat)) (fun b => cur.set k b) 0 (fun _ _ => True) trivial (fun j b x hx _ => by
    have hj := (List.getElem?_eq_some_iff.1 hx).1
    obtain rfl := gt_some hx
    exact ⟨h1 j b hj, trivial⟩) (fun b _ => h2 _) (by omega)
  have e0 : cur.set k 0 = cur := ext_gt (by simp) fun i hi => by
    rw [gt_set (by omega)]
    by_cases he : i = k
    · rw [if_pos he, he, hc]
    · rw [if_neg he]
  have e1 := this.1
  simp only [e0] at e1
  exact e1
theorem refinner {needs cur : List Int} {k : Nat} (hk : k < cur.length) (nd : ∀ j, j < needs.length → 0 ≤ gt needs j ∧ gt needs j < (k : Int)) (hl : needs.length ≤ 1000000) {j : Nat} (b : Int) (hj : j < needs.length) :
    (Option.bind (idx needs (j : Int)) fun x9 => Option.bind (idx (cur.set k b) (k : Int)) fun x10 => Option.bind (idx (cur.set k b) x9) fun x11 => Option.bind (idx (cur.set k b) (k : Int)) fun x12 => Option.bind (idx (cur.set k b) (k : Int)) fun x13 => Option.bind (setO (cur.set k b) (k : Int) (imax x10 x11)) fun x14 => (some (.inl (W ((j : Int) + 1), x14)) : Option (Int × List Int ⊕ List Int))) = some (.inl (((j + 1 : Nat) : Int), cur.set k (max b (gt cur (gt needs j).toNat)))) := by
  have nj := nd j hj
  simp only [idx_gt hj, Option.bind_some]
  rw [idx_gt (l := cur.set k b) (k := k) (by simp; omega), idx_gtZ (l := cur.set k b) nj.1 (by simp; omega)]
  simp only [Option.bind_some]
  rw [setO_nat (j := k) (by simp; omega), gt_set (by omega), if_pos rfl, gt_set (by omega), if_neg (by omega), W_succ (by omega), imax_eq]
  simp only [Option.bind_some, List.set_set]
/-- the greatest so far -/
structure MX (es : List Int) (k : Nat) (m : Int) : Prop where
  nn : 0 ≤ m
  le : ∀ i, i < k → gt es i ≤ m
  at_ : m = 0 ∨ ∃ i, i < k ∧ gt es i = m
theorem MX.step {es : List Int} {k : Nat} {m y : Int} (h : MX es k m) (hk : k < es.length) : MX (es.set k y) (k + 1) (imax m y) := by
  rw [imax_eq]
  have g : ∀ i, gt (es.set k y) i = if i = k then y else gt es i := fun i => gt_set hk
  refine ⟨by have := h.nn; omega, fun i hi => ?_, ?_⟩
  · rw [g]
    by_cases he : i = k
    · rw [if_pos he]; omega
    · rw [if_neg he]; have := h.le i (by omega); omega
  · by_cases hy : m ≤ y
    · exact .inr ⟨k, by omega, by rw [g, if_pos rfl]; omega⟩
    · rcases h.at_ with h0 | ⟨i, hi, e⟩
      · exact .inl (by omega)
      · exact .inr ⟨i, by omega, by rw [g, if_neg (by omega)]; omega⟩
theorem MX.top {es : List Int} {m : Int} (h : MX es es.length m) (h0 : 0 < es.length) (hn : ∀ i, i < es.length → 0 ≤ gt es i) : Top es m := by
  refine ⟨h.le, ?_⟩
  rcases h.at_ with e | h
  · have a := h.le 0 h0
    have b := hn 0 h0
    exact ⟨0, h0, by omega⟩
  · exact h
theorem refleft_loop {xs : List Stage} {ws : List Work} {T : Int} (h : EH xs ws T) : Wp (loopO (dynposref31_Left_L1 xs ⟨T, ws⟩) (0, 0, List.replicate xs.length 0)) fun r => EN xs ws T r.2 ∧ MX r.2 xs.length r.1 := by
  have n2 := h.n2
  have hln := h.ln
  have t0 := h.t0
  have t1 := h.t1
  refine wp_upto xs.length (fun k s => s.2.1 = (k : Int) ∧ s.2.2.length = xs.length ∧ (∀ i, i < xs.length → i < k → gt s.2.2 i = ef (gt xs i) (gt ws i) T s.2.2 ∧ -10000000000 ≤ gt s.2.2 i ∧ gt s.2.2 i ≤ 10000000000 * ((i : Int) + 1)) ∧ (∀ i, i < xs.length → k ≤ i → gt s.2.2 i = 0) ∧ MX s.2.2 k s.1) ⟨rfl, by simp, fun i hi h => by omega, fun i hi _ => gt_replicate hi, ⟨by simp, fun i hi => by omega, .inl rfl⟩⟩ (fun k s hk hv => ?_) (fun s hv => ?_) (by omega)
  · obtain ⟨mo, z, cur⟩ := s
    obtain ⟨rfl, hl, hg, hz, hm⟩ := hv
    simp only at hl hg hz hm
    have tk := h.tk k hk
    have nl := h.nl k hk
    have hfin : ∀ y : Int, y = ef (gt xs k) (gt ws k) T cur → -10000000000 ≤ y → y ≤ 10000000000 * ((k : Int) + 1) → ∀ new : List Int, new = cur.set k y → Wp (Option.bind (idx new (k : Int)) fun x25 => (some (.inl (imax mo x25, W ((k : Int) + 1), new)) : Option (Int × Int × List Int ⊕ Int × List Int))) fun x => match x with | .inl s' => s'.2.1 = ((k + 1 : Nat) : Int) ∧ s'.2.2.length = xs.length ∧ (∀ i, i < xs.length → i < k + 1 → gt s'.2.2 i = ef (gt xs i) (gt ws i) T s'.2.2 ∧ -10000000000 ≤ gt s'.2.2 i ∧ gt s'.2.2 i ≤ 10000000000 * ((i : Int) + 1)) ∧ (∀ i, i < xs.length → k + 1 ≤ i → gt s'.2.2 i = 0) ∧ MX s'.2.2 (k + 1) s'.1 | .inr r => EN xs ws T r.2 ∧ MX r.2 xs.length r.1 := fun y hy y1 y2 new hnew => by
      subst hnew
      have hcg : ∀ i, i < xs.length → i ≤ k → ef (gt xs i) (gt ws i) T (cur.set k y) = ef (gt xs i) (gt ws i) T cur := fun i hi hik => by
        unfold ef
        rw [mx_congr (es := cur.set k y) (es' := cur) fun j hj => by
          have := h.nd i hi j hj
          rw [gt_set (by omega), if_neg (by omega)]]
      rw [idx_gt (l := cur.set k y) (k := k) (by simp; omega), gt_set (by omega), if_pos rfl]
      refine wp_some.2 ⟨W_succ (by omega), by simp [hl], fun i hi hik => ?_, fun i hi hik => ?_, hm.step (by omega)⟩
      · simp only
        rw [hcg i hi (by omega), gt_set (by omega)]
        by_cases he : i = k
        · subst he; rw [if_pos rfl]; exact ⟨hy, y1, y2⟩
        · rw [if_neg he]; exact hg i hi (by omega)
      · simp only
        rw [gt_set (by omega), if_neg (by omega)]
        exact hz i hi (by omega)
    unfold dynposref31_Left_L1
    simp only [lt_len (l := ws) (k := k) (by omega), if_true, idx_gt hk, Option.bind_some, idx_gt (l := ws) (k := k) (by omega), idx_gt (l := cur) (k := k) (by omega), setO_nat (xs := cur) (j := k) (by omega)]
    by_cases h1 : (gt ws k).State = 1
    · have sn := h.sn k hk h1
      rw [beqT h1]
      simp only [if_true, Option.bind_some]
      rw [W_sm (x := (gt ws k).Since + (gt xs k).Ticks) (by omega) (by omega), W_sm (x := (gt ws k).Since + (gt xs k).Ticks - T) (by omega) (by omega)]
      exact (hfin _ (ef1 h1).symm (by omega) (by omega) _ rfl).mono fun x hx => by cases x <;> exact hx
    · rw [beqF h1]
      simp only [Bool.false_eq_true, if_false]
      by_cases h0 : (gt ws k).State = 0
      · rw [beqT h0]
        simp only [if_true, Option.bind_some]
        have inner : loopO (dynposref31_Left_L2 (mo, (k : Int), cur) (gt xs k)) (0, cur) = some (cur.set k (mx (gt xs k).Needs cur)) := by
          refine inner_eq (by omega) (hz k hk (by omega)) (h.nd k hk) (by omega) (fun j b hj => ?_) fun c => ?_
          · unfold dynposref31_Left_L2
            simp only [lt_len hj, if_true]
            exact refinner (by omega) (h.nd k hk) (by omega) b hj
          · unfold dynposref31_Left_L2
            simp only [nlt_len, Bool.false_eq_true, if_false]
        simp only [inner, Option.bind_some]
        rw [idx_gt (l := cur.set k _) (k := k) (by simp; omega)]
        simp only [Option.bind_some]
        rw [setO_nat (j := k) (by simp; omega), gt_set (by omega), if_pos rfl]
        simp only [Option.bind_some, List.set_set]
        have m0 := mx_nn (gt xs k).Needs cur
        have m1 : mx (gt xs k).Needs cur ≤ 10000000000 * (k : Int) := by
          rcases mx_at (gt xs k).Needs cur with e | ⟨j, hj, e⟩
          · omega
          · have nd := h.nd k hk j hj
            have := (hg (gt (gt xs k).Needs j).toNat (by omega) (by omega)).2.2
            rw [e]
            omega
        rw [W_sm (x := mx (gt xs k).Needs cur + (gt xs k).Ticks) (by omega) (by omega)]
        exact (hfin _ (ef0 h0).symm (by omega) (by omega) _ rfl).mono fun x hx => by cases x <;> exact hx
      · rw [beqF h0]
        simp only [Bool.false_eq_true, if_false, Option.bind_some]
        refine (hfin 0 (ef2 h0 h1).symm (by omega) (by omega) _ ?_).mono fun x hx => by cases x <;> exact hx
        refine ext_gt (by simp) fun i hi => ?_
        rw [gt_set (by omega)]
        by_cases he : i = k
        · rw [if_pos he, he, hz k hk (by omega)]
        · rw [if_neg he]
  · obtain ⟨mo, z, cur⟩ := s
    obtain ⟨rfl, hl, hg, hz, hm⟩ := hv
    simp only at hl hg hz hm
    unfold dynposref31_Left_L1
    simp only [dF (c := (xs.length : Int) < len ws) (by unfold len; omega), Bool.false_eq_true, if_false]
    exact wp_some.2 ⟨⟨hl, fun i hi => (hg i hi hi).1⟩, hm⟩
theorem left_all {xs : List Stage} (hz : NdS xs) {T : Int} {ws : List Work} (hw : ws.length ≤ 1000000) : ∃ r, disconnect_Left xs ⟨T, ws⟩ = some r ∧ dynposref31_Left xs ⟨T, ws⟩ = some r := by
  by_cases hv : CH xs ∧ VP xs T ws
  case neg =>
    refine ⟨(0, false), ?_, ?_⟩
    · unfold disconnect_Left
      rw [valid_all hz, dB_F hv]
      simp only [Option.bind_some, Bool.not_false, if_true]
    · unfold dynposref31_Left
      rw [refvalid_all hz, dB_F hv]
      simp only [Option.bind_some, Bool.not_false, if_true]
  have hs := hv.1.vs
  have hc := ch_hc hz hv.1
  have hln := hv.2.ln
  by_cases hst : Stk xs ws
  · refine ⟨(0, false), left_stuck hs hc hv.2 hst, ?_⟩
    unfold dynposref31_Left
    rw [refvalid_all hz, dB_T hv, refstuck_eq (by omega), dB_T (by rw [hln]; exact hst)]
    simp only [Option.bind_some, Bool.not_true, Bool.false_eq_true, if_false, if_true]
  · obtain ⟨⟨L, b⟩, e, rfl, es, he, ht⟩ := left_ok hs hc hv.2 hst
    refine ⟨_, e, ?_⟩
    obtain ⟨⟨m, es'⟩, e', he', hm⟩ := refleft_loop (EH.of hs hv.2)
    obtain rfl := en_uniq hs.nd he he'
    have hel := he.ln
    have n1 := hs.n1
    have n2 := hs.n2
    simp only at hm ht
    have ht' := MX.top (m := m) (by rw [hel]; exact hm) (by omega) fun i hi => (en_pos hs hv.2 he (fun i hi e => hst ⟨i, hi, e⟩) (i := i) (by omega)).1
    obtain rfl := top_uniq ht ht'
    unfold dynposref31_Left
    rw [refvalid_all hz, dB_T hv, refstuck_eq (by omega), dB_F (by rw [hln]; exact hst)]
    simp only [Option.bind_some, Bool.not_true, Bool.false_eq_true, if_false]
    rw [show len ws = ((xs.length : Nat) : Int) by unfold len; omega, mkZ_nat (by omega)]
    simp only [Option.bind_some, e']
theorem new_all {xs : List Stage} (hz : NdS xs) (T : Int) : ∃ r, disconnect_New xs T = some r ∧ dynposref31_New xs T = some r ∧ r.2.2.length ≤ 1000000 := by
  by_cases h : CH xs
  case neg =>
    refine ⟨(0, 67, []), ?_, ?_, by simp⟩
    · unfold disconnect_New
      rw [no_hc hz h]
      simp only [Option.bind_some, ne67, if_true]
    · unfold dynposref31_New
      rw [no_hr hz h]
      simp only [Option.bind_some, ne67, if_true]
  by_cases ht : 0 ≤ T ∧ T ≤ 2147483648
  · exact ⟨_, new_eq h.vs (ch_hc hz h) ht.1 ht.2, refnew_eq h.vs (ch_hr hz h) ht.1 ht.2, by have := (VP_new h.vs ht.1 ht.2).ln; have := h.n2; simp only; omega⟩
  · refine ⟨(0, 1, []), ?_, ?_, by simp⟩
    · unfold disconnect_New
      rw [ch_hc hz h]
      simp only [Option.bind_some, ne00, Bool.false_eq_true, if_false]
      by_cases t0 : T < 0
      · rw [dT t0]
        simp only [if_true, Option.bind_some]
      · rw [dF t0, dT (c := T > 2147483648) (by omega)]
        simp only [Bool.false_eq_true, if_false, if_true, Option.bind_some]
    · unfold dynposref31_New
      rw [ch_hr hz h]
      simp only [Option.bind_some, ne00, Bool.false_eq_true, if_false, refin_eq]
      rw [dF ht]
      simp only [Bool.not_false, if_true]
theorem length_all {xs : List Stage} (hz : NdS xs) : ∃ L, disconnect_Length xs = some L ∧ dynposref31_Length xs = some L ∧ (CH xs → ∃ es, EN xs (new0 xs 0) 0 es ∧ Top es L) := by
  by_cases h : CH xs
  case neg =>
    refine ⟨0, ?_, ?_, fun hh => (h hh).elim⟩
    · unfold disconnect_Length disconnect_New
      rw [no_hc hz h]
      simp only [Option.bind_some, ne67, if_true]
    · unfold dynposref31_Length dynposref31_New
      rw [no_hr hz h]
      simp only [Option.bind_some, ne67, if_true]
  have hs := h.vs
  have n1 := hs.n1
  have n2 := hs.n2
  have hc := ch_hc hz h
  obtain ⟨L, e, es, he, ht⟩ := length_eq hs hc
  have hv := VP_new hs (T := 0) (by omega) (by omega)
  refine ⟨L, e, ?_, fun _ => ⟨es, he, ht⟩⟩
  unfold dynposref31_Length
  simp only [refnew_eq hs (ch_hr hz h) (T := 0) (by omega) (by omega), Option.bind_some, ne00, Bool.false_eq_true, if_false]
  have hln := hv.ln
  obtain ⟨r, e1, e2⟩ := left_all hz (T := 0) (ws := new0 xs 0) (by omega)
  have hst : ¬ Stk xs (new0 xs 0) := fun ⟨k, hk, e⟩ => by
    rcases new0_gt (T := 0) hk with ⟨_, c⟩ | ⟨_, c⟩ <;> rw [c] at e <;> simp at e
  obtain ⟨r', e3, h3, es', he', ht'⟩ := left_ok hs hc hv hst
  rw [e1] at e3
  cases e3
  obtain rfl := en_uniq hs.nd he he'
  rw [e2]
  simp only [Option.bind_some]
  rw [top_uniq ht ht']
theorem longest_all {xs : List Stage} (hz : NdS xs) : ∃ L, disconnect_Longest xs = some L ∧ dynposref31_Longest xs = some L := by
  by_cases h : CH xs
  case neg =>
    refine ⟨0, ?_, ?_⟩
    · unfold disconnect_Longest disconnect_New
      rw [no_hc hz h]
      simp only [Option.bind_some, ne67, if_true]
    · unfold dynposref31_Longest
      rw [no_hr hz h]
      simp only [Option.bind_some, ne67, if_true]
  have hs := h.vs
  have n1 := hs.n1
  have n2 := hs.n2
  obtain ⟨L, e, es, he, ht⟩ := longest_eq hs (ch_hc hz h)
  refine ⟨L, e, ?_⟩
  have hb : ∀ i, i < xs.length → 0 ≤ (gt xs i).Ticks * (gt xs i).Tries ∧ (gt xs i).Ticks * (gt xs i).Tries ≤ 2000 := fun i hi => by
    have tk := hs.tk i hi
    have tr := hs.tr i hi
    have a : 0 ≤ (gt xs i).Ticks * (gt xs i).Tries := Int.mul_nonneg (by omega) (by omega)
    have b : (gt xs i).Ticks * (gt xs i).Tries ≤ 600 * 3 := Int.mul_le_mul (by omega) (by omega) (by omega) (by omega)
    omega
  have hloop : Wp (loopO (dynposref31_Longest_L1 xs) (0, 0, List.replicate xs.length 0)) fun r => (r.2.length = xs.length ∧ ∀ i, i < xs.length → gt r.2 i = mx (gt xs i).Needs r.2 + (gt xs i).Ticks * (gt xs i).Tries ∧ 0 ≤ gt r.2 i) ∧ MX r.2 xs.length r.1 := by
    refine wp_upto xs.length (fun k s => s.2.1 = (k : Int) ∧ s.2.2.length = xs.length ∧ (∀ i, i < xs.length → i < k → gt s.2.2 i = mx (gt xs i).Needs s.2.2 + (gt xs i).Ticks * (gt xs i).Tries ∧ 0 ≤ gt s.2.2 i ∧ gt s.2.2 i ≤ 10000000000 * ((i : Int) + 1)) ∧ (∀ i, i < xs.length → k ≤ i → gt s.2.2 i = 0) ∧ MX s.2.2 k s.1) ⟨rfl, by simp, fun i hi h => by omega, fun i hi _ => gt_replicate hi, ⟨by simp, fun i hi => by omega, .inl rfl⟩⟩ (fun k s hk hv => ?_) (fun s hv => ?_) (by omega)
    · obtain ⟨mo, z, cur⟩ := s
      obtain ⟨rfl, hl, hg, hz', hm⟩ := hv
      simp only at hl hg hz' hm
      have nl := hs.nlen hk
      have b := hb k hk
      have inner : loopO (dynposref31_Longest_L2 (mo, (k : Int), cur) (gt xs k)) (0, cur) = some (cur.set k (mx (gt xs k).Needs cur)) := by
        refine inner_eq (by omega) (hz' k hk (by omega)) (hs.nd k hk) (by omega) (fun j b hj => ?_) fun c => ?_
        · unfold dynposref31_Longest_L2
          simp only [lt_len hj, if_true]
          exact refinner (by omega) (hs.nd k hk) (by omega) b hj
        · unfold dynposref31_Longest_L2
          simp only [nlt_len, Bool.false_eq_true, if_false]
      have m0 := mx_nn (gt xs k).Needs cur
      have m1 : mx (gt xs k).Needs cur ≤ 10000000000 * (k : Int) := by
        rcases mx_at (gt xs k).Needs cur with e | ⟨j, hj, e⟩
        · omega
        · have nd := hs.nd k hk j hj
          have := (hg (gt (gt xs k).Needs j).toNat (by omega) (by omega)).2.2
          rw [e]
          omega
      unfold dynposref31_Longest_L1
      simp only [lt_len hk, if_true, idx_gt hk, Option.bind_some, inner]
      rw [idx_gt (l := cur.set k _) (k := k) (by simp; omega)]
      simp only [Option.bind_some]
      rw [setO_nat (j := k) (by simp; omega), gt_set (by omega), if_pos rfl]
      simp only [Option.bind_some, List.set_set]
      rw [W_sm (x := (gt xs k).Ticks * (gt xs k).Tries) (by omega) (by omega), W_sm (x := mx (gt xs k).Needs cur + (gt xs k).Ticks * (gt xs k).Tries) (by omega) (by omega)]
      generalize hy : mx (gt xs k).Needs cur + (gt xs k).Ticks * (gt xs k).Tries = y
      have hcg : ∀ i, i < xs.length → i ≤ k → mx (gt xs i).Needs (cur.set k y) = mx (gt xs i).Needs cur := fun i hi hik => by
        exact mx_congr (es := cur.set k y) (es' := cur) fun j hj => by
          have := hs.nd i hi j hj
          rw [gt_set (by omega), if_neg (by omega)]
      rw [idx_gt (l := cur.set k y) (k := k) (by simp; omega), gt_set (by omega), if_pos rfl]
      simp only [Option.bind_some]
      refine wp_some.2 ⟨W_succ (by omega), by simp [hl], fun i hi hik => ?_, fun i hi hik => ?_, hm.step (by omega)⟩
      · simp only
        rw [hcg i hi (by omega), gt_set (by omega)]
        by_cases he : i = k
        · subst he; rw [if_pos rfl]; omega
        · rw [if_neg he]; exact hg i hi (by omega)
      · simp only
        rw [gt_set (by omega), if_neg (by omega)]
        exact hz' i hi (by omega)
    · obtain ⟨mo, z, cur⟩ := s
      obtain ⟨rfl, hl, hg, hz', hm⟩ := hv
      simp only at hl hg hz' hm
      unfold dynposref31_Longest_L1
      simp only [nlt_len, Bool.false_eq_true, if_false]
      exact wp_some.2 ⟨⟨hl, fun i hi => ⟨(hg i hi hi).1, (hg i hi hi).2.1⟩⟩, hm⟩
  obtain ⟨⟨m, es'⟩, e', ⟨hl', hg'⟩, hm⟩ := hloop
  simp only at hl' hg' hm
  have he' : EN (lng xs) (new0 xs 0) 0 es' := by
    refine ⟨by rw [hl', lng_len], fun i hi => ?_⟩
    rw [lng_len] at hi
    rw [(hg' i hi).1, lng_gt hi]
    rcases new0_gt (T := 0) hi with ⟨a, b⟩ | ⟨a, b⟩ <;> rw [b]
    · rw [ef1 rfl, a]
      simp [mx, lngS]
    · rw [ef0 rfl]
      simp [lngS]
  have : es = es' := en_uniq (fun i hi j hj => by
    rw [lng_len] at hi
    rw [lng_gt hi] at hj ⊢
    exact hs.nd i hi j hj) he he'
  subst this
  have ht' := MX.top (m := m) (by rw [hl']; exact hm) (by omega) fun i hi => (hg' i (by omega)).2
  obtain rfl := top_uniq ht ht'
  unfold dynposref31_Longest
  rw [ch_hr hz h, show len xs = ((xs.length : Nat) : Int) from rfl, mkZ_nat (by omega)]
  simp only [Option.bind_some, ne00, Bool.false_eq_true, if_false, e']
/-! steps -/
theorem step_all {xs : List Stage} (hz : NdS xs) {T : Int} {ws : List Work} {fails : List Int} (hl : fails.length ≤ 1000000) : ∃ r, disconnect_Step xs ⟨T, ws⟩ fails = some r ∧ dynposref31_Step xs ⟨T, ws⟩ fails = some r ∧ r.2.2.length ≤ 1000000 := by
  by_cases h : CH xs
  case neg =>
    refine ⟨(0, 67, []), ?_, ?_, by simp⟩
    · unfold disconnect_Step disconnect_check
      rw [no_hc hz h]
      simp only [Option.bind_some, ne67, if_true]
    · unfold dynposref31_Step
      rw [no_hr hz h]
      simp only [Option.bind_some, ne67, if_true]
  have hc := ch_hc hz h
  have hr := ch_hr hz h
  by_cases hv : VP xs T ws
  case neg =>
    refine ⟨(0, 67, []), ?_, ?_, by simp⟩
    · unfold disconnect_Step disconnect_check
      rw [hc, valid_all hz, dB_F fun x => hv x.2]
      simp only [Option.bind_some, ne00, Bool.false_eq_true, if_false, Bool.not_false, if_true, ne67]
    · unfold dynposref31_Step
      rw [hr, refvalid_all hz, dB_F fun x => hv x.2]
      simp only [Option.bind_some, ne00, Bool.false_eq_true, if_false, Bool.not_false, if_true]
  have n1 := h.n1
  have n2 := h.n2
  have hcf : slices_ContainsFunc_int_int_v1 fails ⟨xs⟩ = some (dB (∃ k, k < fails.length ∧ (gt fails k < 0 ∨ (xs.length : Int) ≤ gt fails k))) := by
    unfold slices_ContainsFunc_int_int_v1 slices_IndexFunc_int_int_v1
    refine anyF (step := slices_IndexFunc_int_int_v1_L1 fails ⟨xs⟩) fails.length _ (fun k hk hp => ?_) (fun k hk hp => ?_) ?_
    · unfold slices_IndexFunc_int_int_v1_L1 disconnect_check_1
      simp only [lt_len hk, if_true, idx_gt hk, Option.bind_some]
      rw [dF (c := gt fails k < 0) (by omega), dF (c := gt fails k ≥ len xs) (by unfold len; omega), W_succ (by omega)]
      simp
    · unfold slices_IndexFunc_int_int_v1_L1 disconnect_check_1
      simp only [lt_len hk, if_true, idx_gt hk, Option.bind_some]
      by_cases g : gt fails k < 0
      · rw [dT g]; simp
      · rw [dF g, dT (c := gt fails k ≥ len xs) (by unfold len; omega)]; simp
    · unfold slices_IndexFunc_int_int_v1_L1
      simp only [nlt_len, Bool.false_eq_true, if_false]
  by_cases hf : ∃ k, k < fails.length ∧ (gt fails k < 0 ∨ (xs.length : Int) ≤ gt fails k)
  · refine ⟨(0, 1, []), ?_, ?_, by simp⟩
    · unfold disconnect_Step disconnect_check
      rw [hc, valid_all hz, dB_T ⟨h, hv⟩, hcf, dB_T hf]
      simp only [Option.bind_some, ne00, Bool.false_eq_true, if_false, Bool.not_true, if_true]
      rfl
    · unfold dynposref31_Step
      rw [hr, refvalid_all hz, dB_T ⟨h, hv⟩]
      simp only [Option.bind_some, ne00, Bool.false_eq_true, if_false, Bool.not_true]
      have e := loop_anyB (step := dynposref31_Step_L1 xs fails) (fun k => ((k : Int), (0 : Int))) fails.length (fun k => gt fails k < 0 ∨ (xs.length : Int) ≤ gt fails k) (r := Sum.inr (0, 1, [])) (e := Sum.inl 0) (fun k hk hp => by
        unfold dynposref31_Step_L1
        rw [show len xs = (xs.length : Int) from rfl, W_sm (x := (xs.length : Int) - 1) (by omega) (by omega)]
        simp only [lt_len hk, if_true, idx_gt hk, Option.bind_some, refin_eq, dT (c := 0 ≤ gt fails k ∧ gt fails k ≤ (xs.length : Int) - 1) (by omega), Bool.not_true, Bool.false_eq_true, if_false]
        rw [W_succ (by omega)]) (fun k hk hp => by
        unfold dynposref31_Step_L1
        rw [show len xs = (xs.length : Int) from rfl, W_sm (x := (xs.length : Int) - 1) (by omega) (by omega)]
        simp only [lt_len hk, if_true, idx_gt hk, Option.bind_some, refin_eq, dF (c := 0 ≤ gt fails k ∧ gt fails k ≤ (xs.length : Int) - 1) (by omega), Bool.not_false]) (by
        unfold dynposref31_Step_L1
        simp only [nlt_len, Bool.false_eq_true, if_false]) (by omega)
      simp only [show ((0 : Nat) : Int) = 0 from rfl] at e
      rw [e, dB_T hf]
      rfl
  have hf' : ∀ x ∈ fails, 0 ≤ x ∧ x < (xs.length : Int) := fun x hx => by
    obtain ⟨k, hk, rfl⟩ := mem_gt hx
    exact Classical.byContradiction fun hn => hf ⟨k, hk, by omega⟩
  by_cases ht : T < 2147483648
  · exact ⟨_, step_eq h.vs hc hv ht hf' hl, refstep_eq h.vs hr hv ht hf' hl, by simp only [nxt_len]; omega⟩
  · have hT : T = 2147483648 := by have := hv.t1; omega
    refine ⟨(0, 16, []), ?_, ?_, by simp⟩
    · unfold disconnect_Step disconnect_check
      rw [hc, valid_all hz, dB_T ⟨h, hv⟩, hcf, dB_F hf]
      simp only [Option.bind_some, ne00, Bool.false_eq_true, if_false, Bool.not_true]
      rw [beqT hT]
      rfl
    · unfold dynposref31_Step
      rw [hr, refvalid_all hz, dB_T ⟨h, hv⟩]
      simp only [Option.bind_some, ne00, Bool.false_eq_true, if_false, Bool.not_true]
      have e : loopO (dynposref31_Step_L1 xs fails) (0, 0) = some (.inl 0) := by
        refine loop_run (r := Sum.inl 0) (fun k => ((k : Int), 0)) fails.length (fun k hk => ?_) ?_ (by omega)
        · have a := hf' _ (gt_mem hk)
          unfold dynposref31_Step_L1
          rw [show len xs = (xs.length : Int) from rfl, W_sm (x := (xs.length : Int) - 1) (by omega) (by omega)]
          simp only [lt_len hk, if_true, idx_gt hk, Option.bind_some, refin_eq, dT (c := 0 ≤ gt fails k ∧ gt fails k ≤ (xs.length : Int) - 1) (by omega), Bool.not_true, Bool.false_eq_true, if_false]
          rw [W_succ (by omega)]
        · unfold dynposref31_Step_L1
          simp only [nlt_len, Bool.false_eq_true, if_false]
      rw [e]
      simp only [Option.bind_some, Sum.elim_inl]
      rw [beqT hT]
      rfl
end Rx
end Go.Proofs.Ytnpnaopnhgkapaa
