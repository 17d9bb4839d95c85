/- Steps, ends, lengths; drawn sequences. Plain laws. -/
import Derived.Test.YtnpnaopnhgkapaaD3
set_option linter.unusedVariables false
set_option linter.unusedSimpArgs false
namespace Go.Proofs.Ytnpnaopnhgkapaa
open Go Go.RowKit Dp
namespace Rx

/-- which stages fail -/
noncomputable def inF (fails : List Int) : Nat → Bool := fun i => dB ((i : Int) ∈ fails)
theorem app_nl {α : Type} {ys : List α} (h : ys.length ≤ 1000000) : app [] ys = some ys := by rw [app_sm (by simp; omega)]; rfl
theorem check_ok {xs : List Stage} (hs : VS xs) (hc : disconnect_Check xs = some 0) {T : Int} {ws : List Work} (hv : VP xs T ws) (ht : T < 2147483648) {fails : List Int} (hf : ∀ x ∈ fails, 0 ≤ x ∧ x < (xs.length : Int)) (hl : fails.length ≤ 1000000) : disconnect_check xs ⟨T, ws⟩ fails = some 0 := by
  unfold disconnect_check
  simp only [hc, Option.bind_some, show ((0 : Int) != 0) = false from rfl, Bool.false_eq_true, if_false, valid_eq hs hc, dB_T hv, Bool.not_true]
  unfold slices_ContainsFunc_int_int_v1 slices_IndexFunc_int_int_v1
  rw [anyF (step := slices_IndexFunc_int_int_v1_L1 fails ⟨xs⟩) fails.length (fun j => False) (fun k hk hp => ?_) (fun k hk hp => hp.elim) ?_]
  · rw [dB_F fun ⟨k, _, h⟩ => h]
    simp only [Option.bind_some, Bool.false_eq_true, if_false]
    rw [beqF (by omega)]
    simp
  · unfold slices_IndexFunc_int_int_v1_L1
    simp only [nlt_len, Bool.false_eq_true, if_false]
  · have a := hf _ (gt_mem hk)
    unfold slices_IndexFunc_int_int_v1_L1 disconnect_check_1
    simp only [lt_len hk, if_true, idx_gt hk, Option.bind_some, dF (c := gt fails k < 0) (by omega), Bool.false_eq_true, if_false, dF (c := gt fails k ≥ len xs) (by unfold len; omega)]
    rw [W_succ (by omega)]
theorem step_loop {xs : List Stage} (hs : VS xs) {T : Int} {ws : List Work} (hv : VP xs T ws) (ht : T < 2147483648) {fails : List Int} (hl : fails.length ≤ 1000000) {step : Int × List Work → Option (Int × List Work ⊕ List Work)} (hstep : step = disconnect_Step_L1 xs ⟨T, ws⟩ fails) : loopO step (0, ws) = some (mid xs ws T (inF fails)) := by
  have n2 := hs.n2
  have t0 := hv.t0
  have hln := hv.ln
  subst hstep
  refine wp_eq.1 (wp_upto xs.length (fun k s => s.1 = (k : Int) ∧ s.2.length = xs.length ∧ ∀ i, i < xs.length → gt s.2 i = if i < k then st1 (gt xs i) (gt ws i) T (inF fails i) else gt ws i) ⟨rfl, hln, fun i hi => by rw [if_neg (by omega)]⟩ (fun k s hk hv' => ?_) (fun s hv' => ?_) (by omega))
  · obtain ⟨z, cur⟩ := s
    obtain ⟨rfl, hl', hg⟩ := hv'
    simp only at hl' hg
    have hgk := hg k hk
    rw [if_neg (by omega)] at hgk
    have hw := hv.wk k hk
    have tk := hs.tk k hk
    have tr := hs.tr k hk
    have hset : ∀ y : List Work, setO cur (k : Int) = fun w => some (cur.set k w) := fun _ => by funext w; rw [setO_nat (xs := cur) (j := k) (by omega)]
    have hfin : ∀ y : Work, y = st1 (gt xs k) (gt ws k) T (inF fails k) → W ((k : Int) + 1) = ((k + 1 : Nat) : Int) ∧ (cur.set k y).length = xs.length ∧ ∀ i, i < xs.length → gt (cur.set k y) i = (if i < k + 1 then st1 (gt xs i) (gt ws i) T (inF fails i) else gt ws i) := fun y hy => by
      refine ⟨W_succ (by omega), by simp [hl'], fun i hi => ?_⟩
      rw [gt_set (by omega)]
      by_cases he : i = k
      · rw [if_pos he, if_pos (by omega), he, hy]
      · rw [if_neg he, hg i hi]
        by_cases h1 : i < k
        · rw [if_pos h1, if_pos (by omega)]
        · rw [if_neg h1, if_neg (by omega)]
    have hsame : ∀ h : gt ws k = st1 (gt xs k) (gt ws k) T (inF fails k), W ((k : Int) + 1) = ((k + 1 : Nat) : Int) ∧ (cur).length = xs.length ∧ ∀ i, i < xs.length → gt (cur) i = (if i < k + 1 then st1 (gt xs i) (gt ws i) T (inF fails i) else gt ws i) := fun h => by
      have := hfin (gt ws k) h
      rwa [show cur.set k (gt ws k) = cur from ext_gt (by simp) fun i hi => by
        rw [gt_set (by omega)]
        by_cases he : i = k
        · rw [if_pos he, he, hgk]
        · rw [if_neg he]] at this
    unfold disconnect_Step_L1
    simp only [lt_len hk, if_true, idx_gt hk, Option.bind_some, idx_gt (l := cur) (k := k) (by omega), hgk, cont_eq fails (k : Int) (by omega), setO_nat (xs := cur) (j := k) (by omega)]
    have hF : dB ((k : Int) ∈ fails) = inF fails k := rfl
    rw [hF]
    rcases st1_cases (gt xs k) (gt ws k) T (inF fails k) with ⟨h1, h2⟩ | ⟨h1, h3, h4, h2⟩ | ⟨h1, h3, h4, h2⟩ | ⟨h1, h3, h4, h2⟩ | ⟨h1, h3, h4, h2⟩
    · rw [bneT h1]
      simp only [if_true, Option.bind_some]
      exact wp_some.2 (hsame h2.symm)
    all_goals
      rw [bneF h1, h3]
      simp only [Bool.false_eq_true, if_false, if_true, Option.bind_some]
      unfold wk at hw
    · rw [dT h4]
      simp only [if_true, Option.bind_some]
      rw [idx_gt (l := cur.set k _) (k := k) (by simp; omega)]
      simp only [Option.bind_some]
      rw [setO_nat (j := k) (by simp; omega), gt_set (by omega), if_pos rfl]
      simp only [Option.bind_some, List.set_set]
      refine wp_some.2 (hfin _ ?_)
      rw [h2, h1, W_sm (x := T + 1) (by omega) (by omega), W_sm (by omega) (by omega)]
    · rw [dF h4]
      simp only [if_true, Bool.false_eq_true, if_false, Option.bind_some]
      exact wp_some.2 (hfin _ h2.symm)
    · rw [W_sm (x := T + 1) (by omega) (by omega), W_sm (by omega) (by omega), dT h4]
      simp only [if_true, Option.bind_some]
      exact wp_some.2 (hfin _ h2.symm)
    · rw [W_sm (x := T + 1) (by omega) (by omega), W_sm (by omega) (by omega), dF h4]
      simp only [Bool.false_eq_true, if_false, Option.bind_some]
      exact wp_some.2 (hsame h2.symm)
  · obtain ⟨z, cur⟩ := s
    obtain ⟨rfl, hl', hg⟩ := hv'
    simp only at hl' hg
    unfold disconnect_Step_L1
    simp only [nlt_len, Bool.false_eq_true, if_false]
    refine wp_some.2 (ext_gt (by rw [hl', mid_len]) fun i hi => ?_)
    rw [hg i (by omega), if_pos (by omega), mid_gt (by omega)]
theorem step_eq {xs : List Stage} (hs : VS xs) (hc : disconnect_Check xs = some 0) {T : Int} {ws : List Work} (hv : VP xs T ws) (ht : T < 2147483648) {fails : List Int} (hf : ∀ x ∈ fails, 0 ≤ x ∧ x < (xs.length : Int)) (hl : fails.length ≤ 1000000) : disconnect_Step xs ⟨T, ws⟩ fails = some (T + 1, 0, nxt xs ws T (inF fails)) := by
  have n2 := hs.n2
  have t0 := hv.t0
  have hln := hv.ln
  unfold disconnect_Step slices_Clone_Work_Work
  simp only [check_ok hs hc hv ht hf hl, Option.bind_some, show ((0 : Int) != 0) = false from rfl, Bool.false_eq_true, if_false, app_nl (ys := ws) (by omega), step_loop hs hv ht hl rfl, begin_eq hs (ms := mid xs ws T (inF fails)) mid_len, W_sm (x := T + 1) (by omega) (by omega)]
  rfl
/-- what is wanted for ends -/
structure EH (xs : List Stage) (ws : List Work) (T : Int) : Prop where
  n2 : xs.length ≤ 12
  nd : ∀ i, i < xs.length → ∀ j, j < (gt xs i).Needs.length → 0 ≤ gt (gt xs i).Needs j ∧ gt (gt xs i).Needs j < (i : Int)
  nl : ∀ i, i < xs.length → (gt xs i).Needs.length ≤ 12
  tk : ∀ i, i < xs.length → 0 ≤ (gt xs i).Ticks ∧ (gt xs i).Ticks ≤ 2000
  ln : ws.length = xs.length
  t0 : 0 ≤ T
  t1 : T ≤ 2147483648
  sn : ∀ i, i < xs.length → (gt ws i).State = 1 → 0 ≤ (gt ws i).Since ∧ (gt ws i).Since ≤ 2147483648
theorem EH.of {xs : List Stage} (hs : VS xs) {T : Int} {ws : List Work} (hv : VP xs T ws) : EH xs ws T := by
  refine ⟨hs.n2, hs.nd, fun i hi => hs.nlen hi, fun i hi => by have := hs.tk i hi; omega, hv.ln, hv.t0, hv.t1, fun i hi h => ?_⟩
  have t1 := hv.t1
  rcases hv.wk i hi with h | ⟨_, _, h⟩ | h | h <;> omega
theorem ends_eq {xs : List Stage} {ws : List Work} {T : Int} (h : EH xs ws T) : Wp (disconnect_ends xs ⟨T, ws⟩) (EN xs ws T) := by
  have n2 := h.n2
  have hln := h.ln
  have t0 := h.t0
  have t1 := h.t1
  unfold disconnect_ends
  rw [show len xs = (xs.length : Int) from rfl, mkZ_nat (by omega)]
  simp only [Option.bind_some]
  have : Wp (loopO (disconnect_ends_L1 xs ⟨T, ws⟩) (0, List.replicate xs.length 0)) (EN xs ws T) := by
    refine wp_upto xs.length (fun k s => s.1 = (k : Int) ∧ s.2.length = xs.length ∧ (∀ i, i < xs.length → i < k → gt s.2 i = ef (gt xs i) (gt ws i) T s.2 ∧ -10000000000 ≤ gt s.2 i ∧ gt s.2 i ≤ 10000000000 * ((i : Int) + 1)) ∧ ∀ i, i < xs.length → k ≤ i → gt s.2 i = 0) ⟨rfl, by simp, fun i hi h => by omega, fun i hi _ => gt_replicate hi⟩ (fun k s hk hv => ?_) (fun s hv => ?_) (by omega)
    · obtain ⟨z, cur⟩ := s
      obtain ⟨rfl, hl, hg, hz⟩ := hv
      simp only at hl hg hz
      have tk := h.tk k hk
      have nl := h.nl k hk
      have hfin : ∀ y : Int, y = ef (gt xs k) (gt ws k) T cur → -10000000000 ≤ y → y ≤ 10000000000 * ((k : Int) + 1) → ∀ new : List Int, new = cur.set k y → W ((k : Int) + 1) = ((k + 1 : Nat) : Int) ∧ new.length = xs.length ∧ (∀ i, i < xs.length → i < k + 1 → gt new i = ef (gt xs i) (gt ws i) T new ∧ -10000000000 ≤ gt new i ∧ gt new i ≤ 10000000000 * ((i : Int) + 1)) ∧ ∀ i, i < xs.length → k + 1 ≤ i → gt new i = 0 := fun y hy y1 y2 new hnew => by
        subst hnew
        have hcg : ∀ i, i < xs.length → i ≤ k → ef (gt xs i) (gt ws i) T (cur.set k y) = ef (gt xs i) (gt ws i) T cur := fun i hi hik => by
          unfold ef
          rw [mx_congr (es := cur.set k y) (es' := cur) fun j hj => by
            have := h.nd i hi j hj
            rw [gt_set (by omega), if_neg (by omega)]]
        refine ⟨W_succ (by omega), by simp [hl], fun i hi hik => ?_, fun i hi hik => ?_⟩
        · rw [hcg i hi (by omega), gt_set (by omega)]
          by_cases he : i = k
          · subst he; rw [if_pos rfl]; exact ⟨hy, y1, y2⟩
          · rw [if_neg he]; exact hg i hi (by omega)
        · rw [gt_set (by omega), if_neg (by omega)]
          exact hz i hi (by omega)
      unfold disconnect_ends_L1
      simp only [lt_len hk, if_true, idx_gt hk, Option.bind_some, idx_gt (l := ws) (k := k) (by omega), idx_gt (l := cur) (k := k) (by omega), setO_nat (xs := cur) (j := k) (by omega)]
      by_cases h1 : (gt ws k).State = 1
      · have sn := h.sn k hk h1
        rw [beqT h1]
        simp only [if_true, Option.bind_some]
        rw [W_sm (x := (gt ws k).Since + (gt xs k).Ticks) (by omega) (by omega), W_sm (x := (gt ws k).Since + (gt xs k).Ticks - T) (by omega) (by omega)]
        exact wp_some.2 (hfin _ (ef1 h1).symm (by omega) (by omega) _ rfl)
      · rw [beqF h1]
        simp only [Bool.false_eq_true, if_false]
        by_cases h0 : (gt ws k).State = 0
        · rw [beqT h0]
          simp only [if_true, Option.bind_some]
          have inner : Wp (loopO (disconnect_ends_L2 ((k : Int), cur) (gt xs k)) (0, cur)) fun r => r = cur.set k (mx (gt xs k).Needs cur) := by
            have := loop_fold (step := disconnect_ends_L2 ((k : Int), cur) (gt xs k)) (gt xs k).Needs (fun (b : Int) j => ((j : Int), cur.set k b)) (fun m a => max m (gt cur a.toNat)) (fun b => cur.set k b) 0 (fun _ _ => True) trivial (fun j b x hx _ => by
              have hj := (List.getElem?_eq_some_iff.1 hx).1
              obtain rfl := gt_some hx
              have nd := h.nd k hk j hj
              refine ⟨?_, trivial⟩
              unfold disconnect_ends_L2
              simp only [lt_len hj, if_true, idx_gt hj, Option.bind_some]
              rw [idx_gt (l := cur.set k b) (k := k) (by simp; omega), idx_gtZ (l := cur.set k b) nd.1 (by simp; omega)]
              simp only [Option.bind_some]
              rw [setO_nat (j := k) (by simp; omega), gt_set (by omega), if_pos rfl, gt_set (by omega), if_neg (by omega), W_succ (by omega), imax_eq]
              simp only [Option.bind_some, List.set_set]) (fun b _ => by
              unfold disconnect_ends_L2
              simp only [nlt_len, Bool.false_eq_true, if_false]) (by omega)
            have e0 : cur.set k 0 = cur := ext_gt (by simp) fun i hi => by
              rw [gt_set (by omega)]
              by_cases he : i = k
              · rw [if_pos he, he, hz k hk (by omega)]
              · rw [if_neg he]
            have e1 := this.1
            simp only [e0] at e1
            exact ⟨_, e1, rfl⟩
          obtain ⟨r, e1, rfl⟩ := inner
          simp only [e1, Option.bind_some]
          rw [idx_gt (l := cur.set k _) (k := k) (by simp; omega)]
          simp only [Option.bind_some]
          rw [setO_nat (j := k) (by simp; omega), gt_set (by omega), if_pos rfl]
          simp only [Option.bind_some, List.set_set]
          have m0 := mx_nn (gt xs k).Needs cur
          have m1 : mx (gt xs k).Needs cur ≤ 10000000000 * (k : Int) := by
            rcases mx_at (gt xs k).Needs cur with e | ⟨j, hj, e⟩
            · omega
            · have nd := h.nd k hk j hj
              have := (hg (gt (gt xs k).Needs j).toNat (by omega) (by omega)).2.2
              rw [e]
              omega
          rw [W_sm (x := mx (gt xs k).Needs cur + (gt xs k).Ticks) (by omega) (by omega)]
          exact wp_some.2 (hfin _ (ef0 h0).symm (by omega) (by omega) _ rfl)
        · rw [beqF h0]
          simp only [Bool.false_eq_true, if_false, Option.bind_some]
          refine wp_some.2 (hfin 0 (ef2 h0 h1).symm (by omega) (by omega) _ ?_)
          refine ext_gt (by simp) fun i hi => ?_
          rw [gt_set (by omega)]
          by_cases he : i = k
          · rw [if_pos he, he, hz k hk (by omega)]
          · rw [if_neg he]
    · obtain ⟨z, cur⟩ := s
      obtain ⟨rfl, hl, hg, hz⟩ := hv
      simp only at hl hg hz
      unfold disconnect_ends_L1
      simp only [nlt_len, Bool.false_eq_true, if_false]
      exact wp_some.2 ⟨hl, fun i hi => (hg i hi hi).1⟩
  exact this.bind fun r hr => wp_some.2 hr
/-- a failed stage -/
def Stk (xs : List Stage) (ws : List Work) : Prop := ∃ k, k < xs.length ∧ (gt ws k).State = 3
theorem left_stuck {xs : List Stage} (hs : VS xs) (hc : disconnect_Check xs = some 0) {T : Int} {ws : List Work} (hv : VP xs T ws) (h : Stk xs ws) : disconnect_Left xs ⟨T, ws⟩ = some (0, false) := by
  have n2 := hs.n2
  have hln := hv.ln
  unfold disconnect_Left
  simp only [valid_eq hs hc, dB_T hv, Option.bind_some, Bool.not_true, Bool.false_eq_true, if_false, stuck_eq (T := T) (ws := ws) (by omega)]
  rw [dB_T (by rw [hln]; exact h)]
  rfl
theorem left_ok {xs : List Stage} (hs : VS xs) (hc : disconnect_Check xs = some 0) {T : Int} {ws : List Work} (hv : VP xs T ws) (h : ¬ Stk xs ws) : Wp (disconnect_Left xs ⟨T, ws⟩) fun r => r.2 = true ∧ ∃ es, EN xs ws T es ∧ Top es r.1 := by
  have n1 := hs.n1
  have n2 := hs.n2
  have hln := hv.ln
  unfold disconnect_Left
  simp only [valid_eq hs hc, dB_T hv, Option.bind_some, Bool.not_true, Bool.false_eq_true, if_false, stuck_eq (T := T) (ws := ws) (by omega)]
  rw [dB_F (by rw [hln]; exact h)]
  simp only [Bool.false_eq_true, if_false]
  refine (ends_eq (EH.of hs hv)).bind fun es he => ?_
  have := he.ln
  refine (max_eq (es := es) (by omega) (by omega)).bind fun m hm => wp_some.2 ⟨rfl, es, he, hm⟩
theorem length_eq {xs : List Stage} (hs : VS xs) (hc : disconnect_Check xs = some 0) : Wp (disconnect_Length xs) fun L => ∃ es, EN xs (new0 xs 0) 0 es ∧ Top es L := by
  have n1 := hs.n1
  have n2 := hs.n2
  unfold disconnect_Length
  simp only [new_eq hs hc (T := 0) (by omega) (by omega), Option.bind_some, show ((0 : Int) != 0) = false from rfl, Bool.false_eq_true, if_false]
  refine (ends_eq (EH.of hs (VP_new hs (T := 0) (by omega) (by omega)))).bind fun es he => ?_
  have := he.ln
  refine (max_eq (es := es) (by omega) (by omega)).bind fun m hm => wp_some.2 ⟨es, he, hm⟩
def lngS (x : Stage) : Stage := ⟨x.Name, x.Ticks * x.Tries, x.Tries, x.Needs⟩
def lng (xs : List Stage) : List Stage := (List.range xs.length).map fun i => lngS (gt xs i)
theorem lng_len {xs : List Stage} : (lng xs).length = xs.length := by simp [lng]
theorem lng_gt {xs : List Stage} {i : Nat} (h : i < xs.length) : gt (lng xs) i = lngS (gt xs i) := gt_map_range _ h
theorem longest_eq {xs : List Stage} (hs : VS xs) (hc : disconnect_Check xs = some 0) : Wp (disconnect_Longest xs) fun L => ∃ es, EN (lng xs) (new0 xs 0) 0 es ∧ Top es L := by
  have n1 := hs.n1
  have n2 := hs.n2
  unfold disconnect_Longest slices_Clone_Stage_Stage
  simp only [new_eq hs hc (T := 0) (by omega) (by omega), Option.bind_some, show ((0 : Int) != 0) = false from rfl, Bool.false_eq_true, if_false, app_nl (ys := xs) (by omega)]
  have hb : ∀ i, i < xs.length → 0 ≤ (gt xs i).Ticks * (gt xs i).Tries ∧ (gt xs i).Ticks * (gt xs i).Tries ≤ 2000 := fun i hi => by
    have tk := hs.tk i hi
    have tr := hs.tr i hi
    have a : 0 ≤ (gt xs i).Ticks * (gt xs i).Tries := Int.mul_nonneg (by omega) (by omega)
    have b : (gt xs i).Ticks * (gt xs i).Tries ≤ 600 * 3 := Int.mul_le_mul (by omega) (by omega) (by omega) (by omega)
    omega
  have hloop : loopO (disconnect_Longest_L1 xs) (0, xs) = some (lng xs) := by
    refine wp_eq.1 (wp_upto xs.length (fun k s => s.1 = (k : Int) ∧ s.2.length = xs.length ∧ ∀ i, i < xs.length → gt s.2 i = if i < k then lngS (gt xs i) else gt xs i) ⟨rfl, rfl, fun i hi => by rw [if_neg (by omega)]⟩ (fun k s hk hv => ?_) (fun s hv => ?_) (by omega))
    · obtain ⟨z, cur⟩ := s
      obtain ⟨rfl, hl, hg⟩ := hv
      simp only at hl hg
      have hgk := hg k hk
      rw [if_neg (by omega)] at hgk
      have b := hb k hk
      unfold disconnect_Longest_L1
      simp only [lt_len hk, if_true, idx_gt (l := cur) (k := k) (by omega), Option.bind_some, setO_nat (xs := cur) (j := k) (by omega), hgk]
      rw [W_sm (x := (gt xs k).Ticks * (gt xs k).Tries) (by omega) (by omega), W_succ (by omega)]
      refine wp_some.2 ⟨rfl, by simp [hl], fun i hi => ?_⟩
      simp only
      rw [gt_set (by omega)]
      by_cases he : i = k
      · rw [if_pos he, if_pos (by omega), he]; rfl
      · rw [if_neg he, hg i hi]
        by_cases h1 : i < k
        · rw [if_pos h1, if_pos (by omega)]
        · rw [if_neg h1, if_neg (by omega)]
    · obtain ⟨z, cur⟩ := s
      obtain ⟨rfl, hl, hg⟩ := hv
      simp only at hl hg
      unfold disconnect_Longest_L1
      simp only [nlt_len, Bool.false_eq_true, if_false]
      refine wp_some.2 (ext_gt (by rw [hl, lng_len]) fun i hi => ?_)
      rw [hg i (by omega), if_pos (by omega), lng_gt (by omega)]
  rw [hloop]
  simp only [Option.bind_some]
  have hv := VP_new hs (T := 0) (by omega) (by omega)
  have h0 := EH.of hs hv
  have hE : EH (lng xs) (new0 xs 0) 0 := by
    refine ⟨by rw [lng_len]; exact n2, fun i hi => ?_, fun i hi => ?_, fun i hi => ?_, by rw [lng_len]; exact h0.ln, by omega, by omega, fun i hi => ?_⟩
    all_goals rw [lng_len] at hi
    · rw [lng_gt hi]; exact h0.nd i hi
    · rw [lng_gt hi]; exact h0.nl i hi
    · rw [lng_gt hi]; exact hb i hi
    · exact h0.sn i hi
  refine (ends_eq hE).bind fun es he => ?_
  have := he.ln
  rw [lng_len] at this
  refine (max_eq (es := es) (by omega) (by omega)).bind fun m hm => wp_some.2 ⟨es, he, hm⟩
/-! drawn sequences -/
/-- good names, each once -/
structure NM (xs : List Stage) : Prop where
  wd : ∀ i, i < xs.length → design_Word (gt xs i).Name = some true
  ne : ∀ i, i < xs.length → ∀ j, j < i → (gt xs j).Name ≠ (gt xs i).Name
def mgN (m : List (ByteArray × Bool)) (k : ByteArray) : Bool := mget (fun x => x.1 == k) (fun x => x.2) false m
theorem mgN_put (m : List (ByteArray × Bool)) (k : ByteArray) (b : Bool) (j : ByteArray) : mgN (mput (fun x => x.1 == k) (k, b) m) j = cond (j == k) b (mgN m j) := by
  have h := mget_put (fun x : ByteArray × Bool => x.1) (fun x => x.2) (z0 := false) (k := k) (j := j) (z := (k, b)) rfl (f := fun x => x.1 == k) (g := fun x => x.1 == j) (fun x => bs_eq _ _) (fun x => bs_eq _ _) m
  unfold mgN
  by_cases hj : j = k
  · rw [(bs_eq _ _).2 hj, h.1 hj]; rfl
  · have : (j == k) = false := by
      cases hb : j == k with
      | true => exact (hj ((bs_eq _ _).1 hb)).elim
      | false => rfl
    rw [this, h.2 hj]; rfl
theorem check_seq {xs : List Stage} (hs : VS xs) (hn : NM xs) : disconnect_Check xs = some 0 := by
  have n1 := hs.n1
  have n2 := hs.n2
  unfold disconnect_Check
  simp only [dF (c := len xs < 1) (by unfold len; omega), dF (c := len xs > 12) (by unfold len; omega), Bool.false_eq_true, if_false, Option.bind_some]
  have hloop : Wp (loopO (disconnect_Check_L1 xs) (0, [])) fun r => ∃ m, r = .inl m := by
    refine wp_upto xs.length (fun k s => s.1 = (k : Int) ∧ ∀ nm, mgN s.2 nm = true → ∃ j, j < k ∧ (gt xs j).Name = nm) ⟨rfl, fun nm h => by simp [mgN, mget] at h⟩ (fun k s hk hv => ?_) (fun s hv => ?_) (by omega)
    · obtain ⟨z, m⟩ := s
      obtain ⟨rfl, hm⟩ := hv
      simp only at hm
      have tk := hs.tk k hk
      have tr := hs.tr k hk
      have nl := hs.nlen hk
      have e : mget (fun x5 : ByteArray × Bool => x5.1 == (gt xs k).Name) (fun x6 => x6.2) false m = false := by
        cases hb : mget (fun x5 : ByteArray × Bool => x5.1 == (gt xs k).Name) (fun x6 => x6.2) false m with
        | false => rfl
        | true =>
          obtain ⟨j, hj, hne⟩ := hm _ hb
          exact (hn.ne k hk j hj hne).elim
      unfold disconnect_Check_L1
      simp only [lt_len hk, if_true, idx_gt hk, Option.bind_some, hn.wd k hk, Bool.not_true, Bool.false_eq_true, if_false, e, dF (c := (gt xs k).Ticks < 1) (by omega), dF (c := (gt xs k).Ticks > 600) (by omega), dF (c := (gt xs k).Tries < 1) (by omega), dF (c := (gt xs k).Tries > 3) (by omega)]
      have inner : loopO (disconnect_Check_L2 ((k : Int), m) (gt xs k)) ((-1), 0) = some (.inl ()) := by
        refine wp_eq.1 (wp_upto (gt xs k).Needs.length (fun j s => s.2 = (j : Int) ∧ (j = 0 ∧ s.1 = -1 ∨ 0 < j ∧ s.1 = gt (gt xs k).Needs (j - 1))) ⟨rfl, .inl ⟨rfl, rfl⟩⟩ (fun j s hj hv => ?_) (fun s hv => ?_) (by omega))
        · obtain ⟨b, z⟩ := s
          obtain ⟨rfl, hb⟩ := hv
          simp only at hb
          have nd := hs.nd k hk j hj
          have ns := hs.ns k hk j
          unfold disconnect_Check_L2
          simp only [lt_len hj, if_true, idx_gt hj, Option.bind_some, dF (c := gt (gt xs k).Needs j ≤ b) (by
            rcases hb with ⟨_, hb⟩ | ⟨hb, hb'⟩
            · omega
            · have := ns hb hj; omega), Bool.false_eq_true, if_false, dF (c := gt (gt xs k).Needs j ≥ (k : Int)) (by omega)]
          rw [W_succ (by omega)]
          exact wp_some.2 ⟨rfl, .inr ⟨by omega, by simp⟩⟩
        · obtain ⟨b, z⟩ := s
          obtain ⟨rfl, hb⟩ := hv
          unfold disconnect_Check_L2
          simp only [nlt_len, Bool.false_eq_true, if_false]
          exact wp_some.2 rfl
      simp only [inner, Option.bind_some, Sum.elim_inl]
      rw [W_succ (by omega)]
      refine wp_some.2 ⟨rfl, fun nm h => ?_⟩
      simp only at h
      rw [mgN_put] at h
      cases hb : nm == (gt xs k).Name with
      | true => exact ⟨k, by omega, ((bs_eq _ _).1 hb).symm⟩
      | false =>
        rw [hb] at h
        obtain ⟨j, hj, e⟩ := hm nm h
        exact ⟨j, by omega, e⟩
    · obtain ⟨z, m⟩ := s
      obtain ⟨rfl, hm⟩ := hv
      unfold disconnect_Check_L1
      simp only [nlt_len, Bool.false_eq_true, if_false]
      exact wp_some.2 ⟨m, rfl⟩
  obtain ⟨r, e, m, rfl⟩ := hloop
  rw [e]
  rfl
/-- drawn names -/
def nmS (i : Nat) : ByteArray := bsL [115, 97 + i]
theorem nm_eq {i : Nat} (h : i < 5) : sApp (bsL [115]) (bysS (fun x4 : U8 => x4.n) [U8.mk (iwrap IntKind.u8 (W (97 + (i : Int))))]) = some (nmS i) := by
  rcases i with _ | _ | _ | _ | _ | i
  · kernel_rfl
  · kernel_rfl
  · kernel_rfl
  · kernel_rfl
  · kernel_rfl
  · omega
theorem nm_wd {i : Nat} (h : i < 5) : design_Word (nmS i) = some true := by
  rcases i with _ | _ | _ | _ | _ | i
  · kernel_rfl
  · kernel_rfl
  · kernel_rfl
  · kernel_rfl
  · kernel_rfl
  · omega
theorem nm_ne {i j : Nat} (h : i < 5) (h' : j < i) : nmS j ≠ nmS i := by
  intro e
  have e1 : (nmS j == nmS i) = true := (bs_eq _ _).2 e
  have key : ∀ a, a < 5 → ∀ b, b < a → (nmS b == nmS a) = false := by decide
  rw [key i h j h'] at e1
  cases e1
/-- the drawn stages so far -/
structure SQ (k : Nat) (xs : List Stage) : Prop where
  ln : xs.length = k
  nm : ∀ i, i < xs.length → (gt xs i).Name = nmS i
  tk : ∀ i, i < xs.length → 1 ≤ (gt xs i).Ticks ∧ (gt xs i).Ticks ≤ 600
  tr : ∀ i, i < xs.length → 1 ≤ (gt xs i).Tries ∧ (gt xs i).Tries ≤ 3
  nd : ∀ i, i < xs.length → ∀ j, j < (gt xs i).Needs.length → 0 ≤ gt (gt xs i).Needs j ∧ gt (gt xs i).Needs j < (i : Int)
  ns : ∀ i, i < xs.length → ∀ j, 0 < j → j < (gt xs i).Needs.length → gt (gt xs i).Needs (j - 1) < gt (gt xs i).Needs j
theorem SQ.nil : SQ 0 [] := ⟨rfl, fun i h => by simp at h, fun i h => by simp at h, fun i h => by simp at h, fun i h => by simp at h, fun i h => by simp at h⟩
theorem SQ.add {k : Nat} {xs : List Stage} (h : SQ k xs) {t r : Int} {n : List Int} (h1 : 1 ≤ t ∧ t ≤ 600) (h2 : 1 ≤ r ∧ r ≤ 3) (h3 : ∀ j, j < n.length → 0 ≤ gt n j ∧ gt n j < (k : Int)) (h4 : ∀ j, 0 < j → j < n.length → gt n (j - 1) < gt n j) : SQ (k + 1) (xs ++ [⟨nmS k, t, r, n⟩]) := by
  have hl := h.ln
  have hg : ∀ i, i < (xs ++ [(⟨nmS k, t, r, n⟩ : Stage)]).length → gt (xs ++ [(⟨nmS k, t, r, n⟩ : Stage)]) i = if i < xs.length then gt xs i else ⟨nmS k, t, r, n⟩ := fun i hi => gt_snoc (by simpa using hi)
  refine ⟨by simp [hl], fun i hi => ?_, fun i hi => ?_, fun i hi => ?_, fun i hi => ?_, fun i hi => ?_⟩
  all_goals
    rw [hg i hi]
    have hi' : i < xs.length + 1 := by simpa using hi
    by_cases hc : i < xs.length
    · rw [if_pos hc]
      first | exact h.nm i hc | exact h.tk i hc | exact h.tr i hc | exact h.nd i hc | exact h.ns i hc
    · rw [if_neg hc]
      have hik : i = k := by omega
      subst hik
      first | rfl | exact h1 | exact h2 | exact h3 | exact h4
theorem SQ.vs {k : Nat} {xs : List Stage} (h : SQ k xs) (h1 : 1 ≤ k) (h2 : k ≤ 5) : VS xs ∧ disconnect_Check xs = some 0 := by
  have hl := h.ln
  have hs : VS xs := ⟨by omega, by omega, h.tk, h.tr, h.nd, h.ns⟩
  exact ⟨hs, check_seq hs ⟨fun i hi => by rw [h.nm i hi]; exact nm_wd (by omega), fun i hi j hj => by rw [h.nm i hi, h.nm j (by omega)]; exact nm_ne (by omega) hj⟩⟩
theorem wpSomeA {sl : List Int} {sa : Int} (hs : Sr sl sa) {n : Nat} (hn : n ≤ 1000) {k : Int} (k0 : 1 ≤ k) (k1 : k ≤ 1000) : Wp (Src_Some ⟨sl, sa⟩ n k) fun r => Sr r.1 r.2.1 ∧ r.2.2.length ≤ n ∧ (∀ j, j < r.2.2.length → 0 ≤ gt r.2.2 j ∧ gt r.2.2 j < (n : Int)) ∧ ∀ j, 0 < j → j < r.2.2.length → gt r.2.2 (j - 1) < gt r.2.2 j := by
  unfold Src_Some
  have hloop : Wp (loopO (Src_Some_L1 n k) (0, [], sl, sa)) fun r => Sr r.2.1 r.2.2 ∧ r.1.length ≤ n ∧ (∀ j, j < r.1.length → 0 ≤ gt r.1 j ∧ gt r.1 j < (n : Int)) ∧ ∀ j, 0 < j → j < r.1.length → gt r.1 (j - 1) < gt r.1 j := by
    refine wp_upto n (fun i s => s.1 = (i : Int) ∧ Sr s.2.2.1 s.2.2.2 ∧ s.2.1.length ≤ i ∧ (∀ j, j < s.2.1.length → 0 ≤ gt s.2.1 j ∧ gt s.2.1 j < (i : Int)) ∧ ∀ j, 0 < j → j < s.2.1.length → gt s.2.1 (j - 1) < gt s.2.1 j) ⟨rfl, hs, Nat.le_refl _, fun j hx => by simp at hx, fun j _ hx => by simp at hx⟩ (fun i s hi hv => ?_) (fun s hv => ?_) (by omega)
    · obtain ⟨z, o, l, a⟩ := s
      simp only at hv
      obtain ⟨rfl, h1, h2, h3, h4⟩ := hv
      unfold Src_Some_L1
      simp only [dT (c := (i : Int) < (n : Int)) (by omega), if_true]
      refine (wpN h1 (n := k) (by omega) (by omega)).bind fun y hy => ?_
      obtain ⟨y, l', a'⟩ := y
      simp only at hy ⊢
      by_cases hc : (y == W (k - 1)) = true
      · rw [if_pos hc, app_sm (by simp; omega)]
        simp only [Option.bind_some]
        rw [W_succ (by omega)]
        refine wp_some.2 ⟨rfl, hy.2, by simp; omega, fun j hj => ?_, fun j h0 hj => ?_⟩
        · have hj' : j < o.length + 1 := by simpa using hj
          simp only
          rw [gt_snoc hj']
          split
          · have := h3 j (by omega); omega
          · omega
        · have hj' : j < o.length + 1 := by simpa using hj
          simp only
          rw [gt_snoc hj', gt_snoc (by omega), if_pos (by omega)]
          split
          · exact h4 j h0 (by omega)
          · have := h3 (j - 1) (by omega); omega
      · rw [if_neg hc]
        simp only [Option.bind_some]
        rw [W_succ (by omega)]
        exact wp_some.2 ⟨rfl, hy.2, by simp only; omega, fun j hj => by have := h3 j hj; simp only; omega, h4⟩
    · obtain ⟨z, o, l, a⟩ := s
      simp only at hv
      obtain ⟨rfl, h1, h2, h3, h4⟩ := hv
      unfold Src_Some_L1
      simp only [dF (c := (n : Int) < (n : Int)) (by omega), Bool.false_eq_true, if_false]
      exact wp_some.2 ⟨h1, h2, h3, h4⟩
  exact hloop.bind fun r hr => wp_some.2 ⟨hr.1, hr.2.1, hr.2.2.1, hr.2.2.2⟩
theorem wpPickT {sl : List Int} {sa : Int} (hs : Sr sl sa) : Wp (Src_Pick_v1 ⟨sl, sa⟩ [1, 2, 3, 7]) fun r => (1 ≤ r.1 ∧ r.1 ≤ 600) ∧ Sr r.2.1 r.2.2.1 := by
  unfold Src_Pick_v1
  refine (wpN hs (n := len ([1, 2, 3, 7] : List Int)) (by unfold len; simp) (by unfold len; simp)).bind fun y hy => ?_
  obtain ⟨y, l', a'⟩ := y
  simp only [len, List.length_cons, List.length_nil] at hy
  have e : idx ([1, 2, 3, 7] : List Int) y = some (gt ([1, 2, 3, 7] : List Int) y.toNat) := idx_gtZ hy.1.1 (by simp; omega)
  simp only [e, Option.bind_some]
  refine wp_some.2 ⟨?_, hy.2⟩
  have : y.toNat < 4 := by omega
  simp only
  generalize y.toNat = q at this ⊢
  rcases q with _ | _ | _ | _ | q
  · decide
  · decide
  · decide
  · decide
  · omega
theorem wpSequence {sl : List Int} {sa : Int} (hs : Sr sl sa) : Wp (Src_Sequence ⟨sl, sa⟩) fun r => Sr r.1 r.2.1 ∧ ∃ k, 1 ≤ k ∧ k ≤ 5 ∧ SQ k r.2.2 := by
  unfold Src_Sequence
  have hloop : Wp (loopO Src_Sequence_L1 (0, sl, sa, [])) fun r => Sr r.1 r.2.1 ∧ ∃ k, 1 ≤ k ∧ k ≤ 5 ∧ SQ k r.2.2 := by
    refine wp_upto 5 (fun k s => s.1 = (k : Int) ∧ Sr s.2.1 s.2.2.1 ∧ SQ k s.2.2.2) ⟨rfl, hs, SQ.nil⟩ (fun k s hk hv => ?_) (fun s hv => ?_) (by omega)
    · obtain ⟨z, l, a, xs⟩ := s
      simp only at hv
      obtain ⟨rfl, h1, h2⟩ := hv
      have hxl := h2.ln
      unfold Src_Sequence_L1
      simp only
      refine (Wp.bind (Q := fun r => Sr r.2.1 r.2.2 ∧ (r.1 = false → 1 ≤ k)) ?_ fun r hr => ?_)
      · refine (wpN h1 (n := 5) (by omega) (by omega)).bind fun y hy => ?_
        obtain ⟨y, l', a'⟩ := y
        simp only at hy ⊢
        refine Wp.ite (fun hc => wp_some.2 ⟨hy.2, fun h => by cases h⟩) fun hc => wp_some.2 ⟨hy.2, fun h => ?_⟩
        have : ¬ (k : Int) = 0 := fun e => by rw [beqT e] at h; cases h
        omega
      · obtain ⟨b, l', a'⟩ := r
        simp only at hr ⊢
        refine Wp.ite (fun hc => ?_) fun hc => wp_some.2 ⟨hr.1, k, hr.2 hc, by omega, h2⟩
        rw [beqF (a := (k : Int)) (b := 12) (by omega)]
        simp only [Bool.false_eq_true, if_false, nm_eq hk, Option.bind_some]
        refine (wpPickT hr.1).bind fun t ht => ?_
        refine (wpRange ht.2 (lo := 1) (hi := 3) (by omega) (by omega) (by omega) (by omega)).bind fun q hq => ?_
        refine (wpSomeA hq.2 (n := k) (by omega) (k := 2) (by omega) (by omega)).bind fun n hn => ?_
        rw [app_sm (by simp; try omega)]
        simp only [Option.bind_some]
        rw [W_succ (by omega)]
        exact wp_some.2 ⟨rfl, hn.1, h2.add ht.1 hq.1 hn.2.2.1 hn.2.2.2⟩
    · obtain ⟨z, l, a, xs⟩ := s
      simp only at hv
      obtain ⟨rfl, h1, h2⟩ := hv
      unfold Src_Sequence_L1
      simp only
      refine (Wp.bind (Q := fun r => Sr r.2.1 r.2.2 ∧ r.1 = false) ?_ fun r hr => ?_)
      · refine (wpN h1 (n := 5) (by omega) (by omega)).bind fun y hy => ?_
        obtain ⟨y, l', a'⟩ := y
        simp only at hy ⊢
        refine Wp.ite (fun hc => ?_) fun hc => wp_some.2 ⟨hy.2, rfl⟩
        have := of_decide_eq_true hc
        omega
      · obtain ⟨b, l', a'⟩ := r
        simp only at hr
        obtain ⟨hr1, rfl⟩ := hr
        simp only [Bool.false_eq_true, if_false]
        exact wp_some.2 ⟨hr1, 5, by omega, by omega, h2⟩
  exact hloop.bind fun r hr => wp_some.2 hr
theorem sane_T : dynposlaw31_sane = some true := by kernel_rfl
end Rx
end Go.Proofs.Ytnpnaopnhgkapaa
