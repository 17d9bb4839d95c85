/- Angles, copies of states, and a tick: plain laws of chapters 2 and 16. -/
import Derived.Test.YtdfkfohpgakihaaLb6
set_option linter.unusedVariables false
set_option linter.unusedSimpArgs false
namespace Go.Proofs.Ytdfkfohpgakihaa
open Go Go.RowKit Dp

theorem tmod_3600 (a : Int) : (a % 3600 = if a.tmod 3600 < 0 then a.tmod 3600 + 3600 else a.tmod 3600) ∧ -3600 < a.tmod 3600 ∧ a.tmod 3600 < 3600 := by
  by_cases ha : 0 ≤ a
  · rw [Int.tmod_eq_emod_of_nonneg ha, if_neg (by omega)]
    exact ⟨rfl, by omega, by omega⟩
  · have hn : a.tmod 3600 = -((-a) % 3600) := by
      rw [← Int.tmod_eq_emod_of_nonneg (show 0 ≤ -a by omega), Int.neg_tmod, Int.neg_neg]
    rw [hn]
    refine ⟨?_, by omega, by omega⟩
    split <;> omega
theorem norm_eq {a : Int} (h1 : -100000000000000000 ≤ a) (h2 : a ≤ 100000000000000000) : angle_Norm a = some (a % 3600) := by
  have e0 : remO a 3600 = some (a.tmod 3600) := by unfold remO; rw [if_neg (by decide)]
  obtain ⟨e1, e2⟩ := tmod_3600 a
  unfold angle_Norm
  rw [e0]
  simp only [Option.bind_some]
  by_cases h : a.tmod 3600 < 0
  · rw [dT h, if_pos rfl, W_sm (by omega) (by omega), e1, if_pos h]; rfl
  · rw [dF h, if_neg (by simp), e1, if_neg h]; rfl
theorem rnorm_eq {a : Int} (h1 : -100000000000000000 ≤ a) (h2 : a ≤ 100000000000000000) : dynposref02_Norm a = some (a % 3600) := by
  have e0 : remO a 3600 = some (a.tmod 3600) := by unfold remO; rw [if_neg (by decide)]
  obtain ⟨e1, e2⟩ := tmod_3600 a
  unfold dynposref02_Norm
  rw [e0]
  simp only [Option.bind_some]
  rw [W_sm (by omega) (by omega), remO_nn (by omega) (by omega)]
  simp only [Option.bind_some, Option.some.injEq]
  split at e1 <;> omega
theorem clone_eq {p : Power} (h : SmP p) : states_Clone p = some p := by
  obtain ⟨h1, h2, h3, h4⟩ := h
  unfold Sm at *
  unfold states_Clone slices_Clone_bool_bool slices_Clone_Running_Running slices_Clone_int_int slices_Clone_Part_Part
  rw [app_sm (by simp; omega), app_sm (by simp; omega), app_sm (by simp; omega), app_sm (by simp; omega)]
  rfl

/-- a tick for one generator -/
def tick (x : Running) : Running := if x.State = 2 then { x with Phase := (x.Phase + 36 * (x.Frequency - 5000)) % 3600 } else x
def turned (p : Power) : Power := ⟨p.Closed, p.Sources.map tick, p.Limits, p.Broken⟩
def turnAt (l : List Running) (k : Nat) : List Running := (List.range l.length).map fun i => if i < k then tick (gt l i) else gt l i
theorem turnAt_zero (l : List Running) : turnAt l 0 = l := by
  apply ext_gt
  · simp [turnAt]
  · intro k hk
    have hk' : k < l.length := by simpa [turnAt] using hk
    unfold turnAt
    rw [gt_map_range _ hk', if_neg (by omega)]
theorem turnAt_all (l : List Running) : turnAt l l.length = l.map tick := by
  apply ext_gt
  · simp [turnAt]
  · intro k hk
    have hk' : k < l.length := by simpa [turnAt] using hk
    unfold turnAt
    rw [gt_map_range _ hk', if_pos hk', gt_get (l := l.map tick) (by simpa using hk'), List.getElem_map, gt_get hk']
theorem turnAt_set (l : List Running) {k : Nat} (hk : k < l.length) : (turnAt l k).set k (tick (gt l k)) = turnAt l (k + 1) := by
  apply ext_gt
  · simp [turnAt]
  · intro i hi
    have hi' : i < l.length := by simpa [turnAt] using hi
    rw [gt_set (by simpa [turnAt] using hk)]
    unfold turnAt
    rw [gt_map_range _ hi', gt_map_range _ hi']
    by_cases h : i = k
    · subst h; rw [if_pos rfl, if_pos (by omega)]
    · rw [if_neg h]
      by_cases h2 : i < k
      · rw [if_pos h2, if_pos (by omega)]
      · rw [if_neg h2, if_neg (by omega)]
theorem turn_loop {p : Power} (hp : SmP p) (hr : ∀ k, k < p.Sources.length → RunOk (gt p.Sources k)) : loopR (sync_Turn_L1 p) ((0 : Int), p.Sources) = some (p.Sources.map tick) := by
  have h := loop_run (step := sync_Turn_L1 p) (fun k => ((k : Int), turnAt p.Sources k)) p.Sources.length (r := turnAt p.Sources p.Sources.length) (fun k hk => by
    have hx := hr k hk
    obtain ⟨_, _, ⟨f0, f1⟩, p0, p1⟩ := hx
    have hl : k < (turnAt p.Sources k).length := by simpa [turnAt] using hk
    have hg : gt (turnAt p.Sources k) k = gt p.Sources k := by
      unfold turnAt; rw [gt_map_range _ hk, if_neg (by omega)]
    have hw : W ((gt p.Sources k).Phase + W (36 * W ((gt p.Sources k).Frequency - 5000))) = (gt p.Sources k).Phase + 36 * ((gt p.Sources k).Frequency - 5000) := by
      rw [W_sm (x := (gt p.Sources k).Frequency - 5000) (by omega) (by omega), W_sm (x := 36 * ((gt p.Sources k).Frequency - 5000)) (by omega) (by omega), W_sm (by omega) (by omega)]
    simp only [sync_Turn_L1, lt_len hk, if_true, idx_gt hk, Option.bind_some, W_succ (sm_lt hp.2.1 hk), hw]
    have ht := turnAt_set p.Sources hk
    unfold tick at ht
    by_cases hs : (gt p.Sources k).State = 2
    · rw [if_pos hs] at ht
      simp only [beqT hs, if_true, norm_eq (a := (gt p.Sources k).Phase + 36 * ((gt p.Sources k).Frequency - 5000)) (by omega) (by omega), idx_gt hl, Option.bind_some, setO_nat hl, hg, ht]
    · rw [if_neg hs] at ht
      have : turnAt p.Sources (k + 1) = turnAt p.Sources k := by
        rw [← ht, ← hg]
        apply ext_gt
        · simp
        · intro i hi
          rw [gt_set hl]
          split
          · rename_i e; rw [e]
          · rfl
      simp only [beqF hs, Bool.false_eq_true, if_false, Option.bind_some, this]) (by simp only [sync_Turn_L1, nlt_len, Bool.false_eq_true, if_false])
  rw [turnAt_all] at h
  have h0 := turnAt_zero p.Sources
  simp only [h0] at h
  exact h
theorem turn_eq {b : Board} {p : Power} (hb : SmB b) (hp : SmP p) (h : stt b p = 0) : sync_Turn b p = some (turned p, 0) := by
  obtain ⟨_, _, _, hr, _⟩ := stt_zero.1 h
  unfold sync_Turn
  have e : (stt b p != 0) = false := by rw [h]; rfl
  simp only [state_eq hb hp, Option.bind_some, e, Bool.false_eq_true, if_false, clone_eq hp, turn_loop hp hr]
  rfl

end Go.Proofs.Ytdfkfohpgakihaa
