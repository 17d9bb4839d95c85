/- Sequences, progresses and their steps, in plain lists. Plain laws. -/
import Derived.Test.YtnpnaopnhgkapaaMs0
set_option linter.unusedVariables false
set_option linter.unusedSimpArgs false
namespace Go.Proofs.Ytnpnaopnhgkapaa
open Go Go.RowKit Dp
namespace Rx

/-- all needs are done -/
def rdy (x : Stage) (ws : List Work) : Prop := ∀ j, j < x.Needs.length → (gt ws (gt x.Needs j).toNat).State = 2
/-- valid stages, but for their names -/
structure VS (xs : List Stage) : Prop where
  n1 : 1 ≤ xs.length
  n2 : xs.length ≤ 12
  tk : ∀ i, i < xs.length → 1 ≤ (gt xs i).Ticks ∧ (gt xs i).Ticks ≤ 600
  tr : ∀ i, i < xs.length → 1 ≤ (gt xs i).Tries ∧ (gt xs i).Tries ≤ 3
  nd : ∀ i, i < xs.length → ∀ j, j < (gt xs i).Needs.length → 0 ≤ gt (gt xs i).Needs j ∧ gt (gt xs i).Needs j < (i : Int)
  ns : ∀ i, i < xs.length → ∀ j, 0 < j → j < (gt xs i).Needs.length → gt (gt xs i).Needs (j - 1) < gt (gt xs i).Needs j
theorem asc_len (l : List Int) (i : Nat) (h0 : ∀ j, j < l.length → 0 ≤ gt l j ∧ gt l j < (i : Int)) (h1 : ∀ j, 0 < j → j < l.length → gt l (j - 1) < gt l j) : l.length ≤ i := by
  have key : ∀ j, j < l.length → (j : Int) ≤ gt l j := by
    intro j
    induction j with
    | zero => intro h; have := h0 0 h; omega
    | succ j ih =>
      intro h
      have a := h1 (j + 1) (by omega) h
      have b := ih (by omega)
      simp only [Nat.add_sub_cancel] at a
      omega
  by_cases h : l.length = 0
  · omega
  · have a := key (l.length - 1) (by omega)
    have b := h0 (l.length - 1) (by omega)
    omega
theorem VS.nlen {xs : List Stage} (h : VS xs) {i : Nat} (hi : i < xs.length) : (gt xs i).Needs.length ≤ 12 := by
  have := asc_len _ i (h.nd i hi) (h.ns i hi)
  have := h.n2
  omega
/-- the state of a stage is possible -/
def wk (x : Stage) (w : Work) (T : Int) (r : Prop) : Prop :=
  (w.State = 0 ∧ w.Since = 0 ∧ w.Tries = 0 ∧ ¬ r) ∨ (w.State = 1 ∧ r ∧ 1 ≤ w.Tries ∧ w.Tries ≤ x.Tries ∧ 0 ≤ w.Since ∧ T - x.Ticks + 1 ≤ w.Since ∧ w.Since ≤ T) ∨
  (w.State = 2 ∧ r ∧ 1 ≤ w.Tries ∧ w.Tries ≤ x.Tries ∧ 0 ≤ w.Since ∧ w.Since ≤ T - x.Ticks) ∨ (w.State = 3 ∧ r ∧ w.Tries = x.Tries ∧ 0 ≤ w.Since ∧ w.Since ≤ T)
structure VP (xs : List Stage) (T : Int) (ws : List Work) : Prop where
  t0 : 0 ≤ T
  t1 : T ≤ 2147483648
  ln : ws.length = xs.length
  wk : ∀ i, i < xs.length → wk (gt xs i) (gt ws i) T (rdy (gt xs i) ws)
/-- a stage's own change -/
def st1 (x : Stage) (w : Work) (T : Int) (f : Bool) : Work :=
  cond (decide (w.State = 1)) (cond (f && decide (w.Tries < x.Tries)) ⟨1, T + 1, w.Tries + 1⟩ (cond f ⟨3, w.Since, w.Tries⟩ (cond (decide (w.Since + x.Ticks ≤ T + 1)) ⟨2, w.Since, w.Tries⟩ w))) w
def mid (xs : List Stage) (ws : List Work) (T : Int) (F : Nat → Bool) : List Work := (List.range xs.length).map fun i => st1 (gt xs i) (gt ws i) T (F i)
/-- a stage that begins -/
noncomputable def bg1 (x : Stage) (w : Work) (T : Int) (ms : List Work) : Work := cond (dB (w.State = 0 ∧ rdy x ms)) ⟨1, T, 1⟩ w
noncomputable def bgn (xs : List Stage) (ms : List Work) (T : Int) : List Work := (List.range xs.length).map fun i => bg1 (gt xs i) (gt ms i) T ms
noncomputable def nxt (xs : List Stage) (ws : List Work) (T : Int) (F : Nat → Bool) : List Work := bgn xs (mid xs ws T F) (T + 1)
theorem mid_len {xs : List Stage} {ws : List Work} {T : Int} {F : Nat → Bool} : (mid xs ws T F).length = xs.length := by simp [mid]
theorem bgn_len {xs : List Stage} {ws : List Work} {T : Int} : (bgn xs ws T).length = xs.length := by simp [bgn]
theorem nxt_len {xs : List Stage} {ws : List Work} {T : Int} {F : Nat → Bool} : (nxt xs ws T F).length = xs.length := bgn_len
theorem mid_gt {xs : List Stage} {ws : List Work} {T : Int} {F : Nat → Bool} {i : Nat} (h : i < xs.length) : gt (mid xs ws T F) i = st1 (gt xs i) (gt ws i) T (F i) := gt_map_range _ h
theorem bgn_gt {xs : List Stage} {ws : List Work} {T : Int} {i : Nat} (h : i < xs.length) : gt (bgn xs ws T) i = bg1 (gt xs i) (gt ws i) T ws := gt_map_range _ h
theorem bg1_cases (x : Stage) (w : Work) (T : Int) (ms : List Work) : (w.State = 0 ∧ rdy x ms ∧ bg1 x w T ms = ⟨1, T, 1⟩) ∨ (¬ (w.State = 0 ∧ rdy x ms) ∧ bg1 x w T ms = w) := by
  unfold bg1
  by_cases h : w.State = 0 ∧ rdy x ms
  · rw [dB_T h]; exact .inl ⟨h.1, h.2, rfl⟩
  · rw [dB_F h]; exact .inr ⟨h, rfl⟩
theorem bg1_done (x : Stage) (w : Work) (T : Int) (ms : List Work) : (bg1 x w T ms).State = 2 ↔ w.State = 2 := by
  rcases bg1_cases x w T ms with ⟨h1, _, h2⟩ | ⟨_, h2⟩ <;> rw [h2]
  simp only
  omega
theorem st1_cases (x : Stage) (w : Work) (T : Int) (f : Bool) : (w.State ≠ 1 ∧ st1 x w T f = w) ∨ (w.State = 1 ∧ f = true ∧ w.Tries < x.Tries ∧ st1 x w T f = ⟨1, T + 1, w.Tries + 1⟩) ∨ (w.State = 1 ∧ f = true ∧ ¬ w.Tries < x.Tries ∧ st1 x w T f = ⟨3, w.Since, w.Tries⟩) ∨
    (w.State = 1 ∧ f = false ∧ w.Since + x.Ticks ≤ T + 1 ∧ st1 x w T f = ⟨2, w.Since, w.Tries⟩) ∨ (w.State = 1 ∧ f = false ∧ ¬ w.Since + x.Ticks ≤ T + 1 ∧ st1 x w T f = w) := by
  unfold st1
  by_cases h : w.State = 1
  · rw [dT h]
    cases f with
    | true =>
      by_cases h2 : w.Tries < x.Tries
      · exact .inr (.inl ⟨h, rfl, h2, by rw [dT h2]; rfl⟩)
      · exact .inr (.inr (.inl ⟨h, rfl, h2, by rw [dF h2]; rfl⟩))
    | false =>
      by_cases h2 : w.Since + x.Ticks ≤ T + 1
      · exact .inr (.inr (.inr (.inl ⟨h, rfl, h2, by rw [dT h2]; rfl⟩)))
      · exact .inr (.inr (.inr (.inr ⟨h, rfl, h2, by rw [dF h2]; rfl⟩)))
  · rw [dF h]; exact .inl ⟨h, rfl⟩
theorem nd_lt {xs : List Stage} (h : VS xs) {i : Nat} (hi : i < xs.length) {j : Nat} (hj : j < (gt xs i).Needs.length) : (gt (gt xs i).Needs j).toNat < i := by have := h.nd i hi j hj; omega
theorem rdy_bgn {xs : List Stage} (h : VS xs) {ms : List Work} {T : Int} {i : Nat} (hi : i < xs.length) : rdy (gt xs i) (bgn xs ms T) ↔ rdy (gt xs i) ms := by
  unfold rdy
  have e : ∀ j, j < (gt xs i).Needs.length → ((gt (bgn xs ms T) (gt (gt xs i).Needs j).toNat).State = 2 ↔ (gt ms (gt (gt xs i).Needs j).toNat).State = 2) := fun j hj => by
    rw [bgn_gt (by have := nd_lt h hi hj; omega)]
    exact bg1_done _ _ _ _
  exact ⟨fun a j hj => (e j hj).1 (a j hj), fun a j hj => (e j hj).2 (a j hj)⟩
theorem rdy_mid {xs : List Stage} (h : VS xs) {ws : List Work} {T : Int} {F : Nat → Bool} {i : Nat} (hi : i < xs.length) (hr : rdy (gt xs i) ws) : rdy (gt xs i) (mid xs ws T F) := by
  intro j hj
  have := hr j hj
  rw [mid_gt (by have := nd_lt h hi hj; omega)]
  rcases st1_cases (gt xs (gt (gt xs i).Needs j).toNat) (gt ws (gt (gt xs i).Needs j).toNat) T (F (gt (gt xs i).Needs j).toNat) with h1 | h1 | h1 | h1 | h1 <;> first | omega | (rw [h1.2]; exact this)
theorem nxt_gt {xs : List Stage} {ws : List Work} {T : Int} {F : Nat → Bool} {i : Nat} (h : i < xs.length) : gt (nxt xs ws T F) i = bg1 (gt xs i) (st1 (gt xs i) (gt ws i) T (F i)) (T + 1) (mid xs ws T F) := by
  unfold nxt
  rw [bgn_gt h, mid_gt h]
theorem nxt_done {xs : List Stage} {ws : List Work} {T : Int} {F : Nat → Bool} {i : Nat} (h : i < xs.length) : (gt (nxt xs ws T F) i).State = 2 ↔ (gt (mid xs ws T F) i).State = 2 := by
  rw [nxt_gt h, bg1_done, mid_gt h]
theorem VP_nxt {xs : List Stage} (hs : VS xs) {ws : List Work} {T : Int} (h : VP xs T ws) (ht : T < 2147483648) (F : Nat → Bool) : VP xs (T + 1) (nxt xs ws T F) := by
  refine ⟨by have := h.t0; omega, by omega, nxt_len, fun i hi => ?_⟩
  have t0 := h.t0
  have hw := h.wk i hi
  have hr := rdy_mid hs (T := T) (F := F) hi (ws := ws)
  have hb : rdy (gt xs i) (nxt xs ws T F) ↔ rdy (gt xs i) (mid xs ws T F) := rdy_bgn hs hi
  have tk := hs.tk i hi
  have tr := hs.tr i hi
  unfold wk
  rw [hb, nxt_gt hi]
  generalize rdy (gt xs i) ws = r at hw hr
  unfold wk at hw
  rcases st1_cases (gt xs i) (gt ws i) T (F i) with ⟨h1, h2⟩ | ⟨h1, h3, h4, h2⟩ | ⟨h1, h3, h4, h2⟩ | ⟨h1, h3, h4, h2⟩ | ⟨h1, h3, h4, h2⟩ <;> rw [h2]
  · rcases bg1_cases (gt xs i) (gt ws i) (T + 1) (mid xs ws T F) with ⟨a, b, c⟩ | ⟨b, c⟩ <;> rw [c]
    · exact .inr (.inl ⟨rfl, b, by simp only; omega, by simp only; omega, by simp only; omega, by simp only; omega, by simp only; omega⟩)
    · rcases hw with ⟨k1, k2, k3, k4⟩ | ⟨k1, k2⟩ | ⟨k1, k2, k3, k4, k5, k6⟩ | ⟨k1, k2, k3, k4, k5⟩
      · exact .inl ⟨k1, k2, k3, fun hr => b ⟨k1, hr⟩⟩
      · omega
      · exact .inr (.inr (.inl ⟨k1, hr k2, k3, k4, k5, by omega⟩))
      · exact .inr (.inr (.inr ⟨k1, hr k2, k3, k4, by omega⟩))
  all_goals
    rcases hw with ⟨k1, k2⟩ | ⟨k1, k2, k3, k4, k5, k6, k7⟩ | ⟨k1, k2⟩ | ⟨k1, k2⟩ <;> try omega
  · rcases bg1_cases (gt xs i) ⟨1, T + 1, (gt ws i).Tries + 1⟩ (T + 1) (mid xs ws T F) with ⟨a, b, c⟩ | ⟨b, c⟩ <;> rw [c]
    · simp only at a; omega
    · exact .inr (.inl ⟨rfl, hr k2, by simp only; omega, by simp only; omega, by simp only; omega, by simp only; omega, by simp only; omega⟩)
  · rcases bg1_cases (gt xs i) ⟨3, (gt ws i).Since, (gt ws i).Tries⟩ (T + 1) (mid xs ws T F) with ⟨a, b, c⟩ | ⟨b, c⟩ <;> rw [c]
    · simp only at a; omega
    · exact .inr (.inr (.inr ⟨rfl, hr k2, by simp only; omega, by simp only; omega, by simp only; omega⟩))
  · rcases bg1_cases (gt xs i) ⟨2, (gt ws i).Since, (gt ws i).Tries⟩ (T + 1) (mid xs ws T F) with ⟨a, b, c⟩ | ⟨b, c⟩ <;> rw [c]
    · simp only at a; omega
    · exact .inr (.inr (.inl ⟨rfl, hr k2, by simp only; omega, by simp only; omega, by simp only; omega, by simp only; omega⟩))
  · rcases bg1_cases (gt xs i) (gt ws i) (T + 1) (mid xs ws T F) with ⟨a, b, c⟩ | ⟨b, c⟩ <;> rw [c]
    · omega
    · exact .inr (.inl ⟨k1, hr k2, by omega, by omega, by omega, by omega, by omega⟩)
/-- what begins at a time -/
noncomputable def new0 (xs : List Stage) (T : Int) : List Work := bgn xs (List.replicate xs.length ⟨0, 0, 0⟩) T
theorem new0_gt {xs : List Stage} {T : Int} {i : Nat} (hi : i < xs.length) : ((gt xs i).Needs = [] ∧ gt (new0 xs T) i = ⟨1, T, 1⟩) ∨ ((gt xs i).Needs ≠ [] ∧ gt (new0 xs T) i = ⟨0, 0, 0⟩) := by
  unfold new0
  rw [bgn_gt hi, gt_replicate hi]
  rcases bg1_cases (gt xs i) ⟨0, 0, 0⟩ T (List.replicate xs.length ⟨0, 0, 0⟩) with ⟨a, b, c⟩ | ⟨b, c⟩ <;> rw [c]
  · left
    refine ⟨?_, rfl⟩
    cases hn : (gt xs i).Needs with
    | nil => rfl
    | cons y ys =>
      have := b 0 (by rw [hn]; simp)
      by_cases hlt : (gt (gt xs i).Needs 0).toNat < xs.length
      · rw [gt_replicate hlt] at this; simp at this
      · unfold gt at this; rw [List.getD_eq_getElem?_getD, List.getElem?_eq_none (by simpa [gt] using hlt)] at this
        exact absurd this (by decide)
  · right
    refine ⟨fun e => b ⟨rfl, fun j hj => ?_⟩, rfl⟩
    rw [e] at hj
    simp at hj
theorem VP_new {xs : List Stage} (hs : VS xs) {T : Int} (h0 : 0 ≤ T) (h1 : T ≤ 2147483648) : VP xs T (new0 xs T) := by
  refine ⟨h0, h1, bgn_len, fun i hi => ?_⟩
  have tk := hs.tk i hi
  have tr := hs.tr i hi
  rcases new0_gt (T := T) hi with ⟨a, b⟩ | ⟨a, b⟩ <;> rw [b]
  · exact .inr (.inl ⟨rfl, fun j hj => by rw [a] at hj; simp at hj, by simp only; omega, by simp only; omega, by simp only; omega, by simp only; omega, by simp only; omega⟩)
  · refine .inl ⟨rfl, rfl, rfl, fun hr => ?_⟩
    have hl : 0 < (gt xs i).Needs.length := by cases hn : (gt xs i).Needs with | nil => exact (a hn).elim | cons y ys => simp
    have h2 := hr 0 hl
    rcases new0_gt (xs := xs) (T := T) (i := (gt (gt xs i).Needs 0).toNat) (by have := nd_lt hs hi hl; omega) with ⟨_, c⟩ | ⟨_, c⟩ <;> rw [c] at h2 <;> simp at h2

/-! when stages end -/
/-- the latest end of some stages -/
def mx (l : List Int) (es : List Int) : Int := l.foldl (fun m a => max m (gt es a.toNat)) 0
theorem mx_aux (l : List Int) (es : List Int) : ∀ b : Int, b ≤ l.foldl (fun m a => max m (gt es a.toNat)) b ∧ (∀ a ∈ l, gt es a.toNat ≤ l.foldl (fun m a => max m (gt es a.toNat)) b) ∧ (l.foldl (fun m a => max m (gt es a.toNat)) b = b ∨ ∃ a ∈ l, l.foldl (fun m a => max m (gt es a.toNat)) b = gt es a.toNat) := by
  induction l with
  | nil => intro b; exact ⟨Int.le_refl _, fun a h => by simp at h, .inl rfl⟩
  | cons x l ih =>
    intro b
    obtain ⟨h1, h2, h3⟩ := ih (max b (gt es x.toNat))
    simp only [List.foldl_cons]
    refine ⟨by omega, fun a ha => ?_, ?_⟩
    · rcases List.mem_cons.1 ha with rfl | ha
      · omega
      · exact h2 a ha
    · rcases h3 with h3 | ⟨a, ha, h3⟩
      · by_cases hc : b ≤ gt es x.toNat
        · right; exact ⟨x, by simp, by omega⟩
        · left; omega
      · right; exact ⟨a, by simp [ha], h3⟩
theorem mx_nn (l es : List Int) : 0 ≤ mx l es := (mx_aux l es 0).1
theorem mx_le {l es : List Int} {j : Nat} (h : j < l.length) : gt es (gt l j).toNat ≤ mx l es := (mx_aux l es 0).2.1 _ (gt_mem h)
theorem mx_at (l es : List Int) : mx l es = 0 ∨ ∃ j, j < l.length ∧ mx l es = gt es (gt l j).toNat := by
  rcases (mx_aux l es 0).2.2 with h | ⟨a, ha, h⟩
  · exact .inl h
  · obtain ⟨j, hj, rfl⟩ := mem_gt ha
    exact .inr ⟨j, hj, h⟩
theorem mx_congr {l es es' : List Int} (h : ∀ j, j < l.length → gt es (gt l j).toNat = gt es' (gt l j).toNat) : mx l es = mx l es' := by
  apply Int.le_antisymm
  · rcases mx_at l es with e | ⟨j, hj, e⟩
    · rw [e]; exact mx_nn _ _
    · rw [e, h j hj]; exact mx_le hj
  · rcases mx_at l es' with e | ⟨j, hj, e⟩
    · rw [e]; exact mx_nn _ _
    · rw [e, ← h j hj]; exact mx_le hj
/-- the end of a stage, from now on -/
def ef (x : Stage) (w : Work) (T : Int) (es : List Int) : Int := cond (decide (w.State = 1)) (w.Since + x.Ticks - T) (cond (decide (w.State = 0)) (mx x.Needs es + x.Ticks) 0)
theorem ef1 {x : Stage} {w : Work} {T : Int} {es : List Int} (h : w.State = 1) : ef x w T es = w.Since + x.Ticks - T := by unfold ef; rw [dT h]; rfl
theorem ef0 {x : Stage} {w : Work} {T : Int} {es : List Int} (h : w.State = 0) : ef x w T es = mx x.Needs es + x.Ticks := by unfold ef; rw [dF (by omega), dT h]; rfl
theorem ef2 {x : Stage} {w : Work} {T : Int} {es : List Int} (h : w.State ≠ 0) (h' : w.State ≠ 1) : ef x w T es = 0 := by unfold ef; rw [dF h', dF h]; rfl
structure EN (xs : List Stage) (ws : List Work) (T : Int) (es : List Int) : Prop where
  ln : es.length = xs.length
  eq : ∀ i, i < xs.length → gt es i = ef (gt xs i) (gt ws i) T es
/-- the greatest of some numbers -/
def Top (es : List Int) (L : Int) : Prop := (∀ i, i < es.length → gt es i ≤ L) ∧ ∃ i, i < es.length ∧ gt es i = L
/-- ends are never negative, and 0 where a stage is done -/
theorem en_pos {xs : List Stage} (hs : VS xs) {ws : List Work} {T : Int} (h : VP xs T ws) {es : List Int} (he : EN xs ws T es) (hn : ∀ i, i < xs.length → (gt ws i).State ≠ 3) {i : Nat} (hi : i < xs.length) : 0 ≤ gt es i ∧ (gt es i = 0 ↔ (gt ws i).State = 2) := by
  have hw := h.wk i hi
  have tk := hs.tk i hi
  have h3 := hn i hi
  rw [he.eq i hi]
  rcases hw with ⟨k1, k2⟩ | ⟨k1, k2, k3, k4, k5, k6, k7⟩ | ⟨k1, k2⟩ | ⟨k1, k2⟩
  · rw [ef0 k1]
    have := mx_nn (gt xs i).Needs es
    omega
  · rw [ef1 k1]; omega
  · rw [ef2 (by omega) (by omega)]; omega
  · omega
theorem end_step {xs : List Stage} (hs : VS xs) {ws : List Work} {T : Int} (h : VP xs T ws) {es es' : List Int} (he : EN xs ws T es) (he' : EN xs (nxt xs ws T fun _ => false) (T + 1) es') (hn : ∀ i, i < xs.length → (gt ws i).State ≠ 3) :
    ∀ i, i < xs.length → gt es' i = max 0 (gt es i - 1) ∧ (gt (nxt xs ws T fun _ => false) i).State ≠ 3 ∧ ((gt (nxt xs ws T fun _ => false) i).State = 2 ↔ gt es' i = 0) := by
  intro i
  induction i using Nat.strongRecOn with
  | _ i ih =>
    intro hi
    have hw := h.wk i hi
    have tk := hs.tk i hi
    have tr := hs.tr i hi
    have h3 := hn i hi
    rw [he'.eq i hi, he.eq i hi, nxt_gt hi]
    rcases st1_cases (gt xs i) (gt ws i) T false with ⟨h1, h2⟩ | ⟨h1, h3, h4, h2⟩ | ⟨h1, h3, h4, h2⟩ | ⟨h1, h3, h4, h2⟩ | ⟨h1, h3, h4, h2⟩ <;> try (simp at h3; done)
    all_goals rw [h2]
    · rcases hw with ⟨k1, k2, k3, k4⟩ | ⟨k1, k2⟩ | ⟨k1, k2⟩ | ⟨k1, k2⟩
      · rw [ef0 k1]
        have hM : 1 ≤ mx (gt xs i).Needs es := by
          apply Classical.byContradiction
          intro hc
          apply k4
          intro j hj
          have hlt := nd_lt hs hi hj
          have a := mx_le (es := es) hj
          have b := en_pos hs h he hn (i := (gt (gt xs i).Needs j).toNat) (by omega)
          exact b.2.1 (by omega)
        have hM' : mx (gt xs i).Needs es' = mx (gt xs i).Needs es - 1 := by
          apply Int.le_antisymm
          · rcases mx_at (gt xs i).Needs es' with e | ⟨j, hj, e⟩
            · omega
            · have hlt := nd_lt hs hi hj
              have a := (ih _ hlt (by omega)).1
              have b := mx_le (es := es) hj
              rw [e, a]; omega
          · rcases mx_at (gt xs i).Needs es with e | ⟨j, hj, e⟩
            · omega
            · have hlt := nd_lt hs hi hj
              have a := (ih _ hlt (by omega)).1
              have b := mx_le (es := es') hj
              omega
        rcases bg1_cases (gt xs i) (gt ws i) (T + 1) (mid xs ws T fun _ => false) with ⟨a, b, c⟩ | ⟨b, c⟩ <;> rw [c]
        · rw [ef1 rfl]
          have hz : mx (gt xs i).Needs es' = 0 := by
            rcases mx_at (gt xs i).Needs es' with e | ⟨j, hj, e⟩
            · exact e
            · have hlt := nd_lt hs hi hj
              rw [e]
              refine (ih _ hlt (by omega)).2.2.1 ?_
              exact (nxt_done (by omega)).2 (b j hj)
          simp only
          refine ⟨by omega, by omega, by omega⟩
        · rw [ef0 k1]
          have hz : mx (gt xs i).Needs es' ≠ 0 := by
            intro hz
            apply b
            refine ⟨k1, fun j hj => ?_⟩
            have hlt := nd_lt hs hi hj
            refine (nxt_done (by omega)).1 ((ih _ hlt (by omega)).2.2.2 ?_)
            have p := mx_le (es := es') hj
            have q := (ih _ hlt (by omega)).1
            omega
          have := mx_nn (gt xs i).Needs es'
          refine ⟨by omega, by omega, by omega⟩
      · omega
      · have c : bg1 (gt xs i) (gt ws i) (T + 1) (mid xs ws T fun _ => false) = gt ws i := by
          rcases bg1_cases (gt xs i) (gt ws i) (T + 1) (mid xs ws T fun _ => false) with ⟨a, b, c⟩ | ⟨b, c⟩
          · omega
          · exact c
        rw [c, ef2 (by omega) (by omega), ef2 (by omega) (by omega)]
        refine ⟨by omega, by omega, by omega⟩
      · omega
    all_goals
      rcases hw with ⟨k1, k2⟩ | ⟨k1, k2, k3, k4, k5, k6, k7⟩ | ⟨k1, k2⟩ | ⟨k1, k2⟩ <;> try omega
    · rcases bg1_cases (gt xs i) ⟨2, (gt ws i).Since, (gt ws i).Tries⟩ (T + 1) (mid xs ws T fun _ => false) with ⟨a, b, c⟩ | ⟨b, c⟩ <;> rw [c]
      · simp only at a; omega
      · rw [ef2 (by simp) (by simp), ef1 k1]
        simp only
        refine ⟨by omega, by omega, by simp⟩
    · rcases bg1_cases (gt xs i) (gt ws i) (T + 1) (mid xs ws T fun _ => false) with ⟨a, b, c⟩ | ⟨b, c⟩ <;> rw [c]
      · omega
      · rw [ef1 k1, ef1 k1]
        refine ⟨by omega, by omega, by omega⟩

/-! with fails -/
/-- what a stage may still take, if its tries are not used up -/
def pf (x : Stage) (w : Work) (T : Int) (es : List Int) : Int := cond (decide (w.State = 1)) (w.Since + x.Ticks - T + (x.Tries - w.Tries) * x.Ticks) (cond (decide (w.State = 0)) (mx x.Needs es + x.Ticks * x.Tries) 0)
theorem pf1 {x : Stage} {w : Work} {T : Int} {es : List Int} (h : w.State = 1) : pf x w T es = w.Since + x.Ticks - T + (x.Tries - w.Tries) * x.Ticks := by unfold pf; rw [dT h]; rfl
theorem pf0 {x : Stage} {w : Work} {T : Int} {es : List Int} (h : w.State = 0) : pf x w T es = mx x.Needs es + x.Ticks * x.Tries := by unfold pf; rw [dF (by omega), dT h]; rfl
theorem pf2 {x : Stage} {w : Work} {T : Int} {es : List Int} (h : w.State ≠ 0) (h' : w.State ≠ 1) : pf x w T es = 0 := by unfold pf; rw [dF h', dF h]; rfl
/-- an upper bound of each stage's end -/
structure PtO (xs : List Stage) (ws : List Work) (T : Int) (es : List Int) : Prop where
  ln : es.length = xs.length
  eq : ∀ i, i < xs.length → gt es i = pf (gt xs i) (gt ws i) T es
theorem po_ex (xs : List Stage) (hs : VS xs) (ws : List Work) (T : Int) : ∃ es, PtO xs ws T es := by
  have key : ∀ k, k ≤ xs.length → ∃ es : List Int, es.length = k ∧ ∀ i, i < k → gt es i = pf (gt xs i) (gt ws i) T es := by
    intro k
    induction k with
    | zero => intro _; exact ⟨[], rfl, fun i h => by omega⟩
    | succ k ih =>
      intro hk
      obtain ⟨es, h1, h2⟩ := ih (by omega)
      have cg : ∀ i, i ≤ k → ∀ y, pf (gt xs i) (gt ws i) T (es ++ [y]) = pf (gt xs i) (gt ws i) T es := fun i hi y => by
        unfold pf
        rw [mx_congr (es := es ++ [y]) (es' := es) fun j hj => by
          have := nd_lt hs (i := i) (by omega) hj
          exact gt_app_left (by omega)]
      refine ⟨es ++ [pf (gt xs k) (gt ws k) T es], by simp [h1], fun i hi => ?_⟩
      rw [cg i (by omega)]
      by_cases he : i = k
      · subst he; rw [← h1, gt_app_last, h1]
      · rw [gt_app_left (by omega)]; exact h2 i (by omega)
  obtain ⟨es, h1, h2⟩ := key xs.length (Nat.le_refl _)
  exact ⟨es, h1, h2⟩
theorem po_pos {xs : List Stage} (hs : VS xs) {ws : List Work} {T : Int} (h : VP xs T ws) {es : List Int} (he : PtO xs ws T es) (hn : ∀ i, i < xs.length → (gt ws i).State ≠ 3) {i : Nat} (hi : i < xs.length) : 0 ≤ gt es i ∧ (gt es i = 0 ↔ (gt ws i).State = 2) := by
  have hw := h.wk i hi
  have tk := hs.tk i hi
  have tr := hs.tr i hi
  have h3 := hn i hi
  rw [he.eq i hi]
  rcases hw with ⟨k1, k2⟩ | ⟨k1, k2, k3, k4, k5, k6, k7⟩ | ⟨k1, k2⟩ | ⟨k1, k2⟩
  · rw [pf0 k1]
    have := mx_nn (gt xs i).Needs es
    have h5 : 1 * 1 ≤ (gt xs i).Ticks * (gt xs i).Tries := Int.mul_le_mul tk.1 tr.1 (by omega) (by omega)
    omega
  · rw [pf1 k1]
    have h5 : 0 ≤ ((gt xs i).Tries - (gt ws i).Tries) * (gt xs i).Ticks := Int.mul_nonneg (by omega) (by omega)
    omega
  · rw [pf2 (by omega) (by omega)]; omega
  · omega
theorem po_step {xs : List Stage} (hs : VS xs) {ws : List Work} {T : Int} (h : VP xs T ws) {es es' : List Int} (he : PtO xs ws T es) {F : Nat → Bool} (he' : PtO xs (nxt xs ws T F) (T + 1) es') (hn : ∀ i, i < xs.length → (gt ws i).State ≠ 3)
    (hF : ∀ i, i < xs.length → F i = true → (gt ws i).Tries < (gt xs i).Tries) :
    ∀ i, i < xs.length → gt es' i ≤ max 0 (gt es i - 1) ∧ (gt (nxt xs ws T F) i).State ≠ 3 := by
  intro i
  induction i using Nat.strongRecOn with
  | _ i ih =>
    intro hi
    have hw := h.wk i hi
    have tk := hs.tk i hi
    have tr := hs.tr i hi
    have h3 := hn i hi
    have hf := hF i hi
    rw [he'.eq i hi, he.eq i hi, nxt_gt hi]
    rcases st1_cases (gt xs i) (gt ws i) T (F i) with ⟨h1, h2⟩ | ⟨h1, h3, h4, h2⟩ | ⟨h1, h3, h4, h2⟩ | ⟨h1, h3, h4, h2⟩ | ⟨h1, h3, h4, h2⟩
    all_goals rw [h2]
    · rcases hw with ⟨k1, k2, k3, k4⟩ | ⟨k1, k2⟩ | ⟨k1, k2⟩ | ⟨k1, k2⟩
      · rw [pf0 k1]
        have hM : 1 ≤ mx (gt xs i).Needs es := by
          apply Classical.byContradiction
          intro hc
          apply k4
          intro j hj
          have hlt := nd_lt hs hi hj
          have a := mx_le (es := es) hj
          have b := po_pos hs h he hn (i := (gt (gt xs i).Needs j).toNat) (by omega)
          exact b.2.1 (by omega)
        have hM' : mx (gt xs i).Needs es' ≤ mx (gt xs i).Needs es - 1 := by
          rcases mx_at (gt xs i).Needs es' with e | ⟨j, hj, e⟩
          · omega
          · have hlt := nd_lt hs hi hj
            have a := (ih _ hlt (by omega)).1
            have b := mx_le (es := es) hj
            omega
        have h5 : 1 * 1 ≤ (gt xs i).Ticks * (gt xs i).Tries := Int.mul_le_mul tk.1 tr.1 (by omega) (by omega)
        rcases bg1_cases (gt xs i) (gt ws i) (T + 1) (mid xs ws T F) with ⟨a, b, c⟩ | ⟨b, c⟩ <;> rw [c]
        · rw [pf1 rfl]
          simp only
          have h6 : ((gt xs i).Tries - 1) * (gt xs i).Ticks = (gt xs i).Ticks * (gt xs i).Tries - (gt xs i).Ticks := by rw [Int.sub_mul, Int.mul_comm, Int.one_mul]
          refine ⟨by omega, by omega⟩
        · rw [pf0 k1]
          refine ⟨by omega, by omega⟩
      · omega
      · have c : bg1 (gt xs i) (gt ws i) (T + 1) (mid xs ws T F) = gt ws i := by
          rcases bg1_cases (gt xs i) (gt ws i) (T + 1) (mid xs ws T F) with ⟨a, b, c⟩ | ⟨b, c⟩
          · omega
          · exact c
        rw [c, pf2 (by omega) (by omega), pf2 (by omega) (by omega)]
        refine ⟨by omega, by omega⟩
      · omega
    all_goals
      rcases hw with ⟨k1, k2⟩ | ⟨k1, k2, k3, k4, k5, k6, k7⟩ | ⟨k1, k2⟩ | ⟨k1, k2⟩ <;> try omega
    · rcases bg1_cases (gt xs i) ⟨1, T + 1, (gt ws i).Tries + 1⟩ (T + 1) (mid xs ws T F) with ⟨a, b, c⟩ | ⟨b, c⟩ <;> rw [c]
      · simp only at a; omega
      · rw [pf1 rfl, pf1 k1]
        simp only
        have h6 : ((gt xs i).Tries - ((gt ws i).Tries + 1)) * (gt xs i).Ticks = ((gt xs i).Tries - (gt ws i).Tries) * (gt xs i).Ticks - (gt xs i).Ticks := by rw [show (gt xs i).Tries - ((gt ws i).Tries + 1) = (gt xs i).Tries - (gt ws i).Tries - 1 by omega, Int.sub_mul, Int.one_mul]
        have h7 : 0 ≤ ((gt xs i).Tries - (gt ws i).Tries - 1) * (gt xs i).Ticks := Int.mul_nonneg (by omega) (by omega)
        rw [Int.sub_mul, Int.one_mul] at h7
        refine ⟨by omega, by omega⟩
    · exact absurd (hf h3) h4
    · rcases bg1_cases (gt xs i) ⟨2, (gt ws i).Since, (gt ws i).Tries⟩ (T + 1) (mid xs ws T F) with ⟨a, b, c⟩ | ⟨b, c⟩ <;> rw [c]
      · simp only at a; omega
      · rw [pf2 (by simp) (by simp), pf1 k1]
        simp only
        refine ⟨by omega, by omega⟩
    · rcases bg1_cases (gt xs i) (gt ws i) (T + 1) (mid xs ws T F) with ⟨a, b, c⟩ | ⟨b, c⟩ <;> rw [c]
      · omega
      · rw [pf1 k1, pf1 k1]
        have h7 : 0 ≤ ((gt xs i).Tries - (gt ws i).Tries) * (gt xs i).Ticks := Int.mul_nonneg (by omega) (by omega)
        refine ⟨by omega, by omega⟩
end Rx
end Go.Proofs.Ytnpnaopnhgkapaa
