/- Stable sorting by merging: parts. Plain laws. Written by a program (wip/gen/mkfm.py). -/
import Derived.Test.YtkgfdplcjdidhaaFs
set_option linter.unusedVariables false
set_option linter.unusedSimpArgs false
set_option linter.unusedSectionVars false
namespace Go.Proofs.Ytkgfdplcjdidhaa
open Go Go.RowKit Dp
namespace Rx

section
variable {α : Type} [Rep α] {key : α → Int}
theorem gt_app (l m : List α) (k : Nat) : gt (l ++ m) k = if k < l.length then gt l k else gt m (k - l.length) := by
  by_cases h : k < l.length
  · rw [if_pos h, gt_app_left h]
  · rw [if_neg h]
    unfold gt
    simp [List.getD_eq_getElem?_getD, List.getElem?_append_right (show l.length ≤ k by omega)]
theorem gt_in {P X R : List α} {k : Nat} (h1 : P.length ≤ k) (h2 : k < P.length + X.length) : gt (P ++ (X ++ R)) k = gt X (k - P.length) := by
  rw [gt_app, if_neg (by omega), gt_app, if_pos (by omega)]
theorem gt_in2 {P X Y R : List α} {k : Nat} (h1 : P.length + X.length ≤ k) (h2 : k < P.length + X.length + Y.length) : gt (P ++ (X ++ (Y ++ R))) k = gt Y (k - P.length - X.length) := by
  rw [gt_app, if_neg (by omega), gt_app, if_neg (by omega), gt_app, if_pos (by omega)]
theorem wk_gt {l : List α} (h : Wk key l) {i j : Nat} (hij : i ≤ j) (hj : j < l.length) : key (gt l i) ≤ key (gt l j) := by
  rcases Nat.lt_or_ge i j with hlt | hge
  · have := List.pairwise_iff_getElem.1 h i j (by omega) hj hlt
    rwa [gt_get (by omega), gt_get hj]
  · have : i = j := by omega
    subst this; exact Int.le_refl _
theorem gt_take {l : List α} {n k : Nat} (h : k < (l.take n).length) : gt (l.take n) k = gt l k := by
  have : k < l.length := by simp at h; omega
  rw [gt_get h, gt_get this]; simp
theorem gt_drop {l : List α} {n k : Nat} (h : k < (l.drop n).length) : gt (l.drop n) k = gt l (n + k) := by
  have : n + k < l.length := by simp at h; omega
  rw [gt_get h, gt_get this]; simp
theorem idx_mid (P S : List α) (x : α) {k : Int} (h : k = (P.length : Int)) : idx (P ++ x :: S) k = some x := by subst h; exact at0 P x S
theorem setO_mid (P S : List α) (x y : α) {k : Int} (h : k = (P.length : Int)) : setO (P ++ x :: S) k y = some (P ++ y :: S) := by
  subst h
  rw [setO_nat (by simp), set0]
/-- a binary search -/
theorem bs_run {step : Int × Int → Option ((Int × Int) ⊕ Int)} (Pr : Nat → Prop) {lo hi : Nat} (hle : lo ≤ hi) (hhi : hi ≤ 1000000) (mono : ∀ p q, lo ≤ p → p ≤ q → q < hi → Pr q → Pr p)
    (s1 : ∀ i j h : Nat, lo ≤ i → i < j → j ≤ hi → h = (i + j) / 2 → (Pr h → step ((i : Int), (j : Int)) = some (.inl (((h + 1 : Nat) : Int), (j : Int)))) ∧ (¬ Pr h → step ((i : Int), (j : Int)) = some (.inl ((i : Int), (h : Int)))))
    (s2 : ∀ i : Nat, step ((i : Int), (i : Int)) = some (.inr (i : Int))) :
    ∃ r : Nat, loopO step ((lo : Int), (hi : Int)) = some (r : Int) ∧ lo ≤ r ∧ r ≤ hi ∧ (∀ p, lo ≤ p → p < r → Pr p) ∧ ∀ p, r ≤ p → p < hi → ¬ Pr p := by
  have h : Wp (loopO step ((lo : Int), (hi : Int))) fun x => ∃ r : Nat, x = (r : Int) ∧ lo ≤ r ∧ r ≤ hi ∧ (∀ p, lo ≤ p → p < r → Pr p) ∧ ∀ p, r ≤ p → p < hi → ¬ Pr p := by
    refine wp_while (fun s => (s.2 - s.1).toNat) (fun s => ∃ i j : Nat, s = ((i : Int), (j : Int)) ∧ lo ≤ i ∧ i ≤ j ∧ j ≤ hi ∧ (∀ p, lo ≤ p → p < i → Pr p) ∧ ∀ p, j ≤ p → p < hi → ¬ Pr p) (fun s hs => ?_) ⟨lo, hi, rfl, Nat.le_refl _, hle, Nat.le_refl _, fun p h1 h2 => by omega, fun p h1 h2 => by omega⟩ (by simp only; omega)
    obtain ⟨i, j, rfl, i1, i2, i3, i4, i5⟩ := hs
    rcases Nat.lt_or_ge i j with hlt | hge
    · obtain ⟨h, hh⟩ : ∃ h, h = (i + j) / 2 := ⟨_, rfl⟩
      obtain ⟨t1, t2⟩ := s1 i j h i1 hlt i3 hh
      by_cases hp : Pr h
      · rw [t1 hp]
        refine wp_some.2 ⟨⟨h + 1, j, rfl, by omega, by omega, i3, fun p p1 p2 => mono p h p1 (by omega) (by omega) hp, i5⟩, by simp only; omega⟩
      · rw [t2 hp]
        refine wp_some.2 ⟨⟨i, h, rfl, i1, by omega, by omega, i4, fun p p1 p2 hpp => hp (mono h p (by omega) p1 p2 hpp)⟩, by simp only; omega⟩
    · have : i = j := by omega
      subst this
      rw [s2]
      exact wp_some.2 ⟨i, rfl, i1, i3, i4, i5⟩
  obtain ⟨x, hx, r, rfl, h1⟩ := h
  exact ⟨r, hx, h1⟩
/-- insertion behind a prefix -/
theorem insP_run {step : Int × List α → Option ((Int × List α) ⊕ List α)} {G : α → Prop} {P : List α}
    (s0 : ∀ d, step ((P.length : Int), d) = some (.inr d))
    (s1 : ∀ (a : List α) (y x : α) (b : List α), a.length + b.length ≤ 1000 → G y → G x → step (((P.length + a.length + 1 : Nat) : Int), P ++ (a ++ y :: x :: b)) = if key x < key y then some (.inl (((P.length + a.length : Nat) : Int), P ++ (a ++ x :: y :: b))) else some (.inr (P ++ (a ++ y :: x :: b)))) :
    ∀ (r : List α) (x : α) (b : List α), r.length + b.length ≤ 1000 → (∀ z ∈ r, G z) → G x → ∃ k, k ≤ r.length ∧ Runs step k (((P.length + r.length : Nat) : Int), P ++ (r.reverse ++ x :: b)) (P ++ ((insR key x r).reverse ++ b)) := by
  intro r
  induction r with
  | nil => intro x b _ _ _; exact ⟨0, Nat.le_refl _, .done (s0 _)⟩
  | cons y r ih =>
    intro x b hl hr hx
    have hs := s1 r.reverse y x b (by simp at hl ⊢; omega) (hr y List.mem_cons_self) hx
    rw [List.length_reverse] at hs
    have e1 : (y :: r).reverse ++ x :: b = r.reverse ++ y :: x :: b := by simp
    rw [e1]
    by_cases hlt : key x < key y
    · obtain ⟨k, hk, hrun⟩ := ih x (y :: b) (by simp at hl ⊢; omega) (fun z hz => hr z (List.mem_cons_of_mem _ hz)) hx
      rw [if_pos hlt] at hs
      refine ⟨k + 1, by simp; omega, ?_⟩
      have e2 : (insR key x (y :: r)).reverse ++ b = (insR key x r).reverse ++ y :: b := by
        rw [insR, if_pos hlt]; simp
      rw [e2]
      exact .more hs hrun
    · rw [if_neg hlt] at hs
      refine ⟨0, Nat.zero_le _, ?_⟩
      have e2 : (insR key x (y :: r)).reverse ++ b = r.reverse ++ y :: x :: b := by
        rw [insR, if_neg hlt]; simp
      rw [e2]
      exact .done hs
theorem srtP_run {step : Int × List α → Option ((Int × List α) ⊕ List α)} {G : α → Prop} {P S : List α} {n : Nat} (hn : n ≤ 1000)
    (s1 : ∀ (r : List α) (x : α) (b : List α), r.length + 1 + b.length = n → (∀ z ∈ r, G z) → G x → step (((P.length + r.length : Nat) : Int), P ++ (r.reverse ++ x :: (b ++ S))) = some (.inl (((P.length + r.length + 1 : Nat) : Int), P ++ ((insR key x r).reverse ++ (b ++ S)))))
    (s2 : ∀ d, step (((P.length + n : Nat) : Int), d) = some (.inr d)) :
    ∀ (b r : List α), r.length + b.length = n → (∀ z ∈ r, G z) → (∀ z ∈ b, G z) → Runs step b.length (((P.length + r.length : Nat) : Int), P ++ (r.reverse ++ (b ++ S))) (P ++ ((srtR key r b).reverse ++ S)) := by
  intro b
  induction b with
  | nil =>
    intro r hl _ _
    have : r.length = n := by simpa using hl
    rw [this, List.nil_append]
    exact .done (s2 _)
  | cons x b ih =>
    intro r hl hr hb
    have h := s1 r x b (by simp at hl; omega) hr (hb x List.mem_cons_self)
    have := ih (insR key x r) (by rw [insR_len]; simp at hl; omega) (fun z hz => (insR_mem.1 hz).elim (fun e => e ▸ hb _ List.mem_cons_self) (hr z)) (fun z hz => hb z (List.mem_cons_of_mem _ hz))
    rw [insR_len] at this
    exact .more h this
/-- blocks of a list are sorted -/
def Sb (key : α → Int) (B : Nat) (q : Nat) (d : List α) : Prop := Wk key ((d.drop q).take B)
theorem sb_pre {P R R' : List α} {B q : Nat} (h : q + B ≤ P.length) (hs : Sb key B q (P ++ R)) : Sb key B q (P ++ R') := by
  unfold Sb at hs ⊢
  rw [List.drop_append_of_le_length (by omega), List.take_append_of_le_length (by simp; omega)] at hs ⊢
  exact hs
theorem sb_post {P Z Z' S : List α} {B q : Nat} (hz : Z.length = Z'.length) (h : P.length + Z.length ≤ q) (hs : Sb key B q (P ++ (Z ++ S))) : Sb key B q (P ++ (Z' ++ S)) := by
  unfold Sb at hs ⊢
  have e : ∀ W : List α, W.length = Z.length → (P ++ (W ++ S)).drop q = S.drop (q - P.length - Z.length) := fun W hW => by
    rw [← List.append_assoc, List.drop_append]
    have : (P ++ W).drop q = [] := List.drop_eq_nil_of_le (by simp; omega)
    rw [this, List.nil_append]
    congr 1
    simp; omega
  rw [e Z rfl] at hs
  rw [e Z' hz.symm]
  exact hs
theorem Wk.take {l : List α} (h : Wk key l) (n : Nat) : Wk key (l.take n) := h.sublist (List.take_sublist _ _)
theorem Wk.drop {l : List α} (h : Wk key l) (n : Nat) : Wk key (l.drop n) := h.sublist (List.drop_sublist _ _)
end
/-! Part -/
theorem cmpP {a b : Part} (ha : VP a) (hb : VP b) : ∃ c, design_Compare a b = some c ∧ decide (c < 0) = decide (pk a < pk b) := by
  obtain ⟨c, hc, c1, _⟩ := pcmp_eq ha hb
  refine ⟨c, hc, ?_⟩
  by_cases h : pk a < pk b
  · rw [dT h, dT (c1.2 h)]
  · rw [dF h, dF (fun hh => h (c1.1 hh))]
theorem swapP (P X M Y S : List Part) (h : X.length = Y.length) (hl : P.length + X.length + M.length + Y.length + S.length ≤ 1000) : slices_swapRangeCmpFunc_Part (P ++ (X ++ (M ++ (Y ++ S)))) (P.length : Int) ((P.length + X.length + M.length : Nat) : Int) (X.length : Int) = some (P ++ (Y ++ (M ++ (X ++ S)))) := by
  have key : ∀ (X Y P M : List Part) (i : Nat) (a b n : Nat), X.length = Y.length → P.length = a + i → P.length + X.length + M.length = b + i → n = i + X.length → P.length + X.length + M.length + Y.length + S.length ≤ 1000 → Runs (slices_swapRangeCmpFunc_Part_L1 (a : Int) (b : Int) (n : Int)) X.length ((i : Int), P ++ (X ++ (M ++ (Y ++ S)))) (P ++ (Y ++ (M ++ (X ++ S)))) := by
    intro X
    induction X with
    | nil =>
      intro Y P M i a b n h1 h2 h3 h4 h5
      have : Y = [] := List.eq_nil_of_length_eq_zero (by simpa using h1.symm)
      subst this
      refine .done ?_
      unfold slices_swapRangeCmpFunc_Part_L1
      simp only [dF (c := (i : Int) < (n : Int)) (by simp at h4; omega), Bool.false_eq_true, if_false]
    | cons x X ih =>
      intro Y P M i a b n h1 h2 h3 h4 h5
      cases Y with
      | nil => simp at h1
      | cons y Y =>
        simp only [List.length_cons] at h1 h3 h4 h5
        have hr := ih Y (P ++ [y]) (M ++ [x]) (i + 1) a b n (by omega) (by simp; omega) (by simp; omega) (by omega) (by simp; omega)
        refine .more ?_ (by simpa using hr)
        unfold slices_swapRangeCmpFunc_Part_L1
        have wa : W ((a : Int) + (i : Int)) = (P.length : Int) := by rw [W_sm (by omega) (by omega)]; omega
        have wb : W ((b : Int) + (i : Int)) = ((P.length + 1 + X.length + M.length : Nat) : Int) := by rw [W_sm (by omega) (by omega)]; omega
        have e1 : P ++ (x :: X ++ (M ++ (y :: Y ++ S))) = (P ++ x :: (X ++ M)) ++ y :: (Y ++ S) := by simp
        have e2 : P ++ y :: (X ++ (M ++ (y :: Y ++ S))) = (P ++ y :: (X ++ M)) ++ y :: (Y ++ S) := by simp
        have i1 : idx (P ++ (x :: X ++ (M ++ (y :: Y ++ S)))) ((P.length + 1 + X.length + M.length : Nat) : Int) = some y := by rw [e1]; exact idx_mid _ _ _ (by simp; omega)
        have i2 : idx (P ++ (x :: X ++ (M ++ (y :: Y ++ S)))) (P.length : Int) = some x := idx_mid P _ _ rfl
        have i3 : setO (P ++ (x :: X ++ (M ++ (y :: Y ++ S)))) (P.length : Int) y = some (P ++ y :: (X ++ (M ++ (y :: Y ++ S)))) := setO_mid P _ _ _ rfl
        have i4 : idx (P ++ y :: (X ++ (M ++ (y :: Y ++ S)))) ((P.length + 1 + X.length + M.length : Nat) : Int) = some y := by rw [e2]; exact idx_mid _ _ _ (by simp; omega)
        have i5 : setO (P ++ y :: (X ++ (M ++ (y :: Y ++ S)))) ((P.length + 1 + X.length + M.length : Nat) : Int) x = some (P ++ y :: (X ++ (M ++ (x :: Y ++ S)))) := by
          rw [e2, setO_mid _ _ _ _ (by simp; omega)]; simp
        simp only [dT (c := (i : Int) < (n : Int)) (by omega), if_true, wa, wb, i1, i2, i3, i4, i5, Option.bind_some]
        rw [W_succ (by omega)]
        simp
  have := key X Y P M 0 P.length (P.length + X.length + M.length) X.length h (by omega) (by omega) (by omega) hl
  unfold slices_swapRangeCmpFunc_Part
  rw [show (0 : Int) = ((0 : Nat) : Int) from rfl, loopO_of this (by omega)]
  rfl
theorem rotP (P X Y S : List Part) (hx : X ≠ []) (hy : Y ≠ []) (hl : P.length + X.length + Y.length + S.length ≤ 1000) : slices_rotateCmpFunc_Part (P ++ (X ++ (Y ++ S))) (P.length : Int) ((P.length + X.length : Nat) : Int) ((P.length + X.length + Y.length : Nat) : Int) = some (P ++ (Y ++ (X ++ S))) := by
  have hx0 : 0 < X.length := List.length_pos_iff.2 hx
  have hy0 : 0 < Y.length := List.length_pos_iff.2 hy
  unfold slices_rotateCmpFunc_Part
  have w1 : W (((P.length + X.length : Nat) : Int) - (P.length : Int)) = (X.length : Int) := by rw [W_sm (by omega) (by omega)]; omega
  have w2 : W (((P.length + X.length + Y.length : Nat) : Int) - ((P.length + X.length : Nat) : Int)) = (Y.length : Int) := by rw [W_sm (by omega) (by omega)]; omega
  rw [w1, w2]
  obtain ⟨m, hm⟩ : ∃ m, m = P.length + X.length := ⟨_, rfl⟩
  have hloop : Wp (loopO (slices_rotateCmpFunc_Part_L1 ((P.length + X.length : Nat) : Int)) ((X.length : Int), (Y.length : Int), P ++ (X ++ (Y ++ S)))) fun r => ∃ P' X' Y' S' : List Part, r = ((X'.length : Int), P' ++ (X' ++ (Y' ++ S'))) ∧ X'.length = Y'.length ∧ P'.length + X'.length = m ∧ P'.length + X'.length + Y'.length + S'.length ≤ 1000 ∧ P' ++ (Y' ++ (X' ++ S')) = P ++ (Y ++ (X ++ S)) := by
    refine wp_while (fun s => (s.1 + s.2.1).toNat) (fun s => ∃ P' X' Y' S' : List Part, s = ((X'.length : Int), (Y'.length : Int), P' ++ (X' ++ (Y' ++ S'))) ∧ 0 < X'.length ∧ 0 < Y'.length ∧ P'.length + X'.length = m ∧ P'.length + X'.length + Y'.length + S'.length ≤ 1000 ∧ P' ++ (Y' ++ (X' ++ S')) = P ++ (Y ++ (X ++ S))) (fun s hs => ?_) ⟨P, X, Y, S, rfl, hx0, hy0, hm.symm, hl, rfl⟩ (by simp only; omega)
    obtain ⟨P', X', Y', S', rfl, x0, y0, q1, q2, q3⟩ := hs
    unfold slices_rotateCmpFunc_Part_L1
    rw [← hm]
    simp only
    by_cases he : X'.length = Y'.length
    · rw [show ((X'.length : Int) != (Y'.length : Int)) = false from bneF (by omega)]
      simp only [Bool.false_eq_true, if_false]
      exact wp_some.2 ⟨P', X', Y', S', rfl, he, q1, q2, q3⟩
    · rw [show ((X'.length : Int) != (Y'.length : Int)) = true from bneT (by omega)]
      simp only [if_true]
      by_cases hgt : Y'.length < X'.length
      · rw [dT (c := (X'.length : Int) > (Y'.length : Int)) (by omega)]
        simp only [if_true]
        have wA : W ((m : Int) - (X'.length : Int)) = (P'.length : Int) := by rw [W_sm (by omega) (by omega)]; omega
        have wB : W ((X'.length : Int) - (Y'.length : Int)) = ((X'.drop Y'.length).length : Int) := by rw [W_sm (by omega) (by omega)]; simp; omega
        have hsw := swapP P' (X'.take Y'.length) (X'.drop Y'.length) Y' S' (by simp; omega) (by simp; omega)
        have e1 : X'.take Y'.length ++ (X'.drop Y'.length ++ (Y' ++ S')) = X' ++ (Y' ++ S') := by rw [← List.append_assoc, List.take_append_drop]
        have e2 : P'.length + (X'.take Y'.length).length + (X'.drop Y'.length).length = m := by simp; omega
        have e3 : (X'.take Y'.length).length = Y'.length := by simp; omega
        rw [e1, e2, e3] at hsw
        rw [wA, wB, hsw]
        refine wp_some.2 ⟨⟨P' ++ Y', X'.drop Y'.length, X'.take Y'.length, S', ?_, by simp; omega, by simp; omega, by simp; omega, by simp; omega, ?_⟩, by simp only; simp; omega⟩
        · simp only [e3, List.append_assoc]
        · rw [← q3]
          simp only [List.append_assoc]
          congr 2
          rw [← List.append_assoc, List.take_append_drop]
      · rw [dF (c := (X'.length : Int) > (Y'.length : Int)) (by omega)]
        simp only [Bool.false_eq_true, if_false]
        obtain ⟨t, ht⟩ : ∃ t, t = Y'.length - X'.length := ⟨_, rfl⟩
        have wA : W ((m : Int) - (X'.length : Int)) = (P'.length : Int) := by rw [W_sm (by omega) (by omega)]; omega
        have wC : W (W ((m : Int) + (Y'.length : Int)) - (X'.length : Int)) = ((P'.length + X'.length + (Y'.take t).length : Nat) : Int) := by
          rw [W_sm (x := (m : Int) + (Y'.length : Int)) (by omega) (by omega), W_sm (by omega) (by omega)]; simp; omega
        have wB : W ((Y'.length : Int) - (X'.length : Int)) = ((Y'.take t).length : Int) := by rw [W_sm (by omega) (by omega)]; simp; omega
        have hsw := swapP P' X' (Y'.take t) (Y'.drop t) S' (by simp; omega) (by simp; omega)
        have e1 : Y'.take t ++ (Y'.drop t ++ S') = Y' ++ S' := by rw [← List.append_assoc, List.take_append_drop]
        rw [e1] at hsw
        have e3 : (Y'.drop t).length = X'.length := by simp; omega
        rw [wA, wB, wC, hsw]
        refine wp_some.2 ⟨⟨P', Y'.drop t, Y'.take t, X' ++ S', ?_, by simp; omega, by simp; omega, by simp; omega, by simp; omega, ?_⟩, by simp only; simp; omega⟩
        · simp only [e3]
        · rw [← q3]
          congr 1
          rw [← List.append_assoc, List.take_append_drop]
  obtain ⟨r, hr, P', X', Y', S', rfl, h1, h2, h3, h4⟩ := hloop
  rw [hr]
  simp only [Option.bind_some]
  have wA : W (((P.length + X.length : Nat) : Int) - (X'.length : Int)) = (P'.length : Int) := by rw [W_sm (by omega) (by omega)]; omega
  have hsw := swapP P' X' [] Y' S' h1 (by simp; omega)
  simp only [List.nil_append, List.length_nil, Nat.add_zero] at hsw
  rw [wA, ← hm, ← h2, hsw, ← h4]
  rfl
set_option maxHeartbeats 4000000 in
theorem symP : ∀ (f : Nat) (P X Y S : List Part), X ≠ [] → Y ≠ [] → X.length + Y.length ≤ 2 ^ f → Wk pk X → Wk pk Y → (∀ x ∈ X, VP x) → (∀ y ∈ Y, VP y) → P.length + X.length + Y.length + S.length ≤ 1000 → slices_symMergeCmpFunc_Part_R f (P ++ (X ++ (Y ++ S))) (P.length : Int) ((P.length + X.length : Nat) : Int) ((P.length + X.length + Y.length : Nat) : Int) = some (P ++ (srt pk (X ++ Y) ++ S)) := by
  intro f
  induction f with
  | zero =>
    intro P X Y S hx hy hl
    have := List.length_pos_iff.2 hx
    have := List.length_pos_iff.2 hy
    simp at hl
    omega
  | succ f ih =>
    intro P X Y S hx hy hf hwx hwy hgx hgy hl
    have hx0 : 0 < X.length := List.length_pos_iff.2 hx
    have hy0 : 0 < Y.length := List.length_pos_iff.2 hy
    show slices_symMergeCmpFunc_Part_S (slices_symMergeCmpFunc_Part_R f) _ _ _ _ = _
    obtain ⟨a, ha⟩ : ∃ a, a = P.length := ⟨_, rfl⟩
    obtain ⟨m, hm⟩ : ∃ m, m = P.length + X.length := ⟨_, rfl⟩
    obtain ⟨b, hb⟩ : ∃ b, b = P.length + X.length + Y.length := ⟨_, rfl⟩
    obtain ⟨d, hd⟩ : ∃ d, d = P ++ (X ++ (Y ++ S)) := ⟨_, rfl⟩
    have hdl : d.length = b + S.length := by rw [hd]; simp; omega
    have gX : ∀ k, a ≤ k → k < m → gt d k = gt X (k - a) := fun k h1 h2 => by rw [hd, ha]; exact gt_in (by omega) (by omega)
    have gY : ∀ k, m ≤ k → k < b → gt d k = gt Y (k - m) := fun k h1 h2 => by rw [hd, hm, gt_in2 (by omega) (by omega)]; congr 1; omega
    have vX : ∀ k, a ≤ k → k < m → VP (gt d k) := fun k h1 h2 => by rw [gX k h1 h2]; exact hgx _ (gt_mem (by omega))
    have vY : ∀ k, m ≤ k → k < b → VP (gt d k) := fun k h1 h2 => by rw [gY k h1 h2]; exact hgy _ (gt_mem (by omega))
    have sX : ∀ i j, a ≤ i → i ≤ j → j < m → pk (gt d i) ≤ pk (gt d j) := fun i j h1 h2 h3 => by rw [gX i h1 (by omega), gX j (by omega) h3]; exact wk_gt hwx (by omega) (by omega)
    have sY : ∀ i j, m ≤ i → i ≤ j → j < b → pk (gt d i) ≤ pk (gt d j) := fun i j h1 h2 h3 => by rw [gY i h1 (by omega), gY j (by omega) h3]; exact wk_gt hwy (by omega) (by omega)
    rw [← hd, ← hb, ← hm, ← ha]
    unfold slices_symMergeCmpFunc_Part_S
    have w1 : W ((m : Int) - (a : Int)) = (X.length : Int) := by rw [W_sm (by omega) (by omega)]; omega
    have w2 : W ((b : Int) - (m : Int)) = (Y.length : Int) := by rw [W_sm (by omega) (by omega)]; omega
    rw [w1, w2]
    by_cases hX1 : X.length = 1
    · -- one element into the right side
      rw [if_pos (beqT (by omega))]
      obtain ⟨x, rfl⟩ : ∃ x, X = [x] := List.length_eq_one_iff.1 hX1
      have gx : gt d a = x := by rw [gX a (by omega) (by omega), Nat.sub_self]; rfl
      obtain ⟨r, hr, r1, r2, r3, r4⟩ := bs_run (step := slices_symMergeCmpFunc_Part_L4 (slices_symMergeCmpFunc_Part_R f) d (a : Int)) (fun k => pk (gt d k) < pk x) (lo := m) (hi := b) (by omega) (by omega) (fun p q h1 h2 h3 h4 => by have := sY p q h1 h2 h3; omega) (fun i j h i1 i2 i3 hh => by
        have hq : ((i : Int) + (j : Int)) / 2 = (h : Int) := by omega
        obtain ⟨c, c1, c2⟩ := cmpP (vY h (by omega) (by omega)) (vX a (by omega) (by omega))
        rw [gx] at c1 c2
        have hstep : slices_symMergeCmpFunc_Part_L4 (slices_symMergeCmpFunc_Part_R f) d (a : Int) ((i : Int), (j : Int)) = Option.bind (if decide (pk (gt d h) < pk x) = true then some (((h + 1 : Nat) : Int), (j : Int)) else some ((i : Int), (h : Int))) fun x8 => some (.inl (x8.1, x8.2)) := by
          unfold slices_symMergeCmpFunc_Part_L4
          simp only [dT (c := (i : Int) < (j : Int)) (by omega), if_true]
          rw [half_eq (by omega) (by omega), hq]
          simp only [Option.bind_some, W_sm (x := (h : Int)) (by omega) (by omega), idx_gt (show h < d.length by omega), idx_gt (show a < d.length by omega), gx, c1, c2]
          rw [W_succ (by omega)]
        rw [hstep]
        exact ⟨fun hp => by rw [dT hp]; rfl, fun hp => by rw [dF hp]; rfl⟩) (fun i => by
        unfold slices_symMergeCmpFunc_Part_L4
        simp only [dF (c := (i : Int) < (i : Int)) (by omega), Bool.false_eq_true, if_false])
      rw [hr]
      simp only [Option.bind_some]
      have mv : ∀ (Z P' S' : List Part) (k : Nat), k = P'.length → r = P'.length + 1 + Z.length → P'.length + Z.length ≤ 1000 → Runs (slices_symMergeCmpFunc_Part_L5 (slices_symMergeCmpFunc_Part_R f) (r : Int)) Z.length ((k : Int), P' ++ x :: (Z ++ S')) (P' ++ (Z ++ x :: S')) := by
        intro Z
        induction Z with
        | nil =>
          intro P' S' k hk hrk _
          refine .done ?_
          unfold slices_symMergeCmpFunc_Part_L5
          simp only [W_sm (x := (r : Int) - 1) (by omega) (by omega), dF (c := (k : Int) < (r : Int) - 1) (by simp at hrk; omega), Bool.false_eq_true, if_false, List.nil_append]
        | cons z Z ihz =>
          intro P' S' k hk hrk hll
          simp only [List.length_cons] at hrk hll
          have := ihz (P' ++ [z]) S' (k + 1) (by simp; omega) (by simp; omega) (by simp; omega)
          refine .more ?_ (by simpa using this)
          unfold slices_symMergeCmpFunc_Part_L5
          subst hk
          have e1 : P' ++ x :: (z :: Z ++ S') = (P' ++ [x]) ++ z :: (Z ++ S') := by simp
          have e2 : P' ++ z :: (z :: Z ++ S') = (P' ++ [z]) ++ z :: (Z ++ S') := by simp
          have i1 : idx (P' ++ x :: (z :: Z ++ S')) ((P'.length + 1 : Nat) : Int) = some z := by rw [e1]; exact idx_mid _ _ _ (by simp)
          have i2 : idx (P' ++ x :: (z :: Z ++ S')) (P'.length : Int) = some x := idx_mid P' _ _ rfl
          have i3 : setO (P' ++ x :: (z :: Z ++ S')) (P'.length : Int) z = some (P' ++ z :: (z :: Z ++ S')) := setO_mid P' _ _ _ rfl
          have i4 : idx (P' ++ z :: (z :: Z ++ S')) ((P'.length + 1 : Nat) : Int) = some z := by rw [e2]; exact idx_mid _ _ _ (by simp)
          have i5 : setO (P' ++ z :: (z :: Z ++ S')) ((P'.length + 1 : Nat) : Int) x = some (P' ++ z :: x :: (Z ++ S')) := by rw [e2, setO_mid _ _ _ _ (by simp)]; simp
          simp only [W_sm (x := (r : Int) - 1) (by omega) (by omega), dT (c := (P'.length : Int) < (r : Int) - 1) (by omega), if_true, W_succ (k := P'.length) (by omega), i1, i2, i3, i4, i5, Option.bind_some]
          simp
      have hrun := mv (Y.take (r - m)) P (Y.drop (r - m) ++ S) a ha (by simp; omega) (by simp; omega)
      have e0 : d = P ++ x :: (Y.take (r - m) ++ (Y.drop (r - m) ++ S)) := by rw [hd, ← List.append_assoc (Y.take _), List.take_append_drop]; rfl
      rw [e0, loopO_of hrun (by simp; omega)]
      simp only [Option.bind_some]
      have hlow : ∀ y ∈ Y.take (r - m), pk y < pk x := fun y hy' => by
        obtain ⟨k, hk, rfl⟩ := mem_gt hy'
        have hk' : k < r - m := by simp at hk; omega
        rw [gt_take hk]
        have := r3 (m + k) (by omega) (by omega)
        rwa [gY (m + k) (by omega) (by omega), show m + k - m = k by omega] at this
      have hhigh : ∀ y ∈ Y.drop (r - m), pk x ≤ pk y := fun y hy' => by
        obtain ⟨k, hk, rfl⟩ := mem_gt hy'
        have hk' : r - m + k < Y.length := by simp at hk; omega
        rw [gt_drop hk]
        have := r4 (r + k) (by omega) (by omega)
        rw [gY (r + k) (by omega) (by omega), show r + k - m = r - m + k by omega] at this
        omega
      have hs : srt pk ([x] ++ Y) = Y.take (r - m) ++ x :: Y.drop (r - m) := by
        refine srt_of ?_ ?_
        · refine List.pairwise_append.2 ⟨hwy.take _, List.pairwise_cons.2 ⟨hhigh, hwy.drop _⟩, fun u hu v hv => ?_⟩
          rcases List.mem_cons.1 hv with rfl | hv
          · exact Int.le_of_lt (hlow u hu)
          · have := hlow u hu; have := hhigh v hv; omega
        · have h1 : Fl pk (Y.take (r - m) ++ [x]) ([x] ++ Y.take (r - m)) := Fl.swap fun u hu v hv e => by
            have := hlow u hu
            have : v = x := by simpa using hv
            subst this; omega
          have h2 := h1.app (Fl.refl (Y.drop (r - m)))
          rw [show (Y.take (r - m) ++ [x]) ++ Y.drop (r - m) = Y.take (r - m) ++ x :: Y.drop (r - m) by simp, show ([x] ++ Y.take (r - m)) ++ Y.drop (r - m) = [x] ++ Y by rw [List.append_assoc, List.take_append_drop]] at h2
          exact h2
      rw [hs]
      simp
    · rw [if_neg (by rw [beqF (by omega)]; simp)]
      by_cases hY1 : Y.length = 1
      · -- one element into the left side
        rw [if_pos (beqT (by omega))]
        obtain ⟨y, rfl⟩ : ∃ y, Y = [y] := List.length_eq_one_iff.1 hY1
        have gy : gt d m = y := by rw [gY m (by omega) (by omega), Nat.sub_self]; rfl
        obtain ⟨r, hr, r1, r2, r3, r4⟩ := bs_run (step := slices_symMergeCmpFunc_Part_L2 (slices_symMergeCmpFunc_Part_R f) d (m : Int)) (fun k => ¬ pk y < pk (gt d k)) (lo := a) (hi := m) (by omega) (by omega) (fun p q h1 h2 h3 h4 => by have := sX p q h1 h2 h3; omega) (fun i j h i1 i2 i3 hh => by
          have hq : ((i : Int) + (j : Int)) / 2 = (h : Int) := by omega
          obtain ⟨c, c1, c2⟩ := cmpP (vY m (by omega) (by omega)) (vX h (by omega) (by omega))
          rw [gy] at c1 c2
          have hstep : slices_symMergeCmpFunc_Part_L2 (slices_symMergeCmpFunc_Part_R f) d (m : Int) ((i : Int), (j : Int)) = Option.bind (if (!decide (pk y < pk (gt d h))) = true then some (((h + 1 : Nat) : Int), (j : Int)) else some ((i : Int), (h : Int))) fun x8 => some (.inl (x8.1, x8.2)) := by
            unfold slices_symMergeCmpFunc_Part_L2
            simp only [dT (c := (i : Int) < (j : Int)) (by omega), if_true]
            rw [half_eq (by omega) (by omega), hq]
            simp only [Option.bind_some, W_sm (x := (h : Int)) (by omega) (by omega), idx_gt (show h < d.length by omega), idx_gt (show m < d.length by omega), gy, c1, c2]
            rw [W_succ (by omega)]
          rw [hstep]
          exact ⟨fun hp => by rw [dF hp]; rfl, fun hp => by rw [dT (Classical.byContradiction hp)]; rfl⟩) (fun i => by
          unfold slices_symMergeCmpFunc_Part_L2
          simp only [dF (c := (i : Int) < (i : Int)) (by omega), Bool.false_eq_true, if_false])
        rw [hr]
        simp only [Option.bind_some]
        have mv : ∀ (Z P' S' : List Part) (k : Nat), k = P'.length + Z.length → r = P'.length → P'.length + Z.length ≤ 1000 → Runs (slices_symMergeCmpFunc_Part_L3 (slices_symMergeCmpFunc_Part_R f) (r : Int)) Z.length ((k : Int), P' ++ (Z.reverse ++ y :: S')) (P' ++ y :: (Z.reverse ++ S')) := by
          intro Z
          induction Z with
          | nil =>
            intro P' S' k hk hrk _
            refine .done ?_
            unfold slices_symMergeCmpFunc_Part_L3
            simp only [dF (c := (k : Int) > (r : Int)) (by simp at hk; omega), Bool.false_eq_true, if_false, List.reverse_nil, List.nil_append]
          | cons z Z ihz =>
            intro P' S' k hk hrk hll
            simp only [List.length_cons] at hk hll
            have := ihz P' (z :: S') (k - 1) (by omega) hrk (by omega)
            refine .more ?_ (by simpa using this)
            unfold slices_symMergeCmpFunc_Part_L3
            have e1 : P' ++ ((z :: Z).reverse ++ y :: S') = (P' ++ (Z.reverse ++ [z])) ++ y :: S' := by simp
            have e2 : P' ++ ((z :: Z).reverse ++ y :: S') = (P' ++ Z.reverse) ++ z :: (y :: S') := by simp
            have e3 : (P' ++ (Z.reverse ++ [z])) ++ z :: S' = (P' ++ Z.reverse) ++ z :: (z :: S') := by simp
            have i1 : idx (P' ++ ((z :: Z).reverse ++ y :: S')) ((k - 1 : Nat) : Int) = some z := by rw [e2]; exact idx_mid _ _ _ (by simp; omega)
            have i2 : idx (P' ++ ((z :: Z).reverse ++ y :: S')) (k : Int) = some y := by rw [e1]; exact idx_mid _ _ _ (by simp; omega)
            have i3 : setO (P' ++ ((z :: Z).reverse ++ y :: S')) (k : Int) z = some ((P' ++ (Z.reverse ++ [z])) ++ z :: S') := by rw [e1]; exact setO_mid _ _ _ _ (by simp; omega)
            have i4 : idx ((P' ++ (Z.reverse ++ [z])) ++ z :: S') ((k - 1 : Nat) : Int) = some z := by rw [e3]; exact idx_mid _ _ _ (by simp; omega)
            have i5 : setO ((P' ++ (Z.reverse ++ [z])) ++ z :: S') ((k - 1 : Nat) : Int) y = some ((P' ++ Z.reverse) ++ y :: (z :: S')) := by rw [e3]; exact setO_mid _ _ _ _ (by simp; omega)
            simp only [dT (c := (k : Int) > (r : Int)) (by omega), if_true, W_pred (k := k) (by omega) (by omega), i1, i2, i3, i4, i5, Option.bind_some]
            rw [List.append_assoc]
        have hrun := mv (X.drop (r - a)).reverse (P ++ X.take (r - a)) S m (by simp; omega) (by simp; omega) (by simp; omega)
        have e0 : d = (P ++ X.take (r - a)) ++ ((X.drop (r - a)).reverse.reverse ++ y :: S) := by
          rw [hd, List.reverse_reverse, List.append_assoc, ← List.append_assoc (X.take _), List.take_append_drop]; rfl
        rw [e0, loopO_of hrun (by simp; omega)]
        simp only [Option.bind_some]
        have hlow : ∀ z ∈ X.take (r - a), pk z ≤ pk y := fun z hz' => by
          obtain ⟨k, hk, rfl⟩ := mem_gt hz'
          have hk' : k < r - a := by simp at hk; omega
          rw [gt_take hk]
          have := r3 (a + k) (by omega) (by omega)
          rw [gX (a + k) (by omega) (by omega), show a + k - a = k by omega] at this
          omega
        have hhigh : ∀ z ∈ X.drop (r - a), pk y < pk z := fun z hz' => by
          obtain ⟨k, hk, rfl⟩ := mem_gt hz'
          have hk' : r - a + k < X.length := by simp at hk; omega
          rw [gt_drop hk]
          have := r4 (r + k) (by omega) (by omega)
          rw [gX (r + k) (by omega) (by omega), show r + k - a = r - a + k by omega] at this
          omega
        have hs : srt pk (X ++ [y]) = X.take (r - a) ++ y :: X.drop (r - a) := by
          refine srt_of ?_ ?_
          · refine List.pairwise_append.2 ⟨hwx.take _, List.pairwise_cons.2 ⟨fun z hz => Int.le_of_lt (hhigh z hz), hwx.drop _⟩, fun u hu v hv => ?_⟩
            rcases List.mem_cons.1 hv with rfl | hv
            · exact hlow u hu
            · have := hlow u hu; have := hhigh v hv; omega
          · have h1 : Fl pk ([y] ++ X.drop (r - a)) (X.drop (r - a) ++ [y]) := Fl.swap fun u hu v hv e => by
              have := hhigh v hv
              have : u = y := by simpa using hu
              subst this; omega
            have h2 := (Fl.refl (X.take (r - a))).app h1
            rw [← List.append_assoc (X.take (r - a)) (X.drop (r - a)), List.take_append_drop] at h2
            exact h2
        rw [hs]
        simp
      · rw [if_neg (by rw [beqF (by omega)]; simp)]
        -- both sides split
        obtain ⟨mid, hmid⟩ : ∃ mid, mid = (a + b) / 2 := ⟨_, rfl⟩
        have hq : ((a : Int) + (b : Int)) / 2 = (mid : Int) := by omega
        rw [half_eq (by omega) (by omega), hq]
        simp only [Option.bind_some]
        have wmid : W (mid : Int) = (mid : Int) := W_sm (by omega) (by omega)
        have wn : W ((mid : Int) + (m : Int)) = ((mid + m : Nat) : Int) := by rw [W_sm (by omega) (by omega)]; omega
        obtain ⟨lo, hlo⟩ : ∃ lo, lo = if m > mid then mid + m - b else a := ⟨_, rfl⟩
        obtain ⟨hi, hhi⟩ : ∃ hi, hi = if m > mid then mid else m := ⟨_, rfl⟩
        have hb2 : a ≤ lo ∧ lo ≤ hi ∧ hi ≤ m ∧ hi ≤ mid ∧ mid + m ≤ lo + b ∧ (lo = a ∨ lo + b = mid + m) ∧ (hi = m ∨ hi = mid) := by
          rw [hlo, hhi]; split <;> omega
        obtain ⟨b1, b2, b3, b4, b5, b6, b7⟩ := hb2
        have hsplit : (if decide ((m : Int) > W (mid : Int)) = true then some (W (W (W (mid : Int) + (m : Int)) - (b : Int)), W (mid : Int)) else some ((a : Int), (m : Int))) = some ((lo : Int), (hi : Int)) := by
          rw [wmid, wn, hlo, hhi]
          by_cases hc : m > mid
          · rw [if_pos (dT (by omega)), if_pos hc, if_pos hc]
            congr 2
            rw [W_sm (by omega) (by omega)]; omega
          · rw [if_neg (by rw [dF (by omega)]; simp), if_neg hc, if_neg hc]
        rw [hsplit]
        simp only [Option.bind_some, wmid, wn]
        obtain ⟨r, hr, r1, r2, r3, r4⟩ := bs_run (step := slices_symMergeCmpFunc_Part_L1 (slices_symMergeCmpFunc_Part_R f) d (m : Int) (mid : Int)) (fun c => ¬ pk (gt d (mid + m - 1 - c)) < pk (gt d c)) (lo := lo) (hi := hi) b2 (by omega) (fun p q h1 h2 h3 h4 => by
          have := sX p q (by omega) h2 (by omega)
          have := sY (mid + m - 1 - q) (mid + m - 1 - p) (by omega) (by omega) (by omega)
          omega) (fun i j h i1 i2 i3 hh => by
          have hq : ((i : Int) + (j : Int)) / 2 = (h : Int) := by omega
          obtain ⟨c, c1, c2⟩ := cmpP (vY (mid + m - 1 - h) (by omega) (by omega)) (vX h (by omega) (by omega))
          have hstep : slices_symMergeCmpFunc_Part_L1 (slices_symMergeCmpFunc_Part_R f) d (m : Int) (mid : Int) ((i : Int), (j : Int)) = Option.bind (if (!decide (pk (gt d (mid + m - 1 - h)) < pk (gt d h))) = true then some (((h + 1 : Nat) : Int), (j : Int)) else some ((i : Int), (h : Int))) fun x8 => some (.inl (x8.1, x8.2)) := by
            unfold slices_symMergeCmpFunc_Part_L1
            simp only [dT (c := (i : Int) < (j : Int)) (by omega), if_true]
            rw [half_eq (by omega) (by omega), hq]
            have wp : W (W (((mid + m : Nat) : Int) - 1) - (h : Int)) = ((mid + m - 1 - h : Nat) : Int) := by
              rw [W_sm (x := ((mid + m : Nat) : Int) - 1) (by omega) (by omega), W_sm (by omega) (by omega)]; omega
            simp only [Option.bind_some, W_sm (x := (h : Int)) (by omega) (by omega), wmid, wn, wp, idx_gt (show h < d.length by omega), idx_gt (show mid + m - 1 - h < d.length by omega), c1, c2]
            rw [W_succ (by omega)]
          rw [hstep]
          exact ⟨fun hp => by rw [dF hp]; rfl, fun hp => by rw [dT (Classical.byContradiction hp)]; rfl⟩) (fun i => by
          unfold slices_symMergeCmpFunc_Part_L1
          simp only [dF (c := (i : Int) < (i : Int)) (by omega), Bool.false_eq_true, if_false])
        rw [hr]
        simp only [Option.bind_some]
        obtain ⟨e, he⟩ : ∃ e, e = mid + m - r := ⟨_, rfl⟩
        have we : W (((mid + m : Nat) : Int) - (r : Int)) = (e : Int) := by rw [W_sm (by omega) (by omega)]; omega
        have hX : X = X.take (r - a) ++ X.drop (r - a) := (List.take_append_drop _ _).symm
        have hY : Y = Y.take (e - m) ++ Y.drop (e - m) := (List.take_append_drop _ _).symm
        obtain ⟨X1, hX1'⟩ : ∃ X1, X1 = X.take (r - a) := ⟨_, rfl⟩
        obtain ⟨X2, hX2'⟩ : ∃ X2, X2 = X.drop (r - a) := ⟨_, rfl⟩
        obtain ⟨Y1, hY1'⟩ : ∃ Y1, Y1 = Y.take (e - m) := ⟨_, rfl⟩
        obtain ⟨Y2, hY2'⟩ : ∃ Y2, Y2 = Y.drop (e - m) := ⟨_, rfl⟩
        have lX1 : X1.length = r - a := by rw [hX1']; simp; omega
        have lX2 : X2.length = m - r := by rw [hX2']; simp; omega
        have lY1 : Y1.length = e - m := by rw [hY1']; simp; omega
        have lY2 : Y2.length = b - e := by rw [hY2']; simp; omega
        have h1 : ∀ x ∈ X1, ∀ y ∈ Y2, pk x ≤ pk y := fun x hx' y hy' => by
          obtain ⟨i, hi', rfl⟩ := mem_gt hx'
          obtain ⟨j, hj', rfl⟩ := mem_gt hy'
          have hp := r3 (r - 1) (by omega) (by omega)
          rw [show mid + m - 1 - (r - 1) = e by omega] at hp
          have t1 := sX (a + i) (r - 1) (by omega) (by omega) (by omega)
          have t2 := sY e (e + j) (by omega) (by omega) (by omega)
          rw [gX (a + i) (by omega) (by omega), show a + i - a = i by omega] at t1
          rw [gY (e + j) (by omega) (by omega), show e + j - m = e - m + j by omega] at t2
          have q1 : gt X1 i = gt X i := by rw [hX1'] at hi' ⊢; exact gt_take hi'
          have q2 : gt Y2 j = gt Y (e - m + j) := by rw [hY2'] at hj' ⊢; exact gt_drop hj'
          rw [q1, q2]
          omega
        have h2 : ∀ y ∈ Y1, ∀ x ∈ X2, pk y < pk x := fun y hy' x hx' => by
          obtain ⟨i, hi', rfl⟩ := mem_gt hx'
          obtain ⟨j, hj', rfl⟩ := mem_gt hy'
          have hp := r4 r (Nat.le_refl _) (by omega)
          have hp : pk (gt d (mid + m - 1 - r)) < pk (gt d r) := Classical.byContradiction hp
          have t1 := sX r (r + i) (by omega) (by omega) (by omega)
          have t2 := sY (m + j) (mid + m - 1 - r) (by omega) (by omega) (by omega)
          rw [gX (r + i) (by omega) (by omega), show r + i - a = r - a + i by omega] at t1
          rw [gY (m + j) (by omega) (by omega), show m + j - m = j by omega] at t2
          have q1 : gt X2 i = gt X (r - a + i) := by rw [hX2'] at hi' ⊢; exact gt_drop hi'
          have q2 : gt Y1 j = gt Y j := by rw [hY1'] at hj' ⊢; exact gt_take hj'
          rw [q1, q2]
          omega
        rw [← hX1', ← hX2'] at hX
        rw [← hY1', ← hY2'] at hY
        have hd1 : d = P ++ (X1 ++ (X2 ++ (Y1 ++ (Y2 ++ S)))) := by rw [hd, hX, hY]; simp
        -- the exchange in the middle
        have hrot : (Option.bind (if decide ((r : Int) < (m : Int)) = true then some (decide ((m : Int) < (e : Int))) else some false) fun x10 => Option.bind (if x10 = true then Option.bind (slices_rotateCmpFunc_Part d (r : Int) (m : Int) (e : Int)) fun x11 => some x11 else some d) fun x12 => some x12) = some (P ++ (X1 ++ (Y1 ++ (X2 ++ (Y2 ++ S))))) := by
          by_cases c1 : r < m
          · rw [dT (c := (r : Int) < (m : Int)) (by omega)]
            by_cases c2 : m < e
            · rw [dT (c := (m : Int) < (e : Int)) (by omega)]
              simp only [if_true, Option.bind_some]
              have := rotP (P ++ X1) X2 Y1 (Y2 ++ S) (fun h => by rw [h] at lX2; simp at lX2; omega) (fun h => by rw [h] at lY1; simp at lY1; omega) (by simp; omega)
              rw [List.append_assoc, ← hd1, show (P ++ X1).length = r by simp; omega, show r + X2.length = m by omega, show m + Y1.length = e by omega] at this
              rw [this]
              simp
            · rw [dF (c := (m : Int) < (e : Int)) (by omega)]
              have : Y1 = [] := List.eq_nil_of_length_eq_zero (by omega)
              rw [hd1, this]
              rfl
          · rw [dF (c := (r : Int) < (m : Int)) (by omega)]
            have : X2 = [] := List.eq_nil_of_length_eq_zero (by omega)
            rw [hd1, this]
            rfl
        have hpow : (2 : Nat) ^ (f + 1) = 2 ^ f + 2 ^ f := by rw [Nat.pow_succ]; omega
        rw [hpow] at hf
        -- the left part
        have hleft : (Option.bind (if decide ((a : Int) < (r : Int)) = true then some (decide ((r : Int) < (mid : Int))) else some false) fun x13 => Option.bind (if x13 = true then Option.bind (slices_symMergeCmpFunc_Part_R f (P ++ (X1 ++ (Y1 ++ (X2 ++ (Y2 ++ S))))) (a : Int) (r : Int) (mid : Int)) fun x14 => some x14 else some (P ++ (X1 ++ (Y1 ++ (X2 ++ (Y2 ++ S)))))) fun x15 => some x15) = some (P ++ (srt pk (X1 ++ Y1) ++ (X2 ++ (Y2 ++ S)))) := by
          by_cases c1 : a < r
          · rw [dT (c := (a : Int) < (r : Int)) (by omega)]
            by_cases c2 : r < mid
            · rw [dT (c := (r : Int) < (mid : Int)) (by omega)]
              simp only [if_true, Option.bind_some]
              have := ih P X1 Y1 (X2 ++ (Y2 ++ S)) (fun h => by rw [h] at lX1; simp at lX1; omega) (fun h => by rw [h] at lY1; simp at lY1; omega) (by omega) (by rw [hX1']; exact hwx.take _) (by rw [hY1']; exact hwy.take _) (fun x hx' => hgx x (by rw [hX]; exact List.mem_append_left _ hx')) (fun x hx' => hgy x (by rw [hY]; exact List.mem_append_left _ hx')) (by simp; omega)
              rw [← ha, show a + X1.length = r by omega, show r + Y1.length = mid by omega] at this
              rw [this]
              rfl
            · rw [dF (c := (r : Int) < (mid : Int)) (by omega)]
              have : Y1 = [] := List.eq_nil_of_length_eq_zero (by omega)
              rw [this, List.append_nil, srt_self (by rw [hX1']; exact hwx.take _)]
              rfl
          · rw [dF (c := (a : Int) < (r : Int)) (by omega)]
            have : X1 = [] := List.eq_nil_of_length_eq_zero (by omega)
            rw [this, List.nil_append, List.nil_append, srt_self (by rw [hY1']; exact hwy.take _)]
            rfl
        -- the right part
        have hright : (Option.bind (if decide ((mid : Int) < (e : Int)) = true then some (decide ((e : Int) < (b : Int))) else some false) fun x16 => Option.bind (if x16 = true then Option.bind (slices_symMergeCmpFunc_Part_R f (P ++ (srt pk (X1 ++ Y1) ++ (X2 ++ (Y2 ++ S)))) (mid : Int) (e : Int) (b : Int)) fun x17 => some x17 else some (P ++ (srt pk (X1 ++ Y1) ++ (X2 ++ (Y2 ++ S))))) fun x18 => some x18) = some (P ++ (srt pk (X1 ++ Y1) ++ (srt pk (X2 ++ Y2) ++ S))) := by
          by_cases c1 : mid < e
          · rw [dT (c := (mid : Int) < (e : Int)) (by omega)]
            by_cases c2 : e < b
            · rw [dT (c := (e : Int) < (b : Int)) (by omega)]
              simp only [if_true, Option.bind_some]
              have := ih (P ++ srt pk (X1 ++ Y1)) X2 Y2 S (fun h => by rw [h] at lX2; simp at lX2; omega) (fun h => by rw [h] at lY2; simp at lY2; omega) (by omega) (by rw [hX2']; exact hwx.drop _) (by rw [hY2']; exact hwy.drop _) (fun x hx' => hgx x (by rw [hX]; exact List.mem_append_right _ hx')) (fun x hx' => hgy x (by rw [hY]; exact List.mem_append_right _ hx')) (by simp [srt_len]; omega)
              rw [show (P ++ srt pk (X1 ++ Y1)).length = mid by simp [srt_len]; omega, show mid + X2.length = e by omega, show e + Y2.length = b by omega, List.append_assoc, List.append_assoc] at this
              rw [this]
              rfl
            · rw [dF (c := (e : Int) < (b : Int)) (by omega)]
              have h0 : Y2 = [] := List.eq_nil_of_length_eq_zero (by omega)
              have e : srt pk (X2 ++ Y2) = X2 ++ Y2 := srt_self (by rw [h0, List.append_nil, hX2']; exact hwx.drop _)
              rw [e, List.append_assoc X2]
              rfl
          · rw [dF (c := (mid : Int) < (e : Int)) (by omega)]
            have h0 : X2 = [] := List.eq_nil_of_length_eq_zero (by omega)
            have e : srt pk (X2 ++ Y2) = X2 ++ Y2 := srt_self (by rw [h0, List.nil_append, hY2']; exact hwy.drop _)
            rw [e, List.append_assoc X2]
            rfl
        have hfin : srt pk (X1 ++ Y1) ++ srt pk (X2 ++ Y2) = srt pk (X ++ Y) := by
          rw [hX, hY]
          exact srt_join (by rw [← hX]; exact hwx) (by rw [← hY]; exact hwy) h1 h2
        rw [← hfin, List.append_assoc, we]
        obtain ⟨q1, hq1, hq1'⟩ := Option.bind_eq_some_iff.1 hrot
        obtain ⟨q2, hq2, hq2'⟩ := Option.bind_eq_some_iff.1 hq1'
        cases hq2'
        obtain ⟨q3, hq3, hq3'⟩ := Option.bind_eq_some_iff.1 hleft
        obtain ⟨q4, hq4, hq4'⟩ := Option.bind_eq_some_iff.1 hq3'
        cases hq4'
        obtain ⟨q5, hq5, hq5'⟩ := Option.bind_eq_some_iff.1 hright
        obtain ⟨q6, hq6, hq6'⟩ := Option.bind_eq_some_iff.1 hq5'
        cases hq6'
        simp only [hq1, hq2, hq3, hq4, hq5, hq6, Option.bind_some]
theorem insrP (P X S : List Part) (hl : P.length + X.length + S.length ≤ 1000) (hg : ∀ x ∈ X, VP x) : slices_insertionSortCmpFunc_Part (P ++ (X ++ S)) (P.length : Int) ((P.length + X.length : Nat) : Int) = some (P ++ (srt pk X ++ S)) := by
  unfold slices_insertionSortCmpFunc_Part
  cases X with
  | nil =>
    have h : loopO (slices_insertionSortCmpFunc_Part_L1 (P.length : Int) ((P.length + ([] : List Part).length : Nat) : Int)) (W ((P.length : Int) + 1), P ++ ([] ++ S)) = some (P ++ ([] ++ S)) := loop_run (fun _ => (W ((P.length : Int) + 1), P ++ ([] ++ S))) 0 (fun k hk => by omega) (by
      unfold slices_insertionSortCmpFunc_Part_L1
      rw [W_succ (by omega)]
      simp only [dF (c := ((P.length + 1 : Nat) : Int) < ((P.length + ([] : List Part).length : Nat) : Int)) (by simp only [List.length_nil]; omega), Bool.false_eq_true, if_false])
    rw [h]
    rfl
  | cons x b =>
    simp only [List.length_cons] at hl
    have h0 : ∀ d, slices_insertionSortCmpFunc_Part_L2 (P.length : Int) ((P.length : Int), d) = some (.inr d) := fun d => by
      unfold slices_insertionSortCmpFunc_Part_L2
      simp only [dF (c := (P.length : Int) > (P.length : Int)) (by omega), Bool.false_eq_true, if_false, Option.bind_some]
    have h1 : ∀ (a : List Part) (y x : Part) (b : List Part), a.length + b.length ≤ 1000 → VP y → VP x → slices_insertionSortCmpFunc_Part_L2 (P.length : Int) (((P.length + a.length + 1 : Nat) : Int), P ++ (a ++ y :: x :: b)) = if pk x < pk y then some (.inl (((P.length + a.length : Nat) : Int), P ++ (a ++ x :: y :: b))) else some (.inr (P ++ (a ++ y :: x :: b))) := by
      intro a y x b hab hy hx
      unfold slices_insertionSortCmpFunc_Part_L2
      have hW : W (((P.length + a.length + 1 : Nat) : Int) - 1) = ((P.length + a.length : Nat) : Int) := W_pred (k := P.length + a.length + 1) (by omega) (by omega)
      obtain ⟨c, hc, c1⟩ := cmpP hx hy
      have e1 : P ++ (a ++ y :: x :: b) = (P ++ (a ++ [y])) ++ x :: b := by simp
      have e2 : P ++ (a ++ y :: x :: b) = (P ++ a) ++ y :: (x :: b) := by simp
      have e3 : (P ++ (a ++ [y])) ++ y :: b = (P ++ a) ++ y :: (y :: b) := by simp
      have i1 : idx (P ++ (a ++ y :: x :: b)) ((P.length + a.length + 1 : Nat) : Int) = some x := by rw [e1]; exact idx_mid _ _ _ (by simp; omega)
      have i2 : idx (P ++ (a ++ y :: x :: b)) ((P.length + a.length : Nat) : Int) = some y := by rw [e2]; exact idx_mid _ _ _ (by simp)
      have i3 : setO (P ++ (a ++ y :: x :: b)) ((P.length + a.length + 1 : Nat) : Int) y = some ((P ++ (a ++ [y])) ++ y :: b) := by rw [e1]; exact setO_mid _ _ _ _ (by simp; omega)
      have i4 : idx ((P ++ (a ++ [y])) ++ y :: b) ((P.length + a.length : Nat) : Int) = some y := by rw [e3]; exact idx_mid _ _ _ (by simp)
      have i5 : setO ((P ++ (a ++ [y])) ++ y :: b) ((P.length + a.length : Nat) : Int) x = some ((P ++ a) ++ x :: (y :: b)) := by rw [e3]; exact setO_mid _ _ _ _ (by simp)
      simp only [dT (c := ((P.length + a.length + 1 : Nat) : Int) > (P.length : Int)) (by omega), if_true, hW, i1, i2, hc, c1, Option.bind_some]
      by_cases hlt : pk x < pk y
      · simp only [dT hlt, if_true, if_pos hlt, i3, i4, i5, Option.bind_some]
        rw [List.append_assoc]
      · simp only [dF hlt, Bool.false_eq_true, if_false, if_neg hlt]
    have h := srtP_run (step := slices_insertionSortCmpFunc_Part_L1 (P.length : Int) ((P.length + (x :: b).length : Nat) : Int)) (G := VP) (key := pk) (P := P) (S := S) (n := (x :: b).length) (by simp; omega) (fun r z b' hl' hr hz => by
      unfold slices_insertionSortCmpFunc_Part_L1
      simp only [List.length_cons] at hl'
      simp only [dT (c := ((P.length + r.length : Nat) : Int) < ((P.length + (x :: b).length : Nat) : Int)) (by simp; omega), if_true]
      obtain ⟨k, hk, hrun⟩ := insP_run (key := pk) (G := VP) h0 h1 r z (b' ++ S) (by simp; omega) hr hz
      rw [loopO_of hrun (by omega)]
      simp only [Option.bind_some]
      rw [W_succ (by omega)]) (fun d => by
      unfold slices_insertionSortCmpFunc_Part_L1
      simp only [dF (c := ((P.length + (x :: b).length : Nat) : Int) < ((P.length + (x :: b).length : Nat) : Int)) (by omega), Bool.false_eq_true, if_false]) b [x] (by simp; omega) (fun z hz => hg z (by simp at hz; simp [hz])) (fun z hz => hg z (List.mem_cons_of_mem _ hz))
    have h' := loopO_of h (by omega)
    simp only [List.length_cons, List.length_nil, List.reverse_cons, List.reverse_nil, List.nil_append, List.singleton_append, Nat.zero_add] at h'
    rw [W_succ (by omega)]
    simp only [List.length_cons, List.cons_append]
    rw [h']
    rfl
theorem symtP {P X Y S : List Part} (hx : X ≠ []) (hy : Y ≠ []) (hwx : Wk pk X) (hwy : Wk pk Y) (hgx : ∀ x ∈ X, VP x) (hgy : ∀ y ∈ Y, VP y) (hl : P.length + X.length + Y.length + S.length ≤ 1000) : slices_symMergeCmpFunc_Part (P ++ (X ++ (Y ++ S))) (P.length : Int) ((P.length + X.length : Nat) : Int) ((P.length + X.length + Y.length : Nat) : Int) = some (P ++ (srt pk (X ++ Y) ++ S)) :=
  symP 64 P X Y S hx hy (Nat.le_trans (by omega) (show 1000 ≤ 2 ^ 64 by decide)) hwx hwy hgx hgy hl
/-- a step of the sort: a part of the list, whose two halves are sorted, is sorted -/
theorem mrgP {d L : List Part} {a m b : Nat} (h1 : a < m) (h2 : m < b) (h3 : b ≤ d.length) (hl : d.length ≤ 1000) (hf : Fl pk d L) (hg : ∀ x ∈ L, VP x) (hx : Wk pk ((d.drop a).take (m - a))) (hy : Wk pk ((d.drop m).take (b - m))) :
    ∃ P Z Z' S, d = P ++ (Z ++ S) ∧ P.length = a ∧ Z.length = b - a ∧ Z'.length = b - a ∧ Wk pk Z' ∧ Fl pk (P ++ (Z' ++ S)) L ∧ slices_symMergeCmpFunc_Part d (a : Int) (m : Int) (b : Int) = some (P ++ (Z' ++ S)) := by
  have e0 : d = d.take a ++ ((d.drop a).take (m - a) ++ ((d.drop m).take (b - m) ++ d.drop b)) := by
    have t1 : (d.drop m).take (b - m) ++ d.drop b = d.drop m := by
      have := List.take_append_drop (b - m) (d.drop m)
      rwa [List.drop_drop, show m + (b - m) = b by omega] at this
    rw [t1]
    have t2 : (d.drop a).take (m - a) ++ d.drop m = d.drop a := by
      have := List.take_append_drop (m - a) (d.drop a)
      rwa [List.drop_drop, show a + (m - a) = m by omega] at this
    rw [t2, List.take_append_drop]
  obtain ⟨P, hP⟩ : ∃ P, P = d.take a := ⟨_, rfl⟩
  obtain ⟨X, hX⟩ : ∃ X, X = (d.drop a).take (m - a) := ⟨_, rfl⟩
  obtain ⟨Y, hY⟩ : ∃ Y, Y = (d.drop m).take (b - m) := ⟨_, rfl⟩
  obtain ⟨S, hS⟩ : ∃ S, S = d.drop b := ⟨_, rfl⟩
  rw [← hP, ← hX, ← hY, ← hS] at e0
  rw [← hX] at hx
  rw [← hY] at hy
  have lP : P.length = a := by rw [hP]; simp; omega
  have lX : X.length = m - a := by rw [hX]; simp; omega
  have lY : Y.length = b - m := by rw [hY]; simp; omega
  have hmem : ∀ x, x ∈ P ++ (X ++ (Y ++ S)) → VP x := fun x hx' => hg x (hf.mem.1 (by rw [e0]; exact hx'))
  have hs := symtP (P := P) (S := S) (fun h => by rw [h] at lX; simp at lX; omega) (fun h => by rw [h] at lY; simp at lY; omega) hx hy (fun x hx' => hmem x (by simp [hx'])) (fun x hx' => hmem x (by simp [hx'])) (by
    have := congrArg List.length e0
    simp at this
    omega)
  rw [← e0, lP, show a + X.length = m by omega, show m + Y.length = b by omega] at hs
  refine ⟨P, X ++ Y, srt pk (X ++ Y), S, by rw [List.append_assoc]; exact e0, lP, by simp; omega, by rw [srt_len]; simp; omega, srt_wk _, ?_, hs⟩
  refine Fl.trans ?_ (e0 ▸ hf)
  refine (Fl.refl P).app ?_
  rw [← List.append_assoc X]
  exact (srt_fl _).app (Fl.refl S)
set_option maxHeartbeats 4000000 in
theorem stableP {l : List Part} (hn : l.length ≤ 900) (hl : ∀ x ∈ l, VP x) : slices_SortStableFunc_Part_Part l = some (srt pk l) := by
  obtain ⟨n, hnn⟩ : ∃ n, n = l.length := ⟨_, rfl⟩
  have hlen : len l = (n : Int) := by unfold len; omega
  -- blocks of 20
  have q1 : Wp (loopO (slices_stableCmpFunc_Part_L1 (n : Int)) (0, 20, l)) fun r => ∃ t : Nat, r.1 = ((20 * t : Nat) : Int) ∧ 20 * t ≤ n ∧ n < 20 * t + 20 ∧ r.2.length = n ∧ Fl pk r.2 l ∧ ∀ j, j < t → Sb pk 20 (20 * j) r.2 := by
    refine wp_while (fun s => ((n : Int) + 20 - s.1).toNat) (fun s => ∃ t : Nat, s.1 = ((20 * t : Nat) : Int) ∧ s.2.1 = ((20 * t + 20 : Nat) : Int) ∧ 20 * t ≤ n ∧ s.2.2.length = n ∧ Fl pk s.2.2 l ∧ ∀ j, j < t → Sb pk 20 (20 * j) s.2.2) (fun s hs => ?_) ⟨0, rfl, rfl, by omega, hnn.symm, Fl.refl _, fun j hj => by omega⟩ (by simp only; omega)
    obtain ⟨za, zb, d⟩ := s
    obtain ⟨t, h1, h2, h3, h4, h5, h6⟩ := hs
    simp only at h1 h2 h4 h5 h6
    subst h1 h2
    unfold slices_stableCmpFunc_Part_L1
    simp only
    by_cases hc : 20 * t + 20 ≤ n
    · rw [dT (c := ((20 * t + 20 : Nat) : Int) ≤ (n : Int)) (by omega)]
      simp only [if_true]
      have e0 : d = d.take (20 * t) ++ ((d.drop (20 * t)).take 20 ++ d.drop (20 * t + 20)) := by
        have := List.take_append_drop 20 (d.drop (20 * t))
        rw [List.drop_drop] at this
        rw [this, List.take_append_drop]
      obtain ⟨P, hP⟩ : ∃ P, P = d.take (20 * t) := ⟨_, rfl⟩
      obtain ⟨X, hX⟩ : ∃ X, X = (d.drop (20 * t)).take 20 := ⟨_, rfl⟩
      obtain ⟨S, hS⟩ : ∃ S, S = d.drop (20 * t + 20) := ⟨_, rfl⟩
      rw [← hP, ← hX, ← hS] at e0
      have lP : P.length = 20 * t := by rw [hP]; simp; omega
      have lX : X.length = 20 := by rw [hX]; simp; omega
      have lS : S.length = n - (20 * t + 20) := by rw [hS]; simp; omega
      have hi := insrP P X S (by omega) (fun x hx => hl x (h5.mem.1 (by rw [e0]; simp [hx])))
      rw [← e0, lP, lX] at hi
      rw [hi]
      simp only [Option.bind_some]
      rw [W_sm (x := ((20 * t + 20 : Nat) : Int) + 20) (by omega) (by omega)]
      refine wp_some.2 ⟨⟨t + 1, by simp only; omega, by simp only; omega, by omega, by simp [srt_len]; omega, ?_, fun j hj => ?_⟩, by simp only; omega⟩
      · refine Fl.trans ?_ (e0 ▸ h5)
        exact (Fl.refl P).app ((srt_fl _).app (Fl.refl S))
      · by_cases hjt : j < t
        · exact sb_pre (R := X ++ S) (by omega) (e0 ▸ h6 j hjt)
        · have : j = t := by omega
          subst this
          show Wk pk (((P ++ (srt pk X ++ S)).drop (20 * j)).take 20)
          rw [← lP, List.drop_left, List.take_append_of_le_length (by rw [srt_len]; omega)]
          exact (srt_wk X).take _
    · rw [dF (c := ((20 * t + 20 : Nat) : Int) ≤ (n : Int)) (by omega)]
      simp only [Bool.false_eq_true, if_false]
      exact wp_some.2 ⟨t, rfl, h3, by omega, h4, h5, h6⟩
  obtain ⟨r, hr, t, h1, h2, h3, h4, h5, h6⟩ := q1
  obtain ⟨za, d⟩ := r
  simp only at h1 h4 h5 h6
  subst h1
  -- the rest
  have e0 : d = d.take (20 * t) ++ (d.drop (20 * t) ++ []) := by rw [List.append_nil, List.take_append_drop]
  obtain ⟨P, hP⟩ : ∃ P, P = d.take (20 * t) := ⟨_, rfl⟩
  obtain ⟨X, hX⟩ : ∃ X, X = d.drop (20 * t) := ⟨_, rfl⟩
  rw [← hP, ← hX] at e0
  have lP : P.length = 20 * t := by rw [hP]; simp; omega
  have lX : X.length = n - 20 * t := by rw [hX]; simp; omega
  have hi := insrP P X [] (by simp; omega) (fun x hx => hl x (h5.mem.1 (by rw [e0]; simp [hx])))
  rw [← e0, lP, show 20 * t + X.length = n by omega] at hi
  obtain ⟨d2, hd2⟩ : ∃ d2, d2 = P ++ (srt pk X ++ []) := ⟨_, rfl⟩
  rw [← hd2] at hi
  have g1 : d2.length = n := by rw [hd2]; simp [srt_len]; omega
  have g2 : Fl pk d2 l := by
    refine Fl.trans ?_ (e0 ▸ h5)
    rw [hd2]
    exact (Fl.refl P).app ((srt_fl _).app (Fl.refl []))
  have g3 : ∀ j, 20 * j < n → Sb pk 20 (20 * j) d2 := fun j hj => by
    by_cases hjt : j < t
    · rw [hd2]; exact sb_pre (R := X ++ []) (by omega) (e0 ▸ h6 j hjt)
    · have : j = t := by omega
      subst this
      show Wk pk ((d2.drop (20 * j)).take 20)
      rw [hd2, ← lP, List.drop_left, List.append_nil]
      exact (srt_wk X).take _
  -- the merging
  have q2 : Wp (loopO (slices_stableCmpFunc_Part_L2 (n : Int)) (20, d2)) fun r => r = srt pk l := by
    refine wp_while (fun s => ((n : Int) + 1000 - s.1).toNat) (fun s => ∃ B : Nat, s.1 = (B : Int) ∧ 20 ≤ B ∧ B ≤ 2000 ∧ s.2.length = n ∧ Fl pk s.2 l ∧ ∀ j, B * j < n → Sb pk B (B * j) s.2) (fun s hs => ?_) ⟨20, rfl, by omega, by omega, g1, g2, g3⟩ (by simp only; omega)
    obtain ⟨zB, d⟩ := s
    obtain ⟨B, k1, k2, k3, k4, k5, k6⟩ := hs
    simp only at k1 k4 k5 k6
    subst k1
    unfold slices_stableCmpFunc_Part_L2
    simp only
    by_cases hc : B < n
    · rw [dT (c := (B : Int) < (n : Int)) (by omega)]
      simp only [if_true]
      rw [W_sm (x := 2 * (B : Int)) (by omega) (by omega)]
      have q3 : Wp (loopO (slices_stableCmpFunc_Part_L3 (n : Int) ((B : Int), d)) (0, 2 * (B : Int), d)) fun r => ∃ t : Nat, r.1 = ((2 * B * t : Nat) : Int) ∧ 2 * B * t ≤ n ∧ n < 2 * B * t + 2 * B ∧ r.2.length = n ∧ Fl pk r.2 l ∧ (∀ j, j < t → Sb pk (2 * B) (2 * B * j) r.2) ∧ ∀ j, 2 * B * t ≤ B * j → B * j < n → Sb pk B (B * j) r.2 := by
        refine wp_while (fun s => ((n : Int) + 2000 - s.1).toNat) (fun s => ∃ t : Nat, s.1 = ((2 * B * t : Nat) : Int) ∧ s.2.1 = ((2 * B * t + 2 * B : Nat) : Int) ∧ 2 * B * t ≤ n ∧ s.2.2.length = n ∧ Fl pk s.2.2 l ∧ (∀ j, j < t → Sb pk (2 * B) (2 * B * j) s.2.2) ∧ ∀ j, 2 * B * t ≤ B * j → B * j < n → Sb pk B (B * j) s.2.2) (fun s hs => ?_) ⟨0, rfl, by simp, by omega, k4, k5, fun j hj => by omega, fun j _ hj => k6 j hj⟩ (by simp only; omega)
        obtain ⟨za, zb, d⟩ := s
        obtain ⟨t, p1, p2, p3, p4, p5, p6, p7⟩ := hs
        simp only at p1 p2 p4 p5 p6 p7
        subst p1 p2
        unfold slices_stableCmpFunc_Part_L3
        simp only
        obtain ⟨A, hA⟩ : ∃ A, A = 2 * B * t := ⟨_, rfl⟩
        have hA1 : A = B * (2 * t) := by rw [hA, Nat.mul_comm 2 B, Nat.mul_assoc]
        have hA2 : A + B = B * (2 * t + 1) := by rw [Nat.mul_add, Nat.mul_one, ← hA1]
        have hA3 : A + 2 * B = 2 * B * (t + 1) := by rw [Nat.mul_add, Nat.mul_one, ← hA]
        rw [← hA] at p3 p7 ⊢
        by_cases hc2 : A + 2 * B ≤ n
        · rw [dT (c := ((A + 2 * B : Nat) : Int) ≤ (n : Int)) (by omega)]
          simp only [if_true]
          have s1 := p7 (2 * t) (by omega) (by omega)
          have s2 := p7 (2 * t + 1) (by omega) (by omega)
          rw [← hA1] at s1
          rw [← hA2] at s2
          obtain ⟨P, Z, Z', S, m1, m2, m3, m4, m5, m6, m7⟩ := mrgP (d := d) (L := l) (a := A) (m := A + B) (b := A + 2 * B) (by omega) (by omega) (by omega) (by omega) p5 hl (by rw [show A + B - A = B by omega]; exact s1) (by rw [show A + 2 * B - (A + B) = B by omega]; exact s2)
          rw [show W ((A : Int) + (B : Int)) = ((A + B : Nat) : Int) by rw [W_sm (by omega) (by omega)]; omega, m7]
          simp only [Option.bind_some]
          rw [W_sm (x := 2 * (B : Int)) (by omega) (by omega), W_sm (x := ((A + 2 * B : Nat) : Int) + 2 * (B : Int)) (by omega) (by omega)]
          refine wp_some.2 ⟨⟨t + 1, by simp only; omega, by simp only; omega, by omega, ?_, m6, fun j hj => ?_, fun j hj hjn => ?_⟩, by simp only; omega⟩
          · have := congrArg List.length m1
            simp at this ⊢
            omega
          · by_cases hjt : j < t
            · have hjA : 2 * B * j + 2 * B ≤ A := by
                have : 2 * B * (j + 1) ≤ 2 * B * t := Nat.mul_le_mul_left _ hjt
                rw [Nat.mul_add, Nat.mul_one, ← hA] at this
                exact this
              exact sb_pre (R := Z ++ S) (by omega) (m1 ▸ p6 j hjt)
            · have : j = t := by omega
              subst this
              rw [← hA]
              show Wk pk (((P ++ (Z' ++ S)).drop A).take (2 * B))
              rw [← m2, List.drop_left, List.take_append_of_le_length (by omega)]
              exact m5.take _
          · rw [← hA3] at hj
            exact sb_post (Z := Z) (by omega) (by omega) (m1 ▸ p7 j (by omega) hjn)
        · rw [dF (c := ((A + 2 * B : Nat) : Int) ≤ (n : Int)) (by omega)]
          simp only [Bool.false_eq_true, if_false]
          exact wp_some.2 ⟨t, by rw [hA], by omega, by omega, p4, p5, p6, by rw [← hA]; exact p7⟩
      refine q3.bind fun r hr => ?_
      obtain ⟨za, d⟩ := r
      obtain ⟨t, p1, p2, p3, p4, p5, p6, p7⟩ := hr
      simp only at p1 p4 p5 p6 p7
      subst p1
      simp only
      obtain ⟨A, hA⟩ : ∃ A, A = 2 * B * t := ⟨_, rfl⟩
      have hA1 : A = B * (2 * t) := by rw [hA, Nat.mul_comm 2 B, Nat.mul_assoc]
      have hA2 : A + B = B * (2 * t + 1) := by rw [Nat.mul_add, Nat.mul_one, ← hA1]
      rw [← hA] at p2 p3 p7 ⊢
      have wAB : W ((A : Int) + (B : Int)) = ((A + B : Nat) : Int) := by rw [W_sm (by omega) (by omega)]; omega
      have wB2 : W ((B : Int) * 2) = ((2 * B : Nat) : Int) := by rw [W_sm (by omega) (by omega)]; omega
      have hjt : ∀ j, 2 * B * j < n → j ≤ t := fun j hj => by
        rcases Nat.lt_or_ge t j with h | h
        · have : 2 * B * (t + 1) ≤ 2 * B * j := Nat.mul_le_mul_left _ h
          rw [Nat.mul_add, Nat.mul_one, ← hA] at this
          omega
        · exact h
      have hBle : B ≤ 1000 := by omega
      by_cases hc2 : A + B < n
      · rw [wAB, dT (c := ((A + B : Nat) : Int) < (n : Int)) (by omega)]
        simp only [if_true]
        have s1 := p7 (2 * t) (by omega) (by omega)
        have s2 := p7 (2 * t + 1) (by omega) (by omega)
        rw [← hA1] at s1
        rw [← hA2] at s2
        obtain ⟨P, Z, Z', S, m1, m2, m3, m4, m5, m6, m7⟩ := mrgP (d := d) (L := l) (a := A) (m := A + B) (b := n) (by omega) hc2 (by omega) (by omega) p5 hl (by rw [show A + B - A = B by omega]; exact s1) (by
          have : (d.drop (A + B)).take (n - (A + B)) = (d.drop (A + B)).take B := by
            rw [List.take_of_length_le (by simp; omega), List.take_of_length_le (by simp; omega)]
          rw [this]; exact s2)
        rw [m7]
        simp only [Option.bind_some, wB2]
        refine wp_some.2 ⟨⟨2 * B, rfl, by omega, by omega, ?_, m6, fun j hj => ?_⟩, by simp only; omega⟩
        · have := congrArg List.length m1
          simp at this ⊢
          omega
        · by_cases hj' : j < t
          · have hjA : 2 * B * j + 2 * B ≤ A := by
              have : 2 * B * (j + 1) ≤ 2 * B * t := Nat.mul_le_mul_left _ hj'
              rw [Nat.mul_add, Nat.mul_one, ← hA] at this
              exact this
            exact sb_pre (R := Z ++ S) (by omega) (m1 ▸ p6 j hj')
          · have : j = t := by have := hjt j hj; omega
            subst this
            rw [← hA]
            have hS : S = [] := by
              have := congrArg List.length m1
              simp at this
              exact List.eq_nil_of_length_eq_zero (by omega)
            show Wk pk (((P ++ (Z' ++ S)).drop A).take (2 * B))
            rw [← m2, List.drop_left, hS, List.append_nil]
            exact m5.take _
      · rw [wAB, dF (c := ((A + B : Nat) : Int) < (n : Int)) (by omega)]
        simp only [Bool.false_eq_true, if_false, Option.bind_some, wB2]
        refine wp_some.2 ⟨⟨2 * B, rfl, by omega, by omega, p4, p5, fun j hj => ?_⟩, by simp only; omega⟩
        by_cases hj' : j < t
        · exact p6 j hj'
        · have : j = t := by have := hjt j hj; omega
          subst this
          rw [← hA] at hj ⊢
          have s1 := p7 (2 * j) (by omega) (by omega)
          rw [← hA1] at s1
          unfold Sb at s1 ⊢
          rw [List.take_of_length_le (by simp; omega)] at s1 ⊢
          exact s1
    · rw [dF (c := (B : Int) < (n : Int)) (by omega)]
      simp only [Bool.false_eq_true, if_false]
      refine wp_some.2 (srt_of ?_ k5).symm
      by_cases hn0 : n = 0
      · have : d = [] := List.eq_nil_of_length_eq_zero (by omega)
        rw [this]
        exact List.Pairwise.nil
      · have := k6 0 (by omega)
        unfold Sb at this
        rw [Nat.mul_zero, List.drop_zero, List.take_of_length_le (by omega)] at this
        exact this
  obtain ⟨r', hr', rfl⟩ := q2
  unfold slices_SortStableFunc_Part_Part slices_stableCmpFunc_Part
  simp only [hlen, hr, hi, hr', Option.bind_some]

end Rx
end Go.Proofs.Ytkgfdplcjdidhaa
