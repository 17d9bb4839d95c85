/- Stable sorting by merging: what a stable merge is. Plain laws, no program in sight. -/
import Derived.Test.YtkgfdplcjdidhaaFx3
set_option linter.unusedVariables false
set_option linter.unusedSimpArgs false
namespace Go.Proofs.Ytkgfdplcjdidhaa
open Go Go.RowKit Dp
namespace Rx

section
variable {α : Type} {key : α → Int}
/-- ascending, equal ones allowed -/
def Wk (key : α → Int) (l : List α) : Prop := l.Pairwise (fun a b => key a ≤ key b)
/-- the elements of each key, in their order, are the same -/
def Fl (key : α → Int) (Z L : List α) : Prop := ∀ k, Z.filter (fun z => decide (key z = k)) = L.filter (fun z => decide (key z = k))
theorem Fl.refl (L : List α) : Fl key L L := fun _ => rfl
theorem Fl.symm {Z L : List α} (h : Fl key Z L) : Fl key L Z := fun k => (h k).symm
theorem Fl.trans {Z L M : List α} (h : Fl key Z L) (h' : Fl key L M) : Fl key Z M := fun k => (h k).trans (h' k)
theorem Fl.app {Z L Z' L' : List α} (h : Fl key Z L) (h' : Fl key Z' L') : Fl key (Z ++ Z') (L ++ L') := fun k => by rw [List.filter_append, List.filter_append, h k, h' k]
theorem Fl.mem {Z L : List α} (h : Fl key Z L) {x : α} : x ∈ Z ↔ x ∈ L := by
  have e := h (key x)
  constructor
  · intro hx
    have : x ∈ Z.filter (fun z => decide (key z = key x)) := List.mem_filter.2 ⟨hx, by simp⟩
    rw [e] at this
    exact (List.mem_filter.1 this).1
  · intro hx
    have : x ∈ L.filter (fun z => decide (key z = key x)) := List.mem_filter.2 ⟨hx, by simp⟩
    rw [← e] at this
    exact (List.mem_filter.1 this).1
theorem Fl.swap {X Y : List α} (h : ∀ x ∈ X, ∀ y ∈ Y, key x ≠ key y) : Fl key (X ++ Y) (Y ++ X) := fun k => by
  rw [List.filter_append, List.filter_append]
  by_cases hx : ∃ x ∈ X, key x = k
  · obtain ⟨x, hx, hk⟩ := hx
    have : Y.filter (fun z => decide (key z = k)) = [] := List.filter_eq_nil_iff.2 fun y hy => by
      have := h x hx y hy
      simp only [decide_eq_true_eq]
      omega
    rw [this]; simp
  · have : X.filter (fun z => decide (key z = k)) = [] := List.filter_eq_nil_iff.2 fun x hx' => by
      simp only [decide_eq_true_eq]
      exact fun e => hx ⟨x, hx', e⟩
    rw [this]; simp
theorem wk_ext : ∀ {Z L : List α}, Wk key Z → Wk key L → Fl key Z L → Z = L := by
  intro Z
  induction Z with
  | nil =>
    intro L _ _ h
    cases L with
    | nil => rfl
    | cons b m => exact (List.not_mem_nil (h.mem.2 (List.mem_cons_self (a := b)))).elim
  | cons a l ih =>
    intro L hZ hL h
    cases L with
    | nil => exact (List.not_mem_nil (h.mem.1 (List.mem_cons_self (a := a)))).elim
    | cons b m =>
      have hZ' := List.pairwise_cons.1 hZ
      have hL' := List.pairwise_cons.1 hL
      have hk : key a = key b := by
        have h1 : key a ≤ key b := by
          rcases List.mem_cons.1 (h.mem.2 (List.mem_cons_self (a := b))) with e | e
          · rw [e]; omega
          · exact hZ'.1 _ e
        have h2 : key b ≤ key a := by
          rcases List.mem_cons.1 (h.mem.1 (List.mem_cons_self (a := a))) with e | e
          · rw [e]; omega
          · exact hL'.1 _ e
        omega
      have h0 := h (key a)
      rw [List.filter_cons_of_pos (by simp), List.filter_cons_of_pos (by simp [hk])] at h0
      have hab : a = b := (List.cons.inj h0).1
      subst hab
      congr 1
      refine ih hZ'.2 hL'.2 fun k => ?_
      have := h k
      by_cases hak : key a = k
      · rw [List.filter_cons_of_pos (by simp [hak]), List.filter_cons_of_pos (by simp [hak])] at this
        exact (List.cons.inj this).2
      · rw [List.filter_cons_of_neg (by simp [hak]), List.filter_cons_of_neg (by simp [hak])] at this
        exact this
theorem srt_fl (L : List α) : Fl key (srt key L) L := srt_filter L
theorem srt_wk (L : List α) : Wk key (srt key L) := srt_srt L
theorem srt_of {Z L : List α} (h : Wk key Z) (hf : Fl key Z L) : srt key L = Z := wk_ext (srt_wk L) h ((srt_fl L).trans hf.symm)
theorem srt_self {L : List α} (h : Wk key L) : srt key L = L := srt_of h (Fl.refl L)
/-- two sorted lists merged in two halves -/
theorem srt_join {X1 X2 Y1 Y2 : List α} (hX : Wk key (X1 ++ X2)) (hY : Wk key (Y1 ++ Y2)) (h1 : ∀ x ∈ X1, ∀ y ∈ Y2, key x ≤ key y) (h2 : ∀ y ∈ Y1, ∀ x ∈ X2, key y < key x) : srt key (X1 ++ Y1) ++ srt key (X2 ++ Y2) = srt key ((X1 ++ X2) ++ (Y1 ++ Y2)) := by
  have hX' := List.pairwise_append.1 hX
  have hY' := List.pairwise_append.1 hY
  refine (srt_of ?_ ?_).symm
  · refine List.pairwise_append.2 ⟨srt_wk _, srt_wk _, fun a ha b hb => ?_⟩
    rcases List.mem_append.1 (srt_mem.1 ha) with ha | ha <;> rcases List.mem_append.1 (srt_mem.1 hb) with hb | hb
    · exact hX'.2.2 a ha b hb
    · exact h1 a ha b hb
    · exact Int.le_of_lt (h2 a ha b hb)
    · exact hY'.2.2 a ha b hb
  · refine ((srt_fl _).app (srt_fl _)).trans ?_
    rw [List.append_assoc, List.append_assoc]
    refine (Fl.refl X1).app ?_
    rw [← List.append_assoc, ← List.append_assoc]
    exact (Fl.swap (fun y hy x hx e => by have := h2 y hy x hx; omega)).app (Fl.refl Y2)
end
end Rx
end Go.Proofs.Ytkgfdplcjdidhaa
