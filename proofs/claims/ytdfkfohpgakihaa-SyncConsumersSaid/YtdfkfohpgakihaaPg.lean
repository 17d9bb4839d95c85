/- A kit for plain laws: elements by their place; numbers; searches. Nothing here names a program. -/
import Derived.Test.YtdfkfohpgakihaaPk
set_option linter.unusedVariables false
set_option linter.unusedSimpArgs false
namespace Go.Proofs.Ytdfkfohpgakihaa
open Go Go.RowKit Dp

namespace Rx

theorem W_succ {k : Nat} (h : k < 1000000000000000000) : W ((k : Int) + 1) = ((k + 1 : Nat) : Int) := by rw [W_sm (by omega) (by omega)]; omega
theorem W_pred {k : Nat} (h : k < 1000000000000000000) (h0 : 0 < k) : W ((k : Int) - 1) = ((k - 1 : Nat) : Int) := by rw [W_sm (by omega) (by omega)]; omega

section
variable {α : Type} [Rep α]
/-- element k, or nothing's -/
def gt (l : List α) (k : Nat) : α := l.getD k Rep.zero
theorem gt_get {l : List α} {k : Nat} (h : k < l.length) : gt l k = l[k] := by simp [gt, List.getD, h]
theorem idx_gt {l : List α} {k : Nat} (h : k < l.length) : idx l (k : Int) = some (gt l k) := by rw [idx_nat, gt_get h]; simp [h]
theorem idx_gtZ {l : List α} {j : Int} (h0 : 0 ≤ j) (h : j < l.length) : idx l j = some (gt l j.toNat) := by
  obtain ⟨k, rfl⟩ := Int.eq_ofNat_of_zero_le h0
  rw [idx_gt (by omega)]
  simp
theorem gt_mem {l : List α} {k : Nat} (h : k < l.length) : gt l k ∈ l := by rw [gt_get h]; exact List.getElem_mem _
theorem mem_gt {l : List α} {x : α} (h : x ∈ l) : ∃ k, k < l.length ∧ gt l k = x := by
  obtain ⟨k, hk, e⟩ := List.getElem_of_mem h
  exact ⟨k, hk, by rw [gt_get hk, e]⟩
theorem gt_some {l : List α} {k : Nat} {x : α} (h : l[k]? = some x) : gt l k = x := by
  obtain ⟨hk, e⟩ := List.getElem?_eq_some_iff.1 h
  rw [gt_get hk, e]
theorem gt_set {l : List α} {i k : Nat} {x : α} (h : i < l.length) : gt (l.set i x) k = if k = i then x else gt l k := by
  unfold gt
  simp only [List.getD_eq_getElem?_getD, List.getElem?_set]
  by_cases hk : i = k
  · subst hk; simp [h]
  · rw [if_neg hk, if_neg (fun e => hk e.symm)]
theorem gt_app_left {l m : List α} {k : Nat} (h : k < l.length) : gt (l ++ m) k = gt l k := by
  unfold gt; simp [List.getD_eq_getElem?_getD, List.getElem?_append_left h]
theorem gt_app_last {l : List α} {x : α} : gt (l ++ [x]) l.length = x := by
  unfold gt; simp [List.getD_eq_getElem?_getD]
theorem ext_gt {l m : List α} (h : l.length = m.length) (he : ∀ k, k < l.length → gt l k = gt m k) : l = m := by
  apply List.ext_getElem h
  intro k h1 h2
  have := he k h1
  rwa [gt_get h1, gt_get h2] at this
theorem take_gt {l : List α} {k : Nat} (h : k < l.length) : l.take (k + 1) = l.take k ++ [gt l k] := by
  rw [List.take_add_one, List.getElem?_eq_getElem h, gt_get h]; rfl
theorem gt_replicate {n k : Nat} {z : α} (h : k < n) : gt (List.replicate n z) k = z := by
  rw [gt_get (by simpa using h)]; simp
theorem mem_iff_gt {l : List α} {x : α} : x ∈ l ↔ ∃ k, k < l.length ∧ gt l k = x :=
  ⟨mem_gt, fun ⟨_, hk, e⟩ => e ▸ gt_mem hk⟩
theorem all_iff_gt {l : List α} {P : α → Prop} : (∀ x ∈ l, P x) ↔ ∀ k, k < l.length → P (gt l k) :=
  ⟨fun h k hk => h _ (gt_mem hk), fun h x hx => by obtain ⟨k, hk, rfl⟩ := mem_gt hx; exact h k hk⟩
theorem gt_map_range {n j : Nat} (f : Nat → α) (h : j < n) : gt ((List.range n).map f) j = f j := by
  rw [gt_get (by simpa using h)]; simp
theorem gt_snoc {l : List α} {x : α} {k : Nat} (h : k < l.length + 1) : gt (l ++ [x]) k = if k < l.length then gt l k else x := by
  by_cases hk : k < l.length
  · rw [if_pos hk, gt_app_left hk]
  · rw [if_neg hk, show k = l.length from by omega, gt_app_last]
end
theorem setO_gt {α : Type} {l : List α} {j : Int} {x : α} (h0 : 0 ≤ j) (h : j < l.length) : setO l j x = some (l.set j.toNat x) := by
  unfold setO; rw [if_pos ⟨h0, h⟩]
theorem eqO_self (a : Int) : eqO a a = some () := if_pos rfl
theorem len_nat {α : Type} (l : List α) : len l = (l.length : Int) := rfl

/-! searches -/
theorem find_none {n : Nat} {p : Nat → Bool} (h : ∀ k, k < n → p k = false) : (List.range n).find? p = none := by
  rw [List.find?_eq_none]
  intro k hk
  rw [h k (List.mem_range.1 hk)]
  simp
section
open Classical
/-- a search whose answer does not tell the place -/
theorem loop_any {σ ρ : Type} {step : σ → Option (σ ⊕ ρ)} (f : Nat → σ) (n : Nat) (P : Nat → Prop) {r e : ρ} (next : ∀ k, k < n → ¬ P k → step (f k) = some (.inl (f (k + 1)))) (hit : ∀ k, k < n → P k → step (f k) = some (.inr r)) (stop : step (f n) = some (.inr e)) (hn : n ≤ 1000000000000000000 := by first | omega | (simp only [Sm] at *; omega)) :
    loopO step (f 0) = some (if ∃ k, k < n ∧ P k then r else e) := by
  rw [loop_find (R := fun _ => r) (e := e) f n (fun k => decide (P k)) (fun k hk h => next k hk (by simpa using h)) (fun k hk h => hit k hk (by simpa using h)) stop hn]
  by_cases h : ∃ k, k < n ∧ P k
  · rw [if_pos h]
    obtain ⟨k, hk, hp⟩ := h
    cases hf : (List.range n).find? (fun k => decide (P k)) with
    | some j => rfl
    | none =>
      have := List.find?_eq_none.1 hf k (List.mem_range.2 hk)
      simp [hp] at this
  · rw [if_neg h, find_none (fun k hk => by
      have : ¬ P k := fun hp => h ⟨k, hk, hp⟩
      simp [this])]
end
theorem lt_len {α : Type} {l : List α} {k : Nat} (h : k < l.length) : decide ((k : Int) < len l) = true := dT (by unfold len; omega)
theorem nlt_len {α : Type} {l : List α} : decide ((l.length : Int) < len l) = false := dF (by unfold len; omega)
theorem sm_lt {α : Type} {l : List α} (hl : Sm l) {k : Nat} (h : k < l.length) : k < 1000000000000000000 := by unfold Sm at hl; omega
theorem sm_le {α : Type} {l : List α} (hl : Sm l) : l.length ≤ 1000000000000000000 := by unfold Sm at hl; omega
end Rx
end Go.Proofs.Ytdfkfohpgakihaa
