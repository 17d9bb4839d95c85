/- A kit for plain laws: what a plain function gives, told by a property; loops by what they keep, or by their states. Nothing here names a program. -/
import Derived.Test.YtdfkfohpgakihaaPl
set_option linter.unusedVariables false
set_option linter.unusedSimpArgs false
namespace Go.Proofs.Ytdfkfohpgakihaa
open Go Go.RowKit

namespace Dp

/-- it answers, and the answer has property Q -/
def Wp {α : Type} (m : Option α) (Q : α → Prop) : Prop := ∃ r, m = some r ∧ Q r
section
variable {α β γ : Type} {m : Option α} {f : α → Option β} {Q : α → Prop} {R : β → Prop} {x : α}
theorem wp_some : Wp (some x) Q ↔ Q x := ⟨fun ⟨_, h, hq⟩ => by cases h; exact hq, fun h => ⟨_, rfl, h⟩⟩
theorem wp_bind : Wp (m.bind f) R ↔ Wp m fun y => Wp (f y) R := by
  constructor
  · rintro ⟨r, h, hr⟩
    obtain ⟨y, h1, h2⟩ := Option.bind_eq_some_iff.1 h
    exact ⟨y, h1, r, h2, hr⟩
  · rintro ⟨y, h1, r, h2, hr⟩
    exact ⟨r, by rw [h1]; exact h2, hr⟩
theorem wp_ite {c : Bool} {a b : Option α} : Wp (if c = true then a else b) Q ↔ (c = true → Wp a Q) ∧ (c = false → Wp b Q) := by
  cases c <;> simp
theorem Wp.mono {Q' : α → Prop} (h : Wp m Q) (hq : ∀ x, Q x → Q' x) : Wp m Q' := by
  obtain ⟨r, h1, h2⟩ := h
  exact ⟨r, h1, hq r h2⟩
theorem Wp.bind {f : α → Option β} (h : Wp m Q) (hf : ∀ y, Q y → Wp (f y) R) : Wp (m.bind f) R := wp_bind.2 (h.mono hf)
theorem Wp.ite {c : Bool} {a b : Option α} (ha : c = true → Wp a Q) (hb : c = false → Wp b Q) : Wp (if c = true then a else b) Q := wp_ite.2 ⟨ha, hb⟩
theorem wp_eq : Wp m (fun y => y = x) ↔ m = some x := ⟨fun ⟨_, h, hq⟩ => by rw [h, hq], fun h => ⟨x, h, rfl⟩⟩
theorem Wp.of (h : m = some x) (hq : Q x) : Wp m Q := ⟨x, h, hq⟩
theorem Wp.bindE {f : α → Option β} (h : m = some x) (hf : Wp (f x) R) : Wp (m.bind f) R := by rw [h]; exact hf
end

section
variable {σ ρ : Type} {step : σ → Option (σ ⊕ ρ)}
/-- a loop of at most n rounds, by what it keeps -/
theorem wp_loop (n : Nat) (inv : Nat → σ → Prop) {Q : ρ → Prop} (h : ∀ k s, k ≤ n → inv k s → Wp (step s) fun x => (∃ s', x = .inl s' ∧ k < n ∧ inv (k + 1) s') ∨ (∃ r, x = .inr r ∧ Q r)) {s : σ} (h0 : inv 0 s) : Wp (loopR step s) Q := by
  have key : ∀ (m k : Nat) (s : σ), m + k = n → inv k s → Wp (loopR step s) Q := by
    intro m
    induction m with
    | zero =>
      intro k s hk hi
      obtain ⟨x, h1, h2⟩ := h k s (by omega) hi
      rcases h2 with ⟨s', rfl, h3, _⟩ | ⟨r, rfl, h3⟩
      · omega
      · exact ⟨r, loopR_done h1, h3⟩
    | succ m ih =>
      intro k s hk hi
      obtain ⟨x, h1, h2⟩ := h k s (by omega) hi
      rcases h2 with ⟨s', rfl, h3, h4⟩ | ⟨r, rfl, h3⟩
      · obtain ⟨r, h5, h6⟩ := ih (k + 1) s' (by omega) h4
        exact ⟨r, by rw [loopR_next h1]; exact h5, h6⟩
      · exact ⟨r, loopR_done h1, h3⟩
  exact key n 0 s (by omega) h0
/-- rounds that go on till n -/
theorem wp_upto (n : Nat) (inv : Nat → σ → Prop) {Q : ρ → Prop} {s : σ} (h0 : inv 0 s) (next : ∀ k s, k < n → inv k s → Wp (step s) fun x => (∃ s', x = .inl s' ∧ inv (k + 1) s') ∨ (∃ r, x = .inr r ∧ Q r)) (stop : ∀ s, inv n s → Wp (step s) fun x => ∃ r, x = .inr r ∧ Q r) : Wp (loopR step s) Q := by
  refine wp_loop n inv (fun k s hk hi => ?_) h0
  by_cases hlt : k < n
  · refine (next k s hlt hi).mono fun x hx => ?_
    rcases hx with ⟨s', h1, h2⟩ | h1
    · exact .inl ⟨s', h1, hlt, h2⟩
    · exact .inr h1
  · have : k = n := by omega
    subst this
    exact (stop s hi).mono fun x hx => .inr hx
/-- a loop by its states -/
theorem loop_run (f : Nat → σ) (n : Nat) {r : ρ} (next : ∀ k, k < n → step (f k) = some (.inl (f (k + 1)))) (stop : step (f n) = some (.inr r)) : loopR step (f 0) = some r := by
  have key : ∀ (m k : Nat), m + k = n → loopR step (f k) = some r := by
    intro m
    induction m with
    | zero => intro k hk; rw [show k = n from by omega]; exact loopR_done stop
    | succ m ih => intro k hk; rw [loopR_next (next k (by omega))]; exact ih (k + 1) (by omega)
  exact key n 0 (by omega)
/-- a search: the first place where p holds -/
theorem loop_find (f : Nat → σ) (n : Nat) (p : Nat → Bool) {R : Nat → ρ} {e : ρ} (next : ∀ k, k < n → p k = false → step (f k) = some (.inl (f (k + 1)))) (hit : ∀ k, k < n → p k = true → step (f k) = some (.inr (R k))) (stop : step (f n) = some (.inr e)) :
    loopR step (f 0) = some (match (List.range n).find? p with | some k => R k | none => e) := by
  cases hf : (List.range n).find? p with
  | none =>
    refine loop_run f n (fun k hk => next k hk ?_) stop
    have := List.find?_eq_none.1 hf k (List.mem_range.2 hk)
    simpa using this
  | some k =>
    obtain ⟨h1, as, bs, h2, h3⟩ := List.find?_eq_some_iff_append.1 hf
    have hk : k < n := List.mem_range.1 (List.mem_of_find?_eq_some hf)
    have hlen : as.length = k := by
      have h4 : (List.range n)[as.length]? = some k := by rw [h2]; simp
      rw [List.getElem?_range (by
        have := congrArg List.length h2
        simp at this
        omega)] at h4
      exact Option.some.inj h4
    refine loop_run f k (fun j hj => next j (by omega) ?_) (hit k hk h1)
    have hmem : j ∈ as := by
      have h4 : (List.range n)[j]? = some j := List.getElem?_range (by omega)
      rw [h2, List.getElem?_append_left (by omega)] at h4
      exact List.mem_of_getElem? h4
    simpa using h3 j hmem
end

theorem W_succ {k : Nat} (h : k < 1000000000000000000) : W ((k : Int) + 1) = ((k + 1 : Nat) : Int) := by rw [W_sm (by omega) (by omega)]; omega
theorem W_pred {k : Nat} (h : k < 1000000000000000000) (h0 : 0 < k) : W ((k : Int) - 1) = ((k - 1 : Nat) : Int) := by rw [W_sm (by omega) (by omega)]; omega
theorem W_self {x : Int} (h1 : -1000000000000000000 ≤ x) (h2 : x ≤ 1000000000000000000) : W x = x := W_sm h1 h2

section
variable {α : Type} [Rep α]
/-- element k, or nothing's -/
def gt (l : List α) (k : Nat) : α := l.getD k Rep.zero
theorem gt_get {l : List α} {k : Nat} (h : k < l.length) : gt l k = l[k] := by simp [gt, List.getD, h]
theorem idx_gt {l : List α} {k : Nat} (h : k < l.length) : idx l (k : Int) = some (gt l k) := by rw [idx_get h, gt_get h]
theorem idx_gtZ {l : List α} {j : Int} (h0 : 0 ≤ j) (h : j < l.length) : idx l j = some (gt l j.toNat) := by
  obtain ⟨k, rfl⟩ := Int.eq_ofNat_of_zero_le h0
  rw [idx_gt (by omega)]
  simp
theorem gt_mem {l : List α} {k : Nat} (h : k < l.length) : gt l k ∈ l := by rw [gt_get h]; exact List.getElem_mem _
theorem mem_gt {l : List α} {x : α} (h : x ∈ l) : ∃ k, k < l.length ∧ gt l k = x := by
  obtain ⟨k, hk, e⟩ := List.getElem_of_mem h
  exact ⟨k, hk, by rw [gt_get hk, e]⟩
theorem gt_set {l : List α} {i k : Nat} {x : α} (h : i < l.length) : gt (l.set i x) k = if k = i then x else gt l k := by
  unfold gt
  simp only [List.getD_eq_getElem?_getD, List.getElem?_set]
  by_cases hk : i = k
  · subst hk; simp [h]
  · rw [if_neg hk, if_neg (fun e => hk e.symm)]
theorem gt_app_left {l m : List α} {k : Nat} (h : k < l.length) : gt (l ++ m) k = gt l k := by
  unfold gt; simp [List.getD_eq_getElem?_getD, List.getElem?_append_left h]
theorem gt_app_last {l : List α} {x : α} : gt (l ++ [x]) l.length = x := by
  unfold gt; simp [List.getD_eq_getElem?_getD]
theorem ext_gt {l m : List α} (h : l.length = m.length) (he : ∀ k, k < l.length → gt l k = gt m k) : l = m := by
  apply List.ext_getElem h
  intro k h1 h2
  have := he k h1
  rwa [gt_get h1, gt_get h2] at this
theorem take_gt {l : List α} {k : Nat} (h : k < l.length) : l.take (k + 1) = l.take k ++ [gt l k] := by
  rw [List.take_succ_eq_append_getElem h, gt_get h]
theorem mkL_nat {n : Nat} (h : n ≤ 1073741824) : mkL α (n : Int) = some (List.replicate n Rep.zero) := by
  unfold mkL; rw [if_pos ⟨by omega, by omega⟩]; simp
theorem mkL_Z {j : Int} (h0 : 0 ≤ j) (h : j ≤ 1073741824) : mkL α j = some (List.replicate j.toNat Rep.zero) := by
  unfold mkL; rw [if_pos ⟨h0, h⟩]
theorem gt_replicate {n k : Nat} (h : k < n) : gt (List.replicate n (Rep.zero : α)) k = Rep.zero := by
  rw [gt_get (by simpa using h)]; simp
end
theorem setO_gt {α : Type} {l : List α} {j : Int} {x : α} (h0 : 0 ≤ j) (h : j < l.length) : setO l j x = some (l.set j.toNat x) := by
  unfold setO; rw [if_pos ⟨h0, h⟩]
theorem len_nat {α : Type} (l : List α) : len l = (l.length : Int) := rfl
theorem dlt {a b : Nat} : decide ((a : Int) < (b : Int)) = decide (a < b) := by simp

end Dp
end Go.Proofs.Ytdfkfohpgakihaa
