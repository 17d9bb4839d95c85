/- A kit for plain laws over the printed plain functions: what a function gives, told by a property; loops by what they keep, by a fold, by a search. Nothing here names a program. A kit for plain laws: elements by their place; numbers; searches. Nothing here names a program. -/
import Derived.Test.YtkgfdplcjdidhaaRa
set_option linter.unusedVariables false
set_option linter.unusedSimpArgs false
namespace Go.Proofs.Ytkgfdplcjdidhaa
open Go Go.RowKit Dp

namespace Rx

/-! answers -/
/-- it answers, and the answer has property Q -/
def Wp {α : Type} (m : Option α) (Q : α → Prop) : Prop := ∃ r, m = some r ∧ Q r
section
variable {α β γ : Type} {m : Option α} {f : α → Option β} {Q : α → Prop} {R : β → Prop} {x : α}
theorem wp_some : Wp (some x) Q ↔ Q x := ⟨fun ⟨_, h, hq⟩ => by cases h; exact hq, fun h => ⟨_, rfl, h⟩⟩
theorem wp_bind : Wp (obind m f) R ↔ Wp m fun y => Wp (f y) R := by
  constructor
  · rintro ⟨r, h, hr⟩
    obtain ⟨y, h1, h2⟩ := Option.bind_eq_some_iff.1 h
    exact ⟨y, h1, r, h2, hr⟩
  · rintro ⟨y, h1, r, h2, hr⟩
    exact ⟨r, by rw [h1]; exact h2, hr⟩
theorem wp_cnd {c : Bool} {a b : Option α} : Wp (cnd c a b) Q ↔ (c = true → Wp a Q) ∧ (c = false → Wp b Q) := by
  cases c <;> simp [show cnd true a b = a from rfl, show cnd false a b = b from rfl]
theorem Wp.mono {Q' : α → Prop} (h : Wp m Q) (hq : ∀ x, Q x → Q' x) : Wp m Q' := by
  obtain ⟨r, h1, h2⟩ := h
  exact ⟨r, h1, hq r h2⟩
theorem Wp.bind {f : α → Option β} (h : Wp m Q) (hf : ∀ y, Q y → Wp (f y) R) : Wp (obind m f) R := wp_bind.2 (h.mono hf)
theorem Wp.bindE {f : α → Option β} (h : m = some x) (hf : Wp (f x) R) : Wp (obind m f) R := by rw [h]; exact hf
theorem Wp.cnd {c : Bool} {a b : Option α} (ha : c = true → Wp a Q) (hb : c = false → Wp b Q) : Wp (cnd c a b) Q := wp_cnd.2 ⟨ha, hb⟩
theorem wp_eq : Wp m (fun y => y = x) ↔ m = some x := ⟨fun ⟨_, h, hq⟩ => by rw [h, hq], fun h => ⟨x, h, rfl⟩⟩
theorem Wp.of (h : m = some x) (hq : Q x) : Wp m Q := ⟨x, h, hq⟩
theorem Wp.get (h : Wp m Q) : ∃ r, m = some r ∧ Q r := h
theorem Wp.and {Q' : α → Prop} (h : Wp m Q) (h' : Wp m Q') : Wp m fun x => Q x ∧ Q' x := by
  obtain ⟨r, h1, h2⟩ := h
  obtain ⟨r', h3, h4⟩ := h'
  rw [h1] at h3
  cases h3
  exact ⟨r, h1, h2, h4⟩
theorem Wp.true' {b : Option Bool} (h : Wp b fun x => x = true) : b = some true := wp_eq.1 h
theorem obS (y : α) (f : α → Option β) : obind (some y) f = f y := rfl
theorem cT (a b : α) : cnd true a b = a := rfl
theorem cF (a b : α) : cnd false a b = b := rfl
theorem cnd_pos {c : Bool} {a b : α} (h : c = true) : cnd c a b = a := by rw [h]; rfl
theorem cnd_neg {c : Bool} {a b : α} (h : c = false) : cnd c a b = b := by rw [h]; rfl
theorem cnd_d {c : Prop} [Decidable c] {a b : α} : cnd (decide c) a b = if c then a else b := by
  by_cases h : c
  · rw [decide_eq_true h, if_pos h]
    rfl
  · rw [decide_eq_false h, if_neg h]
    rfl
theorem cnd_some (c : Bool) (a b : α) : cnd c (some a) (some b) = some (cnd c a b) := by cases c <;> rfl
theorem cnd_not (c : Bool) (a b : α) : cnd (!c) a b = cnd c b a := by cases c <;> rfl
end

/-- a number of elements that Go may have -/
def Sm {α : Type} (l : List α) : Prop := l.length ≤ 1000000000

/-! loops -/
section
variable {σ ρ : Type} {step : σ → Option (σ ⊕ ρ)} {s : σ} {r : ρ}
theorem loopN_of {k : Nat} {s : σ} (h : Runs step k s r) : ∀ {n : Nat}, k < n → loopN step n s = some r := by
  induction h with
  | done e =>
    intro n hn
    cases n with
    | zero => omega
    | succ n =>
      show (match step _ with | some (.inl s') => loopN step n s' | some (.inr r) => some r | none => none) = _
      rw [e]
  | more e _ ih =>
    intro n hn
    cases n with
    | zero => omega
    | succ n =>
      show (match step _ with | some (.inl s') => loopN step n s' | some (.inr r) => some r | none => none) = _
      rw [e]
      exact ih (by omega)
theorem loopO_of {k : Nat} (h : Runs step k s r) (hk : k ≤ 1000000000000000000) : loopO step s = some r := loopN_of h (by omega)

/-- a loop by what it keeps, and a number that becomes less -/
theorem wp_while (μ : σ → Nat) (inv : σ → Prop) {Q : ρ → Prop} (h : ∀ s, inv s → Wp (step s) fun x => match x with | .inl s' => inv s' ∧ μ s' < μ s | .inr r => Q r) {s : σ} (h0 : inv s) (hm : μ s ≤ 1000000000000000000) : Wp (loopO step s) Q := by
  have key : ∀ (m : Nat) (s : σ), μ s ≤ m → inv s → ∃ k r, k ≤ m ∧ Runs step k s r ∧ Q r := by
    intro m
    induction m with
    | zero =>
      intro s hs hi
      obtain ⟨x, h1, h2⟩ := h s hi
      cases x with
      | inl s' => have := h2.2; omega
      | inr r => exact ⟨0, r, Nat.le_refl _, .done h1, h2⟩
    | succ m ih =>
      intro s hs hi
      obtain ⟨x, h1, h2⟩ := h s hi
      cases x with
      | inl s' =>
        obtain ⟨k, r, h3, h4, h5⟩ := ih s' (by have := h2.2; omega) h2.1
        exact ⟨k + 1, r, by omega, .more h1 h4, h5⟩
      | inr r => exact ⟨0, r, Nat.zero_le _, .done h1, h2⟩
  obtain ⟨k, r, h1, h2, h3⟩ := key (μ s) s (Nat.le_refl _) h0
  exact ⟨r, loopO_of h2 (by omega), h3⟩
/-- rounds that go on till n -/
theorem wp_upto (n : Nat) (inv : Nat → σ → Prop) {Q : ρ → Prop} {s : σ} (h0 : inv 0 s) (next : ∀ k s, k < n → inv k s → Wp (step s) fun x => match x with | .inl s' => inv (k + 1) s' | .inr r => Q r) (stop : ∀ s, inv n s → Wp (step s) fun x => match x with | .inl _ => False | .inr r => Q r) (hn : n ≤ 1000000000000000000 := by first | omega | (simp only [Sm] at *; omega)) : Wp (loopO step s) Q := by
  have key : ∀ (m k : Nat) (s : σ), m + k = n → inv k s → ∃ j r, j ≤ m ∧ Runs step j s r ∧ Q r := by
    intro m
    induction m with
    | zero =>
      intro k s hk hi
      obtain ⟨x, h1, h2⟩ := stop s (by rw [show n = k from by omega]; exact hi)
      cases x with
      | inl s' => exact h2.elim
      | inr r => exact ⟨0, r, Nat.le_refl _, .done h1, h2⟩
    | succ m ih =>
      intro k s hk hi
      obtain ⟨x, h1, h2⟩ := next k s (by omega) hi
      cases x with
      | inl s' =>
        obtain ⟨j, r, h3, h4, h5⟩ := ih (k + 1) s' (by omega) h2
        exact ⟨j + 1, r, by omega, .more h1 h4, h5⟩
      | inr r => exact ⟨0, r, Nat.zero_le _, .done h1, h2⟩
  obtain ⟨k, r, h1, h2, h3⟩ := key n 0 s (by omega) h0
  exact ⟨r, loopO_of h2 (by omega), h3⟩
/-- a loop by its states -/
theorem loop_run (f : Nat → σ) (n : Nat) {r : ρ} (next : ∀ k, k < n → step (f k) = some (.inl (f (k + 1)))) (stop : step (f n) = some (.inr r)) (hn : n ≤ 1000000000000000000 := by first | omega | (simp only [Sm] at *; omega)) : loopO step (f 0) = some r := by
  have key : ∀ (m k : Nat), m + k = n → Runs step m (f k) r := by
    intro m
    induction m with
    | zero => intro k hk; rw [show k = n from by omega]; exact .done stop
    | succ m ih => intro k hk; exact .more (next k (by omega)) (ih (k + 1) (by omega))
  exact loopO_of (key n 0 (by omega)) hn
/-- a search: the first place where p holds -/
theorem loop_find (f : Nat → σ) (n : Nat) (p : Nat → Bool) {R : Nat → ρ} {e : ρ} (next : ∀ k, k < n → p k = false → step (f k) = some (.inl (f (k + 1)))) (hit : ∀ k, k < n → p k = true → step (f k) = some (.inr (R k))) (stop : step (f n) = some (.inr e)) (hn : n ≤ 1000000000000000000 := by first | omega | (simp only [Sm] at *; omega)) :
    loopO step (f 0) = some (match (List.range n).find? p with | some k => R k | none => e) := by
  cases hf : (List.range n).find? p with
  | none =>
    refine loop_run f n (fun k hk => next k hk ?_) stop hn
    have := List.find?_eq_none.1 hf k (List.mem_range.2 hk)
    simpa using this
  | some k =>
    obtain ⟨h1, as, bs, h2, h3⟩ := List.find?_eq_some_iff_append.1 hf
    have hk : k < n := List.mem_range.1 (List.mem_of_find?_eq_some hf)
    have hlen : as.length = k := by
      have h4 : (List.range n)[as.length]? = some k := by rw [h2]; simp
      rw [List.getElem?_range (by
        have := congrArg List.length h2
        simp at this
        omega)] at h4
      exact Option.some.inj h4
    refine loop_run f k (fun j hj => next j (by omega) ?_) (hit k hk h1) (by omega)
    have hmem : j ∈ as := by
      have h4 : (List.range n)[j]? = some j := List.getElem?_range (by omega)
      rw [h2, List.getElem?_append_left (by omega)] at h4
      exact List.mem_of_getElem? h4
    simpa using h3 j hmem
/-- a loop over a list that folds it -/
theorem loop_fold {α β : Type} (xs : List α) (mk : β → Nat → σ) (g : β → α → β) (fin : β → ρ) (b0 : β) (P : Nat → β → Prop) (h0 : P 0 b0)
    (next : ∀ k b x, xs[k]? = some x → P k b → step (mk b k) = some (.inl (mk (g b x) (k + 1))) ∧ P (k + 1) (g b x)) (stop : ∀ b, P xs.length b → step (mk b xs.length) = some (.inr (fin b))) (hn : xs.length ≤ 1000000000000000000 := by first | omega | (simp only [Sm] at *; omega)) :
    loopO step (mk b0 0) = some (fin (xs.foldl g b0)) ∧ P xs.length (xs.foldl g b0) := by
  have hP : ∀ k, k ≤ xs.length → P k ((xs.take k).foldl g b0) := by
    intro k
    induction k with
    | zero => intro _; simpa using h0
    | succ k ih =>
      intro hk
      have hx : xs[k]? = some xs[k] := List.getElem?_eq_getElem (by omega)
      rw [List.take_add_one, hx]
      simp only [Option.toList_some, List.foldl_append, List.foldl_cons, List.foldl_nil]
      exact (next k _ _ hx (ih (by omega))).2
  have e : xs.take xs.length = xs := List.take_length
  refine ⟨?_, by have := hP xs.length (Nat.le_refl _); rwa [e] at this⟩
  have h := loop_run (step := step) (r := fin (xs.foldl g b0)) (fun k => mk ((xs.take k).foldl g b0) k) xs.length (fun k hk => ?_) (by
    simp only [e]
    exact stop _ (by have := hP xs.length (Nat.le_refl _); rwa [e] at this)) hn
  · simpa using h
  · have hx : xs[k]? = some xs[k] := List.getElem?_eq_getElem hk
    have := (next k _ _ hx (hP k (by omega))).1
    simp only [List.take_add_one, hx, Option.toList_some, List.foldl_append, List.foldl_cons, List.foldl_nil]
    exact this
/-- a fold that may end early -/
def foldE {α β ρ : Type} (g : β → α → β ⊕ ρ) (fin : β → ρ) : List α → β → ρ
  | [], b => fin b
  | x :: xs, b => match g b x with
    | .inl b' => foldE g fin xs b'
    | .inr r => r
theorem loop_foldE {α β : Type} (xs : List α) (mk : β → Nat → σ) (g : β → α → β ⊕ ρ) (fin : β → ρ) (b0 : β) (P : Nat → β → Prop) (h0 : P 0 b0)
    (next : ∀ k b x, xs[k]? = some x → P k b → (match g b x with | .inl b' => step (mk b k) = some (.inl (mk b' (k + 1))) ∧ P (k + 1) b' | .inr r => step (mk b k) = some (.inr r))) (stop : ∀ b, P xs.length b → step (mk b xs.length) = some (.inr (fin b))) (hn : xs.length ≤ 1000000000000000000 := by first | omega | (simp only [Sm] at *; omega)) :
    loopO step (mk b0 0) = some (foldE g fin xs b0) := by
  have key : ∀ (ys : List α) (k : Nat) (b : β), xs.drop k = ys → k ≤ xs.length → P k b → ∃ j, j ≤ ys.length ∧ Runs step j (mk b k) (foldE g fin ys b) := by
    intro ys
    induction ys with
    | nil =>
      intro k b hd hk hp
      have : xs.length ≤ k := List.drop_eq_nil_iff.1 hd
      have hk : k = xs.length := by omega
      subst hk
      exact ⟨0, Nat.le_refl _, .done (stop b hp)⟩
    | cons x ys ih =>
      intro k b hd hk hp
      have hlt : k < xs.length := by
        have := congrArg List.length hd
        simp at this
        omega
      have hx : xs[k]? = some x := by
        have := congrArg (fun l => l[0]?) hd
        simpa using this
      have hd' : xs.drop (k + 1) = ys := by
        rw [List.drop_eq_getElem_cons hlt] at hd
        exact (List.cons.inj hd).2
      have hn := next k b x hx hp
      cases hg : g b x with
      | inl b' =>
        rw [hg] at hn
        obtain ⟨j, h1, h2⟩ := ih (k + 1) b' hd' (by omega) hn.2
        refine ⟨j + 1, by simp; omega, ?_⟩
        have : foldE g fin (x :: ys) b = foldE g fin ys b' := by simp [foldE, hg]
        rw [this]
        exact .more hn.1 h2
      | inr r =>
        rw [hg] at hn
        have : foldE g fin (x :: ys) b = r := by simp [foldE, hg]
        rw [this]
        exact ⟨0, by simp, .done hn⟩
  obtain ⟨j, h1, h2⟩ := key xs 0 b0 (by simp) (by omega) h0
  exact loopO_of h2 (by omega)
end
section
open Classical
/-- the Bool of a proposition -/
noncomputable def dB (p : Prop) : Bool := decide p
theorem dB_iff {p : Prop} : dB p = true ↔ p := by simp [dB]
theorem dB_T {p : Prop} (h : p) : dB p = true := dB_iff.2 h
theorem dB_F {p : Prop} (h : ¬ p) : dB p = false := by cases hb : dB p with | true => exact (h (dB_iff.1 hb)).elim | false => rfl
theorem dB_eq {p : Prop} {b : Bool} (h : b = true ↔ p) : b = dB p := by
  cases b with
  | true => exact (dB_T (h.1 rfl)).symm
  | false => exact (dB_F fun hp => by have := h.2 hp; cases this).symm
theorem dB_congr {p q : Prop} (h : p ↔ q) : dB p = dB q := by rw [propext h]
/-- all elements of a list pass a test -/
theorem loop_all {α σ ρ : Type} {step : σ → Option (σ ⊕ ρ)} (xs : List α) (mk : Nat → σ) (P : Nat → α → Prop) {e r : ρ}
    (next : ∀ k x, xs[k]? = some x → P k x → step (mk k) = some (.inl (mk (k + 1)))) (hit : ∀ k x, xs[k]? = some x → ¬ P k x → step (mk k) = some (.inr r)) (stop : step (mk xs.length) = some (.inr e)) (hn : xs.length ≤ 1000000000000000000 := by first | omega | (simp only [Sm] at *; omega)) :
    loopO step (mk 0) = some (if ∀ k x, xs[k]? = some x → P k x then e else r) := by
  rw [loop_find (R := fun _ => r) (e := e) mk xs.length (fun k => dB (∃ x, xs[k]? = some x ∧ ¬ P k x)) (fun k hk h => ?_) (fun k hk h => ?_) stop hn]
  · by_cases h : ∀ k x, xs[k]? = some x → P k x
    · rw [if_pos h]
      have : (List.range xs.length).find? (fun k => dB (∃ x, xs[k]? = some x ∧ ¬ P k x)) = none := by
        rw [List.find?_eq_none]
        intro k hk hp
        obtain ⟨x, hx, hn⟩ := dB_iff.1 hp
        exact hn (h k x hx)
      rw [this]
    · rw [if_neg h]
      cases hf : (List.range xs.length).find? (fun k => dB (∃ x, xs[k]? = some x ∧ ¬ P k x)) with
      | some k => rfl
      | none =>
        exfalso
        apply h
        intro k x hx
        apply Classical.byContradiction
        intro hn
        have hk : k < xs.length := (List.getElem?_eq_some_iff.1 hx).1
        exact List.find?_eq_none.1 hf k (List.mem_range.2 hk) (dB_T ⟨x, hx, hn⟩)
  · have hx : xs[k]? = some xs[k] := List.getElem?_eq_getElem hk
    refine next k _ hx (Classical.byContradiction fun hn => ?_)
    rw [dB_T ⟨_, hx, hn⟩] at h
    cases h
  · obtain ⟨x, hx, hn⟩ := dB_iff.1 h
    exact hit k x hx hn
end

/-! operations -/
theorem W_sm {x : Int} (h1 : -1000000000000000000 ≤ x) (h2 : x ≤ 1000000000000000000) : W x = x := W_in (by omega) (by omega)
theorem idx_nat {α : Type} (xs : List α) (j : Nat) : idx xs (j : Int) = xs[j]? := by simp [idx]
theorem idx_Z {α : Type} {xs : List α} {j : Int} (h : 0 ≤ j) : idx xs j = xs[j.toNat]? := by simp [idx, h]
theorem idx_neg {α : Type} {xs : List α} {j : Int} (h : j < 0) : idx xs j = none := by unfold idx; rw [if_neg (by omega)]
theorem setO_nat {α : Type} {xs : List α} {j : Nat} (h : j < xs.length) (y : α) : setO xs (j : Int) y = some (xs.set j y) := by
  unfold setO
  rw [if_pos ⟨by omega, by omega⟩]
  simp
theorem setO_Z {α : Type} {xs : List α} {j : Int} (h0 : 0 ≤ j) (h : j < xs.length) (y : α) : setO xs j y = some (xs.set j.toNat y) := by unfold setO; rw [if_pos ⟨h0, h⟩]
theorem app_sm {α : Type} {xs ys : List α} (h : xs.length + ys.length ≤ 1073741824) : app xs ys = some (xs ++ ys) := by unfold app; rw [if_pos h]
theorem slc_take {α : Type} {xs : List α} {n : Nat} (h : n ≤ xs.length) : slc xs 0 (n : Int) = some (xs.take n) := by
  unfold slc
  rw [if_pos ⟨by omega, by omega, by omega⟩]
  simp
theorem slc_drop {α : Type} {xs : List α} {n : Nat} (h : n ≤ xs.length) : slc xs (n : Int) (len xs) = some (xs.drop n) := by
  unfold slc len
  rw [if_pos ⟨by omega, by omega, by omega⟩]
  simp
theorem quoO_nn {a b : Int} (ha : 0 ≤ a) (hb : 0 < b) (h : a ≤ 1000000000000000000) : quoO a b = some (a / b) := by
  unfold quoO
  have h1 : a.tdiv b = a / b := Int.tdiv_eq_ediv_of_nonneg ha
  have h2 : 0 ≤ a / b := Int.ediv_nonneg ha (by omega)
  have h3 : a / b ≤ a := Int.ediv_le_self _ ha
  rw [if_neg (by omega), h1, W_sm (by omega) (by omega)]
theorem remO_nn {a b : Int} (ha : 0 ≤ a) (hb : 0 < b) : remO a b = some (a % b) := by
  unfold remO
  rw [if_neg (by omega), Int.tmod_eq_emod_of_nonneg ha]
theorem mkZ_nat {α : Type} {z : α} {n : Nat} (h : n ≤ 1073741824) : mkZ z (n : Int) = some (List.replicate n z) := by
  unfold mkZ; rw [if_pos ⟨by omega, by omega⟩]; simp
theorem mkZ_Z {α : Type} {z : α} {j : Int} (h0 : 0 ≤ j) (h : j ≤ 1073741824) : mkZ z j = some (List.replicate j.toNat z) := by
  unfold mkZ; rw [if_pos ⟨h0, h⟩]
theorem len_def {α : Type} (l : List α) : len l = (l.length : Int) := rfl
theorem dT {c : Prop} [Decidable c] (h : c) : decide c = true := decide_eq_true h
theorem dF {c : Prop} [Decidable c] (h : ¬ c) : decide c = false := decide_eq_false h
theorem beqT {a b : Int} (h : a = b) : (a == b) = true := by simp [h]
theorem beqF {a b : Int} (h : a ≠ b) : (a == b) = false := by simp [h]
theorem bneT {a b : Int} (h : a ≠ b) : (a != b) = true := by simp [h]
theorem bneF {a b : Int} (h : a = b) : (a != b) = false := by simp [h]
end Rx
end Go.Proofs.Ytkgfdplcjdidhaa
namespace Go.Proofs.Ytkgfdplcjdidhaa
open Go Go.RowKit Dp

namespace Rx

theorem W_succ {k : Nat} (h : k < 1000000000000000000) : W ((k : Int) + 1) = ((k + 1 : Nat) : Int) := by rw [W_sm (by omega) (by omega)]; omega
theorem W_pred {k : Nat} (h : k < 1000000000000000000) (h0 : 0 < k) : W ((k : Int) - 1) = ((k - 1 : Nat) : Int) := by rw [W_sm (by omega) (by omega)]; omega

section
variable {α : Type} [Rep α]
/-- element k, or nothing's -/
def gt (l : List α) (k : Nat) : α := l.getD k Rep.zero
theorem gt_get {l : List α} {k : Nat} (h : k < l.length) : gt l k = l[k] := by simp [gt, List.getD, h]
theorem idx_gt {l : List α} {k : Nat} (h : k < l.length) : idx l (k : Int) = some (gt l k) := by rw [idx_nat, gt_get h]; simp [h]
theorem idx_gtZ {l : List α} {j : Int} (h0 : 0 ≤ j) (h : j < l.length) : idx l j = some (gt l j.toNat) := by
  obtain ⟨k, rfl⟩ := Int.eq_ofNat_of_zero_le h0
  rw [idx_gt (by omega)]
  simp
theorem gt_mem {l : List α} {k : Nat} (h : k < l.length) : gt l k ∈ l := by rw [gt_get h]; exact List.getElem_mem _
theorem mem_gt {l : List α} {x : α} (h : x ∈ l) : ∃ k, k < l.length ∧ gt l k = x := by
  obtain ⟨k, hk, e⟩ := List.getElem_of_mem h
  exact ⟨k, hk, by rw [gt_get hk, e]⟩
theorem gt_some {l : List α} {k : Nat} {x : α} (h : l[k]? = some x) : gt l k = x := by
  obtain ⟨hk, e⟩ := List.getElem?_eq_some_iff.1 h
  rw [gt_get hk, e]
theorem gt_set {l : List α} {i k : Nat} {x : α} (h : i < l.length) : gt (l.set i x) k = if k = i then x else gt l k := by
  unfold gt
  simp only [List.getD_eq_getElem?_getD, List.getElem?_set]
  by_cases hk : i = k
  · subst hk; simp [h]
  · rw [if_neg hk, if_neg (fun e => hk e.symm)]
theorem gt_app_left {l m : List α} {k : Nat} (h : k < l.length) : gt (l ++ m) k = gt l k := by
  unfold gt; simp [List.getD_eq_getElem?_getD, List.getElem?_append_left h]
theorem gt_app_last {l : List α} {x : α} : gt (l ++ [x]) l.length = x := by
  unfold gt; simp [List.getD_eq_getElem?_getD]
theorem ext_gt {l m : List α} (h : l.length = m.length) (he : ∀ k, k < l.length → gt l k = gt m k) : l = m := by
  apply List.ext_getElem h
  intro k h1 h2
  have := he k h1
  rwa [gt_get h1, gt_get h2] at this
theorem take_gt {l : List α} {k : Nat} (h : k < l.length) : l.take (k + 1) = l.take k ++ [gt l k] := by
  rw [List.take_add_one, List.getElem?_eq_getElem h, gt_get h]; rfl
theorem gt_replicate {n k : Nat} {z : α} (h : k < n) : gt (List.replicate n z) k = z := by
  rw [gt_get (by simpa using h)]; simp
theorem mem_iff_gt {l : List α} {x : α} : x ∈ l ↔ ∃ k, k < l.length ∧ gt l k = x :=
  ⟨mem_gt, fun ⟨_, hk, e⟩ => e ▸ gt_mem hk⟩
theorem all_iff_gt {l : List α} {P : α → Prop} : (∀ x ∈ l, P x) ↔ ∀ k, k < l.length → P (gt l k) :=
  ⟨fun h k hk => h _ (gt_mem hk), fun h x hx => by obtain ⟨k, hk, rfl⟩ := mem_gt hx; exact h k hk⟩
theorem gt_map_range {n j : Nat} (f : Nat → α) (h : j < n) : gt ((List.range n).map f) j = f j := by
  rw [gt_get (by simpa using h)]; simp
theorem gt_snoc {l : List α} {x : α} {k : Nat} (h : k < l.length + 1) : gt (l ++ [x]) k = if k < l.length then gt l k else x := by
  by_cases hk : k < l.length
  · rw [if_pos hk, gt_app_left hk]
  · rw [if_neg hk, show k = l.length from by omega, gt_app_last]
end
theorem setO_gt {α : Type} {l : List α} {j : Int} {x : α} (h0 : 0 ≤ j) (h : j < l.length) : setO l j x = some (l.set j.toNat x) := by
  unfold setO; rw [if_pos ⟨h0, h⟩]
theorem eqO_self (a : Int) : eqO a a = some () := if_pos rfl
theorem len_nat {α : Type} (l : List α) : len l = (l.length : Int) := rfl

/-! searches -/
theorem find_none {n : Nat} {p : Nat → Bool} (h : ∀ k, k < n → p k = false) : (List.range n).find? p = none := by
  rw [List.find?_eq_none]
  intro k hk
  rw [h k (List.mem_range.1 hk)]
  simp
section
open Classical
/-- a search whose answer does not tell the place -/
theorem loop_any {σ ρ : Type} {step : σ → Option (σ ⊕ ρ)} (f : Nat → σ) (n : Nat) (P : Nat → Prop) {r e : ρ} (next : ∀ k, k < n → ¬ P k → step (f k) = some (.inl (f (k + 1)))) (hit : ∀ k, k < n → P k → step (f k) = some (.inr r)) (stop : step (f n) = some (.inr e)) (hn : n ≤ 1000000000000000000 := by first | omega | (simp only [Sm] at *; omega)) :
    loopO step (f 0) = some (if ∃ k, k < n ∧ P k then r else e) := by
  rw [loop_find (R := fun _ => r) (e := e) f n (fun k => decide (P k)) (fun k hk h => next k hk (by simpa using h)) (fun k hk h => hit k hk (by simpa using h)) stop hn]
  by_cases h : ∃ k, k < n ∧ P k
  · rw [if_pos h]
    obtain ⟨k, hk, hp⟩ := h
    cases hf : (List.range n).find? (fun k => decide (P k)) with
    | some j => rfl
    | none =>
      have := List.find?_eq_none.1 hf k (List.mem_range.2 hk)
      simp [hp] at this
  · rw [if_neg h, find_none (fun k hk => by
      have : ¬ P k := fun hp => h ⟨k, hk, hp⟩
      simp [this])]
theorem loop_anyB {σ ρ : Type} {step : σ → Option (σ ⊕ ρ)} (f : Nat → σ) (n : Nat) (P : Nat → Prop) {r e : ρ} (next : ∀ k, k < n → ¬ P k → step (f k) = some (.inl (f (k + 1)))) (hit : ∀ k, k < n → P k → step (f k) = some (.inr r)) (stop : step (f n) = some (.inr e)) (hn : n ≤ 1000000000000000000 := by first | omega | (simp only [Sm] at *; omega)) :
    loopO step (f 0) = some (cond (dB (∃ k, k < n ∧ P k)) r e) := by
  rw [loop_any f n P next hit stop hn]
  by_cases h : ∃ k, k < n ∧ P k
  · rw [if_pos h, dB_T h]; rfl
  · rw [if_neg h, dB_F h]; rfl
end
theorem lt_len {α : Type} {l : List α} {k : Nat} (h : k < l.length) : decide ((k : Int) < len l) = true := dT (by unfold len; omega)
theorem nlt_len {α : Type} {l : List α} : decide ((l.length : Int) < len l) = false := dF (by unfold len; omega)
theorem sm_lt {α : Type} {l : List α} (hl : Sm l) {k : Nat} (h : k < l.length) : k < 1000000000000000000 := by unfold Sm at hl; omega
theorem sm_le {α : Type} {l : List α} (hl : Sm l) : l.length ≤ 1000000000000000000 := by unfold Sm at hl; omega
/-! maps -/
theorem mget_put {α β κ : Type} (key : α → κ) (v : α → β) {z0 : β} {k j : κ} {z : α} (hz : key z = k) {f g : α → Bool} (hf : ∀ x, f x = true ↔ key x = k) (hg : ∀ x, g x = true ↔ key x = j) (xs : List α) :
    (j = k → mget g v z0 (mput f z xs) = v z) ∧ (j ≠ k → mget g v z0 (mput f z xs) = mget g v z0 xs) := by
  have hff : ∀ x, key x ≠ k → f x = false := fun x h => by
    cases hb : f x with
    | true => exact (h ((hf x).1 hb)).elim
    | false => rfl
  have hgf : ∀ x, key x ≠ j → g x = false := fun x h => by
    cases hb : g x with
    | true => exact (h ((hg x).1 hb)).elim
    | false => rfl
  constructor
  · rintro rfl
    have hgz : g z = true := (hg z).2 hz
    unfold mget mput
    by_cases ha : xs.any f = true
    · rw [if_pos ha]
      have : (xs.map fun x => if f x = true then z else x).find? g = some z := by
        induction xs with
        | nil => simp at ha
        | cons x xs ih =>
          by_cases hx : key x = j
          · simp [(hf x).2 hx, hgz]
          · have h1 := hff x hx
            have h2 := hgf x hx
            simp only [List.any_cons, h1, Bool.false_or] at ha
            simp only [List.map_cons, h1, Bool.false_eq_true, if_false, List.find?_cons, h2]
            exact ih ha
      rw [this]
    · rw [if_neg ha]
      have hn : xs.find? g = none := by
        rw [List.find?_eq_none]
        intro x hx hgx
        apply ha
        rw [List.any_eq_true]
        exact ⟨x, hx, (hf x).2 ((hg x).1 hgx)⟩
      rw [List.find?_append, hn]
      simp [hgz]
  · intro hne
    have hgz : g z = false := hgf z (by rw [hz]; exact fun h => hne h.symm)
    unfold mget mput
    by_cases ha : xs.any f = true
    · rw [if_pos ha]
      have : (xs.map fun x => if f x = true then z else x).find? g = xs.find? g := by
        clear ha
        induction xs with
        | nil => rfl
        | cons x xs ih =>
          by_cases hx : key x = k
          · have h2 := hgf x (by rw [hx]; exact fun h => hne h.symm)
            simp only [List.map_cons, (hf x).2 hx, if_true, List.find?_cons, hgz, h2]
            exact ih
          · have h1 := hff x hx
            simp only [List.map_cons, h1, Bool.false_eq_true, if_false, List.find?_cons]
            cases g x with
            | true => rfl
            | false => exact ih
      rw [this]
    · rw [if_neg ha, List.find?_append]
      have : [z].find? g = none := by simp [hgz]
      rw [this, Option.or_none]
/-- whether a map of bools says yes at a number -/
def mgB (xs : List (Int × Bool)) (k : Int) : Bool := mget (fun x => x.1 == k) (fun x => x.2) false xs
theorem mgB_put (xs : List (Int × Bool)) (k : Int) (b : Bool) (j : Int) : mgB (mput (fun x => x.1 == k) (k, b) xs) j = if j = k then b else mgB xs j := by
  have h := mget_put (fun x : Int × Bool => x.1) (fun x => x.2) (z0 := false) (k := k) (j := j) (z := (k, b)) rfl (f := fun x => x.1 == k) (g := fun x => x.1 == j) (fun x => by simp) (fun x => by simp) xs
  unfold mgB
  by_cases hj : j = k
  · rw [if_pos hj, h.1 hj]
  · rw [if_neg hj, h.2 hj]
theorem mgB_nil (k : Int) : mgB [] k = false := rfl
end Rx
end Go.Proofs.Ytkgfdplcjdidhaa
