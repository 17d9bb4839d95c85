/- Board: what the source of boards gives is valid. Plain laws. -/
import Derived.Test.YtdfkfohpgakihaaLb2
import Derived.Test.YtdfkfohpgakihaaLsr
set_option linter.unusedVariables false
set_option linter.unusedSimpArgs false
namespace Go.Proofs.Ytdfkfohpgakihaa
open Go Go.RowKit Dp
open Classical

abbrev bd (nb : Int) (br : List Breaker) (S : List Source) (C : List Consumer) : Board := ⟨nb, br, S, C, 0, 0⟩
theorem gt_snoc {α : Type} [Rep α] {l : List α} {x : α} {k : Nat} (h : k < l.length + 1) : gt (l ++ [x]) k = if k < l.length then gt l k else x := by
  by_cases hk : k < l.length
  · rw [if_pos hk, gt_app_left hk]
  · have : k = l.length := by omega
    subst this
    rw [if_neg (by omega), gt_app_last]

theorem BrkOk.snoc {nb : Int} {br : List Breaker} {S S' : List Source} {C C' : List Consumer} {x : Breaker} (h : BrkOk (bd nb br S C)) (hS : S.length ≤ S'.length) (hC : C.length ≤ C'.length)
    (hA : 0 ≤ x.A ∧ x.A ≤ nb - 1)
    (hx : (x.Kind = 1 ∧ x.A + 1 ≤ x.B ∧ x.B ≤ nb - 1) ∨ (x.Kind = 2 ∧ (0 ≤ x.B ∧ x.B ≤ (S'.length : Int) - 1) ∧ ∀ i, i < br.length → ¬ ((gt br i).Kind = 2 ∧ (gt br i).B = x.B)) ∨ (x.Kind = 3 ∧ (0 ≤ x.B ∧ x.B ≤ (C'.length : Int) - 1) ∧ ∀ i, i < br.length → ¬ ((gt br i).Kind = 3 ∧ (gt br i).B = x.B ∧ (gt br i).A = x.A)))
    (cS : ∀ j, S.length ≤ j → j < S'.length → isS x j) (cC : ∀ j, C.length ≤ j → j < C'.length → isC x j) : BrkOk (bd nb (br ++ [x]) S' C') := by
  obtain ⟨h1, h2, h3⟩ := h
  refine ⟨fun k hk => ?_, fun j hj => ?_, fun j hj => ?_⟩
  · have hk' : k < br.length + 1 := by simpa using hk
    by_cases hkl : k < br.length
    · have h4 := h1 k hkl
      unfold OkAt at h4 ⊢
      simp only at h4 ⊢
      have e : ∀ i, i ≤ k → gt (br ++ [x]) i = gt br i := fun i hi => by rw [gt_snoc (by omega), if_pos (by omega)]
      rw [e k (Nat.le_refl _)]
      refine ⟨h4.1, ?_⟩
      rcases h4.2 with h5 | ⟨h5, h6, h7⟩ | ⟨h5, h6, h7⟩
      · exact .inl h5
      · exact .inr (.inl ⟨h5, by omega, fun i hi => by rw [e i (by omega)]; exact h7 i hi⟩)
      · exact .inr (.inr ⟨h5, by omega, fun i hi => by rw [e i (by omega)]; exact h7 i hi⟩)
    · have : k = br.length := by omega
      subst this
      unfold OkAt
      simp only
      have e : ∀ i, i < br.length → gt (br ++ [x]) i = gt br i := fun i hi => by rw [gt_snoc (by omega), if_pos hi]
      rw [gt_app_last]
      refine ⟨hA, ?_⟩
      rcases hx with h5 | ⟨h5, h6, h7⟩ | ⟨h5, h6, h7⟩
      · exact .inl h5
      · exact .inr (.inl ⟨h5, h6, fun i hi => by rw [e i hi]; exact h7 i hi⟩)
      · exact .inr (.inr ⟨h5, h6, fun i hi => by rw [e i hi]; exact h7 i hi⟩)
  · by_cases hjl : j < S.length
    · obtain ⟨k, hk, hs⟩ := h2 j hjl
      have hk' : k < br.length := hk
      exact ⟨k, by simp; omega, by show isS (gt (br ++ [x]) k) j; rw [gt_app_left hk']; exact hs⟩
    · exact ⟨br.length, by simp, by show isS (gt (br ++ [x]) br.length) j; rw [gt_app_last]; exact cS j (by omega) hj⟩
  · by_cases hjl : j < C.length
    · obtain ⟨k, hk, hs⟩ := h3 j hjl
      have hk' : k < br.length := hk
      exact ⟨k, by simp; omega, by show isC (gt (br ++ [x]) k) j; rw [gt_app_left hk']; exact hs⟩
    · exact ⟨br.length, by simp, by show isC (gt (br ++ [x]) br.length) j; rw [gt_app_last]; exact cC j (by omega) hj⟩
theorem BrkOk.srcB {nb : Int} {br : List Breaker} {S : List Source} {C : List Consumer} (h : BrkOk (bd nb br S C)) {i : Nat} (hi : i < br.length) (hk : (gt br i).Kind = 2) : (gt br i).B ≤ (S.length : Int) - 1 := by
  have := (h.1 i hi).2
  simp only at this
  rcases this with h5 | ⟨h5, h6, h7⟩ | ⟨h5, h6, h7⟩ <;> omega
theorem BrkOk.conB {nb : Int} {br : List Breaker} {S : List Source} {C : List Consumer} (h : BrkOk (bd nb br S C)) {i : Nat} (hi : i < br.length) (hk : (gt br i).Kind = 3) : (gt br i).B ≤ (C.length : Int) - 1 := by
  have := (h.1 i hi).2
  simp only at this
  rcases this with h5 | ⟨h5, h6, h7⟩ | ⟨h5, h6, h7⟩ <;> omega
theorem BrkOk.tie {nb : Int} {br : List Breaker} {S : List Source} {C : List Consumer} (h : BrkOk (bd nb br S C)) {a c : Int} (h0 : 0 ≤ a) (h1 : a + 1 ≤ c) (h2 : c ≤ nb - 1) : BrkOk (bd nb (br ++ [⟨1, a, c⟩]) S C) :=
  h.snoc (Nat.le_refl _) (Nat.le_refl _) ⟨h0, by simp only; omega⟩ (.inl ⟨rfl, h1, h2⟩) (fun j _ _ => by omega) (fun j _ _ => by omega)
theorem BrkOk.src {nb : Int} {br : List Breaker} {S : List Source} {C : List Consumer} (h : BrkOk (bd nb br S C)) {a : Int} (h0 : 0 ≤ a) (h1 : a ≤ nb - 1) (s : Source) : BrkOk (bd nb (br ++ [⟨2, a, len S⟩]) (S ++ [s]) C) := by
  refine h.snoc (by simp) (Nat.le_refl _) ⟨h0, h1⟩ (.inr (.inl ⟨rfl, by simp [len], fun i hi hh => ?_⟩)) (fun j h3 h4 => ⟨rfl, by simp at h4; unfold len; simp only; omega⟩) (fun j _ _ => by omega)
  have := h.srcB hi hh.1
  have e := hh.2
  simp only [len] at e
  omega
theorem BrkOk.con {nb : Int} {br : List Breaker} {S : List Source} {C : List Consumer} (h : BrkOk (bd nb br S C)) {a : Int} (h0 : 0 ≤ a) (h1 : a ≤ nb - 1) (c : Consumer) : BrkOk (bd nb (br ++ [⟨3, a, len C⟩]) S (C ++ [c])) := by
  refine h.snoc (Nat.le_refl _) (by simp) ⟨h0, h1⟩ (.inr (.inr ⟨rfl, by simp [len], fun i hi hh => ?_⟩)) (fun j _ _ => by omega) (fun j h3 h4 => ⟨rfl, by simp at h4; unfold len; simp only; omega⟩)
  have := h.conB hi hh.1
  have e := hh.2.1
  simp only [len] at e
  omega
theorem BrkOk.con2 {nb : Int} {br : List Breaker} {S : List Source} {C : List Consumer} (h : BrkOk (bd nb br S C)) {a a' : Int} (h0 : 0 ≤ a) (h1 : a ≤ nb - 1) (h0' : 0 ≤ a') (h1' : a' ≤ nb - 1) (hne : a ≠ a') (c : Consumer) : BrkOk (bd nb (br ++ [⟨3, a, len C⟩] ++ [⟨3, a', len C⟩]) S (C ++ [c])) := by
  have h2 := h.con h0 h1 c
  refine h2.snoc (Nat.le_refl _) (Nat.le_refl _) ⟨h0', h1'⟩ (.inr (.inr ⟨rfl, by simp [len], fun i hi hh => ?_⟩)) (fun j _ _ => by omega) (fun j _ _ => by omega)
  have hi' : i < br.length + 1 := by simpa using hi
  rw [gt_snoc hi'] at hh
  by_cases hl : i < br.length
  · rw [if_pos hl] at hh
    have := h.conB hl hh.1
    have e := hh.2.1
    simp only [len] at e
    omega
  · rw [if_neg hl] at hh
    exact hne hh.2.2

/-- what is known of a board that was drawn -/
structure Gen (b : Board) : Prop where
  bus : 1 ≤ b.Buses ∧ b.Buses ≤ 4
  brk : b.Breakers.length ≤ 18
  src : b.Sources.length ≤ 4
  con : b.Consumers.length ≤ 5
  good : BGood b
  rate : ∀ x ∈ b.Sources, 10 ≤ x.Rating ∧ x.Rating ≤ 100
  load : ∀ x ∈ b.Consumers, 0 ≤ x.Load ∧ x.Load ≤ 40
theorem Gen.lim {b : Board} (h : Gen b) : Lim b := ⟨⟨h.bus.1, by have := h.bus.2; omega⟩, by have := h.brk; omega, by have := h.src; omega, by have := h.con; omega⟩
theorem Gen.sm {b : Board} (h : Gen b) : SmB b := by
  refine ⟨by have := h.brk; unfold Sm; omega, by have := h.src; unfold Sm; omega, by have := h.con; unfold Sm; omega, fun x hx => ?_⟩
  obtain ⟨k, hk, rfl⟩ := mem_gt hx
  have := (h.good.2.2.2.2 k hk).2.2.2.2.2
  unfold Sm; omega
theorem Gen.chk {b : Board} (h : Gen b) : chk b = 0 := chk_zero.2 ⟨h.lim, h.good⟩

end Go.Proofs.Ytdfkfohpgakihaa
