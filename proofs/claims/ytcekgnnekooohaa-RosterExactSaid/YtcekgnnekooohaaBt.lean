/- Boards and states in which one thing is changed; small ones. Plain laws. -/
import Derived.Test.YtcekgnnekooohaaM4
set_option linter.unusedVariables false
set_option linter.unusedSimpArgs false
namespace Go.Proofs.Ytcekgnnekooohaa
open Go Go.RowKit Dp
namespace Rx

theorem loopO_big {σ ρ : Type} {step : σ → Option (σ ⊕ ρ)} {s : σ} {r : ρ} {k : Nat} (h : Runs step k s r) (hk : k ≤ 9223372036854775807) : loopO step s = some r := loopN_of h (by omega)
def SmC (l : List Consumer) : Prop := Sm l ∧ ∀ x ∈ l, Sm x.Needs
theorem small_eq {b : Board} {p : Power} (hl : b.Consumers.length ≤ 9223372036854775807) : ∃ r, dynposmake_Small b p = some r ∧ (r = true → SmB b ∧ SmP p) := by
  have key : ∀ (m k : Nat), m + k = b.Consumers.length → ∃ j r, j ≤ m ∧ Runs (dynposmake_Small_L1 b) j (k : Int) r ∧ (r = .inr false ∨ (r = .inl () ∧ ∀ i, k ≤ i → i < b.Consumers.length → (gt b.Consumers i).Needs.length ≤ 8)) := by
    intro m
    induction m with
    | zero =>
      intro k hk
      refine ⟨0, .inl (), Nat.le_refl _, .done ?_, .inr ⟨rfl, fun i h1 h2 => by omega⟩⟩
      unfold dynposmake_Small_L1
      rw [show k = b.Consumers.length by omega]
      simp only [nlt_len, Bool.false_eq_true, if_false]
    | succ m ih =>
      intro k hk
      have hkl : k < b.Consumers.length := by omega
      by_cases h8 : (gt b.Consumers k).Needs.length ≤ 8
      · obtain ⟨j, r, h1, h2, h3⟩ := ih (k + 1) (by omega)
        refine ⟨j + 1, r, by omega, .more ?_ h2, h3.imp id fun h => ⟨h.1, fun i hi hil => ?_⟩⟩
        · unfold dynposmake_Small_L1
          simp only [lt_len hkl, if_true, idx_gt hkl, Option.bind_some]
          rw [dF (c := len (gt b.Consumers k).Needs > 8) (by unfold len; omega)]
          simp only [Bool.false_eq_true, if_false]
          rw [W_in (x := (k : Int) + 1) (by omega) (by omega)]
          rfl
        · by_cases hik : i = k
          · rw [hik]; exact h8
          · exact h.2 i (by omega) hil
      · refine ⟨0, .inr false, Nat.zero_le _, .done ?_, .inl rfl⟩
        unfold dynposmake_Small_L1
        simp only [lt_len hkl, if_true, idx_gt hkl, Option.bind_some]
        rw [dT (c := len (gt b.Consumers k).Needs > 8) (by unfold len; omega)]
        rfl
  obtain ⟨j, r, h1, h2, h3⟩ := key b.Consumers.length 0 (by omega)
  unfold dynposmake_Small
  have e := loopO_big h2 (by omega)
  simp only [show ((0 : Nat) : Int) = 0 from rfl] at e
  rw [e]
  rcases h3 with rfl | ⟨rfl, h3⟩
  · exact ⟨false, rfl, fun h => by cases h⟩
  · simp only [Option.bind_some, Sum.elim_inl]
    by_cases c1 : len b.Breakers ≤ 14
    · by_cases c2 : len b.Sources ≤ 10
      · by_cases c3 : len b.Consumers ≤ 8
        · by_cases c4 : len p.Closed ≤ 14
          · by_cases c5 : len p.Sources ≤ 10
            · by_cases c6 : len p.Limits ≤ 10
              · refine ⟨decide (len p.Broken ≤ 10), by simp [c1, c2, c3, c4, c5, c6], fun h => ?_⟩
                have c7 := of_decide_eq_true h
                unfold len at *
                refine ⟨⟨by unfold Sm; omega, by unfold Sm; omega, by unfold Sm; omega, fun x hx => ?_⟩, by unfold Sm; omega, by unfold Sm; omega, by unfold Sm; omega, by unfold Sm; omega⟩
                obtain ⟨i, hi, rfl⟩ := mem_gt hx
                have := h3 i (Nat.zero_le _) hi
                unfold Sm; omega
              · exact ⟨false, by simp [c1, c2, c3, c4, c5, c6], fun h => by cases h⟩
            · exact ⟨false, by simp [c1, c2, c3, c4, c5], fun h => by cases h⟩
          · exact ⟨false, by simp [c1, c2, c3, c4], fun h => by cases h⟩
        · exact ⟨false, by simp [c1, c2, c3], fun h => by cases h⟩
      · exact ⟨false, by simp [c1, c2], fun h => by cases h⟩
    · exact ⟨false, by simp [c1], fun h => by cases h⟩
theorem wpPickS {l : List Int} {a : Int} {w : List Int} (hs : Sr l a) (h0 : w ≠ []) (hl : w.length ≤ 1000000) : Wp (Src_Pick ⟨l, a⟩ w) fun r => Sr r.2.1 r.2.2.1 := (wpPick hs h0 hl).mono fun _ h => h.2
theorem wpOdd {l : List Int} {a : Int} (hs : Sr l a) : Wp (Src_Odd ⟨l, a⟩) fun r => Sr r.2.1 r.2.2 := by
  unfold Src_Odd
  refine (wpPickS hs (by simp) (by simp)).bind fun y hy => ?_
  exact wp_some.2 hy
theorem SmC.set {l : List Consumer} (h : SmC l) (j : Nat) {x : Consumer} (hx : Sm x.Needs) : SmC (l.set j x) := by
  refine ⟨by have := h.1; unfold Sm at this ⊢; simpa using this, fun y hy => ?_⟩
  rcases List.mem_or_eq_of_mem_set hy with hy | rfl
  · exact h.2 y hy
  · exact hx
theorem smAny_set {α : Type} {l : List α} (h : Sm l) (j : Nat) (x : α) : Sm (l.set j x) := by unfold Sm at h ⊢; simpa using h
theorem copyS_eq {p : Power} (h1 : p.Closed.length ≤ 1000) (h2 : p.Sources.length ≤ 1000) (h3 : p.Limits.length ≤ 1000) (h4 : p.Broken.length ≤ 1000) : dynposref15_Copy p = some (p.Closed, p.Sources, p.Limits, p.Broken) := by
  unfold dynposref15_Copy
  rw [show app ([] : List Bool) p.Closed = some p.Closed from app_sm (by simp; omega), show app ([] : List Running) p.Sources = some p.Sources from app_sm (by simp; omega), show app ([] : List Int) p.Limits = some p.Limits from app_sm (by simp; omega), show app ([] : List Part) p.Broken = some p.Broken from app_sm (by simp; omega)]
  rfl
theorem wpBentPower {l : List Int} {a : Int} (hs : Sr l a) {p : Power} (h1 : p.Closed.length ≤ 1000) (h2 : p.Sources.length ≤ 1000) (h3 : p.Limits.length ≤ 1000) (h4 : p.Broken.length ≤ 1000) :
    Wp (Src_BentPower ⟨l, a⟩ p) fun r => Sr r.1 r.2.1 ∧ SmP ⟨r.2.2.1, r.2.2.2.1, r.2.2.2.2.1, r.2.2.2.2.2⟩ := by
  have s1 : Sm p.Closed := by unfold Sm; omega
  have s2 : Sm p.Sources := by unfold Sm; omega
  have s3 : Sm p.Limits := by unfold Sm; omega
  have s4 : Sm p.Broken := by unfold Sm; omega
  unfold Src_BentPower
  rw [copyS_eq h1 h2 h3 h4]
  simp only [Option.bind_some]
  refine (wpN hs (n := 6) (by omega) (by omega)).bind fun y hy => ?_
  obtain ⟨y, l1, a1⟩ := y
  simp only at hy ⊢
  have hs1 := hy.2
  refine Wp.bind (Q := fun x => Sr x.1 x.2.1 ∧ Sm x.2.2.1 ∧ Sm x.2.2.2.1 ∧ Sm x.2.2.2.2.1 ∧ Sm x.2.2.2.2.2) ?_ fun x hx => wp_some.2 ⟨hx.1, hx.2.2.2.1, hx.2.1, hx.2.2.1, hx.2.2.2.2⟩
  refine Wp.ite (fun _ => ?_) fun _ => ?_
  · rw [app_sm (by simp; omega)]
    exact wp_some.2 ⟨hs1, s2, s3, by unfold Sm; simp; omega, s4⟩
  refine Wp.bind (Q := fun x => Sr x.1 x.2.1 ∧ Sm x.2.2.1 ∧ Sm x.2.2.2.1 ∧ Sm x.2.2.2.2.1 ∧ Sm x.2.2.2.2.2) ?_ fun x hx => wp_some.2 ⟨hx.1, hx.2.2.1, hx.2.2.2.1, hx.2.1, hx.2.2.2.2⟩
  refine Wp.ite (fun _ => ?_) fun _ => ?_
  · refine Wp.bind (Q := fun x => Sr x.1 x.2.1 ∧ Sm x.2.2) ?_ fun x hx => wp_some.2 ⟨hx.1, s1, hx.2, s3, s4⟩
    refine Wp.ite (fun h => ?_) fun _ => wp_some.2 ⟨hs1, s2⟩
    have h := of_decide_eq_true h
    refine (wpN hs1 (n := len p.Sources) (by omega) (by unfold len; omega)).bind fun z hz => ?_
    obtain ⟨z, l2, a2⟩ := z
    simp only at hz ⊢
    have hzl : z < p.Sources.length := by have := hz.1.2; unfold len at this; omega
    refine (wpRange hz.2 (lo := -1) (hi := 5) (by omega) (by omega) (by omega) (by omega)).bind fun q hq => ?_
    rw [idx_gtZ hz.1.1 hzl]
    simp only [Option.bind_some]
    rw [setO_Z hz.1.1 hzl]
    exact wp_some.2 ⟨hq.2, smAny_set s2 _ _⟩
  refine Wp.bind (Q := fun x => Sr x.1 x.2.1 ∧ Sm x.2.2.1 ∧ Sm x.2.2.2.1 ∧ Sm x.2.2.2.2.1 ∧ Sm x.2.2.2.2.2) ?_ fun x hx => wp_some.2 hx
  refine Wp.ite (fun _ => ?_) fun _ => ?_
  · refine Wp.bind (Q := fun x => Sr x.1 x.2.1 ∧ Sm x.2.2) ?_ fun x hx => wp_some.2 ⟨hx.1, s1, hx.2, s3, s4⟩
    refine Wp.ite (fun h => ?_) fun _ => wp_some.2 ⟨hs1, s2⟩
    have h := of_decide_eq_true h
    refine (wpN hs1 (n := len p.Sources) (by omega) (by unfold len; omega)).bind fun z hz => ?_
    obtain ⟨z, l2, a2⟩ := z
    simp only at hz ⊢
    have hzl : z < p.Sources.length := by have := hz.1.2; unfold len at this; omega
    refine (wpOdd hz.2).bind fun q hq => ?_
    rw [idx_gtZ hz.1.1 hzl]
    simp only [Option.bind_some]
    rw [setO_Z hz.1.1 hzl]
    exact wp_some.2 ⟨hq, smAny_set s2 _ _⟩
  refine Wp.bind (Q := fun x => Sr x.1 x.2.1 ∧ Sm x.2.2.1 ∧ Sm x.2.2.2.1 ∧ Sm x.2.2.2.2) ?_ fun x hx => wp_some.2 ⟨hx.1, hx.2.1, s2, hx.2.2.1, hx.2.2.2⟩
  refine Wp.ite (fun _ => ?_) fun _ => ?_
  · refine Wp.bind (Q := fun x => Sr x.1 x.2.1 ∧ Sm x.2.2) ?_ fun x hx => wp_some.2 ⟨hx.1, s1, hx.2, s4⟩
    refine Wp.ite (fun h => ?_) fun _ => wp_some.2 ⟨hs1, s3⟩
    have h := of_decide_eq_true h
    refine (wpN hs1 (n := len p.Limits) (by omega) (by unfold len; omega)).bind fun z hz => ?_
    obtain ⟨z, l2, a2⟩ := z
    simp only at hz ⊢
    have hzl : z < p.Limits.length := by have := hz.1.2; unfold len at this; omega
    refine (wpOdd hz.2).bind fun q hq => ?_
    rw [idx_gtZ hz.1.1 hzl]
    simp only [Option.bind_some]
    rw [setO_Z hz.1.1 hzl]
    exact wp_some.2 ⟨hq, smAny_set s3 _ _⟩
  refine Wp.bind (Q := fun x => Sr x.1 x.2.1 ∧ Sm x.2.2.1 ∧ Sm x.2.2.2) ?_ fun x hx => wp_some.2 ⟨hx.1, hx.2.1, s3, hx.2.2⟩
  refine Wp.ite (fun _ => ?_) fun _ => ?_
  · refine (wpRange hs1 (lo := 0) (hi := 5) (by omega) (by omega) (by omega) (by omega)).bind fun z1 hz1 => ?_
    refine (wpRange hz1.2 (lo := -1) (hi := 5) (by omega) (by omega) (by omega) (by omega)).bind fun z2 hz2 => ?_
    rw [app_sm (by simp; omega)]
    exact wp_some.2 ⟨hz2.2, s1, by unfold Sm; simp; omega⟩
  · have hl : Wp (loopO (Src_BentPower_L1 (p.Closed, p.Sources, p.Limits, p.Broken)) (0, p.Closed)) fun r => r.length = p.Closed.length := by
      refine wp_upto p.Closed.length (fun k s => s.1 = (k : Int) ∧ s.2.length = p.Closed.length) ⟨rfl, rfl⟩ (fun k s hk hi => ?_) (fun s hi => ?_) (by omega)
      · obtain ⟨z, c⟩ := s
        obtain ⟨e1, e2⟩ := hi
        simp only at e1 e2
        subst e1
        unfold Src_BentPower_L1
        simp only [lt_len hk, if_true, idx_gt (show k < c.length by omega), Option.bind_some]
        rw [setO_nat (show k < c.length by omega)]
        simp only [Option.bind_some]
        rw [W_succ (by omega)]
        exact wp_some.2 ⟨rfl, by simp [e2]⟩
      · obtain ⟨z, c⟩ := s
        obtain ⟨e1, e2⟩ := hi
        simp only at e1 e2
        subst e1
        unfold Src_BentPower_L1
        simp only [nlt_len, Bool.false_eq_true, if_false]
        exact wp_some.2 e2
    refine hl.bind fun z hz => ?_
    exact wp_some.2 ⟨hs1, by unfold Sm; simp only; omega, s4⟩
end Rx
end Go.Proofs.Ytcekgnnekooohaa
