/- Board: what the source of boards gives is valid. Plain laws. -/
import Derived.Test.YtfnphdhcgkondaaGreatM2
import Derived.Test.YtfnphdhcgkondaaGreatMsr
set_option linter.unusedVariables false
set_option linter.unusedSimpArgs false
namespace Go.Proofs.YtfnphdhcgkondaaGreat
open Go Go.RowKit Dp
namespace Rx
open Classical

abbrev bd (nb : Int) (br : List Breaker) (S : List Source) (C : List Consumer) : Board := ⟨nb, br, S, C, 0, 0⟩
theorem BrkOk.snoc {nb : Int} {br : List Breaker} {S S' : List Source} {C C' : List Consumer} {x : Breaker} (h : BrkOk (bd nb br S C)) (hS : S.length ≤ S'.length) (hC : C.length ≤ C'.length)
    (hA : 0 ≤ x.A ∧ x.A ≤ nb - 1)
    (hx : (x.Kind = 1 ∧ x.A + 1 ≤ x.B ∧ x.B ≤ nb - 1) ∨ (x.Kind = 2 ∧ (0 ≤ x.B ∧ x.B ≤ (S'.length : Int) - 1) ∧ ∀ i, i < br.length → ¬ ((gt br i).Kind = 2 ∧ (gt br i).B = x.B)) ∨ (x.Kind = 3 ∧ (0 ≤ x.B ∧ x.B ≤ (C'.length : Int) - 1) ∧ ∀ i, i < br.length → ¬ ((gt br i).Kind = 3 ∧ (gt br i).B = x.B ∧ (gt br i).A = x.A)))
    (cS : ∀ j, S.length ≤ j → j < S'.length → isS x j) (cC : ∀ j, C.length ≤ j → j < C'.length → isC x j) : BrkOk (bd nb (br ++ [x]) S' C') := by
  obtain ⟨h1, h2, h3⟩ := h
  refine ⟨fun k hk => ?_, fun j hj => ?_, fun j hj => ?_⟩
  · have hk' : k < br.length + 1 := by simpa using hk
    by_cases hkl : k < br.length
    · have h4 := h1 k hkl
      unfold OkAt at h4 ⊢
      simp only at h4 ⊢
      have e : ∀ i, i ≤ k → gt (br ++ [x]) i = gt br i := fun i hi => by rw [gt_snoc (by omega), if_pos (by omega)]
      rw [e k (Nat.le_refl _)]
      refine ⟨h4.1, ?_⟩
      rcases h4.2 with h5 | ⟨h5, h6, h7⟩ | ⟨h5, h6, h7⟩
      · exact .inl h5
      · exact .inr (.inl ⟨h5, by omega, fun i hi => by rw [e i (by omega)]; exact h7 i hi⟩)
      · exact .inr (.inr ⟨h5, by omega, fun i hi => by rw [e i (by omega)]; exact h7 i hi⟩)
    · have : k = br.length := by omega
      subst this
      unfold OkAt
      simp only
      have e : ∀ i, i < br.length → gt (br ++ [x]) i = gt br i := fun i hi => by rw [gt_snoc (by omega), if_pos hi]
      rw [gt_app_last]
      refine ⟨hA, ?_⟩
      rcases hx with h5 | ⟨h5, h6, h7⟩ | ⟨h5, h6, h7⟩
      · exact .inl h5
      · exact .inr (.inl ⟨h5, h6, fun i hi => by rw [e i hi]; exact h7 i hi⟩)
      · exact .inr (.inr ⟨h5, h6, fun i hi => by rw [e i hi]; exact h7 i hi⟩)
  · by_cases hjl : j < S.length
    · obtain ⟨k, hk, hs⟩ := h2 j hjl
      have hk' : k < br.length := hk
      exact ⟨k, by simp; omega, by show isS (gt (br ++ [x]) k) j; rw [gt_app_left hk']; exact hs⟩
    · exact ⟨br.length, by simp, by show isS (gt (br ++ [x]) br.length) j; rw [gt_app_last]; exact cS j (by omega) hj⟩
  · by_cases hjl : j < C.length
    · obtain ⟨k, hk, hs⟩ := h3 j hjl
      have hk' : k < br.length := hk
      exact ⟨k, by simp; omega, by show isC (gt (br ++ [x]) k) j; rw [gt_app_left hk']; exact hs⟩
    · exact ⟨br.length, by simp, by show isC (gt (br ++ [x]) br.length) j; rw [gt_app_last]; exact cC j (by omega) hj⟩
theorem BrkOk.srcB {nb : Int} {br : List Breaker} {S : List Source} {C : List Consumer} (h : BrkOk (bd nb br S C)) {i : Nat} (hi : i < br.length) (hk : (gt br i).Kind = 2) : (gt br i).B ≤ (S.length : Int) - 1 := by
  have := (h.1 i hi).2
  simp only at this
  rcases this with h5 | ⟨h5, h6, h7⟩ | ⟨h5, h6, h7⟩ <;> omega
theorem BrkOk.conB {nb : Int} {br : List Breaker} {S : List Source} {C : List Consumer} (h : BrkOk (bd nb br S C)) {i : Nat} (hi : i < br.length) (hk : (gt br i).Kind = 3) : (gt br i).B ≤ (C.length : Int) - 1 := by
  have := (h.1 i hi).2
  simp only at this
  rcases this with h5 | ⟨h5, h6, h7⟩ | ⟨h5, h6, h7⟩ <;> omega
theorem BrkOk.tie {nb : Int} {br : List Breaker} {S : List Source} {C : List Consumer} (h : BrkOk (bd nb br S C)) {a c : Int} (h0 : 0 ≤ a) (h1 : a + 1 ≤ c) (h2 : c ≤ nb - 1) : BrkOk (bd nb (br ++ [⟨1, a, c⟩]) S C) :=
  h.snoc (Nat.le_refl _) (Nat.le_refl _) ⟨h0, by simp only; omega⟩ (.inl ⟨rfl, h1, h2⟩) (fun j _ _ => by omega) (fun j _ _ => by omega)
theorem BrkOk.src {nb : Int} {br : List Breaker} {S : List Source} {C : List Consumer} (h : BrkOk (bd nb br S C)) {a : Int} (h0 : 0 ≤ a) (h1 : a ≤ nb - 1) (s : Source) : BrkOk (bd nb (br ++ [⟨2, a, len S⟩]) (S ++ [s]) C) := by
  refine h.snoc (by simp) (Nat.le_refl _) ⟨h0, h1⟩ (.inr (.inl ⟨rfl, by simp [len], fun i hi hh => ?_⟩)) (fun j h3 h4 => ⟨rfl, by simp at h4; unfold len; simp only; omega⟩) (fun j _ _ => by omega)
  have := h.srcB hi hh.1
  have e := hh.2
  simp only [len] at e
  omega
theorem BrkOk.con {nb : Int} {br : List Breaker} {S : List Source} {C : List Consumer} (h : BrkOk (bd nb br S C)) {a : Int} (h0 : 0 ≤ a) (h1 : a ≤ nb - 1) (c : Consumer) : BrkOk (bd nb (br ++ [⟨3, a, len C⟩]) S (C ++ [c])) := by
  refine h.snoc (Nat.le_refl _) (by simp) ⟨h0, h1⟩ (.inr (.inr ⟨rfl, by simp [len], fun i hi hh => ?_⟩)) (fun j _ _ => by omega) (fun j h3 h4 => ⟨rfl, by simp at h4; unfold len; simp only; omega⟩)
  have := h.conB hi hh.1
  have e := hh.2.1
  simp only [len] at e
  omega
theorem BrkOk.con2 {nb : Int} {br : List Breaker} {S : List Source} {C : List Consumer} (h : BrkOk (bd nb br S C)) {a a' : Int} (h0 : 0 ≤ a) (h1 : a ≤ nb - 1) (h0' : 0 ≤ a') (h1' : a' ≤ nb - 1) (hne : a ≠ a') (c : Consumer) : BrkOk (bd nb (br ++ [⟨3, a, len C⟩] ++ [⟨3, a', len C⟩]) S (C ++ [c])) := by
  have h2 := h.con h0 h1 c
  refine h2.snoc (Nat.le_refl _) (Nat.le_refl _) ⟨h0', h1'⟩ (.inr (.inr ⟨rfl, by simp [len], fun i hi hh => ?_⟩)) (fun j _ _ => by omega) (fun j _ _ => by omega)
  have hi' : i < br.length + 1 := by simpa using hi
  rw [gt_snoc hi'] at hh
  by_cases hl : i < br.length
  · rw [if_pos hl] at hh
    have := h.conB hl hh.1
    have e := hh.2.1
    simp only [len] at e
    omega
  · rw [if_neg hl] at hh
    exact hne hh.2.2

/-- what is known of a board that was drawn -/
structure Gen (b : Board) : Prop where
  bus : 1 ≤ b.Buses ∧ b.Buses ≤ 4
  brk : b.Breakers.length ≤ 18
  src : b.Sources.length ≤ 4
  con : b.Consumers.length ≤ 5
  good : BGood b
  rate : ∀ x ∈ b.Sources, 10 ≤ x.Rating ∧ x.Rating ≤ 100
  load : ∀ x ∈ b.Consumers, 0 ≤ x.Load ∧ x.Load ≤ 40
theorem Gen.lim {b : Board} (h : Gen b) : Lim b := ⟨⟨h.bus.1, by have := h.bus.2; omega⟩, by have := h.brk; omega, by have := h.src; omega, by have := h.con; omega⟩
theorem Gen.sm {b : Board} (h : Gen b) : SmB b := by
  refine ⟨by have := h.brk; unfold Sm; omega, by have := h.src; unfold Sm; omega, by have := h.con; unfold Sm; omega, fun x hx => ?_⟩
  obtain ⟨k, hk, rfl⟩ := mem_gt hx
  have := (h.good.2.2.2.2 k hk).2.2.2.2.2
  unfold Sm; omega
theorem Gen.chk {b : Board} (h : Gen b) : chk b = 0 := chk_zero.2 ⟨h.lim, h.good⟩

theorem wpBoard {l : List Int} {a : Int} (hs : Sr l a) : Wp (Src_Board ⟨l, a⟩) fun r => Sr r.2.2.2.1 r.2.2.2.2.1 ∧ Gen ⟨r.1, r.2.2.2.2.2.1, r.2.2.2.2.2.2.1, r.2.2.2.2.2.2.2, r.2.1, r.2.2.1⟩ := by
  unfold Src_Board
  refine (wpRange hs (lo := 1) (hi := 4) (by omega) (by omega) (by omega) (by omega)).bind fun y hy => ?_
  obtain ⟨nb, l, a⟩ := y
  obtain ⟨hnb, hs⟩ := hy
  simp only at hnb hs ⊢
  refine (wpPick hs (by simp) (by simp)).bind fun y hy => ?_
  obtain ⟨ph, l, a, z⟩ := y
  obtain ⟨hph, hs⟩ := hy
  simp only [List.mem_cons, List.not_mem_nil, or_false] at hph hs ⊢
  refine (wpPick hs (by simp) (by simp)).bind fun y hy => ?_
  obtain ⟨fr, l, a, z⟩ := y
  obtain ⟨hfr, hs⟩ := hy
  simp only [List.mem_cons, List.not_mem_nil, or_false] at hfr hs ⊢
  -- ties
  refine Wp.bind (Q := fun x => ∃ l a br, x = (l, a, nb, ph, fr, br) ∧ Sr l a ∧ BrkOk (bd nb br [] []) ∧ br.length ≤ 3) ?_ fun x hx => ?_
  · refine wp_upto (nb - 1).toNat (fun k s => ∃ l a br, s = ((k : Int) + 1, l, a, nb, ph, fr, br) ∧ Sr l a ∧ BrkOk (bd nb br [] []) ∧ br.length ≤ k) ⟨_, _, _, rfl, hs, ⟨fun k hk => absurd hk (by simp), fun j hj => absurd hj (by simp), fun j hj => absurd hj (by simp)⟩, Nat.le_refl _⟩ ?_ ?_
    · rintro k s hk ⟨l, a, br, rfl, hs, h1, h2⟩
      unfold Src_Board_L1
      simp only [dT (c := (k : Int) + 1 < nb) (by omega), if_true]
      refine (wpN hs (n := 6) (by omega) (by omega)).bind fun y hy => ?_
      obtain ⟨y, l, a⟩ := y
      obtain ⟨hy, hs⟩ := hy
      simp only at hy hs ⊢
      refine Wp.bind (Q := fun x => ∃ l a br, x = (l, a, nb, ph, fr, br) ∧ Sr l a ∧ BrkOk (bd nb br [] []) ∧ br.length ≤ k + 1) ?_ fun x hx => ?_
      · refine Wp.ite (fun _ => ?_) (fun _ => wp_some.2 ⟨_, _, _, rfl, hs, h1, by omega⟩)
        refine (wpN hs (n := (k : Int) + 1) (by omega) (by omega)).bind fun z hz => ?_
        obtain ⟨z, l, a⟩ := z
        obtain ⟨hz, hs⟩ := hz
        simp only at hz hs ⊢
        rw [app_sm (by simp; omega)]
        exact wp_some.2 ⟨_, _, _, rfl, hs, h1.tie hz.1 (by omega) (by omega), by simp; omega⟩
      · obtain ⟨l, a, br', rfl, hs, h3, h4⟩ := hx
        refine wp_some.2 ⟨l, a, br', ?_, hs, h3, h4⟩
        simp only
        rw [W_sm (by omega) (by omega)]
        rfl
    · rintro s ⟨l, a, br, rfl, hs, h1, h2⟩
      unfold Src_Board_L1
      simp only [dF (c := (((nb - 1).toNat : Nat) : Int) + 1 < nb) (by omega), Bool.false_eq_true, if_false]
      exact wp_some.2 ⟨_, _, _, rfl, hs, h1, by omega⟩
  obtain ⟨l, a, br1, rfl, hs, hx, hx'⟩ := hx
  simp only
  refine Wp.bind (Q := fun x => ∃ c l a, x = (c, l, a) ∧ Sr l a ∧ (c = true → 2 < nb)) ?_ fun x hx2 => ?_
  · refine Wp.ite (fun h => ?_) (fun _ => wp_some.2 ⟨_, _, _, rfl, hs, fun h => by cases h⟩)
    refine (wpN hs (n := 2) (by omega) (by omega)).bind fun y hy => ?_
    obtain ⟨y, l, a⟩ := y
    exact wp_some.2 ⟨_, _, _, rfl, hy.2, fun _ => of_decide_eq_true h⟩
  obtain ⟨more, l, a, rfl, hs, hx2⟩ := hx2
  simp only
  refine Wp.bind (Q := fun x => ∃ br, x = (nb, ph, fr, br) ∧ BrkOk (bd nb br [] []) ∧ br.length ≤ 4) ?_ fun x hx3 => ?_
  · refine Wp.ite (fun h => ?_) (fun _ => wp_some.2 ⟨_, rfl, hx, by omega⟩)
    have h2 := hx2 h
    rw [app_sm (by simp; omega), W_sm (x := nb - 1) (by omega) (by omega)]
    exact wp_some.2 ⟨_, rfl, hx.tie (Int.le_refl _) (by omega) (Int.le_refl _), by simp; omega⟩
  obtain ⟨br2, rfl, hx3, hx4⟩ := hx3
  simp only
  -- generators
  refine (wpN hs (n := 5) (by omega) (by omega)).bind fun y hy => ?_
  obtain ⟨m, l, a⟩ := y
  obtain ⟨hy, hs⟩ := hy
  simp only at hy hs ⊢
  refine Wp.bind (Q := fun x => ∃ l a br S, x = (l, a, nb, ph, fr, br, S) ∧ Sr l a ∧ BrkOk (bd nb br S []) ∧ br.length ≤ 8 ∧ S.length ≤ 4 ∧ ∀ s ∈ S, SrcOk s ∧ 10 ≤ s.Rating ∧ s.Rating ≤ 100) ?_ fun x hx => ?_
  · refine wp_upto m.toNat (fun k s => ∃ l a br S, s = (m - k, l, a, nb, ph, fr, br, S) ∧ Sr l a ∧ BrkOk (bd nb br S []) ∧ br.length ≤ 4 + k ∧ S.length = k ∧ ∀ q ∈ S, SrcOk q ∧ 10 ≤ q.Rating ∧ q.Rating ≤ 100) ⟨l, a, br2, [], by simp, hs, hx3, by simpa using hx4, rfl, by simp⟩ ?_ ?_
    · rintro k s hk ⟨l, a, br, S, rfl, hs, h1, h2, h3, h4⟩
      unfold Src_Board_L2
      simp only [dT (c := m - (k : Int) > 0) (by omega), if_true]
      refine (wpN hs (n := nb) (by omega) (by omega)).bind fun y hy2 => ?_
      obtain ⟨c, l, a⟩ := y
      obtain ⟨hy2, hs⟩ := hy2
      simp only at hy2 hs ⊢
      rw [app_sm (xs := br) (by simp; omega)]
      simp only [Option.bind_some]
      refine (wpPick hs (by simp) (by simp)).bind fun y hr => ?_
      obtain ⟨r, l, a, z⟩ := y
      obtain ⟨hr, hs⟩ := hr
      simp only [List.mem_cons, List.not_mem_nil, or_false] at hr hs ⊢
      refine (wpPick hs (by simp) (by simp)).bind fun y hl => ?_
      obtain ⟨le, l, a, z⟩ := y
      obtain ⟨hl, hs⟩ := hl
      simp only [List.mem_cons, List.not_mem_nil, or_false] at hl hs ⊢
      refine (wpPick hs (by simp) (by simp)).bind fun y ht => ?_
      obtain ⟨st, l, a, z⟩ := y
      obtain ⟨ht, hs⟩ := ht
      simp only [List.mem_cons, List.not_mem_nil, or_false] at ht hs ⊢
      rw [app_sm (xs := S) (by simp; omega)]
      simp only [Option.bind_some]
      refine wp_some.2 ⟨l, a, _, _, ?_, hs, h1.src hy2.1 (by omega) ⟨r, le, st⟩, by simp; omega, by simp; omega, fun q hq => ?_⟩
      · rw [W_sm (by omega) (by omega), show m - (k : Int) - 1 = m - ((k + 1 : Nat) : Int) from by omega]
      · rcases List.mem_append.1 hq with hq | hq
        · exact h4 q hq
        · simp only [List.mem_singleton] at hq
          subst hq
          unfold SrcOk
          simp only
          omega
    · rintro s ⟨l, a, br, S, rfl, hs, h1, h2, h3, h4⟩
      unfold Src_Board_L2
      simp only [dF (c := m - ((m.toNat : Nat) : Int) > 0) (by omega), Bool.false_eq_true, if_false]
      exact wp_some.2 ⟨_, _, _, _, rfl, hs, h1, by omega, by omega, h4⟩
  obtain ⟨l, a, br3, S, rfl, hs, g1, g2, g3, g4⟩ := hx
  simp only
  -- consumers
  refine (wpN hs (n := 6) (by omega) (by omega)).bind fun y hy2 => ?_
  obtain ⟨m2, l, a⟩ := y
  obtain ⟨hy2, hs⟩ := hy2
  simp only at hy2 hs ⊢
  refine Wp.bind (Q := fun x => ∃ l a br C, x = (l, a, nb, ph, fr, br, C) ∧ Sr l a ∧ BrkOk (bd nb br S C) ∧ br.length ≤ 18 ∧ C.length ≤ 5 ∧ (∀ k, k < C.length → CsOk (gt C k) k) ∧ ∀ c ∈ C, 0 ≤ c.Load ∧ c.Load ≤ 40) ?_ fun x hx => ?_
  · refine wp_upto m2.toNat (fun k s => ∃ l a br C, s = (m2 - k, l, a, nb, ph, fr, br, C) ∧ Sr l a ∧ BrkOk (bd nb br S C) ∧ br.length ≤ 8 + 2 * k ∧ C.length = k ∧ (∀ j, j < C.length → CsOk (gt C j) j) ∧ ∀ c ∈ C, 0 ≤ c.Load ∧ c.Load ≤ 40) ⟨l, a, br3, [], by simp, hs, g1, by simpa using g2, rfl, fun j hj => absurd hj (by simp), by simp⟩ ?_ ?_
    · rintro k s hk ⟨l, a, br, C, rfl, hs, h1, h2, h3, h4, h5⟩
      unfold Src_Board_L3
      simp only [dT (c := m2 - (k : Int) > 0) (by omega), if_true]
      refine (wpN hs (n := nb) (by omega) (by omega)).bind fun y hy3 => ?_
      obtain ⟨c, l, a⟩ := y
      obtain ⟨hy3, hs⟩ := hy3
      simp only at hy3 hs ⊢
      rw [app_sm (xs := br) (by simp; omega)]
      simp only [Option.bind_some]
      refine Wp.bind (Q := fun x => ∃ c l a, x = (c, l, a) ∧ Sr l a ∧ (c = true → 1 < nb)) ?_ fun x hx6 => ?_
      · refine Wp.ite (fun h => ?_) (fun _ => wp_some.2 ⟨_, _, _, rfl, hs, fun h => by cases h⟩)
        refine (wpN hs (n := 4) (by omega) (by omega)).bind fun y hy => ?_
        obtain ⟨y, l, a⟩ := y
        exact wp_some.2 ⟨_, _, _, rfl, hy.2, fun _ => of_decide_eq_true h⟩
      obtain ⟨two, l, a, rfl, hs, hx6⟩ := hx6
      simp only
      refine Wp.bind (Q := fun x => ∃ br, x = (nb, ph, fr, br) ∧ (∀ c, BrkOk (bd nb br S (C ++ [c]))) ∧ br.length ≤ 8 + 2 * (k + 1)) ?_ fun x hx7 => ?_
      · refine Wp.ite (fun h => ?_) (fun _ => wp_some.2 ⟨_, rfl, fun q => h1.con hy3.1 (by omega) q, by simp; omega⟩)
        have hnb := hx6 h
        have e1 : remO (W (c + 1)) nb = some ((c + 1) % nb) := by
          rw [W_sm (by omega) (by omega), remO_nn (by omega) (by omega)]
        rw [e1]
        simp only [Option.bind_some]
        rw [app_sm (by simp; omega)]
        have hm0 : 0 ≤ (c + 1) % nb := Int.emod_nonneg _ (by omega)
        have hm1 : (c + 1) % nb < nb := Int.emod_lt_of_pos _ (by omega)
        have hne : c ≠ (c + 1) % nb := by
          by_cases ha : c + 1 < nb
          · rw [Int.emod_eq_of_lt (by omega) ha]; omega
          · have : c + 1 = nb := by omega
            rw [this, Int.emod_self]
            omega
        exact wp_some.2 ⟨_, rfl, fun q => h1.con2 hy3.1 (by omega) hm0 (by omega) hne q, by simp; omega⟩
      obtain ⟨br', rfl, hbr, hbl⟩ := hx7
      simp only
      refine (wpPick hs (by simp) (by simp)).bind fun y hl => ?_
      obtain ⟨lo, l, a, z⟩ := y
      obtain ⟨hl, hs⟩ := hl
      simp only [List.mem_cons, List.not_mem_nil, or_false] at hl hs ⊢
      rw [quoO_nn (by omega) (by omega) (by omega)]
      simp only [Option.bind_some]
      refine (wpPick hs (by simp) (by simp)).bind fun y hle => ?_
      obtain ⟨le, l, a, z⟩ := y
      obtain ⟨hle, hs⟩ := hle
      simp only [List.mem_cons, List.not_mem_nil, or_false] at hle hs ⊢
      refine (wpN hs (n := 3) (by omega) (by omega)).bind fun y hpr => ?_
      obtain ⟨pr, l, a⟩ := y
      obtain ⟨hpr, hs⟩ := hpr
      simp only at hpr hs ⊢
      refine (wpRange hs (lo := -1) (hi := 2) (by omega) (by omega) (by omega) (by omega)).bind fun y hth => ?_
      obtain ⟨th, l, a⟩ := y
      obtain ⟨hth, hs⟩ := hth
      simp only at hth hs ⊢
      refine Wp.bind (Q := fun x => ∃ c l a, x = (c, l, a) ∧ Sr l a ∧ (c = true → 0 < k)) ?_ fun x hx8 => ?_
      · refine Wp.ite (fun h => ?_) (fun _ => wp_some.2 ⟨_, _, _, rfl, hs, fun h => by cases h⟩)
        refine (wpN hs (n := 4) (by omega) (by omega)).bind fun y hy => ?_
        obtain ⟨y, l, a⟩ := y
        exact wp_some.2 ⟨_, _, _, rfl, hy.2, fun _ => by have := of_decide_eq_true h; unfold len at this; omega⟩
      obtain ⟨nd, l, a, rfl, hs, hx8⟩ := hx8
      simp only
      refine Wp.bind (Q := fun x => ∃ l a w, x = (l, a, lo, le, pr, th, w) ∧ Sr l a ∧ NeedsOk w k ∧ w.length ≤ 4) ?_ fun x hx9 => ?_
      · refine Wp.ite (fun h => ?_) (fun _ => wp_some.2 ⟨_, _, _, rfl, hs, fun i hi => absurd hi (by simp), by simp⟩)
        have hk0 := hx8 h
        refine (wpN hs (n := len C) (by unfold len; omega) (by unfold len; omega)).bind fun y hy4 => ?_
        obtain ⟨y, l, a⟩ := y
        obtain ⟨hy4, hs⟩ := hy4
        simp only [len] at hy4 hs ⊢
        refine wp_some.2 ⟨_, _, _, rfl, hs, fun i hi => ?_, by simp⟩
        have hi0 : i = 0 := by simp at hi; omega
        subst hi0
        have e : gt [y] 0 = y := rfl
        rw [e]
        exact ⟨by omega, fun h => by omega⟩
      obtain ⟨l, a, needs, rfl, hs, hx9, hx10⟩ := hx9
      simp only
      rw [app_sm (xs := C) (by simp; omega)]
      simp only [Option.bind_some]
      refine wp_some.2 ⟨l, a, _, _, ?_, hs, hbr ⟨lo, le, pr, th, needs⟩, by omega, by simp; omega, fun j hj => ?_, fun c hc => ?_⟩
      · rw [W_sm (by omega) (by omega), show m2 - (k : Int) - 1 = m2 - ((k + 1 : Nat) : Int) from by omega]
      · have hj' : j < C.length + 1 := by simpa using hj
        rw [gt_snoc hj']
        by_cases hjl : j < C.length
        · rw [if_pos hjl]; exact h4 j hjl
        · rw [if_neg hjl]
          have : j = k := by omega
          subst this
          refine ⟨hx9, ?_, ?_, ?_, ?_, hx10⟩ <;> simp only <;> omega
      · rcases List.mem_append.1 hc with hc | hc
        · exact h5 c hc
        · simp only [List.mem_singleton] at hc
          subst hc
          simp only
          omega
    · rintro s ⟨l, a, br, C, rfl, hs, h1, h2, h3, h4, h5⟩
      unfold Src_Board_L3
      simp only [dF (c := m2 - ((m2.toNat : Nat) : Int) > 0) (by omega), Bool.false_eq_true, if_false]
      exact wp_some.2 ⟨_, _, _, _, rfl, hs, h1, by omega, by omega, h4, h5⟩
  obtain ⟨l, a, br4, C, rfl, hs, k1, k2, k3, k4, k5⟩ := hx
  simp only
  exact wp_some.2 ⟨hs, hnb, k2, g3, k3, ⟨⟨fun k hk => k1.1 k hk, k1.2.1, k1.2.2⟩, by simp only; omega, by simp only; omega, fun k hk => (g4 _ (gt_mem hk)).1, k4⟩, fun s hs => (g4 s hs).2, k5⟩
end Rx
end Go.Proofs.YtfnphdhcgkondaaGreat
