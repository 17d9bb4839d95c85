/- Board: what the source of boards gives is valid. Plain laws. -/
import Derived.Test.YtnpghnnlcakbfaaLb2
import Derived.Test.YtnpghnnlcakbfaaLsr
set_option linter.unusedVariables false
set_option linter.unusedSimpArgs false
namespace Go.Proofs.Ytnpghnnlcakbfaa
open Go Go.RowKit Dp
open Classical

abbrev bd (nb : Int) (br : List Breaker) (S : List Source) (C : List Consumer) : Board := ⟨nb, br, S, C, 0, 0⟩
theorem gt_snoc {α : Type} [Rep α] {l : List α} {x : α} {k : Nat} (h : k < l.length + 1) : gt (l ++ [x]) k = if k < l.length then gt l k else x := by
  by_cases hk : k < l.length
  · rw [if_pos hk, gt_app_left hk]
  · have : k = l.length := by omega
    subst this
    rw [if_neg (by omega), gt_app_last]

theorem BrkOk.snoc {nb : Int} {br : List Breaker} {S S' : List Source} {C C' : List Consumer} {x : Breaker} (h : BrkOk (bd nb br S C)) (hS : S.length ≤ S'.length) (hC : C.length ≤ C'.length)
    (hA : 0 ≤ x.A ∧ x.A ≤ nb - 1)
    (hx : (x.Kind = 1 ∧ x.A + 1 ≤ x.B ∧ x.B ≤ nb - 1) ∨ (x.Kind = 2 ∧ (0 ≤ x.B ∧ x.B ≤ (S'.length : Int) - 1) ∧ ∀ i, i < br.length → ¬ ((gt br i).Kind = 2 ∧ (gt br i).B = x.B)) ∨ (x.Kind = 3 ∧ (0 ≤ x.B ∧ x.B ≤ (C'.length : Int) - 1) ∧ ∀ i, i < br.length → ¬ ((gt br i).Kind = 3 ∧ (gt br i).B = x.B ∧ (gt br i).A = x.A)))
    (cS : ∀ j, S.length ≤ j → j < S'.length → isS x j) (cC : ∀ j, C.length ≤ j → j < C'.length → isC x j) : BrkOk (bd nb (br ++ [x]) S' C') := by
  obtain ⟨h1, h2, h3⟩ := h
  refine ⟨fun k hk => ?_, fun j hj => ?_, fun j hj => ?_⟩
  · have hk' : k < br.length + 1 := by simpa using hk
    by_cases hkl : k < br.length
    · have h4 := h1 k hkl
      unfold OkAt at h4 ⊢
      simp only at h4 ⊢
      have e : ∀ i, i ≤ k → gt (br ++ [x]) i = gt br i := fun i hi => by rw [gt_snoc (by omega), if_pos (by omega)]
      rw [e k (Nat.le_refl _)]
      refine ⟨h4.1, ?_⟩
      rcases h4.2 with h5 | ⟨h5, h6, h7⟩ | ⟨h5, h6, h7⟩
      · exact .inl h5
      · exact .inr (.inl ⟨h5, by omega, fun i hi => by rw [e i (by omega)]; exact h7 i hi⟩)
      · exact .inr (.inr ⟨h5, by omega, fun i hi => by rw [e i (by omega)]; exact h7 i hi⟩)
    · have : k = br.length := by omega
      subst this
      unfold OkAt
      simp only
      have e : ∀ i, i < br.length → gt (br ++ [x]) i = gt br i := fun i hi => by rw [gt_snoc (by omega), if_pos hi]
      rw [gt_app_last]
      refine ⟨hA, ?_⟩
      rcases hx with h5 | ⟨h5, h6, h7⟩ | ⟨h5, h6, h7⟩
      · exact .inl h5
      · exact .inr (.inl ⟨h5, h6, fun i hi => by rw [e i hi]; exact h7 i hi⟩)
      · exact .inr (.inr ⟨h5, h6, fun i hi => by rw [e i hi]; exact h7 i hi⟩)
  · by_cases hjl : j < S.length
    · obtain ⟨k, hk, hs⟩ := h2 j hjl
      have hk' : k < br.length := hk
      exact ⟨k, by simp; omega, by show isS (gt (br ++ [x]) k) j; rw [gt_app_left hk']; exact hs⟩
    · exact ⟨br.length, by simp, by show isS (gt (br ++ [x]) br.length) j; rw [gt_app_last]; exact cS j (by omega) hj⟩
  · by_cases hjl : j < C.length
    · obtain ⟨k, hk, hs⟩ := h3 j hjl
      have hk' : k < br.length := hk
      exact ⟨k, by simp; omega, by show isC (gt (br ++ [x]) k) j; rw [gt_app_left hk']; exact hs⟩
    · exact ⟨br.length, by simp, by show isC (gt (br ++ [x]) br.length) j; rw [gt_app_last]; exact cC j (by omega) hj⟩
theorem BrkOk.srcB {nb : Int} {br : List Breaker} {S : List Source} {C : List Consumer} (h : BrkOk (bd nb br S C)) {i : Nat} (hi : i < br.length) (hk : (gt br i).Kind = 2) : (gt br i).B ≤ (S.length : Int) - 1 := by
  have := (h.1 i hi).2
  simp only at this
  rcases this with h5 | ⟨h5, h6, h7⟩ | ⟨h5, h6, h7⟩ <;> omega
theorem BrkOk.conB {nb : Int} {br : List Breaker} {S : List Source} {C : List Consumer} (h : BrkOk (bd nb br S C)) {i : Nat} (hi : i < br.length) (hk : (gt br i).Kind = 3) : (gt br i).B ≤ (C.length : Int) - 1 := by
  have := (h.1 i hi).2
  simp only at this
  rcases this with h5 | ⟨h5, h6, h7⟩ | ⟨h5, h6, h7⟩ <;> omega
theorem BrkOk.tie {nb : Int} {br : List Breaker} {S : List Source} {C : List Consumer} (h : BrkOk (bd nb br S C)) {a c : Int} (h0 : 0 ≤ a) (h1 : a + 1 ≤ c) (h2 : c ≤ nb - 1) : BrkOk (bd nb (br ++ [⟨1, a, c⟩]) S C) :=
  h.snoc (Nat.le_refl _) (Nat.le_refl _) ⟨h0, by simp only; omega⟩ (.inl ⟨rfl, h1, h2⟩) (fun j _ _ => by omega) (fun j _ _ => by omega)
theorem BrkOk.src {nb : Int} {br : List Breaker} {S : List Source} {C : List Consumer} (h : BrkOk (bd nb br S C)) {a : Int} (h0 : 0 ≤ a) (h1 : a ≤ nb - 1) (s : Source) : BrkOk (bd nb (br ++ [⟨2, a, len S⟩]) (S ++ [s]) C) := by
  refine h.snoc (by simp) (Nat.le_refl _) ⟨h0, h1⟩ (.inr (.inl ⟨rfl, by simp [len], fun i hi hh => ?_⟩)) (fun j h3 h4 => ⟨rfl, by simp at h4; unfold len; simp only; omega⟩) (fun j _ _ => by omega)
  have := h.srcB hi hh.1
  have e := hh.2
  simp only [len] at e
  omega
theorem BrkOk.con {nb : Int} {br : List Breaker} {S : List Source} {C : List Consumer} (h : BrkOk (bd nb br S C)) {a : Int} (h0 : 0 ≤ a) (h1 : a ≤ nb - 1) (c : Consumer) : BrkOk (bd nb (br ++ [⟨3, a, len C⟩]) S (C ++ [c])) := by
  refine h.snoc (Nat.le_refl _) (by simp) ⟨h0, h1⟩ (.inr (.inr ⟨rfl, by simp [len], fun i hi hh => ?_⟩)) (fun j _ _ => by omega) (fun j h3 h4 => ⟨rfl, by simp at h4; unfold len; simp only; omega⟩)
  have := h.conB hi hh.1
  have e := hh.2.1
  simp only [len] at e
  omega
theorem BrkOk.con2 {nb : Int} {br : List Breaker} {S : List Source} {C : List Consumer} (h : BrkOk (bd nb br S C)) {a a' : Int} (h0 : 0 ≤ a) (h1 : a ≤ nb - 1) (h0' : 0 ≤ a') (h1' : a' ≤ nb - 1) (hne : a ≠ a') (c : Consumer) : BrkOk (bd nb (br ++ [⟨3, a, len C⟩] ++ [⟨3, a', len C⟩]) S (C ++ [c])) := by
  have h2 := h.con h0 h1 c
  refine h2.snoc (Nat.le_refl _) (Nat.le_refl _) ⟨h0', h1'⟩ (.inr (.inr ⟨rfl, by simp [len], fun i hi hh => ?_⟩)) (fun j _ _ => by omega) (fun j _ _ => by omega)
  have hi' : i < br.length + 1 := by simpa using hi
  rw [gt_snoc hi'] at hh
  by_cases hl : i < br.length
  · rw [if_pos hl] at hh
    have := h.conB hl hh.1
    have e := hh.2.1
    simp only [len] at e
    omega
  · rw [if_neg hl] at hh
    exact hne hh.2.2

/-- what is known of a board that was drawn -/
structure Gen (b : Board) : Prop where
  bus : 1 ≤ b.Buses ∧ b.Buses ≤ 4
  brk : b.Breakers.length ≤ 18
  src : b.Sources.length ≤ 4
  con : b.Consumers.length ≤ 5
  good : BGood b
  rate : ∀ x ∈ b.Sources, 10 ≤ x.Rating ∧ x.Rating ≤ 100
  load : ∀ x ∈ b.Consumers, 0 ≤ x.Load ∧ x.Load ≤ 40
theorem Gen.lim {b : Board} (h : Gen b) : Lim b := ⟨⟨h.bus.1, by have := h.bus.2; omega⟩, by have := h.brk; omega, by have := h.src; omega, by have := h.con; omega⟩
theorem Gen.sm {b : Board} (h : Gen b) : SmB b := by
  refine ⟨by have := h.brk; unfold Sm; omega, by have := h.src; unfold Sm; omega, by have := h.con; unfold Sm; omega, fun x hx => ?_⟩
  obtain ⟨k, hk, rfl⟩ := mem_gt hx
  have := (h.good.2.2.2.2 k hk).2.2.2.2.2
  unfold Sm; omega
theorem Gen.chk {b : Board} (h : Gen b) : chk b = 0 := chk_zero.2 ⟨h.lim, h.good⟩

theorem wpBoard (st : List Int) : Wp (Src_Board st) fun r => Gen r.1 := by
  unfold Src_Board
  refine (wpRange st (lo := 1) (hi := 4) (by omega) (by omega) (by omega) (by omega)).bind fun y hy => ?_
  obtain ⟨nb, st1⟩ := y
  simp only at hy ⊢
  refine (wpPick st1 (by simp) (by simp)).bind fun y hph => ?_
  obtain ⟨ph, st2⟩ := y
  simp only [List.mem_cons, List.not_mem_nil, or_false] at hph ⊢
  refine (wpPick st2 (by simp) (by simp)).bind fun y hfr => ?_
  obtain ⟨fr, st3⟩ := y
  simp only [List.mem_cons, List.not_mem_nil, or_false] at hfr ⊢
  -- ties
  refine Wp.bind (Q := fun x : List Breaker × List Int => BrkOk (bd nb x.1 [] []) ∧ x.1.length ≤ 3) ?_ fun x hx => ?_
  · refine wp_upto (nb - 1).toNat (fun k s => s.1 = (k : Int) + 1 ∧ BrkOk (bd nb s.2.1 [] []) ∧ s.2.1.length ≤ k) ⟨rfl, ⟨fun k hk => absurd hk (by simp), fun j hj => absurd hj (by simp), fun j hj => absurd hj (by simp)⟩, Nat.le_refl _⟩ ?_ ?_
    · rintro k ⟨i, br, st⟩ hk ⟨rfl, h1, h2⟩
      simp only at h1 h2 ⊢
      unfold Src_Board_L1
      simp only [dT (c := (k : Int) + 1 < nb) (by omega), if_true]
      refine (wpN st (n := 6) (by omega) (by omega)).bind fun y hy1 => ?_
      obtain ⟨y, st⟩ := y
      simp only at hy1 ⊢
      refine Wp.bind (Q := fun x : List Breaker × List Int => BrkOk (bd nb x.1 [] []) ∧ x.1.length ≤ k + 1) ?_ fun x hx => ?_
      · refine Wp.ite (fun _ => ?_) (fun _ => wp_some.2 ⟨h1, by simp only; omega⟩)
        refine (wpN st (n := (k : Int) + 1) (by omega) (by omega)).bind fun z hz => ?_
        obtain ⟨z, st⟩ := z
        simp only at hz ⊢
        rw [app_sm (by simp; omega)]
        exact wp_some.2 ⟨h1.tie hz.1 (by omega) (by omega), by simp; omega⟩
      · obtain ⟨br', st'⟩ := x
        refine wp_some.2 (.inl ⟨_, rfl, ?_, hx.1, hx.2⟩)
        simp only
        rw [W_sm (by omega) (by omega)]
        omega
    · rintro ⟨i, br, st⟩ ⟨rfl, h1, h2⟩
      simp only at h1 h2 ⊢
      unfold Src_Board_L1
      simp only [dF (c := (((nb - 1).toNat : Nat) : Int) + 1 < nb) (by omega), Bool.false_eq_true, if_false]
      exact wp_some.2 ⟨_, rfl, h1, by simp only; omega⟩
  obtain ⟨br1, st4⟩ := x
  simp only at hx ⊢
  refine Wp.bind (Q := fun x : Bool × List Int => x.1 = true → 2 < nb) ?_ fun x hx2 => ?_
  · refine Wp.ite (fun h => ?_) (fun _ => wp_some.2 (fun h => by cases h))
    refine (wpN st4 (n := 2) (by omega) (by omega)).bind fun y _ => ?_
    obtain ⟨y, st⟩ := y
    exact wp_some.2 fun _ => of_decide_eq_true h
  obtain ⟨more, st5⟩ := x
  simp only at hx2 ⊢
  refine Wp.bind (Q := fun x : List Breaker => BrkOk (bd nb x [] []) ∧ x.length ≤ 4) ?_ fun br2 hx3 => ?_
  · refine Wp.ite (fun h => ?_) (fun _ => wp_some.2 ⟨hx.1, by have := hx.2; omega⟩)
    have h2 := hx2 h
    have := hx.2
    rw [app_sm (by simp; omega), W_sm (x := nb - 1) (by omega) (by omega)]
    exact wp_some.2 ⟨hx.1.tie (Int.le_refl _) (by omega) (Int.le_refl _), by simp; omega⟩
  -- generators
  refine (wpN st5 (n := 5) (by omega) (by omega)).bind fun y hy1 => ?_
  obtain ⟨m, st6⟩ := y
  simp only at hy1 ⊢
  refine Wp.bind (Q := fun x : List Breaker × List Source × List Int => BrkOk (bd nb x.1 x.2.1 []) ∧ x.1.length ≤ 8 ∧ x.2.1.length ≤ 4 ∧ ∀ s ∈ x.2.1, SrcOk s ∧ 10 ≤ s.Rating ∧ s.Rating ≤ 100) ?_ fun x hx4 => ?_
  · refine wp_upto m.toNat (fun k s => s.1 = m - k ∧ BrkOk (bd nb s.2.1 s.2.2.1 []) ∧ s.2.1.length ≤ 4 + k ∧ s.2.2.1.length = k ∧ ∀ q ∈ s.2.2.1, SrcOk q ∧ 10 ≤ q.Rating ∧ q.Rating ≤ 100) ⟨by simp, hx3.1, by simpa using hx3.2, rfl, by simp⟩ ?_ ?_
    · rintro k ⟨i, br, S, st⟩ hk ⟨rfl, h1, h2, h3, h4⟩
      simp only at h1 h2 h3 h4 ⊢
      unfold Src_Board_L2
      simp only [dT (c := m - (k : Int) > 0) (by omega), if_true]
      refine (wpN st (n := nb) (by omega) (by omega)).bind fun y hy2 => ?_
      obtain ⟨a, st⟩ := y
      simp only at hy2 ⊢
      rw [app_sm (xs := br) (by simp; omega)]
      simp only [Option.bind_some]
      refine (wpPick st (by simp) (by simp)).bind fun y hr => ?_
      obtain ⟨r, st⟩ := y
      simp only [List.mem_cons, List.not_mem_nil, or_false] at hr ⊢
      refine (wpPick st (by simp) (by simp)).bind fun y hl => ?_
      obtain ⟨l, st⟩ := y
      simp only [List.mem_cons, List.not_mem_nil, or_false] at hl ⊢
      refine (wpPick st (by simp) (by simp)).bind fun y hs => ?_
      obtain ⟨s, st⟩ := y
      simp only [List.mem_cons, List.not_mem_nil, or_false] at hs ⊢
      rw [app_sm (xs := S) (by simp; omega)]
      simp only [Option.bind_some]
      refine wp_some.2 (.inl ⟨_, rfl, ?_, h1.src hy2.1 (by omega) _, by simp; omega, by simp; omega, fun q hq => ?_⟩)
      · simp only
        rw [W_sm (by omega) (by omega)]
        omega
      · rcases List.mem_append.1 hq with hq | hq
        · exact h4 q hq
        · simp only [List.mem_singleton] at hq
          subst hq
          unfold SrcOk
          simp only
          omega
    · rintro ⟨i, br, S, st⟩ ⟨rfl, h1, h2, h3, h4⟩
      simp only at h1 h2 h3 h4 ⊢
      unfold Src_Board_L2
      simp only [dF (c := m - ((m.toNat : Nat) : Int) > 0) (by omega), Bool.false_eq_true, if_false]
      exact wp_some.2 ⟨_, rfl, h1, by simp only; omega, by simp only; omega, h4⟩
  obtain ⟨br3, S, st7⟩ := x
  simp only at hx4 ⊢
  obtain ⟨g1, g2, g3, g4⟩ := hx4
  -- consumers
  refine (wpN st7 (n := 6) (by omega) (by omega)).bind fun y hy2 => ?_
  obtain ⟨m2, st8⟩ := y
  simp only at hy2 ⊢
  refine Wp.bind (Q := fun x : List Breaker × List Consumer × List Int => BrkOk (bd nb x.1 S x.2.1) ∧ x.1.length ≤ 18 ∧ x.2.1.length ≤ 5 ∧ (∀ k, k < x.2.1.length → ConOk (gt x.2.1 k) k) ∧ ∀ c ∈ x.2.1, 0 ≤ c.Load ∧ c.Load ≤ 40) ?_ fun x hx5 => ?_
  · refine wp_upto m2.toNat (fun k s => s.1 = m2 - k ∧ BrkOk (bd nb s.2.1 S s.2.2.1) ∧ s.2.1.length ≤ 8 + 2 * k ∧ s.2.2.1.length = k ∧ (∀ j, j < s.2.2.1.length → ConOk (gt s.2.2.1 j) j) ∧ ∀ c ∈ s.2.2.1, 0 ≤ c.Load ∧ c.Load ≤ 40) ⟨by simp, g1, by simpa using g2, rfl, fun j hj => absurd hj (by simp), by simp⟩ ?_ ?_
    · rintro k ⟨i, br, C, st⟩ hk ⟨rfl, h1, h2, h3, h4, h5⟩
      simp only at h1 h2 h3 h4 h5 ⊢
      unfold Src_Board_L3
      simp only [dT (c := m2 - (k : Int) > 0) (by omega), if_true]
      refine (wpN st (n := nb) (by omega) (by omega)).bind fun y hy3 => ?_
      obtain ⟨a, st⟩ := y
      simp only at hy3 ⊢
      rw [app_sm (xs := br) (by simp; omega)]
      simp only [Option.bind_some]
      refine Wp.bind (Q := fun x : Bool × List Int => x.1 = true → 1 < nb) ?_ fun x hx6 => ?_
      · refine Wp.ite (fun h => ?_) (fun _ => wp_some.2 (fun h => by cases h))
        refine (wpN st (n := 4) (by omega) (by omega)).bind fun y _ => ?_
        obtain ⟨y, st⟩ := y
        exact wp_some.2 fun _ => of_decide_eq_true h
      obtain ⟨two, st⟩ := x
      simp only at hx6 ⊢
      refine Wp.bind (Q := fun x : List Breaker => (∀ c, BrkOk (bd nb x S (C ++ [c]))) ∧ x.length ≤ 8 + 2 * (k + 1)) ?_ fun br' hx7 => ?_
      · refine Wp.ite (fun h => ?_) (fun _ => wp_some.2 ⟨fun c => h1.con hy3.1 (by omega) c, by simp; omega⟩)
        have hnb := hx6 h
        have e1 : remO (W (a + 1)) nb = some ((a + 1) % nb) := by
          rw [W_sm (by omega) (by omega), remO_nn (by omega) (by omega)]
        rw [e1]
        simp only [Option.bind_some]
        rw [app_sm (by simp; omega)]
        have hm0 : 0 ≤ (a + 1) % nb := Int.emod_nonneg _ (by omega)
        have hm1 : (a + 1) % nb < nb := Int.emod_lt_of_pos _ (by omega)
        have hne : a ≠ (a + 1) % nb := by
          by_cases ha : a + 1 < nb
          · rw [Int.emod_eq_of_lt (by omega) ha]; omega
          · have : a + 1 = nb := by omega
            rw [this, Int.emod_self]
            omega
        exact wp_some.2 ⟨fun c => h1.con2 hy3.1 (by omega) hm0 (by omega) hne c, by simp; omega⟩
      obtain ⟨hbr, hbl⟩ := hx7
      refine (wpPick st (by simp) (by simp)).bind fun y hl => ?_
      obtain ⟨l, st⟩ := y
      simp only [List.mem_cons, List.not_mem_nil, or_false] at hl ⊢
      rw [quoO_nn (by omega) (by omega) (by omega)]
      simp only [Option.bind_some]
      refine (wpPick st (by simp) (by simp)).bind fun y hle => ?_
      obtain ⟨le, st⟩ := y
      simp only [List.mem_cons, List.not_mem_nil, or_false] at hle ⊢
      refine (wpN st (n := 3) (by omega) (by omega)).bind fun y hpr => ?_
      obtain ⟨pr, st⟩ := y
      simp only at hpr ⊢
      refine (wpRange st (lo := -1) (hi := 2) (by omega) (by omega) (by omega) (by omega)).bind fun y hth => ?_
      obtain ⟨th, st⟩ := y
      simp only at hth ⊢
      refine Wp.bind (Q := fun x : Bool × List Int => x.1 = true → 0 < k) ?_ fun x hx8 => ?_
      · refine Wp.ite (fun h => ?_) (fun _ => wp_some.2 (fun h => by cases h))
        refine (wpN st (n := 4) (by omega) (by omega)).bind fun y _ => ?_
        obtain ⟨y, st⟩ := y
        exact wp_some.2 fun _ => by have := of_decide_eq_true h; unfold len at this; omega
      obtain ⟨nd, st⟩ := x
      simp only at hx8 ⊢
      refine Wp.bind (Q := fun x : List Int × List Int => NeedsOk x.1 k ∧ x.1.length ≤ 4) ?_ fun x hx9 => ?_
      · refine Wp.ite (fun h => ?_) (fun _ => wp_some.2 ⟨fun i hi => absurd hi (by simp), by simp⟩)
        have hk0 := hx8 h
        refine (wpN st (n := len C) (by unfold len; omega) (by unfold len; omega)).bind fun y hy4 => ?_
        obtain ⟨y, st⟩ := y
        simp only [len] at hy4 ⊢
        refine wp_some.2 ⟨fun i hi => ?_, by simp⟩
        have hi0 : i = 0 := by simp at hi; omega
        subst hi0
        have e : gt [y] 0 = y := rfl
        rw [e]
        exact ⟨by omega, fun h => by omega⟩
      obtain ⟨needs, st⟩ := x
      simp only at hx9 ⊢
      rw [app_sm (xs := C) (by simp; omega)]
      simp only [Option.bind_some]
      refine wp_some.2 (.inl ⟨_, rfl, ?_, hbr _, by simp only; omega, by simp; omega, fun j hj => ?_, fun c hc => ?_⟩)
      · simp only
        rw [W_sm (by omega) (by omega)]
        omega
      · have hj' : j < C.length + 1 := by simpa using hj
        simp only
        rw [gt_snoc hj']
        by_cases hjl : j < C.length
        · rw [if_pos hjl]; exact h4 j hjl
        · rw [if_neg hjl]
          have : j = k := by omega
          subst this
          refine ⟨hx9.1, ?_, ?_, ?_, ?_, hx9.2⟩ <;> simp only <;> omega
      · rcases List.mem_append.1 hc with hc | hc
        · exact h5 c hc
        · simp only [List.mem_singleton] at hc
          subst hc
          simp only
          omega
    · rintro ⟨i, br, C, st⟩ ⟨rfl, h1, h2, h3, h4, h5⟩
      simp only at h1 h2 h3 h4 h5 ⊢
      unfold Src_Board_L3
      simp only [dF (c := m2 - ((m2.toNat : Nat) : Int) > 0) (by omega), Bool.false_eq_true, if_false]
      exact wp_some.2 ⟨_, rfl, h1, by simp only; omega, by simp only; omega, h4, h5⟩
  obtain ⟨br4, C, st9⟩ := x
  simp only at hx5 ⊢
  obtain ⟨k1, k2, k3, k4, k5⟩ := hx5
  refine wp_some.2 ⟨by simpa using hy, k2, g3, k3, ⟨⟨fun k hk => k1.1 k hk, k1.2.1, k1.2.2⟩, by simp only; omega, by simp only; omega, fun k hk => (g4 _ (gt_mem hk)).1, k4⟩, fun s hs => (g4 s hs).2, k5⟩

end Go.Proofs.Ytnpghnnlcakbfaa
