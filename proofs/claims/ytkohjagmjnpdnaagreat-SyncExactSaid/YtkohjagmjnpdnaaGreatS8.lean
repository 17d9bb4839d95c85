/- Each command keeps a state valid, and its islands behind their leaders, and brings nobody together who does not agree. -/
import Derived.Test.YtkohjagmjnpdnaaGreatS7
set_option linter.unusedVariables false
set_option linter.unusedSimpArgs false
namespace Go.Proofs.YtkohjagmjnpdnaaGreat
open Go Go.RowKit Dp
namespace Rx
open Classical
section
variable {b : Board} {p q : Power}
/-! the breaker of a generator -/
theorem src_brk (hb : BrkOk b) {j : Nat} (hj : j < b.Sources.length) : ∃ k, k < b.Breakers.length ∧ isS (gt b.Breakers k) j ∧ ∀ i, i < b.Breakers.length → isS (gt b.Breakers i) j → i = k := by
  have h := (refBrk_iff.1 hb).2.1 j hj
  obtain ⟨⟨k, hk, hp⟩, hu⟩ := rangeF_len1.1 h
  refine ⟨k, hk, findP2.1 hp, fun i hi hs => ?_⟩
  have hpi := findP2.2 hs
  rcases Nat.lt_trichotomy i k with h1 | h1 | h1
  · exact (hu i k h1 hk hpi hp).elim
  · exact h1
  · exact (hu k i h1 hi hp hpi).elim
theorem led_src {j k : Nat} (hk : k < b.Breakers.length) (hs : isS (gt b.Breakers k) j) (hu : ∀ i, i < b.Breakers.length → isS (gt b.Breakers i) j → i = k) : led b p 2 (j : Int) = if gt p.Closed k = true then ((gt b.Breakers k).A, true) else (0, false) := by
  have hz : ∀ i, i < b.Breakers.length → (ledAt b p 2 (j : Int) i = true ↔ i = k ∧ gt p.Closed k = true) := fun i hi => by
    unfold ledAt
    simp only [Bool.and_eq_true, beq_iff_eq]
    constructor
    · rintro ⟨⟨h1, h2⟩, h3⟩
      have := hu i hi ⟨h1, h2⟩
      subst this
      exact ⟨rfl, h3⟩
    · rintro ⟨rfl, h3⟩
      exact ⟨⟨hs.1, hs.2⟩, h3⟩
  unfold led
  cases hf : (List.range b.Breakers.length).find? (ledAt b p 2 (j : Int)) with
  | none =>
    rw [if_neg]
    intro hc
    have := List.find?_eq_none.1 hf k (List.mem_range.2 hk)
    exact this ((hz k hk).2 ⟨rfl, hc⟩)
  | some i =>
    have hi := List.mem_range.1 (List.mem_of_find?_eq_some hf)
    have hq := (hz i hi).1 (List.find?_some (p := ledAt b p 2 (j : Int)) hf)
    obtain ⟨rfl, hc⟩ := hq
    rw [if_pos hc]
theorem conn_src {j k : Nat} (hj : j < p.Sources.length) (hk : k < b.Breakers.length) (hs : isS (gt b.Breakers k) j) (hu : ∀ i, i < b.Breakers.length → isS (gt b.Breakers i) j → i = k) : conn b p (j : Int) = if (gt p.Sources j).State = 2 ∧ gt p.Closed k = true then ((gt b.Breakers k).A, true) else (0, false) := by
  unfold conn
  rw [if_pos ⟨by omega, by omega⟩, Int.toNat_natCast, led_src hk hs hu]
  by_cases h1 : (gt p.Sources j).State = 2
  · rw [if_pos h1]
    by_cases h2 : gt p.Closed k = true
    · rw [if_pos h2, if_pos ⟨h1, h2⟩]
    · rw [if_neg h2, if_neg (fun h => h2 h.2)]
  · rw [if_neg h1, if_neg (fun h => h1 h.1)]
theorem tog_symm {x y : Nat} (h : tog b p x y) : tog b p y x := ⟨h.2.1, h.1, h.2.2.symm⟩
theorem tog_trans {x y z : Nat} (h : tog b p x y) (h' : tog b p y z) : tog b p x z := ⟨h.1, h'.2.1, h.2.2.trans h'.2.2⟩
theorem tog_ldr (h : stt b p = 0) {x : Nat} (hx : x < p.Sources.length) (hc : (conn b p (x : Int)).2 = true) : ldr b p x < p.Sources.length ∧ tog b p x (ldr b p x) := by
  obtain ⟨⟨hl, hg⟩, ⟨s1, s2, s3⟩, _⟩ := stt_zero.1 h
  obtain ⟨e1, e2, e3, _, _⟩ := ldr_spec hg.1 (show x < b.Sources.length by omega) hc
  have hin := gt_mem (l := (isleOf b p (conn b p (x : Int)).1).Sources) (k := 0) (List.length_pos_of_mem (src_isl hg.1 (show x < b.Sources.length by omega) hc).2)
  rw [e1] at hin
  unfold isleOf at hin
  obtain ⟨j, hj, h1, h2, e⟩ := mem_src.1 hin
  have hjl : ldr b p x = j := by omega
  have c := conn_bd hg.1 hc
  have := (grp_bd (p := p) hg.1 (show (conn b p (x : Int)).1.toNat < b.Buses.toNat by omega)).1
  refine ⟨by omega, hc, e3, ?_⟩
  rw [hjl, h2]
  omega
/-- those that are together are alike, where they follow -/
theorem tog_like (h : stt b p = 0) (hf : folL b p = p.Sources) {x y : Nat} (hx : x < p.Sources.length) (hy : y < p.Sources.length) (ht : tog b p x y) : (gt p.Sources x).Frequency = (gt p.Sources y).Frequency ∧ (gt p.Sources x).Phase = (gt p.Sources y).Phase := by
  obtain ⟨h1, h2, h3⟩ := ht
  have e : ldr b p x = ldr b p y := by
    unfold ldr isleOf
    rw [h3]
  obtain ⟨a1, a2⟩ := foll_at hf hx h1
  obtain ⟨c1, c2⟩ := foll_at hf hy h2
  rw [a1, a2, c1, c2, e]
  exact ⟨rfl, rfl⟩
/-- what a command leaves -/
structure Good (b : Board) (p q : Power) : Prop where
  sm : SmP q
  st : stt b q = 0
  fo : folL b q = q.Sources
  ok : ¬ BadB b p q
theorem not_bad (h : ∀ x y, x < b.Sources.length → y < b.Sources.length → tog b q x y → tog b p x y ∨ agr b (gt p.Sources x) (gt p.Sources y)) : ¬ BadB b p q := by
  rintro ⟨x, hx, y, hy, h1, h2, h3⟩
  rcases h x y hx (by omega) h1 with h4 | h4
  · exact h2 h4
  · exact h3 h4
/-! fewer breakers closed -/
theorem clo_mono {q : Power} (hc : ∀ i, i < b.Breakers.length → gt q.Closed i = true → gt p.Closed i = true) (j : Int) : ∀ n, n ≤ b.Breakers.length → clo b q j n ≤ clo b p j n
  | 0, _ => Nat.le_refl _
  | n + 1, hn => by
    have ih := clo_mono hc j n (by omega)
    show clo b q j n + (if (gt b.Breakers n).Kind = 3 ∧ (gt b.Breakers n).B = j ∧ gt q.Closed n = true then 1 else 0) ≤ clo b p j n + (if (gt b.Breakers n).Kind = 3 ∧ (gt b.Breakers n).B = j ∧ gt p.Closed n = true then 1 else 0)
    by_cases h : (gt b.Breakers n).Kind = 3 ∧ (gt b.Breakers n).B = j ∧ gt q.Closed n = true
    · rw [if_pos h, if_pos ⟨h.1, h.2.1, hc n (by omega) h.2.2⟩]; omega
    · rw [if_neg h]; omega
theorem stt_less (h : stt b p = 0) (hl : q.Closed.length = p.Closed.length) (hc : ∀ i, i < b.Breakers.length → gt q.Closed i = true → gt p.Closed i = true) (hs : q.Sources = p.Sources) (hli : q.Limits = p.Limits) (hbr : (∀ k, k < q.Broken.length → BrokenAt b q.Broken k) ∧ q.Broken.length ≤ 32) : stt b q = 0 := by
  obtain ⟨h1, ⟨s1, s2, s3⟩, g1, g2, g3⟩ := stt_zero.1 h
  refine stt_zero.2 ⟨h1, ⟨by rw [hl]; exact s1, by rw [hs]; exact s2, by rw [hli]; exact s3⟩, hbr, by rw [hs]; exact g2, fun k hk => ?_⟩
  rw [hli] at hk
  obtain ⟨f1, f2⟩ := g3 k hk
  exact ⟨by rw [hli]; exact f1, Nat.le_trans (clo_mono hc _ _ (Nat.le_refl _)) f2⟩
theorem tied_mono (hc : ∀ i, i < b.Breakers.length → gt q.Closed i = true → gt p.Closed i = true) {i j : Nat} (h : Tied b q i j) : Tied b p i j := by
  obtain ⟨k, hk, h1, h2, h3⟩ := h
  exact ⟨k, hk, h1, hc k hk h2, h3⟩
theorem tog_less (h : stt b p = 0) (h' : stt b q = 0) (hc : ∀ i, i < b.Breakers.length → gt q.Closed i = true → gt p.Closed i = true) (hs : ∀ j, j < p.Sources.length → (gt q.Sources j).State = (gt p.Sources j).State) {x y : Nat} (hx : x < b.Sources.length) (hy : y < b.Sources.length) (ht : tog b q x y) : tog b p x y := by
  obtain ⟨⟨hl, hg⟩, ⟨s1, s2, s3⟩, _⟩ := stt_zero.1 h
  obtain ⟨_, ⟨t1, t2, t3⟩, _⟩ := stt_zero.1 h'
  have key : ∀ x, x < b.Sources.length → (conn b q (x : Int)).2 = true → conn b p (x : Int) = conn b q (x : Int) := fun x hx hcx => by
    obtain ⟨k, hk, k1, k2⟩ := src_brk hg.1 hx
    rw [conn_src (by omega) hk k1 k2] at hcx ⊢
    rw [conn_src (by omega) hk k1 k2]
    by_cases hh : (gt q.Sources x).State = 2 ∧ gt q.Closed k = true
    · rw [if_pos hh, if_pos ⟨by rw [← hs x (by omega)]; exact hh.1, hc k hk hh.2⟩]
    · rw [if_neg hh] at hcx; cases hcx
  obtain ⟨h1, h2, h3⟩ := (tog_iff h').1 ht
  refine (tog_iff h).2 ?_
  rw [key x hx h1, key y hy h2]
  exact ⟨h1, h2, h3.mono fun i j => tied_mono hc⟩
/-- who was alike and is together still follows -/
theorem foll_sub (h' : stt b q = 0) (hl : ∀ x y, x < b.Sources.length → y < b.Sources.length → tog b q x y → (gt q.Sources x).Frequency = (gt q.Sources y).Frequency ∧ (gt q.Sources x).Phase = (gt q.Sources y).Phase) : folL b q = q.Sources := by
  obtain ⟨_, ⟨t1, t2, t3⟩, _⟩ := stt_zero.1 h'
  refine foll_of fun k hk hc => ?_
  obtain ⟨h1, h2⟩ := tog_ldr h' hk hc
  exact hl _ _ (by omega) (by omega) h2
/-! opening -/
def opP (p : Power) (i : Nat) : Power := ⟨p.Closed.set i false, p.Sources, p.Limits, p.Broken⟩
theorem op_less {i : Nat} (hi : i < p.Closed.length) (k : Nat) (h : gt (opP p i).Closed k = true) : gt p.Closed k = true := by
  have h : gt (p.Closed.set i false) k = true := h
  rw [gt_set hi] at h
  split at h
  · cases h
  · exact h
theorem stt_open (h : stt b p = 0) {i : Nat} (hi : i < p.Closed.length) : stt b (opP p i) = 0 := by
  obtain ⟨_, _, g1, _⟩ := stt_zero.1 h
  exact stt_less h (by show (p.Closed.set i false).length = _; simp) (fun k _ => op_less hi k) rfl rfl g1
theorem sm_set {i : Nat} {v : Bool} (hp : SmP p) : SmP ⟨p.Closed.set i v, p.Sources, p.Limits, p.Broken⟩ := ⟨by have := hp.1; unfold Sm at *; show (p.Closed.set i v).length ≤ _; rw [List.length_set]; exact this, hp.2.1, hp.2.2.1, hp.2.2.2⟩
theorem good_open (hp : SmP p) (h : stt b p = 0) (hf : folL b p = p.Sources) {i : Nat} (hi : i < p.Closed.length) : Good b p (opP p i) := by
  have h' := stt_open h hi
  obtain ⟨_, ⟨s1, s2, s3⟩, _⟩ := stt_zero.1 h
  have ht : ∀ x y, x < b.Sources.length → y < b.Sources.length → tog b (opP p i) x y → tog b p x y := fun x y hx hy => tog_less h h' (fun k _ => op_less hi k) (fun _ _ => rfl) hx hy
  refine ⟨sm_set hp, h', foll_sub h' fun x y hx hy hxy => tog_like h hf (by omega) (by omega) (ht x y hx hy hxy), not_bad fun x y hx hy hxy => .inl (ht x y hx hy hxy)⟩
/-! a tick -/
theorem tog_same {q : Power} (hc : q.Closed = p.Closed) (hl : q.Sources.length = p.Sources.length) (hs : ∀ j, j < p.Sources.length → (gt q.Sources j).State = (gt p.Sources j).State) (x y : Nat) : tog b q x y ↔ tog b p x y := by
  unfold tog
  rw [conn_same hc hl hs, conn_same hc hl hs, grp_same hc]
theorem good_turn (hp : SmP p) (h : stt b p = 0) (hf : folL b p = p.Sources) : Good b p (turned p) := by
  have hst : ∀ j, j < p.Sources.length → (gt (turned p).Sources j).State = (gt p.Sources j).State := fun j hj => by rw [turned_gt hj, tick_state]
  exact ⟨sm_turned hp, stt_turned h, foll_turned h hf, not_bad fun x y _ _ hxy => .inl ((tog_same (p := p) (q := turned p) rfl turned_len hst x y).1 hxy)⟩
/-! matching -/
noncomputable def ownL (b : Board) (p : Power) (s : Nat) : List Int := if (conn b p (s : Int)).2 = true then (isleOf b p (conn b p (s : Int)).1).Sources else [(s : Int)]
noncomputable def matP (b : Board) (p : Power) (s : Nat) (m : Nat) : Power := ⟨p.Closed, setAll p.Sources (gt p.Sources m) (ownL b p s), p.Limits, p.Broken⟩
theorem ownL_in (h : stt b p = 0) {s : Nat} (hs : s < p.Sources.length) : (∀ k ∈ ownL b p s, 0 ≤ k ∧ k < p.Sources.length) ∧ Sm (ownL b p s) := by
  obtain ⟨⟨hl, hg⟩, ⟨s1, s2, s3⟩, _⟩ := stt_zero.1 h
  unfold ownL
  by_cases hc : (conn b p (s : Int)).2 = true
  · rw [if_pos hc]
    constructor
    · intro k hk
      obtain ⟨j, e, hj, _⟩ := isl_src (src_isl hg.1 (show s < b.Sources.length by omega) hc).1 hk
      omega
    · have h4 : (isleOf b p (conn b p (s : Int)).1).Sources.length ≤ b.Sources.length := (isle_len (b := b) (p := p) (gt (grp b p) (conn b p (s : Int)).1.toNat).toNat).2.1
      have := hl.src
      unfold Sm; omega
  · rw [if_neg hc]
    exact ⟨fun k hk => by rw [List.mem_singleton.1 hk]; omega, by unfold Sm; simp⟩
theorem mem_own (h : stt b p = 0) {s x : Nat} (hs : s < p.Sources.length) (hx : x < p.Sources.length) (hcx : (conn b p (x : Int)).2 = true) : (x : Int) ∈ ownL b p s ↔ tog b p s x := by
  obtain ⟨⟨hl, hg⟩, ⟨s1, s2, s3⟩, _⟩ := stt_zero.1 h
  unfold ownL
  by_cases hc : (conn b p (s : Int)).2 = true
  · rw [if_pos hc]
    have c := conn_bd hg.1 hc
    have := (grp_bd (p := p) hg.1 (show (conn b p (s : Int)).1.toNat < b.Buses.toNat by omega)).1
    unfold isleOf
    constructor
    · intro hm
      obtain ⟨j, hj, h1, h2, e⟩ := mem_src.1 hm
      have : x = j := by omega
      subst this
      exact ⟨hc, h1, by rw [h2]; omega⟩
    · rintro ⟨_, h1, h2⟩
      exact mem_src.2 ⟨x, by omega, h1, by rw [← h2]; omega, rfl⟩
  · rw [if_neg hc]
    constructor
    · intro hm
      have : x = s := by have := List.mem_singleton.1 hm; omega
      subst this
      exact (hc hcx).elim
    · rintro ⟨h1, _⟩
      exact (hc h1).elim
theorem mat_gt (h : stt b p = 0) {s m : Nat} (hs : s < p.Sources.length) (x : Nat) : gt (matP b p s m).Sources x = if (x : Int) ∈ ownL b p s then like (gt p.Sources x) (gt p.Sources m) else gt p.Sources x := setAll_gt _ _ _ x (ownL_in h hs).1
theorem mat_len {s m : Nat} : (matP b p s m).Sources.length = p.Sources.length := setAll_len _ _ _
theorem mat_state (h : stt b p = 0) {s m : Nat} (hs : s < p.Sources.length) (x : Nat) : (gt (matP b p s m).Sources x).State = (gt p.Sources x).State := by rw [mat_gt h hs]; split <;> rfl
theorem stt_mat (h : stt b p = 0) {s m : Nat} (hs : s < p.Sources.length) (hm : m < p.Sources.length) : stt b (matP b p s m) = 0 := by
  obtain ⟨_, _, _, g2, _⟩ := stt_zero.1 h
  refine stt_same h rfl mat_len rfl rfl fun k hk => ?_
  rw [mat_len] at hk
  rw [mat_gt h hs]
  split
  · exact run_like (g2 k hk) (g2 m hm)
  · exact g2 k hk
theorem sm_mat {s m : Nat} (hp : SmP p) : SmP (matP b p s m) := ⟨hp.1, by have := hp.2.1; unfold Sm at *; rw [mat_len]; exact this, hp.2.2.1, hp.2.2.2⟩
theorem tog_mat (h : stt b p = 0) {s m : Nat} (hs : s < p.Sources.length) (x y : Nat) : tog b (matP b p s m) x y ↔ tog b p x y := tog_same (p := p) (q := matP b p s m) rfl mat_len (fun j _ => mat_state h hs j) x y
theorem good_mat (hp : SmP p) (h : stt b p = 0) (hf : folL b p = p.Sources) {s m : Nat} (hs : s < p.Sources.length) (hm : m < p.Sources.length) : Good b p (matP b p s m) := by
  obtain ⟨_, ⟨s1, s2, s3⟩, _⟩ := stt_zero.1 h
  refine ⟨sm_mat hp, stt_mat h hs hm, foll_sub (stt_mat h hs hm) fun x y hx hy hxy => ?_, not_bad fun x y _ _ hxy => .inl ((tog_mat h hs x y).1 hxy)⟩
  have ht := (tog_mat h hs x y).1 hxy
  have hi : (x : Int) ∈ ownL b p s ↔ (y : Int) ∈ ownL b p s := by
    rw [mem_own h hs (by omega) ht.1, mem_own h hs (by omega) ht.2.1]
    exact ⟨fun k => tog_trans k ht, fun k => tog_trans k (tog_symm ht)⟩
  rw [mat_gt h hs, mat_gt h hs]
  by_cases hc : (x : Int) ∈ ownL b p s
  · rw [if_pos hc, if_pos (hi.1 hc)]
    exact ⟨rfl, rfl⟩
  · rw [if_neg hc, if_neg (fun k => hc (hi.2 k))]
    exact tog_like h hf (by omega) (by omega) ht
/-- matching, all answers -/
theorem matchA_eq (hb : SmB b) (hp : SmP p) (s k : Int) : sync_Match b p s k = some (if stt b p ≠ 0 then (stt b p, [], [], [], []) else if s < 0 ∨ (b.Sources.length : Int) ≤ s ∨ k < 0 ∨ b.Buses ≤ k then (10, [], [], [], []) else
    if (lead b p k).2 = false ∨ (gt p.Sources s.toNat).State ≠ 2 then (11, [], [], [], []) else (0, p.Closed, (matP b p s.toNat (lead b p k).1.toNat).Sources, p.Limits, p.Broken)) := by
  unfold sync_Match
  simp only [state_eq hb hp, Option.bind_some]
  by_cases h : stt b p = 0
  case neg => rw [if_pos (bneT h), if_pos h]
  have e : (stt b p != 0) = false := by rw [h]; rfl
  rw [if_neg (show ¬ (stt b p ≠ 0) from fun hn => hn h)]
  obtain ⟨⟨hl, hg⟩, ⟨s1, s2, s3⟩, g1, g2, g3⟩ := stt_zero.1 h
  simp only [e, Bool.false_eq_true, if_false]
  by_cases h1 : s < 0
  · rw [if_pos (show s < 0 ∨ _ from .inl h1)]
    simp only [dT h1, if_true, Option.bind_some]
  by_cases h2 : (b.Sources.length : Int) ≤ s
  · rw [if_pos (show s < 0 ∨ (b.Sources.length : Int) ≤ s ∨ _ from .inr (.inl h2))]
    simp only [dF h1, dT (show s ≥ len b.Sources from h2), Bool.false_eq_true, if_false, if_true, Option.bind_some]
  by_cases h3 : k < 0
  · rw [if_pos (show s < 0 ∨ (b.Sources.length : Int) ≤ s ∨ k < 0 ∨ _ from .inr (.inr (.inl h3)))]
    simp only [dF h1, dF (show ¬ s ≥ len b.Sources from h2), dT h3, Bool.false_eq_true, if_false, if_true, Option.bind_some]
  by_cases h4 : b.Buses ≤ k
  · rw [if_pos (show s < 0 ∨ (b.Sources.length : Int) ≤ s ∨ k < 0 ∨ b.Buses ≤ k from .inr (.inr (.inr h4)))]
    simp only [dF h1, dF (show ¬ s ≥ len b.Sources from h2), dF h3, dT (show k ≥ b.Buses from h4), Bool.false_eq_true, if_false, if_true, Option.bind_some]
  rw [if_neg (show ¬ (s < 0 ∨ (b.Sources.length : Int) ≤ s ∨ k < 0 ∨ b.Buses ≤ k) by omega)]
  obtain ⟨j, rfl, hj⟩ := range_ne h1 h2
  have hj : j < p.Sources.length := by omega
  simp only [dF h1, dF (show ¬ (j : Int) ≥ len b.Sources from h2), dF h3, dF (show ¬ k ≥ b.Buses from h4), Bool.false_eq_true, if_false, Option.bind_some, lead_eq hb hp, idx_gt hj, Int.toNat_natCast]
  by_cases h5 : (lead b p k).2 = false ∨ (gt p.Sources j).State ≠ 2
  · rw [if_pos h5]
    rcases h5 with h5 | h5
    · simp only [h5, Bool.not_false, if_true, Option.bind_some]
    · cases hv : (lead b p k).2 with
      | false => simp only [Bool.not_false, if_true, Option.bind_some]
      | true => simp only [Bool.not_true, Bool.false_eq_true, if_false, bneT h5, if_true, Option.bind_some]
  · rw [if_neg h5]
    have hv : (lead b p k).2 = true := by
      cases hv : (lead b p k).2 with
      | true => rfl
      | false => exact (h5 (.inl hv)).elim
    have hst : (gt p.Sources j).State = 2 := Classical.byContradiction fun hn => h5 (.inr hn)
    obtain ⟨m, em, hm⟩ := lead_in h hv
    have hcb : connB b p (j : Int) = conn b p (j : Int) := by unfold connB; rw [if_pos h]
    have how : (if (conn b p (j : Int)).2 = true then Option.bind (board_Of b p (conn b p (j : Int)).1) fun x8 => some x8.2.1 else some [(j : Int)]) = some (ownL b p j) := by
      unfold ownL
      by_cases hc : (conn b p (j : Int)).2 = true
      · have c := conn_bd hg.1 hc
        rw [if_pos hc, if_pos hc, of_eq hb hp]
        simp only [Option.bind_some]
        show some (ofB b p (conn b p (j : Int)).1).1.Sources = _
        rw [ofB_in' h c.1 c.2]
      · rw [if_neg hc, if_neg hc]
    have hset : sync_set ⟨p.Closed, p.Sources, p.Limits, p.Broken⟩ (ownL b p j) (gt p.Sources m) = some (p.Closed, setAll p.Sources (gt p.Sources m) (ownL b p j), p.Limits, p.Broken) := set_eq (ownL_in h hj).2 (ownL_in h hj).1
    simp only [hv, Bool.not_true, Bool.false_eq_true, if_false, bneF hst, Option.bind_some, clone_eq hp, connB_eq hb hp, hcb, how, em, idx_gt hm, hset, Int.toNat_natCast]
    rfl
/-! closing -/
theorem cl_gt {i : Nat} (hi : i < p.Closed.length) (k : Nat) : gt (clP p i).Closed k = if k = i then true else gt p.Closed k := gt_set hi
theorem sm_cl {i : Nat} (hp : SmP p) : SmP (clP p i) := sm_set hp
theorem good_close (hp : SmP p) (h : stt b p = 0) (hf : folL b p = p.Sources) {i : Nat} (hi : i < b.Breakers.length) (hs : SndB b p i) (hy : InB b p i ∨ SynB b p i) : Good b p (folP b (clP p i)) := by
  obtain ⟨⟨hl, hg⟩, ⟨s1, s2, s3⟩, g1, g2, g3⟩ := stt_zero.1 h
  have hic : i < p.Closed.length := by omega
  have h1 := stt_close h hi hs.1 (snd_led hs)
  have h2 := stt_fol h1
  refine ⟨sm_fol (sm_cl hp), h2, fol_fol h1, not_bad fun x y hx hy' ht => ?_⟩
  have hfs : ∀ j, j < (clP p i).Sources.length → (gt (folP b (clP p i)).Sources j).State = (gt (clP p i).Sources j).State := fun j hj => folP_state hj
  have ht : tog b (clP p i) x y := (tog_same (p := clP p i) (q := folP b (clP p i)) rfl folL_len hfs x y).1 ht
  have hcl := fun k => cl_gt (p := p) hic k
  obtain ⟨c1, c2, c3⟩ := (tog_iff h1).1 ht
  -- a generator whose breaker is another one
  have same : ∀ z, z < b.Sources.length → ¬ isS (gt b.Breakers i) z → conn b (clP p i) (z : Int) = conn b p (z : Int) := fun z hz hn => by
    obtain ⟨k, hk, k1, k2⟩ := src_brk hg.1 hz
    rw [conn_src (p := clP p i) (show z < p.Sources.length by omega) hk k1 k2, conn_src (by omega) hk k1 k2, hcl k, if_neg (show ¬ k = i from fun e => hn (by rw [← e]; exact k1))]
    rfl
  obtain ⟨hA, hB1, hB2, hB3, hk⟩ := brk_B hg.1 hi
  have bx := conn_bd hg.1 c1
  have bY := conn_bd hg.1 c2
  rcases hk with k1 | k2 | k3
  · -- a tie
    obtain ⟨b1, b2⟩ := hB1 k1
    have hno : ∀ z, ¬ isS (gt b.Breakers i) z := fun z hz => by have := hz.1; omega
    rw [same x hx (hno x)] at c1 c3 bx
    rw [same y hy' (hno y)] at c2 c3 bY
    have hmore := conn_more (E := Tied b p) (u := (gt b.Breakers i).A.toNat) (v := (gt b.Breakers i).B.toNat) (fun _ _ => Tied.symm) (fun u v hu => by
      obtain ⟨k, hk, e1, e2, e3⟩ := hu
      rw [hcl k] at e2
      by_cases hki : k = i
      · subst hki
        rcases e3 with ⟨e3, e4⟩ | ⟨e3, e4⟩
        · exact .inr (.inl ⟨by omega, by omega⟩)
        · exact .inr (.inr ⟨by omega, by omega⟩)
      · rw [if_neg hki] at e2
        exact .inl ⟨k, hk, e1, e2, e3⟩) c3
    have sy : ∀ {u v : Nat}, Conn (Tied b p) u v → Conn (Tied b p) v u := fun hc => Conn.symm (fun _ _ => Tied.symm) hc
    have inside : InB b p i → Conn (Tied b p) (gt b.Breakers i).A.toNat (gt b.Breakers i).B.toNat := fun hin => by
      have hm := hin.2
      rw [ofB_in' h hA.1 (by omega)] at hm
      unfold isleOf at hm
      obtain ⟨j, hj, e1, e2⟩ := mem_bus.1 hm
      have hgb := (grp_bd (p := p) hg.1 (show (gt b.Breakers i).A.toNat < b.Buses.toNat by omega)).1
      refine (grp_iff hg.1 (by omega) (by omega)).1 ?_
      rw [show (gt b.Breakers i).B.toNat = j by omega, e1]
      omega
    rcases hmore with m | ⟨m1, m2⟩ | ⟨m1, m2⟩
    · exact .inl ((tog_iff h).2 ⟨c1, c2, m⟩)
    · rcases hy with hin | hsy
      · exact .inl ((tog_iff h).2 ⟨c1, c2, (m1.trans (inside hin)).trans m2⟩)
      · obtain ⟨l1, f1, f2⟩ := lead_at h hf (show x < p.Sources.length by omega) c1 hA.1 (by omega) m1
        obtain ⟨l2, f3, f4⟩ := lead_at h hf (show y < p.Sources.length by omega) c2 (show 0 ≤ (gt b.Breakers i).B by omega) (by omega) (sy m2)
        have := hsy l1
        rw [if_pos k1] at this
        exact .inr (agr_congr (this l2) f1 f2 f3 f4)
    · rcases hy with hin | hsy
      · exact .inl ((tog_iff h).2 ⟨c1, c2, (m1.trans (sy (inside hin))).trans m2⟩)
      · obtain ⟨l1, f1, f2⟩ := lead_at h hf (show y < p.Sources.length by omega) c2 hA.1 (by omega) (sy m2)
        obtain ⟨l2, f3, f4⟩ := lead_at h hf (show x < p.Sources.length by omega) c1 (show 0 ≤ (gt b.Breakers i).B by omega) (by omega) m1
        have := hsy l1
        rw [if_pos k1] at this
        exact .inr (agr_symm (agr_congr (this l2) f1 f2 f3 f4))
  · -- a generator's breaker
    obtain ⟨b1, b2⟩ := hB2 k2
    have hti : ∀ u v, Tied b (clP p i) u v → Tied b p u v := fun u v hu => by
      obtain ⟨k, hk, e1, e2, e3⟩ := hu
      rw [hcl k, if_neg (fun e => by rw [e, k2] at e1; cases e1)] at e2
      exact ⟨k, hk, e1, e2, e3⟩
    have c3 := c3.mono hti
    have sy : ∀ {u v : Nat}, Conn (Tied b p) u v → Conn (Tied b p) v u := fun hc => Conn.symm (fun _ _ => Tied.symm) hc
    obtain ⟨s, hs', es⟩ : ∃ s : Nat, (gt b.Breakers i).B = (s : Int) ∧ s < b.Sources.length := ⟨(gt b.Breakers i).B.toNat, by omega, by omega⟩
    have hsS : isS (gt b.Breakers i) s := ⟨k2, hs'⟩
    have hnew : (conn b (clP p i) (s : Int)).2 = true → (conn b (clP p i) (s : Int)).1 = (gt b.Breakers i).A := fun hc => by
      obtain ⟨k, hk, q1, q2⟩ := src_brk hg.1 es
      have := q2 i hi hsS
      subst this
      rw [conn_src (p := clP p i) (show s < p.Sources.length by omega) hk q1 q2] at hc ⊢
      split
      · rfl
      · rename_i hn
        rw [if_neg hn] at hc
        cases hc
    have oth : ∀ z, z < b.Sources.length → z ≠ s → conn b (clP p i) (z : Int) = conn b p (z : Int) := fun z hz hne => same z hz (fun hzs => hne (by have := hzs.2; omega))
    have hin : ¬ InB b p i := fun hin => by have := hin.1; omega
    have hsy := hy.resolve_left hin
    have agS : ∀ z, z < b.Sources.length → (conn b p (z : Int)).2 = true → Conn (Tied b p) (conn b p (z : Int)).1.toNat (gt b.Breakers i).A.toNat → agr b (gt p.Sources z) (gt p.Sources s) := fun z hz hcz hcn => by
      obtain ⟨l1, f1, f2⟩ := lead_at h hf (show z < p.Sources.length by omega) hcz hA.1 (by omega) hcn
      have := hsy l1
      rw [if_neg (show ¬ (gt b.Breakers i).Kind = 1 by omega), if_pos k2, hs', Int.toNat_natCast] at this
      exact agr_congr this f1 f2 rfl rfl
    by_cases hxs : x = s
    · by_cases hys : y = s
      · subst hxs hys
        exact .inr (agr_self hg (g2 _ (by omega)) rfl rfl)
      · subst hxs
        rw [hnew c1] at c3
        rw [oth y hy' hys] at c2 c3
        exact .inr (agr_symm (agS y hy' c2 (sy c3)))
    · by_cases hys : y = s
      · subst hys
        rw [hnew c2] at c3
        rw [oth x hx hxs] at c1 c3
        exact .inr (agS x hx c1 c3)
      · rw [oth x hx hxs] at c1 c3
        rw [oth y hy' hys] at c2 c3
        exact .inl ((tog_iff h).2 ⟨c1, c2, c3⟩)
  · -- a consumer's breaker
    have hno : ∀ z, ¬ isS (gt b.Breakers i) z := fun z hz => by have := hz.1; omega
    rw [same x hx (hno x)] at c1 c3
    rw [same y hy' (hno y)] at c2 c3
    refine .inl ((tog_iff h).2 ⟨c1, c2, c3.mono fun u v hu => ?_⟩)
    obtain ⟨k, hk, e1, e2, e3⟩ := hu
    rw [hcl k, if_neg (fun e => by rw [e, k3] at e1; cases e1)] at e2
    exact ⟨k, hk, e1, e2, e3⟩
end
end Rx
end Go.Proofs.YtkohjagmjnpdnaaGreat
