/- The law BoardTies, plainly. -/
import Derived.Test.YtnpghnnlcakbfaaLb7
set_option linter.unusedVariables false
set_option linter.unusedSimpArgs false
namespace Go.Proofs.Ytnpghnnlcakbfaa
open Go Go.RowKit Dp

/-! graphs with one more edge -/
theorem conn_more {E E' : Nat → Nat → Prop} {a c : Nat} (hs : ∀ i j, E i j → E j i) (he : ∀ i j, E' i j → E i j ∨ (i = a ∧ j = c) ∨ (i = c ∧ j = a)) {i j : Nat} (h : Conn E' i j) : Conn E i j ∨ ((Conn E i a ∨ Conn E i c) ∧ (Conn E j a ∨ Conn E j c)) := by
  induction h with
  | refl => exact .inl (.refl _)
  | @step i k j e _ ih =>
    rcases he _ _ e with e | ⟨rfl, rfl⟩ | ⟨rfl, rfl⟩
    · rcases ih with h | ⟨h1, h2⟩
      · exact .inl (.step e h)
      · exact .inr ⟨h1.imp (.step e) (.step e), h2⟩
    · rcases ih with h | ⟨_, h2⟩
      · exact .inr ⟨.inl (.refl _), .inr (h.symm hs)⟩
      · exact .inr ⟨.inl (.refl _), h2⟩
    · rcases ih with h | ⟨_, h2⟩
      · exact .inr ⟨.inr (.refl _), .inl (h.symm hs)⟩
      · exact .inr ⟨.inr (.refl _), h2⟩
def Root (E : Nat → Nat → Prop) (f : Nat) : Prop := ∀ j, Conn E f j → f ≤ j
noncomputable def roots (E : Nat → Nat → Prop) (n : Nat) : Nat := ((List.range n).filter fun f => dB (Root E f)).length
theorem dB_iff {p : Prop} : dB p = true ↔ p := ⟨fun h => by
  by_cases hp : p
  · exact hp
  · rw [dB_F hp] at h; exact Bool.noConfusion h, dB_T⟩
theorem roots_le {E E' : Nat → Nat → Prop} (he : ∀ i j, E i j → E' i j) (n : Nat) : roots E' n ≤ roots E n :=
  filter_le_of (fun x hx => by
    have hx' : Root E' x := dB_iff.1 hx
    exact dB_T (p := Root E x) fun j hj => hx' j (hj.mono he)) _
theorem filter_or (p s : Nat → Bool) : ∀ l : List Nat, (l.filter fun x => p x || s x).length ≤ (l.filter p).length + (l.filter s).length
  | [] => by simp
  | x :: l => by
    have := filter_or p s l
    cases h1 : p x <;> cases h2 : s x <;> simp [h1, h2] <;> omega
theorem filter_none (r : Nat) : ∀ n, n ≤ r → ((List.range n).filter fun x => x == r).length = 0
  | 0, _ => rfl
  | n + 1, h => by
    rw [List.range_succ, List.filter_append, List.length_append, filter_none r n (by omega)]
    have hb : (n == r) = false := by simp; omega
    simp [hb]
theorem filter_one (r : Nat) : ∀ n, ((List.range n).filter fun x => x == r).length ≤ 1
  | 0 => by simp
  | n + 1 => by
    have ih := filter_one r n
    rw [List.range_succ, List.filter_append, List.length_append]
    by_cases h : n = r
    · rw [filter_none r n (by omega)]
      have hb : (n == r) = true := by simp [h]
      simp [hb]
    · have hb : (n == r) = false := by simp [h]
      have : (List.filter (fun x => x == r) [n]).length = 0 := by simp [List.filter_cons, hb]
      omega
theorem roots_more {E E' : Nat → Nat → Prop} {a c ra rc : Nat} (hs : ∀ i j, E i j → E j i) (he : ∀ i j, E' i j → E i j ∨ (i = a ∧ j = c) ∨ (i = c ∧ j = a))
    (h1 : Conn E a ra ∧ ∀ j, Conn E a j → ra ≤ j) (h2 : Conn E c rc ∧ ∀ j, Conn E c j → rc ≤ j) (n : Nat) : roots E n ≤ roots E' n + 1 := by
  have key : ∀ f, Root E f → Root E' f ∨ f = if ra ≤ rc then rc else ra := by
    intro f hf
    by_cases hr : Root E' f
    · exact .inl hr
    · right
      have : ∃ j, Conn E' f j ∧ j < f := by
        apply Classical.byContradiction
        intro hn
        apply hr
        intro j hj
        apply Classical.byContradiction
        intro hlt
        exact hn ⟨j, hj, by omega⟩
      obtain ⟨j, hj, hlt⟩ := this
      rcases conn_more hs he hj with h | ⟨hfa, hja⟩
      · have := hf j h; omega
      · have hfe : f = ra ∨ f = rc := by
          rcases hfa with h | h
          · have e1 := hf ra (h.trans h1.1)
            have e2 := h1.2 f (h.symm hs)
            left; omega
          · have e1 := hf rc (h.trans h2.1)
            have e2 := h2.2 f (h.symm hs)
            right; omega
        have hje : ra ≤ j ∨ rc ≤ j := hja.imp (fun h => h1.2 j (h.symm hs)) (fun h => h2.2 j (h.symm hs))
        split <;> omega
  generalize hR : (if ra ≤ rc then rc else ra) = R at key
  unfold roots
  have e1 : ((List.range n).filter fun f => dB (Root E f)).length ≤ ((List.range n).filter fun f => dB (Root E' f) || f == R).length :=
    filter_le_of (fun x hx => by
      rcases key x (dB_iff.1 hx) with h | h
      · rw [dB_T h]; rfl
      · simp [h]) _
  have e2 := filter_or (fun f => dB (Root E' f)) (fun f => f == R) (List.range n)
  have e3 := filter_one R n
  omega

/-! the islands are as many as the roots -/
section
variable {b : Board} {p : Power}
theorem isl_roots (hb : BrkOk b) : (isl b p).length = roots (Tied b p) b.Buses.toNat := by
  unfold isl islAt roots
  rw [List.filter_map, List.length_map]
  congr 1
  refine List.filter_congr fun f hf => ?_
  have hf := List.mem_range.1 hf
  show (!(rangeF (busP b p f) b.Buses.toNat).isEmpty) = dB (Root (Tied b p) f)
  by_cases hr : Root (Tied b p) f
  · rw [dB_T hr]
    obtain ⟨m, h1, h2, h3⟩ := grp_spec (p := p) hb hf
    have e1 := hr m h2
    have e2 := h3 f (.refl _)
    have e3 : m = f := by omega
    subst e3
    have : (m : Int) ∈ rangeF (busP b p m) b.Buses.toNat := mem_rangeF.2 ⟨m, hf, by unfold busP; simp [h1], rfl⟩
    cases hl : rangeF (busP b p m) b.Buses.toNat with
    | nil => rw [hl] at this; cases this
    | cons => rfl
  · rw [dB_F hr]
    cases hl : rangeF (busP b p f) b.Buses.toNat with
    | nil => rfl
    | cons x l =>
      have : x ∈ rangeF (busP b p f) b.Buses.toNat := by rw [hl]; exact List.mem_cons_self
      obtain ⟨i, hi, hp, _⟩ := mem_rangeF.1 this
      exfalso
      apply hr
      have hg : gt (grp b p) i = (f : Int) := by unfold busP at hp; simpa using hp
      obtain ⟨m, h1, h2, h3⟩ := grp_spec (p := p) hb hi
      have e : m = f := by omega
      subst e
      exact fun j hj => h3 j (h2.trans hj)
end

/-! one breaker turned -/
def flip (p : Power) (i : Nat) (v : Bool) : Power := ⟨p.Closed.set i v, p.Sources, p.Limits, p.Broken⟩
section
variable {b : Board} {p : Power}
theorem flip_stt {i : Nat} (hk : (gt b.Breakers i).Kind = 1) (v : Bool) (h : stt b p = 0) : stt b (flip p i v) = 0 := by
  obtain ⟨h1, h2, h3, h4, h5⟩ := stt_zero.1 h
  refine stt_zero.2 ⟨h1, ⟨by simpa [flip] using h2.1, h2.2⟩, h3, h4, fun k hk' => ?_⟩
  obtain ⟨h6, h7⟩ := h5 k hk'
  refine ⟨h6, ?_⟩
  have e : clo b (flip p i v) (k : Int) b.Breakers.length = clo b p (k : Int) b.Breakers.length := clo_congr fun j hj hj3 _ => by
    show gt (p.Closed.set i v) j = gt p.Closed j
    have : j ≠ i := by rintro rfl; omega
    by_cases hi : i < p.Closed.length
    · rw [gt_set hi, if_neg this]
    · rw [List.set_eq_of_length_le (by omega)]
  rw [e]
  exact h7
theorem flip_sm {i : Nat} {v : Bool} (h : SmP p) : SmP (flip p i v) := ⟨by unfold Sm; simpa [flip, Sm] using h.1, h.2⟩
theorem flip_tied {i : Nat} (hi : i < p.Closed.length) (hk : (gt b.Breakers i).Kind = 1) (hib : i < b.Breakers.length) (v : Bool) (x y : Nat) : Tied b (flip p i v) x y ↔ (∃ k, k < b.Breakers.length ∧ k ≠ i ∧ (gt b.Breakers k).Kind = 1 ∧ gt p.Closed k = true ∧ (((gt b.Breakers k).A = (x : Int) ∧ (gt b.Breakers k).B = (y : Int)) ∨ ((gt b.Breakers k).A = (y : Int) ∧ (gt b.Breakers k).B = (x : Int)))) ∨ (v = true ∧ (((gt b.Breakers i).A = (x : Int) ∧ (gt b.Breakers i).B = (y : Int)) ∨ ((gt b.Breakers i).A = (y : Int) ∧ (gt b.Breakers i).B = (x : Int)))) := by
  constructor
  · rintro ⟨k, h1, h2, h3, h4⟩
    have h3 : gt (p.Closed.set i v) k = true := h3
    rw [gt_set hi] at h3
    by_cases hki : k = i
    · subst hki
      rw [if_pos rfl] at h3
      exact .inr ⟨h3, h4⟩
    · rw [if_neg hki] at h3
      exact .inl ⟨k, h1, hki, h2, h3, h4⟩
  · rintro (⟨k, h1, hki, h2, h3, h4⟩ | ⟨hv, h4⟩)
    · refine ⟨k, h1, h2, ?_, h4⟩
      show gt (p.Closed.set i v) k = true
      rw [gt_set hi, if_neg hki]
      exact h3
    · refine ⟨i, hib, hk, ?_, h4⟩
      show gt (p.Closed.set i v) i = true
      rw [gt_set hi, if_pos rfl]
      exact hv
end

/-! the law -/
def tieP (b : Board) (k : Nat) : Bool := (gt b.Breakers k).Kind == 1
theorem ties_loop {b : Board} (hb : Sm b.Breakers) : loopR (dynposlaw15_BoardTies_L1 b) ([], (0 : Int)) = some (rangeF (tieP b) b.Breakers.length) := by
  have h := loop_run (step := dynposlaw15_BoardTies_L1 b) (fun k => (rangeF (tieP b) k, (k : Int))) b.Breakers.length (r := rangeF (tieP b) b.Breakers.length) (fun k hk => by
    have hl := rangeF_len (tieP b) k
    have := sm_lt hb hk
    have hb' := hb
    unfold Sm at hb'
    have ea : app (rangeF (tieP b) k) [(k : Int)] = some (rangeF (tieP b) k ++ [(k : Int)]) := app_sm (by simp; omega)
    simp only [dynposlaw15_BoardTies_L1, lt_len hk, if_true, idx_gt hk, Option.bind_some, W_succ this, rangeF_succ]
    cases e : tieP b k
    · have e' : ((gt b.Breakers k).Kind == 1) = false := e
      simp [e']
    · have e' : ((gt b.Breakers k).Kind == 1) = true := e
      simp only [e', if_true, ea, Option.bind_some]) (by simp only [dynposlaw15_BoardTies_L1, nlt_len, Bool.false_eq_true, if_false])
  exact h
theorem copy_eq {p : Power} (h : SmP p) : dynposref15_Copy p = some p := by
  obtain ⟨h1, h2, h3, h4⟩ := h
  unfold Sm at *
  unfold dynposref15_Copy
  rw [app_sm (by simp; omega), app_sm (by simp; omega), app_sm (by simp; omega), app_sm (by simp; omega)]
  rfl

theorem dynposlaw15_BoardTies_law (t : List Int) (u : U8) (hu0 : 0 ≤ u.n) (hu1 : u.n < 256) : dynposlaw15_BoardTies t u = some true := by
  obtain ⟨st, h0⟩ := new_run' t
  obtain ⟨⟨b, st1⟩, h1, hb⟩ := wpBoard st
  simp only at hb
  obtain ⟨⟨p, st2⟩, h2, hp⟩ := wpPower st1 hb
  simp only at hp
  have hst := hp.stt hb
  have hsb := hb.sm
  have hsp := hp.sm hb
  have hbus := hb.bus
  have hbrk := hb.brk
  have hg := hb.good.1
  unfold dynposlaw15_BoardTies
  simp only [h0, h1, h2, Option.bind_some, ties_loop hsb.1]
  have hlr := rangeF_len (tieP b) b.Breakers.length
  by_cases hz : rangeF (tieP b) b.Breakers.length = []
  · have e1 : (len (rangeF (tieP b) b.Breakers.length) == 0) = true := by rw [hz]; rfl
    have e2 : (isl b p).length = b.Buses.toNat := by
      rw [isl_roots hg]
      unfold roots
      have hno : ∀ i j, ¬ Tied b p i j := by
        rintro i j ⟨k, hk, h3, _⟩
        have : (k : Int) ∈ rangeF (tieP b) b.Breakers.length := mem_rangeF.2 ⟨k, hk, by unfold tieP; simp [h3], rfl⟩
        rw [hz] at this
        cases this
      have hall : ∀ f ∈ List.range b.Buses.toNat, dB (Root (Tied b p) f) = true := fun f _ => dB_T fun j hj => by
       cases hj with
       | refl => exact Nat.le_refl _
       | step e _ => exact (hno _ _ e).elim
      rw [List.filter_eq_self.2 hall, List.length_range]
    have e3 : (len (isl b p) == b.Buses) = true := beqT (by unfold len; omega)
    simp only [e1, if_true, islands_eq hsb hsp hst, Option.bind_some, e3, sane15_run]
  · have hpos : 0 < (rangeF (tieP b) b.Breakers.length).length := List.length_pos_iff.2 hz
    have e1 : (len (rangeF (tieP b) b.Breakers.length) == 0) = false := beqF (by unfold len; omega)
    have hr0 := Int.emod_nonneg u.n (show (len (rangeF (tieP b) b.Breakers.length)) ≠ 0 by unfold len; omega)
    have hr1 := Int.emod_lt_of_pos u.n (show 0 < (len (rangeF (tieP b) b.Breakers.length)) by unfold len; omega)
    have er : remO (W u.n) (len (rangeF (tieP b) b.Breakers.length)) = some (u.n % len (rangeF (tieP b) b.Breakers.length)) := by
      rw [W_sm (by omega) (by omega), remO_nn hu0 (by unfold len; omega)]
    generalize u.n % len (rangeF (tieP b) b.Breakers.length) = z at *
    unfold len at hr1
    have ei := idx_gtZ hr0 hr1
    obtain ⟨i, hi, hti, ez⟩ := mem_rangeF.1 (gt_mem (show z.toNat < (rangeF (tieP b) b.Breakers.length).length by omega))
    rw [ez] at ei
    have hk1 : (gt b.Breakers i).Kind = 1 := by unfold tieP at hti; simpa using hti
    have hcl : i < p.Closed.length := by have := hp.shape.1; omega
    have es := fun v => setO_nat (xs := p.Closed) (j := i) hcl v
    have eix := idx_gt hcl
    have eib := idx_gt hi
    obtain ⟨t1, t2, t3, t4⟩ := tieEnds hg hi hk1
    generalize ha : (gt b.Breakers i).A.toNat = a at *
    generalize hc : (gt b.Breakers i).B.toNat = c at *
    have hon := flip_stt hk1 true hst
    have hoff := flip_stt hk1 false hst
    have i1 := islands_eq hsb (flip_sm hsp) hon
    have i2 := islands_eq hsb (flip_sm hsp) hoff
    have hof := of_eq hsb (flip_sm (i := i) (v := true) hsp) (a : Int)
    rw [ofB_in hon (by omega) (by omega)] at hof
    have hs : ∀ x y, Tied b (flip p i false) x y → Tied b (flip p i false) y x := fun x y h => h.symm
    have hmono : ∀ x y, Tied b (flip p i false) x y → Tied b (flip p i true) x y := fun x y h => by
      rcases (flip_tied hcl hk1 hi false x y).1 h with h | ⟨h, _⟩
      · exact (flip_tied hcl hk1 hi true x y).2 (.inl h)
      · exact Bool.noConfusion h
    have hmore : ∀ x y, Tied b (flip p i true) x y → Tied b (flip p i false) x y ∨ (x = a ∧ y = c) ∨ (x = c ∧ y = a) := fun x y h => by
      rcases (flip_tied hcl hk1 hi true x y).1 h with h | ⟨_, h | h⟩
      · exact .inl ((flip_tied hcl hk1 hi false x y).2 (.inl h))
      · right; left; omega
      · right; right; omega
    obtain ⟨ra, _, ra1, ra2⟩ := grp_spec (p := flip p i false) hg (show a < b.Buses.toNat by omega)
    obtain ⟨rc, _, rc1, rc2⟩ := grp_spec (p := flip p i false) hg t2
    have l1 := roots_le hmono b.Buses.toNat
    have l2 := roots_more hs hmore ⟨ra1, ra2⟩ ⟨rc1, rc2⟩ b.Buses.toNat
    rw [← isl_roots hg, ← isl_roots hg] at l1 l2
    have l3 := isl_len (b := b) (p := flip p i true)
    have hsm := (isle_len (b := b) (p := flip p i true) (gt (grp b (flip p i true)) (a : Int).toNat).toNat).1
    have hmem : (c : Int) ∈ (isleOf b (flip p i true) (a : Int)).Buses := by
      have hab : Conn (Tied b (flip p i true)) a c := .one ((flip_tied hcl hk1 hi true a c).2 (.inr ⟨rfl, .inl ⟨t3, t4⟩⟩))
      have hg' := (grp_iff (p := flip p i true) hg (show a < b.Buses.toNat by omega) t2).2 hab
      have hbd := grp_bd (p := flip p i true) hg t2
      refine mem_bus.2 ⟨c, t2, ?_, rfl⟩
      rw [Int.toNat_natCast, hg']
      omega
    have hhas : dynposref01_Has (isleOf b (flip p i true) (a : Int)).Buses (c : Int) = some true := by
      rw [has_eq (by unfold Sm isleOf; omega), dT hmem]
    have d1 : decide (len (isl b (flip p i true)) ≤ len (isl b (flip p i false))) = true := dT (by unfold len; omega)
    have d2 : decide (len (isl b (flip p i false)) ≤ W (len (isl b (flip p i true)) + 1)) = true := dT (by unfold len; rw [W_succ (by omega)]; omega)
    unfold flip at *
    simp only [e1, Bool.false_eq_true, if_false, er, ei, Option.bind_some, copy_eq hsp, es, eix, eib, i1, i2, t3, t4, hof, if_true, hhas, d1, d2, sane15_run]

end Go.Proofs.Ytnpghnnlcakbfaa
