/- Nets: valid nets, drawn nets and broken cables, who reaches whom. Plain laws. -/
import Derived.Test.YtmgflnbgkpcbdaaMs0
set_option linter.unusedVariables false
set_option linter.unusedSimpArgs false
namespace Go.Proofs.Ytmgflnbgkpcbdaa
open Go Go.RowKit Dp
namespace Rx

/-- joined by edges -/
inductive Joined (E : Int → Int → Prop) : Int → Int → Prop
  | refl (i : Int) : Joined E i i
  | step {i j k : Int} : E i j → Joined E j k → Joined E i k
section
variable {E E' : Int → Int → Prop}
theorem Joined.trans {i j k : Int} (h : Joined E i j) (h' : Joined E j k) : Joined E i k := by
  induction h with
  | refl => exact h'
  | step e _ ih => exact .step e (ih h')
theorem Joined.one {i j : Int} (h : E i j) : Joined E i j := .step h (.refl _)
theorem Joined.symm (hs : ∀ i j, E i j → E j i) {i j : Int} (h : Joined E i j) : Joined E j i := by
  induction h with
  | refl => exact .refl _
  | step e _ ih => exact ih.trans (.one (hs _ _ e))
theorem Joined.mono (he : ∀ i j, E i j → E' i j) {i j : Int} (h : Joined E i j) : Joined E' i j := by
  induction h with
  | refl => exact .refl _
  | step e _ ih => exact .step (he _ _ e) ih
theorem Joined.closed {p : Int → Prop} (hp : ∀ i j, E i j → p i → p j) {i j : Int} (h : Joined E i j) (hi : p i) : p j := by
  induction h with
  | refl => exact hi
  | step e _ ih => exact ih (hp _ _ e hi)
end

def cltP (a b : Cable) : Prop := a.Net < b.Net ∨ a.Net = b.Net ∧ (a.A < b.A ∨ a.A = b.A ∧ a.B < b.B)
/-- a valid net -/
structure Vn (n : Net) : Prop where
  n0 : 1 ≤ n.Nodes
  n1 : n.Nodes ≤ 8
  len : n.Cables.length ≤ 24
  rng : ∀ k, k < n.Cables.length → 0 ≤ (gt n.Cables k).Net ∧ (gt n.Cables k).Net < 2 ∧ 0 ≤ (gt n.Cables k).A ∧ (gt n.Cables k).A < (gt n.Cables k).B ∧ (gt n.Cables k).B < n.Nodes
  srt : ∀ k, 0 < k → k < n.Cables.length → cltP (gt n.Cables (k - 1)) (gt n.Cables k)

def cmpI (a b : Int) : Int := if a < b then -1 else if a > b then 1 else 0
theorem cmp_eq (a b : Int) : cmp_Compare_int a b = some (cmpI a b) := by
  unfold cmp_Compare_int cmp_isNaN_int cmpI
  simp only [Option.bind_some, bne_self_eq_false, Bool.false_eq_true, if_false]
  by_cases h : a < b
  · simp [h]
  · by_cases h2 : a > b
    · simp [h, h2]
    · simp [h, h2]
theorem cmpI_tri (x y : Int) : (x < y ∧ cmpI x y = -1) ∨ (x = y ∧ cmpI x y = 0) ∨ (x > y ∧ cmpI x y = 1) := by
  unfold cmpI
  by_cases h1 : x < y
  · exact .inl ⟨h1, if_pos h1⟩
  · rw [if_neg h1]
    by_cases h2 : x > y
    · exact .inr (.inr ⟨h2, if_pos h2⟩)
    · exact .inr (.inl ⟨by omega, if_neg h2⟩)
theorem or_eq (l : List Int) (hl : l.length ≤ 1000) : ∃ r, cmp_Or_int l = some r ∧ ((r = 0 ∧ ∀ x ∈ l, x = 0) ∨ ∃ k, k < l.length ∧ r = gt l k ∧ r ≠ 0 ∧ ∀ j, j < k → gt l j = 0) := by
  have h := wp_upto (step := cmp_Or_int_L1 l) (s := (0 : Int)) l.length (fun k s => s = (k : Int) ∧ ∀ j, j < k → gt l j = 0) (Q := fun r => (r = .inl () ∧ ∀ j, j < l.length → gt l j = 0) ∨ ∃ k, k < l.length ∧ r = .inr (gt l k) ∧ gt l k ≠ 0 ∧ ∀ j, j < k → gt l j = 0) ⟨rfl, fun j hj => by omega⟩ (fun k s hk hi => by
    obtain ⟨rfl, hi⟩ := hi
    unfold cmp_Or_int_L1
    simp only [lt_len hk, if_true, idx_gt hk, Option.bind_some]
    by_cases he : gt l k = 0
    · simp only [bneF he, Bool.false_eq_true, if_false]
      rw [W_succ (by omega)]
      exact wp_some.2 ⟨rfl, fun j hj => by
        by_cases hjk : j = k
        · rw [hjk]; exact he
        · exact hi j (by omega)⟩
    · simp only [bneT he, if_true]
      exact wp_some.2 (.inr ⟨k, hk, rfl, he, hi⟩)) (fun s hi => by
    obtain ⟨rfl, hi⟩ := hi
    unfold cmp_Or_int_L1
    simp only [nlt_len, Bool.false_eq_true, if_false]
    exact wp_some.2 (.inl ⟨rfl, hi⟩)) (by omega)
  obtain ⟨r, h1, h2⟩ := h
  unfold cmp_Or_int
  rw [h1]
  rcases h2 with ⟨rfl, h2⟩ | ⟨k, hk, rfl, h3, h4⟩
  · refine ⟨0, rfl, .inl ⟨rfl, fun x hx => ?_⟩⟩
    obtain ⟨j, hj, rfl⟩ := mem_gt hx
    exact h2 j hj
  · exact ⟨_, rfl, .inr ⟨k, hk, rfl, h3, h4⟩⟩
theorem compare_lt {a b : Cable} (h : cltP a b) : ∃ c, network_compare a b = some c ∧ c < 0 := by
  unfold network_compare
  simp only [cmp_eq, Option.bind_some]
  obtain ⟨r, h1, h2⟩ := or_eq [cmpI a.Net b.Net, cmpI a.A b.A, cmpI a.B b.B] (by simp)
  rw [h1]
  refine ⟨r, rfl, ?_⟩
  have t1 := cmpI_tri a.Net b.Net
  have t2 := cmpI_tri a.A b.A
  have t3 := cmpI_tri a.B b.B
  have g0 : gt [cmpI a.Net b.Net, cmpI a.A b.A, cmpI a.B b.B] 0 = cmpI a.Net b.Net := rfl
  have g1 : gt [cmpI a.Net b.Net, cmpI a.A b.A, cmpI a.B b.B] 1 = cmpI a.A b.A := rfl
  have g2 : gt [cmpI a.Net b.Net, cmpI a.A b.A, cmpI a.B b.B] 2 = cmpI a.B b.B := rfl
  unfold cltP at h
  generalize cmpI a.Net b.Net = p1 at *
  generalize cmpI a.A b.A = p2 at *
  generalize cmpI a.B b.B = p3 at *
  rcases h2 with ⟨rfl, h⟩ | ⟨k, hk, rfl, h3, h4⟩
  · have e1 := h p1 (by simp)
    have e2 := h p2 (by simp)
    have e3 := h p3 (by simp)
    omega
  · have hk : k < 3 := hk
    rcases k with _ | _ | _ | k
    · rw [g0] at h3 ⊢
      omega
    · have f0 := h4 0 (by omega)
      rw [g0] at f0
      rw [g1] at h3 ⊢
      omega
    · have f0 := h4 0 (by omega)
      have f1 := h4 1 (by omega)
      rw [g0] at f0
      rw [g1] at f1
      rw [g2] at h3 ⊢
      omega
    · omega
theorem ncheck_ok {n : Net} (h : Vn n) : network_Check n = some 0 := by
  unfold network_Check
  have h0 := h.n0
  have h1 := h.n1
  have hl := h.len
  have e := loop_run (step := network_Check_L1 n) (r := .inl ()) (fun k => (k : Int)) n.Cables.length (fun k hk => by
    obtain ⟨r1, r2, r3, r4, r5⟩ := h.rng k hk
    unfold network_Check_L1
    simp only [lt_len hk, if_true, idx_gt hk, Option.bind_some, dF (c := (gt n.Cables k).Net < 0) (by omega), dF (c := (gt n.Cables k).Net ≥ 2) (by omega), dF (c := (gt n.Cables k).A < 0) (by omega), dF (c := (gt n.Cables k).A ≥ (gt n.Cables k).B) (by omega), dF (c := (gt n.Cables k).B ≥ n.Nodes) (by omega), Bool.false_eq_true, if_false]
    by_cases hk0 : 0 < k
    · obtain ⟨c, hc1, hc2⟩ := compare_lt (h.srt k hk0 hk)
      simp only [dT (c := (k : Int) > 0) (by omega), if_true, W_pred (k := k) (by omega) hk0, idx_gt (show k - 1 < n.Cables.length by omega), Option.bind_some, hc1, dF (c := c ≥ 0) (by omega), Bool.false_eq_true, if_false]
      rw [W_succ (by omega)]
    · simp only [dF (c := (k : Int) > 0) (by omega), Bool.false_eq_true, if_false, Option.bind_some]
      rw [W_succ (by omega)]) (by
    unfold network_Check_L1
    simp only [nlt_len, Bool.false_eq_true, if_false])
  simp only [show ((0 : Nat) : Int) = 0 from rfl] at e
  simp only [dF (c := n.Nodes < 1) (by omega), dF (c := n.Nodes > 8) (by omega), dF (c := len n.Cables > 24) (by unfold len; omega), Bool.false_eq_true, if_false, Option.bind_some, e, Sum.elim_inl]

/-- numbers that are nodes -/
theorem nodes_ok {n : Net} {l : List Int} (hl : l.length ≤ 1000) : slices_ContainsFunc_int_int l n = some (dB (∃ x ∈ l, x < 0 ∨ n.Nodes ≤ x)) := by
  unfold slices_ContainsFunc_int_int slices_IndexFunc_int_int
  have h := wp_upto (step := slices_IndexFunc_int_int_L1 l n) (s := (0 : Int)) l.length (fun k s => s = (k : Int) ∧ ∀ j, j < k → ¬ (gt l j < 0 ∨ n.Nodes ≤ gt l j)) (Q := fun r => (r = .inl () ∧ ∀ j, j < l.length → ¬ (gt l j < 0 ∨ n.Nodes ≤ gt l j)) ∨ ∃ k : Nat, k < l.length ∧ r = .inr (k : Int) ∧ (gt l k < 0 ∨ n.Nodes ≤ gt l k)) ⟨rfl, fun j hj => by omega⟩ (fun k s hk hi => by
    obtain ⟨rfl, hi⟩ := hi
    unfold slices_IndexFunc_int_int_L1 network_right_1
    have e : (if decide (gt l k < 0) = true then some true else some (decide (gt l k ≥ n.Nodes))) = some (decide (gt l k < 0 ∨ n.Nodes ≤ gt l k)) := by
      by_cases h1 : gt l k < 0
      · simp [h1]
      · simp [h1]
    simp only [lt_len hk, if_true, idx_gt hk, Option.bind_some, e]
    by_cases he : gt l k < 0 ∨ n.Nodes ≤ gt l k
    · simp only [dT he, if_true]
      exact wp_some.2 (.inr ⟨k, hk, rfl, he⟩)
    · simp only [dF he, Bool.false_eq_true, if_false]
      rw [W_succ (by omega)]
      exact wp_some.2 ⟨rfl, fun j hj => by
        by_cases hjk : j = k
        · rw [hjk]; exact he
        · exact hi j (by omega)⟩) (fun s hi => by
    obtain ⟨rfl, hi⟩ := hi
    unfold slices_IndexFunc_int_int_L1
    simp only [nlt_len, Bool.false_eq_true, if_false]
    exact wp_some.2 (.inl ⟨rfl, hi⟩)) (by omega)
  obtain ⟨r, h1, h2⟩ := h
  rw [h1]
  rcases h2 with ⟨rfl, h2⟩ | ⟨k, hk, rfl, h3⟩
  · rw [dB_F (fun ⟨c, hc, he⟩ => by
      obtain ⟨j, hj, rfl⟩ := mem_gt hc
      exact h2 j hj he)]
    rfl
  · rw [dB_T ⟨_, gt_mem hk, h3⟩]
    simp only [Option.bind_some, Sum.elim_inr, dT (c := (k : Int) ≥ 0) (by omega)]
theorem right_eq {n : Net} (h : Vn n) {net : Int} (n0 : 0 ≤ net) (n1 : net < 2) {l : List Int} (hl : l.length ≤ 1000) : network_right n net l = some (!dB (∃ x ∈ l, x < 0 ∨ n.Nodes ≤ x)) := by
  unfold network_right
  simp only [ncheck_ok h, Option.bind_some, beq_self_eq_true, if_true, dT (c := net ≥ 0) (by omega), dT n1, nodes_ok hl]

/-- the cables of a net that are whole -/
def Whole (n : Net) (broken : List Part) (net : Int) (c : Cable) : Prop := ∃ k, k < n.Cables.length ∧ gt n.Cables k = c ∧ c.Net = net ∧ ¬ ∃ p ∈ broken, p.Kind = 8 ∧ p.Number = (k : Int)
theorem partc_eq {l : List Part} (hl : l.length ≤ 1000) (q : Part) : slices_Contains_Part_Part l q = some (dB (∃ p ∈ l, p.Kind = q.Kind ∧ p.Number = q.Number)) := by
  unfold slices_Contains_Part_Part slices_Index_Part_Part
  have h := wp_upto (step := slices_Index_Part_Part_L1 l q) (s := (0 : Int)) l.length (fun k s => s = (k : Int) ∧ ∀ j, j < k → ¬ ((gt l j).Kind = q.Kind ∧ (gt l j).Number = q.Number)) (Q := fun r => (r = .inl () ∧ ∀ j, j < l.length → ¬ ((gt l j).Kind = q.Kind ∧ (gt l j).Number = q.Number)) ∨ ∃ k : Nat, k < l.length ∧ r = .inr (k : Int) ∧ ((gt l k).Kind = q.Kind ∧ (gt l k).Number = q.Number)) ⟨rfl, fun j hj => by omega⟩ (fun k s hk hi => by
    obtain ⟨rfl, hi⟩ := hi
    unfold slices_Index_Part_Part_L1
    simp only [lt_len hk, if_true, idx_gt hk, Option.bind_some]
    by_cases he : (gt l k).Kind = q.Kind ∧ (gt l k).Number = q.Number
    · have hb : (q.Kind == (gt l k).Kind && q.Number == (gt l k).Number) = true := by simp [he.1, he.2]
      simp only [hb, if_true]
      exact wp_some.2 (.inr ⟨k, hk, rfl, he⟩)
    · have hb : (q.Kind == (gt l k).Kind && q.Number == (gt l k).Number) = false := by
        cases hb : (q.Kind == (gt l k).Kind && q.Number == (gt l k).Number) with
        | false => rfl
        | true =>
          simp only [Bool.and_eq_true, beq_iff_eq] at hb
          exact (he ⟨hb.1.symm, hb.2.symm⟩).elim
      simp only [hb, Bool.false_eq_true, if_false]
      rw [W_succ (by omega)]
      exact wp_some.2 ⟨rfl, fun j hj => by
        by_cases hjk : j = k
        · rw [hjk]; exact he
        · exact hi j (by omega)⟩) (fun s hi => by
    obtain ⟨rfl, hi⟩ := hi
    unfold slices_Index_Part_Part_L1
    simp only [nlt_len, Bool.false_eq_true, if_false]
    exact wp_some.2 (.inl ⟨rfl, hi⟩)) (by omega)
  obtain ⟨r, h1, h2⟩ := h
  rw [h1]
  rcases h2 with ⟨rfl, h2⟩ | ⟨k, hk, rfl, h3⟩
  · rw [dB_F (fun ⟨c, hc, he⟩ => by
      obtain ⟨j, hj, rfl⟩ := mem_gt hc
      exact h2 j hj he)]
    rfl
  · rw [dB_T ⟨_, gt_mem hk, h3⟩]
    simp only [Option.bind_some, Sum.elim_inr, dT (c := (k : Int) ≥ 0) (by omega)]
theorem wpWhole {n : Net} (h : Vn n) {broken : List Part} (hb : broken.length ≤ 1000) (net : Int) : Wp (network_whole n broken net) fun l => l.length ≤ 24 ∧ ∀ c, c ∈ l ↔ Whole n broken net c := by
  have hl := h.len
  unfold network_whole
  have hloop : Wp (loopO (network_whole_L1 n broken net) (0, [])) fun l => l.length ≤ 24 ∧ ∀ c, c ∈ l ↔ Whole n broken net c := by
    refine wp_upto n.Cables.length (fun i s => s.1 = (i : Int) ∧ s.2.length ≤ i ∧ ∀ c, c ∈ s.2 ↔ ∃ k, k < i ∧ gt n.Cables k = c ∧ c.Net = net ∧ ¬ ∃ p ∈ broken, p.Kind = 8 ∧ p.Number = (k : Int)) ⟨rfl, Nat.le_refl _, fun c => ⟨fun hc => by simp at hc, fun ⟨k, hk, _⟩ => by omega⟩⟩ (fun i s hi hv => ?_) (fun s hv => ?_) (by omega)
    · obtain ⟨z, o⟩ := s
      simp only at hv
      obtain ⟨rfl, h1, h2⟩ := hv
      unfold network_whole_L1
      simp only [lt_len hi, if_true, idx_gt hi, Option.bind_some, partc_eq hb]
      have hcond : (if ((gt n.Cables i).Net == net) = true then some (!dB (∃ p ∈ broken, p.Kind = 8 ∧ p.Number = (i : Int))) else some false) = some (dB ((gt n.Cables i).Net = net ∧ ¬ ∃ p ∈ broken, p.Kind = 8 ∧ p.Number = (i : Int))) := by
        by_cases he : (gt n.Cables i).Net = net
        · rw [if_pos (beqT he)]
          congr 1
          by_cases hp : ∃ p ∈ broken, p.Kind = 8 ∧ p.Number = (i : Int)
          · rw [dB_T hp, dB_F (fun hh => hh.2 hp)]; rfl
          · rw [dB_F hp, dB_T ⟨he, hp⟩]; rfl
        · rw [if_neg (by rw [beqF he]; simp), dB_F (fun hh => he hh.1)]
      simp only [hcond, Option.bind_some]
      by_cases hw : (gt n.Cables i).Net = net ∧ ¬ ∃ p ∈ broken, p.Kind = 8 ∧ p.Number = (i : Int)
      · rw [dB_T hw]
        simp only [if_true]
        rw [app_sm (by simp; omega)]
        simp only [Option.bind_some]
        rw [W_succ (by omega)]
        refine wp_some.2 ⟨rfl, by simp; omega, fun c => ?_⟩
        simp only [List.mem_append, List.mem_singleton, h2]
        constructor
        · rintro (⟨k, hk, hr⟩ | rfl)
          · exact ⟨k, by omega, hr⟩
          · exact ⟨i, by omega, rfl, hw.1, hw.2⟩
        · rintro ⟨k, hk, rfl, hr⟩
          by_cases hki : k = i
          · subst hki; exact .inr rfl
          · exact .inl ⟨k, by omega, rfl, hr⟩
      · rw [dB_F hw]
        simp only [Bool.false_eq_true, if_false, Option.bind_some]
        rw [W_succ (by omega)]
        refine wp_some.2 ⟨rfl, by simp only; omega, fun c => ?_⟩
        simp only [h2]
        constructor
        · rintro ⟨k, hk, hr⟩
          exact ⟨k, by omega, hr⟩
        · rintro ⟨k, hk, rfl, hr⟩
          by_cases hki : k = i
          · subst hki; exact (hw hr).elim
          · exact ⟨k, by omega, rfl, hr⟩
    · obtain ⟨z, o⟩ := s
      simp only at hv
      obtain ⟨rfl, h1, h2⟩ := hv
      unfold network_whole_L1
      simp only [nlt_len, Bool.false_eq_true, if_false]
      exact wp_some.2 ⟨by omega, h2⟩
  exact hloop.bind fun l hl => wp_some.2 hl
/-- an edge of a net -/
def Ed (n : Net) (broken : List Part) (net : Int) (i j : Int) : Prop := ∃ c, Whole n broken net c ∧ ((c.A = i ∧ c.B = j) ∨ (c.B = i ∧ c.A = j))
theorem Ed.symm {n : Net} {broken : List Part} {net i j : Int} (h : Ed n broken net i j) : Ed n broken net j i := by
  obtain ⟨c, h1, h2⟩ := h
  exact ⟨c, h1, by omega⟩
def cf (s : List Bool) : Nat := (s.filter fun b => !b).length
theorem cf_set : ∀ {s : List Bool} {i : Nat}, i < s.length → gt s i = false → cf (s.set i true) + 1 = cf s
  | [], i, h, _ => by simp at h
  | b :: s, 0, _, h => by
    have h : b = false := h
    subst h
    simp [cf]
  | b :: s, i + 1, h, hg => by
    have hg' : gt s i = false := hg
    have ih := cf_set (s := s) (i := i) (by simpa using h) hg'
    unfold cf at ih ⊢
    rw [List.set_cons_succ]
    cases b <;> simp <;> omega
theorem set_same {s : List Bool} {i : Nat} (h : i < s.length) (hg : gt s i = true) : s.set i true = s := by
  refine ext_gt (by simp) fun k hk => ?_
  rw [gt_set h]
  split
  · rename_i e; rw [e, hg]
  · rfl
def mark (s : List Bool) (i j : Nat) : List Bool := (s.set i true).set j true
theorem gt_mark {s : List Bool} {i j : Nat} (hi : i < s.length) (hj : j < s.length) (k : Nat) : gt (mark s i j) k = if k = i ∨ k = j then true else gt s k := by
  unfold mark
  rw [gt_set (by simpa using hj), gt_set hi]
  by_cases h1 : k = j
  · simp [h1]
  · by_cases h2 : k = i <;> simp [h1, h2]
theorem cf_mark {s : List Bool} {i j : Nat} (hi : i < s.length) (hj : j < s.length) (h : gt s i ≠ gt s j) : cf (mark s i j) < cf s := by
  unfold mark
  cases h1 : gt s i with
  | true =>
    have h2 : gt s j = false := by
      cases h2 : gt s j with
      | false => rfl
      | true => rw [h1, h2] at h; exact (h rfl).elim
    rw [set_same hi h1]
    have := cf_set hj h2
    omega
  | false =>
    have h2 : gt s j = true := by
      cases h2 : gt s j with
      | true => rfl
      | false => rw [h1, h2] at h; exact (h rfl).elim
    have h3 := cf_set hi h1
    have h4 : gt (s.set i true) j = true := by rw [gt_set hi]; split <;> first | rfl | exact h2
    rw [set_same (by simpa using hj) h4]
    omega
theorem wpL2 {w : List Cable} {s : List Bool} (hw : w.length ≤ 1000) (hr : ∀ c ∈ w, 0 ≤ c.A ∧ c.A < s.length ∧ 0 ≤ c.B ∧ c.B < s.length) : Wp (loopO (network_Reach_L2 w) (0, s)) fun r => (r = .inl s ∧ ∀ c ∈ w, gt s c.A.toNat = gt s c.B.toNat) ∨ ∃ c ∈ w, gt s c.A.toNat ≠ gt s c.B.toNat ∧ r = .inr (mark s c.A.toNat c.B.toNat) := by
  refine wp_upto w.length (fun i x => x = ((i : Int), s) ∧ ∀ k, k < i → gt s (gt w k).A.toNat = gt s (gt w k).B.toNat) ⟨rfl, fun k hk => by omega⟩ (fun i x hi hv => ?_) (fun x hv => ?_) (by omega)
  · obtain ⟨rfl, hv⟩ := hv
    obtain ⟨a0, a1, b0, b1⟩ := hr _ (gt_mem hi)
    unfold network_Reach_L2
    simp only [lt_len hi, if_true, idx_gt hi, Option.bind_some, idx_gtZ a0 a1, idx_gtZ b0 b1]
    by_cases he : gt s (gt w i).A.toNat = gt s (gt w i).B.toNat
    · have hb : (!gt s (gt w i).A.toNat == gt s (gt w i).B.toNat) = false := by rw [he]; cases gt s (gt w i).B.toNat <;> rfl
      simp only [hb, Bool.false_eq_true, if_false]
      rw [W_succ (by omega)]
      exact wp_some.2 ⟨rfl, fun k hk => by
        by_cases hki : k = i
        · rw [hki]; exact he
        · exact hv k (by omega)⟩
    · have hb : (!gt s (gt w i).A.toNat == gt s (gt w i).B.toNat) = true := by
        cases h1 : gt s (gt w i).A.toNat <;> cases h2 : gt s (gt w i).B.toNat <;> first | rfl | (rw [h1, h2] at he; exact (he rfl).elim)
      simp only [hb, if_true, setO_gt a0 a1, Option.bind_some]
      rw [idx_gtZ b0 (by simpa using b1)]
      simp only [Option.bind_some]
      rw [setO_gt b0 (by simpa using b1)]
      exact wp_some.2 (.inr ⟨gt w i, gt_mem hi, he, rfl⟩)
  · obtain ⟨rfl, hv⟩ := hv
    unfold network_Reach_L2
    simp only [nlt_len, Bool.false_eq_true, if_false]
    refine wp_some.2 (.inl ⟨rfl, fun c hc => ?_⟩)
    obtain ⟨k, hk, rfl⟩ := mem_gt hc
    exact hv k hk
/-- who is reached -/
theorem reach_eq {n : Net} (h : Vn n) {broken : List Part} (hb : broken.length ≤ 1000) {net a b : Int} (n0 : 0 ≤ net) (n1 : net < 2) (a0 : 0 ≤ a) (a1 : a < n.Nodes) (b0 : 0 ≤ b) (b1 : b < n.Nodes) : network_Reach n broken net a b = some (dB (Joined (Ed n broken net) a b)) := by
  have hn1 := h.n1
  obtain ⟨N, hN⟩ : ∃ N : Nat, n.Nodes = N := ⟨n.Nodes.toNat, by omega⟩
  unfold network_Reach
  rw [right_eq h n0 n1 (by simp), dB_F (fun ⟨x, hx, hh⟩ => by
    simp only [List.mem_cons, List.not_mem_nil, or_false] at hx
    rcases hx with rfl | rfl <;> omega)]
  have hmk : mkZ false n.Nodes = some (List.replicate N false) := by rw [hN]; exact mkZ_nat (by omega)
  simp only [Option.bind_some, Bool.not_false, Bool.not_true, Bool.false_eq_true, if_false, hmk]
  rw [idx_gtZ a0 (by simp; omega)]
  simp only [Option.bind_some]
  rw [setO_gt a0 (by simp; omega)]
  simp only [Option.bind_some]
  obtain ⟨w, hw, hwl, hwm⟩ := wpWhole h hb net
  rw [hw]
  simp only [Option.bind_some]
  have hrng : ∀ c ∈ w, 0 ≤ c.A ∧ c.A < N ∧ 0 ≤ c.B ∧ c.B < N := fun c hc => by
    obtain ⟨k, hk, rfl, _⟩ := (hwm c).1 hc
    obtain ⟨r1, r2, r3, r4, r5⟩ := h.rng k hk
    omega
  have hloop : Wp (loopO (network_Reach_L1 b w) ((List.replicate N false).set a.toNat true)) fun r => r = dB (Joined (Ed n broken net) a b) := by
    refine wp_while cf (fun s => s.length = N ∧ gt s a.toNat = true ∧ ∀ i : Nat, i < N → gt s i = true → Joined (Ed n broken net) a i) (fun s hs => ?_) ⟨by simp, ?_, fun i hi hg => ?_⟩ ?_
    · obtain ⟨s1, s2, s3⟩ := hs
      unfold network_Reach_L1
      refine (wpL2 (w := w) (s := s) (by omega) (fun c hc => by rw [s1]; exact hrng c hc)).bind fun r hr => ?_
      rcases hr with ⟨rfl, hcl⟩ | ⟨c, hc, hne, rfl⟩
      · simp only [Sum.elim_inl]
        rw [idx_gtZ b0 (by omega)]
        refine wp_some.2 ?_
        refine dB_eq ⟨fun hg => ?_, fun hj => ?_⟩
        · have := s3 b.toNat (by omega) hg
          rwa [Int.toNat_of_nonneg b0] at this
        · refine (Joined.closed (p := fun i => gt s i.toNat = true) (fun i j he hi => ?_) hj s2)
          obtain ⟨c, hcw, hc⟩ := he
          have hcl := hcl c ((hwm c).2 hcw)
          rcases hc with ⟨rfl, rfl⟩ | ⟨rfl, rfl⟩
          · rw [← hcl]; exact hi
          · rw [hcl]; exact hi
      · obtain ⟨r1, r2, r3, r4⟩ := hrng c hc
        have hA : c.A.toNat < s.length := by omega
        have hB : c.B.toNat < s.length := by omega
        simp only [Sum.elim_inr]
        refine wp_some.2 ⟨⟨by unfold mark; simp [s1], ?_, fun i hi hg => ?_⟩, cf_mark hA hB hne⟩
        · rw [gt_mark hA hB]
          split
          · rfl
          · exact s2
        · rw [gt_mark hA hB] at hg
          have hAB : Ed n broken net c.A c.B := ⟨c, (hwm c).1 hc, .inl ⟨rfl, rfl⟩⟩
          have both : Joined (Ed n broken net) a c.A ∧ Joined (Ed n broken net) a c.B := by
            cases hga : gt s c.A.toNat with
            | true =>
              have := s3 c.A.toNat (by omega) hga
              rw [Int.toNat_of_nonneg r1] at this
              exact ⟨this, this.trans (.one hAB)⟩
            | false =>
              have hgb : gt s c.B.toNat = true := by
                cases hgb : gt s c.B.toNat with
                | true => rfl
                | false => rw [hga, hgb] at hne; exact (hne rfl).elim
              have := s3 c.B.toNat (by omega) hgb
              rw [Int.toNat_of_nonneg r3] at this
              exact ⟨this.trans (.one hAB.symm), this⟩
          split at hg
          · rename_i hor
            rcases hor with rfl | rfl
            · rw [Int.toNat_of_nonneg r1]; exact both.1
            · rw [Int.toNat_of_nonneg r3]; exact both.2
          · exact s3 i hi hg
    · rw [gt_set (by simp; omega), if_pos rfl]
    · rw [gt_set (by simp; omega)] at hg
      split at hg
      · rename_i e
        rw [e, Int.toNat_of_nonneg a0]
        exact .refl _
      · rw [gt_replicate hi] at hg
        cases hg
    · have : cf ((List.replicate N false).set a.toNat true) ≤ ((List.replicate N false).set a.toNat true).length := List.length_filter_le _ _
      simp at this
      omega
  obtain ⟨r, hr, rfl⟩ := hloop
  rw [hr]
  rfl
/-- on how many nets -/
theorem copies_eq {n : Net} (h : Vn n) {broken : List Part} (hb : broken.length ≤ 1000) {a b : Int} (a0 : 0 ≤ a) (a1 : a < n.Nodes) (b0 : 0 ≤ b) (b1 : b < n.Nodes) : network_Copies n broken a b = some ((if dB (Joined (Ed n broken 0) a b) = true then 1 else 0) + (if dB (Joined (Ed n broken 1) a b) = true then 1 else 0)) := by
  unfold network_Copies
  have hloop : Wp (loopO (network_Copies_L1 n broken a b) (0, 0)) fun r => r = ((if dB (Joined (Ed n broken 0) a b) = true then 1 else 0) + (if dB (Joined (Ed n broken 1) a b) = true then 1 else 0) : Int) := by
    refine wp_upto 2 (fun i s => s.2 = (i : Int) ∧ s.1 = ((if 0 < i ∧ dB (Joined (Ed n broken 0) a b) = true then 1 else 0) + (if 1 < i ∧ dB (Joined (Ed n broken 1) a b) = true then 1 else 0) : Int)) ⟨rfl, by simp⟩ (fun i s hi hv => ?_) (fun s hv => ?_) (by omega)
    · obtain ⟨o, z⟩ := s
      simp only at hv
      obtain ⟨rfl, rfl⟩ := hv
      unfold network_Copies_L1
      simp only [dT (c := (i : Int) < 2) (by omega), if_true]
      rw [reach_eq h hb (by omega) (by omega) a0 a1 b0 b1]
      simp only [Option.bind_some]
      rcases i with _ | _ | i
      · by_cases hj : dB (Joined (Ed n broken ((0 : Nat) : Int)) a b) = true
        · rw [if_pos hj]
          simp only [Option.bind_some]
          refine wp_some.2 ⟨W_succ (k := 0) (by omega), ?_⟩
          have hj : dB (Joined (Ed n broken 0) a b) = true := hj
          simp only [hj]
          exact W_sm (by omega) (by omega)
        · rw [if_neg hj]
          simp only [Option.bind_some]
          refine wp_some.2 ⟨W_succ (k := 0) (by omega), ?_⟩
          have hj : ¬ dB (Joined (Ed n broken 0) a b) = true := hj
          simp [hj]
      · by_cases hj : dB (Joined (Ed n broken ((0 + 1 : Nat) : Int)) a b) = true
        · rw [if_pos hj]
          simp only [Option.bind_some]
          refine wp_some.2 ⟨W_succ (k := 1) (by omega), ?_⟩
          have hj : dB (Joined (Ed n broken 1) a b) = true := hj
          by_cases h0 : dB (Joined (Ed n broken 0) a b) = true
          · simp only [hj, h0]
            exact W_sm (by omega) (by omega)
          · simp only [hj, h0]
            exact W_sm (by omega) (by omega)
        · rw [if_neg hj]
          simp only [Option.bind_some]
          refine wp_some.2 ⟨W_succ (k := 1) (by omega), ?_⟩
          have hj : ¬ dB (Joined (Ed n broken 1) a b) = true := hj
          simp [hj]
      · omega
    · obtain ⟨o, z⟩ := s
      simp only at hv
      obtain ⟨rfl, rfl⟩ := hv
      unfold network_Copies_L1
      simp only [dF (c := ((2 : Nat) : Int) < 2) (by omega), Bool.false_eq_true, if_false]
      refine wp_some.2 ?_
      simp
  obtain ⟨r, hr, rfl⟩ := hloop
  rw [hr]
  rfl
end Rx
end Go.Proofs.Ytmgflnbgkpcbdaa
