/- Nets: the reference's functions and the program's are equal, for all nets. Plain laws. -/
import Derived.Test.YtmgflnbgkpcbdaaNx1
set_option linter.unusedVariables false
set_option linter.unusedSimpArgs false
namespace Go.Proofs.Ytmgflnbgkpcbdaa
open Go Go.RowKit Dp
namespace Rx

theorem ifor (c b : Bool) : (if c = true then some true else some b) = some (c || b) := by cases c <;> rfl
theorem ifand (c b : Bool) : (if c = true then some b else some false) = some (c && b) := by cases c <;> rfl
theorem idx_ex {α : Type} {xs : List α} {k : Nat} (h : k < xs.length) : ∃ y, y ∈ xs ∧ idx xs (k : Int) = some y :=
  ⟨xs[k], List.getElem_mem _, by rw [idx_nat, List.getElem?_eq_getElem h]⟩
/-- two loops with one step on what is kept -/
theorem loop_same {σ ρ : Type} {f g : σ → Option (σ ⊕ ρ)} (inv : σ → Prop) (h : ∀ s, inv s → f s = g s ∧ ∀ s', f s = some (.inl s') → inv s') {s : σ} (hs : inv s) : loopO f s = loopO g s := by
  have key : ∀ (n : Nat) (s : σ), inv s → loopN f n s = loopN g n s := by
    intro n
    induction n with
    | zero => intro s _; rfl
    | succ n ih =>
      intro s hs
      obtain ⟨h1, h2⟩ := h s hs
      show (match f s with | some (.inl s') => loopN f n s' | some (.inr r) => some r | none => none) = (match g s with | some (.inl s') => loopN g n s' | some (.inr r) => some r | none => none)
      rw [← h1]
      cases hf : f s with
      | none => rfl
      | some x =>
        cases x with
        | inl s' => exact ih s' (h2 s' hf)
        | inr r => rfl
  exact key _ s hs
/-- a search through a list: some element has a property -/
theorem search_all {α : Type} [Rep α] {ρ : Type} {step : Int → Option (Int ⊕ ρ)} (l : List α) (hl : l.length ≤ 1000000) (P : Nat → Prop) {r e : ρ}
    (next : ∀ k, k < l.length → ¬ P k → step (k : Int) = some (.inl (W ((k : Int) + 1)))) (hit : ∀ k, k < l.length → P k → step (k : Int) = some (.inr r)) (stop : step (l.length : Int) = some (.inr e)) :
    loopO step 0 = some (cond (dB (∃ k, k < l.length ∧ P k)) r e) :=
  loop_anyB (fun k => (k : Int)) l.length P (fun k hk hp => by rw [next k hk hp, W_succ (by omega)]) hit stop (by omega)

/-! one net -/
theorem compare_iff (a b : Cable) : ∃ c, network_compare a b = some c ∧ (c < 0 ↔ cltP a b) := by
  unfold network_compare
  simp only [cmp_eq, Option.bind_some]
  obtain ⟨r, h1, h2⟩ := or_eq [cmpI a.Net b.Net, cmpI a.A b.A, cmpI a.B b.B] (by simp)
  rw [h1]
  refine ⟨r, rfl, ?_⟩
  have t1 := cmpI_tri a.Net b.Net
  have t2 := cmpI_tri a.A b.A
  have t3 := cmpI_tri a.B b.B
  have g0 : gt [cmpI a.Net b.Net, cmpI a.A b.A, cmpI a.B b.B] 0 = cmpI a.Net b.Net := rfl
  have g1 : gt [cmpI a.Net b.Net, cmpI a.A b.A, cmpI a.B b.B] 1 = cmpI a.A b.A := rfl
  have g2 : gt [cmpI a.Net b.Net, cmpI a.A b.A, cmpI a.B b.B] 2 = cmpI a.B b.B := rfl
  unfold cltP
  generalize cmpI a.Net b.Net = p1 at *
  generalize cmpI a.A b.A = p2 at *
  generalize cmpI a.B b.B = p3 at *
  rcases h2 with ⟨rfl, h⟩ | ⟨k, hk, rfl, h3, h4⟩
  · have e1 := h p1 (by simp)
    have e2 := h p2 (by simp)
    have e3 := h p3 (by simp)
    omega
  · have hk : k < 3 := hk
    rcases k with _ | _ | _ | k
    · rw [g0] at h3 ⊢
      omega
    · have f0 := h4 0 (by omega)
      rw [g0] at f0
      rw [g1] at h3 ⊢
      omega
    · have f0 := h4 0 (by omega)
      have f1 := h4 1 (by omega)
      rw [g0] at f0
      rw [g1] at f1
      rw [g2] at h3 ⊢
      omega
    · omega
/-- a right cable, at its place -/
def CabOk (n : Net) (k : Nat) : Prop := (0 ≤ (gt n.Cables k).Net ∧ (gt n.Cables k).Net < 2 ∧ 0 ≤ (gt n.Cables k).A ∧ (gt n.Cables k).A < (gt n.Cables k).B ∧ (gt n.Cables k).B < n.Nodes) ∧ (0 < k → cltP (gt n.Cables (k - 1)) (gt n.Cables k))
theorem vn_iff (n : Net) : Vn n ↔ (1 ≤ n.Nodes ∧ n.Nodes ≤ 8 ∧ n.Cables.length ≤ 24) ∧ ¬ ∃ k, k < n.Cables.length ∧ ¬ CabOk n k := by
  constructor
  · intro h
    exact ⟨⟨h.n0, h.n1, h.len⟩, fun ⟨k, hk, hno⟩ => hno ⟨h.rng k hk, fun h0 => h.srt k h0 hk⟩⟩
  · rintro ⟨⟨h1, h2, h3⟩, h4⟩
    have h5 : ∀ k, k < n.Cables.length → CabOk n k := fun k hk => Classical.byContradiction fun hno => h4 ⟨k, hk, hno⟩
    exact ⟨h1, h2, h3, fun k hk => (h5 k hk).1, fun k h0 hk => (h5 k hk).2 h0⟩
/-- what a check says of a net -/
noncomputable def vE (n : Net) : Int := if dB (Vn n) = true then 0 else 68
theorem vE_T {n : Net} (h : Vn n) : vE n = 0 := if_pos (dB_T h)
theorem vE_F {n : Net} (h : ¬ Vn n) : vE n = 68 := if_neg (by rw [dB_F h]; simp)
theorem ncheck_eq (n : Net) : network_Check n = some (vE n) := by
  unfold network_Check
  simp only [ifor, Option.bind_some]
  by_cases hg : 1 ≤ n.Nodes ∧ n.Nodes ≤ 8 ∧ n.Cables.length ≤ 24
  · obtain ⟨h0, h1, hl⟩ := hg
    simp only [dF (c := n.Nodes < 1) (by omega), dF (c := n.Nodes > 8) (by omega), dF (c := len n.Cables > 24) (by unfold len; omega), Bool.or_false, Bool.false_eq_true, if_false]
    rw [search_all (step := network_Check_L1 n) n.Cables (by omega) (fun k => ¬ CabOk n k) (r := .inr 68) (e := .inl ()) (fun k hk hp => ?_) (fun k hk hp => ?_) (by unfold network_Check_L1; simp only [nlt_len, Bool.false_eq_true, if_false])]
    · by_cases hb : ∃ k, k < n.Cables.length ∧ ¬ CabOk n k
      · rw [dB_T hb, vE_F (fun h => ((vn_iff n).1 h).2 hb)]; rfl
      · rw [dB_F hb, vE_T ((vn_iff n).2 ⟨⟨h0, h1, hl⟩, hb⟩)]; rfl
    · have hp : CabOk n k := Classical.byContradiction hp
      obtain ⟨⟨r1, r2, r3, r4, r5⟩, hs⟩ := hp
      unfold network_Check_L1
      simp only [lt_len hk, if_true, idx_gt hk, Option.bind_some, ifor, dF (c := (gt n.Cables k).Net < 0) (by omega), dF (c := (gt n.Cables k).Net ≥ 2) (by omega), dF (c := (gt n.Cables k).A < 0) (by omega), dF (c := (gt n.Cables k).A ≥ (gt n.Cables k).B) (by omega), dF (c := (gt n.Cables k).B ≥ n.Nodes) (by omega), Bool.or_false, Bool.false_eq_true, if_false]
      by_cases hk0 : 0 < k
      · obtain ⟨c, hc1, hc2⟩ := compare_iff (gt n.Cables (k - 1)) (gt n.Cables k)
        have := hc2.2 (hs hk0)
        simp only [dT (c := (k : Int) > 0) (by omega), if_true, W_pred (k := k) (by omega) hk0, idx_gt (show k - 1 < n.Cables.length by omega), Option.bind_some, hc1, dF (c := c ≥ 0) (by omega), Bool.false_eq_true, if_false]
      · simp only [dF (c := (k : Int) > 0) (by omega), Bool.false_eq_true, if_false, Option.bind_some]
    · unfold network_Check_L1
      simp only [lt_len hk, if_true, idx_gt hk, Option.bind_some, ifor]
      by_cases hr : 0 ≤ (gt n.Cables k).Net ∧ (gt n.Cables k).Net < 2 ∧ 0 ≤ (gt n.Cables k).A ∧ (gt n.Cables k).A < (gt n.Cables k).B ∧ (gt n.Cables k).B < n.Nodes
      · obtain ⟨r1, r2, r3, r4, r5⟩ := hr
        simp only [dF (c := (gt n.Cables k).Net < 0) (by omega), dF (c := (gt n.Cables k).Net ≥ 2) (by omega), dF (c := (gt n.Cables k).A < 0) (by omega), dF (c := (gt n.Cables k).A ≥ (gt n.Cables k).B) (by omega), dF (c := (gt n.Cables k).B ≥ n.Nodes) (by omega), Bool.or_false, Bool.false_eq_true, if_false]
        have hk0 : 0 < k := by
          rcases Nat.eq_zero_or_pos k with e | e
          · exact (hp ⟨⟨r1, r2, r3, r4, r5⟩, fun h => by omega⟩).elim
          · exact e
        obtain ⟨c, hc1, hc2⟩ := compare_iff (gt n.Cables (k - 1)) (gt n.Cables k)
        have hc : ¬ c < 0 := fun h => hp ⟨⟨r1, r2, r3, r4, r5⟩, fun _ => hc2.1 h⟩
        simp only [dT (c := (k : Int) > 0) (by omega), if_true, W_pred (k := k) (by omega) hk0, idx_gt (show k - 1 < n.Cables.length by omega), Option.bind_some, hc1, dT (c := c ≥ 0) (by omega), if_true]
      · have hb : (decide ((gt n.Cables k).Net < 0) || (decide ((gt n.Cables k).Net ≥ 2) || (decide ((gt n.Cables k).A < 0) || (decide ((gt n.Cables k).A ≥ (gt n.Cables k).B) || decide ((gt n.Cables k).B ≥ n.Nodes))))) = true := by
          simp only [Bool.or_eq_true, decide_eq_true_eq]
          omega
        simp only [hb, if_true]
  · have hb : (decide (n.Nodes < 1) || (decide (n.Nodes > 8) || decide (len n.Cables > 24))) = true := by
      simp only [Bool.or_eq_true, decide_eq_true_eq]
      unfold len
      omega
    rw [hb, vE_F (fun h => hg ((vn_iff n).1 h).1)]
    rfl
theorem in_eq (x lo hi : Int) : dynposref32_in x lo hi = some (decide (lo ≤ x ∧ x ≤ hi)) := by
  unfold dynposref32_in
  rw [ifand]
  simp only [Option.bind_some]
  congr 1
  by_cases h1 : lo ≤ x <;> by_cases h2 : x ≤ hi <;> simp [h1, h2]
theorem before_eq (a b : Cable) : dynposref32_before a b = some (dB (cltP a b)) := by
  unfold dynposref32_before
  by_cases h : a.Net = b.Net
  · rw [if_neg (by rw [bneF h]; simp)]
    by_cases h1 : a.A < b.A
    · rw [dT h1, dB_T (.inr ⟨h, .inl h1⟩)]; rfl
    · rw [dF h1]
      by_cases h2 : a.A = b.A
      · rw [beqT h2]
        simp only [Bool.false_eq_true, if_false, if_true, Option.bind_some]
        congr 1
        refine dB_eq ?_
        unfold cltP
        simp only [decide_eq_true_eq]
        omega
      · rw [beqF h2, dB_F (by unfold cltP; omega)]; rfl
  · rw [if_pos (bneT h)]
    congr 1
    refine dB_eq ?_
    unfold cltP
    simp only [decide_eq_true_eq]
    omega
theorem refcheck_eq (n : Net) : dynposref32_Check n = some (vE n) := by
  unfold dynposref32_Check
  simp only [in_eq, Option.bind_some, ifor]
  by_cases hg : 1 ≤ n.Nodes ∧ n.Nodes ≤ 8 ∧ n.Cables.length ≤ 24
  · obtain ⟨h0, h1, hl⟩ := hg
    have hW : W (n.Nodes - 1) = n.Nodes - 1 := W_sm (by omega) (by omega)
    simp only [dT (c := 1 ≤ n.Nodes ∧ n.Nodes ≤ 8) ⟨h0, h1⟩, dF (c := len n.Cables > 24) (by unfold len; omega), Bool.not_true, Bool.or_false, Bool.false_eq_true, if_false]
    rw [search_all (step := dynposref32_Check_L1 n) n.Cables (by omega) (fun k => ¬ CabOk n k) (r := .inr 68) (e := .inl ()) (fun k hk hp => ?_) (fun k hk hp => ?_) (by unfold dynposref32_Check_L1; simp only [nlt_len, Bool.false_eq_true, if_false])]
    · by_cases hb : ∃ k, k < n.Cables.length ∧ ¬ CabOk n k
      · rw [dB_T hb, vE_F (fun h => ((vn_iff n).1 h).2 hb)]; rfl
      · rw [dB_F hb, vE_T ((vn_iff n).2 ⟨⟨h0, h1, hl⟩, hb⟩)]; rfl
    · have hp : CabOk n k := Classical.byContradiction hp
      obtain ⟨⟨r1, r2, r3, r4, r5⟩, hs⟩ := hp
      unfold dynposref32_Check_L1
      simp only [lt_len hk, if_true, idx_gt hk, Option.bind_some, in_eq, hW, W_sm (x := (gt n.Cables k).A + 1) (by omega) (by omega), dT (c := 0 ≤ (gt n.Cables k).Net ∧ (gt n.Cables k).Net ≤ 1) (by omega), dT (c := 0 ≤ (gt n.Cables k).A ∧ (gt n.Cables k).A ≤ n.Nodes - 1) (by omega), dT (c := (gt n.Cables k).A + 1 ≤ (gt n.Cables k).B ∧ (gt n.Cables k).B ≤ n.Nodes - 1) (by omega), Bool.not_true, Bool.false_eq_true, if_false]
      by_cases hk0 : 0 < k
      · simp only [dT (c := (k : Int) > 0) (by omega), if_true, W_pred (k := k) (by omega) hk0, idx_gt (show k - 1 < n.Cables.length by omega), Option.bind_some, before_eq, dB_T (hs hk0), Bool.not_true, Bool.false_eq_true, if_false]
      · simp only [dF (c := (k : Int) > 0) (by omega), Bool.false_eq_true, if_false, Option.bind_some]
    · unfold dynposref32_Check_L1
      simp only [lt_len hk, if_true, idx_gt hk, Option.bind_some, in_eq, hW]
      by_cases r1 : 0 ≤ (gt n.Cables k).Net ∧ (gt n.Cables k).Net ≤ 1
      · by_cases r2 : 0 ≤ (gt n.Cables k).A ∧ (gt n.Cables k).A ≤ n.Nodes - 1
        · have hW2 : W ((gt n.Cables k).A + 1) = (gt n.Cables k).A + 1 := W_sm (by omega) (by omega)
          by_cases r3 : (gt n.Cables k).A + 1 ≤ (gt n.Cables k).B ∧ (gt n.Cables k).B ≤ n.Nodes - 1
          · have hk0 : 0 < k := by
              rcases Nat.eq_zero_or_pos k with e | e
              · exact (hp ⟨by omega, fun h => by omega⟩).elim
              · exact e
            have hc : ¬ cltP (gt n.Cables (k - 1)) (gt n.Cables k) := fun h => hp ⟨by omega, fun _ => h⟩
            simp only [hW2, dT r1, dT r2, dT r3, Bool.not_true, Bool.false_eq_true, if_false, dT (c := (k : Int) > 0) (by omega), if_true, W_pred (k := k) (by omega) hk0, idx_gt (show k - 1 < n.Cables.length by omega), Option.bind_some, before_eq, dB_F hc, Bool.not_false]
          · simp only [hW2, dT r1, dT r2, dF r3, Bool.not_true, Bool.not_false, Bool.false_eq_true, if_false, if_true, Option.bind_some]
        · simp only [dT r1, dF r2, Bool.not_true, Bool.not_false, Bool.false_eq_true, if_false, if_true, Option.bind_some]
      · simp only [dF r1, Bool.not_false, if_true, Option.bind_some]
  · have hb : (!decide (1 ≤ n.Nodes ∧ n.Nodes ≤ 8) || decide (len n.Cables > 24)) = true := by
      simp only [Bool.or_eq_true, decide_eq_true_eq, Bool.not_eq_true', decide_eq_false_iff_not]
      unfold len
      omega
    rw [hb, vE_F (fun h => hg ((vn_iff n).1 h).1)]
    rfl
theorem ports_same (n : Net) : network_Ports n = dynposref32_Ports n := by
  unfold network_Ports dynposref32_Ports
  rw [ncheck_eq, refcheck_eq]
/-- ports of a net -/
theorem ports_ok (n : Net) : ∃ M : Nat, M ≤ 64 ∧ dynposref32_Ports n = some (List.replicate M (Port.mk 0 [])) ∧ (Vn n → (M : Int) = n.Nodes * n.Nodes) := by
  unfold dynposref32_Ports
  rw [refcheck_eq]
  by_cases h : Vn n
  · rw [vE_T h]
    have h0 := h.n0
    have h1 := h.n1
    have hsq : ∃ M : Nat, n.Nodes * n.Nodes = (M : Int) ∧ M ≤ 64 := by
      have hcase : n.Nodes = 1 ∨ n.Nodes = 2 ∨ n.Nodes = 3 ∨ n.Nodes = 4 ∨ n.Nodes = 5 ∨ n.Nodes = 6 ∨ n.Nodes = 7 ∨ n.Nodes = 8 := by omega
      rcases hcase with e | e | e | e | e | e | e | e <;> rw [e]
      · exact ⟨1, rfl, by omega⟩
      · exact ⟨4, rfl, by omega⟩
      · exact ⟨9, rfl, by omega⟩
      · exact ⟨16, rfl, by omega⟩
      · exact ⟨25, rfl, by omega⟩
      · exact ⟨36, rfl, by omega⟩
      · exact ⟨49, rfl, by omega⟩
      · exact ⟨64, rfl, by omega⟩
    obtain ⟨M, hM, hM2⟩ := hsq
    refine ⟨M, hM2, ?_, fun _ => hM.symm⟩
    simp only [Option.bind_some, bne_self_eq_false, Bool.false_eq_true, if_false, hM, W_sm (x := (M : Int)) (by omega) (by omega)]
    rw [mkZ_nat (by omega)]
    rfl
  · rw [vE_F h]
    exact ⟨0, by omega, rfl, fun h' => (h h').elim⟩
theorem right_all (n : Net) (net : Int) {l : List Int} (hl : l.length ≤ 1000) : network_right n net l = some (dB (Vn n ∧ 0 ≤ net ∧ net < 2 ∧ ¬ ∃ x ∈ l, x < 0 ∨ n.Nodes ≤ x)) := by
  by_cases h : Vn n
  · by_cases hn : 0 ≤ net ∧ net < 2
    · rw [right_eq h hn.1 hn.2 hl]
      congr 1
      by_cases hx : ∃ x ∈ l, x < 0 ∨ n.Nodes ≤ x
      · rw [dB_T hx, dB_F (fun hh => hh.2.2.2 hx)]; rfl
      · rw [dB_F hx, dB_T ⟨h, hn.1, hn.2, hx⟩]; rfl
    · rw [dB_F (fun hh => hn ⟨hh.2.1, hh.2.2.1⟩)]
      unfold network_right
      rw [ncheck_eq, vE_T h]
      simp only [Option.bind_some, beq_self_eq_true, if_true]
      by_cases h0 : net ≥ 0
      · rw [dT h0, dF (c := net < 2) (by omega)]; rfl
      · rw [dF h0]; rfl
  · rw [dB_F (fun hh => h hh.1)]
    unfold network_right
    rw [ncheck_eq, vE_F h]
    rfl

/-! reaching -/
theorem cf_mono : ∀ {s s' : List Bool}, s.length = s'.length → (∀ i, i < s.length → gt s i = true → gt s' i = true) → cf s' ≤ cf s ∧ ((∃ i, i < s.length ∧ gt s i = false ∧ gt s' i = true) → cf s' < cf s)
  | [], [], _, _ => ⟨Nat.le_refl _, fun ⟨i, hi, _⟩ => by simp at hi⟩
  | [], _ :: _, h, _ => by simp at h
  | _ :: _, [], h, _ => by simp at h
  | b :: s, b' :: s', h, hs => by
    have ih := cf_mono (s := s) (s' := s') (by simpa using h) (fun i hi hg => hs (i + 1) (by simp; omega) hg)
    have h0 : b = true → b' = true := hs 0 (by simp)
    have e1 : cf (b :: s) = (if b = true then 0 else 1) + cf s := by unfold cf; cases b <;> simp <;> omega
    have e2 : cf (b' :: s') = (if b' = true then 0 else 1) + cf s' := by unfold cf; cases b' <;> simp <;> omega
    rw [e1, e2]
    refine ⟨?_, fun ⟨i, hi, hg, hg'⟩ => ?_⟩
    · have := ih.1
      cases b <;> cases b' <;> simp at h0 ⊢ <;> omega
    · rcases i with _ | i
      · have hg : b = false := hg
        have hg' : b' = true := hg'
        have := ih.1
        rw [hg, hg']
        simp
        omega
      · have := ih.2 ⟨i, by simp at hi; omega, hg, hg'⟩
        cases b <;> cases b' <;> simp at h0 ⊢ <;> omega
theorem rwhole_eq {l : List Part} (hl : l.length ≤ 1000) (k : Int) : dynposref32_whole l k = some (dB (¬ ∃ p ∈ l, p.Kind = 8 ∧ p.Number = k)) := by
  unfold dynposref32_whole
  rw [search_all (step := dynposref32_whole_L1 l k) l (by omega) (fun j => (gt l j).Kind = 8 ∧ (gt l j).Number = k) (r := .inr false) (e := .inl ()) (fun j hj hp => ?_) (fun j hj hp => ?_) (by unfold dynposref32_whole_L1; simp only [nlt_len, Bool.false_eq_true, if_false])]
  · by_cases hb : ∃ p ∈ l, p.Kind = 8 ∧ p.Number = k
    · rw [dB_T (p := ∃ j, j < l.length ∧ _) (by obtain ⟨p, hp, h⟩ := hb; obtain ⟨j, hj, rfl⟩ := mem_gt hp; exact ⟨j, hj, h⟩), dB_F (fun h => h hb)]; rfl
    · rw [dB_F (p := ∃ j, j < l.length ∧ _) (fun ⟨j, hj, h⟩ => hb ⟨_, gt_mem hj, h⟩), dB_T hb]; rfl
  · unfold dynposref32_whole_L1
    simp only [lt_len hj, if_true, idx_gt hj, Option.bind_some, ifand]
    have hb : ((gt l j).Kind == 8 && (gt l j).Number == k) = false := by
      cases hb : ((gt l j).Kind == 8 && (gt l j).Number == k) with
      | false => rfl
      | true => simp only [Bool.and_eq_true, beq_iff_eq] at hb; exact (hp hb).elim
    simp only [hb, Bool.false_eq_true, if_false]
  · unfold dynposref32_whole_L1
    simp only [lt_len hj, if_true, idx_gt hj, Option.bind_some, ifand]
    have hb : ((gt l j).Kind == 8 && (gt l j).Number == k) = true := by simp [hp.1, hp.2]
    simp only [hb, if_true]
/-- a cable that counts -/
def Cnt (n : Net) (br : List Part) (net : Int) (k : Nat) : Prop := (gt n.Cables k).Net = net ∧ ¬ ∃ p ∈ br, p.Kind = 8 ∧ p.Number = (k : Int)
/-- nobody reached has a neighbour that is not -/
def Clo (n : Net) (br : List Part) (net : Int) (s : List Bool) : Prop := ∀ k, k < n.Cables.length → Cnt n br net k → gt s (gt n.Cables k).A.toNat = gt s (gt n.Cables k).B.toNat
theorem wpRL2 {n : Net} (h : Vn n) {br : List Part} (hb : br.length ≤ 1000) {net a : Int} {s : List Bool} (hs : (s.length : Int) = n.Nodes) (hj : ∀ i : Nat, i < s.length → gt s i = true → Joined (Ed n br net) a i) :
    Wp (loopO (dynposref32_Reach_L2 n br net) (0, s)) fun r => r.length = s.length ∧ (∀ i, i < s.length → gt s i = true → gt r i = true) ∧ (∀ i : Nat, i < s.length → gt r i = true → Joined (Ed n br net) a i) ∧ (Clo n br net s → r = s) ∧ (¬ Clo n br net s → cf r < cf s) := by
  have hl := h.len
  have main : Wp (loopO (dynposref32_Reach_L2 n br net) (0, s)) fun r => r.length = s.length ∧ (∀ i, i < s.length → gt s i = true → gt r i = true) ∧ (∀ i : Nat, i < s.length → gt r i = true → Joined (Ed n br net) a i) ∧ (Clo n br net s → r = s) ∧ ∀ j, j < n.Cables.length → Cnt n br net j → (gt s (gt n.Cables j).A.toNat = true ∨ gt s (gt n.Cables j).B.toNat = true) → gt r (gt n.Cables j).A.toNat = true ∧ gt r (gt n.Cables j).B.toNat = true := by
    refine wp_upto n.Cables.length (fun k x => x.1 = (k : Int) ∧ x.2.length = s.length ∧ (∀ i, i < s.length → gt s i = true → gt x.2 i = true) ∧ (∀ i : Nat, i < s.length → gt x.2 i = true → Joined (Ed n br net) a i) ∧ (Clo n br net s → x.2 = s) ∧ ∀ j, j < k → Cnt n br net j → (gt s (gt n.Cables j).A.toNat = true ∨ gt s (gt n.Cables j).B.toNat = true) → gt x.2 (gt n.Cables j).A.toNat = true ∧ gt x.2 (gt n.Cables j).B.toNat = true) ⟨rfl, rfl, fun _ _ h => h, hj, fun _ => rfl, fun j hj => by omega⟩ (fun k x hk hv => ?_) (fun x hv => ?_) (by omega)
    · obtain ⟨z, d⟩ := x
      simp only at hv
      obtain ⟨rfl, v1, v2, v3, v4, v5⟩ := hv
      obtain ⟨r1, r2, r3, r4, r5⟩ := h.rng k hk
      have hA : (gt n.Cables k).A.toNat < d.length := by omega
      have hB : (gt n.Cables k).B.toNat < d.length := by omega
      unfold dynposref32_Reach_L2
      simp only [lt_len hk, if_true, idx_gt hk, Option.bind_some, rwhole_eq hb, idx_gtZ r3 (show (gt n.Cables k).A < d.length by omega), idx_gtZ (show 0 ≤ (gt n.Cables k).B by omega) (show (gt n.Cables k).B < d.length by omega), ifor, ifand]
      by_cases hc : Cnt n br net k ∧ (gt d (gt n.Cables k).A.toNat = true ∨ gt d (gt n.Cables k).B.toNat = true)
      · obtain ⟨hc, hab⟩ := hc
        have hor : (gt d (gt n.Cables k).A.toNat || gt d (gt n.Cables k).B.toNat) = true := by simpa using hab
        have hAB : Ed n br net (gt n.Cables k).A (gt n.Cables k).B := ⟨gt n.Cables k, ⟨k, hk, rfl, hc.1, hc.2⟩, .inl ⟨rfl, rfl⟩⟩
        simp only [beqT hc.1, dB_T hc.2, if_true, hor, Bool.and_true]
        rw [setO_gt r3 (by omega)]
        simp only [Option.bind_some]
        rw [idx_gtZ (show 0 ≤ (gt n.Cables k).B by omega) (by simp; omega)]
        simp only [Option.bind_some]
        rw [setO_gt (show 0 ≤ (gt n.Cables k).B by omega) (by simp; omega)]
        simp only [Option.bind_some]
        rw [W_succ (by omega)]
        have hm := gt_mark hA hB
        refine wp_some.2 ⟨rfl, by simp [v1], fun i hi hg => ?_, fun i hi hg => ?_, fun hcl => ?_, fun j hj hcj hab' => ?_⟩
        · show gt (mark d _ _) i = true
          rw [hm]
          split
          · rfl
          · exact v2 i hi hg
        · have hg : gt (mark d (gt n.Cables k).A.toNat (gt n.Cables k).B.toNat) i = true := hg
          rw [hm] at hg
          have both : Joined (Ed n br net) a (gt n.Cables k).A ∧ Joined (Ed n br net) a (gt n.Cables k).B := by
            rcases hab with hg' | hg'
            · have := v3 _ (by omega) hg'
              rw [Int.toNat_of_nonneg r3] at this
              exact ⟨this, this.trans (.one hAB)⟩
            · have := v3 _ (by omega) hg'
              rw [Int.toNat_of_nonneg (by omega)] at this
              exact ⟨this.trans (.one hAB.symm), this⟩
          split at hg
          · rename_i hor'
            rcases hor' with rfl | rfl
            · rw [Int.toNat_of_nonneg r3]; exact both.1
            · rw [Int.toNat_of_nonneg (by omega)]; exact both.2
          · exact v3 i hi hg
        · have e := v4 hcl
          have hcl' := hcl k hk hc
          rw [← e] at hcl'
          have hgA : gt d (gt n.Cables k).A.toNat = true := by
            rcases hab with g | g
            · exact g
            · rw [hcl']; exact g
          have hgB : gt d (gt n.Cables k).B.toNat = true := by rw [← hcl']; exact hgA
          show (d.set _ true).set _ true = s
          rw [set_same hA hgA, set_same hB hgB, e]
        · show gt (mark d _ _) _ = true ∧ gt (mark d _ _) _ = true
          rw [hm, hm]
          by_cases hjk : j = k
          · subst hjk
            simp
          · obtain ⟨g1, g2⟩ := v5 j (by omega) hcj hab'
            constructor
            · split
              · rfl
              · exact g1
            · split
              · rfl
              · exact g2
      · have hcond : ((gt n.Cables k).Net == net && (dB (¬ ∃ p ∈ br, p.Kind = 8 ∧ p.Number = (k : Int)) && (gt d (gt n.Cables k).A.toNat || gt d (gt n.Cables k).B.toNat))) = false := by
          by_cases h1 : (gt n.Cables k).Net = net
          · rw [beqT h1]
            by_cases h2 : ∃ p ∈ br, p.Kind = 8 ∧ p.Number = (k : Int)
            · rw [dB_F (fun hh => hh h2)]; rfl
            · have hno : ¬ (gt d (gt n.Cables k).A.toNat = true ∨ gt d (gt n.Cables k).B.toNat = true) := fun hh => hc ⟨⟨h1, h2⟩, hh⟩
              cases g1 : gt d (gt n.Cables k).A.toNat with
              | true => exact (hno (.inl g1)).elim
              | false =>
                cases g2 : gt d (gt n.Cables k).B.toNat with
                | true => exact (hno (.inr g2)).elim
                | false => simp
          · rw [beqF h1]; rfl
        simp only [hcond, Option.bind_some, Bool.false_eq_true, if_false]
        rw [W_succ (by omega)]
        refine wp_some.2 ⟨rfl, v1, v2, v3, v4, fun j hj hcj hab' => ?_⟩
        by_cases hjk : j = k
        · subst hjk
          refine (hc ⟨hcj, ?_⟩).elim
          rcases hab' with g | g
          · exact .inl (v2 _ (by omega) g)
          · exact .inr (v2 _ (by omega) g)
        · exact v5 j (by omega) hcj hab'
    · obtain ⟨z, d⟩ := x
      simp only at hv
      obtain ⟨rfl, v1, v2, v3, v4, v5⟩ := hv
      unfold dynposref32_Reach_L2
      simp only [nlt_len, Bool.false_eq_true, if_false]
      exact wp_some.2 ⟨v1, v2, v3, v4, v5⟩
  refine main.mono fun r hr => ?_
  obtain ⟨v1, v2, v3, v4, v5⟩ := hr
  refine ⟨v1, v2, v3, v4, fun hno => ?_⟩
  have : ∃ k, k < n.Cables.length ∧ Cnt n br net k ∧ gt s (gt n.Cables k).A.toNat ≠ gt s (gt n.Cables k).B.toNat := Classical.byContradiction fun hh => hno fun k hk hc => Classical.byContradiction fun hne => hh ⟨k, hk, hc, hne⟩
  obtain ⟨k, hk, hc, hne⟩ := this
  obtain ⟨r1, r2, r3, r4, r5⟩ := h.rng k hk
  refine (cf_mono v1.symm v2).2 ?_
  cases g1 : gt s (gt n.Cables k).A.toNat with
  | true =>
    have g2 : gt s (gt n.Cables k).B.toNat = false := by
      cases g2 : gt s (gt n.Cables k).B.toNat with
      | false => rfl
      | true => rw [g1, g2] at hne; exact (hne rfl).elim
    exact ⟨_, by omega, g2, (v5 k hk hc (.inl g1)).2⟩
  | false =>
    have g2 : gt s (gt n.Cables k).B.toNat = true := by
      cases g2 : gt s (gt n.Cables k).B.toNat with
      | true => rfl
      | false => rw [g1, g2] at hne; exact (hne rfl).elim
    exact ⟨_, by omega, g1, (v5 k hk hc (.inr g2)).1⟩
/-- the numbers are right, and one reaches the other -/
def Rch (n : Net) (br : List Part) (net a b : Int) : Prop := Vn n ∧ (0 ≤ net ∧ net < 2) ∧ (0 ≤ a ∧ a < n.Nodes) ∧ (0 ≤ b ∧ b < n.Nodes) ∧ Joined (Ed n br net) a b
theorem preach_eq (n : Net) {br : List Part} (hb : br.length ≤ 1000) (net a b : Int) : network_Reach n br net a b = some (dB (Rch n br net a b)) := by
  by_cases h : Vn n ∧ (0 ≤ net ∧ net < 2) ∧ (0 ≤ a ∧ a < n.Nodes) ∧ (0 ≤ b ∧ b < n.Nodes)
  · obtain ⟨h1, ⟨n0, n1⟩, ⟨a0, a1⟩, ⟨b0, b1⟩⟩ := h
    rw [reach_eq h1 hb n0 n1 a0 a1 b0 b1]
    congr 1
    exact dB_congr ⟨fun hj => ⟨h1, ⟨n0, n1⟩, ⟨a0, a1⟩, ⟨b0, b1⟩, hj⟩, fun hr => hr.2.2.2.2⟩
  · rw [dB_F (fun hr => h ⟨hr.1, hr.2.1, hr.2.2.1, hr.2.2.2.1⟩)]
    unfold network_Reach
    rw [right_all n net (by simp), dB_F (fun hr => h ⟨hr.1, ⟨hr.2.1, hr.2.2.1⟩, ?_, ?_⟩)]
    · rfl
    · have := hr.2.2.2
      refine ⟨Classical.byContradiction fun hh => this ⟨a, by simp, ?_⟩, Classical.byContradiction fun hh => this ⟨a, by simp, ?_⟩⟩ <;> omega
    · have := hr.2.2.2
      refine ⟨Classical.byContradiction fun hh => this ⟨b, by simp, ?_⟩, Classical.byContradiction fun hh => this ⟨b, by simp, ?_⟩⟩ <;> omega
theorem rreach_eq (n : Net) {br : List Part} (hb : br.length ≤ 1000) (net a b : Int) : dynposref32_Reach n br net a b = some (dB (Rch n br net a b)) := by
  unfold dynposref32_Reach
  rw [refcheck_eq]
  by_cases hv : Vn n
  · have h0 := hv.n0
    have h1 := hv.n1
    have hW : W (n.Nodes - 1) = n.Nodes - 1 := W_sm (by omega) (by omega)
    rw [vE_T hv]
    simp only [in_eq, Option.bind_some, hW, bne_self_eq_false, Bool.false_eq_true, if_false]
    by_cases hn : 0 ≤ net ∧ net ≤ 1
    · by_cases ha : 0 ≤ a ∧ a ≤ n.Nodes - 1
      · by_cases hbb : 0 ≤ b ∧ b ≤ n.Nodes - 1
        · simp only [dT hn, dT ha, dT hbb, Bool.not_true, Bool.false_eq_true, if_false, Option.bind_some]
          obtain ⟨N, hN⟩ : ∃ N : Nat, n.Nodes = N := ⟨n.Nodes.toNat, by omega⟩
          have hmk : mkZ false n.Nodes = some (List.replicate N false) := by rw [hN]; exact mkZ_nat (by omega)
          rw [hmk]
          simp only [Option.bind_some]
          rw [idx_gtZ ha.1 (by simp; omega)]
          simp only [Option.bind_some]
          rw [setO_gt ha.1 (by simp; omega)]
          simp only [Option.bind_some]
          have hcf0 : cf ((List.replicate N false).set a.toNat true) + 1 ≤ N := by
            have := cf_set (s := List.replicate N false) (i := a.toNat) (by simp; omega) (by rw [gt_replicate (by omega)])
            have h2 : cf (List.replicate N false) ≤ (List.replicate N false).length := List.length_filter_le _ _
            simp at h2
            omega
          have hloop : Wp (loopO (dynposref32_Reach_L1 n br net) (0, (List.replicate N false).set a.toNat true)) fun r => r.length = N ∧ gt r a.toNat = true ∧ (∀ i : Nat, i < N → gt r i = true → Joined (Ed n br net) a i) ∧ Clo n br net r := by
            refine wp_upto N (fun t x => x.1 = (t : Int) ∧ x.2.length = N ∧ gt x.2 a.toNat = true ∧ (∀ i : Nat, i < N → gt x.2 i = true → Joined (Ed n br net) a i) ∧ (Clo n br net x.2 ∨ cf x.2 + t + 1 ≤ N)) ⟨rfl, by simp, ?_, fun i hi hg => ?_, .inr (by omega)⟩ (fun t x ht hv' => ?_) (fun x hv' => ?_) (by omega)
            · rw [gt_set (by simp; omega), if_pos rfl]
            · rw [gt_set (by simp; omega)] at hg
              split at hg
              · rename_i e
                rw [e, Int.toNat_of_nonneg ha.1]
                exact .refl _
              · rw [gt_replicate hi] at hg
                cases hg
            · obtain ⟨z, s⟩ := x
              simp only at hv'
              obtain ⟨rfl, v1, v2, v3, v4⟩ := hv'
              unfold dynposref32_Reach_L1
              simp only [dT (c := (t : Int) < n.Nodes) (by omega), if_true]
              refine (wpRL2 hv hb (net := net) (a := a) (s := s) (by omega) (fun i hi hg => v3 i (by omega) hg)).bind fun r hr => ?_
              obtain ⟨w1, w2, w3, w4, w5⟩ := hr
              rw [W_succ (by omega)]
              refine wp_some.2 ⟨rfl, by simp only; omega, w2 _ (by omega) v2, fun i hi hg => w3 i (by omega) hg, ?_⟩
              by_cases hcl : Clo n br net s
              · exact .inl (by simp only; rw [w4 hcl]; exact hcl)
              · have := w5 hcl
                rcases v4 with v4 | v4
                · exact (hcl v4).elim
                · exact .inr (by simp only; omega)
            · obtain ⟨z, s⟩ := x
              simp only at hv'
              obtain ⟨rfl, v1, v2, v3, v4⟩ := hv'
              unfold dynposref32_Reach_L1
              simp only [dF (c := (N : Int) < n.Nodes) (by omega), Bool.false_eq_true, if_false]
              exact wp_some.2 ⟨v1, v2, v3, v4.resolve_right (by omega)⟩
          obtain ⟨r, hr, w1, w2, w3, w4⟩ := hloop
          rw [hr]
          simp only [Option.bind_some]
          rw [idx_gtZ hbb.1 (by omega)]
          simp only [Option.bind_some]
          congr 1
          refine dB_eq ⟨fun hg => ?_, fun hj => ?_⟩
          · have := w3 b.toNat (by omega) hg
            rw [Int.toNat_of_nonneg hbb.1] at this
            exact ⟨hv, by omega, by omega, by omega, this⟩
          · refine Joined.closed (p := fun i => gt r i.toNat = true) (fun i j he hi => ?_) hj.2.2.2.2 w2
            obtain ⟨c, ⟨k, hk, rfl, hc1, hc2⟩, hc⟩ := he
            have hcl := w4 k hk ⟨hc1, hc2⟩
            rcases hc with ⟨rfl, rfl⟩ | ⟨rfl, rfl⟩
            · rw [← hcl]; exact hi
            · rw [hcl]; exact hi
        · rw [dB_F (fun hr => hbb (by have := hr.2.2.2.1; omega)), dT hn, dT ha, dF hbb]; rfl
      · rw [dB_F (fun hr => ha (by have := hr.2.2.1; omega)), dT hn, dF ha]; rfl
    · rw [dB_F (fun hr => hn (by have := hr.2.1; omega)), dF hn]; rfl
  · rw [vE_F hv, dB_F (fun hr => hv hr.1)]; rfl
theorem copies_all (n : Net) {br : List Part} (hb : br.length ≤ 1000) (a b : Int) : ∃ c : Nat, c ≤ 2 ∧ network_Copies n br a b = some (c : Int) ∧ dynposref32_Copies n br a b = some (c : Int) := by
  have hf : dynposref32_Copies n br a b = network_Copies n br a b := by
    have : dynposref32_Copies_L1 n br a b = network_Copies_L1 n br a b := by
      funext x
      unfold dynposref32_Copies_L1 network_Copies_L1
      rw [preach_eq n hb, rreach_eq n hb]
    unfold dynposref32_Copies network_Copies
    rw [this]
  rw [hf]
  have hloop : Wp (loopO (network_Copies_L1 n br a b) (0, 0)) fun r => ∃ c : Nat, c ≤ 2 ∧ r = (c : Int) := by
    refine wp_upto 2 (fun i s => s.2 = (i : Int) ∧ ∃ c : Nat, c ≤ i ∧ s.1 = (c : Int)) ⟨rfl, 0, Nat.le_refl _, rfl⟩ (fun i s hi hv => ?_) (fun s hv => ?_) (by omega)
    · obtain ⟨o, z⟩ := s
      simp only at hv
      obtain ⟨rfl, c, hc, rfl⟩ := hv
      unfold network_Copies_L1
      simp only [dT (c := (i : Int) < 2) (by omega), if_true, preach_eq n hb, Option.bind_some]
      cases dB (Rch n br (i : Int) a b) with
      | true =>
        simp only [if_true, Option.bind_some]
        rw [W_succ (by omega), W_succ (by omega)]
        exact wp_some.2 ⟨rfl, c + 1, by omega, rfl⟩
      | false =>
        simp only [Bool.false_eq_true, if_false, Option.bind_some]
        rw [W_succ (by omega)]
        exact wp_some.2 ⟨rfl, c, by omega, rfl⟩
    · obtain ⟨o, z⟩ := s
      simp only at hv
      obtain ⟨rfl, c, hc, rfl⟩ := hv
      unfold network_Copies_L1
      simp only [dF (c := ((2 : Nat) : Int) < 2) (by omega), Bool.false_eq_true, if_false]
      exact wp_some.2 ⟨c, hc, rfl⟩
  obtain ⟨r, hr, c, hc, rfl⟩ := hloop
  refine ⟨c, hc, ?_, ?_⟩ <;> (unfold network_Copies; rw [hr]; rfl)
end Rx
end Go.Proofs.Ytmgflnbgkpcbdaa
