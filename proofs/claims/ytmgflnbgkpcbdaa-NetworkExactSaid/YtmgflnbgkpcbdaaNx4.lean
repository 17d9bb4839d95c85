/- Nets: messages delivered: the reference's function and the program's are equal, for all arguments. Plain laws. -/
import Derived.Test.YtmgflnbgkpcbdaaNx3
set_option linter.unusedVariables false
set_option linter.unusedSimpArgs false
namespace Go.Proofs.Ytmgflnbgkpcbdaa
open Go Go.RowKit Dp
namespace Rx

/-- two loops with one step, and what they keep -/
theorem both_upto {σ ρ : Type} {f g : σ → Option (σ ⊕ ρ)} (n : Nat) (inv : Nat → σ → Prop) {Q : ρ → Prop} {s : σ} (h0 : inv 0 s) (next : ∀ k s, k < n → inv k s → ∃ x, f s = some x ∧ g s = some x ∧ (match x with | .inl s' => inv (k + 1) s' | .inr r => Q r)) (stop : ∀ s, inv n s → ∃ r, f s = some (.inr r) ∧ g s = some (.inr r) ∧ Q r) (hn : n ≤ 1000000) : ∃ r, loopO f s = some r ∧ loopO g s = some r ∧ Q r := by
  have h1 : Wp (loopO f s) Q := wp_upto n inv h0 (fun k s hk hi => by
    obtain ⟨x, hx, _, hq⟩ := next k s hk hi
    exact ⟨x, hx, by cases x <;> exact hq⟩) (fun s hi => by
    obtain ⟨r, hr, _, hq⟩ := stop s hi
    exact ⟨_, hr, hq⟩) (by omega)
  have h2 : loopO f s = loopO g s := loop_same (fun s => ∃ k, k ≤ n ∧ inv k s) (fun s hs => by
    obtain ⟨k, hk, hi⟩ := hs
    by_cases hkn : k < n
    · obtain ⟨x, hx, hg, hq⟩ := next k s hkn hi
      refine ⟨by rw [hx, hg], fun s' hs' => ?_⟩
      rw [hx] at hs'
      cases hs'
      exact ⟨k + 1, by omega, hq⟩
    · have e : k = n := by omega
      subst e
      obtain ⟨r, hr, hg, hq⟩ := stop s hi
      refine ⟨by rw [hr, hg], fun s' hs' => ?_⟩
      rw [hr] at hs'
      cases hs') ⟨0, Nat.zero_le _, h0⟩
  obtain ⟨r, hr, hq⟩ := h1
  exact ⟨r, hr, by rw [← h2]; exact hr, hq⟩
/-- short ports -/
def Sh (l : List Port) : Prop := ∀ p ∈ l, p.Below.length ≤ 1000
theorem sh_gt {l : List Port} (h : Sh l) {k : Nat} (hk : k < l.length) : (gt l k).Below.length ≤ 1000 := h _ (gt_mem hk)
theorem sh_set {l : List Port} (h : Sh l) {k : Nat} {p : Port} (hp : p.Below.length ≤ 1000) : Sh (l.set k p) := fun q hq => by
  rcases List.mem_or_eq_of_mem_set hq with g | g
  · exact h q g
  · rw [g]; exact hp
/-- a message of nobody -/
def Fgn (n : Net) (m : Message) : Prop := ¬ ((0 ≤ m.From ∧ m.From < n.Nodes) ∧ (0 ≤ m.To ∧ m.To < n.Nodes))
theorem fgn_eq {n : Net} (h : Vn n) (m : Message) : network_Deliver_1 m n = some (dB (Fgn n m)) := by
  unfold network_Deliver_1
  rw [right_eq h (by omega) (by omega) (by simp)]
  simp only [Option.bind_some, Bool.not_not]
  congr 1
  refine dB_congr ?_
  unfold Fgn
  constructor
  · rintro ⟨x, hx, hh⟩ hr
    simp only [List.mem_cons, List.not_mem_nil, or_false] at hx
    rcases hx with rfl | rfl <;> omega
  · intro hr
    apply Classical.byContradiction
    intro hno
    apply hr
    refine ⟨⟨?_, ?_⟩, ?_, ?_⟩ <;> apply Classical.byContradiction <;> intro hh
    · exact hno ⟨m.From, by simp, by omega⟩
    · exact hno ⟨m.From, by simp, by omega⟩
    · exact hno ⟨m.To, by simp, by omega⟩
    · exact hno ⟨m.To, by simp, by omega⟩
theorem fgns_eq {n : Net} (h : Vn n) {l : List Message} (hl : l.length ≤ 1000) : slices_ContainsFunc_Message_Message l n = some (dB (∃ k, k < l.length ∧ Fgn n (gt l k))) := by
  unfold slices_ContainsFunc_Message_Message slices_IndexFunc_Message_Message
  have hh := wp_upto (step := slices_IndexFunc_Message_Message_L1 l n) (s := (0 : Int)) l.length (fun k s => s = (k : Int) ∧ ∀ j, j < k → ¬ Fgn n (gt l j)) (Q := fun r => (r = .inl () ∧ ∀ j, j < l.length → ¬ Fgn n (gt l j)) ∨ ∃ k : Nat, k < l.length ∧ r = .inr (k : Int) ∧ Fgn n (gt l k)) ⟨rfl, fun j hj => by omega⟩ (fun k s hk hi => by
    obtain ⟨rfl, hi⟩ := hi
    unfold slices_IndexFunc_Message_Message_L1
    simp only [lt_len hk, if_true, idx_gt hk, Option.bind_some, fgn_eq h]
    by_cases he : Fgn n (gt l k)
    · simp only [dB_T he, if_true]
      exact wp_some.2 (.inr ⟨k, hk, rfl, he⟩)
    · simp only [dB_F he, Bool.false_eq_true, if_false]
      rw [W_succ (by omega)]
      exact wp_some.2 ⟨rfl, fun j hj => by
        by_cases hjk : j = k
        · rw [hjk]; exact he
        · exact hi j (by omega)⟩) (fun s hi => by
    obtain ⟨rfl, hi⟩ := hi
    unfold slices_IndexFunc_Message_Message_L1
    simp only [nlt_len, Bool.false_eq_true, if_false]
    exact wp_some.2 (.inl ⟨rfl, hi⟩)) (by omega)
  obtain ⟨r, h1, h2⟩ := hh
  rw [h1]
  rcases h2 with ⟨rfl, h2⟩ | ⟨k, hk, rfl, h3⟩
  · rw [dB_F (fun ⟨j, hj, he⟩ => h2 j hj he)]
    rfl
  · rw [dB_T ⟨k, hk, h3⟩]
    simp only [Option.bind_some, Sum.elim_inr, dT (c := (k : Int) ≥ 0) (by omega)]
theorem prts_eq {l : List Port} (hl : l.length ≤ 1000) (hs : Sh l) : slices_ContainsFunc_Port_Port l = some (dB (∃ k, k < l.length ∧ ¬ PV (gt l k))) := by
  unfold slices_ContainsFunc_Port_Port slices_IndexFunc_Port_Port
  have hh := wp_upto (step := slices_IndexFunc_Port_Port_L1 l) (s := (0 : Int)) l.length (fun k s => s = (k : Int) ∧ ∀ j, j < k → PV (gt l j)) (Q := fun r => (r = .inl () ∧ ∀ j, j < l.length → PV (gt l j)) ∨ ∃ k : Nat, k < l.length ∧ r = .inr (k : Int) ∧ ¬ PV (gt l k)) ⟨rfl, fun j hj => by omega⟩ (fun k s hk hi => by
    obtain ⟨rfl, hi⟩ := hi
    unfold slices_IndexFunc_Port_Port_L1 network_Deliver_2
    simp only [lt_len hk, if_true, idx_gt hk, Option.bind_some, pport_eq (sh_gt hs hk)]
    by_cases he : PV (gt l k)
    · simp only [dB_T he, Bool.not_true, Bool.false_eq_true, if_false]
      rw [W_succ (by omega)]
      exact wp_some.2 ⟨rfl, fun j hj => by
        by_cases hjk : j = k
        · rw [hjk]; exact he
        · exact hi j (by omega)⟩
    · simp only [dB_F he, Bool.not_false, if_true]
      exact wp_some.2 (.inr ⟨k, hk, rfl, he⟩)) (fun s hi => by
    obtain ⟨rfl, hi⟩ := hi
    unfold slices_IndexFunc_Port_Port_L1
    simp only [nlt_len, Bool.false_eq_true, if_false]
    exact wp_some.2 (.inl ⟨rfl, hi⟩)) (by omega)
  obtain ⟨r, h1, h2⟩ := hh
  rw [h1]
  rcases h2 with ⟨rfl, h2⟩ | ⟨k, hk, rfl, h3⟩
  · rw [dB_F (fun ⟨j, hj, he⟩ => he (h2 j hj))]
    rfl
  · rw [dB_T ⟨k, hk, h3⟩]
    simp only [Option.bind_some, Sum.elim_inr, dT (c := (k : Int) ≥ 0) (by omega)]
theorem copies_prts {l : List Port} (hl : l.length ≤ 1000) (hs : Sh l) : loopO (network_Deliver_L1 l) (0, []) = some l := by
  have h : Wp (loopO (network_Deliver_L1 l) (0, [])) fun r => r = l := by
    refine wp_upto l.length (fun k s => s.1 = (k : Int) ∧ s.2 = l.take k) ⟨rfl, rfl⟩ (fun k s hk hv => ?_) (fun s hv => ?_) (by omega)
    · obtain ⟨z, o⟩ := s
      simp only at hv
      obtain ⟨rfl, rfl⟩ := hv
      unfold network_Deliver_L1
      simp only [lt_len hk, if_true, idx_gt hk, Option.bind_some, copy_all (sh_gt hs hk)]
      rw [app_sm (by simp; omega)]
      simp only [Option.bind_some]
      rw [W_succ (by omega)]
      exact wp_some.2 ⟨rfl, by simp only; rw [take_gt hk]⟩
    · obtain ⟨z, o⟩ := s
      simp only at hv
      obtain ⟨rfl, rfl⟩ := hv
      unfold network_Deliver_L1
      simp only [nlt_len, Bool.false_eq_true, if_false]
      exact wp_some.2 List.take_length
  exact wp_eq.1 h
/-- one message, over so many nets -/
theorem msg_both {n : Net} {m : Message} {c M q L : Nat} {g : List Message} {ps : List Port} (hat : W (W (m.To * n.Nodes) + m.From) = (q : Int)) (hq : q < M) (hps : ps.length = M) (hsh : Sh ps) (hg : g.length ≤ L) (hL : L ≤ 100000) (hc : c ≤ 2) :
    ∃ r, loopO (network_Deliver_L3 n m (c : Int)) (0, g, ps) = some r ∧ loopO (dynposref32_Deliver_L4 n m (c : Int)) (0, g, ps) = some r ∧ r.1.length ≤ L + 2 ∧ r.2.length = M ∧ Sh r.2 := by
  refine both_upto c (fun k s => s.1 = (k : Int) ∧ s.2.1.length ≤ L + k ∧ s.2.2.length = M ∧ Sh s.2.2) ⟨rfl, hg, hps, hsh⟩ (fun k s hk hv => ?_) (fun s hv => ?_) (by omega)
  · obtain ⟨z, g', d⟩ := s
    simp only at hv
    obtain ⟨rfl, v1, v2, v3⟩ := hv
    have hqd : q < d.length := by omega
    obtain ⟨h, ok, B, hB, a1, a2⟩ := acc_both (sh_gt v3 hqd) m.Number
    unfold network_Deliver_L3 dynposref32_Deliver_L4
    simp only [dT (c := (k : Int) < (c : Int)) (by omega), if_true, hat, idx_gt hqd, Option.bind_some, a1, a2]
    cases ok with
    | true =>
      simp only [if_true]
      rw [setO_nat hqd]
      simp only [Option.bind_some]
      rw [app_sm (by simp; omega)]
      simp only [Option.bind_some]
      rw [W_succ (by omega)]
      exact ⟨_, rfl, rfl, rfl, by simp; omega, by simp [v2], sh_set v3 hB⟩
    | false =>
      simp only [Bool.false_eq_true, if_false, Option.bind_some]
      rw [W_succ (by omega)]
      exact ⟨_, rfl, rfl, rfl, by simp only; omega, v2, v3⟩
  · obtain ⟨z, g', d⟩ := s
    simp only at hv
    obtain ⟨rfl, v1, v2, v3⟩ := hv
    unfold network_Deliver_L3 dynposref32_Deliver_L4
    simp only [dF (c := (c : Int) < (c : Int)) (by omega), Bool.false_eq_true, if_false]
    exact ⟨_, rfl, rfl, by simp only; omega, v2, v3⟩
theorem at_ok {N To From : Int} (h1 : 1 ≤ N) (h8 : N ≤ 8) (t0 : 0 ≤ To) (t1 : To < N) (f0 : 0 ≤ From) (f1 : From < N) : ∃ q M : Nat, N * N = (M : Int) ∧ M ≤ 64 ∧ q < M ∧ W (W (To * N) + From) = (q : Int) := by
  have hcase : N = 1 ∨ N = 2 ∨ N = 3 ∨ N = 4 ∨ N = 5 ∨ N = 6 ∨ N = 7 ∨ N = 8 := by omega
  have key : ∃ q M : Nat, N * N = (M : Int) ∧ M ≤ 64 ∧ q < M ∧ To * N + From = (q : Int) ∧ To * N ≤ 1000 ∧ 0 ≤ To * N := by
    rcases hcase with e | e | e | e | e | e | e | e <;> subst e
    · exact ⟨(To * 1 + From).toNat, 1, rfl, by omega, by omega, by omega, by omega, by omega⟩
    · exact ⟨(To * 2 + From).toNat, 4, rfl, by omega, by omega, by omega, by omega, by omega⟩
    · exact ⟨(To * 3 + From).toNat, 9, rfl, by omega, by omega, by omega, by omega, by omega⟩
    · exact ⟨(To * 4 + From).toNat, 16, rfl, by omega, by omega, by omega, by omega, by omega⟩
    · exact ⟨(To * 5 + From).toNat, 25, rfl, by omega, by omega, by omega, by omega, by omega⟩
    · exact ⟨(To * 6 + From).toNat, 36, rfl, by omega, by omega, by omega, by omega, by omega⟩
    · exact ⟨(To * 7 + From).toNat, 49, rfl, by omega, by omega, by omega, by omega, by omega⟩
    · exact ⟨(To * 8 + From).toNat, 64, rfl, by omega, by omega, by omega, by omega, by omega⟩
  obtain ⟨q, M, e1, e2, e3, e4, e5, e6⟩ := key
  refine ⟨q, M, e1, e2, e3, ?_⟩
  rw [W_sm (x := To * N) (by omega) (by omega), e4, W_sm (by omega) (by omega)]
/-- the main loops -/
theorem main_both {n : Net} (h : Vn n) {br : List Part} (hbr : br.length ≤ 1000) {l : List Message} (hl : l.length ≤ 60) (hm : ∀ k, k < l.length → ¬ Fgn n (gt l k)) {ps : List Port} (hps : (ps.length : Int) = n.Nodes * n.Nodes) (hsh : Sh ps) :
    ∃ r, loopO (network_Deliver_L2 n br l) (0, [], ps) = some r ∧ loopO (dynposref32_Deliver_L3 n br l) (0, [], ps) = some r ∧ r.1.length ≤ 1000 ∧ r.2.length ≤ 64 ∧ Sh r.2 := by
  have h0 := h.n0
  have h1 := h.n1
  have hM : ps.length ≤ 64 := by
    obtain ⟨q, M, e1, e2, _⟩ := at_ok (N := n.Nodes) (To := 0) (From := 0) h0 h1 (by omega) (by omega) (by omega) (by omega)
    omega
  have := both_upto (f := network_Deliver_L2 n br l) (g := dynposref32_Deliver_L3 n br l) (Q := fun r => r.1.length ≤ 1000 ∧ r.2.length ≤ 64 ∧ Sh r.2) (s := (0, [], ps)) l.length (fun k s => s.1 = (k : Int) ∧ s.2.1.length ≤ 2 * k ∧ s.2.2.length = ps.length ∧ Sh s.2.2) ⟨rfl, by simp, rfl, hsh⟩ (fun k s hk hv => ?_) (fun s hv => ?_) (by omega)
  · exact this
  · obtain ⟨z, g', d⟩ := s
    simp only at hv
    obtain ⟨rfl, v1, v2, v3⟩ := hv
    have hf : (0 ≤ (gt l k).From ∧ (gt l k).From < n.Nodes) ∧ (0 ≤ (gt l k).To ∧ (gt l k).To < n.Nodes) := Classical.byContradiction (hm k hk)
    obtain ⟨q, M, e1, e2, e3, e4⟩ := at_ok h0 h1 hf.2.1 hf.2.2 hf.1.1 hf.1.2
    obtain ⟨c, hc, c1, c2⟩ := copies_all n hbr (gt l k).From (gt l k).To
    obtain ⟨r, r1, r2, r3, r4, r5⟩ := msg_both (n := n) (m := gt l k) (c := c) (M := ps.length) (g := g') (ps := d) (L := 2 * k) e4 (by omega) v2 v3 v1 (by omega) hc
    unfold network_Deliver_L2 dynposref32_Deliver_L3
    simp only [lt_len hk, if_true, idx_gt hk, Option.bind_some, c1, c2, r1, r2]
    rw [W_succ (by omega)]
    exact ⟨_, rfl, rfl, rfl, by simp only; omega, r4, r5⟩
  · obtain ⟨z, g', d⟩ := s
    simp only at hv
    obtain ⟨rfl, v1, v2, v3⟩ := hv
    unfold network_Deliver_L2 dynposref32_Deliver_L3
    simp only [nlt_len, Bool.false_eq_true, if_false]
    exact ⟨_, rfl, rfl, by simp only; omega, by simp only; omega, v3⟩
theorem rL1_eq {n : Net} (h : Vn n) {l : List Message} (hl : l.length ≤ 1000) : loopO (dynposref32_Deliver_L1 n l) 0 = some (cond (dB (∃ k, k < l.length ∧ Fgn n (gt l k))) (.inr (1, [], [])) (.inl ())) := by
  have h0 := h.n0
  have h1 := h.n1
  have hW : W (n.Nodes - 1) = n.Nodes - 1 := W_sm (by omega) (by omega)
  refine search_all (step := dynposref32_Deliver_L1 n l) l (by omega) (fun k => Fgn n (gt l k)) (fun k hk hp => ?_) (fun k hk hp => ?_) (by unfold dynposref32_Deliver_L1; simp only [nlt_len, Bool.false_eq_true, if_false])
  · have hf : (0 ≤ (gt l k).From ∧ (gt l k).From < n.Nodes) ∧ (0 ≤ (gt l k).To ∧ (gt l k).To < n.Nodes) := Classical.byContradiction hp
    unfold dynposref32_Deliver_L1
    simp only [lt_len hk, if_true, idx_gt hk, Option.bind_some, in_eq, hW, dT (c := 0 ≤ (gt l k).From ∧ (gt l k).From ≤ n.Nodes - 1) (by omega), dT (c := 0 ≤ (gt l k).To ∧ (gt l k).To ≤ n.Nodes - 1) (by omega), Bool.not_true, Bool.false_eq_true, if_false]
  · unfold dynposref32_Deliver_L1
    simp only [lt_len hk, if_true, idx_gt hk, Option.bind_some, in_eq, hW]
    by_cases h2 : 0 ≤ (gt l k).From ∧ (gt l k).From ≤ n.Nodes - 1
    · have h3 : ¬ (0 ≤ (gt l k).To ∧ (gt l k).To ≤ n.Nodes - 1) := fun h3 => hp (by omega)
      simp only [dT h2, dF h3, Bool.not_true, Bool.not_false, Bool.false_eq_true, if_false, if_true, Option.bind_some]
    · simp only [dF h2, Bool.not_false, if_true, Option.bind_some]
theorem rL2_eq {l : List Port} (hl : l.length ≤ 1000) (hs : Sh l) : loopO (dynposref32_Deliver_L2 l) 0 = some (cond (dB (∃ k, k < l.length ∧ ¬ PV (gt l k))) (.inr (1, [], [])) (.inl ())) := by
  refine search_all (step := dynposref32_Deliver_L2 l) l (by omega) (fun k => ¬ PV (gt l k)) (fun k hk hp => ?_) (fun k hk hp => ?_) (by unfold dynposref32_Deliver_L2; simp only [nlt_len, Bool.false_eq_true, if_false])
  · unfold dynposref32_Deliver_L2
    simp only [lt_len hk, if_true, idx_gt hk, Option.bind_some, rport_eq (sh_gt hs hk), dB_T (Classical.byContradiction hp), Bool.not_true, Bool.false_eq_true, if_false]
  · unfold dynposref32_Deliver_L2
    simp only [lt_len hk, if_true, idx_gt hk, Option.bind_some, rport_eq (sh_gt hs hk), dB_F hp, Bool.not_false, if_true]
theorem deliver_both (n : Net) {br : List Part} (hbr : br.length ≤ 1000) {ps : List Port} (hps : ps.length ≤ 1000) (hsh : Sh ps) {l : List Message} (hl : l.length ≤ 1000) :
    ∃ r, network_Deliver n br ps l = some r ∧ dynposref32_Deliver n br ps l = some r ∧ r.2.1.length ≤ 1000 ∧ r.2.2.length ≤ 1000 ∧ Sh r.2.1 := by
  have hnil : ∀ e : Int, ∃ r : Int × List Port × List Message, some (e, [], []) = some r ∧ some (e, [], []) = some r ∧ r.2.1.length ≤ 1000 ∧ r.2.2.length ≤ 1000 ∧ Sh r.2.1 := fun e => ⟨_, rfl, rfl, by simp, by simp, fun p hp => by simp at hp⟩
  unfold network_Deliver dynposref32_Deliver
  rw [ncheck_eq, refcheck_eq]
  by_cases hv : Vn n
  · have h0 := hv.n0
    have h1 := hv.n1
    rw [vE_T hv]
    simp only [Option.bind_some, bne_self_eq_false, Bool.false_eq_true, if_false]
    obtain ⟨q, M, e1, e2, _⟩ := at_ok (N := n.Nodes) (To := 0) (From := 0) h0 h1 (by omega) (by omega) (by omega) (by omega)
    rw [e1, W_sm (x := (M : Int)) (by omega) (by omega)]
    by_cases hM : ps.length = M
    · rw [show (len ps != (M : Int)) = false from bneF (by unfold len; omega)]
      simp only [Bool.false_eq_true, if_false, fgns_eq hv hl, prts_eq hps hsh, rL1_eq hv hl, rL2_eq hps hsh, Option.bind_some, ifor]
      by_cases hf : ∃ k, k < l.length ∧ Fgn n (gt l k)
      · rw [dB_T hf]
        exact hnil 1
      · rw [dB_F hf]
        simp only [Bool.false_or, cond_false, Sum.elim_inl]
        by_cases hp : ∃ k, k < ps.length ∧ ¬ PV (gt ps k)
        · rw [dB_T hp]
          exact hnil 1
        · rw [dB_F hp]
          simp only [Bool.false_eq_true, if_false, cond_false, Sum.elim_inl]
          by_cases h60 : l.length > 60
          · rw [dT (c := len l > 60) (by unfold len; omega)]
            exact hnil 2
          · rw [dF (c := len l > 60) (by unfold len; omega)]
            simp only [Bool.false_eq_true, if_false]
            rw [copies_prts hps hsh, show app ([] : List Port) ps = some ps from app_sm (by simp; omega)]
            simp only [Option.bind_some]
            obtain ⟨r, r1, r2, r3, r4, r5⟩ := main_both hv hbr (l := l) (by omega) (fun k hk hh => hf ⟨k, hk, hh⟩) (ps := ps) (by omega) hsh
            rw [r1, r2]
            exact ⟨_, rfl, rfl, by simp only; omega, r3, r5⟩
    · rw [show (len ps != (M : Int)) = true from bneT (by unfold len; omega)]
      exact hnil 8
  · rw [vE_F hv]
    exact hnil 68
/-- the variant that the source calls -/
theorem deliver_v2 {n : Net} {br : List Part} (hbr : br.length ≤ 1000) {ps : List Port} (hps : ps.length ≤ 1000) (hsh : Sh ps) {l : List Message} (hl : l.length ≤ 1000) :
    Wp (dynposref32_Deliver_v2 n br ps l) fun r => r.2.1 = n.Cables ∧ r.2.2.2.2.1.length ≤ 64 ∧ Sh r.2.2.2.2.1 := by
  have hnil : Sh [] := fun p hp => by simp at hp
  unfold dynposref32_Deliver_v2
  rw [refcheck_eq]
  by_cases hv : Vn n
  · have h0 := hv.n0
    have h1 := hv.n1
    have hW : W (n.Nodes - 1) = n.Nodes - 1 := W_sm (by omega) (by omega)
    rw [vE_T hv]
    simp only [Option.bind_some, bne_self_eq_false, Bool.false_eq_true, if_false]
    obtain ⟨q, M, e1, e2, _⟩ := at_ok (N := n.Nodes) (To := 0) (From := 0) h0 h1 (by omega) (by omega) (by omega) (by omega)
    rw [e1, W_sm (x := (M : Int)) (by omega) (by omega)]
    by_cases hM : ps.length = M
    · rw [show (len ps != (M : Int)) = false from bneF (by unfold len; omega)]
      have q1 : loopO (dynposref32_Deliver_v2_L1 n ps l) 0 = some (cond (dB (∃ k, k < l.length ∧ Fgn n (gt l k))) (.inr (1, n.Cables, ps, l, [], [])) (.inl ())) := by
        refine search_all (step := dynposref32_Deliver_v2_L1 n ps l) l (by omega) (fun k => Fgn n (gt l k)) (fun k hk hp => ?_) (fun k hk hp => ?_) (by unfold dynposref32_Deliver_v2_L1; simp only [nlt_len, Bool.false_eq_true, if_false])
        · have hf : (0 ≤ (gt l k).From ∧ (gt l k).From < n.Nodes) ∧ (0 ≤ (gt l k).To ∧ (gt l k).To < n.Nodes) := Classical.byContradiction hp
          unfold dynposref32_Deliver_v2_L1
          simp only [lt_len hk, if_true, idx_gt hk, Option.bind_some, in_eq, hW, dT (c := 0 ≤ (gt l k).From ∧ (gt l k).From ≤ n.Nodes - 1) (by omega), dT (c := 0 ≤ (gt l k).To ∧ (gt l k).To ≤ n.Nodes - 1) (by omega), Bool.not_true, Bool.false_eq_true, if_false]
        · unfold dynposref32_Deliver_v2_L1
          simp only [lt_len hk, if_true, idx_gt hk, Option.bind_some, in_eq, hW]
          by_cases h2 : 0 ≤ (gt l k).From ∧ (gt l k).From ≤ n.Nodes - 1
          · have h3 : ¬ (0 ≤ (gt l k).To ∧ (gt l k).To ≤ n.Nodes - 1) := fun h3 => hp (by omega)
            simp only [dT h2, dF h3, Bool.not_true, Bool.not_false, Bool.false_eq_true, if_false, if_true, Option.bind_some]
          · simp only [dF h2, Bool.not_false, if_true, Option.bind_some]
      have q2 : loopO (dynposref32_Deliver_v2_L2 n ps l) 0 = some (cond (dB (∃ k, k < ps.length ∧ ¬ PV (gt ps k))) (.inr (1, n.Cables, ps, l, [], [])) (.inl ())) := by
        refine search_all (step := dynposref32_Deliver_v2_L2 n ps l) ps (by omega) (fun k => ¬ PV (gt ps k)) (fun k hk hp => ?_) (fun k hk hp => ?_) (by unfold dynposref32_Deliver_v2_L2; simp only [nlt_len, Bool.false_eq_true, if_false])
        · unfold dynposref32_Deliver_v2_L2
          simp only [lt_len hk, if_true, idx_gt hk, Option.bind_some, rport_eq (sh_gt hsh hk), dB_T (Classical.byContradiction hp), Bool.not_true, Bool.false_eq_true, if_false]
        · unfold dynposref32_Deliver_v2_L2
          simp only [lt_len hk, if_true, idx_gt hk, Option.bind_some, rport_eq (sh_gt hsh hk), dB_F hp, Bool.not_false, if_true]
      rw [q1]
      simp only [Bool.false_eq_true, if_false, Option.bind_some]
      by_cases hf : ∃ k, k < l.length ∧ Fgn n (gt l k)
      · rw [dB_T hf]
        exact wp_some.2 ⟨rfl, by simp, hnil⟩
      · rw [dB_F hf, q2]
        simp only [cond_false, Sum.elim_inl, Option.bind_some]
        by_cases hp : ∃ k, k < ps.length ∧ ¬ PV (gt ps k)
        · rw [dB_T hp]
          exact wp_some.2 ⟨rfl, by simp, hnil⟩
        · rw [dB_F hp]
          simp only [cond_false, Sum.elim_inl]
          by_cases h60 : l.length > 60
          · rw [dT (c := len l > 60) (by unfold len; omega)]
            exact wp_some.2 ⟨rfl, by simp, hnil⟩
          · rw [dF (c := len l > 60) (by unfold len; omega)]
            simp only [Bool.false_eq_true, if_false]
            rw [show app ([] : List Port) ps = some ps from app_sm (by simp; omega)]
            simp only [Option.bind_some]
            obtain ⟨r, r1, r2, r3, r4, r5⟩ := main_both hv hbr (l := l) (by omega) (fun k hk hh => hf ⟨k, hk, hh⟩) (ps := ps) (by omega) hsh
            have e3 : loopO (dynposref32_Deliver_v2_L3 n br l) (0, [], ps) = some r := r2
            rw [e3]
            exact wp_some.2 ⟨rfl, r4, r5⟩
    · rw [show (len ps != (M : Int)) = true from bneT (by unfold len; omega)]
      exact wp_some.2 ⟨rfl, by simp, hnil⟩
  · rw [vE_F hv]
    exact wp_some.2 ⟨rfl, by simp, hnil⟩

/-! the same -/
theorem same_refl {p : Port} (h : p.Below.length ≤ 1000) : dynposref32_Same p p = some true := by
  unfold dynposref32_Same
  have e : loopO (dynposref32_Same_L1 p p) 0 = some (.inl ()) := loop_run (fun k => (k : Int)) p.Below.length (fun k hk => by
    unfold dynposref32_Same_L1
    simp only [lt_len hk, if_true, idx_gt hk, Option.bind_some, bne_self_eq_false, Bool.false_eq_true, if_false]
    rw [W_succ (by omega)]) (by
    unfold dynposref32_Same_L1
    simp only [nlt_len, Bool.false_eq_true, if_false]) (by omega)
  simp only [bne_self_eq_false, Bool.false_eq_true, if_false, Option.bind_some]
  rw [e]
  rfl
theorem all_refl {l : List Port} (hl : l.length ≤ 1000) (hs : Sh l) : dynposref32_All l l = some true := by
  unfold dynposref32_All
  have e : loopO (dynposref32_All_L1 l l) 0 = some (.inl ()) := loop_run (fun k => (k : Int)) l.length (fun k hk => by
    unfold dynposref32_All_L1
    simp only [lt_len hk, if_true, idx_gt hk, Option.bind_some, same_refl (sh_gt hs hk), Bool.not_true, Bool.false_eq_true, if_false]
    rw [W_succ (by omega)]) (by
    unfold dynposref32_All_L1
    simp only [nlt_len, Bool.false_eq_true, if_false]) (by omega)
  simp only [bne_self_eq_false, Bool.false_eq_true, if_false]
  rw [e]
  rfl
theorem msgs_refl {l : List Message} (hl : l.length ≤ 1000) : dynposref32_Messages l l = some true := by
  unfold dynposref32_Messages
  have e : loopO (dynposref32_Messages_L1 l l) 0 = some (.inl ()) := loop_run (fun k => (k : Int)) l.length (fun k hk => by
    unfold dynposref32_Messages_L1
    simp only [lt_len hk, if_true, idx_gt hk, Option.bind_some, beq_self_eq_true, Bool.and_self, Bool.not_true, Bool.false_eq_true, if_false]
    rw [W_succ (by omega)]) (by
    unfold dynposref32_Messages_L1
    simp only [nlt_len, Bool.false_eq_true, if_false]) (by omega)
  simp only [bne_self_eq_false, Bool.false_eq_true, if_false]
  rw [e]
  rfl

/-! drawn messages and ports -/
theorem wpPick9 {l : List Int} {a : Int} (hs : Sr l a) : Wp (Src_Pick_v1 ⟨l, a⟩ [1, 2, 3, 5, 31, 32, 33, 40, 70]) fun r => Sr r.2.1 r.2.2.1 := by
  unfold Src_Pick_v1
  refine (wpN hs (n := len [(1 : Int), 2, 3, 5, 31, 32, 33, 40, 70]) (by simp [len]) (by simp [len])).bind fun y hy => ?_
  obtain ⟨y, l', a'⟩ := y
  obtain ⟨⟨h0, h1⟩, h2⟩ := hy
  simp only [len, List.length_cons, List.length_nil] at h0 h1 h2
  simp only
  rw [idx_gtZ h0 (by simp; omega)]
  exact wp_some.2 h2
theorem wpMsgs {f : Int × List Message × List Int × Int → Option ((Int × List Message × List Int × Int) ⊕ (List Message × List Int × Int))} {sl : List Int} {sa : Int} {K : Nat} (hK : K ≤ 100) (hs : Sr sl sa)
    (next : ∀ (k : Nat) (g : List Message) (l : List Int) (a : Int), 0 < k → k ≤ 100 → g.length ≤ 100 → Sr l a → Wp (f ((k : Int), g, l, a)) fun x => ∃ g' l' a', x = .inl (((k - 1 : Nat) : Int), g', l', a') ∧ g'.length = g.length + 1 ∧ Sr l' a')
    (stop : ∀ (g : List Message) (l : List Int) (a : Int), f (0, g, l, a) = some (.inr (g, l, a))) : Wp (loopO f ((K : Int), [], sl, sa)) fun r => r.1.length ≤ 100 ∧ Sr r.2.1 r.2.2 := by
  refine wp_upto K (fun k s => s.1 = ((K - k : Nat) : Int) ∧ s.2.1.length ≤ k ∧ Sr s.2.2.1 s.2.2.2) ⟨rfl, Nat.le_refl _, hs⟩ (fun k s hk hv => ?_) (fun s hv => ?_) (by omega)
  · obtain ⟨z, g, l, a⟩ := s
    simp only at hv
    obtain ⟨rfl, v1, v2⟩ := hv
    refine (next (K - k) g l a (by omega) (by omega) (by omega) v2).mono fun x hx => ?_
    obtain ⟨g', l', a', rfl, h1, h2⟩ := hx
    exact ⟨by simp only; omega, by simp only; omega, h2⟩
  · obtain ⟨z, g, l, a⟩ := s
    simp only at hv
    obtain ⟨rfl, v1, v2⟩ := hv
    rw [Nat.sub_self, show ((0 : Nat) : Int) = 0 from rfl, stop]
    exact wp_some.2 ⟨by simp only; omega, v2⟩
theorem wpMessages {sl : List Int} {sa : Int} (hs : Sr sl sa) {n : Net} (h0 : 1 ≤ n.Nodes) (h1 : n.Nodes ≤ 8) : Wp (Src_Messages ⟨sl, sa⟩ n 6) fun r => Sr r.1 r.2.1 ∧ r.2.2.length ≤ 100 := by
  unfold Src_Messages
  have e7 : W (6 + 1) = 7 := W_sm (by omega) (by omega)
  rw [e7]
  refine (wpN hs (n := 7) (by omega) (by omega)).bind fun x hx => ?_
  obtain ⟨K, l, a⟩ := x
  simp only at hx ⊢
  obtain ⟨⟨k0, k1⟩, hsr⟩ := hx
  obtain ⟨K, rfl⟩ : ∃ k : Nat, K = k := ⟨K.toNat, by omega⟩
  refine (wpMsgs (f := Src_Messages_L1 n) (K := K) (by omega) hsr (fun k g l a k0 k1 hg hs => ?_) (fun g l a => ?_)).bind fun r hr => wp_some.2 ⟨hr.2, hr.1⟩
  · unfold Src_Messages_L1
    simp only [dT (c := (k : Int) > 0) (by omega), if_true]
    refine (wpN hs (n := n.Nodes) h0 (by omega)).bind fun x hx => ?_
    refine (wpN hx.2 (n := n.Nodes) h0 (by omega)).bind fun y hy => ?_
    refine (wpPick9 hy.2).bind fun z hz => ?_
    refine (wpN hz (n := 9) (by omega) (by omega)).bind fun u hu => ?_
    rw [app_sm (by simp; omega)]
    simp only [Option.bind_some]
    rw [W_pred (k := k) (by omega) k0]
    exact wp_some.2 ⟨_, _, _, rfl, by simp, hu.2⟩
  · unfold Src_Messages_L1
    simp only [dF (c := (0 : Int) > 0) (by omega), Bool.false_eq_true, if_false]
theorem wpMessages1 {sl : List Int} {sa : Int} (hs : Sr sl sa) {n : Net} (h0 : 1 ≤ n.Nodes) (h1 : n.Nodes ≤ 8) : Wp (Src_Messages_v1 ⟨sl, sa⟩ n 6) fun r => Sr r.1 r.2.1 ∧ r.2.2.1 = n.Cables ∧ r.2.2.2.length ≤ 100 := by
  unfold Src_Messages_v1
  have e7 : W (6 + 1) = 7 := W_sm (by omega) (by omega)
  rw [e7]
  refine (wpN hs (n := 7) (by omega) (by omega)).bind fun x hx => ?_
  obtain ⟨K, l, a⟩ := x
  simp only at hx ⊢
  obtain ⟨⟨k0, k1⟩, hsr⟩ := hx
  obtain ⟨K, rfl⟩ : ∃ k : Nat, K = k := ⟨K.toNat, by omega⟩
  refine (wpMsgs (f := Src_Messages_v1_L1 n) (K := K) (by omega) hsr (fun k g l a k0 k1 hg hs => ?_) (fun g l a => ?_)).bind fun r hr => wp_some.2 ⟨hr.2, rfl, hr.1⟩
  · unfold Src_Messages_v1_L1
    simp only [dT (c := (k : Int) > 0) (by omega), if_true]
    refine (wpN hs (n := n.Nodes) h0 (by omega)).bind fun x hx => ?_
    refine (wpN hx.2 (n := n.Nodes) h0 (by omega)).bind fun y hy => ?_
    refine (wpPick9 hy.2).bind fun z hz => ?_
    refine (wpN hz (n := 9) (by omega) (by omega)).bind fun u hu => ?_
    rw [app_sm (by simp; omega)]
    simp only [Option.bind_some]
    rw [W_pred (k := k) (by omega) k0]
    exact wp_some.2 ⟨_, _, _, rfl, by simp, hu.2⟩
  · unfold Src_Messages_v1_L1
    simp only [dF (c := (0 : Int) > 0) (by omega), Bool.false_eq_true, if_false]
theorem wpPorts1 {sl : List Int} {sa : Int} (hs : Sr sl sa) {n : Net} (h0 : 1 ≤ n.Nodes) (h1 : n.Nodes ≤ 8) : Wp (Src_Ports_v1 ⟨sl, sa⟩ n) fun r => Sr r.1 r.2.1 ∧ r.2.2.1 = n.Cables ∧ r.2.2.2.length ≤ 64 ∧ Sh r.2.2.2 := by
  unfold Src_Ports_v1
  obtain ⟨M, hM, hP, _⟩ := ports_ok n
  rw [hP]
  simp only [Option.bind_some]
  refine (wpMessages1 hs h0 h1).bind fun x hx => ?_
  obtain ⟨l, a, cs, ms⟩ := x
  simp only at hx ⊢
  obtain ⟨x1, rfl, x3⟩ := hx
  refine (deliver_v2 (n := Net.mk n.Nodes n.Cables) (br := []) (by simp) (ps := List.replicate M (Port.mk 0 [])) (by simp; omega) (fun p hp => by rw [(List.mem_replicate.1 hp).2]; simp) (l := ms) (by omega)).bind fun y hy => ?_
  exact wp_some.2 ⟨x1, hy.1, hy.2.1, hy.2.2⟩
end Rx
end Go.Proofs.Ytmgflnbgkpcbdaa
