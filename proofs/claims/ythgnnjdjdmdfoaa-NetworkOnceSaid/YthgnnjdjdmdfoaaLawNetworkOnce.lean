/- NetworkOnce: no message is accepted twice by its receiver, whatever is broken. Plain law. -/
import Derived.Test.YthgnnjdjdmdfoaaNt4
set_option linter.unusedVariables false
set_option linter.unusedSimpArgs false
namespace Go.Proofs.Ythgnnjdjdmdfoaa
open Go Go.RowKit Dp
namespace Rx

/-- a message between nodes of a net -/
structure Mr (N : Int) (m : Message) : Prop where
  f0 : 0 ≤ m.From
  f1 : m.From < N
  t0 : 0 ≤ m.To
  t1 : m.To < N
  n0 : 1 ≤ m.Number
  n1 : m.Number ≤ 70
theorem msg_ok2 {n : Net} (h : Vn n) {l : List Message} (hl : l.length ≤ 1000) (hm : ∀ m ∈ l, Mr n.Nodes m) : slices_ContainsFunc_Message_Message l n = some false := by
  have e := loop_run (step := slices_IndexFunc_Message_Message_L1 l n) (r := .inl ()) (fun k => (k : Int)) l.length (fun k hk => by
    have r := hm _ (gt_mem hk)
    have r1 := r.f0; have r2 := r.f1; have r3 := r.t0; have r4 := r.t1
    unfold slices_IndexFunc_Message_Message_L1 network_Deliver_1
    simp only [lt_len hk, if_true, idx_gt hk, Option.bind_some]
    rw [right_eq h (by omega) (by omega) (by simp), dB_F (fun ⟨x, hx, hh⟩ => by
      simp only [List.mem_cons, List.not_mem_nil, or_false] at hx
      rcases hx with rfl | rfl <;> omega)]
    simp only [Option.bind_some, Bool.not_false, Bool.not_true, Bool.false_eq_true, if_false]
    rw [W_succ (by omega)]) (by
    unfold slices_IndexFunc_Message_Message_L1
    simp only [nlt_len, Bool.false_eq_true, if_false])
  simp only [show ((0 : Nat) : Int) = 0 from rfl] at e
  unfold slices_ContainsFunc_Message_Message slices_IndexFunc_Message_Message
  rw [e]
  rfl
/-- the place of a message's port -/
def pl (N : Int) (m : Message) : Nat := (m.To * N + m.From).toNat
theorem sq_ok {N : Int} (h0 : 1 ≤ N) (h1 : N ≤ 5) : ∃ M : Nat, N * N = (M : Int) ∧ M ≤ 25 := by
  have hc : N = 1 ∨ N = 2 ∨ N = 3 ∨ N = 4 ∨ N = 5 := by omega
  rcases hc with e | e | e | e | e <;> rw [e]
  · exact ⟨1, rfl, by omega⟩
  · exact ⟨4, rfl, by omega⟩
  · exact ⟨9, rfl, by omega⟩
  · exact ⟨16, rfl, by omega⟩
  · exact ⟨25, rfl, by omega⟩
theorem pl_ok {N : Int} (h0 : 1 ≤ N) (h1 : N ≤ 5) {M : Nat} (hM : N * N = (M : Int)) {m : Message} (hm : Mr N m) : pl N m < M ∧ W (W (m.To * N) + m.From) = ((pl N m : Nat) : Int) := by
  have f0 := hm.f0; have f1 := hm.f1; have t0 := hm.t0; have t1 := hm.t1
  have key : 0 ≤ m.To * N ∧ m.To * N ≤ 1000 ∧ m.To * N + m.From < M := by
    have hc : N = 1 ∨ N = 2 ∨ N = 3 ∨ N = 4 ∨ N = 5 := by omega
    rcases hc with e | e | e | e | e <;> rw [e] at hM f1 t1 ⊢ <;> omega
  obtain ⟨k1, k2, k3⟩ := key
  unfold pl
  rw [W_sm (x := m.To * N) (by omega) (by omega), W_sm (by omega) (by omega)]
  omega
/-- the same sender, receiver and number -/
def Sk (a b : Message) : Prop := a.From = b.From ∧ a.To = b.To ∧ a.Number = b.Number
/-- what is delivered so far, and the ports, from the ports p0 on -/
structure Dl (N : Int) (M : Nat) (p0 : List Port) (g : List Message) (d : List Port) : Prop where
  len : d.length = M
  pv : ∀ p ∈ d, Pv p
  up : ∀ q, q < M → ∀ x, 1 ≤ x → Na (gt p0 q) x → Na (gt d q) x
  got : ∀ m ∈ g, Mr N m ∧ ¬ Na (gt p0 (pl N m)) m.Number ∧ Na (gt d (pl N m)) m.Number
  apart : g.Pairwise fun a b => ¬ Sk a b
theorem Dl.add {N : Int} {M : Nat} {p0 d : List Port} {g : List Message} (h : Dl N M p0 g d) {m : Message} (hm : Mr N m) (hq : pl N m < M) (hna : ¬ Na (gt d (pl N m)) m.Number) {p' : Port} (hp : Pv p') (hn : ∀ x, 1 ≤ x → (x = m.Number ∨ Na (gt d (pl N m)) x → Na p' x)) : Dl N M p0 (g ++ [m]) (d.set (pl N m) p') := by
  have hl := h.len
  have hup : ∀ q, q < M → ∀ x, 1 ≤ x → Na (gt d q) x → Na (gt (d.set (pl N m) p') q) x := fun q hqM x hx hN => by
    rw [gt_set (by omega)]
    by_cases e : q = pl N m
    · rw [if_pos e]
      subst e
      exact hn x hx (.inr hN)
    · rw [if_neg e]
      exact hN
  refine ⟨by simpa using hl, fun p hpm => ?_, fun q hqM x hx hN => hup q hqM x hx (h.up q hqM x hx hN), fun m' hm' => ?_, ?_⟩
  · rcases List.mem_or_eq_of_mem_set hpm with g1 | g1
    · exact h.pv p g1
    · rw [g1]; exact hp
  · rcases List.mem_append.1 hm' with g1 | g1
    · obtain ⟨a1, a2, a3⟩ := h.got m' g1
      refine ⟨a1, a2, ?_⟩
      by_cases hlt : pl N m' < M
      · exact hup _ hlt _ a1.n0 a3
      · rw [show gt (d.set (pl N m) p') (pl N m') = gt d (pl N m') by
          unfold gt
          unfold List.getD
          rw [List.getElem?_eq_none (by simp; omega), List.getElem?_eq_none (by omega)]]
        exact a3
    · have : m' = m := by simpa using g1
      subst this
      refine ⟨hm, fun hN => hna (h.up _ hq _ hm.n0 hN), ?_⟩
      rw [gt_set (by omega), if_pos rfl]
      exact hn _ hm.n0 (.inl rfl)
  · rw [List.pairwise_append]
    refine ⟨h.apart, by simp, fun a ha b hb hs => ?_⟩
    have : b = m := by simpa using hb
    subst this
    obtain ⟨_, _, a3⟩ := h.got a ha
    apply hna
    obtain ⟨s1, s2, s3⟩ := hs
    rw [← s3, show pl N b = pl N a by unfold pl; rw [s1, s2]]
    exact a3
theorem once_L3 {n : Net} (hn : Vn n) {M : Nat} (hM : n.Nodes * n.Nodes = (M : Int)) {m : Message} (hm : Mr n.Nodes m) {p0 d : List Port} {g : List Message} (h : Dl n.Nodes M p0 g d) {K : Nat} (hK : K ≤ 2) (hg : g.length ≤ 1000) :
    Wp (loopO (network_Deliver_L3 n m (K : Int)) (0, g, d)) fun r => Dl n.Nodes M p0 r.1 r.2 ∧ r.1.length ≤ g.length + 2 := by
  obtain ⟨hq, hat⟩ := pl_ok hn.n0 hn.n1 hM hm
  have m0 := hm.n0; have m1 := hm.n1
  refine wp_upto K (fun c s => s.1 = (c : Int) ∧ Dl n.Nodes M p0 s.2.1 s.2.2 ∧ s.2.1.length ≤ g.length + c) ⟨rfl, h, Nat.le_refl _⟩ (fun c s hc hv => ?_) (fun s hv => ?_) (by omega)
  · obtain ⟨z, gg, dd⟩ := s
    simp only at hv
    obtain ⟨rfl, v1, v2⟩ := hv
    have hdl := v1.len
    have hpv := v1.pv _ (gt_mem (show pl n.Nodes m < dd.length by omega))
    unfold network_Deliver_L3
    simp only [dT (c := (c : Int) < (K : Int)) (by omega), if_true, hat, idx_gt (show pl n.Nodes m < dd.length by omega), Option.bind_some]
    by_cases hna : Na (gt dd (pl n.Nodes m)) m.Number
    · rw [accept_no hpv m0 (by omega) hna]
      simp only [Option.bind_some, Bool.false_eq_true, if_false]
      rw [W_succ (by omega)]
      exact wp_some.2 ⟨rfl, v1, by simp only; omega⟩
    · obtain ⟨B, hB, hPB, hNa⟩ := accept_yes hpv m0 (by omega) hna
      rw [hB]
      simp only [Option.bind_some, if_true]
      rw [setO_nat (by omega)]
      simp only [Option.bind_some]
      rw [app_sm (by simp; omega)]
      simp only [Option.bind_some]
      rw [W_succ (by omega)]
      refine wp_some.2 ⟨rfl, v1.add hm hq hna hPB (fun x hx hh => (hNa x hx).2 ?_), by simp; omega⟩
      rcases hh with g1 | g1
      · exact .inl g1
      · exact .inr (.inl g1)
  · obtain ⟨z, gg, dd⟩ := s
    simp only at hv
    obtain ⟨rfl, v1, v2⟩ := hv
    unfold network_Deliver_L3
    simp only [dF (c := (K : Int) < (K : Int)) (by omega), Bool.false_eq_true, if_false]
    exact wp_some.2 ⟨v1, by simp only; omega⟩
theorem once_Deliver {n : Net} (hn : Vn n) {br : List Part} (hbr : br.length ≤ 1000) {M : Nat} (hM : n.Nodes * n.Nodes = (M : Int)) (hM25 : M ≤ 25) {p0 : List Port} (hp0 : p0.length = M) (hpv : ∀ p ∈ p0, Pv p) {l : List Message} (hl : l.length ≤ 60) (hm : ∀ m ∈ l, Mr n.Nodes m) :
    Wp (network_Deliver n br p0 l) fun r => r.1 = 0 ∧ Dl n.Nodes M p0 r.2.2 r.2.1 ∧ r.2.2.length ≤ 200 := by
  unfold network_Deliver
  rw [hM]
  simp only [ncheck_ok hn, Option.bind_some, bne_self_eq_false, Bool.false_eq_true, if_false, W_sm (x := (M : Int)) (by omega) (by omega), show (len p0 != (M : Int)) = false from bneF (by unfold len; omega), msg_ok2 hn (show l.length ≤ 1000 by omega) hm, prt_ok (l := p0) (by omega) hpv, dF (c := len l > 60) (by unfold len; omega), copies_ports (l := p0) (by omega) hpv]
  have hloop : Wp (loopO (network_Deliver_L2 n br l) (0, [], p0)) fun r => Dl n.Nodes M p0 r.1 r.2 ∧ r.1.length ≤ 200 := by
    refine wp_upto l.length (fun i s => s.1 = (i : Int) ∧ Dl n.Nodes M p0 s.2.1 s.2.2 ∧ s.2.1.length ≤ 2 * i) ⟨rfl, ⟨hp0, hpv, fun _ _ _ _ h => h, fun m hm => (by cases hm), by simp⟩, by simp⟩ (fun i s hi hv => ?_) (fun s hv => ?_) (by omega)
    · obtain ⟨z, g, d⟩ := s
      simp only at hv
      obtain ⟨rfl, v1, v2⟩ := hv
      have r := hm _ (gt_mem hi)
      obtain ⟨K, hK, hC⟩ : ∃ K : Nat, K ≤ 2 ∧ network_Copies n br (gt l i).From (gt l i).To = some (K : Int) := by
        rw [copies_eq hn hbr r.f0 r.f1 r.t0 r.t1]
        by_cases h0 : dB (Joined (Ed n br 0) (gt l i).From (gt l i).To) = true <;> by_cases h1 : dB (Joined (Ed n br 1) (gt l i).From (gt l i).To) = true
        · exact ⟨2, by omega, by rw [if_pos h0, if_pos h1]; rfl⟩
        · exact ⟨1, by omega, by rw [if_pos h0, if_neg h1]; rfl⟩
        · exact ⟨1, by omega, by rw [if_neg h0, if_pos h1]; rfl⟩
        · exact ⟨0, by omega, by rw [if_neg h0, if_neg h1]; rfl⟩
      unfold network_Deliver_L2
      simp only [lt_len hi, if_true, idx_gt hi, Option.bind_some, hC]
      refine (once_L3 hn hM r v1 hK (by omega)).bind fun x hx => ?_
      rw [W_succ (by omega)]
      exact wp_some.2 ⟨rfl, hx.1, by have := hx.2; simp only; omega⟩
    · obtain ⟨z, g, d⟩ := s
      simp only at hv
      obtain ⟨rfl, v1, v2⟩ := hv
      unfold network_Deliver_L2
      simp only [nlt_len, Bool.false_eq_true, if_false]
      exact wp_some.2 ⟨v1, by simp only; omega⟩
  refine hloop.bind fun r hr => wp_some.2 ⟨rfl, hr.1, hr.2⟩
theorem wpPick9 {l : List Int} {a : Int} (hs : Sr l a) : Wp (Src_Pick ⟨l, a⟩ [1, 2, 3, 5, 31, 32, 33, 40, 70]) fun r => (1 ≤ r.1 ∧ r.1 ≤ 70) ∧ Sr r.2.1 r.2.2.1 := by
  unfold Src_Pick
  refine (wpN hs (n := len [(1 : Int), 2, 3, 5, 31, 32, 33, 40, 70]) (by simp [len]) (by simp [len])).bind fun y hy => ?_
  obtain ⟨y, l', a'⟩ := y
  simp only at hy ⊢
  have hy4 : y < 9 := by have := hy.1.2; simp [len] at this; exact this
  have hc : y = 0 ∨ y = 1 ∨ y = 2 ∨ y = 3 ∨ y = 4 ∨ y = 5 ∨ y = 6 ∨ y = 7 ∨ y = 8 := by have := hy.1.1; omega
  rcases hc with rfl | rfl | rfl | rfl | rfl | rfl | rfl | rfl | rfl <;> exact wp_some.2 ⟨⟨by simp, by simp⟩, hy.2⟩
theorem wpMessages {sl : List Int} {sa : Int} (hs : Sr sl sa) {n : Net} (hn : Vn n) : Wp (Src_Messages ⟨sl, sa⟩ n 6) fun r => Sr r.1 r.2.1 ∧ r.2.2.1 = n.Cables ∧ r.2.2.2.length ≤ 6 ∧ ∀ m ∈ r.2.2.2, Mr n.Nodes m := by
  have hn0 := hn.n0
  have hn1 := hn.n1
  unfold Src_Messages
  rw [W_sm (x := (6 : Int) + 1) (by omega) (by omega)]
  refine (wpN hs (n := 6 + 1) (by omega) (by omega)).bind fun x hx => ?_
  obtain ⟨k, l1, a1⟩ := x
  simp only at hx ⊢
  obtain ⟨⟨k0, k1⟩, hs1⟩ := hx
  have hloop : Wp (loopO (Src_Messages_L1 n) (k, [], l1, a1)) fun r => Sr r.2.1 r.2.2 ∧ r.1.length ≤ 6 ∧ ∀ m ∈ r.1, Mr n.Nodes m := by
    refine wp_while (fun s => s.1.toNat) (fun s => 0 ≤ s.1 ∧ (s.2.1.length : Int) + s.1 ≤ 6 ∧ (∀ m ∈ s.2.1, Mr n.Nodes m) ∧ Sr s.2.2.1 s.2.2.2) (fun s hv => ?_) ⟨k0, by simp; omega, fun m hm => (by cases hm), hs1⟩ (by simp only; omega)
    obtain ⟨kk, l, sl, sa⟩ := s
    simp only at hv
    obtain ⟨v1, v2, v3, v4⟩ := hv
    unfold Src_Messages_L1
    simp only
    refine Wp.ite (fun h => ?_) (fun _ => ?_)
    · have h := of_decide_eq_true h
      refine (wpN v4 (n := n.Nodes) (by omega) (by omega)).bind fun x3 hx3 => ?_
      obtain ⟨f, l3, a3⟩ := x3
      simp only at hx3 ⊢
      refine (wpN hx3.2 (n := n.Nodes) (by omega) (by omega)).bind fun x4 hx4 => ?_
      obtain ⟨t, l4, a4⟩ := x4
      simp only at hx4 ⊢
      refine (wpPick9 hx4.2).bind fun x5 hx5 => ?_
      obtain ⟨num, l5, a5, w⟩ := x5
      simp only at hx5 ⊢
      refine (wpN hx5.2 (n := 9) (by omega) (by omega)).bind fun x6 hx6 => ?_
      obtain ⟨v, l6, a6⟩ := x6
      simp only at hx6 ⊢
      rw [app_sm (by simp; omega)]
      simp only [Option.bind_some]
      rw [W_sm (x := kk - 1) (by omega) (by omega)]
      refine wp_some.2 ⟨⟨by simp only; omega, by simp; omega, fun m hm => ?_, hx6.2⟩, by simp only; omega⟩
      simp only at hm
      rcases List.mem_append.1 hm with hm | hm
      · exact v3 m hm
      · have : m = Message.mk f t num v := by simpa using hm
        subst this
        exact ⟨hx3.1.1, hx3.1.2, hx4.1.1, hx4.1.2, hx5.1.1, hx5.1.2⟩
    · exact wp_some.2 ⟨v4, by simp only; omega, v3⟩
  exact hloop.bind fun r hr => wp_some.2 ⟨hr.1, rfl, hr.2.1, hr.2.2⟩
/-- whether a message was seen -/
def mgM (xs : List (Int × Int × Int × Bool)) (m : Message) : Bool := mget (fun x => x.1 == m.From && (x.2.1 == m.To && x.2.2.1 == m.Number)) (fun x => x.2.2.2) false xs
theorem mgM_put (xs : List (Int × Int × Int × Bool)) (m j : Message) : mgM (mput (fun x => x.1 == m.From && (x.2.1 == m.To && x.2.2.1 == m.Number)) (m.From, m.To, m.Number, true) xs) j = true ↔ Sk m j ∨ mgM xs j = true := by
  have h := mget_put (fun x : Int × Int × Int × Bool => (x.1, x.2.1, x.2.2.1)) (fun x => x.2.2.2) (z0 := false) (k := (m.From, m.To, m.Number)) (j := (j.From, j.To, j.Number)) (z := (m.From, m.To, m.Number, true)) rfl
    (f := fun x => x.1 == m.From && (x.2.1 == m.To && x.2.2.1 == m.Number)) (g := fun x => x.1 == j.From && (x.2.1 == j.To && x.2.2.1 == j.Number)) (fun x => by simp) (fun x => by simp) xs
  unfold mgM
  by_cases hs : Sk m j
  · obtain ⟨s1, s2, s3⟩ := hs
    rw [h.1 (by rw [s1, s2, s3])]
    simp [Sk, s1, s2, s3]
  · rw [h.2 (fun e => hs (by
      simp only [Prod.mk.injEq] at e
      exact ⟨e.1.symm, e.2.1.symm, e.2.2.symm⟩))]
    simp [hs]
theorem law_NetworkOnce (t : List Int) : dynposlaw32_NetworkOnce t = some true := by
  refine Wp.true' ?_
  unfold dynposlaw32_NetworkOnce
  simp only [sane_T, Option.bind_some]
  refine Wp.ite (fun _ => wp_some.2 rfl) fun _ => ?_
  refine (wpNew t).bind fun s hs => ?_
  refine (wpNet hs).bind fun x2 hx2 => ?_
  obtain ⟨nn, l2, a2, cs⟩ := x2
  simp only at hx2 ⊢
  obtain ⟨hv, hs2⟩ := hx2
  have hcl := hv.len
  have hn1 := hv.n1
  have hn0 := hv.n0
  simp only at hcl hn1 hn0
  obtain ⟨M, hM, hM25⟩ := sq_ok hn0 hn1
  have hports : network_Ports ⟨nn, cs⟩ = some (List.replicate M (Port.mk 0 [])) := by
    unfold network_Ports
    simp only [ncheck_ok hv, Option.bind_some, bne_self_eq_false, Bool.false_eq_true, if_false]
    rw [hM, W_sm (by omega) (by omega), mkZ_nat (by omega)]
    rfl
  rw [hports]
  simp only [Option.bind_some]
  have hloop : Wp (loopO (dynposlaw32_NetworkOnce_L1 (nn, l2, a2, cs)) (0, List.replicate M (Port.mk 0 []), l2, a2, cs, [])) fun r => ∃ y, r = .inl y := by
    refine wp_upto 6 (fun i s => s.1 = (i : Int) ∧ s.2.1.length = M ∧ (∀ p ∈ s.2.1, Pv p) ∧ Sr s.2.2.1 s.2.2.2.1 ∧ s.2.2.2.2.1 = cs ∧ ∀ m, Mr nn m → mgM s.2.2.2.2.2 m = true → Na (gt s.2.1 (pl nn m)) m.Number) ⟨rfl, by simp, fun p hp => by rw [(List.mem_replicate.1 hp).2]; exact pv_zero, hs2, rfl, fun m _ hm => by cases hm⟩ (fun i s hi hvv => ?_) (fun s hvv => ?_) (by omega)
    · obtain ⟨z, p, sl, sa, cc, sn⟩ := s
      simp only at hvv
      obtain ⟨rfl, v1, v2, v3, rfl, v5⟩ := hvv
      unfold dynposlaw32_NetworkOnce_L1
      simp only [dT (c := (i : Int) < 6) (by omega), if_true]
      refine (wpCables v3 (n := ⟨nn, cc⟩) hcl).bind fun x5 hx5 => ?_
      obtain ⟨l5, a5, c5, br⟩ := x5
      simp only at hx5 ⊢
      obtain ⟨hs5, rfl, hbr⟩ := hx5
      refine (wpMessages hs5 hv).bind fun x6 hx6 => ?_
      obtain ⟨l6, a6, c6, ms⟩ := x6
      simp only at hx6 ⊢
      obtain ⟨hs6, rfl, hml, hmm⟩ := hx6
      refine (once_Deliver hv (show br.length ≤ 1000 by omega) hM hM25 v1 v2 (show ms.length ≤ 60 by omega) hmm).bind fun x7 hx7 => ?_
      obtain ⟨e, q, got⟩ := x7
      simp only at hx7 ⊢
      obtain ⟨rfl, hd, hgl⟩ := hx7
      simp only [bne_self_eq_false, Bool.false_eq_true, if_false]
      have hL2 : Wp (loopO (dynposlaw32_NetworkOnce_L2 (0, q, got)) (0, sn)) fun r => ∃ sn', r = .inl sn' ∧ ∀ m, mgM sn' m = true → mgM sn m = true ∨ ∃ j, j < got.length ∧ Sk (gt got j) m := by
        refine wp_upto got.length (fun i s => s.1 = (i : Int) ∧ ∀ m, mgM s.2 m = true → mgM sn m = true ∨ ∃ j, j < i ∧ Sk (gt got j) m) ⟨rfl, fun m hm => .inl hm⟩ (fun i s hi hv' => ?_) (fun s hv' => ?_) (by omega)
        · obtain ⟨z, s'⟩ := s
          simp only at hv'
          obtain ⟨rfl, k1⟩ := hv'
          obtain ⟨g1, g2, g3⟩ := hd.got _ (gt_mem hi)
          unfold dynposlaw32_NetworkOnce_L2
          simp only [lt_len hi, if_true, idx_gt hi, Option.bind_some]
          have hno : mgM s' (gt got i) = false := by
            cases hb : mgM s' (gt got i) with
            | false => rfl
            | true =>
              rcases k1 _ hb with h1 | ⟨j, hj, h1⟩
              · exact (g2 (v5 _ g1 h1)).elim
              · have := List.pairwise_iff_getElem.1 hd.apart j i (by omega) hi hj
                rw [← gt_get (by omega), ← gt_get hi] at this
                exact (this h1).elim
          rw [show mget (fun x11 : Int × Int × Int × Bool => x11.1 == (gt got i).From && (x11.2.1 == (gt got i).To && x11.2.2.1 == (gt got i).Number)) (fun x12 => x12.2.2.2) false s' = false from hno]
          simp only [Bool.false_eq_true, if_false]
          rw [W_succ (by omega)]
          refine wp_some.2 ⟨rfl, fun m hm => ?_⟩
          simp only at hm
          rcases (mgM_put s' (gt got i) m).1 hm with h1 | h1
          · exact .inr ⟨i, by omega, h1⟩
          · rcases k1 m h1 with h2 | ⟨j, hj, h2⟩
            · exact .inl h2
            · exact .inr ⟨j, by omega, h2⟩
        · obtain ⟨z, s'⟩ := s
          simp only at hv'
          obtain ⟨rfl, k1⟩ := hv'
          unfold dynposlaw32_NetworkOnce_L2
          simp only [nlt_len, Bool.false_eq_true, if_false]
          exact wp_some.2 ⟨_, rfl, k1⟩
      refine hL2.bind fun r hr => ?_
      obtain ⟨sn', rfl, hsn⟩ := hr
      simp only [Sum.elim_inl]
      rw [W_succ (by omega)]
      refine wp_some.2 ⟨rfl, hd.len, hd.pv, hs6, rfl, fun m hm hmg => ?_⟩
      simp only at hmg ⊢
      rcases hsn m hmg with h1 | ⟨j, hj, s1, s2, s3⟩
      · exact hd.up _ (pl_ok hn0 hn1 hM hm).1 _ hm.n0 (v5 m hm h1)
      · have := (hd.got _ (gt_mem hj)).2.2
        rw [← s3, show pl nn m = pl nn (gt got j) by unfold pl; rw [s1, s2]]
        exact this
    · obtain ⟨z, p, sl, sa, cc, sn⟩ := s
      simp only at hvv
      obtain ⟨rfl, _⟩ := hvv
      unfold dynposlaw32_NetworkOnce_L1
      simp only [dF (c := ((6 : Nat) : Int) < 6) (by omega), Bool.false_eq_true, if_false]
      exact wp_some.2 ⟨_, rfl⟩
  refine hloop.bind fun r hr => ?_
  obtain ⟨y, rfl⟩ := hr
  exact wp_some.2 rfl
end Rx
end Go.Proofs.Ythgnnjdjdmdfoaa
