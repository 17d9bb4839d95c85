/- NetworkArrives: what is sent with ascending numbers arrives, all of it and in order, while a net connects. Plain law. -/
import Derived.Test.YthgnnjdjdmdfoaaNt3
set_option linter.unusedVariables false
set_option linter.unusedSimpArgs false
namespace Go.Proofs.Ythgnnjdjdmdfoaa
open Go Go.RowKit Dp
namespace Rx

/-- ascending messages of one node to another -/
structure Ms (a b top : Int) (l : List Message) : Prop where
  len : l.length ≤ 12
  all : ∀ m ∈ l, m.From = a ∧ m.To = b ∧ 1 ≤ m.Number ∧ m.Number ≤ top
  srt : ∀ k, 0 < k → k < l.length → (gt l (k - 1)).Number < (gt l k).Number
theorem msg_ok {n : Net} (h : Vn n) {a b top : Int} {l : List Message} (hm : Ms a b top l) (a0 : 0 ≤ a) (a1 : a < n.Nodes) (b0 : 0 ≤ b) (b1 : b < n.Nodes) : slices_ContainsFunc_Message_Message l n = some false := by
  have hl := hm.len
  have e := loop_run (step := slices_IndexFunc_Message_Message_L1 l n) (r := .inl ()) (fun k => (k : Int)) l.length (fun k hk => by
    obtain ⟨r1, r2, _⟩ := hm.all _ (gt_mem hk)
    unfold slices_IndexFunc_Message_Message_L1 network_Deliver_1
    simp only [lt_len hk, if_true, idx_gt hk, Option.bind_some]
    rw [right_eq h (by omega) (by omega) (by simp), dB_F (fun ⟨x, hx, hh⟩ => by
      simp only [List.mem_cons, List.not_mem_nil, or_false] at hx
      rcases hx with rfl | rfl <;> omega)]
    simp only [Option.bind_some, Bool.not_false, Bool.not_true, Bool.false_eq_true, if_false]
    rw [W_succ (by omega)]) (by
    unfold slices_IndexFunc_Message_Message_L1
    simp only [nlt_len, Bool.false_eq_true, if_false])
  simp only [show ((0 : Nat) : Int) = 0 from rfl] at e
  unfold slices_ContainsFunc_Message_Message slices_IndexFunc_Message_Message
  rw [e]
  rfl
theorem prt_ok {l : List Port} (hl : l.length ≤ 1000) (h : ∀ p ∈ l, Pv p) : slices_ContainsFunc_Port_Port l = some false := by
  have e := loop_run (step := slices_IndexFunc_Port_Port_L1 l) (r := .inl ()) (fun k => (k : Int)) l.length (fun k hk => by
    unfold slices_IndexFunc_Port_Port_L1 network_Deliver_2
    simp only [lt_len hk, if_true, idx_gt hk, Option.bind_some, port_ok (h _ (gt_mem hk)), Bool.not_true, Bool.false_eq_true, if_false]
    rw [W_succ (by omega)]) (by
    unfold slices_IndexFunc_Port_Port_L1
    simp only [nlt_len, Bool.false_eq_true, if_false])
  simp only [show ((0 : Nat) : Int) = 0 from rfl] at e
  unfold slices_ContainsFunc_Port_Port slices_IndexFunc_Port_Port
  rw [e]
  rfl
theorem copies_ports {l : List Port} (hl : l.length ≤ 1000) (h : ∀ p ∈ l, Pv p) : loopO (network_Deliver_L1 l) (0, []) = some l := by
  have e := loop_run (step := network_Deliver_L1 l) (r := l) (fun k => ((k : Int), l.take k)) l.length (fun k hk => by
    unfold network_Deliver_L1
    simp only [lt_len hk, if_true, idx_gt hk, Option.bind_some, copy_ok (h _ (gt_mem hk))]
    rw [app_sm (by simp; omega)]
    simp only [Option.bind_some]
    rw [W_succ (by omega), take_gt hk]) (by
    unfold network_Deliver_L1
    simp only [nlt_len, Bool.false_eq_true, if_false, List.take_length])
  simpa using e
theorem pv_zero : Pv (Port.mk 0 []) := ⟨by simp, by simp, by simp, by simp, by simp⟩
theorem wpL3 {n : Net} {m : Message} {got : List Message} {ps : List Port} {q K : Nat} (hat : W (W (m.To * n.Nodes) + m.From) = (q : Int)) (hq : q < ps.length) (hps : ps.length ≤ 1000) (hg : got.length ≤ 1000) (hp : Pv (gt ps q)) (h1 : (gt ps q).High < m.Number) (h2 : m.Number ≤ 100000) (hK : K ≤ 1000) :
    Wp (loopO (network_Deliver_L3 n m (K : Int)) (0, got, ps)) fun r => (K = 0 → r = (got, ps)) ∧ (0 < K → ∃ p', Pv p' ∧ p'.High = m.Number ∧ r = (got ++ [m], ps.set q p')) := by
  refine wp_upto K (fun c s => s.1 = (c : Int) ∧ (c = 0 → s.2 = (got, ps)) ∧ (0 < c → ∃ p', Pv p' ∧ p'.High = m.Number ∧ s.2 = (got ++ [m], ps.set q p'))) ⟨rfl, fun _ => rfl, fun h => by omega⟩ (fun c s hc hv => ?_) (fun s hv => ?_) (by omega)
  · obtain ⟨z, g, d⟩ := s
    simp only at hv
    obtain ⟨rfl, v0, v1⟩ := hv
    unfold network_Deliver_L3
    simp only [dT (c := (c : Int) < (K : Int)) (by omega), if_true, hat]
    rcases Nat.eq_zero_or_pos c with hc0 | hc0
    · have e := v0 hc0
      cases e
      obtain ⟨B, hB, hPB⟩ := accept_up hp h1 h2
      simp only [idx_gt hq, Option.bind_some, hB, if_true, setO_nat hq]
      rw [app_sm (by simp; omega)]
      simp only [Option.bind_some]
      rw [W_succ (by omega)]
      exact wp_some.2 ⟨rfl, fun h => by omega, fun _ => ⟨⟨m.Number, B⟩, hPB, rfl, rfl⟩⟩
    · obtain ⟨p', hp1, hp2, e⟩ := v1 hc0
      cases e
      have hgt : gt (ps.set q p') q = p' := by rw [gt_set hq, if_pos rfl]
      have hacc := accept_same hp1
      rw [hp2] at hacc
      rw [idx_gt (show q < (ps.set q p').length by simpa using hq), hgt]
      simp only [Option.bind_some, hacc, Bool.false_eq_true, if_false]
      rw [W_succ (by omega)]
      exact wp_some.2 ⟨rfl, fun h => by omega, fun _ => ⟨p', hp1, hp2, rfl⟩⟩
  · obtain ⟨z, g, d⟩ := s
    simp only at hv
    obtain ⟨rfl, v0, v1⟩ := hv
    unfold network_Deliver_L3
    simp only [dF (c := (K : Int) < (K : Int)) (by omega), Bool.false_eq_true, if_false]
    exact wp_some.2 ⟨v0, v1⟩
theorem wpDeliver {n : Net} (h : Vn n) {br : List Part} (hbr : br.length ≤ 1000) {a b : Int} {l : List Message} (hm : Ms a b 100000 l) (a0 : 0 ≤ a) (a1 : a < n.Nodes) (b0 : 0 ≤ b) (b1 : b < n.Nodes) {K : Nat} (hK : K ≤ 2) (hC : network_Copies n br a b = some (K : Int)) :
    Wp (network_Deliver n br (List.replicate (n.Nodes * n.Nodes).toNat (Port.mk 0 [])) l) fun r => r.1 = 0 ∧ r.2.2 = if K = 0 then [] else l := by
  have hn1 := h.n1
  have hn0 := h.n0
  have hl := hm.len
  obtain ⟨N, hN⟩ : ∃ N : Nat, n.Nodes = N := ⟨n.Nodes.toNat, by omega⟩
  have hsq : ∃ M : Nat, n.Nodes * n.Nodes = (M : Int) ∧ M ≤ 25 ∧ b * n.Nodes + a < M ∧ 0 ≤ b * n.Nodes + a := by
    have hcase : n.Nodes = 1 ∨ n.Nodes = 2 ∨ n.Nodes = 3 ∨ n.Nodes = 4 ∨ n.Nodes = 5 := by omega
    rcases hcase with e | e | e | e | e <;> rw [e] at a1 b1 ⊢
    · exact ⟨1, rfl, by omega, by omega, by omega⟩
    · exact ⟨4, rfl, by omega, by omega, by omega⟩
    · exact ⟨9, rfl, by omega, by omega, by omega⟩
    · exact ⟨16, rfl, by omega, by omega, by omega⟩
    · exact ⟨25, rfl, by omega, by omega, by omega⟩
  obtain ⟨M, hM, hM25, hat1, hat0⟩ := hsq
  obtain ⟨q, hq⟩ : ∃ q : Nat, b * n.Nodes + a = (q : Int) := ⟨(b * n.Nodes + a).toNat, by omega⟩
  have hqM : q < M := by omega
  have hWat : W (W (b * n.Nodes) + a) = (q : Int) := by
    have hb : -1000 ≤ b * n.Nodes ∧ b * n.Nodes ≤ 1000 := by omega
    rw [W_sm (x := b * n.Nodes) (by omega) (by omega), hq, W_sm (by omega) (by omega)]
  have hall : ∀ p ∈ List.replicate M (Port.mk 0 []), Pv p := fun p hp => by
    rw [(List.mem_replicate.1 hp).2]
    exact pv_zero
  unfold network_Deliver
  rw [hM, Int.toNat_natCast]
  simp only [ncheck_ok h, Option.bind_some, bne_self_eq_false, Bool.false_eq_true, if_false, W_sm (x := (M : Int)) (by omega) (by omega), show (len (List.replicate M (Port.mk 0 [])) != (M : Int)) = false from bneF (by simp [len]), msg_ok h hm a0 a1 b0 b1, prt_ok (l := List.replicate M (Port.mk 0 [])) (by simp; omega) hall, dF (c := len l > 60) (by unfold len; omega), copies_ports (l := List.replicate M (Port.mk 0 [])) (by simp; omega) hall]
  have hloop : Wp (loopO (network_Deliver_L2 n br l) (0, [], List.replicate M (Port.mk 0 []))) fun r => r.1 = if K = 0 then [] else l := by
    refine wp_upto l.length (fun i s => s.1 = (i : Int) ∧ (s.2.1 = if K = 0 then [] else l.take i) ∧ s.2.2.length = M ∧ Pv (gt s.2.2 q) ∧ ((gt s.2.2 q).High = 0 ∨ 0 < K ∧ ∃ k, k + 1 = i ∧ (gt s.2.2 q).High = (gt l k).Number)) ⟨rfl, by split <;> simp, by simp, by rw [gt_replicate hqM]; exact pv_zero, by rw [gt_replicate hqM]; exact .inl rfl⟩ (fun i s hi hv => ?_) (fun s hv => ?_) (by omega)
    · obtain ⟨z, g, d⟩ := s
      simp only at hv
      obtain ⟨rfl, v1, v2, v3, v4⟩ := hv
      obtain ⟨m1, m2, m3, m4⟩ := hm.all _ (gt_mem hi)
      have hlt : (gt d q).High < (gt l i).Number := by
        rcases v4 with v4 | ⟨_, k, hk, v4⟩
        · omega
        · have := hm.srt i (by omega) hi
          rw [show i - 1 = k by omega] at this
          omega
      unfold network_Deliver_L2
      simp only [lt_len hi, if_true, idx_gt hi, Option.bind_some, m1, m2, hC]
      refine (wpL3 (n := n) (m := gt l i) (got := g) (ps := d) (q := q) (K := K) (by rw [m1, m2]; exact hWat) (by omega) (by omega) (by rw [v1]; split <;> simp; omega) v3 hlt m4 (by omega)).bind fun r hr => ?_
      rw [W_succ (by omega)]
      obtain ⟨r0, r1⟩ := hr
      rcases Nat.eq_zero_or_pos K with hK0 | hK0
      · rw [r0 hK0]
        refine wp_some.2 ⟨rfl, by simp only; rw [v1, if_pos hK0, if_pos hK0], v2, v3, .inl ?_⟩
        rcases v4 with v4 | ⟨hKp, _⟩
        · exact v4
        · omega
      · obtain ⟨p', hp1, hp2, e⟩ := r1 hK0
        rw [e]
        refine wp_some.2 ⟨rfl, ?_, by simp only [List.length_set]; exact v2, ?_, .inr ⟨hK0, i, rfl, ?_⟩⟩
        · simp only
          rw [v1, if_neg (by omega), if_neg (by omega), take_gt hi]
        · simp only
          rw [gt_set (by omega), if_pos rfl]
          exact hp1
        · simp only
          rw [gt_set (by omega), if_pos rfl]
          exact hp2
    · obtain ⟨z, g, d⟩ := s
      simp only at hv
      obtain ⟨rfl, v1, _⟩ := hv
      unfold network_Deliver_L2
      simp only [nlt_len, Bool.false_eq_true, if_false]
      rw [List.take_length] at v1
      exact wp_some.2 v1
  refine hloop.bind fun r hr => wp_some.2 ⟨rfl, hr⟩
theorem wpPick4 {l : List Int} {a : Int} (hs : Sr l a) : Wp (Src_Pick ⟨l, a⟩ [1, 1, 2, 50]) fun r => (1 ≤ r.1 ∧ r.1 ≤ 50) ∧ Sr r.2.1 r.2.2.1 := by
  unfold Src_Pick
  refine (wpN hs (n := len [(1 : Int), 1, 2, 50]) (by simp [len]) (by simp [len])).bind fun y hy => ?_
  obtain ⟨y, l', a'⟩ := y
  simp only at hy ⊢
  have hy4 : y < 4 := by have := hy.1.2; simp [len] at this; exact this
  have hc : y = 0 ∨ y = 1 ∨ y = 2 ∨ y = 3 := by have := hy.1.1; omega
  rcases hc with rfl | rfl | rfl | rfl
  · exact wp_some.2 ⟨⟨by simp, by simp⟩, hy.2⟩
  · exact wp_some.2 ⟨⟨by simp, by simp⟩, hy.2⟩
  · exact wp_some.2 ⟨⟨by simp, by simp⟩, hy.2⟩
  · exact wp_some.2 ⟨⟨by simp, by simp⟩, hy.2⟩
theorem msgs_self {l : List Message} (hl : l.length ≤ 1000000) : dynposref32_Messages l l = some true := by
  unfold dynposref32_Messages
  have e := loop_run (step := dynposref32_Messages_L1 l l) (r := .inl ()) (fun k => (k : Int)) l.length (fun k hk => by
    unfold dynposref32_Messages_L1
    simp only [lt_len hk, if_true, idx_gt hk, Option.bind_some, beq_self_eq_true, Bool.and_self, Bool.not_true, Bool.false_eq_true, if_false]
    rw [W_succ (by omega)]) (by
    unfold dynposref32_Messages_L1
    simp only [nlt_len, Bool.false_eq_true, if_false])
  simp only [show ((0 : Nat) : Int) = 0 from rfl] at e
  simp only [bne_self_eq_false, Bool.false_eq_true, if_false, e, Option.bind_some, Sum.elim_inl]
theorem law_NetworkArrives (t : List Int) : dynposlaw32_NetworkArrives t = some true := by
  refine Wp.true' ?_
  unfold dynposlaw32_NetworkArrives
  simp only [sane_T, Option.bind_some]
  refine Wp.ite (fun _ => wp_some.2 rfl) fun _ => ?_
  refine (wpNew t).bind fun s hs => ?_
  refine (wpNet hs).bind fun x2 hx2 => ?_
  obtain ⟨nn, l2, a2, cs⟩ := x2
  simp only at hx2 ⊢
  obtain ⟨hv, hs2⟩ := hx2
  have hcl := hv.len
  have hn1 := hv.n1
  have hn0 := hv.n0
  simp only at hcl hn1 hn0
  refine (wpCables hs2 (n := ⟨nn, cs⟩) hcl).bind fun x3 hx3 => ?_
  obtain ⟨l3, a3, cs3, br⟩ := x3
  simp only at hx3 ⊢
  obtain ⟨hs3, rfl, hbr⟩ := hx3
  refine (wpN hs3 (n := nn) (by omega) (by omega)).bind fun x4 hx4 => ?_
  obtain ⟨a, l4, a4⟩ := x4
  simp only at hx4 ⊢
  obtain ⟨⟨ha0, ha1⟩, hs4⟩ := hx4
  refine (wpN hs4 (n := nn) (by omega) (by omega)).bind fun x5 hx5 => ?_
  obtain ⟨b, l5, a5⟩ := x5
  simp only at hx5 ⊢
  obtain ⟨⟨hb0, hb1⟩, hs5⟩ := hx5
  refine (wpN hs5 (n := 12) (by omega) (by omega)).bind fun x6 hx6 => ?_
  obtain ⟨k, l6, a6⟩ := x6
  simp only at hx6 ⊢
  obtain ⟨⟨hk0, hk1⟩, hs6⟩ := hx6
  have hloop : Wp (loopO (dynposlaw32_NetworkArrives_L1 (a, l4, a4) (b, l5, a5)) (0, k, [], l6, a6)) fun r => Ms a b 100000 r.1 := by
    refine wp_while (fun s => s.2.1.toNat) (fun s => 0 ≤ s.1 ∧ s.1 + 50 * s.2.1 ≤ 600 ∧ 0 ≤ s.2.1 ∧ (s.2.2.1.length : Int) + s.2.1 ≤ 11 ∧ Ms a b s.1 s.2.2.1 ∧ Sr s.2.2.2.1 s.2.2.2.2) (fun s hv => ?_) ⟨Int.le_refl _, by simp only; omega, hk0, by simp; omega, ⟨by simp, fun m hm => by simp at hm, fun k _ hk => by simp at hk⟩, hs6⟩ (by simp only; omega)
    obtain ⟨num, kk, l, sl, sa⟩ := s
    simp only at hv
    obtain ⟨v1, v2, v3, v4, v5, v6⟩ := hv
    unfold dynposlaw32_NetworkArrives_L1
    simp only
    refine Wp.ite (fun h => ?_) (fun _ => ?_)
    · have h := of_decide_eq_true h
      refine (wpPick4 v6).bind fun x hx => ?_
      obtain ⟨p, sl', sa', w⟩ := x
      simp only at hx ⊢
      obtain ⟨⟨p1, p2⟩, hs'⟩ := hx
      rw [W_sm (x := num + p) (by omega) (by omega), W_sm (x := kk - 1) (by omega) (by omega), app_sm (by simp; omega)]
      have hl12 := v5.len
      refine wp_some.2 ⟨⟨by simp only; omega, by simp only; omega, by simp only; omega, by simp; omega, ⟨by simp; omega, fun m hm => ?_, fun j j0 hj => ?_⟩, hs'⟩, by simp only; omega⟩
      · simp only at hm ⊢
        rcases List.mem_append.1 hm with hm | hm
        · have := v5.all m hm
          omega
        · have : m = Message.mk a b (num + p) kk := by simpa using hm
          subst this
          exact ⟨rfl, rfl, by show 1 ≤ num + p; omega, Int.le_refl _⟩
      · simp only at hj ⊢
        have hj' : j < l.length + 1 := by simpa using hj
        rw [gt_snoc hj', gt_snoc (by omega), if_pos (by omega)]
        split
        · exact v5.srt j j0 (by omega)
        · have := (v5.all _ (gt_mem (show j - 1 < l.length by omega))).2.2.2
          simp only
          omega
    · exact wp_some.2 ⟨v5.len, fun m hm => by have := v5.all m hm; omega, v5.srt⟩
  refine hloop.bind fun x10 hms => ?_
  have hports : network_Ports ⟨nn, cs3⟩ = some (List.replicate (nn * nn).toNat (Port.mk 0 [])) := by
    have hsq : 0 ≤ nn * nn ∧ nn * nn ≤ 25 := by
      have hcase : nn = 1 ∨ nn = 2 ∨ nn = 3 ∨ nn = 4 ∨ nn = 5 := by omega
      rcases hcase with e | e | e | e | e <;> rw [e] <;> decide
    unfold network_Ports
    simp only [ncheck_ok hv, Option.bind_some, bne_self_eq_false, Bool.false_eq_true, if_false]
    rw [W_sm (by omega) (by omega), mkZ_Z hsq.1 (by omega)]
    rfl
  rw [hports]
  simp only [Option.bind_some]
  obtain ⟨K, hK, hC⟩ : ∃ K : Nat, K ≤ 2 ∧ network_Copies ⟨nn, cs3⟩ br a b = some (K : Int) := by
    rw [copies_eq hv (by omega) ha0 ha1 hb0 hb1]
    by_cases h0 : dB (Joined (Ed ⟨nn, cs3⟩ br 0) a b) = true <;> by_cases h1 : dB (Joined (Ed ⟨nn, cs3⟩ br 1) a b) = true
    · exact ⟨2, by omega, by rw [if_pos h0, if_pos h1]; rfl⟩
    · exact ⟨1, by omega, by rw [if_pos h0, if_neg h1]; rfl⟩
    · exact ⟨1, by omega, by rw [if_neg h0, if_pos h1]; rfl⟩
    · exact ⟨0, by omega, by rw [if_neg h0, if_neg h1]; rfl⟩
  refine (wpDeliver hv (show br.length ≤ 1000 by omega) hms ha0 ha1 hb0 hb1 hK hC).bind fun x12 hx12 => ?_
  obtain ⟨e, ps, got⟩ := x12
  simp only at hx12 ⊢
  obtain ⟨rfl, hgot⟩ := hx12
  have hl := hms.len
  rw [hC]
  simp only [Option.bind_some]
  rcases Nat.eq_zero_or_pos K with hK0 | hK0
  · subst hK0
    rw [if_pos rfl] at hgot
    subst hgot
    exact wp_some.2 rfl
  · rw [if_neg (by omega)] at hgot
    subst hgot
    rw [if_neg (by rw [beqF (by omega)]; simp)]
    simp only [beq_self_eq_true, if_true, msgs_self (show x10.1.length ≤ 1000000 by omega), Option.bind_some]
    exact wp_some.2 rfl
end Rx
end Go.Proofs.Ythgnnjdjdmdfoaa
