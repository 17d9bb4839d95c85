/- NetworkExact: all functions for any nets, broken cables, ports and messages are those of the reference. Plain law. -/
import Derived.Test.YtmgflnbgkpcbdaaNx5
set_option linter.unusedVariables false
set_option linter.unusedSimpArgs false
namespace Go.Proofs.Ytmgflnbgkpcbdaa
open Go Go.RowKit Dp
namespace Rx

theorem beq_same (b : Bool) : (!b == b) = false := by cases b <;> rfl
theorem bne_same (b : Int) : (b != b) = false := by simp
theorem exL3 {n : Net} {br : List Part} (hb : br.length ≤ 1000) (a4 a5 a6 : Int) (x21 x22 x23 : Int × List Int × Int) : loopO (dynposlaw32_NetworkExact_L3 a4 a5 a6 n br x21 x22 x23) 0 = some (.inl ()) := by
  refine loop_run (fun k => (k : Int)) 2 (fun k hk => ?_) (by
    unfold dynposlaw32_NetworkExact_L3
    simp only [dF (c := ((2 : Nat) : Int) < 2) (by omega), Bool.false_eq_true, if_false]) (by omega)
  obtain ⟨y, _, hy⟩ := idx_ex (xs := [(a6, a4, a5), (x21.1, x22.1, x23.1)]) (k := k) (by simpa using hk)
  obtain ⟨c, _, c1, c2⟩ := copies_all n hb y.2.1 y.2.2
  unfold dynposlaw32_NetworkExact_L3
  simp only [dT (c := (k : Int) < 2) (by omega), if_true, hy, Option.bind_some, preach_eq n hb, rreach_eq n hb, c1, c2, beq_same, bne_same, Bool.false_eq_true, if_false]
  rw [W_succ (by omega)]
theorem exL4 {n : Net} {br : List Part} (hb : br.length ≤ 1000) (a6 : Int) {a8 : List Int} (h8 : a8.length ≤ 1000) {x33 : List Int × Int × List Int} (hx : x33.2.2.length ≤ 1000) {sl : List Int} {sa : Int} (hs : Sr sl sa) : Wp (loopO (dynposlaw32_NetworkExact_L4 a6 a8 n br x33) (0, sl, sa)) fun r => ∃ l a, r = .inl (l, a) ∧ Sr l a := by
  refine wp_upto 2 (fun k s => s.1 = (k : Int) ∧ Sr s.2.1 s.2.2) ⟨rfl, hs⟩ (fun k s hk hv => ?_) (fun s hv => ?_) (by omega)
  · obtain ⟨z, l, a⟩ := s
    simp only at hv
    obtain ⟨rfl, hs⟩ := hv
    obtain ⟨y, hym, hy⟩ := idx_ex (xs := [a8, x33.2.2]) (k := k) (by simpa using hk)
    have hyl : y.length ≤ 1000 := by
      simp only [List.mem_cons, List.not_mem_nil, or_false] at hym
      rcases hym with rfl | rfl
      · exact h8
      · exact hx
    unfold dynposlaw32_NetworkExact_L4
    simp only [dT (c := (k : Int) < 2) (by omega), if_true, hy, Option.bind_some]
    refine (wpN hs (n := 2) (by omega) (by omega)).bind fun u hu => ?_
    simp only [pcut_eq n hb _ hyl, rcut_eq n hb _ hyl, Option.bind_some, beq_same, Bool.false_eq_true, if_false]
    rw [W_succ (by omega)]
    exact wp_some.2 ⟨rfl, hu.2⟩
  · obtain ⟨z, l, a⟩ := s
    simp only at hv
    obtain ⟨rfl, hs⟩ := hv
    unfold dynposlaw32_NetworkExact_L4
    simp only [dF (c := ((2 : Nat) : Int) < 2) (by omega), Bool.false_eq_true, if_false]
    exact wp_some.2 ⟨l, a, rfl, hs⟩
theorem exL6 {n : Net} {br : List Part} (hb : br.length ≤ 1000) {x10 : List Int × Int × List Cable × List Port} {ms : List Message} (hm : ms.length ≤ 1000) {ps : List Port} (h1 : x10.2.2.2.length ≤ 1000) (h2 : Sh x10.2.2.2) (h3 : ps.length ≤ 1000) (h4 : Sh ps) : loopO (dynposlaw32_NetworkExact_L6 x10 n br ms ps) 0 = some (.inl ()) := by
  refine loop_run (fun k => (k : Int)) 2 (fun k hk => ?_) (by
    unfold dynposlaw32_NetworkExact_L6
    simp only [dF (c := ((2 : Nat) : Int) < 2) (by omega), Bool.false_eq_true, if_false]) (by omega)
  obtain ⟨y, hym, hy⟩ := idx_ex (xs := [x10.2.2.2, ps]) (k := k) (by simpa using hk)
  have hyl : y.length ≤ 1000 ∧ Sh y := by
    simp only [List.mem_cons, List.not_mem_nil, or_false] at hym
    rcases hym with rfl | rfl
    · exact ⟨h1, h2⟩
    · exact ⟨h3, h4⟩
  obtain ⟨r, r1, r2, r3, r4, r5⟩ := deliver_both n hb hyl.1 hyl.2 hm
  unfold dynposlaw32_NetworkExact_L6
  simp only [dT (c := (k : Int) < 2) (by omega), if_true, hy, Option.bind_some, r1, r2, all_refl r3 r5, msgs_refl r4, bne_same, Bool.not_true, Bool.false_eq_true, if_false]
  rw [W_succ (by omega)]
theorem exL5 {n : Net} {br : List Part} (hb : br.length ≤ 1000) {odd : Port} (ho : odd.Below.length ≤ 1000) {a9 : List Message} (h9 : a9.length ≤ 1000) {x10 : List Int × Int × List Cable × List Port} (h1 : x10.2.2.2.length ≤ 900) (h2 : Sh x10.2.2.2) {x44 : List Int × Int × List Message} (hm : x44.2.2.length ≤ 1000) : loopO (dynposlaw32_NetworkExact_L5 odd a9 x10 n br x44) 0 = some (.inl ()) := by
  refine loop_run (fun k => (k : Int)) 2 (fun k hk => ?_) (by
    unfold dynposlaw32_NetworkExact_L5
    simp only [dF (c := ((2 : Nat) : Int) < 2) (by omega), Bool.false_eq_true, if_false]) (by omega)
  obtain ⟨y, hym, hy⟩ := idx_ex (xs := [a9, x44.2.2]) (k := k) (by simpa using hk)
  have hyl : y.length ≤ 1000 := by
    simp only [List.mem_cons, List.not_mem_nil, or_false] at hym
    rcases hym with rfl | rfl
    · exact h9
    · exact hm
  unfold dynposlaw32_NetworkExact_L5
  simp only [dT (c := (k : Int) < 2) (by omega), if_true, hy, Option.bind_some]
  rw [show app ([] : List Port) x10.2.2.2 = some x10.2.2.2 from app_sm (by simp; omega)]
  simp only [Option.bind_some]
  rw [app_sm (by simp; omega)]
  simp only [Option.bind_some]
  rw [exL6 hb hyl (by omega) h2 (by simp; omega) (fun p hp => by
    rcases List.mem_append.1 hp with g | g
    · exact h2 p g
    · have : p = odd := by simpa using g
      rw [this]; exact ho)]
  simp only [Option.bind_some, Sum.elim_inl]
  rw [W_succ (by omega)]
theorem exL2 {n : Net} {a2 : List Part} (h2 : a2.length ≤ 1000) {odd : Port} (ho : odd.Below.length ≤ 1000) (a4 a5 a6 : Int) {a8 : List Int} (h8 : a8.length ≤ 1000) {a9 : List Message} (h9 : a9.length ≤ 1000) {x3 : Int × List Int × Int × List Cable} (hn0 : 1 ≤ x3.1) (hn1 : x3.1 ≤ 8) {x4 : List Int × Int × List Cable × List Part} (h4 : x4.2.2.2.length ≤ 1000) {x10 : List Int × Int × List Cable × List Port} (h10 : x10.2.2.2.length ≤ 900) (h11 : Sh x10.2.2.2) {sl : List Int} {sa : Int} (hs : Sr sl sa) :
    Wp (loopO (dynposlaw32_NetworkExact_L2 a2 odd a4 a5 a6 a8 a9 x3 x4 x10 n) (0, sl, sa)) fun r => ∃ l a, r = .inl (l, a) ∧ Sr l a := by
  refine wp_upto 2 (fun k s => s.1 = (k : Int) ∧ Sr s.2.1 s.2.2) ⟨rfl, hs⟩ (fun k s hk hv => ?_) (fun s hv => ?_) (by omega)
  · obtain ⟨z, l, a⟩ := s
    simp only at hv
    obtain ⟨rfl, hs⟩ := hv
    obtain ⟨y, hym, hy⟩ := idx_ex (xs := [x4.2.2.2, a2]) (k := k) (by simpa using hk)
    have hyl : y.length ≤ 1000 := by
      simp only [List.mem_cons, List.not_mem_nil, or_false] at hym
      rcases hym with rfl | rfl
      · exact h4
      · exact h2
    unfold dynposlaw32_NetworkExact_L2
    simp only [dT (c := (k : Int) < 2) (by omega), if_true, hy, Option.bind_some]
    refine (wpN hs (n := 2) (by omega) (by omega)).bind fun u1 hu1 => ?_
    refine (wpN hu1.2 (n := 5) (by omega) (by omega)).bind fun u2 hu2 => ?_
    refine (wpN hu2.2 (n := 5) (by omega) (by omega)).bind fun u3 hu3 => ?_
    rw [exL3 hyl]
    simp only [Option.bind_some, Sum.elim_inl]
    refine (wpSome hu3.2 (n := 5) (by omega) (k := 2) (by omega) (by omega)).bind fun u4 hu4 => ?_
    refine (exL4 (n := n) hyl a6 h8 (x33 := u4) (by omega) hu4.1).bind fun u5 hu5 => ?_
    obtain ⟨l5, a5', rfl, hs5⟩ := hu5
    simp only [Sum.elim_inl]
    refine (wpMessages hs5 (n := Net.mk x3.1 x10.2.2.1) hn0 hn1).bind fun u6 hu6 => ?_
    rw [exL5 hyl ho h9 h10 h11 (by omega)]
    simp only [Option.bind_some, Sum.elim_inl]
    rw [W_succ (by omega)]
    exact wp_some.2 ⟨rfl, hu6.1⟩
  · obtain ⟨z, l, a⟩ := s
    simp only at hv
    obtain ⟨rfl, hs⟩ := hv
    unfold dynposlaw32_NetworkExact_L2
    simp only [dF (c := ((2 : Nat) : Int) < 2) (by omega), Bool.false_eq_true, if_false]
    exact wp_some.2 ⟨l, a, rfl, hs⟩
theorem exL1 {a1 : Net} {a2 : List Part} (h2 : a2.length ≤ 1000) {odd : Port} (ho : odd.Below.length ≤ 1000) (a4 a5 a6 : Int) {a8 : List Int} (h8 : a8.length ≤ 1000) {a9 : List Message} (h9 : a9.length ≤ 1000) {x3 : Int × List Int × Int × List Cable} (hn0 : 1 ≤ x3.1) (hn1 : x3.1 ≤ 8) {x4 : List Int × Int × List Cable × List Part} (h4 : x4.2.2.2.length ≤ 1000) (x9 : List Cable) {x10 : List Int × Int × List Cable × List Port} (h10 : x10.2.2.2.length ≤ 900) (h11 : Sh x10.2.2.2) {sl : List Int} {sa : Int} (hs : Sr sl sa) :
    Wp (loopO (dynposlaw32_NetworkExact_L1 a1 a2 odd a4 a5 a6 a8 a9 x3 x4 x9 x10) (0, sl, sa)) fun r => ∃ l a, r = .inl (l, a) ∧ Sr l a := by
  refine wp_upto 3 (fun k s => s.1 = (k : Int) ∧ Sr s.2.1 s.2.2) ⟨rfl, hs⟩ (fun k s hk hv => ?_) (fun s hv => ?_) (by omega)
  · obtain ⟨z, l, a⟩ := s
    simp only at hv
    obtain ⟨rfl, hs⟩ := hv
    obtain ⟨y, hym, hy⟩ := idx_ex (xs := [Net.mk x3.1 x10.2.2.1, Net.mk x3.1 x9, a1]) (k := k) (by simpa using hk)
    obtain ⟨M, hM, hP, _⟩ := ports_ok y
    unfold dynposlaw32_NetworkExact_L1
    simp only [dT (c := (k : Int) < 3) (by omega), if_true, hy, Option.bind_some, ncheck_eq, refcheck_eq, bne_same, Bool.false_eq_true, if_false, ports_same, hP, all_refl (l := List.replicate M (Port.mk 0 [])) (by simp; omega) (fun p hp => by rw [(List.mem_replicate.1 hp).2]; simp), Bool.not_true]
    refine (exL2 h2 ho a4 a5 a6 h8 h9 hn0 hn1 h4 h10 h11 hs).bind fun u hu => ?_
    obtain ⟨l', a', rfl, hs'⟩ := hu
    simp only [Sum.elim_inl]
    rw [W_succ (by omega)]
    exact wp_some.2 ⟨rfl, hs'⟩
  · obtain ⟨z, l, a⟩ := s
    simp only at hv
    obtain ⟨rfl, hs⟩ := hv
    unfold dynposlaw32_NetworkExact_L1
    simp only [dF (c := ((3 : Nat) : Int) < 3) (by omega), Bool.false_eq_true, if_false]
    exact wp_some.2 ⟨l, a, rfl, hs⟩
theorem exL8 (a7 : Int) {p : Port} (hp : p.Below.length ≤ 1000) (x74 x75 : Int × List Int × Int) : loopO (dynposlaw32_NetworkExact_L8 a7 p x74 x75) 0 = some (.inl ()) := by
  refine loop_run (fun k => (k : Int)) 3 (fun k hk => ?_) (by
    unfold dynposlaw32_NetworkExact_L8
    simp only [dF (c := ((3 : Nat) : Int) < 3) (by omega), Bool.false_eq_true, if_false]) (by omega)
  obtain ⟨y, _, hy⟩ := idx_ex (xs := [a7, x74.1, W (p.High - x75.1)]) (k := k) (by simpa using hk)
  obtain ⟨h, ok, B, hB, b1, b2⟩ := acc_both hp y
  unfold dynposlaw32_NetworkExact_L8
  simp only [dT (c := (k : Int) < 3) (by omega), if_true, hy, Option.bind_some, b1, b2, beq_same, Bool.false_eq_true, if_false, same_refl (p := Port.mk h B) hB, Bool.not_true]
  rw [W_succ (by omega)]
theorem exL7 (a7 : Int) {ps : List Port} (hl : ps.length ≤ 1000) (hp : Sh ps) {sl : List Int} {sa : Int} (hs : Sr sl sa) : Wp (loopO (dynposlaw32_NetworkExact_L7 a7 ps) (0, sl, sa)) fun r => ∃ l a, r = .inl (l, a) := by
  refine wp_upto ps.length (fun k s => s.1 = (k : Int) ∧ Sr s.2.1 s.2.2) ⟨rfl, hs⟩ (fun k s hk hv => ?_) (fun s hv => ?_) (by omega)
  · obtain ⟨z, l, a⟩ := s
    simp only at hv
    obtain ⟨rfl, hs⟩ := hv
    unfold dynposlaw32_NetworkExact_L7
    simp only [lt_len hk, if_true, idx_gt hk, Option.bind_some, pport_eq (sh_gt hp hk), rport_eq (sh_gt hp hk), beq_same, Bool.false_eq_true, if_false]
    refine (wpN hs (n := 80) (by omega) (by omega)).bind fun u1 hu1 => ?_
    refine (wpN hu1.2 (n := 40) (by omega) (by omega)).bind fun u2 hu2 => ?_
    rw [exL8 a7 (sh_gt hp hk)]
    simp only [Option.bind_some, Sum.elim_inl]
    rw [W_succ (by omega)]
    exact wp_some.2 ⟨rfl, hu2.2⟩
  · obtain ⟨z, l, a⟩ := s
    simp only at hv
    obtain ⟨rfl, hs⟩ := hv
    unfold dynposlaw32_NetworkExact_L7
    simp only [nlt_len, Bool.false_eq_true, if_false]
    exact wp_some.2 ⟨l, a, rfl⟩
theorem law_NetworkExact (a0 : List Int) (a1 : Net) (a2 : List Part) (a3 : Port) (a4 a5 a6 a7 : Int) (a8 : List Int) (a9 : List Message) : dynposlaw32_NetworkExact a0 a1 a2 a3 a4 a5 a6 a7 a8 a9 = some true := by
  unfold dynposlaw32_NetworkExact
  simp only [ifor, Option.bind_some, sane_T]
  refine Wp.true' (Wp.ite (fun _ => wp_some.2 rfl) fun hg => ?_)
  simp only [Bool.or_eq_false_iff, decide_eq_false_iff_not] at hg
  unfold len at hg
  obtain ⟨g0, g1, g2, g3, g4, g5⟩ := hg
  refine (wpNew a0).bind fun x2 h2 => ?_
  refine (wpNet h2).bind fun x3 h3 => ?_
  obtain ⟨hv3, hs3⟩ := h3
  have hn0 : 1 ≤ x3.1 := hv3.n0
  have hn1 : x3.1 ≤ 8 := hv3.n1
  have hcl : x3.2.2.2.length ≤ 24 := hv3.len
  refine (wpCables hs3 (n := Net.mk x3.1 x3.2.2.2) hcl).bind fun x4 h4 => ?_
  obtain ⟨hs4, e4, l4⟩ := h4
  have e4' : x4.2.2.1.length ≤ 24 := by rw [e4]; exact hcl
  rw [show app ([] : List Cable) x4.2.2.1 = some x4.2.2.1 from app_sm (by simp; omega)]
  simp only [Option.bind_some]
  refine (wpN hs4 (n := 3) (by omega) (by omega)).bind fun x6 h6 => ?_
  refine (wpRange h6.2 (lo := -1) (hi := 4) (by omega) (by omega) (by omega) (by omega)).bind fun x7 h7 => ?_
  refine (wpRange h7.2 (lo := 0) (hi := 6) (by omega) (by omega) (by omega) (by omega)).bind fun x8 h8 => ?_
  rw [app_sm (by simp; omega)]
  simp only [Option.bind_some]
  refine (wpPorts1 h8.2 (n := Net.mk x3.1 x4.2.2.1) hn0 hn1).bind fun x10 h10 => ?_
  obtain ⟨hs10, e10, l10, sh10⟩ := h10
  refine (exL1 (a1 := a1) (by omega) (by omega) a4 a5 a6 (by omega) (by omega) hn0 hn1 (by omega) _ (by omega) sh10 hs10).bind fun x67 h67 => ?_
  obtain ⟨l, a, rfl, hs67⟩ := h67
  simp only [Sum.elim_inl]
  rw [app_sm (by simp; omega)]
  simp only [Option.bind_some]
  refine (exL7 a7 (ps := [a3, Port.mk 40 [9, 39], Port.mk 3 [1]] ++ x10.2.2.2) (by simp; omega) (fun p hp => ?_) hs67).bind fun x85 h85 => ?_
  · rcases List.mem_append.1 hp with g | g
    · simp only [List.mem_cons, List.not_mem_nil, or_false] at g
      rcases g with rfl | rfl | rfl
      · omega
      · simp
      · simp
    · exact sh10 p g
  obtain ⟨l', a', rfl⟩ := h85
  exact wp_some.2 rfl
end Rx
end Go.Proofs.Ytmgflnbgkpcbdaa
