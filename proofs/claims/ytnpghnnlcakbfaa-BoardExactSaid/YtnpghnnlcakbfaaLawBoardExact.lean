/- BoardExact: all functions of the switchboard answer as the reference does, whatever boards, states and numbers they are given. Plain law. -/
import Derived.Test.YtnpghnnlcakbfaaN5
import Derived.Test.YtnpghnnlcakbfaaM7
import Derived.Test.YtnpghnnlcakbfaaM8
import Derived.Test.YtnpghnnlcakbfaaBt
set_option linter.unusedVariables false
set_option linter.unusedSimpArgs false
namespace Go.Proofs.Ytnpghnnlcakbfaa
open Go Go.RowKit Dp
namespace Rx

section
variable {b : Board} {p : Power}
theorem part_ext {p q : Part} (h1 : p.Kind = q.Kind) (h2 : p.Number = q.Number) : p = q := by
  cases p; cases q; simp at h1 h2; rw [h1, h2]
theorem isleSm (hb : SmB b) (hl : Lim b) (f : Nat) : Sm (isle b p f).Buses ∧ Sm (isle b p f).Sources ∧ Sm (isle b p f).Consumers := by
  obtain ⟨h1, h2, h3⟩ := isle_len (b := b) (p := p) f
  have := hl.bus
  have := hl.src
  have := hl.con
  exact ⟨by unfold Sm; omega, by unfold Sm; omega, by unfold Sm; omega⟩
theorem island_self {x : Island} (h1 : Sm x.Buses) (h2 : Sm x.Sources) (h3 : Sm x.Consumers) : dynposref15_Island x x = some true := by
  unfold dynposref15_Island
  simp [ints_eq h1, ints_eq h2, ints_eq h3]
theorem ofBSm (hb : SmB b) (k : Int) : Sm (ofB b p k).1.Buses ∧ Sm (ofB b p k).1.Sources ∧ Sm (ofB b p k).1.Consumers := by
  unfold ofB
  split
  · rename_i h
    exact isleSm hb (stt_zero.1 h.1).1.1 _
  · exact ⟨by unfold Sm; simp, by unfold Sm; simp, by unfold Sm; simp⟩
theorem led_none (hb : BrkOk b) {j : Int} (hj : ¬ (0 ≤ j ∧ j < b.Consumers.length)) : led b p 3 j = (0, false) := by
  unfold led
  have : (List.range b.Breakers.length).find? (ledAt b p 3 j) = none := find_none fun k hk => by
    unfold ledAt
    cases h1 : (gt b.Breakers k).Kind == 3 with
    | false => rfl
    | true =>
      cases h2 : (gt b.Breakers k).B == j with
      | false => rfl
      | true =>
        exfalso
        have e1 : (gt b.Breakers k).Kind = 3 := by simpa using h1
        have e2 : (gt b.Breakers k).B = j := by simpa using h2
        have := (hb.1 k hk).2
        rcases this with h | h | h <;> omega
  rw [this]
theorem reffed_all (hb : SmB b) (hp : SmP p) (j : Int) : dynposref15_Fed b p j = some (fedB b p j) := by
  by_cases hj : 0 ≤ j ∧ j < b.Consumers.length
  · exact reffed_eq hb hp hj
  unfold dynposref15_Fed fedB
  rw [refstate_eq hb hp]
  by_cases h : stt b p = 0
  · have hbk := ((stt_zero.1 h).1.2).1
    rw [if_pos h, h, led_none hbk hj]
    simp only [Option.bind_some, bne_self_eq_false, Bool.false_eq_true, if_false]
    by_cases h1 : j < 0
    · simp [h1]
    · have : ¬ j < (b.Consumers.length : Int) := fun h2 => hj ⟨by omega, h2⟩
      have h2 : j ≥ len b.Consumers := by unfold len; omega
      simp [h1, h2]
  · rw [if_neg h]
    have : (stt b p != 0) = true := by simpa using h
    simp only [Option.bind_some, this, if_true]
theorem refbrk_has (hp : SmP p) (k n : Int) : dynposref15_Broken p k n = some (dB ((⟨k, n⟩ : Part) ∈ p.Broken)) := by
  have hl := hp.2.2.2
  have h := loop_anyB (step := dynposref15_Broken_L1 p k n) (fun i => (i : Int)) p.Broken.length (fun i => gt p.Broken i = (⟨k, n⟩ : Part)) (r := .inr true) (e := .inl ()) (fun i hi hne => by
    unfold dynposref15_Broken_L1
    simp only [lt_len hi, if_true, idx_gt hi, Option.bind_some]
    have : (if ((gt p.Broken i).Kind == k) = true then some ((gt p.Broken i).Number == n) else some false) = some false := by
      by_cases h1 : (gt p.Broken i).Kind = k
      · by_cases h2 : (gt p.Broken i).Number = n
        · exact (hne (part_ext h1 h2)).elim
        · simp [h1, h2]
      · simp [h1]
    simp only [this, Option.bind_some, Bool.false_eq_true, if_false]
    rw [W_succ (sm_lt hl hi)]) (fun i hi he => by
    unfold dynposref15_Broken_L1
    simp only [lt_len hi, if_true, idx_gt hi, Option.bind_some, he, beq_self_eq_true]) (by
    unfold dynposref15_Broken_L1
    simp only [nlt_len, Bool.false_eq_true, if_false])
  have h' : loopO (dynposref15_Broken_L1 p k n) 0 = _ := h
  have hm : dB (∃ i, i < p.Broken.length ∧ gt p.Broken i = (⟨k, n⟩ : Part)) = dB ((⟨k, n⟩ : Part) ∈ p.Broken) := dB_congr mem_iff_gt.symm
  unfold dynposref15_Broken
  rw [h', hm]
  cases dB ((⟨k, n⟩ : Part) ∈ p.Broken) <;> rfl
theorem brk_has (hp : SmP p) (k n : Int) : board_Broken p k n = some (dB ((⟨k, n⟩ : Part) ∈ p.Broken)) := by
  have hl := hp.2.2.2
  have h : Wp (loopO (slices_Index_Part_Part_L1 p.Broken ⟨k, n⟩) 0) fun r => ((⟨k, n⟩ : Part) ∈ p.Broken ∧ ∃ i : Nat, r = .inr (i : Int)) ∨ ((⟨k, n⟩ : Part) ∉ p.Broken ∧ r = .inl ()) := by
    refine wp_upto p.Broken.length (fun i s => s = (i : Int) ∧ ∀ q, q < i → gt p.Broken q ≠ (⟨k, n⟩ : Part)) ⟨rfl, fun q hq => by omega⟩ (fun i s hi hv => ?_) (fun s hv => ?_) (by unfold Sm at hl; omega)
    · obtain ⟨rfl, hv⟩ := hv
      unfold slices_Index_Part_Part_L1
      simp only [lt_len hi, if_true, idx_gt hi, Option.bind_some]
      by_cases hq : gt p.Broken i = (⟨k, n⟩ : Part)
      · rw [hq]
        simp only [beq_self_eq_true, Bool.and_self, if_true]
        exact wp_some.2 (.inl ⟨by rw [← hq]; exact gt_mem hi, i, rfl⟩)
      · have : (k == (gt p.Broken i).Kind && n == (gt p.Broken i).Number) = false := by
          cases h1 : k == (gt p.Broken i).Kind with
          | false => rfl
          | true =>
            cases h2 : n == (gt p.Broken i).Number with
            | false => rfl
            | true => exact (hq (part_ext (by simpa using (by simpa using h1 : k = (gt p.Broken i).Kind).symm) (by simpa using (by simpa using h2 : n = (gt p.Broken i).Number).symm))).elim
        simp only [this, Bool.false_eq_true, if_false]
        rw [W_succ (sm_lt hl hi)]
        refine wp_some.2 ⟨rfl, fun q hql => ?_⟩
        by_cases hqi : q = i
        · rw [hqi]; exact hq
        · exact hv q (by omega)
    · obtain ⟨rfl, hv⟩ := hv
      unfold slices_Index_Part_Part_L1
      simp only [nlt_len, Bool.false_eq_true, if_false]
      refine wp_some.2 (.inr ⟨fun hm => ?_, rfl⟩)
      obtain ⟨i, hi, he⟩ := mem_gt hm
      exact hv i hi he
  obtain ⟨r, hr, h⟩ := h
  unfold board_Broken slices_Contains_Part_Part slices_Index_Part_Part
  rw [hr]
  rcases h with ⟨hm, i, rfl⟩ | ⟨hm, rfl⟩
  · rw [dB_T hm]
    simp only [Option.bind_some, Sum.elim_inr, dT (c := (i : Int) ≥ 0) (by omega)]
  · rw [dB_F hm]
    rfl
theorem reffind_eq (hb : SmB b) (kind j : Int) : dynposref15_Find b kind j = some (findB b kind j) := by
  unfold dynposref15_Find findB
  rw [refcheck_eq hb]
  by_cases h : chk b = 0
  · rw [if_pos h, h]
    simp only [Option.bind_some, bne_self_eq_false, Bool.false_eq_true, if_false, refof_eq hb.1]
  · rw [if_neg h]
    have : (chk b != 0) = true := by simpa using h
    simp only [Option.bind_some, this, if_true]
theorem findSm (hb : SmB b) (kind j : Int) : Sm (findB b kind j) := by
  unfold findB
  have h1 := rangeF_len (findP b kind j) b.Breakers.length
  have h2 := hb.1
  split
  · unfold Sm at h2 ⊢; omega
  · unfold Sm; simp
theorem exact5 (hb : SmB b) (hp : SmP p) (kind j : Int) : loopO (dynposlaw15_BoardExact_L5 kind b p j) 0 = some (.inl ()) := by
  have h := loop_run (step := dynposlaw15_BoardExact_L5 kind b p j) (r := .inl ()) (fun k => (k : Int)) 4 (fun k hk => by
    obtain ⟨n, hn⟩ : ∃ n, idx [kind, 1, 2, 3] (k : Int) = some n := ⟨_, idx_gt (l := [kind, 1, 2, 3]) (by simpa using hk)⟩
    unfold dynposlaw15_BoardExact_L5
    simp only [dT (c := (k : Int) < 4) (by omega), if_true, hn, Option.bind_some, brk_has hp, refbrk_has hp, beq_self_eq_true, Bool.not_true, Bool.false_eq_true, if_false, find_eq hb, reffind_eq hb, ints_eq (findSm hb _ _), decide_true]
    rw [W_succ (by omega)]) (by
    unfold dynposlaw15_BoardExact_L5
    simp)
  exact h
theorem exact4 (hb : SmB b) (hp : SmP p) (kind number : Int) (x : Int × List Int × Int) : loopO (dynposlaw15_BoardExact_L4 kind number b p x) 0 = some (.inl ()) := by
  have h := loop_run (step := dynposlaw15_BoardExact_L4 kind number b p x) (r := .inl ()) (fun k => (k : Int)) 4 (fun k hk => by
    obtain ⟨n, hn⟩ : ∃ n, idx [number, 0, x.1, (-1)] (k : Int) = some n := ⟨_, idx_gt (l := [number, 0, x.1, (-1)]) (by simpa using hk)⟩
    obtain ⟨s1, s2, s3⟩ := ofBSm (b := b) (p := p) hb n
    have hi : dynposref15_Island (Island.mk (ofB b p n).1.Buses (ofB b p n).1.Sources (ofB b p n).1.Consumers) (Island.mk (ofB b p n).1.Buses (ofB b p n).1.Sources (ofB b p n).1.Consumers) = some true := island_self s1 s2 s3
    have hl1 : board_Live b p n = some (decide (0 < (ofB b p n).1.Sources.length)) := live_eq hb hp n
    have hl2 : dynposref15_Live b p n = some (decide (0 < (ofB b p n).1.Sources.length)) := by
      unfold dynposref15_Live
      rw [refof_isle hb hp]
      simp only [Option.bind_some, ofR]
      unfold ofB
      split
      · simp only [if_true, Option.bind_some]
        congr 1
        rw [decide_eq_decide]
        unfold len
        omega
      · simp
    unfold dynposlaw15_BoardExact_L4
    simp only [dT (c := (k : Int) < 4) (by omega), if_true, hn, Option.bind_some, of_eq hb hp, refof_isle hb hp, connB_eq hb hp, refconn_eq hb hp, fedB_eq hb hp, reffed_all hb hp, ofT, ofR, hi, hl1, hl2, beq_self_eq_true, bne_self_eq_false, Bool.not_true, Bool.false_eq_true, if_false, exact5 hb hp, Sum.elim_inl]
    rw [W_succ (by omega)]) (by
    unfold dynposlaw15_BoardExact_L4
    simp)
  exact h
theorem exact3 (hb : SmB b) (hl : Lim b) : loopO (dynposlaw15_BoardExact_L3 (isl b p) (isl b p)) 0 = some (.inl ()) := by
  have hle := isl_len (b := b) (p := p)
  have hbus := hl.bus
  have h := loop_run (step := dynposlaw15_BoardExact_L3 (isl b p) (isl b p)) (r := .inl ()) (fun k => (k : Int)) (isl b p).length (fun k hk => by
    obtain ⟨f, _, hf, _⟩ := mem_isl.1 (gt_mem hk)
    obtain ⟨s1, s2, s3⟩ := isleSm (b := b) (p := p) hb hl f
    unfold dynposlaw15_BoardExact_L3
    simp only [lt_len hk, if_true, idx_gt hk, Option.bind_some, hf, island_self s1 s2 s3, Bool.not_true, Bool.false_eq_true, if_false]
    rw [W_succ (by omega)]) (by
    unfold dynposlaw15_BoardExact_L3
    simp only [nlt_len, Bool.false_eq_true, if_false])
  exact h
end
/-- one board with three states -/
theorem exact2 {b : Board} (hb : SmB b) {p0 p1 p2 : Power} (h0 : SmP p0) (h1 : SmP p1) (h2 : SmP p2) (kind number : Int) {l l' : List Int} {a a' : Int} (hs : Sr l a) (xl : List Int) (xa : Int) (xB : List Breaker) (xS : List Source) (xC : List Consumer) :
    Wp (loopO (dynposlaw15_BoardExact_L2 p2 kind number (xl, xa, xB, xS, xC, p0.Closed, p0.Sources, p0.Limits, p0.Broken) b (l', a', p1.Closed, p1.Sources, p1.Limits, p1.Broken)) (0, l, a)) fun r => ∃ l a, r = .inl (l, a) ∧ Sr l a := by
  refine wp_upto 3 (fun k s => ∃ l a, s = ((k : Int), l, a) ∧ Sr l a) ⟨_, _, rfl, hs⟩ (fun k s hk hi => ?_) (fun s hi => ?_) (by omega)
  · obtain ⟨l, a, rfl, hs⟩ := hi
    obtain ⟨q, hq, hqs⟩ : ∃ q, idx [p0, p1, p2] (k : Int) = some q ∧ SmP q := by
      rcases k with _ | _ | _ | k
      · exact ⟨p0, rfl, h0⟩
      · exact ⟨p1, rfl, h1⟩
      · exact ⟨p2, rfl, h2⟩
      · omega
    have hq' : idx [Power.mk p0.Closed p0.Sources p0.Limits p0.Broken, Power.mk p1.Closed p1.Sources p1.Limits p1.Broken, p2] (k : Int) = some q := hq
    unfold dynposlaw15_BoardExact_L2
    simp only [dT (c := (k : Int) < 3) (by omega), if_true, hq', Option.bind_some, state_eq hb hqs, refstate_eq hb hqs, bne_self_eq_false, Bool.false_eq_true, if_false]
    have hil : ∃ L, board_Islands b q = some L ∧ dynposref15_Islands b q = some L ∧ loopO (dynposlaw15_BoardExact_L3 L L) 0 = some (.inl ()) := by
      by_cases h : stt b q = 0
      · exact ⟨_, islands_eq hb hqs h, refislands_eq hb hqs h, exact3 hb (stt_zero.1 h).1.1⟩
      · refine ⟨_, islands_bad hb hqs h, refislands_bad hb hqs h, ?_⟩
        exact loop_run (step := dynposlaw15_BoardExact_L3 [] []) (r := .inl ()) (fun k => (k : Int)) 0 (fun k hk => by omega) (by
          unfold dynposlaw15_BoardExact_L3
          simp [len])
    obtain ⟨L, e1, e2, e3⟩ := hil
    simp only [e1, e2, e3, Option.bind_some, bne_self_eq_false, Bool.false_eq_true, if_false, Sum.elim_inl]
    refine (wpN hs (n := 6) (by omega) (by omega)).bind fun z hz => ?_
    simp only [exact4 hb hqs, Option.bind_some, Sum.elim_inl]
    rw [W_succ (by omega)]
    exact wp_some.2 ⟨_, _, rfl, hz.2⟩
  · obtain ⟨l, a, rfl, hs⟩ := hi
    unfold dynposlaw15_BoardExact_L2
    simp only [dF (c := ((3 : Nat) : Int) < 3) (by omega), Bool.false_eq_true, if_false]
    exact wp_some.2 ⟨_, _, rfl, hs⟩
theorem sane_T : dynposlaw15_sane = some true := by kernel_rfl
theorem law_BoardExact (t : List Int) (raw : Board) (odd : Power) (kind number : Int) (hl : raw.Consumers.length ≤ maxLen) : dynposlaw15_BoardExact t raw odd kind number = some true := by
  refine Wp.true' ?_
  unfold dynposlaw15_BoardExact
  obtain ⟨r, hr, hsm⟩ := small_eq (b := raw) (p := odd) (Nat.le_trans hl (by decide))
  simp only [hr, sane_T, Option.bind_some]
  refine Wp.ite (fun _ => wp_some.2 rfl) fun h => ?_
  obtain ⟨hrs, hos⟩ := hsm (by simpa using h)
  refine (wpNew t).bind fun s hs => ?_
  obtain ⟨l0, a0⟩ := s
  refine (wpBoard hs).bind fun x3 h3 => ?_
  obtain ⟨nb, ph, fr, l1, a1, B, S, C⟩ := x3
  simp only at h3 ⊢
  obtain ⟨hs1, hg⟩ := h3
  refine (wpPower hs1 hg).bind fun x4 h4 => ?_
  obtain ⟨l2, a2, cl, run, lim, brk, rfl, hs2, hgp⟩ := h4
  simp only
  have hsb := hg.sm
  have hsp := hgp.sm hg
  obtain ⟨q1, q2, q3⟩ := hgp.shape
  have q4 := hgp.brok
  have g1 := hg.brk
  have g2 := hg.src
  have g3 := hg.con
  simp only at q1 q2 q3 q4 g1 g2 g3
  refine (wpBentBoard hs2 hsb (by simp only; omega) (by simp only; omega) (by simp only; omega)).bind fun x5 h5 => ?_
  obtain ⟨nb', ph', fr', l3, a3, B', S', C', rfl, hs3, hsb'⟩ := h5
  simp only
  have hloop : Wp (loopO (dynposlaw15_BoardExact_L1 raw odd kind number (nb, ph, fr, l1, a1, B, S, C) (l2, a2, B, S, C, cl, run, lim, brk) (nb', ph', fr', l3, a3, B, S, C, B', S', C')) (0, l3, a3)) fun r => ∃ x, r = .inl x := by
    refine wp_upto 3 (fun k s => ∃ l a, s = ((k : Int), l, a) ∧ Sr l a) ⟨_, _, rfl, hs3⟩ (fun k s hk hi => ?_) (fun s hi => ?_) (by omega)
    · obtain ⟨l, a, rfl, hs⟩ := hi
      obtain ⟨x, hx, hxs⟩ : ∃ x, idx [Board.mk nb B S C ph fr, Board.mk nb' B' S' C' ph' fr', raw] (k : Int) = some x ∧ SmB x := by
        rcases k with _ | _ | _ | k
        · exact ⟨_, rfl, hsb⟩
        · exact ⟨_, rfl, hsb'⟩
        · exact ⟨_, rfl, hrs⟩
        · omega
      unfold dynposlaw15_BoardExact_L1
      simp only [dT (c := (k : Int) < 3) (by omega), if_true, hx, Option.bind_some, check_eq hxs, refcheck_eq hxs, bne_self_eq_false, Bool.false_eq_true, if_false]
      refine (wpBentPower hs (p := ⟨cl, run, lim, brk⟩) (by simp only; omega) (by simp only; omega) (by simp only; omega) (by simp only; omega)).bind fun y hy => ?_
      obtain ⟨l', a', c', r', m', k'⟩ := y
      simp only at hy ⊢
      refine (exact2 hxs (p0 := ⟨cl, run, lim, brk⟩) (p1 := ⟨c', r', m', k'⟩) (p2 := odd) hsp hy.2 hos kind number hy.1 (l' := l') (a' := a') l2 a2 B S C).bind fun z hz => ?_
      obtain ⟨l'', a'', rfl, hz⟩ := hz
      simp only [Sum.elim_inl]
      rw [W_succ (by omega)]
      exact wp_some.2 ⟨_, _, rfl, hz⟩
    · obtain ⟨l, a, rfl, hs⟩ := hi
      unfold dynposlaw15_BoardExact_L1
      simp only [dF (c := ((3 : Nat) : Int) < 3) (by omega), Bool.false_eq_true, if_false]
      exact wp_some.2 ⟨_, rfl⟩
  refine hloop.bind fun r hr => ?_
  obtain ⟨x, rfl⟩ := hr
  exact wp_some.2 rfl
end Rx
end Go.Proofs.Ytnpghnnlcakbfaa
