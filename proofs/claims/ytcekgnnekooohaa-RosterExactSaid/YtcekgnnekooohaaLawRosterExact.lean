/- RosterExact: all functions of the scheduler answer as the reference does, whatever boards, tables, states, times and rosters they are given. Plain law. -/
import Derived.Test.YtcekgnnekooohaaY7
import Derived.Test.YtcekgnnekooohaaBt
import Derived.KernelRfl
set_option linter.unusedVariables false
set_option linter.unusedSimpArgs false
namespace Go.Proofs.Ytcekgnnekooohaa
open Go Go.RowKit Dp
namespace Rx

section
variable {b : Board} {p : Power}
theorem exactR6 (hb : SmB b) (hp : SmP p) (tm : Int) (t : Table) (k : Int) (r : Roster) (x : Int × List Int × Int) : loopO (dynposlaw19_RosterExact_L6 tm b p t k r x) 0 = some (.inl ()) := by
  have h := loop_run (step := dynposlaw19_RosterExact_L6 tm b p t k r x) (r := .inl ()) (fun k => (k : Int)) 2 (fun j hj => by
    obtain ⟨n, hn⟩ : ∃ n, idx [tm, x.1] (j : Int) = some n := ⟨_, idx_gt (l := [tm, x.1]) (by simpa using hj)⟩
    obtain ⟨v, v1, v2, v3⟩ := step_same hb hp t k n r
    unfold dynposlaw19_RosterExact_L6
    simp only [dT (c := (j : Int) < 2) (by omega), if_true, hn, Option.bind_some, v1, v2, acts_self _ v3, beq_self_eq_true, Bool.and_self, bne_self_eq_false, Bool.not_true, Bool.false_eq_true, if_false]
    rw [W_succ (by omega)]) (by
    unfold dynposlaw19_RosterExact_L6
    simp)
  exact h
theorem exactR5 (hb : SmB b) (hp : SmP p) (tm : Int) (t : Table) (k : Int) (r : Roster) (x y : Int × List Int × Int) {l : List Int} {a : Int} (hs : Sr l a) :
    Wp (loopO (dynposlaw19_RosterExact_L5 r tm b p t k x y) (0, l, a)) fun z => ∃ l a, z = .inl (l, a) ∧ Sr l a := by
  refine wp_upto 2 (fun k s => ∃ l a, s = ((k : Int), l, a) ∧ Sr l a) ⟨_, _, rfl, hs⟩ (fun j s hj hi => ?_) (fun s hi => ?_) (by omega)
  · obtain ⟨l, a, rfl, hs⟩ := hi
    obtain ⟨u, hu⟩ : ∃ u, idx [r, Roster.mk x.1 y.1] (j : Int) = some u := ⟨_, idx_gt (l := [r, Roster.mk x.1 y.1]) (by simpa using hj)⟩
    unfold dynposlaw19_RosterExact_L5
    simp only [dT (c := (j : Int) < 2) (by omega), if_true, hu, Option.bind_some]
    refine (wpRange hs (lo := 5) (hi := 12) (by omega) (by omega) (by omega) (by omega)).bind fun z hz => ?_
    simp only [exactR6 hb hp, Option.bind_some, Sum.elim_inl]
    rw [W_succ (by omega)]
    exact wp_some.2 ⟨_, _, rfl, hz.2⟩
  · obtain ⟨l, a, rfl, hs⟩ := hi
    unfold dynposlaw19_RosterExact_L5
    simp only [dF (c := ((2 : Nat) : Int) < 2) (by omega), Bool.false_eq_true, if_false]
    exact wp_some.2 ⟨_, _, rfl, hs⟩
theorem exactR4 (hb : SmB b) (hp : SmP p) (bus tm : Int) (t : Table) (r : Roster) (x : Int × List Int × Int) {l : List Int} {a : Int} (hs : Sr l a) :
    Wp (loopO (dynposlaw19_RosterExact_L4 r bus tm b p t x) (0, l, a)) fun z => ∃ l a, z = .inl (l, a) ∧ Sr l a := by
  refine wp_upto 3 (fun k s => ∃ l a, s = ((k : Int), l, a) ∧ Sr l a) ⟨_, _, rfl, hs⟩ (fun j s hj hi => ?_) (fun s hi => ?_) (by omega)
  · obtain ⟨l, a, rfl, hs⟩ := hi
    obtain ⟨k, hk⟩ : ∃ k, idx [bus, x.1, 0] (j : Int) = some k := ⟨_, idx_gt (l := [bus, x.1, 0]) (by simpa using hj)⟩
    obtain ⟨H, hH1, hH2⟩ := high_same hb hp t k
    unfold dynposlaw19_RosterExact_L4
    simp only [dT (c := (j : Int) < 3) (by omega), if_true, hk, Option.bind_some, low_eq hb hp, reflow_eq hb hp, next_eq hb hp, refnext_eq hb hp, hH1, hH2, bne_self_eq_false, beq_self_eq_true, Bool.not_true, Bool.false_eq_true, if_false]
    refine (wpRange hs (lo := -1) (hi := 5) (by omega) (by omega) (by omega) (by omega)).bind fun y hy => ?_
    refine (wpRange hy.2 (lo := -1) (hi := 5) (by omega) (by omega) (by omega) (by omega)).bind fun z hz => ?_
    refine (exactR5 hb hp tm t k r y z hz.2).bind fun w hw => ?_
    obtain ⟨l1, a1, rfl, hw⟩ := hw
    simp only [Sum.elim_inl]
    rw [W_succ (by omega)]
    exact wp_some.2 ⟨_, _, rfl, hw⟩
  · obtain ⟨l, a, rfl, hs⟩ := hi
    unfold dynposlaw19_RosterExact_L4
    simp only [dF (c := ((3 : Nat) : Int) < 3) (by omega), Bool.false_eq_true, if_false]
    exact wp_some.2 ⟨_, _, rfl, hs⟩
abbrev Wd := Int × Int × Int × Int × Int × Int × List Int × Int × List Breaker × List Source × List Consumer × List Bool × List Running × List Int × List Part
theorem exactR3 (hb : SmB b) (hp : SmP p) (bus tm : Int) (t : Table) (r : Roster) (wd : Wd) (x y z : Int × List Int × Int) {l : List Int} {a : Int} (hs : Sr l a) :
    Wp (loopO (dynposlaw19_RosterExact_L3 t r bus tm wd b p x y z) (0, l, a)) fun z => ∃ l a, z = .inl (l, a) ∧ Sr l a := by
  refine wp_upto 3 (fun k s => ∃ l a, s = ((k : Int), l, a) ∧ Sr l a) ⟨_, _, rfl, hs⟩ (fun j s hj hi => ?_) (fun s hi => ?_) (by omega)
  · obtain ⟨l, a, rfl, hs⟩ := hi
    obtain ⟨u, hu⟩ : ∃ u, idx [Table.mk wd.2.2.2.1 wd.2.2.2.2.1 wd.2.2.2.2.2.1, t, Table.mk x.1 y.1 z.1] (j : Int) = some u := ⟨_, idx_gt (l := [Table.mk wd.2.2.2.1 wd.2.2.2.2.1 wd.2.2.2.2.2.1, t, Table.mk x.1 y.1 z.1]) (by simpa using hj)⟩
    unfold dynposlaw19_RosterExact_L3
    simp only [dT (c := (j : Int) < 3) (by omega), if_true, hu, Option.bind_some, valid_eq, refvalid_eq, beq_self_eq_true, Bool.not_true, Bool.false_eq_true, if_false]
    refine (wpN hs (n := 5) (by omega) (by omega)).bind fun y hy => ?_
    refine (exactR4 hb hp bus tm u r y hy.2).bind fun w hw => ?_
    obtain ⟨l1, a1, rfl, hw⟩ := hw
    simp only [Sum.elim_inl]
    rw [W_succ (by omega)]
    exact wp_some.2 ⟨_, _, rfl, hw⟩
  · obtain ⟨l, a, rfl, hs⟩ := hi
    unfold dynposlaw19_RosterExact_L3
    simp only [dF (c := ((3 : Nat) : Int) < 3) (by omega), Bool.false_eq_true, if_false]
    exact wp_some.2 ⟨_, _, rfl, hs⟩
end
theorem exactR2 {b : Board} (hb : SmB b) {p0 p1 odd : Power} (h0 : SmP p0) (h1 : SmP p1) (h2 : SmP odd) (bus tm : Int) (t : Table) (r : Roster) (n1 n2 n3 n4 n5 n6 : Int) (xl : List Int) (xa : Int) (B : List Breaker) (S : List Source) (C : List Consumer) (yl : List Int) (ya : Int) {l : List Int} {a : Int} (hs : Sr l a) :
    Wp (loopO (dynposlaw19_RosterExact_L2 odd t r bus tm (n1, n2, n3, n4, n5, n6, xl, xa, B, S, C, p0.Closed, p0.Sources, p0.Limits, p0.Broken) b (yl, ya, p1.Closed, p1.Sources, p1.Limits, p1.Broken)) (0, l, a)) fun z => ∃ l a, z = .inl (l, a) ∧ Sr l a := by
  refine wp_upto 3 (fun k s => ∃ l a, s = ((k : Int), l, a) ∧ Sr l a) ⟨_, _, rfl, hs⟩ (fun j s hj hi => ?_) (fun s hi => ?_) (by omega)
  · obtain ⟨l, a, rfl, hs⟩ := hi
    obtain ⟨u, hu, hus⟩ : ∃ u, idx [p0, p1, odd] (j : Int) = some u ∧ SmP u := by
      rcases j with _ | _ | _ | j
      · exact ⟨p0, rfl, h0⟩
      · exact ⟨p1, rfl, h1⟩
      · exact ⟨odd, rfl, h2⟩
      · omega
    have hu' : idx [Power.mk p0.Closed p0.Sources p0.Limits p0.Broken, Power.mk p1.Closed p1.Sources p1.Limits p1.Broken, odd] (j : Int) = some u := hu
    unfold dynposlaw19_RosterExact_L2
    simp only [dT (c := (j : Int) < 3) (by omega), if_true, hu', Option.bind_some]
    refine (wpRange hs (lo := -1) (hi := 102) (by omega) (by omega) (by omega) (by omega)).bind fun x hx => ?_
    refine (wpRange hx.2 (lo := -1) (hi := 100) (by omega) (by omega) (by omega) (by omega)).bind fun y hy => ?_
    refine (wpN hy.2 (n := 4) (by omega) (by omega)).bind fun z hz => ?_
    refine (exactR3 hb hus bus tm t r _ x y z hz.2).bind fun w hw => ?_
    obtain ⟨l1, a1, rfl, hw⟩ := hw
    simp only [Sum.elim_inl]
    rw [W_succ (by omega)]
    exact wp_some.2 ⟨_, _, rfl, hw⟩
  · obtain ⟨l, a, rfl, hs⟩ := hi
    unfold dynposlaw19_RosterExact_L2
    simp only [dF (c := ((3 : Nat) : Int) < 3) (by omega), Bool.false_eq_true, if_false]
    exact wp_some.2 ⟨_, _, rfl, hs⟩
theorem saneR : dynposlaw19_sane = some true := by kernel_rfl
theorem law_RosterExact (t : List Int) (raw : Board) (odd : Power) (table : Table) (r : Roster) (bus time : Int) (hl : raw.Consumers.length ≤ maxLen) : dynposlaw19_RosterExact t raw odd table r bus time = some true := by
  refine Wp.true' ?_
  unfold dynposlaw19_RosterExact
  obtain ⟨c, hr, hsm⟩ := small_eq (b := raw) (p := odd) (Nat.le_trans hl (by decide))
  simp only [hr, saneR, Option.bind_some]
  cases c with
  | false => exact wp_some.2 rfl
  | true =>
  simp only [Bool.not_true, Bool.false_eq_true, if_false]
  obtain ⟨hrs, hos⟩ := hsm rfl
  refine (wpNew t).bind fun s hs => ?_
  obtain ⟨l0, a0⟩ := s
  refine (wpWorld hs).bind fun x3 h3 => ?_
  obtain ⟨b, tb, p, l1, a1, rfl, hg, hvt, hs1, hps, h0, _⟩ := h3
  have hsb := hg.sm
  obtain ⟨⟨hlm, hbg⟩, ⟨s1, s2, s3⟩, g1, _⟩ := stt_zero.1 h0
  have gb := hg.brk
  have gs := hg.src
  have gc := hg.con
  have gk := g1.2
  have hloop : Wp (loopO (dynposlaw19_RosterExact_L1 raw odd table r bus time (b.Buses, b.Phase, b.Frequency, tb.Start, tb.Stop, tb.Delay, l1, a1, b.Breakers, b.Sources, b.Consumers, p.Closed, p.Sources, p.Limits, p.Broken)) (0, l1, a1)) fun r => ∃ x, r = .inl x := by
    refine wp_upto 2 (fun k s => ∃ l a, s = ((k : Int), l, a) ∧ Sr l a) ⟨_, _, rfl, hs1⟩ (fun k s hk hi => ?_) (fun s hi => ?_) (by omega)
    · obtain ⟨l, a, rfl, hs⟩ := hi
      obtain ⟨x, hx, hxs⟩ : ∃ x, idx [b, raw] (k : Int) = some x ∧ SmB x := by
        rcases k with _ | _ | k
        · exact ⟨_, rfl, hsb⟩
        · exact ⟨_, rfl, hrs⟩
        · omega
      have hx' : idx [Board.mk b.Buses b.Breakers b.Sources b.Consumers b.Phase b.Frequency, raw] (k : Int) = some x := hx
      unfold dynposlaw19_RosterExact_L1
      simp only [dT (c := (k : Int) < 2) (by omega), if_true, hx', Option.bind_some]
      refine (wpBentPower hs (p := ⟨p.Closed, p.Sources, p.Limits, p.Broken⟩) (by simp only; omega) (by simp only; omega) (by simp only; omega) (by simp only; omega)).bind fun y hy => ?_
      obtain ⟨l', a', c', r', m', k'⟩ := y
      simp only at hy ⊢
      refine (exactR2 hxs (p0 := p) (p1 := ⟨c', r', m', k'⟩) (odd := odd) hps hy.2 hos bus time table r _ _ _ _ _ _ l1 a1 _ _ _ l' a' hy.1).bind fun z hz => ?_
      obtain ⟨l'', a'', rfl, hz⟩ := hz
      simp only [Sum.elim_inl]
      rw [W_succ (by omega)]
      exact wp_some.2 ⟨_, _, rfl, hz⟩
    · obtain ⟨l, a, rfl, hs⟩ := hi
      unfold dynposlaw19_RosterExact_L1
      simp only [dF (c := ((2 : Nat) : Int) < 2) (by omega), Bool.false_eq_true, if_false]
      exact wp_some.2 ⟨_, rfl⟩
  refine hloop.bind fun r hr => ?_
  obtain ⟨x, rfl⟩ := hr
  exact wp_some.2 rfl
end Rx
end Go.Proofs.Ytcekgnnekooohaa
