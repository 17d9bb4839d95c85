/- The law RosterHelps, plainly. -/
import Derived.Test.YtkcjbcmpnoaghaaY3
import Derived.KernelRfl
set_option linter.unusedVariables false
set_option linter.unusedSimpArgs false
namespace Go.Proofs.Ytkcjbcmpnoaghaa
open Go Go.RowKit Dp
namespace Rx
theorem sane19 : dynposlaw19_sane = some true := by kernel_rfl
open Classical

section
variable {b : Board} {p : Power}
theorem led_srcY {j k : Nat} (hk : k < b.Breakers.length) (hs : isS (gt b.Breakers k) j) (hu : ∀ i, i < b.Breakers.length → isS (gt b.Breakers i) j → i = k) : led b p 2 (j : Int) = if gt p.Closed k = true then ((gt b.Breakers k).A, true) else (0, false) := by
  have hz : ∀ i, i < b.Breakers.length → (ledAt b p 2 (j : Int) i = true ↔ i = k ∧ gt p.Closed k = true) := fun i hi => by
    unfold ledAt
    simp only [Bool.and_eq_true, beq_iff_eq]
    constructor
    · rintro ⟨⟨h1, h2⟩, h3⟩
      have := hu i hi ⟨h1, h2⟩
      subst this
      exact ⟨rfl, h3⟩
    · rintro ⟨rfl, h3⟩
      exact ⟨⟨hs.1, hs.2⟩, h3⟩
  unfold led
  cases hf : (List.range b.Breakers.length).find? (ledAt b p 2 (j : Int)) with
  | none =>
    rw [if_neg]
    intro hc
    have := List.find?_eq_none.1 hf k (List.mem_range.2 hk)
    exact this ((hz k hk).2 ⟨rfl, hc⟩)
  | some i =>
    have hi := List.mem_range.1 (List.mem_of_find?_eq_some hf)
    have hq := (hz i hi).1 (List.find?_some (p := ledAt b p 2 (j : Int)) hf)
    obtain ⟨rfl, hc⟩ := hq
    rw [if_pos hc]
theorem conn_srcY {j k : Nat} (hj : j < p.Sources.length) (hk : k < b.Breakers.length) (hs : isS (gt b.Breakers k) j) (hu : ∀ i, i < b.Breakers.length → isS (gt b.Breakers i) j → i = k) : conn b p (j : Int) = if (gt p.Sources j).State = 2 ∧ gt p.Closed k = true then ((gt b.Breakers k).A, true) else (0, false) := by
  unfold conn
  rw [if_pos ⟨by omega, by omega⟩, Int.toNat_natCast, led_srcY hk hs hu]
  by_cases h1 : (gt p.Sources j).State = 2
  · rw [if_pos h1]
    by_cases h2 : gt p.Closed k = true
    · rw [if_pos h2, if_pos ⟨h1, h2⟩]
    · rw [if_neg h2, if_neg (fun h => h2 h.2)]
  · rw [if_neg h1, if_neg (fun h => h1 h.1)]

theorem mem_isleOf (hb : BrkOk b) {k : Int} {j : Nat} (hj : j < b.Sources.length) (hc : (conn b p (j : Int)).2 = true) (hA : (gt b.Breakers (bk b j)).A ∈ (isleOf b p k).Buses) (hjp : j < p.Sources.length) : (j : Int) ∈ (isleOf b p k).Sources := by
  obtain ⟨k1, k2, k3⟩ := bk_spec hb hj
  obtain ⟨i, hi, h1, h2⟩ := mem_bus.1 hA
  refine mem_src.2 ⟨j, hj, hc, ?_, rfl⟩
  rw [conn_srcY hjp k1 k2 k3] at hc ⊢
  split at hc
  · rename_i hcc
    rw [if_pos hcc, h2, Int.toNat_natCast]
    exact h1
  · cases hc
theorem idx_one (x : Int) : idx [x] 0 = some x := rfl

abbrev WT := Int × Int × Int × Int × Int × Int × (List Int) × Int × (List Breaker) × (List Source) × (List Consumer) × (List Bool) × (List Running) × (List Int) × (List Part)
structure WOk (x2 : WT) (b : Board) (t : Table) (p : Power) : Prop where
  B : Board.mk x2.1 x2.2.2.2.2.2.2.2.2.1 x2.2.2.2.2.2.2.2.2.2.1 x2.2.2.2.2.2.2.2.2.2.2.1 x2.2.1 x2.2.2.1 = b
  T : Table.mk x2.2.2.2.1 x2.2.2.2.2.1 x2.2.2.2.2.2.1 = t
  P : Power.mk x2.2.2.2.2.2.2.2.2.2.2.2.1 x2.2.2.2.2.2.2.2.2.2.2.2.2.1 x2.2.2.2.2.2.2.2.2.2.2.2.2.2.1 x2.2.2.2.2.2.2.2.2.2.2.2.2.2.2 = p
  n : x2.1 = b.Buses
  br : x2.2.2.2.2.2.2.2.2.1 = b.Breakers
  run : x2.2.2.2.2.2.2.2.2.2.2.2.2.1 = p.Sources

theorem helps_in (hb : SmB b) (hp : SmP p) (h : stt b p = 0) {t : Table} {x2 : WT} (hw : WOk x2 b t p) {k : Int} (h0 : 0 ≤ k) (h1 : k < b.Buses) {j : Nat} (hj : NextOk b p (isleOf b p k) j) : loopO (dynposlaw19_RosterHelps_L2 x2 (true, (isleOf b p k).Buses, (isleOf b p k).Sources, (isleOf b p k).Consumers) ((j : Int), true)) 0 = some (.inl ()) := by
  obtain ⟨⟨hl, hg⟩, ⟨s1, s2, s3⟩, _⟩ := stt_zero.1 h
  obtain ⟨m1, m2, _⟩ := isle_sm (p := p) hl (gt (grp b p) k.toNat).toNat
  have m1 : Sm (isleOf b p k).Buses := m1
  have hchk : chk b = 0 := chk_zero.2 ⟨hl, hg⟩
  have hsm := hp.2.1
  refine loop_run (step := dynposlaw19_RosterHelps_L2 x2 (true, (isleOf b p k).Buses, (isleOf b p k).Sources, (isleOf b p k).Consumers) ((j : Int), true)) (fun i => (i : Int)) p.Sources.length (r := .inl ()) (fun i hi => ?_) ?_
  · have hib : i < b.Sources.length := by omega
    obtain ⟨k1, k2, k3⟩ := bk_spec hg.1 hib
    have hc : connB b p (i : Int) = conn b p (i : Int) := by unfold connB; rw [if_pos h]
    have hjp : j < p.Sources.length := by have := hj.1; omega
    simp only [dynposlaw19_RosterHelps_L2, hw.B, hw.P]
    simp only [hw.br, hw.run, lt_len hi, if_true, idx_gt hi, Option.bind_some, refFind_eq hb hchk hib, idx_one, refconn_eq hb hp, hc, refBroken_eq hp, idx_gt k1, has_eq m1, idx_gt hjp]
    refine (congrArg (fun z => Option.bind z _) (?_ : _ = some false)).trans ?_
    · by_cases a1 : (gt p.Sources i).State = 2
      case neg => simp [a1]
      cases a2 : (conn b p (i : Int)).2 with
      | true => simp [a1]
      | false =>
      by_cases a3 : (⟨1, (i : Int)⟩ : Part) ∈ p.Broken
      · simp [a1, a3]
      by_cases a4 : (⟨2, (bk b i : Int)⟩ : Part) ∈ p.Broken
      · simp [a1, a3, a4]
      by_cases a5 : (⟨3, (gt b.Breakers (bk b i)).A⟩ : Part) ∈ p.Broken
      · simp [a1, a3, a4, a5]
      by_cases a6 : (gt b.Breakers (bk b i)).A ∈ (isleOf b p k).Buses
      case neg => simp [a1, a3, a4, a5, a6]
      have hns : ¬ (i : Int) ∈ (isleOf b p k).Sources := fun hm => by
        obtain ⟨q, _, hq, _, e⟩ := mem_src.1 hm
        have : i = q := by omega
        subst this
        rw [hq] at a2
        cases a2
      have hh : hlp b p (isleOf b p k) i := ⟨⟨a3, a4, a5⟩, a6, hns, by omega⟩
      obtain ⟨n1, n2⟩ := hj.2.2 i hib a1 hh
      have n3 : ¬ ((i : Int) < (j : Int)) := by omega
      simp [a1, a3, a4, a5, a6, n1, n3]
    · simp only [Option.bind_some, Bool.false_eq_true, if_false, W_succ (sm_lt hsm hi)]
  · simp only [dynposlaw19_RosterHelps_L2, hw.run, nlt_len, Bool.false_eq_true, if_false]

theorem helps_out (hb : SmB b) (hp : SmP p) (h : stt b p = 0) {t : Table} (hv : vT t) {x2 : WT} (hw : WOk x2 b t p) : loopO (dynposlaw19_RosterHelps_L1 x2) 0 = some (.inl ()) := by
  obtain ⟨⟨hl, hg⟩, ⟨s1, s2, s3⟩, _⟩ := stt_zero.1 h
  have hchk : chk b = 0 := chk_zero.2 ⟨hl, hg⟩
  obtain ⟨n, hn⟩ := Int.eq_ofNat_of_zero_le (show 0 ≤ b.Buses by have := hl.bus; omega)
  have hn : b.Buses = (n : Int) := hn
  have hn6 : n ≤ 6 := by have := hl.bus; omega
  refine loop_run (step := dynposlaw19_RosterHelps_L1 x2) (fun i => (i : Int)) n (r := .inl ()) (fun k hk => ?_) ?_
  · have h0 : 0 ≤ (k : Int) := by omega
    have h1 : (k : Int) < b.Buses := by omega
    obtain ⟨m1, m2, _⟩ := isle_sm (p := p) hl (gt (grp b p) (k : Int).toNat).toNat
    have m1 : Sm (isleOf b p (k : Int)).Buses := m1
    obtain ⟨x5, e5, hx5⟩ := wpNext hb hp h h0 h1
    obtain ⟨x32, e32, q1, q2, q3⟩ := wpStep hb hp h hv h0 h1 (tm := 10) (by omega) (by omega) (r := ⟨1, 1⟩) (by simp)
    have hof : dynposref15_Of b p (k : Int) = some (true, (isleOf b p k).Buses, (isleOf b p k).Sources, (isleOf b p k).Consumers) := by
      rw [refof_isle hb hp, ofR, ofB_in' h h0 h1]
    have hstep : (Option.bind (roster_Step b t p (k : Int) 10 (Roster.mk 1 1)) fun x32 =>
                Option.bind
                  (if (x32.2.2.1 != 0) = true then some true
                  else
                    if (len (isleOf b p k).Sources == 0) = true then
                      if decide (len x32.2.2.2 > 0) = true then some true
                      else some !(x32.1 == (-1) && x32.2.1 == (-1))
                    else some false)
                  fun x33 =>
                  if x33 = true then some (.inr (.inr false)) else some (.inl (W ((k : Int) + 1)))) = (some (.inl ((k + 1 : Nat) : Int)) : Option (Int ⊕ Unit ⊕ Bool)) := by
      rw [e32]
      simp only [Option.bind_some, q1, bne_self_eq_false, Bool.false_eq_true, if_false]
      by_cases hs : (isleOf b p k).Sources = []
      · rw [q3 hs]
        simp only [hs, show (len ([] : List Int) == 0) = true from rfl, if_true, show decide (len ([] : List Act) > 0) = false from rfl, Bool.false_eq_true, if_false, Option.bind_some, beq_self_eq_true, Bool.and_self, Bool.not_true, W_succ (show k < 1000000000000000000 by omega)]
      · have : (len (isleOf b p k).Sources == 0) = false := by
          have := List.length_pos_iff.2 hs
          unfold len
          simp
          exact hs
        simp only [this, Bool.false_eq_true, if_false, Option.bind_some, W_succ (show k < 1000000000000000000 by omega)]
    have hlt : decide ((k : Int) < x2.1) = true := dT (by rw [hw.n]; exact h1)
    simp only [dynposlaw19_RosterHelps_L1, hlt, if_true, hw.B, hw.P, hw.T, hof, e5, Option.bind_some]
    cases hx : x5.2 with
    | false =>
      simp only [Bool.false_eq_true, if_false, Option.bind_some, Sum.elim_inl]
      exact hstep
    | true =>
      obtain ⟨j, ej, hj⟩ := hx5 hx
      obtain ⟨x, y⟩ := x5
      simp only at ej hx
      subst ej hx
      obtain ⟨k1, k2, k3⟩ := bk_spec hg.1 hj.1
      obtain ⟨⟨a1, a2, a3⟩, a4, a5, a6⟩ := hj.2.1
      have hjp : j < p.Sources.length := by have := hj.1; omega
      have hc : connB b p (j : Int) = conn b p (j : Int) := by unfold connB; rw [if_pos h]
      have hc2 : (conn b p (j : Int)).2 = false := by
        cases hcc : (conn b p (j : Int)).2 with
        | false => rfl
        | true => exact (a5 (mem_isleOf hg.1 hj.1 hcc a4 hjp)).elim
      have hin := helps_in hb hp h hw h0 h1 hj
      have e6 : ((gt p.Sources j).State == 3) = false := by simpa using a6
      simp only [if_true, refFind_eq hb hchk hj.1, Option.bind_some, refconn_eq hb hp, hc, hc2, show (len [(bk b j : Int)] != 1) = false from rfl, Bool.false_eq_true, if_false, refBroken_eq hp, dF a1, idx_one, hw.br, idx_gt k1, has_eq m1, dT a4, Bool.not_true, hw.run, idx_gt hjp, e6, hin, Sum.elim_inl]
      exact hstep
  · have hlt : decide ((n : Int) < x2.1) = false := dF (by rw [hw.n]; omega)
    simp only [dynposlaw19_RosterHelps_L1, hlt, Bool.false_eq_true, if_false]
end
theorem law_RosterHelps (t : List Int) : dynposlaw19_RosterHelps t = some true := by
  unfold dynposlaw19_RosterHelps
  obtain ⟨⟨l, a⟩, e0, hs⟩ := wpNew t
  obtain ⟨r, e1, b, tb, p, l1, a1, rfl, hb, hv, hs1, hp, h0, hf⟩ := wpWorld hs
  have hout := helps_out hb.sm hp h0 hv (x2 := (b.Buses, b.Phase, b.Frequency, tb.Start, tb.Stop, tb.Delay, l1, a1, b.Breakers, b.Sources, b.Consumers, p.Closed, p.Sources, p.Limits, p.Broken)) ⟨rfl, rfl, rfl, rfl, rfl, rfl⟩
  simp only [e0, e1, Option.bind_some, hout, Sum.elim_inl, sane19]
end Rx
end Go.Proofs.Ytkcjbcmpnoaghaa
