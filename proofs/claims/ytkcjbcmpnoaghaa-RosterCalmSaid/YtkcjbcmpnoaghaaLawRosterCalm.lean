/- The law RosterCalm, plainly. -/
import Derived.Test.YtkcjbcmpnoaghaaY4
import Derived.KernelRfl
set_option linter.unusedVariables false
set_option linter.unusedSimpArgs false
namespace Go.Proofs.Ytkcjbcmpnoaghaa
open Go Go.RowKit Dp
namespace Rx
theorem sane19c : dynposlaw19_sane = some true := by kernel_rfl
open Classical
theorem idx_oneC (x : Int) : idx [x] 0 = some x := rfl

section
variable {b : Board} {p : Power}
/-- the island behind the opening -/
theorem calm_isle (h : stt b p = 0) {t : Table} {k : Int} (k0 : 0 ≤ k) (k1 : k < b.Buses) {j : Nat} (hj : LowOk b p t (isleOf b p k) j) (h2 : 2 ≤ (isleOf b p k).Sources.length) :
    (conn b p (j : Int)).2 = true ∧ (0 ≤ (conn b p (j : Int)).1 ∧ (conn b p (j : Int)).1 < b.Buses) ∧ (isleOf b (opn b p j) (conn b p (j : Int)).1).Sources ≠ [] ∧ rateI b (isleOf b (opn b p j) (conn b p (j : Int)).1) = rateI b (isleOf b p k) - (gt b.Sources j).Rating ∧
      loadI (opn b p j) (isleOf b (opn b p j) (conn b p (j : Int)).1) = loadI p (isleOf b p k) := by
  obtain ⟨⟨hl, hg⟩, ⟨s1, s2, s3⟩, _⟩ := stt_zero.1 h
  obtain ⟨hjl, hm, hbk, hlow⟩ := hj
  obtain ⟨q, hq, hc, hgr, e⟩ := mem_src.1 hm
  have : j = q := by omega
  subst this
  have hbd := conn_bd hg.1 hc
  have e1 : isleOf b (opn b p j) (conn b p (j : Int)).1 = ⟨(isleOf b p k).Buses, (isleOf b p k).Sources.filter (fun x => !(x == (j : Int))), (isleOf b p k).Consumers⟩ := by
    show isle b (opn b p j) (gt (grp b (opn b p j)) (conn b p (j : Int)).1.toNat).toNat = _
    rw [opn_grp hg.1 hjl, hgr, Int.toNat_natCast, opn_isle hg.1 hjl s1 s2]
    rfl
  have hnd : (isleOf b p k).Sources.Nodup := isle_src_nodup _
  have hne : (isleOf b p k).Sources.filter (fun x => !(x == (j : Int))) ≠ [] := by
    generalize (isleOf b p k).Sources = l at *
    match l, h2, hnd with
    | x :: y :: r, _, hnd =>
      have hxy : x ≠ y := fun e => (List.nodup_cons.1 hnd).1 (by rw [e]; simp)
      by_cases ex : x = (j : Int)
      · have ey : y ≠ (j : Int) := fun e => hxy (ex.trans e.symm)
        exact List.ne_nil_of_mem (a := y) (List.mem_filter.2 ⟨by simp, by simpa using ey⟩)
      · exact List.ne_nil_of_mem (a := x) (List.mem_filter.2 ⟨by simp, by simpa using ex⟩)
  refine ⟨hc, hbd, by rw [e1]; exact hne, ?_, ?_⟩
  · rw [e1]
    unfold rateI
    rw [sumF_erase _ _ hnd hm, Int.toNat_natCast]
  · rw [e1]
    unfold loadI
    rw [if_neg hne, if_neg (List.ne_nil_of_mem hm)]
    rfl
theorem calm_acts {t : Table} {k : Int} {r : Roster} {l : List Act} (hd : t.Delay = 4) (hr : (r.High = -1 ∨ 7 ≤ r.High) ∧ (r.Low = -1 ∨ 7 ≤ r.Low)) (ha : Acts b p t k r 10 l) : l = [] := by
  have due : ∀ {old : Int}, (old = -1 ∨ 7 ≤ old) → ¬ Due t old 10 := by
    rintro old ho ⟨v, hv, hne, hle⟩
    rw [hd] at hle
    omega
  rcases ha with h | ⟨j, _, _, h, _⟩ | ⟨j, _, _, h, _⟩
  · exact h
  · exact (due hr.1 h).elim
  · exact (due hr.2 h).elim

abbrev WC := Int × Int × Int × Int × Int × Int × (List Int) × Int × (List Breaker) × (List Source) × (List Consumer) × (List Bool) × (List Running) × (List Int) × (List Part)
theorem calm_out (hb : SmB b) (hp : SmP p) (h : stt b p = 0) {x2 : WC} (hB : Board.mk x2.1 x2.2.2.2.2.2.2.2.2.1 x2.2.2.2.2.2.2.2.2.2.1 x2.2.2.2.2.2.2.2.2.2.2.1 x2.2.1 x2.2.2.1 = b) (hn : x2.1 = b.Buses) {t : Table} (hv : vT t) {l : List Int} {a : Int} (hs : Sr l a) :
    Wp (loopO (dynposlaw19_RosterCalm_L1 x2) (0, l, a, p.Closed, p.Sources, p.Limits, p.Broken, t.Start, t.Stop, t.Delay)) fun r => ∃ y, r = .inl y := by
  obtain ⟨⟨hl, hg⟩, ⟨s1, s2, s3⟩, _⟩ := stt_zero.1 h
  have hchk : chk b = 0 := chk_zero.2 ⟨hl, hg⟩
  obtain ⟨n, hnn⟩ := Int.eq_ofNat_of_zero_le (show 0 ≤ b.Buses by have := hl.bus; omega)
  have hnn : b.Buses = (n : Int) := hnn
  have hn6 : n ≤ 6 := by have := hl.bus; omega
  have pw : (⟨p.Closed, p.Sources, p.Limits, p.Broken⟩ : Power) = p := rfl
  refine wp_upto (step := dynposlaw19_RosterCalm_L1 x2) n (fun k s => ∃ l a d, Sr l a ∧ vT ⟨t.Start, t.Stop, d⟩ ∧ s = ((k : Int), l, a, p.Closed, p.Sources, p.Limits, p.Broken, t.Start, t.Stop, d)) ⟨l, a, t.Delay, hs, hv, rfl⟩ ?_ ?_ (by omega)
  · rintro k s hk ⟨l, a, d, hs, hv, rfl⟩
    have k0 : 0 ≤ (k : Int) := by omega
    have k1 : (k : Int) < b.Buses := by omega
    obtain ⟨y, hy⟩ : ∃ y : Table, y = ⟨t.Start, t.Stop, d⟩ := ⟨_, rfl⟩
    have hlt : decide ((k : Int) < x2.1) = true := dT (by rw [hn]; exact k1)
    have hv4 : vT ⟨t.Start, t.Stop, 4⟩ := ⟨hv.1, hv.2.1, by simp⟩
    obtain ⟨x4, e4, h4⟩ := wpLow hb hp h y k0 k1
    simp only [dynposlaw19_RosterCalm_L1, hlt, if_true, hB, pw]
    rw [← hy, e4]
    simp only [Option.bind_some]
    refine Wp.bindE (x := .inl (p.Closed, p.Sources, p.Limits, p.Broken)) ?_ ?_
    · cases hx : x4.2 with
      | false => rfl
      | true =>
        obtain ⟨⟨hvy, hlen⟩, j, ej, hj⟩ := h4 hx
        obtain ⟨c1, ⟨c2, c3⟩, c4, c5, c6⟩ := calm_isle h k0 k1 hj hlen
        obtain ⟨b1, b2, b3⟩ := bk_spec hg.1 hj.1
        have hbc : bk b j < p.Closed.length := by omega
        have hso : setO p.Closed (bk b j : Int) false = some (p.Closed.set (bk b j) false) := setO_nat hbc false
        have hcB : connB b p (j : Int) = conn b p (j : Int) := by unfold connB; rw [if_pos h]
        have hop : (⟨p.Closed.set (bk b j) false, p.Sources, p.Limits, p.Broken⟩ : Power) = opn b p j := rfl
        have hq0 := opn_stt h hj.1
        have hqs := opn_sm (b := b) hp (j := j)
        obtain ⟨⟨l1, l2⟩, l3, l4⟩ := isle_bd h k0 k1
        obtain ⟨⟨m1, m2⟩, m3, m4⟩ := isle_bd hq0 c2 c3
        obtain ⟨r1, r2⟩ := rat_bd h hj.1
        obtain ⟨⟨v1, v2⟩, ⟨v3, v4⟩, v5⟩ := hvy
        have hlow := hj.2.2.2
        rw [← c5, ← c6] at hlow
        have n1 : y.Stop * rateI b (isleOf b (opn b p j) (conn b p (j : Int)).1) ≤ y.Start * rateI b (isleOf b (opn b p j) (conn b p (j : Int)).1) := Int.mul_le_mul_of_nonneg_right (by omega) m3
        have n2 : y.Stop * rateI b (isleOf b (opn b p j) (conn b p (j : Int)).1) ≤ 99 * rateI b (isleOf b (opn b p j) (conn b p (j : Int)).1) := Int.mul_le_mul_of_nonneg_right (by omega) m3
        have n3 : y.Start * rateI b (isleOf b (opn b p j) (conn b p (j : Int)).1) ≤ y.Start * rateI b (isleOf b p (k : Int)) := Int.mul_le_mul_of_nonneg_left (by omega) (by omega)
        have hi1 : ¬ Hi b (opn b p j) y (isleOf b (opn b p j) (conn b p (j : Int)).1) := fun hh => by have := hh.2.2; omega
        have hi2 : ¬ Hi b p y (isleOf b p (k : Int)) := fun hh => by have := hh.2.2; omega
        have g1 : roster_High b y (opn b p j) (conn b p (j : Int)).1 = some false := by rw [high_eq hb hqs hq0 y c2 c3, dF hi1]
        have g4 : roster_High b y p (k : Int) = some false := by rw [high_eq hb hp h y k0 k1, dF hi2]
        have g2 : dynposref17_Overloaded b (opn b p j) (conn b p (j : Int)).1 = some false := by
          unfold dynposref17_Overloaded
          rw [refload_eq hb hqs hq0 c2 c3, refrating_eq hb hqs hq0 c2 c3]
          simp only [Option.bind_some]
          rw [dF (by omega)]
        have g3 : dynposref15_Live b (opn b p j) (conn b p (j : Int)).1 = some true := by
          unfold dynposref15_Live
          rw [refof_isle hb hqs, ofR, ofB_in' hq0 c2 c3]
          have : len (isleOf b (opn b p j) (conn b p (j : Int)).1).Sources > 0 := by
            have := List.length_pos_iff.2 c4
            unfold len
            omega
          simp only [Option.bind_some, if_true, dT this]
        simp only [if_true, refcopy_eq hp, ej, refFind_eq hb hchk hj.1, idx_oneC, idx_gt hbc, hso, pw, refconn_eq hb hp, hcB, hop, g1, g2, g3, g4, Option.bind_some, Bool.false_eq_true, if_false, Bool.not_true]
    · simp only [Sum.elim_inl]
      refine (wpRange hs (lo := 7) (hi := 10) (by omega) (by omega) (by omega) (by omega)).bind fun x19 h19 => ?_
      refine (wpRange h19.2 (lo := 7) (hi := 10) (by omega) (by omega) (by omega) (by omega)).bind fun x20 h20 => ?_
      rw [pw]
      refine (wpStep hb hp h hv4 k0 k1 (tm := 10) (by omega) (by omega) (r := ⟨x19.1, x20.1⟩) (by dsimp only; omega)).bind fun x21 h21 => ?_
      refine (wpStep hb hp h hv4 k0 k1 (tm := 10) (by omega) (by omega) (r := ⟨-1, -1⟩) (by dsimp only; omega)).bind fun x22 h22 => ?_
      have a1 := calm_acts (t := ⟨t.Start, t.Stop, 4⟩) rfl (by dsimp only; omega) h21.2.1
      have a2 := calm_acts (t := ⟨t.Start, t.Stop, 4⟩) rfl (by dsimp only; omega) h22.2.1
      simp only [h21.1, h22.1, a1, a2, bne_self_eq_false, Bool.false_eq_true, if_false, show decide (len ([] : List Act) > 0) = false from rfl, Option.bind_some, W_succ (show k < 1000000000000000000 by omega)]
      exact wp_some.2 ⟨_, _, 4, h20.2, hv4, rfl⟩
  · rintro s ⟨l, a, d, hs, hv, rfl⟩
    have hlt : decide ((n : Int) < x2.1) = false := dF (by rw [hn]; omega)
    simp only [dynposlaw19_RosterCalm_L1, hlt, Bool.false_eq_true, if_false]
    exact wp_some.2 ⟨_, rfl⟩
end
theorem law_RosterCalm (t : List Int) : dynposlaw19_RosterCalm t = some true := by
  unfold dynposlaw19_RosterCalm
  obtain ⟨⟨l, a⟩, e0, hs⟩ := wpNew t
  obtain ⟨r, e1, b, tb, p, l1, a1, rfl, hb, hv, hs1, hp, h0, hf⟩ := wpWorld hs
  obtain ⟨x, e2, y, rfl⟩ := calm_out hb.sm hp h0 (x2 := (b.Buses, b.Phase, b.Frequency, tb.Start, tb.Stop, tb.Delay, l1, a1, b.Breakers, b.Sources, b.Consumers, p.Closed, p.Sources, p.Limits, p.Broken)) rfl rfl hv hs1
  simp only [e0, e1, Option.bind_some, e2, Sum.elim_inl, sane19c]
end Rx
end Go.Proofs.Ytkcjbcmpnoaghaa
