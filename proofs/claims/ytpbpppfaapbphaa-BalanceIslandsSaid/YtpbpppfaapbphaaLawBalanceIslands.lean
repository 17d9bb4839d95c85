/- The law BalanceIslands, plainly. -/
import Derived.Test.YtpbpppfaapbphaaB2
import Derived.KernelRfl
set_option linter.unusedVariables false
set_option linter.unusedSimpArgs false
namespace Go.Proofs.Ytpbpppfaapbphaa
open Go Go.RowKit Dp
namespace Rx
theorem sane17 : dynposlaw17_sane = some true := by kernel_rfl

section
variable {b : Board} {p : Power}
/-- a generator in an island: the island is the one of its bus -/
theorem src_in (h : stt b p = 0) {k : Nat} (hk : k < (isl b p).length) {c : Int} (hc : c ∈ (gt (isl b p) k).Sources) : ∃ j : Nat, c = (j : Int) ∧ j < b.Sources.length ∧ (conn b p (j : Int)).2 = true ∧ ∃ f, gt (isl b p) k = isle b p f ∧ gt (grp b p) (conn b p (j : Int)).1.toNat = (f : Int) := by
  obtain ⟨f, hf, e, hne⟩ := mem_isl.1 (gt_mem hk)
  rw [e] at hc
  obtain ⟨j, hj, h1, h2, h3⟩ := mem_src.1 hc
  exact ⟨j, h3, hj, h1, f, e, h2⟩
theorem isl_inj (h : stt b p = 0) {i k : Nat} (hi : i < (isl b p).length) (hk : k < (isl b p).length) (e : gt (isl b p) i = gt (isl b p) k) : i = k := by
  obtain ⟨⟨hl, hg⟩, _⟩ := stt_zero.1 h
  have hnd : (isl b p).Nodup := by
    rw [isl_filter, List.Nodup, List.pairwise_map]
    refine ((List.pairwise_lt_range (n := b.Buses.toNat)).filter _).imp_of_mem ?_
    intro x y hx hy hxy he
    have hx := List.mem_filter.1 hx
    have hy := List.mem_filter.1 hy
    have r1 := (isle_root (p := p) hg.1 (List.mem_range.1 hx.1)).1 (by simpa using hx.2)
    have r2 := (isle_root (p := p) hg.1 (List.mem_range.1 hy.1)).1 (by simpa using hy.2)
    have : (x : Int) ∈ (isle b p y).Buses := by rw [← he]; exact mem_bus.2 ⟨x, List.mem_range.1 hx.1, r1, rfl⟩
    obtain ⟨z, _, h1, h2⟩ := mem_bus.1 this
    have : z = x := by omega
    subst this
    rw [r1] at h1
    omega
  rw [gt_get hi, gt_get hk] at e
  rcases Nat.lt_trichotomy i k with h1 | h1 | h1
  · exact ((List.pairwise_iff_getElem.1 hnd) i k hi hk h1 e).elim
  · exact h1
  · exact ((List.pairwise_iff_getElem.1 hnd) k i hk hi h1 e.symm).elim
theorem src_apart (h : stt b p = 0) {i k : Nat} (hi : i < (isl b p).length) (hk : k < (isl b p).length) {c : Int} (h1 : c ∈ (gt (isl b p) i).Sources) (h2 : c ∈ (gt (isl b p) k).Sources) : i = k := by
  obtain ⟨j, e1, _, _, f, e2, e3⟩ := src_in h hi h1
  obtain ⟨j', e1', _, _, f', e2', e3'⟩ := src_in h hk h2
  have : j = j' := by omega
  subst this
  refine isl_inj h hi hk ?_
  rw [e2, e2']
  rw [e3] at e3'
  have : f = f' := by omega
  rw [this]
/-- where the loads stand in the end -/
theorem all_spec (h : stt b p = 0) : ∀ k, k ≤ (isl b p).length → (∀ i, i < k → ∀ q, q < (gt (isl b p) i).Sources.length → gt (allI b p k) (gt (gt (isl b p) i).Sources q).toNat = gt (shareI b p (gt (isl b p) i)) q) ∧
    ∀ j : Nat, (∀ i, i < k → ¬ (j : Int) ∈ (gt (isl b p) i).Sources) → gt (allI b p k) j = 0
  | 0, _ => ⟨fun i hi => absurd hi (Nat.not_lt_zero _), fun j _ => by
    show gt (List.replicate b.Sources.length 0) j = 0
    unfold gt
    rw [List.getD_eq_getElem?_getD, List.getElem?_replicate]
    split <;> rfl⟩
  | k + 1, hk => by
    obtain ⟨⟨hl, hg⟩, _⟩ := stt_zero.1 h
    obtain ⟨i1, i2⟩ := all_spec h k (by omega)
    have hx := gt_mem (l := isl b p) (k := k) (by omega)
    obtain ⟨f, hf, ef, _⟩ := mem_isl.1 hx
    have hnd : (gt (isl b p) k).Sources.Nodup := by rw [ef]; exact isle_src_nodup f
    obtain ⟨p1, p2⟩ := putI_gt (x := gt (isl b p) k) (l := shareI b p (gt (isl b p) k)) (o := allI b p k) hnd (fun c hc => by
      have := (isl_parts hg.1 hx).2.1 c hc
      rw [allI_len]
      exact this) (gt (isl b p) k).Sources.length (Nat.le_refl _)
    rw [allI_succ]
    refine ⟨fun i hi q hq => ?_, fun j hj => ?_⟩
    · by_cases hik : i = k
      · subst hik
        exact p1 q hq
      · have hm := gt_mem hq
        obtain ⟨j, ej, _⟩ := src_in h (show i < (isl b p).length by omega) hm
        rw [ej, Int.toNat_natCast, p2 j (fun q' hq' e => hik (src_apart h (by omega) (by omega) hm (by rw [ej, ← e]; exact gt_mem hq')))]
        have := i1 i (by omega) q hq
        rw [ej, Int.toNat_natCast] at this
        exact this
    · rw [p2 j (fun q hq e => hj k (by omega) (by rw [← e]; exact gt_mem hq))]
      exact i2 j fun i hi => hj i (by omega)
theorem bal_inner (hb : SmB b) (hp : SmP p) (h : stt b p = 0) {x2 : Int × Int × Int × List Int × Int × List Breaker × List Source × List Consumer} {x3 : List Int × Int × List Breaker × List Source × List Consumer × List Bool × List Running × List Int × List Part}
    (hB : Board.mk x2.1 x3.2.2.1 b.Sources x3.2.2.2.2.1 x2.2.1 x2.2.2.1 = b) (hS : x3.2.2.2.1 = b.Sources) (hP : Power.mk x3.2.2.2.2.2.1 x3.2.2.2.2.2.2.1 x3.2.2.2.2.2.2.2.1 x3.2.2.2.2.2.2.2.2 = p) (c : Int) {k : Nat} (hk : k < (isl b p).length) :
    loopO (dynposlaw17_BalanceIslands_L2 x2 x3 (c, allI b p (isl b p).length) (gt (isl b p) k)) (0, 0) = some (.inl (loadI p (gt (isl b p) k))) := by
  obtain ⟨⟨hl, hg⟩, ⟨s1, s2, s3⟩, _⟩ := stt_zero.1 h
  have hx := gt_mem hk
  obtain ⟨h1, h2, h3, h4, h5⟩ := isl_parts hg.1 hx
  obtain ⟨f1, f2, f3, f4⟩ := share_facts h hx
  obtain ⟨a1, _⟩ := all_spec h _ (Nat.le_refl (isl b p).length)
  have a1 := a1 k hk
  have hof := isl_of h hx
  have h8 := hl.src
  generalize hxx : gt (isl b p) k = x at *
  have hal := allI_len (b := b) (p := p) (isl b p).length
  generalize ho : allI b p (isl b p).length = o at *
  have hr := loop_run (step := dynposlaw17_BalanceIslands_L2 x2 x3 (c, o) x) (fun i => (sumL ((shareI b p x).take i), (i : Int))) x.Sources.length (r := .inl (loadI p x)) (fun i hi => by
    obtain ⟨c0, c1⟩ := h2 _ (gt_mem hi)
    have hv := a1 i hi
    obtain ⟨s, es⟩ := Int.eq_ofNat_of_zero_le c0
    have es : gt x.Sources i = (s : Int) := es
    rw [es, Int.toNat_natCast] at hv
    have hs : s < o.length := by omega
    have hsb : s < b.Sources.length := by omega
    have hsh : i < (shareI b p x).length := by omega
    have hbd := f3 _ (gt_mem hsh)
    have hsum := sum_bd (l := (shareI b p x).take i) (B := 50000000000) fun y hy => f3 y (List.mem_of_mem_take hy)
    have hln : ((shareI b p x).take i).length ≤ 8 := by simp; omega
    have e6 : W (sumL ((shareI b p x).take i) + gt (shareI b p x) i) = sumL ((shareI b p x).take (i + 1)) := by
      rw [sumL_take hsh, ← gt_get hsh, W_sm (by omega) (by omega)]
    have hover := over_eq hb hp (gt x.Buses 0)
    rw [hof] at hover
    have hle : (if (!decide (rateI b x < loadI p x)) = true then some (decide (gt (shareI b p x) i > (gt b.Sources s).Rating)) else some false) = some false := by
      by_cases hc : rateI b x < loadI p x
      · rw [dT hc]; rfl
      · have := f4 (by omega) i hi
        rw [es, Int.toNat_natCast] at this
        rw [dF hc, dF (show ¬ gt (shareI b p x) i > (gt b.Sources s).Rating by omega)]
        rfl
    simp only [dynposlaw17_BalanceIslands_L2, hS, hB, hP, lt_len hi, if_true, idx_gt hi, es, Option.bind_some, idx_gt hs, hv, show idx x.Buses 0 = some (gt x.Buses 0) from idx_gt h5, hover, idx_gt hsb, hle, Bool.false_eq_true, if_false, e6, W_succ (show i < 1000000000000000000 by omega)]) (by
    simp only [dynposlaw17_BalanceIslands_L2, nlt_len, Bool.false_eq_true, if_false]
    rw [← f1, List.take_length, f2])
  exact hr
theorem bal_outer (hb : SmB b) (hp : SmP p) (h : stt b p = 0) {x2 : Int × Int × Int × List Int × Int × List Breaker × List Source × List Consumer} {x3 : List Int × Int × List Breaker × List Source × List Consumer × List Bool × List Running × List Int × List Part}
    (hB : Board.mk x2.1 x3.2.2.1 b.Sources x3.2.2.2.2.1 x2.2.1 x2.2.2.1 = b) (hS : x3.2.2.2.1 = b.Sources) (hP : Power.mk x3.2.2.2.2.2.1 x3.2.2.2.2.2.2.1 x3.2.2.2.2.2.2.2.1 x3.2.2.2.2.2.2.2.2 = p) (c : Int) :
    loopO (dynposlaw17_BalanceIslands_L1 x2 x3 (c, allI b p (isl b p).length) (isl b p)) 0 = some (.inl ()) ∧ loopO (dynposlaw17_BalanceIslands_L3 x2 x3 (c, allI b p (isl b p).length)) 0 = some (.inl ()) := by
  obtain ⟨⟨hl, hg⟩, ⟨s1, s2, s3⟩, _⟩ := stt_zero.1 h
  have hil := isl_len (b := b) (p := p)
  have hbus := hl.bus
  have h8 := hl.src
  constructor
  · refine loop_run (step := dynposlaw17_BalanceIslands_L1 x2 x3 (c, allI b p (isl b p).length) (isl b p)) (fun k => (k : Int)) (isl b p).length (fun k hk => ?_) (by simp only [dynposlaw17_BalanceIslands_L1, nlt_len, Bool.false_eq_true, if_false])
    have hx := gt_mem hk
    have hb0 := (isl_parts hg.1 hx).2.2.2.2
    have hof := isl_of h hx
    have hld := load_eq hb hp (gt (gt (isl b p) k).Buses 0)
    rw [hof] at hld
    simp only [dynposlaw17_BalanceIslands_L1, lt_len hk, if_true, idx_gt hk, Option.bind_some, bal_inner hb hp h hB hS hP c hk, Sum.elim_inl, show idx (gt (isl b p) k).Buses 0 = some (gt (gt (isl b p) k).Buses 0) from idx_gt hb0, hS, hB, hP, hld, bne_self_eq_false, Bool.false_eq_true, if_false, W_succ (show k < 1000000000000000000 by omega)]
  · have hal := allI_len (b := b) (p := p) (isl b p).length
    obtain ⟨_, a2⟩ := all_spec h _ (Nat.le_refl (isl b p).length)
    refine loop_run (step := dynposlaw17_BalanceIslands_L3 x2 x3 (c, allI b p (isl b p).length)) (fun k => (k : Int)) (allI b p (isl b p).length).length (fun k hk => ?_) (by simp only [dynposlaw17_BalanceIslands_L3, nlt_len, Bool.false_eq_true, if_false])
    have hcb : connB b p (k : Int) = conn b p (k : Int) := by unfold connB; rw [if_pos h]
    have hz : (if (!(conn b p (k : Int)).2) = true then Option.bind (idx (allI b p (isl b p).length) (k : Int)) fun x26 => some (x26 != 0) else some false) = some false := by
      cases hc : (conn b p (k : Int)).2 with
      | true => rfl
      | false =>
        have := a2 k (fun i hi hm => by
          obtain ⟨j, ej, _, hcj, _⟩ := src_in h hi hm
          have : k = j := by omega
          subst this
          rw [hc] at hcj
          cases hcj)
        simp only [Bool.not_false, if_true, idx_gt hk, Option.bind_some, this]
        rfl
    simp only [dynposlaw17_BalanceIslands_L3, lt_len hk, if_true, hS, hB, hP, refconn_eq hb hp, hcb, Option.bind_some, hz, Bool.false_eq_true, if_false, W_succ (show k < 1000000000000000000 by omega)]
end
theorem law_BalanceIslands (t : List Int) : dynposlaw17_BalanceIslands t = some true := by
  unfold dynposlaw17_BalanceIslands
  obtain ⟨⟨l, a⟩, e0, hs⟩ := wpNew t
  obtain ⟨⟨nb, ph, fr, l1, a1, br, S, C⟩, e1, hs1, hb⟩ := wpBoard hs
  simp only at hs1 hb
  obtain ⟨r, e2, l2, a2, cl, run, lim, brk, rfl, hs2, hp⟩ := wpPower hs1 hb
  have hbs := hb.sm
  have hps := hp.sm hb
  have h0 := hp.stt hb
  have hof := of_loads hbs hps h0
  have hri := refislands_eq hbs hps h0
  obtain ⟨o1, o2⟩ := bal_outer (x2 := (nb, ph, fr, l1, a1, br, S, C)) (x3 := (l2, a2, br, S, C, cl, run, lim, brk)) hbs hps h0 rfl rfl rfl 0
  have hlen : (len (allI ⟨nb, br, S, C, ph, fr⟩ ⟨cl, run, lim, brk⟩ (isl ⟨nb, br, S, C, ph, fr⟩ ⟨cl, run, lim, brk⟩).length) != len S) = false := by
    have := allI_len (b := ⟨nb, br, S, C, ph, fr⟩) (p := ⟨cl, run, lim, brk⟩) (isl ⟨nb, br, S, C, ph, fr⟩ ⟨cl, run, lim, brk⟩).length
    exact bneF (by unfold len; rw [this])
  simp only [e0, e1, e2, Option.bind_some, hof, bne_self_eq_false, Bool.false_eq_true, if_false, hlen, hri, o1, o2, Sum.elim_inl, sane17]
end Rx
end Go.Proofs.Ytpbpppfaapbphaa
