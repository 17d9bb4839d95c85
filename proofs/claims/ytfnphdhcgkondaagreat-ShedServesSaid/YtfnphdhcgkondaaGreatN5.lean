/- The reference's islands, and what is connected and fed by it, answer as the board's. Plain laws. -/
import Derived.Test.YtfnphdhcgkondaaGreatN4
set_option linter.unusedVariables false
set_option linter.unusedSimpArgs false
namespace Go.Proofs.YtfnphdhcgkondaaGreat
open Go Go.RowKit Dp
namespace Rx
open Classical

theorem list_gt {α : Type} [Rep α] (l : List α) : (List.range l.length).map (gt l) = l := by
  apply ext_gt
  · simp
  · intro k hk
    have hk' : k < l.length := by simpa using hk
    rw [gt_map_range _ hk']
theorem find_gt {α : Type} [Rep α] (l : List α) (P : α → Bool) : l.find? P = ((List.range l.length).find? fun q => P (gt l q)).map (gt l) := by
  have h := congrArg (List.find? P) (list_gt l)
  rw [List.find?_map] at h
  exact h.symm
theorem find_rangeF (F : Nat → Bool) (P : Int → Bool) (n : Nat) : (rangeF F n).find? P = ((List.range n).find? fun k => F k && P (k : Int)).map Int.ofNat := by
  unfold rangeF
  rw [List.find?_map, List.find?_filter]
  congr 2
  funext k
  simp
theorem rangeF_head {P : Nat → Bool} {m : Nat} (hP : P m = true) (hmin : ∀ i, i < m → P i = false) : ∀ n, m < n → 0 < (rangeF P n).length ∧ gt (rangeF P n) 0 = (m : Int)
  | 0, h => by omega
  | n + 1, h => by
    rw [rangeF_succ]
    by_cases hmn : m < n
    · obtain ⟨h1, h2⟩ := rangeF_head hP hmin n hmn
      exact ⟨by simp; omega, by rw [gt_app_left h1]; exact h2⟩
    · have : m = n := by omega
      subst this
      have h0 : rangeF P m = [] := List.length_eq_zero_iff.1 (rangeF_len0.2 hmin)
      rw [h0, if_pos hP]
      exact ⟨by simp, rfl⟩
section
variable {b : Board} {p : Power}
theorem refconn_eq (hb : SmB b) (hp : SmP p) (j : Int) : dynposref15_Connected b p j = some (connB b p j) := by
  unfold dynposref15_Connected connB
  rw [refstate_eq hb hp]
  by_cases h : stt b p = 0
  case neg =>
    have : (stt b p != 0) = true := by simpa using h
    simp only [Option.bind_some, this, if_true, if_neg h]
  obtain ⟨⟨hl, hg⟩, ⟨s1, s2, s3⟩, _⟩ := stt_zero.1 h
  have hsr := hl.src
  have h0 : (stt b p != 0) = false := by simp [h]
  simp only [Option.bind_some, h0, Bool.false_eq_true, if_false, if_pos h]
  unfold conn
  by_cases h1 : j < 0
  · have hno : ¬ (0 ≤ j ∧ j ≤ (p.Sources.length : Int) - 1) := by omega
    rw [dT h1, if_neg hno]; rfl
  rw [dF h1]
  by_cases h2 : j ≥ (b.Sources.length : Int)
  · have hno : ¬ (0 ≤ j ∧ j ≤ (p.Sources.length : Int) - 1) := by omega
    rw [dT (c := j ≥ len b.Sources) h2, if_neg hno]; rfl
  have hyes : 0 ≤ j ∧ j ≤ (p.Sources.length : Int) - 1 := by omega
  rw [dF (c := j ≥ len b.Sources) h2, if_pos hyes]
  obtain ⟨i, rfl⟩ := Int.eq_ofNat_of_zero_le (show 0 ≤ j by omega)
  simp only [Int.ofNat_eq_natCast, Int.toNat_natCast, Bool.false_eq_true, if_false]
  rw [idx_gt (show i < p.Sources.length by omega)]
  simp only [Option.bind_some]
  by_cases h3 : (gt p.Sources i).State = 2
  case neg => rw [if_neg h3, bneT h3]; rfl
  rw [if_pos h3, bneF h3]
  simp only [Bool.false_eq_true, if_false, refof_eq hb.1, Option.bind_some]
  have hlen := (refBrk_iff.1 hg.1).2.1 i (by omega)
  obtain ⟨⟨k, hk, hpk⟩, hu⟩ := rangeF_len1.1 hlen
  have huniq : ∀ q, q < b.Breakers.length → findP b 2 (i : Int) q = true → q = k := fun q hq hpq => by
    rcases Nat.lt_trichotomy q k with hlt | he | hlt
    · exact (hu q k hlt hk hpq hpk).elim
    · exact he
    · exact (hu k q hlt hq hpk hpq).elim
  have hd := rangeF_head (P := findP b 2 (i : Int)) hpk (fun q hq => by
    cases hpq : findP b 2 (i : Int) q with
    | false => rfl
    | true => have := huniq q (by omega) hpq; omega) b.Breakers.length hk
  have e0 : idx (rangeF (findP b 2 (i : Int)) b.Breakers.length) 0 = some (k : Int) := by
    have := idx_gt hd.1
    rw [hd.2] at this
    exact this
  rw [e0]
  simp only [Option.bind_some, idx_gt (show k < p.Closed.length by omega), idx_gt hk]
  have hled : ∀ q, ledAt b p 2 (i : Int) q = (findP b 2 (i : Int) q && gt p.Closed q) := fun q => by
    unfold ledAt findP
    simp
  unfold led
  cases hc : gt p.Closed k with
  | false =>
    rw [find_none (fun q hq => by
      rw [hled]
      cases hpq : findP b 2 (i : Int) q with
      | false => rfl
      | true => rw [huniq q hq hpq, hc]; rfl)]
    rfl
  | true =>
    cases hf : (List.range b.Breakers.length).find? (ledAt b p 2 (i : Int)) with
    | none =>
      have := List.find?_eq_none.1 hf k (List.mem_range.2 hk)
      rw [hled, hpk, hc] at this
      simp at this
    | some q =>
      have hq := List.mem_range.1 (List.mem_of_find?_eq_some hf)
      have hpq := List.find?_some hf
      rw [hled, Bool.and_eq_true] at hpq
      rw [huniq q hq hpq.1]
      rfl
theorem reffed_eq (hb : SmB b) (hp : SmP p) {j : Int} (hj : 0 ≤ j ∧ j < b.Consumers.length) : dynposref15_Fed b p j = some (fedB b p j) := by
  unfold dynposref15_Fed fedB
  rw [refstate_eq hb hp]
  by_cases h : stt b p = 0
  case neg =>
    have : (stt b p != 0) = true := by simpa using h
    simp only [Option.bind_some, this, if_true, if_neg h]
  obtain ⟨⟨hl, hg⟩, ⟨s1, s2, s3⟩, _⟩ := stt_zero.1 h
  have hbr := hl.brk
  have h0 : (stt b p != 0) = false := by simp [h]
  simp only [Option.bind_some, h0, Bool.false_eq_true, if_false, if_pos h]
  rw [dF (c := j < 0) (by omega), dF (c := j ≥ len b.Consumers) (by unfold len; omega)]
  simp only [Bool.false_eq_true, if_false, refof_eq hb.1, Option.bind_some]
  have hlist : (rangeF (findP b 3 j) b.Breakers.length).length ≤ b.Breakers.length := rangeF_len _ _
  have hel : ∀ q, q < (rangeF (findP b 3 j) b.Breakers.length).length → ∃ i : Nat, gt (rangeF (findP b 3 j) b.Breakers.length) q = (i : Int) ∧ i < b.Breakers.length := fun q hq => by
    obtain ⟨i, hi, _, e⟩ := mem_rangeF.1 (gt_mem hq)
    exact ⟨i, e, hi⟩
  have hfind := find_gt (rangeF (findP b 3 j) b.Breakers.length) (fun x => gt p.Closed x.toNat)
  rw [find_rangeF] at hfind
  generalize rangeF (findP b 3 j) b.Breakers.length = l at hlist hel hfind ⊢
  have h1 := loop_find (step := dynposref15_Fed_L1 b p l) (fun q => (q : Int)) l.length (fun q => gt p.Closed (gt l q).toNat) (R := fun q => .inr ((gt b.Breakers (gt l q).toNat).A, true)) (e := .inl ())
    (fun q hq hpq => by
      obtain ⟨i, e, hi⟩ := hel q hq
      rw [e, Int.toNat_natCast] at hpq
      simp only [dynposref15_Fed_L1, lt_len hq, if_true, idx_gt hq, e, idx_gt (show i < p.Closed.length by omega), Option.bind_some, hpq, Bool.false_eq_true, if_false, W_succ (show q < 1000000000000000000 by omega)])
    (fun q hq hpq => by
      obtain ⟨i, e, hi⟩ := hel q hq
      rw [e, Int.toNat_natCast] at hpq
      simp only [dynposref15_Fed_L1, lt_len hq, if_true, idx_gt hq, e, Int.toNat_natCast, idx_gt (show i < p.Closed.length by omega), idx_gt hi, Option.bind_some, hpq])
    (by simp only [dynposref15_Fed_L1, nlt_len, Bool.false_eq_true, if_false])
  have h1' : loopO (dynposref15_Fed_L1 b p l) 0 = _ := h1
  rw [h1']
  have hled : ledAt b p 3 j = fun k => findP b 3 j k && gt p.Closed ((k : Int)).toNat := by
    funext q
    unfold ledAt findP
    simp
  unfold led
  rw [hled]
  cases hf : (List.range l.length).find? (fun q => gt p.Closed (gt l q).toNat) with
  | none =>
    rw [hf] at hfind
    have : (List.range b.Breakers.length).find? (fun k => findP b 3 j k && gt p.Closed ((k : Int)).toNat) = none := by
      cases hx : (List.range b.Breakers.length).find? (fun k => findP b 3 j k && gt p.Closed ((k : Int)).toNat) with
      | none => rfl
      | some k => rw [hx] at hfind; cases hfind
    rw [this]
    rfl
  | some q =>
    rw [hf] at hfind
    cases hx : (List.range b.Breakers.length).find? (fun k => findP b 3 j k && gt p.Closed ((k : Int)).toNat) with
    | none => rw [hx] at hfind; cases hfind
    | some k =>
      rw [hx] at hfind
      have e : (k : Int) = gt l q := Option.some.inj hfind
      simp only [Option.bind_some, Sum.elim_inr]
      rw [← e, Int.toNat_natCast]
theorem refhas_isle {k : Int} (hb : BrkOk b) (hl : Lim b) (h0 : 0 ≤ k) (h1 : k < b.Buses) {a : Int} (ha : 0 ≤ a ∧ a < b.Buses) : dynposref01_Has (isleOf b p k).Buses a = some (gt (grp b p) a.toNat == (((gt (grp b p) k.toNat).toNat : Nat) : Int)) := by
  have hbus := hl.bus
  have hln := (isle_len (b := b) (p := p) (gt (grp b p) k.toNat).toNat).1
  rw [has_eq (show Sm (isleOf b p k).Buses by unfold Sm; show (isle b p _).Buses.length ≤ _; omega)]
  congr 1
  rw [Bool.eq_iff_iff, decide_eq_true_iff, beq_iff_eq]
  show a ∈ (isle b p (gt (grp b p) k.toNat).toNat).Buses ↔ _
  rw [mem_bus]
  constructor
  · rintro ⟨i, _, h, rfl⟩; rw [Int.toNat_natCast]; exact h
  · intro h; exact ⟨a.toNat, by omega, h, by omega⟩
noncomputable def ofR (b : Board) (p : Power) (k : Int) : Bool × List Int × List Int × List Int := ((ofB b p k).2, (ofB b p k).1.Buses, (ofB b p k).1.Sources, (ofB b p k).1.Consumers)
theorem refof_isle (hb : SmB b) (hp : SmP p) (k : Int) : dynposref15_Of b p k = some (ofR b p k) := by
  unfold dynposref15_Of ofR ofB
  rw [refstate_eq hb hp]
  by_cases h : stt b p = 0
  case neg =>
    have : (stt b p != 0) = true := by simpa using h
    simp only [Option.bind_some, this, if_true, if_neg (fun hh : stt b p = 0 ∧ _ => h hh.1)]
  obtain ⟨⟨hl, hg⟩, ⟨s1, s2, s3⟩, _⟩ := stt_zero.1 h
  have hsr := hl.src
  have hco := hl.con
  have h0 : (stt b p != 0) = false := by simp [h]
  simp only [Option.bind_some, h0, Bool.false_eq_true, if_false]
  by_cases h1 : k < 0
  · have hno : ¬ (stt b p = 0 ∧ 0 ≤ k ∧ k < b.Buses) := by omega
    rw [dT h1, if_neg hno]; rfl
  rw [dF h1]
  by_cases h2 : k ≥ b.Buses
  · have hno : ¬ (stt b p = 0 ∧ 0 ≤ k ∧ k < b.Buses) := by omega
    rw [dT h2, if_neg hno]; rfl
  have hyes : stt b p = 0 ∧ 0 ≤ k ∧ k < b.Buses := ⟨h, by omega, by omega⟩
  rw [dF h2, if_pos hyes]
  simp only [Bool.false_eq_true, if_false]
  rw [reach_eq hl hg.1 hb.1 s1 (by omega) (by omega)]
  simp only [Option.bind_some]
  have l1 : loopO (dynposref15_Of_L1 b p (isleOf b p k).Buses) ((0 : Int), []) = some (isleOf b p k).Sources := by
    refine loop_run (step := dynposref15_Of_L1 b p (isleOf b p k).Buses) (fun i => ((i : Int), rangeF (srcP b p (gt (grp b p) k.toNat).toNat) i)) b.Sources.length (fun i hi => ?_) (by simp only [dynposref15_Of_L1, nlt_len, Bool.false_eq_true, if_false]; rfl)
    have hrl := rangeF_len (srcP b p (gt (grp b p) k.toNat).toNat) i
    have hap : app (rangeF (srcP b p (gt (grp b p) k.toNat).toNat) i) [(i : Int)] = some (rangeF (srcP b p (gt (grp b p) k.toNat).toNat) i ++ [(i : Int)]) := app_sm (by simp; omega)
    have ec : connB b p (i : Int) = conn b p (i : Int) := by unfold connB; rw [if_pos h]
    simp only [dynposref15_Of_L1, lt_len hi, if_true, refconn_eq hb hp, ec, Option.bind_some, rangeF_succ, hap, W_succ (show i < 1000000000000000000 by omega)]
    cases hc : (conn b p (i : Int)).2 with
    | false =>
      have : srcP b p (gt (grp b p) k.toNat).toNat i = false := by unfold srcP; rw [hc]; rfl
      simp [this]
    | true =>
      have hbd := conn_bd hg.1 hc
      have : srcP b p (gt (grp b p) k.toNat).toNat i = (gt (grp b p) (conn b p (i : Int)).1.toNat == (((gt (grp b p) k.toNat).toNat : Nat) : Int)) := by unfold srcP; rw [hc]; rfl
      simp only [if_true, refhas_isle hg.1 hl (show 0 ≤ k by omega) (show k < b.Buses by omega) hbd, Option.bind_some, this]
      cases (gt (grp b p) (conn b p (i : Int)).1.toNat == (((gt (grp b p) k.toNat).toNat : Nat) : Int)) <;> simp
  have l2 : loopO (dynposref15_Of_L2 b p (isleOf b p k).Buses) ((0 : Int), []) = some (isleOf b p k).Consumers := by
    refine loop_run (step := dynposref15_Of_L2 b p (isleOf b p k).Buses) (fun i => ((i : Int), rangeF (conP b p (gt (grp b p) k.toNat).toNat) i)) b.Consumers.length (fun i hi => ?_) (by simp only [dynposref15_Of_L2, nlt_len, Bool.false_eq_true, if_false]; rfl)
    have hrl := rangeF_len (conP b p (gt (grp b p) k.toNat).toNat) i
    have hap : app (rangeF (conP b p (gt (grp b p) k.toNat).toNat) i) [(i : Int)] = some (rangeF (conP b p (gt (grp b p) k.toNat).toNat) i ++ [(i : Int)]) := app_sm (by simp; omega)
    have ec : fedB b p (i : Int) = led b p 3 (i : Int) := by unfold fedB; rw [if_pos h]
    simp only [dynposref15_Of_L2, lt_len hi, if_true, reffed_eq hb hp (j := (i : Int)) ⟨by omega, by omega⟩, ec, Option.bind_some, rangeF_succ, hap, W_succ (show i < 1000000000000000000 by omega)]
    cases hc : (led b p 3 (i : Int)).2 with
    | false =>
      have : conP b p (gt (grp b p) k.toNat).toNat i = false := by unfold conP; rw [hc]; rfl
      simp [this]
    | true =>
      have hbd := led_bd hg.1 hc
      have : conP b p (gt (grp b p) k.toNat).toNat i = (gt (grp b p) (led b p 3 (i : Int)).1.toNat == (((gt (grp b p) k.toNat).toNat : Nat) : Int)) := by unfold conP; rw [hc]; rfl
      simp only [if_true, refhas_isle hg.1 hl (show 0 ≤ k by omega) (show k < b.Buses by omega) hbd, Option.bind_some, this]
      cases (gt (grp b p) (led b p 3 (i : Int)).1.toNat == (((gt (grp b p) k.toNat).toNat : Nat) : Int)) <;> simp
  rw [l1, l2]
  rfl
end
end Rx
end Go.Proofs.YtfnphdhcgkondaaGreat
