/- AlarmOrders: the order has each alarm once, the unseen and the urgent ones first. Plain law. -/
import Derived.Test.YtdfokgnmemlmgaaA3
set_option linter.unusedVariables false
set_option linter.unusedSimpArgs false
namespace Go.Proofs.Ytdfokgnmemlmgaa
open Go Go.RowKit Dp
namespace Rx

def sn (a : Alarm) : Int := if a.State = 1 ∨ a.State = 3 then 0 else 1
/-- the order -/
def Lt (a b : Alarm) : Prop := sn a < sn b ∨ sn a = sn b ∧ (a.Urgency < b.Urgency ∨ a.Urgency = b.Urgency ∧ (a.Since < b.Since ∨ a.Since = b.Since ∧ a.Number < b.Number))
theorem Lt.trans {a b c : Alarm} (h : Lt a b) (h' : Lt b c) : Lt a c := by unfold Lt at *; omega
theorem Lt.total {a b : Alarm} (h : ¬ Lt a b) (hn : a.Number ≠ b.Number) : Lt b a := by unfold Lt at *; omega
theorem seen_eq (a : Alarm) : alarm_seen a = some (sn a) := by
  unfold alarm_seen sn
  by_cases h1 : a.State = 1
  · simp [h1]
  · by_cases h3 : a.State = 3
    · simp [h3]
    · simp [h1, h3]
theorem order1_eq (a b : Alarm) : ∃ c, alarm_Order_1 a b = some c ∧ (c < 0 ↔ Lt a b) := by
  unfold alarm_Order_1
  simp only [seen_eq, cmp_eq, Option.bind_some]
  obtain ⟨r, h1, h2⟩ := or_eq [cmpI (sn a) (sn b), cmpI a.Urgency b.Urgency, cmpI a.Since b.Since, cmpI a.Number b.Number] (by simp)
  rw [h1]
  refine ⟨r, rfl, ?_⟩
  have t1 := cmpI_tri (sn a) (sn b)
  have t2 := cmpI_tri a.Urgency b.Urgency
  have t3 := cmpI_tri a.Since b.Since
  have t4 := cmpI_tri a.Number b.Number
  have g0 : gt [cmpI (sn a) (sn b), cmpI a.Urgency b.Urgency, cmpI a.Since b.Since, cmpI a.Number b.Number] 0 = cmpI (sn a) (sn b) := rfl
  have g1 : gt [cmpI (sn a) (sn b), cmpI a.Urgency b.Urgency, cmpI a.Since b.Since, cmpI a.Number b.Number] 1 = cmpI a.Urgency b.Urgency := rfl
  have g2 : gt [cmpI (sn a) (sn b), cmpI a.Urgency b.Urgency, cmpI a.Since b.Since, cmpI a.Number b.Number] 2 = cmpI a.Since b.Since := rfl
  have g3 : gt [cmpI (sn a) (sn b), cmpI a.Urgency b.Urgency, cmpI a.Since b.Since, cmpI a.Number b.Number] 3 = cmpI a.Number b.Number := rfl
  unfold Lt
  generalize cmpI (sn a) (sn b) = p1 at *
  generalize cmpI a.Urgency b.Urgency = p2 at *
  generalize cmpI a.Since b.Since = p3 at *
  generalize cmpI a.Number b.Number = p4 at *
  rcases h2 with ⟨rfl, h⟩ | ⟨k, hk, rfl, h3, h4⟩
  · have e1 := h p1 (by simp)
    have e2 := h p2 (by simp)
    have e3 := h p3 (by simp)
    have e4 := h p4 (by simp)
    omega
  · have hk : k < 4 := hk
    rcases k with _ | _ | _ | _ | k
    · rw [g0] at h3 ⊢
      omega
    · have f0 := h4 0 (by omega)
      rw [g0] at f0
      rw [g1] at h3 ⊢
      omega
    · have f0 := h4 0 (by omega)
      have f1 := h4 1 (by omega)
      rw [g0] at f0
      rw [g1] at f1
      rw [g2] at h3 ⊢
      omega
    · have f0 := h4 0 (by omega)
      have f1 := h4 1 (by omega)
      have f2 := h4 2 (by omega)
      rw [g0] at f0
      rw [g1] at f1
      rw [g2] at f2
      rw [g3] at h3 ⊢
      omega
    · omega

/-- what the sort keeps -/
structure Kp (l d : List Alarm) : Prop where
  len : d.length = l.length
  mem : ∀ k, k < d.length → gt d k ∈ l
  ne : ∀ i j, i < d.length → j < d.length → i ≠ j → (gt d i).Number ≠ (gt d j).Number
def swp (d : List Alarm) (j : Nat) : List Alarm := (d.set j (gt d (j - 1))).set (j - 1) (gt d j)
theorem gt_swp {d : List Alarm} {j : Nat} (h1 : 1 ≤ j) (hj : j < d.length) (k : Nat) : gt (swp d j) k = if k = j - 1 then gt d j else if k = j then gt d (j - 1) else gt d k := by
  unfold swp
  rw [gt_set (by simp; omega), gt_set hj]
theorem Kp.swp {l d : List Alarm} (h : Kp l d) {j : Nat} (h1 : 1 ≤ j) (hj : j < d.length) : Kp l (swp d j) := by
  have hl : (Rx.swp d j).length = d.length := by unfold Rx.swp; simp
  refine ⟨by rw [hl]; exact h.len, fun k hk => ?_, fun p q hp hq hpq => ?_⟩
  · rw [hl] at hk
    rw [gt_swp h1 hj]
    split
    · exact h.mem _ hj
    · split
      · exact h.mem _ (by omega)
      · exact h.mem _ hk
  · rw [hl] at hp hq
    rw [gt_swp h1 hj, gt_swp h1 hj]
    split <;> split <;> (try split) <;> (try split) <;> first | omega | exact h.ne _ _ (by omega) (by omega) (by omega)

theorem inner_ok {l d : List Alarm} (h : Kp l d) (h20 : d.length ≤ 1000) {i : Nat} (hi : i < d.length) (hs : ∀ p q, p < q → q < i → Lt (gt d p) (gt d q)) : Wp (loopO (slices_insertionSortCmpFunc_Alarm_L2 0) ((i : Int), d)) fun d' => Kp l d' ∧ d'.length = d.length ∧ ∀ p q, p < q → q ≤ i → Lt (gt d' p) (gt d' q) := by
  refine wp_while (fun s => s.1.toNat) (fun s => ∃ j : Nat, s.1 = (j : Int) ∧ j ≤ i ∧ Kp l s.2 ∧ s.2.length = d.length ∧ (∀ p q, p < q → q ≤ i → p ≠ j → q ≠ j → Lt (gt s.2 p) (gt s.2 q)) ∧ ∀ q, j < q → q ≤ i → Lt (gt s.2 j) (gt s.2 q)) (fun s hv => ?_) ⟨i, rfl, Nat.le_refl _, h, rfl, fun p q h1 h2 h3 h4 => hs p q h1 (by omega), fun q h1 h2 => by omega⟩ (by simp only; omega)
  obtain ⟨q, e⟩ := s
  simp only at hv
  obtain ⟨j, rfl, hji, hk, hl, v1, v2⟩ := hv
  unfold slices_insertionSortCmpFunc_Alarm_L2
  simp only
  rcases Nat.eq_zero_or_pos j with rfl | hj
  · simp only [dF (c := ((0 : Nat) : Int) > 0) (by omega), Bool.false_eq_true, if_false, Option.bind_some]
    refine wp_some.2 ⟨hk, hl, fun p q h1 h2 => ?_⟩
    by_cases hp : p = 0
    · subst hp; exact v2 q h1 h2
    · exact v1 p q h1 h2 hp (by omega)
  · simp only [dT (c := (j : Int) > 0) (by omega), if_true, W_pred (k := j) (by omega) hj, idx_gt (show j < e.length by omega), idx_gt (show j - 1 < e.length by omega), Option.bind_some]
    obtain ⟨c, hc1, hc2⟩ := order1_eq (gt e j) (gt e (j - 1))
    simp only [hc1, Option.bind_some]
    by_cases hlt : Lt (gt e j) (gt e (j - 1))
    · simp only [dT (hc2.2 hlt), if_true, setO_nat (show j < e.length by omega), Option.bind_some]
      rw [idx_gt (show j - 1 < (e.set j (gt e (j - 1))).length by simp; omega)]
      simp only [Option.bind_some]
      rw [setO_nat (show j - 1 < (e.set j (gt e (j - 1))).length by simp; omega)]
      refine wp_some.2 ⟨⟨j - 1, rfl, by omega, hk.swp hj (by omega), by simp [hl], fun p q h1 h2 h3 h4 => ?_, fun q h1 h2 => ?_⟩, by simp only; omega⟩
      · show Lt (gt (swp e j) p) (gt (swp e j) q)
        rw [gt_swp hj (by omega), gt_swp hj (by omega), if_neg h3, if_neg h4]
        split
        · rw [if_neg (by omega)]; exact v1 _ _ (by omega) h2 (by omega) (by omega)
        · split
          · exact v1 _ _ (by omega) (by omega) (by omega) (by omega)
          · exact v1 _ _ h1 h2 (by omega) (by omega)
      · show Lt (gt (swp e j) (j - 1)) (gt (swp e j) q)
        rw [gt_swp hj (by omega), gt_swp hj (by omega), if_pos rfl, if_neg (by omega)]
        split
        · exact hlt
        · exact v2 q (by omega) h2
    · simp only [dF (fun hh => hlt (hc2.1 hh)), Bool.false_eq_true, if_false]
      have hgt := Lt.total hlt (hk.ne _ _ (by omega) (by omega) (by omega))
      refine wp_some.2 ⟨hk, hl, fun p q h1 h2 => ?_⟩
      by_cases hq : q = j
      · subst hq
        by_cases hp : p = q - 1
        · rw [hp]; exact hgt
        · exact (v1 p (q - 1) (by omega) (by omega) (by omega) (by omega)).trans hgt
      · by_cases hp : p = j
        · subst hp; exact v2 q h1 h2
        · exact v1 p q h1 h2 hp hq
theorem sort_ok {l : List Alarm} (h : Kp l l) (hn : l.length < 20) : Wp (slices_SortStableFunc_Alarm_Alarm l) fun d => Kp l d ∧ ∀ p q, p < q → q < d.length → Lt (gt d p) (gt d q) := by
  unfold slices_SortStableFunc_Alarm_Alarm slices_stableCmpFunc_Alarm
  have e1 : loopO (slices_stableCmpFunc_Alarm_L1 (len l)) (0, 20, l) = some (0, l) := loop_run (fun _ => (0, 20, l)) 0 (fun k hk => by omega) (by
    unfold slices_stableCmpFunc_Alarm_L1
    simp only [dF (c := (20 : Int) ≤ len l) (by unfold len; omega), Bool.false_eq_true, if_false])
  have e2 : loopO (slices_stableCmpFunc_Alarm_L2 (len l)) 20 = some () := loop_run (fun _ => (20 : Int)) 0 (fun k hk => by omega) (by
    unfold slices_stableCmpFunc_Alarm_L2
    simp only [dF (c := (20 : Int) < len l) (by unfold len; omega), Bool.false_eq_true, if_false])
  simp only [e1, Option.bind_some]
  have hins : Wp (slices_insertionSortCmpFunc_Alarm l 0 (len l)) fun d => Kp l d ∧ ∀ p q, p < q → q < d.length → Lt (gt d p) (gt d q) := by
    unfold slices_insertionSortCmpFunc_Alarm
    have e3 : W (0 + 1) = ((1 : Nat) : Int) := W_sm (by omega) (by omega)
    rw [e3]
    have hloop : Wp (loopO (slices_insertionSortCmpFunc_Alarm_L1 0 (len l)) (((1 : Nat) : Int), l)) fun d => Kp l d ∧ ∀ p q, p < q → q < d.length → Lt (gt d p) (gt d q) := by
      refine wp_while (fun s => (len l - s.1).toNat) (fun s => ∃ i : Nat, s.1 = (i : Int) ∧ 1 ≤ i ∧ (i ≤ l.length ∨ i = 1) ∧ Kp l s.2 ∧ ∀ p q, p < q → q < i → Lt (gt s.2 p) (gt s.2 q)) (fun s hv => ?_) ⟨1, rfl, Nat.le_refl _, .inr rfl, h, fun p q h1 h2 => by omega⟩ (by simp only [len]; omega)
      obtain ⟨z, d⟩ := s
      simp only at hv
      obtain ⟨i, rfl, i1, i2, hk, hs⟩ := hv
      have hdl := hk.len
      unfold slices_insertionSortCmpFunc_Alarm_L1
      simp only
      by_cases hi : i < l.length
      · simp only [dT (c := (i : Int) < len l) (by unfold len; omega), if_true]
        refine (inner_ok hk (by omega) (i := i) (by omega) (fun p q h1 h2 => hs p q h1 h2)).bind fun d' hd => ?_
        obtain ⟨k1, k2, k3⟩ := hd
        rw [W_succ (by omega)]
        exact wp_some.2 ⟨⟨i + 1, rfl, by omega, .inl (by omega), k1, fun p q h1 h2 => k3 p q h1 (by omega)⟩, by simp only [len]; omega⟩
      · simp only [dF (c := (i : Int) < len l) (by unfold len; omega), Bool.false_eq_true, if_false]
        exact wp_some.2 ⟨hk, fun p q h1 h2 => hs p q h1 (by omega)⟩
    exact hloop.bind fun d hd => wp_some.2 hd
  refine (hins.bind (f := fun x4 => Option.bind (loopO (slices_stableCmpFunc_Alarm_L2 (len l)) 20) fun x11 => some x4) (R := fun d => Kp l d ∧ ∀ p q, p < q → q < d.length → Lt (gt d p) (gt d q)) fun d hd => ?_).bind fun d hd => wp_some.2 hd
  simp only [e2, Option.bind_some]
  exact wp_some.2 hd
theorem Va.kp {m t : Int} {l : List Alarm} (h : Va m t l) : Kp l l := ⟨rfl, fun k hk => gt_mem hk, fun i j hi hj hij he => hij (h.inj hi hj he)⟩
theorem wpOrder {m t : Int} {l : List Alarm} (h : Va m t l) (hn : l.length < 20) : Wp (alarm_Order l) fun o => ∃ d, Kp l d ∧ (∀ p q, p < q → q < d.length → Lt (gt d p) (gt d q)) ∧ o.length = d.length ∧ ∀ k, k < d.length → gt o k = (gt d k).Number := by
  unfold alarm_Order slices_Clone_Alarm_Alarm
  rw [show app ([] : List Alarm) l = some l from app_sm (by simp; omega)]
  simp only [Option.bind_some]
  refine (sort_ok h.kp hn).bind fun d hd => ?_
  have hdl := hd.1.len
  have hloop : Wp (loopO (alarm_Order_L1 d) (0, [])) fun o => o.length = d.length ∧ ∀ k, k < d.length → gt o k = (gt d k).Number := by
    refine wp_upto d.length (fun i s => s.1 = (i : Int) ∧ s.2.length = i ∧ ∀ k, k < i → gt s.2 k = (gt d k).Number) ⟨rfl, rfl, fun k hk => by omega⟩ (fun i s hi hv => ?_) (fun s hv => ?_) (by omega)
    · obtain ⟨z, o⟩ := s
      simp only at hv
      obtain ⟨rfl, h1, h2⟩ := hv
      unfold alarm_Order_L1
      simp only [lt_len hi, if_true, idx_gt hi, Option.bind_some]
      rw [app_sm (by simp; omega)]
      simp only [Option.bind_some]
      rw [W_succ (by omega)]
      refine wp_some.2 ⟨rfl, by simp; omega, fun k hk => ?_⟩
      simp only
      rw [gt_snoc (by omega)]
      split
      · exact h2 k (by omega)
      · have : k = i := by omega
        rw [this]
    · obtain ⟨z, o⟩ := s
      simp only at hv
      obtain ⟨rfl, h1, h2⟩ := hv
      unfold alarm_Order_L1
      simp only [nlt_len, Bool.false_eq_true, if_false]
      exact wp_some.2 ⟨h1, h2⟩
  exact hloop.bind fun o ho => wp_some.2 ⟨d, hd.1, hd.2, ho.1, ho.2⟩

theorem law_AlarmOrders (t : List Int) : dynposlaw35_AlarmOrders t = some true := by
  refine Wp.true' ?_
  unfold dynposlaw35_AlarmOrders
  simp only [sane_T, Option.bind_some]
  refine Wp.ite (fun _ => wp_some.2 rfl) fun _ => ?_
  refine (wpNew t).bind fun s hs => ?_
  refine (wpAlarms hs (c := 20) (by omega) (by omega)).bind fun x2 hx => ?_
  obtain ⟨now, sl, sa, l⟩ := x2
  simp only at hx ⊢
  obtain ⟨_, _, hv, _⟩ := hx
  have hl := hv.few (by omega)
  refine (wpOrder hv (by omega)).bind fun o ho => ?_
  obtain ⟨d, hk, hs, ho1, ho2⟩ := ho
  have hdl := hk.len
  rw [show (len o != len l) = false from bneF (by unfold len; omega)]
  simp only [Bool.false_eq_true, if_false]
  have hfind : ∀ k, k < d.length → ∃ j : Nat, dynposref35_Find l (gt d k).Number = some (j : Int) ∧ j < l.length ∧ gt l j = gt d k := fun k hkd => by
    obtain ⟨p, hp, hpe⟩ := mem_gt (hk.mem k hkd)
    obtain ⟨r, hr, hr2⟩ := wpFind (l := l) (by omega) (gt d k).Number
    rcases hr2 with ⟨_, h⟩ | ⟨j, rfl, hj, h⟩
    · exact (h p hp (by rw [hpe])).elim
    · refine ⟨j, hr, hj, ?_⟩
      rw [hv.inj hj hp (by rw [h, hpe]), hpe]
  have e := loop_run (step := dynposlaw35_AlarmOrders_L1 (now, sl, sa, l) o) (r := .inl ()) (fun k => (k : Int)) o.length (fun i hi => by
    unfold dynposlaw35_AlarmOrders_L1
    obtain ⟨j, hj1, hj2, hj3⟩ := hfind i (by omega)
    simp only [lt_len hi, if_true, idx_gt hi, Option.bind_some, ho2 i (by omega), hj1, dF (c := (j : Int) < 0) (by omega), Bool.false_eq_true, if_false]
    rcases Nat.eq_zero_or_pos i with rfl | hip
    · simp only [show (((0 : Nat) : Int) == 0) = true from rfl, if_true, Option.bind_some, Sum.elim_inl]
      rw [W_succ (by omega)]
    · obtain ⟨j', hk1, hk2, hk3⟩ := hfind (i - 1) (by omega)
      have hlt := hs (i - 1) i (by omega) (by omega)
      have ra := hv.rng j' hk2
      have rb := hv.rng j hj2
      rw [hk3] at ra
      rw [hj3] at rb
      simp only [show ((i : Int) == 0) = false from beqF (by omega), Bool.false_eq_true, if_false, W_pred (k := i) (by omega) hip, idx_gt (show i - 1 < o.length by omega), Option.bind_some, ho2 (i - 1) (by omega), hk1, idx_gt hk2, idx_gt hj2, hk3, hj3]
      generalize gt d (i - 1) = a at *
      generalize gt d i = b at *
      have q1 := ra.s0
      have q2 := ra.s1
      have q3 := rb.s0
      have q4 := rb.s1
      have hsa : sn a = if a.State = 2 then 1 else 0 := by unfold sn; split <;> split <;> omega
      have hsb : sn b = if b.State = 2 then 1 else 0 := by unfold sn; split <;> split <;> omega
      have c1 : (if (a.State == 2) = true then some (b.State != 2) else some false) = some false := by
        by_cases h2 : a.State = 2
        · rw [if_pos (beqT h2)]
          by_cases h3 : b.State = 2
          · rw [bneF h3]
          · exfalso
            rw [if_pos h2] at hsa
            rw [if_neg h3] at hsb
            unfold Lt at hlt
            omega
        · rw [beqF h2]; rfl
      simp only [c1, Option.bind_some, Bool.false_eq_true, if_false]
      have c2 : (if ((a.State == 2) == (b.State == 2)) = true then
                              if decide (a.Urgency > b.Urgency) = true then some true
                              else
                                if (a.Urgency == b.Urgency) = true then
                                  if decide (a.Since > b.Since) = true then some true
                                  else
                                    if (a.Since == b.Since) = true then some (decide (a.Number ≥ b.Number))
                                    else some false
                                else some false
                            else some false) = some false := by
        by_cases hst : ((a.State == 2) == (b.State == 2)) = true
        · rw [if_pos hst]
          have hse : sn a = sn b := by
            rw [hsa, hsb]
            by_cases h2 : a.State = 2 <;> by_cases h3 : b.State = 2 <;> simp [h2, h3] at hst ⊢
          unfold Lt at hlt
          rw [dF (c := a.Urgency > b.Urgency) (by omega)]
          simp only [Bool.false_eq_true, if_false]
          by_cases hu : a.Urgency = b.Urgency
          · rw [if_pos (beqT hu), dF (c := a.Since > b.Since) (by omega)]
            simp only [Bool.false_eq_true, if_false]
            by_cases hsi : a.Since = b.Since
            · rw [if_pos (beqT hsi), dF (by omega)]
            · rw [beqF hsi]; rfl
          · rw [beqF hu]; rfl
        · rw [if_neg hst]
      simp only [c2, Option.bind_some, Bool.false_eq_true, if_false, Sum.elim_inl]
      rw [W_succ (by omega)]) (by
    unfold dynposlaw35_AlarmOrders_L1
    simp only [nlt_len, Bool.false_eq_true, if_false])
  simp only [show ((0 : Nat) : Int) = 0 from rfl] at e
  rw [e]
  exact wp_some.2 rfl
end Rx
end Go.Proofs.Ytdfokgnmemlmgaa
