/- The program's check. -/
import Derived.Test.YtfnphdhcgkondaaGreatH10
set_option linter.unusedVariables false
set_option linter.unusedSimpArgs false
namespace Go.Proofs.YtfnphdhcgkondaaGreat
open Go Go.RowKit Dp
namespace Rx
section
variable {b : Board} {p q : Power} {L T : List Int} {x : Island}
theorem eqRun_eq {a b : List Running} (ha : Sm a) : slices_Equal_Running_Running a b = some (dB (a = b)) := by
  unfold slices_Equal_Running_Running
  by_cases hl : a.length = b.length
  · have e1 : (len a != len b) = false := by simp [len, hl]
    have h := loop_anyB (step := slices_Equal_Running_Running_L1 a b) (fun k => (k : Int)) a.length (fun k => gt a k ≠ gt b k) (r := .inr false) (e := .inl ())
      (fun k hk hp => by
        have e2 := (runB (gt a k) (gt b k)).2 (Classical.not_not.1 hp)
        simp only [slices_Equal_Running_Running_L1, lt_len hk, if_true, idx_gt hk, idx_gt (show k < b.length by omega), Option.bind_some, e2, Bool.not_true, Bool.false_eq_true, if_false, W_succ (sm_lt ha hk)])
      (fun k hk hp => by
        have e2 : ((gt a k).State == (gt b k).State && ((gt a k).Since == (gt b k).Since && ((gt a k).Frequency == (gt b k).Frequency && (gt a k).Phase == (gt b k).Phase))) = false := by
          cases hh : ((gt a k).State == (gt b k).State && ((gt a k).Since == (gt b k).Since && ((gt a k).Frequency == (gt b k).Frequency && (gt a k).Phase == (gt b k).Phase))) with
          | false => rfl
          | true => exact (hp ((runB _ _).1 hh)).elim
        simp only [slices_Equal_Running_Running_L1, lt_len hk, if_true, idx_gt hk, idx_gt (show k < b.length by omega), Option.bind_some, e2, Bool.not_false])
      (by simp only [slices_Equal_Running_Running_L1, nlt_len, Bool.false_eq_true, if_false])
    have h' : loopO (slices_Equal_Running_Running_L1 a b) 0 = _ := h
    simp only [e1, Bool.false_eq_true, if_false, h', Option.bind_some]
    by_cases he : a = b
    · subst he
      rw [dB_F (p := ∃ k, k < a.length ∧ gt a k ≠ gt a k) (by simp), dB_T rfl]
      rfl
    · have : ∃ k, k < a.length ∧ gt a k ≠ gt b k := by
        apply Classical.byContradiction
        intro hn
        exact he (ext_gt hl fun k hk => Classical.byContradiction fun h => hn ⟨k, hk, h⟩)
      rw [dB_T this, dB_F he]
      rfl
  · have e1 : (len a != len b) = true := by simp [len]; omega
    have he : a ≠ b := fun e => hl (e ▸ rfl)
    rw [dB_F he]
    simp only [e1, if_true]
theorem eqPart_eq {a b : List Part} (ha : Sm a) : slices_Equal_Part_Part a b = some (dB (a = b)) := by
  unfold slices_Equal_Part_Part
  by_cases hl : a.length = b.length
  · have e1 : (len a != len b) = false := by simp [len, hl]
    have h := loop_anyB (step := slices_Equal_Part_Part_L1 a b) (fun k => (k : Int)) a.length (fun k => gt a k ≠ gt b k) (r := .inr false) (e := .inl ())
      (fun k hk hp => by
        have e2 := (partB (gt a k) (gt b k)).2 (Classical.not_not.1 hp)
        simp only [slices_Equal_Part_Part_L1, lt_len hk, if_true, idx_gt hk, idx_gt (show k < b.length by omega), Option.bind_some, e2, Bool.not_true, Bool.false_eq_true, if_false, W_succ (sm_lt ha hk)])
      (fun k hk hp => by
        have e2 : ((gt a k).Kind == (gt b k).Kind && (gt a k).Number == (gt b k).Number) = false := by
          cases hh : ((gt a k).Kind == (gt b k).Kind && (gt a k).Number == (gt b k).Number) with
          | false => rfl
          | true => exact (hp ((partB _ _).1 hh)).elim
        simp only [slices_Equal_Part_Part_L1, lt_len hk, if_true, idx_gt hk, idx_gt (show k < b.length by omega), Option.bind_some, e2, Bool.not_false])
      (by simp only [slices_Equal_Part_Part_L1, nlt_len, Bool.false_eq_true, if_false])
    have h' : loopO (slices_Equal_Part_Part_L1 a b) 0 = _ := h
    simp only [e1, Bool.false_eq_true, if_false, h', Option.bind_some]
    by_cases he : a = b
    · subst he
      rw [dB_F (p := ∃ k, k < a.length ∧ gt a k ≠ gt a k) (by simp), dB_T rfl]
      rfl
    · have : ∃ k, k < a.length ∧ gt a k ≠ gt b k := by
        apply Classical.byContradiction
        intro hn
        exact he (ext_gt hl fun k hk => Classical.byContradiction fun h => hn ⟨k, hk, h⟩)
      rw [dB_T this, dB_F he]
      rfl
  · have e1 : (len a != len b) = true := by simp [len]; omega
    have he : a ≠ b := fun e => hl (e ▸ rfl)
    rw [dB_F he]
    simp only [e1, if_true]
/-- q has no more closed and no higher limit than p, and is else the same -/
def Les (p q : Power) : Prop := ((∀ k, k < q.Closed.length → gt q.Closed k = true → gt p.Closed k = true) ∧ ∀ k, k < q.Limits.length → gt q.Limits k ≤ gt p.Limits k) ∧ p.Sources = q.Sources ∧ p.Broken = q.Broken
theorem lesser_eq (hp : SmP p) (hq : SmP q) (h1 : p.Closed.length = q.Closed.length) (h2 : p.Limits.length = q.Limits.length) : shed_lesser p q = some (dB (Les p q)) := by
  obtain ⟨a1, a2, a3, a4⟩ := hp
  obtain ⟨b1, b2, b3, b4⟩ := hq
  unfold shed_lesser
  have e1 := loop_anyB (step := shed_lesser_L1 p q) (fun k => (k : Int)) q.Closed.length (fun k => gt q.Closed k = true ∧ gt p.Closed k = false) (r := .inr false) (e := .inl ())
    (fun k hk hn => by
      unfold shed_lesser_L1
      simp only [lt_len hk, if_true, idx_gt hk, Option.bind_some, idx_gt (l := p.Closed) (k := k) (by omega)]
      rw [W_succ (sm_lt b1 hk)]
      cases hc : gt q.Closed k with
      | false => simp
      | true =>
        cases hd : gt p.Closed k with
        | false => exact (hn ⟨hc, hd⟩).elim
        | true => simp)
    (fun k hk hp => by
      unfold shed_lesser_L1
      simp only [lt_len hk, if_true, idx_gt hk, Option.bind_some, idx_gt (l := p.Closed) (k := k) (by omega), hp.1, hp.2, Bool.not_false])
    (by
      unfold shed_lesser_L1
      simp only [nlt_len, Bool.false_eq_true, if_false])
  have e2 := loop_anyB (step := shed_lesser_L2 p q) (fun k => (k : Int)) q.Limits.length (fun k => gt p.Limits k < gt q.Limits k) (r := .inr false) (e := .inl ())
    (fun k hk hn => by
      unfold shed_lesser_L2
      simp only [lt_len hk, if_true, idx_gt hk, Option.bind_some, idx_gt (l := p.Limits) (k := k) (by omega)]
      rw [W_succ (sm_lt b3 hk), dF (by omega)]
      simp only [Bool.false_eq_true, if_false])
    (fun k hk hp => by
      unfold shed_lesser_L2
      simp only [lt_len hk, if_true, idx_gt hk, Option.bind_some, idx_gt (l := p.Limits) (k := k) (by omega)]
      rw [dT (by omega)]
      simp only [if_true])
    (by
      unfold shed_lesser_L2
      simp only [nlt_len, Bool.false_eq_true, if_false])
  have e1' : loopO (shed_lesser_L1 p q) 0 = _ := e1
  have e2' : loopO (shed_lesser_L2 p q) 0 = _ := e2
  rw [e1']
  by_cases g1 : ∃ k, k < q.Closed.length ∧ gt q.Closed k = true ∧ gt p.Closed k = false
  · obtain ⟨k, hk, g, g'⟩ := g1
    rw [dB_T ⟨k, hk, g, g'⟩, dB_F (p := Les p q) fun hh => by have := hh.1.1 k hk g; rw [g'] at this; cases this]
    rfl
  · rw [dB_F g1, e2']
    by_cases g2 : ∃ k, k < q.Limits.length ∧ gt p.Limits k < gt q.Limits k
    · obtain ⟨k, hk, g⟩ := g2
      rw [dB_T ⟨k, hk, g⟩, dB_F (p := Les p q) fun hh => by have := hh.1.2 k hk; omega]
      rfl
    · rw [dB_F g2]
      simp only [cond_false, Option.bind_some, Sum.elim_inl, eqRun_eq a2, eqPart_eq a4]
      have k1 : ∀ k, k < q.Closed.length → gt q.Closed k = true → gt p.Closed k = true := fun k hk hc => by
        cases hd : gt p.Closed k with
        | true => rfl
        | false => exact (g1 ⟨k, hk, hc, hd⟩).elim
      have k2 : ∀ k, k < q.Limits.length → gt q.Limits k ≤ gt p.Limits k := fun k hk => by
        apply Classical.byContradiction
        intro hn
        exact g2 ⟨k, hk, by omega⟩
      by_cases g3 : p.Sources = q.Sources
      · rw [dB_T g3]
        simp only [if_true, Option.bind_some]
        congr 1
        exact dB_congr ⟨fun g4 => ⟨⟨k1, k2⟩, g3, g4⟩, fun hh => hh.2.2⟩
      · rw [dB_F g3, dB_F (p := Les p q) fun hh => g3 hh.2.1]
        rfl
/-! the order -/
/-- fed, and not as low as it can be -/
noncomputable def fulB (b : Board) (q : Power) (c : Int) : Bool := (fedB b q c).2 && decide ((gt b.Consumers c.toNat).Least < gt q.Limits c.toNat)
/-- fed, with a load -/
noncomputable def havB (b : Board) (q : Power) (c : Int) : Bool := (fedB b q c).2 && decide (0 < gt q.Limits c.toNat)
noncomputable def tq (b : Board) (q : Power) : Int × List Breaker × List Source × List Consumer × Int × Int × List Bool × List Running × List Int × List Part := (b.Buses, b.Breakers, b.Sources, b.Consumers, b.Phase, b.Frequency, q.Closed, q.Sources, q.Limits, q.Broken)
theorem ordered1_eq (hb : SmB b) (hq : SmP q) (c : Int) : shed_ordered_1_v1 c b.Buses b.Breakers b.Sources b.Consumers b.Phase b.Frequency q.Closed q.Sources q.Limits q.Broken = some ((fedB b q c).2, tq b q) := by
  have hbe : (⟨b.Buses, b.Breakers, b.Sources, b.Consumers, b.Phase, b.Frequency⟩ : Board) = b := rfl
  have hqe : (⟨q.Closed, q.Sources, q.Limits, q.Broken⟩ : Power) = q := rfl
  unfold shed_ordered_1_v1
  rw [hbe, hqe, fedB_eq hb hq]
  rfl
theorem ordered2_eq (hb : SmB b) (hq : SmP q) (hl : q.Limits.length = b.Consumers.length) {c : Int} (hc : 0 ≤ c ∧ c < (b.Consumers.length : Int)) : shed_ordered_2_v2 c b.Buses b.Breakers b.Sources b.Consumers b.Phase b.Frequency q.Closed q.Sources q.Limits q.Broken = some (fulB b q c, tq b q) := by
  unfold shed_ordered_2_v2 fulB
  rw [ordered1_eq hb hq]
  simp only [Option.bind_some, tq]
  cases (fedB b q c).2 with
  | false => simp only [Bool.false_eq_true, if_false, Option.bind_some, Bool.false_and]
  | true =>
    simp only [if_true]
    rw [idx_gtZ (l := q.Limits) hc.1 (by omega), idx_gtZ (l := b.Consumers) hc.1 hc.2]
    simp only [Option.bind_some, Bool.true_and]
theorem ordered3_eq (hb : SmB b) (hq : SmP q) (hl : q.Limits.length = b.Consumers.length) {c : Int} (hc : 0 ≤ c ∧ c < (b.Consumers.length : Int)) : shed_ordered_3_v2 c b.Buses b.Breakers b.Sources b.Consumers b.Phase b.Frequency q.Closed q.Sources q.Limits q.Broken = some (havB b q c, tq b q) := by
  unfold shed_ordered_3_v2 havB
  rw [ordered1_eq hb hq]
  simp only [Option.bind_some, tq]
  cases (fedB b q c).2 with
  | false => simp only [Bool.false_eq_true, if_false, Option.bind_some, Bool.false_and]
  | true =>
    simp only [if_true]
    rw [idx_gtZ (l := q.Limits) hc.1 (by omega)]
    simp only [Option.bind_some, Bool.true_and]
theorem find_any {P : Int → Bool} {l : List Int} : l.any P = match (List.range l.length).find? (fun k => P (gt l k)) with
    | some _ => true
    | none => false := by
  cases hf : (List.range l.length).find? (fun k => P (gt l k)) with
  | some k =>
    have hk := List.mem_range.1 (List.mem_of_find?_eq_some hf)
    have hp := List.find?_some hf
    exact List.any_eq_true.2 ⟨_, gt_mem hk, hp⟩
  | none =>
    refine List.any_eq_false.2 fun c hc => ?_
    obtain ⟨k, hk, rfl⟩ := mem_gt hc
    exact List.find?_eq_none.1 hf k (List.mem_range.2 hk)
theorem contains2_eq (hb : SmB b) (hq : SmP q) (hl : q.Limits.length = b.Consumers.length) {l : List Int} (hln : l.length ≤ 1000) (hc : ∀ c ∈ l, 0 ≤ c ∧ c < (b.Consumers.length : Int)) : slices_ContainsFunc_int_int_flat_v2 l b.Buses b.Breakers b.Sources b.Consumers b.Phase b.Frequency q.Closed q.Sources q.Limits q.Broken = some (l.any (fulB b q), tq b q) := by
  unfold slices_ContainsFunc_int_int_flat_v2 slices_IndexFunc_int_int_flat_v4
  have h1 := loop_find (step := slices_IndexFunc_int_int_flat_v4_L1 l) (fun k => ((k : Int), tq b q)) l.length (fun k => fulB b q (gt l k)) (R := fun k => .inr ((k : Int), tq b q)) (e := .inl (tq b q)) (fun k hk hp => by
    unfold slices_IndexFunc_int_int_flat_v4_L1
    simp only [tq, lt_len hk, if_true, idx_gt hk, Option.bind_some, ordered2_eq hb hq hl (hc _ (gt_mem hk)), hp, Bool.false_eq_true, if_false]
    rw [W_succ (by omega)]) (fun k hk hp => by
    unfold slices_IndexFunc_int_int_flat_v4_L1
    simp only [tq, lt_len hk, if_true, idx_gt hk, Option.bind_some, ordered2_eq hb hq hl (hc _ (gt_mem hk)), hp]) (by
    unfold slices_IndexFunc_int_int_flat_v4_L1
    simp only [tq, nlt_len, Bool.false_eq_true, if_false]) (by omega)
  have h1' : loopO (slices_IndexFunc_int_int_flat_v4_L1 l) (0, b.Buses, b.Breakers, b.Sources, b.Consumers, b.Phase, b.Frequency, q.Closed, q.Sources, q.Limits, q.Broken) = _ := h1
  rw [h1', find_any]
  cases (List.range l.length).find? (fun k => fulB b q (gt l k)) with
  | none => rfl
  | some k =>
    simp only [Option.bind_some, Sum.elim_inr, tq]
    rw [dT (by omega)]
theorem contains3_eq (hb : SmB b) (hq : SmP q) (hl : q.Limits.length = b.Consumers.length) {l : List Int} (hln : l.length ≤ 1000) (hc : ∀ c ∈ l, 0 ≤ c ∧ c < (b.Consumers.length : Int)) : slices_ContainsFunc_int_int_flat_v3 l b.Buses b.Breakers b.Sources b.Consumers b.Phase b.Frequency q.Closed q.Sources q.Limits q.Broken = some (l.any (havB b q), tq b q) := by
  unfold slices_ContainsFunc_int_int_flat_v3 slices_IndexFunc_int_int_flat_v7
  have h1 := loop_find (step := slices_IndexFunc_int_int_flat_v7_L1 l) (fun k => ((k : Int), tq b q)) l.length (fun k => havB b q (gt l k)) (R := fun k => .inr ((k : Int), tq b q)) (e := .inl (tq b q)) (fun k hk hp => by
    unfold slices_IndexFunc_int_int_flat_v7_L1
    simp only [tq, lt_len hk, if_true, idx_gt hk, Option.bind_some, ordered3_eq hb hq hl (hc _ (gt_mem hk)), hp, Bool.false_eq_true, if_false]
    rw [W_succ (by omega)]) (fun k hk hp => by
    unfold slices_IndexFunc_int_int_flat_v7_L1
    simp only [tq, lt_len hk, if_true, idx_gt hk, Option.bind_some, ordered3_eq hb hq hl (hc _ (gt_mem hk)), hp]) (by
    unfold slices_IndexFunc_int_int_flat_v7_L1
    simp only [tq, nlt_len, Bool.false_eq_true, if_false]) (by omega)
  have h1' : loopO (slices_IndexFunc_int_int_flat_v7_L1 l) (0, b.Buses, b.Breakers, b.Sources, b.Consumers, b.Phase, b.Frequency, q.Closed, q.Sources, q.Limits, q.Broken) = _ := h1
  rw [h1', find_any]
  cases (List.range l.length).find? (fun k => havB b q (gt l k)) with
  | none => rfl
  | some k =>
    simp only [Option.bind_some, Sum.elim_inr, tq]
    rw [dT (by omega)]
/-- what is wrong with the i-th -/
noncomputable def badO (b : Board) (p q : Power) (o : List Int) (i : Nat) : Bool :=
  ((decide (gt q.Limits (gt o i).toNat < gt p.Limits (gt o i).toNat) || !(fedB b q (gt o i)).2) && (o.take i).any (fulB b q)) || (!(fedB b q (gt o i)).2 && (o.take i).any (havB b q))
theorem slc_takeN {l : List Int} {i : Nat} (h : i ≤ l.length) : slc l 0 (i : Int) = some (l.take i) := slc_take (by omega)
theorem ordered_eq (hb : SmB b) (hq : SmP q) (hl : q.Limits.length = b.Consumers.length) (hpl : p.Limits.length = b.Consumers.length) {o : List Int} (hln : o.length ≤ 1000) (hc : ∀ c ∈ o, 0 ≤ c ∧ c < (b.Consumers.length : Int)) : shed_ordered b p q o = some (!dB (∃ i, i < o.length ∧ badO b p q o i = true)) := by
  unfold shed_ordered
  have h1 := loop_anyB (step := shed_ordered_L1 p o) (fun k => ((k : Int), tq b q)) o.length (fun k => badO b p q o k = true) (r := .inr false) (e := .inl (tq b q)) (fun k hk hp => by
    have hck := hc _ (gt_mem hk)
    have c2 := contains2_eq hb hq hl (l := o.take k) (by rw [List.length_take]; omega) (fun c hm => hc c (List.mem_of_mem_take hm))
    have c3 := contains3_eq hb hq hl (l := o.take k) (by rw [List.length_take]; omega) (fun c hm => hc c (List.mem_of_mem_take hm))
    unfold shed_ordered_L1
    simp only [tq, lt_len hk, if_true, idx_gt hk, Option.bind_some, slc_takeN (show k ≤ o.length by omega)]
    rw [idx_gtZ (l := q.Limits) hck.1 (by omega), idx_gtZ (l := p.Limits) hck.1 (by omega), W_succ (by omega)]
    simp only [Option.bind_some, c2, c3, ordered1_eq hb hq, tq]
    unfold badO at hp
    cases hd : decide (gt q.Limits (gt o k).toNat < gt p.Limits (gt o k).toNat) <;> cases hf : (fedB b q (gt o k)).2 <;> cases hu : (o.take k).any (fulB b q) <;> cases hv : (o.take k).any (havB b q) <;> rw [hd, hf, hu, hv] at hp <;> simp [ordered1_eq hb hq, c2, c3, hf, hu, hv, tq] at hp ⊢) (fun k hk hp => by
    have hck := hc _ (gt_mem hk)
    have c2 := contains2_eq hb hq hl (l := o.take k) (by rw [List.length_take]; omega) (fun c hm => hc c (List.mem_of_mem_take hm))
    have c3 := contains3_eq hb hq hl (l := o.take k) (by rw [List.length_take]; omega) (fun c hm => hc c (List.mem_of_mem_take hm))
    unfold shed_ordered_L1
    simp only [tq, lt_len hk, if_true, idx_gt hk, Option.bind_some, slc_takeN (show k ≤ o.length by omega)]
    rw [idx_gtZ (l := q.Limits) hck.1 (by omega), idx_gtZ (l := p.Limits) hck.1 (by omega), W_succ (by omega)]
    simp only [Option.bind_some, c2, c3, ordered1_eq hb hq, tq]
    unfold badO at hp
    cases hd : decide (gt q.Limits (gt o k).toNat < gt p.Limits (gt o k).toNat) <;> cases hf : (fedB b q (gt o k)).2 <;> cases hu : (o.take k).any (fulB b q) <;> cases hv : (o.take k).any (havB b q) <;> rw [hd, hf, hu, hv] at hp <;> simp [ordered1_eq hb hq, c2, c3, hf, hu, hv, tq] at hp ⊢) (by
    unfold shed_ordered_L1
    simp only [tq, nlt_len, Bool.false_eq_true, if_false]) (by omega)
  have h1' : loopO (shed_ordered_L1 p o) (0, b.Buses, b.Breakers, b.Sources, b.Consumers, b.Phase, b.Frequency, q.Closed, q.Sources, q.Limits, q.Broken) = _ := h1
  rw [h1']
  cases dB (∃ i, i < o.length ∧ badO b p q o i = true) <;> rfl
theorem delete1_own {x : Island} (hx : Sm x.Consumers) {l : List Int} (hl : l.length ≤ 1000) : slices_DeleteFunc_int_int_v1 l x = some (l.filter fun c => decide (c ∈ x.Consumers)) := by
  have e1 : shed_Check_1 = shed_relief__shed_1 := rfl
  have e2 : slices_IndexFunc_int_int_flat_v1_L1 = slices_IndexFunc_int_int_flat_L1 := rfl
  have e3 : slices_DeleteFunc_int_int_v1_L1 = slices_DeleteFunc_int_int_L1 := rfl
  rw [← delete_own hx hl]
  unfold slices_DeleteFunc_int_int_v1 slices_DeleteFunc_int_int slices_IndexFunc_int_int_flat_v1 slices_IndexFunc_int_int_flat
  rw [e2, e3]
/-- what the check demands of a state q, where c is what clearing makes of p -/
def ChkOk (b : Board) (c q : Power) : Prop := (Les c q ∧ ∀ k : Nat, k < b.Buses.toNat → loadI q (ofB b q (k : Int)).1 ≤ rateI b (ofB b q (k : Int)).1) ∧ ∀ x ∈ isl b c, ∀ i, i < (ownL b x).length → badO b c q (ownL b x) i = false
theorem check18_eq (hb : SmB b) (hp : SmP p) (hq : SmP q) (h : stt b p = 0) (h' : stt b q = 0) : shed_Check b p q = some (dB (ChkOk b (clrP b p) q)) := by
  obtain ⟨⟨hl, hg⟩, _⟩ := stt_zero.1 h
  have hbus := hl.bus
  have hcon := hl.con
  have hchk : chk b = 0 := chk_zero.2 ⟨hl, hg⟩
  have hc := sm_clrP (b := b) hp
  have hs := stt_clrP h
  obtain ⟨s1, s2, s3, s4, s5, s6⟩ := brk_lens hs
  obtain ⟨t1, t2, t3, t4, t5, t6⟩ := brk_lens h'
  have hce : (⟨(clrP b p).Closed, (clrP b p).Sources, (clrP b p).Limits, (clrP b p).Broken⟩ : Power) = clrP b p := rfl
  unfold shed_Check
  simp only [clear_eq hb hp h, Option.bind_some, show ((0 : Int) != 0) = false from rfl, Bool.false_eq_true, if_false, state_eq hb hq, h', hce, lesser_eq hc hq (by omega) (by omega)]
  generalize hcc : clrP b p = c at *
  by_cases g1 : Les c q
  case neg =>
    rw [dB_F g1, dB_F fun hh => g1 hh.1.1]
    simp only [Bool.not_false, if_true]
  rw [dB_T g1]
  simp only [Bool.not_true, Bool.false_eq_true, if_false]
  have e1 := loop_anyB (step := shed_Check_L1 b q) (fun k => (k : Int)) b.Buses.toNat (fun k => rateI b (ofB b q (k : Int)).1 < loadI q (ofB b q (k : Int)).1) (r := .inr false) (e := .inl ())
    (fun k hk hn => by
      unfold shed_Check_L1
      rw [dT (by omega), over_eq hb hq, dF hn, W_succ (by omega)]
      simp only [if_true, Option.bind_some, Bool.false_eq_true, if_false])
    (fun k hk hp => by
      unfold shed_Check_L1
      rw [dT (by omega), over_eq hb hq, dT hp]
      simp only [if_true, Option.bind_some])
    (by
      unfold shed_Check_L1
      rw [dF (by omega)]
      simp only [Bool.false_eq_true, if_false]) (by omega)
  have e1' : loopO (shed_Check_L1 b q) 0 = _ := e1
  rw [e1']
  by_cases g2 : ∃ k, k < b.Buses.toNat ∧ rateI b (ofB b q (k : Int)).1 < loadI q (ofB b q (k : Int)).1
  · rw [dB_T g2]
    obtain ⟨k, hk, g⟩ := g2
    rw [dB_F fun hh => by have := hh.1.2 k hk; omega]
    rfl
  rw [dB_F g2]
  have k2 : ∀ k : Nat, k < b.Buses.toNat → loadI q (ofB b q (k : Int)).1 ≤ rateI b (ofB b q (k : Int)).1 := fun k hk => by
    apply Classical.byContradiction
    intro hn
    exact g2 ⟨k, hk, by omega⟩
  simp only [cond_false, Option.bind_some, Sum.elim_inl, order_eq hb hchk, islands_eq hb hc hs]
  have hil := isl_len (b := b) (p := c)
  have e2 := loop_anyB (step := shed_Check_L2 b q ((0 : Int), c.Closed, c.Sources, c.Limits, c.Broken, clrA b p) (ordL b) (isl b c)) (fun k => (k : Int)) (isl b c).length (fun k => ∃ i, i < (ownL b (gt (isl b c) k)).length ∧ badO b c q (ownL b (gt (isl b c) k)) i = true) (r := .inr false) (e := .inl ())
    (fun k hk hn => by
      have hx := gt_mem hk
      obtain ⟨p1, _, p3, _⟩ := isl_parts hg.1 hx
      obtain ⟨_, o1, o2⟩ := own_bd hs hx
      have hce' : (⟨c.Closed, c.Sources, c.Limits, c.Broken⟩ : Power) = c := rfl
      unfold shed_Check_L2
      simp only [lt_len hk, if_true, idx_gt hk, Option.bind_some, iclone_eq (l := ordL b) (by rw [ord_len]; omega), delete1_own (x := gt (isl b c) k) (by unfold Sm; omega) (l := ordL b) (by rw [ord_len]; omega), hce']
      rw [show (ordL b).filter (fun d => decide (d ∈ (gt (isl b c) k).Consumers)) = ownL b (gt (isl b c) k) from rfl, ordered_eq hb hq (by omega) (by omega) (by omega) o1, dB_F hn, W_succ (by omega)]
      rfl)
    (fun k hk hn => by
      have hx := gt_mem hk
      obtain ⟨p1, _, p3, _⟩ := isl_parts hg.1 hx
      obtain ⟨_, o1, o2⟩ := own_bd hs hx
      have hce' : (⟨c.Closed, c.Sources, c.Limits, c.Broken⟩ : Power) = c := rfl
      unfold shed_Check_L2
      simp only [lt_len hk, if_true, idx_gt hk, Option.bind_some, iclone_eq (l := ordL b) (by rw [ord_len]; omega), delete1_own (x := gt (isl b c) k) (by unfold Sm; omega) (l := ordL b) (by rw [ord_len]; omega), hce']
      rw [show (ordL b).filter (fun d => decide (d ∈ (gt (isl b c) k).Consumers)) = ownL b (gt (isl b c) k) from rfl, ordered_eq hb hq (by omega) (by omega) (by omega) o1, dB_T hn]
      rfl)
    (by
      unfold shed_Check_L2
      simp only [nlt_len, Bool.false_eq_true, if_false]) (by omega)
  have e2' : loopO (shed_Check_L2 b q ((0 : Int), c.Closed, c.Sources, c.Limits, c.Broken, clrA b p) (ordL b) (isl b c)) 0 = _ := e2
  rw [e2']
  by_cases g3 : ∃ k, k < (isl b c).length ∧ ∃ i, i < (ownL b (gt (isl b c) k)).length ∧ badO b c q (ownL b (gt (isl b c) k)) i = true
  · rw [dB_T g3]
    obtain ⟨k, hk, i, hi, g⟩ := g3
    rw [dB_F fun hh => by have := hh.2 _ (gt_mem hk) i hi; rw [g] at this; cases this]
    rfl
  · rw [dB_F g3, dB_T ⟨⟨g1, k2⟩, fun x hx i hi => by
      obtain ⟨k, hk, rfl⟩ := mem_gt hx
      cases hbd : badO b c q (ownL b (gt (isl b c) k)) i with
      | false => rfl
      | true => exact (g3 ⟨k, hk, i, hi, hbd⟩).elim⟩]
    rfl
end
end Rx
end Go.Proofs.YtfnphdhcgkondaaGreat
