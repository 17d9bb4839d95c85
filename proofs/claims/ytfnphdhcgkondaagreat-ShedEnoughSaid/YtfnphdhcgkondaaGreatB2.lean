/- The loads of islands. -/
import Derived.Test.YtfnphdhcgkondaaGreatN5
import Derived.Test.YtfnphdhcgkondaaGreatB1
set_option linter.unusedVariables false
set_option linter.unusedSimpArgs false
namespace Go.Proofs.YtfnphdhcgkondaaGreat
open Go Go.RowKit Dp
namespace Rx
section
variable {b : Board} {p : Power}
/-- sum over a list of numbers of parts -/
def sumF (f : Nat → Int) (l : List Int) : Int := sumL (l.map fun k => f k.toNat)
theorem sumF_snoc (f : Nat → Int) (l : List Int) (k : Int) : sumF f (l ++ [k]) = sumF f l + f k.toNat := by
  unfold sumF
  rw [List.map_append, sumL_append]
  simp [sumL]
theorem sumF_bd {f : Nat → Int} {l : List Int} {B : Int} (h : ∀ k ∈ l, 0 ≤ f k.toNat ∧ f k.toNat ≤ B) : 0 ≤ sumF f l ∧ sumF f l ≤ B * l.length := by
  have := sum_bd (l := l.map fun k => f k.toNat) (B := B) (fun x hx => by
    obtain ⟨k, hk, rfl⟩ := List.mem_map.1 hx
    exact h k hk)
  simpa [sumF] using this
def loadI (p : Power) (x : Island) : Int := if x.Sources = [] then 0 else sumF (gt p.Limits) x.Consumers
def rateI (b : Board) (x : Island) : Int := sumF (fun k => (gt b.Sources k).Rating) x.Sources
/-- an island's parts are those of the board -/
theorem ofB_parts (hg : BrkOk b) (k : Int) : (∀ c ∈ (ofB b p k).1.Consumers, 0 ≤ c ∧ c < b.Consumers.length) ∧ (∀ c ∈ (ofB b p k).1.Sources, 0 ≤ c ∧ c < b.Sources.length) ∧ (ofB b p k).1.Consumers.length ≤ b.Consumers.length ∧ (ofB b p k).1.Sources.length ≤ b.Sources.length := by
  unfold ofB
  split
  · have h := isle_len (b := b) (p := p) (gt (grp b p) k.toNat).toNat
    refine ⟨fun c hc => ?_, fun c hc => ?_, h.2.2, h.2.1⟩
    · obtain ⟨j, hj, _, _, e⟩ := mem_con.1 hc
      omega
    · obtain ⟨j, hj, _, _, e⟩ := mem_src.1 hc
      omega
  · exact ⟨fun c hc => (by cases hc), fun c hc => (by cases hc), Nat.zero_le _, Nat.zero_le _⟩
theorem lim_bd (h : stt b p = 0) {k : Nat} (hk : k < b.Consumers.length) : 0 ≤ gt p.Limits k ∧ gt p.Limits k ≤ 50000 := by
  obtain ⟨⟨hl, hg⟩, ⟨s1, s2, s3⟩, g1, g2, g3⟩ := stt_zero.1 h
  have h1 := (g3 k (by omega)).1
  have h2 := (hg.2.2.2.2 k hk).2.1
  omega
theorem rat_bd (h : stt b p = 0) {k : Nat} (hk : k < b.Sources.length) : 1 ≤ (gt b.Sources k).Rating ∧ (gt b.Sources k).Rating ≤ 50000 := by
  obtain ⟨⟨hl, hg⟩, _⟩ := stt_zero.1 h
  exact (hg.2.2.2.1 k hk).1
theorem ofB_zero (h : stt b p ≠ 0) (k : Int) : (ofB b p k).1 = ⟨[], [], []⟩ := by unfold ofB; rw [if_neg (fun hn => h hn.1)]
theorem load_eq (hb : SmB b) (hp : SmP p) (k : Int) : balance_Load b p k = some (loadI p (ofB b p k).1) := by
  by_cases h : stt b p = 0
  case neg =>
    unfold balance_Load
    rw [of_eq hb hp]
    have e : ofT b p k = ([], [], [], (ofB b p k).2) := by unfold ofT; rw [ofB_zero h]
    rw [e, ofB_zero h]
    rfl
  obtain ⟨⟨hl, hg⟩, ⟨s1, s2, s3⟩, _⟩ := stt_zero.1 h
  obtain ⟨h1, h2, h3, h4⟩ := ofB_parts (p := p) hg.1 k
  have h8 := hl.con
  generalize hx : (ofB b p k).1 = x at *
  have hlp := loop_run (step := balance_Load_L1 p (ofT b p k)) (fun i => (if x.Sources = [] then 0 else sumF (gt p.Limits) (x.Consumers.take i), (i : Int))) x.Consumers.length (r := loadI p x) (fun i hi => by
    obtain ⟨c0, c1⟩ := h1 _ (gt_mem hi)
    obtain ⟨c, ec⟩ := Int.eq_ofNat_of_zero_le c0
    have ec : gt x.Consumers i = (c : Int) := ec
    have hc : c < p.Limits.length := by omega
    have e1 : (ofT b p k).2.2.1 = x.Consumers := by rw [← hx]; rfl
    have e2 : (ofT b p k).2.1 = x.Sources := by rw [← hx]; rfl
    have hbd := sumF_bd (f := gt p.Limits) (l := x.Consumers.take i) (B := 50000) (fun c hc => by
      have := h1 c (List.mem_of_mem_take hc)
      exact lim_bd h (by omega))
    have hlen : (x.Consumers.take i).length ≤ 16 := by simp; omega
    have hcb := lim_bd h (k := c) (by omega)
    by_cases hs : x.Sources = []
    · simp only [balance_Load_L1, e1, e2, hs, lt_len hi, if_true, idx_gt hi, ec, Option.bind_some, dF (show ¬ len ([] : List Int) > 0 by decide), Bool.false_eq_true, if_false, W_succ (show i < 1000000000000000000 by omega)]
    · have hpos : len x.Sources > 0 := by have := List.length_pos_iff.2 hs; unfold len; omega
      simp only [balance_Load_L1, e1, e2, if_neg hs, lt_len hi, if_true, idx_gt hi, ec, Option.bind_some, dT hpos, idx_gt hc, W_succ (show i < 1000000000000000000 by omega), take_gt hi, sumF_snoc, Int.toNat_natCast]
      rw [W_sm (by omega) (by omega)]) (by
    have e1 : (ofT b p k).2.2.1 = x.Consumers := by rw [← hx]; rfl
    simp only [balance_Load_L1, e1, nlt_len, Bool.false_eq_true, if_false, List.take_length]
    rfl)
  unfold balance_Load
  have e0 : (if x.Sources = [] then (0 : Int) else sumF (gt p.Limits) (x.Consumers.take 0), ((0 : Nat) : Int)) = (0, 0) := by simp [sumF, sumL]
  have hlp' : loopO (balance_Load_L1 p (ofT b p k)) (if x.Sources = [] then (0 : Int) else sumF (gt p.Limits) (x.Consumers.take 0), ((0 : Nat) : Int)) = _ := hlp
  rw [e0] at hlp'
  simp only [of_eq hb hp, Option.bind_some, hlp']
theorem rating_eq (hb : SmB b) (hp : SmP p) (k : Int) : balance_Rating b p k = some (rateI b (ofB b p k).1) := by
  by_cases h : stt b p = 0
  case neg =>
    unfold balance_Rating
    rw [of_eq hb hp]
    have e : ofT b p k = ([], [], [], (ofB b p k).2) := by unfold ofT; rw [ofB_zero h]
    rw [e, ofB_zero h]
    rfl
  obtain ⟨⟨hl, hg⟩, ⟨s1, s2, s3⟩, _⟩ := stt_zero.1 h
  obtain ⟨h1, h2, h3, h4⟩ := ofB_parts (p := p) hg.1 k
  have h8 := hl.src
  generalize hx : (ofB b p k).1 = x at *
  have e2 : (ofT b p k).2.1 = x.Sources := by rw [← hx]; rfl
  have hlp := loop_run (step := balance_Rating_L1 b (ofT b p k)) (fun i => (sumF (fun k => (gt b.Sources k).Rating) (x.Sources.take i), (i : Int))) x.Sources.length (r := rateI b x) (fun i hi => by
    obtain ⟨c0, c1⟩ := h2 _ (gt_mem hi)
    obtain ⟨c, ec⟩ := Int.eq_ofNat_of_zero_le c0
    have ec : gt x.Sources i = (c : Int) := ec
    have hc : c < b.Sources.length := by omega
    have hbd := sumF_bd (f := fun k => (gt b.Sources k).Rating) (l := x.Sources.take i) (B := 50000) (fun c hc => by
      have := h2 c (List.mem_of_mem_take hc)
      have := rat_bd h (k := c.toNat) (by omega)
      exact ⟨by omega, this.2⟩)
    have hlen : (x.Sources.take i).length ≤ 8 := by simp; omega
    have hcb := rat_bd h (k := c) (by omega)
    simp only [balance_Rating_L1, e2, lt_len hi, if_true, idx_gt hi, ec, Option.bind_some, idx_gt hc, W_succ (show i < 1000000000000000000 by omega), take_gt hi, sumF_snoc, Int.toNat_natCast]
    rw [W_sm (by omega) (by omega)]) (by
    simp only [balance_Rating_L1, e2, nlt_len, Bool.false_eq_true, if_false, List.take_length]
    rfl)
  unfold balance_Rating
  have hlp' : loopO (balance_Rating_L1 b (ofT b p k)) (0, 0) = _ := hlp
  simp only [of_eq hb hp, Option.bind_some, hlp']
theorem over_eq (hb : SmB b) (hp : SmP p) (k : Int) : balance_Overloaded b p k = some (decide (rateI b (ofB b p k).1 < loadI p (ofB b p k).1)) := by
  unfold balance_Overloaded
  simp only [load_eq hb hp, rating_eq hb hp, Option.bind_some]
/-! what each generator takes -/
def ratesI (b : Board) (x : Island) : List Int := x.Sources.map fun k => (gt b.Sources k.toNat).Rating
theorem ratesI_sum (x : Island) : sumL (ratesI b x) = rateI b x := by unfold ratesI rateI sumF; rfl
theorem isl_parts (hg : BrkOk b) {x : Island} (hx : x ∈ isl b p) : (∀ c ∈ x.Consumers, 0 ≤ c ∧ c < b.Consumers.length) ∧ (∀ c ∈ x.Sources, 0 ≤ c ∧ c < b.Sources.length) ∧ x.Consumers.length ≤ b.Consumers.length ∧ x.Sources.length ≤ b.Sources.length ∧ 0 < x.Buses.length := by
  obtain ⟨f, hf, e, hne⟩ := mem_isl.1 hx
  have h := isle_len (b := b) (p := p) f
  rw [e]
  refine ⟨fun c hc => ?_, fun c hc => ?_, h.2.2, h.2.1, List.length_pos_iff.2 hne⟩
  · obtain ⟨j, hj, _, _, e⟩ := mem_con.1 hc
    omega
  · obtain ⟨j, hj, _, _, e⟩ := mem_src.1 hc
    omega
theorem isl_of (h : stt b p = 0) {x : Island} (hx : x ∈ isl b p) : (ofB b p (gt x.Buses 0)).1 = x := by
  obtain ⟨⟨hl, hg⟩, _⟩ := stt_zero.1 h
  have hb0 := (isl_parts hg.1 hx).2.2.2.2
  obtain ⟨h1, h2, h3⟩ := isleOf_uniq hx (gt_mem hb0)
  unfold ofB
  rw [if_pos ⟨h, h1, by omega⟩]
  exact h3.symm
theorem rat_isl (h : stt b p = 0) {x : Island} (hx : x ∈ isl b p) : Rat (ratesI b x) := by
  obtain ⟨⟨hl, hg⟩, _⟩ := stt_zero.1 h
  obtain ⟨h1, h2, h3, h4, _⟩ := isl_parts hg.1 hx
  refine ⟨by unfold ratesI; simp; have := hl.src; omega, fun r hr => ?_⟩
  obtain ⟨k, hk, rfl⟩ := List.mem_map.1 hr
  have := h2 k hk
  exact rat_bd h (by omega)
theorem load_bd (h : stt b p = 0) {x : Island} (hx : x ∈ isl b p) : 0 ≤ loadI p x ∧ loadI p x ≤ 800000 ∧ (x.Sources = [] → loadI p x = 0) := by
  obtain ⟨⟨hl, hg⟩, _⟩ := stt_zero.1 h
  obtain ⟨h1, h2, h3, h4, _⟩ := isl_parts hg.1 hx
  have h8 := hl.con
  have hbd := sumF_bd (f := gt p.Limits) (l := x.Consumers) (B := 50000) (fun c hc => by
    have := h1 c hc
    exact lim_bd h (by omega))
  unfold loadI
  refine ⟨?_, ?_, fun e => if_pos e⟩
  · split <;> omega
  · split <;> omega
/-- the shares of an island -/
noncomputable def shareI (b : Board) (p : Power) (x : Island) : List Int := if x.Sources = [] then [] else splitP (loadI p x) (ratesI b x) (rateI b x)
theorem share_facts (h : stt b p = 0) {x : Island} (hx : x ∈ isl b p) : (shareI b p x).length = x.Sources.length ∧ sumL (shareI b p x) = loadI p x ∧ (∀ y ∈ shareI b p x, 0 ≤ y ∧ y ≤ 50000000000) ∧ (loadI p x ≤ rateI b x → ∀ i, i < x.Sources.length → gt (shareI b p x) i ≤ (gt b.Sources (gt x.Sources i).toNat).Rating) := by
  obtain ⟨l1, l2, l3⟩ := load_bd h hx
  have hr := rat_isl h hx
  unfold shareI
  by_cases hs : x.Sources = []
  · rw [if_pos hs, l3 hs, hs]
    exact ⟨rfl, rfl, fun y hy => (by cases hy), fun _ i hi => absurd hi (Nat.not_lt_zero _)⟩
  · have hne : ratesI b x ≠ [] := by unfold ratesI; simpa using hs
    have hlen : (ratesI b x).length = x.Sources.length := by simp [ratesI]
    rw [if_neg hs, ← ratesI_sum]
    refine ⟨by rw [split_len hr hne l1, hlen], split_sum hr hne l1, out_bd hr hne l1 l2, fun ht i hi => ?_⟩
    have := out_le hr hne l1 l2 ht (i := i) (by omega)
    have e : (ratesI b x).getD i 0 = (gt b.Sources (gt x.Sources i).toNat).Rating := by
      have : gt (ratesI b x) i = _ := gt_get (l := ratesI b x) (by omega)
      show gt (ratesI b x) i = _
      rw [this]
      simp only [ratesI, List.getElem_map]
      rw [← gt_get hi]
    rw [e] at this
    exact this
/-! the loads put in their places -/
def putI (x : Island) (l : List Int) (o : List Int) (k : Nat) : List Int := (List.range k).foldl (fun o i => o.set (gt x.Sources i).toNat (gt l i)) o
theorem putI_succ (x : Island) (l o : List Int) (k : Nat) : putI x l o (k + 1) = (putI x l o k).set (gt x.Sources k).toNat (gt l k) := by unfold putI; rw [List.range_succ, List.foldl_append]; rfl
theorem putI_len (x : Island) (l o : List Int) : ∀ k, (putI x l o k).length = o.length
  | 0 => rfl
  | k + 1 => by rw [putI_succ, List.length_set, putI_len x l o k]
noncomputable def allI (b : Board) (p : Power) (k : Nat) : List Int := (List.range k).foldl (fun o i => putI (gt (isl b p) i) (shareI b p (gt (isl b p) i)) o (gt (isl b p) i).Sources.length) (List.replicate b.Sources.length 0)
theorem allI_succ (k : Nat) : allI b p (k + 1) = putI (gt (isl b p) k) (shareI b p (gt (isl b p) k)) (allI b p k) (gt (isl b p) k).Sources.length := by unfold allI; rw [List.range_succ, List.foldl_append]; rfl
theorem allI_len : ∀ k, (allI b p k).length = b.Sources.length
  | 0 => by simp [allI]
  | k + 1 => by rw [allI_succ, putI_len, allI_len k]
/-! each generator is in one place -/
theorem isle_src_nodup (f : Nat) : (isle b p f).Sources.Nodup := rangeF_nodup _ _
theorem putI_gt {x : Island} {l o : List Int} (hn : x.Sources.Nodup) (h2 : ∀ c ∈ x.Sources, 0 ≤ c ∧ c < (o.length : Int)) : ∀ k, k ≤ x.Sources.length →
    (∀ i, i < k → gt (putI x l o k) (gt x.Sources i).toNat = gt l i) ∧ ∀ j : Nat, (∀ i, i < k → gt x.Sources i ≠ (j : Int)) → gt (putI x l o k) j = gt o j
  | 0, _ => ⟨fun i hi => absurd hi (by omega), fun j _ => rfl⟩
  | k + 1, hk => by
    obtain ⟨i1, i2⟩ := putI_gt hn h2 k (by omega)
    have hb := h2 _ (gt_mem (l := x.Sources) (k := k) (by omega))
    have hlt : (gt x.Sources k).toNat < (putI x l o k).length := by rw [putI_len]; omega
    refine ⟨fun i hi => ?_, fun j hj => ?_⟩
    · rw [putI_succ, gt_set hlt]
      by_cases hik : i = k
      · subst hik; rw [if_pos rfl]
      · have hbi := h2 _ (gt_mem (l := x.Sources) (k := i) (by omega))
        have hne : gt x.Sources i ≠ gt x.Sources k := fun e => hik (by
          rw [gt_get (show i < x.Sources.length by omega), gt_get (show k < x.Sources.length by omega)] at e
          exact ((List.pairwise_iff_getElem.1 hn) i k (by omega) (by omega) (by omega) e).elim)
        rw [if_neg (by omega)]
        exact i1 i (by omega)
    · rw [putI_succ, gt_set hlt, if_neg (by have := hj k (by omega); omega)]
      exact i2 j fun i hi => hj i (by omega)
end
end Rx
end Go.Proofs.YtfnphdhcgkondaaGreat
