/- The loads of islands. -/
import Derived.Test.YtfnphdhcgkondaaGreatN5
import Derived.Test.YtfnphdhcgkondaaGreatB1
set_option linter.unusedVariables false
set_option linter.unusedSimpArgs false
namespace Go.Proofs.YtfnphdhcgkondaaGreat
open Go Go.RowKit Dp
namespace Rx
section
variable {b : Board} {p : Power}
/-- sum over a list of numbers of parts -/
def sumF (f : Nat → Int) (l : List Int) : Int := sumL (l.map fun k => f k.toNat)
theorem sumF_snoc (f : Nat → Int) (l : List Int) (k : Int) : sumF f (l ++ [k]) = sumF f l + f k.toNat := by
  unfold sumF
  rw [List.map_append, sumL_append]
  simp [sumL]
theorem sumF_bd {f : Nat → Int} {l : List Int} {B : Int} (h : ∀ k ∈ l, 0 ≤ f k.toNat ∧ f k.toNat ≤ B) : 0 ≤ sumF f l ∧ sumF f l ≤ B * l.length := by
  have := sum_bd (l := l.map fun k => f k.toNat) (B := B) (fun x hx => by
    obtain ⟨k, hk, rfl⟩ := List.mem_map.1 hx
    exact h k hk)
  simpa [sumF] using this
def loadI (p : Power) (x : Island) : Int := if x.Sources = [] then 0 else sumF (gt p.Limits) x.Consumers
def rateI (b : Board) (x : Island) : Int := sumF (fun k => (gt b.Sources k).Rating) x.Sources
/-- an island's parts are those of the board -/
theorem ofB_parts (hg : BrkOk b) (k : Int) : (∀ c ∈ (ofB b p k).1.Consumers, 0 ≤ c ∧ c < b.Consumers.length) ∧ (∀ c ∈ (ofB b p k).1.Sources, 0 ≤ c ∧ c < b.Sources.length) ∧ (ofB b p k).1.Consumers.length ≤ b.Consumers.length ∧ (ofB b p k).1.Sources.length ≤ b.Sources.length := by
  unfold ofB
  split
  · have h := isle_len (b := b) (p := p) (gt (grp b p) k.toNat).toNat
    refine ⟨fun c hc => ?_, fun c hc => ?_, h.2.2, h.2.1⟩
    · obtain ⟨j, hj, _, _, e⟩ := mem_con.1 hc
      omega
    · obtain ⟨j, hj, _, _, e⟩ := mem_src.1 hc
      omega
  · exact ⟨fun c hc => (by cases hc), fun c hc => (by cases hc), Nat.zero_le _, Nat.zero_le _⟩
theorem lim_bd (h : stt b p = 0) {k : Nat} (hk : k < b.Consumers.length) : 0 ≤ gt p.Limits k ∧ gt p.Limits k ≤ 50000 := by
  obtain ⟨⟨hl, hg⟩, ⟨s1, s2, s3⟩, g1, g2, g3⟩ := stt_zero.1 h
  have h1 := (g3 k (by omega)).1
  have h2 := (hg.2.2.2.2 k hk).2.1
  omega
theorem rat_bd (h : stt b p = 0) {k : Nat} (hk : k < b.Sources.length) : 1 ≤ (gt b.Sources k).Rating ∧ (gt b.Sources k).Rating ≤ 50000 := by
  obtain ⟨⟨hl, hg⟩, _⟩ := stt_zero.1 h
  exact (hg.2.2.2.1 k hk).1
theorem ofB_zero (h : stt b p ≠ 0) (k : Int) : (ofB b p k).1 = ⟨[], [], []⟩ := by unfold ofB; rw [if_neg (fun hn => h hn.1)]
theorem load_eq (hb : SmB b) (hp : SmP p) (k : Int) : balance_Load b p k = some (loadI p (ofB b p k).1) := by
  by_cases h : stt b p = 0
  case neg =>
    unfold balance_Load
    rw [of_eq hb hp]
    have e : ofT b p k = ([], [], [], (ofB b p k).2) := by unfold ofT; rw [ofB_zero h]
    rw [e, ofB_zero h]
    rfl
  obtain ⟨⟨hl, hg⟩, ⟨s1, s2, s3⟩, _⟩ := stt_zero.1 h
  obtain ⟨h1, h2, h3, h4⟩ := ofB_parts (p := p) hg.1 k
  have h8 := hl.con
  generalize hx : (ofB b p k).1 = x at *
  have hlp := loop_run (step := balance_Load_L1 p (ofT b p k)) (fun i => (if x.Sources = [] then 0 else sumF (gt p.Limits) (x.Consumers.take i), (i : Int))) x.Consumers.length (r := loadI p x) (fun i hi => by
    obtain ⟨c0, c1⟩ := h1 _ (gt_mem hi)
    obtain ⟨c, ec⟩ := Int.eq_ofNat_of_zero_le c0
    have ec : gt x.Consumers i = (c : Int) := ec
    have hc : c < p.Limits.length := by omega
    have e1 : (ofT b p k).2.2.1 = x.Consumers := by rw [← hx]; rfl
    have e2 : (ofT b p k).2.1 = x.Sources := by rw [← hx]; rfl
    have hbd := sumF_bd (f := gt p.Limits) (l := x.Consumers.take i) (B := 50000) (fun c hc => by
      have := h1 c (List.mem_of_mem_take hc)
      exact lim_bd h (by omega))
    have hlen : (x.Consumers.take i).length ≤ 16 := by simp; omega
    have hcb := lim_bd h (k := c) (by omega)
    by_cases hs : x.Sources = []
    · simp only [balance_Load_L1, e1, e2, hs, lt_len hi, if_true, idx_gt hi, ec, Option.bind_some, dF (show ¬ len ([] : List Int) > 0 by decide), Bool.false_eq_true, if_false, W_succ (show i < 1000000000000000000 by omega)]
    · have hpos : len x.Sources > 0 := by have := List.length_pos_iff.2 hs; unfold len; omega
      simp only [balance_Load_L1, e1, e2, if_neg hs, lt_len hi, if_true, idx_gt hi, ec, Option.bind_some, dT hpos, idx_gt hc, W_succ (show i < 1000000000000000000 by omega), take_gt hi, sumF_snoc, Int.toNat_natCast]
      rw [W_sm (by omega) (by omega)]) (by
    have e1 : (ofT b p k).2.2.1 = x.Consumers := by rw [← hx]; rfl
    simp only [balance_Load_L1, e1, nlt_len, Bool.false_eq_true, if_false, List.take_length]
    rfl)
  unfold balance_Load
  have e0 : (if x.Sources = [] then (0 : Int) else sumF (gt p.Limits) (x.Consumers.take 0), ((0 : Nat) : Int)) = (0, 0) := by simp [sumF, sumL]
  have hlp' : loopO (balance_Load_L1 p (ofT b p k)) (if x.Sources = [] then (0 : Int) else sumF (gt p.Limits) (x.Consumers.take 0), ((0 : Nat) : Int)) = _ := hlp
  rw [e0] at hlp'
  simp only [of_eq hb hp, Option.bind_some, hlp']
theorem rating_eq (hb : SmB b) (hp : SmP p) (k : Int) : balance_Rating b p k = some (rateI b (ofB b p k).1) := by
  by_cases h : stt b p = 0
  case neg =>
    unfold balance_Rating
    rw [of_eq hb hp]
    have e : ofT b p k = ([], [], [], (ofB b p k).2) := by unfold ofT; rw [ofB_zero h]
    rw [e, ofB_zero h]
    rfl
  obtain ⟨⟨hl, hg⟩, ⟨s1, s2, s3⟩, _⟩ := stt_zero.1 h
  obtain ⟨h1, h2, h3, h4⟩ := ofB_parts (p := p) hg.1 k
  have h8 := hl.src
  generalize hx : (ofB b p k).1 = x at *
  have e2 : (ofT b p k).2.1 = x.Sources := by rw [← hx]; rfl
  have hlp := loop_run (step := balance_Rating_L1 b (ofT b p k)) (fun i => (sumF (fun k => (gt b.Sources k).Rating) (x.Sources.take i), (i : Int))) x.Sources.length (r := rateI b x) (fun i hi => by
    obtain ⟨c0, c1⟩ := h2 _ (gt_mem hi)
    obtain ⟨c, ec⟩ := Int.eq_ofNat_of_zero_le c0
    have ec : gt x.Sources i = (c : Int) := ec
    have hc : c < b.Sources.length := by omega
    have hbd := sumF_bd (f := fun k => (gt b.Sources k).Rating) (l := x.Sources.take i) (B := 50000) (fun c hc => by
      have := h2 c (List.mem_of_mem_take hc)
      have := rat_bd h (k := c.toNat) (by omega)
      exact ⟨by omega, this.2⟩)
    have hlen : (x.Sources.take i).length ≤ 8 := by simp; omega
    have hcb := rat_bd h (k := c) (by omega)
    simp only [balance_Rating_L1, e2, lt_len hi, if_true, idx_gt hi, ec, Option.bind_some, idx_gt hc, W_succ (show i < 1000000000000000000 by omega), take_gt hi, sumF_snoc, Int.toNat_natCast]
    rw [W_sm (by omega) (by omega)]) (by
    simp only [balance_Rating_L1, e2, nlt_len, Bool.false_eq_true, if_false, List.take_length]
    rfl)
  unfold balance_Rating
  have hlp' : loopO (balance_Rating_L1 b (ofT b p k)) (0, 0) = _ := hlp
  simp only [of_eq hb hp, Option.bind_some, hlp']
/-! what each generator takes -/
theorem isl_parts (hg : BrkOk b) {x : Island} (hx : x ∈ isl b p) : (∀ c ∈ x.Consumers, 0 ≤ c ∧ c < b.Consumers.length) ∧ (∀ c ∈ x.Sources, 0 ≤ c ∧ c < b.Sources.length) ∧ x.Consumers.length ≤ b.Consumers.length ∧ x.Sources.length ≤ b.Sources.length ∧ 0 < x.Buses.length := by
  obtain ⟨f, hf, e, hne⟩ := mem_isl.1 hx
  have h := isle_len (b := b) (p := p) f
  rw [e]
  refine ⟨fun c hc => ?_, fun c hc => ?_, h.2.2, h.2.1, List.length_pos_iff.2 hne⟩
  · obtain ⟨j, hj, _, _, e⟩ := mem_con.1 hc
    omega
  · obtain ⟨j, hj, _, _, e⟩ := mem_src.1 hc
    omega
theorem isl_of (h : stt b p = 0) {x : Island} (hx : x ∈ isl b p) : (ofB b p (gt x.Buses 0)).1 = x := by
  obtain ⟨⟨hl, hg⟩, _⟩ := stt_zero.1 h
  have hb0 := (isl_parts hg.1 hx).2.2.2.2
  obtain ⟨h1, h2, h3⟩ := isleOf_uniq hx (gt_mem hb0)
  unfold ofB
  rw [if_pos ⟨h, h1, by omega⟩]
  exact h3.symm
/-! the loads put in their places -/
/-! each generator is in one place -/
end
end Rx
end Go.Proofs.YtfnphdhcgkondaaGreat
