/- What shedding leaves in all islands. Plain laws, no program in sight. -/
import Derived.Test.YtfnphdhcgkondaaGreatH5
set_option linter.unusedVariables false
set_option linter.unusedSimpArgs false
namespace Go.Proofs.YtfnphdhcgkondaaGreat
open Go Go.RowKit Dp
namespace Rx
section
variable {b : Board} {p : Power} {L T : List Int} {x : Island}
/-- an island with sources behind shedding -/
structure Shd (b : Board) (p : Power) (x : Island) (L T : List Int) : Prop where
  lo : ∀ c ∈ x.Consumers, gt L c.toNat = gt p.Limits c.toNat ∨ gt L c.toNat < gt p.Limits c.toNat ∧ (gt b.Consumers c.toNat).Least ≤ gt L c.toNat
  ge : rateI b x ≤ sumT x [] L ∨ ∀ c ∈ x.Consumers, gt L c.toNat = gt p.Limits c.toNat
  le : sumT x [] L ≤ rateI b x ∨ ∀ c ∈ x.Consumers, gt L c.toNat ≤ (gt b.Consumers c.toNat).Least
  lord : ∀ i j, i < j → j < (ownL b x).length → gt L (gt (ownL b x) j).toNat < gt p.Limits (gt (ownL b x) j).toNat → gt L (gt (ownL b x) i).toNat ≤ (gt b.Consumers (gt (ownL b x) i).toNat).Least
  tz : sumT x [] L ≤ rateI b x → ∀ c ∈ x.Consumers, c ∉ T
  tpos : ∀ c ∈ x.Consumers, c ∈ T → 0 < gt L c.toNat
  tord : ∀ i j, i < j → j < (ownL b x).length → gt (ownL b x) j ∈ T → gt (ownL b x) i ∈ T ∨ gt L (gt (ownL b x) i).toNat = 0
  tlast : ∀ j, j < (ownL b x).length → gt (ownL b x) j ∈ T → (∀ i, j < i → i < (ownL b x).length → gt (ownL b x) i ∉ T) → rateI b x < sumT x T L + gt L (gt (ownL b x) j).toNat
  fin : sumT x T L ≤ rateI b x
/-- an island that is left as it is -/
def Kpt (p : Power) (x : Island) (L T : List Int) : Prop := ∀ c ∈ x.Consumers, gt L c.toNat = gt p.Limits c.toNat ∧ c ∉ T
theorem Shd.congr (hr : Row b x (ownL b x)) {L' T' : List Int} (hL : ∀ c ∈ x.Consumers, gt L' c.toNat = gt L c.toNat) (hT : ∀ c ∈ x.Consumers, c ∈ T' ↔ c ∈ T) (h : Shd b p x L T) : Shd b p x L' T' := by
  have e0 : sumT x [] L' = sumT x [] L := sumT_congr hL fun _ _ => Iff.rfl
  have e1 : sumT x T' L' = sumT x T L := sumT_congr hL hT
  refine ⟨fun c hc => ?_, ?_, ?_, fun i j hij hj => ?_, fun h0 c hc => ?_, fun c hc => ?_, fun i j hij hj => ?_, fun j hj => ?_, ?_⟩
  · rw [hL c hc]; exact h.lo c hc
  · rw [e0]
    exact h.ge.imp id fun g c hc => by rw [hL c hc]; exact g c hc
  · rw [e0]
    exact h.le.imp id fun g c hc => by rw [hL c hc]; exact g c hc
  · rw [hL _ (hr.at hj).1, hL _ (hr.at (i := i) (by omega)).1]
    exact h.lord i j hij hj
  · rw [hT c hc]
    exact h.tz (by rw [← e0]; exact h0) c hc
  · rw [hT c hc, hL c hc]
    exact h.tpos c hc
  · rw [hT _ (hr.at hj).1, hT _ (hr.at (i := i) (by omega)).1, hL _ (hr.at (i := i) (by omega)).1]
    exact h.tord i j hij hj
  · rw [hT _ (hr.at hj).1, e1, hL _ (hr.at hj).1]
    exact fun hm hl => h.tlast j hj hm fun i h1 h2 hm' => hl i h1 h2 ((hT _ (hr.at h2).1).2 hm')
  · rw [e1]; exact h.fin
theorem Row.idx {o : List Int} (hr : Row b x o) {c : Int} (hc : c ∈ x.Consumers) : ∃ i, i < o.length ∧ gt o i = c := mem_gt ((hr.mem c).2 hc)
/-- shedding in an island that nobody has touched -/
theorem shS_facts (h : stt b p = 0) (hx : x ∈ isl b p) (hs : x.Sources ≠ []) {s : List Int × List Int × List Act} (hL : LimOk p s.1) (h0 : ∀ c ∈ x.Consumers, gt s.1 c.toNat = gt p.Limits c.toNat ∧ c ∉ s.2.1) :
    Shd b p x (shS b p s x).1 (shS b p s x).2.1 ∧ ∀ c : Int, 0 ≤ c → c ∉ x.Consumers → gt (shS b p s x).1 c.toNat = gt s.1 c.toNat ∧ (c ∈ (shS b p s x).2.1 ↔ c ∈ s.2.1) := by
  have hr := row_own h hx
  have hT0 : ∀ c ∈ x.Consumers, c ∉ s.2.1 := fun c hc => (h0 c hc).2
  unfold shS
  rw [if_neg hs]
  have hl := low_facts h hr (T := s.2.1) (s0 := (s.1, s.2.2)) hL hT0 (ownL b x).length (Nat.le_refl _)
  rw [List.take_length] at hl
  have hok := (lowL_ok (x := x) (T := s.2.1) (s := (s.1, s.2.2)) h (o := ownL b x) hL fun c hc => hr.bd c ((hr.mem c).1 hc)).1
  generalize lowL b x s.2.1 (ownL b x) (s.1, s.2.2) = s1 at hl hok ⊢
  obtain ⟨L1, a1⟩ := s1
  simp only at hl hok ⊢
  have ht := trip_facts h hr hok (s0 := (s.2.1, a1)) hT0 (ownL b x).length (Nat.le_refl _)
  rw [List.take_length] at ht
  generalize tripL b p x L1 (ownL b x) (s.2.1, a1) = s2 at ht ⊢
  obtain ⟨T1, a2⟩ := s2
  simp only at ht ⊢
  have hS : ∀ L', sumT x [] L' = sumT x s.2.1 L' := fun L' => sumT_congr (fun _ _ => rfl) fun c hc => by simp [hT0 c hc]
  refine ⟨⟨fun c hc => ?_, ?_, ?_, fun i j hij hj => ?_, fun g c hc => ?_, fun c hc => ?_, ht.ord, ht.last, ?_⟩, fun c hc0 hc => ⟨?_, ?_⟩⟩
  · obtain ⟨i, hi, rfl⟩ := hr.idx hc
    have := hl.lo i hi
    rw [(h0 _ hc).1] at this
    exact this
  · rw [hS]
    exact hl.ge.imp id fun g c hc => by rw [g]; exact (h0 c hc).1
  · rw [hS]
    refine hl.le.imp id fun g c hc => ?_
    obtain ⟨i, hi, rfl⟩ := hr.idx hc
    exact g i hi
  · have := hl.lord i j hij hj
    rw [(h0 _ (hr.at hj).1).1] at this
    exact this
  · rw [hS] at g
    rw [ht.none g]
    exact hT0 c hc
  · obtain ⟨i, hi, rfl⟩ := hr.idx hc
    exact ht.pos i hi
  · rcases ht.le with g | g
    · exact g
    · have : sumT x T1 L1 = 0 := sumF_zero fun c hc => by
        obtain ⟨h1, h2⟩ := left_sub hc
        obtain ⟨i, hi, rfl⟩ := hr.idx h1
        exact (g i hi).resolve_left h2
      rw [this]
      exact (rateI_bd h hx).1
  · refine hl.out c.toNat fun i hi e => hc ?_
    have := (hr.at hi).1
    rw [e] at this
    rwa [show ((c.toNat : Nat) : Int) = c by omega] at this
  · refine ht.out c fun i hi e => hc ?_
    rw [← e]
    exact (hr.at hi).1
/-! islands have no consumer in common -/
theorem isl_disj {i j : Nat} (hi : i < (isl b p).length) (hj : j < (isl b p).length) (hij : i ≠ j) {c : Int} (h1 : c ∈ (gt (isl b p) i).Consumers) : c ∉ (gt (isl b p) j).Consumers := by
  intro h2
  have key : ∀ i, i < (isl b p).length → ∃ f, gt (isl b p) i = isle b p f ∧ ∃ hf : i < ((List.range b.Buses.toNat).filter fun f => !(isle b p f).Buses.isEmpty).length, ((List.range b.Buses.toNat).filter fun f => !(isle b p f).Buses.isEmpty)[i] = f := fun i hi => by
    have hl : (isl b p).length = ((List.range b.Buses.toNat).filter fun f => !(isle b p f).Buses.isEmpty).length := by rw [isl_filter, List.length_map]
    refine ⟨_, ?_, by omega, rfl⟩
    rw [gt_get hi]
    simp only [isl_filter, List.getElem_map]
  obtain ⟨f, e1, hf, e2⟩ := key i hi
  obtain ⟨g, e3, hg, e4⟩ := key j hj
  rw [e1] at h1
  rw [e3] at h2
  obtain ⟨u, _, _, hu, eu⟩ := mem_con.1 h1
  obtain ⟨v, _, _, hv, ev⟩ := mem_con.1 h2
  have huv : u = v := by omega
  subst huv
  have hfg : f = g := by omega
  have hnd : ((List.range b.Buses.toNat).filter fun f => !(isle b p f).Buses.isEmpty).Nodup := List.nodup_range.filter _
  rcases Nat.lt_or_gt_of_ne hij with h | h
  · exact (List.pairwise_iff_getElem.1 hnd) i j hf hg h (by rw [e2, e4, hfg])
  · exact (List.pairwise_iff_getElem.1 hnd) j i hg hf h (by rw [e2, e4, hfg])
/-- one island's share of it -/
def One (b : Board) (p : Power) (x : Island) (L T : List Int) : Prop := (x.Sources = [] → Kpt p x L T) ∧ (x.Sources ≠ [] → Shd b p x L T)
theorem One.congr (hr : Row b x (ownL b x)) {L' T' : List Int} (hL : ∀ c ∈ x.Consumers, gt L' c.toNat = gt L c.toNat) (hT : ∀ c ∈ x.Consumers, c ∈ T' ↔ c ∈ T) (h : One b p x L T) : One b p x L' T' :=
  ⟨fun hs c hc => by rw [hL c hc, hT c hc]; exact h.1 hs c hc, fun hs => (h.2 hs).congr hr hL hT⟩
theorem shA_facts (h : stt b p = 0) : ∀ k, k ≤ (isl b p).length → (∀ i, i < k → One b p (gt (isl b p) i) (shA b p ((isl b p).take k)).1 (shA b p ((isl b p).take k)).2.1) ∧ ∀ c : Int, 0 ≤ c → (∀ i, i < k → c ∉ (gt (isl b p) i).Consumers) → gt (shA b p ((isl b p).take k)).1 c.toNat = gt p.Limits c.toNat ∧ c ∉ (shA b p ((isl b p).take k)).2.1
  | 0, _ => ⟨fun i hi => absurd hi (by omega), fun c _ _ => ⟨rfl, by
      intro hm
      have e : (shA b p ((isl b p).take 0)).2.1 = [] := rfl
      rw [e] at hm
      cases hm⟩⟩
  | k + 1, hk => by
    obtain ⟨i1, i2⟩ := shA_facts h k (by omega)
    obtain ⟨hok, _⟩ := shA_ok h k (by omega)
    have hx := gt_mem (l := isl b p) (k := k) (by omega)
    have hrow : ∀ i, i ≤ k → Row b (gt (isl b p) i) (ownL b (gt (isl b p) i)) := fun i hi => row_own h (gt_mem (by omega))
    have h0 : ∀ c ∈ (gt (isl b p) k).Consumers, gt (shA b p ((isl b p).take k)).1 c.toNat = gt p.Limits c.toNat ∧ c ∉ (shA b p ((isl b p).take k)).2.1 := fun c hc => i2 c ((hrow k (Nat.le_refl _)).bd c hc).1 fun i hi => isl_disj (by omega) (by omega) (by omega) hc
    rw [take_gt (by omega), shA_snoc]
    generalize shA b p ((isl b p).take k) = s at *
    by_cases hs : (gt (isl b p) k).Sources = []
    · have e : shS b p s (gt (isl b p) k) = s := by unfold shS; rw [if_pos hs]
      rw [e]
      refine ⟨fun i hi => ?_, fun c hc0 hc => i2 c hc0 fun i hi => hc i (by omega)⟩
      by_cases ei : i = k
      · subst ei
        exact ⟨fun _ => h0, fun hn => (hn hs).elim⟩
      · exact i1 i (by omega)
    · obtain ⟨f1, f2⟩ := shS_facts h hx hs hok h0
      refine ⟨fun i hi => ?_, fun c hc0 hc => ?_⟩
      · by_cases ei : i = k
        · subst ei
          exact ⟨fun hn => (hs hn).elim, fun _ => f1⟩
        · have hr := hrow i (by omega)
          refine (i1 i (by omega)).congr hr (fun c hc => ?_) fun c hc => ?_
          · exact (f2 c (hr.bd c hc).1 (isl_disj (by omega) (by omega) ei hc)).1
          · exact (f2 c (hr.bd c hc).1 (isl_disj (by omega) (by omega) ei hc)).2
      · obtain ⟨g1, g2⟩ := f2 c hc0 (hc k (by omega))
        obtain ⟨j1, j2⟩ := i2 c hc0 fun i hi => hc i (by omega)
        exact ⟨by rw [g1, j1], fun hm => j2 (g2.1 hm)⟩
/-- all that is shed: each island -/
theorem shAll_one (h : stt b p = 0) (hx : x ∈ isl b p) : One b p x (shAll b p).1 (shAll b p).2.1 := by
  have := (shA_facts h (isl b p).length (Nat.le_refl _)).1
  rw [List.take_length] at this
  obtain ⟨i, hi, rfl⟩ := mem_gt hx
  exact this i hi
theorem shAll_ok (h : stt b p = 0) : LimOk p (shAll b p).1 := by
  have := (shA_ok h (isl b p).length (Nat.le_refl _)).1
  rw [List.take_length] at this
  exact this
theorem stt_shd (h : stt b p = 0) : stt b (shdP b p) = 0 := stt_q h (shAll_ok h) _
theorem sm_shd (hp : SmP p) (h : stt b p = 0) : SmP (shdP b p) := sm_q hp (shAll_ok h) _
/-- where nothing is too much, nothing is done -/
theorem quiet (h : stt b p = 0) (hq : ∀ x ∈ isl b p, x.Sources ≠ [] → sumT x [] p.Limits ≤ rateI b x) : shAll b p = (p.Limits, [], []) := by
  have hlow : ∀ x ∈ isl b p, x.Sources ≠ [] → ∀ o : List Int, lowL b x [] o (p.Limits, []) = (p.Limits, []) := fun x hx hs o => by
    induction o with
    | nil => rfl
    | cons c o ih =>
      have e : lowL b x [] (c :: o) (p.Limits, []) = lowL b x [] o (lowS b x [] (p.Limits, []) c) := rfl
      have hn : ¬ 0 < exc b x [] p.Limits := fun hn => by have := exc_pos.1 hn; have := hq x hx hs; omega
      have h1 := cut_le (b := b) (x := x) (T := []) (L := p.Limits) (c := c)
      have e2 : lowS b x [] (p.Limits, []) c = (p.Limits, []) := by
        unfold lowS
        rw [if_neg (by simp only; omega)]
      rw [e, e2, ih]
  have htrip : ∀ x ∈ isl b p, x.Sources ≠ [] → ∀ o : List Int, tripL b p x p.Limits o ([], []) = ([], []) := fun x hx hs o => by
    induction o with
    | nil => rfl
    | cons c o ih =>
      have e : tripL b p x p.Limits (c :: o) ([], []) = tripL b p x p.Limits o (tripS b p x p.Limits ([], []) c) := rfl
      have hn : ¬ 0 < exc b x [] p.Limits := fun hn => by have := exc_pos.1 hn; have := hq x hx hs; omega
      have e2 : tripS b p x p.Limits ([], []) c = ([], []) := by
        unfold tripS
        rw [if_neg fun hh => hn hh.2]
      rw [e, e2, ih]
  have : ∀ l : List Island, (∀ x ∈ l, x ∈ isl b p) → shA b p l = (p.Limits, [], []) := fun l hl => by
    unfold shA
    induction l with
    | nil => rfl
    | cons x l ih =>
      rw [List.foldl_cons]
      have hx := hl x (by simp)
      have e : shS b p (p.Limits, [], []) x = (p.Limits, [], []) := by
        unfold shS
        by_cases hs : x.Sources = []
        · rw [if_pos hs]
        · rw [if_neg hs]
          simp only [hlow x hx hs, htrip x hx hs]
      rw [e]
      exact ih fun y hy => hl y (by simp [hy])
  exact this _ fun x hx => hx
end
end Rx
end Go.Proofs.YtfnphdhcgkondaaGreat
