/- What shedding leaves in an island. Plain laws, no program in sight. -/
import Derived.Test.YtfnphdhcgkondaaGreatH4
set_option linter.unusedVariables false
set_option linter.unusedSimpArgs false
namespace Go.Proofs.YtfnphdhcgkondaaGreat
open Go Go.RowKit Dp
namespace Rx
section
variable {b : Board} {p : Power} {L T : List Int} {x : Island}
theorem sumF_cons (f : Nat → Int) (a : Int) (l : List Int) : sumF f (a :: l) = f a.toNat + sumF f l := rfl
theorem sumF_congr {f g : Nat → Int} : ∀ {l : List Int}, (∀ c ∈ l, f c.toNat = g c.toNat) → sumF f l = sumF g l
  | [], _ => rfl
  | a :: l, h => by rw [sumF_cons, sumF_cons, h a (by simp), sumF_congr fun c hc => h c (by simp [hc])]
theorem sumF_zero {f : Nat → Int} : ∀ {l : List Int}, (∀ c ∈ l, f c.toNat = 0) → sumF f l = 0
  | [], _ => rfl
  | a :: l, h => by rw [sumF_cons, h a (by simp), sumF_zero fun c hc => h c (by simp [hc])]; rfl
theorem sumF_set {L : List Int} {c v : Int} (hc0 : 0 ≤ c) (hcL : c.toNat < L.length) : ∀ {l : List Int}, l.Nodup → (∀ d ∈ l, 0 ≤ d) → c ∈ l → sumF (gt (L.set c.toNat v)) l = sumF (gt L) l - gt L c.toNat + v
  | [], _, _, h => by cases h
  | a :: l, hn, h0, h => by
    rw [sumF_cons, sumF_cons]
    have hn' := List.nodup_cons.1 hn
    rw [gt_set hcL]
    by_cases e : a = c
    · subst e
      rw [if_pos rfl]
      have : sumF (gt (L.set a.toNat v)) l = sumF (gt L) l := sumF_congr fun d hd => by
        have hd0 := h0 d (by simp [hd])
        rw [gt_set hcL, if_neg fun e => hn'.1 (by have : d = a := by omega
                                                  rw [← this]; exact hd)]
      rw [this]
      omega
    · have ha0 := h0 a (by simp)
      rw [if_neg (by omega)]
      have hm : c ∈ l := by
        rcases List.mem_cons.1 h with h | h
        · exact (e h.symm).elim
        · exact h
      rw [sumF_set hc0 hcL hn'.2 (fun d hd => h0 d (by simp [hd])) hm]
      omega
theorem sumF_ne {f : Nat → Int} {c : Int} : ∀ {l : List Int}, l.Nodup → c ∈ l → sumF f (l.filter fun d => !decide (d = c)) = sumF f l - f c.toNat
  | [], _, h => by cases h
  | a :: l, hn, h => by
    have hn' := List.nodup_cons.1 hn
    by_cases e : a = c
    · subst e
      have : l.filter (fun d => !decide (d = a)) = l := List.filter_eq_self.2 fun d hd => by
        have : d ≠ a := fun e => hn'.1 (e ▸ hd)
        simp [this]
      rw [List.filter_cons, if_neg (by simp), this, sumF_cons]
      omega
    · have hm : c ∈ l := by
        rcases List.mem_cons.1 h with h | h
        · exact (e h.symm).elim
        · exact h
      rw [List.filter_cons, if_pos (by simp [e]), sumF_cons, sumF_cons, sumF_ne hn'.2 hm]
      omega
theorem left_nil (l : List Int) : left [] l = l := by unfold left; simp
theorem left_congr {T T' l : List Int} (h : ∀ c ∈ l, c ∈ T ↔ c ∈ T') : left T l = left T' l := by
  unfold left
  refine List.filter_congr fun c hc => ?_
  rw [decide_eq_decide.2 (h c hc)]
theorem left_mem {T l : List Int} {c : Int} (h : c ∈ l) (h' : c ∉ T) : c ∈ left T l := by
  unfold left
  rw [List.mem_filter]
  exact ⟨h, by simp [h']⟩
theorem left_snoc (T l : List Int) (c : Int) : left (T ++ [c]) l = (left T l).filter fun d => !decide (d = c) := by
  unfold left
  rw [List.filter_filter]
  refine List.filter_congr fun d _ => ?_
  by_cases h1 : d ∈ T <;> by_cases h2 : d = c <;> simp [h1, h2]
/-- what an island draws -/
def sumT (x : Island) (T L : List Int) : Int := sumF (gt L) (left T x.Consumers)
theorem sumT_trip (hn : x.Consumers.Nodup) {c : Int} (hc : c ∈ x.Consumers) (hT : c ∉ T) : sumT x (T ++ [c]) L = sumT x T L - gt L c.toNat := by
  unfold sumT
  rw [left_snoc, sumF_ne (by unfold left; exact hn.filter _) (left_mem hc hT)]
theorem sumT_congr {L L' T T' : List Int} (hL : ∀ c ∈ x.Consumers, gt L c.toNat = gt L' c.toNat) (hT : ∀ c ∈ x.Consumers, c ∈ T ↔ c ∈ T') : sumT x T L = sumT x T' L' := by
  unfold sumT
  rw [left_congr hT]
  exact sumF_congr fun c hc => hL c (left_sub hc).1
theorem exc_pos : 0 < exc b x T L ↔ rateI b x < sumT x T L := by
  unfold exc imax sumT
  split <;> omega
theorem exc_eq (h : rateI b x < sumT x T L) : exc b x T L = sumT x T L - rateI b x := by
  unfold exc imax
  unfold sumT at h ⊢
  split <;> omega
theorem mem_take_idx {o : List Int} {n : Nat} (hn : n ≤ o.length) {c : Int} : c ∈ o.take n ↔ ∃ i, i < n ∧ gt o i = c := mem_take_gt hn
theorem nodup_gt {o : List Int} (hn : o.Nodup) {i j : Nat} (hi : i < o.length) (hj : j < o.length) (hij : i ≠ j) : gt o i ≠ gt o j := by
  intro e
  rw [gt_get hi, gt_get hj] at e
  rcases Nat.lt_or_gt_of_ne hij with h | h
  · exact (List.pairwise_iff_getElem.1 hn) i j hi hj h e
  · exact (List.pairwise_iff_getElem.1 hn) j i hj hi h e.symm
/-- consumers of an island in a row -/
structure Row (b : Board) (x : Island) (o : List Int) : Prop where
  nd : x.Consumers.Nodup
  ond : o.Nodup
  mem : ∀ c, c ∈ o ↔ c ∈ x.Consumers
  bd : ∀ c ∈ x.Consumers, 0 ≤ c ∧ c < (b.Consumers.length : Int)
theorem Row.at {o : List Int} (h : Row b x o) {i : Nat} (hi : i < o.length) : gt o i ∈ x.Consumers ∧ 0 ≤ gt o i ∧ gt o i < (b.Consumers.length : Int) := by
  have := (h.mem _).1 (gt_mem hi)
  exact ⟨this, h.bd _ this⟩
theorem row_own (h : stt b p = 0) (hx : x ∈ isl b p) : Row b x (ownL b x) := by
  obtain ⟨h1, h2, h3⟩ := own_bd h hx
  refine ⟨?_, own_nodup b x, fun c => own_mem h1, h1⟩
  obtain ⟨f, hf, e, _⟩ := mem_isl.1 hx
  rw [e]
  exact rangeF_nodup _ _
/-- behind lowering n of them -/
structure LowF (b : Board) (x : Island) (T L0 L : List Int) (o : List Int) (n : Nat) : Prop where
  out : ∀ k : Nat, (∀ i, i < n → gt o i ≠ (k : Int)) → gt L k = gt L0 k
  lo : ∀ i, i < n → gt L (gt o i).toNat = gt L0 (gt o i).toNat ∨ gt L (gt o i).toNat < gt L0 (gt o i).toNat ∧ (gt b.Consumers (gt o i).toNat).Least ≤ gt L (gt o i).toNat
  ge : rateI b x ≤ sumT x T L ∨ L = L0
  le : sumT x T L ≤ rateI b x ∨ ∀ i, i < n → gt L (gt o i).toNat ≤ (gt b.Consumers (gt o i).toNat).Least
  lord : ∀ i j, i < j → j < n → gt L (gt o j).toNat < gt L0 (gt o j).toNat → gt L (gt o i).toNat ≤ (gt b.Consumers (gt o i).toNat).Least
theorem low_facts (h : stt b p = 0) {o : List Int} (hr : Row b x o) {s0 : List Int × List Act} (hL : LimOk p s0.1) (hT : ∀ c ∈ x.Consumers, c ∉ T) : ∀ n, n ≤ o.length → LowF b x T s0.1 (lowL b x T (o.take n) s0).1 o n
  | 0, _ => by
    have e : lowL b x T (o.take 0) s0 = s0 := rfl
    rw [e]
    exact ⟨fun _ _ => rfl, fun i hi => absurd hi (by omega), .inr rfl, .inr fun i hi => absurd hi (by omega), fun i j _ hj => absurd hj (by omega)⟩
  | n + 1, hn => by
    have ih := low_facts h hr hL hT n (by omega)
    have hok := (lowL_ok (x := x) (T := T) h (o := o.take n) hL fun c hc => by
      have := (hr.mem c).1 (List.mem_of_mem_take hc)
      exact hr.bd c this).1
    rw [take_gt (by omega), lowL_snoc]
    generalize lowL b x T (o.take n) s0 = s at ih hok ⊢
    obtain ⟨L1, a1⟩ := s
    simp only at ih hok ⊢
    obtain ⟨_, _, _, _, _, h6⟩ := brk_lens h
    have hlen := hok.len
    obtain ⟨hc, hc0, hc1⟩ := hr.at (i := n) (by omega)
    have hne : ∀ i, i < n → gt o i ≠ gt o n := fun i hi => nodup_gt hr.ond (by omega) (by omega) (by omega)
    have hneN : ∀ i, i < n → (gt o i).toNat ≠ (gt o n).toNat := fun i hi => by
      have h1 := hne i hi
      have h2 := (hr.at (i := i) (by omega)).2
      omega
    have hsame : gt L1 (gt o n).toNat = gt s0.1 (gt o n).toNat := ih.out _ fun i hi => by have := hne i hi; omega
    have hb := least_bd h (k := (gt o n).toNat) (by omega)
    unfold lowS
    by_cases ht : 0 < cutL b x T L1 (gt o n)
    · rw [if_pos ht]
      simp only
      have h1 := cut_le (b := b) (x := x) (T := T) (L := L1) (c := gt o n)
      have hex : rateI b x < sumT x T L1 := exc_pos.1 (by omega)
      have hee := exc_eq hex
      have hcase : cutL b x T L1 (gt o n) = exc b x T L1 ∨ cutL b x T L1 (gt o n) = gt L1 (gt o n).toNat - (gt b.Consumers (gt o n).toNat).Least := by
        unfold cutL imin
        split
        · exact .inr rfl
        · exact .inl rfl
      have hS : sumT x T (L1.set (gt o n).toNat (gt L1 (gt o n).toNat - cutL b x T L1 (gt o n))) = sumT x T L1 - cutL b x T L1 (gt o n) := by
        unfold sumT
        rw [sumF_set hc0 (by omega) (by unfold left; exact hr.nd.filter _) (fun d hd => (hr.bd d (left_sub hd).1).1) (left_mem hc (hT _ hc))]
        omega
      generalize cutL b x T L1 (gt o n) = t at *
      have hg : ∀ k, gt (L1.set (gt o n).toNat (gt L1 (gt o n).toNat - t)) k = if k = (gt o n).toNat then gt L1 (gt o n).toNat - t else gt L1 k := fun k => gt_set (by omega)
      have hall : ∀ i, i < n → gt L1 (gt o i).toNat ≤ (gt b.Consumers (gt o i).toNat).Least := by
        rcases ih.le with c | c
        · omega
        · exact c
      refine ⟨fun k hk => ?_, fun i hi => ?_, .inl ?_, ?_, fun i j hij hj hl => ?_⟩
      · rw [hg, if_neg (by have := hk n (by omega); omega)]
        exact ih.out k fun i hi => hk i (by omega)
      · rw [hg]
        by_cases e : i = n
        · subst e
          rw [if_pos rfl]
          exact .inr ⟨by omega, by omega⟩
        · rw [if_neg (hneN i (by omega))]
          exact ih.lo i (by omega)
      · rw [hS]; omega
      · rw [hS]
        rcases hcase with c | c
        · exact .inl (by omega)
        · refine .inr fun i hi => ?_
          rw [hg]
          by_cases e : i = n
          · subst e
            rw [if_pos rfl]
            omega
          · rw [if_neg (hneN i (by omega))]
            exact hall i (by omega)
      · rw [hg, if_neg (hneN i (by omega))]
        exact hall i (by omega)
    · rw [if_neg ht]
      simp only
      have hno : sumT x T L1 ≤ rateI b x ∨ gt L1 (gt o n).toNat ≤ (gt b.Consumers (gt o n).toNat).Least := by
        by_cases hex : rateI b x < sumT x T L1
        · have hee := exc_eq hex
          refine .inr ?_
          unfold cutL imin at ht
          split at ht <;> omega
        · exact .inl (by omega)
      refine ⟨fun k hk => ih.out k fun i hi => hk i (by omega), fun i hi => ?_, ih.ge, ?_, fun i j hij hj hl => ?_⟩
      · by_cases e : i = n
        · subst e; exact .inl hsame
        · exact ih.lo i (by omega)
      · rcases hno with c | c
        · exact .inl c
        · rcases ih.le with d | d
          · exact .inl d
          · refine .inr fun i hi => ?_
            by_cases e : i = n
            · subst e; exact c
            · exact d i (by omega)
      · by_cases e : j = n
        · subst e; omega
        · exact ih.lord i j hij (by omega) hl
/-- behind tripping among n of them -/
structure TripF (b : Board) (x : Island) (L T0 T : List Int) (o : List Int) (n : Nat) : Prop where
  out : ∀ c, (∀ i, i < n → gt o i ≠ c) → (c ∈ T ↔ c ∈ T0)
  pos : ∀ i, i < n → gt o i ∈ T → 0 < gt L (gt o i).toNat
  le : sumT x T L ≤ rateI b x ∨ ∀ i, i < n → gt o i ∈ T ∨ gt L (gt o i).toNat = 0
  ord : ∀ i j, i < j → j < n → gt o j ∈ T → gt o i ∈ T ∨ gt L (gt o i).toNat = 0
  last : ∀ j, j < n → gt o j ∈ T → (∀ i, j < i → i < n → gt o i ∉ T) → rateI b x < sumT x T L + gt L (gt o j).toNat
  none : sumT x T0 L ≤ rateI b x → T = T0
theorem trip_facts (h : stt b p = 0) {o : List Int} (hr : Row b x o) (hL : LimOk p L) {s0 : List Int × List Act} (hT : ∀ c ∈ x.Consumers, c ∉ s0.1) : ∀ n, n ≤ o.length → TripF b x L s0.1 (tripL b p x L (o.take n) s0).1 o n
  | 0, _ => by
    have e : tripL b p x L (o.take 0) s0 = s0 := rfl
    rw [e]
    exact ⟨fun _ _ => Iff.rfl, fun i hi => absurd hi (by omega), .inr fun i hi => absurd hi (by omega), fun i j _ hj => absurd hj (by omega), fun i hi => absurd hi (by omega), fun _ => rfl⟩
  | n + 1, hn => by
    have ih := trip_facts h hr hL hT n (by omega)
    rw [take_gt (by omega), tripL_snoc]
    generalize tripL b p x L (o.take n) s0 = s at ih ⊢
    obtain ⟨T1, a1⟩ := s
    simp only at ih ⊢
    obtain ⟨hc, hc0, hc1⟩ := hr.at (i := n) (by omega)
    have hne : ∀ i, i < n → gt o i ≠ gt o n := fun i hi => nodup_gt hr.ond (by omega) (by omega) (by omega)
    have hnT : gt o n ∉ T1 := fun hm => hT _ hc ((ih.out _ hne).1 hm)
    have hq := limq_bd h hL (k := (gt o n).toNat) (by omega)
    unfold tripS
    by_cases ht : 0 < gt L (gt o n).toNat ∧ 0 < exc b x T1 L
    · rw [if_pos ht]
      simp only
      have hex : rateI b x < sumT x T1 L := exc_pos.1 ht.2
      have hS : sumT x (T1 ++ [gt o n]) L = sumT x T1 L - gt L (gt o n).toNat := sumT_trip hr.nd hc hnT
      have hm : ∀ i, i < n → (gt o i ∈ T1 ++ [gt o n] ↔ gt o i ∈ T1) := fun i hi => by simp [hne i hi]
      have hall : ∀ i, i < n → gt o i ∈ T1 ∨ gt L (gt o i).toNat = 0 := by
        rcases ih.le with c | c
        · omega
        · exact c
      refine ⟨fun c hk => ?_, fun i hi hm' => ?_, .inr fun i hi => ?_, fun i j hij hj _ => ?_, fun j hj hjT hlast => ?_, fun h0 => ?_⟩
      · have : c ≠ gt o n := fun e => hk n (by omega) e.symm
        rw [List.mem_append]
        simp only [List.mem_singleton, this, or_false]
        exact ih.out c fun i hi => hk i (by omega)
      · by_cases e : i = n
        · subst e; exact ht.1
        · exact ih.pos i (by omega) ((hm i (by omega)).1 hm')
      · by_cases e : i = n
        · subst e; exact .inl (by simp)
        · rcases hall i (by omega) with c | c
          · exact .inl ((hm i (by omega)).2 c)
          · exact .inr c
      · rcases hall i (by omega) with c | c
        · exact .inl ((hm i (by omega)).2 c)
        · exact .inr c
      · by_cases e : j = n
        · subst e; rw [hS]; omega
        · exact (hlast n (by omega) (by omega) (by simp)).elim
      · have := ih.none h0
        subst this
        omega
    · rw [if_neg ht]
      simp only
      have hno : sumT x T1 L ≤ rateI b x ∨ gt L (gt o n).toNat = 0 := by
        by_cases hex : rateI b x < sumT x T1 L
        · have := exc_pos.2 hex
          exact .inr (by omega)
        · exact .inl (by omega)
      refine ⟨fun c hk => ih.out c fun i hi => hk i (by omega), fun i hi hm' => ?_, ?_, fun i j hij hj hjT => ?_, fun j hj hjT hlast => ?_, ih.none⟩
      · by_cases e : i = n
        · subst e; exact (hnT hm').elim
        · exact ih.pos i (by omega) hm'
      · rcases hno with c | c
        · exact .inl c
        · rcases ih.le with d | d
          · exact .inl d
          · refine .inr fun i hi => ?_
            by_cases e : i = n
            · subst e; exact .inr c
            · exact d i (by omega)
      · by_cases e : j = n
        · subst e; exact (hnT hjT).elim
        · exact ih.ord i j hij (by omega) hjT
      · by_cases e : j = n
        · subst e; exact (hnT hjT).elim
        · exact ih.last j (by omega) hjT fun i h1 h2 => hlast i h1 (by omega)
end
end Rx
end Go.Proofs.YtfnphdhcgkondaaGreat
