/- States behind lowering and tripping: what islands are there, the excess. Plain laws. -/
import Derived.Test.YtfnphdhcgkondaaGreatH2
set_option linter.unusedVariables false
set_option linter.unusedSimpArgs false
namespace Go.Proofs.YtfnphdhcgkondaaGreat
open Go Go.RowKit Dp
namespace Rx
section
variable {b : Board} {p : Power} {L T : List Int}
/-- a breaker of a consumer of a list -/
def trp (b : Board) (T : List Int) (i : Nat) : Bool := (gt b.Breakers i).Kind == 3 && decide ((gt b.Breakers i).B ∈ T)
/-- the state with these limits where these consumers are tripped -/
def stq (b : Board) (p : Power) (L T : List Int) : Power := ⟨opn p.Closed (trp b T), p.Sources, L, p.Broken⟩
structure LimOk (p : Power) (L : List Int) : Prop where
  len : L.length = p.Limits.length
  le : ∀ k, k < L.length → 0 ≤ gt L k ∧ gt L k ≤ gt p.Limits k
theorem limOk_self (h : stt b p = 0) : LimOk p p.Limits := ⟨rfl, fun k hk => by
  obtain ⟨_, _, _, _, _, h6⟩ := brk_lens h
  have := lim_bd h (k := k) (by omega)
  omega⟩
theorem least_bd (h : stt b p = 0) {k : Nat} (hk : k < b.Consumers.length) : 0 ≤ (gt b.Consumers k).Least ∧ (gt b.Consumers k).Least ≤ 50000 := by
  obtain ⟨⟨hl, hg⟩, _⟩ := stt_zero.1 h
  have h1 := (hg.2.2.2.2 k hk).2
  omega
theorem stt_q (h : stt b p = 0) (hL : LimOk p L) (T : List Int) : stt b (stq b p L T) = 0 := by
  have hx : stt b { p with Closed := opn p.Closed (trp b T) } = 0 := stt_less h (opn_len _ _) rfl rfl rfl fun k hk => opn_le hk
  obtain ⟨h1, ⟨s1, s2, s3⟩, ⟨g1, g2⟩, g3, g4⟩ := stt_zero.1 hx
  refine stt_zero.2 ⟨h1, ⟨s1, s2, by show L.length = _; rw [hL.len]; exact s3⟩, ⟨g1, g2⟩, g3, fun k hk => ?_⟩
  have hk' : k < p.Limits.length := by rw [← hL.len]; exact hk
  obtain ⟨a, c⟩ := g4 k hk'
  have h2 := hL.le k hk
  refine ⟨⟨h2.1, Int.le_trans h2.2 a.2⟩, ?_⟩
  refine Nat.le_trans (clo_mono (b := b) (p := { p with Closed := opn p.Closed (trp b T) }) (q := stq b p L T) (fun j hj => hj) b.Breakers.length) c
theorem sm_q (hp : SmP p) (hL : LimOk p L) (T : List Int) : SmP (stq b p L T) := by
  obtain ⟨h1, h2, h3, h4⟩ := hp
  refine ⟨?_, h2, ?_, h4⟩
  · show Sm (opn p.Closed _); unfold Sm at h1 ⊢; rw [opn_len]; exact h1
  · show Sm L; unfold Sm at h3 ⊢; rw [hL.len]; exact h3
theorem same_q (h : stt b p = 0) (L T : List Int) : SameT b p (stq b p L T) := by
  obtain ⟨s1, _⟩ := brk_lens h
  refine ⟨rfl, fun _ _ => rfl, fun k hk h3 => ?_⟩
  show gt (opn p.Closed _) k = _
  rw [opn_gt (by omega)]
  unfold trp
  rw [beqF h3]
  simp
theorem opn_opn (C : List Bool) (P Q : Nat → Bool) : opn (opn C P) Q = opn C fun i => P i || Q i := by
  refine ext_gt (by simp [opn_len]) fun i hi => ?_
  rw [opn_len, opn_len] at hi
  rw [opn_gt (by rw [opn_len]; exact hi), opn_gt hi, opn_gt hi]
  cases gt C i <;> cases P i <;> rfl
theorem opn_congr {C : List Bool} {P Q : Nat → Bool} (h : ∀ i, i < C.length → P i = Q i) : opn C P = opn C Q := by
  refine ext_gt (by simp [opn_len]) fun i hi => ?_
  rw [opn_len] at hi
  rw [opn_gt hi, opn_gt hi, h i hi]
theorem opn_none (C : List Bool) {P : Nat → Bool} (h : ∀ i, P i = false) : opn C P = C := by
  refine ext_gt (by simp [opn_len]) fun i hi => ?_
  rw [opn_len] at hi
  rw [opn_gt hi, h i]
  simp
theorem stq_nil (p : Power) : stq b p p.Limits [] = p := by
  unfold stq
  rw [opn_none p.Closed fun i => by unfold trp; simp]
theorem trp_snoc (T : List Int) (c : Int) (i : Nat) : trp b (T ++ [c]) i = (trp b T i || ((gt b.Breakers i).Kind == 3 && (gt b.Breakers i).B == c)) := by
  unfold trp
  cases (gt b.Breakers i).Kind == 3 with
  | false => rfl
  | true =>
    simp only [Bool.true_and, List.mem_append, List.mem_singleton, Bool.decide_or]
    rw [show decide ((gt b.Breakers i).B = c) = ((gt b.Breakers i).B == c) from rfl]
theorem led_q (h : stt b p = 0) (L : List Int) {T : List Int} {c : Int} (hc : c ∉ T) : led b (stq b p L T) 3 c = led b p 3 c := by
  obtain ⟨s1, _⟩ := brk_lens h
  refine led_kind fun k hk h3 hB => ?_
  show gt (opn p.Closed _) k = _
  rw [opn_gt (by omega)]
  unfold trp
  rw [hB, decide_eq_false hc]
  simp
theorem led_qT (h : stt b p = 0) (L : List Int) {T : List Int} {c : Int} (hc : c ∈ T) : (led b (stq b p L T) 3 c).2 = false := by
  obtain ⟨s1, _⟩ := brk_lens h
  unfold led
  have : (List.range b.Breakers.length).find? (ledAt b (stq b p L T) 3 c) = none := by
    rw [List.find?_eq_none]
    intro k hk he
    have hk := List.mem_range.1 hk
    unfold ledAt at he
    simp only [Bool.and_eq_true, beq_iff_eq] at he
    obtain ⟨⟨h3, hB⟩, hcl⟩ := he
    have hcl : gt (opn p.Closed (trp b T)) k = true := hcl
    rw [opn_gt (by omega)] at hcl
    unfold trp at hcl
    rw [h3, hB, decide_eq_true hc] at hcl
    simp at hcl
  rw [this]
theorem rangeF_filter (P : Nat → Bool) (Q : Int → Bool) (n : Nat) : (rangeF P n).filter Q = rangeF (fun i => P i && Q (i : Int)) n := by
  unfold rangeF
  rw [List.filter_map, List.filter_filter]
  congr 1
  refine List.filter_congr fun i _ => ?_
  simp [Bool.and_comm]
/-- not tripped -/
def left (T l : List Int) : List Int := l.filter fun c => !decide (c ∈ T)
theorem isle_q (h : stt b p = 0) (L T : List Int) (f : Nat) : isle b (stq b p L T) f = ⟨(isle b p f).Buses, (isle b p f).Sources, left T (isle b p f).Consumers⟩ := by
  have hS := same_q h L T
  obtain ⟨e1, e2⟩ := hS.srcs f
  have e3 : (isle b (stq b p L T) f).Consumers = left T (isle b p f).Consumers := by
    show rangeF (conP b (stq b p L T) f) _ = left T (rangeF (conP b p f) _)
    unfold left
    rw [rangeF_filter]
    congr 1
    funext j
    unfold conP
    rw [hS.grp]
    by_cases hc : (j : Int) ∈ T
    · rw [led_qT h L hc, decide_eq_true hc]; simp
    · rw [led_q h L hc, decide_eq_false hc]; simp
  rw [← e1, ← e2, ← e3]
theorem ofB_q (h : stt b p = 0) (hL : LimOk p L) (T : List Int) (k : Int) : (ofB b (stq b p L T) k).1 = ⟨(ofB b p k).1.Buses, (ofB b p k).1.Sources, left T (ofB b p k).1.Consumers⟩ := by
  unfold ofB
  by_cases c : 0 ≤ k ∧ k < b.Buses
  · rw [if_pos ⟨stt_q h hL T, c⟩, if_pos ⟨h, c⟩]
    simp only
    unfold isleOf
    rw [(same_q h L T).grp]
    exact isle_q h L T _
  · rw [if_neg fun x => c x.2, if_neg fun x => c x.2]
    rfl
/-- what an island draws beyond what its sources give -/
def exc (b : Board) (x : Island) (T L : List Int) : Int := imax 0 (sumF (gt L) (left T x.Consumers) - rateI b x)
theorem left_sub {T l : List Int} {c : Int} (h : c ∈ left T l) : c ∈ l ∧ c ∉ T := by
  unfold left at h
  rw [List.mem_filter] at h
  exact ⟨h.1, by simpa using h.2⟩
theorem left_len (T l : List Int) : (left T l).length ≤ l.length := List.length_filter_le _ _
theorem limq_bd (h : stt b p = 0) (hL : LimOk p L) {k : Nat} (hk : k < b.Consumers.length) : 0 ≤ gt L k ∧ gt L k ≤ 50000 := by
  obtain ⟨_, _, _, _, _, h6⟩ := brk_lens h
  have h1 := hL.le k (by rw [hL.len]; omega)
  have h2 := lim_bd h hk
  omega
theorem rateI_bd (h : stt b p = 0) {x : Island} (hx : x ∈ isl b p) : 0 ≤ rateI b x ∧ rateI b x ≤ 400000 := by
  obtain ⟨⟨hl, hg⟩, _⟩ := stt_zero.1 h
  obtain ⟨h1, h2, h3, h4, _⟩ := isl_parts hg.1 hx
  have h8 := hl.src
  have := sumF_bd (f := fun k => (gt b.Sources k).Rating) (l := x.Sources) (B := 50000) (fun c hc => by
    have := h2 c hc
    have := rat_bd h (k := c.toNat) (by omega)
    exact ⟨by omega, this.2⟩)
  unfold rateI
  omega
theorem sumq_bd (h : stt b p = 0) (hL : LimOk p L) {x : Island} (hx : x ∈ isl b p) (T : List Int) : 0 ≤ sumF (gt L) (left T x.Consumers) ∧ sumF (gt L) (left T x.Consumers) ≤ 800000 := by
  obtain ⟨⟨hl, hg⟩, _⟩ := stt_zero.1 h
  obtain ⟨h1, h2, h3, h4, _⟩ := isl_parts hg.1 hx
  have h8 := hl.con
  have h9 := left_len T x.Consumers
  have := sumF_bd (f := gt L) (l := left T x.Consumers) (B := 50000) (fun c hc => by
    have := h1 c (left_sub hc).1
    exact limq_bd h hL (by omega))
  omega
theorem excess_eq (hb : SmB b) (hp : SmP p) (h : stt b p = 0) (hL : LimOk p L) (T : List Int) {x : Island} (hx : x ∈ isl b p) (hs : x.Sources ≠ []) (a : List Act) : relief_excess ⟨b, stq b p L T, a⟩ (gt x.Buses 0) = some (exc b x T L) := by
  unfold relief_excess
  simp only [load_eq hb (sm_q (b := b) hp hL T), rating_eq hb (sm_q (b := b) hp hL T), Option.bind_some]
  rw [ofB_q h hL T, isl_of h hx]
  have h1 := sumq_bd h hL hx T
  have h2 := rateI_bd h hx
  have e1 : loadI (stq b p L T) ⟨x.Buses, x.Sources, left T x.Consumers⟩ = sumF (gt L) (left T x.Consumers) := by
    unfold loadI
    rw [if_neg hs]
    rfl
  have e2 : rateI b ⟨x.Buses, x.Sources, left T x.Consumers⟩ = rateI b x := rfl
  rw [e1, e2, W_sm (by omega) (by omega)]
  rfl
/-! lowering -/
/-- how much a consumer is lowered -/
def cutL (b : Board) (x : Island) (T L : List Int) (c : Int) : Int := imin (exc b x T L) (gt L c.toNat - (gt b.Consumers c.toNat).Least)
def lowS (b : Board) (x : Island) (T : List Int) (s : List Int × List Act) (c : Int) : List Int × List Act :=
  if 0 < cutL b x T s.1 c then (s.1.set c.toNat (gt s.1 c.toNat - cutL b x T s.1 c), s.2 ++ [⟨5, c, gt s.1 c.toNat - cutL b x T s.1 c⟩]) else s
def lowL (b : Board) (x : Island) (T o : List Int) (s : List Int × List Act) : List Int × List Act := o.foldl (lowS b x T) s
theorem cut_le {x : Island} {c : Int} : cutL b x T L c ≤ gt L c.toNat - (gt b.Consumers c.toNat).Least ∧ cutL b x T L c ≤ exc b x T L := by
  unfold cutL imin
  split <;> omega
theorem lowS_ok (h : stt b p = 0) {x : Island} {T : List Int} {s : List Int × List Act} (hL : LimOk p s.1) {c : Int} (hc : 0 ≤ c ∧ c < (b.Consumers.length : Int)) : LimOk p (lowS b x T s c).1 ∧ (lowS b x T s c).2.length ≤ s.2.length + 1 := by
  obtain ⟨_, _, _, _, _, h6⟩ := brk_lens h
  have hlen := hL.len
  unfold lowS
  by_cases h0 : 0 < cutL b x T s.1 c
  · rw [if_pos h0]
    have h1 := cut_le (b := b) (x := x) (T := T) (L := s.1) (c := c)
    have h2 := least_bd h (k := c.toNat) (by omega)
    refine ⟨⟨by simp [hlen], fun k hk => ?_⟩, by simp⟩
    rw [List.length_set] at hk
    simp only
    rw [gt_set (by omega)]
    have h3 := hL.le k hk
    by_cases e : k = c.toNat
    · subst e; rw [if_pos rfl]; omega
    · rw [if_neg e]; exact h3
  · rw [if_neg h0]; exact ⟨hL, by omega⟩
theorem lowL_ok (h : stt b p = 0) {x : Island} {T : List Int} : ∀ {o : List Int} {s : List Int × List Act}, LimOk p s.1 → (∀ c ∈ o, 0 ≤ c ∧ c < (b.Consumers.length : Int)) → LimOk p (lowL b x T o s).1 ∧ (lowL b x T o s).2.length ≤ s.2.length + o.length
  | [], s, hL, ho => ⟨hL, Nat.le_refl _⟩
  | c :: o, s, hL, ho => by
    obtain ⟨h1, h2⟩ := lowS_ok (T := T) (x := x) h hL (ho c (by simp))
    obtain ⟨h3, h4⟩ := lowL_ok (x := x) (T := T) h (o := o) h1 (fun d hd => ho d (by simp [hd]))
    have e : lowL b x T (c :: o) s = lowL b x T o (lowS b x T s c) := rfl
    rw [e]
    exact ⟨h3, by simp only [List.length_cons]; omega⟩
theorem lowL_snoc {x : Island} {o : List Int} {c : Int} {s : List Int × List Act} : lowL b x T (o ++ [c]) s = lowS b x T (lowL b x T o s) c := by
  unfold lowL
  rw [List.foldl_append]
  rfl
/-! tripping -/
def tripS (b : Board) (p : Power) (x : Island) (L : List Int) (s : List Int × List Act) (c : Int) : List Int × List Act :=
  if 0 < gt L c.toNat ∧ 0 < exc b x s.1 L then (s.1 ++ [c], s.2 ++ (fnd (stq b p L s.1).Closed fun i => (gt b.Breakers i).Kind == 3 && (gt b.Breakers i).B == c).map actO) else s
def tripL (b : Board) (p : Power) (x : Island) (L o : List Int) (s : List Int × List Act) : List Int × List Act := o.foldl (tripS b p x L) s
theorem tripL_snoc {x : Island} {o : List Int} {c : Int} {s : List Int × List Act} : tripL b p x L (o ++ [c]) s = tripS b p x L (tripL b p x L o s) c := by
  unfold tripL
  rw [List.foldl_append]
  rfl
theorem tripS_len {x : Island} {s : List Int × List Act} {c : Int} (h : p.Closed.length ≤ 1000) : (tripS b p x L s c).2.length ≤ s.2.length + 1000 := by
  unfold tripS
  split
  · have := fnd_len (stq b p L s.1).Closed fun i => (gt b.Breakers i).Kind == 3 && (gt b.Breakers i).B == c
    have e : (stq b p L s.1).Closed.length = p.Closed.length := opn_len _ _
    simp only [List.length_append, List.length_map]
    omega
  · omega
theorem tripL_len {x : Island} (h : p.Closed.length ≤ 1000) : ∀ {o : List Int} {s : List Int × List Act}, (tripL b p x L o s).2.length ≤ s.2.length + 1000 * o.length
  | [], s => Nat.le_refl _
  | c :: o, s => by
    have h1 := tripS_len (b := b) (p := p) (L := L) (x := x) (s := s) (c := c) h
    have h2 := tripL_len (x := x) h (o := o) (s := tripS b p x L s c)
    have e : tripL b p x L (c :: o) s = tripL b p x L o (tripS b p x L s c) := rfl
    rw [e]
    simp only [List.length_cons]
    omega
/-! islands -/
/-- shedding in one island: limits, tripped, acts -/
def shS (b : Board) (p : Power) (s : List Int × List Int × List Act) (x : Island) : List Int × List Int × List Act :=
  if x.Sources = [] then s else
    ((lowL b x s.2.1 (ownL b x) (s.1, s.2.2)).1, tripL b p x (lowL b x s.2.1 (ownL b x) (s.1, s.2.2)).1 (ownL b x) (s.2.1, (lowL b x s.2.1 (ownL b x) (s.1, s.2.2)).2))
def shA (b : Board) (p : Power) (l : List Island) : List Int × List Int × List Act := l.foldl (shS b p) (p.Limits, [], [])
theorem shA_snoc (l : List Island) (x : Island) : shA b p (l ++ [x]) = shS b p (shA b p l) x := by
  unfold shA
  rw [List.foldl_append]
  rfl
theorem own_bd (h : stt b p = 0) {x : Island} (hx : x ∈ isl b p) : (∀ c ∈ x.Consumers, 0 ≤ c ∧ c < (b.Consumers.length : Int)) ∧ (∀ c ∈ ownL b x, 0 ≤ c ∧ c < (b.Consumers.length : Int)) ∧ (ownL b x).length ≤ 16 := by
  obtain ⟨⟨hl, hg⟩, _⟩ := stt_zero.1 h
  obtain ⟨h1, _⟩ := isl_parts hg.1 hx
  have h2 : ∀ c ∈ x.Consumers, 0 ≤ c ∧ c < (b.Consumers.length : Int) := fun c hc => by have := h1 c hc; omega
  refine ⟨h2, fun c hc => h2 c ((own_mem h2).1 hc), ?_⟩
  have := own_len b x
  have := hl.con
  omega
theorem shA_ok (h : stt b p = 0) : ∀ k, k ≤ (isl b p).length → LimOk p (shA b p ((isl b p).take k)).1 ∧ (shA b p ((isl b p).take k)).2.2.length ≤ 20000 * k
  | 0, _ => ⟨limOk_self h, Nat.le_refl _⟩
  | k + 1, hk => by
    obtain ⟨h1, h2⟩ := shA_ok h k (by omega)
    obtain ⟨s1, _, s3, _⟩ := brk_lens h
    rw [take_gt (by omega), shA_snoc]
    have hx := gt_mem (l := isl b p) (k := k) (by omega)
    obtain ⟨_, o1, o2⟩ := own_bd h hx
    unfold shS
    split
    · exact ⟨h1, by omega⟩
    · obtain ⟨l1, l2⟩ := lowL_ok (x := gt (isl b p) k) (T := (shA b p ((isl b p).take k)).2.1) (s := ((shA b p ((isl b p).take k)).1, (shA b p ((isl b p).take k)).2.2)) h h1 o1
      refine ⟨l1, ?_⟩
      have := tripL_len (b := b) (p := p) (L := (lowL b (gt (isl b p) k) (shA b p ((isl b p).take k)).2.1 (ownL b (gt (isl b p) k)) ((shA b p ((isl b p).take k)).1, (shA b p ((isl b p).take k)).2.2)).1) (x := gt (isl b p) k) (by omega) (o := ownL b (gt (isl b p) k)) (s := ((shA b p ((isl b p).take k)).2.1, (lowL b (gt (isl b p) k) (shA b p ((isl b p).take k)).2.1 (ownL b (gt (isl b p) k)) ((shA b p ((isl b p).take k)).1, (shA b p ((isl b p).take k)).2.2)).2))
      simp only at this l2 ⊢
      omega
end
end Rx
end Go.Proofs.YtfnphdhcgkondaaGreat
