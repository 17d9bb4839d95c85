import Derived.Test.YtfnphdhcgkondaaGreatMb
import Derived.Test.YtfnphdhcgkondaaGreatMa
set_option linter.unusedVariables false
set_option linter.unusedSimpArgs false
namespace Go.Proofs.YtfnphdhcgkondaaGreat
open Go Go.RowKit Dp
namespace Rx
section
variable {b : Board} {p : Power} {L T : List Int}
def trp (b : Board) (T : List Int) (i : Nat) : Bool := (gt b.Breakers i).Kind == 3 && decide ((gt b.Breakers i).B ∈ T)
def stq (b : Board) (p : Power) (L T : List Int) : Power := ⟨opn p.Closed (trp b T), p.Sources, L, p.Broken⟩
structure LimOk (p : Power) (L : List Int) : Prop where
 len : L.length = p.Limits.length
 le : ∀ k, k < L.length → 0 ≤ gt L k ∧ gt L k ≤ gt p.Limits k
theorem limOk_self (h : stt b p = 0) : LimOk p p.Limits := ⟨rfl, fun k hk => by
 obtain ⟨_, _, _, _, _, h6⟩ := brk_lens h
 have := lim_bd h (k := k) (by omega)
 omega⟩
theorem least_bd (h : stt b p = 0) {k : Nat} (hk : k < b.Consumers.length) : 0 ≤ (gt b.Consumers k).Least ∧ (gt b.Consumers k).Least ≤ 50000 := by
 obtain ⟨⟨hl, hg⟩, _⟩ := stt_zero.1 h
 have h1 := (hg.2.2.2.2 k hk).2
 omega
theorem stt_q (h : stt b p = 0) (hL : LimOk p L) (T : List Int) : stt b (stq b p L T) = 0 := by
 have hx : stt b { p with Closed := opn p.Closed (trp b T) } = 0 := stt_less h (opn_len _ _) rfl rfl rfl fun k hk => opn_le hk
 obtain ⟨h1, ⟨s1, s2, s3⟩, ⟨g1, g2⟩, g3, g4⟩ := stt_zero.1 hx
 refine stt_zero.2 ⟨h1, ⟨s1, s2, by show L.length = _; rw [hL.len]; exact s3⟩, ⟨g1, g2⟩, g3, fun k hk => ?_⟩
 have hk' : k < p.Limits.length := by rw [← hL.len]; exact hk
 obtain ⟨a, c⟩ := g4 k hk'
 have h2 := hL.le k hk
 refine ⟨⟨h2.1, Int.le_trans h2.2 a.2⟩, ?_⟩
 refine Nat.le_trans (clo_mono (b := b) (p := { p with Closed := opn p.Closed (trp b T) }) (q := stq b p L T) (fun j hj => hj) b.Breakers.length) c
theorem sm_q (hp : SmP p) (hL : LimOk p L) (T : List Int) : SmP (stq b p L T) := by
 obtain ⟨h1, h2, h3, h4⟩ := hp
 refine ⟨?_, h2, ?_, h4⟩
 ·show Sm (opn p.Closed _); unfold Sm at h1 ⊢; rw [opn_len]; exact h1
 ·show Sm L; unfold Sm at h3 ⊢; rw [hL.len]; exact h3
theorem same_q (h : stt b p = 0) (L T : List Int) : SameT b p (stq b p L T) := by
 obtain ⟨s1, _⟩ := brk_lens h
 refine ⟨rfl, fun _ _ => rfl, fun k hk h3 => ?_⟩
 show gt (opn p.Closed _) k = _
 rw [opn_gt (by omega)]
 unfold trp
 rw [beqF h3]
 simp
theorem opn_opn (C : List Bool) (P Q : Nat → Bool) : opn (opn C P) Q = opn C fun i => P i || Q i := by
 refine ext_gt (by simp [opn_len]) fun i hi => ?_
 rw [opn_len, opn_len] at hi
 rw [opn_gt (by rw [opn_len]; exact hi), opn_gt hi, opn_gt hi]
 cases gt C i <;> cases P i <;> rfl
theorem opn_congr {C : List Bool} {P Q : Nat → Bool} (h : ∀ i, i < C.length → P i = Q i) : opn C P = opn C Q := by
 refine ext_gt (by simp [opn_len]) fun i hi => ?_
 rw [opn_len] at hi
 rw [opn_gt hi, opn_gt hi, h i hi]
theorem opn_none (C : List Bool) {P : Nat → Bool} (h : ∀ i, P i = false) : opn C P = C := by
 refine ext_gt (by simp [opn_len]) fun i hi => ?_
 rw [opn_len] at hi
 rw [opn_gt hi, h i]
 simp
theorem stq_nil (p : Power) : stq b p p.Limits [] = p := by
 unfold stq
 rw [opn_none p.Closed fun i => by unfold trp; simp]
theorem trp_snoc (T : List Int) (c : Int) (i : Nat) : trp b (T ++ [c]) i = (trp b T i || ((gt b.Breakers i).Kind == 3 && (gt b.Breakers i).B == c)) := by
 unfold trp
 cases (gt b.Breakers i).Kind == 3 with
 | false => rfl
 | true =>
  simp only [Bool.true_and, List.mem_append, List.mem_singleton, Bool.decide_or]
  rw [show decide ((gt b.Breakers i).B = c) = ((gt b.Breakers i).B == c) from rfl]
theorem led_q (h : stt b p = 0) (L : List Int) {T : List Int} {c : Int} (hc : c ∉ T) : led b (stq b p L T) 3 c = led b p 3 c := by
 obtain ⟨s1, _⟩ := brk_lens h
 refine led_kind fun k hk h3 hB => ?_
 show gt (opn p.Closed _) k = _
 rw [opn_gt (by omega)]
 unfold trp
 rw [hB, decide_eq_false hc]
 simp
theorem led_qT (h : stt b p = 0) (L : List Int) {T : List Int} {c : Int} (hc : c ∈ T) : (led b (stq b p L T) 3 c).2 = false := by
 obtain ⟨s1, _⟩ := brk_lens h
 unfold led
 have : (List.range b.Breakers.length).find? (ledAt b (stq b p L T) 3 c) = none := by
  rw [List.find?_eq_none]
  intro k hk he
  have hk := List.mem_range.1 hk
  unfold ledAt at he
  simp only [Bool.and_eq_true, beq_iff_eq] at he
  obtain ⟨⟨h3, hB⟩, hcl⟩ := he
  have hcl : gt (opn p.Closed (trp b T)) k = true := hcl
  rw [opn_gt (by omega)] at hcl
  unfold trp at hcl
  rw [h3, hB, decide_eq_true hc] at hcl
  simp at hcl
 rw [this]
theorem rangeF_filter (P : Nat → Bool) (Q : Int → Bool) (n : Nat) : (rangeF P n).filter Q = rangeF (fun i => P i && Q (i : Int)) n := by
 unfold rangeF
 rw [List.filter_map, List.filter_filter]
 congr 1
 refine List.filter_congr fun i _ => ?_
 simp [Bool.and_comm]
def left (T l : List Int) : List Int := l.filter fun c => !decide (c ∈ T)
theorem isle_q (h : stt b p = 0) (L T : List Int) (f : Nat) : isle b (stq b p L T) f = ⟨(isle b p f).Buses, (isle b p f).Sources, left T (isle b p f).Consumers⟩ := by
 have hS := same_q h L T
 obtain ⟨e1, e2⟩ := hS.srcs f
 have e3 : (isle b (stq b p L T) f).Consumers = left T (isle b p f).Consumers := by
  show rangeF (conP b (stq b p L T) f) _ = left T (rangeF (conP b p f) _)
  unfold left
  rw [rangeF_filter]
  congr 1
  funext j
  unfold conP
  rw [hS.grp]
  by_cases hc : (j : Int) ∈ T
  ·rw [led_qT h L hc, decide_eq_true hc]; simp
  ·rw [led_q h L hc, decide_eq_false hc]; simp
 rw [← e1, ← e2, ← e3]
theorem ofB_q (h : stt b p = 0) (hL : LimOk p L) (T : List Int) (k : Int) : (ofB b (stq b p L T) k).1 = ⟨(ofB b p k).1.Buses, (ofB b p k).1.Sources, left T (ofB b p k).1.Consumers⟩ := by
 unfold ofB
 by_cases c : 0 ≤ k ∧ k < b.Buses
 ·rw [if_pos ⟨stt_q h hL T, c⟩, if_pos ⟨h, c⟩]
  simp only
  unfold isleOf
  rw [(same_q h L T).grp]
  exact isle_q h L T _
 ·rw [if_neg fun x => c x.2, if_neg fun x => c x.2]
  rfl
def exc (b : Board) (x : Island) (T L : List Int) : Int := imax 0 (sumF (gt L) (left T x.Consumers) - rateI b x)
theorem left_sub {T l : List Int} {c : Int} (h : c ∈ left T l) : c ∈ l ∧ c ∉ T := by
 unfold left at h
 rw [List.mem_filter] at h
 exact ⟨h.1, by simpa using h.2⟩
theorem left_len (T l : List Int) : (left T l).length ≤ l.length := List.length_filter_le _ _
theorem limq_bd (h : stt b p = 0) (hL : LimOk p L) {k : Nat} (hk : k < b.Consumers.length) : 0 ≤ gt L k ∧ gt L k ≤ 50000 := by
 obtain ⟨_, _, _, _, _, h6⟩ := brk_lens h
 have h1 := hL.le k (by rw [hL.len]; omega)
 have h2 := lim_bd h hk
 omega
theorem rateI_bd (h : stt b p = 0) {x : Island} (hx : x ∈ isl b p) : 0 ≤ rateI b x ∧ rateI b x ≤ 400000 := by
 obtain ⟨⟨hl, hg⟩, _⟩ := stt_zero.1 h
 obtain ⟨h1, h2, h3, h4, _⟩ := isl_parts hg.1 hx
 have h8 := hl.src
 have := sumF_bd (f := fun k => (gt b.Sources k).Rating) (l := x.Sources) (B := 50000) (fun c hc => by
  have := h2 c hc
  have := rat_bd h (k := c.toNat) (by omega)
  exact ⟨by omega, this.2⟩)
 unfold rateI
 omega
theorem sumq_bd (h : stt b p = 0) (hL : LimOk p L) {x : Island} (hx : x ∈ isl b p) (T : List Int) : 0 ≤ sumF (gt L) (left T x.Consumers) ∧ sumF (gt L) (left T x.Consumers) ≤ 800000 := by
 obtain ⟨⟨hl, hg⟩, _⟩ := stt_zero.1 h
 obtain ⟨h1, h2, h3, h4, _⟩ := isl_parts hg.1 hx
 have h8 := hl.con
 have h9 := left_len T x.Consumers
 have := sumF_bd (f := gt L) (l := left T x.Consumers) (B := 50000) (fun c hc => by
  have := h1 c (left_sub hc).1
  exact limq_bd h hL (by omega))
 omega
theorem excess_eq (hb : SmB b) (hp : SmP p) (h : stt b p = 0) (hL : LimOk p L) (T : List Int) {x : Island} (hx : x ∈ isl b p) (hs : x.Sources ≠ []) (a : List Act) : relief_excess ⟨b, stq b p L T, a⟩ (gt x.Buses 0) = some (exc b x T L) := by
 unfold relief_excess
 simp only [load_eq hb (sm_q (b := b) hp hL T), rating_eq hb (sm_q (b := b) hp hL T), Option.bind_some]
 rw [ofB_q h hL T, isl_of h hx]
 have h1 := sumq_bd h hL hx T
 have h2 := rateI_bd h hx
 have e1 : loadI (stq b p L T) ⟨x.Buses, x.Sources, left T x.Consumers⟩ = sumF (gt L) (left T x.Consumers) := by
  unfold loadI
  rw [if_neg hs]
  rfl
 have e2 : rateI b ⟨x.Buses, x.Sources, left T x.Consumers⟩ = rateI b x := rfl
 rw [e1, e2, W_sm (by omega) (by omega)]
 rfl
def cutL (b : Board) (x : Island) (T L : List Int) (c : Int) : Int := imin (exc b x T L) (gt L c.toNat - (gt b.Consumers c.toNat).Least)
def lowS (b : Board) (x : Island) (T : List Int) (s : List Int × List Act) (c : Int) : List Int × List Act :=
 if 0 < cutL b x T s.1 c then (s.1.set c.toNat (gt s.1 c.toNat - cutL b x T s.1 c), s.2 ++ [⟨5, c, gt s.1 c.toNat - cutL b x T s.1 c⟩]) else s
def lowL (b : Board) (x : Island) (T o : List Int) (s : List Int × List Act) : List Int × List Act := o.foldl (lowS b x T) s
theorem cut_le {x : Island} {c : Int} : cutL b x T L c ≤ gt L c.toNat - (gt b.Consumers c.toNat).Least ∧ cutL b x T L c ≤ exc b x T L := by
 unfold cutL imin
 split <;> omega
theorem lowS_ok (h : stt b p = 0) {x : Island} {T : List Int} {s : List Int × List Act} (hL : LimOk p s.1) {c : Int} (hc : 0 ≤ c ∧ c < (b.Consumers.length : Int)) : LimOk p (lowS b x T s c).1 ∧ (lowS b x T s c).2.length ≤ s.2.length + 1 := by
 obtain ⟨_, _, _, _, _, h6⟩ := brk_lens h
 have hlen := hL.len
 unfold lowS
 by_cases h0 : 0 < cutL b x T s.1 c
 ·rw [if_pos h0]
  have h1 := cut_le (b := b) (x := x) (T := T) (L := s.1) (c := c)
  have h2 := least_bd h (k := c.toNat) (by omega)
  refine ⟨⟨by simp [hlen], fun k hk => ?_⟩, by simp⟩
  rw [List.length_set] at hk
  simp only
  rw [gt_set (by omega)]
  have h3 := hL.le k hk
  by_cases e : k = c.toNat
  ·subst e; rw [if_pos rfl]; omega
  ·rw [if_neg e]; exact h3
 ·rw [if_neg h0]; exact ⟨hL, by omega⟩
theorem lowL_ok (h : stt b p = 0) {x : Island} {T : List Int} : ∀ {o : List Int} {s : List Int × List Act}, LimOk p s.1 → (∀ c ∈ o, 0 ≤ c ∧ c < (b.Consumers.length : Int)) → LimOk p (lowL b x T o s).1 ∧ (lowL b x T o s).2.length ≤ s.2.length + o.length
 | [], s, hL, ho => ⟨hL, Nat.le_refl _⟩
 | c :: o, s, hL, ho => by
  obtain ⟨h1, h2⟩ := lowS_ok (T := T) (x := x) h hL (ho c (by simp))
  obtain ⟨h3, h4⟩ := lowL_ok (x := x) (T := T) h (o := o) h1 (fun d hd => ho d (by simp [hd]))
  have e : lowL b x T (c :: o) s = lowL b x T o (lowS b x T s c) := rfl
  rw [e]
  exact ⟨h3, by simp only [List.length_cons]; omega⟩
theorem lowL_snoc {x : Island} {o : List Int} {c : Int} {s : List Int × List Act} : lowL b x T (o ++ [c]) s = lowS b x T (lowL b x T o s) c := by
 unfold lowL
 rw [List.foldl_append]
 rfl
def tripS (b : Board) (p : Power) (x : Island) (L : List Int) (s : List Int × List Act) (c : Int) : List Int × List Act :=
 if 0 < gt L c.toNat ∧ 0 < exc b x s.1 L then (s.1 ++ [c], s.2 ++ (fnd (stq b p L s.1).Closed fun i => (gt b.Breakers i).Kind == 3 && (gt b.Breakers i).B == c).map actO) else s
def tripL (b : Board) (p : Power) (x : Island) (L o : List Int) (s : List Int × List Act) : List Int × List Act := o.foldl (tripS b p x L) s
theorem tripL_snoc {x : Island} {o : List Int} {c : Int} {s : List Int × List Act} : tripL b p x L (o ++ [c]) s = tripS b p x L (tripL b p x L o s) c := by
 unfold tripL
 rw [List.foldl_append]
 rfl
theorem tripS_len {x : Island} {s : List Int × List Act} {c : Int} (h : p.Closed.length ≤ 1000) : (tripS b p x L s c).2.length ≤ s.2.length + 1000 := by
 unfold tripS
 split
 ·have := fnd_len (stq b p L s.1).Closed fun i => (gt b.Breakers i).Kind == 3 && (gt b.Breakers i).B == c
  have e : (stq b p L s.1).Closed.length = p.Closed.length := opn_len _ _
  simp only [List.length_append, List.length_map]
  omega
 ·omega
theorem tripL_len {x : Island} (h : p.Closed.length ≤ 1000) : ∀ {o : List Int} {s : List Int × List Act}, (tripL b p x L o s).2.length ≤ s.2.length + 1000 * o.length
 | [], s => Nat.le_refl _
 | c :: o, s => by
  have h1 := tripS_len (b := b) (p := p) (L := L) (x := x) (s := s) (c := c) h
  have h2 := tripL_len (x := x) h (o := o) (s := tripS b p x L s c)
  have e : tripL b p x L (c :: o) s = tripL b p x L o (tripS b p x L s c) := rfl
  rw [e]
  simp only [List.length_cons]
  omega
def shS (b : Board) (p : Power) (s : List Int × List Int × List Act) (x : Island) : List Int × List Int × List Act :=
 if x.Sources = [] then s else
  ((lowL b x s.2.1 (ownL b x) (s.1, s.2.2)).1, tripL b p x (lowL b x s.2.1 (ownL b x) (s.1, s.2.2)).1 (ownL b x) (s.2.1, (lowL b x s.2.1 (ownL b x) (s.1, s.2.2)).2))
def shA (b : Board) (p : Power) (l : List Island) : List Int × List Int × List Act := l.foldl (shS b p) (p.Limits, [], [])
theorem shA_snoc (l : List Island) (x : Island) : shA b p (l ++ [x]) = shS b p (shA b p l) x := by
 unfold shA
 rw [List.foldl_append]
 rfl
theorem own_bd (h : stt b p = 0) {x : Island} (hx : x ∈ isl b p) : (∀ c ∈ x.Consumers, 0 ≤ c ∧ c < (b.Consumers.length : Int)) ∧ (∀ c ∈ ownL b x, 0 ≤ c ∧ c < (b.Consumers.length : Int)) ∧ (ownL b x).length ≤ 16 := by
 obtain ⟨⟨hl, hg⟩, _⟩ := stt_zero.1 h
 obtain ⟨h1, _⟩ := isl_parts hg.1 hx
 have h2 : ∀ c ∈ x.Consumers, 0 ≤ c ∧ c < (b.Consumers.length : Int) := fun c hc => by have := h1 c hc; omega
 refine ⟨h2, fun c hc => h2 c ((own_mem h2).1 hc), ?_⟩
 have := own_len b x
 have := hl.con
 omega
theorem shA_ok (h : stt b p = 0) : ∀ k, k ≤ (isl b p).length → LimOk p (shA b p ((isl b p).take k)).1 ∧ (shA b p ((isl b p).take k)).2.2.length ≤ 20000 * k
 | 0, _ => ⟨limOk_self h, Nat.le_refl _⟩
 | k + 1, hk => by
  obtain ⟨h1, h2⟩ := shA_ok h k (by omega)
  obtain ⟨s1, _, s3, _⟩ := brk_lens h
  rw [take_gt (by omega), shA_snoc]
  have hx := gt_mem (l := isl b p) (k := k) (by omega)
  obtain ⟨_, o1, o2⟩ := own_bd h hx
  unfold shS
  split
  ·exact ⟨h1, by omega⟩
  ·obtain ⟨l1, l2⟩ := lowL_ok (x := gt (isl b p) k) (T := (shA b p ((isl b p).take k)).2.1) (s := ((shA b p ((isl b p).take k)).1, (shA b p ((isl b p).take k)).2.2)) h h1 o1
   refine ⟨l1, ?_⟩
   have := tripL_len (b := b) (p := p) (L := (lowL b (gt (isl b p) k) (shA b p ((isl b p).take k)).2.1 (ownL b (gt (isl b p) k)) ((shA b p ((isl b p).take k)).1, (shA b p ((isl b p).take k)).2.2)).1) (x := gt (isl b p) k) (by omega) (o := ownL b (gt (isl b p) k)) (s := ((shA b p ((isl b p).take k)).2.1, (lowL b (gt (isl b p) k) (shA b p ((isl b p).take k)).2.1 (ownL b (gt (isl b p) k)) ((shA b p ((isl b p).take k)).1, (shA b p ((isl b p).take k)).2.2)).2))
   simp only at this l2 ⊢
   omega
end
end Rx
namespace Rx
section
variable {b : Board} {p : Power} {L T : List Int}
theorem cut_W (h : stt b p = 0) (hL : LimOk p L) (T : List Int) {x : Island} (hx : x ∈ isl b p) {c : Int} (hc : 0 ≤ c ∧ c < (b.Consumers.length : Int)) : imin (exc b x T L) (W (gt L c.toNat - (gt b.Consumers c.toNat).Least)) = cutL b x T L c := by
 have h1 := limq_bd h hL (k := c.toNat) (by omega)
 have h2 := least_bd h (k := c.toNat) (by omega)
 rw [W_sm (by omega) (by omega)]
 rfl
theorem lower_run (hb : SmB b) (hp : SmP p) (h : stt b p = 0) (hL : LimOk p L) (T : List Int) {x : Island} (hx : x ∈ isl b p) (hs : x.Sources ≠ []) {o : List Int} (ho : ∀ c ∈ o, 0 ≤ c ∧ c < (b.Consumers.length : Int)) (hol : o.length ≤ 1000) {a : List Act} (ha : a.length ≤ 10000000) :
  relief_lower_v3 ⟨b, stq b p L T, a⟩ o (gt x.Buses 0) = some (b.Buses, b.Breakers, b.Sources, b.Consumers, b.Phase, b.Frequency, (stq b p L T).Closed, (stq b p L T).Sources, (lowL b x T o (L, a)).1, (stq b p L T).Broken, o, (lowL b x T o (L, a)).2) := by
 have hok : ∀ k, LimOk p (lowL b x T (o.take k) (L, a)).1 ∧ (lowL b x T (o.take k) (L, a)).2.length ≤ a.length + (o.take k).length := fun k => lowL_ok h (s := (L, a)) hL fun c hc => ho c (List.mem_of_mem_take hc)
 obtain ⟨_, _, _, _, _, h6⟩ := brk_lens h
 have hrun := loop_run (step := relief_lower_v3_L1 ⟨b, stq b p L T, a⟩ o (gt x.Buses 0)) (r := (b.Buses, b.Breakers, b.Sources, b.Consumers, b.Phase, b.Frequency, (lowL b x T o (L, a)).1, (lowL b x T o (L, a)).2)) (fun k => ((k : Int), b.Buses, b.Breakers, b.Sources, b.Consumers, b.Phase, b.Frequency, (lowL b x T (o.take k) (L, a)).1, (lowL b x T (o.take k) (L, a)).2)) o.length (fun k hk => by
  obtain ⟨hk1, hk2⟩ := hok k
  have hc := ho _ (gt_mem hk)
  rw [List.length_take] at hk2
  rw [take_gt hk, lowL_snoc]
  generalize lowL b x T (o.take k) (L, a) = s at hk1 hk2 ⊢
  obtain ⟨L1, a1⟩ := s
  simp only at hk1 hk2 ⊢
  have hlen := hk1.len
  unfold relief_lower_v3_L1
  have hex := excess_eq hb hp h hk1 T hx hs a1
  have hbe : (⟨b.Buses, b.Breakers, b.Sources, b.Consumers, b.Phase, b.Frequency⟩ : Board) = b := rfl
  have hpe : (⟨(stq b p L T).Closed, (stq b p L T).Sources, L1, (stq b p L T).Broken⟩ : Power) = stq b p L1 T := rfl
  simp only [lt_len hk, if_true, idx_gt hk, Option.bind_some, hbe, hpe, hex]
  rw [idx_gtZ (l := L1) hc.1 (by omega), idx_gtZ (l := b.Consumers) hc.1 hc.2]
  simp only [Option.bind_some, cut_W h hk1 T hx hc]
  rw [W_succ (by omega)]
  have h1 := limq_bd h hk1 (k := (gt o k).toNat) (by omega)
  have h2 := least_bd h (k := (gt o k).toNat) (by omega)
  have h3 := cut_le (b := b) (x := x) (T := T) (L := L1) (c := gt o k)
  unfold lowS
  by_cases h0 : 0 < cutL b x T L1 (gt o k)
  ·rw [dT (c := cutL b x T L1 (gt o k) > 0) h0, if_pos h0, W_sm (by omega) (by omega), setO_gt hc.1 (by omega)]
   simp only [if_true, Option.bind_some]
   rw [idx_gtZ (l := L1.set (gt o k).toNat _) hc.1 (by rw [List.length_set]; omega)]
   simp only [Option.bind_some]
   rw [gt_set (by omega), if_pos rfl, app_sm (by simp; omega)]
   rfl
  ·rw [dF (c := cutL b x T L1 (gt o k) > 0) h0, if_neg h0]
   simp only [Bool.false_eq_true, if_false, Option.bind_some]) (by
  unfold relief_lower_v3_L1
  simp only [nlt_len, Bool.false_eq_true, if_false, List.take_length]) (by omega)
 unfold relief_lower_v3
 have hrun' : loopO (relief_lower_v3_L1 ⟨b, stq b p L T, a⟩ o (gt x.Buses 0)) (0, b.Buses, b.Breakers, b.Sources, b.Consumers, b.Phase, b.Frequency, L, a) = _ := hrun
 simp only
 rw [show (stq b p L T).Limits = L from rfl, hrun']
 rfl
theorem opn_trip (hl : p.Closed.length ≤ b.Breakers.length) (T : List Int) (c : Int) : opn (stq b p L T).Closed (fun i => (gt b.Breakers i).Kind == 3 && (gt b.Breakers i).B == c) = (stq b p L (T ++ [c])).Closed := by
 show opn (opn p.Closed (trp b T)) _ = opn p.Closed (trp b (T ++ [c]))
 rw [opn_opn]
 exact opn_congr fun i _ => (trp_snoc T c i).symm
theorem sweep3_eq (hp : SmP p) (h : stt b p = 0) (hL : LimOk p L) (T : List Int) {a : List Act} (ha : a.length ≤ 1000000) (c : Int) :
  relief_sweep_v16 ⟨b, stq b p L T, a⟩ c = some (b.Buses, b.Breakers, b.Sources, b.Consumers, b.Phase, b.Frequency, (stq b p L (T ++ [c])).Closed, p.Sources, L, p.Broken, c, a ++ (fnd (stq b p L T).Closed fun i => (gt b.Breakers i).Kind == 3 && (gt b.Breakers i).B == c).map actO) := by
 obtain ⟨s1, s2, s3, _⟩ := brk_lens h
 have hcl : (stq b p L T).Closed.length = p.Closed.length := opn_len _ _
 unfold relief_sweep_v16
 have e1 : loopO (relief_sweep_v16_L1 ⟨b, stq b p L T, a⟩ c) (0, []) = some (fnd (stq b p L T).Closed fun i => (gt b.Breakers i).Kind == 3 && (gt b.Breakers i).B == c) := by
  have := loop_run (step := relief_sweep_v16_L1 ⟨b, stq b p L T, a⟩ c) (r := fnd (stq b p L T).Closed fun i => (gt b.Breakers i).Kind == 3 && (gt b.Breakers i).B == c) (fun k => ((k : Int), rangeF (fun i => gt (stq b p L T).Closed i && ((gt b.Breakers i).Kind == 3 && (gt b.Breakers i).B == c)) k)) b.Breakers.length (fun k hk => by
   have hrl := rangeF_len (fun i => gt (stq b p L T).Closed i && ((gt b.Breakers i).Kind == 3 && (gt b.Breakers i).B == c)) k
   unfold relief_sweep_v16_L1 shed_relief__trip_1
   simp only [lt_len hk, if_true, idx_gt hk, Option.bind_some, idx_gt (l := (stq b p L T).Closed) (k := k) (by omega)]
   rw [W_succ (by omega), rangeF_succ]
   generalize rangeF (fun i => gt (stq b p L T).Closed i && ((gt b.Breakers i).Kind == 3 && (gt b.Breakers i).B == c)) k = R at hrl ⊢
   cases gt (stq b p L T).Closed k with
   | false => simp
   | true =>
    cases (gt b.Breakers k).Kind == 3 with
    | false => simp
    | true =>
     cases (gt b.Breakers k).B == c with
     | false => simp
     | true =>
      simp only [if_true, Option.bind_some, Bool.and_self]
      rw [app_sm (by simp; omega)]
      rfl) (by
   unfold relief_sweep_v16_L1
   simp only [nlt_len, Bool.false_eq_true, if_false]
   unfold fnd
   rw [hcl, s1]) (by omega)
  simpa [rangeF] using this
 rw [e1]
 have hfl := fnd_len (stq b p L T).Closed fun i => (gt b.Breakers i).Kind == 3 && (gt b.Breakers i).B == c
 have e2 := open_run (b := b) (p := stq b p L T) (a := a) (l := fnd (stq b p L T).Closed fun i => (gt b.Breakers i).Kind == 3 && (gt b.Breakers i).B == c) (by omega) (by omega) (by omega) fnd_mem
 rw [fnd_opn, opn_trip (by omega)] at e2
 simp only [Option.bind_some]
 rw [show loopO (relief_sweep_v16_L2 (fnd (stq b p L T).Closed fun i => (gt b.Breakers i).Kind == 3 && (gt b.Breakers i).B == c)) (0, b.Buses, b.Breakers, b.Sources, b.Consumers, b.Phase, b.Frequency, (stq b p L T).Closed, (stq b p L T).Sources, (stq b p L T).Limits, (stq b p L T).Broken, a) = _ from e2]
 rfl
theorem trip_run (hb : SmB b) (hp : SmP p) (h : stt b p = 0) (hL : LimOk p L) (T : List Int) {x : Island} (hx : x ∈ isl b p) (hs : x.Sources ≠ []) {o : List Int} (ho : ∀ c ∈ o, 0 ≤ c ∧ c < (b.Consumers.length : Int)) (hol : o.length ≤ 100) {a : List Act} (ha : a.length ≤ 500000) :
  relief_trip_v2 ⟨b, stq b p L T, a⟩ o (gt x.Buses 0) = some (b.Buses, b.Breakers, b.Sources, b.Consumers, b.Phase, b.Frequency, (stq b p L (tripL b p x L o (T, a)).1).Closed, p.Sources, L, p.Broken, o, (tripL b p x L o (T, a)).2) := by
 obtain ⟨s1, _, s3, _, _, h6⟩ := brk_lens h
 have hlen := hL.len
 have hok : ∀ k, (tripL b p x L (o.take k) (T, a)).2.length ≤ a.length + 1000 * (o.take k).length := fun k => tripL_len (by omega)
 have hrun := loop_run (step := relief_trip_v2_L1 o (gt x.Buses 0)) (r := tup b (stq b p L (tripL b p x L o (T, a)).1) (tripL b p x L o (T, a)).2) (fun k => ((k : Int), tup b (stq b p L (tripL b p x L (o.take k) (T, a)).1) (tripL b p x L (o.take k) (T, a)).2)) o.length (fun k hk => by
  have hk2 := hok k
  have hc := ho _ (gt_mem hk)
  rw [List.length_take] at hk2
  rw [take_gt hk, tripL_snoc]
  generalize tripL b p x L (o.take k) (T, a) = s at hk2 ⊢
  obtain ⟨T1, a1⟩ := s
  simp only at hk2 ⊢
  have hex := excess_eq hb hp h hL T1 hx hs a1
  have hbe : (⟨b.Buses, b.Breakers, b.Sources, b.Consumers, b.Phase, b.Frequency⟩ : Board) = b := rfl
  have hpe : (⟨(stq b p L T1).Closed, (stq b p L T1).Sources, (stq b p L T1).Limits, (stq b p L T1).Broken⟩ : Power) = stq b p L T1 := rfl
  unfold relief_trip_v2_L1
  simp only [tup, lt_len hk, if_true, idx_gt hk, Option.bind_some, hbe, hpe, hex]
  rw [idx_gtZ (l := (stq b p L T1).Limits) hc.1 (by show _ < (L.length : Int); omega)]
  simp only [Option.bind_some]
  rw [W_succ (by omega)]
  have hT : tripS b p x L (T1, a1) (gt o k) = if 0 < gt L (gt o k).toNat ∧ 0 < exc b x T1 L then (T1 ++ [gt o k], a1 ++ (fnd (stq b p L T1).Closed fun i => (gt b.Breakers i).Kind == 3 && (gt b.Breakers i).B == gt o k).map actO) else (T1, a1) := rfl
  by_cases h1 : 0 < gt L (gt o k).toNat
  ·rw [dT (c := gt (stq b p L T1).Limits (gt o k).toNat > 0) h1]
   by_cases h2 : 0 < exc b x T1 L
   ·rw [if_pos ⟨h1, h2⟩] at hT
    rw [hT, dT (c := exc b x T1 L > 0) h2]
    simp only [if_true, Option.bind_some, sweep3_eq hp h hL T1 (a := a1) (by omega) (gt o k)]
    rfl
   ·rw [if_neg fun c => h2 c.2] at hT
    rw [hT, dF (c := exc b x T1 L > 0) h2]
    simp only [if_true, Bool.false_eq_true, if_false, Option.bind_some]
  ·rw [if_neg fun c => h1 c.1] at hT
   rw [hT, dF (c := gt (stq b p L T1).Limits (gt o k).toNat > 0) h1]
   simp only [Bool.false_eq_true, if_false, Option.bind_some]) (by
  unfold relief_trip_v2_L1
  simp only [tup, nlt_len, Bool.false_eq_true, if_false, List.take_length]) (by omega)
 unfold relief_trip_v2
 have hrun' : loopO (relief_trip_v2_L1 o (gt x.Buses 0)) (0, b.Buses, b.Breakers, b.Sources, b.Consumers, b.Phase, b.Frequency, (stq b p L T).Closed, (stq b p L T).Sources, (stq b p L T).Limits, (stq b p L T).Broken, a) = _ := hrun
 simp only
 rw [hrun']
 rfl
theorem lowS_app {a0 a : List Act} {x : Island} {c : Int} : lowS b x T (L, a0 ++ a) c = ((lowS b x T (L, a) c).1, a0 ++ (lowS b x T (L, a) c).2) := by
 unfold lowS
 by_cases h : 0 < cutL b x T L c
 ·rw [if_pos h, if_pos h]; simp
 ·rw [if_neg h, if_neg h]
theorem lowL_app {a0 : List Act} {x : Island} : ∀ {o : List Int} {L : List Int} {a : List Act}, lowL b x T o (L, a0 ++ a) = ((lowL b x T o (L, a)).1, a0 ++ (lowL b x T o (L, a)).2)
 | [], L, a => rfl
 | c :: o, L, a => by
  have e : ∀ s, lowL b x T (c :: o) s = lowL b x T o (lowS b x T s c) := fun _ => rfl
  rw [e, e, lowS_app, lowL_app]
theorem tripS_app {a0 a : List Act} {x : Island} {c : Int} : tripS b p x L (T, a0 ++ a) c = ((tripS b p x L (T, a) c).1, a0 ++ (tripS b p x L (T, a) c).2) := by
 unfold tripS
 by_cases h : 0 < gt L c.toNat ∧ 0 < exc b x T L
 ·rw [if_pos h, if_pos h]; simp
 ·rw [if_neg h, if_neg h]
theorem tripL_app {a0 : List Act} {x : Island} : ∀ {o : List Int} {T : List Int} {a : List Act}, tripL b p x L o (T, a0 ++ a) = ((tripL b p x L o (T, a)).1, a0 ++ (tripL b p x L o (T, a)).2)
 | [], T, a => rfl
 | c :: o, T, a => by
  have e : ∀ s, tripL b p x L (c :: o) s = tripL b p x L o (tripS b p x L s c) := fun _ => rfl
  rw [e, e, tripS_app, tripL_app]
theorem iclone_eq {l : List Int} (h : l.length ≤ 1000000) : slices_Clone_int_int l = some l := by
 unfold slices_Clone_int_int
 rw [app_sm (by simp; omega)]
 simp
noncomputable def shAll (b : Board) (p : Power) : List Int × List Int × List Act := shA b p (isl b p)
noncomputable def shdP (b : Board) (p : Power) : Power := stq b p (shAll b p).1 (shAll b p).2.1
theorem shed_run (hb : SmB b) (hp : SmP p) (h : stt b p = 0) {a : List Act} (ha : a.length ≤ 1000) : relief_shed_v1 ⟨b, p, a⟩ = some (tup b (shdP b p) (a ++ (shAll b p).2.2)) := by
 obtain ⟨⟨hl, hg⟩, _⟩ := stt_zero.1 h
 have hchk : chk b = 0 := chk_zero.2 ⟨hl, hg⟩
 have hil := isl_len (b := b) (p := p)
 have hbus := hl.bus
 have hcon := hl.con
 have hol : (ordL b).length ≤ 16 := by rw [ord_len]; exact hcon
 unfold relief_shed_v1
 simp only [order_eq hb hchk, islands_eq hb hp h, Option.bind_some]
 have hrun := loop_run (step := relief_shed_v1_L1 (ordL b) (isl b p)) (r := tup b (shdP b p) (a ++ (shAll b p).2.2)) (fun k => ((k : Int), tup b (stq b p (shA b p ((isl b p).take k)).1 (shA b p ((isl b p).take k)).2.1) (a ++ (shA b p ((isl b p).take k)).2.2))) (isl b p).length (fun k hk => by
  obtain ⟨hk1, hk2⟩ := shA_ok h k (by omega)
  have hx := gt_mem hk
  obtain ⟨p1, p2, p3, p4, p5⟩ := isl_parts hg.1 hx
  obtain ⟨_, o1, o2⟩ := own_bd h hx
  rw [take_gt hk, shA_snoc]
  generalize shA b p ((isl b p).take k) = s at hk1 hk2 ⊢
  obtain ⟨L1, T1, a1⟩ := s
  simp only at hk1 hk2 ⊢
  have hsm : Sm (gt (isl b p) k).Consumers := by unfold Sm; omega
  unfold relief_shed_v1_L1
  simp only [tup, lt_len hk, if_true, idx_gt hk, Option.bind_some, iclone_eq (l := ordL b) (by omega), delete_own hsm (l := ordL b) (by omega)]
  have hdel : (ordL b).filter (fun c => decide (c ∈ (gt (isl b p) k).Consumers)) = ownL b (gt (isl b p) k) := rfl
  rw [hdel, W_succ (by omega)]
  unfold shS
  by_cases hs : (gt (isl b p) k).Sources = []
  ·rw [if_pos hs, dF (c := len (gt (isl b p) k).Sources > 0) (by rw [hs]; decide)]
   simp only [Bool.false_eq_true, if_false, Option.bind_some]
  ·have hpos : len (gt (isl b p) k).Sources > 0 := by have := List.length_pos_iff.2 hs; unfold len; omega
   have hbe : (⟨b.Buses, b.Breakers, b.Sources, b.Consumers, b.Phase, b.Frequency⟩ : Board) = b := rfl
   have hpe : (⟨(stq b p L1 T1).Closed, (stq b p L1 T1).Sources, (stq b p L1 T1).Limits, (stq b p L1 T1).Broken⟩ : Power) = stq b p L1 T1 := rfl
   rw [if_neg hs, dT hpos]
   simp only [if_true, Option.bind_some, hbe, hpe, show idx (gt (isl b p) k).Buses 0 = some (gt (gt (isl b p) k).Buses 0) from idx_gt p5, lower_run hb hp h hk1 T1 hx hs o1 (by omega) (a := a ++ a1) (by rw [List.length_append]; omega), lowL_app]
   obtain ⟨l1, l2⟩ := lowL_ok (x := gt (isl b p) k) (T := T1) (s := (L1, a1)) h hk1 o1
   generalize lowL b (gt (isl b p) k) T1 (ownL b (gt (isl b p) k)) (L1, a1) = s at l1 l2 ⊢
   obtain ⟨L2, a2⟩ := s
   simp only at l1 l2 ⊢
   have hpe2 : (⟨(stq b p L1 T1).Closed, (stq b p L1 T1).Sources, L2, (stq b p L1 T1).Broken⟩ : Power) = stq b p L2 T1 := rfl
   rw [hpe2, trip_run hb hp h l1 T1 hx hs o1 (by omega) (a := a ++ a2) (by rw [List.length_append]; omega), tripL_app]
   rfl) (by
  unfold relief_shed_v1_L1
  simp only [tup, nlt_len, Bool.false_eq_true, if_false, List.take_length]
  rfl) (by omega)
 have hrun' : loopO (relief_shed_v1_L1 (ordL b) (isl b p)) (0, tup b (stq b p p.Limits []) (a ++ [])) = _ := hrun
 rw [stq_nil, List.append_nil] at hrun'
 rw [show loopO (relief_shed_v1_L1 (ordL b) (isl b p)) (0, b.Buses, b.Breakers, b.Sources, b.Consumers, b.Phase, b.Frequency, p.Closed, p.Sources, p.Limits, p.Broken, a) = _ from hrun']
 rfl
theorem shed_eq (hb : SmB b) (hp : SmP p) (h : stt b p = 0) : shed_Shed b p = some (0, (shdP b p).Closed, (shdP b p).Sources, (shdP b p).Limits, (shdP b p).Broken, (shAll b p).2.2) := by
 unfold shed_Shed shed_relieve_v1
 rw [state_eq hb hp, h]
 simp only [Option.bind_some, bne_self_eq_false, Bool.false_eq_true, if_false, clone_eq hp]
 rw [show (⟨b, ⟨p.Closed, p.Sources, p.Limits, p.Broken⟩, []⟩ : relief) = ⟨b, p, []⟩ from rfl, shed_run hb hp h (by simp)]
 rfl
theorem shed_bad (hb : SmB b) (hp : SmP p) (h : stt b p ≠ 0) : shed_Shed b p = some (stt b p, [], [], [], [], []) := by
 unfold shed_Shed shed_relieve_v1
 have : (stt b p != 0) = true := by simpa using h
 rw [state_eq hb hp]
 simp only [Option.bind_some, this, if_true]
end
end Rx
namespace Rx
section
variable {b : Board} {p : Power} {L T : List Int} {x : Island}
theorem sumF_cons (f : Nat → Int) (a : Int) (l : List Int) : sumF f (a :: l) = f a.toNat + sumF f l := rfl
theorem sumF_congr {f g : Nat → Int} : ∀ {l : List Int}, (∀ c ∈ l, f c.toNat = g c.toNat) → sumF f l = sumF g l
 | [], _ => rfl
 | a :: l, h => by rw [sumF_cons, sumF_cons, h a (by simp), sumF_congr fun c hc => h c (by simp [hc])]
theorem sumF_zero {f : Nat → Int} : ∀ {l : List Int}, (∀ c ∈ l, f c.toNat = 0) → sumF f l = 0
 | [], _ => rfl
 | a :: l, h => by rw [sumF_cons, h a (by simp), sumF_zero fun c hc => h c (by simp [hc])]; rfl
theorem sumF_set {L : List Int} {c v : Int} (hc0 : 0 ≤ c) (hcL : c.toNat < L.length) : ∀ {l : List Int}, l.Nodup → (∀ d ∈ l, 0 ≤ d) → c ∈ l → sumF (gt (L.set c.toNat v)) l = sumF (gt L) l - gt L c.toNat + v
 | [], _, _, h => by cases h
 | a :: l, hn, h0, h => by
  rw [sumF_cons, sumF_cons]
  have hn' := List.nodup_cons.1 hn
  rw [gt_set hcL]
  by_cases e : a = c
  ·subst e
   rw [if_pos rfl]
   have : sumF (gt (L.set a.toNat v)) l = sumF (gt L) l := sumF_congr fun d hd => by
    have hd0 := h0 d (by simp [hd])
    have hda : d ≠ a := fun e => hn'.1 (e ▸ hd)
    have ha0' := h0 a (by simp)
    rw [gt_set hcL, if_neg (by omega)]
   rw [this]
   omega
  ·have ha0 := h0 a (by simp)
   rw [if_neg (by omega)]
   have hm : c ∈ l := by
    rcases List.mem_cons.1 h with h | h
    ·exact (e h.symm).elim
    ·exact h
   rw [sumF_set hc0 hcL hn'.2 (fun d hd => h0 d (by simp [hd])) hm]
   omega
theorem sumF_ne {f : Nat → Int} {c : Int} : ∀ {l : List Int}, l.Nodup → c ∈ l → sumF f (l.filter fun d => !decide (d = c)) = sumF f l - f c.toNat
 | [], _, h => by cases h
 | a :: l, hn, h => by
  have hn' := List.nodup_cons.1 hn
  by_cases e : a = c
  ·subst e
   have : l.filter (fun d => !decide (d = a)) = l := List.filter_eq_self.2 fun d hd => by
    have : d ≠ a := fun e => hn'.1 (e ▸ hd)
    simp [this]
   rw [List.filter_cons, if_neg (by simp), this, sumF_cons]
   omega
  ·have hm : c ∈ l := by
    rcases List.mem_cons.1 h with h | h
    ·exact (e h.symm).elim
    ·exact h
   rw [List.filter_cons, if_pos (by simp [e]), sumF_cons, sumF_cons, sumF_ne hn'.2 hm]
   omega
theorem left_nil (l : List Int) : left [] l = l := by unfold left; simp
theorem left_congr {T T' l : List Int} (h : ∀ c ∈ l, c ∈ T ↔ c ∈ T') : left T l = left T' l := by
 unfold left
 refine List.filter_congr fun c hc => ?_
 rw [decide_eq_decide.2 (h c hc)]
theorem left_mem {T l : List Int} {c : Int} (h : c ∈ l) (h' : c ∉ T) : c ∈ left T l := by
 unfold left
 rw [List.mem_filter]
 exact ⟨h, by simp [h']⟩
theorem left_snoc (T l : List Int) (c : Int) : left (T ++ [c]) l = (left T l).filter fun d => !decide (d = c) := by
 unfold left
 rw [List.filter_filter]
 refine List.filter_congr fun d _ => ?_
 by_cases h1 : d ∈ T <;> by_cases h2 : d = c <;> simp [h1, h2]
def sumT (x : Island) (T L : List Int) : Int := sumF (gt L) (left T x.Consumers)
theorem sumT_trip (hn : x.Consumers.Nodup) {c : Int} (hc : c ∈ x.Consumers) (hT : c ∉ T) : sumT x (T ++ [c]) L = sumT x T L - gt L c.toNat := by
 unfold sumT
 rw [left_snoc, sumF_ne (by unfold left; exact hn.filter _) (left_mem hc hT)]
theorem sumT_congr {L L' T T' : List Int} (hL : ∀ c ∈ x.Consumers, gt L c.toNat = gt L' c.toNat) (hT : ∀ c ∈ x.Consumers, c ∈ T ↔ c ∈ T') : sumT x T L = sumT x T' L' := by
 unfold sumT
 rw [left_congr hT]
 exact sumF_congr fun c hc => hL c (left_sub hc).1
theorem exc_pos : 0 < exc b x T L ↔ rateI b x < sumT x T L := by
 unfold exc imax sumT
 split <;> omega
theorem exc_eq (h : rateI b x < sumT x T L) : exc b x T L = sumT x T L - rateI b x := by
 unfold exc imax
 unfold sumT at h ⊢
 split <;> omega
theorem mem_take_idx {o : List Int} {n : Nat} (hn : n ≤ o.length) {c : Int} : c ∈ o.take n ↔ ∃ i, i < n ∧ gt o i = c := mem_take_gt hn
theorem nodup_gt {o : List Int} (hn : o.Nodup) {i j : Nat} (hi : i < o.length) (hj : j < o.length) (hij : i ≠ j) : gt o i ≠ gt o j := by
 intro e
 rw [gt_get hi, gt_get hj] at e
 rcases Nat.lt_or_gt_of_ne hij with h | h
 ·exact (List.pairwise_iff_getElem.1 hn) i j hi hj h e
 ·exact (List.pairwise_iff_getElem.1 hn) j i hj hi h e.symm
structure Row (b : Board) (x : Island) (o : List Int) : Prop where
 nd : x.Consumers.Nodup
 ond : o.Nodup
 mem : ∀ c, c ∈ o ↔ c ∈ x.Consumers
 bd : ∀ c ∈ x.Consumers, 0 ≤ c ∧ c < (b.Consumers.length : Int)
theorem Row.at {o : List Int} (h : Row b x o) {i : Nat} (hi : i < o.length) : gt o i ∈ x.Consumers ∧ 0 ≤ gt o i ∧ gt o i < (b.Consumers.length : Int) := by
 have := (h.mem _).1 (gt_mem hi)
 exact ⟨this, h.bd _ this⟩
theorem row_own (h : stt b p = 0) (hx : x ∈ isl b p) : Row b x (ownL b x) := by
 obtain ⟨h1, h2, h3⟩ := own_bd h hx
 refine ⟨?_, own_nodup b x, fun c => own_mem h1, h1⟩
 obtain ⟨f, hf, e, _⟩ := mem_isl.1 hx
 rw [e]
 exact rangeF_nodup _ _
structure LowF (b : Board) (x : Island) (T L0 L : List Int) (o : List Int) (n : Nat) : Prop where
 out : ∀ k : Nat, (∀ i, i < n → gt o i ≠ (k : Int)) → gt L k = gt L0 k
 lo : ∀ i, i < n → gt L (gt o i).toNat = gt L0 (gt o i).toNat ∨ gt L (gt o i).toNat < gt L0 (gt o i).toNat ∧ (gt b.Consumers (gt o i).toNat).Least ≤ gt L (gt o i).toNat
 ge : rateI b x ≤ sumT x T L ∨ L = L0
 le : sumT x T L ≤ rateI b x ∨ ∀ i, i < n → gt L (gt o i).toNat ≤ (gt b.Consumers (gt o i).toNat).Least
 lord : ∀ i j, i < j → j < n → gt L (gt o j).toNat < gt L0 (gt o j).toNat → gt L (gt o i).toNat ≤ (gt b.Consumers (gt o i).toNat).Least
theorem low_facts (h : stt b p = 0) {o : List Int} (hr : Row b x o) {s0 : List Int × List Act} (hL : LimOk p s0.1) (hT : ∀ c ∈ x.Consumers, c ∉ T) : ∀ n, n ≤ o.length → LowF b x T s0.1 (lowL b x T (o.take n) s0).1 o n
 | 0, _ => by
  have e : lowL b x T (o.take 0) s0 = s0 := rfl
  rw [e]
  exact ⟨fun _ _ => rfl, fun i hi => absurd hi (by omega), .inr rfl, .inr fun i hi => absurd hi (by omega), fun i j _ hj => absurd hj (by omega)⟩
 | n + 1, hn => by
  have ih := low_facts h hr hL hT n (by omega)
  have hok := (lowL_ok (x := x) (T := T) h (o := o.take n) hL fun c hc => by
   have := (hr.mem c).1 (List.mem_of_mem_take hc)
   exact hr.bd c this).1
  rw [take_gt (by omega), lowL_snoc]
  generalize lowL b x T (o.take n) s0 = s at ih hok ⊢
  obtain ⟨L1, a1⟩ := s
  simp only at ih hok ⊢
  obtain ⟨_, _, _, _, _, h6⟩ := brk_lens h
  have hlen := hok.len
  obtain ⟨hc, hc0, hc1⟩ := hr.at (i := n) (by omega)
  have hne : ∀ i, i < n → gt o i ≠ gt o n := fun i hi => nodup_gt hr.ond (by omega) (by omega) (by omega)
  have hneN : ∀ i, i < n → (gt o i).toNat ≠ (gt o n).toNat := fun i hi => by
   have h1 := hne i hi
   have h2 := (hr.at (i := i) (by omega)).2
   omega
  have hsame : gt L1 (gt o n).toNat = gt s0.1 (gt o n).toNat := ih.out _ fun i hi => by have := hne i hi; omega
  have hb := least_bd h (k := (gt o n).toNat) (by omega)
  unfold lowS
  by_cases ht : 0 < cutL b x T L1 (gt o n)
  ·rw [if_pos ht]
   simp only
   have h1 := cut_le (b := b) (x := x) (T := T) (L := L1) (c := gt o n)
   have hex : rateI b x < sumT x T L1 := exc_pos.1 (by omega)
   have hee := exc_eq hex
   have hcase : cutL b x T L1 (gt o n) = exc b x T L1 ∨ cutL b x T L1 (gt o n) = gt L1 (gt o n).toNat - (gt b.Consumers (gt o n).toNat).Least := by
    unfold cutL imin
    split
    ·exact .inr rfl
    ·exact .inl rfl
   have hS : sumT x T (L1.set (gt o n).toNat (gt L1 (gt o n).toNat - cutL b x T L1 (gt o n))) = sumT x T L1 - cutL b x T L1 (gt o n) := by
    unfold sumT
    rw [sumF_set hc0 (by omega) (by unfold left; exact hr.nd.filter _) (fun d hd => (hr.bd d (left_sub hd).1).1) (left_mem hc (hT _ hc))]
    omega
   generalize cutL b x T L1 (gt o n) = t at *
   have hg : ∀ k, gt (L1.set (gt o n).toNat (gt L1 (gt o n).toNat - t)) k = if k = (gt o n).toNat then gt L1 (gt o n).toNat - t else gt L1 k := fun k => gt_set (by omega)
   have hall : ∀ i, i < n → gt L1 (gt o i).toNat ≤ (gt b.Consumers (gt o i).toNat).Least := by
    rcases ih.le with c | c
    ·omega
    ·exact c
   refine ⟨fun k hk => ?_, fun i hi => ?_, .inl ?_, ?_, fun i j hij hj hl => ?_⟩
   ·rw [hg, if_neg (by have := hk n (by omega); omega)]
    exact ih.out k fun i hi => hk i (by omega)
   ·rw [hg]
    by_cases e : i = n
    ·subst e
     rw [if_pos rfl]
     exact .inr ⟨by omega, by omega⟩
    ·rw [if_neg (hneN i (by omega))]
     exact ih.lo i (by omega)
   ·rw [hS]; omega
   ·rw [hS]
    rcases hcase with c | c
    ·exact .inl (by omega)
    ·refine .inr fun i hi => ?_
     rw [hg]
     by_cases e : i = n
     ·subst e
      rw [if_pos rfl]
      omega
     ·rw [if_neg (hneN i (by omega))]
      exact hall i (by omega)
   ·rw [hg, if_neg (hneN i (by omega))]
    exact hall i (by omega)
  ·rw [if_neg ht]
   simp only
   have hno : sumT x T L1 ≤ rateI b x ∨ gt L1 (gt o n).toNat ≤ (gt b.Consumers (gt o n).toNat).Least := by
    by_cases hex : rateI b x < sumT x T L1
    ·have hee := exc_eq hex
     refine .inr ?_
     unfold cutL imin at ht
     split at ht <;> omega
    ·exact .inl (by omega)
   refine ⟨fun k hk => ih.out k fun i hi => hk i (by omega), fun i hi => ?_, ih.ge, ?_, fun i j hij hj hl => ?_⟩
   ·by_cases e : i = n
    ·subst e; exact .inl hsame
    ·exact ih.lo i (by omega)
   ·rcases hno with c | c
    ·exact .inl c
    ·rcases ih.le with d | d
     ·exact .inl d
     ·refine .inr fun i hi => ?_
      by_cases e : i = n
      ·subst e; exact c
      ·exact d i (by omega)
   ·by_cases e : j = n
    ·subst e; omega
    ·exact ih.lord i j hij (by omega) hl
structure TripF (b : Board) (x : Island) (L T0 T : List Int) (o : List Int) (n : Nat) : Prop where
 out : ∀ c, (∀ i, i < n → gt o i ≠ c) → (c ∈ T ↔ c ∈ T0)
 pos : ∀ i, i < n → gt o i ∈ T → 0 < gt L (gt o i).toNat
 le : sumT x T L ≤ rateI b x ∨ ∀ i, i < n → gt o i ∈ T ∨ gt L (gt o i).toNat = 0
 ord : ∀ i j, i < j → j < n → gt o j ∈ T → gt o i ∈ T ∨ gt L (gt o i).toNat = 0
 last : ∀ j, j < n → gt o j ∈ T → (∀ i, j < i → i < n → gt o i ∉ T) → rateI b x < sumT x T L + gt L (gt o j).toNat
 none : sumT x T0 L ≤ rateI b x → T = T0
theorem trip_facts (h : stt b p = 0) {o : List Int} (hr : Row b x o) (hL : LimOk p L) {s0 : List Int × List Act} (hT : ∀ c ∈ x.Consumers, c ∉ s0.1) : ∀ n, n ≤ o.length → TripF b x L s0.1 (tripL b p x L (o.take n) s0).1 o n
 | 0, _ => by
  have e : tripL b p x L (o.take 0) s0 = s0 := rfl
  rw [e]
  exact ⟨fun _ _ => Iff.rfl, fun i hi => absurd hi (by omega), .inr fun i hi => absurd hi (by omega), fun i j _ hj => absurd hj (by omega), fun i hi => absurd hi (by omega), fun _ => rfl⟩
 | n + 1, hn => by
  have ih := trip_facts h hr hL hT n (by omega)
  rw [take_gt (by omega), tripL_snoc]
  generalize tripL b p x L (o.take n) s0 = s at ih ⊢
  obtain ⟨T1, a1⟩ := s
  simp only at ih ⊢
  obtain ⟨hc, hc0, hc1⟩ := hr.at (i := n) (by omega)
  have hne : ∀ i, i < n → gt o i ≠ gt o n := fun i hi => nodup_gt hr.ond (by omega) (by omega) (by omega)
  have hnT : gt o n ∉ T1 := fun hm => hT _ hc ((ih.out _ hne).1 hm)
  have hq := limq_bd h hL (k := (gt o n).toNat) (by omega)
  unfold tripS
  by_cases ht : 0 < gt L (gt o n).toNat ∧ 0 < exc b x T1 L
  ·rw [if_pos ht]
   simp only
   have hex : rateI b x < sumT x T1 L := exc_pos.1 ht.2
   have hS : sumT x (T1 ++ [gt o n]) L = sumT x T1 L - gt L (gt o n).toNat := sumT_trip hr.nd hc hnT
   have hm : ∀ i, i < n → (gt o i ∈ T1 ++ [gt o n] ↔ gt o i ∈ T1) := fun i hi => by simp [hne i hi]
   have hall : ∀ i, i < n → gt o i ∈ T1 ∨ gt L (gt o i).toNat = 0 := by
    rcases ih.le with c | c
    ·omega
    ·exact c
   refine ⟨fun c hk => ?_, fun i hi hm' => ?_, .inr fun i hi => ?_, fun i j hij hj _ => ?_, fun j hj hjT hlast => ?_, fun h0 => ?_⟩
   ·have : c ≠ gt o n := fun e => hk n (by omega) e.symm
    rw [List.mem_append]
    simp only [List.mem_singleton, this, or_false]
    exact ih.out c fun i hi => hk i (by omega)
   ·by_cases e : i = n
    ·subst e; exact ht.1
    ·exact ih.pos i (by omega) ((hm i (by omega)).1 hm')
   ·by_cases e : i = n
    ·subst e; exact .inl (by simp)
    ·rcases hall i (by omega) with c | c
     ·exact .inl ((hm i (by omega)).2 c)
     ·exact .inr c
   ·rcases hall i (by omega) with c | c
    ·exact .inl ((hm i (by omega)).2 c)
    ·exact .inr c
   ·by_cases e : j = n
    ·subst e; rw [hS]; omega
    ·exact (hlast n (by omega) (by omega) (by simp)).elim
   ·have := ih.none h0
    subst this
    omega
  ·rw [if_neg ht]
   simp only
   have hno : sumT x T1 L ≤ rateI b x ∨ gt L (gt o n).toNat = 0 := by
    by_cases hex : rateI b x < sumT x T1 L
    ·have := exc_pos.2 hex
     exact .inr (by omega)
    ·exact .inl (by omega)
   refine ⟨fun c hk => ih.out c fun i hi => hk i (by omega), fun i hi hm' => ?_, ?_, fun i j hij hj hjT => ?_, fun j hj hjT hlast => ?_, ih.none⟩
   ·by_cases e : i = n
    ·subst e; exact (hnT hm').elim
    ·exact ih.pos i (by omega) hm'
   ·rcases hno with c | c
    ·exact .inl c
    ·rcases ih.le with d | d
     ·exact .inl d
     ·refine .inr fun i hi => ?_
      by_cases e : i = n
      ·subst e; exact .inr c
      ·exact d i (by omega)
   ·by_cases e : j = n
    ·subst e; exact (hnT hjT).elim
    ·exact ih.ord i j hij (by omega) hjT
   ·by_cases e : j = n
    ·subst e; exact (hnT hjT).elim
    ·exact ih.last j (by omega) hjT fun i h1 h2 => hlast i h1 (by omega)
end
end Rx
namespace Rx
section
variable {b : Board} {p : Power} {L T : List Int} {x : Island}
structure Shd (b : Board) (p : Power) (x : Island) (L T : List Int) : Prop where
 lo : ∀ c ∈ x.Consumers, gt L c.toNat = gt p.Limits c.toNat ∨ gt L c.toNat < gt p.Limits c.toNat ∧ (gt b.Consumers c.toNat).Least ≤ gt L c.toNat
 ge : rateI b x ≤ sumT x [] L ∨ ∀ c ∈ x.Consumers, gt L c.toNat = gt p.Limits c.toNat
 le : sumT x [] L ≤ rateI b x ∨ ∀ c ∈ x.Consumers, gt L c.toNat ≤ (gt b.Consumers c.toNat).Least
 lord : ∀ i j, i < j → j < (ownL b x).length → gt L (gt (ownL b x) j).toNat < gt p.Limits (gt (ownL b x) j).toNat → gt L (gt (ownL b x) i).toNat ≤ (gt b.Consumers (gt (ownL b x) i).toNat).Least
 tz : sumT x [] L ≤ rateI b x → ∀ c ∈ x.Consumers, c ∉ T
 tpos : ∀ c ∈ x.Consumers, c ∈ T → 0 < gt L c.toNat
 tord : ∀ i j, i < j → j < (ownL b x).length → gt (ownL b x) j ∈ T → gt (ownL b x) i ∈ T ∨ gt L (gt (ownL b x) i).toNat = 0
 tlast : ∀ j, j < (ownL b x).length → gt (ownL b x) j ∈ T → (∀ i, j < i → i < (ownL b x).length → gt (ownL b x) i ∉ T) → rateI b x < sumT x T L + gt L (gt (ownL b x) j).toNat
 fin : sumT x T L ≤ rateI b x
def Kpt (p : Power) (x : Island) (L T : List Int) : Prop := ∀ c ∈ x.Consumers, gt L c.toNat = gt p.Limits c.toNat ∧ c ∉ T
theorem Shd.congr (hr : Row b x (ownL b x)) {L' T' : List Int} (hL : ∀ c ∈ x.Consumers, gt L' c.toNat = gt L c.toNat) (hT : ∀ c ∈ x.Consumers, c ∈ T' ↔ c ∈ T) (h : Shd b p x L T) : Shd b p x L' T' := by
 have e0 : sumT x [] L' = sumT x [] L := sumT_congr hL fun _ _ => Iff.rfl
 have e1 : sumT x T' L' = sumT x T L := sumT_congr hL hT
 refine ⟨fun c hc => ?_, ?_, ?_, fun i j hij hj => ?_, fun h0 c hc => ?_, fun c hc => ?_, fun i j hij hj => ?_, fun j hj => ?_, ?_⟩
 ·rw [hL c hc]; exact h.lo c hc
 ·rw [e0]
  exact h.ge.imp id fun g c hc => by rw [hL c hc]; exact g c hc
 ·rw [e0]
  exact h.le.imp id fun g c hc => by rw [hL c hc]; exact g c hc
 ·rw [hL _ (hr.at hj).1, hL _ (hr.at (i := i) (by omega)).1]
  exact h.lord i j hij hj
 ·rw [hT c hc]
  exact h.tz (by rw [← e0]; exact h0) c hc
 ·rw [hT c hc, hL c hc]
  exact h.tpos c hc
 ·rw [hT _ (hr.at hj).1, hT _ (hr.at (i := i) (by omega)).1, hL _ (hr.at (i := i) (by omega)).1]
  exact h.tord i j hij hj
 ·rw [hT _ (hr.at hj).1, e1, hL _ (hr.at hj).1]
  exact fun hm hl => h.tlast j hj hm fun i h1 h2 hm' => hl i h1 h2 ((hT _ (hr.at h2).1).2 hm')
 ·rw [e1]; exact h.fin
theorem Row.idx {o : List Int} (hr : Row b x o) {c : Int} (hc : c ∈ x.Consumers) : ∃ i, i < o.length ∧ gt o i = c := mem_gt ((hr.mem c).2 hc)
theorem shS_facts (h : stt b p = 0) (hx : x ∈ isl b p) (hs : x.Sources ≠ []) {s : List Int × List Int × List Act} (hL : LimOk p s.1) (h0 : ∀ c ∈ x.Consumers, gt s.1 c.toNat = gt p.Limits c.toNat ∧ c ∉ s.2.1) :
  Shd b p x (shS b p s x).1 (shS b p s x).2.1 ∧ ∀ c : Int, 0 ≤ c → c ∉ x.Consumers → gt (shS b p s x).1 c.toNat = gt s.1 c.toNat ∧ (c ∈ (shS b p s x).2.1 ↔ c ∈ s.2.1) := by
 have hr := row_own h hx
 have hT0 : ∀ c ∈ x.Consumers, c ∉ s.2.1 := fun c hc => (h0 c hc).2
 unfold shS
 rw [if_neg hs]
 have hl := low_facts h hr (T := s.2.1) (s0 := (s.1, s.2.2)) hL hT0 (ownL b x).length (Nat.le_refl _)
 rw [List.take_length] at hl
 have hok := (lowL_ok (x := x) (T := s.2.1) (s := (s.1, s.2.2)) h (o := ownL b x) hL fun c hc => hr.bd c ((hr.mem c).1 hc)).1
 generalize lowL b x s.2.1 (ownL b x) (s.1, s.2.2) = s1 at hl hok ⊢
 obtain ⟨L1, a1⟩ := s1
 simp only at hl hok ⊢
 have ht := trip_facts h hr hok (s0 := (s.2.1, a1)) hT0 (ownL b x).length (Nat.le_refl _)
 rw [List.take_length] at ht
 generalize tripL b p x L1 (ownL b x) (s.2.1, a1) = s2 at ht ⊢
 obtain ⟨T1, a2⟩ := s2
 simp only at ht ⊢
 have hS : ∀ L', sumT x [] L' = sumT x s.2.1 L' := fun L' => sumT_congr (fun _ _ => rfl) fun c hc => by simp [hT0 c hc]
 refine ⟨⟨fun c hc => ?_, ?_, ?_, fun i j hij hj => ?_, fun g c hc => ?_, fun c hc => ?_, ht.ord, ht.last, ?_⟩, fun c hc0 hc => ⟨?_, ?_⟩⟩
 ·obtain ⟨i, hi, rfl⟩ := hr.idx hc
  have := hl.lo i hi
  rw [(h0 _ hc).1] at this
  exact this
 ·rw [hS]
  exact hl.ge.imp id fun g c hc => by rw [g]; exact (h0 c hc).1
 ·rw [hS]
  refine hl.le.imp id fun g c hc => ?_
  obtain ⟨i, hi, rfl⟩ := hr.idx hc
  exact g i hi
 ·have := hl.lord i j hij hj
  rw [(h0 _ (hr.at hj).1).1] at this
  exact this
 ·rw [hS] at g
  rw [ht.none g]
  exact hT0 c hc
 ·obtain ⟨i, hi, rfl⟩ := hr.idx hc
  exact ht.pos i hi
 ·rcases ht.le with g | g
  ·exact g
  ·have : sumT x T1 L1 = 0 := sumF_zero fun c hc => by
    obtain ⟨h1, h2⟩ := left_sub hc
    obtain ⟨i, hi, rfl⟩ := hr.idx h1
    exact (g i hi).resolve_left h2
   rw [this]
   exact (rateI_bd h hx).1
 ·refine hl.out c.toNat fun i hi e => hc ?_
  have := (hr.at hi).1
  rw [e] at this
  rwa [show ((c.toNat : Nat) : Int) = c by omega] at this
 ·refine ht.out c fun i hi e => hc ?_
  rw [← e]
  exact (hr.at hi).1
theorem isl_disj {i j : Nat} (hi : i < (isl b p).length) (hj : j < (isl b p).length) (hij : i ≠ j) {c : Int} (h1 : c ∈ (gt (isl b p) i).Consumers) : c ∉ (gt (isl b p) j).Consumers := by
 intro h2
 have key : ∀ i, i < (isl b p).length → ∃ f, gt (isl b p) i = isle b p f ∧ ∃ hf : i < ((List.range b.Buses.toNat).filter fun f => !(isle b p f).Buses.isEmpty).length, ((List.range b.Buses.toNat).filter fun f => !(isle b p f).Buses.isEmpty)[i] = f := fun i hi => by
  have hl : (isl b p).length = ((List.range b.Buses.toNat).filter fun f => !(isle b p f).Buses.isEmpty).length := by rw [isl_filter, List.length_map]
  refine ⟨_, ?_, by omega, rfl⟩
  rw [gt_get hi]
  simp only [isl_filter, List.getElem_map]
 obtain ⟨f, e1, hf, e2⟩ := key i hi
 obtain ⟨g, e3, hg, e4⟩ := key j hj
 rw [e1] at h1
 rw [e3] at h2
 obtain ⟨u, _, _, hu, eu⟩ := mem_con.1 h1
 obtain ⟨v, _, _, hv, ev⟩ := mem_con.1 h2
 have huv : u = v := by omega
 subst huv
 have hfg : f = g := by omega
 have hnd : ((List.range b.Buses.toNat).filter fun f => !(isle b p f).Buses.isEmpty).Nodup := List.nodup_range.filter _
 rcases Nat.lt_or_gt_of_ne hij with h | h
 ·exact (List.pairwise_iff_getElem.1 hnd) i j hf hg h (by rw [e2, e4, hfg])
 ·exact (List.pairwise_iff_getElem.1 hnd) j i hg hf h (by rw [e2, e4, hfg])
def One (b : Board) (p : Power) (x : Island) (L T : List Int) : Prop := (x.Sources = [] → Kpt p x L T) ∧ (x.Sources ≠ [] → Shd b p x L T)
theorem One.congr (hr : Row b x (ownL b x)) {L' T' : List Int} (hL : ∀ c ∈ x.Consumers, gt L' c.toNat = gt L c.toNat) (hT : ∀ c ∈ x.Consumers, c ∈ T' ↔ c ∈ T) (h : One b p x L T) : One b p x L' T' :=
 ⟨fun hs c hc => by rw [hL c hc, hT c hc]; exact h.1 hs c hc, fun hs => (h.2 hs).congr hr hL hT⟩
theorem shA_facts (h : stt b p = 0) : ∀ k, k ≤ (isl b p).length → (∀ i, i < k → One b p (gt (isl b p) i) (shA b p ((isl b p).take k)).1 (shA b p ((isl b p).take k)).2.1) ∧ ∀ c : Int, 0 ≤ c → (∀ i, i < k → c ∉ (gt (isl b p) i).Consumers) → gt (shA b p ((isl b p).take k)).1 c.toNat = gt p.Limits c.toNat ∧ c ∉ (shA b p ((isl b p).take k)).2.1
 | 0, _ => ⟨fun i hi => absurd hi (by omega), fun c _ _ => ⟨rfl, by
   intro hm
   have e : (shA b p ((isl b p).take 0)).2.1 = [] := rfl
   rw [e] at hm
   cases hm⟩⟩
 | k + 1, hk => by
  obtain ⟨i1, i2⟩ := shA_facts h k (by omega)
  obtain ⟨hok, _⟩ := shA_ok h k (by omega)
  have hx := gt_mem (l := isl b p) (k := k) (by omega)
  have hrow : ∀ i, i ≤ k → Row b (gt (isl b p) i) (ownL b (gt (isl b p) i)) := fun i hi => row_own h (gt_mem (by omega))
  have h0 : ∀ c ∈ (gt (isl b p) k).Consumers, gt (shA b p ((isl b p).take k)).1 c.toNat = gt p.Limits c.toNat ∧ c ∉ (shA b p ((isl b p).take k)).2.1 := fun c hc => i2 c ((hrow k (Nat.le_refl _)).bd c hc).1 fun i hi => isl_disj (by omega) (by omega) (by omega) hc
  rw [take_gt (by omega), shA_snoc]
  generalize shA b p ((isl b p).take k) = s at *
  by_cases hs : (gt (isl b p) k).Sources = []
  ·have e : shS b p s (gt (isl b p) k) = s := by unfold shS; rw [if_pos hs]
   rw [e]
   refine ⟨fun i hi => ?_, fun c hc0 hc => i2 c hc0 fun i hi => hc i (by omega)⟩
   by_cases ei : i = k
   ·subst ei
    exact ⟨fun _ => h0, fun hn => (hn hs).elim⟩
   ·exact i1 i (by omega)
  ·obtain ⟨f1, f2⟩ := shS_facts h hx hs hok h0
   refine ⟨fun i hi => ?_, fun c hc0 hc => ?_⟩
   ·by_cases ei : i = k
    ·subst ei
     exact ⟨fun hn => (hs hn).elim, fun _ => f1⟩
    ·have hr := hrow i (by omega)
     refine (i1 i (by omega)).congr hr (fun c hc => ?_) fun c hc => ?_
     ·exact (f2 c (hr.bd c hc).1 (isl_disj (by omega) (by omega) ei hc)).1
     ·exact (f2 c (hr.bd c hc).1 (isl_disj (by omega) (by omega) ei hc)).2
   ·obtain ⟨g1, g2⟩ := f2 c hc0 (hc k (by omega))
    obtain ⟨j1, j2⟩ := i2 c hc0 fun i hi => hc i (by omega)
    exact ⟨by rw [g1, j1], fun hm => j2 (g2.1 hm)⟩
theorem shAll_ok (h : stt b p = 0) : LimOk p (shAll b p).1 := by
 have := (shA_ok h (isl b p).length (Nat.le_refl _)).1
 rw [List.take_length] at this
 exact this
theorem sm_shd (hp : SmP p) (h : stt b p = 0) : SmP (shdP b p) := sm_q hp (shAll_ok h) _
end
end Rx
namespace Rx
section
variable {b : Board} {p : Power} {L T : List Int} {x : Island}
theorem refload_eq (hb : SmB b) (hp : SmP p) (k : Int) : dynposref17_Load b p k = some (loadI p (ofB b p k).1) := by
 unfold dynposref17_Load
 rw [refof_isle hb hp]
 simp only [Option.bind_some]
 have ef : (ofR b p k).1 = (ofB b p k).2 := rfl
 have es : (ofR b p k).2.2.1 = (ofB b p k).1.Sources := rfl
 rw [ef, es]
 by_cases hs : (ofB b p k).1.Sources = []
 ·have : loadI p (ofB b p k).1 = 0 := by unfold loadI; rw [if_pos hs]
  rw [this, hs]
  cases (ofB b p k).2 <;> rfl
 ·have h : stt b p = 0 := by
   by_cases h : stt b p = 0
   ·exact h
   ·rw [ofB_zero h] at hs; exact (hs rfl).elim
  have hf : (ofB b p k).2 = true := by
   unfold ofB at hs ⊢
   split
   ·rfl
   ·rename_i hn
    rw [if_neg hn] at hs
    exact (hs rfl).elim
  obtain ⟨⟨hl, hg⟩, ⟨s1, s2, s3⟩, _⟩ := stt_zero.1 h
  obtain ⟨h1, h2, h3, h4⟩ := ofB_parts (p := p) hg.1 k
  have h8 := hl.con
  have hpos := List.length_pos_iff.2 hs
  have hlo : loadI p (ofB b p k).1 = sumF (gt p.Limits) (ofB b p k).1.Consumers := by unfold loadI; rw [if_neg hs]
  rw [hf, hlo, beqF (a := len (ofB b p k).1.Sources) (by unfold len; omega)]
  simp only [Bool.not_true, Bool.false_eq_true, if_false, Option.bind_some]
  have ec : (ofR b p k).2.2.2 = (ofB b p k).1.Consumers := rfl
  generalize (ofB b p k).1.Consumers = C at *
  have hlp := loop_run (step := dynposref17_Load_L1 p (ofR b p k)) (fun i => (sumF (gt p.Limits) (C.take i), (i : Int))) C.length (r := sumF (gt p.Limits) C) (fun i hi => by
   have hc := h1 _ (gt_mem hi)
   have hbd := sumF_bd (f := gt p.Limits) (l := C.take i) (B := 50000) (fun c hc => by
    have := h1 c (List.mem_of_mem_take hc)
    exact lim_bd h (by omega))
   have hlen : (C.take i).length ≤ 16 := by simp; omega
   have hcb := lim_bd h (k := (gt C i).toNat) (by omega)
   unfold dynposref17_Load_L1
   simp only [ec, lt_len hi, if_true, idx_gt hi, Option.bind_some]
   rw [idx_gtZ hc.1 (by omega), W_succ (by omega), take_gt hi, sumF_snoc]
   simp only [Option.bind_some]
   rw [W_sm (by omega) (by omega)]) (by
   unfold dynposref17_Load_L1
   simp only [ec, nlt_len, Bool.false_eq_true, if_false, List.take_length]) (by omega)
  have hlp' : loopO (dynposref17_Load_L1 p (ofR b p k)) (0, 0) = _ := hlp
  rw [hlp']
  rfl
theorem refrating_eq (hb : SmB b) (hp : SmP p) (k : Int) : dynposref17_Rating b p k = some (rateI b (ofB b p k).1) := by
 unfold dynposref17_Rating
 rw [refof_isle hb hp]
 simp only [Option.bind_some]
 have es : (ofR b p k).2.2.1 = (ofB b p k).1.Sources := rfl
 by_cases h : stt b p = 0
 case neg =>
  have : loopO (dynposref17_Rating_L1 b (ofR b p k)) (0, 0) = some 0 := loopO_of (.done (by
   unfold dynposref17_Rating_L1
   rw [es, ofB_zero h]
   rfl)) (Nat.zero_le _)
  rw [this, ofB_zero h]
  rfl
 obtain ⟨⟨hl, hg⟩, ⟨s1, s2, s3⟩, _⟩ := stt_zero.1 h
 obtain ⟨h1, h2, h3, h4⟩ := ofB_parts (p := p) hg.1 k
 have h8 := hl.src
 unfold rateI
 generalize (ofB b p k).1.Sources = C at *
 have hlp := loop_run (step := dynposref17_Rating_L1 b (ofR b p k)) (fun i => (sumF (fun k => (gt b.Sources k).Rating) (C.take i), (i : Int))) C.length (r := sumF (fun k => (gt b.Sources k).Rating) C) (fun i hi => by
  have hc := h2 _ (gt_mem hi)
  have hbd := sumF_bd (f := fun k => (gt b.Sources k).Rating) (l := C.take i) (B := 50000) (fun c hc => by
   have := h2 c (List.mem_of_mem_take hc)
   have := rat_bd h (k := c.toNat) (by omega)
   exact ⟨by omega, this.2⟩)
  have hlen : (C.take i).length ≤ 8 := by simp; omega
  have hcb := rat_bd h (k := (gt C i).toNat) (by omega)
  unfold dynposref17_Rating_L1
  simp only [es, lt_len hi, if_true, idx_gt hi, Option.bind_some]
  rw [idx_gtZ hc.1 (by omega), W_succ (by omega), take_gt hi, sumF_snoc]
  simp only [Option.bind_some]
  rw [W_sm (by omega) (by omega)]) (by
  unfold dynposref17_Rating_L1
  simp only [es, nlt_len, Bool.false_eq_true, if_false, List.take_length]) (by omega)
 have hlp' : loopO (dynposref17_Rating_L1 b (ofR b p k)) (0, 0) = _ := hlp
 rw [hlp']
 rfl
theorem loadI_sum (hs : x.Sources ≠ []) : loadI p x = sumT x [] p.Limits := by
 unfold loadI sumT
 rw [if_neg hs, left_nil]
theorem rateI_nil (hs : x.Sources = []) : rateI b x = 0 := by
 unfold rateI
 rw [hs]
 rfl
theorem loadI_nil (hs : x.Sources = []) : loadI p x = 0 := by
 unfold loadI
 rw [if_pos hs]
end
end Rx
namespace Rx
section
variable {b : Board} {p : Power}
theorem stt_clrP (h : stt b p = 0) : stt b (clrP b p) = 0 := stt_fol (stt_clr2 h)
theorem sm_clrP (hp : SmP p) : SmP (clrP b p) := sm_fol (sm_clr2 hp)
theorem reffol_in {x1 : Power} {x : Island} {out : List Running} {i : Nat} (hsm : Sm x.Sources) (hi : idx x.Sources 0 = some (i : Int)) (hi2 : i < x1.Sources.length) (h : ∀ k ∈ x.Sources, 0 ≤ k ∧ k < out.length) :
  loopO (dynposref16_follow_L2 x1 x) ((0 : Int), out) = some (setAll out (gt x1.Sources i) x.Sources) := by
 refine loop_run (step := dynposref16_follow_L2 x1 x) (fun k => ((k : Int), setAll out (gt x1.Sources i) (x.Sources.take k))) x.Sources.length (fun k hk => ?_) (by simp only [dynposref16_follow_L2, nlt_len, Bool.false_eq_true, if_false, List.take_length])
 obtain ⟨k0, k1⟩ := h _ (gt_mem hk)
 obtain ⟨j, hj⟩ := Int.eq_ofNat_of_zero_le k0
 have hj : gt x.Sources k = (j : Int) := hj
 have hjl : j < (setAll out (gt x1.Sources i) (x.Sources.take k)).length := by rw [setAll_len]; omega
 have hjs : j < ((setAll out (gt x1.Sources i) (x.Sources.take k)).set j { gt (setAll out (gt x1.Sources i) (x.Sources.take k)) j with Frequency := (gt x1.Sources i).Frequency }).length := by simpa using hjl
 simp only [dynposref16_follow_L2, lt_len hk, if_true, idx_gt hk, hi, idx_gt hi2, Option.bind_some, hj, idx_gt hjl, setO_nat hjl, idx_gt hjs, setO_nat hjs, W_succ (sm_lt hsm hk), gt_set hjl, take_gt hk, setAll_snoc, Int.toNat_natCast, List.set_set]
 rfl
theorem reffol_loop (hb : BrkOk b) (hl : Lim b) (hsl : p.Sources.length = b.Sources.length) {x1 : Power} (hx1 : x1.Sources = p.Sources) : loopO (dynposref16_follow_L1 x1 (isl b p)) ((0 : Int), p.Sources) = some (folL b p) := by
 have hbus := hl.bus
 have hsr := hl.src
 have hil := isl_len (b := b) (p := p)
 refine wp_eq.1 ?_
 refine wp_upto (isl b p).length (fun k s => ∃ out, s = ((k : Int), out) ∧ out.length = p.Sources.length ∧ ∀ j, j < p.Sources.length → gt out j = if ∃ q, q < k ∧ (j : Int) ∈ (gt (isl b p) q).Sources then fol b p j else gt p.Sources j) ⟨_, rfl, rfl, fun j hj => by rw [if_neg (by rintro ⟨q, hq, _⟩; omega)]⟩ ?_ ?_
 ·rintro k s hk ⟨out, rfl, h1, h2⟩
  have hx := gt_mem hk
  have hsrc : ∀ s ∈ (gt (isl b p) k).Sources, 0 ≤ s ∧ s < (p.Sources.length : Int) := fun s hs => by
   obtain ⟨j, rfl, h, _⟩ := isl_src hx hs
   omega
  unfold dynposref16_follow_L1
  simp only [lt_len hk, if_true, idx_gt hk, Option.bind_some]
  have hsplit : ∀ j : Nat, (∃ q, q < k + 1 ∧ (j : Int) ∈ (gt (isl b p) q).Sources) ↔ (∃ q, q < k ∧ (j : Int) ∈ (gt (isl b p) q).Sources) ∨ (j : Int) ∈ (gt (isl b p) k).Sources := fun j => by
   constructor
   ·rintro ⟨q, hq, h⟩
    by_cases hqk : q = k
    ·subst hqk; exact .inr h
    ·exact .inl ⟨q, by omega, h⟩
   ·rintro (⟨q, hq, h⟩ | h)
    ·exact ⟨q, by omega, h⟩
    ·exact ⟨k, by omega, h⟩
  by_cases h0 : (gt (isl b p) k).Sources.length = 0
  ·have e2 : (gt (isl b p) k).Sources = [] := List.length_eq_zero_iff.1 h0
   have e3 : loopO (dynposref16_follow_L2 x1 (gt (isl b p) k)) ((0 : Int), out) = some out := loopO_of (.done (by simp [dynposref16_follow_L2, e2, len])) (by omega)
   rw [e3]
   simp only [Option.bind_some]
   refine wp_some.2 ⟨out, by rw [W_succ (by omega)], h1, fun j hj => ?_⟩
   rw [h2 j hj]
   have hi : (∃ q, q < k + 1 ∧ (j : Int) ∈ (gt (isl b p) q).Sources) ↔ (∃ q, q < k ∧ (j : Int) ∈ (gt (isl b p) q).Sources) := by
    rw [hsplit, e2]; simp
   by_cases hh : ∃ q, q < k ∧ (j : Int) ∈ (gt (isl b p) q).Sources
   ·rw [if_pos hh, if_pos (hi.2 hh)]
   ·rw [if_neg hh, if_neg (fun h => hh (hi.1 h))]
  ·have hlen : 0 < (gt (isl b p) k).Sources.length := by omega
   obtain ⟨i, f1, f2, f3, f4⟩ := isl_src hx (gt_mem hlen)
   have e0 : idx (gt (isl b p) k).Sources 0 = some (i : Int) := by
    have := idx_gt hlen
    rw [f1] at this
    exact this
   have hsm : Sm (gt (isl b p) k).Sources := by
    obtain ⟨f, _, e, _⟩ := mem_isl.1 hx
    rw [e]
    have := (isle_len (b := b) (p := p) f).2.1
    unfold Sm; omega
   rw [reffol_in hsm e0 (by rw [hx1]; omega) (fun s hs => by have := hsrc s hs; omega), hx1]
   simp only [Option.bind_some]
   refine wp_some.2 ⟨_, by rw [W_succ (by omega)], by rw [setAll_len]; exact h1, fun j hj => ?_⟩
   rw [setAll_gt _ _ _ _ (fun s hs => by have := hsrc s hs; omega), h2 j hj]
   by_cases hjx : (j : Int) ∈ (gt (isl b p) k).Sources
   ·rw [if_pos hjx, if_pos ((hsplit j).2 (.inr hjx))]
    obtain ⟨j', g1, g2, g3, g4⟩ := isl_src hx hjx
    have : j' = j := by omega
    subst this
    have hld : ldr b p j' = i := by unfold ldr; rw [← g4, f1, Int.toNat_natCast]
    have hf : fol b p j' = like (gt p.Sources j') (gt p.Sources i) := by unfold fol; rw [if_pos g3, hld]
    rw [hf]
    split <;> rfl
   ·rw [if_neg hjx]
    by_cases hh : ∃ q, q < k ∧ (j : Int) ∈ (gt (isl b p) q).Sources
    ·rw [if_pos hh, if_pos ((hsplit j).2 (.inl hh))]
    ·rw [if_neg hh, if_neg (fun h => ((hsplit j).1 h).elim hh hjx)]
 ·rintro s ⟨out, rfl, h1, h2⟩
  unfold dynposref16_follow_L1
  simp only [nlt_len, Bool.false_eq_true, if_false]
  refine wp_some.2 ?_
  apply ext_gt
  ·rw [folL_len, h1]
  ·intro j hj
   rw [h2 j (by omega), folL_gt (by omega)]
   by_cases hc : (conn b p (j : Int)).2 = true
   ·obtain ⟨g1, g2⟩ := src_isl hb (show j < b.Sources.length by omega) hc
    obtain ⟨q, hq, e⟩ := mem_gt g1
    rw [if_pos ⟨q, hq, by rw [e]; exact g2⟩]
   ·have hf : fol b p j = gt p.Sources j := by unfold fol; rw [if_neg hc]
    rw [hf]
    split <;> rfl
theorem refcopy_eq (h : SmP p) : dynposref15_Copy p = some (p.Closed, p.Sources, p.Limits, p.Broken) := by
 obtain ⟨h1, h2, h3, h4⟩ := h
 unfold Sm at *
 unfold dynposref15_Copy
 rw [app_sm (by simp; omega), app_sm (by simp; omega), app_sm (by simp; omega), app_sm (by simp; omega)]
 rfl
theorem reffollow_eq (hb : SmB b) (hp : SmP p) (h : stt b p = 0) : dynposref16_Follow b p = some (0, p.Closed, folL b p, p.Limits, p.Broken) := by
 obtain ⟨⟨hl, hg⟩, ⟨s1, s2, s3⟩, _⟩ := stt_zero.1 h
 unfold dynposref16_Follow dynposref16_follow
 have e : (stt b p != 0) = false := by rw [h]; rfl
 simp only [refstate_eq hb hp, Option.bind_some, e, Bool.false_eq_true, if_false, refcopy_eq hp, refislands_eq hb hp h, reffol_loop hg.1 hl s2 (x1 := p) rfl]
theorem refwrong_eq (hp : SmP p) (h : stt b p = 0) {k : Nat} (hk : k < b.Breakers.length) : dynposref18_wrong b p (k : Int) = some (dng p (gt b.Breakers k)) := by
 unfold dynposref18_wrong dng
 simp only [idx_gt hk, Option.bind_some, refbrk_has hp]
 cases brk p 3 (gt b.Breakers k).A with
 | true => simp only [if_true, Bool.true_or]
 | false =>
  simp only [Bool.false_eq_true, if_false, Bool.false_or]
  by_cases h1 : (gt b.Breakers k).Kind = 1
  ·rw [beqT h1, if_pos h1]
   simp only [if_true]
  ·rw [beqF h1, if_neg h1]
   simp only [Bool.false_eq_true, if_false]
   by_cases h2 : (gt b.Breakers k).Kind = 2
   ·rw [beqT h2, if_pos h2]
    simp only [if_true]
    cases brk p 1 (gt b.Breakers k).B with
    | true => simp only [if_true, Option.bind_some, Bool.true_or]
    | false =>
     have := src_at h hk h2
     simp only [Bool.false_eq_true, if_false, idx_gtZ this.1 this.2, Option.bind_some, Bool.false_or]
   ·rw [beqF h2, if_neg h2]
    simp only [Bool.false_eq_true, if_false]
def opnK (C : List Bool) (P : Nat → Bool) (k : Nat) : List Bool := opn C fun i => decide (i < k) && P i
theorem opnK_at {C : List Bool} {P : Nat → Bool} {k : Nat} (hk : k < C.length) : gt (opnK C P k) k = gt C k := by
 unfold opnK
 rw [opn_gt hk, dF (by omega)]
 simp
theorem opnK_len (C : List Bool) (P : Nat → Bool) (k : Nat) : (opnK C P k).length = C.length := opn_len _ _
theorem opnK_zero (C : List Bool) (P : Nat → Bool) : opnK C P 0 = C := opn_none C fun i => by rw [dF (by omega)]; rfl
theorem opnK_all (C : List Bool) (P : Nat → Bool) : opnK C P C.length = opn C P := opn_congr fun i hi => by rw [dT hi]; rfl
theorem opnK_succ {C : List Bool} {P : Nat → Bool} {k : Nat} (hk : k < C.length) : opnK C P (k + 1) = if (gt C k && P k) = true then (opnK C P k).set k false else opnK C P k := by
 refine ext_gt (by split <;> simp [opnK_len]) fun i hi => ?_
 rw [opnK_len] at hi
 have e1 : gt (opnK C P (k + 1)) i = (gt C i && !(decide (i < k + 1) && P i)) := opn_gt hi
 have e2 : gt (opnK C P k) i = (gt C i && !(decide (i < k) && P i)) := opn_gt hi
 by_cases e : i = k
 ·subst e
  rw [e1, dT (by omega)]
  split
  ·rename_i hc
   rw [gt_set (by rw [opnK_len]; exact hi), if_pos rfl]
   simp only [Bool.and_eq_true] at hc
   rw [hc.1, hc.2]; rfl
  ·rename_i hc
   rw [e2, dF (by omega)]
   cases hx : gt C i with
   | false => simp
   | true =>
    cases hy : P i with
    | false => simp
    | true => rw [hx, hy] at hc; exact (hc rfl).elim
 ·have ed : decide (i < k + 1) = decide (i < k) := decide_eq_decide.2 (by omega)
  rw [e1, ed, ← e2]
  split
  ·rw [gt_set (by rw [opnK_len]; exact hk), if_neg e]
  ·rfl
theorem refclear_L1 (hp : SmP p) (h : stt b p = 0) : loopO (dynposref18_Clear_L1 b p) (0, [], p.Closed) = some ((fnd p.Closed fun i => dng p (gt b.Breakers i)).map actO, (clr1 b p).Closed) := by
 obtain ⟨s1, s2, s3, _⟩ := brk_lens h
 have hrun := loop_run (step := dynposref18_Clear_L1 b p) (r := ((fnd p.Closed fun i => dng p (gt b.Breakers i)).map actO, (clr1 b p).Closed)) (fun k => ((k : Int), (rangeF (fun i => gt p.Closed i && dng p (gt b.Breakers i)) k).map actO, opnK p.Closed (fun i => dng p (gt b.Breakers i)) k)) b.Breakers.length (fun k hk => by
  have hkc : k < p.Closed.length := by omega
  have hl := opnK_len p.Closed (fun i => dng p (gt b.Breakers i)) k
  have hat := opnK_at (P := fun i => dng p (gt b.Breakers i)) hkc
  have hsc := opnK_succ (P := fun i => dng p (gt b.Breakers i)) hkc
  have hrl := rangeF_len (fun i => gt p.Closed i && dng p (gt b.Breakers i)) k
  have hrs := rangeF_succ (fun i => gt p.Closed i && dng p (gt b.Breakers i)) k
  unfold dynposref18_Clear_L1
  simp only [lt_len hk, if_true]
  rw [idx_gt (by omega), hat, W_succ (by omega), hrs, hsc]
  simp only [Option.bind_some, refwrong_eq hp h hk]
  cases gt p.Closed k with
  | false => simp
  | true =>
   cases dng p (gt b.Breakers k) with
   | false => simp
   | true =>
    simp only [if_true, Option.bind_some, Bool.and_self]
    rw [setO_nat (by omega), app_sm (by simp; omega)]
    simp [actO]) (by
  unfold dynposref18_Clear_L1
  simp only [nlt_len, Bool.false_eq_true, if_false]
  rw [← s1, opnK_all]
  rfl) (by omega)
 have hrun' : loopO (dynposref18_Clear_L1 b p) (0, [], opnK p.Closed (fun i => dng p (gt b.Breakers i)) 0) = _ := hrun
 rw [opnK_zero] at hrun'
 exact hrun'
theorem stt_opnK {q : Power} (h : stt b q = 0) (P : Nat → Bool) (k : Nat) : stt b { q with Closed := opnK q.Closed P k } = 0 := stt_less h (opnK_len _ _ _) rfl rfl rfl fun j hj => opn_le hj
theorem refclear_L2 (hb : SmB b) (hp : SmP p) (h : stt b p = 0) (A : List Act) (hA : A.length ≤ 1000) : loopO (dynposref18_Clear_L2 b (p.Closed, p.Sources, p.Limits, p.Broken)) (0, A, (clr1 b p).Closed) = some (A ++ (fnd (clr1 b p).Closed fun i => dead b (clr1 b p) (gt b.Breakers i)).map actO, (clr2 b p).Closed) := by
 obtain ⟨s1, s2, s3, _⟩ := brk_lens h
 have hc1 : (clr1 b p).Closed.length = b.Breakers.length := by show (opn p.Closed _).length = _; rw [opn_len, s1]
 have hrun := loop_run (step := dynposref18_Clear_L2 b (p.Closed, p.Sources, p.Limits, p.Broken)) (r := (A ++ (fnd (clr1 b p).Closed fun i => dead b (clr1 b p) (gt b.Breakers i)).map actO, (clr2 b p).Closed)) (fun k => ((k : Int), A ++ (rangeF (fun i => gt (clr1 b p).Closed i && dead b (clr1 b p) (gt b.Breakers i)) k).map actO, opnK (clr1 b p).Closed (fun i => dead b (clr1 b p) (gt b.Breakers i)) k)) b.Breakers.length (fun k hk => by
  have hkc : k < (clr1 b p).Closed.length := by omega
  have hl := opnK_len (clr1 b p).Closed (fun i => dead b (clr1 b p) (gt b.Breakers i)) k
  have hat := opnK_at (P := fun i => dead b (clr1 b p) (gt b.Breakers i)) hkc
  have hsc := opnK_succ (P := fun i => dead b (clr1 b p) (gt b.Breakers i)) hkc
  have hrl := rangeF_len (fun i => gt (clr1 b p).Closed i && dead b (clr1 b p) (gt b.Breakers i)) k
  have hrs := rangeF_succ (fun i => gt (clr1 b p).Closed i && dead b (clr1 b p) (gt b.Breakers i)) k
  have hq := stt_opnK (stt_clr1 h) (fun i => dead b (clr1 b p) (gt b.Breakers i)) k
  have hsm : SmP { clr1 b p with Closed := opnK (clr1 b p).Closed (fun i => dead b (clr1 b p) (gt b.Breakers i)) k } := sm_opn (sm_clr1 (b := b) hp) hl rfl rfl rfl
  have hsame : SameT b (clr1 b p) { clr1 b p with Closed := opnK (clr1 b p).Closed (fun i => dead b (clr1 b p) (gt b.Breakers i)) k } := ⟨rfl, fun _ _ => rfl, fun j hj h3 => by
   show gt (opn (clr1 b p).Closed _) j = _
   rw [opn_gt (by omega)]
   have e3 : dead b (clr1 b p) (gt b.Breakers j) = false := by unfold dead; rw [beqF h3]; rfl
   simp [e3]⟩
  have hlv := hsame.liv (stt_clr1 h) hq (gt b.Breakers k).A
  have hrlv := refliv_eq hb hsm (gt b.Breakers k).A
  rw [hlv] at hrlv
  have hrlv' : dynposref15_Live b ⟨opnK (clr1 b p).Closed (fun i => dead b (clr1 b p) (gt b.Breakers i)) k, p.Sources, p.Limits, p.Broken⟩ (gt b.Breakers k).A = _ := hrlv
  unfold dynposref18_Clear_L2
  simp only [lt_len hk, if_true, idx_gt hk, Option.bind_some]
  rw [idx_gt (by omega), hat, W_succ (by omega), hrs, hsc]
  simp only [Option.bind_some, hrlv']
  have hdd : dead b (clr1 b p) (gt b.Breakers k) = ((gt b.Breakers k).Kind == 3 && !liv b (clr1 b p) (gt b.Breakers k).A) := rfl
  rw [hdd]
  cases (gt b.Breakers k).Kind == 3 with
  | false => simp
  | true =>
   cases gt (clr1 b p).Closed k with
   | false => simp
   | true =>
    cases liv b (clr1 b p) (gt b.Breakers k).A with
    | true => simp
    | false =>
     simp only [if_true, Option.bind_some, Bool.and_self, Bool.not_false]
     rw [setO_nat (by omega), app_sm (by simp; omega)]
     simp [actO]) (by
  unfold dynposref18_Clear_L2
  simp only [nlt_len, Bool.false_eq_true, if_false]
  rw [← hc1, opnK_all]
  rfl) (by omega)
 have hrun' : loopO (dynposref18_Clear_L2 b (p.Closed, p.Sources, p.Limits, p.Broken)) (0, A ++ [], opnK (clr1 b p).Closed (fun i => dead b (clr1 b p) (gt b.Breakers i)) 0) = _ := hrun
 rw [opnK_zero, List.append_nil] at hrun'
 exact hrun'
theorem refclear_eq (hb : SmB b) (hp : SmP p) (h : stt b p = 0) : dynposref18_Clear b p = some (0, (clrP b p).Closed, (clrP b p).Sources, (clrP b p).Limits, (clrP b p).Broken, clrA b p) := by
 obtain ⟨s1, s2, s3, _⟩ := brk_lens h
 have hfl := fnd_len p.Closed fun i => dng p (gt b.Breakers i)
 unfold dynposref18_Clear
 have e : (stt b p != 0) = false := by rw [h]; rfl
 simp only [refstate_eq hb hp, Option.bind_some, e, Bool.false_eq_true, if_false, refcopy_eq hp, refclear_L1 hp h]
 rw [refclear_L2 hb hp h _ (by rw [List.length_map]; omega)]
 simp only [Option.bind_some]
 have e3 := reffollow_eq hb (sm_clr2 (b := b) hp) (stt_clr2 h)
 rw [show dynposref16_Follow b ⟨(clr2 b p).Closed, p.Sources, p.Limits, p.Broken⟩ = _ from e3]
 rfl
theorem refclear_bad (hb : SmB b) (hp : SmP p) (h : stt b p ≠ 0) : dynposref18_Clear b p = some (stt b p, [], [], [], [], []) := by
 unfold dynposref18_Clear
 have : (stt b p != 0) = true := by simpa using h
 rw [refstate_eq hb hp]
 simp only [Option.bind_some, this, if_true]
end
end Rx
namespace Rx
section
variable {b : Board} {p : Power} {L T : List Int} {x : Island}
def bef (b : Board) (c d : Int) : Prop := prf b c < prf b d ∨ prf b c = prf b d ∧ c < d
theorem bef_asymm {c d : Int} (h : bef b c d) (h' : bef b d c) : False := by
 unfold bef at h h'
 omega
theorem Shd.low (h : Shd b p x L T) {d : Int} (hd : d ∈ x.Consumers) (hT : d ∈ T) {c : Int} (hc : c ∈ x.Consumers) : gt L c.toNat ≤ (gt b.Consumers c.toNat).Least := by
 rcases h.le with g | g
 ·exact (h.tz g d hd hT).elim
 ·exact g c hc
theorem refhas_eq (l : List Int) (a : Int) (hl : l.length ≤ 1000000000) : dynposref01_Has l a = some (decide (a ∈ l)) := by
 unfold dynposref01_Has
 have e := loop_anyB (step := dynposref01_Has_L1 l a) (fun k => (k : Int)) l.length (fun k => gt l k = a) (r := Sum.inr true) (e := Sum.inl ()) (fun k hk hp => by
  unfold dynposref01_Has_L1
  simp only [lt_len hk, if_true, idx_gt hk, Option.bind_some]
  rw [beqF hp, W_succ (by omega)]
  rfl) (fun k hk hp => by
  unfold dynposref01_Has_L1
  simp only [lt_len hk, if_true, idx_gt hk, Option.bind_some]
  rw [beqT hp]
  rfl) (by
  unfold dynposref01_Has_L1
  simp only [nlt_len, Bool.false_eq_true, if_false])
 have e' : loopO (dynposref01_Has_L1 l a) 0 = _ := e
 rw [e']
 have hm : dB (∃ i, i < l.length ∧ gt l i = a) = decide (a ∈ l) := by
  by_cases hm : a ∈ l
  ·rw [dB_T (mem_iff_gt.1 hm), decide_eq_true hm]
  ·rw [dB_F fun hh => hm (mem_iff_gt.2 hh), decide_eq_false hm]
 rw [hm]
 cases decide (a ∈ l) <;> rfl
end
end Rx
namespace Rx
section
variable {b : Board} {p q : Power} {L T : List Int} {x : Island}
structure Clean (b : Board) (p : Power) : Prop where
 dng : ∀ i, i < b.Breakers.length → gt p.Closed i = true → dng p (gt b.Breakers i) = false
 dead : ∀ i, i < b.Breakers.length → gt p.Closed i = true → dead b p (gt b.Breakers i) = false
 fol : folL b p = p.Sources
noncomputable def protP (b : Board) (p : Power) : Power := shdP b (clrP b p)
noncomputable def protA (b : Board) (p : Power) : List Act := clrA b p ++ (shAll b (clrP b p)).2.2
theorem clrA_len (h : stt b p = 0) : (clrA b p).length ≤ 48 := by
 obtain ⟨s1, _, s3, _⟩ := brk_lens h
 have h1 := fnd_len p.Closed fun i => Rx.dng p (gt b.Breakers i)
 have h2 := fnd_len (clr1 b p).Closed fun i => Rx.dead b (clr1 b p) (gt b.Breakers i)
 have h3 : (clr1 b p).Closed.length = p.Closed.length := opn_len _ _
 unfold clrA
 simp only [List.length_append, List.length_map]
 omega
theorem sm_prot (hp : SmP p) (h : stt b p = 0) : SmP (protP b p) := sm_shd (sm_clrP hp) (stt_clrP h)
theorem protect_eq (hb : SmB b) (hp : SmP p) (h : stt b p = 0) : shed_Protect b p = some (0, (protP b p).Closed, (protP b p).Sources, (protP b p).Limits, (protP b p).Broken, protA b p) := by
 unfold shed_Protect shed_relieve_v2 shed_Protect_1_v1
 rw [state_eq hb hp, h]
 simp only [Option.bind_some, bne_self_eq_false, Bool.false_eq_true, if_false, clone_eq hp]
 rw [show (⟨b, ⟨p.Closed, p.Sources, p.Limits, p.Broken⟩, []⟩ : relief) = ⟨b, p, []⟩ from rfl, clear_run hb hp h]
 simp only [Option.bind_some]
 have e := shed_run hb (sm_clrP (b := b) hp) (stt_clrP h) (a := clrA b p) (by have := clrA_len h; omega)
 rw [show (⟨⟨b.Buses, b.Breakers, b.Sources, b.Consumers, b.Phase, b.Frequency⟩, ⟨(clrP b p).Closed, (clrP b p).Sources, (clrP b p).Limits, (clrP b p).Broken⟩, clrA b p⟩ : relief) = ⟨b, clrP b p, clrA b p⟩ from rfl, e]
 rfl
theorem protect_bad (hb : SmB b) (hp : SmP p) (h : stt b p ≠ 0) : shed_Protect b p = some (stt b p, [], [], [], [], []) := by
 unfold shed_Protect shed_relieve_v2
 have : (stt b p != 0) = true := by simpa using h
 rw [state_eq hb hp]
 simp only [Option.bind_some, this, if_true]
end
end Rx
namespace Rx
section
variable {b : Board} {p q : Power} {L T : List Int} {x : Island}
theorem eqRun_eq {a b : List Running} (ha : Sm a) : slices_Equal_Running_Running a b = some (dB (a = b)) := by
 unfold slices_Equal_Running_Running
 by_cases hl : a.length = b.length
 ·have e1 : (len a != len b) = false := by simp [len, hl]
  have h := loop_anyB (step := slices_Equal_Running_Running_L1 a b) (fun k => (k : Int)) a.length (fun k => gt a k ≠ gt b k) (r := .inr false) (e := .inl ())
   (fun k hk hp => by
    have e2 := (runB (gt a k) (gt b k)).2 (Classical.not_not.1 hp)
    simp only [slices_Equal_Running_Running_L1, lt_len hk, if_true, idx_gt hk, idx_gt (show k < b.length by omega), Option.bind_some, e2, Bool.not_true, Bool.false_eq_true, if_false, W_succ (sm_lt ha hk)])
   (fun k hk hp => by
    have e2 : ((gt a k).State == (gt b k).State && ((gt a k).Since == (gt b k).Since && ((gt a k).Frequency == (gt b k).Frequency && (gt a k).Phase == (gt b k).Phase))) = false := by
     cases hh : ((gt a k).State == (gt b k).State && ((gt a k).Since == (gt b k).Since && ((gt a k).Frequency == (gt b k).Frequency && (gt a k).Phase == (gt b k).Phase))) with
     | false => rfl
     | true => exact (hp ((runB _ _).1 hh)).elim
    simp only [slices_Equal_Running_Running_L1, lt_len hk, if_true, idx_gt hk, idx_gt (show k < b.length by omega), Option.bind_some, e2, Bool.not_false])
   (by simp only [slices_Equal_Running_Running_L1, nlt_len, Bool.false_eq_true, if_false])
  have h' : loopO (slices_Equal_Running_Running_L1 a b) 0 = _ := h
  simp only [e1, Bool.false_eq_true, if_false, h', Option.bind_some]
  by_cases he : a = b
  ·subst he
   rw [dB_F (p := ∃ k, k < a.length ∧ gt a k ≠ gt a k) (by simp), dB_T rfl]
   rfl
  ·have : ∃ k, k < a.length ∧ gt a k ≠ gt b k := by
    apply Classical.byContradiction
    intro hn
    exact he (ext_gt hl fun k hk => Classical.byContradiction fun h => hn ⟨k, hk, h⟩)
   rw [dB_T this, dB_F he]
   rfl
 ·have e1 : (len a != len b) = true := by simp [len]; omega
  have he : a ≠ b := fun e => hl (e ▸ rfl)
  rw [dB_F he]
  simp only [e1, if_true]
theorem eqPart_eq {a b : List Part} (ha : Sm a) : slices_Equal_Part_Part a b = some (dB (a = b)) := by
 unfold slices_Equal_Part_Part
 by_cases hl : a.length = b.length
 ·have e1 : (len a != len b) = false := by simp [len, hl]
  have h := loop_anyB (step := slices_Equal_Part_Part_L1 a b) (fun k => (k : Int)) a.length (fun k => gt a k ≠ gt b k) (r := .inr false) (e := .inl ())
   (fun k hk hp => by
    have e2 := (partB (gt a k) (gt b k)).2 (Classical.not_not.1 hp)
    simp only [slices_Equal_Part_Part_L1, lt_len hk, if_true, idx_gt hk, idx_gt (show k < b.length by omega), Option.bind_some, e2, Bool.not_true, Bool.false_eq_true, if_false, W_succ (sm_lt ha hk)])
   (fun k hk hp => by
    have e2 : ((gt a k).Kind == (gt b k).Kind && (gt a k).Number == (gt b k).Number) = false := by
     cases hh : ((gt a k).Kind == (gt b k).Kind && (gt a k).Number == (gt b k).Number) with
     | false => rfl
     | true => exact (hp ((partB _ _).1 hh)).elim
    simp only [slices_Equal_Part_Part_L1, lt_len hk, if_true, idx_gt hk, idx_gt (show k < b.length by omega), Option.bind_some, e2, Bool.not_false])
   (by simp only [slices_Equal_Part_Part_L1, nlt_len, Bool.false_eq_true, if_false])
  have h' : loopO (slices_Equal_Part_Part_L1 a b) 0 = _ := h
  simp only [e1, Bool.false_eq_true, if_false, h', Option.bind_some]
  by_cases he : a = b
  ·subst he
   rw [dB_F (p := ∃ k, k < a.length ∧ gt a k ≠ gt a k) (by simp), dB_T rfl]
   rfl
  ·have : ∃ k, k < a.length ∧ gt a k ≠ gt b k := by
    apply Classical.byContradiction
    intro hn
    exact he (ext_gt hl fun k hk => Classical.byContradiction fun h => hn ⟨k, hk, h⟩)
   rw [dB_T this, dB_F he]
   rfl
 ·have e1 : (len a != len b) = true := by simp [len]; omega
  have he : a ≠ b := fun e => hl (e ▸ rfl)
  rw [dB_F he]
  simp only [e1, if_true]
def Les (p q : Power) : Prop := ((∀ k, k < q.Closed.length → gt q.Closed k = true → gt p.Closed k = true) ∧ ∀ k, k < q.Limits.length → gt q.Limits k ≤ gt p.Limits k) ∧ p.Sources = q.Sources ∧ p.Broken = q.Broken
theorem lesser_eq (hp : SmP p) (hq : SmP q) (h1 : p.Closed.length = q.Closed.length) (h2 : p.Limits.length = q.Limits.length) : shed_lesser p q = some (dB (Les p q)) := by
 obtain ⟨a1, a2, a3, a4⟩ := hp
 obtain ⟨b1, b2, b3, b4⟩ := hq
 unfold shed_lesser
 have e1 := loop_anyB (step := shed_lesser_L1 p q) (fun k => (k : Int)) q.Closed.length (fun k => gt q.Closed k = true ∧ gt p.Closed k = false) (r := .inr false) (e := .inl ())
  (fun k hk hn => by
   unfold shed_lesser_L1
   simp only [lt_len hk, if_true, idx_gt hk, Option.bind_some, idx_gt (l := p.Closed) (k := k) (by omega)]
   rw [W_succ (sm_lt b1 hk)]
   cases hc : gt q.Closed k with
   | false => simp
   | true =>
    cases hd : gt p.Closed k with
    | false => exact (hn ⟨hc, hd⟩).elim
    | true => simp)
  (fun k hk hp => by
   unfold shed_lesser_L1
   simp only [lt_len hk, if_true, idx_gt hk, Option.bind_some, idx_gt (l := p.Closed) (k := k) (by omega), hp.1, hp.2, Bool.not_false])
  (by
   unfold shed_lesser_L1
   simp only [nlt_len, Bool.false_eq_true, if_false])
 have e2 := loop_anyB (step := shed_lesser_L2 p q) (fun k => (k : Int)) q.Limits.length (fun k => gt p.Limits k < gt q.Limits k) (r := .inr false) (e := .inl ())
  (fun k hk hn => by
   unfold shed_lesser_L2
   simp only [lt_len hk, if_true, idx_gt hk, Option.bind_some, idx_gt (l := p.Limits) (k := k) (by omega)]
   rw [W_succ (sm_lt b3 hk), dF (by omega)]
   simp only [Bool.false_eq_true, if_false])
  (fun k hk hp => by
   unfold shed_lesser_L2
   simp only [lt_len hk, if_true, idx_gt hk, Option.bind_some, idx_gt (l := p.Limits) (k := k) (by omega)]
   rw [dT (by omega)]
   simp only [if_true])
  (by
   unfold shed_lesser_L2
   simp only [nlt_len, Bool.false_eq_true, if_false])
 have e1' : loopO (shed_lesser_L1 p q) 0 = _ := e1
 have e2' : loopO (shed_lesser_L2 p q) 0 = _ := e2
 rw [e1']
 by_cases g1 : ∃ k, k < q.Closed.length ∧ gt q.Closed k = true ∧ gt p.Closed k = false
 ·obtain ⟨k, hk, g, g'⟩ := g1
  rw [dB_T ⟨k, hk, g, g'⟩, dB_F (p := Les p q) fun hh => by have := hh.1.1 k hk g; rw [g'] at this; cases this]
  rfl
 ·rw [dB_F g1, e2']
  by_cases g2 : ∃ k, k < q.Limits.length ∧ gt p.Limits k < gt q.Limits k
  ·obtain ⟨k, hk, g⟩ := g2
   rw [dB_T ⟨k, hk, g⟩, dB_F (p := Les p q) fun hh => by have := hh.1.2 k hk; omega]
   rfl
  ·rw [dB_F g2]
   simp only [cond_false, Option.bind_some, Sum.elim_inl, eqRun_eq a2, eqPart_eq a4]
   have k1 : ∀ k, k < q.Closed.length → gt q.Closed k = true → gt p.Closed k = true := fun k hk hc => by
    cases hd : gt p.Closed k with
    | true => rfl
    | false => exact (g1 ⟨k, hk, hc, hd⟩).elim
   have k2 : ∀ k, k < q.Limits.length → gt q.Limits k ≤ gt p.Limits k := fun k hk => by
    apply Classical.byContradiction
    intro hn
    exact g2 ⟨k, hk, by omega⟩
   by_cases g3 : p.Sources = q.Sources
   ·rw [dB_T g3]
    simp only [if_true, Option.bind_some]
    congr 1
    exact dB_congr ⟨fun g4 => ⟨⟨k1, k2⟩, g3, g4⟩, fun hh => hh.2.2⟩
   ·rw [dB_F g3, dB_F (p := Les p q) fun hh => g3 hh.2.1]
    rfl
noncomputable def fulB (b : Board) (q : Power) (c : Int) : Bool := (fedB b q c).2 && decide ((gt b.Consumers c.toNat).Least < gt q.Limits c.toNat)
noncomputable def havB (b : Board) (q : Power) (c : Int) : Bool := (fedB b q c).2 && decide (0 < gt q.Limits c.toNat)
noncomputable def tq (b : Board) (q : Power) : Int × List Breaker × List Source × List Consumer × Int × Int × List Bool × List Running × List Int × List Part := (b.Buses, b.Breakers, b.Sources, b.Consumers, b.Phase, b.Frequency, q.Closed, q.Sources, q.Limits, q.Broken)
theorem ordered1_eq (hb : SmB b) (hq : SmP q) (c : Int) : shed_ordered_1_v1 c b.Buses b.Breakers b.Sources b.Consumers b.Phase b.Frequency q.Closed q.Sources q.Limits q.Broken = some ((fedB b q c).2, tq b q) := by
 have hbe : (⟨b.Buses, b.Breakers, b.Sources, b.Consumers, b.Phase, b.Frequency⟩ : Board) = b := rfl
 have hqe : (⟨q.Closed, q.Sources, q.Limits, q.Broken⟩ : Power) = q := rfl
 unfold shed_ordered_1_v1
 rw [hbe, hqe, fedB_eq hb hq]
 rfl
theorem ordered2_eq (hb : SmB b) (hq : SmP q) (hl : q.Limits.length = b.Consumers.length) {c : Int} (hc : 0 ≤ c ∧ c < (b.Consumers.length : Int)) : shed_ordered_2_v2 c b.Buses b.Breakers b.Sources b.Consumers b.Phase b.Frequency q.Closed q.Sources q.Limits q.Broken = some (fulB b q c, tq b q) := by
 unfold shed_ordered_2_v2 fulB
 rw [ordered1_eq hb hq]
 simp only [Option.bind_some, tq]
 cases (fedB b q c).2 with
 | false => simp only [Bool.false_eq_true, if_false, Option.bind_some, Bool.false_and]
 | true =>
  simp only [if_true]
  rw [idx_gtZ (l := q.Limits) hc.1 (by omega), idx_gtZ (l := b.Consumers) hc.1 hc.2]
  simp only [Option.bind_some, Bool.true_and]
theorem ordered3_eq (hb : SmB b) (hq : SmP q) (hl : q.Limits.length = b.Consumers.length) {c : Int} (hc : 0 ≤ c ∧ c < (b.Consumers.length : Int)) : shed_ordered_3_v2 c b.Buses b.Breakers b.Sources b.Consumers b.Phase b.Frequency q.Closed q.Sources q.Limits q.Broken = some (havB b q c, tq b q) := by
 unfold shed_ordered_3_v2 havB
 rw [ordered1_eq hb hq]
 simp only [Option.bind_some, tq]
 cases (fedB b q c).2 with
 | false => simp only [Bool.false_eq_true, if_false, Option.bind_some, Bool.false_and]
 | true =>
  simp only [if_true]
  rw [idx_gtZ (l := q.Limits) hc.1 (by omega)]
  simp only [Option.bind_some, Bool.true_and]
theorem find_any {P : Int → Bool} {l : List Int} : l.any P = match (List.range l.length).find? (fun k => P (gt l k)) with
  | some _ => true
  | none => false := by
 cases hf : (List.range l.length).find? (fun k => P (gt l k)) with
 | some k =>
  have hk := List.mem_range.1 (List.mem_of_find?_eq_some hf)
  have hp := List.find?_some hf
  exact List.any_eq_true.2 ⟨_, gt_mem hk, hp⟩
 | none =>
  refine List.any_eq_false.2 fun c hc => ?_
  obtain ⟨k, hk, rfl⟩ := mem_gt hc
  exact List.find?_eq_none.1 hf k (List.mem_range.2 hk)
theorem contains2_eq (hb : SmB b) (hq : SmP q) (hl : q.Limits.length = b.Consumers.length) {l : List Int} (hln : l.length ≤ 1000) (hc : ∀ c ∈ l, 0 ≤ c ∧ c < (b.Consumers.length : Int)) : slices_ContainsFunc_int_int_flat_v2 l b.Buses b.Breakers b.Sources b.Consumers b.Phase b.Frequency q.Closed q.Sources q.Limits q.Broken = some (l.any (fulB b q), tq b q) := by
 unfold slices_ContainsFunc_int_int_flat_v2 slices_IndexFunc_int_int_flat_v4
 have h1 := loop_find (step := slices_IndexFunc_int_int_flat_v4_L1 l) (fun k => ((k : Int), tq b q)) l.length (fun k => fulB b q (gt l k)) (R := fun k => .inr ((k : Int), tq b q)) (e := .inl (tq b q)) (fun k hk hp => by
  unfold slices_IndexFunc_int_int_flat_v4_L1
  simp only [tq, lt_len hk, if_true, idx_gt hk, Option.bind_some, ordered2_eq hb hq hl (hc _ (gt_mem hk)), hp, Bool.false_eq_true, if_false]
  rw [W_succ (by omega)]) (fun k hk hp => by
  unfold slices_IndexFunc_int_int_flat_v4_L1
  simp only [tq, lt_len hk, if_true, idx_gt hk, Option.bind_some, ordered2_eq hb hq hl (hc _ (gt_mem hk)), hp]) (by
  unfold slices_IndexFunc_int_int_flat_v4_L1
  simp only [tq, nlt_len, Bool.false_eq_true, if_false]) (by omega)
 have h1' : loopO (slices_IndexFunc_int_int_flat_v4_L1 l) (0, b.Buses, b.Breakers, b.Sources, b.Consumers, b.Phase, b.Frequency, q.Closed, q.Sources, q.Limits, q.Broken) = _ := h1
 rw [h1', find_any]
 cases (List.range l.length).find? (fun k => fulB b q (gt l k)) with
 | none => rfl
 | some k =>
  simp only [Option.bind_some, Sum.elim_inr, tq]
  rw [dT (by omega)]
theorem contains3_eq (hb : SmB b) (hq : SmP q) (hl : q.Limits.length = b.Consumers.length) {l : List Int} (hln : l.length ≤ 1000) (hc : ∀ c ∈ l, 0 ≤ c ∧ c < (b.Consumers.length : Int)) : slices_ContainsFunc_int_int_flat_v3 l b.Buses b.Breakers b.Sources b.Consumers b.Phase b.Frequency q.Closed q.Sources q.Limits q.Broken = some (l.any (havB b q), tq b q) := by
 unfold slices_ContainsFunc_int_int_flat_v3 slices_IndexFunc_int_int_flat_v7
 have h1 := loop_find (step := slices_IndexFunc_int_int_flat_v7_L1 l) (fun k => ((k : Int), tq b q)) l.length (fun k => havB b q (gt l k)) (R := fun k => .inr ((k : Int), tq b q)) (e := .inl (tq b q)) (fun k hk hp => by
  unfold slices_IndexFunc_int_int_flat_v7_L1
  simp only [tq, lt_len hk, if_true, idx_gt hk, Option.bind_some, ordered3_eq hb hq hl (hc _ (gt_mem hk)), hp, Bool.false_eq_true, if_false]
  rw [W_succ (by omega)]) (fun k hk hp => by
  unfold slices_IndexFunc_int_int_flat_v7_L1
  simp only [tq, lt_len hk, if_true, idx_gt hk, Option.bind_some, ordered3_eq hb hq hl (hc _ (gt_mem hk)), hp]) (by
  unfold slices_IndexFunc_int_int_flat_v7_L1
  simp only [tq, nlt_len, Bool.false_eq_true, if_false]) (by omega)
 have h1' : loopO (slices_IndexFunc_int_int_flat_v7_L1 l) (0, b.Buses, b.Breakers, b.Sources, b.Consumers, b.Phase, b.Frequency, q.Closed, q.Sources, q.Limits, q.Broken) = _ := h1
 rw [h1', find_any]
 cases (List.range l.length).find? (fun k => havB b q (gt l k)) with
 | none => rfl
 | some k =>
  simp only [Option.bind_some, Sum.elim_inr, tq]
  rw [dT (by omega)]
noncomputable def badO (b : Board) (p q : Power) (o : List Int) (i : Nat) : Bool :=
 ((decide (gt q.Limits (gt o i).toNat < gt p.Limits (gt o i).toNat) || !(fedB b q (gt o i)).2) && (o.take i).any (fulB b q)) || (!(fedB b q (gt o i)).2 && (o.take i).any (havB b q))
theorem slc_takeN {l : List Int} {i : Nat} (h : i ≤ l.length) : slc l 0 (i : Int) = some (l.take i) := slc_take (by omega)
theorem ordered_eq (hb : SmB b) (hq : SmP q) (hl : q.Limits.length = b.Consumers.length) (hpl : p.Limits.length = b.Consumers.length) {o : List Int} (hln : o.length ≤ 1000) (hc : ∀ c ∈ o, 0 ≤ c ∧ c < (b.Consumers.length : Int)) : shed_ordered b p q o = some (!dB (∃ i, i < o.length ∧ badO b p q o i = true)) := by
 unfold shed_ordered
 have h1 := loop_anyB (step := shed_ordered_L1 p o) (fun k => ((k : Int), tq b q)) o.length (fun k => badO b p q o k = true) (r := .inr false) (e := .inl (tq b q)) (fun k hk hp => by
  have hck := hc _ (gt_mem hk)
  have c2 := contains2_eq hb hq hl (l := o.take k) (by rw [List.length_take]; omega) (fun c hm => hc c (List.mem_of_mem_take hm))
  have c3 := contains3_eq hb hq hl (l := o.take k) (by rw [List.length_take]; omega) (fun c hm => hc c (List.mem_of_mem_take hm))
  unfold shed_ordered_L1
  simp only [tq, lt_len hk, if_true, idx_gt hk, Option.bind_some, slc_takeN (show k ≤ o.length by omega)]
  rw [idx_gtZ (l := q.Limits) hck.1 (by omega), idx_gtZ (l := p.Limits) hck.1 (by omega), W_succ (by omega)]
  simp only [Option.bind_some, c2, c3, ordered1_eq hb hq, tq]
  unfold badO at hp
  cases hd : decide (gt q.Limits (gt o k).toNat < gt p.Limits (gt o k).toNat) <;> cases hf : (fedB b q (gt o k)).2 <;> cases hu : (o.take k).any (fulB b q) <;> cases hv : (o.take k).any (havB b q) <;> rw [hd, hf, hu, hv] at hp <;> simp [ordered1_eq hb hq, c2, c3, hf, hu, hv, tq] at hp ⊢) (fun k hk hp => by
  have hck := hc _ (gt_mem hk)
  have c2 := contains2_eq hb hq hl (l := o.take k) (by rw [List.length_take]; omega) (fun c hm => hc c (List.mem_of_mem_take hm))
  have c3 := contains3_eq hb hq hl (l := o.take k) (by rw [List.length_take]; omega) (fun c hm => hc c (List.mem_of_mem_take hm))
  unfold shed_ordered_L1
  simp only [tq, lt_len hk, if_true, idx_gt hk, Option.bind_some, slc_takeN (show k ≤ o.length by omega)]
  rw [idx_gtZ (l := q.Limits) hck.1 (by omega), idx_gtZ (l := p.Limits) hck.1 (by omega), W_succ (by omega)]
  simp only [Option.bind_some, c2, c3, ordered1_eq hb hq, tq]
  unfold badO at hp
  cases hd : decide (gt q.Limits (gt o k).toNat < gt p.Limits (gt o k).toNat) <;> cases hf : (fedB b q (gt o k)).2 <;> cases hu : (o.take k).any (fulB b q) <;> cases hv : (o.take k).any (havB b q) <;> rw [hd, hf, hu, hv] at hp <;> simp [ordered1_eq hb hq, c2, c3, hf, hu, hv, tq] at hp ⊢) (by
  unfold shed_ordered_L1
  simp only [tq, nlt_len, Bool.false_eq_true, if_false]) (by omega)
 have h1' : loopO (shed_ordered_L1 p o) (0, b.Buses, b.Breakers, b.Sources, b.Consumers, b.Phase, b.Frequency, q.Closed, q.Sources, q.Limits, q.Broken) = _ := h1
 rw [h1']
 cases dB (∃ i, i < o.length ∧ badO b p q o i = true) <;> rfl
theorem delete1_own {x : Island} (hx : Sm x.Consumers) {l : List Int} (hl : l.length ≤ 1000) : slices_DeleteFunc_int_int_v1 l x = some (l.filter fun c => decide (c ∈ x.Consumers)) := by
 have e1 : shed_Check_1 = shed_relief__shed_1 := rfl
 have e2 : slices_IndexFunc_int_int_flat_v1_L1 = slices_IndexFunc_int_int_flat_L1 := rfl
 have e3 : slices_DeleteFunc_int_int_v1_L1 = slices_DeleteFunc_int_int_L1 := rfl
 rw [← delete_own hx hl]
 unfold slices_DeleteFunc_int_int_v1 slices_DeleteFunc_int_int slices_IndexFunc_int_int_flat_v1 slices_IndexFunc_int_int_flat
 rw [e2, e3]
def ChkOk (b : Board) (c q : Power) : Prop := (Les c q ∧ ∀ k : Nat, k < b.Buses.toNat → loadI q (ofB b q (k : Int)).1 ≤ rateI b (ofB b q (k : Int)).1) ∧ ∀ x ∈ isl b c, ∀ i, i < (ownL b x).length → badO b c q (ownL b x) i = false
theorem check18_eq (hb : SmB b) (hp : SmP p) (hq : SmP q) (h : stt b p = 0) (h' : stt b q = 0) : shed_Check b p q = some (dB (ChkOk b (clrP b p) q)) := by
 obtain ⟨⟨hl, hg⟩, _⟩ := stt_zero.1 h
 have hbus := hl.bus
 have hcon := hl.con
 have hchk : chk b = 0 := chk_zero.2 ⟨hl, hg⟩
 have hc := sm_clrP (b := b) hp
 have hs := stt_clrP h
 obtain ⟨s1, s2, s3, s4, s5, s6⟩ := brk_lens hs
 obtain ⟨t1, t2, t3, t4, t5, t6⟩ := brk_lens h'
 have hce : (⟨(clrP b p).Closed, (clrP b p).Sources, (clrP b p).Limits, (clrP b p).Broken⟩ : Power) = clrP b p := rfl
 unfold shed_Check
 simp only [clear_eq hb hp h, Option.bind_some, show ((0 : Int) != 0) = false from rfl, Bool.false_eq_true, if_false, state_eq hb hq, h', hce, lesser_eq hc hq (by omega) (by omega)]
 generalize hcc : clrP b p = c at *
 by_cases g1 : Les c q
 case neg =>
  rw [dB_F g1, dB_F fun hh => g1 hh.1.1]
  simp only [Bool.not_false, if_true]
 rw [dB_T g1]
 simp only [Bool.not_true, Bool.false_eq_true, if_false]
 have e1 := loop_anyB (step := shed_Check_L1 b q) (fun k => (k : Int)) b.Buses.toNat (fun k => rateI b (ofB b q (k : Int)).1 < loadI q (ofB b q (k : Int)).1) (r := .inr false) (e := .inl ())
  (fun k hk hn => by
   unfold shed_Check_L1
   rw [dT (by omega), over_eq hb hq, dF hn, W_succ (by omega)]
   simp only [if_true, Option.bind_some, Bool.false_eq_true, if_false])
  (fun k hk hp => by
   unfold shed_Check_L1
   rw [dT (by omega), over_eq hb hq, dT hp]
   simp only [if_true, Option.bind_some])
  (by
   unfold shed_Check_L1
   rw [dF (by omega)]
   simp only [Bool.false_eq_true, if_false]) (by omega)
 have e1' : loopO (shed_Check_L1 b q) 0 = _ := e1
 rw [e1']
 by_cases g2 : ∃ k, k < b.Buses.toNat ∧ rateI b (ofB b q (k : Int)).1 < loadI q (ofB b q (k : Int)).1
 ·rw [dB_T g2]
  obtain ⟨k, hk, g⟩ := g2
  rw [dB_F fun hh => by have := hh.1.2 k hk; omega]
  rfl
 rw [dB_F g2]
 have k2 : ∀ k : Nat, k < b.Buses.toNat → loadI q (ofB b q (k : Int)).1 ≤ rateI b (ofB b q (k : Int)).1 := fun k hk => by
  apply Classical.byContradiction
  intro hn
  exact g2 ⟨k, hk, by omega⟩
 simp only [cond_false, Option.bind_some, Sum.elim_inl, order_eq hb hchk, islands_eq hb hc hs]
 have hil := isl_len (b := b) (p := c)
 have e2 := loop_anyB (step := shed_Check_L2 b q ((0 : Int), c.Closed, c.Sources, c.Limits, c.Broken, clrA b p) (ordL b) (isl b c)) (fun k => (k : Int)) (isl b c).length (fun k => ∃ i, i < (ownL b (gt (isl b c) k)).length ∧ badO b c q (ownL b (gt (isl b c) k)) i = true) (r := .inr false) (e := .inl ())
  (fun k hk hn => by
   have hx := gt_mem hk
   obtain ⟨p1, _, p3, _⟩ := isl_parts hg.1 hx
   obtain ⟨_, o1, o2⟩ := own_bd hs hx
   have hce' : (⟨c.Closed, c.Sources, c.Limits, c.Broken⟩ : Power) = c := rfl
   unfold shed_Check_L2
   simp only [lt_len hk, if_true, idx_gt hk, Option.bind_some, iclone_eq (l := ordL b) (by rw [ord_len]; omega), delete1_own (x := gt (isl b c) k) (by unfold Sm; omega) (l := ordL b) (by rw [ord_len]; omega), hce']
   rw [show (ordL b).filter (fun d => decide (d ∈ (gt (isl b c) k).Consumers)) = ownL b (gt (isl b c) k) from rfl, ordered_eq hb hq (by omega) (by omega) (by omega) o1, dB_F hn, W_succ (by omega)]
   rfl)
  (fun k hk hn => by
   have hx := gt_mem hk
   obtain ⟨p1, _, p3, _⟩ := isl_parts hg.1 hx
   obtain ⟨_, o1, o2⟩ := own_bd hs hx
   have hce' : (⟨c.Closed, c.Sources, c.Limits, c.Broken⟩ : Power) = c := rfl
   unfold shed_Check_L2
   simp only [lt_len hk, if_true, idx_gt hk, Option.bind_some, iclone_eq (l := ordL b) (by rw [ord_len]; omega), delete1_own (x := gt (isl b c) k) (by unfold Sm; omega) (l := ordL b) (by rw [ord_len]; omega), hce']
   rw [show (ordL b).filter (fun d => decide (d ∈ (gt (isl b c) k).Consumers)) = ownL b (gt (isl b c) k) from rfl, ordered_eq hb hq (by omega) (by omega) (by omega) o1, dB_T hn]
   rfl)
  (by
   unfold shed_Check_L2
   simp only [nlt_len, Bool.false_eq_true, if_false]) (by omega)
 have e2' : loopO (shed_Check_L2 b q ((0 : Int), c.Closed, c.Sources, c.Limits, c.Broken, clrA b p) (ordL b) (isl b c)) 0 = _ := e2
 rw [e2']
 by_cases g3 : ∃ k, k < (isl b c).length ∧ ∃ i, i < (ownL b (gt (isl b c) k)).length ∧ badO b c q (ownL b (gt (isl b c) k)) i = true
 ·rw [dB_T g3]
  obtain ⟨k, hk, i, hi, g⟩ := g3
  rw [dB_F fun hh => by have := hh.2 _ (gt_mem hk) i hi; rw [g] at this; cases this]
  rfl
 ·rw [dB_F g3, dB_T ⟨⟨g1, k2⟩, fun x hx i hi => by
   obtain ⟨k, hk, rfl⟩ := mem_gt hx
   cases hbd : badO b c q (ownL b (gt (isl b c) k)) i with
   | false => rfl
   | true => exact (g3 ⟨k, hk, i, hi, hbd⟩).elim⟩]
  rfl
theorem check18_bad (hb : SmB b) (hp : SmP p) (hq : SmP q) (h : ¬ (stt b p = 0 ∧ stt b q = 0)) : shed_Check b p q = some false := by
 unfold shed_Check
 by_cases h1 : stt b p = 0
 ·have h2 : stt b q ≠ 0 := fun h2 => h ⟨h1, h2⟩
  have : (stt b q != 0) = true := by simpa using h2
  simp only [clear_eq hb hp h1, Option.bind_some, show ((0 : Int) != 0) = false from rfl, Bool.false_eq_true, if_false, state_eq hb hq, this, if_true]
 ·have : (stt b p != 0) = true := by simpa using h1
  simp only [clear_bad hb hp h1, Option.bind_some, this, if_true]
end
end Rx
namespace Rx
section
variable {b : Board} {p q : Power}
noncomputable def basS (b : Board) (p : Power) (c : Int) : Bool := (fedB b p c).2 && (liv b p (fedB b p c).1 && (!brk p 4 c && !decide (gt p.Limits c.toNat < (gt b.Consumers c.toNat).Least)))
noncomputable def srv (b : Board) (p : Power) : Nat → Int → Bool
 | 0, _ => false
 | n + 1, c => basS b p c && (gt b.Consumers c.toNat).Needs.all (srv b p n)
theorem needs_bd (hg : BGood b) {c : Int} (hc : 0 ≤ c ∧ c < (b.Consumers.length : Int)) : (gt b.Consumers c.toNat).Needs.length ≤ 4 ∧ ∀ d ∈ (gt b.Consumers c.toNat).Needs, 0 ≤ d ∧ d < c := by
 have h := hg.2.2.2.2 c.toNat (by omega)
 refine ⟨h.2.2.2.2.2, fun d hd => ?_⟩
 obtain ⟨i, hi, rfl⟩ := mem_gt hd
 have := (h.1 i hi).1
 omega
theorem find_all {P : Int → Bool} {l : List Int} : l.all P = match (List.range l.length).find? (fun k => !P (gt l k)) with
  | some _ => false
  | none => true := by
 cases hf : (List.range l.length).find? (fun k => !P (gt l k)) with
 | some k =>
  have hk := List.mem_range.1 (List.mem_of_find?_eq_some hf)
  have hp := List.find?_some hf
  refine List.all_eq_false.2 ⟨_, gt_mem hk, ?_⟩
  simpa using hp
 | none =>
  refine List.all_eq_true.2 fun c hc => ?_
  obtain ⟨k, hk, rfl⟩ := mem_gt hc
  have := List.find?_eq_none.1 hf k (List.mem_range.2 hk)
  simpa using this
theorem served_run (hb : SmB b) (hp : SmP p) (h : stt b p = 0) : ∀ (n : Nat) (c : Int), 0 ≤ c → c < (b.Consumers.length : Int) → c < (n : Int) → shed_Served_R n b p c = some (srv b p n c)
 | 0, c, h0, h1, h2 => by omega
 | n + 1, c, h0, h1, h2 => by
  obtain ⟨⟨hl, hg⟩, ⟨s1, s2, s3⟩, _⟩ := stt_zero.1 h
  obtain ⟨n1, n2⟩ := needs_bd hg ⟨h0, h1⟩
  have ih := served_run hb hp h n
  show shed_Served_S (shed_Served_R n) b p c = _
  unfold shed_Served_S srv basS
  rw [fedB_eq hb hp]
  simp only [Option.bind_some]
  cases hf : (fedB b p c).2 with
  | false => simp only [Bool.not_false, if_true, Option.bind_some, Bool.false_and]
  | true =>
   simp only [Bool.not_true, Bool.false_eq_true, if_false, liv_eq hb hp, Option.bind_some, Bool.true_and]
   cases hv : liv b p (fedB b p c).1 with
   | false => simp only [Bool.not_false, if_true, Option.bind_some, Bool.false_and]
   | true =>
    simp only [Bool.not_true, Bool.false_eq_true, if_false, brk_has hp, Option.bind_some, Bool.true_and]
    cases hk : brk p 4 c with
    | true => simp only [if_true, Option.bind_some, Bool.not_true, Bool.false_and]
    | false =>
     simp only [Bool.false_eq_true, if_false, Bool.not_false, Bool.true_and]
     rw [idx_gtZ (l := p.Limits) h0 (by omega), idx_gtZ (l := b.Consumers) h0 h1]
     simp only [Option.bind_some]
     cases hle : decide (gt p.Limits c.toNat < (gt b.Consumers c.toNat).Least) with
     | true => simp only [if_true, Bool.not_true, Bool.false_and]
     | false =>
      simp only [Bool.false_eq_true, if_false, Bool.not_false, Bool.true_and]
      generalize (gt b.Consumers c.toNat).Needs = l at n1 n2 ⊢
      unfold slices_ContainsFunc_int_int_flat_v4 slices_IndexFunc_int_int_flat_v8
      have hl1 := loop_find (step := slices_IndexFunc_int_int_flat_v8_L1 (shed_Served_R n) l b p) (fun k => (k : Int)) l.length (fun k => !srv b p n (gt l k)) (R := fun k => .inr (k : Int)) (e := .inl ()) (fun k hk hp => by
       have hd := n2 _ (gt_mem hk)
       unfold slices_IndexFunc_int_int_flat_v8_L1 shed_Served_1
       simp only [lt_len hk, if_true, idx_gt hk, Option.bind_some, ih (gt l k) hd.1 (by omega) (by omega), hp, Bool.false_eq_true, if_false]
       rw [W_succ (by omega)]) (fun k hk hp => by
       have hd := n2 _ (gt_mem hk)
       unfold slices_IndexFunc_int_int_flat_v8_L1 shed_Served_1
       simp only [lt_len hk, if_true, idx_gt hk, Option.bind_some, ih (gt l k) hd.1 (by omega) (by omega), hp]) (by
       unfold slices_IndexFunc_int_int_flat_v8_L1
       simp only [nlt_len, Bool.false_eq_true, if_false]) (by omega)
      have hl1' : loopO (slices_IndexFunc_int_int_flat_v8_L1 (shed_Served_R n) l b p) 0 = _ := hl1
      rw [hl1', find_all]
      cases (List.range l.length).find? (fun k => !srv b p n (gt l k)) with
      | none => rfl
      | some k =>
       simp only [Option.bind_some, Sum.elim_inr]
       rw [dT (by omega)]
       rfl
theorem served_eq (hb : SmB b) (hp : SmP p) (h : stt b p = 0) {c : Int} (hc : 0 ≤ c ∧ c < (b.Consumers.length : Int)) : shed_Served b p c = some (srv b p 64 c) := by
 have hcon := (stt_zero.1 h).1.1.con
 exact served_run hb hp h 64 c hc.1 hc.2 (by omega)
theorem led_found {kind j : Int} (hf : (led b p kind j).2 = true) : ∃ k, k < b.Breakers.length ∧ ledAt b p kind j k = true ∧ (led b p kind j).1 = (gt b.Breakers k).A := by
 unfold led at hf ⊢
 cases hfi : (List.range b.Breakers.length).find? (ledAt b p kind j) with
 | none => rw [hfi] at hf; simp at hf
 | some k => exact ⟨k, List.mem_range.1 (List.mem_of_find?_eq_some hfi), List.find?_some hfi, rfl⟩
theorem ledAt_iff {kind j : Int} {k : Nat} : ledAt b p kind j k = true ↔ (gt b.Breakers k).Kind = kind ∧ (gt b.Breakers k).B = j ∧ gt p.Closed k = true := by
 unfold ledAt
 simp only [Bool.and_eq_true, beq_iff_eq, and_assoc]
end
end Rx
namespace Rx
section
variable {b : Board} {p q : Power}
theorem sorted_uniq {R : Int → Int → Prop} (ha : ∀ c d, R c d → R d c → False) : ∀ {l m : List Int}, l.Pairwise R → m.Pairwise R → (∀ c, c ∈ l ↔ c ∈ m) → l = m
 | [], [], _, _, _ => rfl
 | [], y :: ys, _, _, h => by have := (h y).2 (by simp); cases this
 | x :: xs, [], _, _, h => by have := (h x).1 (by simp); cases this
 | x :: xs, y :: ys, hl, hm, h => by
  have hl' := List.pairwise_cons.1 hl
  have hm' := List.pairwise_cons.1 hm
  have exy : x = y := by
   apply Classical.byContradiction
   intro hne
   have h1 : x ∈ ys := by
    rcases List.mem_cons.1 ((h x).1 (by simp)) with e | e
    ·exact (hne e).elim
    ·exact e
   have h2 : y ∈ xs := by
    rcases List.mem_cons.1 ((h y).2 (by simp)) with e | e
    ·exact (hne e.symm).elim
    ·exact e
   exact ha _ _ (hl'.1 y h2) (hm'.1 x h1)
  subst exy
  rw [sorted_uniq ha hl'.2 hm'.2 fun c => ?_]
  constructor
  ·intro hc
   rcases List.mem_cons.1 ((h c).1 (by simp [hc])) with e | e
   ·subst e; exact (ha _ _ (hl'.1 c hc) (hl'.1 c hc)).elim
   ·exact e
  ·intro hc
   rcases List.mem_cons.1 ((h c).2 (by simp [hc])) with e | e
   ·subst e; exact (ha _ _ (hm'.1 c hc) (hm'.1 c hc)).elim
   ·exact e
def prefR (b : Board) (k n : Nat) : List Int := rangeF (fun i => (gt b.Consumers i).Preference == (k : Int)) n
def prefU (b : Board) : Nat → List Int
 | 0 => []
 | k + 1 => prefU b k ++ prefR b k b.Consumers.length
theorem prefU_len (k : Nat) : (prefU b k).length ≤ k * b.Consumers.length := by
 induction k with
 | zero => exact Nat.zero_le _
 | succ k ih =>
  have := rangeF_len (fun i => (gt b.Consumers i).Preference == (k : Int)) b.Consumers.length
  rw [show prefU b (k + 1) = prefU b k ++ prefR b k b.Consumers.length from rfl, List.length_append, Nat.succ_mul]
  unfold prefR
  omega
theorem mem_prefU {k : Nat} {c : Int} : c ∈ prefU b k ↔ (0 ≤ c ∧ c < (b.Consumers.length : Int)) ∧ 0 ≤ prf b c ∧ prf b c < (k : Int) := by
 induction k with
 | zero =>
  constructor
  ·intro h; cases h
  ·intro h; omega
 | succ k ih =>
  rw [show prefU b (k + 1) = prefU b k ++ prefR b k b.Consumers.length from rfl, List.mem_append, ih]
  unfold prefR
  rw [mem_rangeF]
  constructor
  ·rintro (h | ⟨i, hi, hp, rfl⟩)
   ·omega
   ·have hp : (gt b.Consumers i).Preference = (k : Int) := by simpa using hp
    unfold prf
    rw [Int.toNat_natCast, hp]
    omega
  ·rintro ⟨⟨h0, h1⟩, h2, h3⟩
   by_cases e : prf b c < (k : Int)
   ·exact .inl ⟨⟨h0, h1⟩, h2, e⟩
   ·refine .inr ⟨c.toNat, by omega, ?_, by omega⟩
    unfold prf at h3 e
    simp only [beq_iff_eq]
    omega
theorem rangeF_pw (P : Nat → Bool) (n : Nat) : (rangeF P n).Pairwise (fun x y => x < y) := by
 unfold rangeF
 refine List.Pairwise.map _ (R := fun a b => a < b) (fun a b h => by simpa using h) ?_
 exact (List.pairwise_lt_range).filter _
theorem prefU_pw (k : Nat) : (prefU b k).Pairwise (bef b) := by
 induction k with
 | zero => exact .nil
 | succ k ih =>
  rw [show prefU b (k + 1) = prefU b k ++ prefR b k b.Consumers.length from rfl, List.pairwise_append]
  have hp : ∀ c ∈ prefR b k b.Consumers.length, prf b c = (k : Int) := fun c hc => by
   obtain ⟨i, hi, hp, rfl⟩ := mem_rangeF.1 hc
   have hp : (gt b.Consumers i).Preference = (k : Int) := by simpa using hp
   unfold prf
   rw [Int.toNat_natCast, hp]
  refine ⟨ih, ?_, fun c hc d hd => ?_⟩
  ·have h1 : (prefR b k b.Consumers.length).Pairwise (fun x y => x < y) := rangeF_pw _ _
   refine h1.imp_of_mem fun hc hd hlt => ?_
   exact .inr ⟨by rw [hp _ hc, hp _ hd], hlt⟩
  ·have h1 := (mem_prefU.1 hc).2
   have h2 := hp d hd
   exact .inl (by omega)
theorem prefU_ord (h : chk b = 0) : prefU b 16 = ordL b := by
 refine sorted_uniq (R := bef b) (fun _ _ => bef_asymm) (prefU_pw 16) (ordL_spec b).1 fun c => ?_
 rw [mem_prefU, ord_mem]
 constructor
 ·exact fun h => h.1
 ·intro h1
  have h2 := (chk_zero.1 h).2.2.2.2.2 c.toNat (by omega)
  have h3 := h2.2.2.2.1
  exact ⟨h1, by unfold prf; omega, by unfold prf; omega⟩
theorem reforder_eq (hb : SmB b) (h : chk b = 0) : dynposref18_Order b = some (ordL b) := by
 have hcon := (chk_zero.1 h).1.con
 have inner : ∀ (k : Nat) (o : List Int), k ≤ 15 → o.length ≤ 1000 → loopO (dynposref18_Order_L2 b ((k : Int), o)) (0, o) = some (o ++ prefR b k b.Consumers.length) := fun k o hk ho => by
  have hrun := loop_run (step := dynposref18_Order_L2 b ((k : Int), o)) (r := o ++ prefR b k b.Consumers.length) (fun i => ((i : Int), o ++ prefR b k i)) b.Consumers.length (fun i hi => by
   have hl := rangeF_len (fun i => (gt b.Consumers i).Preference == (k : Int)) i
   have hs : prefR b k (i + 1) = prefR b k i ++ if ((gt b.Consumers i).Preference == (k : Int)) = true then [(i : Int)] else [] := rangeF_succ _ _
   unfold dynposref18_Order_L2
   simp only [lt_len hi, if_true, idx_gt hi, Option.bind_some]
   rw [W_succ (by omega), hs]
   have hl' : (prefR b k i).length ≤ i := hl
   generalize prefR b k i = R at hl' ⊢
   cases (gt b.Consumers i).Preference == (k : Int) with
   | false => simp
   | true =>
    simp only [if_true]
    rw [app_sm (by simp; omega)]
    simp) (by
   unfold dynposref18_Order_L2
   simp only [nlt_len, Bool.false_eq_true, if_false]) (by omega)
  have hrun' : loopO (dynposref18_Order_L2 b ((k : Int), o)) (0, o ++ []) = _ := hrun
  rw [List.append_nil] at hrun'
  exact hrun'
 unfold dynposref18_Order
 have e0 : dynposref15_Check b = some 0 := by rw [refcheck_eq hb, h]
 have hrun := loop_run (step := dynposref18_Order_L1 b) (r := prefU b 16) (fun k => ((k : Int), prefU b k)) 16 (fun k hk => by
  have hl := prefU_len (b := b) k
  have hl2 : k * b.Consumers.length ≤ 16 * 16 := Nat.mul_le_mul (by omega) hcon
  unfold dynposref18_Order_L1
  simp only
  rw [dT (by omega), inner k _ (by omega) (by omega), W_succ (by omega)]
  rfl) (by
  unfold dynposref18_Order_L1
  simp only
  rw [dF (by omega)]
  rfl) (by omega)
 have hrun' : loopO (dynposref18_Order_L1 b) (0, []) = _ := hrun
 rw [e0]
 simp only [Option.bind_some, show ((0 : Int) != 0) = false from rfl, Bool.false_eq_true, if_false, hrun', prefU_ord h]
theorem reforder_bad (hb : SmB b) (h : chk b ≠ 0) : dynposref18_Order b = some [] := by
 unfold dynposref18_Order
 have : (chk b != 0) = true := by simpa using h
 rw [refcheck_eq hb]
 simp only [Option.bind_some, this, if_true]
theorem led_none {kind : Int} (hk : kind = 3) (hb : BrkOk b) {j : Int} (hj : ¬ (0 ≤ j ∧ j < (b.Consumers.length : Int))) : led b p kind j = (0, false) := by
 subst hk
 cases hl : (led b p 3 j).2 with
 | true =>
  obtain ⟨k, hk, ha, _⟩ := led_found hl
  have h1 := ledAt_iff.1 ha
  have := (hb.1 k hk).2
  rcases this with c | c | c <;> omega
 | false =>
  unfold led at hl ⊢
  cases hf : (List.range b.Breakers.length).find? (ledAt b p 3 j) with
  | none => rfl
  | some k => rw [hf] at hl; cases hl
theorem reffed_any (hb : SmB b) (hp : SmP p) (j : Int) : dynposref15_Fed b p j = some (fedB b p j) := by
 by_cases hj : 0 ≤ j ∧ j < b.Consumers.length
 ·exact reffed_eq hb hp hj
 unfold dynposref15_Fed fedB
 rw [refstate_eq hb hp]
 by_cases h : stt b p = 0
 ·have hbk := ((stt_zero.1 h).1.2).1
  rw [if_pos h, h, led_none rfl hbk hj]
  simp only [Option.bind_some, bne_self_eq_false, Bool.false_eq_true, if_false]
  by_cases h1 : j < 0
  ·simp [h1]
  ·have : ¬ j < (b.Consumers.length : Int) := fun h2 => hj ⟨by omega, h2⟩
   have h2 : j ≥ len b.Consumers := by unfold len; omega
   simp [h1, h2]
 ·rw [if_neg h]
  have : (stt b p != 0) = true := by simpa using h
  simp only [Option.bind_some, this, if_true]
theorem refserved_run (hb : SmB b) (hp : SmP p) (h : stt b p = 0) : ∀ (n : Nat) (c : Int), 0 ≤ c → c < (b.Consumers.length : Int) → c < (n : Int) → dynposref18_Served_R n b p c = some (srv b p n c)
 | 0, c, h0, h1, h2 => by omega
 | n + 1, c, h0, h1, h2 => by
  obtain ⟨⟨hl, hg⟩, ⟨s1, s2, s3⟩, _⟩ := stt_zero.1 h
  obtain ⟨n1, n2⟩ := needs_bd hg ⟨h0, h1⟩
  have ih := refserved_run hb hp h n
  show dynposref18_Served_S (dynposref18_Served_R n) b p c = _
  unfold dynposref18_Served_S srv basS
  rw [reffed_any hb hp]
  simp only [Option.bind_some]
  cases hf : (fedB b p c).2 with
  | false => simp only [Bool.not_false, if_true, Option.bind_some, Bool.false_and]
  | true =>
   simp only [Bool.not_true, Bool.false_eq_true, if_false, refliv_eq hb hp, Option.bind_some, Bool.true_and]
   cases hv : liv b p (fedB b p c).1 with
   | false => simp only [Bool.not_false, if_true, Option.bind_some, Bool.false_and]
   | true =>
    simp only [Bool.not_true, Bool.false_eq_true, if_false, refbrk_has hp, Option.bind_some, Bool.true_and]
    cases hk : brk p 4 c with
    | true => simp only [if_true, Option.bind_some, Bool.not_true, Bool.false_and]
    | false =>
     simp only [Bool.false_eq_true, if_false, Bool.not_false, Bool.true_and]
     rw [idx_gtZ (l := p.Limits) h0 (by omega), idx_gtZ (l := b.Consumers) h0 h1]
     simp only [Option.bind_some]
     cases hle : decide (gt p.Limits c.toNat < (gt b.Consumers c.toNat).Least) with
     | true => simp only [if_true, Bool.not_true, Bool.false_and]
     | false =>
      simp only [Bool.false_eq_true, if_false, Bool.not_false, Bool.true_and]
      generalize gt b.Consumers c.toNat = X at n1 n2 ⊢
      have hl1 := loop_find (step := dynposref18_Served_L1 (dynposref18_Served_R n) b p X) (fun k => (k : Int)) X.Needs.length (fun k => !srv b p n (gt X.Needs k)) (R := fun k => .inr false) (e := .inl ()) (fun k hk hp => by
       have hd := n2 _ (gt_mem hk)
       unfold dynposref18_Served_L1
       simp only [lt_len hk, if_true, idx_gt hk, Option.bind_some, ih (gt X.Needs k) hd.1 (by omega) (by omega), hp, Bool.false_eq_true, if_false]
       rw [W_succ (by omega)]) (fun k hk hp => by
       have hd := n2 _ (gt_mem hk)
       unfold dynposref18_Served_L1
       simp only [lt_len hk, if_true, idx_gt hk, Option.bind_some, ih (gt X.Needs k) hd.1 (by omega) (by omega), hp]) (by
       unfold dynposref18_Served_L1
       simp only [nlt_len, Bool.false_eq_true, if_false]) (by omega)
      have hl1' : loopO (dynposref18_Served_L1 (dynposref18_Served_R n) b p X) 0 = _ := hl1
      rw [hl1', find_all]
      cases (List.range X.Needs.length).find? (fun k => !srv b p n (gt X.Needs k)) with
      | none => rfl
      | some k => rfl
theorem served_same (hb : SmB b) (hp : SmP p) (c : Int) : ∃ v, shed_Served b p c = some v ∧ dynposref18_Served b p c = some v := by
 by_cases h : stt b p = 0 ∧ 0 ≤ c ∧ c < (b.Consumers.length : Int)
 ·have hcon := (stt_zero.1 h.1).1.1.con
  exact ⟨_, served_eq hb hp h.1 h.2, refserved_run hb hp h.1 64 c h.2.1 h.2.2 (by omega)⟩
 ·have hf : (fedB b p c).2 = false := by
   unfold fedB
   by_cases h1 : stt b p = 0
   ·rw [if_pos h1, led_none rfl (stt_zero.1 h1).1.2.1 fun h2 => h ⟨h1, h2⟩]
   ·rw [if_neg h1]
  refine ⟨false, ?_, ?_⟩
  ·show shed_Served_S (shed_Served_R 63) b p c = _
   unfold shed_Served_S
   simp only [fedB_eq hb hp, Option.bind_some, hf, Bool.not_false, if_true]
  ·show dynposref18_Served_S (dynposref18_Served_R 63) b p c = _
   unfold dynposref18_Served_S
   simp only [reffed_any hb hp, Option.bind_some, hf, Bool.not_false, if_true]
end
end Rx
namespace Rx
section
variable {b : Board} {p q : Power} {L T : List Int} {x : Island}
def ownK (b : Board) (x : Island) (i : Nat) : List Int := ((ordL b).take i).filter fun c => decide (c ∈ x.Consumers)
theorem ownK_all : ownK b x (ordL b).length = ownL b x := by
 unfold ownK ownL
 rw [List.take_length]
theorem ownK_succ {i : Nat} (hi : i < (ordL b).length) : ownK b x (i + 1) = ownK b x i ++ if gt (ordL b) i ∈ x.Consumers then [gt (ordL b) i] else [] := by
 unfold ownK
 rw [take_gt hi, List.filter_append]
 by_cases h : gt (ordL b) i ∈ x.Consumers <;> simp [h]
theorem ownK_mem {i : Nat} {c : Int} (h : c ∈ ownK b x i) : c ∈ x.Consumers := by
 unfold ownK at h
 have := (List.mem_filter.1 h).2
 simpa using this
theorem lowK_ok (h : stt b p = 0) (hx : x ∈ isl b p) (hL : LimOk p L) (T : List Int) (a : List Act) (i : Nat) : LimOk p (lowL b x T (ownK b x i) (L, a)).1 ∧ (lowL b x T (ownK b x i) (L, a)).2.length ≤ a.length + i := by
 have hr := row_own h hx
 obtain ⟨h1, h2⟩ := lowL_ok (x := x) (T := T) (s := (L, a)) h (o := ownK b x i) hL fun c hc => hr.bd c (ownK_mem hc)
 refine ⟨h1, Nat.le_trans h2 ?_⟩
 have : (ownK b x i).length ≤ ((ordL b).take i).length := List.length_filter_le _ _
 rw [List.length_take] at this
 simp only
 omega
theorem refshed_L2 (h : stt b p = 0) (hx : x ∈ isl b p) (hL : LimOk p L) (hT : ∀ c ∈ x.Consumers, c ∉ T) {a : List Act} (ha : a.length ≤ 10000000) :
  loopO (dynposref18_Shed_L2 b (ordL b) x) (sumT x T L - rateI b x, 0, a, L) = some (sumT x T (lowL b x T (ownL b x) (L, a)).1 - rateI b x, (lowL b x T (ownL b x) (L, a)).2, (lowL b x T (ownL b x) (L, a)).1) := by
 obtain ⟨⟨hl, hg⟩, _⟩ := stt_zero.1 h
 obtain ⟨p1, _, p3, _⟩ := isl_parts hg.1 hx
 have hcon := hl.con
 have hol : (ordL b).length = b.Consumers.length := ord_len b
 have hr := row_own h hx
 have hrb := rateI_bd h hx
 obtain ⟨_, _, _, _, _, h6⟩ := brk_lens h
 have hrun := loop_run (step := dynposref18_Shed_L2 b (ordL b) x) (r := (sumT x T (lowL b x T (ownL b x) (L, a)).1 - rateI b x, (lowL b x T (ownL b x) (L, a)).2, (lowL b x T (ownL b x) (L, a)).1)) (fun i => (sumT x T (lowL b x T (ownK b x i) (L, a)).1 - rateI b x, (i : Int), (lowL b x T (ownK b x i) (L, a)).2, (lowL b x T (ownK b x i) (L, a)).1)) (ordL b).length (fun i hi => by
  obtain ⟨hk1, hk2⟩ := lowK_ok h hx hL T a i
  have hc : 0 ≤ gt (ordL b) i ∧ gt (ordL b) i < (b.Consumers.length : Int) := ord_mem.1 (gt_mem hi)
  have hs : lowL b x T (ownK b x (i + 1)) (L, a) = if gt (ordL b) i ∈ x.Consumers then lowS b x T (lowL b x T (ownK b x i) (L, a)) (gt (ordL b) i) else lowL b x T (ownK b x i) (L, a) := by
   rw [ownK_succ hi]
   by_cases hm : gt (ordL b) i ∈ x.Consumers
   ·rw [if_pos hm, if_pos hm, lowL_snoc]
   ·rw [if_neg hm, if_neg hm, List.append_nil]
  rw [hs]
  generalize lowL b x T (ownK b x i) (L, a) = s at hk1 hk2 ⊢
  obtain ⟨L1, a1⟩ := s
  simp only at hk1 hk2 ⊢
  have hlen := hk1.len
  have hsb : 0 ≤ sumT x T L1 ∧ sumT x T L1 ≤ 800000 := sumq_bd h hk1 hx T
  have hlb := limq_bd h hk1 (k := (gt (ordL b) i).toNat) (by omega)
  have hle := least_bd h (k := (gt (ordL b) i).toNat) (by omega)
  have hcut := cut_le (b := b) (x := x) (T := T) (L := L1) (c := gt (ordL b) i)
  unfold dynposref18_Shed_L2
  simp only [lt_len hi, if_true, idx_gt hi, Option.bind_some]
  rw [idx_gtZ (l := b.Consumers) hc.1 hc.2, W_succ (by omega)]
  simp only [Option.bind_some]
  by_cases hm : gt (ordL b) i ∈ x.Consumers
  ·rw [if_pos hm]
   by_cases hmu : sumT x T L1 - rateI b x ≤ 0
   ·have he : ¬ 0 < exc b x T L1 := fun he => by have := exc_pos.1 he; omega
    have hn : lowS b x T (L1, a1) (gt (ordL b) i) = (L1, a1) := by unfold lowS; rw [if_neg (by simp only; omega)]
    rw [hn, dT hmu]
    simp only [if_true, Option.bind_some]
   ·have hex : rateI b x < sumT x T L1 := by omega
    have hee := exc_eq hex
    rw [dF hmu]
    simp only [Bool.false_eq_true, if_false, refhas_eq x.Consumers _ (by omega), Option.bind_some, decide_eq_true hm, Bool.not_true]
    rw [idx_gtZ (l := L1) hc.1 (by omega)]
    simp only [Option.bind_some]
    by_cases hll : gt L1 (gt (ordL b) i).toNat ≤ (gt b.Consumers (gt (ordL b) i).toNat).Least
    ·have hn : lowS b x T (L1, a1) (gt (ordL b) i) = (L1, a1) := by unfold lowS; rw [if_neg (by simp only; omega)]
     rw [hn, dT hll]
     simp only [if_true, Option.bind_some]
    ·rw [dF hll, W_sm (x := gt L1 (gt (ordL b) i).toNat - (gt b.Consumers (gt (ordL b) i).toNat).Least) (by omega) (by omega)]
     have ec : imin (sumT x T L1 - rateI b x) (gt L1 (gt (ordL b) i).toNat - (gt b.Consumers (gt (ordL b) i).toNat).Least) = cutL b x T L1 (gt (ordL b) i) := by
      unfold cutL
      rw [hee]
     have hpos : 0 < cutL b x T L1 (gt (ordL b) i) := by
      rw [← ec]
      unfold imin
      split <;> omega
     have hn : lowS b x T (L1, a1) (gt (ordL b) i) = (L1.set (gt (ordL b) i).toNat (gt L1 (gt (ordL b) i).toNat - cutL b x T L1 (gt (ordL b) i)), a1 ++ [⟨5, gt (ordL b) i, gt L1 (gt (ordL b) i).toNat - cutL b x T L1 (gt (ordL b) i)⟩]) := by unfold lowS; rw [if_pos hpos]
     have hS : sumT x T (L1.set (gt (ordL b) i).toNat (gt L1 (gt (ordL b) i).toNat - cutL b x T L1 (gt (ordL b) i))) = sumT x T L1 - cutL b x T L1 (gt (ordL b) i) := by
      unfold sumT
      rw [sumF_set hc.1 (by omega) (by unfold left; exact hr.nd.filter _) (fun d hd => (hr.bd d (left_sub hd).1).1) (left_mem hm (hT _ hm))]
      omega
     rw [hn, ec]
     simp only [Bool.false_eq_true, if_false]
     rw [W_sm (x := gt L1 (gt (ordL b) i).toNat - cutL b x T L1 (gt (ordL b) i)) (by omega) (by omega), W_sm (x := sumT x T L1 - rateI b x - cutL b x T L1 (gt (ordL b) i)) (by omega) (by omega), setO_gt hc.1 (by omega)]
     simp only [Option.bind_some]
     rw [idx_gtZ (l := L1.set (gt (ordL b) i).toNat _) hc.1 (by rw [List.length_set]; omega)]
     simp only [Option.bind_some]
     rw [gt_set (by omega), if_pos rfl, app_sm (by simp; omega), hS]
     simp only [Option.bind_some]
     rw [show sumT x T L1 - cutL b x T L1 (gt (ordL b) i) - rateI b x = sumT x T L1 - rateI b x - cutL b x T L1 (gt (ordL b) i) by omega]
  ·rw [if_neg hm]
   simp only [refhas_eq x.Consumers _ (by omega), Option.bind_some, decide_eq_false hm, Bool.not_false, if_true]
   by_cases hmu : sumT x T L1 - rateI b x ≤ 0
   ·rw [dT hmu]
    simp only [if_true, Option.bind_some]
   ·rw [dF hmu]
    simp only [Bool.false_eq_true, if_false, Option.bind_some, if_true]) (by
  unfold dynposref18_Shed_L2
  simp only [nlt_len, Bool.false_eq_true, if_false, ownK_all]) (by omega)
 exact hrun
theorem refopen_run {C : List Bool} {P : Nat → Bool} {a : List Act} (hC : C.length ≤ 1000) (ha : a.length ≤ 10000000) : loopO (dynposref18_Shed_L4 (rangeF P C.length)) (0, a, C) = some (a ++ (fnd C P).map actO, opn C P) := by
 have hbd : ∀ k ∈ rangeF P C.length, 0 ≤ k ∧ k < (C.length : Int) := fun k hk => by
  obtain ⟨i, hi, _, rfl⟩ := mem_rangeF.1 hk
  omega
 have hnd := rangeF_nodup P C.length
 have hlen := rangeF_len P C.length
 have e1 : ((rangeF P C.length).filter fun k => gt C k.toNat) = fnd C P := by
  unfold fnd
  rw [rangeF_filter]
  congr 1
  funext i
  rw [Int.toNat_natCast, Bool.and_comm]
 have e2 : (rangeF P C.length).foldl (fun c k => c.set k.toNat false) C = opn C P := by
  refine ext_gt (by rw [(opnAll C _ hbd 0).2, opn_len]) fun i hi => ?_
  rw [(opnAll C _ hbd 0).2] at hi
  rw [(opnAll C _ hbd i).1, opn_gt hi]
  congr 2
  by_cases hP : P i = true
  ·rw [hP]
   exact decide_eq_true (mem_rangeF.2 ⟨i, hi, hP, rfl⟩)
  ·rw [decide_eq_false fun hm => by
    obtain ⟨j, _, hj, e⟩ := mem_rangeF.1 hm
    have : i = j := by omega
    subst this
    exact hP hj]
   simpa using hP
 rw [← e1, ← e2]
 generalize rangeF P C.length = l at hbd hnd hlen ⊢
 have hrun := loop_run (step := dynposref18_Shed_L4 l) (r := (a ++ (l.filter fun k => gt C k.toNat).map actO, l.foldl (fun c k => c.set k.toNat false) C)) (fun j => ((j : Int), a ++ ((l.take j).filter fun k => gt C k.toNat).map actO, (l.take j).foldl (fun c k => c.set k.toNat false) C)) l.length (fun j hj => by
  have hk := hbd _ (gt_mem hj)
  have hbj : ∀ k ∈ l.take j, 0 ≤ k ∧ k < (C.length : Int) := fun k hm => hbd k (List.mem_of_mem_take hm)
  have hnot : gt l j ∉ l.take j := fun hm => by
   obtain ⟨i, hi, e⟩ := (mem_take_gt (by omega)).1 hm
   exact nodup_gt hnd (by omega) hj (by omega) e
  have hat := (opnAll C (l.take j) hbj (gt l j).toNat).1
  have hln := (opnAll C (l.take j) hbj 0).2
  rw [show (((gt l j).toNat : Nat) : Int) = gt l j by omega, decide_eq_false hnot] at hat
  have hfl : ((l.take j).filter fun k => gt C k.toNat).length ≤ j := by
   have := List.length_filter_le (fun k : Int => gt C k.toNat) (l.take j)
   rw [List.length_take] at this
   omega
  rw [take_gt hj, List.filter_append, List.foldl_append]
  simp only [List.foldl_cons, List.foldl_nil]
  generalize (l.take j).foldl (fun c k => c.set k.toNat false) C = D at hat hln ⊢
  generalize (l.take j).filter (fun k => gt C k.toNat) = F at hfl ⊢
  unfold dynposref18_Shed_L4
  simp only [lt_len hj, if_true, idx_gt hj, Option.bind_some]
  rw [idx_gtZ (l := D) hk.1 (by omega), W_succ (by omega)]
  simp only [Option.bind_some]
  cases hv : gt C (gt l j).toNat with
  | false =>
   rw [hv] at hat
   have hat' : gt D (gt l j).toNat = false := by simpa using hat
   have eD : D.set (gt l j).toNat false = D := by
    refine ext_gt (by simp) fun i hi => ?_
    rw [List.length_set] at hi
    rw [gt_set (by omega)]
    split
    ·rename_i e; rw [e, hat']
    ·rfl
   rw [hat', eD]
   simp [hv]
  | true =>
   rw [hv] at hat
   have hat' : gt D (gt l j).toNat = true := by simpa using hat
   rw [hat', setO_gt hk.1 (by omega)]
   simp only [if_true, Option.bind_some]
   rw [app_sm (by simp; omega)]
   simp [hv, actO]) (by
  unfold dynposref18_Shed_L4
  simp only [nlt_len, Bool.false_eq_true, if_false, List.take_length]) (by omega)
 simpa using hrun
theorem reffind3_eq (hb : SmB b) (h : chk b = 0) (c : Int) : dynposref15_Find b 3 c = some (rangeF (fun i => (gt b.Breakers i).Kind == 3 && (gt b.Breakers i).B == c) b.Breakers.length) := by
 unfold dynposref15_Find
 rw [refcheck_eq hb, h]
 simp only [Option.bind_some, bne_self_eq_false, Bool.false_eq_true, if_false, refof_eq hb.1]
 congr 2
 funext i
 unfold findP
 simp
theorem refshed_L3 (hb : SmB b) (h : stt b p = 0) (hx : x ∈ isl b p) (hL : LimOk p L) (hT : ∀ c ∈ x.Consumers, c ∉ T) {a a0 : List Act} {e0 : Int} (ha : a.length ≤ 500000) :
  loopO (dynposref18_Shed_L3 b (ordL b) x (e0, a0, L)) (sumT x T L - rateI b x, 0, a, (stq b p L T).Closed) = some ((tripL b p x L (ownL b x) (T, a)).2, (stq b p L (tripL b p x L (ownL b x) (T, a)).1).Closed) := by
 obtain ⟨⟨hl, hg⟩, _⟩ := stt_zero.1 h
 have hchk : chk b = 0 := chk_zero.2 ⟨hl, hg⟩
 obtain ⟨p1, _, p3, _⟩ := isl_parts hg.1 hx
 have hcon := hl.con
 have hol : (ordL b).length = b.Consumers.length := ord_len b
 have hr := row_own h hx
 have hrb := rateI_bd h hx
 obtain ⟨s1, _, s3, _, _, h6⟩ := brk_lens h
 have hlen := hL.len
 have hrun := loop_run (step := dynposref18_Shed_L3 b (ordL b) x (e0, a0, L)) (r := ((tripL b p x L (ownL b x) (T, a)).2, (stq b p L (tripL b p x L (ownL b x) (T, a)).1).Closed)) (fun i => (sumT x (tripL b p x L (ownK b x i) (T, a)).1 L - rateI b x, (i : Int), (tripL b p x L (ownK b x i) (T, a)).2, (stq b p L (tripL b p x L (ownK b x i) (T, a)).1).Closed)) (ordL b).length (fun i hi => by
  have hc : 0 ≤ gt (ordL b) i ∧ gt (ordL b) i < (b.Consumers.length : Int) := ord_mem.1 (gt_mem hi)
  have hKl : (ownK b x i).length ≤ i := by
   have : (ownK b x i).length ≤ ((ordL b).take i).length := List.length_filter_le _ _
   rw [List.length_take] at this
   omega
  have hal : (tripL b p x L (ownK b x i) (T, a)).2.length ≤ a.length + 1000 * (ownK b x i).length := tripL_len (by omega)
  have hTm : gt (ordL b) i ∈ x.Consumers → gt (ordL b) i ∉ (tripL b p x L (ownK b x i) (T, a)).1 := fun hm hin => by
   have hout : ∀ (o : List Int) (T : List Int) (a : List Act) (c : Int), c ∉ o → c ∈ (tripL b p x L o (T, a)).1 → c ∈ T := fun o => by
    induction o with
    | nil => exact fun T a c _ hh => hh
    | cons d o ih =>
     intro T a c hco hh
     have hne : c ≠ d := fun e => hco (by simp [e])
     have e : tripL b p x L (d :: o) (T, a) = tripL b p x L o (tripS b p x L (T, a) d) := rfl
     rw [e] at hh
     have := ih (tripS b p x L (T, a) d).1 (tripS b p x L (T, a) d).2 c (fun hm => hco (by simp [hm])) hh
     unfold tripS at this
     split at this
     ·simpa [hne] using this
     ·exact this
   refine hT _ hm (hout _ _ _ _ (fun hk => ?_) hin)
   unfold ownK at hk
   obtain ⟨j, hj, e⟩ := (mem_take_gt (by omega)).1 (List.mem_filter.1 hk).1
   exact nodup_gt (ord_nodup b) (by omega) hi (by omega) e
  have hs : tripL b p x L (ownK b x (i + 1)) (T, a) = if gt (ordL b) i ∈ x.Consumers then tripS b p x L (tripL b p x L (ownK b x i) (T, a)) (gt (ordL b) i) else tripL b p x L (ownK b x i) (T, a) := by
   rw [ownK_succ hi]
   by_cases hm : gt (ordL b) i ∈ x.Consumers
   ·rw [if_pos hm, if_pos hm, tripL_snoc]
   ·rw [if_neg hm, if_neg hm, List.append_nil]
  rw [hs]
  generalize tripL b p x L (ownK b x i) (T, a) = s at hal hTm ⊢
  obtain ⟨T1, a1⟩ := s
  simp only at hal hTm ⊢
  have hsb : 0 ≤ sumT x T1 L ∧ sumT x T1 L ≤ 800000 := sumq_bd h hL hx T1
  have hlb := limq_bd h hL (k := (gt (ordL b) i).toNat) (by omega)
  unfold dynposref18_Shed_L3
  simp only [lt_len hi, if_true, idx_gt hi, Option.bind_some]
  rw [W_succ (by omega)]
  by_cases hm : gt (ordL b) i ∈ x.Consumers
  ·rw [if_pos hm]
   by_cases hmu : sumT x T1 L - rateI b x ≤ 0
   ·have he : ¬ 0 < exc b x T1 L := fun he => by have := exc_pos.1 he; omega
    have hn : tripS b p x L (T1, a1) (gt (ordL b) i) = (T1, a1) := by unfold tripS; rw [if_neg fun hh => he hh.2]
    rw [hn, dT hmu]
    simp only [if_true, Option.bind_some]
   ·have hex : 0 < exc b x T1 L := exc_pos.2 (by omega)
    rw [dF hmu]
    simp only [Bool.false_eq_true, if_false, refhas_eq x.Consumers _ (by omega), Option.bind_some, decide_eq_true hm, Bool.not_true]
    rw [idx_gtZ (l := L) hc.1 (by omega)]
    simp only [Option.bind_some]
    by_cases hz : gt L (gt (ordL b) i).toNat = 0
    ·have hn : tripS b p x L (T1, a1) (gt (ordL b) i) = (T1, a1) := by unfold tripS; rw [if_neg fun hh => by omega]
     rw [hn, beqT hz]
     simp only [if_true, Option.bind_some]
    ·have hn : tripS b p x L (T1, a1) (gt (ordL b) i) = (T1 ++ [gt (ordL b) i], a1 ++ (fnd (stq b p L T1).Closed fun j => (gt b.Breakers j).Kind == 3 && (gt b.Breakers j).B == gt (ordL b) i).map actO) := by unfold tripS; rw [if_pos ⟨by omega, hex⟩]
     have hcl : (stq b p L T1).Closed.length = b.Breakers.length := by show (opn p.Closed _).length = _; rw [opn_len, s1]
     have ho := refopen_run (C := (stq b p L T1).Closed) (P := fun j => (gt b.Breakers j).Kind == 3 && (gt b.Breakers j).B == gt (ordL b) i) (a := a1) (by omega) (by omega)
     rw [hcl, opn_trip (by omega)] at ho
     rw [hn, beqF hz]
     simp only [Bool.false_eq_true, if_false, reffind3_eq hb hchk, Option.bind_some, ho]
     rw [W_sm (by omega) (by omega), sumT_trip hr.nd hm (hTm hm), show sumT x T1 L - gt L (gt (ordL b) i).toNat - rateI b x = sumT x T1 L - rateI b x - gt L (gt (ordL b) i).toNat by omega]
  ·rw [if_neg hm]
   simp only [refhas_eq x.Consumers _ (by omega), Option.bind_some, decide_eq_false hm, Bool.not_false, if_true]
   by_cases hmu : sumT x T1 L - rateI b x ≤ 0
   ·rw [dT hmu]
    simp only [if_true, Option.bind_some]
   ·rw [dF hmu]
    simp only [Bool.false_eq_true, if_false, Option.bind_some, if_true]) (by
  unfold dynposref18_Shed_L3
  simp only [nlt_len, Bool.false_eq_true, if_false, ownK_all]) (by omega)
 exact hrun
theorem refshed_L2z (h : stt b p = 0) {a : List Act} : loopO (dynposref18_Shed_L2 b (ordL b) x) (0, 0, a, L) = some (0, a, L) := by
 obtain ⟨⟨hl, hg⟩, _⟩ := stt_zero.1 h
 have hcon := hl.con
 have hol : (ordL b).length = b.Consumers.length := ord_len b
 refine loop_run (r := ((0 : Int), a, L)) (fun i => ((0 : Int), (i : Int), a, L)) (ordL b).length (fun i hi => ?_) ?_ (by omega)
 ·have hc : 0 ≤ gt (ordL b) i ∧ gt (ordL b) i < (b.Consumers.length : Int) := ord_mem.1 (gt_mem hi)
  unfold dynposref18_Shed_L2
  simp only [lt_len hi, if_true, idx_gt hi, Option.bind_some]
  rw [idx_gtZ (l := b.Consumers) hc.1 hc.2, W_succ (by omega)]
  rfl
 ·unfold dynposref18_Shed_L2
  simp only [nlt_len, Bool.false_eq_true, if_false]
theorem refshed_L3z (h : stt b p = 0) {a : List Act} {C : List Bool} {v : Int × List Act × List Int} : loopO (dynposref18_Shed_L3 b (ordL b) x v) (0, 0, a, C) = some (a, C) := by
 obtain ⟨⟨hl, hg⟩, _⟩ := stt_zero.1 h
 have hcon := hl.con
 have hol : (ordL b).length = b.Consumers.length := ord_len b
 refine loop_run (r := (a, C)) (fun i => ((0 : Int), (i : Int), a, C)) (ordL b).length (fun i hi => ?_) ?_ (by omega)
 ·unfold dynposref18_Shed_L3
  simp only [lt_len hi, if_true, idx_gt hi, Option.bind_some]
  rw [W_succ (by omega)]
  rfl
 ·unfold dynposref18_Shed_L3
  simp only [nlt_len, Bool.false_eq_true, if_false]
theorem refshed_eq (hb : SmB b) (hp : SmP p) (h : stt b p = 0) : dynposref18_Shed b p = some (0, (shdP b p).Closed, (shdP b p).Sources, (shdP b p).Limits, (shdP b p).Broken, (shAll b p).2.2) := by
 obtain ⟨⟨hl, hg⟩, _⟩ := stt_zero.1 h
 have hchk : chk b = 0 := chk_zero.2 ⟨hl, hg⟩
 have hil := isl_len (b := b) (p := p)
 have hbus := hl.bus
 unfold dynposref18_Shed
 have e : (stt b p != 0) = false := by rw [h]; rfl
 simp only [refstate_eq hb hp, Option.bind_some, e, Bool.false_eq_true, if_false, refcopy_eq hp, reforder_eq hb hchk, refislands_eq hb hp h]
 have hrun := loop_run (step := dynposref18_Shed_L1 b p (ordL b) (isl b p)) (r := ((shAll b p).2.2, (shdP b p).Closed, (shdP b p).Limits)) (fun k => ((k : Int), (shA b p ((isl b p).take k)).2.2, (stq b p (shA b p ((isl b p).take k)).1 (shA b p ((isl b p).take k)).2.1).Closed, (shA b p ((isl b p).take k)).1)) (isl b p).length (fun k hk => by
  obtain ⟨hk1, hk2⟩ := shA_ok h k (by omega)
  have hx := gt_mem hk
  obtain ⟨p1, p2, p3, p4, p5⟩ := isl_parts hg.1 hx
  have hr := row_own h hx
  have hf := (shA_facts h k (by omega)).2
  have h0 : ∀ c ∈ (gt (isl b p) k).Consumers, gt (shA b p ((isl b p).take k)).1 c.toNat = gt p.Limits c.toNat ∧ c ∉ (shA b p ((isl b p).take k)).2.1 := fun c hc => hf c (hr.bd c hc).1 fun i hi => isl_disj (by omega) (by omega) (by omega) hc
  rw [take_gt hk, shA_snoc]
  generalize shA b p ((isl b p).take k) = s at hk1 hk2 h0 ⊢
  obtain ⟨L1, T1, a1⟩ := s
  simp only at hk1 hk2 h0 ⊢
  have hlb := load_bd h hx
  have hrb := rateI_bd h hx
  unfold dynposref18_Shed_L1
  simp only [lt_len hk, if_true, idx_gt hk, Option.bind_some, show idx (gt (isl b p) k).Buses 0 = some (gt (gt (isl b p) k).Buses 0) from idx_gt p5, refload_eq hb hp, refrating_eq hb hp, isl_of h hx]
  rw [W_sm (by omega) (by omega), W_succ (by omega)]
  unfold shS
  by_cases hs : (gt (isl b p) k).Sources = []
  ·rw [if_pos hs, loadI_nil hs, rateI_nil hs]
   rw [show (0 : Int) - 0 = 0 from rfl, refshed_L2z h]
   simp only [Option.bind_some]
   rw [refshed_L3z h]
   rfl
  ·rw [if_neg hs]
   have hT : ∀ c ∈ (gt (isl b p) k).Consumers, c ∉ T1 := fun c hc => (h0 c hc).2
   have es : loadI p (gt (isl b p) k) = sumT (gt (isl b p) k) T1 L1 := by
    rw [loadI_sum hs]
    exact sumT_congr (fun c hc => (h0 c hc).1.symm) fun c hc => by simp [hT c hc]
   rw [es, refshed_L2 h hx hk1 hT (a := a1) (by omega)]
   simp only [Option.bind_some]
   obtain ⟨_, o1, o2⟩ := own_bd h hx
   obtain ⟨l1, l2⟩ := lowL_ok (x := gt (isl b p) k) (T := T1) (s := (L1, a1)) h hk1 o1
   generalize lowL b (gt (isl b p) k) T1 (ownL b (gt (isl b p) k)) (L1, a1) = s at l1 l2 ⊢
   obtain ⟨L2, a2⟩ := s
   simp only at l1 l2 ⊢
   have e3 := refshed_L3 hb h hx l1 hT (a := a2) (a0 := a2) (e0 := sumT (gt (isl b p) k) T1 L2 - rateI b (gt (isl b p) k)) (by omega)
   rw [show (stq b p L1 T1).Closed = (stq b p L2 T1).Closed from rfl, e3]
   rfl) (by
  unfold dynposref18_Shed_L1
  simp only [nlt_len, Bool.false_eq_true, if_false, List.take_length]
  rfl) (by omega)
 have hrun' : loopO (dynposref18_Shed_L1 b p (ordL b) (isl b p)) (0, [], (stq b p p.Limits []).Closed, p.Limits) = _ := hrun
 rw [stq_nil] at hrun'
 rw [hrun']
 rfl
theorem refshed_bad (hb : SmB b) (hp : SmP p) (h : stt b p ≠ 0) : dynposref18_Shed b p = some (stt b p, [], [], [], [], []) := by
 unfold dynposref18_Shed
 have : (stt b p != 0) = true := by simpa using h
 rw [refstate_eq hb hp]
 simp only [Option.bind_some, this, if_true]
theorem shAll_len (h : stt b p = 0) : (shAll b p).2.2.length ≤ 1000000 := by
 have h2 := (shA_ok h (isl b p).length (Nat.le_refl _)).2
 rw [List.take_length] at h2
 have hil := isl_len (b := b) (p := p)
 have hbus := (stt_zero.1 h).1.1.bus
 have : (shAll b p).2.2.length ≤ 20000 * (isl b p).length := h2
 omega
theorem refprotect_eq (hb : SmB b) (hp : SmP p) (h : stt b p = 0) : dynposref18_Protect b p = some (0, (protP b p).Closed, (protP b p).Sources, (protP b p).Limits, (protP b p).Broken, protA b p) := by
 unfold dynposref18_Protect
 have hc : (⟨(clrP b p).Closed, (clrP b p).Sources, (clrP b p).Limits, (clrP b p).Broken⟩ : Power) = clrP b p := rfl
 simp only [refclear_eq hb hp h, Option.bind_some, show ((0 : Int) != 0) = false from rfl, Bool.false_eq_true, if_false, hc, refshed_eq hb (sm_clrP (b := b) hp) (stt_clrP h)]
 rw [app_sm (by have := clrA_len h; have := shAll_len (stt_clrP h); omega)]
 rfl
theorem refprotect_bad (hb : SmB b) (hp : SmP p) (h : stt b p ≠ 0) : dynposref18_Protect b p = some (stt b p, [], [], [], [], []) := by
 unfold dynposref18_Protect
 have : (stt b p != 0) = true := by simpa using h
 simp only [refclear_bad hb hp h, Option.bind_some, this, if_true]
end
end Rx
namespace Rx
section
variable {b : Board} {p q c : Power} {x : Island}
theorem refover_eq (hb : SmB b) (hp : SmP p) (k : Int) : dynposref17_Overloaded b p k = some (decide (rateI b (ofB b p k).1 < loadI p (ofB b p k).1)) := by
 unfold dynposref17_Overloaded
 simp only [refload_eq hb hp, refrating_eq hb hp, Option.bind_some]
theorem over_isl (h : stt b q = 0) : (∀ k : Nat, k < b.Buses.toNat → loadI q (ofB b q (k : Int)).1 ≤ rateI b (ofB b q (k : Int)).1) ↔ ∀ x ∈ isl b q, loadI q x ≤ rateI b x := by
 obtain ⟨⟨hl, hg⟩, _⟩ := stt_zero.1 h
 constructor
 ·intro hk x hx
  have hb0 := (isl_parts hg.1 hx).2.2.2.2
  obtain ⟨h1, h2, h3⟩ := isleOf_uniq hx (gt_mem hb0)
  have h4 := hk (gt x.Buses 0).toNat (by omega)
  rw [show (((gt x.Buses 0).toNat : Nat) : Int) = gt x.Buses 0 by omega, isl_of h hx] at h4
  exact h4
 ·intro hx k hk
  have e : (ofB b q (k : Int)).1 = isleOf b q (k : Int) := by unfold ofB; rw [if_pos ⟨h, by omega, by omega⟩]
  rw [e]
  exact hx _ (isleOf_in hg.1 (by omega) (by omega)).1
theorem refown_run (hcs : x.Consumers.length ≤ 1000) (hol : (ordL b).length ≤ 1000) : loopO (dynposref18_Check_L5 (ordL b) x) (0, []) = some (ownL b x) := by
 have hrun := loop_run (step := dynposref18_Check_L5 (ordL b) x) (r := ownL b x) (fun i => ((i : Int), ownK b x i)) (ordL b).length (fun i hi => by
  have hKl : (ownK b x i).length ≤ i := by
   have : (ownK b x i).length ≤ ((ordL b).take i).length := List.length_filter_le _ _
   rw [List.length_take] at this
   omega
  unfold dynposref18_Check_L5
  simp only [lt_len hi, if_true, idx_gt hi, Option.bind_some, refhas_eq x.Consumers _ (by omega)]
  rw [W_succ (by omega), ownK_succ hi]
  by_cases hm : gt (ordL b) i ∈ x.Consumers
  ·rw [decide_eq_true hm, if_pos hm, app_sm (by simp; omega)]
   simp only [if_true, Option.bind_some]
  ·rw [decide_eq_false hm, if_neg hm, List.append_nil]
   simp only [Bool.false_eq_true, if_false, Option.bind_some]) (by
  unfold dynposref18_Check_L5
  simp only [nlt_len, Bool.false_eq_true, if_false, ownK_all]) (by omega)
 exact hrun
def BadJ (b : Board) (q : Power) (o : List Int) (i j : Nat) : Prop := j < i ∧ (fulB b q (gt o j) = true ∨ (fedB b q (gt o i)).2 = false ∧ havB b q (gt o j) = true)
noncomputable instance BadJ.dec (b : Board) (q : Power) (o : List Int) (i j : Nat) : Decidable (BadJ b q o i j) := Classical.propDecidable _
theorem refL7 (hb : SmB b) (hq : SmP q) (hl : q.Limits.length = b.Consumers.length) {o : List Int} (hln : o.length ≤ 1000) (hc : ∀ c ∈ o, 0 ≤ c ∧ c < (b.Consumers.length : Int)) {i : Nat} (hi : i < o.length) {n : Int} :
  loopO (dynposref18_Check_L7 b q o (i : Int) (n, (fedB b q (gt o i)).2)) 0 = some (cond (dB (∃ j, j < o.length ∧ BadJ b q o i j)) (.inr (.inr (.inr (.inr (.inr (.inr false)))))) (.inl ())) := by
 have key : ∀ j, j < o.length → dynposref18_Check_L7 b q o (i : Int) (n, (fedB b q (gt o i)).2) (j : Int) = if BadJ b q o i j then some (.inr (.inr (.inr (.inr (.inr (.inr (.inr false))))))) else some (.inl ((j + 1 : Nat) : Int)) := fun j hj => by
  have hcj := hc _ (gt_mem hj)
  unfold dynposref18_Check_L7
  simp only [lt_len hj, if_true, idx_gt hj, Option.bind_some, reffed_any hb hq]
  rw [W_succ (by omega)]
  by_cases hji : j < i
  ·rw [dT (show ((j : Nat) : Int) < (i : Int) by omega)]
   simp only [if_true]
   cases hf : (fedB b q (gt o j)).2 with
   | false =>
    have hn : ¬ BadJ b q o i j := fun hh => by
     unfold BadJ fulB havB at hh
     rw [hf] at hh
     simp at hh
    rw [if_neg hn]
    cases (fedB b q (gt o i)).2 <;> simp
   | true =>
    simp only [if_true]
    rw [idx_gtZ (l := q.Limits) hcj.1 (by omega), idx_gtZ (l := b.Consumers) hcj.1 hcj.2]
    simp only [Option.bind_some]
    by_cases h1 : (gt b.Consumers (gt o j).toNat).Least < gt q.Limits (gt o j).toNat
    ·have hy : BadJ b q o i j := ⟨hji, .inl (by unfold fulB; rw [hf, dT h1]; rfl)⟩
     rw [dT (show gt q.Limits (gt o j).toNat > (gt b.Consumers (gt o j).toNat).Least from h1), if_pos hy]
     simp only [if_true]
    ·rw [dF (show ¬ gt q.Limits (gt o j).toNat > (gt b.Consumers (gt o j).toNat).Least from h1)]
     simp only [Bool.false_eq_true, if_false]
     cases hg : (fedB b q (gt o i)).2 with
     | true =>
      have hn : ¬ BadJ b q o i j := fun hh => by
       unfold BadJ fulB havB at hh
       rw [hf, hg, dF h1] at hh
       simp at hh
      rw [if_neg hn]
      simp
     | false =>
      by_cases h2 : 0 < gt q.Limits (gt o j).toNat
      ·have hy : BadJ b q o i j := ⟨hji, .inr ⟨hg, by unfold havB; rw [hf, dT h2]; rfl⟩⟩
       rw [if_pos hy]
       simp [h2]
      ·have hn : ¬ BadJ b q o i j := fun hh => by
        unfold BadJ fulB havB at hh
        rw [hf, hg, dF h1, dF h2] at hh
        simp at hh
       rw [if_neg hn]
       simp [h2]
  ·rw [dF (show ¬ ((j : Nat) : Int) < (i : Int) by omega), if_neg fun hh : BadJ b q o i j => hji hh.1]
   simp only [Bool.false_eq_true, if_false, Option.bind_some]
 have h1 := loop_anyB (step := dynposref18_Check_L7 b q o (i : Int) (n, (fedB b q (gt o i)).2)) (fun k => (k : Int)) o.length (fun j => BadJ b q o i j) (r := .inr (.inr (.inr (.inr (.inr (.inr false)))))) (e := .inl ()) (fun k hk hn => by rw [key k hk, if_neg hn]) (fun k hk hp => by rw [key k hk, if_pos hp]) (by
  unfold dynposref18_Check_L7
  simp only [nlt_len, Bool.false_eq_true, if_false]) (by omega)
 exact h1
theorem bad_iff {o : List Int} {i : Nat} (hi : i < o.length) (hle : gt q.Limits (gt o i).toNat ≤ gt c.Limits (gt o i).toNat) : badO b c q o i = true ↔ ¬ ((fedB b q (gt o i)).2 = true ∧ gt q.Limits (gt o i).toNat = gt c.Limits (gt o i).toNat) ∧ ∃ j, j < o.length ∧ BadJ b q o i j := by
 have hany : ∀ P : Int → Bool, (o.take i).any P = true ↔ ∃ j, j < i ∧ P (gt o j) = true := fun P => by
  rw [List.any_eq_true]
  constructor
  ·rintro ⟨d, hd, hp⟩
   obtain ⟨j, hj, rfl⟩ := (mem_take_idx (by omega)).1 hd
   exact ⟨j, hj, hp⟩
  ·rintro ⟨j, hj, hp⟩
   exact ⟨_, (mem_take_idx (by omega)).2 ⟨j, hj, rfl⟩, hp⟩
 unfold badO BadJ
 simp only [Bool.or_eq_true, Bool.and_eq_true, hany, decide_eq_true_eq, Bool.not_eq_true']
 constructor
 ·rintro (⟨g, j, hj, hp⟩ | ⟨g, j, hj, hp⟩)
  ·refine ⟨?_, j, by omega, hj, .inl hp⟩
   rintro ⟨e1, e2⟩
   rcases g with g | g
   ·omega
   ·rw [e1] at g; cases g
  ·refine ⟨?_, j, by omega, hj, .inr ⟨g, hp⟩⟩
   rintro ⟨e1, e2⟩
   rw [e1] at g; cases g
 ·rintro ⟨hn, j, _, hj, hp⟩
  rcases hp with hp | ⟨g, hp⟩
  ·refine .inl ⟨?_, j, hj, hp⟩
   cases hf : (fedB b q (gt o i)).2 with
   | false => exact .inr rfl
   | true =>
    refine .inl ?_
    apply Classical.byContradiction
    intro hlt
    exact hn ⟨hf, by omega⟩
  ·exact .inr ⟨g, j, hj, hp⟩
theorem refL6 (hb : SmB b) (hq : SmP q) (hl : q.Limits.length = b.Consumers.length) (hcl : c.Limits.length = b.Consumers.length) (hle : ∀ k, k < q.Limits.length → gt q.Limits k ≤ gt c.Limits k) {o : List Int} (hln : o.length ≤ 1000) (hc : ∀ c ∈ o, 0 ≤ c ∧ c < (b.Consumers.length : Int)) {A : List Act} {e : Int} :
  loopO (dynposref18_Check_L6 b q (e, c.Closed, c.Sources, c.Limits, c.Broken, A) o) 0 = some (cond (dB (∃ i, i < o.length ∧ badO b c q o i = true)) (.inr (.inr (.inr false))) (.inl ())) := by
 have key : ∀ i, i < o.length → dynposref18_Check_L6 b q (e, c.Closed, c.Sources, c.Limits, c.Broken, A) o (i : Int) = if badO b c q o i = true then some (.inr (.inr (.inr (.inr false)))) else some (.inl ((i + 1 : Nat) : Int)) := fun i hi => by
  have hci := hc _ (gt_mem hi)
  have hb2 := bad_iff (b := b) (c := c) hi (hle (gt o i).toNat (by omega))
  have h7 := refL7 hb hq hl hln hc hi (n := (fedB b q (gt o i)).1)
  rw [show ((fedB b q (gt o i)).1, (fedB b q (gt o i)).2) = fedB b q (gt o i) from rfl] at h7
  unfold dynposref18_Check_L6
  simp only [lt_len hi, if_true, idx_gt hi, Option.bind_some, reffed_any hb hq]
  rw [W_succ (by omega), h7]
  by_cases hskip : (fedB b q (gt o i)).2 = true ∧ gt q.Limits (gt o i).toNat = gt c.Limits (gt o i).toNat
  ·have hnb : ¬ badO b c q o i = true := fun hh => (hb2.1 hh).1 hskip
   rw [if_neg hnb, hskip.1]
   simp only [if_true]
   rw [idx_gtZ (l := q.Limits) hci.1 (by omega), idx_gtZ (l := c.Limits) hci.1 (by omega)]
   simp only [Option.bind_some]
   rw [beqT hskip.2]
   simp only [if_true, Option.bind_some, Sum.elim_inl]
  ·have hcond : (if (fedB b q (gt o i)).2 = true then Option.bind (idx q.Limits (gt o i)) fun x37 => Option.bind (idx c.Limits (gt o i)) fun x38 => some (x37 == x38) else some false) = some false := by
    cases hf : (fedB b q (gt o i)).2 with
    | false => rfl
    | true =>
     simp only [if_true]
     rw [idx_gtZ (l := q.Limits) hci.1 (by omega), idx_gtZ (l := c.Limits) hci.1 (by omega)]
     simp only [Option.bind_some]
     rw [beqF fun e => hskip ⟨hf, e⟩]
   rw [hcond]
   simp only [Option.bind_some, Bool.false_eq_true, if_false]
   by_cases hex : ∃ j, j < o.length ∧ BadJ b q o i j
   ·rw [dB_T hex, if_pos (hb2.2 ⟨hskip, hex⟩)]
    rfl
   ·rw [dB_F hex, if_neg fun hh => hex (hb2.1 hh).2]
    rfl
 have h1 := loop_anyB (step := dynposref18_Check_L6 b q (e, c.Closed, c.Sources, c.Limits, c.Broken, A) o) (fun k => (k : Int)) o.length (fun i => badO b c q o i = true) (r := .inr (.inr (.inr false))) (e := .inl ()) (fun k hk hn => by rw [key k hk, if_neg hn]) (fun k hk hp => by rw [key k hk, if_pos hp]) (by
  unfold dynposref18_Check_L6
  simp only [nlt_len, Bool.false_eq_true, if_false]) (by omega)
 exact h1
theorem refcheck18_eq (hb : SmB b) (hp : SmP p) (hq : SmP q) (h : stt b p = 0) (h' : stt b q = 0) : dynposref18_Check b p q = some (dB (ChkOk b (clrP b p) q)) := by
 obtain ⟨⟨hl, hg⟩, _⟩ := stt_zero.1 h
 have hbus := hl.bus
 have hcon := hl.con
 have hchk : chk b = 0 := chk_zero.2 ⟨hl, hg⟩
 have hc := sm_clrP (b := b) hp
 have hs := stt_clrP h
 obtain ⟨s1, s2, s3, s4, s5, s6⟩ := brk_lens hs
 obtain ⟨t1, t2, t3, t4, t5, t6⟩ := brk_lens h'
 have hce : (⟨(clrP b p).Closed, (clrP b p).Sources, (clrP b p).Limits, (clrP b p).Broken⟩ : Power) = clrP b p := rfl
 unfold dynposref18_Check
 simp only [refclear_eq hb hp h, Option.bind_some, show ((0 : Int) != 0) = false from rfl, Bool.false_eq_true, if_false, refstate_eq hb hq, h', refcopy_eq hq, hce]
 generalize clrP b p = c at *
 have hsm : SmP ⟨c.Closed, q.Sources, c.Limits, q.Broken⟩ := ⟨hc.1, hq.2.1, hc.2.2.1, hq.2.2.2⟩
 have hse : dynposref15_Same ⟨c.Closed, q.Sources, c.Limits, q.Broken⟩ c = some (dB ((⟨c.Closed, q.Sources, c.Limits, q.Broken⟩ : Power) = c)) := same_eq hsm
 rw [hse]
 simp only [Option.bind_some]
 have hsame : ((⟨c.Closed, q.Sources, c.Limits, q.Broken⟩ : Power) = c) ↔ c.Sources = q.Sources ∧ c.Broken = q.Broken := by
  obtain ⟨c1, c2, c3, c4⟩ := c
  simp only [Power.mk.injEq, true_and]
  exact ⟨fun hh => ⟨hh.1.symm, hh.2.symm⟩, fun hh => ⟨hh.1.symm, hh.2.symm⟩⟩
 by_cases g0 : (⟨c.Closed, q.Sources, c.Limits, q.Broken⟩ : Power) = c
 case neg =>
  rw [dB_F g0, dB_F (p := ChkOk b c q) fun hh => g0 (hsame.2 hh.1.1.2)]
  rfl
 rw [dB_T g0]
 simp only [Bool.not_true, Bool.false_eq_true, if_false]
 have e1 := loop_anyB (step := dynposref18_Check_L1 q ((0 : Int), c.Closed, c.Sources, c.Limits, c.Broken, clrA b p)) (fun k => (k : Int)) q.Closed.length (fun k => gt q.Closed k = true ∧ gt c.Closed k = false) (r := .inr false) (e := .inl ())
  (fun k hk hn => by
   unfold dynposref18_Check_L1
   simp only [lt_len hk, if_true, idx_gt hk, Option.bind_some, idx_gt (l := c.Closed) (k := k) (by omega)]
   rw [W_succ (by omega)]
   cases hc : gt q.Closed k with
   | false => simp
   | true =>
    cases hd : gt c.Closed k with
    | false => exact (hn ⟨hc, hd⟩).elim
    | true => simp)
  (fun k hk hp => by
   unfold dynposref18_Check_L1
   simp only [lt_len hk, if_true, idx_gt hk, Option.bind_some, idx_gt (l := c.Closed) (k := k) (by omega), hp.1, hp.2, Bool.not_false])
  (by
   unfold dynposref18_Check_L1
   simp only [nlt_len, Bool.false_eq_true, if_false]) (by omega)
 have e1' : loopO (dynposref18_Check_L1 q ((0 : Int), c.Closed, c.Sources, c.Limits, c.Broken, clrA b p)) 0 = _ := e1
 rw [e1']
 by_cases g1 : ∃ k, k < q.Closed.length ∧ gt q.Closed k = true ∧ gt c.Closed k = false
 ·obtain ⟨k, hk, g, g'⟩ := g1
  rw [dB_T ⟨k, hk, g, g'⟩, dB_F (p := ChkOk b c q) fun hh => by have := hh.1.1.1.1 k hk g; rw [g'] at this; cases this]
  rfl
 rw [dB_F g1]
 have k1 : ∀ k, k < q.Closed.length → gt q.Closed k = true → gt c.Closed k = true := fun k hk hcc => by
  cases hd : gt c.Closed k with
  | true => rfl
  | false => exact (g1 ⟨k, hk, hcc, hd⟩).elim
 have e2 := loop_anyB (step := dynposref18_Check_L2 q ((0 : Int), c.Closed, c.Sources, c.Limits, c.Broken, clrA b p)) (fun k => (k : Int)) q.Limits.length (fun k => gt c.Limits k < gt q.Limits k) (r := .inr false) (e := .inl ())
  (fun k hk hn => by
   unfold dynposref18_Check_L2
   simp only [lt_len hk, if_true, idx_gt hk, Option.bind_some, idx_gt (l := c.Limits) (k := k) (by omega)]
   rw [W_succ (by omega), dF (by omega)]
   simp only [Bool.false_eq_true, if_false])
  (fun k hk hp => by
   unfold dynposref18_Check_L2
   simp only [lt_len hk, if_true, idx_gt hk, Option.bind_some, idx_gt (l := c.Limits) (k := k) (by omega)]
   rw [dT (by omega)]
   simp only [if_true])
  (by
   unfold dynposref18_Check_L2
   simp only [nlt_len, Bool.false_eq_true, if_false]) (by omega)
 have e2' : loopO (dynposref18_Check_L2 q ((0 : Int), c.Closed, c.Sources, c.Limits, c.Broken, clrA b p)) 0 = _ := e2
 simp only [cond_false, Option.bind_some, Sum.elim_inl]
 rw [e2']
 by_cases g2 : ∃ k, k < q.Limits.length ∧ gt c.Limits k < gt q.Limits k
 ·obtain ⟨k, hk, g⟩ := g2
  rw [dB_T ⟨k, hk, g⟩, dB_F (p := ChkOk b c q) fun hh => by have := hh.1.1.1.2 k hk; omega]
  rfl
 rw [dB_F g2]
 have k2 : ∀ k, k < q.Limits.length → gt q.Limits k ≤ gt c.Limits k := fun k hk => by
  apply Classical.byContradiction
  intro hn
  exact g2 ⟨k, hk, by omega⟩
 have hles : Les c q := ⟨⟨k1, k2⟩, hsame.1 g0⟩
 have hil := isl_len (b := b) (p := q)
 have hic := isl_len (b := b) (p := c)
 have e3 := loop_anyB (step := dynposref18_Check_L3 b q (isl b q)) (fun k => (k : Int)) (isl b q).length (fun k => rateI b (gt (isl b q) k) < loadI q (gt (isl b q) k)) (r := .inr false) (e := .inl ())
  (fun k hk hn => by
   have hx := gt_mem hk
   have p5 := (isl_parts hg.1 hx).2.2.2.2
   unfold dynposref18_Check_L3
   simp only [lt_len hk, if_true, idx_gt hk, Option.bind_some, show idx (gt (isl b q) k).Buses 0 = some (gt (gt (isl b q) k).Buses 0) from idx_gt p5, refover_eq hb hq, isl_of h' hx]
   rw [dF hn, W_succ (by omega)]
   simp only [Bool.false_eq_true, if_false])
  (fun k hk hn => by
   have hx := gt_mem hk
   have p5 := (isl_parts hg.1 hx).2.2.2.2
   unfold dynposref18_Check_L3
   simp only [lt_len hk, if_true, idx_gt hk, Option.bind_some, show idx (gt (isl b q) k).Buses 0 = some (gt (gt (isl b q) k).Buses 0) from idx_gt p5, refover_eq hb hq, isl_of h' hx]
   rw [dT hn]
   simp only [if_true])
  (by
   unfold dynposref18_Check_L3
   simp only [nlt_len, Bool.false_eq_true, if_false]) (by omega)
 have e3' : loopO (dynposref18_Check_L3 b q (isl b q)) 0 = _ := e3
 simp only [cond_false, Option.bind_some, Sum.elim_inl, refislands_eq hb hq h']
 rw [e3']
 by_cases g3 : ∃ k, k < (isl b q).length ∧ rateI b (gt (isl b q) k) < loadI q (gt (isl b q) k)
 ·obtain ⟨k, hk, g⟩ := g3
  rw [dB_T ⟨k, hk, g⟩, dB_F (p := ChkOk b c q) fun hh => by have := (over_isl h').1 hh.1.2 _ (gt_mem hk); omega]
  rfl
 rw [dB_F g3]
 have k3 : ∀ x ∈ isl b q, loadI q x ≤ rateI b x := fun x hx => by
  obtain ⟨k, hk, rfl⟩ := mem_gt hx
  apply Classical.byContradiction
  intro hn
  exact g3 ⟨k, hk, by omega⟩
 simp only [cond_false, Option.bind_some, Sum.elim_inl, reforder_eq hb hchk, refislands_eq hb hc hs]
 have hol : (ordL b).length ≤ 1000 := by rw [ord_len]; omega
 have e4 := loop_anyB (step := dynposref18_Check_L4 b q ((0 : Int), c.Closed, c.Sources, c.Limits, c.Broken, clrA b p) (ordL b) (isl b c)) (fun k => (k : Int)) (isl b c).length (fun k => ∃ i, i < (ownL b (gt (isl b c) k)).length ∧ badO b c q (ownL b (gt (isl b c) k)) i = true) (r := .inr false) (e := .inl ())
  (fun k hk hn => by
   have hx := gt_mem hk
   obtain ⟨p1, _, p3, _⟩ := isl_parts hg.1 hx
   obtain ⟨_, o1, o2⟩ := own_bd hs hx
   unfold dynposref18_Check_L4
   simp only [lt_len hk, if_true, idx_gt hk, Option.bind_some, refown_run (b := b) (x := gt (isl b c) k) (by omega) hol, refL6 (c := c) (A := clrA b p) (e := 0) hb hq (by omega) (by omega) k2 (o := ownL b (gt (isl b c) k)) (by omega) o1, dB_F hn]
   rw [W_succ (by omega)]
   rfl)
  (fun k hk hn => by
   have hx := gt_mem hk
   obtain ⟨p1, _, p3, _⟩ := isl_parts hg.1 hx
   obtain ⟨_, o1, o2⟩ := own_bd hs hx
   unfold dynposref18_Check_L4
   simp only [lt_len hk, if_true, idx_gt hk, Option.bind_some, refown_run (b := b) (x := gt (isl b c) k) (by omega) hol, refL6 (c := c) (A := clrA b p) (e := 0) hb hq (by omega) (by omega) k2 (o := ownL b (gt (isl b c) k)) (by omega) o1, dB_T hn]
   rfl)
  (by
   unfold dynposref18_Check_L4
   simp only [nlt_len, Bool.false_eq_true, if_false]) (by omega)
 have e4' : loopO (dynposref18_Check_L4 b q ((0 : Int), c.Closed, c.Sources, c.Limits, c.Broken, clrA b p) (ordL b) (isl b c)) 0 = _ := e4
 rw [e4']
 by_cases g4 : ∃ k, k < (isl b c).length ∧ ∃ i, i < (ownL b (gt (isl b c) k)).length ∧ badO b c q (ownL b (gt (isl b c) k)) i = true
 ·rw [dB_T g4]
  obtain ⟨k, hk, i, hi, g⟩ := g4
  rw [dB_F (p := ChkOk b c q) fun hh => by have := hh.2 _ (gt_mem hk) i hi; rw [g] at this; cases this]
  rfl
 ·rw [dB_F g4, dB_T (p := ChkOk b c q) ⟨⟨hles, (over_isl h').2 k3⟩, fun x hx i hi => by
   obtain ⟨k, hk, rfl⟩ := mem_gt hx
   cases hbd : badO b c q (ownL b (gt (isl b c) k)) i with
   | false => rfl
   | true => exact (g4 ⟨k, hk, i, hi, hbd⟩).elim⟩]
  rfl
theorem refcheck18_bad (hb : SmB b) (hp : SmP p) (hq : SmP q) (h : ¬ (stt b p = 0 ∧ stt b q = 0)) : dynposref18_Check b p q = some false := by
 unfold dynposref18_Check
 by_cases h1 : stt b p = 0
 ·have h2 : stt b q ≠ 0 := fun h2 => h ⟨h1, h2⟩
  have : (stt b q != 0) = true := by simpa using h2
  simp only [refclear_eq hb hp h1, Option.bind_some, show ((0 : Int) != 0) = false from rfl, Bool.false_eq_true, if_false, refstate_eq hb hq, this, if_true]
 ·have : (stt b p != 0) = true := by simpa using h1
  simp only [refclear_bad hb hp h1, Option.bind_some, this, if_true]
theorem check18_same (hb : SmB b) (hp : SmP p) (hq : SmP q) : ∃ v, shed_Check b p q = some v ∧ dynposref18_Check b p q = some v := by
 by_cases h : stt b p = 0 ∧ stt b q = 0
 ·exact ⟨_, check18_eq hb hp hq h.1 h.2, refcheck18_eq hb hp hq h.1 h.2⟩
 ·exact ⟨_, check18_bad hb hp hq h, refcheck18_bad hb hp hq h⟩
end
end Rx
namespace Rx
theorem loopO_big {σ ρ : Type} {step : σ → Option (σ ⊕ ρ)} {s : σ} {r : ρ} {k : Nat} (h : Runs step k s r) (hk : k ≤ 9223372036854775807) : loopO step s = some r := loopN_of h (by omega)
def SmC (l : List Consumer) : Prop := Sm l ∧ ∀ x ∈ l, Sm x.Needs
theorem small_eq {b : Board} {p : Power} (hl : b.Consumers.length ≤ 9223372036854775807) : ∃ r, dynposmake_Small b p = some r ∧ (r = true → SmB b ∧ SmP p) := by
 have key : ∀ (m k : Nat), m + k = b.Consumers.length → ∃ j r, j ≤ m ∧ Runs (dynposmake_Small_L1 b) j (k : Int) r ∧ (r = .inr false ∨ (r = .inl () ∧ ∀ i, k ≤ i → i < b.Consumers.length → (gt b.Consumers i).Needs.length ≤ 8)) := by
  intro m
  induction m with
  | zero =>
   intro k hk
   refine ⟨0, .inl (), Nat.le_refl _, .done ?_, .inr ⟨rfl, fun i h1 h2 => by omega⟩⟩
   unfold dynposmake_Small_L1
   rw [show k = b.Consumers.length by omega]
   simp only [nlt_len, Bool.false_eq_true, if_false]
  | succ m ih =>
   intro k hk
   have hkl : k < b.Consumers.length := by omega
   by_cases h8 : (gt b.Consumers k).Needs.length ≤ 8
   ·obtain ⟨j, r, h1, h2, h3⟩ := ih (k + 1) (by omega)
    refine ⟨j + 1, r, by omega, .more ?_ h2, h3.imp id fun h => ⟨h.1, fun i hi hil => ?_⟩⟩
    ·unfold dynposmake_Small_L1
     simp only [lt_len hkl, if_true, idx_gt hkl, Option.bind_some]
     rw [dF (c := len (gt b.Consumers k).Needs > 8) (by unfold len; omega)]
     simp only [Bool.false_eq_true, if_false]
     rw [W_in (x := (k : Int) + 1) (by omega) (by omega)]
     rfl
    ·by_cases hik : i = k
     ·rw [hik]; exact h8
     ·exact h.2 i (by omega) hil
   ·refine ⟨0, .inr false, Nat.zero_le _, .done ?_, .inl rfl⟩
    unfold dynposmake_Small_L1
    simp only [lt_len hkl, if_true, idx_gt hkl, Option.bind_some]
    rw [dT (c := len (gt b.Consumers k).Needs > 8) (by unfold len; omega)]
    rfl
 obtain ⟨j, r, h1, h2, h3⟩ := key b.Consumers.length 0 (by omega)
 unfold dynposmake_Small
 have e := loopO_big h2 (by omega)
 simp only [show ((0 : Nat) : Int) = 0 from rfl] at e
 rw [e]
 rcases h3 with rfl | ⟨rfl, h3⟩
 ·exact ⟨false, rfl, fun h => by cases h⟩
 ·simp only [Option.bind_some, Sum.elim_inl]
  by_cases c1 : len b.Breakers ≤ 14
  ·by_cases c2 : len b.Sources ≤ 10
   ·by_cases c3 : len b.Consumers ≤ 8
    ·by_cases c4 : len p.Closed ≤ 14
     ·by_cases c5 : len p.Sources ≤ 10
      ·by_cases c6 : len p.Limits ≤ 10
       ·refine ⟨decide (len p.Broken ≤ 10), by simp [c1, c2, c3, c4, c5, c6], fun h => ?_⟩
        have c7 := of_decide_eq_true h
        unfold len at *
        refine ⟨⟨by unfold Sm; omega, by unfold Sm; omega, by unfold Sm; omega, fun x hx => ?_⟩, by unfold Sm; omega, by unfold Sm; omega, by unfold Sm; omega, by unfold Sm; omega⟩
        obtain ⟨i, hi, rfl⟩ := mem_gt hx
        have := h3 i (Nat.zero_le _) hi
        unfold Sm; omega
       ·exact ⟨false, by simp [c1, c2, c3, c4, c5, c6], fun h => by cases h⟩
      ·exact ⟨false, by simp [c1, c2, c3, c4, c5], fun h => by cases h⟩
     ·exact ⟨false, by simp [c1, c2, c3, c4], fun h => by cases h⟩
    ·exact ⟨false, by simp [c1, c2, c3], fun h => by cases h⟩
   ·exact ⟨false, by simp [c1, c2], fun h => by cases h⟩
  ·exact ⟨false, by simp [c1], fun h => by cases h⟩
theorem wpPickS {l : List Int} {a : Int} {w : List Int} (hs : Sr l a) (h0 : w ≠ []) (hl : w.length ≤ 1000000) : Wp (Src_Pick ⟨l, a⟩ w) fun r => Sr r.2.1 r.2.2.1 := (wpPick hs h0 hl).mono fun _ h => h.2
theorem wpOdd {l : List Int} {a : Int} (hs : Sr l a) : Wp (Src_Odd ⟨l, a⟩) fun r => Sr r.2.1 r.2.2 := by
 unfold Src_Odd
 refine (wpPickS hs (by simp) (by simp)).bind fun y hy => ?_
 exact wp_some.2 hy
theorem SmC.set {l : List Consumer} (h : SmC l) (j : Nat) {x : Consumer} (hx : Sm x.Needs) : SmC (l.set j x) := by
 refine ⟨by have := h.1; unfold Sm at this ⊢; simpa using this, fun y hy => ?_⟩
 rcases List.mem_or_eq_of_mem_set hy with hy | rfl
 ·exact h.2 y hy
 ·exact hx
theorem smAny_set {α : Type} {l : List α} (h : Sm l) (j : Nat) (x : α) : Sm (l.set j x) := by unfold Sm at h ⊢; simpa using h
theorem copyS_eq {p : Power} (h1 : p.Closed.length ≤ 1000) (h2 : p.Sources.length ≤ 1000) (h3 : p.Limits.length ≤ 1000) (h4 : p.Broken.length ≤ 1000) : dynposref15_Copy p = some (p.Closed, p.Sources, p.Limits, p.Broken) := by
 unfold dynposref15_Copy
 rw [show app ([] : List Bool) p.Closed = some p.Closed from app_sm (by simp; omega), show app ([] : List Running) p.Sources = some p.Sources from app_sm (by simp; omega), show app ([] : List Int) p.Limits = some p.Limits from app_sm (by simp; omega), show app ([] : List Part) p.Broken = some p.Broken from app_sm (by simp; omega)]
 rfl
theorem wpBentPower {l : List Int} {a : Int} (hs : Sr l a) {p : Power} (h1 : p.Closed.length ≤ 1000) (h2 : p.Sources.length ≤ 1000) (h3 : p.Limits.length ≤ 1000) (h4 : p.Broken.length ≤ 1000) :
  Wp (Src_BentPower ⟨l, a⟩ p) fun r => Sr r.1 r.2.1 ∧ SmP ⟨r.2.2.1, r.2.2.2.1, r.2.2.2.2.1, r.2.2.2.2.2⟩ := by
 have s1 : Sm p.Closed := by unfold Sm; omega
 have s2 : Sm p.Sources := by unfold Sm; omega
 have s3 : Sm p.Limits := by unfold Sm; omega
 have s4 : Sm p.Broken := by unfold Sm; omega
 unfold Src_BentPower
 rw [copyS_eq h1 h2 h3 h4]
 simp only [Option.bind_some]
 refine (wpN hs (n := 6) (by omega) (by omega)).bind fun y hy => ?_
 obtain ⟨y, l1, a1⟩ := y
 simp only at hy ⊢
 have hs1 := hy.2
 refine Wp.bind (Q := fun x => Sr x.1 x.2.1 ∧ Sm x.2.2.1 ∧ Sm x.2.2.2.1 ∧ Sm x.2.2.2.2.1 ∧ Sm x.2.2.2.2.2) ?_ fun x hx => wp_some.2 ⟨hx.1, hx.2.2.2.1, hx.2.1, hx.2.2.1, hx.2.2.2.2⟩
 refine Wp.ite (fun _ => ?_) fun _ => ?_
 ·rw [app_sm (by simp; omega)]
  exact wp_some.2 ⟨hs1, s2, s3, by unfold Sm; simp; omega, s4⟩
 refine Wp.bind (Q := fun x => Sr x.1 x.2.1 ∧ Sm x.2.2.1 ∧ Sm x.2.2.2.1 ∧ Sm x.2.2.2.2.1 ∧ Sm x.2.2.2.2.2) ?_ fun x hx => wp_some.2 ⟨hx.1, hx.2.2.1, hx.2.2.2.1, hx.2.1, hx.2.2.2.2⟩
 refine Wp.ite (fun _ => ?_) fun _ => ?_
 ·refine Wp.bind (Q := fun x => Sr x.1 x.2.1 ∧ Sm x.2.2) ?_ fun x hx => wp_some.2 ⟨hx.1, s1, hx.2, s3, s4⟩
  refine Wp.ite (fun h => ?_) fun _ => wp_some.2 ⟨hs1, s2⟩
  have h := of_decide_eq_true h
  refine (wpN hs1 (n := len p.Sources) (by omega) (by unfold len; omega)).bind fun z hz => ?_
  obtain ⟨z, l2, a2⟩ := z
  simp only at hz ⊢
  have hzl : z < p.Sources.length := by have := hz.1.2; unfold len at this; omega
  refine (wpRange hz.2 (lo := -1) (hi := 5) (by omega) (by omega) (by omega) (by omega)).bind fun q hq => ?_
  rw [idx_gtZ hz.1.1 hzl]
  simp only [Option.bind_some]
  rw [setO_Z hz.1.1 hzl]
  exact wp_some.2 ⟨hq.2, smAny_set s2 _ _⟩
 refine Wp.bind (Q := fun x => Sr x.1 x.2.1 ∧ Sm x.2.2.1 ∧ Sm x.2.2.2.1 ∧ Sm x.2.2.2.2.1 ∧ Sm x.2.2.2.2.2) ?_ fun x hx => wp_some.2 hx
 refine Wp.ite (fun _ => ?_) fun _ => ?_
 ·refine Wp.bind (Q := fun x => Sr x.1 x.2.1 ∧ Sm x.2.2) ?_ fun x hx => wp_some.2 ⟨hx.1, s1, hx.2, s3, s4⟩
  refine Wp.ite (fun h => ?_) fun _ => wp_some.2 ⟨hs1, s2⟩
  have h := of_decide_eq_true h
  refine (wpN hs1 (n := len p.Sources) (by omega) (by unfold len; omega)).bind fun z hz => ?_
  obtain ⟨z, l2, a2⟩ := z
  simp only at hz ⊢
  have hzl : z < p.Sources.length := by have := hz.1.2; unfold len at this; omega
  refine (wpOdd hz.2).bind fun q hq => ?_
  rw [idx_gtZ hz.1.1 hzl]
  simp only [Option.bind_some]
  rw [setO_Z hz.1.1 hzl]
  exact wp_some.2 ⟨hq, smAny_set s2 _ _⟩
 refine Wp.bind (Q := fun x => Sr x.1 x.2.1 ∧ Sm x.2.2.1 ∧ Sm x.2.2.2.1 ∧ Sm x.2.2.2.2) ?_ fun x hx => wp_some.2 ⟨hx.1, hx.2.1, s2, hx.2.2.1, hx.2.2.2⟩
 refine Wp.ite (fun _ => ?_) fun _ => ?_
 ·refine Wp.bind (Q := fun x => Sr x.1 x.2.1 ∧ Sm x.2.2) ?_ fun x hx => wp_some.2 ⟨hx.1, s1, hx.2, s4⟩
  refine Wp.ite (fun h => ?_) fun _ => wp_some.2 ⟨hs1, s3⟩
  have h := of_decide_eq_true h
  refine (wpN hs1 (n := len p.Limits) (by omega) (by unfold len; omega)).bind fun z hz => ?_
  obtain ⟨z, l2, a2⟩ := z
  simp only at hz ⊢
  have hzl : z < p.Limits.length := by have := hz.1.2; unfold len at this; omega
  refine (wpOdd hz.2).bind fun q hq => ?_
  rw [idx_gtZ hz.1.1 hzl]
  simp only [Option.bind_some]
  rw [setO_Z hz.1.1 hzl]
  exact wp_some.2 ⟨hq, smAny_set s3 _ _⟩
 refine Wp.bind (Q := fun x => Sr x.1 x.2.1 ∧ Sm x.2.2.1 ∧ Sm x.2.2.2) ?_ fun x hx => wp_some.2 ⟨hx.1, hx.2.1, s3, hx.2.2⟩
 refine Wp.ite (fun _ => ?_) fun _ => ?_
 ·refine (wpRange hs1 (lo := 0) (hi := 5) (by omega) (by omega) (by omega) (by omega)).bind fun z1 hz1 => ?_
  refine (wpRange hz1.2 (lo := -1) (hi := 5) (by omega) (by omega) (by omega) (by omega)).bind fun z2 hz2 => ?_
  rw [app_sm (by simp; omega)]
  exact wp_some.2 ⟨hz2.2, s1, by unfold Sm; simp; omega⟩
 ·have hl : Wp (loopO (Src_BentPower_L1 (p.Closed, p.Sources, p.Limits, p.Broken)) (0, p.Closed)) fun r => r.length = p.Closed.length := by
   refine wp_upto p.Closed.length (fun k s => s.1 = (k : Int) ∧ s.2.length = p.Closed.length) ⟨rfl, rfl⟩ (fun k s hk hi => ?_) (fun s hi => ?_) (by omega)
   ·obtain ⟨z, c⟩ := s
    obtain ⟨e1, e2⟩ := hi
    simp only at e1 e2
    subst e1
    unfold Src_BentPower_L1
    simp only [lt_len hk, if_true, idx_gt (show k < c.length by omega), Option.bind_some]
    rw [setO_nat (show k < c.length by omega)]
    simp only [Option.bind_some]
    rw [W_succ (by omega)]
    exact wp_some.2 ⟨rfl, by simp [e2]⟩
   ·obtain ⟨z, c⟩ := s
    obtain ⟨e1, e2⟩ := hi
    simp only at e1 e2
    subst e1
    unfold Src_BentPower_L1
    simp only [nlt_len, Bool.false_eq_true, if_false]
    exact wp_some.2 e2
  refine hl.bind fun z hz => ?_
  exact wp_some.2 ⟨hs1, by unfold Sm; simp only; omega, s4⟩
end Rx
end Go.Proofs.YtfnphdhcgkondaaGreat
