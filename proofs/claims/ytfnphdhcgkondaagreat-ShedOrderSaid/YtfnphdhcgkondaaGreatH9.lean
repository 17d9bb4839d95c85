/- Before and behind in the order; who is fed behind shedding. -/
import Derived.Test.YtfnphdhcgkondaaGreatH8
set_option linter.unusedVariables false
set_option linter.unusedSimpArgs false
namespace Go.Proofs.YtfnphdhcgkondaaGreat
open Go Go.RowKit Dp
namespace Rx
section
variable {b : Board} {p : Power} {L T : List Int} {x : Island}
/-- c comes before d -/
def bef (b : Board) (c d : Int) : Prop := prf b c < prf b d ∨ prf b c = prf b d ∧ c < d
theorem bef_asymm {c d : Int} (h : bef b c d) (h' : bef b d c) : False := by
  unfold bef at h h'
  omega
theorem bef_irrefl {c : Int} (h : bef b c c) : False := bef_asymm h h
theorem ord_bef {i k : Nat} (hik : i < k) (hk : k < (ordL b).length) : bef b (gt (ordL b) i) (gt (ordL b) k) := by
  have h := List.pairwise_iff_getElem.1 (ordL_spec b).1 i k (by omega) hk hik
  rw [gt_get (show i < (ordL b).length by omega), gt_get hk]
  exact h
theorem own_bef {i k : Nat} (hik : i < k) (hk : k < (ownL b x).length) : bef b (gt (ownL b x) i) (gt (ownL b x) k) := by
  have h := List.pairwise_iff_getElem.1 ((ordL_spec b).1.sublist (List.filter_sublist (p := fun c => decide (c ∈ x.Consumers)))) i k (by
    show i < (ownL b x).length
    omega) hk hik
  rw [gt_get (show i < (ownL b x).length by omega), gt_get hk]
  exact h
theorem ord_lt {i k : Nat} (hi : i < (ordL b).length) (h : bef b (gt (ordL b) i) (gt (ordL b) k)) : i < k := by
  rcases Nat.lt_trichotomy i k with c | c | c
  · exact c
  · subst c; exact (bef_irrefl h).elim
  · exact (bef_asymm h (ord_bef c hi)).elim
theorem own_lt {i k : Nat} (hi : i < (ownL b x).length) (h : bef b (gt (ownL b x) i) (gt (ownL b x) k)) : i < k := by
  rcases Nat.lt_trichotomy i k with c | c | c
  · exact c
  · subst c; exact (bef_irrefl h).elim
  · exact (bef_asymm h (own_bef c hi)).elim
theorem Shd.ordB (hr : Row b x (ownL b x)) (h : Shd b p x L T) {c d : Int} (hc : c ∈ x.Consumers) (hd : d ∈ x.Consumers) (hb : bef b c d) (hT : d ∈ T) : c ∈ T ∨ gt L c.toNat = 0 := by
  obtain ⟨i, hi, rfl⟩ := hr.idx hc
  obtain ⟨j, hj, rfl⟩ := hr.idx hd
  exact h.tord i j (own_lt hi hb) hj hT
theorem Shd.lastB (hr : Row b x (ownL b x)) (h : Shd b p x L T) {d : Int} (hd : d ∈ x.Consumers) (hT : d ∈ T) (hl : ∀ c ∈ x.Consumers, bef b d c → c ∉ T) : rateI b x < sumT x T L + gt L d.toNat := by
  obtain ⟨j, hj, rfl⟩ := hr.idx hd
  exact h.tlast j hj hT fun i h1 h2 => hl _ (hr.at h2).1 (own_bef h1 h2)
/-- where somebody is tripped all is as low as it can be -/
theorem Shd.low (h : Shd b p x L T) {d : Int} (hd : d ∈ x.Consumers) (hT : d ∈ T) {c : Int} (hc : c ∈ x.Consumers) : gt L c.toNat ≤ (gt b.Consumers c.toNat).Least := by
  rcases h.le with g | g
  · exact (h.tz g d hd hT).elim
  · exact g c hc
theorem con_led (h : stt b p = 0) (hx : x ∈ isl b p) {c : Int} (hc : c ∈ x.Consumers) : (led b p 3 c).2 = true := by
  obtain ⟨f, hf, rfl, _⟩ := mem_isl.1 hx
  obtain ⟨j, _, hj, _, rfl⟩ := mem_con.1 hc
  exact hj
/-- of an island's consumers those that are not tripped are fed -/
theorem fed_shd (h : stt b p = 0) (hL : LimOk p L) (hx : x ∈ isl b p) {c : Int} (hc : c ∈ x.Consumers) : (fedB b (stq b p L T) c).2 = !decide (c ∈ T) := by
  unfold fedB
  rw [if_pos (stt_q h hL T)]
  by_cases hT : c ∈ T
  · rw [led_qT h L hT, decide_eq_true hT]; rfl
  · rw [led_q h L hT, con_led h hx hc, decide_eq_false hT]; rfl
/-- in an island without sources nobody is tripped -/
theorem trip_src (hO : One b p x L T) {c : Int} (hc : c ∈ x.Consumers) (hT : c ∈ T) : Shd b p x L T := by
  by_cases hs : x.Sources = []
  · exact ((hO.1 hs c hc).2 hT).elim
  · exact hO.2 hs
theorem refhas_eq (l : List Int) (a : Int) (hl : l.length ≤ 1000000000) : dynposref01_Has l a = some (decide (a ∈ l)) := by
  unfold dynposref01_Has
  have e := loop_anyB (step := dynposref01_Has_L1 l a) (fun k => (k : Int)) l.length (fun k => gt l k = a) (r := Sum.inr true) (e := Sum.inl ()) (fun k hk hp => by
    unfold dynposref01_Has_L1
    simp only [lt_len hk, if_true, idx_gt hk, Option.bind_some]
    rw [beqF hp, W_succ (by omega)]
    rfl) (fun k hk hp => by
    unfold dynposref01_Has_L1
    simp only [lt_len hk, if_true, idx_gt hk, Option.bind_some]
    rw [beqT hp]
    rfl) (by
    unfold dynposref01_Has_L1
    simp only [nlt_len, Bool.false_eq_true, if_false])
  have e' : loopO (dynposref01_Has_L1 l a) 0 = _ := e
  rw [e']
  have hm : dB (∃ i, i < l.length ∧ gt l i = a) = decide (a ∈ l) := by
    by_cases hm : a ∈ l
    · rw [dB_T (mem_iff_gt.1 hm), decide_eq_true hm]
    · rw [dB_F fun hh => hm (mem_iff_gt.2 hh), decide_eq_false hm]
  rw [hm]
  cases decide (a ∈ l) <;> rfl
theorem left_snoc1 (T l : List Int) (c : Int) : left T (l ++ [c]) = left T l ++ if c ∈ T then [] else [c] := by
  unfold left
  rw [List.filter_append]
  by_cases hc : c ∈ T <;> simp [hc]
end
end Rx
end Go.Proofs.YtfnphdhcgkondaaGreat
