/- Before and behind in the order; who is fed behind shedding. -/
import Derived.Test.YtfnphdhcgkondaaGreatH8
set_option linter.unusedVariables false
set_option linter.unusedSimpArgs false
namespace Go.Proofs.YtfnphdhcgkondaaGreat
open Go Go.RowKit Dp
namespace Rx
section
variable {b : Board} {p : Power} {L T : List Int} {x : Island}
/-- c comes before d -/
def bef (b : Board) (c d : Int) : Prop := prf b c < prf b d ∨ prf b c = prf b d ∧ c < d
theorem bef_asymm {c d : Int} (h : bef b c d) (h' : bef b d c) : False := by
  unfold bef at h h'
  omega
theorem bef_irrefl {c : Int} (h : bef b c c) : False := bef_asymm h h
theorem own_bef {i k : Nat} (hik : i < k) (hk : k < (ownL b x).length) : bef b (gt (ownL b x) i) (gt (ownL b x) k) := by
  have h := List.pairwise_iff_getElem.1 ((ordL_spec b).1.sublist (List.filter_sublist (p := fun c => decide (c ∈ x.Consumers)))) i k (by
    show i < (ownL b x).length
    omega) hk hik
  rw [gt_get (show i < (ownL b x).length by omega), gt_get hk]
  exact h
theorem own_lt {i k : Nat} (hi : i < (ownL b x).length) (h : bef b (gt (ownL b x) i) (gt (ownL b x) k)) : i < k := by
  rcases Nat.lt_trichotomy i k with c | c | c
  · exact c
  · subst c; exact (bef_irrefl h).elim
  · exact (bef_asymm h (own_bef c hi)).elim
theorem Shd.ordB (hr : Row b x (ownL b x)) (h : Shd b p x L T) {c d : Int} (hc : c ∈ x.Consumers) (hd : d ∈ x.Consumers) (hb : bef b c d) (hT : d ∈ T) : c ∈ T ∨ gt L c.toNat = 0 := by
  obtain ⟨i, hi, rfl⟩ := hr.idx hc
  obtain ⟨j, hj, rfl⟩ := hr.idx hd
  exact h.tord i j (own_lt hi hb) hj hT
theorem Shd.lordB (hr : Row b x (ownL b x)) (h : Shd b p x L T) {c d : Int} (hc : c ∈ x.Consumers) (hd : d ∈ x.Consumers) (hb : bef b c d) (hl : gt L d.toNat < gt p.Limits d.toNat) : gt L c.toNat ≤ (gt b.Consumers c.toNat).Least := by
  obtain ⟨i, hi, rfl⟩ := hr.idx hc
  obtain ⟨j, hj, rfl⟩ := hr.idx hd
  exact h.lord i j (own_lt hi hb) hj hl
/-- where somebody is tripped all is as low as it can be -/
theorem Shd.low (h : Shd b p x L T) {d : Int} (hd : d ∈ x.Consumers) (hT : d ∈ T) {c : Int} (hc : c ∈ x.Consumers) : gt L c.toNat ≤ (gt b.Consumers c.toNat).Least := by
  rcases h.le with g | g
  · exact (h.tz g d hd hT).elim
  · exact g c hc
theorem con_led (h : stt b p = 0) (hx : x ∈ isl b p) {c : Int} (hc : c ∈ x.Consumers) : (led b p 3 c).2 = true := by
  obtain ⟨f, hf, rfl, _⟩ := mem_isl.1 hx
  obtain ⟨j, _, hj, _, rfl⟩ := mem_con.1 hc
  exact hj
/-- of an island's consumers those that are not tripped are fed -/
theorem fed_shd (h : stt b p = 0) (hL : LimOk p L) (hx : x ∈ isl b p) {c : Int} (hc : c ∈ x.Consumers) : (fedB b (stq b p L T) c).2 = !decide (c ∈ T) := by
  unfold fedB
  rw [if_pos (stt_q h hL T)]
  by_cases hT : c ∈ T
  · rw [led_qT h L hT, decide_eq_true hT]; rfl
  · rw [led_q h L hT, con_led h hx hc, decide_eq_false hT]; rfl
end
end Rx
end Go.Proofs.YtfnphdhcgkondaaGreat
