/- What shedding leaves in all islands. Plain laws, no program in sight. -/
import Derived.Test.YtfnphdhcgkondaaGreatH5
set_option linter.unusedVariables false
set_option linter.unusedSimpArgs false
namespace Go.Proofs.YtfnphdhcgkondaaGreat
open Go Go.RowKit Dp
namespace Rx
section
variable {b : Board} {p : Power} {L T : List Int} {x : Island}
/-- an island with sources behind shedding -/
structure Shd (b : Board) (p : Power) (x : Island) (L T : List Int) : Prop where
  lo : ∀ c ∈ x.Consumers, gt L c.toNat = gt p.Limits c.toNat ∨ gt L c.toNat < gt p.Limits c.toNat ∧ (gt b.Consumers c.toNat).Least ≤ gt L c.toNat
  ge : rateI b x ≤ sumT x [] L ∨ ∀ c ∈ x.Consumers, gt L c.toNat = gt p.Limits c.toNat
  le : sumT x [] L ≤ rateI b x ∨ ∀ c ∈ x.Consumers, gt L c.toNat ≤ (gt b.Consumers c.toNat).Least
  lord : ∀ i j, i < j → j < (ownL b x).length → gt L (gt (ownL b x) j).toNat < gt p.Limits (gt (ownL b x) j).toNat → gt L (gt (ownL b x) i).toNat ≤ (gt b.Consumers (gt (ownL b x) i).toNat).Least
  tz : sumT x [] L ≤ rateI b x → ∀ c ∈ x.Consumers, c ∉ T
  tpos : ∀ c ∈ x.Consumers, c ∈ T → 0 < gt L c.toNat
  tord : ∀ i j, i < j → j < (ownL b x).length → gt (ownL b x) j ∈ T → gt (ownL b x) i ∈ T ∨ gt L (gt (ownL b x) i).toNat = 0
  tlast : ∀ j, j < (ownL b x).length → gt (ownL b x) j ∈ T → (∀ i, j < i → i < (ownL b x).length → gt (ownL b x) i ∉ T) → rateI b x < sumT x T L + gt L (gt (ownL b x) j).toNat
  fin : sumT x T L ≤ rateI b x
/-- an island that is left as it is -/
def Kpt (p : Power) (x : Island) (L T : List Int) : Prop := ∀ c ∈ x.Consumers, gt L c.toNat = gt p.Limits c.toNat ∧ c ∉ T
theorem Shd.congr (hr : Row b x (ownL b x)) {L' T' : List Int} (hL : ∀ c ∈ x.Consumers, gt L' c.toNat = gt L c.toNat) (hT : ∀ c ∈ x.Consumers, c ∈ T' ↔ c ∈ T) (h : Shd b p x L T) : Shd b p x L' T' := by
  have e0 : sumT x [] L' = sumT x [] L := sumT_congr hL fun _ _ => Iff.rfl
  have e1 : sumT x T' L' = sumT x T L := sumT_congr hL hT
  refine ⟨fun c hc => ?_, ?_, ?_, fun i j hij hj => ?_, fun h0 c hc => ?_, fun c hc => ?_, fun i j hij hj => ?_, fun j hj => ?_, ?_⟩
  · rw [hL c hc]; exact h.lo c hc
  · rw [e0]
    exact h.ge.imp id fun g c hc => by rw [hL c hc]; exact g c hc
  · rw [e0]
    exact h.le.imp id fun g c hc => by rw [hL c hc]; exact g c hc
  · rw [hL _ (hr.at hj).1, hL _ (hr.at (i := i) (by omega)).1]
    exact h.lord i j hij hj
  · rw [hT c hc]
    exact h.tz (by rw [← e0]; exact h0) c hc
  · rw [hT c hc, hL c hc]
    exact h.tpos c hc
  · rw [hT _ (hr.at hj).1, hT _ (hr.at (i := i) (by omega)).1, hL _ (hr.at (i := i) (by omega)).1]
    exact h.tord i j hij hj
  · rw [hT _ (hr.at hj).1, e1, hL _ (hr.at hj).1]
    exact fun hm hl => h.tlast j hj hm fun i h1 h2 hm' => hl i h1 h2 ((hT _ (hr.at h2).1).2 hm')
  · rw [e1]; exact h.fin
theorem Row.idx {o : List Int} (hr : Row b x o) {c : Int} (hc : c ∈ x.Consumers) : ∃ i, i < o.length ∧ gt o i = c := mem_gt ((hr.mem c).2 hc)
/-! islands have no consumer in common -/
/-- one island's share of it -/
def One (b : Board) (p : Power) (x : Island) (L T : List Int) : Prop := (x.Sources = [] → Kpt p x L T) ∧ (x.Sources ≠ [] → Shd b p x L T)
theorem One.congr (hr : Row b x (ownL b x)) {L' T' : List Int} (hL : ∀ c ∈ x.Consumers, gt L' c.toNat = gt L c.toNat) (hT : ∀ c ∈ x.Consumers, c ∈ T' ↔ c ∈ T) (h : One b p x L T) : One b p x L' T' :=
  ⟨fun hs c hc => by rw [hL c hc, hT c hc]; exact h.1 hs c hc, fun hs => (h.2 hs).congr hr hL hT⟩
theorem shAll_ok (h : stt b p = 0) : LimOk p (shAll b p).1 := by
  have := (shA_ok h (isl b p).length (Nat.le_refl _)).1
  rw [List.take_length] at this
  exact this
theorem stt_shd (h : stt b p = 0) : stt b (shdP b p) = 0 := stt_q h (shAll_ok h) _
theorem sm_shd (hp : SmP p) (h : stt b p = 0) : SmP (shdP b p) := sm_q hp (shAll_ok h) _
end
end Rx
end Go.Proofs.YtfnphdhcgkondaaGreat
