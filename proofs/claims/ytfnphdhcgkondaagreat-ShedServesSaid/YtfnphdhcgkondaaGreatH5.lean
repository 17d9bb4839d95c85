/- What shedding leaves in an island. Plain laws, no program in sight. -/
import Derived.Test.YtfnphdhcgkondaaGreatH4
set_option linter.unusedVariables false
set_option linter.unusedSimpArgs false
namespace Go.Proofs.YtfnphdhcgkondaaGreat
open Go Go.RowKit Dp
namespace Rx
section
variable {b : Board} {p : Power} {L T : List Int} {x : Island}
theorem sumF_cons (f : Nat → Int) (a : Int) (l : List Int) : sumF f (a :: l) = f a.toNat + sumF f l := rfl
theorem sumF_congr {f g : Nat → Int} : ∀ {l : List Int}, (∀ c ∈ l, f c.toNat = g c.toNat) → sumF f l = sumF g l
  | [], _ => rfl
  | a :: l, h => by rw [sumF_cons, sumF_cons, h a (by simp), sumF_congr fun c hc => h c (by simp [hc])]
theorem left_congr {T T' l : List Int} (h : ∀ c ∈ l, c ∈ T ↔ c ∈ T') : left T l = left T' l := by
  unfold left
  refine List.filter_congr fun c hc => ?_
  rw [decide_eq_decide.2 (h c hc)]
/-- what an island draws -/
def sumT (x : Island) (T L : List Int) : Int := sumF (gt L) (left T x.Consumers)
theorem sumT_congr {L L' T T' : List Int} (hL : ∀ c ∈ x.Consumers, gt L c.toNat = gt L' c.toNat) (hT : ∀ c ∈ x.Consumers, c ∈ T ↔ c ∈ T') : sumT x T L = sumT x T' L' := by
  unfold sumT
  rw [left_congr hT]
  exact sumF_congr fun c hc => hL c (left_sub hc).1
/-- consumers of an island in a row -/
structure Row (b : Board) (x : Island) (o : List Int) : Prop where
  nd : x.Consumers.Nodup
  ond : o.Nodup
  mem : ∀ c, c ∈ o ↔ c ∈ x.Consumers
  bd : ∀ c ∈ x.Consumers, 0 ≤ c ∧ c < (b.Consumers.length : Int)
theorem Row.at {o : List Int} (h : Row b x o) {i : Nat} (hi : i < o.length) : gt o i ∈ x.Consumers ∧ 0 ≤ gt o i ∧ gt o i < (b.Consumers.length : Int) := by
  have := (h.mem _).1 (gt_mem hi)
  exact ⟨this, h.bd _ this⟩
/-- behind lowering n of them -/
structure LowF (b : Board) (x : Island) (T L0 L : List Int) (o : List Int) (n : Nat) : Prop where
  out : ∀ k : Nat, (∀ i, i < n → gt o i ≠ (k : Int)) → gt L k = gt L0 k
  lo : ∀ i, i < n → gt L (gt o i).toNat = gt L0 (gt o i).toNat ∨ gt L (gt o i).toNat < gt L0 (gt o i).toNat ∧ (gt b.Consumers (gt o i).toNat).Least ≤ gt L (gt o i).toNat
  ge : rateI b x ≤ sumT x T L ∨ L = L0
  le : sumT x T L ≤ rateI b x ∨ ∀ i, i < n → gt L (gt o i).toNat ≤ (gt b.Consumers (gt o i).toNat).Least
  lord : ∀ i j, i < j → j < n → gt L (gt o j).toNat < gt L0 (gt o j).toNat → gt L (gt o i).toNat ≤ (gt b.Consumers (gt o i).toNat).Least
/-- behind tripping among n of them -/
structure TripF (b : Board) (x : Island) (L T0 T : List Int) (o : List Int) (n : Nat) : Prop where
  out : ∀ c, (∀ i, i < n → gt o i ≠ c) → (c ∈ T ↔ c ∈ T0)
  pos : ∀ i, i < n → gt o i ∈ T → 0 < gt L (gt o i).toNat
  le : sumT x T L ≤ rateI b x ∨ ∀ i, i < n → gt o i ∈ T ∨ gt L (gt o i).toNat = 0
  ord : ∀ i j, i < j → j < n → gt o j ∈ T → gt o i ∈ T ∨ gt L (gt o i).toNat = 0
  last : ∀ j, j < n → gt o j ∈ T → (∀ i, j < i → i < n → gt o i ∉ T) → rateI b x < sumT x T L + gt L (gt o j).toNat
  none : sumT x T0 L ≤ rateI b x → T = T0
end
end Rx
end Go.Proofs.YtfnphdhcgkondaaGreat
