/- Before and behind in the order; who is fed behind shedding. -/
import Derived.Test.YtfnphdhcgkondaaGreatH8
set_option linter.unusedVariables false
set_option linter.unusedSimpArgs false
namespace Go.Proofs.YtfnphdhcgkondaaGreat
open Go Go.RowKit Dp
namespace Rx
section
variable {b : Board} {p : Power} {L T : List Int} {x : Island}
/-- where somebody is tripped all is as low as it can be -/
theorem Shd.low (h : Shd b p x L T) {d : Int} (hd : d ∈ x.Consumers) (hT : d ∈ T) {c : Int} (hc : c ∈ x.Consumers) : gt L c.toNat ≤ (gt b.Consumers c.toNat).Least := by
  rcases h.le with g | g
  · exact (h.tz g d hd hT).elim
  · exact g c hc
end
end Rx
end Go.Proofs.YtfnphdhcgkondaaGreat
