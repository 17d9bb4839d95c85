/- The reference's load and rating; sums of an island behind shedding. -/
import Derived.Test.YtfnphdhcgkondaaGreatH6
set_option linter.unusedVariables false
set_option linter.unusedSimpArgs false
namespace Go.Proofs.YtfnphdhcgkondaaGreat
open Go Go.RowKit Dp
namespace Rx
section
variable {b : Board} {p : Power} {L T : List Int} {x : Island}
end
end Rx
end Go.Proofs.YtfnphdhcgkondaaGreat
