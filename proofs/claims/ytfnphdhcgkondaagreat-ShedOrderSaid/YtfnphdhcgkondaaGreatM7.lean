/- Board: what board.Live and board.Find answer. Plain laws. -/
import Derived.Test.YtfnphdhcgkondaaGreatM6
set_option linter.unusedVariables false
set_option linter.unusedSimpArgs false
namespace Go.Proofs.YtfnphdhcgkondaaGreat
open Go Go.RowKit Dp
namespace Rx

section
variable {b : Board} {p : Power}
/-! breakers found -/
end
end Rx
end Go.Proofs.YtfnphdhcgkondaaGreat
