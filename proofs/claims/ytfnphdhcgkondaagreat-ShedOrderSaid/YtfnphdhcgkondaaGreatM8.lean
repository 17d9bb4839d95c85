/- The board: generators connected, consumers fed. -/
import Derived.Test.YtfnphdhcgkondaaGreatM6
set_option linter.unusedVariables false
set_option linter.unusedSimpArgs false
namespace Go.Proofs.YtfnphdhcgkondaaGreat
open Go Go.RowKit Dp
namespace Rx
section
variable {b : Board} {p : Power}
end

section
variable {b : Board} {p : Power}
end
end Rx
end Go.Proofs.YtfnphdhcgkondaaGreat
