/- States compared; generators that agree with themselves. Plain laws. -/
import Derived.Test.YtfnphdhcgkondaaGreatS3s
set_option linter.unusedVariables false
set_option linter.unusedSimpArgs false
namespace Go.Proofs.YtfnphdhcgkondaaGreat
open Go Go.RowKit Dp
namespace Rx
open Classical

section
variable {b : Board} {p : Power}
end
theorem sm_fol {b : Board} {p : Power} (h : SmP p) : SmP (folP b p) := ⟨h.1, by show Sm (folL b p); unfold Sm; rw [folL_len]; exact h.2.1, h.2.2.1, h.2.2.2⟩
end Rx
end Go.Proofs.YtfnphdhcgkondaaGreat
