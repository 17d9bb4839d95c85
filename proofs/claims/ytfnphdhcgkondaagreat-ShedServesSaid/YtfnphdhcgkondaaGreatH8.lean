/- The reference's clearing; what clearing leaves. -/
import Derived.Test.YtfnphdhcgkondaaGreatH7
set_option linter.unusedVariables false
set_option linter.unusedSimpArgs false
namespace Go.Proofs.YtfnphdhcgkondaaGreat
open Go Go.RowKit Dp
namespace Rx
section
variable {b : Board} {p : Power}
theorem same_clrP (h : stt b p = 0) : SameT b (clr1 b p) (clrP b p) := (same_clr2 h).trans (same_fol (stt_clr2 h))
theorem stt_clrP (h : stt b p = 0) : stt b (clrP b p) = 0 := stt_fol (stt_clr2 h)
theorem sm_clrP (hp : SmP p) : SmP (clrP b p) := sm_fol (sm_clr2 hp)
end
end Rx
end Go.Proofs.YtfnphdhcgkondaaGreat
