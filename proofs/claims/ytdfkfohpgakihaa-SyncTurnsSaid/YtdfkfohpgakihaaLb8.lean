/- Board: what board.Connected answers. -/
import Derived.Test.YtdfkfohpgakihaaLb6
set_option linter.unusedVariables false
set_option linter.unusedSimpArgs false
namespace Go.Proofs.Ytdfkfohpgakihaa
open Go Go.RowKit Dp
section
variable {b : Board} {p : Power}
theorem connB_eq (hb : SmB b) (hp : SmP p) (j : Int) : board_Connected b p j = some (connB b p j) := by
  unfold board_Connected connB
  rw [state_eq hb hp]
  by_cases h : stt b p = 0
  · rw [if_pos h, h]
    simp only [Option.bind_some, bne_self_eq_false, Bool.false_eq_true, if_false, connected_eq hb.1 hp.2.1 (stt_zero.1 h).2.1.1]
  · have : (stt b p != 0) = true := by simpa using h
    simp only [Option.bind_some, this, if_true, if_neg h]
end
end Go.Proofs.Ytdfkfohpgakihaa
