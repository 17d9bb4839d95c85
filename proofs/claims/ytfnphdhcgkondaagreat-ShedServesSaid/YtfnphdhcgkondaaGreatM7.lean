/- Board: what board.Live and board.Find answer. Plain laws. The board: generators connected, consumers fed. -/
import Derived.Test.YtfnphdhcgkondaaGreatM6
set_option linter.unusedVariables false
set_option linter.unusedSimpArgs false
namespace Go.Proofs.YtfnphdhcgkondaaGreat
open Go Go.RowKit Dp
namespace Rx

section
variable {b : Board} {p : Power}
theorem live_eq (hb : SmB b) (hp : SmP p) (k : Int) : board_Live b p k = some (decide (0 < (ofB b p k).1.Sources.length)) := by
  unfold board_Live
  rw [of_eq hb hp]
  simp only [Option.bind_some, Option.bind_fun_some, Sum.elim_inl, Sum.elim_inr, eqO_self]
  congr 1
  rw [decide_eq_decide]
  simp only [ofT, len]
  omega
/-! breakers found -/
end
end Rx
end Go.Proofs.YtfnphdhcgkondaaGreat
namespace Go.Proofs.YtfnphdhcgkondaaGreat
open Go Go.RowKit Dp
namespace Rx
section
variable {b : Board} {p : Power}
theorem fedB_eq (hb : SmB b) (hp : SmP p) (j : Int) : board_Fed b p j = some (fedB b p j) := by
  unfold board_Fed fedB
  rw [state_eq hb hp]
  by_cases h : stt b p = 0
  · rw [if_pos h, h]
    simp only [Option.bind_some, Option.bind_fun_some, Sum.elim_inl, Sum.elim_inr, eqO_self, bne_self_eq_false, Bool.false_eq_true, if_false, fed_eq hb.1 (stt_zero.1 h).2.1.1]
  · have : (stt b p != 0) = true := by simpa using h
    simp only [Option.bind_some, Option.bind_fun_some, Sum.elim_inl, Sum.elim_inr, eqO_self, this, if_true, if_neg h]

end

section
variable {b : Board} {p : Power}
end
end Rx
end Go.Proofs.YtfnphdhcgkondaaGreat
