/- Board: what board.Live and board.Find answer. Plain laws. -/
import Derived.Test.YtfnphdhcgkondaaGreatM6
set_option linter.unusedVariables false
set_option linter.unusedSimpArgs false
namespace Go.Proofs.YtfnphdhcgkondaaGreat
open Go Go.RowKit Dp
namespace Rx

section
variable {b : Board} {p : Power}
theorem live_eq (hb : SmB b) (hp : SmP p) (k : Int) : board_Live b p k = some (decide (0 < (ofB b p k).1.Sources.length)) := by
  unfold board_Live
  rw [of_eq hb hp]
  simp only [Option.bind_some, Option.bind_fun_some, Sum.elim_inl, Sum.elim_inr, eqO_self]
  congr 1
  rw [decide_eq_decide]
  simp only [ofT, len]
  omega
/-! breakers found -/
noncomputable def findB (b : Board) (kind j : Int) : List Int := if chk b = 0 then rangeF (findP b kind j) b.Breakers.length else []
end
end Rx
end Go.Proofs.YtfnphdhcgkondaaGreat
