/- Roster: without whom the load is low, when it is high, a step. Plain laws. -/
import Derived.Test.YtcekgnnekooohaaY2
set_option linter.unusedVariables false
set_option linter.unusedSimpArgs false
namespace Go.Proofs.Ytcekgnnekooohaa
open Go Go.RowKit Dp
namespace Rx
open Classical

section
variable {b : Board} {p : Power}
theorem since_eq (a : Int) (c : Bool) (tm : Int) : roster_since a c tm = some (if c = true then (if a = -1 then tm else a) else -1) := by
  unfold roster_since
  cases c with
  | false => rfl
  | true => by_cases h : a = -1 <;> simp [h]
noncomputable def startA (b : Board) (p : Power) (k : Int) (j : Nat) : List Act := if (gt p.Sources j).State = 0 then [⟨3, j, 0⟩] else if (gt p.Sources j).State = 2 then [⟨6, j, (connB b p (lead b p k).1).1⟩, ⟨1, bk b j, 0⟩] else []
end
end Rx
end Go.Proofs.Ytcekgnnekooohaa
