/- Plain functions typed by hand. -/
import Derived.Test.YtdfkfohpgakihaaTd
set_option linter.unusedVariables false
set_option linter.unusedSimpArgs false
namespace Go.Proofs.Ytdfkfohpgakihaa
open Go Go.RowKit Dp

/-- a number from 0 to n - 1 -/
noncomputable def modO (x n : Int) : Option Int :=
  if n < 1 then some 0 else (remO x n).bind fun y => remO (W (y + n)) n
/-- the next number of a source: st is what is left -/
noncomputable def Src_N (st : List Int) (n : Int) : Option (Int × List Int) :=
  match st with
  | [] => some (0, [])
  | x :: r => (modO x n).bind fun y => some (y, r)

/-- the numbers that a source gives out -/
noncomputable def dynposmake_New (a0 : List Int) : Option (List Int) := slc a0 0 (if 600 < len a0 then 600 else len a0)

end Go.Proofs.Ytdfkfohpgakihaa
