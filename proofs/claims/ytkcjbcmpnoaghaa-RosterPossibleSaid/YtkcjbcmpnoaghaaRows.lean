/-
  No cell of these rows narrows 'for every input' (looked for: loops, veiled, ifaces, maps, wideKeys, modest, calm, conditions, laid).
  DERIVED. THE GIVEN ROWS OF THIS SEAT. 4 by the template 'for every input the law returns true; each argument reads behind the call as it read before'; 0 by the template 'total and deterministic' (their statements: YtkcjbcmpnoaghaaTotals.lean).
  GIVEN WITH THE SEED: the statements are not yours to turn. If you find one false, say at which input.
  Laid BY PROGRAM, IN A SANDBOX (cutbox-rows.mjs): the forced cells as the released guide's own fill.sh prints them over the translation 5d97c83385516937… (all of the seat's roots in one cut). By AI agents, Wed Nov 11 2026. No macro, syntax, notation, axiom, sorry.
-/
import Derived.Test.YtkcjbcmpnoaghaaChecked
import GoSem.Claim
import GoSem.ClaimJoined
import GoSem.ClaimMapViews
import Derived.JoinedTies
import Derived.KernelRfl
namespace Go.Proofs.Ytkcjbcmpnoaghaa
/- THE CELL 'sum', in the pinned program and in every row, IS THE sha256 OF THE DUMP (.gsa) THAT YtkcjbcmpnoaghaaProg.lean LOADS. Nothing in Lean hashes anything: it is a label: what it is worth is what the hold of that sum in a sandbox is worth. -/
noncomputable def Try.pinned : Pinned := { name := "ytkcjbcmpnoaghaa", sum := "5d97c8338551693712908b4827061684c3570a71bc60f9bd602cea3f9c9cf751", checked := Try.checked }
namespace Rows
def none {H : Type} : Left H := { results := [], args := [] }

/-- 'dynposlaw19.RosterHelps': WHATEVER THE INPUT: true; the input reads as it did. -/
def rosterHelpsSpec : ChangeSpec := { name := "rosterHelps", fn := fun _ => fun
  | [d] => { results := [.lit (.bool true)], args := [d] }
  | _ => none }
def rosterHelpsRow : OpenClaim := { program := "ytkcjbcmpnoaghaa", sum := "5d97c8338551693712908b4827061684c3570a71bc60f9bd602cea3f9c9cf751", func := "dynpos/dynposlaw19.RosterHelps", spec := "rosterHelps", unfollowed := true, recurses := true, apart := false }
def RosterHelpsSaid : Prop := rosterHelpsRow.holds Try.pinned (OpenSpec.ofChange rosterHelpsSpec)

/-- ITS FALSE NEIGHBOUR: 'it returns false'. Refute it at one input. -/
def rosterHelpsWrong : ChangeSpec := { name := "rosterHelps", fn := fun _ => fun
  | [d] => { results := [.lit (.bool false)], args := [d] }
  | _ => none }
def RosterHelpsWrongFalsely : Prop := rosterHelpsRow.holds Try.pinned (OpenSpec.ofChange rosterHelpsWrong)

/-- 'dynposlaw19.RosterExact': WHATEVER THE INPUT: true; the input reads as it did. -/
def rosterExactSpec : ChangeSpec := { name := "rosterExact", fn := fun _ => fun
  | [d1, d2, d3, d4, d5, d6, d7] => { results := [.lit (.bool true)], args := [d1, d2, d3, d4, d5, d6, d7] }
  | _ => none }
def rosterExactRow : OpenClaim := { program := "ytkcjbcmpnoaghaa", sum := "5d97c8338551693712908b4827061684c3570a71bc60f9bd602cea3f9c9cf751", func := "dynpos/dynposlaw19.RosterExact", spec := "rosterExact", unfollowed := true, recurses := true, apart := false }
def RosterExactSaid : Prop := rosterExactRow.holds Try.pinned (OpenSpec.ofChange rosterExactSpec)

/-- ITS FALSE NEIGHBOUR: 'it returns false'. Refute it at one input. -/
def rosterExactWrong : ChangeSpec := { name := "rosterExact", fn := fun _ => fun
  | [d1, d2, d3, d4, d5, d6, d7] => { results := [.lit (.bool false)], args := [d1, d2, d3, d4, d5, d6, d7] }
  | _ => none }
def RosterExactWrongFalsely : Prop := rosterExactRow.holds Try.pinned (OpenSpec.ofChange rosterExactWrong)

/-- 'dynposlaw19.RosterPossible': WHATEVER THE INPUT: true; the input reads as it did. -/
def rosterPossibleSpec : ChangeSpec := { name := "rosterPossible", fn := fun _ => fun
  | [d] => { results := [.lit (.bool true)], args := [d] }
  | _ => none }
def rosterPossibleRow : OpenClaim := { program := "ytkcjbcmpnoaghaa", sum := "5d97c8338551693712908b4827061684c3570a71bc60f9bd602cea3f9c9cf751", func := "dynpos/dynposlaw19.RosterPossible", spec := "rosterPossible", unfollowed := true, recurses := true, apart := false }
def RosterPossibleSaid : Prop := rosterPossibleRow.holds Try.pinned (OpenSpec.ofChange rosterPossibleSpec)

/-- ITS FALSE NEIGHBOUR: 'it returns false'. Refute it at one input. -/
def rosterPossibleWrong : ChangeSpec := { name := "rosterPossible", fn := fun _ => fun
  | [d] => { results := [.lit (.bool false)], args := [d] }
  | _ => none }
def RosterPossibleWrongFalsely : Prop := rosterPossibleRow.holds Try.pinned (OpenSpec.ofChange rosterPossibleWrong)

/-- 'dynposlaw19.RosterCalm': WHATEVER THE INPUT: true; the input reads as it did. -/
def rosterCalmSpec : ChangeSpec := { name := "rosterCalm", fn := fun _ => fun
  | [d] => { results := [.lit (.bool true)], args := [d] }
  | _ => none }
def rosterCalmRow : OpenClaim := { program := "ytkcjbcmpnoaghaa", sum := "5d97c8338551693712908b4827061684c3570a71bc60f9bd602cea3f9c9cf751", func := "dynpos/dynposlaw19.RosterCalm", spec := "rosterCalm", unfollowed := true, recurses := true, apart := false }
def RosterCalmSaid : Prop := rosterCalmRow.holds Try.pinned (OpenSpec.ofChange rosterCalmSpec)

/-- ITS FALSE NEIGHBOUR: 'it returns false'. Refute it at one input. -/
def rosterCalmWrong : ChangeSpec := { name := "rosterCalm", fn := fun _ => fun
  | [d] => { results := [.lit (.bool false)], args := [d] }
  | _ => none }
def RosterCalmWrongFalsely : Prop := rosterCalmRow.holds Try.pinned (OpenSpec.ofChange rosterCalmWrong)

/- THE SECOND FORM. 'bulk': how many values and letters a reading holds, each counted each time it is reached (what is shared counts as often as it is met; a slice's spare places count too). A statement '..UptoSaid' is the law's where the arguments, and the package variables that the reading takes, are together of bulk at most 1048576: NARROWER than '..Said'. Prove '..Said' where nothing that the law and all that it calls make is longer than what came in: it says more and counts as full. Else prove '..UptoSaid'. A law counts once. -/
mutual
def uptoBulk {H : Type} : DataW H → Nat
  | .lit (.string bytes) => bytes.length + 1
  | .lit _ => 1
  | .nil => 1
  | .ptr d => uptoBulk d + 1
  | .slice elems spare => uptoBulkAll elems + uptoBulkAll spare + 1
  | .agg parts => uptoBulkAll parts + 1
  | .iface _ d => uptoBulk d + 1
  | .map entries => uptoBulkEntries entries + 1
  | .held _ => 1
def uptoBulkAll {H : Type} : List (DataW H) → Nat
  | [] => 0
  | d :: r => uptoBulk d + uptoBulkAll r
def uptoBulkEntries {H : Type} : List (Lit × DataW H) → Nat
  | [] => 0
  | x :: r => uptoBulkEntry x + uptoBulkEntries r
def uptoBulkEntry {H : Type} : Lit × DataW H → Nat
  | (.string bytes, d) => bytes.length + uptoBulk d + 1
  | (_, d) => uptoBulk d + 1
 end
def uptoSmall : (H : Type) → List (DataW H) → Bool := fun _ ds => decide (uptoBulkAll ds ≤ 1048576)
def OpenSpec.upto (s : _root_.Go.ChangeSpec) : _root_.Go.OpenSpec := { _root_.Go.OpenSpec.ofChange s with cond := some uptoSmall }

/-- 'dynposlaw19.RosterHelps', WHERE WHAT IT READS IS OF BULK AT MOST 1048576: true; the input reads as it did. -/
def rosterHelpsUptoRow : OpenClaim := { program := "ytkcjbcmpnoaghaa", sum := "5d97c8338551693712908b4827061684c3570a71bc60f9bd602cea3f9c9cf751", func := "dynpos/dynposlaw19.RosterHelps", spec := "rosterHelps", unfollowed := true, recurses := true, apart := false, narrowed := true }
def RosterHelpsUptoSaid : Prop := rosterHelpsUptoRow.holds Try.pinned (OpenSpec.upto rosterHelpsSpec)

/-- 'dynposlaw19.RosterExact', WHERE WHAT IT READS IS OF BULK AT MOST 1048576: true; the input reads as it did. -/
def rosterExactUptoRow : OpenClaim := { program := "ytkcjbcmpnoaghaa", sum := "5d97c8338551693712908b4827061684c3570a71bc60f9bd602cea3f9c9cf751", func := "dynpos/dynposlaw19.RosterExact", spec := "rosterExact", unfollowed := true, recurses := true, apart := false, narrowed := true }
def RosterExactUptoSaid : Prop := rosterExactUptoRow.holds Try.pinned (OpenSpec.upto rosterExactSpec)

/-- 'dynposlaw19.RosterPossible', WHERE WHAT IT READS IS OF BULK AT MOST 1048576: true; the input reads as it did. -/
def rosterPossibleUptoRow : OpenClaim := { program := "ytkcjbcmpnoaghaa", sum := "5d97c8338551693712908b4827061684c3570a71bc60f9bd602cea3f9c9cf751", func := "dynpos/dynposlaw19.RosterPossible", spec := "rosterPossible", unfollowed := true, recurses := true, apart := false, narrowed := true }
def RosterPossibleUptoSaid : Prop := rosterPossibleUptoRow.holds Try.pinned (OpenSpec.upto rosterPossibleSpec)

/-- 'dynposlaw19.RosterCalm', WHERE WHAT IT READS IS OF BULK AT MOST 1048576: true; the input reads as it did. -/
def rosterCalmUptoRow : OpenClaim := { program := "ytkcjbcmpnoaghaa", sum := "5d97c8338551693712908b4827061684c3570a71bc60f9bd602cea3f9c9cf751", func := "dynpos/dynposlaw19.RosterCalm", spec := "rosterCalm", unfollowed := true, recurses := true, apart := false, narrowed := true }
def RosterCalmUptoSaid : Prop := rosterCalmUptoRow.holds Try.pinned (OpenSpec.upto rosterCalmSpec)

end Rows
end Go.Proofs.Ytkcjbcmpnoaghaa
