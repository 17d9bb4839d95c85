/-
  No cell of these rows narrows 'for every input' (looked for: loops, veiled, ifaces, maps, wideKeys, modest, calm, conditions, laid).
  DERIVED. THE GIVEN ROWS OF THIS SEAT. 6 by the template 'for every input the law returns true; each argument reads behind the call as it read before'; 0 by the template 'total and deterministic' (their statements: YtmjcndmphjdjgaaTotals.lean).
  GIVEN WITH THE SEED: the statements are not yours to turn. If you find one false, say at which input.
  Laid BY PROGRAM, IN A SANDBOX (cutbox-rows.mjs): the forced cells as the released guide's own fill.sh prints them over the translation 7b1d26b6360db3b0… (all of the seat's roots in one cut). By AI agents, Wed Nov 11 2026. No macro, syntax, notation, axiom, sorry.
-/
import Derived.Test.YtmjcndmphjdjgaaChecked
import GoSem.Claim
import GoSem.ClaimJoined
import GoSem.ClaimMapViews
import Derived.JoinedTies
import Derived.KernelRfl
namespace Go.Proofs.Ytmjcndmphjdjgaa
/- THE CELL 'sum', in the pinned program and in every row, IS THE sha256 OF THE DUMP (.gsa) THAT YtmjcndmphjdjgaaProg.lean LOADS. Nothing in Lean hashes anything: it is a label: what it is worth is what the hold of that sum in a sandbox is worth. -/
noncomputable def Try.pinned : Pinned := { name := "ytmjcndmphjdjgaa", sum := "7b1d26b6360db3b0e6547acdd30186c0d1bf0c1f24a8e628793cd02f1356f702", checked := Try.checked }
namespace Rows
def none {H : Type} : Left H := { results := [], args := [] }

/-- 'dynposlaw34.FaultsMerge': WHATEVER THE INPUT: true; the input reads as it did. -/
def faultsMergeSpec : ChangeSpec := { name := "faultsMerge", fn := fun _ => fun
  | [d] => { results := [.lit (.bool true)], args := [d] }
  | _ => none }
def faultsMergeRow : OpenClaim := { program := "ytmjcndmphjdjgaa", sum := "7b1d26b6360db3b0e6547acdd30186c0d1bf0c1f24a8e628793cd02f1356f702", func := "dynpos/dynposlaw34.FaultsMerge", spec := "faultsMerge", unfollowed := true, recurses := true, apart := false }
def FaultsMergeSaid : Prop := faultsMergeRow.holds Try.pinned (OpenSpec.ofChange faultsMergeSpec)

/-- ITS FALSE NEIGHBOUR: 'it returns false'. Refute it at one input. -/
def faultsMergeWrong : ChangeSpec := { name := "faultsMerge", fn := fun _ => fun
  | [d] => { results := [.lit (.bool false)], args := [d] }
  | _ => none }
def FaultsMergeWrongFalsely : Prop := faultsMergeRow.holds Try.pinned (OpenSpec.ofChange faultsMergeWrong)

/-- 'dynposlaw34.FaultsNow': WHATEVER THE INPUT: true; the input reads as it did. -/
def faultsNowSpec : ChangeSpec := { name := "faultsNow", fn := fun _ => fun
  | [d] => { results := [.lit (.bool true)], args := [d] }
  | _ => none }
def faultsNowRow : OpenClaim := { program := "ytmjcndmphjdjgaa", sum := "7b1d26b6360db3b0e6547acdd30186c0d1bf0c1f24a8e628793cd02f1356f702", func := "dynpos/dynposlaw34.FaultsNow", spec := "faultsNow", unfollowed := true, recurses := true, apart := false }
def FaultsNowSaid : Prop := faultsNowRow.holds Try.pinned (OpenSpec.ofChange faultsNowSpec)

/-- ITS FALSE NEIGHBOUR: 'it returns false'. Refute it at one input. -/
def faultsNowWrong : ChangeSpec := { name := "faultsNow", fn := fun _ => fun
  | [d] => { results := [.lit (.bool false)], args := [d] }
  | _ => none }
def FaultsNowWrongFalsely : Prop := faultsNowRow.holds Try.pinned (OpenSpec.ofChange faultsNowWrong)

/-- 'dynposlaw34.FaultsShift': WHATEVER THE INPUT: true; the input reads as it did. -/
def faultsShiftSpec : ChangeSpec := { name := "faultsShift", fn := fun _ => fun
  | [d1, d2] => { results := [.lit (.bool true)], args := [d1, d2] }
  | _ => none }
def faultsShiftRow : OpenClaim := { program := "ytmjcndmphjdjgaa", sum := "7b1d26b6360db3b0e6547acdd30186c0d1bf0c1f24a8e628793cd02f1356f702", func := "dynpos/dynposlaw34.FaultsShift", spec := "faultsShift", unfollowed := true, recurses := true, apart := false }
def FaultsShiftSaid : Prop := faultsShiftRow.holds Try.pinned (OpenSpec.ofChange faultsShiftSpec)

/-- ITS FALSE NEIGHBOUR: 'it returns false'. Refute it at one input. -/
def faultsShiftWrong : ChangeSpec := { name := "faultsShift", fn := fun _ => fun
  | [d1, d2] => { results := [.lit (.bool false)], args := [d1, d2] }
  | _ => none }
def FaultsShiftWrongFalsely : Prop := faultsShiftRow.holds Try.pinned (OpenSpec.ofChange faultsShiftWrong)

/-- 'dynposlaw34.FaultsNormal': WHATEVER THE INPUT: true; the input reads as it did. -/
def faultsNormalSpec : ChangeSpec := { name := "faultsNormal", fn := fun _ => fun
  | [d] => { results := [.lit (.bool true)], args := [d] }
  | _ => none }
def faultsNormalRow : OpenClaim := { program := "ytmjcndmphjdjgaa", sum := "7b1d26b6360db3b0e6547acdd30186c0d1bf0c1f24a8e628793cd02f1356f702", func := "dynpos/dynposlaw34.FaultsNormal", spec := "faultsNormal", unfollowed := true, recurses := true, apart := false }
def FaultsNormalSaid : Prop := faultsNormalRow.holds Try.pinned (OpenSpec.ofChange faultsNormalSpec)

/-- ITS FALSE NEIGHBOUR: 'it returns false'. Refute it at one input. -/
def faultsNormalWrong : ChangeSpec := { name := "faultsNormal", fn := fun _ => fun
  | [d] => { results := [.lit (.bool false)], args := [d] }
  | _ => none }
def FaultsNormalWrongFalsely : Prop := faultsNormalRow.holds Try.pinned (OpenSpec.ofChange faultsNormalWrong)

/-- 'dynposlaw34.FaultsWithout': WHATEVER THE INPUT: true; the input reads as it did. -/
def faultsWithoutSpec : ChangeSpec := { name := "faultsWithout", fn := fun _ => fun
  | [d] => { results := [.lit (.bool true)], args := [d] }
  | _ => none }
def faultsWithoutRow : OpenClaim := { program := "ytmjcndmphjdjgaa", sum := "7b1d26b6360db3b0e6547acdd30186c0d1bf0c1f24a8e628793cd02f1356f702", func := "dynpos/dynposlaw34.FaultsWithout", spec := "faultsWithout", unfollowed := true, recurses := true, apart := false }
def FaultsWithoutSaid : Prop := faultsWithoutRow.holds Try.pinned (OpenSpec.ofChange faultsWithoutSpec)

/-- ITS FALSE NEIGHBOUR: 'it returns false'. Refute it at one input. -/
def faultsWithoutWrong : ChangeSpec := { name := "faultsWithout", fn := fun _ => fun
  | [d] => { results := [.lit (.bool false)], args := [d] }
  | _ => none }
def FaultsWithoutWrongFalsely : Prop := faultsWithoutRow.holds Try.pinned (OpenSpec.ofChange faultsWithoutWrong)

/-- 'dynposlaw34.FaultsExact': WHATEVER THE INPUT: true; the input reads as it did. -/
def faultsExactSpec : ChangeSpec := { name := "faultsExact", fn := fun _ => fun
  | [d1, d2, d3, d4, d5, d6] => { results := [.lit (.bool true)], args := [d1, d2, d3, d4, d5, d6] }
  | _ => none }
def faultsExactRow : OpenClaim := { program := "ytmjcndmphjdjgaa", sum := "7b1d26b6360db3b0e6547acdd30186c0d1bf0c1f24a8e628793cd02f1356f702", func := "dynpos/dynposlaw34.FaultsExact", spec := "faultsExact", unfollowed := true, recurses := true, apart := false }
def FaultsExactSaid : Prop := faultsExactRow.holds Try.pinned (OpenSpec.ofChange faultsExactSpec)

/-- ITS FALSE NEIGHBOUR: 'it returns false'. Refute it at one input. -/
def faultsExactWrong : ChangeSpec := { name := "faultsExact", fn := fun _ => fun
  | [d1, d2, d3, d4, d5, d6] => { results := [.lit (.bool false)], args := [d1, d2, d3, d4, d5, d6] }
  | _ => none }
def FaultsExactWrongFalsely : Prop := faultsExactRow.holds Try.pinned (OpenSpec.ofChange faultsExactWrong)

/- THE SECOND FORM. 'bulk': how many values and letters a reading holds, each counted each time it is reached (what is shared counts as often as it is met; a slice's spare places count too). A statement '..UptoSaid' is the law's where the arguments, and the package variables that the reading takes, are together of bulk at most 1048576: NARROWER than '..Said'. Prove '..Said' where nothing that the law and all that it calls make is longer than what came in: it says more and counts as full. Else prove '..UptoSaid'. A law counts once. -/
mutual
def uptoBulk {H : Type} : DataW H → Nat
  | .lit (.string bytes) => bytes.length + 1
  | .lit _ => 1
  | .nil => 1
  | .ptr d => uptoBulk d + 1
  | .slice elems spare => uptoBulkAll elems + uptoBulkAll spare + 1
  | .agg parts => uptoBulkAll parts + 1
  | .iface _ d => uptoBulk d + 1
  | .map entries => uptoBulkEntries entries + 1
  | .held _ => 1
def uptoBulkAll {H : Type} : List (DataW H) → Nat
  | [] => 0
  | d :: r => uptoBulk d + uptoBulkAll r
def uptoBulkEntries {H : Type} : List (Lit × DataW H) → Nat
  | [] => 0
  | x :: r => uptoBulkEntry x + uptoBulkEntries r
def uptoBulkEntry {H : Type} : Lit × DataW H → Nat
  | (.string bytes, d) => bytes.length + uptoBulk d + 1
  | (_, d) => uptoBulk d + 1
 end
def uptoSmall : (H : Type) → List (DataW H) → Bool := fun _ ds => decide (uptoBulkAll ds ≤ 1048576)
def OpenSpec.upto (s : _root_.Go.ChangeSpec) : _root_.Go.OpenSpec := { _root_.Go.OpenSpec.ofChange s with cond := some uptoSmall }

/-- 'dynposlaw34.FaultsMerge', WHERE WHAT IT READS IS OF BULK AT MOST 1048576: true; the input reads as it did. -/
def faultsMergeUptoRow : OpenClaim := { program := "ytmjcndmphjdjgaa", sum := "7b1d26b6360db3b0e6547acdd30186c0d1bf0c1f24a8e628793cd02f1356f702", func := "dynpos/dynposlaw34.FaultsMerge", spec := "faultsMerge", unfollowed := true, recurses := true, apart := false, narrowed := true }
def FaultsMergeUptoSaid : Prop := faultsMergeUptoRow.holds Try.pinned (OpenSpec.upto faultsMergeSpec)

/-- 'dynposlaw34.FaultsNow', WHERE WHAT IT READS IS OF BULK AT MOST 1048576: true; the input reads as it did. -/
def faultsNowUptoRow : OpenClaim := { program := "ytmjcndmphjdjgaa", sum := "7b1d26b6360db3b0e6547acdd30186c0d1bf0c1f24a8e628793cd02f1356f702", func := "dynpos/dynposlaw34.FaultsNow", spec := "faultsNow", unfollowed := true, recurses := true, apart := false, narrowed := true }
def FaultsNowUptoSaid : Prop := faultsNowUptoRow.holds Try.pinned (OpenSpec.upto faultsNowSpec)

/-- 'dynposlaw34.FaultsShift', WHERE WHAT IT READS IS OF BULK AT MOST 1048576: true; the input reads as it did. -/
def faultsShiftUptoRow : OpenClaim := { program := "ytmjcndmphjdjgaa", sum := "7b1d26b6360db3b0e6547acdd30186c0d1bf0c1f24a8e628793cd02f1356f702", func := "dynpos/dynposlaw34.FaultsShift", spec := "faultsShift", unfollowed := true, recurses := true, apart := false, narrowed := true }
def FaultsShiftUptoSaid : Prop := faultsShiftUptoRow.holds Try.pinned (OpenSpec.upto faultsShiftSpec)

/-- 'dynposlaw34.FaultsNormal', WHERE WHAT IT READS IS OF BULK AT MOST 1048576: true; the input reads as it did. -/
def faultsNormalUptoRow : OpenClaim := { program := "ytmjcndmphjdjgaa", sum := "7b1d26b6360db3b0e6547acdd30186c0d1bf0c1f24a8e628793cd02f1356f702", func := "dynpos/dynposlaw34.FaultsNormal", spec := "faultsNormal", unfollowed := true, recurses := true, apart := false, narrowed := true }
def FaultsNormalUptoSaid : Prop := faultsNormalUptoRow.holds Try.pinned (OpenSpec.upto faultsNormalSpec)

/-- 'dynposlaw34.FaultsWithout', WHERE WHAT IT READS IS OF BULK AT MOST 1048576: true; the input reads as it did. -/
def faultsWithoutUptoRow : OpenClaim := { program := "ytmjcndmphjdjgaa", sum := "7b1d26b6360db3b0e6547acdd30186c0d1bf0c1f24a8e628793cd02f1356f702", func := "dynpos/dynposlaw34.FaultsWithout", spec := "faultsWithout", unfollowed := true, recurses := true, apart := false, narrowed := true }
def FaultsWithoutUptoSaid : Prop := faultsWithoutUptoRow.holds Try.pinned (OpenSpec.upto faultsWithoutSpec)

/-- 'dynposlaw34.FaultsExact', WHERE WHAT IT READS IS OF BULK AT MOST 1048576: true; the input reads as it did. -/
def faultsExactUptoRow : OpenClaim := { program := "ytmjcndmphjdjgaa", sum := "7b1d26b6360db3b0e6547acdd30186c0d1bf0c1f24a8e628793cd02f1356f702", func := "dynpos/dynposlaw34.FaultsExact", spec := "faultsExact", unfollowed := true, recurses := true, apart := false, narrowed := true }
def FaultsExactUptoSaid : Prop := faultsExactUptoRow.holds Try.pinned (OpenSpec.upto faultsExactSpec)

end Rows
end Go.Proofs.Ytmjcndmphjdjgaa
