/-
  No cell of these rows narrows 'for every input' (looked for: loops, veiled, ifaces, maps, wideKeys, modest, calm, conditions, laid).
  DERIVED. THE GIVEN ROWS OF THIS SEAT. 6 by the template 'for every input the law returns true; each argument reads behind the call as it read before'; 0 by the template 'total and deterministic' (their statements: YthgnnjdjdmdfoaaTotals.lean).
  GIVEN WITH THE SEED: the statements are not yours to turn. If you find one false, say at which input.
  Laid BY PROGRAM, IN A SANDBOX (cutbox-rows.mjs): the forced cells as the released guide's own fill.sh prints them over the translation 99ab9099afcee9ee… (all of the seat's roots in one cut). By AI agents, Wed Nov 11 2026. No macro, syntax, notation, axiom, sorry.
-/
import Derived.Test.YthgnnjdjdmdfoaaChecked
import GoSem.Claim
import GoSem.ClaimJoined
import GoSem.ClaimMapViews
import Derived.JoinedTies
import Derived.KernelRfl
namespace Go.Proofs.Ythgnnjdjdmdfoaa
/- THE CELL 'sum', in the pinned program and in every row, IS THE sha256 OF THE DUMP (.gsa) THAT YthgnnjdjdmdfoaaProg.lean LOADS. Nothing in Lean hashes anything: it is a label: what it is worth is what the hold of that sum in a sandbox is worth. -/
noncomputable def Try.pinned : Pinned := { name := "ythgnnjdjdmdfoaa", sum := "99ab9099afcee9ee58ea903f2327d6ed344bf9a192cfa969e03d22814315d8af", checked := Try.checked }
namespace Rows
def none {H : Type} : Left H := { results := [], args := [] }

/-- 'dynposlaw32.NetworkOnce': WHATEVER THE INPUT: true; the input reads as it did. -/
def networkOnceSpec : ChangeSpec := { name := "networkOnce", fn := fun _ => fun
  | [d] => { results := [.lit (.bool true)], args := [d] }
  | _ => none }
def networkOnceRow : OpenClaim := { program := "ythgnnjdjdmdfoaa", sum := "99ab9099afcee9ee58ea903f2327d6ed344bf9a192cfa969e03d22814315d8af", func := "dynpos/dynposlaw32.NetworkOnce", spec := "networkOnce", inPlace := ["slices.overlaps[int]"], unfollowed := true, recurses := true, plainKeys := false, apart := false }
def NetworkOnceSaid : Prop := networkOnceRow.holds Try.pinned (OpenSpec.ofChange networkOnceSpec)

/-- ITS FALSE NEIGHBOUR: 'it returns false'. Refute it at one input. -/
def networkOnceWrong : ChangeSpec := { name := "networkOnce", fn := fun _ => fun
  | [d] => { results := [.lit (.bool false)], args := [d] }
  | _ => none }
def NetworkOnceWrongFalsely : Prop := networkOnceRow.holds Try.pinned (OpenSpec.ofChange networkOnceWrong)

/-- 'dynposlaw32.NetworkArrives': WHATEVER THE INPUT: true; the input reads as it did. -/
def networkArrivesSpec : ChangeSpec := { name := "networkArrives", fn := fun _ => fun
  | [d] => { results := [.lit (.bool true)], args := [d] }
  | _ => none }
def networkArrivesRow : OpenClaim := { program := "ythgnnjdjdmdfoaa", sum := "99ab9099afcee9ee58ea903f2327d6ed344bf9a192cfa969e03d22814315d8af", func := "dynpos/dynposlaw32.NetworkArrives", spec := "networkArrives", inPlace := ["slices.overlaps[int]"], unfollowed := true, recurses := true, plainKeys := false, apart := false }
def NetworkArrivesSaid : Prop := networkArrivesRow.holds Try.pinned (OpenSpec.ofChange networkArrivesSpec)

/-- ITS FALSE NEIGHBOUR: 'it returns false'. Refute it at one input. -/
def networkArrivesWrong : ChangeSpec := { name := "networkArrives", fn := fun _ => fun
  | [d] => { results := [.lit (.bool false)], args := [d] }
  | _ => none }
def NetworkArrivesWrongFalsely : Prop := networkArrivesRow.holds Try.pinned (OpenSpec.ofChange networkArrivesWrong)

/-- 'dynposlaw32.NetworkBreaks': WHATEVER THE INPUT: true; the input reads as it did. -/
def networkBreaksSpec : ChangeSpec := { name := "networkBreaks", fn := fun _ => fun
  | [d] => { results := [.lit (.bool true)], args := [d] }
  | _ => none }
def networkBreaksRow : OpenClaim := { program := "ythgnnjdjdmdfoaa", sum := "99ab9099afcee9ee58ea903f2327d6ed344bf9a192cfa969e03d22814315d8af", func := "dynpos/dynposlaw32.NetworkBreaks", spec := "networkBreaks", inPlace := ["slices.overlaps[int]"], unfollowed := true, recurses := true, plainKeys := false, apart := false }
def NetworkBreaksSaid : Prop := networkBreaksRow.holds Try.pinned (OpenSpec.ofChange networkBreaksSpec)

/-- ITS FALSE NEIGHBOUR: 'it returns false'. Refute it at one input. -/
def networkBreaksWrong : ChangeSpec := { name := "networkBreaks", fn := fun _ => fun
  | [d] => { results := [.lit (.bool false)], args := [d] }
  | _ => none }
def NetworkBreaksWrongFalsely : Prop := networkBreaksRow.holds Try.pinned (OpenSpec.ofChange networkBreaksWrong)

/-- 'dynposlaw32.NetworkWindow': WHATEVER THE INPUT: true; the input reads as it did. -/
def networkWindowSpec : ChangeSpec := { name := "networkWindow", fn := fun _ => fun
  | [d] => { results := [.lit (.bool true)], args := [d] }
  | _ => none }
def networkWindowRow : OpenClaim := { program := "ythgnnjdjdmdfoaa", sum := "99ab9099afcee9ee58ea903f2327d6ed344bf9a192cfa969e03d22814315d8af", func := "dynpos/dynposlaw32.NetworkWindow", spec := "networkWindow", inPlace := ["slices.overlaps[int]"], unfollowed := true, recurses := true, plainKeys := false, apart := false }
def NetworkWindowSaid : Prop := networkWindowRow.holds Try.pinned (OpenSpec.ofChange networkWindowSpec)

/-- ITS FALSE NEIGHBOUR: 'it returns false'. Refute it at one input. -/
def networkWindowWrong : ChangeSpec := { name := "networkWindow", fn := fun _ => fun
  | [d] => { results := [.lit (.bool false)], args := [d] }
  | _ => none }
def NetworkWindowWrongFalsely : Prop := networkWindowRow.holds Try.pinned (OpenSpec.ofChange networkWindowWrong)

/-- 'dynposlaw32.NetworkExact': WHATEVER THE INPUT: true; the input reads as it did. -/
def networkExactSpec : ChangeSpec := { name := "networkExact", fn := fun _ => fun
  | [d1, d2, d3, d4, d5, d6, d7, d8, d9, d10] => { results := [.lit (.bool true)], args := [d1, d2, d3, d4, d5, d6, d7, d8, d9, d10] }
  | _ => none }
def networkExactRow : OpenClaim := { program := "ythgnnjdjdmdfoaa", sum := "99ab9099afcee9ee58ea903f2327d6ed344bf9a192cfa969e03d22814315d8af", func := "dynpos/dynposlaw32.NetworkExact", spec := "networkExact", inPlace := ["slices.overlaps[int]"], unfollowed := true, recurses := true, plainKeys := false, apart := false }
def NetworkExactSaid : Prop := networkExactRow.holds Try.pinned (OpenSpec.ofChange networkExactSpec)

/-- ITS FALSE NEIGHBOUR: 'it returns false'. Refute it at one input. -/
def networkExactWrong : ChangeSpec := { name := "networkExact", fn := fun _ => fun
  | [d1, d2, d3, d4, d5, d6, d7, d8, d9, d10] => { results := [.lit (.bool false)], args := [d1, d2, d3, d4, d5, d6, d7, d8, d9, d10] }
  | _ => none }
def NetworkExactWrongFalsely : Prop := networkExactRow.holds Try.pinned (OpenSpec.ofChange networkExactWrong)

/-- 'dynposlaw32.NetworkReaches': WHATEVER THE INPUT: true; the input reads as it did. -/
def networkReachesSpec : ChangeSpec := { name := "networkReaches", fn := fun _ => fun
  | [d] => { results := [.lit (.bool true)], args := [d] }
  | _ => none }
def networkReachesRow : OpenClaim := { program := "ythgnnjdjdmdfoaa", sum := "99ab9099afcee9ee58ea903f2327d6ed344bf9a192cfa969e03d22814315d8af", func := "dynpos/dynposlaw32.NetworkReaches", spec := "networkReaches", inPlace := ["slices.overlaps[int]"], unfollowed := true, recurses := true, plainKeys := false, apart := false }
def NetworkReachesSaid : Prop := networkReachesRow.holds Try.pinned (OpenSpec.ofChange networkReachesSpec)

/-- ITS FALSE NEIGHBOUR: 'it returns false'. Refute it at one input. -/
def networkReachesWrong : ChangeSpec := { name := "networkReaches", fn := fun _ => fun
  | [d] => { results := [.lit (.bool false)], args := [d] }
  | _ => none }
def NetworkReachesWrongFalsely : Prop := networkReachesRow.holds Try.pinned (OpenSpec.ofChange networkReachesWrong)

/- THE SECOND FORM. 'bulk': how many values and letters a reading holds, each counted each time it is reached (what is shared counts as often as it is met; a slice's spare places count too). A statement '..UptoSaid' is the law's where the arguments, and the package variables that the reading takes, are together of bulk at most 1048576: NARROWER than '..Said'. Prove '..Said' where nothing that the law and all that it calls make is longer than what came in: it says more and counts as full. Else prove '..UptoSaid'. A law counts once. -/
mutual
def uptoBulk {H : Type} : DataW H → Nat
  | .lit (.string bytes) => bytes.length + 1
  | .lit _ => 1
  | .nil => 1
  | .ptr d => uptoBulk d + 1
  | .slice elems spare => uptoBulkAll elems + uptoBulkAll spare + 1
  | .agg parts => uptoBulkAll parts + 1
  | .iface _ d => uptoBulk d + 1
  | .map entries => uptoBulkEntries entries + 1
  | .held _ => 1
def uptoBulkAll {H : Type} : List (DataW H) → Nat
  | [] => 0
  | d :: r => uptoBulk d + uptoBulkAll r
def uptoBulkEntries {H : Type} : List (Lit × DataW H) → Nat
  | [] => 0
  | x :: r => uptoBulkEntry x + uptoBulkEntries r
def uptoBulkEntry {H : Type} : Lit × DataW H → Nat
  | (.string bytes, d) => bytes.length + uptoBulk d + 1
  | (_, d) => uptoBulk d + 1
 end
def uptoSmall : (H : Type) → List (DataW H) → Bool := fun _ ds => decide (uptoBulkAll ds ≤ 1048576)
def OpenSpec.upto (s : _root_.Go.ChangeSpec) : _root_.Go.OpenSpec := { _root_.Go.OpenSpec.ofChange s with cond := some uptoSmall }

/-- 'dynposlaw32.NetworkOnce', WHERE WHAT IT READS IS OF BULK AT MOST 1048576: true; the input reads as it did. -/
def networkOnceUptoRow : OpenClaim := { program := "ythgnnjdjdmdfoaa", sum := "99ab9099afcee9ee58ea903f2327d6ed344bf9a192cfa969e03d22814315d8af", func := "dynpos/dynposlaw32.NetworkOnce", spec := "networkOnce", inPlace := ["slices.overlaps[int]"], unfollowed := true, recurses := true, plainKeys := false, apart := false, narrowed := true }
def NetworkOnceUptoSaid : Prop := networkOnceUptoRow.holds Try.pinned (OpenSpec.upto networkOnceSpec)

/-- 'dynposlaw32.NetworkArrives', WHERE WHAT IT READS IS OF BULK AT MOST 1048576: true; the input reads as it did. -/
def networkArrivesUptoRow : OpenClaim := { program := "ythgnnjdjdmdfoaa", sum := "99ab9099afcee9ee58ea903f2327d6ed344bf9a192cfa969e03d22814315d8af", func := "dynpos/dynposlaw32.NetworkArrives", spec := "networkArrives", inPlace := ["slices.overlaps[int]"], unfollowed := true, recurses := true, plainKeys := false, apart := false, narrowed := true }
def NetworkArrivesUptoSaid : Prop := networkArrivesUptoRow.holds Try.pinned (OpenSpec.upto networkArrivesSpec)

/-- 'dynposlaw32.NetworkBreaks', WHERE WHAT IT READS IS OF BULK AT MOST 1048576: true; the input reads as it did. -/
def networkBreaksUptoRow : OpenClaim := { program := "ythgnnjdjdmdfoaa", sum := "99ab9099afcee9ee58ea903f2327d6ed344bf9a192cfa969e03d22814315d8af", func := "dynpos/dynposlaw32.NetworkBreaks", spec := "networkBreaks", inPlace := ["slices.overlaps[int]"], unfollowed := true, recurses := true, plainKeys := false, apart := false, narrowed := true }
def NetworkBreaksUptoSaid : Prop := networkBreaksUptoRow.holds Try.pinned (OpenSpec.upto networkBreaksSpec)

/-- 'dynposlaw32.NetworkWindow', WHERE WHAT IT READS IS OF BULK AT MOST 1048576: true; the input reads as it did. -/
def networkWindowUptoRow : OpenClaim := { program := "ythgnnjdjdmdfoaa", sum := "99ab9099afcee9ee58ea903f2327d6ed344bf9a192cfa969e03d22814315d8af", func := "dynpos/dynposlaw32.NetworkWindow", spec := "networkWindow", inPlace := ["slices.overlaps[int]"], unfollowed := true, recurses := true, plainKeys := false, apart := false, narrowed := true }
def NetworkWindowUptoSaid : Prop := networkWindowUptoRow.holds Try.pinned (OpenSpec.upto networkWindowSpec)

/-- 'dynposlaw32.NetworkExact', WHERE WHAT IT READS IS OF BULK AT MOST 1048576: true; the input reads as it did. -/
def networkExactUptoRow : OpenClaim := { program := "ythgnnjdjdmdfoaa", sum := "99ab9099afcee9ee58ea903f2327d6ed344bf9a192cfa969e03d22814315d8af", func := "dynpos/dynposlaw32.NetworkExact", spec := "networkExact", inPlace := ["slices.overlaps[int]"], unfollowed := true, recurses := true, plainKeys := false, apart := false, narrowed := true }
def NetworkExactUptoSaid : Prop := networkExactUptoRow.holds Try.pinned (OpenSpec.upto networkExactSpec)

/-- 'dynposlaw32.NetworkReaches', WHERE WHAT IT READS IS OF BULK AT MOST 1048576: true; the input reads as it did. -/
def networkReachesUptoRow : OpenClaim := { program := "ythgnnjdjdmdfoaa", sum := "99ab9099afcee9ee58ea903f2327d6ed344bf9a192cfa969e03d22814315d8af", func := "dynpos/dynposlaw32.NetworkReaches", spec := "networkReaches", inPlace := ["slices.overlaps[int]"], unfollowed := true, recurses := true, plainKeys := false, apart := false, narrowed := true }
def NetworkReachesUptoSaid : Prop := networkReachesUptoRow.holds Try.pinned (OpenSpec.upto networkReachesSpec)

end Rows
end Go.Proofs.Ythgnnjdjdmdfoaa
