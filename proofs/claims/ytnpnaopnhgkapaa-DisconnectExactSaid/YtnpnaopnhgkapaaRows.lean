/-
  No cell of these rows narrows 'for every input' (looked for: loops, veiled, ifaces, maps, wideKeys, modest, calm, conditions, laid).
  DERIVED. THE GIVEN ROWS OF THIS SEAT. 6 by the template 'for every input the law returns true; each argument reads behind the call as it read before'; 0 by the template 'total and deterministic' (their statements: YtnpnaopnhgkapaaTotals.lean).
  GIVEN WITH THE SEED: the statements are not yours to turn. If you find one false, say at which input.
  Laid BY PROGRAM, IN A SANDBOX (cutbox-rows.mjs): the forced cells as the released guide's own fill.sh prints them over the translation 356a298998efdff1… (all of the seat's roots in one cut). By AI agents, Wed Nov 11 2026. No macro, syntax, notation, axiom, sorry.
-/
import Derived.Test.YtnpnaopnhgkapaaChecked
import GoSem.Claim
import GoSem.ClaimJoined
import GoSem.ClaimMapViews
import Derived.JoinedTies
import Derived.KernelRfl
namespace Go.Proofs.Ytnpnaopnhgkapaa
/- THE CELL 'sum', in the pinned program and in every row, IS THE sha256 OF THE DUMP (.gsa) THAT YtnpnaopnhgkapaaProg.lean LOADS. Nothing in Lean hashes anything: it is a label: what it is worth is what the hold of that sum in a sandbox is worth. -/
noncomputable def Try.pinned : Pinned := { name := "ytnpnaopnhgkapaa", sum := "356a298998efdff189bf3996a2595e16e7b21f6e72a65ce7827a50f798ade832", checked := Try.checked }
namespace Rows
def none {H : Type} : Left H := { results := [], args := [] }

/-- 'dynposlaw31.DisconnectPaths': WHATEVER THE INPUT: true; the input reads as it did. -/
def disconnectPathsSpec : ChangeSpec := { name := "disconnectPaths", fn := fun _ => fun
  | [d] => { results := [.lit (.bool true)], args := [d] }
  | _ => none }
def disconnectPathsRow : OpenClaim := { program := "ytnpnaopnhgkapaa", sum := "356a298998efdff189bf3996a2595e16e7b21f6e72a65ce7827a50f798ade832", func := "dynpos/dynposlaw31.DisconnectPaths", spec := "disconnectPaths", inPlace := ["slices.overlaps[int]"], unfollowed := true, recurses := true, apart := false }
def DisconnectPathsSaid : Prop := disconnectPathsRow.holds Try.pinned (OpenSpec.ofChange disconnectPathsSpec)

/-- ITS FALSE NEIGHBOUR: 'it returns false'. Refute it at one input. -/
def disconnectPathsWrong : ChangeSpec := { name := "disconnectPaths", fn := fun _ => fun
  | [d] => { results := [.lit (.bool false)], args := [d] }
  | _ => none }
def DisconnectPathsWrongFalsely : Prop := disconnectPathsRow.holds Try.pinned (OpenSpec.ofChange disconnectPathsWrong)

/-- 'dynposlaw31.DisconnectExact': WHATEVER THE INPUT: true; the input reads as it did. -/
def disconnectExactSpec : ChangeSpec := { name := "disconnectExact", fn := fun _ => fun
  | [d1, d2, d3, d4, d5] => { results := [.lit (.bool true)], args := [d1, d2, d3, d4, d5] }
  | _ => none }
def disconnectExactRow : OpenClaim := { program := "ytnpnaopnhgkapaa", sum := "356a298998efdff189bf3996a2595e16e7b21f6e72a65ce7827a50f798ade832", func := "dynpos/dynposlaw31.DisconnectExact", spec := "disconnectExact", inPlace := ["slices.overlaps[int]"], unfollowed := true, recurses := true, apart := false }
def DisconnectExactSaid : Prop := disconnectExactRow.holds Try.pinned (OpenSpec.ofChange disconnectExactSpec)

/-- ITS FALSE NEIGHBOUR: 'it returns false'. Refute it at one input. -/
def disconnectExactWrong : ChangeSpec := { name := "disconnectExact", fn := fun _ => fun
  | [d1, d2, d3, d4, d5] => { results := [.lit (.bool false)], args := [d1, d2, d3, d4, d5] }
  | _ => none }
def DisconnectExactWrongFalsely : Prop := disconnectExactRow.holds Try.pinned (OpenSpec.ofChange disconnectExactWrong)

/-- 'dynposlaw31.DisconnectEnds': WHATEVER THE INPUT: true; the input reads as it did. -/
def disconnectEndsSpec : ChangeSpec := { name := "disconnectEnds", fn := fun _ => fun
  | [d] => { results := [.lit (.bool true)], args := [d] }
  | _ => none }
def disconnectEndsRow : OpenClaim := { program := "ytnpnaopnhgkapaa", sum := "356a298998efdff189bf3996a2595e16e7b21f6e72a65ce7827a50f798ade832", func := "dynpos/dynposlaw31.DisconnectEnds", spec := "disconnectEnds", inPlace := ["slices.overlaps[int]"], unfollowed := true, recurses := true, apart := false }
def DisconnectEndsSaid : Prop := disconnectEndsRow.holds Try.pinned (OpenSpec.ofChange disconnectEndsSpec)

/-- ITS FALSE NEIGHBOUR: 'it returns false'. Refute it at one input. -/
def disconnectEndsWrong : ChangeSpec := { name := "disconnectEnds", fn := fun _ => fun
  | [d] => { results := [.lit (.bool false)], args := [d] }
  | _ => none }
def DisconnectEndsWrongFalsely : Prop := disconnectEndsRow.holds Try.pinned (OpenSpec.ofChange disconnectEndsWrong)

/-- 'dynposlaw31.DisconnectLongest': WHATEVER THE INPUT: true; the input reads as it did. -/
def disconnectLongestSpec : ChangeSpec := { name := "disconnectLongest", fn := fun _ => fun
  | [d] => { results := [.lit (.bool true)], args := [d] }
  | _ => none }
def disconnectLongestRow : OpenClaim := { program := "ytnpnaopnhgkapaa", sum := "356a298998efdff189bf3996a2595e16e7b21f6e72a65ce7827a50f798ade832", func := "dynpos/dynposlaw31.DisconnectLongest", spec := "disconnectLongest", inPlace := ["slices.overlaps[int]"], unfollowed := true, recurses := true, apart := false }
def DisconnectLongestSaid : Prop := disconnectLongestRow.holds Try.pinned (OpenSpec.ofChange disconnectLongestSpec)

/-- ITS FALSE NEIGHBOUR: 'it returns false'. Refute it at one input. -/
def disconnectLongestWrong : ChangeSpec := { name := "disconnectLongest", fn := fun _ => fun
  | [d] => { results := [.lit (.bool false)], args := [d] }
  | _ => none }
def DisconnectLongestWrongFalsely : Prop := disconnectLongestRow.holds Try.pinned (OpenSpec.ofChange disconnectLongestWrong)

/-- 'dynposlaw31.DisconnectKeeps': WHATEVER THE INPUT: true; the input reads as it did. -/
def disconnectKeepsSpec : ChangeSpec := { name := "disconnectKeeps", fn := fun _ => fun
  | [d] => { results := [.lit (.bool true)], args := [d] }
  | _ => none }
def disconnectKeepsRow : OpenClaim := { program := "ytnpnaopnhgkapaa", sum := "356a298998efdff189bf3996a2595e16e7b21f6e72a65ce7827a50f798ade832", func := "dynpos/dynposlaw31.DisconnectKeeps", spec := "disconnectKeeps", inPlace := ["slices.overlaps[int]"], unfollowed := true, recurses := true, apart := false }
def DisconnectKeepsSaid : Prop := disconnectKeepsRow.holds Try.pinned (OpenSpec.ofChange disconnectKeepsSpec)

/-- ITS FALSE NEIGHBOUR: 'it returns false'. Refute it at one input. -/
def disconnectKeepsWrong : ChangeSpec := { name := "disconnectKeeps", fn := fun _ => fun
  | [d] => { results := [.lit (.bool false)], args := [d] }
  | _ => none }
def DisconnectKeepsWrongFalsely : Prop := disconnectKeepsRow.holds Try.pinned (OpenSpec.ofChange disconnectKeepsWrong)

/-- 'dynposlaw31.DisconnectStuck': WHATEVER THE INPUT: true; the input reads as it did. -/
def disconnectStuckSpec : ChangeSpec := { name := "disconnectStuck", fn := fun _ => fun
  | [d] => { results := [.lit (.bool true)], args := [d] }
  | _ => none }
def disconnectStuckRow : OpenClaim := { program := "ytnpnaopnhgkapaa", sum := "356a298998efdff189bf3996a2595e16e7b21f6e72a65ce7827a50f798ade832", func := "dynpos/dynposlaw31.DisconnectStuck", spec := "disconnectStuck", inPlace := ["slices.overlaps[int]"], unfollowed := true, recurses := true, apart := false }
def DisconnectStuckSaid : Prop := disconnectStuckRow.holds Try.pinned (OpenSpec.ofChange disconnectStuckSpec)

/-- ITS FALSE NEIGHBOUR: 'it returns false'. Refute it at one input. -/
def disconnectStuckWrong : ChangeSpec := { name := "disconnectStuck", fn := fun _ => fun
  | [d] => { results := [.lit (.bool false)], args := [d] }
  | _ => none }
def DisconnectStuckWrongFalsely : Prop := disconnectStuckRow.holds Try.pinned (OpenSpec.ofChange disconnectStuckWrong)

/- THE SECOND FORM. 'bulk': how many values and letters a reading holds, each counted each time it is reached (what is shared counts as often as it is met; a slice's spare places count too). A statement '..UptoSaid' is the law's where the arguments, and the package variables that the reading takes, are together of bulk at most 1048576: NARROWER than '..Said'. Prove '..Said' where nothing that the law and all that it calls make is longer than what came in: it says more and counts as full. Else prove '..UptoSaid'. A law counts once. -/
mutual
def uptoBulk {H : Type} : DataW H → Nat
  | .lit (.string bytes) => bytes.length + 1
  | .lit _ => 1
  | .nil => 1
  | .ptr d => uptoBulk d + 1
  | .slice elems spare => uptoBulkAll elems + uptoBulkAll spare + 1
  | .agg parts => uptoBulkAll parts + 1
  | .iface _ d => uptoBulk d + 1
  | .map entries => uptoBulkEntries entries + 1
  | .held _ => 1
def uptoBulkAll {H : Type} : List (DataW H) → Nat
  | [] => 0
  | d :: r => uptoBulk d + uptoBulkAll r
def uptoBulkEntries {H : Type} : List (Lit × DataW H) → Nat
  | [] => 0
  | x :: r => uptoBulkEntry x + uptoBulkEntries r
def uptoBulkEntry {H : Type} : Lit × DataW H → Nat
  | (.string bytes, d) => bytes.length + uptoBulk d + 1
  | (_, d) => uptoBulk d + 1
 end
def uptoSmall : (H : Type) → List (DataW H) → Bool := fun _ ds => decide (uptoBulkAll ds ≤ 1048576)
def OpenSpec.upto (s : _root_.Go.ChangeSpec) : _root_.Go.OpenSpec := { _root_.Go.OpenSpec.ofChange s with cond := some uptoSmall }

/-- 'dynposlaw31.DisconnectPaths', WHERE WHAT IT READS IS OF BULK AT MOST 1048576: true; the input reads as it did. -/
def disconnectPathsUptoRow : OpenClaim := { program := "ytnpnaopnhgkapaa", sum := "356a298998efdff189bf3996a2595e16e7b21f6e72a65ce7827a50f798ade832", func := "dynpos/dynposlaw31.DisconnectPaths", spec := "disconnectPaths", inPlace := ["slices.overlaps[int]"], unfollowed := true, recurses := true, apart := false, narrowed := true }
def DisconnectPathsUptoSaid : Prop := disconnectPathsUptoRow.holds Try.pinned (OpenSpec.upto disconnectPathsSpec)

/-- 'dynposlaw31.DisconnectExact', WHERE WHAT IT READS IS OF BULK AT MOST 1048576: true; the input reads as it did. -/
def disconnectExactUptoRow : OpenClaim := { program := "ytnpnaopnhgkapaa", sum := "356a298998efdff189bf3996a2595e16e7b21f6e72a65ce7827a50f798ade832", func := "dynpos/dynposlaw31.DisconnectExact", spec := "disconnectExact", inPlace := ["slices.overlaps[int]"], unfollowed := true, recurses := true, apart := false, narrowed := true }
def DisconnectExactUptoSaid : Prop := disconnectExactUptoRow.holds Try.pinned (OpenSpec.upto disconnectExactSpec)

/-- 'dynposlaw31.DisconnectEnds', WHERE WHAT IT READS IS OF BULK AT MOST 1048576: true; the input reads as it did. -/
def disconnectEndsUptoRow : OpenClaim := { program := "ytnpnaopnhgkapaa", sum := "356a298998efdff189bf3996a2595e16e7b21f6e72a65ce7827a50f798ade832", func := "dynpos/dynposlaw31.DisconnectEnds", spec := "disconnectEnds", inPlace := ["slices.overlaps[int]"], unfollowed := true, recurses := true, apart := false, narrowed := true }
def DisconnectEndsUptoSaid : Prop := disconnectEndsUptoRow.holds Try.pinned (OpenSpec.upto disconnectEndsSpec)

/-- 'dynposlaw31.DisconnectLongest', WHERE WHAT IT READS IS OF BULK AT MOST 1048576: true; the input reads as it did. -/
def disconnectLongestUptoRow : OpenClaim := { program := "ytnpnaopnhgkapaa", sum := "356a298998efdff189bf3996a2595e16e7b21f6e72a65ce7827a50f798ade832", func := "dynpos/dynposlaw31.DisconnectLongest", spec := "disconnectLongest", inPlace := ["slices.overlaps[int]"], unfollowed := true, recurses := true, apart := false, narrowed := true }
def DisconnectLongestUptoSaid : Prop := disconnectLongestUptoRow.holds Try.pinned (OpenSpec.upto disconnectLongestSpec)

/-- 'dynposlaw31.DisconnectKeeps', WHERE WHAT IT READS IS OF BULK AT MOST 1048576: true; the input reads as it did. -/
def disconnectKeepsUptoRow : OpenClaim := { program := "ytnpnaopnhgkapaa", sum := "356a298998efdff189bf3996a2595e16e7b21f6e72a65ce7827a50f798ade832", func := "dynpos/dynposlaw31.DisconnectKeeps", spec := "disconnectKeeps", inPlace := ["slices.overlaps[int]"], unfollowed := true, recurses := true, apart := false, narrowed := true }
def DisconnectKeepsUptoSaid : Prop := disconnectKeepsUptoRow.holds Try.pinned (OpenSpec.upto disconnectKeepsSpec)

/-- 'dynposlaw31.DisconnectStuck', WHERE WHAT IT READS IS OF BULK AT MOST 1048576: true; the input reads as it did. -/
def disconnectStuckUptoRow : OpenClaim := { program := "ytnpnaopnhgkapaa", sum := "356a298998efdff189bf3996a2595e16e7b21f6e72a65ce7827a50f798ade832", func := "dynpos/dynposlaw31.DisconnectStuck", spec := "disconnectStuck", inPlace := ["slices.overlaps[int]"], unfollowed := true, recurses := true, apart := false, narrowed := true }
def DisconnectStuckUptoSaid : Prop := disconnectStuckUptoRow.holds Try.pinned (OpenSpec.upto disconnectStuckSpec)

end Rows
end Go.Proofs.Ytnpnaopnhgkapaa
