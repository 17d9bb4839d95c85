/-
  No cell of these rows narrows 'for every input' (looked for: loops, veiled, ifaces, maps, wideKeys, modest, calm, conditions, laid).
  DERIVED. THE GIVEN ROWS OF THIS SEAT. 6 by the template 'for every input the law returns true; each argument reads behind the call as it read before'; 0 by the template 'total and deterministic' (their statements: YtdfkfohpgakihaaTotals.lean).
  GIVEN WITH THE SEED: the statements are not yours to turn. If you find one false, say at which input.
  Laid BY PROGRAM, IN A SANDBOX (cutbox-rows.mjs): the forced cells as the released guide's own fill.sh prints them over the translation f87bd308b77849ed… (all of the seat's roots in one cut). By AI agents, Wed Nov 11 2026. No macro, syntax, notation, axiom, sorry.
-/
import Derived.Test.YtdfkfohpgakihaaChecked
import GoSem.Claim
import GoSem.ClaimJoined
import GoSem.ClaimMapViews
import Derived.JoinedTies
import Derived.KernelRfl
namespace Go.Proofs.Ytdfkfohpgakihaa
/- THE CELL 'sum', in the pinned program and in every row, IS THE sha256 OF THE DUMP (.gsa) THAT YtdfkfohpgakihaaProg.lean LOADS. Nothing in Lean hashes anything: it is a label: what it is worth is what the hold of that sum in a sandbox is worth. -/
noncomputable def Try.pinned : Pinned := { name := "ytdfkfohpgakihaa", sum := "f87bd308b77849ed5603973e1d7b24ba705f9d464b5830cbca6b1de4b3d38841", checked := Try.checked }
namespace Rows
def none {H : Type} : Left H := { results := [], args := [] }

/-- 'dynposlaw16.SyncFollows': WHATEVER THE INPUT: true; the input reads as it did. -/
def syncFollowsSpec : ChangeSpec := { name := "syncFollows", fn := fun _ => fun
  | [d] => { results := [.lit (.bool true)], args := [d] }
  | _ => none }
def syncFollowsRow : OpenClaim := { program := "ytdfkfohpgakihaa", sum := "f87bd308b77849ed5603973e1d7b24ba705f9d464b5830cbca6b1de4b3d38841", func := "dynpos/dynposlaw16.SyncFollows", spec := "syncFollows", unfollowed := true, recurses := true, apart := false }
def SyncFollowsSaid : Prop := syncFollowsRow.holds Try.pinned (OpenSpec.ofChange syncFollowsSpec)

/-- ITS FALSE NEIGHBOUR: 'it returns false'. Refute it at one input. -/
def syncFollowsWrong : ChangeSpec := { name := "syncFollows", fn := fun _ => fun
  | [d] => { results := [.lit (.bool false)], args := [d] }
  | _ => none }
def SyncFollowsWrongFalsely : Prop := syncFollowsRow.holds Try.pinned (OpenSpec.ofChange syncFollowsWrong)

/-- 'dynposlaw16.SyncTurns': WHATEVER THE INPUT: true; the input reads as it did. -/
def syncTurnsSpec : ChangeSpec := { name := "syncTurns", fn := fun _ => fun
  | [d1, d2] => { results := [.lit (.bool true)], args := [d1, d2] }
  | _ => none }
def syncTurnsRow : OpenClaim := { program := "ytdfkfohpgakihaa", sum := "f87bd308b77849ed5603973e1d7b24ba705f9d464b5830cbca6b1de4b3d38841", func := "dynpos/dynposlaw16.SyncTurns", spec := "syncTurns", unfollowed := true, recurses := true, apart := false }
def SyncTurnsSaid : Prop := syncTurnsRow.holds Try.pinned (OpenSpec.ofChange syncTurnsSpec)

/-- ITS FALSE NEIGHBOUR: 'it returns false'. Refute it at one input. -/
def syncTurnsWrong : ChangeSpec := { name := "syncTurns", fn := fun _ => fun
  | [d1, d2] => { results := [.lit (.bool false)], args := [d1, d2] }
  | _ => none }
def SyncTurnsWrongFalsely : Prop := syncTurnsRow.holds Try.pinned (OpenSpec.ofChange syncTurnsWrong)

/-- 'dynposlaw16.SyncConsumers': WHATEVER THE INPUT: true; the input reads as it did. -/
def syncConsumersSpec : ChangeSpec := { name := "syncConsumers", fn := fun _ => fun
  | [d] => { results := [.lit (.bool true)], args := [d] }
  | _ => none }
def syncConsumersRow : OpenClaim := { program := "ytdfkfohpgakihaa", sum := "f87bd308b77849ed5603973e1d7b24ba705f9d464b5830cbca6b1de4b3d38841", func := "dynpos/dynposlaw16.SyncConsumers", spec := "syncConsumers", unfollowed := true, recurses := true, apart := false }
def SyncConsumersSaid : Prop := syncConsumersRow.holds Try.pinned (OpenSpec.ofChange syncConsumersSpec)

/-- ITS FALSE NEIGHBOUR: 'it returns false'. Refute it at one input. -/
def syncConsumersWrong : ChangeSpec := { name := "syncConsumers", fn := fun _ => fun
  | [d] => { results := [.lit (.bool false)], args := [d] }
  | _ => none }
def SyncConsumersWrongFalsely : Prop := syncConsumersRow.holds Try.pinned (OpenSpec.ofChange syncConsumersWrong)

/-- 'dynposlaw16.SyncBroken': WHATEVER THE INPUT: true; the input reads as it did. -/
def syncBrokenSpec : ChangeSpec := { name := "syncBroken", fn := fun _ => fun
  | [d] => { results := [.lit (.bool true)], args := [d] }
  | _ => none }
def syncBrokenRow : OpenClaim := { program := "ytdfkfohpgakihaa", sum := "f87bd308b77849ed5603973e1d7b24ba705f9d464b5830cbca6b1de4b3d38841", func := "dynpos/dynposlaw16.SyncBroken", spec := "syncBroken", unfollowed := true, recurses := true, apart := false }
def SyncBrokenSaid : Prop := syncBrokenRow.holds Try.pinned (OpenSpec.ofChange syncBrokenSpec)

/-- ITS FALSE NEIGHBOUR: 'it returns false'. Refute it at one input. -/
def syncBrokenWrong : ChangeSpec := { name := "syncBroken", fn := fun _ => fun
  | [d] => { results := [.lit (.bool false)], args := [d] }
  | _ => none }
def SyncBrokenWrongFalsely : Prop := syncBrokenRow.holds Try.pinned (OpenSpec.ofChange syncBrokenWrong)

/-- 'dynposlaw16.SyncRefuses': WHATEVER THE INPUT: true; the input reads as it did. -/
def syncRefusesSpec : ChangeSpec := { name := "syncRefuses", fn := fun _ => fun
  | [d1, d2] => { results := [.lit (.bool true)], args := [d1, d2] }
  | _ => none }
def syncRefusesRow : OpenClaim := { program := "ytdfkfohpgakihaa", sum := "f87bd308b77849ed5603973e1d7b24ba705f9d464b5830cbca6b1de4b3d38841", func := "dynpos/dynposlaw16.SyncRefuses", spec := "syncRefuses", unfollowed := true, recurses := true, apart := false }
def SyncRefusesSaid : Prop := syncRefusesRow.holds Try.pinned (OpenSpec.ofChange syncRefusesSpec)

/-- ITS FALSE NEIGHBOUR: 'it returns false'. Refute it at one input. -/
def syncRefusesWrong : ChangeSpec := { name := "syncRefuses", fn := fun _ => fun
  | [d1, d2] => { results := [.lit (.bool false)], args := [d1, d2] }
  | _ => none }
def SyncRefusesWrongFalsely : Prop := syncRefusesRow.holds Try.pinned (OpenSpec.ofChange syncRefusesWrong)

/-- 'dynposlaw16.SyncNever': WHATEVER THE INPUT: true; the input reads as it did. -/
def syncNeverSpec : ChangeSpec := { name := "syncNever", fn := fun _ => fun
  | [d] => { results := [.lit (.bool true)], args := [d] }
  | _ => none }
def syncNeverRow : OpenClaim := { program := "ytdfkfohpgakihaa", sum := "f87bd308b77849ed5603973e1d7b24ba705f9d464b5830cbca6b1de4b3d38841", func := "dynpos/dynposlaw16.SyncNever", spec := "syncNever", unfollowed := true, recurses := true, apart := false }
def SyncNeverSaid : Prop := syncNeverRow.holds Try.pinned (OpenSpec.ofChange syncNeverSpec)

/-- ITS FALSE NEIGHBOUR: 'it returns false'. Refute it at one input. -/
def syncNeverWrong : ChangeSpec := { name := "syncNever", fn := fun _ => fun
  | [d] => { results := [.lit (.bool false)], args := [d] }
  | _ => none }
def SyncNeverWrongFalsely : Prop := syncNeverRow.holds Try.pinned (OpenSpec.ofChange syncNeverWrong)

/- THE SECOND FORM. 'bulk': how many values and letters a reading holds, each counted each time it is reached (what is shared counts as often as it is met; a slice's spare places count too). A statement '..UptoSaid' is the law's where the arguments, and the package variables that the reading takes, are together of bulk at most 1048576: NARROWER than '..Said'. Prove '..Said' where nothing that the law and all that it calls make is longer than what came in: it says more and counts as full. Else prove '..UptoSaid'. A law counts once. -/
mutual
def uptoBulk {H : Type} : DataW H → Nat
  | .lit (.string bytes) => bytes.length + 1
  | .lit _ => 1
  | .nil => 1
  | .ptr d => uptoBulk d + 1
  | .slice elems spare => uptoBulkAll elems + uptoBulkAll spare + 1
  | .agg parts => uptoBulkAll parts + 1
  | .iface _ d => uptoBulk d + 1
  | .map entries => uptoBulkEntries entries + 1
  | .held _ => 1
def uptoBulkAll {H : Type} : List (DataW H) → Nat
  | [] => 0
  | d :: r => uptoBulk d + uptoBulkAll r
def uptoBulkEntries {H : Type} : List (Lit × DataW H) → Nat
  | [] => 0
  | x :: r => uptoBulkEntry x + uptoBulkEntries r
def uptoBulkEntry {H : Type} : Lit × DataW H → Nat
  | (.string bytes, d) => bytes.length + uptoBulk d + 1
  | (_, d) => uptoBulk d + 1
 end
def uptoSmall : (H : Type) → List (DataW H) → Bool := fun _ ds => decide (uptoBulkAll ds ≤ 1048576)
def OpenSpec.upto (s : _root_.Go.ChangeSpec) : _root_.Go.OpenSpec := { _root_.Go.OpenSpec.ofChange s with cond := some uptoSmall }

/-- 'dynposlaw16.SyncFollows', WHERE WHAT IT READS IS OF BULK AT MOST 1048576: true; the input reads as it did. -/
def syncFollowsUptoRow : OpenClaim := { program := "ytdfkfohpgakihaa", sum := "f87bd308b77849ed5603973e1d7b24ba705f9d464b5830cbca6b1de4b3d38841", func := "dynpos/dynposlaw16.SyncFollows", spec := "syncFollows", unfollowed := true, recurses := true, apart := false, narrowed := true }
def SyncFollowsUptoSaid : Prop := syncFollowsUptoRow.holds Try.pinned (OpenSpec.upto syncFollowsSpec)

/-- 'dynposlaw16.SyncTurns', WHERE WHAT IT READS IS OF BULK AT MOST 1048576: true; the input reads as it did. -/
def syncTurnsUptoRow : OpenClaim := { program := "ytdfkfohpgakihaa", sum := "f87bd308b77849ed5603973e1d7b24ba705f9d464b5830cbca6b1de4b3d38841", func := "dynpos/dynposlaw16.SyncTurns", spec := "syncTurns", unfollowed := true, recurses := true, apart := false, narrowed := true }
def SyncTurnsUptoSaid : Prop := syncTurnsUptoRow.holds Try.pinned (OpenSpec.upto syncTurnsSpec)

/-- 'dynposlaw16.SyncConsumers', WHERE WHAT IT READS IS OF BULK AT MOST 1048576: true; the input reads as it did. -/
def syncConsumersUptoRow : OpenClaim := { program := "ytdfkfohpgakihaa", sum := "f87bd308b77849ed5603973e1d7b24ba705f9d464b5830cbca6b1de4b3d38841", func := "dynpos/dynposlaw16.SyncConsumers", spec := "syncConsumers", unfollowed := true, recurses := true, apart := false, narrowed := true }
def SyncConsumersUptoSaid : Prop := syncConsumersUptoRow.holds Try.pinned (OpenSpec.upto syncConsumersSpec)

/-- 'dynposlaw16.SyncBroken', WHERE WHAT IT READS IS OF BULK AT MOST 1048576: true; the input reads as it did. -/
def syncBrokenUptoRow : OpenClaim := { program := "ytdfkfohpgakihaa", sum := "f87bd308b77849ed5603973e1d7b24ba705f9d464b5830cbca6b1de4b3d38841", func := "dynpos/dynposlaw16.SyncBroken", spec := "syncBroken", unfollowed := true, recurses := true, apart := false, narrowed := true }
def SyncBrokenUptoSaid : Prop := syncBrokenUptoRow.holds Try.pinned (OpenSpec.upto syncBrokenSpec)

/-- 'dynposlaw16.SyncRefuses', WHERE WHAT IT READS IS OF BULK AT MOST 1048576: true; the input reads as it did. -/
def syncRefusesUptoRow : OpenClaim := { program := "ytdfkfohpgakihaa", sum := "f87bd308b77849ed5603973e1d7b24ba705f9d464b5830cbca6b1de4b3d38841", func := "dynpos/dynposlaw16.SyncRefuses", spec := "syncRefuses", unfollowed := true, recurses := true, apart := false, narrowed := true }
def SyncRefusesUptoSaid : Prop := syncRefusesUptoRow.holds Try.pinned (OpenSpec.upto syncRefusesSpec)

/-- 'dynposlaw16.SyncNever', WHERE WHAT IT READS IS OF BULK AT MOST 1048576: true; the input reads as it did. -/
def syncNeverUptoRow : OpenClaim := { program := "ytdfkfohpgakihaa", sum := "f87bd308b77849ed5603973e1d7b24ba705f9d464b5830cbca6b1de4b3d38841", func := "dynpos/dynposlaw16.SyncNever", spec := "syncNever", unfollowed := true, recurses := true, apart := false, narrowed := true }
def SyncNeverUptoSaid : Prop := syncNeverUptoRow.holds Try.pinned (OpenSpec.upto syncNeverSpec)

end Rows
end Go.Proofs.Ytdfkfohpgakihaa
