/-
  No cell of these rows narrows 'for every input' (looked for: loops, veiled, ifaces, maps, wideKeys, modest, calm, conditions, laid).
  DERIVED. THE GIVEN ROWS OF THIS SEAT. 6 by the template 'for every input the law returns true; each argument reads behind the call as it read before'; 0 by the template 'total and deterministic' (their statements: YtnpghnnlcakbfaaTotals.lean).
  GIVEN WITH THE SEED: the statements are not yours to turn. If you find one false, say at which input.
  Laid BY PROGRAM, IN A SANDBOX (cutbox-rows.mjs): the forced cells as the released guide's own fill.sh prints them over the translation 8bcbdf1dd694b0a8… (all of the seat's roots in one cut). By AI agents, Wed Nov 11 2026. No macro, syntax, notation, axiom, sorry.
-/
import Derived.Test.YtnpghnnlcakbfaaChecked
import GoSem.Claim
import GoSem.ClaimJoined
import GoSem.ClaimMapViews
import Derived.JoinedTies
import Derived.KernelRfl
namespace Go.Proofs.Ytnpghnnlcakbfaa
/- THE CELL 'sum', in the pinned program and in every row, IS THE sha256 OF THE DUMP (.gsa) THAT YtnpghnnlcakbfaaProg.lean LOADS. Nothing in Lean hashes anything: it is a label: what it is worth is what the hold of that sum in a sandbox is worth. -/
noncomputable def Try.pinned : Pinned := { name := "ytnpghnnlcakbfaa", sum := "8bcbdf1dd694b0a8639747b106e6931c16d8a54e46050a79f8a50e759215a8c4", checked := Try.checked }
namespace Rows
def none {H : Type} : Left H := { results := [], args := [] }

/-- 'dynposlaw17.BalanceScales': WHATEVER THE INPUT: true; the input reads as it did. -/
def balanceScalesSpec : ChangeSpec := { name := "balanceScales", fn := fun _ => fun
  | [d] => { results := [.lit (.bool true)], args := [d] }
  | _ => none }
def balanceScalesRow : OpenClaim := { program := "ytnpghnnlcakbfaa", sum := "8bcbdf1dd694b0a8639747b106e6931c16d8a54e46050a79f8a50e759215a8c4", func := "dynpos/dynposlaw17.BalanceScales", spec := "balanceScales", unfollowed := true, recurses := true, apart := false }
def BalanceScalesSaid : Prop := balanceScalesRow.holds Try.pinned (OpenSpec.ofChange balanceScalesSpec)

/-- ITS FALSE NEIGHBOUR: 'it returns false'. Refute it at one input. -/
def balanceScalesWrong : ChangeSpec := { name := "balanceScales", fn := fun _ => fun
  | [d] => { results := [.lit (.bool false)], args := [d] }
  | _ => none }
def BalanceScalesWrongFalsely : Prop := balanceScalesRow.holds Try.pinned (OpenSpec.ofChange balanceScalesWrong)

/-- 'dynposlaw17.BalanceShares': WHATEVER THE INPUT: true; the input reads as it did. -/
def balanceSharesSpec : ChangeSpec := { name := "balanceShares", fn := fun _ => fun
  | [d] => { results := [.lit (.bool true)], args := [d] }
  | _ => none }
def balanceSharesRow : OpenClaim := { program := "ytnpghnnlcakbfaa", sum := "8bcbdf1dd694b0a8639747b106e6931c16d8a54e46050a79f8a50e759215a8c4", func := "dynpos/dynposlaw17.BalanceShares", spec := "balanceShares", unfollowed := true, recurses := true, apart := false }
def BalanceSharesSaid : Prop := balanceSharesRow.holds Try.pinned (OpenSpec.ofChange balanceSharesSpec)

/-- ITS FALSE NEIGHBOUR: 'it returns false'. Refute it at one input. -/
def balanceSharesWrong : ChangeSpec := { name := "balanceShares", fn := fun _ => fun
  | [d] => { results := [.lit (.bool false)], args := [d] }
  | _ => none }
def BalanceSharesWrongFalsely : Prop := balanceSharesRow.holds Try.pinned (OpenSpec.ofChange balanceSharesWrong)

/-- 'dynposlaw15.BoardTies': WHATEVER THE INPUT: true; the input reads as it did. -/
def boardTiesSpec : ChangeSpec := { name := "boardTies", fn := fun _ => fun
  | [d1, d2] => { results := [.lit (.bool true)], args := [d1, d2] }
  | _ => none }
def boardTiesRow : OpenClaim := { program := "ytnpghnnlcakbfaa", sum := "8bcbdf1dd694b0a8639747b106e6931c16d8a54e46050a79f8a50e759215a8c4", func := "dynpos/dynposlaw15.BoardTies", spec := "boardTies", unfollowed := true, recurses := true, apart := false }
def BoardTiesSaid : Prop := boardTiesRow.holds Try.pinned (OpenSpec.ofChange boardTiesSpec)

/-- ITS FALSE NEIGHBOUR: 'it returns false'. Refute it at one input. -/
def boardTiesWrong : ChangeSpec := { name := "boardTies", fn := fun _ => fun
  | [d1, d2] => { results := [.lit (.bool false)], args := [d1, d2] }
  | _ => none }
def BoardTiesWrongFalsely : Prop := boardTiesRow.holds Try.pinned (OpenSpec.ofChange boardTiesWrong)

/-- 'dynposlaw15.BoardIslands': WHATEVER THE INPUT: true; the input reads as it did. -/
def boardIslandsSpec : ChangeSpec := { name := "boardIslands", fn := fun _ => fun
  | [d] => { results := [.lit (.bool true)], args := [d] }
  | _ => none }
def boardIslandsRow : OpenClaim := { program := "ytnpghnnlcakbfaa", sum := "8bcbdf1dd694b0a8639747b106e6931c16d8a54e46050a79f8a50e759215a8c4", func := "dynpos/dynposlaw15.BoardIslands", spec := "boardIslands", unfollowed := true, recurses := true, apart := false }
def BoardIslandsSaid : Prop := boardIslandsRow.holds Try.pinned (OpenSpec.ofChange boardIslandsSpec)

/-- ITS FALSE NEIGHBOUR: 'it returns false'. Refute it at one input. -/
def boardIslandsWrong : ChangeSpec := { name := "boardIslands", fn := fun _ => fun
  | [d] => { results := [.lit (.bool false)], args := [d] }
  | _ => none }
def BoardIslandsWrongFalsely : Prop := boardIslandsRow.holds Try.pinned (OpenSpec.ofChange boardIslandsWrong)

/-- 'dynposlaw15.BoardParts': WHATEVER THE INPUT: true; the input reads as it did. -/
def boardPartsSpec : ChangeSpec := { name := "boardParts", fn := fun _ => fun
  | [d] => { results := [.lit (.bool true)], args := [d] }
  | _ => none }
def boardPartsRow : OpenClaim := { program := "ytnpghnnlcakbfaa", sum := "8bcbdf1dd694b0a8639747b106e6931c16d8a54e46050a79f8a50e759215a8c4", func := "dynpos/dynposlaw15.BoardParts", spec := "boardParts", unfollowed := true, recurses := true, apart := false }
def BoardPartsSaid : Prop := boardPartsRow.holds Try.pinned (OpenSpec.ofChange boardPartsSpec)

/-- ITS FALSE NEIGHBOUR: 'it returns false'. Refute it at one input. -/
def boardPartsWrong : ChangeSpec := { name := "boardParts", fn := fun _ => fun
  | [d] => { results := [.lit (.bool false)], args := [d] }
  | _ => none }
def BoardPartsWrongFalsely : Prop := boardPartsRow.holds Try.pinned (OpenSpec.ofChange boardPartsWrong)

/-- 'dynposlaw15.BoardExact': WHATEVER THE INPUT: true; the input reads as it did. -/
def boardExactSpec : ChangeSpec := { name := "boardExact", fn := fun _ => fun
  | [d1, d2, d3, d4, d5] => { results := [.lit (.bool true)], args := [d1, d2, d3, d4, d5] }
  | _ => none }
def boardExactRow : OpenClaim := { program := "ytnpghnnlcakbfaa", sum := "8bcbdf1dd694b0a8639747b106e6931c16d8a54e46050a79f8a50e759215a8c4", func := "dynpos/dynposlaw15.BoardExact", spec := "boardExact", unfollowed := true, recurses := true, apart := false }
def BoardExactSaid : Prop := boardExactRow.holds Try.pinned (OpenSpec.ofChange boardExactSpec)

/-- ITS FALSE NEIGHBOUR: 'it returns false'. Refute it at one input. -/
def boardExactWrong : ChangeSpec := { name := "boardExact", fn := fun _ => fun
  | [d1, d2, d3, d4, d5] => { results := [.lit (.bool false)], args := [d1, d2, d3, d4, d5] }
  | _ => none }
def BoardExactWrongFalsely : Prop := boardExactRow.holds Try.pinned (OpenSpec.ofChange boardExactWrong)

/- THE SECOND FORM. 'bulk': how many values and letters a reading holds, each counted each time it is reached (what is shared counts as often as it is met; a slice's spare places count too). A statement '..UptoSaid' is the law's where the arguments, and the package variables that the reading takes, are together of bulk at most 1048576: NARROWER than '..Said'. Prove '..Said' where nothing that the law and all that it calls make is longer than what came in: it says more and counts as full. Else prove '..UptoSaid'. A law counts once. -/
mutual
def uptoBulk {H : Type} : DataW H → Nat
  | .lit (.string bytes) => bytes.length + 1
  | .lit _ => 1
  | .nil => 1
  | .ptr d => uptoBulk d + 1
  | .slice elems spare => uptoBulkAll elems + uptoBulkAll spare + 1
  | .agg parts => uptoBulkAll parts + 1
  | .iface _ d => uptoBulk d + 1
  | .map entries => uptoBulkEntries entries + 1
  | .held _ => 1
def uptoBulkAll {H : Type} : List (DataW H) → Nat
  | [] => 0
  | d :: r => uptoBulk d + uptoBulkAll r
def uptoBulkEntries {H : Type} : List (Lit × DataW H) → Nat
  | [] => 0
  | x :: r => uptoBulkEntry x + uptoBulkEntries r
def uptoBulkEntry {H : Type} : Lit × DataW H → Nat
  | (.string bytes, d) => bytes.length + uptoBulk d + 1
  | (_, d) => uptoBulk d + 1
 end
def uptoSmall : (H : Type) → List (DataW H) → Bool := fun _ ds => decide (uptoBulkAll ds ≤ 1048576)
def OpenSpec.upto (s : _root_.Go.ChangeSpec) : _root_.Go.OpenSpec := { _root_.Go.OpenSpec.ofChange s with cond := some uptoSmall }

/-- 'dynposlaw17.BalanceScales', WHERE WHAT IT READS IS OF BULK AT MOST 1048576: true; the input reads as it did. -/
def balanceScalesUptoRow : OpenClaim := { program := "ytnpghnnlcakbfaa", sum := "8bcbdf1dd694b0a8639747b106e6931c16d8a54e46050a79f8a50e759215a8c4", func := "dynpos/dynposlaw17.BalanceScales", spec := "balanceScales", unfollowed := true, recurses := true, apart := false, narrowed := true }
def BalanceScalesUptoSaid : Prop := balanceScalesUptoRow.holds Try.pinned (OpenSpec.upto balanceScalesSpec)

/-- 'dynposlaw17.BalanceShares', WHERE WHAT IT READS IS OF BULK AT MOST 1048576: true; the input reads as it did. -/
def balanceSharesUptoRow : OpenClaim := { program := "ytnpghnnlcakbfaa", sum := "8bcbdf1dd694b0a8639747b106e6931c16d8a54e46050a79f8a50e759215a8c4", func := "dynpos/dynposlaw17.BalanceShares", spec := "balanceShares", unfollowed := true, recurses := true, apart := false, narrowed := true }
def BalanceSharesUptoSaid : Prop := balanceSharesUptoRow.holds Try.pinned (OpenSpec.upto balanceSharesSpec)

/-- 'dynposlaw15.BoardTies', WHERE WHAT IT READS IS OF BULK AT MOST 1048576: true; the input reads as it did. -/
def boardTiesUptoRow : OpenClaim := { program := "ytnpghnnlcakbfaa", sum := "8bcbdf1dd694b0a8639747b106e6931c16d8a54e46050a79f8a50e759215a8c4", func := "dynpos/dynposlaw15.BoardTies", spec := "boardTies", unfollowed := true, recurses := true, apart := false, narrowed := true }
def BoardTiesUptoSaid : Prop := boardTiesUptoRow.holds Try.pinned (OpenSpec.upto boardTiesSpec)

/-- 'dynposlaw15.BoardIslands', WHERE WHAT IT READS IS OF BULK AT MOST 1048576: true; the input reads as it did. -/
def boardIslandsUptoRow : OpenClaim := { program := "ytnpghnnlcakbfaa", sum := "8bcbdf1dd694b0a8639747b106e6931c16d8a54e46050a79f8a50e759215a8c4", func := "dynpos/dynposlaw15.BoardIslands", spec := "boardIslands", unfollowed := true, recurses := true, apart := false, narrowed := true }
def BoardIslandsUptoSaid : Prop := boardIslandsUptoRow.holds Try.pinned (OpenSpec.upto boardIslandsSpec)

/-- 'dynposlaw15.BoardParts', WHERE WHAT IT READS IS OF BULK AT MOST 1048576: true; the input reads as it did. -/
def boardPartsUptoRow : OpenClaim := { program := "ytnpghnnlcakbfaa", sum := "8bcbdf1dd694b0a8639747b106e6931c16d8a54e46050a79f8a50e759215a8c4", func := "dynpos/dynposlaw15.BoardParts", spec := "boardParts", unfollowed := true, recurses := true, apart := false, narrowed := true }
def BoardPartsUptoSaid : Prop := boardPartsUptoRow.holds Try.pinned (OpenSpec.upto boardPartsSpec)

/-- 'dynposlaw15.BoardExact', WHERE WHAT IT READS IS OF BULK AT MOST 1048576: true; the input reads as it did. -/
def boardExactUptoRow : OpenClaim := { program := "ytnpghnnlcakbfaa", sum := "8bcbdf1dd694b0a8639747b106e6931c16d8a54e46050a79f8a50e759215a8c4", func := "dynpos/dynposlaw15.BoardExact", spec := "boardExact", unfollowed := true, recurses := true, apart := false, narrowed := true }
def BoardExactUptoSaid : Prop := boardExactUptoRow.holds Try.pinned (OpenSpec.upto boardExactSpec)

end Rows
end Go.Proofs.Ytnpghnnlcakbfaa
