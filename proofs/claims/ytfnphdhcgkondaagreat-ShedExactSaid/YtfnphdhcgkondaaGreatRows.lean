/-
  No cell of these rows narrows 'for every input' (looked for: loops, veiled, ifaces, maps, wideKeys, modest, calm, conditions, laid).
  DERIVED. THE GIVEN ROWS OF THIS SEAT. 6 by the template 'for every input the law returns true; each argument reads behind the call as it read before'; 0 by the template 'total and deterministic' (their statements: YtfnphdhcgkondaaGreatTotals.lean).
  GIVEN WITH THE SEED: the statements are not yours to turn. If you find one false, say at which input.
  Laid BY PROGRAM, IN A SANDBOX (cutbox-rows.mjs): the forced cells as the released guide's own fill.sh prints them over the translation 3e812eff8a856a2e… (all of the seat's roots in one cut). By AI agents, Wed Nov 11 2026. No macro, syntax, notation, axiom, sorry.
-/
import Derived.Test.YtfnphdhcgkondaaGreatChecked
import GoSem.Claim
import GoSem.ClaimJoined
import GoSem.ClaimMapViews
import Derived.JoinedTies
import Derived.KernelRfl
namespace Go.Proofs.YtfnphdhcgkondaaGreat
/- THE CELL 'sum', in the pinned program and in every row, IS THE sha256 OF THE DUMP (.gsa) THAT YtfnphdhcgkondaaGreatProg.lean LOADS. Nothing in Lean hashes anything: it is a label: what it is worth is what the hold of that sum in a sandbox is worth. -/
noncomputable def Tryz.pinned : Pinned := { name := "ytfnphdhcgkondaagreat", sum := "3e812eff8a856a2e176c633078b8043d76b92751ad9714a4e7f3be6f3354642a", checked := Tryz.checked }
namespace Rows
def none {H : Type} : Left H := { results := [], args := [] }

/-- 'dynposlaw18.ShedClears': WHATEVER THE INPUT: true; the input reads as it did. -/
def shedClearsSpec : ChangeSpec := { name := "shedClears", fn := fun _ => fun
  | [d] => { results := [.lit (.bool true)], args := [d] }
  | _ => none }
def shedClearsRow : OpenClaim := { program := "ytfnphdhcgkondaagreat", sum := "3e812eff8a856a2e176c633078b8043d76b92751ad9714a4e7f3be6f3354642a", func := "dynpos/dynposlaw18.ShedClears", spec := "shedClears", unfollowed := true, recurses := true, apart := false }
def ShedClearsSaid : Prop := shedClearsRow.holds Tryz.pinned (OpenSpec.ofChange shedClearsSpec)

/-- ITS FALSE NEIGHBOUR: 'it returns false'. Refute it at one input. -/
def shedClearsWrong : ChangeSpec := { name := "shedClears", fn := fun _ => fun
  | [d] => { results := [.lit (.bool false)], args := [d] }
  | _ => none }
def ShedClearsWrongFalsely : Prop := shedClearsRow.holds Tryz.pinned (OpenSpec.ofChange shedClearsWrong)

/-- 'dynposlaw18.ShedEnough': WHATEVER THE INPUT: true; the input reads as it did. -/
def shedEnoughSpec : ChangeSpec := { name := "shedEnough", fn := fun _ => fun
  | [d] => { results := [.lit (.bool true)], args := [d] }
  | _ => none }
def shedEnoughRow : OpenClaim := { program := "ytfnphdhcgkondaagreat", sum := "3e812eff8a856a2e176c633078b8043d76b92751ad9714a4e7f3be6f3354642a", func := "dynpos/dynposlaw18.ShedEnough", spec := "shedEnough", unfollowed := true, recurses := true, apart := false }
def ShedEnoughSaid : Prop := shedEnoughRow.holds Tryz.pinned (OpenSpec.ofChange shedEnoughSpec)

/-- ITS FALSE NEIGHBOUR: 'it returns false'. Refute it at one input. -/
def shedEnoughWrong : ChangeSpec := { name := "shedEnough", fn := fun _ => fun
  | [d] => { results := [.lit (.bool false)], args := [d] }
  | _ => none }
def ShedEnoughWrongFalsely : Prop := shedEnoughRow.holds Tryz.pinned (OpenSpec.ofChange shedEnoughWrong)

/-- 'dynposlaw18.ShedOrder': WHATEVER THE INPUT: true; the input reads as it did. -/
def shedOrderSpec : ChangeSpec := { name := "shedOrder", fn := fun _ => fun
  | [d] => { results := [.lit (.bool true)], args := [d] }
  | _ => none }
def shedOrderRow : OpenClaim := { program := "ytfnphdhcgkondaagreat", sum := "3e812eff8a856a2e176c633078b8043d76b92751ad9714a4e7f3be6f3354642a", func := "dynpos/dynposlaw18.ShedOrder", spec := "shedOrder", unfollowed := true, recurses := true, apart := false }
def ShedOrderSaid : Prop := shedOrderRow.holds Tryz.pinned (OpenSpec.ofChange shedOrderSpec)

/-- ITS FALSE NEIGHBOUR: 'it returns false'. Refute it at one input. -/
def shedOrderWrong : ChangeSpec := { name := "shedOrder", fn := fun _ => fun
  | [d] => { results := [.lit (.bool false)], args := [d] }
  | _ => none }
def ShedOrderWrongFalsely : Prop := shedOrderRow.holds Tryz.pinned (OpenSpec.ofChange shedOrderWrong)

/-- 'dynposlaw18.ShedExact': WHATEVER THE INPUT: true; the input reads as it did. -/
def shedExactSpec : ChangeSpec := { name := "shedExact", fn := fun _ => fun
  | [d1, d2, d3, d4] => { results := [.lit (.bool true)], args := [d1, d2, d3, d4] }
  | _ => none }
def shedExactRow : OpenClaim := { program := "ytfnphdhcgkondaagreat", sum := "3e812eff8a856a2e176c633078b8043d76b92751ad9714a4e7f3be6f3354642a", func := "dynpos/dynposlaw18.ShedExact", spec := "shedExact", unfollowed := true, recurses := true, apart := false }
def ShedExactSaid : Prop := shedExactRow.holds Tryz.pinned (OpenSpec.ofChange shedExactSpec)

/-- ITS FALSE NEIGHBOUR: 'it returns false'. Refute it at one input. -/
def shedExactWrong : ChangeSpec := { name := "shedExact", fn := fun _ => fun
  | [d1, d2, d3, d4] => { results := [.lit (.bool false)], args := [d1, d2, d3, d4] }
  | _ => none }
def ShedExactWrongFalsely : Prop := shedExactRow.holds Tryz.pinned (OpenSpec.ofChange shedExactWrong)

/-- 'dynposlaw18.ShedProtects': WHATEVER THE INPUT: true; the input reads as it did. -/
def shedProtectsSpec : ChangeSpec := { name := "shedProtects", fn := fun _ => fun
  | [d] => { results := [.lit (.bool true)], args := [d] }
  | _ => none }
def shedProtectsRow : OpenClaim := { program := "ytfnphdhcgkondaagreat", sum := "3e812eff8a856a2e176c633078b8043d76b92751ad9714a4e7f3be6f3354642a", func := "dynpos/dynposlaw18.ShedProtects", spec := "shedProtects", unfollowed := true, recurses := true, apart := false }
def ShedProtectsSaid : Prop := shedProtectsRow.holds Tryz.pinned (OpenSpec.ofChange shedProtectsSpec)

/-- ITS FALSE NEIGHBOUR: 'it returns false'. Refute it at one input. -/
def shedProtectsWrong : ChangeSpec := { name := "shedProtects", fn := fun _ => fun
  | [d] => { results := [.lit (.bool false)], args := [d] }
  | _ => none }
def ShedProtectsWrongFalsely : Prop := shedProtectsRow.holds Tryz.pinned (OpenSpec.ofChange shedProtectsWrong)

/-- 'dynposlaw18.ShedServes': WHATEVER THE INPUT: true; the input reads as it did. -/
def shedServesSpec : ChangeSpec := { name := "shedServes", fn := fun _ => fun
  | [d] => { results := [.lit (.bool true)], args := [d] }
  | _ => none }
def shedServesRow : OpenClaim := { program := "ytfnphdhcgkondaagreat", sum := "3e812eff8a856a2e176c633078b8043d76b92751ad9714a4e7f3be6f3354642a", func := "dynpos/dynposlaw18.ShedServes", spec := "shedServes", unfollowed := true, recurses := true, apart := false }
def ShedServesSaid : Prop := shedServesRow.holds Tryz.pinned (OpenSpec.ofChange shedServesSpec)

/-- ITS FALSE NEIGHBOUR: 'it returns false'. Refute it at one input. -/
def shedServesWrong : ChangeSpec := { name := "shedServes", fn := fun _ => fun
  | [d] => { results := [.lit (.bool false)], args := [d] }
  | _ => none }
def ShedServesWrongFalsely : Prop := shedServesRow.holds Tryz.pinned (OpenSpec.ofChange shedServesWrong)

/- THE SECOND FORM. 'bulk': how many values and letters a reading holds, each counted each time it is reached (what is shared counts as often as it is met; a slice's spare places count too). A statement '..UptoSaid' is the law's where the arguments, and the package variables that the reading takes, are together of bulk at most 1048576: NARROWER than '..Said'. Prove '..Said' where nothing that the law and all that it calls make is longer than what came in: it says more and counts as full. Else prove '..UptoSaid'. A law counts once. -/
mutual
def uptoBulk {H : Type} : DataW H → Nat
  | .lit (.string bytes) => bytes.length + 1
  | .lit _ => 1
  | .nil => 1
  | .ptr d => uptoBulk d + 1
  | .slice elems spare => uptoBulkAll elems + uptoBulkAll spare + 1
  | .agg parts => uptoBulkAll parts + 1
  | .iface _ d => uptoBulk d + 1
  | .map entries => uptoBulkEntries entries + 1
  | .held _ => 1
def uptoBulkAll {H : Type} : List (DataW H) → Nat
  | [] => 0
  | d :: r => uptoBulk d + uptoBulkAll r
def uptoBulkEntries {H : Type} : List (Lit × DataW H) → Nat
  | [] => 0
  | x :: r => uptoBulkEntry x + uptoBulkEntries r
def uptoBulkEntry {H : Type} : Lit × DataW H → Nat
  | (.string bytes, d) => bytes.length + uptoBulk d + 1
  | (_, d) => uptoBulk d + 1
 end
def uptoSmall : (H : Type) → List (DataW H) → Bool := fun _ ds => decide (uptoBulkAll ds ≤ 1048576)
def OpenSpec.upto (s : _root_.Go.ChangeSpec) : _root_.Go.OpenSpec := { _root_.Go.OpenSpec.ofChange s with cond := some uptoSmall }

/-- 'dynposlaw18.ShedClears', WHERE WHAT IT READS IS OF BULK AT MOST 1048576: true; the input reads as it did. -/
def shedClearsUptoRow : OpenClaim := { program := "ytfnphdhcgkondaagreat", sum := "3e812eff8a856a2e176c633078b8043d76b92751ad9714a4e7f3be6f3354642a", func := "dynpos/dynposlaw18.ShedClears", spec := "shedClears", unfollowed := true, recurses := true, apart := false, narrowed := true }
def ShedClearsUptoSaid : Prop := shedClearsUptoRow.holds Tryz.pinned (OpenSpec.upto shedClearsSpec)

/-- 'dynposlaw18.ShedEnough', WHERE WHAT IT READS IS OF BULK AT MOST 1048576: true; the input reads as it did. -/
def shedEnoughUptoRow : OpenClaim := { program := "ytfnphdhcgkondaagreat", sum := "3e812eff8a856a2e176c633078b8043d76b92751ad9714a4e7f3be6f3354642a", func := "dynpos/dynposlaw18.ShedEnough", spec := "shedEnough", unfollowed := true, recurses := true, apart := false, narrowed := true }
def ShedEnoughUptoSaid : Prop := shedEnoughUptoRow.holds Tryz.pinned (OpenSpec.upto shedEnoughSpec)

/-- 'dynposlaw18.ShedOrder', WHERE WHAT IT READS IS OF BULK AT MOST 1048576: true; the input reads as it did. -/
def shedOrderUptoRow : OpenClaim := { program := "ytfnphdhcgkondaagreat", sum := "3e812eff8a856a2e176c633078b8043d76b92751ad9714a4e7f3be6f3354642a", func := "dynpos/dynposlaw18.ShedOrder", spec := "shedOrder", unfollowed := true, recurses := true, apart := false, narrowed := true }
def ShedOrderUptoSaid : Prop := shedOrderUptoRow.holds Tryz.pinned (OpenSpec.upto shedOrderSpec)

/-- 'dynposlaw18.ShedExact', WHERE WHAT IT READS IS OF BULK AT MOST 1048576: true; the input reads as it did. -/
def shedExactUptoRow : OpenClaim := { program := "ytfnphdhcgkondaagreat", sum := "3e812eff8a856a2e176c633078b8043d76b92751ad9714a4e7f3be6f3354642a", func := "dynpos/dynposlaw18.ShedExact", spec := "shedExact", unfollowed := true, recurses := true, apart := false, narrowed := true }
def ShedExactUptoSaid : Prop := shedExactUptoRow.holds Tryz.pinned (OpenSpec.upto shedExactSpec)

/-- 'dynposlaw18.ShedProtects', WHERE WHAT IT READS IS OF BULK AT MOST 1048576: true; the input reads as it did. -/
def shedProtectsUptoRow : OpenClaim := { program := "ytfnphdhcgkondaagreat", sum := "3e812eff8a856a2e176c633078b8043d76b92751ad9714a4e7f3be6f3354642a", func := "dynpos/dynposlaw18.ShedProtects", spec := "shedProtects", unfollowed := true, recurses := true, apart := false, narrowed := true }
def ShedProtectsUptoSaid : Prop := shedProtectsUptoRow.holds Tryz.pinned (OpenSpec.upto shedProtectsSpec)

/-- 'dynposlaw18.ShedServes', WHERE WHAT IT READS IS OF BULK AT MOST 1048576: true; the input reads as it did. -/
def shedServesUptoRow : OpenClaim := { program := "ytfnphdhcgkondaagreat", sum := "3e812eff8a856a2e176c633078b8043d76b92751ad9714a4e7f3be6f3354642a", func := "dynpos/dynposlaw18.ShedServes", spec := "shedServes", unfollowed := true, recurses := true, apart := false, narrowed := true }
def ShedServesUptoSaid : Prop := shedServesUptoRow.holds Tryz.pinned (OpenSpec.upto shedServesSpec)

end Rows
end Go.Proofs.YtfnphdhcgkondaaGreat
