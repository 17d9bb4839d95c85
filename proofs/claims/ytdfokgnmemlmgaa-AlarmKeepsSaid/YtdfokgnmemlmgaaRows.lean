/-
  No cell of these rows narrows 'for every input' (looked for: loops, veiled, ifaces, maps, wideKeys, modest, calm, conditions, laid).
  DERIVED. THE GIVEN ROWS OF THIS SEAT. 5 by the template 'for every input the law returns true; each argument reads behind the call as it read before'; 0 by the template 'total and deterministic' (their statements: YtdfokgnmemlmgaaTotals.lean).
  GIVEN WITH THE SEED: the statements are not yours to turn. If you find one false, say at which input.
  Laid BY PROGRAM, IN A SANDBOX (cutbox-rows.mjs): the forced cells as the released guide's own fill.sh prints them over the translation 86ac5ea48483e140… (all of the seat's roots in one cut). By AI agents, Wed Nov 11 2026. No macro, syntax, notation, axiom, sorry.
-/
import Derived.Test.YtdfokgnmemlmgaaChecked
import GoSem.Claim
import GoSem.ClaimJoined
import GoSem.ClaimMapViews
import Derived.JoinedTies
import Derived.KernelRfl
namespace Go.Proofs.Ytdfokgnmemlmgaa
/- THE CELL 'sum', in the pinned program and in every row, IS THE sha256 OF THE DUMP (.gsa) THAT YtdfokgnmemlmgaaProg.lean LOADS. Nothing in Lean hashes anything: it is a label: what it is worth is what the hold of that sum in a sandbox is worth. -/
noncomputable def Try.pinned : Pinned := { name := "ytdfokgnmemlmgaa", sum := "86ac5ea48483e140160481e880d0c4dec126c3e00fce30208f8028b2938a69a6", checked := Try.checked }
namespace Rows
def none {H : Type} : Left H := { results := [], args := [] }

/-- 'dynposlaw35.AlarmFirst': WHATEVER THE INPUT: true; the input reads as it did. -/
def alarmFirstSpec : ChangeSpec := { name := "alarmFirst", fn := fun _ => fun
  | [d] => { results := [.lit (.bool true)], args := [d] }
  | _ => none }
def alarmFirstRow : OpenClaim := { program := "ytdfokgnmemlmgaa", sum := "86ac5ea48483e140160481e880d0c4dec126c3e00fce30208f8028b2938a69a6", func := "dynpos/dynposlaw35.AlarmFirst", spec := "alarmFirst", inPlace := ["slices.overlaps[dynpos/api.Alarm]"], unfollowed := true, recurses := true, apart := false }
def AlarmFirstSaid : Prop := alarmFirstRow.holds Try.pinned (OpenSpec.ofChange alarmFirstSpec)

/-- ITS FALSE NEIGHBOUR: 'it returns false'. Refute it at one input. -/
def alarmFirstWrong : ChangeSpec := { name := "alarmFirst", fn := fun _ => fun
  | [d] => { results := [.lit (.bool false)], args := [d] }
  | _ => none }
def AlarmFirstWrongFalsely : Prop := alarmFirstRow.holds Try.pinned (OpenSpec.ofChange alarmFirstWrong)

/-- 'dynposlaw35.AlarmLimits': WHATEVER THE INPUT: true; the input reads as it did. -/
def alarmLimitsSpec : ChangeSpec := { name := "alarmLimits", fn := fun _ => fun
  | [d] => { results := [.lit (.bool true)], args := [d] }
  | _ => none }
def alarmLimitsRow : OpenClaim := { program := "ytdfokgnmemlmgaa", sum := "86ac5ea48483e140160481e880d0c4dec126c3e00fce30208f8028b2938a69a6", func := "dynpos/dynposlaw35.AlarmLimits", spec := "alarmLimits", inPlace := ["slices.overlaps[dynpos/api.Alarm]"], unfollowed := true, recurses := true, apart := false }
def AlarmLimitsSaid : Prop := alarmLimitsRow.holds Try.pinned (OpenSpec.ofChange alarmLimitsSpec)

/-- ITS FALSE NEIGHBOUR: 'it returns false'. Refute it at one input. -/
def alarmLimitsWrong : ChangeSpec := { name := "alarmLimits", fn := fun _ => fun
  | [d] => { results := [.lit (.bool false)], args := [d] }
  | _ => none }
def AlarmLimitsWrongFalsely : Prop := alarmLimitsRow.holds Try.pinned (OpenSpec.ofChange alarmLimitsWrong)

/-- 'dynposlaw35.AlarmKeeps': WHATEVER THE INPUT: true; the input reads as it did. -/
def alarmKeepsSpec : ChangeSpec := { name := "alarmKeeps", fn := fun _ => fun
  | [d] => { results := [.lit (.bool true)], args := [d] }
  | _ => none }
def alarmKeepsRow : OpenClaim := { program := "ytdfokgnmemlmgaa", sum := "86ac5ea48483e140160481e880d0c4dec126c3e00fce30208f8028b2938a69a6", func := "dynpos/dynposlaw35.AlarmKeeps", spec := "alarmKeeps", inPlace := ["slices.overlaps[dynpos/api.Alarm]"], unfollowed := true, recurses := true, apart := false }
def AlarmKeepsSaid : Prop := alarmKeepsRow.holds Try.pinned (OpenSpec.ofChange alarmKeepsSpec)

/-- ITS FALSE NEIGHBOUR: 'it returns false'. Refute it at one input. -/
def alarmKeepsWrong : ChangeSpec := { name := "alarmKeeps", fn := fun _ => fun
  | [d] => { results := [.lit (.bool false)], args := [d] }
  | _ => none }
def AlarmKeepsWrongFalsely : Prop := alarmKeepsRow.holds Try.pinned (OpenSpec.ofChange alarmKeepsWrong)

/-- 'dynposlaw35.AlarmTells': WHATEVER THE INPUT: true; the input reads as it did. -/
def alarmTellsSpec : ChangeSpec := { name := "alarmTells", fn := fun _ => fun
  | [d] => { results := [.lit (.bool true)], args := [d] }
  | _ => none }
def alarmTellsRow : OpenClaim := { program := "ytdfokgnmemlmgaa", sum := "86ac5ea48483e140160481e880d0c4dec126c3e00fce30208f8028b2938a69a6", func := "dynpos/dynposlaw35.AlarmTells", spec := "alarmTells", inPlace := ["slices.overlaps[dynpos/api.Alarm]"], unfollowed := true, recurses := true, apart := false }
def AlarmTellsSaid : Prop := alarmTellsRow.holds Try.pinned (OpenSpec.ofChange alarmTellsSpec)

/-- ITS FALSE NEIGHBOUR: 'it returns false'. Refute it at one input. -/
def alarmTellsWrong : ChangeSpec := { name := "alarmTells", fn := fun _ => fun
  | [d] => { results := [.lit (.bool false)], args := [d] }
  | _ => none }
def AlarmTellsWrongFalsely : Prop := alarmTellsRow.holds Try.pinned (OpenSpec.ofChange alarmTellsWrong)

/-- 'dynposlaw35.AlarmOrders': WHATEVER THE INPUT: true; the input reads as it did. -/
def alarmOrdersSpec : ChangeSpec := { name := "alarmOrders", fn := fun _ => fun
  | [d] => { results := [.lit (.bool true)], args := [d] }
  | _ => none }
def alarmOrdersRow : OpenClaim := { program := "ytdfokgnmemlmgaa", sum := "86ac5ea48483e140160481e880d0c4dec126c3e00fce30208f8028b2938a69a6", func := "dynpos/dynposlaw35.AlarmOrders", spec := "alarmOrders", inPlace := ["slices.overlaps[dynpos/api.Alarm]"], unfollowed := true, recurses := true, apart := false }
def AlarmOrdersSaid : Prop := alarmOrdersRow.holds Try.pinned (OpenSpec.ofChange alarmOrdersSpec)

/-- ITS FALSE NEIGHBOUR: 'it returns false'. Refute it at one input. -/
def alarmOrdersWrong : ChangeSpec := { name := "alarmOrders", fn := fun _ => fun
  | [d] => { results := [.lit (.bool false)], args := [d] }
  | _ => none }
def AlarmOrdersWrongFalsely : Prop := alarmOrdersRow.holds Try.pinned (OpenSpec.ofChange alarmOrdersWrong)

/- THE SECOND FORM. 'bulk': how many values and letters a reading holds, each counted each time it is reached (what is shared counts as often as it is met; a slice's spare places count too). A statement '..UptoSaid' is the law's where the arguments, and the package variables that the reading takes, are together of bulk at most 1048576: NARROWER than '..Said'. Prove '..Said' where nothing that the law and all that it calls make is longer than what came in: it says more and counts as full. Else prove '..UptoSaid'. A law counts once. -/
mutual
def uptoBulk {H : Type} : DataW H → Nat
  | .lit (.string bytes) => bytes.length + 1
  | .lit _ => 1
  | .nil => 1
  | .ptr d => uptoBulk d + 1
  | .slice elems spare => uptoBulkAll elems + uptoBulkAll spare + 1
  | .agg parts => uptoBulkAll parts + 1
  | .iface _ d => uptoBulk d + 1
  | .map entries => uptoBulkEntries entries + 1
  | .held _ => 1
def uptoBulkAll {H : Type} : List (DataW H) → Nat
  | [] => 0
  | d :: r => uptoBulk d + uptoBulkAll r
def uptoBulkEntries {H : Type} : List (Lit × DataW H) → Nat
  | [] => 0
  | x :: r => uptoBulkEntry x + uptoBulkEntries r
def uptoBulkEntry {H : Type} : Lit × DataW H → Nat
  | (.string bytes, d) => bytes.length + uptoBulk d + 1
  | (_, d) => uptoBulk d + 1
 end
def uptoSmall : (H : Type) → List (DataW H) → Bool := fun _ ds => decide (uptoBulkAll ds ≤ 1048576)
def OpenSpec.upto (s : _root_.Go.ChangeSpec) : _root_.Go.OpenSpec := { _root_.Go.OpenSpec.ofChange s with cond := some uptoSmall }

/-- 'dynposlaw35.AlarmFirst', WHERE WHAT IT READS IS OF BULK AT MOST 1048576: true; the input reads as it did. -/
def alarmFirstUptoRow : OpenClaim := { program := "ytdfokgnmemlmgaa", sum := "86ac5ea48483e140160481e880d0c4dec126c3e00fce30208f8028b2938a69a6", func := "dynpos/dynposlaw35.AlarmFirst", spec := "alarmFirst", inPlace := ["slices.overlaps[dynpos/api.Alarm]"], unfollowed := true, recurses := true, apart := false, narrowed := true }
def AlarmFirstUptoSaid : Prop := alarmFirstUptoRow.holds Try.pinned (OpenSpec.upto alarmFirstSpec)

/-- 'dynposlaw35.AlarmLimits', WHERE WHAT IT READS IS OF BULK AT MOST 1048576: true; the input reads as it did. -/
def alarmLimitsUptoRow : OpenClaim := { program := "ytdfokgnmemlmgaa", sum := "86ac5ea48483e140160481e880d0c4dec126c3e00fce30208f8028b2938a69a6", func := "dynpos/dynposlaw35.AlarmLimits", spec := "alarmLimits", inPlace := ["slices.overlaps[dynpos/api.Alarm]"], unfollowed := true, recurses := true, apart := false, narrowed := true }
def AlarmLimitsUptoSaid : Prop := alarmLimitsUptoRow.holds Try.pinned (OpenSpec.upto alarmLimitsSpec)

/-- 'dynposlaw35.AlarmKeeps', WHERE WHAT IT READS IS OF BULK AT MOST 1048576: true; the input reads as it did. -/
def alarmKeepsUptoRow : OpenClaim := { program := "ytdfokgnmemlmgaa", sum := "86ac5ea48483e140160481e880d0c4dec126c3e00fce30208f8028b2938a69a6", func := "dynpos/dynposlaw35.AlarmKeeps", spec := "alarmKeeps", inPlace := ["slices.overlaps[dynpos/api.Alarm]"], unfollowed := true, recurses := true, apart := false, narrowed := true }
def AlarmKeepsUptoSaid : Prop := alarmKeepsUptoRow.holds Try.pinned (OpenSpec.upto alarmKeepsSpec)

/-- 'dynposlaw35.AlarmTells', WHERE WHAT IT READS IS OF BULK AT MOST 1048576: true; the input reads as it did. -/
def alarmTellsUptoRow : OpenClaim := { program := "ytdfokgnmemlmgaa", sum := "86ac5ea48483e140160481e880d0c4dec126c3e00fce30208f8028b2938a69a6", func := "dynpos/dynposlaw35.AlarmTells", spec := "alarmTells", inPlace := ["slices.overlaps[dynpos/api.Alarm]"], unfollowed := true, recurses := true, apart := false, narrowed := true }
def AlarmTellsUptoSaid : Prop := alarmTellsUptoRow.holds Try.pinned (OpenSpec.upto alarmTellsSpec)

/-- 'dynposlaw35.AlarmOrders', WHERE WHAT IT READS IS OF BULK AT MOST 1048576: true; the input reads as it did. -/
def alarmOrdersUptoRow : OpenClaim := { program := "ytdfokgnmemlmgaa", sum := "86ac5ea48483e140160481e880d0c4dec126c3e00fce30208f8028b2938a69a6", func := "dynpos/dynposlaw35.AlarmOrders", spec := "alarmOrders", inPlace := ["slices.overlaps[dynpos/api.Alarm]"], unfollowed := true, recurses := true, apart := false, narrowed := true }
def AlarmOrdersUptoSaid : Prop := alarmOrdersUptoRow.holds Try.pinned (OpenSpec.upto alarmOrdersSpec)

end Rows
end Go.Proofs.Ytdfokgnmemlmgaa
