/- Types: structures, how they lie in memory. Written by a program (wip/gen). -/
import Derived.Test.YtdfokgnmemlmgaaRp
import Derived.Test.YtdfokgnmemlmgaaProg
import Derived.KernelRfl
set_option linter.unusedVariables false
namespace Go.Proofs.Ytdfokgnmemlmgaa
open Go Go.RowKit Dp
namespace Rx

structure Alarm where
  Number : Int
  Urgency : Int
  State : Int
  Since : Int
def Alarm_to (x : Alarm) : Int × Int × Int × Int := (x.Number, x.Urgency, x.State, x.Since)
instance : Rep Alarm := Rep.via Alarm_to ⟨Rep.zero, Rep.zero, Rep.zero, Rep.zero⟩ rfl
structure list where
  l : (List Alarm)
  time : Int
def list_to (x : list) : (List Alarm) × Int := (x.l, x.time)
instance : Rep list := Rep.via list_to ⟨Rep.zero, Rep.zero⟩ rfl
structure Src where
  L : (List Int)
  At : Int
def Src_to (x : Src) : (List Int) × Int := (x.L, x.At)
instance : Rep Src := Rep.via Src_to ⟨Rep.zero, Rep.zero⟩ rfl
@[reducible] def D (n : Nat) : Type := match n with
  | 0 => Int
  | 1 => Bool
  | 2 => ByteArray
  | 3 => Alarm
  | 4 => list
  | 5 => Src
  | 6 => (Int × Bool)
  | _ => Int
instance repD (n : Nat) : Rep (D n) := match n with
  | 0 => inferInstanceAs (Rep Int)
  | 1 => inferInstanceAs (Rep Bool)
  | 2 => inferInstanceAs (Rep ByteArray)
  | 3 => inferInstanceAs (Rep Alarm)
  | 4 => inferInstanceAs (Rep list)
  | 5 => inferInstanceAs (Rep Src)
  | 6 => inferInstanceAs (Rep (Int × Bool))
  | _ + 7 => inferInstanceAs (Rep Int)
def tabLv (n : Nat) : List Lf := match n with
  | 0 => [(.int .i64)]
  | 1 => [.bool]
  | 2 => [.str]
  | 3 => [(.int .i64), (.int .i64), (.int .i64), (.int .i64)]
  | 4 => [(.sl 3), (.int .i64)]
  | 5 => [(.sl 0), (.int .i64)]
  | 6 => [(.int .i64), .bool]
  | _ => [.int .i64]
def tabAg (n : Nat) : Bool := match n with
  | 0 => false
  | 1 => false
  | 2 => false
  | 3 => true
  | 4 => true
  | 5 => true
  | 6 => true
  | _ => false
def tabOut : ∀ n : Nat, D n → HL D (tabLv n)
  | 0 => fun x => x
  | 1 => fun x => x
  | 2 => fun x => x
  | 3 => fun x => (x.Number, x.Urgency, x.State, x.Since)
  | 4 => fun x => (x.l, x.time)
  | 5 => fun x => (x.L, x.At)
  | 6 => fun x => x
  | _ + 7 => fun x => x
def tabMk : ∀ n : Nat, HL D (tabLv n) → D n
  | 0 => fun h => h
  | 1 => fun h => h
  | 2 => fun h => h
  | 3 => fun h => ⟨h.1, h.2.1, h.2.2.1, h.2.2.2⟩
  | 4 => fun h => ⟨h.1, h.2⟩
  | 5 => fun h => ⟨h.1, h.2⟩
  | 6 => fun h => h
  | _ + 7 => fun h => h
def tabZero : ∀ n : Nat, D n
  | 0 => (0 : Int)
  | 1 => false
  | 2 => ByteArray.empty
  | 3 => (⟨(0 : Int), (0 : Int), (0 : Int), (0 : Int)⟩ : Alarm)
  | 4 => (⟨[], (0 : Int)⟩ : list)
  | 5 => (⟨[], (0 : Int)⟩ : Src)
  | 6 => (0, false)
  | _ + 7 => (0 : Int)
def T : Tab D where
  lv := tabLv
  ag := tabAg
  outH := tabOut
  mkH := tabMk
  zero := tabZero
  ty := [(3, .one (.int .i64)), (4, .one .bool), (22, .one (.sl 0)), (24, .ptr), (26, .one (.sl 3)), (32, .st 3), (48, .st 5), (51, .ptr), (56, .st 4), (79, .one (.int .u64))]
  fld := [(32, [(0, 1), (1, 1), (2, 1), (3, 1)]), (48, [(0, 1), (1, 1)]), (56, [(0, 1), (1, 1)])]
  els := [(22, 3, 0), (26, 32, 3)]
  eqs := [(32, [(.int .i64), (.int .i64), (.int .i64), (.int .i64)])]
  kd := []
  ars := []
  pre := [26]
  mps := [(40, 3, 4, 6)]
theorem rd3 : RdIs D Alarm (fun x => [⟨(.int .i64), x.Number⟩, ⟨(.int .i64), x.Urgency⟩, ⟨(.int .i64), x.State⟩, ⟨(.int .i64), x.Since⟩]) := fun S w cs x => (RdIs.prod RdIs.int (RdIs.prod RdIs.int (RdIs.prod RdIs.int (RdIs.int))) : RdIs D (Int × Int × Int × Int) _) S w cs (Alarm_to x)
theorem rd4 : RdIs D list (fun x => [⟨(.sl 3), x.l⟩, ⟨(.int .i64), x.time⟩]) := fun S w cs x => (RdIs.prod (RdIs.sl 3) (RdIs.int) : RdIs D ((List Alarm) × Int) _) S w cs (list_to x)
theorem rd5 : RdIs D Src (fun x => [⟨(.sl 0), x.L⟩, ⟨(.int .i64), x.At⟩]) := fun S w cs x => (RdIs.prod (RdIs.sl 0) (RdIs.int) : RdIs D ((List Int) × Int) _) S w cs (Src_to x)
theorem rd6 : RdIs D (Int × Bool) (fun x => [⟨(.int .i64), x.1⟩, ⟨.bool, x.2⟩]) := RdIs.prod RdIs.int (RdIs.bool)
theorem repOk : RepOk T where
  sz := fun n => match n with
    | 0 => rfl
    | 1 => rfl
    | 2 => rfl
    | 3 => rfl
    | 4 => rfl
    | 5 => rfl
    | 6 => rfl
    | _ + 7 => rfl
  ag := fun n => match n with
    | 0 => rfl
    | 1 => rfl
    | 2 => rfl
    | 3 => rfl
    | 4 => rfl
    | 5 => rfl
    | 6 => rfl
    | _ + 7 => rfl
  zc := fun n => match n with
    | 0 => rfl
    | 1 => rfl
    | 2 => rfl
    | 3 => rfl
    | 4 => rfl
    | 5 => rfl
    | 6 => rfl
    | _ + 7 => rfl
  zero := fun n => match n with
    | 0 => rfl
    | 1 => rfl
    | 2 => rfl
    | 3 => rfl
    | 4 => rfl
    | 5 => rfl
    | 6 => rfl
    | _ + 7 => rfl
  rd := fun n S w cs x => match n, x with
    | 0, x => RdIs.int S w cs x
    | 1, x => RdIs.bool S w cs x
    | 2, x => RdIs.str S w cs x
    | 3, x => rd3 S w cs x
    | 4, x => rd4 S w cs x
    | 5, x => rd5 S w cs x
    | 6, x => rd6 S w cs x
    | _ + 7, x => RdIs.int S w cs x
  few := fun n => match n with
    | 0 => by decide
    | 1 => by decide
    | 2 => by decide
    | 3 => by decide
    | 4 => by decide
    | 5 => by decide
    | 6 => by decide
    | _ + 7 => by show 1 ≤ 48; decide
  mkh := fun n h => match n, h with
    | 0, h => rfl
    | 1, h => rfl
    | 2, h => rfl
    | 3, h => rfl
    | 4, h => rfl
    | 5, h => rfl
    | 6, h => rfl
    | _ + 7, h => rfl
theorem tyr3 : TyF Try.prog T 3 (.one (.int .i64)) := ⟨TyR.of Try.underlying3 rfl (by kernel_rfl), Try.underlying3⟩
theorem tyr4 : TyF Try.prog T 4 (.one .bool) := ⟨TyR.of Try.underlying4 rfl (by kernel_rfl), Try.underlying4⟩
theorem tyr22 : TyF Try.prog T 22 (.one (.sl 0)) := ⟨TyR.of Try.underlying22 rfl (by kernel_rfl), trivial⟩
theorem tyr24 : TyF Try.prog T 24 (.ptr) := ⟨TyR.of Try.underlying24 rfl (by kernel_rfl), trivial⟩
theorem tyr26 : TyF Try.prog T 26 (.one (.sl 3)) := ⟨TyR.of Try.underlying26 rfl (by kernel_rfl), trivial⟩
theorem tyr32 : TyF Try.prog T 32 (.st 3) := ⟨TyR.of Try.underlying32 rfl (by kernel_rfl), trivial⟩
theorem tyr48 : TyF Try.prog T 48 (.st 5) := ⟨TyR.of Try.underlying48 rfl (by kernel_rfl), trivial⟩
theorem tyr51 : TyF Try.prog T 51 (.ptr) := ⟨TyR.of Try.underlying51 rfl (by kernel_rfl), trivial⟩
theorem tyr56 : TyF Try.prog T 56 (.st 4) := ⟨TyR.of Try.underlying56 rfl (by kernel_rfl), trivial⟩
theorem tyr79 : TyF Try.prog T 79 (.one (.int .u64)) := ⟨TyR.of Try.underlying79 rfl (by kernel_rfl), Try.underlying79⟩
theorem slr22 : Try.prog.underlying 22 = some (.slice 3) ∧ TyOk Try.prog 3 (D 0) := ⟨Try.underlying22, TyOk.of Try.underlying3 rfl (by kernel_rfl)⟩
theorem slr26 : Try.prog.underlying 26 = some (.slice 32) ∧ TyOk Try.prog 32 (D 3) := ⟨Try.underlying26, TyOk.of Try.underlying32 rfl (by kernel_rfl)⟩
theorem flr32 : StOk Try.prog 32 [(0, 1), (1, 1), (2, 1), (3, 1)] ∧ ∀ i off sz, [((0 : Nat), (1 : Nat)), ((1 : Nat), (1 : Nat)), ((2 : Nat), (1 : Nat)), ((3 : Nat), (1 : Nat))][i]? = some (off, sz) → FldAt Try.prog 32 i off := flds_ok ⟨_, Try.underlying32, by kernel_rfl⟩ rfl
theorem flr48 : StOk Try.prog 48 [(0, 1), (1, 1)] ∧ ∀ i off sz, [((0 : Nat), (1 : Nat)), ((1 : Nat), (1 : Nat))][i]? = some (off, sz) → FldAt Try.prog 48 i off := flds_ok ⟨_, Try.underlying48, by kernel_rfl⟩ rfl
theorem flr56 : StOk Try.prog 56 [(0, 1), (1, 1)] ∧ ∀ i off sz, [((0 : Nat), (1 : Nat)), ((1 : Nat), (1 : Nat))][i]? = some (off, sz) → FldAt Try.prog 56 i off := flds_ok ⟨_, Try.underlying56, by kernel_rfl⟩ rfl
theorem eql3 : EqL Try.prog 3 false [(.int .i64)] 1 := EqL.int Try.underlying3
theorem eql32 : EqL Try.prog 32 true [(.int .i64), (.int .i64), (.int .i64), (.int .i64)] 2 := by
  refine EqL.struct (k := 1) Try.underlying32 (by kernel_rfl) ?_
  exact ⟨by simp, rfl, false, [(.int .i64)], [(.int .i64), (.int .i64), (.int .i64)], [.int .i64 0], rfl, TyR.of Try.underlying3 rfl (by kernel_rfl), rfl, fun _ => rfl, eql3.up (by decide), ⟨by simp, rfl, false, [(.int .i64)], [(.int .i64), (.int .i64)], [.int .i64 0], rfl, TyR.of Try.underlying3 rfl (by kernel_rfl), rfl, fun _ => rfl, eql3.up (by decide), ⟨by simp, rfl, false, [(.int .i64)], [(.int .i64)], [.int .i64 0], rfl, TyR.of Try.underlying3 rfl (by kernel_rfl), rfl, fun _ => rfl, eql3.up (by decide), ⟨by simp, rfl, false, [(.int .i64)], [], [.int .i64 0], rfl, TyR.of Try.underlying3 rfl (by kernel_rfl), rfl, fun _ => rfl, eql3.up (by decide), rfl⟩⟩⟩⟩
theorem eqr32 : EqT Try.prog 32 [(.int .i64), (.int .i64), (.int .i64), (.int .i64)] ∧ ([(.int .i64), (.int .i64), (.int .i64), (.int .i64)] : List Lf).all flatL = true := ⟨⟨⟨2, by decide, eql32⟩, by kernel_rfl⟩, rfl⟩
instance : Flat Alarm := ⟨fun h => Flat.any (α := Int × Int × Int × Int) h⟩
theorem flat0 : Flat (D 0) := (inferInstance : Flat Int)
theorem flat1 : Flat (D 1) := (inferInstance : Flat Bool)
theorem flat2 : Flat (D 2) := (inferInstance : Flat ByteArray)
theorem flat3 : Flat (D 3) := (inferInstance : Flat Alarm)
theorem flat6 : Flat (D 6) := (inferInstance : Flat (Int × Bool))
theorem mpr40 : MapT Try.prog T 40 3 4 6 := ⟨Try.underlying40, (KeyR.int Try.underlying3), rfl, .bool, rfl, TyR.of Try.underlying4 rfl (by kernel_rfl)⟩
theorem pOk : POk Try.prog T := POk.of (⟨tyr3, tyr4, tyr22, tyr24, tyr26, tyr32, tyr48, tyr51, tyr56, tyr79, trivial⟩) (⟨slr22, slr26, trivial⟩) (⟨flr32, flr48, flr56, trivial⟩) (⟨eqr32, trivial⟩) (trivial) (trivial) (⟨mpr40, trivial⟩)
theorem hmix : Try.prog.follows .mixedOrders = true := by kernel_rfl
def bodyOf (f : Func) : Code := match f.body with
  | some c => c
  | none => .skip
end Rx
end Go.Proofs.Ytdfokgnmemlmgaa
