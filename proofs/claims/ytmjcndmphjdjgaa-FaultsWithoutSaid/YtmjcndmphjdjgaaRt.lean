/- Types: structures, how they lie in memory. Written by a program (wip/gen). -/
import Derived.Test.YtmjcndmphjdjgaaRp
import Derived.Test.YtmjcndmphjdjgaaProg
import Derived.KernelRfl
set_option linter.unusedVariables false
namespace Go.Proofs.Ytmjcndmphjdjgaa
open Go Go.RowKit Dp
namespace Rx

structure Part where
  Kind : Int
  Number : Int
def Part_to (x : Part) : Int × Int := (x.Kind, x.Number)
instance : Rep Part := Rep.via Part_to ⟨Rep.zero, Rep.zero⟩ rfl
structure Fault where
  Time : Int
  Kind : Int
  Part : Part
def Fault_to (x : Fault) : Int × Int × Part := (x.Time, x.Kind, x.Part)
instance : Rep Fault := Rep.via Fault_to ⟨Rep.zero, Rep.zero, Rep.zero⟩ rfl
structure Src where
  L : (List Int)
  At : Int
def Src_to (x : Src) : (List Int) × Int := (x.L, x.At)
instance : Rep Src := Rep.via Src_to ⟨Rep.zero, Rep.zero⟩ rfl
@[reducible] def D (n : Nat) : Type := match n with
  | 0 => Int
  | 1 => Bool
  | 2 => ByteArray
  | 3 => Part
  | 4 => Fault
  | 5 => (List Fault)
  | 6 => Src
  | 7 => (List Part)
  | _ => Int
instance repD (n : Nat) : Rep (D n) := match n with
  | 0 => inferInstanceAs (Rep Int)
  | 1 => inferInstanceAs (Rep Bool)
  | 2 => inferInstanceAs (Rep ByteArray)
  | 3 => inferInstanceAs (Rep Part)
  | 4 => inferInstanceAs (Rep Fault)
  | 5 => inferInstanceAs (Rep (List Fault))
  | 6 => inferInstanceAs (Rep Src)
  | 7 => inferInstanceAs (Rep (List Part))
  | _ + 8 => inferInstanceAs (Rep Int)
def tabLv (n : Nat) : List Lf := match n with
  | 0 => [(.int .i64)]
  | 1 => [.bool]
  | 2 => [.str]
  | 3 => [(.int .i64), (.int .i64)]
  | 4 => [(.int .i64), (.int .i64), (.int .i64), (.int .i64)]
  | 5 => [(.sl 4)]
  | 6 => [(.sl 0), (.int .i64)]
  | 7 => [(.sl 3)]
  | _ => [.int .i64]
def tabAg (n : Nat) : Bool := match n with
  | 0 => false
  | 1 => false
  | 2 => false
  | 3 => true
  | 4 => true
  | 5 => false
  | 6 => true
  | 7 => false
  | _ => false
def tabOut : ∀ n : Nat, D n → HL D (tabLv n)
  | 0 => fun x => x
  | 1 => fun x => x
  | 2 => fun x => x
  | 3 => fun x => (x.Kind, x.Number)
  | 4 => fun x => (x.Time, x.Kind, x.Part.Kind, x.Part.Number)
  | 5 => fun x => x
  | 6 => fun x => (x.L, x.At)
  | 7 => fun x => x
  | _ + 8 => fun x => x
def tabMk : ∀ n : Nat, HL D (tabLv n) → D n
  | 0 => fun h => h
  | 1 => fun h => h
  | 2 => fun h => h
  | 3 => fun h => ⟨h.1, h.2⟩
  | 4 => fun h => ⟨h.1, h.2.1, ⟨h.2.2.1, h.2.2.2⟩⟩
  | 5 => fun h => h
  | 6 => fun h => ⟨h.1, h.2⟩
  | 7 => fun h => h
  | _ + 8 => fun h => h
def tabZero : ∀ n : Nat, D n
  | 0 => (0 : Int)
  | 1 => false
  | 2 => ByteArray.empty
  | 3 => (⟨(0 : Int), (0 : Int)⟩ : Part)
  | 4 => (⟨(0 : Int), (0 : Int), ⟨(0 : Int), (0 : Int)⟩⟩ : Fault)
  | 5 => ([] : (List Fault))
  | 6 => (⟨[], (0 : Int)⟩ : Src)
  | 7 => ([] : (List Part))
  | _ + 8 => (0 : Int)
def T : Tab D where
  lv := tabLv
  ag := tabAg
  outH := tabOut
  mkH := tabMk
  zero := tabZero
  ty := [(3, .one (.int .i64)), (4, .one .bool), (22, .one (.sl 0)), (24, .ptr), (26, .one (.sl 4)), (28, .one (.int .i64)), (34, .one (.sl 3)), (41, .st 3), (44, .one (.int .u16)), (50, .st 4), (61, .st 6), (67, .fn), (72, .fn), (78, .one (.sl 0)), (79, .one (.sl 5)), (86, .fn), (105, .one (.int .u64))]
  fld := [(41, [(0, 1), (1, 1)]), (50, [(0, 1), (1, 1), (2, 2)]), (61, [(0, 1), (1, 1)])]
  els := [(22, 3, 0), (26, 50, 4), (34, 41, 3), (78, 28, 0), (79, 26, 5)]
  eqs := [(41, [(.int .i64), (.int .i64)]), (50, [(.int .i64), (.int .i64), (.int .i64), (.int .i64)])]
  kd := []
  ars := [(70, 2, 34, 7)]
  pre := [90153, 139297]
  mps := []
theorem rd3 : RdIs D Part (fun x => [⟨(.int .i64), x.Kind⟩, ⟨(.int .i64), x.Number⟩]) := fun S w cs x => (RdIs.prod RdIs.int (RdIs.int) : RdIs D (Int × Int) _) S w cs (Part_to x)
theorem rd4 : RdIs D Fault (fun x => [⟨(.int .i64), x.Time⟩, ⟨(.int .i64), x.Kind⟩, ⟨(.int .i64), x.Part.Kind⟩, ⟨(.int .i64), x.Part.Number⟩]) := fun S w cs x => (RdIs.prod RdIs.int (RdIs.prod RdIs.int (rd3)) : RdIs D (Int × Int × Part) _) S w cs (Fault_to x)
theorem rd6 : RdIs D Src (fun x => [⟨(.sl 0), x.L⟩, ⟨(.int .i64), x.At⟩]) := fun S w cs x => (RdIs.prod (RdIs.sl 0) (RdIs.int) : RdIs D ((List Int) × Int) _) S w cs (Src_to x)
theorem rd5 : RdIs D (List Fault) (fun x => [⟨.sl 4, x⟩]) := RdIs.sl 4
theorem rd7 : RdIs D (List Part) (fun x => [⟨.sl 3, x⟩]) := RdIs.sl 3
theorem repOk : RepOk T where
  sz := fun n => match n with
    | 0 => rfl
    | 1 => rfl
    | 2 => rfl
    | 3 => rfl
    | 4 => rfl
    | 5 => rfl
    | 6 => rfl
    | 7 => rfl
    | _ + 8 => rfl
  ag := fun n => match n with
    | 0 => rfl
    | 1 => rfl
    | 2 => rfl
    | 3 => rfl
    | 4 => rfl
    | 5 => rfl
    | 6 => rfl
    | 7 => rfl
    | _ + 8 => rfl
  zc := fun n => match n with
    | 0 => rfl
    | 1 => rfl
    | 2 => rfl
    | 3 => rfl
    | 4 => rfl
    | 5 => rfl
    | 6 => rfl
    | 7 => rfl
    | _ + 8 => rfl
  zero := fun n => match n with
    | 0 => rfl
    | 1 => rfl
    | 2 => rfl
    | 3 => rfl
    | 4 => rfl
    | 5 => rfl
    | 6 => rfl
    | 7 => rfl
    | _ + 8 => rfl
  rd := fun n S w cs x => match n, x with
    | 0, x => RdIs.int S w cs x
    | 1, x => RdIs.bool S w cs x
    | 2, x => RdIs.str S w cs x
    | 3, x => rd3 S w cs x
    | 4, x => rd4 S w cs x
    | 5, x => rd5 S w cs x
    | 6, x => rd6 S w cs x
    | 7, x => rd7 S w cs x
    | _ + 8, x => RdIs.int S w cs x
  few := fun n => match n with
    | 0 => by decide
    | 1 => by decide
    | 2 => by decide
    | 3 => by decide
    | 4 => by decide
    | 5 => by decide
    | 6 => by decide
    | 7 => by decide
    | _ + 8 => by show 1 ≤ 48; decide
  mkh := fun n h => match n, h with
    | 0, h => rfl
    | 1, h => rfl
    | 2, h => rfl
    | 3, h => rfl
    | 4, h => rfl
    | 5, h => rfl
    | 6, h => rfl
    | 7, h => rfl
    | _ + 8, h => rfl
theorem tyr3 : TyF Try.prog T 3 (.one (.int .i64)) := ⟨TyR.of Try.underlying3 rfl (by kernel_rfl), Try.underlying3⟩
theorem tyr4 : TyF Try.prog T 4 (.one .bool) := ⟨TyR.of Try.underlying4 rfl (by kernel_rfl), Try.underlying4⟩
theorem tyr22 : TyF Try.prog T 22 (.one (.sl 0)) := ⟨TyR.of Try.underlying22 rfl (by kernel_rfl), trivial⟩
theorem tyr24 : TyF Try.prog T 24 (.ptr) := ⟨TyR.of Try.underlying24 rfl (by kernel_rfl), trivial⟩
theorem tyr26 : TyF Try.prog T 26 (.one (.sl 4)) := ⟨TyR.of Try.underlying26 rfl (by kernel_rfl), trivial⟩
theorem tyr28 : TyF Try.prog T 28 (.one (.int .i64)) := ⟨TyR.of Try.underlying28 rfl (by kernel_rfl), Try.underlying28⟩
theorem tyr34 : TyF Try.prog T 34 (.one (.sl 3)) := ⟨TyR.of Try.underlying34 rfl (by kernel_rfl), trivial⟩
theorem tyr41 : TyF Try.prog T 41 (.st 3) := ⟨TyR.of Try.underlying41 rfl (by kernel_rfl), trivial⟩
theorem tyr44 : TyF Try.prog T 44 (.one (.int .u16)) := ⟨TyR.of Try.underlying44 rfl (by kernel_rfl), Try.underlying44⟩
theorem tyr50 : TyF Try.prog T 50 (.st 4) := ⟨TyR.of Try.underlying50 rfl (by kernel_rfl), trivial⟩
theorem tyr61 : TyF Try.prog T 61 (.st 6) := ⟨TyR.of Try.underlying61 rfl (by kernel_rfl), trivial⟩
theorem tyr67 : TyF Try.prog T 67 (.fn) := ⟨TyR.of Try.underlying67 rfl (by kernel_rfl), trivial⟩
theorem tyr72 : TyF Try.prog T 72 (.fn) := ⟨TyR.of Try.underlying72 rfl (by kernel_rfl), trivial⟩
theorem tyr78 : TyF Try.prog T 78 (.one (.sl 0)) := ⟨TyR.of Try.underlying78 rfl (by kernel_rfl), trivial⟩
theorem tyr79 : TyF Try.prog T 79 (.one (.sl 5)) := ⟨TyR.of Try.underlying79 rfl (by kernel_rfl), trivial⟩
theorem tyr86 : TyF Try.prog T 86 (.fn) := ⟨TyR.of Try.underlying86 rfl (by kernel_rfl), trivial⟩
theorem tyr105 : TyF Try.prog T 105 (.one (.int .u64)) := ⟨TyR.of Try.underlying105 rfl (by kernel_rfl), Try.underlying105⟩
theorem slr22 : Try.prog.underlying 22 = some (.slice 3) ∧ TyOk Try.prog 3 (D 0) := ⟨Try.underlying22, TyOk.of Try.underlying3 rfl (by kernel_rfl)⟩
theorem slr26 : Try.prog.underlying 26 = some (.slice 50) ∧ TyOk Try.prog 50 (D 4) := ⟨Try.underlying26, TyOk.of Try.underlying50 rfl (by kernel_rfl)⟩
theorem slr34 : Try.prog.underlying 34 = some (.slice 41) ∧ TyOk Try.prog 41 (D 3) := ⟨Try.underlying34, TyOk.of Try.underlying41 rfl (by kernel_rfl)⟩
theorem slr78 : Try.prog.underlying 78 = some (.slice 28) ∧ TyOk Try.prog 28 (D 0) := ⟨Try.underlying78, TyOk.of Try.underlying28 rfl (by kernel_rfl)⟩
theorem slr79 : Try.prog.underlying 79 = some (.slice 26) ∧ TyOk Try.prog 26 (D 5) := ⟨Try.underlying79, TyOk.of Try.underlying26 rfl (by kernel_rfl)⟩
theorem flr41 : StOk Try.prog 41 [(0, 1), (1, 1)] ∧ ∀ i off sz, [((0 : Nat), (1 : Nat)), ((1 : Nat), (1 : Nat))][i]? = some (off, sz) → FldAt Try.prog 41 i off := flds_ok ⟨_, Try.underlying41, by kernel_rfl⟩ rfl
theorem flr50 : StOk Try.prog 50 [(0, 1), (1, 1), (2, 2)] ∧ ∀ i off sz, [((0 : Nat), (1 : Nat)), ((1 : Nat), (1 : Nat)), ((2 : Nat), (2 : Nat))][i]? = some (off, sz) → FldAt Try.prog 50 i off := flds_ok ⟨_, Try.underlying50, by kernel_rfl⟩ rfl
theorem flr61 : StOk Try.prog 61 [(0, 1), (1, 1)] ∧ ∀ i off sz, [((0 : Nat), (1 : Nat)), ((1 : Nat), (1 : Nat))][i]? = some (off, sz) → FldAt Try.prog 61 i off := flds_ok ⟨_, Try.underlying61, by kernel_rfl⟩ rfl
theorem eql3 : EqL Try.prog 3 false [(.int .i64)] 1 := EqL.int Try.underlying3
theorem eql41 : EqL Try.prog 41 true [(.int .i64), (.int .i64)] 2 := by
  refine EqL.struct (k := 1) Try.underlying41 (by kernel_rfl) ?_
  exact ⟨by simp, rfl, false, [(.int .i64)], [(.int .i64)], [.int .i64 0], rfl, TyR.of Try.underlying3 rfl (by kernel_rfl), rfl, fun _ => rfl, eql3.up (by decide), ⟨by simp, rfl, false, [(.int .i64)], [], [.int .i64 0], rfl, TyR.of Try.underlying3 rfl (by kernel_rfl), rfl, fun _ => rfl, eql3.up (by decide), rfl⟩⟩
theorem eqr41 : EqT Try.prog 41 [(.int .i64), (.int .i64)] ∧ ([(.int .i64), (.int .i64)] : List Lf).all flatL = true := ⟨⟨⟨2, by decide, eql41⟩, by kernel_rfl⟩, rfl⟩
theorem eql50 : EqL Try.prog 50 true [(.int .i64), (.int .i64), (.int .i64), (.int .i64)] 3 := by
  refine EqL.struct (k := 2) Try.underlying50 (by kernel_rfl) ?_
  exact ⟨by simp, rfl, false, [(.int .i64)], [(.int .i64), (.int .i64), (.int .i64)], [.int .i64 0], rfl, TyR.of Try.underlying3 rfl (by kernel_rfl), rfl, fun _ => rfl, eql3.up (by decide), ⟨by simp, rfl, false, [(.int .i64)], [(.int .i64), (.int .i64)], [.int .i64 0], rfl, TyR.of Try.underlying3 rfl (by kernel_rfl), rfl, fun _ => rfl, eql3.up (by decide), ⟨by simp, rfl, true, [(.int .i64), (.int .i64)], [], [.int .i64 0, .int .i64 0], rfl, TyR.of Try.underlying41 rfl (by kernel_rfl), rfl, (fun h => by cases h), eql41.up (by decide), rfl⟩⟩⟩
theorem eqr50 : EqT Try.prog 50 [(.int .i64), (.int .i64), (.int .i64), (.int .i64)] ∧ ([(.int .i64), (.int .i64), (.int .i64), (.int .i64)] : List Lf).all flatL = true := ⟨⟨⟨3, by decide, eql50⟩, by kernel_rfl⟩, rfl⟩
instance : Flat Part := ⟨fun h => Flat.any (α := Int × Int) h⟩
instance : Flat Fault := ⟨fun h => Flat.any (α := Int × Int × Part) h⟩
theorem flat0 : Flat (D 0) := (inferInstance : Flat Int)
theorem flat1 : Flat (D 1) := (inferInstance : Flat Bool)
theorem flat2 : Flat (D 2) := (inferInstance : Flat ByteArray)
theorem flat3 : Flat (D 3) := (inferInstance : Flat Part)
theorem flat4 : Flat (D 4) := (inferInstance : Flat Fault)
theorem arr70 : ArrT Try.prog D 70 2 34 7 := ArrT.of Try.underlying70 (TyOk.of Try.underlying34 rfl (by kernel_rfl)) (by kernel_rfl)
theorem pOk : POk Try.prog T := POk.of (⟨tyr3, tyr4, tyr22, tyr24, tyr26, tyr28, tyr34, tyr41, tyr44, tyr50, tyr61, tyr67, tyr72, tyr78, tyr79, tyr86, tyr105, trivial⟩) (⟨slr22, slr26, slr34, slr78, slr79, trivial⟩) (⟨flr41, flr50, flr61, trivial⟩) (⟨eqr41, eqr50, trivial⟩) (trivial) (⟨arr70, trivial⟩) (trivial)
theorem hmix : Try.prog.follows .mixedOrders = true := by kernel_rfl
def bodyOf (f : Func) : Code := match f.body with
  | some c => c
  | none => .skip
end Rx
end Go.Proofs.Ytmjcndmphjdjgaa
