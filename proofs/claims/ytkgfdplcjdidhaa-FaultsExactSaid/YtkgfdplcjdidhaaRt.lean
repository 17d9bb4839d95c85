/- Types: structures, how they lie in memory. Written by a program (wip/gen). -/
import Derived.Test.YtkgfdplcjdidhaaRp
import Derived.Test.YtkgfdplcjdidhaaProg
import Derived.KernelRfl
set_option linter.unusedVariables false
namespace Go.Proofs.Ytkgfdplcjdidhaa
open Go Go.RowKit Dp
namespace Rx

structure Part where
  Kind : Int
  Number : Int
def Part_to (x : Part) : Int × Int := (x.Kind, x.Number)
instance : Rep Part := Rep.via Part_to ⟨Rep.zero, Rep.zero⟩ rfl
structure Fault where
  Time : Int
  Kind : Int
  Part : Part
def Fault_to (x : Fault) : Int × Int × Part := (x.Time, x.Kind, x.Part)
instance : Rep Fault := Rep.via Fault_to ⟨Rep.zero, Rep.zero, Rep.zero⟩ rfl
structure Src where
  L : (List Int)
  At : Int
def Src_to (x : Src) : (List Int) × Int := (x.L, x.At)
instance : Rep Src := Rep.via Src_to ⟨Rep.zero, Rep.zero⟩ rfl
@[reducible] def D (n : Nat) : Type := match n with
  | 0 => Int
  | 1 => Bool
  | 2 => ByteArray
  | 3 => Fault
  | 4 => Part
  | 5 => (List Fault)
  | 6 => Src
  | 7 => (List Part)
  | _ => Int
instance repD (n : Nat) : Rep (D n) := match n with
  | 0 => inferInstanceAs (Rep Int)
  | 1 => inferInstanceAs (Rep Bool)
  | 2 => inferInstanceAs (Rep ByteArray)
  | 3 => inferInstanceAs (Rep Fault)
  | 4 => inferInstanceAs (Rep Part)
  | 5 => inferInstanceAs (Rep (List Fault))
  | 6 => inferInstanceAs (Rep Src)
  | 7 => inferInstanceAs (Rep (List Part))
  | _ + 8 => inferInstanceAs (Rep Int)
def tabLv (n : Nat) : List Lf := match n with
  | 0 => [(.int .i64)]
  | 1 => [.bool]
  | 2 => [.str]
  | 3 => [(.int .i64), (.int .i64), (.int .i64), (.int .i64)]
  | 4 => [(.int .i64), (.int .i64)]
  | 5 => [(.sl 3)]
  | 6 => [(.sl 0), (.int .i64)]
  | 7 => [(.sl 4)]
  | _ => [.int .i64]
def tabAg (n : Nat) : Bool := match n with
  | 0 => false
  | 1 => false
  | 2 => false
  | 3 => true
  | 4 => true
  | 5 => false
  | 6 => true
  | 7 => false
  | _ => false
def tabOut : ∀ n : Nat, D n → HL D (tabLv n)
  | 0 => fun x => x
  | 1 => fun x => x
  | 2 => fun x => x
  | 3 => fun x => (x.Time, x.Kind, x.Part.Kind, x.Part.Number)
  | 4 => fun x => (x.Kind, x.Number)
  | 5 => fun x => x
  | 6 => fun x => (x.L, x.At)
  | 7 => fun x => x
  | _ + 8 => fun x => x
def tabMk : ∀ n : Nat, HL D (tabLv n) → D n
  | 0 => fun h => h
  | 1 => fun h => h
  | 2 => fun h => h
  | 3 => fun h => ⟨h.1, h.2.1, ⟨h.2.2.1, h.2.2.2⟩⟩
  | 4 => fun h => ⟨h.1, h.2⟩
  | 5 => fun h => h
  | 6 => fun h => ⟨h.1, h.2⟩
  | 7 => fun h => h
  | _ + 8 => fun h => h
def tabZero : ∀ n : Nat, D n
  | 0 => (0 : Int)
  | 1 => false
  | 2 => ByteArray.empty
  | 3 => (⟨(0 : Int), (0 : Int), ⟨(0 : Int), (0 : Int)⟩⟩ : Fault)
  | 4 => (⟨(0 : Int), (0 : Int)⟩ : Part)
  | 5 => ([] : (List Fault))
  | 6 => (⟨[], (0 : Int)⟩ : Src)
  | 7 => ([] : (List Part))
  | _ + 8 => (0 : Int)
def T : Tab D where
  lv := tabLv
  ag := tabAg
  outH := tabOut
  mkH := tabMk
  zero := tabZero
  ty := [(3, .one (.int .i64)), (4, .one .bool), (22, .one (.sl 0)), (23, .one (.sl 3)), (25, .st 4), (27, .ptr), (32, .st 3), (34, .one (.int .i64)), (37, .one (.sl 4)), (55, .st 6), (57, .fn), (59, .fn), (76, .fn), (88, .one (.sl 0)), (89, .one (.sl 5)), (105, .one (.int .u64))]
  fld := [(25, [(0, 1), (1, 1)]), (32, [(0, 1), (1, 1), (2, 2)]), (55, [(0, 1), (1, 1)])]
  els := [(22, 3, 0), (23, 32, 3), (37, 25, 4), (88, 34, 0), (89, 23, 5)]
  eqs := [(25, [(.int .i64), (.int .i64)]), (32, [(.int .i64), (.int .i64), (.int .i64), (.int .i64)])]
  kd := []
  ars := [(33, 5, 23, 5), (42, 2, 3, 0), (46, 2, 23, 5), (51, 2, 25, 4), (90, 2, 37, 7)]
  pre := [90153, 151585]
  mps := []
theorem rd4 : RdIs D Part (fun x => [⟨(.int .i64), x.Kind⟩, ⟨(.int .i64), x.Number⟩]) := fun S w cs x => (RdIs.prod RdIs.int (RdIs.int) : RdIs D (Int × Int) _) S w cs (Part_to x)
theorem rd3 : RdIs D Fault (fun x => [⟨(.int .i64), x.Time⟩, ⟨(.int .i64), x.Kind⟩, ⟨(.int .i64), x.Part.Kind⟩, ⟨(.int .i64), x.Part.Number⟩]) := fun S w cs x => (RdIs.prod RdIs.int (RdIs.prod RdIs.int (rd4)) : RdIs D (Int × Int × Part) _) S w cs (Fault_to x)
theorem rd6 : RdIs D Src (fun x => [⟨(.sl 0), x.L⟩, ⟨(.int .i64), x.At⟩]) := fun S w cs x => (RdIs.prod (RdIs.sl 0) (RdIs.int) : RdIs D ((List Int) × Int) _) S w cs (Src_to x)
theorem rd5 : RdIs D (List Fault) (fun x => [⟨.sl 3, x⟩]) := RdIs.sl 3
theorem rd7 : RdIs D (List Part) (fun x => [⟨.sl 4, x⟩]) := RdIs.sl 4
theorem repOk : RepOk T where
  sz := fun n => match n with
    | 0 => rfl
    | 1 => rfl
    | 2 => rfl
    | 3 => rfl
    | 4 => rfl
    | 5 => rfl
    | 6 => rfl
    | 7 => rfl
    | _ + 8 => rfl
  ag := fun n => match n with
    | 0 => rfl
    | 1 => rfl
    | 2 => rfl
    | 3 => rfl
    | 4 => rfl
    | 5 => rfl
    | 6 => rfl
    | 7 => rfl
    | _ + 8 => rfl
  zc := fun n => match n with
    | 0 => rfl
    | 1 => rfl
    | 2 => rfl
    | 3 => rfl
    | 4 => rfl
    | 5 => rfl
    | 6 => rfl
    | 7 => rfl
    | _ + 8 => rfl
  zero := fun n => match n with
    | 0 => rfl
    | 1 => rfl
    | 2 => rfl
    | 3 => rfl
    | 4 => rfl
    | 5 => rfl
    | 6 => rfl
    | 7 => rfl
    | _ + 8 => rfl
  rd := fun n S w cs x => match n, x with
    | 0, x => RdIs.int S w cs x
    | 1, x => RdIs.bool S w cs x
    | 2, x => RdIs.str S w cs x
    | 3, x => rd3 S w cs x
    | 4, x => rd4 S w cs x
    | 5, x => rd5 S w cs x
    | 6, x => rd6 S w cs x
    | 7, x => rd7 S w cs x
    | _ + 8, x => RdIs.int S w cs x
  few := fun n => match n with
    | 0 => by decide
    | 1 => by decide
    | 2 => by decide
    | 3 => by decide
    | 4 => by decide
    | 5 => by decide
    | 6 => by decide
    | 7 => by decide
    | _ + 8 => by show 1 ≤ 48; decide
  mkh := fun n h => match n, h with
    | 0, h => rfl
    | 1, h => rfl
    | 2, h => rfl
    | 3, h => rfl
    | 4, h => rfl
    | 5, h => rfl
    | 6, h => rfl
    | 7, h => rfl
    | _ + 8, h => rfl
theorem tyr3 : TyF Try.prog T 3 (.one (.int .i64)) := ⟨TyR.of Try.underlying3 rfl (by kernel_rfl), Try.underlying3⟩
theorem tyr4 : TyF Try.prog T 4 (.one .bool) := ⟨TyR.of Try.underlying4 rfl (by kernel_rfl), Try.underlying4⟩
theorem tyr22 : TyF Try.prog T 22 (.one (.sl 0)) := ⟨TyR.of Try.underlying22 rfl (by kernel_rfl), trivial⟩
theorem tyr23 : TyF Try.prog T 23 (.one (.sl 3)) := ⟨TyR.of Try.underlying23 rfl (by kernel_rfl), trivial⟩
theorem tyr25 : TyF Try.prog T 25 (.st 4) := ⟨TyR.of Try.underlying25 rfl (by kernel_rfl), trivial⟩
theorem tyr27 : TyF Try.prog T 27 (.ptr) := ⟨TyR.of Try.underlying27 rfl (by kernel_rfl), trivial⟩
theorem tyr32 : TyF Try.prog T 32 (.st 3) := ⟨TyR.of Try.underlying32 rfl (by kernel_rfl), trivial⟩
theorem tyr34 : TyF Try.prog T 34 (.one (.int .i64)) := ⟨TyR.of Try.underlying34 rfl (by kernel_rfl), Try.underlying34⟩
theorem tyr37 : TyF Try.prog T 37 (.one (.sl 4)) := ⟨TyR.of Try.underlying37 rfl (by kernel_rfl), trivial⟩
theorem tyr55 : TyF Try.prog T 55 (.st 6) := ⟨TyR.of Try.underlying55 rfl (by kernel_rfl), trivial⟩
theorem tyr57 : TyF Try.prog T 57 (.fn) := ⟨TyR.of Try.underlying57 rfl (by kernel_rfl), trivial⟩
theorem tyr59 : TyF Try.prog T 59 (.fn) := ⟨TyR.of Try.underlying59 rfl (by kernel_rfl), trivial⟩
theorem tyr76 : TyF Try.prog T 76 (.fn) := ⟨TyR.of Try.underlying76 rfl (by kernel_rfl), trivial⟩
theorem tyr88 : TyF Try.prog T 88 (.one (.sl 0)) := ⟨TyR.of Try.underlying88 rfl (by kernel_rfl), trivial⟩
theorem tyr89 : TyF Try.prog T 89 (.one (.sl 5)) := ⟨TyR.of Try.underlying89 rfl (by kernel_rfl), trivial⟩
theorem tyr105 : TyF Try.prog T 105 (.one (.int .u64)) := ⟨TyR.of Try.underlying105 rfl (by kernel_rfl), Try.underlying105⟩
theorem slr22 : Try.prog.underlying 22 = some (.slice 3) ∧ TyOk Try.prog 3 (D 0) := ⟨Try.underlying22, TyOk.of Try.underlying3 rfl (by kernel_rfl)⟩
theorem slr23 : Try.prog.underlying 23 = some (.slice 32) ∧ TyOk Try.prog 32 (D 3) := ⟨Try.underlying23, TyOk.of Try.underlying32 rfl (by kernel_rfl)⟩
theorem slr37 : Try.prog.underlying 37 = some (.slice 25) ∧ TyOk Try.prog 25 (D 4) := ⟨Try.underlying37, TyOk.of Try.underlying25 rfl (by kernel_rfl)⟩
theorem slr88 : Try.prog.underlying 88 = some (.slice 34) ∧ TyOk Try.prog 34 (D 0) := ⟨Try.underlying88, TyOk.of Try.underlying34 rfl (by kernel_rfl)⟩
theorem slr89 : Try.prog.underlying 89 = some (.slice 23) ∧ TyOk Try.prog 23 (D 5) := ⟨Try.underlying89, TyOk.of Try.underlying23 rfl (by kernel_rfl)⟩
theorem flr25 : StOk Try.prog 25 [(0, 1), (1, 1)] ∧ ∀ i off sz, [((0 : Nat), (1 : Nat)), ((1 : Nat), (1 : Nat))][i]? = some (off, sz) → FldAt Try.prog 25 i off := flds_ok ⟨_, Try.underlying25, by kernel_rfl⟩ rfl
theorem flr32 : StOk Try.prog 32 [(0, 1), (1, 1), (2, 2)] ∧ ∀ i off sz, [((0 : Nat), (1 : Nat)), ((1 : Nat), (1 : Nat)), ((2 : Nat), (2 : Nat))][i]? = some (off, sz) → FldAt Try.prog 32 i off := flds_ok ⟨_, Try.underlying32, by kernel_rfl⟩ rfl
theorem flr55 : StOk Try.prog 55 [(0, 1), (1, 1)] ∧ ∀ i off sz, [((0 : Nat), (1 : Nat)), ((1 : Nat), (1 : Nat))][i]? = some (off, sz) → FldAt Try.prog 55 i off := flds_ok ⟨_, Try.underlying55, by kernel_rfl⟩ rfl
theorem eql3 : EqL Try.prog 3 false [(.int .i64)] 1 := EqL.int Try.underlying3
theorem eql25 : EqL Try.prog 25 true [(.int .i64), (.int .i64)] 2 := by
  refine EqL.struct (k := 1) Try.underlying25 (by kernel_rfl) ?_
  exact ⟨by simp, rfl, false, [(.int .i64)], [(.int .i64)], [.int .i64 0], rfl, TyR.of Try.underlying3 rfl (by kernel_rfl), rfl, fun _ => rfl, eql3.up (by decide), ⟨by simp, rfl, false, [(.int .i64)], [], [.int .i64 0], rfl, TyR.of Try.underlying3 rfl (by kernel_rfl), rfl, fun _ => rfl, eql3.up (by decide), rfl⟩⟩
theorem eqr25 : EqT Try.prog 25 [(.int .i64), (.int .i64)] ∧ ([(.int .i64), (.int .i64)] : List Lf).all flatL = true := ⟨⟨⟨2, by decide, eql25⟩, by kernel_rfl⟩, rfl⟩
theorem eql32 : EqL Try.prog 32 true [(.int .i64), (.int .i64), (.int .i64), (.int .i64)] 3 := by
  refine EqL.struct (k := 2) Try.underlying32 (by kernel_rfl) ?_
  exact ⟨by simp, rfl, false, [(.int .i64)], [(.int .i64), (.int .i64), (.int .i64)], [.int .i64 0], rfl, TyR.of Try.underlying3 rfl (by kernel_rfl), rfl, fun _ => rfl, eql3.up (by decide), ⟨by simp, rfl, false, [(.int .i64)], [(.int .i64), (.int .i64)], [.int .i64 0], rfl, TyR.of Try.underlying3 rfl (by kernel_rfl), rfl, fun _ => rfl, eql3.up (by decide), ⟨by simp, rfl, true, [(.int .i64), (.int .i64)], [], [.int .i64 0, .int .i64 0], rfl, TyR.of Try.underlying25 rfl (by kernel_rfl), rfl, (fun h => by cases h), eql25.up (by decide), rfl⟩⟩⟩
theorem eqr32 : EqT Try.prog 32 [(.int .i64), (.int .i64), (.int .i64), (.int .i64)] ∧ ([(.int .i64), (.int .i64), (.int .i64), (.int .i64)] : List Lf).all flatL = true := ⟨⟨⟨3, by decide, eql32⟩, by kernel_rfl⟩, rfl⟩
instance : Flat Part := ⟨fun h => Flat.any (α := Int × Int) h⟩
instance : Flat Fault := ⟨fun h => Flat.any (α := Int × Int × Part) h⟩
theorem flat0 : Flat (D 0) := (inferInstance : Flat Int)
theorem flat1 : Flat (D 1) := (inferInstance : Flat Bool)
theorem flat2 : Flat (D 2) := (inferInstance : Flat ByteArray)
theorem flat3 : Flat (D 3) := (inferInstance : Flat Fault)
theorem flat4 : Flat (D 4) := (inferInstance : Flat Part)
theorem arr33 : ArrT Try.prog D 33 5 23 5 := ArrT.of Try.underlying33 (TyOk.of Try.underlying23 rfl (by kernel_rfl)) (by kernel_rfl)
theorem arr42 : ArrT Try.prog D 42 2 3 0 := ArrT.of Try.underlying42 (TyOk.of Try.underlying3 rfl (by kernel_rfl)) (by kernel_rfl)
theorem arr46 : ArrT Try.prog D 46 2 23 5 := ArrT.of Try.underlying46 (TyOk.of Try.underlying23 rfl (by kernel_rfl)) (by kernel_rfl)
theorem arr51 : ArrT Try.prog D 51 2 25 4 := ArrT.of Try.underlying51 (TyOk.of Try.underlying25 rfl (by kernel_rfl)) (by kernel_rfl)
theorem arr90 : ArrT Try.prog D 90 2 37 7 := ArrT.of Try.underlying90 (TyOk.of Try.underlying37 rfl (by kernel_rfl)) (by kernel_rfl)
theorem pOk : POk Try.prog T := POk.of (⟨tyr3, tyr4, tyr22, tyr23, tyr25, tyr27, tyr32, tyr34, tyr37, tyr55, tyr57, tyr59, tyr76, tyr88, tyr89, tyr105, trivial⟩) (⟨slr22, slr23, slr37, slr88, slr89, trivial⟩) (⟨flr25, flr32, flr55, trivial⟩) (⟨eqr25, eqr32, trivial⟩) (trivial) (⟨arr33, arr42, arr46, arr51, arr90, trivial⟩) (trivial)
theorem hmix : Try.prog.follows .mixedOrders = true := by kernel_rfl
def bodyOf (f : Func) : Code := match f.body with
  | some c => c
  | none => .skip
end Rx
end Go.Proofs.Ytkgfdplcjdidhaa
