/- Types: structures, how they lie in memory. Written by a program (wip/gen). -/
import Derived.Test.YthgnnjdjdmdfoaaRp
import Derived.Test.YthgnnjdjdmdfoaaProg
import Derived.KernelRfl
set_option linter.unusedVariables false
namespace Go.Proofs.Ythgnnjdjdmdfoaa
open Go Go.RowKit Dp
namespace Rx

structure Cable where
  Net : Int
  A : Int
  B : Int
def Cable_to (x : Cable) : Int × Int × Int := (x.Net, x.A, x.B)
instance : Rep Cable := Rep.via Cable_to ⟨Rep.zero, Rep.zero, Rep.zero⟩ rfl
structure Net where
  Nodes : Int
  Cables : (List Cable)
def Net_to (x : Net) : Int × (List Cable) := (x.Nodes, x.Cables)
instance : Rep Net := Rep.via Net_to ⟨Rep.zero, Rep.zero⟩ rfl
structure Port where
  High : Int
  Below : (List Int)
def Port_to (x : Port) : Int × (List Int) := (x.High, x.Below)
instance : Rep Port := Rep.via Port_to ⟨Rep.zero, Rep.zero⟩ rfl
structure Message where
  From : Int
  To : Int
  Number : Int
  Value : Int
def Message_to (x : Message) : Int × Int × Int × Int := (x.From, x.To, x.Number, x.Value)
instance : Rep Message := Rep.via Message_to ⟨Rep.zero, Rep.zero, Rep.zero, Rep.zero⟩ rfl
structure Part where
  Kind : Int
  Number : Int
def Part_to (x : Part) : Int × Int := (x.Kind, x.Number)
instance : Rep Part := Rep.via Part_to ⟨Rep.zero, Rep.zero⟩ rfl
structure Src where
  L : (List Int)
  At : Int
def Src_to (x : Src) : (List Int) × Int := (x.L, x.At)
instance : Rep Src := Rep.via Src_to ⟨Rep.zero, Rep.zero⟩ rfl
@[reducible] def D (n : Nat) : Type := match n with
  | 0 => Int
  | 1 => Bool
  | 2 => ByteArray
  | 3 => Cable
  | 4 => Net
  | 5 => Port
  | 6 => Message
  | 7 => Part
  | 8 => Src
  | 9 => (Int × Int × Int × Bool)
  | 10 => (Int × Int × Int)
  | 11 => (Int × Bool)
  | 12 => (List Part)
  | 13 => (List Int)
  | _ => Int
instance repD (n : Nat) : Rep (D n) := match n with
  | 0 => inferInstanceAs (Rep Int)
  | 1 => inferInstanceAs (Rep Bool)
  | 2 => inferInstanceAs (Rep ByteArray)
  | 3 => inferInstanceAs (Rep Cable)
  | 4 => inferInstanceAs (Rep Net)
  | 5 => inferInstanceAs (Rep Port)
  | 6 => inferInstanceAs (Rep Message)
  | 7 => inferInstanceAs (Rep Part)
  | 8 => inferInstanceAs (Rep Src)
  | 9 => inferInstanceAs (Rep (Int × Int × Int × Bool))
  | 10 => inferInstanceAs (Rep (Int × Int × Int))
  | 11 => inferInstanceAs (Rep (Int × Bool))
  | 12 => inferInstanceAs (Rep (List Part))
  | 13 => inferInstanceAs (Rep (List Int))
  | _ + 14 => inferInstanceAs (Rep Int)
def tabLv (n : Nat) : List Lf := match n with
  | 0 => [(.int .i64)]
  | 1 => [.bool]
  | 2 => [.str]
  | 3 => [(.int .i64), (.int .i64), (.int .i64)]
  | 4 => [(.int .i64), (.sl 3)]
  | 5 => [(.int .i64), (.sl 0)]
  | 6 => [(.int .i64), (.int .i64), (.int .i64), (.int .i64)]
  | 7 => [(.int .i64), (.int .i64)]
  | 8 => [(.sl 0), (.int .i64)]
  | 9 => [(.int .i64), (.int .i64), (.int .i64), .bool]
  | 10 => [(.int .i64), (.int .i64), (.int .i64)]
  | 11 => [(.int .i64), .bool]
  | 12 => [(.sl 7)]
  | 13 => [(.sl 0)]
  | _ => [.int .i64]
def tabAg (n : Nat) : Bool := match n with
  | 0 => false
  | 1 => false
  | 2 => false
  | 3 => true
  | 4 => true
  | 5 => true
  | 6 => true
  | 7 => true
  | 8 => true
  | 9 => true
  | 10 => true
  | 11 => true
  | 12 => false
  | 13 => false
  | _ => false
def tabOut : ∀ n : Nat, D n → HL D (tabLv n)
  | 0 => fun x => x
  | 1 => fun x => x
  | 2 => fun x => x
  | 3 => fun x => (x.Net, x.A, x.B)
  | 4 => fun x => (x.Nodes, x.Cables)
  | 5 => fun x => (x.High, x.Below)
  | 6 => fun x => (x.From, x.To, x.Number, x.Value)
  | 7 => fun x => (x.Kind, x.Number)
  | 8 => fun x => (x.L, x.At)
  | 9 => fun x => x
  | 10 => fun x => x
  | 11 => fun x => x
  | 12 => fun x => x
  | 13 => fun x => x
  | _ + 14 => fun x => x
def tabMk : ∀ n : Nat, HL D (tabLv n) → D n
  | 0 => fun h => h
  | 1 => fun h => h
  | 2 => fun h => h
  | 3 => fun h => ⟨h.1, h.2.1, h.2.2⟩
  | 4 => fun h => ⟨h.1, h.2⟩
  | 5 => fun h => ⟨h.1, h.2⟩
  | 6 => fun h => ⟨h.1, h.2.1, h.2.2.1, h.2.2.2⟩
  | 7 => fun h => ⟨h.1, h.2⟩
  | 8 => fun h => ⟨h.1, h.2⟩
  | 9 => fun h => h
  | 10 => fun h => h
  | 11 => fun h => h
  | 12 => fun h => h
  | 13 => fun h => h
  | _ + 14 => fun h => h
def tabZero : ∀ n : Nat, D n
  | 0 => (0 : Int)
  | 1 => false
  | 2 => ByteArray.empty
  | 3 => (⟨(0 : Int), (0 : Int), (0 : Int)⟩ : Cable)
  | 4 => (⟨(0 : Int), []⟩ : Net)
  | 5 => (⟨(0 : Int), []⟩ : Port)
  | 6 => (⟨(0 : Int), (0 : Int), (0 : Int), (0 : Int)⟩ : Message)
  | 7 => (⟨(0 : Int), (0 : Int)⟩ : Part)
  | 8 => (⟨[], (0 : Int)⟩ : Src)
  | 9 => (0, 0, 0, false)
  | 10 => (0, 0, 0)
  | 11 => (0, false)
  | 12 => ([] : (List Part))
  | 13 => ([] : (List Int))
  | _ + 14 => (0 : Int)
def T : Tab D where
  lv := tabLv
  ag := tabAg
  outH := tabOut
  mkH := tabMk
  zero := tabZero
  ty := [(3, .one (.int .i64)), (4, .one .bool), (22, .one (.sl 0)), (24, .ptr), (26, .one (.sl 3)), (28, .st 4), (30, .one (.sl 5)), (33, .one (.sl 6)), (37, .one (.sl 7)), (41, .st 6), (42, .st 10), (49, .st 3), (52, .st 5), (71, .st 7), (73, .st 8), (79, .one (.sl 1)), (99, .one (.int .u64))]
  fld := [(28, [(0, 1), (1, 1)]), (41, [(0, 1), (1, 1), (2, 1), (3, 1)]), (49, [(0, 1), (1, 1), (2, 1)]), (52, [(0, 1), (1, 1)]), (71, [(0, 1), (1, 1)]), (73, [(0, 1), (1, 1)])]
  els := [(22, 3, 0), (26, 49, 3), (30, 52, 5), (33, 41, 6), (37, 71, 7), (79, 4, 1)]
  eqs := [(41, [(.int .i64), (.int .i64), (.int .i64), (.int .i64)]), (71, [(.int .i64), (.int .i64)])]
  kd := []
  ars := [(42, 3, 3, 0), (59, 3, 28, 4), (62, 2, 37, 12), (63, 2, 42, 10)]
  pre := []
  mps := [(32, 42, 4, 9), (53, 3, 4, 11)]
theorem rd3 : RdIs D Cable (fun x => [⟨(.int .i64), x.Net⟩, ⟨(.int .i64), x.A⟩, ⟨(.int .i64), x.B⟩]) := fun S w cs x => (RdIs.prod RdIs.int (RdIs.prod RdIs.int (RdIs.int)) : RdIs D (Int × Int × Int) _) S w cs (Cable_to x)
theorem rd4 : RdIs D Net (fun x => [⟨(.int .i64), x.Nodes⟩, ⟨(.sl 3), x.Cables⟩]) := fun S w cs x => (RdIs.prod RdIs.int ((RdIs.sl 3)) : RdIs D (Int × (List Cable)) _) S w cs (Net_to x)
theorem rd5 : RdIs D Port (fun x => [⟨(.int .i64), x.High⟩, ⟨(.sl 0), x.Below⟩]) := fun S w cs x => (RdIs.prod RdIs.int ((RdIs.sl 0)) : RdIs D (Int × (List Int)) _) S w cs (Port_to x)
theorem rd6 : RdIs D Message (fun x => [⟨(.int .i64), x.From⟩, ⟨(.int .i64), x.To⟩, ⟨(.int .i64), x.Number⟩, ⟨(.int .i64), x.Value⟩]) := fun S w cs x => (RdIs.prod RdIs.int (RdIs.prod RdIs.int (RdIs.prod RdIs.int (RdIs.int))) : RdIs D (Int × Int × Int × Int) _) S w cs (Message_to x)
theorem rd7 : RdIs D Part (fun x => [⟨(.int .i64), x.Kind⟩, ⟨(.int .i64), x.Number⟩]) := fun S w cs x => (RdIs.prod RdIs.int (RdIs.int) : RdIs D (Int × Int) _) S w cs (Part_to x)
theorem rd8 : RdIs D Src (fun x => [⟨(.sl 0), x.L⟩, ⟨(.int .i64), x.At⟩]) := fun S w cs x => (RdIs.prod (RdIs.sl 0) (RdIs.int) : RdIs D ((List Int) × Int) _) S w cs (Src_to x)
theorem rd9 : RdIs D (Int × Int × Int × Bool) (fun x => [⟨(.int .i64), x.1⟩, ⟨(.int .i64), x.2.1⟩, ⟨(.int .i64), x.2.2.1⟩, ⟨.bool, x.2.2.2⟩]) := RdIs.prod RdIs.int (RdIs.prod RdIs.int (RdIs.prod RdIs.int (RdIs.bool)))
theorem rd10 : RdIs D (Int × Int × Int) (fun x => [⟨(.int .i64), x.1⟩, ⟨(.int .i64), x.2.1⟩, ⟨(.int .i64), x.2.2⟩]) := RdIs.prod RdIs.int (RdIs.prod RdIs.int (RdIs.int))
theorem rd11 : RdIs D (Int × Bool) (fun x => [⟨(.int .i64), x.1⟩, ⟨.bool, x.2⟩]) := RdIs.prod RdIs.int (RdIs.bool)
theorem rd12 : RdIs D (List Part) (fun x => [⟨.sl 7, x⟩]) := RdIs.sl 7
theorem rd13 : RdIs D (List Int) (fun x => [⟨.sl 0, x⟩]) := RdIs.sl 0
theorem repOk : RepOk T where
  sz := fun n => match n with
    | 0 => rfl
    | 1 => rfl
    | 2 => rfl
    | 3 => rfl
    | 4 => rfl
    | 5 => rfl
    | 6 => rfl
    | 7 => rfl
    | 8 => rfl
    | 9 => rfl
    | 10 => rfl
    | 11 => rfl
    | 12 => rfl
    | 13 => rfl
    | _ + 14 => rfl
  ag := fun n => match n with
    | 0 => rfl
    | 1 => rfl
    | 2 => rfl
    | 3 => rfl
    | 4 => rfl
    | 5 => rfl
    | 6 => rfl
    | 7 => rfl
    | 8 => rfl
    | 9 => rfl
    | 10 => rfl
    | 11 => rfl
    | 12 => rfl
    | 13 => rfl
    | _ + 14 => rfl
  zc := fun n => match n with
    | 0 => rfl
    | 1 => rfl
    | 2 => rfl
    | 3 => rfl
    | 4 => rfl
    | 5 => rfl
    | 6 => rfl
    | 7 => rfl
    | 8 => rfl
    | 9 => rfl
    | 10 => rfl
    | 11 => rfl
    | 12 => rfl
    | 13 => rfl
    | _ + 14 => rfl
  zero := fun n => match n with
    | 0 => rfl
    | 1 => rfl
    | 2 => rfl
    | 3 => rfl
    | 4 => rfl
    | 5 => rfl
    | 6 => rfl
    | 7 => rfl
    | 8 => rfl
    | 9 => rfl
    | 10 => rfl
    | 11 => rfl
    | 12 => rfl
    | 13 => rfl
    | _ + 14 => rfl
  rd := fun n S w cs x => match n, x with
    | 0, x => RdIs.int S w cs x
    | 1, x => RdIs.bool S w cs x
    | 2, x => RdIs.str S w cs x
    | 3, x => rd3 S w cs x
    | 4, x => rd4 S w cs x
    | 5, x => rd5 S w cs x
    | 6, x => rd6 S w cs x
    | 7, x => rd7 S w cs x
    | 8, x => rd8 S w cs x
    | 9, x => rd9 S w cs x
    | 10, x => rd10 S w cs x
    | 11, x => rd11 S w cs x
    | 12, x => rd12 S w cs x
    | 13, x => rd13 S w cs x
    | _ + 14, x => RdIs.int S w cs x
  few := fun n => match n with
    | 0 => by decide
    | 1 => by decide
    | 2 => by decide
    | 3 => by decide
    | 4 => by decide
    | 5 => by decide
    | 6 => by decide
    | 7 => by decide
    | 8 => by decide
    | 9 => by decide
    | 10 => by decide
    | 11 => by decide
    | 12 => by decide
    | 13 => by decide
    | _ + 14 => by show 1 ≤ 48; decide
  mkh := fun n h => match n, h with
    | 0, h => rfl
    | 1, h => rfl
    | 2, h => rfl
    | 3, h => rfl
    | 4, h => rfl
    | 5, h => rfl
    | 6, h => rfl
    | 7, h => rfl
    | 8, h => rfl
    | 9, h => rfl
    | 10, h => rfl
    | 11, h => rfl
    | 12, h => rfl
    | 13, h => rfl
    | _ + 14, h => rfl
theorem tyr3 : TyF Try.prog T 3 (.one (.int .i64)) := ⟨TyR.of Try.underlying3 rfl (by kernel_rfl), Try.underlying3⟩
theorem tyr4 : TyF Try.prog T 4 (.one .bool) := ⟨TyR.of Try.underlying4 rfl (by kernel_rfl), Try.underlying4⟩
theorem tyr22 : TyF Try.prog T 22 (.one (.sl 0)) := ⟨TyR.of Try.underlying22 rfl (by kernel_rfl), trivial⟩
theorem tyr24 : TyF Try.prog T 24 (.ptr) := ⟨TyR.of Try.underlying24 rfl (by kernel_rfl), trivial⟩
theorem tyr26 : TyF Try.prog T 26 (.one (.sl 3)) := ⟨TyR.of Try.underlying26 rfl (by kernel_rfl), trivial⟩
theorem tyr28 : TyF Try.prog T 28 (.st 4) := ⟨TyR.of Try.underlying28 rfl (by kernel_rfl), trivial⟩
theorem tyr30 : TyF Try.prog T 30 (.one (.sl 5)) := ⟨TyR.of Try.underlying30 rfl (by kernel_rfl), trivial⟩
theorem tyr33 : TyF Try.prog T 33 (.one (.sl 6)) := ⟨TyR.of Try.underlying33 rfl (by kernel_rfl), trivial⟩
theorem tyr37 : TyF Try.prog T 37 (.one (.sl 7)) := ⟨TyR.of Try.underlying37 rfl (by kernel_rfl), trivial⟩
theorem tyr41 : TyF Try.prog T 41 (.st 6) := ⟨TyR.of Try.underlying41 rfl (by kernel_rfl), trivial⟩
theorem tyr42 : TyF Try.prog T 42 (.st 10) := ⟨TyR.of Try.underlying42 rfl (by kernel_rfl), trivial⟩
theorem tyr49 : TyF Try.prog T 49 (.st 3) := ⟨TyR.of Try.underlying49 rfl (by kernel_rfl), trivial⟩
theorem tyr52 : TyF Try.prog T 52 (.st 5) := ⟨TyR.of Try.underlying52 rfl (by kernel_rfl), trivial⟩
theorem tyr71 : TyF Try.prog T 71 (.st 7) := ⟨TyR.of Try.underlying71 rfl (by kernel_rfl), trivial⟩
theorem tyr73 : TyF Try.prog T 73 (.st 8) := ⟨TyR.of Try.underlying73 rfl (by kernel_rfl), trivial⟩
theorem tyr79 : TyF Try.prog T 79 (.one (.sl 1)) := ⟨TyR.of Try.underlying79 rfl (by kernel_rfl), trivial⟩
theorem tyr99 : TyF Try.prog T 99 (.one (.int .u64)) := ⟨TyR.of Try.underlying99 rfl (by kernel_rfl), Try.underlying99⟩
theorem slr22 : Try.prog.underlying 22 = some (.slice 3) ∧ TyOk Try.prog 3 (D 0) := ⟨Try.underlying22, TyOk.of Try.underlying3 rfl (by kernel_rfl)⟩
theorem slr26 : Try.prog.underlying 26 = some (.slice 49) ∧ TyOk Try.prog 49 (D 3) := ⟨Try.underlying26, TyOk.of Try.underlying49 rfl (by kernel_rfl)⟩
theorem slr30 : Try.prog.underlying 30 = some (.slice 52) ∧ TyOk Try.prog 52 (D 5) := ⟨Try.underlying30, TyOk.of Try.underlying52 rfl (by kernel_rfl)⟩
theorem slr33 : Try.prog.underlying 33 = some (.slice 41) ∧ TyOk Try.prog 41 (D 6) := ⟨Try.underlying33, TyOk.of Try.underlying41 rfl (by kernel_rfl)⟩
theorem slr37 : Try.prog.underlying 37 = some (.slice 71) ∧ TyOk Try.prog 71 (D 7) := ⟨Try.underlying37, TyOk.of Try.underlying71 rfl (by kernel_rfl)⟩
theorem slr79 : Try.prog.underlying 79 = some (.slice 4) ∧ TyOk Try.prog 4 (D 1) := ⟨Try.underlying79, TyOk.of Try.underlying4 rfl (by kernel_rfl)⟩
theorem flr28 : StOk Try.prog 28 [(0, 1), (1, 1)] ∧ ∀ i off sz, [((0 : Nat), (1 : Nat)), ((1 : Nat), (1 : Nat))][i]? = some (off, sz) → FldAt Try.prog 28 i off := flds_ok ⟨_, Try.underlying28, by kernel_rfl⟩ rfl
theorem flr41 : StOk Try.prog 41 [(0, 1), (1, 1), (2, 1), (3, 1)] ∧ ∀ i off sz, [((0 : Nat), (1 : Nat)), ((1 : Nat), (1 : Nat)), ((2 : Nat), (1 : Nat)), ((3 : Nat), (1 : Nat))][i]? = some (off, sz) → FldAt Try.prog 41 i off := flds_ok ⟨_, Try.underlying41, by kernel_rfl⟩ rfl
theorem flr49 : StOk Try.prog 49 [(0, 1), (1, 1), (2, 1)] ∧ ∀ i off sz, [((0 : Nat), (1 : Nat)), ((1 : Nat), (1 : Nat)), ((2 : Nat), (1 : Nat))][i]? = some (off, sz) → FldAt Try.prog 49 i off := flds_ok ⟨_, Try.underlying49, by kernel_rfl⟩ rfl
theorem flr52 : StOk Try.prog 52 [(0, 1), (1, 1)] ∧ ∀ i off sz, [((0 : Nat), (1 : Nat)), ((1 : Nat), (1 : Nat))][i]? = some (off, sz) → FldAt Try.prog 52 i off := flds_ok ⟨_, Try.underlying52, by kernel_rfl⟩ rfl
theorem flr71 : StOk Try.prog 71 [(0, 1), (1, 1)] ∧ ∀ i off sz, [((0 : Nat), (1 : Nat)), ((1 : Nat), (1 : Nat))][i]? = some (off, sz) → FldAt Try.prog 71 i off := flds_ok ⟨_, Try.underlying71, by kernel_rfl⟩ rfl
theorem flr73 : StOk Try.prog 73 [(0, 1), (1, 1)] ∧ ∀ i off sz, [((0 : Nat), (1 : Nat)), ((1 : Nat), (1 : Nat))][i]? = some (off, sz) → FldAt Try.prog 73 i off := flds_ok ⟨_, Try.underlying73, by kernel_rfl⟩ rfl
theorem eql3 : EqL Try.prog 3 false [(.int .i64)] 1 := EqL.int Try.underlying3
theorem eql41 : EqL Try.prog 41 true [(.int .i64), (.int .i64), (.int .i64), (.int .i64)] 2 := by
  refine EqL.struct (k := 1) Try.underlying41 (by kernel_rfl) ?_
  exact ⟨by simp, rfl, false, [(.int .i64)], [(.int .i64), (.int .i64), (.int .i64)], [.int .i64 0], rfl, TyR.of Try.underlying3 rfl (by kernel_rfl), rfl, fun _ => rfl, eql3.up (by decide), ⟨by simp, rfl, false, [(.int .i64)], [(.int .i64), (.int .i64)], [.int .i64 0], rfl, TyR.of Try.underlying3 rfl (by kernel_rfl), rfl, fun _ => rfl, eql3.up (by decide), ⟨by simp, rfl, false, [(.int .i64)], [(.int .i64)], [.int .i64 0], rfl, TyR.of Try.underlying3 rfl (by kernel_rfl), rfl, fun _ => rfl, eql3.up (by decide), ⟨by simp, rfl, false, [(.int .i64)], [], [.int .i64 0], rfl, TyR.of Try.underlying3 rfl (by kernel_rfl), rfl, fun _ => rfl, eql3.up (by decide), rfl⟩⟩⟩⟩
theorem eqr41 : EqT Try.prog 41 [(.int .i64), (.int .i64), (.int .i64), (.int .i64)] ∧ ([(.int .i64), (.int .i64), (.int .i64), (.int .i64)] : List Lf).all flatL = true := ⟨⟨⟨2, by decide, eql41⟩, by kernel_rfl⟩, rfl⟩
theorem eql71 : EqL Try.prog 71 true [(.int .i64), (.int .i64)] 2 := by
  refine EqL.struct (k := 1) Try.underlying71 (by kernel_rfl) ?_
  exact ⟨by simp, rfl, false, [(.int .i64)], [(.int .i64)], [.int .i64 0], rfl, TyR.of Try.underlying3 rfl (by kernel_rfl), rfl, fun _ => rfl, eql3.up (by decide), ⟨by simp, rfl, false, [(.int .i64)], [], [.int .i64 0], rfl, TyR.of Try.underlying3 rfl (by kernel_rfl), rfl, fun _ => rfl, eql3.up (by decide), rfl⟩⟩
theorem eqr71 : EqT Try.prog 71 [(.int .i64), (.int .i64)] ∧ ([(.int .i64), (.int .i64)] : List Lf).all flatL = true := ⟨⟨⟨2, by decide, eql71⟩, by kernel_rfl⟩, rfl⟩
instance : Flat Cable := ⟨fun h => Flat.any (α := Int × Int × Int) h⟩
instance : Flat Message := ⟨fun h => Flat.any (α := Int × Int × Int × Int) h⟩
instance : Flat Part := ⟨fun h => Flat.any (α := Int × Int) h⟩
theorem flat0 : Flat (D 0) := (inferInstance : Flat Int)
theorem flat1 : Flat (D 1) := (inferInstance : Flat Bool)
theorem flat2 : Flat (D 2) := (inferInstance : Flat ByteArray)
theorem flat3 : Flat (D 3) := (inferInstance : Flat Cable)
theorem flat6 : Flat (D 6) := (inferInstance : Flat Message)
theorem flat7 : Flat (D 7) := (inferInstance : Flat Part)
theorem flat9 : Flat (D 9) := (inferInstance : Flat (Int × Int × Int × Bool))
theorem flat10 : Flat (D 10) := (inferInstance : Flat (Int × Int × Int))
theorem flat11 : Flat (D 11) := (inferInstance : Flat (Int × Bool))
theorem arr42 : ArrT Try.prog D 42 3 3 0 := ArrT.of Try.underlying42 (TyOk.of Try.underlying3 rfl (by kernel_rfl)) (by kernel_rfl)
theorem arr59 : ArrT Try.prog D 59 3 28 4 := ArrT.of Try.underlying59 (TyOk.of Try.underlying28 rfl (by kernel_rfl)) (by kernel_rfl)
theorem arr62 : ArrT Try.prog D 62 2 37 12 := ArrT.of Try.underlying62 (TyOk.of Try.underlying37 rfl (by kernel_rfl)) (by kernel_rfl)
theorem arr63 : ArrT Try.prog D 63 2 42 10 := ArrT.of Try.underlying63 (TyOk.of Try.underlying42 rfl (by kernel_rfl)) (by kernel_rfl)
theorem mpr32 : MapT Try.prog T 32 42 4 9 := ⟨Try.underlying32, (KeyR.arr (m := 3) (k := .i64) (z := [.int .i64 0]) Try.underlying42 (by decide) Try.underlying3 (TyR.of Try.underlying3 rfl (by kernel_rfl)) rfl), rfl, .bool, rfl, TyR.of Try.underlying4 rfl (by kernel_rfl)⟩
theorem mpr53 : MapT Try.prog T 53 3 4 11 := ⟨Try.underlying53, (KeyR.int Try.underlying3), rfl, .bool, rfl, TyR.of Try.underlying4 rfl (by kernel_rfl)⟩
theorem pOk : POk Try.prog T := POk.of (⟨tyr3, tyr4, tyr22, tyr24, tyr26, tyr28, tyr30, tyr33, tyr37, tyr41, tyr42, tyr49, tyr52, tyr71, tyr73, tyr79, tyr99, trivial⟩) (⟨slr22, slr26, slr30, slr33, slr37, slr79, trivial⟩) (⟨flr28, flr41, flr49, flr52, flr71, flr73, trivial⟩) (⟨eqr41, eqr71, trivial⟩) (trivial) (⟨arr42, arr59, arr62, arr63, trivial⟩) (⟨mpr32, mpr53, trivial⟩)
theorem hmix : Try.prog.follows .mixedOrders = true := by kernel_rfl
def bodyOf (f : Func) : Code := match f.body with
  | some c => c
  | none => .skip
end Rx
end Go.Proofs.Ythgnnjdjdmdfoaa
