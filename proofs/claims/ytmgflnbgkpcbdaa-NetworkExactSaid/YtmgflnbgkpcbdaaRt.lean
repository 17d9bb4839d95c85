/- Types: structures, how they lie in memory. Written by a program (wip/gen). -/
import Derived.Test.YtmgflnbgkpcbdaaRp
import Derived.Test.YtmgflnbgkpcbdaaProg
import Derived.KernelRfl
set_option linter.unusedVariables false
namespace Go.Proofs.Ytmgflnbgkpcbdaa
open Go Go.RowKit Dp
namespace Rx

structure Cable where
  Net : Int
  A : Int
  B : Int
def Cable_to (x : Cable) : Int × Int × Int := (x.Net, x.A, x.B)
instance : Rep Cable := Rep.via Cable_to ⟨Rep.zero, Rep.zero, Rep.zero⟩ rfl
structure Net where
  Nodes : Int
  Cables : (List Cable)
def Net_to (x : Net) : Int × (List Cable) := (x.Nodes, x.Cables)
instance : Rep Net := Rep.via Net_to ⟨Rep.zero, Rep.zero⟩ rfl
structure Part where
  Kind : Int
  Number : Int
def Part_to (x : Part) : Int × Int := (x.Kind, x.Number)
instance : Rep Part := Rep.via Part_to ⟨Rep.zero, Rep.zero⟩ rfl
structure Port where
  High : Int
  Below : (List Int)
def Port_to (x : Port) : Int × (List Int) := (x.High, x.Below)
instance : Rep Port := Rep.via Port_to ⟨Rep.zero, Rep.zero⟩ rfl
structure Message where
  From : Int
  To : Int
  Number : Int
  Value : Int
def Message_to (x : Message) : Int × Int × Int × Int := (x.From, x.To, x.Number, x.Value)
instance : Rep Message := Rep.via Message_to ⟨Rep.zero, Rep.zero, Rep.zero, Rep.zero⟩ rfl
structure Src where
  L : (List Int)
  At : Int
def Src_to (x : Src) : (List Int) × Int := (x.L, x.At)
instance : Rep Src := Rep.via Src_to ⟨Rep.zero, Rep.zero⟩ rfl
@[reducible] def D (n : Nat) : Type := match n with
  | 0 => Int
  | 1 => Bool
  | 2 => ByteArray
  | 3 => Net
  | 4 => Cable
  | 5 => Part
  | 6 => Port
  | 7 => Message
  | 8 => Src
  | 9 => (List Part)
  | 10 => (Int × Int × Int)
  | 11 => (List Int)
  | 12 => (List Message)
  | 13 => (List Port)
  | _ => Int
instance repD (n : Nat) : Rep (D n) := match n with
  | 0 => inferInstanceAs (Rep Int)
  | 1 => inferInstanceAs (Rep Bool)
  | 2 => inferInstanceAs (Rep ByteArray)
  | 3 => inferInstanceAs (Rep Net)
  | 4 => inferInstanceAs (Rep Cable)
  | 5 => inferInstanceAs (Rep Part)
  | 6 => inferInstanceAs (Rep Port)
  | 7 => inferInstanceAs (Rep Message)
  | 8 => inferInstanceAs (Rep Src)
  | 9 => inferInstanceAs (Rep (List Part))
  | 10 => inferInstanceAs (Rep (Int × Int × Int))
  | 11 => inferInstanceAs (Rep (List Int))
  | 12 => inferInstanceAs (Rep (List Message))
  | 13 => inferInstanceAs (Rep (List Port))
  | _ + 14 => inferInstanceAs (Rep Int)
def tabLv (n : Nat) : List Lf := match n with
  | 0 => [(.int .i64)]
  | 1 => [.bool]
  | 2 => [.str]
  | 3 => [(.int .i64), (.sl 4)]
  | 4 => [(.int .i64), (.int .i64), (.int .i64)]
  | 5 => [(.int .i64), (.int .i64)]
  | 6 => [(.int .i64), (.sl 0)]
  | 7 => [(.int .i64), (.int .i64), (.int .i64), (.int .i64)]
  | 8 => [(.sl 0), (.int .i64)]
  | 9 => [(.sl 5)]
  | 10 => [(.int .i64), (.int .i64), (.int .i64)]
  | 11 => [(.sl 0)]
  | 12 => [(.sl 7)]
  | 13 => [(.sl 6)]
  | _ => [.int .i64]
def tabAg (n : Nat) : Bool := match n with
  | 0 => false
  | 1 => false
  | 2 => false
  | 3 => true
  | 4 => true
  | 5 => true
  | 6 => true
  | 7 => true
  | 8 => true
  | 9 => false
  | 10 => true
  | 11 => false
  | 12 => false
  | 13 => false
  | _ => false
def tabOut : ∀ n : Nat, D n → HL D (tabLv n)
  | 0 => fun x => x
  | 1 => fun x => x
  | 2 => fun x => x
  | 3 => fun x => (x.Nodes, x.Cables)
  | 4 => fun x => (x.Net, x.A, x.B)
  | 5 => fun x => (x.Kind, x.Number)
  | 6 => fun x => (x.High, x.Below)
  | 7 => fun x => (x.From, x.To, x.Number, x.Value)
  | 8 => fun x => (x.L, x.At)
  | 9 => fun x => x
  | 10 => fun x => x
  | 11 => fun x => x
  | 12 => fun x => x
  | 13 => fun x => x
  | _ + 14 => fun x => x
def tabMk : ∀ n : Nat, HL D (tabLv n) → D n
  | 0 => fun h => h
  | 1 => fun h => h
  | 2 => fun h => h
  | 3 => fun h => ⟨h.1, h.2⟩
  | 4 => fun h => ⟨h.1, h.2.1, h.2.2⟩
  | 5 => fun h => ⟨h.1, h.2⟩
  | 6 => fun h => ⟨h.1, h.2⟩
  | 7 => fun h => ⟨h.1, h.2.1, h.2.2.1, h.2.2.2⟩
  | 8 => fun h => ⟨h.1, h.2⟩
  | 9 => fun h => h
  | 10 => fun h => h
  | 11 => fun h => h
  | 12 => fun h => h
  | 13 => fun h => h
  | _ + 14 => fun h => h
def tabZero : ∀ n : Nat, D n
  | 0 => (0 : Int)
  | 1 => false
  | 2 => ByteArray.empty
  | 3 => (⟨(0 : Int), []⟩ : Net)
  | 4 => (⟨(0 : Int), (0 : Int), (0 : Int)⟩ : Cable)
  | 5 => (⟨(0 : Int), (0 : Int)⟩ : Part)
  | 6 => (⟨(0 : Int), []⟩ : Port)
  | 7 => (⟨(0 : Int), (0 : Int), (0 : Int), (0 : Int)⟩ : Message)
  | 8 => (⟨[], (0 : Int)⟩ : Src)
  | 9 => ([] : (List Part))
  | 10 => (0, 0, 0)
  | 11 => ([] : (List Int))
  | 12 => ([] : (List Message))
  | 13 => ([] : (List Port))
  | _ + 14 => (0 : Int)
def T : Tab D where
  lv := tabLv
  ag := tabAg
  outH := tabOut
  mkH := tabMk
  zero := tabZero
  ty := [(3, .one (.int .i64)), (4, .one .bool), (22, .one (.sl 0)), (23, .one (.sl 4)), (25, .st 3), (26, .one (.sl 5)), (28, .st 6), (29, .one (.sl 7)), (31, .ptr), (38, .st 4), (39, .one (.sl 6)), (42, .one (.int .i64)), (46, .st 10), (65, .st 7), (67, .st 5), (69, .st 8), (74, .one (.sl 1)), (100, .one (.int .u64))]
  fld := [(25, [(0, 1), (1, 1)]), (28, [(0, 1), (1, 1)]), (38, [(0, 1), (1, 1), (2, 1)]), (65, [(0, 1), (1, 1), (2, 1), (3, 1)]), (67, [(0, 1), (1, 1)]), (69, [(0, 1), (1, 1)])]
  els := [(22, 3, 0), (23, 38, 4), (26, 67, 5), (29, 65, 7), (39, 28, 6), (74, 4, 1)]
  eqs := [(65, [(.int .i64), (.int .i64), (.int .i64), (.int .i64)]), (67, [(.int .i64), (.int .i64)])]
  kd := []
  ars := [(41, 3, 25, 3), (45, 2, 26, 9), (46, 3, 3, 0), (47, 2, 46, 10), (51, 2, 22, 11), (54, 2, 29, 12), (55, 2, 39, 13)]
  pre := []
  mps := []
theorem rd4 : RdIs D Cable (fun x => [⟨(.int .i64), x.Net⟩, ⟨(.int .i64), x.A⟩, ⟨(.int .i64), x.B⟩]) := fun S w cs x => (RdIs.prod RdIs.int (RdIs.prod RdIs.int (RdIs.int)) : RdIs D (Int × Int × Int) _) S w cs (Cable_to x)
theorem rd3 : RdIs D Net (fun x => [⟨(.int .i64), x.Nodes⟩, ⟨(.sl 4), x.Cables⟩]) := fun S w cs x => (RdIs.prod RdIs.int ((RdIs.sl 4)) : RdIs D (Int × (List Cable)) _) S w cs (Net_to x)
theorem rd5 : RdIs D Part (fun x => [⟨(.int .i64), x.Kind⟩, ⟨(.int .i64), x.Number⟩]) := fun S w cs x => (RdIs.prod RdIs.int (RdIs.int) : RdIs D (Int × Int) _) S w cs (Part_to x)
theorem rd6 : RdIs D Port (fun x => [⟨(.int .i64), x.High⟩, ⟨(.sl 0), x.Below⟩]) := fun S w cs x => (RdIs.prod RdIs.int ((RdIs.sl 0)) : RdIs D (Int × (List Int)) _) S w cs (Port_to x)
theorem rd7 : RdIs D Message (fun x => [⟨(.int .i64), x.From⟩, ⟨(.int .i64), x.To⟩, ⟨(.int .i64), x.Number⟩, ⟨(.int .i64), x.Value⟩]) := fun S w cs x => (RdIs.prod RdIs.int (RdIs.prod RdIs.int (RdIs.prod RdIs.int (RdIs.int))) : RdIs D (Int × Int × Int × Int) _) S w cs (Message_to x)
theorem rd8 : RdIs D Src (fun x => [⟨(.sl 0), x.L⟩, ⟨(.int .i64), x.At⟩]) := fun S w cs x => (RdIs.prod (RdIs.sl 0) (RdIs.int) : RdIs D ((List Int) × Int) _) S w cs (Src_to x)
theorem rd9 : RdIs D (List Part) (fun x => [⟨.sl 5, x⟩]) := RdIs.sl 5
theorem rd10 : RdIs D (Int × Int × Int) (fun x => [⟨(.int .i64), x.1⟩, ⟨(.int .i64), x.2.1⟩, ⟨(.int .i64), x.2.2⟩]) := RdIs.prod RdIs.int (RdIs.prod RdIs.int (RdIs.int))
theorem rd11 : RdIs D (List Int) (fun x => [⟨.sl 0, x⟩]) := RdIs.sl 0
theorem rd12 : RdIs D (List Message) (fun x => [⟨.sl 7, x⟩]) := RdIs.sl 7
theorem rd13 : RdIs D (List Port) (fun x => [⟨.sl 6, x⟩]) := RdIs.sl 6
theorem repOk : RepOk T where
  sz := fun n => match n with
    | 0 => rfl
    | 1 => rfl
    | 2 => rfl
    | 3 => rfl
    | 4 => rfl
    | 5 => rfl
    | 6 => rfl
    | 7 => rfl
    | 8 => rfl
    | 9 => rfl
    | 10 => rfl
    | 11 => rfl
    | 12 => rfl
    | 13 => rfl
    | _ + 14 => rfl
  ag := fun n => match n with
    | 0 => rfl
    | 1 => rfl
    | 2 => rfl
    | 3 => rfl
    | 4 => rfl
    | 5 => rfl
    | 6 => rfl
    | 7 => rfl
    | 8 => rfl
    | 9 => rfl
    | 10 => rfl
    | 11 => rfl
    | 12 => rfl
    | 13 => rfl
    | _ + 14 => rfl
  zc := fun n => match n with
    | 0 => rfl
    | 1 => rfl
    | 2 => rfl
    | 3 => rfl
    | 4 => rfl
    | 5 => rfl
    | 6 => rfl
    | 7 => rfl
    | 8 => rfl
    | 9 => rfl
    | 10 => rfl
    | 11 => rfl
    | 12 => rfl
    | 13 => rfl
    | _ + 14 => rfl
  zero := fun n => match n with
    | 0 => rfl
    | 1 => rfl
    | 2 => rfl
    | 3 => rfl
    | 4 => rfl
    | 5 => rfl
    | 6 => rfl
    | 7 => rfl
    | 8 => rfl
    | 9 => rfl
    | 10 => rfl
    | 11 => rfl
    | 12 => rfl
    | 13 => rfl
    | _ + 14 => rfl
  rd := fun n S w cs x => match n, x with
    | 0, x => RdIs.int S w cs x
    | 1, x => RdIs.bool S w cs x
    | 2, x => RdIs.str S w cs x
    | 3, x => rd3 S w cs x
    | 4, x => rd4 S w cs x
    | 5, x => rd5 S w cs x
    | 6, x => rd6 S w cs x
    | 7, x => rd7 S w cs x
    | 8, x => rd8 S w cs x
    | 9, x => rd9 S w cs x
    | 10, x => rd10 S w cs x
    | 11, x => rd11 S w cs x
    | 12, x => rd12 S w cs x
    | 13, x => rd13 S w cs x
    | _ + 14, x => RdIs.int S w cs x
  few := fun n => match n with
    | 0 => by decide
    | 1 => by decide
    | 2 => by decide
    | 3 => by decide
    | 4 => by decide
    | 5 => by decide
    | 6 => by decide
    | 7 => by decide
    | 8 => by decide
    | 9 => by decide
    | 10 => by decide
    | 11 => by decide
    | 12 => by decide
    | 13 => by decide
    | _ + 14 => by show 1 ≤ 48; decide
  mkh := fun n h => match n, h with
    | 0, h => rfl
    | 1, h => rfl
    | 2, h => rfl
    | 3, h => rfl
    | 4, h => rfl
    | 5, h => rfl
    | 6, h => rfl
    | 7, h => rfl
    | 8, h => rfl
    | 9, h => rfl
    | 10, h => rfl
    | 11, h => rfl
    | 12, h => rfl
    | 13, h => rfl
    | _ + 14, h => rfl
theorem tyr3 : TyF Try.prog T 3 (.one (.int .i64)) := ⟨TyR.of Try.underlying3 rfl (by kernel_rfl), Try.underlying3⟩
theorem tyr4 : TyF Try.prog T 4 (.one .bool) := ⟨TyR.of Try.underlying4 rfl (by kernel_rfl), Try.underlying4⟩
theorem tyr22 : TyF Try.prog T 22 (.one (.sl 0)) := ⟨TyR.of Try.underlying22 rfl (by kernel_rfl), trivial⟩
theorem tyr23 : TyF Try.prog T 23 (.one (.sl 4)) := ⟨TyR.of Try.underlying23 rfl (by kernel_rfl), trivial⟩
theorem tyr25 : TyF Try.prog T 25 (.st 3) := ⟨TyR.of Try.underlying25 rfl (by kernel_rfl), trivial⟩
theorem tyr26 : TyF Try.prog T 26 (.one (.sl 5)) := ⟨TyR.of Try.underlying26 rfl (by kernel_rfl), trivial⟩
theorem tyr28 : TyF Try.prog T 28 (.st 6) := ⟨TyR.of Try.underlying28 rfl (by kernel_rfl), trivial⟩
theorem tyr29 : TyF Try.prog T 29 (.one (.sl 7)) := ⟨TyR.of Try.underlying29 rfl (by kernel_rfl), trivial⟩
theorem tyr31 : TyF Try.prog T 31 (.ptr) := ⟨TyR.of Try.underlying31 rfl (by kernel_rfl), trivial⟩
theorem tyr38 : TyF Try.prog T 38 (.st 4) := ⟨TyR.of Try.underlying38 rfl (by kernel_rfl), trivial⟩
theorem tyr39 : TyF Try.prog T 39 (.one (.sl 6)) := ⟨TyR.of Try.underlying39 rfl (by kernel_rfl), trivial⟩
theorem tyr42 : TyF Try.prog T 42 (.one (.int .i64)) := ⟨TyR.of Try.underlying42 rfl (by kernel_rfl), Try.underlying42⟩
theorem tyr46 : TyF Try.prog T 46 (.st 10) := ⟨TyR.of Try.underlying46 rfl (by kernel_rfl), trivial⟩
theorem tyr65 : TyF Try.prog T 65 (.st 7) := ⟨TyR.of Try.underlying65 rfl (by kernel_rfl), trivial⟩
theorem tyr67 : TyF Try.prog T 67 (.st 5) := ⟨TyR.of Try.underlying67 rfl (by kernel_rfl), trivial⟩
theorem tyr69 : TyF Try.prog T 69 (.st 8) := ⟨TyR.of Try.underlying69 rfl (by kernel_rfl), trivial⟩
theorem tyr74 : TyF Try.prog T 74 (.one (.sl 1)) := ⟨TyR.of Try.underlying74 rfl (by kernel_rfl), trivial⟩
theorem tyr100 : TyF Try.prog T 100 (.one (.int .u64)) := ⟨TyR.of Try.underlying100 rfl (by kernel_rfl), Try.underlying100⟩
theorem slr22 : Try.prog.underlying 22 = some (.slice 3) ∧ TyOk Try.prog 3 (D 0) := ⟨Try.underlying22, TyOk.of Try.underlying3 rfl (by kernel_rfl)⟩
theorem slr23 : Try.prog.underlying 23 = some (.slice 38) ∧ TyOk Try.prog 38 (D 4) := ⟨Try.underlying23, TyOk.of Try.underlying38 rfl (by kernel_rfl)⟩
theorem slr26 : Try.prog.underlying 26 = some (.slice 67) ∧ TyOk Try.prog 67 (D 5) := ⟨Try.underlying26, TyOk.of Try.underlying67 rfl (by kernel_rfl)⟩
theorem slr29 : Try.prog.underlying 29 = some (.slice 65) ∧ TyOk Try.prog 65 (D 7) := ⟨Try.underlying29, TyOk.of Try.underlying65 rfl (by kernel_rfl)⟩
theorem slr39 : Try.prog.underlying 39 = some (.slice 28) ∧ TyOk Try.prog 28 (D 6) := ⟨Try.underlying39, TyOk.of Try.underlying28 rfl (by kernel_rfl)⟩
theorem slr74 : Try.prog.underlying 74 = some (.slice 4) ∧ TyOk Try.prog 4 (D 1) := ⟨Try.underlying74, TyOk.of Try.underlying4 rfl (by kernel_rfl)⟩
theorem flr25 : StOk Try.prog 25 [(0, 1), (1, 1)] ∧ ∀ i off sz, [((0 : Nat), (1 : Nat)), ((1 : Nat), (1 : Nat))][i]? = some (off, sz) → FldAt Try.prog 25 i off := flds_ok ⟨_, Try.underlying25, by kernel_rfl⟩ rfl
theorem flr28 : StOk Try.prog 28 [(0, 1), (1, 1)] ∧ ∀ i off sz, [((0 : Nat), (1 : Nat)), ((1 : Nat), (1 : Nat))][i]? = some (off, sz) → FldAt Try.prog 28 i off := flds_ok ⟨_, Try.underlying28, by kernel_rfl⟩ rfl
theorem flr38 : StOk Try.prog 38 [(0, 1), (1, 1), (2, 1)] ∧ ∀ i off sz, [((0 : Nat), (1 : Nat)), ((1 : Nat), (1 : Nat)), ((2 : Nat), (1 : Nat))][i]? = some (off, sz) → FldAt Try.prog 38 i off := flds_ok ⟨_, Try.underlying38, by kernel_rfl⟩ rfl
theorem flr65 : StOk Try.prog 65 [(0, 1), (1, 1), (2, 1), (3, 1)] ∧ ∀ i off sz, [((0 : Nat), (1 : Nat)), ((1 : Nat), (1 : Nat)), ((2 : Nat), (1 : Nat)), ((3 : Nat), (1 : Nat))][i]? = some (off, sz) → FldAt Try.prog 65 i off := flds_ok ⟨_, Try.underlying65, by kernel_rfl⟩ rfl
theorem flr67 : StOk Try.prog 67 [(0, 1), (1, 1)] ∧ ∀ i off sz, [((0 : Nat), (1 : Nat)), ((1 : Nat), (1 : Nat))][i]? = some (off, sz) → FldAt Try.prog 67 i off := flds_ok ⟨_, Try.underlying67, by kernel_rfl⟩ rfl
theorem flr69 : StOk Try.prog 69 [(0, 1), (1, 1)] ∧ ∀ i off sz, [((0 : Nat), (1 : Nat)), ((1 : Nat), (1 : Nat))][i]? = some (off, sz) → FldAt Try.prog 69 i off := flds_ok ⟨_, Try.underlying69, by kernel_rfl⟩ rfl
theorem eql3 : EqL Try.prog 3 false [(.int .i64)] 1 := EqL.int Try.underlying3
theorem eql65 : EqL Try.prog 65 true [(.int .i64), (.int .i64), (.int .i64), (.int .i64)] 2 := by
  refine EqL.struct (k := 1) Try.underlying65 (by kernel_rfl) ?_
  exact ⟨by simp, rfl, false, [(.int .i64)], [(.int .i64), (.int .i64), (.int .i64)], [.int .i64 0], rfl, TyR.of Try.underlying3 rfl (by kernel_rfl), rfl, fun _ => rfl, eql3.up (by decide), ⟨by simp, rfl, false, [(.int .i64)], [(.int .i64), (.int .i64)], [.int .i64 0], rfl, TyR.of Try.underlying3 rfl (by kernel_rfl), rfl, fun _ => rfl, eql3.up (by decide), ⟨by simp, rfl, false, [(.int .i64)], [(.int .i64)], [.int .i64 0], rfl, TyR.of Try.underlying3 rfl (by kernel_rfl), rfl, fun _ => rfl, eql3.up (by decide), ⟨by simp, rfl, false, [(.int .i64)], [], [.int .i64 0], rfl, TyR.of Try.underlying3 rfl (by kernel_rfl), rfl, fun _ => rfl, eql3.up (by decide), rfl⟩⟩⟩⟩
theorem eqr65 : EqT Try.prog 65 [(.int .i64), (.int .i64), (.int .i64), (.int .i64)] ∧ ([(.int .i64), (.int .i64), (.int .i64), (.int .i64)] : List Lf).all flatL = true := ⟨⟨⟨2, by decide, eql65⟩, by kernel_rfl⟩, rfl⟩
theorem eql67 : EqL Try.prog 67 true [(.int .i64), (.int .i64)] 2 := by
  refine EqL.struct (k := 1) Try.underlying67 (by kernel_rfl) ?_
  exact ⟨by simp, rfl, false, [(.int .i64)], [(.int .i64)], [.int .i64 0], rfl, TyR.of Try.underlying3 rfl (by kernel_rfl), rfl, fun _ => rfl, eql3.up (by decide), ⟨by simp, rfl, false, [(.int .i64)], [], [.int .i64 0], rfl, TyR.of Try.underlying3 rfl (by kernel_rfl), rfl, fun _ => rfl, eql3.up (by decide), rfl⟩⟩
theorem eqr67 : EqT Try.prog 67 [(.int .i64), (.int .i64)] ∧ ([(.int .i64), (.int .i64)] : List Lf).all flatL = true := ⟨⟨⟨2, by decide, eql67⟩, by kernel_rfl⟩, rfl⟩
instance : Flat Cable := ⟨fun h => Flat.any (α := Int × Int × Int) h⟩
instance : Flat Part := ⟨fun h => Flat.any (α := Int × Int) h⟩
instance : Flat Message := ⟨fun h => Flat.any (α := Int × Int × Int × Int) h⟩
theorem flat0 : Flat (D 0) := (inferInstance : Flat Int)
theorem flat1 : Flat (D 1) := (inferInstance : Flat Bool)
theorem flat2 : Flat (D 2) := (inferInstance : Flat ByteArray)
theorem flat4 : Flat (D 4) := (inferInstance : Flat Cable)
theorem flat5 : Flat (D 5) := (inferInstance : Flat Part)
theorem flat7 : Flat (D 7) := (inferInstance : Flat Message)
theorem flat10 : Flat (D 10) := (inferInstance : Flat (Int × Int × Int))
theorem arr41 : ArrT Try.prog D 41 3 25 3 := ArrT.of Try.underlying41 (TyOk.of Try.underlying25 rfl (by kernel_rfl)) (by kernel_rfl)
theorem arr45 : ArrT Try.prog D 45 2 26 9 := ArrT.of Try.underlying45 (TyOk.of Try.underlying26 rfl (by kernel_rfl)) (by kernel_rfl)
theorem arr46 : ArrT Try.prog D 46 3 3 0 := ArrT.of Try.underlying46 (TyOk.of Try.underlying3 rfl (by kernel_rfl)) (by kernel_rfl)
theorem arr47 : ArrT Try.prog D 47 2 46 10 := ArrT.of Try.underlying47 (TyOk.of Try.underlying46 rfl (by kernel_rfl)) (by kernel_rfl)
theorem arr51 : ArrT Try.prog D 51 2 22 11 := ArrT.of Try.underlying51 (TyOk.of Try.underlying22 rfl (by kernel_rfl)) (by kernel_rfl)
theorem arr54 : ArrT Try.prog D 54 2 29 12 := ArrT.of Try.underlying54 (TyOk.of Try.underlying29 rfl (by kernel_rfl)) (by kernel_rfl)
theorem arr55 : ArrT Try.prog D 55 2 39 13 := ArrT.of Try.underlying55 (TyOk.of Try.underlying39 rfl (by kernel_rfl)) (by kernel_rfl)
theorem pOk : POk Try.prog T := POk.of (⟨tyr3, tyr4, tyr22, tyr23, tyr25, tyr26, tyr28, tyr29, tyr31, tyr38, tyr39, tyr42, tyr46, tyr65, tyr67, tyr69, tyr74, tyr100, trivial⟩) (⟨slr22, slr23, slr26, slr29, slr39, slr74, trivial⟩) (⟨flr25, flr28, flr38, flr65, flr67, flr69, trivial⟩) (⟨eqr65, eqr67, trivial⟩) (trivial) (⟨arr41, arr45, arr46, arr47, arr51, arr54, arr55, trivial⟩) (trivial)
theorem hmix : Try.prog.follows .mixedOrders = true := by kernel_rfl
def bodyOf (f : Func) : Code := match f.body with
  | some c => c
  | none => .skip
end Rx
end Go.Proofs.Ytmgflnbgkpcbdaa
