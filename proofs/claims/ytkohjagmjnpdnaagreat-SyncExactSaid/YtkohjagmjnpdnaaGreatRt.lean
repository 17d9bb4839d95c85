/- Types: structures, how they lie in memory. Written by a program (wip/gen). -/
import Derived.Test.YtkohjagmjnpdnaaGreatRp
import Derived.Test.YtkohjagmjnpdnaaGreatProg
import Derived.KernelRfl
set_option linter.unusedVariables false
namespace Go.Proofs.YtkohjagmjnpdnaaGreat
open Go Go.RowKit Dp
namespace Rx

structure Breaker where
  Kind : Int
  A : Int
  B : Int
def Breaker_to (x : Breaker) : Int × Int × Int := (x.Kind, x.A, x.B)
instance : Rep Breaker := Rep.via Breaker_to ⟨Rep.zero, Rep.zero, Rep.zero⟩ rfl
structure Source where
  Rating : Int
  Least : Int
  Start : Int
def Source_to (x : Source) : Int × Int × Int := (x.Rating, x.Least, x.Start)
instance : Rep Source := Rep.via Source_to ⟨Rep.zero, Rep.zero, Rep.zero⟩ rfl
structure Consumer where
  Load : Int
  Least : Int
  Preference : Int
  Thruster : Int
  Needs : (List Int)
def Consumer_to (x : Consumer) : Int × Int × Int × Int × (List Int) := (x.Load, x.Least, x.Preference, x.Thruster, x.Needs)
instance : Rep Consumer := Rep.via Consumer_to ⟨Rep.zero, Rep.zero, Rep.zero, Rep.zero, Rep.zero⟩ rfl
structure Board where
  Buses : Int
  Breakers : (List Breaker)
  Sources : (List Source)
  Consumers : (List Consumer)
  Phase : Int
  Frequency : Int
def Board_to (x : Board) : Int × (List Breaker) × (List Source) × (List Consumer) × Int × Int := (x.Buses, x.Breakers, x.Sources, x.Consumers, x.Phase, x.Frequency)
instance : Rep Board := Rep.via Board_to ⟨Rep.zero, Rep.zero, Rep.zero, Rep.zero, Rep.zero, Rep.zero⟩ rfl
structure Running where
  State : Int
  Since : Int
  Frequency : Int
  Phase : Int
def Running_to (x : Running) : Int × Int × Int × Int := (x.State, x.Since, x.Frequency, x.Phase)
instance : Rep Running := Rep.via Running_to ⟨Rep.zero, Rep.zero, Rep.zero, Rep.zero⟩ rfl
structure Part where
  Kind : Int
  Number : Int
def Part_to (x : Part) : Int × Int := (x.Kind, x.Number)
instance : Rep Part := Rep.via Part_to ⟨Rep.zero, Rep.zero⟩ rfl
structure Power where
  Closed : (List Bool)
  Sources : (List Running)
  Limits : (List Int)
  Broken : (List Part)
def Power_to (x : Power) : (List Bool) × (List Running) × (List Int) × (List Part) := (x.Closed, x.Sources, x.Limits, x.Broken)
instance : Rep Power := Rep.via Power_to ⟨Rep.zero, Rep.zero, Rep.zero, Rep.zero⟩ rfl
structure Island where
  Buses : (List Int)
  Sources : (List Int)
  Consumers : (List Int)
def Island_to (x : Island) : (List Int) × (List Int) × (List Int) := (x.Buses, x.Sources, x.Consumers)
instance : Rep Island := Rep.via Island_to ⟨Rep.zero, Rep.zero, Rep.zero⟩ rfl
structure Src where
  L : (List Int)
  At : Int
def Src_to (x : Src) : (List Int) × Int := (x.L, x.At)
instance : Rep Src := Rep.via Src_to ⟨Rep.zero, Rep.zero⟩ rfl
@[reducible] def D (n : Nat) : Type := match n with
  | 0 => Int
  | 1 => Bool
  | 2 => ByteArray
  | 3 => Board
  | 4 => Breaker
  | 5 => Source
  | 6 => Consumer
  | 7 => Power
  | 8 => Running
  | 9 => Part
  | 10 => (List Int)
  | 11 => Island
  | 12 => Src
  | _ => Int
instance repD (n : Nat) : Rep (D n) := match n with
  | 0 => inferInstanceAs (Rep Int)
  | 1 => inferInstanceAs (Rep Bool)
  | 2 => inferInstanceAs (Rep ByteArray)
  | 3 => inferInstanceAs (Rep Board)
  | 4 => inferInstanceAs (Rep Breaker)
  | 5 => inferInstanceAs (Rep Source)
  | 6 => inferInstanceAs (Rep Consumer)
  | 7 => inferInstanceAs (Rep Power)
  | 8 => inferInstanceAs (Rep Running)
  | 9 => inferInstanceAs (Rep Part)
  | 10 => inferInstanceAs (Rep (List Int))
  | 11 => inferInstanceAs (Rep Island)
  | 12 => inferInstanceAs (Rep Src)
  | _ + 13 => inferInstanceAs (Rep Int)
def tabLv (n : Nat) : List Lf := match n with
  | 0 => [(.int .i64)]
  | 1 => [.bool]
  | 2 => [.str]
  | 3 => [(.int .i64), (.sl 4), (.sl 5), (.sl 6), (.int .i64), (.int .i64)]
  | 4 => [(.int .i64), (.int .i64), (.int .i64)]
  | 5 => [(.int .i64), (.int .i64), (.int .i64)]
  | 6 => [(.int .i64), (.int .i64), (.int .i64), (.int .i64), (.sl 0)]
  | 7 => [(.sl 1), (.sl 8), (.sl 0), (.sl 9)]
  | 8 => [(.int .i64), (.int .i64), (.int .i64), (.int .i64)]
  | 9 => [(.int .i64), (.int .i64)]
  | 10 => [(.sl 0)]
  | 11 => [(.sl 0), (.sl 0), (.sl 0)]
  | 12 => [(.sl 0), (.int .i64)]
  | _ => [.int .i64]
def tabAg (n : Nat) : Bool := match n with
  | 0 => false
  | 1 => false
  | 2 => false
  | 3 => true
  | 4 => true
  | 5 => true
  | 6 => true
  | 7 => true
  | 8 => true
  | 9 => true
  | 10 => false
  | 11 => true
  | 12 => true
  | _ => false
def tabOut : ∀ n : Nat, D n → HL D (tabLv n)
  | 0 => fun x => x
  | 1 => fun x => x
  | 2 => fun x => x
  | 3 => fun x => (x.Buses, x.Breakers, x.Sources, x.Consumers, x.Phase, x.Frequency)
  | 4 => fun x => (x.Kind, x.A, x.B)
  | 5 => fun x => (x.Rating, x.Least, x.Start)
  | 6 => fun x => (x.Load, x.Least, x.Preference, x.Thruster, x.Needs)
  | 7 => fun x => (x.Closed, x.Sources, x.Limits, x.Broken)
  | 8 => fun x => (x.State, x.Since, x.Frequency, x.Phase)
  | 9 => fun x => (x.Kind, x.Number)
  | 10 => fun x => x
  | 11 => fun x => (x.Buses, x.Sources, x.Consumers)
  | 12 => fun x => (x.L, x.At)
  | _ + 13 => fun x => x
def tabMk : ∀ n : Nat, HL D (tabLv n) → D n
  | 0 => fun h => h
  | 1 => fun h => h
  | 2 => fun h => h
  | 3 => fun h => ⟨h.1, h.2.1, h.2.2.1, h.2.2.2.1, h.2.2.2.2.1, h.2.2.2.2.2⟩
  | 4 => fun h => ⟨h.1, h.2.1, h.2.2⟩
  | 5 => fun h => ⟨h.1, h.2.1, h.2.2⟩
  | 6 => fun h => ⟨h.1, h.2.1, h.2.2.1, h.2.2.2.1, h.2.2.2.2⟩
  | 7 => fun h => ⟨h.1, h.2.1, h.2.2.1, h.2.2.2⟩
  | 8 => fun h => ⟨h.1, h.2.1, h.2.2.1, h.2.2.2⟩
  | 9 => fun h => ⟨h.1, h.2⟩
  | 10 => fun h => h
  | 11 => fun h => ⟨h.1, h.2.1, h.2.2⟩
  | 12 => fun h => ⟨h.1, h.2⟩
  | _ + 13 => fun h => h
def tabZero : ∀ n : Nat, D n
  | 0 => (0 : Int)
  | 1 => false
  | 2 => ByteArray.empty
  | 3 => (⟨(0 : Int), [], [], [], (0 : Int), (0 : Int)⟩ : Board)
  | 4 => (⟨(0 : Int), (0 : Int), (0 : Int)⟩ : Breaker)
  | 5 => (⟨(0 : Int), (0 : Int), (0 : Int)⟩ : Source)
  | 6 => (⟨(0 : Int), (0 : Int), (0 : Int), (0 : Int), []⟩ : Consumer)
  | 7 => (⟨[], [], [], []⟩ : Power)
  | 8 => (⟨(0 : Int), (0 : Int), (0 : Int), (0 : Int)⟩ : Running)
  | 9 => (⟨(0 : Int), (0 : Int)⟩ : Part)
  | 10 => ([] : (List Int))
  | 11 => (⟨[], [], []⟩ : Island)
  | 12 => (⟨[], (0 : Int)⟩ : Src)
  | _ + 13 => (0 : Int)
def T : Tab D where
  lv := tabLv
  ag := tabAg
  outH := tabOut
  mkH := tabMk
  zero := tabZero
  ty := [(3, .one (.int .i64)), (4, .one .bool), (22, .one (.sl 0)), (23, .one (.sl 4)), (24, .one (.sl 5)), (25, .one (.sl 6)), (27, .st 3), (28, .one (.sl 1)), (29, .one (.sl 8)), (30, .one (.sl 9)), (32, .st 7), (34, .st 8), (37, .ptr), (61, .st 6), (64, .st 12), (67, .st 4), (70, .st 9), (75, .st 11), (88, .one (.sl 11)), (91, .st 5), (119, .one (.sl 10))]
  fld := [(27, [(0, 1), (1, 1), (2, 1), (3, 1), (4, 1), (5, 1)]), (32, [(0, 1), (1, 1), (2, 1), (3, 1)]), (34, [(0, 1), (1, 1), (2, 1), (3, 1)]), (61, [(0, 1), (1, 1), (2, 1), (3, 1), (4, 1)]), (64, [(0, 1), (1, 1)]), (67, [(0, 1), (1, 1), (2, 1)]), (70, [(0, 1), (1, 1)]), (75, [(0, 1), (1, 1), (2, 1)]), (91, [(0, 1), (1, 1), (2, 1)])]
  els := [(22, 3, 0), (23, 67, 4), (24, 91, 5), (25, 61, 6), (28, 4, 1), (29, 34, 8), (30, 70, 9), (88, 75, 11), (119, 22, 10)]
  eqs := [(34, [(.int .i64), (.int .i64), (.int .i64), (.int .i64)]), (67, [(.int .i64), (.int .i64), (.int .i64)]), (70, [(.int .i64), (.int .i64)])]
  kd := [(10, 3, 0), (11, 3, 0)]
  ars := [(42, 2, 27, 3), (45, 4, 32, 7), (47, 3, 3, 0), (56, 2, 3, 0)]
  pre := []
  mps := []
theorem rd4 : RdIs D Breaker (fun x => [⟨(.int .i64), x.Kind⟩, ⟨(.int .i64), x.A⟩, ⟨(.int .i64), x.B⟩]) := fun S w cs x => (RdIs.prod RdIs.int (RdIs.prod RdIs.int (RdIs.int)) : RdIs D (Int × Int × Int) _) S w cs (Breaker_to x)
theorem rd5 : RdIs D Source (fun x => [⟨(.int .i64), x.Rating⟩, ⟨(.int .i64), x.Least⟩, ⟨(.int .i64), x.Start⟩]) := fun S w cs x => (RdIs.prod RdIs.int (RdIs.prod RdIs.int (RdIs.int)) : RdIs D (Int × Int × Int) _) S w cs (Source_to x)
theorem rd6 : RdIs D Consumer (fun x => [⟨(.int .i64), x.Load⟩, ⟨(.int .i64), x.Least⟩, ⟨(.int .i64), x.Preference⟩, ⟨(.int .i64), x.Thruster⟩, ⟨(.sl 0), x.Needs⟩]) := fun S w cs x => (RdIs.prod RdIs.int (RdIs.prod RdIs.int (RdIs.prod RdIs.int (RdIs.prod RdIs.int ((RdIs.sl 0))))) : RdIs D (Int × Int × Int × Int × (List Int)) _) S w cs (Consumer_to x)
theorem rd3 : RdIs D Board (fun x => [⟨(.int .i64), x.Buses⟩, ⟨(.sl 4), x.Breakers⟩, ⟨(.sl 5), x.Sources⟩, ⟨(.sl 6), x.Consumers⟩, ⟨(.int .i64), x.Phase⟩, ⟨(.int .i64), x.Frequency⟩]) := fun S w cs x => (RdIs.prod RdIs.int (RdIs.prod (RdIs.sl 4) (RdIs.prod (RdIs.sl 5) (RdIs.prod (RdIs.sl 6) (RdIs.prod RdIs.int (RdIs.int))))) : RdIs D (Int × (List Breaker) × (List Source) × (List Consumer) × Int × Int) _) S w cs (Board_to x)
theorem rd8 : RdIs D Running (fun x => [⟨(.int .i64), x.State⟩, ⟨(.int .i64), x.Since⟩, ⟨(.int .i64), x.Frequency⟩, ⟨(.int .i64), x.Phase⟩]) := fun S w cs x => (RdIs.prod RdIs.int (RdIs.prod RdIs.int (RdIs.prod RdIs.int (RdIs.int))) : RdIs D (Int × Int × Int × Int) _) S w cs (Running_to x)
theorem rd9 : RdIs D Part (fun x => [⟨(.int .i64), x.Kind⟩, ⟨(.int .i64), x.Number⟩]) := fun S w cs x => (RdIs.prod RdIs.int (RdIs.int) : RdIs D (Int × Int) _) S w cs (Part_to x)
theorem rd7 : RdIs D Power (fun x => [⟨(.sl 1), x.Closed⟩, ⟨(.sl 8), x.Sources⟩, ⟨(.sl 0), x.Limits⟩, ⟨(.sl 9), x.Broken⟩]) := fun S w cs x => (RdIs.prod (RdIs.sl 1) (RdIs.prod (RdIs.sl 8) (RdIs.prod (RdIs.sl 0) ((RdIs.sl 9)))) : RdIs D ((List Bool) × (List Running) × (List Int) × (List Part)) _) S w cs (Power_to x)
theorem rd11 : RdIs D Island (fun x => [⟨(.sl 0), x.Buses⟩, ⟨(.sl 0), x.Sources⟩, ⟨(.sl 0), x.Consumers⟩]) := fun S w cs x => (RdIs.prod (RdIs.sl 0) (RdIs.prod (RdIs.sl 0) ((RdIs.sl 0))) : RdIs D ((List Int) × (List Int) × (List Int)) _) S w cs (Island_to x)
theorem rd12 : RdIs D Src (fun x => [⟨(.sl 0), x.L⟩, ⟨(.int .i64), x.At⟩]) := fun S w cs x => (RdIs.prod (RdIs.sl 0) (RdIs.int) : RdIs D ((List Int) × Int) _) S w cs (Src_to x)
theorem rd10 : RdIs D (List Int) (fun x => [⟨.sl 0, x⟩]) := RdIs.sl 0
theorem repOk : RepOk T where
  sz := fun n => match n with
    | 0 => rfl
    | 1 => rfl
    | 2 => rfl
    | 3 => rfl
    | 4 => rfl
    | 5 => rfl
    | 6 => rfl
    | 7 => rfl
    | 8 => rfl
    | 9 => rfl
    | 10 => rfl
    | 11 => rfl
    | 12 => rfl
    | _ + 13 => rfl
  ag := fun n => match n with
    | 0 => rfl
    | 1 => rfl
    | 2 => rfl
    | 3 => rfl
    | 4 => rfl
    | 5 => rfl
    | 6 => rfl
    | 7 => rfl
    | 8 => rfl
    | 9 => rfl
    | 10 => rfl
    | 11 => rfl
    | 12 => rfl
    | _ + 13 => rfl
  zc := fun n => match n with
    | 0 => rfl
    | 1 => rfl
    | 2 => rfl
    | 3 => rfl
    | 4 => rfl
    | 5 => rfl
    | 6 => rfl
    | 7 => rfl
    | 8 => rfl
    | 9 => rfl
    | 10 => rfl
    | 11 => rfl
    | 12 => rfl
    | _ + 13 => rfl
  zero := fun n => match n with
    | 0 => rfl
    | 1 => rfl
    | 2 => rfl
    | 3 => rfl
    | 4 => rfl
    | 5 => rfl
    | 6 => rfl
    | 7 => rfl
    | 8 => rfl
    | 9 => rfl
    | 10 => rfl
    | 11 => rfl
    | 12 => rfl
    | _ + 13 => rfl
  rd := fun n S w cs x => match n, x with
    | 0, x => RdIs.int S w cs x
    | 1, x => RdIs.bool S w cs x
    | 2, x => RdIs.str S w cs x
    | 3, x => rd3 S w cs x
    | 4, x => rd4 S w cs x
    | 5, x => rd5 S w cs x
    | 6, x => rd6 S w cs x
    | 7, x => rd7 S w cs x
    | 8, x => rd8 S w cs x
    | 9, x => rd9 S w cs x
    | 10, x => rd10 S w cs x
    | 11, x => rd11 S w cs x
    | 12, x => rd12 S w cs x
    | _ + 13, x => RdIs.int S w cs x
  few := fun n => match n with
    | 0 => by decide
    | 1 => by decide
    | 2 => by decide
    | 3 => by decide
    | 4 => by decide
    | 5 => by decide
    | 6 => by decide
    | 7 => by decide
    | 8 => by decide
    | 9 => by decide
    | 10 => by decide
    | 11 => by decide
    | 12 => by decide
    | _ + 13 => by show 1 ≤ 48; decide
  mkh := fun n h => match n, h with
    | 0, h => rfl
    | 1, h => rfl
    | 2, h => rfl
    | 3, h => rfl
    | 4, h => rfl
    | 5, h => rfl
    | 6, h => rfl
    | 7, h => rfl
    | 8, h => rfl
    | 9, h => rfl
    | 10, h => rfl
    | 11, h => rfl
    | 12, h => rfl
    | _ + 13, h => rfl
theorem tyr3 : TyF Tryz.prog T 3 (.one (.int .i64)) := ⟨TyR.of Tryz.underlying3 rfl (by kernel_rfl), Tryz.underlying3⟩
theorem tyr4 : TyF Tryz.prog T 4 (.one .bool) := ⟨TyR.of Tryz.underlying4 rfl (by kernel_rfl), Tryz.underlying4⟩
theorem tyr22 : TyF Tryz.prog T 22 (.one (.sl 0)) := ⟨TyR.of Tryz.underlying22 rfl (by kernel_rfl), trivial⟩
theorem tyr23 : TyF Tryz.prog T 23 (.one (.sl 4)) := ⟨TyR.of Tryz.underlying23 rfl (by kernel_rfl), trivial⟩
theorem tyr24 : TyF Tryz.prog T 24 (.one (.sl 5)) := ⟨TyR.of Tryz.underlying24 rfl (by kernel_rfl), trivial⟩
theorem tyr25 : TyF Tryz.prog T 25 (.one (.sl 6)) := ⟨TyR.of Tryz.underlying25 rfl (by kernel_rfl), trivial⟩
theorem tyr27 : TyF Tryz.prog T 27 (.st 3) := ⟨TyR.of Tryz.underlying27 rfl (by kernel_rfl), trivial⟩
theorem tyr28 : TyF Tryz.prog T 28 (.one (.sl 1)) := ⟨TyR.of Tryz.underlying28 rfl (by kernel_rfl), trivial⟩
theorem tyr29 : TyF Tryz.prog T 29 (.one (.sl 8)) := ⟨TyR.of Tryz.underlying29 rfl (by kernel_rfl), trivial⟩
theorem tyr30 : TyF Tryz.prog T 30 (.one (.sl 9)) := ⟨TyR.of Tryz.underlying30 rfl (by kernel_rfl), trivial⟩
theorem tyr32 : TyF Tryz.prog T 32 (.st 7) := ⟨TyR.of Tryz.underlying32 rfl (by kernel_rfl), trivial⟩
theorem tyr34 : TyF Tryz.prog T 34 (.st 8) := ⟨TyR.of Tryz.underlying34 rfl (by kernel_rfl), trivial⟩
theorem tyr37 : TyF Tryz.prog T 37 (.ptr) := ⟨TyR.of Tryz.underlying37 rfl (by kernel_rfl), trivial⟩
theorem tyr61 : TyF Tryz.prog T 61 (.st 6) := ⟨TyR.of Tryz.underlying61 rfl (by kernel_rfl), trivial⟩
theorem tyr64 : TyF Tryz.prog T 64 (.st 12) := ⟨TyR.of Tryz.underlying64 rfl (by kernel_rfl), trivial⟩
theorem tyr67 : TyF Tryz.prog T 67 (.st 4) := ⟨TyR.of Tryz.underlying67 rfl (by kernel_rfl), trivial⟩
theorem tyr70 : TyF Tryz.prog T 70 (.st 9) := ⟨TyR.of Tryz.underlying70 rfl (by kernel_rfl), trivial⟩
theorem tyr75 : TyF Tryz.prog T 75 (.st 11) := ⟨TyR.of Tryz.underlying75 rfl (by kernel_rfl), trivial⟩
theorem tyr88 : TyF Tryz.prog T 88 (.one (.sl 11)) := ⟨TyR.of Tryz.underlying88 rfl (by kernel_rfl), trivial⟩
theorem tyr91 : TyF Tryz.prog T 91 (.st 5) := ⟨TyR.of Tryz.underlying91 rfl (by kernel_rfl), trivial⟩
theorem tyr119 : TyF Tryz.prog T 119 (.one (.sl 10)) := ⟨TyR.of Tryz.underlying119 rfl (by kernel_rfl), trivial⟩
theorem slr22 : Tryz.prog.underlying 22 = some (.slice 3) ∧ TyOk Tryz.prog 3 (D 0) := ⟨Tryz.underlying22, TyOk.of Tryz.underlying3 rfl (by kernel_rfl)⟩
theorem slr23 : Tryz.prog.underlying 23 = some (.slice 67) ∧ TyOk Tryz.prog 67 (D 4) := ⟨Tryz.underlying23, TyOk.of Tryz.underlying67 rfl (by kernel_rfl)⟩
theorem slr24 : Tryz.prog.underlying 24 = some (.slice 91) ∧ TyOk Tryz.prog 91 (D 5) := ⟨Tryz.underlying24, TyOk.of Tryz.underlying91 rfl (by kernel_rfl)⟩
theorem slr25 : Tryz.prog.underlying 25 = some (.slice 61) ∧ TyOk Tryz.prog 61 (D 6) := ⟨Tryz.underlying25, TyOk.of Tryz.underlying61 rfl (by kernel_rfl)⟩
theorem slr28 : Tryz.prog.underlying 28 = some (.slice 4) ∧ TyOk Tryz.prog 4 (D 1) := ⟨Tryz.underlying28, TyOk.of Tryz.underlying4 rfl (by kernel_rfl)⟩
theorem slr29 : Tryz.prog.underlying 29 = some (.slice 34) ∧ TyOk Tryz.prog 34 (D 8) := ⟨Tryz.underlying29, TyOk.of Tryz.underlying34 rfl (by kernel_rfl)⟩
theorem slr30 : Tryz.prog.underlying 30 = some (.slice 70) ∧ TyOk Tryz.prog 70 (D 9) := ⟨Tryz.underlying30, TyOk.of Tryz.underlying70 rfl (by kernel_rfl)⟩
theorem slr88 : Tryz.prog.underlying 88 = some (.slice 75) ∧ TyOk Tryz.prog 75 (D 11) := ⟨Tryz.underlying88, TyOk.of Tryz.underlying75 rfl (by kernel_rfl)⟩
theorem slr119 : Tryz.prog.underlying 119 = some (.slice 22) ∧ TyOk Tryz.prog 22 (D 10) := ⟨Tryz.underlying119, TyOk.of Tryz.underlying22 rfl (by kernel_rfl)⟩
theorem flr27 : StOk Tryz.prog 27 [(0, 1), (1, 1), (2, 1), (3, 1), (4, 1), (5, 1)] ∧ ∀ i off sz, [((0 : Nat), (1 : Nat)), ((1 : Nat), (1 : Nat)), ((2 : Nat), (1 : Nat)), ((3 : Nat), (1 : Nat)), ((4 : Nat), (1 : Nat)), ((5 : Nat), (1 : Nat))][i]? = some (off, sz) → FldAt Tryz.prog 27 i off := flds_ok ⟨_, Tryz.underlying27, by kernel_rfl⟩ rfl
theorem flr32 : StOk Tryz.prog 32 [(0, 1), (1, 1), (2, 1), (3, 1)] ∧ ∀ i off sz, [((0 : Nat), (1 : Nat)), ((1 : Nat), (1 : Nat)), ((2 : Nat), (1 : Nat)), ((3 : Nat), (1 : Nat))][i]? = some (off, sz) → FldAt Tryz.prog 32 i off := flds_ok ⟨_, Tryz.underlying32, by kernel_rfl⟩ rfl
theorem flr34 : StOk Tryz.prog 34 [(0, 1), (1, 1), (2, 1), (3, 1)] ∧ ∀ i off sz, [((0 : Nat), (1 : Nat)), ((1 : Nat), (1 : Nat)), ((2 : Nat), (1 : Nat)), ((3 : Nat), (1 : Nat))][i]? = some (off, sz) → FldAt Tryz.prog 34 i off := flds_ok ⟨_, Tryz.underlying34, by kernel_rfl⟩ rfl
theorem flr61 : StOk Tryz.prog 61 [(0, 1), (1, 1), (2, 1), (3, 1), (4, 1)] ∧ ∀ i off sz, [((0 : Nat), (1 : Nat)), ((1 : Nat), (1 : Nat)), ((2 : Nat), (1 : Nat)), ((3 : Nat), (1 : Nat)), ((4 : Nat), (1 : Nat))][i]? = some (off, sz) → FldAt Tryz.prog 61 i off := flds_ok ⟨_, Tryz.underlying61, by kernel_rfl⟩ rfl
theorem flr64 : StOk Tryz.prog 64 [(0, 1), (1, 1)] ∧ ∀ i off sz, [((0 : Nat), (1 : Nat)), ((1 : Nat), (1 : Nat))][i]? = some (off, sz) → FldAt Tryz.prog 64 i off := flds_ok ⟨_, Tryz.underlying64, by kernel_rfl⟩ rfl
theorem flr67 : StOk Tryz.prog 67 [(0, 1), (1, 1), (2, 1)] ∧ ∀ i off sz, [((0 : Nat), (1 : Nat)), ((1 : Nat), (1 : Nat)), ((2 : Nat), (1 : Nat))][i]? = some (off, sz) → FldAt Tryz.prog 67 i off := flds_ok ⟨_, Tryz.underlying67, by kernel_rfl⟩ rfl
theorem flr70 : StOk Tryz.prog 70 [(0, 1), (1, 1)] ∧ ∀ i off sz, [((0 : Nat), (1 : Nat)), ((1 : Nat), (1 : Nat))][i]? = some (off, sz) → FldAt Tryz.prog 70 i off := flds_ok ⟨_, Tryz.underlying70, by kernel_rfl⟩ rfl
theorem flr75 : StOk Tryz.prog 75 [(0, 1), (1, 1), (2, 1)] ∧ ∀ i off sz, [((0 : Nat), (1 : Nat)), ((1 : Nat), (1 : Nat)), ((2 : Nat), (1 : Nat))][i]? = some (off, sz) → FldAt Tryz.prog 75 i off := flds_ok ⟨_, Tryz.underlying75, by kernel_rfl⟩ rfl
theorem flr91 : StOk Tryz.prog 91 [(0, 1), (1, 1), (2, 1)] ∧ ∀ i off sz, [((0 : Nat), (1 : Nat)), ((1 : Nat), (1 : Nat)), ((2 : Nat), (1 : Nat))][i]? = some (off, sz) → FldAt Tryz.prog 91 i off := flds_ok ⟨_, Tryz.underlying91, by kernel_rfl⟩ rfl
theorem eql3 : EqL Tryz.prog 3 false [(.int .i64)] 1 := EqL.int Tryz.underlying3
theorem eql34 : EqL Tryz.prog 34 true [(.int .i64), (.int .i64), (.int .i64), (.int .i64)] 2 := by
  refine EqL.struct (k := 1) Tryz.underlying34 (by kernel_rfl) ?_
  exact ⟨by simp, rfl, false, [(.int .i64)], [(.int .i64), (.int .i64), (.int .i64)], [.int .i64 0], rfl, TyR.of Tryz.underlying3 rfl (by kernel_rfl), rfl, fun _ => rfl, eql3.up (by decide), ⟨by simp, rfl, false, [(.int .i64)], [(.int .i64), (.int .i64)], [.int .i64 0], rfl, TyR.of Tryz.underlying3 rfl (by kernel_rfl), rfl, fun _ => rfl, eql3.up (by decide), ⟨by simp, rfl, false, [(.int .i64)], [(.int .i64)], [.int .i64 0], rfl, TyR.of Tryz.underlying3 rfl (by kernel_rfl), rfl, fun _ => rfl, eql3.up (by decide), ⟨by simp, rfl, false, [(.int .i64)], [], [.int .i64 0], rfl, TyR.of Tryz.underlying3 rfl (by kernel_rfl), rfl, fun _ => rfl, eql3.up (by decide), rfl⟩⟩⟩⟩
theorem eqr34 : EqT Tryz.prog 34 [(.int .i64), (.int .i64), (.int .i64), (.int .i64)] ∧ ([(.int .i64), (.int .i64), (.int .i64), (.int .i64)] : List Lf).all flatL = true := ⟨⟨⟨2, by decide, eql34⟩, by kernel_rfl⟩, rfl⟩
theorem eql67 : EqL Tryz.prog 67 true [(.int .i64), (.int .i64), (.int .i64)] 2 := by
  refine EqL.struct (k := 1) Tryz.underlying67 (by kernel_rfl) ?_
  exact ⟨by simp, rfl, false, [(.int .i64)], [(.int .i64), (.int .i64)], [.int .i64 0], rfl, TyR.of Tryz.underlying3 rfl (by kernel_rfl), rfl, fun _ => rfl, eql3.up (by decide), ⟨by simp, rfl, false, [(.int .i64)], [(.int .i64)], [.int .i64 0], rfl, TyR.of Tryz.underlying3 rfl (by kernel_rfl), rfl, fun _ => rfl, eql3.up (by decide), ⟨by simp, rfl, false, [(.int .i64)], [], [.int .i64 0], rfl, TyR.of Tryz.underlying3 rfl (by kernel_rfl), rfl, fun _ => rfl, eql3.up (by decide), rfl⟩⟩⟩
theorem eqr67 : EqT Tryz.prog 67 [(.int .i64), (.int .i64), (.int .i64)] ∧ ([(.int .i64), (.int .i64), (.int .i64)] : List Lf).all flatL = true := ⟨⟨⟨2, by decide, eql67⟩, by kernel_rfl⟩, rfl⟩
theorem eql70 : EqL Tryz.prog 70 true [(.int .i64), (.int .i64)] 2 := by
  refine EqL.struct (k := 1) Tryz.underlying70 (by kernel_rfl) ?_
  exact ⟨by simp, rfl, false, [(.int .i64)], [(.int .i64)], [.int .i64 0], rfl, TyR.of Tryz.underlying3 rfl (by kernel_rfl), rfl, fun _ => rfl, eql3.up (by decide), ⟨by simp, rfl, false, [(.int .i64)], [], [.int .i64 0], rfl, TyR.of Tryz.underlying3 rfl (by kernel_rfl), rfl, fun _ => rfl, eql3.up (by decide), rfl⟩⟩
theorem eqr70 : EqT Tryz.prog 70 [(.int .i64), (.int .i64)] ∧ ([(.int .i64), (.int .i64)] : List Lf).all flatL = true := ⟨⟨⟨2, by decide, eql70⟩, by kernel_rfl⟩, rfl⟩
instance : Flat Breaker := ⟨fun h => Flat.any (α := Int × Int × Int) h⟩
instance : Flat Source := ⟨fun h => Flat.any (α := Int × Int × Int) h⟩
instance : Flat Running := ⟨fun h => Flat.any (α := Int × Int × Int × Int) h⟩
instance : Flat Part := ⟨fun h => Flat.any (α := Int × Int) h⟩
theorem flat0 : Flat (D 0) := (inferInstance : Flat Int)
theorem flat1 : Flat (D 1) := (inferInstance : Flat Bool)
theorem flat2 : Flat (D 2) := (inferInstance : Flat ByteArray)
theorem flat4 : Flat (D 4) := (inferInstance : Flat Breaker)
theorem flat5 : Flat (D 5) := (inferInstance : Flat Source)
theorem flat8 : Flat (D 8) := (inferInstance : Flat Running)
theorem flat9 : Flat (D 9) := (inferInstance : Flat Part)
theorem kdr10 : KidT Tryz.prog D 10 3 0 := ⟨(inferInstance : OneLevel (List Int)), (inferInstance : Flat Int), TyOk.of Tryz.underlying3 rfl (by kernel_rfl), rfl⟩
instance : OneLevel Island := ⟨fun h => OneLevel.loc (α := (List Int) × (List Int) × (List Int)) h⟩
theorem kdr11 : KidT Tryz.prog D 11 3 0 := ⟨(inferInstance : OneLevel Island), (inferInstance : Flat Int), TyOk.of Tryz.underlying3 rfl (by kernel_rfl), rfl⟩
theorem arr42 : ArrT Tryz.prog D 42 2 27 3 := ArrT.of Tryz.underlying42 (TyOk.of Tryz.underlying27 rfl (by kernel_rfl)) (by kernel_rfl)
theorem arr45 : ArrT Tryz.prog D 45 4 32 7 := ArrT.of Tryz.underlying45 (TyOk.of Tryz.underlying32 rfl (by kernel_rfl)) (by kernel_rfl)
theorem arr47 : ArrT Tryz.prog D 47 3 3 0 := ArrT.of Tryz.underlying47 (TyOk.of Tryz.underlying3 rfl (by kernel_rfl)) (by kernel_rfl)
theorem arr56 : ArrT Tryz.prog D 56 2 3 0 := ArrT.of Tryz.underlying56 (TyOk.of Tryz.underlying3 rfl (by kernel_rfl)) (by kernel_rfl)
theorem pOk : POk Tryz.prog T := POk.of (⟨tyr3, tyr4, tyr22, tyr23, tyr24, tyr25, tyr27, tyr28, tyr29, tyr30, tyr32, tyr34, tyr37, tyr61, tyr64, tyr67, tyr70, tyr75, tyr88, tyr91, tyr119, trivial⟩) (⟨slr22, slr23, slr24, slr25, slr28, slr29, slr30, slr88, slr119, trivial⟩) (⟨flr27, flr32, flr34, flr61, flr64, flr67, flr70, flr75, flr91, trivial⟩) (⟨eqr34, eqr67, eqr70, trivial⟩) (⟨kdr10, kdr11, trivial⟩) (⟨arr42, arr45, arr47, arr56, trivial⟩) (trivial)
theorem hmix : Tryz.prog.follows .mixedOrders = true := by kernel_rfl
def bodyOf (f : Func) : Code := match f.body with
  | some c => c
  | none => .skip
end Rx
end Go.Proofs.YtkohjagmjnpdnaaGreat
