/- Types: structures, how they lie in memory. Written by a program (wip/gen). -/
import Derived.Test.YtjkdckacgdkbbaaRp
import Derived.Test.YtjkdckacgdkbbaaProg
import Derived.KernelRfl
set_option linter.unusedVariables false
namespace Go.Proofs.Ytjkdckacgdkbbaa
open Go Go.RowKit Dp
namespace Rx

structure Breaker where
  Kind : Int
  A : Int
  B : Int
def Breaker_to (x : Breaker) : Int × Int × Int := (x.Kind, x.A, x.B)
instance : Rep Breaker := Rep.via Breaker_to ⟨Rep.zero, Rep.zero, Rep.zero⟩ rfl
structure Source where
  Rating : Int
  Least : Int
  Start : Int
def Source_to (x : Source) : Int × Int × Int := (x.Rating, x.Least, x.Start)
instance : Rep Source := Rep.via Source_to ⟨Rep.zero, Rep.zero, Rep.zero⟩ rfl
structure Consumer where
  Load : Int
  Least : Int
  Preference : Int
  Thruster : Int
  Needs : (List Int)
def Consumer_to (x : Consumer) : Int × Int × Int × Int × (List Int) := (x.Load, x.Least, x.Preference, x.Thruster, x.Needs)
instance : Rep Consumer := Rep.via Consumer_to ⟨Rep.zero, Rep.zero, Rep.zero, Rep.zero, Rep.zero⟩ rfl
structure Board where
  Buses : Int
  Breakers : (List Breaker)
  Sources : (List Source)
  Consumers : (List Consumer)
  Phase : Int
  Frequency : Int
def Board_to (x : Board) : Int × (List Breaker) × (List Source) × (List Consumer) × Int × Int := (x.Buses, x.Breakers, x.Sources, x.Consumers, x.Phase, x.Frequency)
instance : Rep Board := Rep.via Board_to ⟨Rep.zero, Rep.zero, Rep.zero, Rep.zero, Rep.zero, Rep.zero⟩ rfl
structure Running where
  State : Int
  Since : Int
  Frequency : Int
  Phase : Int
def Running_to (x : Running) : Int × Int × Int × Int := (x.State, x.Since, x.Frequency, x.Phase)
instance : Rep Running := Rep.via Running_to ⟨Rep.zero, Rep.zero, Rep.zero, Rep.zero⟩ rfl
structure Part where
  Kind : Int
  Number : Int
def Part_to (x : Part) : Int × Int := (x.Kind, x.Number)
instance : Rep Part := Rep.via Part_to ⟨Rep.zero, Rep.zero⟩ rfl
structure Power where
  Closed : (List Bool)
  Sources : (List Running)
  Limits : (List Int)
  Broken : (List Part)
def Power_to (x : Power) : (List Bool) × (List Running) × (List Int) × (List Part) := (x.Closed, x.Sources, x.Limits, x.Broken)
instance : Rep Power := Rep.via Power_to ⟨Rep.zero, Rep.zero, Rep.zero, Rep.zero⟩ rfl
structure Src where
  L : (List Int)
  At : Int
def Src_to (x : Src) : (List Int) × Int := (x.L, x.At)
instance : Rep Src := Rep.via Src_to ⟨Rep.zero, Rep.zero⟩ rfl
structure Island where
  Buses : (List Int)
  Sources : (List Int)
  Consumers : (List Int)
def Island_to (x : Island) : (List Int) × (List Int) × (List Int) := (x.Buses, x.Sources, x.Consumers)
instance : Rep Island := Rep.via Island_to ⟨Rep.zero, Rep.zero, Rep.zero⟩ rfl
@[reducible] def D (n : Nat) : Type := match n with
  | 0 => Int
  | 1 => Bool
  | 2 => ByteArray
  | 3 => Board
  | 4 => Breaker
  | 5 => Source
  | 6 => Consumer
  | 7 => Power
  | 8 => Running
  | 9 => Part
  | 10 => (List Int)
  | 11 => Src
  | 12 => Island
  | _ => Int
instance repD (n : Nat) : Rep (D n) := match n with
  | 0 => inferInstanceAs (Rep Int)
  | 1 => inferInstanceAs (Rep Bool)
  | 2 => inferInstanceAs (Rep ByteArray)
  | 3 => inferInstanceAs (Rep Board)
  | 4 => inferInstanceAs (Rep Breaker)
  | 5 => inferInstanceAs (Rep Source)
  | 6 => inferInstanceAs (Rep Consumer)
  | 7 => inferInstanceAs (Rep Power)
  | 8 => inferInstanceAs (Rep Running)
  | 9 => inferInstanceAs (Rep Part)
  | 10 => inferInstanceAs (Rep (List Int))
  | 11 => inferInstanceAs (Rep Src)
  | 12 => inferInstanceAs (Rep Island)
  | _ + 13 => inferInstanceAs (Rep Int)
def tabLv (n : Nat) : List Lf := match n with
  | 0 => [(.int .i64)]
  | 1 => [.bool]
  | 2 => [.str]
  | 3 => [(.int .i64), (.sl 4), (.sl 5), (.sl 6), (.int .i64), (.int .i64)]
  | 4 => [(.int .i64), (.int .i64), (.int .i64)]
  | 5 => [(.int .i64), (.int .i64), (.int .i64)]
  | 6 => [(.int .i64), (.int .i64), (.int .i64), (.int .i64), (.sl 0)]
  | 7 => [(.sl 1), (.sl 8), (.sl 0), (.sl 9)]
  | 8 => [(.int .i64), (.int .i64), (.int .i64), (.int .i64)]
  | 9 => [(.int .i64), (.int .i64)]
  | 10 => [(.sl 0)]
  | 11 => [(.sl 0), (.int .i64)]
  | 12 => [(.sl 0), (.sl 0), (.sl 0)]
  | _ => [.int .i64]
def tabAg (n : Nat) : Bool := match n with
  | 0 => false
  | 1 => false
  | 2 => false
  | 3 => true
  | 4 => true
  | 5 => true
  | 6 => true
  | 7 => true
  | 8 => true
  | 9 => true
  | 10 => false
  | 11 => true
  | 12 => true
  | _ => false
def tabOut : ∀ n : Nat, D n → HL D (tabLv n)
  | 0 => fun x => x
  | 1 => fun x => x
  | 2 => fun x => x
  | 3 => fun x => (x.Buses, x.Breakers, x.Sources, x.Consumers, x.Phase, x.Frequency)
  | 4 => fun x => (x.Kind, x.A, x.B)
  | 5 => fun x => (x.Rating, x.Least, x.Start)
  | 6 => fun x => (x.Load, x.Least, x.Preference, x.Thruster, x.Needs)
  | 7 => fun x => (x.Closed, x.Sources, x.Limits, x.Broken)
  | 8 => fun x => (x.State, x.Since, x.Frequency, x.Phase)
  | 9 => fun x => (x.Kind, x.Number)
  | 10 => fun x => x
  | 11 => fun x => (x.L, x.At)
  | 12 => fun x => (x.Buses, x.Sources, x.Consumers)
  | _ + 13 => fun x => x
def tabMk : ∀ n : Nat, HL D (tabLv n) → D n
  | 0 => fun h => h
  | 1 => fun h => h
  | 2 => fun h => h
  | 3 => fun h => ⟨h.1, h.2.1, h.2.2.1, h.2.2.2.1, h.2.2.2.2.1, h.2.2.2.2.2⟩
  | 4 => fun h => ⟨h.1, h.2.1, h.2.2⟩
  | 5 => fun h => ⟨h.1, h.2.1, h.2.2⟩
  | 6 => fun h => ⟨h.1, h.2.1, h.2.2.1, h.2.2.2.1, h.2.2.2.2⟩
  | 7 => fun h => ⟨h.1, h.2.1, h.2.2.1, h.2.2.2⟩
  | 8 => fun h => ⟨h.1, h.2.1, h.2.2.1, h.2.2.2⟩
  | 9 => fun h => ⟨h.1, h.2⟩
  | 10 => fun h => h
  | 11 => fun h => ⟨h.1, h.2⟩
  | 12 => fun h => ⟨h.1, h.2.1, h.2.2⟩
  | _ + 13 => fun h => h
def tabZero : ∀ n : Nat, D n
  | 0 => (0 : Int)
  | 1 => false
  | 2 => ByteArray.empty
  | 3 => (⟨(0 : Int), [], [], [], (0 : Int), (0 : Int)⟩ : Board)
  | 4 => (⟨(0 : Int), (0 : Int), (0 : Int)⟩ : Breaker)
  | 5 => (⟨(0 : Int), (0 : Int), (0 : Int)⟩ : Source)
  | 6 => (⟨(0 : Int), (0 : Int), (0 : Int), (0 : Int), []⟩ : Consumer)
  | 7 => (⟨[], [], [], []⟩ : Power)
  | 8 => (⟨(0 : Int), (0 : Int), (0 : Int), (0 : Int)⟩ : Running)
  | 9 => (⟨(0 : Int), (0 : Int)⟩ : Part)
  | 10 => ([] : (List Int))
  | 11 => (⟨[], (0 : Int)⟩ : Src)
  | 12 => (⟨[], [], []⟩ : Island)
  | _ + 13 => (0 : Int)
def T : Tab D where
  lv := tabLv
  ag := tabAg
  outH := tabOut
  mkH := tabMk
  zero := tabZero
  ty := [(3, .one (.int .i64)), (4, .one .bool), (22, .one (.sl 0)), (23, .one (.sl 4)), (24, .one (.sl 5)), (25, .one (.sl 6)), (27, .st 3), (28, .one (.sl 1)), (29, .one (.sl 8)), (30, .one (.sl 9)), (32, .st 7), (35, .ptr), (40, .fn), (57, .st 6), (59, .st 11), (63, .st 4), (65, .st 5), (67, .st 8), (69, .st 9), (75, .one (.sl 12)), (78, .st 12), (108, .one (.sl 10))]
  fld := [(27, [(0, 1), (1, 1), (2, 1), (3, 1), (4, 1), (5, 1)]), (32, [(0, 1), (1, 1), (2, 1), (3, 1)]), (57, [(0, 1), (1, 1), (2, 1), (3, 1), (4, 1)]), (59, [(0, 1), (1, 1)]), (63, [(0, 1), (1, 1), (2, 1)]), (65, [(0, 1), (1, 1), (2, 1)]), (67, [(0, 1), (1, 1), (2, 1), (3, 1)]), (69, [(0, 1), (1, 1)]), (78, [(0, 1), (1, 1), (2, 1)])]
  els := [(22, 3, 0), (23, 63, 4), (24, 65, 5), (25, 57, 6), (28, 4, 1), (29, 67, 8), (30, 69, 9), (75, 78, 12), (108, 22, 10)]
  eqs := [(63, [(.int .i64), (.int .i64), (.int .i64)])]
  kd := [(10, 3, 0), (12, 3, 0)]
  ars := [(42, 3, 3, 0), (43, 3, 22, 10), (49, 2, 27, 3), (51, 3, 32, 7)]
  pre := []
  mps := []
theorem rd4 : RdIs D Breaker (fun x => [⟨(.int .i64), x.Kind⟩, ⟨(.int .i64), x.A⟩, ⟨(.int .i64), x.B⟩]) := fun S w cs x => (RdIs.prod RdIs.int (RdIs.prod RdIs.int (RdIs.int)) : RdIs D (Int × Int × Int) _) S w cs (Breaker_to x)
theorem rd5 : RdIs D Source (fun x => [⟨(.int .i64), x.Rating⟩, ⟨(.int .i64), x.Least⟩, ⟨(.int .i64), x.Start⟩]) := fun S w cs x => (RdIs.prod RdIs.int (RdIs.prod RdIs.int (RdIs.int)) : RdIs D (Int × Int × Int) _) S w cs (Source_to x)
theorem rd6 : RdIs D Consumer (fun x => [⟨(.int .i64), x.Load⟩, ⟨(.int .i64), x.Least⟩, ⟨(.int .i64), x.Preference⟩, ⟨(.int .i64), x.Thruster⟩, ⟨(.sl 0), x.Needs⟩]) := fun S w cs x => (RdIs.prod RdIs.int (RdIs.prod RdIs.int (RdIs.prod RdIs.int (RdIs.prod RdIs.int ((RdIs.sl 0))))) : RdIs D (Int × Int × Int × Int × (List Int)) _) S w cs (Consumer_to x)
theorem rd3 : RdIs D Board (fun x => [⟨(.int .i64), x.Buses⟩, ⟨(.sl 4), x.Breakers⟩, ⟨(.sl 5), x.Sources⟩, ⟨(.sl 6), x.Consumers⟩, ⟨(.int .i64), x.Phase⟩, ⟨(.int .i64), x.Frequency⟩]) := fun S w cs x => (RdIs.prod RdIs.int (RdIs.prod (RdIs.sl 4) (RdIs.prod (RdIs.sl 5) (RdIs.prod (RdIs.sl 6) (RdIs.prod RdIs.int (RdIs.int))))) : RdIs D (Int × (List Breaker) × (List Source) × (List Consumer) × Int × Int) _) S w cs (Board_to x)
theorem rd8 : RdIs D Running (fun x => [⟨(.int .i64), x.State⟩, ⟨(.int .i64), x.Since⟩, ⟨(.int .i64), x.Frequency⟩, ⟨(.int .i64), x.Phase⟩]) := fun S w cs x => (RdIs.prod RdIs.int (RdIs.prod RdIs.int (RdIs.prod RdIs.int (RdIs.int))) : RdIs D (Int × Int × Int × Int) _) S w cs (Running_to x)
theorem rd9 : RdIs D Part (fun x => [⟨(.int .i64), x.Kind⟩, ⟨(.int .i64), x.Number⟩]) := fun S w cs x => (RdIs.prod RdIs.int (RdIs.int) : RdIs D (Int × Int) _) S w cs (Part_to x)
theorem rd7 : RdIs D Power (fun x => [⟨(.sl 1), x.Closed⟩, ⟨(.sl 8), x.Sources⟩, ⟨(.sl 0), x.Limits⟩, ⟨(.sl 9), x.Broken⟩]) := fun S w cs x => (RdIs.prod (RdIs.sl 1) (RdIs.prod (RdIs.sl 8) (RdIs.prod (RdIs.sl 0) ((RdIs.sl 9)))) : RdIs D ((List Bool) × (List Running) × (List Int) × (List Part)) _) S w cs (Power_to x)
theorem rd11 : RdIs D Src (fun x => [⟨(.sl 0), x.L⟩, ⟨(.int .i64), x.At⟩]) := fun S w cs x => (RdIs.prod (RdIs.sl 0) (RdIs.int) : RdIs D ((List Int) × Int) _) S w cs (Src_to x)
theorem rd12 : RdIs D Island (fun x => [⟨(.sl 0), x.Buses⟩, ⟨(.sl 0), x.Sources⟩, ⟨(.sl 0), x.Consumers⟩]) := fun S w cs x => (RdIs.prod (RdIs.sl 0) (RdIs.prod (RdIs.sl 0) ((RdIs.sl 0))) : RdIs D ((List Int) × (List Int) × (List Int)) _) S w cs (Island_to x)
theorem rd10 : RdIs D (List Int) (fun x => [⟨.sl 0, x⟩]) := RdIs.sl 0
theorem repOk : RepOk T where
  sz := fun n => match n with
    | 0 => rfl
    | 1 => rfl
    | 2 => rfl
    | 3 => rfl
    | 4 => rfl
    | 5 => rfl
    | 6 => rfl
    | 7 => rfl
    | 8 => rfl
    | 9 => rfl
    | 10 => rfl
    | 11 => rfl
    | 12 => rfl
    | _ + 13 => rfl
  ag := fun n => match n with
    | 0 => rfl
    | 1 => rfl
    | 2 => rfl
    | 3 => rfl
    | 4 => rfl
    | 5 => rfl
    | 6 => rfl
    | 7 => rfl
    | 8 => rfl
    | 9 => rfl
    | 10 => rfl
    | 11 => rfl
    | 12 => rfl
    | _ + 13 => rfl
  zc := fun n => match n with
    | 0 => rfl
    | 1 => rfl
    | 2 => rfl
    | 3 => rfl
    | 4 => rfl
    | 5 => rfl
    | 6 => rfl
    | 7 => rfl
    | 8 => rfl
    | 9 => rfl
    | 10 => rfl
    | 11 => rfl
    | 12 => rfl
    | _ + 13 => rfl
  zero := fun n => match n with
    | 0 => rfl
    | 1 => rfl
    | 2 => rfl
    | 3 => rfl
    | 4 => rfl
    | 5 => rfl
    | 6 => rfl
    | 7 => rfl
    | 8 => rfl
    | 9 => rfl
    | 10 => rfl
    | 11 => rfl
    | 12 => rfl
    | _ + 13 => rfl
  rd := fun n S w cs x => match n, x with
    | 0, x => RdIs.int S w cs x
    | 1, x => RdIs.bool S w cs x
    | 2, x => RdIs.str S w cs x
    | 3, x => rd3 S w cs x
    | 4, x => rd4 S w cs x
    | 5, x => rd5 S w cs x
    | 6, x => rd6 S w cs x
    | 7, x => rd7 S w cs x
    | 8, x => rd8 S w cs x
    | 9, x => rd9 S w cs x
    | 10, x => rd10 S w cs x
    | 11, x => rd11 S w cs x
    | 12, x => rd12 S w cs x
    | _ + 13, x => RdIs.int S w cs x
  few := fun n => match n with
    | 0 => by decide
    | 1 => by decide
    | 2 => by decide
    | 3 => by decide
    | 4 => by decide
    | 5 => by decide
    | 6 => by decide
    | 7 => by decide
    | 8 => by decide
    | 9 => by decide
    | 10 => by decide
    | 11 => by decide
    | 12 => by decide
    | _ + 13 => by show 1 ≤ 48; decide
  mkh := fun n h => match n, h with
    | 0, h => rfl
    | 1, h => rfl
    | 2, h => rfl
    | 3, h => rfl
    | 4, h => rfl
    | 5, h => rfl
    | 6, h => rfl
    | 7, h => rfl
    | 8, h => rfl
    | 9, h => rfl
    | 10, h => rfl
    | 11, h => rfl
    | 12, h => rfl
    | _ + 13, h => rfl
theorem tyr3 : TyF Try.prog T 3 (.one (.int .i64)) := ⟨TyR.of Try.underlying3 rfl (by kernel_rfl), Try.underlying3⟩
theorem tyr4 : TyF Try.prog T 4 (.one .bool) := ⟨TyR.of Try.underlying4 rfl (by kernel_rfl), Try.underlying4⟩
theorem tyr22 : TyF Try.prog T 22 (.one (.sl 0)) := ⟨TyR.of Try.underlying22 rfl (by kernel_rfl), trivial⟩
theorem tyr23 : TyF Try.prog T 23 (.one (.sl 4)) := ⟨TyR.of Try.underlying23 rfl (by kernel_rfl), trivial⟩
theorem tyr24 : TyF Try.prog T 24 (.one (.sl 5)) := ⟨TyR.of Try.underlying24 rfl (by kernel_rfl), trivial⟩
theorem tyr25 : TyF Try.prog T 25 (.one (.sl 6)) := ⟨TyR.of Try.underlying25 rfl (by kernel_rfl), trivial⟩
theorem tyr27 : TyF Try.prog T 27 (.st 3) := ⟨TyR.of Try.underlying27 rfl (by kernel_rfl), trivial⟩
theorem tyr28 : TyF Try.prog T 28 (.one (.sl 1)) := ⟨TyR.of Try.underlying28 rfl (by kernel_rfl), trivial⟩
theorem tyr29 : TyF Try.prog T 29 (.one (.sl 8)) := ⟨TyR.of Try.underlying29 rfl (by kernel_rfl), trivial⟩
theorem tyr30 : TyF Try.prog T 30 (.one (.sl 9)) := ⟨TyR.of Try.underlying30 rfl (by kernel_rfl), trivial⟩
theorem tyr32 : TyF Try.prog T 32 (.st 7) := ⟨TyR.of Try.underlying32 rfl (by kernel_rfl), trivial⟩
theorem tyr35 : TyF Try.prog T 35 (.ptr) := ⟨TyR.of Try.underlying35 rfl (by kernel_rfl), trivial⟩
theorem tyr40 : TyF Try.prog T 40 (.fn) := ⟨TyR.of Try.underlying40 rfl (by kernel_rfl), trivial⟩
theorem tyr57 : TyF Try.prog T 57 (.st 6) := ⟨TyR.of Try.underlying57 rfl (by kernel_rfl), trivial⟩
theorem tyr59 : TyF Try.prog T 59 (.st 11) := ⟨TyR.of Try.underlying59 rfl (by kernel_rfl), trivial⟩
theorem tyr63 : TyF Try.prog T 63 (.st 4) := ⟨TyR.of Try.underlying63 rfl (by kernel_rfl), trivial⟩
theorem tyr65 : TyF Try.prog T 65 (.st 5) := ⟨TyR.of Try.underlying65 rfl (by kernel_rfl), trivial⟩
theorem tyr67 : TyF Try.prog T 67 (.st 8) := ⟨TyR.of Try.underlying67 rfl (by kernel_rfl), trivial⟩
theorem tyr69 : TyF Try.prog T 69 (.st 9) := ⟨TyR.of Try.underlying69 rfl (by kernel_rfl), trivial⟩
theorem tyr75 : TyF Try.prog T 75 (.one (.sl 12)) := ⟨TyR.of Try.underlying75 rfl (by kernel_rfl), trivial⟩
theorem tyr78 : TyF Try.prog T 78 (.st 12) := ⟨TyR.of Try.underlying78 rfl (by kernel_rfl), trivial⟩
theorem tyr108 : TyF Try.prog T 108 (.one (.sl 10)) := ⟨TyR.of Try.underlying108 rfl (by kernel_rfl), trivial⟩
theorem slr22 : Try.prog.underlying 22 = some (.slice 3) ∧ TyOk Try.prog 3 (D 0) := ⟨Try.underlying22, TyOk.of Try.underlying3 rfl (by kernel_rfl)⟩
theorem slr23 : Try.prog.underlying 23 = some (.slice 63) ∧ TyOk Try.prog 63 (D 4) := ⟨Try.underlying23, TyOk.of Try.underlying63 rfl (by kernel_rfl)⟩
theorem slr24 : Try.prog.underlying 24 = some (.slice 65) ∧ TyOk Try.prog 65 (D 5) := ⟨Try.underlying24, TyOk.of Try.underlying65 rfl (by kernel_rfl)⟩
theorem slr25 : Try.prog.underlying 25 = some (.slice 57) ∧ TyOk Try.prog 57 (D 6) := ⟨Try.underlying25, TyOk.of Try.underlying57 rfl (by kernel_rfl)⟩
theorem slr28 : Try.prog.underlying 28 = some (.slice 4) ∧ TyOk Try.prog 4 (D 1) := ⟨Try.underlying28, TyOk.of Try.underlying4 rfl (by kernel_rfl)⟩
theorem slr29 : Try.prog.underlying 29 = some (.slice 67) ∧ TyOk Try.prog 67 (D 8) := ⟨Try.underlying29, TyOk.of Try.underlying67 rfl (by kernel_rfl)⟩
theorem slr30 : Try.prog.underlying 30 = some (.slice 69) ∧ TyOk Try.prog 69 (D 9) := ⟨Try.underlying30, TyOk.of Try.underlying69 rfl (by kernel_rfl)⟩
theorem slr75 : Try.prog.underlying 75 = some (.slice 78) ∧ TyOk Try.prog 78 (D 12) := ⟨Try.underlying75, TyOk.of Try.underlying78 rfl (by kernel_rfl)⟩
theorem slr108 : Try.prog.underlying 108 = some (.slice 22) ∧ TyOk Try.prog 22 (D 10) := ⟨Try.underlying108, TyOk.of Try.underlying22 rfl (by kernel_rfl)⟩
theorem flr27 : StOk Try.prog 27 [(0, 1), (1, 1), (2, 1), (3, 1), (4, 1), (5, 1)] ∧ ∀ i off sz, [((0 : Nat), (1 : Nat)), ((1 : Nat), (1 : Nat)), ((2 : Nat), (1 : Nat)), ((3 : Nat), (1 : Nat)), ((4 : Nat), (1 : Nat)), ((5 : Nat), (1 : Nat))][i]? = some (off, sz) → FldAt Try.prog 27 i off := flds_ok ⟨_, Try.underlying27, by kernel_rfl⟩ rfl
theorem flr32 : StOk Try.prog 32 [(0, 1), (1, 1), (2, 1), (3, 1)] ∧ ∀ i off sz, [((0 : Nat), (1 : Nat)), ((1 : Nat), (1 : Nat)), ((2 : Nat), (1 : Nat)), ((3 : Nat), (1 : Nat))][i]? = some (off, sz) → FldAt Try.prog 32 i off := flds_ok ⟨_, Try.underlying32, by kernel_rfl⟩ rfl
theorem flr57 : StOk Try.prog 57 [(0, 1), (1, 1), (2, 1), (3, 1), (4, 1)] ∧ ∀ i off sz, [((0 : Nat), (1 : Nat)), ((1 : Nat), (1 : Nat)), ((2 : Nat), (1 : Nat)), ((3 : Nat), (1 : Nat)), ((4 : Nat), (1 : Nat))][i]? = some (off, sz) → FldAt Try.prog 57 i off := flds_ok ⟨_, Try.underlying57, by kernel_rfl⟩ rfl
theorem flr59 : StOk Try.prog 59 [(0, 1), (1, 1)] ∧ ∀ i off sz, [((0 : Nat), (1 : Nat)), ((1 : Nat), (1 : Nat))][i]? = some (off, sz) → FldAt Try.prog 59 i off := flds_ok ⟨_, Try.underlying59, by kernel_rfl⟩ rfl
theorem flr63 : StOk Try.prog 63 [(0, 1), (1, 1), (2, 1)] ∧ ∀ i off sz, [((0 : Nat), (1 : Nat)), ((1 : Nat), (1 : Nat)), ((2 : Nat), (1 : Nat))][i]? = some (off, sz) → FldAt Try.prog 63 i off := flds_ok ⟨_, Try.underlying63, by kernel_rfl⟩ rfl
theorem flr65 : StOk Try.prog 65 [(0, 1), (1, 1), (2, 1)] ∧ ∀ i off sz, [((0 : Nat), (1 : Nat)), ((1 : Nat), (1 : Nat)), ((2 : Nat), (1 : Nat))][i]? = some (off, sz) → FldAt Try.prog 65 i off := flds_ok ⟨_, Try.underlying65, by kernel_rfl⟩ rfl
theorem flr67 : StOk Try.prog 67 [(0, 1), (1, 1), (2, 1), (3, 1)] ∧ ∀ i off sz, [((0 : Nat), (1 : Nat)), ((1 : Nat), (1 : Nat)), ((2 : Nat), (1 : Nat)), ((3 : Nat), (1 : Nat))][i]? = some (off, sz) → FldAt Try.prog 67 i off := flds_ok ⟨_, Try.underlying67, by kernel_rfl⟩ rfl
theorem flr69 : StOk Try.prog 69 [(0, 1), (1, 1)] ∧ ∀ i off sz, [((0 : Nat), (1 : Nat)), ((1 : Nat), (1 : Nat))][i]? = some (off, sz) → FldAt Try.prog 69 i off := flds_ok ⟨_, Try.underlying69, by kernel_rfl⟩ rfl
theorem flr78 : StOk Try.prog 78 [(0, 1), (1, 1), (2, 1)] ∧ ∀ i off sz, [((0 : Nat), (1 : Nat)), ((1 : Nat), (1 : Nat)), ((2 : Nat), (1 : Nat))][i]? = some (off, sz) → FldAt Try.prog 78 i off := flds_ok ⟨_, Try.underlying78, by kernel_rfl⟩ rfl
theorem eql3 : EqL Try.prog 3 false [(.int .i64)] 1 := EqL.int Try.underlying3
theorem eql63 : EqL Try.prog 63 true [(.int .i64), (.int .i64), (.int .i64)] 2 := by
  refine EqL.struct (k := 1) Try.underlying63 (by kernel_rfl) ?_
  exact ⟨by simp, rfl, false, [(.int .i64)], [(.int .i64), (.int .i64)], [.int .i64 0], rfl, TyR.of Try.underlying3 rfl (by kernel_rfl), rfl, fun _ => rfl, eql3.up (by decide), ⟨by simp, rfl, false, [(.int .i64)], [(.int .i64)], [.int .i64 0], rfl, TyR.of Try.underlying3 rfl (by kernel_rfl), rfl, fun _ => rfl, eql3.up (by decide), ⟨by simp, rfl, false, [(.int .i64)], [], [.int .i64 0], rfl, TyR.of Try.underlying3 rfl (by kernel_rfl), rfl, fun _ => rfl, eql3.up (by decide), rfl⟩⟩⟩
theorem eqr63 : EqT Try.prog 63 [(.int .i64), (.int .i64), (.int .i64)] ∧ ([(.int .i64), (.int .i64), (.int .i64)] : List Lf).all flatL = true := ⟨⟨⟨2, by decide, eql63⟩, by kernel_rfl⟩, rfl⟩
instance : Flat Breaker := ⟨fun h => Flat.any (α := Int × Int × Int) h⟩
instance : Flat Source := ⟨fun h => Flat.any (α := Int × Int × Int) h⟩
instance : Flat Running := ⟨fun h => Flat.any (α := Int × Int × Int × Int) h⟩
instance : Flat Part := ⟨fun h => Flat.any (α := Int × Int) h⟩
theorem flat0 : Flat (D 0) := (inferInstance : Flat Int)
theorem flat1 : Flat (D 1) := (inferInstance : Flat Bool)
theorem flat2 : Flat (D 2) := (inferInstance : Flat ByteArray)
theorem flat4 : Flat (D 4) := (inferInstance : Flat Breaker)
theorem flat5 : Flat (D 5) := (inferInstance : Flat Source)
theorem flat8 : Flat (D 8) := (inferInstance : Flat Running)
theorem flat9 : Flat (D 9) := (inferInstance : Flat Part)
theorem kdr10 : KidT Try.prog D 10 3 0 := ⟨(inferInstance : OneLevel (List Int)), (inferInstance : Flat Int), TyOk.of Try.underlying3 rfl (by kernel_rfl), rfl⟩
instance : OneLevel Island := ⟨fun h => OneLevel.loc (α := (List Int) × (List Int) × (List Int)) h⟩
theorem kdr12 : KidT Try.prog D 12 3 0 := ⟨(inferInstance : OneLevel Island), (inferInstance : Flat Int), TyOk.of Try.underlying3 rfl (by kernel_rfl), rfl⟩
theorem arr42 : ArrT Try.prog D 42 3 3 0 := ArrT.of Try.underlying42 (TyOk.of Try.underlying3 rfl (by kernel_rfl)) (by kernel_rfl)
theorem arr43 : ArrT Try.prog D 43 3 22 10 := ArrT.of Try.underlying43 (TyOk.of Try.underlying22 rfl (by kernel_rfl)) (by kernel_rfl)
theorem arr49 : ArrT Try.prog D 49 2 27 3 := ArrT.of Try.underlying49 (TyOk.of Try.underlying27 rfl (by kernel_rfl)) (by kernel_rfl)
theorem arr51 : ArrT Try.prog D 51 3 32 7 := ArrT.of Try.underlying51 (TyOk.of Try.underlying32 rfl (by kernel_rfl)) (by kernel_rfl)
theorem pOk : POk Try.prog T := POk.of (⟨tyr3, tyr4, tyr22, tyr23, tyr24, tyr25, tyr27, tyr28, tyr29, tyr30, tyr32, tyr35, tyr40, tyr57, tyr59, tyr63, tyr65, tyr67, tyr69, tyr75, tyr78, tyr108, trivial⟩) (⟨slr22, slr23, slr24, slr25, slr28, slr29, slr30, slr75, slr108, trivial⟩) (⟨flr27, flr32, flr57, flr59, flr63, flr65, flr67, flr69, flr78, trivial⟩) (⟨eqr63, trivial⟩) (⟨kdr10, kdr12, trivial⟩) (⟨arr42, arr43, arr49, arr51, trivial⟩) (trivial)
theorem hmix : Try.prog.follows .mixedOrders = true := by kernel_rfl
def bodyOf (f : Func) : Code := match f.body with
  | some c => c
  | none => .skip
end Rx
end Go.Proofs.Ytjkdckacgdkbbaa
