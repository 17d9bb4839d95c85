/- Types: structures, how they lie in memory. Written by a program (wip/gen). -/
import Derived.Test.YtkcjbcmpnoaghaaRp
import Derived.Test.YtkcjbcmpnoaghaaProg
import Derived.KernelRfl
set_option linter.unusedVariables false
namespace Go.Proofs.Ytkcjbcmpnoaghaa
open Go Go.RowKit Dp
namespace Rx

structure Src where
  L : (List Int)
  At : Int
def Src_to (x : Src) : (List Int) × Int := (x.L, x.At)
instance : Rep Src := Rep.via Src_to ⟨Rep.zero, Rep.zero⟩ rfl
structure Breaker where
  Kind : Int
  A : Int
  B : Int
def Breaker_to (x : Breaker) : Int × Int × Int := (x.Kind, x.A, x.B)
instance : Rep Breaker := Rep.via Breaker_to ⟨Rep.zero, Rep.zero, Rep.zero⟩ rfl
structure Source where
  Rating : Int
  Least : Int
  Start : Int
def Source_to (x : Source) : Int × Int × Int := (x.Rating, x.Least, x.Start)
instance : Rep Source := Rep.via Source_to ⟨Rep.zero, Rep.zero, Rep.zero⟩ rfl
structure Consumer where
  Load : Int
  Least : Int
  Preference : Int
  Thruster : Int
  Needs : (List Int)
def Consumer_to (x : Consumer) : Int × Int × Int × Int × (List Int) := (x.Load, x.Least, x.Preference, x.Thruster, x.Needs)
instance : Rep Consumer := Rep.via Consumer_to ⟨Rep.zero, Rep.zero, Rep.zero, Rep.zero, Rep.zero⟩ rfl
structure Board where
  Buses : Int
  Breakers : (List Breaker)
  Sources : (List Source)
  Consumers : (List Consumer)
  Phase : Int
  Frequency : Int
def Board_to (x : Board) : Int × (List Breaker) × (List Source) × (List Consumer) × Int × Int := (x.Buses, x.Breakers, x.Sources, x.Consumers, x.Phase, x.Frequency)
instance : Rep Board := Rep.via Board_to ⟨Rep.zero, Rep.zero, Rep.zero, Rep.zero, Rep.zero, Rep.zero⟩ rfl
structure Table where
  Start : Int
  Stop : Int
  Delay : Int
def Table_to (x : Table) : Int × Int × Int := (x.Start, x.Stop, x.Delay)
instance : Rep Table := Rep.via Table_to ⟨Rep.zero, Rep.zero, Rep.zero⟩ rfl
structure Running where
  State : Int
  Since : Int
  Frequency : Int
  Phase : Int
def Running_to (x : Running) : Int × Int × Int × Int := (x.State, x.Since, x.Frequency, x.Phase)
instance : Rep Running := Rep.via Running_to ⟨Rep.zero, Rep.zero, Rep.zero, Rep.zero⟩ rfl
structure Part where
  Kind : Int
  Number : Int
def Part_to (x : Part) : Int × Int := (x.Kind, x.Number)
instance : Rep Part := Rep.via Part_to ⟨Rep.zero, Rep.zero⟩ rfl
structure Power where
  Closed : (List Bool)
  Sources : (List Running)
  Limits : (List Int)
  Broken : (List Part)
def Power_to (x : Power) : (List Bool) × (List Running) × (List Int) × (List Part) := (x.Closed, x.Sources, x.Limits, x.Broken)
instance : Rep Power := Rep.via Power_to ⟨Rep.zero, Rep.zero, Rep.zero, Rep.zero⟩ rfl
structure Island where
  Buses : (List Int)
  Sources : (List Int)
  Consumers : (List Int)
def Island_to (x : Island) : (List Int) × (List Int) × (List Int) := (x.Buses, x.Sources, x.Consumers)
instance : Rep Island := Rep.via Island_to ⟨Rep.zero, Rep.zero, Rep.zero⟩ rfl
structure Roster where
  High : Int
  Low : Int
def Roster_to (x : Roster) : Int × Int := (x.High, x.Low)
instance : Rep Roster := Rep.via Roster_to ⟨Rep.zero, Rep.zero⟩ rfl
structure Act where
  Kind : Int
  Unit : Int
  Value : Int
def Act_to (x : Act) : Int × Int × Int := (x.Kind, x.Unit, x.Value)
instance : Rep Act := Rep.via Act_to ⟨Rep.zero, Rep.zero, Rep.zero⟩ rfl
@[reducible] def D (n : Nat) : Type := match n with
  | 0 => Int
  | 1 => Bool
  | 2 => ByteArray
  | 3 => Src
  | 4 => Board
  | 5 => Breaker
  | 6 => Source
  | 7 => Consumer
  | 8 => Table
  | 9 => Power
  | 10 => Running
  | 11 => Part
  | 12 => Island
  | 13 => (List Int)
  | 14 => Roster
  | 15 => Act
  | _ => Int
instance repD (n : Nat) : Rep (D n) := match n with
  | 0 => inferInstanceAs (Rep Int)
  | 1 => inferInstanceAs (Rep Bool)
  | 2 => inferInstanceAs (Rep ByteArray)
  | 3 => inferInstanceAs (Rep Src)
  | 4 => inferInstanceAs (Rep Board)
  | 5 => inferInstanceAs (Rep Breaker)
  | 6 => inferInstanceAs (Rep Source)
  | 7 => inferInstanceAs (Rep Consumer)
  | 8 => inferInstanceAs (Rep Table)
  | 9 => inferInstanceAs (Rep Power)
  | 10 => inferInstanceAs (Rep Running)
  | 11 => inferInstanceAs (Rep Part)
  | 12 => inferInstanceAs (Rep Island)
  | 13 => inferInstanceAs (Rep (List Int))
  | 14 => inferInstanceAs (Rep Roster)
  | 15 => inferInstanceAs (Rep Act)
  | _ + 16 => inferInstanceAs (Rep Int)
def tabLv (n : Nat) : List Lf := match n with
  | 0 => [(.int .i64)]
  | 1 => [.bool]
  | 2 => [.str]
  | 3 => [(.sl 0), (.int .i64)]
  | 4 => [(.int .i64), (.sl 5), (.sl 6), (.sl 7), (.int .i64), (.int .i64)]
  | 5 => [(.int .i64), (.int .i64), (.int .i64)]
  | 6 => [(.int .i64), (.int .i64), (.int .i64)]
  | 7 => [(.int .i64), (.int .i64), (.int .i64), (.int .i64), (.sl 0)]
  | 8 => [(.int .i64), (.int .i64), (.int .i64)]
  | 9 => [(.sl 1), (.sl 10), (.sl 0), (.sl 11)]
  | 10 => [(.int .i64), (.int .i64), (.int .i64), (.int .i64)]
  | 11 => [(.int .i64), (.int .i64)]
  | 12 => [(.sl 0), (.sl 0), (.sl 0)]
  | 13 => [(.sl 0)]
  | 14 => [(.int .i64), (.int .i64)]
  | 15 => [(.int .i64), (.int .i64), (.int .i64)]
  | _ => [.int .i64]
def tabAg (n : Nat) : Bool := match n with
  | 0 => false
  | 1 => false
  | 2 => false
  | 3 => true
  | 4 => true
  | 5 => true
  | 6 => true
  | 7 => true
  | 8 => true
  | 9 => true
  | 10 => true
  | 11 => true
  | 12 => true
  | 13 => false
  | 14 => true
  | 15 => true
  | _ => false
def tabOut : ∀ n : Nat, D n → HL D (tabLv n)
  | 0 => fun x => x
  | 1 => fun x => x
  | 2 => fun x => x
  | 3 => fun x => (x.L, x.At)
  | 4 => fun x => (x.Buses, x.Breakers, x.Sources, x.Consumers, x.Phase, x.Frequency)
  | 5 => fun x => (x.Kind, x.A, x.B)
  | 6 => fun x => (x.Rating, x.Least, x.Start)
  | 7 => fun x => (x.Load, x.Least, x.Preference, x.Thruster, x.Needs)
  | 8 => fun x => (x.Start, x.Stop, x.Delay)
  | 9 => fun x => (x.Closed, x.Sources, x.Limits, x.Broken)
  | 10 => fun x => (x.State, x.Since, x.Frequency, x.Phase)
  | 11 => fun x => (x.Kind, x.Number)
  | 12 => fun x => (x.Buses, x.Sources, x.Consumers)
  | 13 => fun x => x
  | 14 => fun x => (x.High, x.Low)
  | 15 => fun x => (x.Kind, x.Unit, x.Value)
  | _ + 16 => fun x => x
def tabMk : ∀ n : Nat, HL D (tabLv n) → D n
  | 0 => fun h => h
  | 1 => fun h => h
  | 2 => fun h => h
  | 3 => fun h => ⟨h.1, h.2⟩
  | 4 => fun h => ⟨h.1, h.2.1, h.2.2.1, h.2.2.2.1, h.2.2.2.2.1, h.2.2.2.2.2⟩
  | 5 => fun h => ⟨h.1, h.2.1, h.2.2⟩
  | 6 => fun h => ⟨h.1, h.2.1, h.2.2⟩
  | 7 => fun h => ⟨h.1, h.2.1, h.2.2.1, h.2.2.2.1, h.2.2.2.2⟩
  | 8 => fun h => ⟨h.1, h.2.1, h.2.2⟩
  | 9 => fun h => ⟨h.1, h.2.1, h.2.2.1, h.2.2.2⟩
  | 10 => fun h => ⟨h.1, h.2.1, h.2.2.1, h.2.2.2⟩
  | 11 => fun h => ⟨h.1, h.2⟩
  | 12 => fun h => ⟨h.1, h.2.1, h.2.2⟩
  | 13 => fun h => h
  | 14 => fun h => ⟨h.1, h.2⟩
  | 15 => fun h => ⟨h.1, h.2.1, h.2.2⟩
  | _ + 16 => fun h => h
def tabZero : ∀ n : Nat, D n
  | 0 => (0 : Int)
  | 1 => false
  | 2 => ByteArray.empty
  | 3 => (⟨[], (0 : Int)⟩ : Src)
  | 4 => (⟨(0 : Int), [], [], [], (0 : Int), (0 : Int)⟩ : Board)
  | 5 => (⟨(0 : Int), (0 : Int), (0 : Int)⟩ : Breaker)
  | 6 => (⟨(0 : Int), (0 : Int), (0 : Int)⟩ : Source)
  | 7 => (⟨(0 : Int), (0 : Int), (0 : Int), (0 : Int), []⟩ : Consumer)
  | 8 => (⟨(0 : Int), (0 : Int), (0 : Int)⟩ : Table)
  | 9 => (⟨[], [], [], []⟩ : Power)
  | 10 => (⟨(0 : Int), (0 : Int), (0 : Int), (0 : Int)⟩ : Running)
  | 11 => (⟨(0 : Int), (0 : Int)⟩ : Part)
  | 12 => (⟨[], [], []⟩ : Island)
  | 13 => ([] : (List Int))
  | 14 => (⟨(0 : Int), (0 : Int)⟩ : Roster)
  | 15 => (⟨(0 : Int), (0 : Int), (0 : Int)⟩ : Act)
  | _ + 16 => (0 : Int)
def T : Tab D where
  lv := tabLv
  ag := tabAg
  outH := tabOut
  mkH := tabMk
  zero := tabZero
  ty := [(3, .one (.int .i64)), (4, .one .bool), (22, .one (.sl 0)), (23, .ptr), (25, .one (.sl 5)), (26, .one (.sl 6)), (27, .one (.sl 7)), (29, .st 4), (31, .st 8), (32, .one (.sl 1)), (33, .one (.sl 10)), (34, .one (.sl 11)), (36, .st 9), (40, .st 12), (49, .st 5), (51, .st 10), (53, .st 14), (54, .one (.sl 15)), (76, .st 15), (82, .st 3), (91, .st 11), (98, .st 6), (100, .st 7), (115, .one (.sl 12)), (138, .one (.sl 13))]
  fld := [(29, [(0, 1), (1, 1), (2, 1), (3, 1), (4, 1), (5, 1)]), (31, [(0, 1), (1, 1), (2, 1)]), (36, [(0, 1), (1, 1), (2, 1), (3, 1)]), (40, [(0, 1), (1, 1), (2, 1)]), (49, [(0, 1), (1, 1), (2, 1)]), (51, [(0, 1), (1, 1), (2, 1), (3, 1)]), (53, [(0, 1), (1, 1)]), (76, [(0, 1), (1, 1), (2, 1)]), (82, [(0, 1), (1, 1)]), (91, [(0, 1), (1, 1)]), (98, [(0, 1), (1, 1), (2, 1)]), (100, [(0, 1), (1, 1), (2, 1), (3, 1), (4, 1)])]
  els := [(22, 3, 0), (25, 49, 5), (26, 98, 6), (27, 100, 7), (32, 4, 1), (33, 51, 10), (34, 91, 11), (54, 76, 15), (115, 40, 12), (138, 22, 13)]
  eqs := [(49, [(.int .i64), (.int .i64), (.int .i64)]), (53, [(.int .i64), (.int .i64)]), (76, [(.int .i64), (.int .i64), (.int .i64)]), (91, [(.int .i64), (.int .i64)])]
  kd := [(12, 3, 0), (13, 3, 0)]
  ars := [(72, 2, 3, 0)]
  pre := []
  mps := []
theorem rd3 : RdIs D Src (fun x => [⟨(.sl 0), x.L⟩, ⟨(.int .i64), x.At⟩]) := fun S w cs x => (RdIs.prod (RdIs.sl 0) (RdIs.int) : RdIs D ((List Int) × Int) _) S w cs (Src_to x)
theorem rd5 : RdIs D Breaker (fun x => [⟨(.int .i64), x.Kind⟩, ⟨(.int .i64), x.A⟩, ⟨(.int .i64), x.B⟩]) := fun S w cs x => (RdIs.prod RdIs.int (RdIs.prod RdIs.int (RdIs.int)) : RdIs D (Int × Int × Int) _) S w cs (Breaker_to x)
theorem rd6 : RdIs D Source (fun x => [⟨(.int .i64), x.Rating⟩, ⟨(.int .i64), x.Least⟩, ⟨(.int .i64), x.Start⟩]) := fun S w cs x => (RdIs.prod RdIs.int (RdIs.prod RdIs.int (RdIs.int)) : RdIs D (Int × Int × Int) _) S w cs (Source_to x)
theorem rd7 : RdIs D Consumer (fun x => [⟨(.int .i64), x.Load⟩, ⟨(.int .i64), x.Least⟩, ⟨(.int .i64), x.Preference⟩, ⟨(.int .i64), x.Thruster⟩, ⟨(.sl 0), x.Needs⟩]) := fun S w cs x => (RdIs.prod RdIs.int (RdIs.prod RdIs.int (RdIs.prod RdIs.int (RdIs.prod RdIs.int ((RdIs.sl 0))))) : RdIs D (Int × Int × Int × Int × (List Int)) _) S w cs (Consumer_to x)
theorem rd4 : RdIs D Board (fun x => [⟨(.int .i64), x.Buses⟩, ⟨(.sl 5), x.Breakers⟩, ⟨(.sl 6), x.Sources⟩, ⟨(.sl 7), x.Consumers⟩, ⟨(.int .i64), x.Phase⟩, ⟨(.int .i64), x.Frequency⟩]) := fun S w cs x => (RdIs.prod RdIs.int (RdIs.prod (RdIs.sl 5) (RdIs.prod (RdIs.sl 6) (RdIs.prod (RdIs.sl 7) (RdIs.prod RdIs.int (RdIs.int))))) : RdIs D (Int × (List Breaker) × (List Source) × (List Consumer) × Int × Int) _) S w cs (Board_to x)
theorem rd8 : RdIs D Table (fun x => [⟨(.int .i64), x.Start⟩, ⟨(.int .i64), x.Stop⟩, ⟨(.int .i64), x.Delay⟩]) := fun S w cs x => (RdIs.prod RdIs.int (RdIs.prod RdIs.int (RdIs.int)) : RdIs D (Int × Int × Int) _) S w cs (Table_to x)
theorem rd10 : RdIs D Running (fun x => [⟨(.int .i64), x.State⟩, ⟨(.int .i64), x.Since⟩, ⟨(.int .i64), x.Frequency⟩, ⟨(.int .i64), x.Phase⟩]) := fun S w cs x => (RdIs.prod RdIs.int (RdIs.prod RdIs.int (RdIs.prod RdIs.int (RdIs.int))) : RdIs D (Int × Int × Int × Int) _) S w cs (Running_to x)
theorem rd11 : RdIs D Part (fun x => [⟨(.int .i64), x.Kind⟩, ⟨(.int .i64), x.Number⟩]) := fun S w cs x => (RdIs.prod RdIs.int (RdIs.int) : RdIs D (Int × Int) _) S w cs (Part_to x)
theorem rd9 : RdIs D Power (fun x => [⟨(.sl 1), x.Closed⟩, ⟨(.sl 10), x.Sources⟩, ⟨(.sl 0), x.Limits⟩, ⟨(.sl 11), x.Broken⟩]) := fun S w cs x => (RdIs.prod (RdIs.sl 1) (RdIs.prod (RdIs.sl 10) (RdIs.prod (RdIs.sl 0) ((RdIs.sl 11)))) : RdIs D ((List Bool) × (List Running) × (List Int) × (List Part)) _) S w cs (Power_to x)
theorem rd12 : RdIs D Island (fun x => [⟨(.sl 0), x.Buses⟩, ⟨(.sl 0), x.Sources⟩, ⟨(.sl 0), x.Consumers⟩]) := fun S w cs x => (RdIs.prod (RdIs.sl 0) (RdIs.prod (RdIs.sl 0) ((RdIs.sl 0))) : RdIs D ((List Int) × (List Int) × (List Int)) _) S w cs (Island_to x)
theorem rd14 : RdIs D Roster (fun x => [⟨(.int .i64), x.High⟩, ⟨(.int .i64), x.Low⟩]) := fun S w cs x => (RdIs.prod RdIs.int (RdIs.int) : RdIs D (Int × Int) _) S w cs (Roster_to x)
theorem rd15 : RdIs D Act (fun x => [⟨(.int .i64), x.Kind⟩, ⟨(.int .i64), x.Unit⟩, ⟨(.int .i64), x.Value⟩]) := fun S w cs x => (RdIs.prod RdIs.int (RdIs.prod RdIs.int (RdIs.int)) : RdIs D (Int × Int × Int) _) S w cs (Act_to x)
theorem rd13 : RdIs D (List Int) (fun x => [⟨.sl 0, x⟩]) := RdIs.sl 0
theorem repOk : RepOk T where
  sz := fun n => match n with
    | 0 => rfl
    | 1 => rfl
    | 2 => rfl
    | 3 => rfl
    | 4 => rfl
    | 5 => rfl
    | 6 => rfl
    | 7 => rfl
    | 8 => rfl
    | 9 => rfl
    | 10 => rfl
    | 11 => rfl
    | 12 => rfl
    | 13 => rfl
    | 14 => rfl
    | 15 => rfl
    | _ + 16 => rfl
  ag := fun n => match n with
    | 0 => rfl
    | 1 => rfl
    | 2 => rfl
    | 3 => rfl
    | 4 => rfl
    | 5 => rfl
    | 6 => rfl
    | 7 => rfl
    | 8 => rfl
    | 9 => rfl
    | 10 => rfl
    | 11 => rfl
    | 12 => rfl
    | 13 => rfl
    | 14 => rfl
    | 15 => rfl
    | _ + 16 => rfl
  zc := fun n => match n with
    | 0 => rfl
    | 1 => rfl
    | 2 => rfl
    | 3 => rfl
    | 4 => rfl
    | 5 => rfl
    | 6 => rfl
    | 7 => rfl
    | 8 => rfl
    | 9 => rfl
    | 10 => rfl
    | 11 => rfl
    | 12 => rfl
    | 13 => rfl
    | 14 => rfl
    | 15 => rfl
    | _ + 16 => rfl
  zero := fun n => match n with
    | 0 => rfl
    | 1 => rfl
    | 2 => rfl
    | 3 => rfl
    | 4 => rfl
    | 5 => rfl
    | 6 => rfl
    | 7 => rfl
    | 8 => rfl
    | 9 => rfl
    | 10 => rfl
    | 11 => rfl
    | 12 => rfl
    | 13 => rfl
    | 14 => rfl
    | 15 => rfl
    | _ + 16 => rfl
  rd := fun n S w cs x => match n, x with
    | 0, x => RdIs.int S w cs x
    | 1, x => RdIs.bool S w cs x
    | 2, x => RdIs.str S w cs x
    | 3, x => rd3 S w cs x
    | 4, x => rd4 S w cs x
    | 5, x => rd5 S w cs x
    | 6, x => rd6 S w cs x
    | 7, x => rd7 S w cs x
    | 8, x => rd8 S w cs x
    | 9, x => rd9 S w cs x
    | 10, x => rd10 S w cs x
    | 11, x => rd11 S w cs x
    | 12, x => rd12 S w cs x
    | 13, x => rd13 S w cs x
    | 14, x => rd14 S w cs x
    | 15, x => rd15 S w cs x
    | _ + 16, x => RdIs.int S w cs x
  few := fun n => match n with
    | 0 => by decide
    | 1 => by decide
    | 2 => by decide
    | 3 => by decide
    | 4 => by decide
    | 5 => by decide
    | 6 => by decide
    | 7 => by decide
    | 8 => by decide
    | 9 => by decide
    | 10 => by decide
    | 11 => by decide
    | 12 => by decide
    | 13 => by decide
    | 14 => by decide
    | 15 => by decide
    | _ + 16 => by show 1 ≤ 48; decide
  mkh := fun n h => match n, h with
    | 0, h => rfl
    | 1, h => rfl
    | 2, h => rfl
    | 3, h => rfl
    | 4, h => rfl
    | 5, h => rfl
    | 6, h => rfl
    | 7, h => rfl
    | 8, h => rfl
    | 9, h => rfl
    | 10, h => rfl
    | 11, h => rfl
    | 12, h => rfl
    | 13, h => rfl
    | 14, h => rfl
    | 15, h => rfl
    | _ + 16, h => rfl
theorem tyr3 : TyF Try.prog T 3 (.one (.int .i64)) := ⟨TyR.of Try.underlying3 rfl (by kernel_rfl), Try.underlying3⟩
theorem tyr4 : TyF Try.prog T 4 (.one .bool) := ⟨TyR.of Try.underlying4 rfl (by kernel_rfl), Try.underlying4⟩
theorem tyr22 : TyF Try.prog T 22 (.one (.sl 0)) := ⟨TyR.of Try.underlying22 rfl (by kernel_rfl), trivial⟩
theorem tyr23 : TyF Try.prog T 23 (.ptr) := ⟨TyR.of Try.underlying23 rfl (by kernel_rfl), trivial⟩
theorem tyr25 : TyF Try.prog T 25 (.one (.sl 5)) := ⟨TyR.of Try.underlying25 rfl (by kernel_rfl), trivial⟩
theorem tyr26 : TyF Try.prog T 26 (.one (.sl 6)) := ⟨TyR.of Try.underlying26 rfl (by kernel_rfl), trivial⟩
theorem tyr27 : TyF Try.prog T 27 (.one (.sl 7)) := ⟨TyR.of Try.underlying27 rfl (by kernel_rfl), trivial⟩
theorem tyr29 : TyF Try.prog T 29 (.st 4) := ⟨TyR.of Try.underlying29 rfl (by kernel_rfl), trivial⟩
theorem tyr31 : TyF Try.prog T 31 (.st 8) := ⟨TyR.of Try.underlying31 rfl (by kernel_rfl), trivial⟩
theorem tyr32 : TyF Try.prog T 32 (.one (.sl 1)) := ⟨TyR.of Try.underlying32 rfl (by kernel_rfl), trivial⟩
theorem tyr33 : TyF Try.prog T 33 (.one (.sl 10)) := ⟨TyR.of Try.underlying33 rfl (by kernel_rfl), trivial⟩
theorem tyr34 : TyF Try.prog T 34 (.one (.sl 11)) := ⟨TyR.of Try.underlying34 rfl (by kernel_rfl), trivial⟩
theorem tyr36 : TyF Try.prog T 36 (.st 9) := ⟨TyR.of Try.underlying36 rfl (by kernel_rfl), trivial⟩
theorem tyr40 : TyF Try.prog T 40 (.st 12) := ⟨TyR.of Try.underlying40 rfl (by kernel_rfl), trivial⟩
theorem tyr49 : TyF Try.prog T 49 (.st 5) := ⟨TyR.of Try.underlying49 rfl (by kernel_rfl), trivial⟩
theorem tyr51 : TyF Try.prog T 51 (.st 10) := ⟨TyR.of Try.underlying51 rfl (by kernel_rfl), trivial⟩
theorem tyr53 : TyF Try.prog T 53 (.st 14) := ⟨TyR.of Try.underlying53 rfl (by kernel_rfl), trivial⟩
theorem tyr54 : TyF Try.prog T 54 (.one (.sl 15)) := ⟨TyR.of Try.underlying54 rfl (by kernel_rfl), trivial⟩
theorem tyr76 : TyF Try.prog T 76 (.st 15) := ⟨TyR.of Try.underlying76 rfl (by kernel_rfl), trivial⟩
theorem tyr82 : TyF Try.prog T 82 (.st 3) := ⟨TyR.of Try.underlying82 rfl (by kernel_rfl), trivial⟩
theorem tyr91 : TyF Try.prog T 91 (.st 11) := ⟨TyR.of Try.underlying91 rfl (by kernel_rfl), trivial⟩
theorem tyr98 : TyF Try.prog T 98 (.st 6) := ⟨TyR.of Try.underlying98 rfl (by kernel_rfl), trivial⟩
theorem tyr100 : TyF Try.prog T 100 (.st 7) := ⟨TyR.of Try.underlying100 rfl (by kernel_rfl), trivial⟩
theorem tyr115 : TyF Try.prog T 115 (.one (.sl 12)) := ⟨TyR.of Try.underlying115 rfl (by kernel_rfl), trivial⟩
theorem tyr138 : TyF Try.prog T 138 (.one (.sl 13)) := ⟨TyR.of Try.underlying138 rfl (by kernel_rfl), trivial⟩
theorem slr22 : Try.prog.underlying 22 = some (.slice 3) ∧ TyOk Try.prog 3 (D 0) := ⟨Try.underlying22, TyOk.of Try.underlying3 rfl (by kernel_rfl)⟩
theorem slr25 : Try.prog.underlying 25 = some (.slice 49) ∧ TyOk Try.prog 49 (D 5) := ⟨Try.underlying25, TyOk.of Try.underlying49 rfl (by kernel_rfl)⟩
theorem slr26 : Try.prog.underlying 26 = some (.slice 98) ∧ TyOk Try.prog 98 (D 6) := ⟨Try.underlying26, TyOk.of Try.underlying98 rfl (by kernel_rfl)⟩
theorem slr27 : Try.prog.underlying 27 = some (.slice 100) ∧ TyOk Try.prog 100 (D 7) := ⟨Try.underlying27, TyOk.of Try.underlying100 rfl (by kernel_rfl)⟩
theorem slr32 : Try.prog.underlying 32 = some (.slice 4) ∧ TyOk Try.prog 4 (D 1) := ⟨Try.underlying32, TyOk.of Try.underlying4 rfl (by kernel_rfl)⟩
theorem slr33 : Try.prog.underlying 33 = some (.slice 51) ∧ TyOk Try.prog 51 (D 10) := ⟨Try.underlying33, TyOk.of Try.underlying51 rfl (by kernel_rfl)⟩
theorem slr34 : Try.prog.underlying 34 = some (.slice 91) ∧ TyOk Try.prog 91 (D 11) := ⟨Try.underlying34, TyOk.of Try.underlying91 rfl (by kernel_rfl)⟩
theorem slr54 : Try.prog.underlying 54 = some (.slice 76) ∧ TyOk Try.prog 76 (D 15) := ⟨Try.underlying54, TyOk.of Try.underlying76 rfl (by kernel_rfl)⟩
theorem slr115 : Try.prog.underlying 115 = some (.slice 40) ∧ TyOk Try.prog 40 (D 12) := ⟨Try.underlying115, TyOk.of Try.underlying40 rfl (by kernel_rfl)⟩
theorem slr138 : Try.prog.underlying 138 = some (.slice 22) ∧ TyOk Try.prog 22 (D 13) := ⟨Try.underlying138, TyOk.of Try.underlying22 rfl (by kernel_rfl)⟩
theorem flr29 : StOk Try.prog 29 [(0, 1), (1, 1), (2, 1), (3, 1), (4, 1), (5, 1)] ∧ ∀ i off sz, [((0 : Nat), (1 : Nat)), ((1 : Nat), (1 : Nat)), ((2 : Nat), (1 : Nat)), ((3 : Nat), (1 : Nat)), ((4 : Nat), (1 : Nat)), ((5 : Nat), (1 : Nat))][i]? = some (off, sz) → FldAt Try.prog 29 i off := flds_ok ⟨_, Try.underlying29, by kernel_rfl⟩ rfl
theorem flr31 : StOk Try.prog 31 [(0, 1), (1, 1), (2, 1)] ∧ ∀ i off sz, [((0 : Nat), (1 : Nat)), ((1 : Nat), (1 : Nat)), ((2 : Nat), (1 : Nat))][i]? = some (off, sz) → FldAt Try.prog 31 i off := flds_ok ⟨_, Try.underlying31, by kernel_rfl⟩ rfl
theorem flr36 : StOk Try.prog 36 [(0, 1), (1, 1), (2, 1), (3, 1)] ∧ ∀ i off sz, [((0 : Nat), (1 : Nat)), ((1 : Nat), (1 : Nat)), ((2 : Nat), (1 : Nat)), ((3 : Nat), (1 : Nat))][i]? = some (off, sz) → FldAt Try.prog 36 i off := flds_ok ⟨_, Try.underlying36, by kernel_rfl⟩ rfl
theorem flr40 : StOk Try.prog 40 [(0, 1), (1, 1), (2, 1)] ∧ ∀ i off sz, [((0 : Nat), (1 : Nat)), ((1 : Nat), (1 : Nat)), ((2 : Nat), (1 : Nat))][i]? = some (off, sz) → FldAt Try.prog 40 i off := flds_ok ⟨_, Try.underlying40, by kernel_rfl⟩ rfl
theorem flr49 : StOk Try.prog 49 [(0, 1), (1, 1), (2, 1)] ∧ ∀ i off sz, [((0 : Nat), (1 : Nat)), ((1 : Nat), (1 : Nat)), ((2 : Nat), (1 : Nat))][i]? = some (off, sz) → FldAt Try.prog 49 i off := flds_ok ⟨_, Try.underlying49, by kernel_rfl⟩ rfl
theorem flr51 : StOk Try.prog 51 [(0, 1), (1, 1), (2, 1), (3, 1)] ∧ ∀ i off sz, [((0 : Nat), (1 : Nat)), ((1 : Nat), (1 : Nat)), ((2 : Nat), (1 : Nat)), ((3 : Nat), (1 : Nat))][i]? = some (off, sz) → FldAt Try.prog 51 i off := flds_ok ⟨_, Try.underlying51, by kernel_rfl⟩ rfl
theorem flr53 : StOk Try.prog 53 [(0, 1), (1, 1)] ∧ ∀ i off sz, [((0 : Nat), (1 : Nat)), ((1 : Nat), (1 : Nat))][i]? = some (off, sz) → FldAt Try.prog 53 i off := flds_ok ⟨_, Try.underlying53, by kernel_rfl⟩ rfl
theorem flr76 : StOk Try.prog 76 [(0, 1), (1, 1), (2, 1)] ∧ ∀ i off sz, [((0 : Nat), (1 : Nat)), ((1 : Nat), (1 : Nat)), ((2 : Nat), (1 : Nat))][i]? = some (off, sz) → FldAt Try.prog 76 i off := flds_ok ⟨_, Try.underlying76, by kernel_rfl⟩ rfl
theorem flr82 : StOk Try.prog 82 [(0, 1), (1, 1)] ∧ ∀ i off sz, [((0 : Nat), (1 : Nat)), ((1 : Nat), (1 : Nat))][i]? = some (off, sz) → FldAt Try.prog 82 i off := flds_ok ⟨_, Try.underlying82, by kernel_rfl⟩ rfl
theorem flr91 : StOk Try.prog 91 [(0, 1), (1, 1)] ∧ ∀ i off sz, [((0 : Nat), (1 : Nat)), ((1 : Nat), (1 : Nat))][i]? = some (off, sz) → FldAt Try.prog 91 i off := flds_ok ⟨_, Try.underlying91, by kernel_rfl⟩ rfl
theorem flr98 : StOk Try.prog 98 [(0, 1), (1, 1), (2, 1)] ∧ ∀ i off sz, [((0 : Nat), (1 : Nat)), ((1 : Nat), (1 : Nat)), ((2 : Nat), (1 : Nat))][i]? = some (off, sz) → FldAt Try.prog 98 i off := flds_ok ⟨_, Try.underlying98, by kernel_rfl⟩ rfl
theorem flr100 : StOk Try.prog 100 [(0, 1), (1, 1), (2, 1), (3, 1), (4, 1)] ∧ ∀ i off sz, [((0 : Nat), (1 : Nat)), ((1 : Nat), (1 : Nat)), ((2 : Nat), (1 : Nat)), ((3 : Nat), (1 : Nat)), ((4 : Nat), (1 : Nat))][i]? = some (off, sz) → FldAt Try.prog 100 i off := flds_ok ⟨_, Try.underlying100, by kernel_rfl⟩ rfl
theorem eql3 : EqL Try.prog 3 false [(.int .i64)] 1 := EqL.int Try.underlying3
theorem eql49 : EqL Try.prog 49 true [(.int .i64), (.int .i64), (.int .i64)] 2 := by
  refine EqL.struct (k := 1) Try.underlying49 (by kernel_rfl) ?_
  exact ⟨by simp, rfl, false, [(.int .i64)], [(.int .i64), (.int .i64)], [.int .i64 0], rfl, TyR.of Try.underlying3 rfl (by kernel_rfl), rfl, fun _ => rfl, eql3.up (by decide), ⟨by simp, rfl, false, [(.int .i64)], [(.int .i64)], [.int .i64 0], rfl, TyR.of Try.underlying3 rfl (by kernel_rfl), rfl, fun _ => rfl, eql3.up (by decide), ⟨by simp, rfl, false, [(.int .i64)], [], [.int .i64 0], rfl, TyR.of Try.underlying3 rfl (by kernel_rfl), rfl, fun _ => rfl, eql3.up (by decide), rfl⟩⟩⟩
theorem eqr49 : EqT Try.prog 49 [(.int .i64), (.int .i64), (.int .i64)] ∧ ([(.int .i64), (.int .i64), (.int .i64)] : List Lf).all flatL = true := ⟨⟨⟨2, by decide, eql49⟩, by kernel_rfl⟩, rfl⟩
theorem eql53 : EqL Try.prog 53 true [(.int .i64), (.int .i64)] 2 := by
  refine EqL.struct (k := 1) Try.underlying53 (by kernel_rfl) ?_
  exact ⟨by simp, rfl, false, [(.int .i64)], [(.int .i64)], [.int .i64 0], rfl, TyR.of Try.underlying3 rfl (by kernel_rfl), rfl, fun _ => rfl, eql3.up (by decide), ⟨by simp, rfl, false, [(.int .i64)], [], [.int .i64 0], rfl, TyR.of Try.underlying3 rfl (by kernel_rfl), rfl, fun _ => rfl, eql3.up (by decide), rfl⟩⟩
theorem eqr53 : EqT Try.prog 53 [(.int .i64), (.int .i64)] ∧ ([(.int .i64), (.int .i64)] : List Lf).all flatL = true := ⟨⟨⟨2, by decide, eql53⟩, by kernel_rfl⟩, rfl⟩
theorem eql76 : EqL Try.prog 76 true [(.int .i64), (.int .i64), (.int .i64)] 2 := by
  refine EqL.struct (k := 1) Try.underlying76 (by kernel_rfl) ?_
  exact ⟨by simp, rfl, false, [(.int .i64)], [(.int .i64), (.int .i64)], [.int .i64 0], rfl, TyR.of Try.underlying3 rfl (by kernel_rfl), rfl, fun _ => rfl, eql3.up (by decide), ⟨by simp, rfl, false, [(.int .i64)], [(.int .i64)], [.int .i64 0], rfl, TyR.of Try.underlying3 rfl (by kernel_rfl), rfl, fun _ => rfl, eql3.up (by decide), ⟨by simp, rfl, false, [(.int .i64)], [], [.int .i64 0], rfl, TyR.of Try.underlying3 rfl (by kernel_rfl), rfl, fun _ => rfl, eql3.up (by decide), rfl⟩⟩⟩
theorem eqr76 : EqT Try.prog 76 [(.int .i64), (.int .i64), (.int .i64)] ∧ ([(.int .i64), (.int .i64), (.int .i64)] : List Lf).all flatL = true := ⟨⟨⟨2, by decide, eql76⟩, by kernel_rfl⟩, rfl⟩
theorem eql91 : EqL Try.prog 91 true [(.int .i64), (.int .i64)] 2 := by
  refine EqL.struct (k := 1) Try.underlying91 (by kernel_rfl) ?_
  exact ⟨by simp, rfl, false, [(.int .i64)], [(.int .i64)], [.int .i64 0], rfl, TyR.of Try.underlying3 rfl (by kernel_rfl), rfl, fun _ => rfl, eql3.up (by decide), ⟨by simp, rfl, false, [(.int .i64)], [], [.int .i64 0], rfl, TyR.of Try.underlying3 rfl (by kernel_rfl), rfl, fun _ => rfl, eql3.up (by decide), rfl⟩⟩
theorem eqr91 : EqT Try.prog 91 [(.int .i64), (.int .i64)] ∧ ([(.int .i64), (.int .i64)] : List Lf).all flatL = true := ⟨⟨⟨2, by decide, eql91⟩, by kernel_rfl⟩, rfl⟩
instance : Flat Breaker := ⟨fun h => Flat.any (α := Int × Int × Int) h⟩
instance : Flat Source := ⟨fun h => Flat.any (α := Int × Int × Int) h⟩
instance : Flat Table := ⟨fun h => Flat.any (α := Int × Int × Int) h⟩
instance : Flat Running := ⟨fun h => Flat.any (α := Int × Int × Int × Int) h⟩
instance : Flat Part := ⟨fun h => Flat.any (α := Int × Int) h⟩
instance : Flat Roster := ⟨fun h => Flat.any (α := Int × Int) h⟩
instance : Flat Act := ⟨fun h => Flat.any (α := Int × Int × Int) h⟩
theorem flat0 : Flat (D 0) := (inferInstance : Flat Int)
theorem flat1 : Flat (D 1) := (inferInstance : Flat Bool)
theorem flat2 : Flat (D 2) := (inferInstance : Flat ByteArray)
theorem flat5 : Flat (D 5) := (inferInstance : Flat Breaker)
theorem flat6 : Flat (D 6) := (inferInstance : Flat Source)
theorem flat8 : Flat (D 8) := (inferInstance : Flat Table)
theorem flat10 : Flat (D 10) := (inferInstance : Flat Running)
theorem flat11 : Flat (D 11) := (inferInstance : Flat Part)
theorem flat14 : Flat (D 14) := (inferInstance : Flat Roster)
theorem flat15 : Flat (D 15) := (inferInstance : Flat Act)
instance : OneLevel Island := ⟨fun h => OneLevel.loc (α := (List Int) × (List Int) × (List Int)) h⟩
theorem kdr12 : KidT Try.prog D 12 3 0 := ⟨(inferInstance : OneLevel Island), (inferInstance : Flat Int), TyOk.of Try.underlying3 rfl (by kernel_rfl), rfl⟩
theorem kdr13 : KidT Try.prog D 13 3 0 := ⟨(inferInstance : OneLevel (List Int)), (inferInstance : Flat Int), TyOk.of Try.underlying3 rfl (by kernel_rfl), rfl⟩
theorem arr72 : ArrT Try.prog D 72 2 3 0 := ArrT.of Try.underlying72 (TyOk.of Try.underlying3 rfl (by kernel_rfl)) (by kernel_rfl)
theorem pOk : POk Try.prog T := POk.of (⟨tyr3, tyr4, tyr22, tyr23, tyr25, tyr26, tyr27, tyr29, tyr31, tyr32, tyr33, tyr34, tyr36, tyr40, tyr49, tyr51, tyr53, tyr54, tyr76, tyr82, tyr91, tyr98, tyr100, tyr115, tyr138, trivial⟩) (⟨slr22, slr25, slr26, slr27, slr32, slr33, slr34, slr54, slr115, slr138, trivial⟩) (⟨flr29, flr31, flr36, flr40, flr49, flr51, flr53, flr76, flr82, flr91, flr98, flr100, trivial⟩) (⟨eqr49, eqr53, eqr76, eqr91, trivial⟩) (⟨kdr12, kdr13, trivial⟩) (⟨arr72, trivial⟩) (trivial)
theorem hmix : Try.prog.follows .mixedOrders = true := by kernel_rfl
def bodyOf (f : Func) : Code := match f.body with
  | some c => c
  | none => .skip
end Rx
end Go.Proofs.Ytkcjbcmpnoaghaa
