/- Types: structures, how they lie in memory. Written by a program (wip/gen). -/
import Derived.Test.YtcekgnnekooohaaRp
import Derived.Test.YtcekgnnekooohaaProg
import Derived.KernelRfl
set_option linter.unusedVariables false
namespace Go.Proofs.Ytcekgnnekooohaa
open Go Go.RowKit Dp
namespace Rx

structure Breaker where
  Kind : Int
  A : Int
  B : Int
def Breaker_to (x : Breaker) : Int × Int × Int := (x.Kind, x.A, x.B)
instance : Rep Breaker := Rep.via Breaker_to ⟨Rep.zero, Rep.zero, Rep.zero⟩ rfl
structure Source where
  Rating : Int
  Least : Int
  Start : Int
def Source_to (x : Source) : Int × Int × Int := (x.Rating, x.Least, x.Start)
instance : Rep Source := Rep.via Source_to ⟨Rep.zero, Rep.zero, Rep.zero⟩ rfl
structure Consumer where
  Load : Int
  Least : Int
  Preference : Int
  Thruster : Int
  Needs : (List Int)
def Consumer_to (x : Consumer) : Int × Int × Int × Int × (List Int) := (x.Load, x.Least, x.Preference, x.Thruster, x.Needs)
instance : Rep Consumer := Rep.via Consumer_to ⟨Rep.zero, Rep.zero, Rep.zero, Rep.zero, Rep.zero⟩ rfl
structure Board where
  Buses : Int
  Breakers : (List Breaker)
  Sources : (List Source)
  Consumers : (List Consumer)
  Phase : Int
  Frequency : Int
def Board_to (x : Board) : Int × (List Breaker) × (List Source) × (List Consumer) × Int × Int := (x.Buses, x.Breakers, x.Sources, x.Consumers, x.Phase, x.Frequency)
instance : Rep Board := Rep.via Board_to ⟨Rep.zero, Rep.zero, Rep.zero, Rep.zero, Rep.zero, Rep.zero⟩ rfl
structure Running where
  State : Int
  Since : Int
  Frequency : Int
  Phase : Int
def Running_to (x : Running) : Int × Int × Int × Int := (x.State, x.Since, x.Frequency, x.Phase)
instance : Rep Running := Rep.via Running_to ⟨Rep.zero, Rep.zero, Rep.zero, Rep.zero⟩ rfl
structure Part where
  Kind : Int
  Number : Int
def Part_to (x : Part) : Int × Int := (x.Kind, x.Number)
instance : Rep Part := Rep.via Part_to ⟨Rep.zero, Rep.zero⟩ rfl
structure Power where
  Closed : (List Bool)
  Sources : (List Running)
  Limits : (List Int)
  Broken : (List Part)
def Power_to (x : Power) : (List Bool) × (List Running) × (List Int) × (List Part) := (x.Closed, x.Sources, x.Limits, x.Broken)
instance : Rep Power := Rep.via Power_to ⟨Rep.zero, Rep.zero, Rep.zero, Rep.zero⟩ rfl
structure Table where
  Start : Int
  Stop : Int
  Delay : Int
def Table_to (x : Table) : Int × Int × Int := (x.Start, x.Stop, x.Delay)
instance : Rep Table := Rep.via Table_to ⟨Rep.zero, Rep.zero, Rep.zero⟩ rfl
structure Roster where
  High : Int
  Low : Int
def Roster_to (x : Roster) : Int × Int := (x.High, x.Low)
instance : Rep Roster := Rep.via Roster_to ⟨Rep.zero, Rep.zero⟩ rfl
structure Island where
  Buses : (List Int)
  Sources : (List Int)
  Consumers : (List Int)
def Island_to (x : Island) : (List Int) × (List Int) × (List Int) := (x.Buses, x.Sources, x.Consumers)
instance : Rep Island := Rep.via Island_to ⟨Rep.zero, Rep.zero, Rep.zero⟩ rfl
structure Act where
  Kind : Int
  Unit : Int
  Value : Int
def Act_to (x : Act) : Int × Int × Int := (x.Kind, x.Unit, x.Value)
instance : Rep Act := Rep.via Act_to ⟨Rep.zero, Rep.zero, Rep.zero⟩ rfl
structure Src where
  L : (List Int)
  At : Int
def Src_to (x : Src) : (List Int) × Int := (x.L, x.At)
instance : Rep Src := Rep.via Src_to ⟨Rep.zero, Rep.zero⟩ rfl
@[reducible] def D (n : Nat) : Type := match n with
  | 0 => Int
  | 1 => Bool
  | 2 => ByteArray
  | 3 => Board
  | 4 => Breaker
  | 5 => Source
  | 6 => Consumer
  | 7 => Power
  | 8 => Running
  | 9 => Part
  | 10 => Table
  | 11 => Roster
  | 12 => (List Int)
  | 13 => Island
  | 14 => Act
  | 15 => Src
  | _ => Int
instance repD (n : Nat) : Rep (D n) := match n with
  | 0 => inferInstanceAs (Rep Int)
  | 1 => inferInstanceAs (Rep Bool)
  | 2 => inferInstanceAs (Rep ByteArray)
  | 3 => inferInstanceAs (Rep Board)
  | 4 => inferInstanceAs (Rep Breaker)
  | 5 => inferInstanceAs (Rep Source)
  | 6 => inferInstanceAs (Rep Consumer)
  | 7 => inferInstanceAs (Rep Power)
  | 8 => inferInstanceAs (Rep Running)
  | 9 => inferInstanceAs (Rep Part)
  | 10 => inferInstanceAs (Rep Table)
  | 11 => inferInstanceAs (Rep Roster)
  | 12 => inferInstanceAs (Rep (List Int))
  | 13 => inferInstanceAs (Rep Island)
  | 14 => inferInstanceAs (Rep Act)
  | 15 => inferInstanceAs (Rep Src)
  | _ + 16 => inferInstanceAs (Rep Int)
def tabLv (n : Nat) : List Lf := match n with
  | 0 => [(.int .i64)]
  | 1 => [.bool]
  | 2 => [.str]
  | 3 => [(.int .i64), (.sl 4), (.sl 5), (.sl 6), (.int .i64), (.int .i64)]
  | 4 => [(.int .i64), (.int .i64), (.int .i64)]
  | 5 => [(.int .i64), (.int .i64), (.int .i64)]
  | 6 => [(.int .i64), (.int .i64), (.int .i64), (.int .i64), (.sl 0)]
  | 7 => [(.sl 1), (.sl 8), (.sl 0), (.sl 9)]
  | 8 => [(.int .i64), (.int .i64), (.int .i64), (.int .i64)]
  | 9 => [(.int .i64), (.int .i64)]
  | 10 => [(.int .i64), (.int .i64), (.int .i64)]
  | 11 => [(.int .i64), (.int .i64)]
  | 12 => [(.sl 0)]
  | 13 => [(.sl 0), (.sl 0), (.sl 0)]
  | 14 => [(.int .i64), (.int .i64), (.int .i64)]
  | 15 => [(.sl 0), (.int .i64)]
  | _ => [.int .i64]
def tabAg (n : Nat) : Bool := match n with
  | 0 => false
  | 1 => false
  | 2 => false
  | 3 => true
  | 4 => true
  | 5 => true
  | 6 => true
  | 7 => true
  | 8 => true
  | 9 => true
  | 10 => true
  | 11 => true
  | 12 => false
  | 13 => true
  | 14 => true
  | 15 => true
  | _ => false
def tabOut : ∀ n : Nat, D n → HL D (tabLv n)
  | 0 => fun x => x
  | 1 => fun x => x
  | 2 => fun x => x
  | 3 => fun x => (x.Buses, x.Breakers, x.Sources, x.Consumers, x.Phase, x.Frequency)
  | 4 => fun x => (x.Kind, x.A, x.B)
  | 5 => fun x => (x.Rating, x.Least, x.Start)
  | 6 => fun x => (x.Load, x.Least, x.Preference, x.Thruster, x.Needs)
  | 7 => fun x => (x.Closed, x.Sources, x.Limits, x.Broken)
  | 8 => fun x => (x.State, x.Since, x.Frequency, x.Phase)
  | 9 => fun x => (x.Kind, x.Number)
  | 10 => fun x => (x.Start, x.Stop, x.Delay)
  | 11 => fun x => (x.High, x.Low)
  | 12 => fun x => x
  | 13 => fun x => (x.Buses, x.Sources, x.Consumers)
  | 14 => fun x => (x.Kind, x.Unit, x.Value)
  | 15 => fun x => (x.L, x.At)
  | _ + 16 => fun x => x
def tabMk : ∀ n : Nat, HL D (tabLv n) → D n
  | 0 => fun h => h
  | 1 => fun h => h
  | 2 => fun h => h
  | 3 => fun h => ⟨h.1, h.2.1, h.2.2.1, h.2.2.2.1, h.2.2.2.2.1, h.2.2.2.2.2⟩
  | 4 => fun h => ⟨h.1, h.2.1, h.2.2⟩
  | 5 => fun h => ⟨h.1, h.2.1, h.2.2⟩
  | 6 => fun h => ⟨h.1, h.2.1, h.2.2.1, h.2.2.2.1, h.2.2.2.2⟩
  | 7 => fun h => ⟨h.1, h.2.1, h.2.2.1, h.2.2.2⟩
  | 8 => fun h => ⟨h.1, h.2.1, h.2.2.1, h.2.2.2⟩
  | 9 => fun h => ⟨h.1, h.2⟩
  | 10 => fun h => ⟨h.1, h.2.1, h.2.2⟩
  | 11 => fun h => ⟨h.1, h.2⟩
  | 12 => fun h => h
  | 13 => fun h => ⟨h.1, h.2.1, h.2.2⟩
  | 14 => fun h => ⟨h.1, h.2.1, h.2.2⟩
  | 15 => fun h => ⟨h.1, h.2⟩
  | _ + 16 => fun h => h
def tabZero : ∀ n : Nat, D n
  | 0 => (0 : Int)
  | 1 => false
  | 2 => ByteArray.empty
  | 3 => (⟨(0 : Int), [], [], [], (0 : Int), (0 : Int)⟩ : Board)
  | 4 => (⟨(0 : Int), (0 : Int), (0 : Int)⟩ : Breaker)
  | 5 => (⟨(0 : Int), (0 : Int), (0 : Int)⟩ : Source)
  | 6 => (⟨(0 : Int), (0 : Int), (0 : Int), (0 : Int), []⟩ : Consumer)
  | 7 => (⟨[], [], [], []⟩ : Power)
  | 8 => (⟨(0 : Int), (0 : Int), (0 : Int), (0 : Int)⟩ : Running)
  | 9 => (⟨(0 : Int), (0 : Int)⟩ : Part)
  | 10 => (⟨(0 : Int), (0 : Int), (0 : Int)⟩ : Table)
  | 11 => (⟨(0 : Int), (0 : Int)⟩ : Roster)
  | 12 => ([] : (List Int))
  | 13 => (⟨[], [], []⟩ : Island)
  | 14 => (⟨(0 : Int), (0 : Int), (0 : Int)⟩ : Act)
  | 15 => (⟨[], (0 : Int)⟩ : Src)
  | _ + 16 => (0 : Int)
def T : Tab D where
  lv := tabLv
  ag := tabAg
  outH := tabOut
  mkH := tabMk
  zero := tabZero
  ty := [(3, .one (.int .i64)), (4, .one .bool), (22, .one (.sl 0)), (23, .one (.sl 4)), (24, .one (.sl 5)), (25, .one (.sl 6)), (27, .st 3), (28, .one (.sl 1)), (29, .one (.sl 8)), (30, .one (.sl 9)), (32, .st 7), (34, .st 10), (36, .st 11), (39, .ptr), (57, .one (.sl 14)), (64, .st 6), (66, .st 4), (68, .st 5), (70, .st 8), (72, .st 14), (74, .st 15), (80, .st 9), (82, .st 13), (104, .one (.sl 13)), (131, .one (.sl 12))]
  fld := [(27, [(0, 1), (1, 1), (2, 1), (3, 1), (4, 1), (5, 1)]), (32, [(0, 1), (1, 1), (2, 1), (3, 1)]), (34, [(0, 1), (1, 1), (2, 1)]), (36, [(0, 1), (1, 1)]), (64, [(0, 1), (1, 1), (2, 1), (3, 1), (4, 1)]), (66, [(0, 1), (1, 1), (2, 1)]), (68, [(0, 1), (1, 1), (2, 1)]), (70, [(0, 1), (1, 1), (2, 1), (3, 1)]), (72, [(0, 1), (1, 1), (2, 1)]), (74, [(0, 1), (1, 1)]), (80, [(0, 1), (1, 1)]), (82, [(0, 1), (1, 1), (2, 1)])]
  els := [(22, 3, 0), (23, 66, 4), (24, 68, 5), (25, 64, 6), (28, 4, 1), (29, 70, 8), (30, 80, 9), (57, 72, 14), (104, 82, 13), (131, 22, 12)]
  eqs := [(36, [(.int .i64), (.int .i64)]), (66, [(.int .i64), (.int .i64), (.int .i64)]), (72, [(.int .i64), (.int .i64), (.int .i64)]), (80, [(.int .i64), (.int .i64)])]
  kd := [(12, 3, 0), (13, 3, 0)]
  ars := [(43, 2, 27, 3), (45, 3, 32, 7), (48, 3, 34, 10), (50, 3, 3, 0), (55, 2, 36, 11), (56, 2, 3, 0)]
  pre := []
  mps := []
theorem rd4 : RdIs D Breaker (fun x => [⟨(.int .i64), x.Kind⟩, ⟨(.int .i64), x.A⟩, ⟨(.int .i64), x.B⟩]) := fun S w cs x => (RdIs.prod RdIs.int (RdIs.prod RdIs.int (RdIs.int)) : RdIs D (Int × Int × Int) _) S w cs (Breaker_to x)
theorem rd5 : RdIs D Source (fun x => [⟨(.int .i64), x.Rating⟩, ⟨(.int .i64), x.Least⟩, ⟨(.int .i64), x.Start⟩]) := fun S w cs x => (RdIs.prod RdIs.int (RdIs.prod RdIs.int (RdIs.int)) : RdIs D (Int × Int × Int) _) S w cs (Source_to x)
theorem rd6 : RdIs D Consumer (fun x => [⟨(.int .i64), x.Load⟩, ⟨(.int .i64), x.Least⟩, ⟨(.int .i64), x.Preference⟩, ⟨(.int .i64), x.Thruster⟩, ⟨(.sl 0), x.Needs⟩]) := fun S w cs x => (RdIs.prod RdIs.int (RdIs.prod RdIs.int (RdIs.prod RdIs.int (RdIs.prod RdIs.int ((RdIs.sl 0))))) : RdIs D (Int × Int × Int × Int × (List Int)) _) S w cs (Consumer_to x)
theorem rd3 : RdIs D Board (fun x => [⟨(.int .i64), x.Buses⟩, ⟨(.sl 4), x.Breakers⟩, ⟨(.sl 5), x.Sources⟩, ⟨(.sl 6), x.Consumers⟩, ⟨(.int .i64), x.Phase⟩, ⟨(.int .i64), x.Frequency⟩]) := fun S w cs x => (RdIs.prod RdIs.int (RdIs.prod (RdIs.sl 4) (RdIs.prod (RdIs.sl 5) (RdIs.prod (RdIs.sl 6) (RdIs.prod RdIs.int (RdIs.int))))) : RdIs D (Int × (List Breaker) × (List Source) × (List Consumer) × Int × Int) _) S w cs (Board_to x)
theorem rd8 : RdIs D Running (fun x => [⟨(.int .i64), x.State⟩, ⟨(.int .i64), x.Since⟩, ⟨(.int .i64), x.Frequency⟩, ⟨(.int .i64), x.Phase⟩]) := fun S w cs x => (RdIs.prod RdIs.int (RdIs.prod RdIs.int (RdIs.prod RdIs.int (RdIs.int))) : RdIs D (Int × Int × Int × Int) _) S w cs (Running_to x)
theorem rd9 : RdIs D Part (fun x => [⟨(.int .i64), x.Kind⟩, ⟨(.int .i64), x.Number⟩]) := fun S w cs x => (RdIs.prod RdIs.int (RdIs.int) : RdIs D (Int × Int) _) S w cs (Part_to x)
theorem rd7 : RdIs D Power (fun x => [⟨(.sl 1), x.Closed⟩, ⟨(.sl 8), x.Sources⟩, ⟨(.sl 0), x.Limits⟩, ⟨(.sl 9), x.Broken⟩]) := fun S w cs x => (RdIs.prod (RdIs.sl 1) (RdIs.prod (RdIs.sl 8) (RdIs.prod (RdIs.sl 0) ((RdIs.sl 9)))) : RdIs D ((List Bool) × (List Running) × (List Int) × (List Part)) _) S w cs (Power_to x)
theorem rd10 : RdIs D Table (fun x => [⟨(.int .i64), x.Start⟩, ⟨(.int .i64), x.Stop⟩, ⟨(.int .i64), x.Delay⟩]) := fun S w cs x => (RdIs.prod RdIs.int (RdIs.prod RdIs.int (RdIs.int)) : RdIs D (Int × Int × Int) _) S w cs (Table_to x)
theorem rd11 : RdIs D Roster (fun x => [⟨(.int .i64), x.High⟩, ⟨(.int .i64), x.Low⟩]) := fun S w cs x => (RdIs.prod RdIs.int (RdIs.int) : RdIs D (Int × Int) _) S w cs (Roster_to x)
theorem rd13 : RdIs D Island (fun x => [⟨(.sl 0), x.Buses⟩, ⟨(.sl 0), x.Sources⟩, ⟨(.sl 0), x.Consumers⟩]) := fun S w cs x => (RdIs.prod (RdIs.sl 0) (RdIs.prod (RdIs.sl 0) ((RdIs.sl 0))) : RdIs D ((List Int) × (List Int) × (List Int)) _) S w cs (Island_to x)
theorem rd14 : RdIs D Act (fun x => [⟨(.int .i64), x.Kind⟩, ⟨(.int .i64), x.Unit⟩, ⟨(.int .i64), x.Value⟩]) := fun S w cs x => (RdIs.prod RdIs.int (RdIs.prod RdIs.int (RdIs.int)) : RdIs D (Int × Int × Int) _) S w cs (Act_to x)
theorem rd15 : RdIs D Src (fun x => [⟨(.sl 0), x.L⟩, ⟨(.int .i64), x.At⟩]) := fun S w cs x => (RdIs.prod (RdIs.sl 0) (RdIs.int) : RdIs D ((List Int) × Int) _) S w cs (Src_to x)
theorem rd12 : RdIs D (List Int) (fun x => [⟨.sl 0, x⟩]) := RdIs.sl 0
theorem repOk : RepOk T where
  sz := fun n => match n with
    | 0 => rfl
    | 1 => rfl
    | 2 => rfl
    | 3 => rfl
    | 4 => rfl
    | 5 => rfl
    | 6 => rfl
    | 7 => rfl
    | 8 => rfl
    | 9 => rfl
    | 10 => rfl
    | 11 => rfl
    | 12 => rfl
    | 13 => rfl
    | 14 => rfl
    | 15 => rfl
    | _ + 16 => rfl
  ag := fun n => match n with
    | 0 => rfl
    | 1 => rfl
    | 2 => rfl
    | 3 => rfl
    | 4 => rfl
    | 5 => rfl
    | 6 => rfl
    | 7 => rfl
    | 8 => rfl
    | 9 => rfl
    | 10 => rfl
    | 11 => rfl
    | 12 => rfl
    | 13 => rfl
    | 14 => rfl
    | 15 => rfl
    | _ + 16 => rfl
  zc := fun n => match n with
    | 0 => rfl
    | 1 => rfl
    | 2 => rfl
    | 3 => rfl
    | 4 => rfl
    | 5 => rfl
    | 6 => rfl
    | 7 => rfl
    | 8 => rfl
    | 9 => rfl
    | 10 => rfl
    | 11 => rfl
    | 12 => rfl
    | 13 => rfl
    | 14 => rfl
    | 15 => rfl
    | _ + 16 => rfl
  zero := fun n => match n with
    | 0 => rfl
    | 1 => rfl
    | 2 => rfl
    | 3 => rfl
    | 4 => rfl
    | 5 => rfl
    | 6 => rfl
    | 7 => rfl
    | 8 => rfl
    | 9 => rfl
    | 10 => rfl
    | 11 => rfl
    | 12 => rfl
    | 13 => rfl
    | 14 => rfl
    | 15 => rfl
    | _ + 16 => rfl
  rd := fun n S w cs x => match n, x with
    | 0, x => RdIs.int S w cs x
    | 1, x => RdIs.bool S w cs x
    | 2, x => RdIs.str S w cs x
    | 3, x => rd3 S w cs x
    | 4, x => rd4 S w cs x
    | 5, x => rd5 S w cs x
    | 6, x => rd6 S w cs x
    | 7, x => rd7 S w cs x
    | 8, x => rd8 S w cs x
    | 9, x => rd9 S w cs x
    | 10, x => rd10 S w cs x
    | 11, x => rd11 S w cs x
    | 12, x => rd12 S w cs x
    | 13, x => rd13 S w cs x
    | 14, x => rd14 S w cs x
    | 15, x => rd15 S w cs x
    | _ + 16, x => RdIs.int S w cs x
  few := fun n => match n with
    | 0 => by decide
    | 1 => by decide
    | 2 => by decide
    | 3 => by decide
    | 4 => by decide
    | 5 => by decide
    | 6 => by decide
    | 7 => by decide
    | 8 => by decide
    | 9 => by decide
    | 10 => by decide
    | 11 => by decide
    | 12 => by decide
    | 13 => by decide
    | 14 => by decide
    | 15 => by decide
    | _ + 16 => by show 1 ≤ 48; decide
  mkh := fun n h => match n, h with
    | 0, h => rfl
    | 1, h => rfl
    | 2, h => rfl
    | 3, h => rfl
    | 4, h => rfl
    | 5, h => rfl
    | 6, h => rfl
    | 7, h => rfl
    | 8, h => rfl
    | 9, h => rfl
    | 10, h => rfl
    | 11, h => rfl
    | 12, h => rfl
    | 13, h => rfl
    | 14, h => rfl
    | 15, h => rfl
    | _ + 16, h => rfl
theorem tyr3 : TyF Try.prog T 3 (.one (.int .i64)) := ⟨TyR.of Try.underlying3 rfl (by kernel_rfl), Try.underlying3⟩
theorem tyr4 : TyF Try.prog T 4 (.one .bool) := ⟨TyR.of Try.underlying4 rfl (by kernel_rfl), Try.underlying4⟩
theorem tyr22 : TyF Try.prog T 22 (.one (.sl 0)) := ⟨TyR.of Try.underlying22 rfl (by kernel_rfl), trivial⟩
theorem tyr23 : TyF Try.prog T 23 (.one (.sl 4)) := ⟨TyR.of Try.underlying23 rfl (by kernel_rfl), trivial⟩
theorem tyr24 : TyF Try.prog T 24 (.one (.sl 5)) := ⟨TyR.of Try.underlying24 rfl (by kernel_rfl), trivial⟩
theorem tyr25 : TyF Try.prog T 25 (.one (.sl 6)) := ⟨TyR.of Try.underlying25 rfl (by kernel_rfl), trivial⟩
theorem tyr27 : TyF Try.prog T 27 (.st 3) := ⟨TyR.of Try.underlying27 rfl (by kernel_rfl), trivial⟩
theorem tyr28 : TyF Try.prog T 28 (.one (.sl 1)) := ⟨TyR.of Try.underlying28 rfl (by kernel_rfl), trivial⟩
theorem tyr29 : TyF Try.prog T 29 (.one (.sl 8)) := ⟨TyR.of Try.underlying29 rfl (by kernel_rfl), trivial⟩
theorem tyr30 : TyF Try.prog T 30 (.one (.sl 9)) := ⟨TyR.of Try.underlying30 rfl (by kernel_rfl), trivial⟩
theorem tyr32 : TyF Try.prog T 32 (.st 7) := ⟨TyR.of Try.underlying32 rfl (by kernel_rfl), trivial⟩
theorem tyr34 : TyF Try.prog T 34 (.st 10) := ⟨TyR.of Try.underlying34 rfl (by kernel_rfl), trivial⟩
theorem tyr36 : TyF Try.prog T 36 (.st 11) := ⟨TyR.of Try.underlying36 rfl (by kernel_rfl), trivial⟩
theorem tyr39 : TyF Try.prog T 39 (.ptr) := ⟨TyR.of Try.underlying39 rfl (by kernel_rfl), trivial⟩
theorem tyr57 : TyF Try.prog T 57 (.one (.sl 14)) := ⟨TyR.of Try.underlying57 rfl (by kernel_rfl), trivial⟩
theorem tyr64 : TyF Try.prog T 64 (.st 6) := ⟨TyR.of Try.underlying64 rfl (by kernel_rfl), trivial⟩
theorem tyr66 : TyF Try.prog T 66 (.st 4) := ⟨TyR.of Try.underlying66 rfl (by kernel_rfl), trivial⟩
theorem tyr68 : TyF Try.prog T 68 (.st 5) := ⟨TyR.of Try.underlying68 rfl (by kernel_rfl), trivial⟩
theorem tyr70 : TyF Try.prog T 70 (.st 8) := ⟨TyR.of Try.underlying70 rfl (by kernel_rfl), trivial⟩
theorem tyr72 : TyF Try.prog T 72 (.st 14) := ⟨TyR.of Try.underlying72 rfl (by kernel_rfl), trivial⟩
theorem tyr74 : TyF Try.prog T 74 (.st 15) := ⟨TyR.of Try.underlying74 rfl (by kernel_rfl), trivial⟩
theorem tyr80 : TyF Try.prog T 80 (.st 9) := ⟨TyR.of Try.underlying80 rfl (by kernel_rfl), trivial⟩
theorem tyr82 : TyF Try.prog T 82 (.st 13) := ⟨TyR.of Try.underlying82 rfl (by kernel_rfl), trivial⟩
theorem tyr104 : TyF Try.prog T 104 (.one (.sl 13)) := ⟨TyR.of Try.underlying104 rfl (by kernel_rfl), trivial⟩
theorem tyr131 : TyF Try.prog T 131 (.one (.sl 12)) := ⟨TyR.of Try.underlying131 rfl (by kernel_rfl), trivial⟩
theorem slr22 : Try.prog.underlying 22 = some (.slice 3) ∧ TyOk Try.prog 3 (D 0) := ⟨Try.underlying22, TyOk.of Try.underlying3 rfl (by kernel_rfl)⟩
theorem slr23 : Try.prog.underlying 23 = some (.slice 66) ∧ TyOk Try.prog 66 (D 4) := ⟨Try.underlying23, TyOk.of Try.underlying66 rfl (by kernel_rfl)⟩
theorem slr24 : Try.prog.underlying 24 = some (.slice 68) ∧ TyOk Try.prog 68 (D 5) := ⟨Try.underlying24, TyOk.of Try.underlying68 rfl (by kernel_rfl)⟩
theorem slr25 : Try.prog.underlying 25 = some (.slice 64) ∧ TyOk Try.prog 64 (D 6) := ⟨Try.underlying25, TyOk.of Try.underlying64 rfl (by kernel_rfl)⟩
theorem slr28 : Try.prog.underlying 28 = some (.slice 4) ∧ TyOk Try.prog 4 (D 1) := ⟨Try.underlying28, TyOk.of Try.underlying4 rfl (by kernel_rfl)⟩
theorem slr29 : Try.prog.underlying 29 = some (.slice 70) ∧ TyOk Try.prog 70 (D 8) := ⟨Try.underlying29, TyOk.of Try.underlying70 rfl (by kernel_rfl)⟩
theorem slr30 : Try.prog.underlying 30 = some (.slice 80) ∧ TyOk Try.prog 80 (D 9) := ⟨Try.underlying30, TyOk.of Try.underlying80 rfl (by kernel_rfl)⟩
theorem slr57 : Try.prog.underlying 57 = some (.slice 72) ∧ TyOk Try.prog 72 (D 14) := ⟨Try.underlying57, TyOk.of Try.underlying72 rfl (by kernel_rfl)⟩
theorem slr104 : Try.prog.underlying 104 = some (.slice 82) ∧ TyOk Try.prog 82 (D 13) := ⟨Try.underlying104, TyOk.of Try.underlying82 rfl (by kernel_rfl)⟩
theorem slr131 : Try.prog.underlying 131 = some (.slice 22) ∧ TyOk Try.prog 22 (D 12) := ⟨Try.underlying131, TyOk.of Try.underlying22 rfl (by kernel_rfl)⟩
theorem flr27 : StOk Try.prog 27 [(0, 1), (1, 1), (2, 1), (3, 1), (4, 1), (5, 1)] ∧ ∀ i off sz, [((0 : Nat), (1 : Nat)), ((1 : Nat), (1 : Nat)), ((2 : Nat), (1 : Nat)), ((3 : Nat), (1 : Nat)), ((4 : Nat), (1 : Nat)), ((5 : Nat), (1 : Nat))][i]? = some (off, sz) → FldAt Try.prog 27 i off := flds_ok ⟨_, Try.underlying27, by kernel_rfl⟩ rfl
theorem flr32 : StOk Try.prog 32 [(0, 1), (1, 1), (2, 1), (3, 1)] ∧ ∀ i off sz, [((0 : Nat), (1 : Nat)), ((1 : Nat), (1 : Nat)), ((2 : Nat), (1 : Nat)), ((3 : Nat), (1 : Nat))][i]? = some (off, sz) → FldAt Try.prog 32 i off := flds_ok ⟨_, Try.underlying32, by kernel_rfl⟩ rfl
theorem flr34 : StOk Try.prog 34 [(0, 1), (1, 1), (2, 1)] ∧ ∀ i off sz, [((0 : Nat), (1 : Nat)), ((1 : Nat), (1 : Nat)), ((2 : Nat), (1 : Nat))][i]? = some (off, sz) → FldAt Try.prog 34 i off := flds_ok ⟨_, Try.underlying34, by kernel_rfl⟩ rfl
theorem flr36 : StOk Try.prog 36 [(0, 1), (1, 1)] ∧ ∀ i off sz, [((0 : Nat), (1 : Nat)), ((1 : Nat), (1 : Nat))][i]? = some (off, sz) → FldAt Try.prog 36 i off := flds_ok ⟨_, Try.underlying36, by kernel_rfl⟩ rfl
theorem flr64 : StOk Try.prog 64 [(0, 1), (1, 1), (2, 1), (3, 1), (4, 1)] ∧ ∀ i off sz, [((0 : Nat), (1 : Nat)), ((1 : Nat), (1 : Nat)), ((2 : Nat), (1 : Nat)), ((3 : Nat), (1 : Nat)), ((4 : Nat), (1 : Nat))][i]? = some (off, sz) → FldAt Try.prog 64 i off := flds_ok ⟨_, Try.underlying64, by kernel_rfl⟩ rfl
theorem flr66 : StOk Try.prog 66 [(0, 1), (1, 1), (2, 1)] ∧ ∀ i off sz, [((0 : Nat), (1 : Nat)), ((1 : Nat), (1 : Nat)), ((2 : Nat), (1 : Nat))][i]? = some (off, sz) → FldAt Try.prog 66 i off := flds_ok ⟨_, Try.underlying66, by kernel_rfl⟩ rfl
theorem flr68 : StOk Try.prog 68 [(0, 1), (1, 1), (2, 1)] ∧ ∀ i off sz, [((0 : Nat), (1 : Nat)), ((1 : Nat), (1 : Nat)), ((2 : Nat), (1 : Nat))][i]? = some (off, sz) → FldAt Try.prog 68 i off := flds_ok ⟨_, Try.underlying68, by kernel_rfl⟩ rfl
theorem flr70 : StOk Try.prog 70 [(0, 1), (1, 1), (2, 1), (3, 1)] ∧ ∀ i off sz, [((0 : Nat), (1 : Nat)), ((1 : Nat), (1 : Nat)), ((2 : Nat), (1 : Nat)), ((3 : Nat), (1 : Nat))][i]? = some (off, sz) → FldAt Try.prog 70 i off := flds_ok ⟨_, Try.underlying70, by kernel_rfl⟩ rfl
theorem flr72 : StOk Try.prog 72 [(0, 1), (1, 1), (2, 1)] ∧ ∀ i off sz, [((0 : Nat), (1 : Nat)), ((1 : Nat), (1 : Nat)), ((2 : Nat), (1 : Nat))][i]? = some (off, sz) → FldAt Try.prog 72 i off := flds_ok ⟨_, Try.underlying72, by kernel_rfl⟩ rfl
theorem flr74 : StOk Try.prog 74 [(0, 1), (1, 1)] ∧ ∀ i off sz, [((0 : Nat), (1 : Nat)), ((1 : Nat), (1 : Nat))][i]? = some (off, sz) → FldAt Try.prog 74 i off := flds_ok ⟨_, Try.underlying74, by kernel_rfl⟩ rfl
theorem flr80 : StOk Try.prog 80 [(0, 1), (1, 1)] ∧ ∀ i off sz, [((0 : Nat), (1 : Nat)), ((1 : Nat), (1 : Nat))][i]? = some (off, sz) → FldAt Try.prog 80 i off := flds_ok ⟨_, Try.underlying80, by kernel_rfl⟩ rfl
theorem flr82 : StOk Try.prog 82 [(0, 1), (1, 1), (2, 1)] ∧ ∀ i off sz, [((0 : Nat), (1 : Nat)), ((1 : Nat), (1 : Nat)), ((2 : Nat), (1 : Nat))][i]? = some (off, sz) → FldAt Try.prog 82 i off := flds_ok ⟨_, Try.underlying82, by kernel_rfl⟩ rfl
theorem eql3 : EqL Try.prog 3 false [(.int .i64)] 1 := EqL.int Try.underlying3
theorem eql36 : EqL Try.prog 36 true [(.int .i64), (.int .i64)] 2 := by
  refine EqL.struct (k := 1) Try.underlying36 (by kernel_rfl) ?_
  exact ⟨by simp, rfl, false, [(.int .i64)], [(.int .i64)], [.int .i64 0], rfl, TyR.of Try.underlying3 rfl (by kernel_rfl), rfl, fun _ => rfl, eql3.up (by decide), ⟨by simp, rfl, false, [(.int .i64)], [], [.int .i64 0], rfl, TyR.of Try.underlying3 rfl (by kernel_rfl), rfl, fun _ => rfl, eql3.up (by decide), rfl⟩⟩
theorem eqr36 : EqT Try.prog 36 [(.int .i64), (.int .i64)] ∧ ([(.int .i64), (.int .i64)] : List Lf).all flatL = true := ⟨⟨⟨2, by decide, eql36⟩, by kernel_rfl⟩, rfl⟩
theorem eql66 : EqL Try.prog 66 true [(.int .i64), (.int .i64), (.int .i64)] 2 := by
  refine EqL.struct (k := 1) Try.underlying66 (by kernel_rfl) ?_
  exact ⟨by simp, rfl, false, [(.int .i64)], [(.int .i64), (.int .i64)], [.int .i64 0], rfl, TyR.of Try.underlying3 rfl (by kernel_rfl), rfl, fun _ => rfl, eql3.up (by decide), ⟨by simp, rfl, false, [(.int .i64)], [(.int .i64)], [.int .i64 0], rfl, TyR.of Try.underlying3 rfl (by kernel_rfl), rfl, fun _ => rfl, eql3.up (by decide), ⟨by simp, rfl, false, [(.int .i64)], [], [.int .i64 0], rfl, TyR.of Try.underlying3 rfl (by kernel_rfl), rfl, fun _ => rfl, eql3.up (by decide), rfl⟩⟩⟩
theorem eqr66 : EqT Try.prog 66 [(.int .i64), (.int .i64), (.int .i64)] ∧ ([(.int .i64), (.int .i64), (.int .i64)] : List Lf).all flatL = true := ⟨⟨⟨2, by decide, eql66⟩, by kernel_rfl⟩, rfl⟩
theorem eql72 : EqL Try.prog 72 true [(.int .i64), (.int .i64), (.int .i64)] 2 := by
  refine EqL.struct (k := 1) Try.underlying72 (by kernel_rfl) ?_
  exact ⟨by simp, rfl, false, [(.int .i64)], [(.int .i64), (.int .i64)], [.int .i64 0], rfl, TyR.of Try.underlying3 rfl (by kernel_rfl), rfl, fun _ => rfl, eql3.up (by decide), ⟨by simp, rfl, false, [(.int .i64)], [(.int .i64)], [.int .i64 0], rfl, TyR.of Try.underlying3 rfl (by kernel_rfl), rfl, fun _ => rfl, eql3.up (by decide), ⟨by simp, rfl, false, [(.int .i64)], [], [.int .i64 0], rfl, TyR.of Try.underlying3 rfl (by kernel_rfl), rfl, fun _ => rfl, eql3.up (by decide), rfl⟩⟩⟩
theorem eqr72 : EqT Try.prog 72 [(.int .i64), (.int .i64), (.int .i64)] ∧ ([(.int .i64), (.int .i64), (.int .i64)] : List Lf).all flatL = true := ⟨⟨⟨2, by decide, eql72⟩, by kernel_rfl⟩, rfl⟩
theorem eql80 : EqL Try.prog 80 true [(.int .i64), (.int .i64)] 2 := by
  refine EqL.struct (k := 1) Try.underlying80 (by kernel_rfl) ?_
  exact ⟨by simp, rfl, false, [(.int .i64)], [(.int .i64)], [.int .i64 0], rfl, TyR.of Try.underlying3 rfl (by kernel_rfl), rfl, fun _ => rfl, eql3.up (by decide), ⟨by simp, rfl, false, [(.int .i64)], [], [.int .i64 0], rfl, TyR.of Try.underlying3 rfl (by kernel_rfl), rfl, fun _ => rfl, eql3.up (by decide), rfl⟩⟩
theorem eqr80 : EqT Try.prog 80 [(.int .i64), (.int .i64)] ∧ ([(.int .i64), (.int .i64)] : List Lf).all flatL = true := ⟨⟨⟨2, by decide, eql80⟩, by kernel_rfl⟩, rfl⟩
instance : Flat Breaker := ⟨fun h => Flat.any (α := Int × Int × Int) h⟩
instance : Flat Source := ⟨fun h => Flat.any (α := Int × Int × Int) h⟩
instance : Flat Running := ⟨fun h => Flat.any (α := Int × Int × Int × Int) h⟩
instance : Flat Part := ⟨fun h => Flat.any (α := Int × Int) h⟩
instance : Flat Table := ⟨fun h => Flat.any (α := Int × Int × Int) h⟩
instance : Flat Roster := ⟨fun h => Flat.any (α := Int × Int) h⟩
instance : Flat Act := ⟨fun h => Flat.any (α := Int × Int × Int) h⟩
theorem flat0 : Flat (D 0) := (inferInstance : Flat Int)
theorem flat1 : Flat (D 1) := (inferInstance : Flat Bool)
theorem flat2 : Flat (D 2) := (inferInstance : Flat ByteArray)
theorem flat4 : Flat (D 4) := (inferInstance : Flat Breaker)
theorem flat5 : Flat (D 5) := (inferInstance : Flat Source)
theorem flat8 : Flat (D 8) := (inferInstance : Flat Running)
theorem flat9 : Flat (D 9) := (inferInstance : Flat Part)
theorem flat10 : Flat (D 10) := (inferInstance : Flat Table)
theorem flat11 : Flat (D 11) := (inferInstance : Flat Roster)
theorem flat14 : Flat (D 14) := (inferInstance : Flat Act)
theorem kdr12 : KidT Try.prog D 12 3 0 := ⟨(inferInstance : OneLevel (List Int)), (inferInstance : Flat Int), TyOk.of Try.underlying3 rfl (by kernel_rfl), rfl⟩
instance : OneLevel Island := ⟨fun h => OneLevel.loc (α := (List Int) × (List Int) × (List Int)) h⟩
theorem kdr13 : KidT Try.prog D 13 3 0 := ⟨(inferInstance : OneLevel Island), (inferInstance : Flat Int), TyOk.of Try.underlying3 rfl (by kernel_rfl), rfl⟩
theorem arr43 : ArrT Try.prog D 43 2 27 3 := ArrT.of Try.underlying43 (TyOk.of Try.underlying27 rfl (by kernel_rfl)) (by kernel_rfl)
theorem arr45 : ArrT Try.prog D 45 3 32 7 := ArrT.of Try.underlying45 (TyOk.of Try.underlying32 rfl (by kernel_rfl)) (by kernel_rfl)
theorem arr48 : ArrT Try.prog D 48 3 34 10 := ArrT.of Try.underlying48 (TyOk.of Try.underlying34 rfl (by kernel_rfl)) (by kernel_rfl)
theorem arr50 : ArrT Try.prog D 50 3 3 0 := ArrT.of Try.underlying50 (TyOk.of Try.underlying3 rfl (by kernel_rfl)) (by kernel_rfl)
theorem arr55 : ArrT Try.prog D 55 2 36 11 := ArrT.of Try.underlying55 (TyOk.of Try.underlying36 rfl (by kernel_rfl)) (by kernel_rfl)
theorem arr56 : ArrT Try.prog D 56 2 3 0 := ArrT.of Try.underlying56 (TyOk.of Try.underlying3 rfl (by kernel_rfl)) (by kernel_rfl)
theorem pOk : POk Try.prog T := POk.of (⟨tyr3, tyr4, tyr22, tyr23, tyr24, tyr25, tyr27, tyr28, tyr29, tyr30, tyr32, tyr34, tyr36, tyr39, tyr57, tyr64, tyr66, tyr68, tyr70, tyr72, tyr74, tyr80, tyr82, tyr104, tyr131, trivial⟩) (⟨slr22, slr23, slr24, slr25, slr28, slr29, slr30, slr57, slr104, slr131, trivial⟩) (⟨flr27, flr32, flr34, flr36, flr64, flr66, flr68, flr70, flr72, flr74, flr80, flr82, trivial⟩) (⟨eqr36, eqr66, eqr72, eqr80, trivial⟩) (⟨kdr12, kdr13, trivial⟩) (⟨arr43, arr45, arr48, arr50, arr55, arr56, trivial⟩) (trivial)
theorem hmix : Try.prog.follows .mixedOrders = true := by kernel_rfl
def bodyOf (f : Func) : Code := match f.body with
  | some c => c
  | none => .skip
end Rx
end Go.Proofs.Ytcekgnnekooohaa
