import Derived.Test.YtfnphdhcgkondaaGreatRp
import Derived.Test.YtfnphdhcgkondaaGreatProg
import Derived.KernelRfl
set_option linter.unusedVariables false
namespace Go.Proofs.YtfnphdhcgkondaaGreat
open Go Go.RowKit Dp
namespace Rx
structure Breaker where
 Kind : Int
 A : Int
 B : Int
def Breaker_to (x : Breaker) : Int × Int × Int := (x.Kind, x.A, x.B)
instance : Rep Breaker := Rep.via Breaker_to ⟨Rep.zero, Rep.zero, Rep.zero⟩ rfl
structure Source where
 Rating : Int
 Least : Int
 Start : Int
def Source_to (x : Source) : Int × Int × Int := (x.Rating, x.Least, x.Start)
instance : Rep Source := Rep.via Source_to ⟨Rep.zero, Rep.zero, Rep.zero⟩ rfl
structure Consumer where
 Load : Int
 Least : Int
 Preference : Int
 Thruster : Int
 Needs : (List Int)
def Consumer_to (x : Consumer) : Int × Int × Int × Int × (List Int) := (x.Load, x.Least, x.Preference, x.Thruster, x.Needs)
instance : Rep Consumer := Rep.via Consumer_to ⟨Rep.zero, Rep.zero, Rep.zero, Rep.zero, Rep.zero⟩ rfl
structure Board where
 Buses : Int
 Breakers : (List Breaker)
 Sources : (List Source)
 Consumers : (List Consumer)
 Phase : Int
 Frequency : Int
def Board_to (x : Board) : Int × (List Breaker) × (List Source) × (List Consumer) × Int × Int := (x.Buses, x.Breakers, x.Sources, x.Consumers, x.Phase, x.Frequency)
instance : Rep Board := Rep.via Board_to ⟨Rep.zero, Rep.zero, Rep.zero, Rep.zero, Rep.zero, Rep.zero⟩ rfl
structure Running where
 State : Int
 Since : Int
 Frequency : Int
 Phase : Int
def Running_to (x : Running) : Int × Int × Int × Int := (x.State, x.Since, x.Frequency, x.Phase)
instance : Rep Running := Rep.via Running_to ⟨Rep.zero, Rep.zero, Rep.zero, Rep.zero⟩ rfl
structure Part where
 Kind : Int
 Number : Int
def Part_to (x : Part) : Int × Int := (x.Kind, x.Number)
instance : Rep Part := Rep.via Part_to ⟨Rep.zero, Rep.zero⟩ rfl
structure Power where
 Closed : (List Bool)
 Sources : (List Running)
 Limits : (List Int)
 Broken : (List Part)
def Power_to (x : Power) : (List Bool) × (List Running) × (List Int) × (List Part) := (x.Closed, x.Sources, x.Limits, x.Broken)
instance : Rep Power := Rep.via Power_to ⟨Rep.zero, Rep.zero, Rep.zero, Rep.zero⟩ rfl
structure Act where
 Kind : Int
 Unit : Int
 Value : Int
def Act_to (x : Act) : Int × Int × Int := (x.Kind, x.Unit, x.Value)
instance : Rep Act := Rep.via Act_to ⟨Rep.zero, Rep.zero, Rep.zero⟩ rfl
structure relief where
 board : Board
 power : Power
 acts : (List Act)
def relief_to (x : relief) : Board × Power × (List Act) := (x.board, x.power, x.acts)
instance : Rep relief := Rep.via relief_to ⟨Rep.zero, Rep.zero, Rep.zero⟩ rfl
structure Island where
 Buses : (List Int)
 Sources : (List Int)
 Consumers : (List Int)
def Island_to (x : Island) : (List Int) × (List Int) × (List Int) := (x.Buses, x.Sources, x.Consumers)
instance : Rep Island := Rep.via Island_to ⟨Rep.zero, Rep.zero, Rep.zero⟩ rfl
structure Src where
 L : (List Int)
 At : Int
def Src_to (x : Src) : (List Int) × Int := (x.L, x.At)
instance : Rep Src := Rep.via Src_to ⟨Rep.zero, Rep.zero⟩ rfl
@[reducible] def D (n : Nat) : Type := match n with
 | 0 => Int
 | 1 => Bool
 | 2 => ByteArray
 | 3 => Board
 | 4 => Breaker
 | 5 => Source
 | 6 => Consumer
 | 7 => Power
 | 8 => Running
 | 9 => Part
 | 10 => Act
 | 11 => relief
 | 12 => (List Int)
 | 13 => Island
 | 14 => Src
 | _ => Int
instance repD (n : Nat) : Rep (D n) := match n with
 | 0 => inferInstanceAs (Rep Int)
 | 1 => inferInstanceAs (Rep Bool)
 | 2 => inferInstanceAs (Rep ByteArray)
 | 3 => inferInstanceAs (Rep Board)
 | 4 => inferInstanceAs (Rep Breaker)
 | 5 => inferInstanceAs (Rep Source)
 | 6 => inferInstanceAs (Rep Consumer)
 | 7 => inferInstanceAs (Rep Power)
 | 8 => inferInstanceAs (Rep Running)
 | 9 => inferInstanceAs (Rep Part)
 | 10 => inferInstanceAs (Rep Act)
 | 11 => inferInstanceAs (Rep relief)
 | 12 => inferInstanceAs (Rep (List Int))
 | 13 => inferInstanceAs (Rep Island)
 | 14 => inferInstanceAs (Rep Src)
 | _ + 15 => inferInstanceAs (Rep Int)
def tabLv (n : Nat) : List Lf := match n with
 | 0 => [(.int .i64)]
 | 1 => [.bool]
 | 2 => [.str]
 | 3 => [(.int .i64), (.sl 4), (.sl 5), (.sl 6), (.int .i64), (.int .i64)]
 | 4 => [(.int .i64), (.int .i64), (.int .i64)]
 | 5 => [(.int .i64), (.int .i64), (.int .i64)]
 | 6 => [(.int .i64), (.int .i64), (.int .i64), (.int .i64), (.sl 0)]
 | 7 => [(.sl 1), (.sl 8), (.sl 0), (.sl 9)]
 | 8 => [(.int .i64), (.int .i64), (.int .i64), (.int .i64)]
 | 9 => [(.int .i64), (.int .i64)]
 | 10 => [(.int .i64), (.int .i64), (.int .i64)]
 | 11 => [(.int .i64), (.sl 4), (.sl 5), (.sl 6), (.int .i64), (.int .i64), (.sl 1), (.sl 8), (.sl 0), (.sl 9), (.sl 10)]
 | 12 => [(.sl 0)]
 | 13 => [(.sl 0), (.sl 0), (.sl 0)]
 | 14 => [(.sl 0), (.int .i64)]
 | _ => [.int .i64]
def tabAg (n : Nat) : Bool := match n with
 | 0 => false
 | 1 => false
 | 2 => false
 | 3 => true
 | 4 => true
 | 5 => true
 | 6 => true
 | 7 => true
 | 8 => true
 | 9 => true
 | 10 => true
 | 11 => true
 | 12 => false
 | 13 => true
 | 14 => true
 | _ => false
def tabOut : ∀ n : Nat, D n → HL D (tabLv n)
 | 0 => fun x => x
 | 1 => fun x => x
 | 2 => fun x => x
 | 3 => fun x => (x.Buses, x.Breakers, x.Sources, x.Consumers, x.Phase, x.Frequency)
 | 4 => fun x => (x.Kind, x.A, x.B)
 | 5 => fun x => (x.Rating, x.Least, x.Start)
 | 6 => fun x => (x.Load, x.Least, x.Preference, x.Thruster, x.Needs)
 | 7 => fun x => (x.Closed, x.Sources, x.Limits, x.Broken)
 | 8 => fun x => (x.State, x.Since, x.Frequency, x.Phase)
 | 9 => fun x => (x.Kind, x.Number)
 | 10 => fun x => (x.Kind, x.Unit, x.Value)
 | 11 => fun x => (x.board.Buses, x.board.Breakers, x.board.Sources, x.board.Consumers, x.board.Phase, x.board.Frequency, x.power.Closed, x.power.Sources, x.power.Limits, x.power.Broken, x.acts)
 | 12 => fun x => x
 | 13 => fun x => (x.Buses, x.Sources, x.Consumers)
 | 14 => fun x => (x.L, x.At)
 | _ + 15 => fun x => x
def tabMk : ∀ n : Nat, HL D (tabLv n) → D n
 | 0 => fun h => h
 | 1 => fun h => h
 | 2 => fun h => h
 | 3 => fun h => ⟨h.1, h.2.1, h.2.2.1, h.2.2.2.1, h.2.2.2.2.1, h.2.2.2.2.2⟩
 | 4 => fun h => ⟨h.1, h.2.1, h.2.2⟩
 | 5 => fun h => ⟨h.1, h.2.1, h.2.2⟩
 | 6 => fun h => ⟨h.1, h.2.1, h.2.2.1, h.2.2.2.1, h.2.2.2.2⟩
 | 7 => fun h => ⟨h.1, h.2.1, h.2.2.1, h.2.2.2⟩
 | 8 => fun h => ⟨h.1, h.2.1, h.2.2.1, h.2.2.2⟩
 | 9 => fun h => ⟨h.1, h.2⟩
 | 10 => fun h => ⟨h.1, h.2.1, h.2.2⟩
 | 11 => fun h => ⟨⟨h.1, h.2.1, h.2.2.1, h.2.2.2.1, h.2.2.2.2.1, h.2.2.2.2.2.1⟩, ⟨h.2.2.2.2.2.2.1, h.2.2.2.2.2.2.2.1, h.2.2.2.2.2.2.2.2.1, h.2.2.2.2.2.2.2.2.2.1⟩, h.2.2.2.2.2.2.2.2.2.2⟩
 | 12 => fun h => h
 | 13 => fun h => ⟨h.1, h.2.1, h.2.2⟩
 | 14 => fun h => ⟨h.1, h.2⟩
 | _ + 15 => fun h => h
def tabZero : ∀ n : Nat, D n
 | 0 => (0 : Int)
 | 1 => false
 | 2 => ByteArray.empty
 | 3 => (⟨(0 : Int), [], [], [], (0 : Int), (0 : Int)⟩ : Board)
 | 4 => (⟨(0 : Int), (0 : Int), (0 : Int)⟩ : Breaker)
 | 5 => (⟨(0 : Int), (0 : Int), (0 : Int)⟩ : Source)
 | 6 => (⟨(0 : Int), (0 : Int), (0 : Int), (0 : Int), []⟩ : Consumer)
 | 7 => (⟨[], [], [], []⟩ : Power)
 | 8 => (⟨(0 : Int), (0 : Int), (0 : Int), (0 : Int)⟩ : Running)
 | 9 => (⟨(0 : Int), (0 : Int)⟩ : Part)
 | 10 => (⟨(0 : Int), (0 : Int), (0 : Int)⟩ : Act)
 | 11 => (⟨⟨(0 : Int), [], [], [], (0 : Int), (0 : Int)⟩, ⟨[], [], [], []⟩, []⟩ : relief)
 | 12 => ([] : (List Int))
 | 13 => (⟨[], [], []⟩ : Island)
 | 14 => (⟨[], (0 : Int)⟩ : Src)
 | _ + 15 => (0 : Int)
def T : Tab D where
 lv := tabLv
 ag := tabAg
 outH := tabOut
 mkH := tabMk
 zero := tabZero
 ty := [(3, .one (.int .i64)), (4, .one .bool), (22, .one (.sl 0)), (23, .ptr), (25, .one (.sl 4)), (26, .one (.sl 5)), (27, .one (.sl 6)), (29, .st 3), (30, .one (.sl 1)), (31, .one (.sl 8)), (32, .one (.sl 9)), (34, .st 7), (37, .one (.sl 10)), (38, .one (.int .i64)), (44, .st 4), (48, .st 8), (51, .one (.sl 13)), (54, .st 13), (57, .st 6), (74, .st 10), (76, .st 14), (81, .ptr), (84, .st 9), (89, .st 5), (101, .fn), (107, .st 11), (133, .one (.sl 12))]
 fld := [(29, [(0, 1), (1, 1), (2, 1), (3, 1), (4, 1), (5, 1)]), (34, [(0, 1), (1, 1), (2, 1), (3, 1)]), (44, [(0, 1), (1, 1), (2, 1)]), (48, [(0, 1), (1, 1), (2, 1), (3, 1)]), (54, [(0, 1), (1, 1), (2, 1)]), (57, [(0, 1), (1, 1), (2, 1), (3, 1), (4, 1)]), (74, [(0, 1), (1, 1), (2, 1)]), (76, [(0, 1), (1, 1)]), (84, [(0, 1), (1, 1)]), (89, [(0, 1), (1, 1), (2, 1)]), (107, [(0, 6), (6, 4), (10, 1)])]
 els := [(22, 3, 0), (25, 44, 4), (26, 89, 5), (27, 57, 6), (30, 4, 1), (31, 48, 8), (32, 84, 9), (37, 74, 10), (51, 54, 13), (133, 22, 12)]
 eqs := [(44, [(.int .i64), (.int .i64), (.int .i64)]), (48, [(.int .i64), (.int .i64), (.int .i64), (.int .i64)]), (74, [(.int .i64), (.int .i64), (.int .i64)]), (84, [(.int .i64), (.int .i64)])]
 kd := [(12, 3, 0), (13, 3, 0)]
 ars := [(65, 2, 29, 3), (67, 3, 34, 7), (69, 2, 3, 0)]
 pre := []
 mps := []
theorem rd4 : RdIs D Breaker (fun x => [⟨(.int .i64), x.Kind⟩, ⟨(.int .i64), x.A⟩, ⟨(.int .i64), x.B⟩]) := fun S w cs x => (RdIs.prod RdIs.int (RdIs.prod RdIs.int (RdIs.int)) : RdIs D (Int × Int × Int) _) S w cs (Breaker_to x)
theorem rd5 : RdIs D Source (fun x => [⟨(.int .i64), x.Rating⟩, ⟨(.int .i64), x.Least⟩, ⟨(.int .i64), x.Start⟩]) := fun S w cs x => (RdIs.prod RdIs.int (RdIs.prod RdIs.int (RdIs.int)) : RdIs D (Int × Int × Int) _) S w cs (Source_to x)
theorem rd6 : RdIs D Consumer (fun x => [⟨(.int .i64), x.Load⟩, ⟨(.int .i64), x.Least⟩, ⟨(.int .i64), x.Preference⟩, ⟨(.int .i64), x.Thruster⟩, ⟨(.sl 0), x.Needs⟩]) := fun S w cs x => (RdIs.prod RdIs.int (RdIs.prod RdIs.int (RdIs.prod RdIs.int (RdIs.prod RdIs.int ((RdIs.sl 0))))) : RdIs D (Int × Int × Int × Int × (List Int)) _) S w cs (Consumer_to x)
theorem rd3 : RdIs D Board (fun x => [⟨(.int .i64), x.Buses⟩, ⟨(.sl 4), x.Breakers⟩, ⟨(.sl 5), x.Sources⟩, ⟨(.sl 6), x.Consumers⟩, ⟨(.int .i64), x.Phase⟩, ⟨(.int .i64), x.Frequency⟩]) := fun S w cs x => (RdIs.prod RdIs.int (RdIs.prod (RdIs.sl 4) (RdIs.prod (RdIs.sl 5) (RdIs.prod (RdIs.sl 6) (RdIs.prod RdIs.int (RdIs.int))))) : RdIs D (Int × (List Breaker) × (List Source) × (List Consumer) × Int × Int) _) S w cs (Board_to x)
theorem rd8 : RdIs D Running (fun x => [⟨(.int .i64), x.State⟩, ⟨(.int .i64), x.Since⟩, ⟨(.int .i64), x.Frequency⟩, ⟨(.int .i64), x.Phase⟩]) := fun S w cs x => (RdIs.prod RdIs.int (RdIs.prod RdIs.int (RdIs.prod RdIs.int (RdIs.int))) : RdIs D (Int × Int × Int × Int) _) S w cs (Running_to x)
theorem rd9 : RdIs D Part (fun x => [⟨(.int .i64), x.Kind⟩, ⟨(.int .i64), x.Number⟩]) := fun S w cs x => (RdIs.prod RdIs.int (RdIs.int) : RdIs D (Int × Int) _) S w cs (Part_to x)
theorem rd7 : RdIs D Power (fun x => [⟨(.sl 1), x.Closed⟩, ⟨(.sl 8), x.Sources⟩, ⟨(.sl 0), x.Limits⟩, ⟨(.sl 9), x.Broken⟩]) := fun S w cs x => (RdIs.prod (RdIs.sl 1) (RdIs.prod (RdIs.sl 8) (RdIs.prod (RdIs.sl 0) ((RdIs.sl 9)))) : RdIs D ((List Bool) × (List Running) × (List Int) × (List Part)) _) S w cs (Power_to x)
theorem rd10 : RdIs D Act (fun x => [⟨(.int .i64), x.Kind⟩, ⟨(.int .i64), x.Unit⟩, ⟨(.int .i64), x.Value⟩]) := fun S w cs x => (RdIs.prod RdIs.int (RdIs.prod RdIs.int (RdIs.int)) : RdIs D (Int × Int × Int) _) S w cs (Act_to x)
theorem rd11 : RdIs D relief (fun x => [⟨(.int .i64), x.board.Buses⟩, ⟨(.sl 4), x.board.Breakers⟩, ⟨(.sl 5), x.board.Sources⟩, ⟨(.sl 6), x.board.Consumers⟩, ⟨(.int .i64), x.board.Phase⟩, ⟨(.int .i64), x.board.Frequency⟩, ⟨(.sl 1), x.power.Closed⟩, ⟨(.sl 8), x.power.Sources⟩, ⟨(.sl 0), x.power.Limits⟩, ⟨(.sl 9), x.power.Broken⟩, ⟨(.sl 10), x.acts⟩]) := fun S w cs x => (RdIs.prod rd3 (RdIs.prod rd7 ((RdIs.sl 10))) : RdIs D (Board × Power × (List Act)) _) S w cs (relief_to x)
theorem rd13 : RdIs D Island (fun x => [⟨(.sl 0), x.Buses⟩, ⟨(.sl 0), x.Sources⟩, ⟨(.sl 0), x.Consumers⟩]) := fun S w cs x => (RdIs.prod (RdIs.sl 0) (RdIs.prod (RdIs.sl 0) ((RdIs.sl 0))) : RdIs D ((List Int) × (List Int) × (List Int)) _) S w cs (Island_to x)
theorem rd14 : RdIs D Src (fun x => [⟨(.sl 0), x.L⟩, ⟨(.int .i64), x.At⟩]) := fun S w cs x => (RdIs.prod (RdIs.sl 0) (RdIs.int) : RdIs D ((List Int) × Int) _) S w cs (Src_to x)
theorem rd12 : RdIs D (List Int) (fun x => [⟨.sl 0, x⟩]) := RdIs.sl 0
theorem repOk : RepOk T where
 sz := fun n => match n with
  | 0 => rfl
  | 1 => rfl
  | 2 => rfl
  | 3 => rfl
  | 4 => rfl
  | 5 => rfl
  | 6 => rfl
  | 7 => rfl
  | 8 => rfl
  | 9 => rfl
  | 10 => rfl
  | 11 => rfl
  | 12 => rfl
  | 13 => rfl
  | 14 => rfl
  | _ + 15 => rfl
 ag := fun n => match n with
  | 0 => rfl
  | 1 => rfl
  | 2 => rfl
  | 3 => rfl
  | 4 => rfl
  | 5 => rfl
  | 6 => rfl
  | 7 => rfl
  | 8 => rfl
  | 9 => rfl
  | 10 => rfl
  | 11 => rfl
  | 12 => rfl
  | 13 => rfl
  | 14 => rfl
  | _ + 15 => rfl
 zc := fun n => match n with
  | 0 => rfl
  | 1 => rfl
  | 2 => rfl
  | 3 => rfl
  | 4 => rfl
  | 5 => rfl
  | 6 => rfl
  | 7 => rfl
  | 8 => rfl
  | 9 => rfl
  | 10 => rfl
  | 11 => rfl
  | 12 => rfl
  | 13 => rfl
  | 14 => rfl
  | _ + 15 => rfl
 zero := fun n => match n with
  | 0 => rfl
  | 1 => rfl
  | 2 => rfl
  | 3 => rfl
  | 4 => rfl
  | 5 => rfl
  | 6 => rfl
  | 7 => rfl
  | 8 => rfl
  | 9 => rfl
  | 10 => rfl
  | 11 => rfl
  | 12 => rfl
  | 13 => rfl
  | 14 => rfl
  | _ + 15 => rfl
 rd := fun n S w cs x => match n, x with
  | 0, x => RdIs.int S w cs x
  | 1, x => RdIs.bool S w cs x
  | 2, x => RdIs.str S w cs x
  | 3, x => rd3 S w cs x
  | 4, x => rd4 S w cs x
  | 5, x => rd5 S w cs x
  | 6, x => rd6 S w cs x
  | 7, x => rd7 S w cs x
  | 8, x => rd8 S w cs x
  | 9, x => rd9 S w cs x
  | 10, x => rd10 S w cs x
  | 11, x => rd11 S w cs x
  | 12, x => rd12 S w cs x
  | 13, x => rd13 S w cs x
  | 14, x => rd14 S w cs x
  | _ + 15, x => RdIs.int S w cs x
 few := fun n => match n with
  | 0 => by decide
  | 1 => by decide
  | 2 => by decide
  | 3 => by decide
  | 4 => by decide
  | 5 => by decide
  | 6 => by decide
  | 7 => by decide
  | 8 => by decide
  | 9 => by decide
  | 10 => by decide
  | 11 => by decide
  | 12 => by decide
  | 13 => by decide
  | 14 => by decide
  | _ + 15 => by show 1 ≤ 48; decide
 mkh := fun n h => match n, h with
  | 0, h => rfl
  | 1, h => rfl
  | 2, h => rfl
  | 3, h => rfl
  | 4, h => rfl
  | 5, h => rfl
  | 6, h => rfl
  | 7, h => rfl
  | 8, h => rfl
  | 9, h => rfl
  | 10, h => rfl
  | 11, h => rfl
  | 12, h => rfl
  | 13, h => rfl
  | 14, h => rfl
  | _ + 15, h => rfl
theorem tyr3 : TyF Tryz.prog T 3 (.one (.int .i64)) := ⟨TyR.of Tryz.underlying3 rfl (by kernel_rfl), Tryz.underlying3⟩
theorem tyr4 : TyF Tryz.prog T 4 (.one .bool) := ⟨TyR.of Tryz.underlying4 rfl (by kernel_rfl), Tryz.underlying4⟩
theorem tyr22 : TyF Tryz.prog T 22 (.one (.sl 0)) := ⟨TyR.of Tryz.underlying22 rfl (by kernel_rfl), trivial⟩
theorem tyr23 : TyF Tryz.prog T 23 (.ptr) := ⟨TyR.of Tryz.underlying23 rfl (by kernel_rfl), trivial⟩
theorem tyr25 : TyF Tryz.prog T 25 (.one (.sl 4)) := ⟨TyR.of Tryz.underlying25 rfl (by kernel_rfl), trivial⟩
theorem tyr26 : TyF Tryz.prog T 26 (.one (.sl 5)) := ⟨TyR.of Tryz.underlying26 rfl (by kernel_rfl), trivial⟩
theorem tyr27 : TyF Tryz.prog T 27 (.one (.sl 6)) := ⟨TyR.of Tryz.underlying27 rfl (by kernel_rfl), trivial⟩
theorem tyr29 : TyF Tryz.prog T 29 (.st 3) := ⟨TyR.of Tryz.underlying29 rfl (by kernel_rfl), trivial⟩
theorem tyr30 : TyF Tryz.prog T 30 (.one (.sl 1)) := ⟨TyR.of Tryz.underlying30 rfl (by kernel_rfl), trivial⟩
theorem tyr31 : TyF Tryz.prog T 31 (.one (.sl 8)) := ⟨TyR.of Tryz.underlying31 rfl (by kernel_rfl), trivial⟩
theorem tyr32 : TyF Tryz.prog T 32 (.one (.sl 9)) := ⟨TyR.of Tryz.underlying32 rfl (by kernel_rfl), trivial⟩
theorem tyr34 : TyF Tryz.prog T 34 (.st 7) := ⟨TyR.of Tryz.underlying34 rfl (by kernel_rfl), trivial⟩
theorem tyr37 : TyF Tryz.prog T 37 (.one (.sl 10)) := ⟨TyR.of Tryz.underlying37 rfl (by kernel_rfl), trivial⟩
theorem tyr38 : TyF Tryz.prog T 38 (.one (.int .i64)) := ⟨TyR.of Tryz.underlying38 rfl (by kernel_rfl), Tryz.underlying38⟩
theorem tyr44 : TyF Tryz.prog T 44 (.st 4) := ⟨TyR.of Tryz.underlying44 rfl (by kernel_rfl), trivial⟩
theorem tyr48 : TyF Tryz.prog T 48 (.st 8) := ⟨TyR.of Tryz.underlying48 rfl (by kernel_rfl), trivial⟩
theorem tyr51 : TyF Tryz.prog T 51 (.one (.sl 13)) := ⟨TyR.of Tryz.underlying51 rfl (by kernel_rfl), trivial⟩
theorem tyr54 : TyF Tryz.prog T 54 (.st 13) := ⟨TyR.of Tryz.underlying54 rfl (by kernel_rfl), trivial⟩
theorem tyr57 : TyF Tryz.prog T 57 (.st 6) := ⟨TyR.of Tryz.underlying57 rfl (by kernel_rfl), trivial⟩
theorem tyr74 : TyF Tryz.prog T 74 (.st 10) := ⟨TyR.of Tryz.underlying74 rfl (by kernel_rfl), trivial⟩
theorem tyr76 : TyF Tryz.prog T 76 (.st 14) := ⟨TyR.of Tryz.underlying76 rfl (by kernel_rfl), trivial⟩
theorem tyr81 : TyF Tryz.prog T 81 (.ptr) := ⟨TyR.of Tryz.underlying81 rfl (by kernel_rfl), trivial⟩
theorem tyr84 : TyF Tryz.prog T 84 (.st 9) := ⟨TyR.of Tryz.underlying84 rfl (by kernel_rfl), trivial⟩
theorem tyr89 : TyF Tryz.prog T 89 (.st 5) := ⟨TyR.of Tryz.underlying89 rfl (by kernel_rfl), trivial⟩
theorem tyr101 : TyF Tryz.prog T 101 (.fn) := ⟨TyR.of Tryz.underlying101 rfl (by kernel_rfl), trivial⟩
theorem tyr107 : TyF Tryz.prog T 107 (.st 11) := ⟨TyR.of Tryz.underlying107 rfl (by kernel_rfl), trivial⟩
theorem tyr133 : TyF Tryz.prog T 133 (.one (.sl 12)) := ⟨TyR.of Tryz.underlying133 rfl (by kernel_rfl), trivial⟩
theorem slr22 : Tryz.prog.underlying 22 = some (.slice 3) ∧ TyOk Tryz.prog 3 (D 0) := ⟨Tryz.underlying22, TyOk.of Tryz.underlying3 rfl (by kernel_rfl)⟩
theorem slr25 : Tryz.prog.underlying 25 = some (.slice 44) ∧ TyOk Tryz.prog 44 (D 4) := ⟨Tryz.underlying25, TyOk.of Tryz.underlying44 rfl (by kernel_rfl)⟩
theorem slr26 : Tryz.prog.underlying 26 = some (.slice 89) ∧ TyOk Tryz.prog 89 (D 5) := ⟨Tryz.underlying26, TyOk.of Tryz.underlying89 rfl (by kernel_rfl)⟩
theorem slr27 : Tryz.prog.underlying 27 = some (.slice 57) ∧ TyOk Tryz.prog 57 (D 6) := ⟨Tryz.underlying27, TyOk.of Tryz.underlying57 rfl (by kernel_rfl)⟩
theorem slr30 : Tryz.prog.underlying 30 = some (.slice 4) ∧ TyOk Tryz.prog 4 (D 1) := ⟨Tryz.underlying30, TyOk.of Tryz.underlying4 rfl (by kernel_rfl)⟩
theorem slr31 : Tryz.prog.underlying 31 = some (.slice 48) ∧ TyOk Tryz.prog 48 (D 8) := ⟨Tryz.underlying31, TyOk.of Tryz.underlying48 rfl (by kernel_rfl)⟩
theorem slr32 : Tryz.prog.underlying 32 = some (.slice 84) ∧ TyOk Tryz.prog 84 (D 9) := ⟨Tryz.underlying32, TyOk.of Tryz.underlying84 rfl (by kernel_rfl)⟩
theorem slr37 : Tryz.prog.underlying 37 = some (.slice 74) ∧ TyOk Tryz.prog 74 (D 10) := ⟨Tryz.underlying37, TyOk.of Tryz.underlying74 rfl (by kernel_rfl)⟩
theorem slr51 : Tryz.prog.underlying 51 = some (.slice 54) ∧ TyOk Tryz.prog 54 (D 13) := ⟨Tryz.underlying51, TyOk.of Tryz.underlying54 rfl (by kernel_rfl)⟩
theorem slr133 : Tryz.prog.underlying 133 = some (.slice 22) ∧ TyOk Tryz.prog 22 (D 12) := ⟨Tryz.underlying133, TyOk.of Tryz.underlying22 rfl (by kernel_rfl)⟩
theorem flr29 : StOk Tryz.prog 29 [(0, 1), (1, 1), (2, 1), (3, 1), (4, 1), (5, 1)] ∧ ∀ i off sz, [((0 : Nat), (1 : Nat)), ((1 : Nat), (1 : Nat)), ((2 : Nat), (1 : Nat)), ((3 : Nat), (1 : Nat)), ((4 : Nat), (1 : Nat)), ((5 : Nat), (1 : Nat))][i]? = some (off, sz) → FldAt Tryz.prog 29 i off := flds_ok ⟨_, Tryz.underlying29, by kernel_rfl⟩ rfl
theorem flr34 : StOk Tryz.prog 34 [(0, 1), (1, 1), (2, 1), (3, 1)] ∧ ∀ i off sz, [((0 : Nat), (1 : Nat)), ((1 : Nat), (1 : Nat)), ((2 : Nat), (1 : Nat)), ((3 : Nat), (1 : Nat))][i]? = some (off, sz) → FldAt Tryz.prog 34 i off := flds_ok ⟨_, Tryz.underlying34, by kernel_rfl⟩ rfl
theorem flr44 : StOk Tryz.prog 44 [(0, 1), (1, 1), (2, 1)] ∧ ∀ i off sz, [((0 : Nat), (1 : Nat)), ((1 : Nat), (1 : Nat)), ((2 : Nat), (1 : Nat))][i]? = some (off, sz) → FldAt Tryz.prog 44 i off := flds_ok ⟨_, Tryz.underlying44, by kernel_rfl⟩ rfl
theorem flr48 : StOk Tryz.prog 48 [(0, 1), (1, 1), (2, 1), (3, 1)] ∧ ∀ i off sz, [((0 : Nat), (1 : Nat)), ((1 : Nat), (1 : Nat)), ((2 : Nat), (1 : Nat)), ((3 : Nat), (1 : Nat))][i]? = some (off, sz) → FldAt Tryz.prog 48 i off := flds_ok ⟨_, Tryz.underlying48, by kernel_rfl⟩ rfl
theorem flr54 : StOk Tryz.prog 54 [(0, 1), (1, 1), (2, 1)] ∧ ∀ i off sz, [((0 : Nat), (1 : Nat)), ((1 : Nat), (1 : Nat)), ((2 : Nat), (1 : Nat))][i]? = some (off, sz) → FldAt Tryz.prog 54 i off := flds_ok ⟨_, Tryz.underlying54, by kernel_rfl⟩ rfl
theorem flr57 : StOk Tryz.prog 57 [(0, 1), (1, 1), (2, 1), (3, 1), (4, 1)] ∧ ∀ i off sz, [((0 : Nat), (1 : Nat)), ((1 : Nat), (1 : Nat)), ((2 : Nat), (1 : Nat)), ((3 : Nat), (1 : Nat)), ((4 : Nat), (1 : Nat))][i]? = some (off, sz) → FldAt Tryz.prog 57 i off := flds_ok ⟨_, Tryz.underlying57, by kernel_rfl⟩ rfl
theorem flr74 : StOk Tryz.prog 74 [(0, 1), (1, 1), (2, 1)] ∧ ∀ i off sz, [((0 : Nat), (1 : Nat)), ((1 : Nat), (1 : Nat)), ((2 : Nat), (1 : Nat))][i]? = some (off, sz) → FldAt Tryz.prog 74 i off := flds_ok ⟨_, Tryz.underlying74, by kernel_rfl⟩ rfl
theorem flr76 : StOk Tryz.prog 76 [(0, 1), (1, 1)] ∧ ∀ i off sz, [((0 : Nat), (1 : Nat)), ((1 : Nat), (1 : Nat))][i]? = some (off, sz) → FldAt Tryz.prog 76 i off := flds_ok ⟨_, Tryz.underlying76, by kernel_rfl⟩ rfl
theorem flr84 : StOk Tryz.prog 84 [(0, 1), (1, 1)] ∧ ∀ i off sz, [((0 : Nat), (1 : Nat)), ((1 : Nat), (1 : Nat))][i]? = some (off, sz) → FldAt Tryz.prog 84 i off := flds_ok ⟨_, Tryz.underlying84, by kernel_rfl⟩ rfl
theorem flr89 : StOk Tryz.prog 89 [(0, 1), (1, 1), (2, 1)] ∧ ∀ i off sz, [((0 : Nat), (1 : Nat)), ((1 : Nat), (1 : Nat)), ((2 : Nat), (1 : Nat))][i]? = some (off, sz) → FldAt Tryz.prog 89 i off := flds_ok ⟨_, Tryz.underlying89, by kernel_rfl⟩ rfl
theorem flr107 : StOk Tryz.prog 107 [(0, 6), (6, 4), (10, 1)] ∧ ∀ i off sz, [((0 : Nat), (6 : Nat)), ((6 : Nat), (4 : Nat)), ((10 : Nat), (1 : Nat))][i]? = some (off, sz) → FldAt Tryz.prog 107 i off := flds_ok ⟨_, Tryz.underlying107, by kernel_rfl⟩ rfl
theorem eql3 : EqL Tryz.prog 3 false [(.int .i64)] 1 := EqL.int Tryz.underlying3
theorem eql44 : EqL Tryz.prog 44 true [(.int .i64), (.int .i64), (.int .i64)] 2 := by
 refine EqL.struct (k := 1) Tryz.underlying44 (by kernel_rfl) ?_
 exact ⟨by simp, rfl, false, [(.int .i64)], [(.int .i64), (.int .i64)], [.int .i64 0], rfl, TyR.of Tryz.underlying3 rfl (by kernel_rfl), rfl, fun _ => rfl, eql3.up (by decide), ⟨by simp, rfl, false, [(.int .i64)], [(.int .i64)], [.int .i64 0], rfl, TyR.of Tryz.underlying3 rfl (by kernel_rfl), rfl, fun _ => rfl, eql3.up (by decide), ⟨by simp, rfl, false, [(.int .i64)], [], [.int .i64 0], rfl, TyR.of Tryz.underlying3 rfl (by kernel_rfl), rfl, fun _ => rfl, eql3.up (by decide), rfl⟩⟩⟩
theorem eqr44 : EqT Tryz.prog 44 [(.int .i64), (.int .i64), (.int .i64)] ∧ ([(.int .i64), (.int .i64), (.int .i64)] : List Lf).all flatL = true := ⟨⟨⟨2, by decide, eql44⟩, by kernel_rfl⟩, rfl⟩
theorem eql48 : EqL Tryz.prog 48 true [(.int .i64), (.int .i64), (.int .i64), (.int .i64)] 2 := by
 refine EqL.struct (k := 1) Tryz.underlying48 (by kernel_rfl) ?_
 exact ⟨by simp, rfl, false, [(.int .i64)], [(.int .i64), (.int .i64), (.int .i64)], [.int .i64 0], rfl, TyR.of Tryz.underlying3 rfl (by kernel_rfl), rfl, fun _ => rfl, eql3.up (by decide), ⟨by simp, rfl, false, [(.int .i64)], [(.int .i64), (.int .i64)], [.int .i64 0], rfl, TyR.of Tryz.underlying3 rfl (by kernel_rfl), rfl, fun _ => rfl, eql3.up (by decide), ⟨by simp, rfl, false, [(.int .i64)], [(.int .i64)], [.int .i64 0], rfl, TyR.of Tryz.underlying3 rfl (by kernel_rfl), rfl, fun _ => rfl, eql3.up (by decide), ⟨by simp, rfl, false, [(.int .i64)], [], [.int .i64 0], rfl, TyR.of Tryz.underlying3 rfl (by kernel_rfl), rfl, fun _ => rfl, eql3.up (by decide), rfl⟩⟩⟩⟩
theorem eqr48 : EqT Tryz.prog 48 [(.int .i64), (.int .i64), (.int .i64), (.int .i64)] ∧ ([(.int .i64), (.int .i64), (.int .i64), (.int .i64)] : List Lf).all flatL = true := ⟨⟨⟨2, by decide, eql48⟩, by kernel_rfl⟩, rfl⟩
theorem eql74 : EqL Tryz.prog 74 true [(.int .i64), (.int .i64), (.int .i64)] 2 := by
 refine EqL.struct (k := 1) Tryz.underlying74 (by kernel_rfl) ?_
 exact ⟨by simp, rfl, false, [(.int .i64)], [(.int .i64), (.int .i64)], [.int .i64 0], rfl, TyR.of Tryz.underlying3 rfl (by kernel_rfl), rfl, fun _ => rfl, eql3.up (by decide), ⟨by simp, rfl, false, [(.int .i64)], [(.int .i64)], [.int .i64 0], rfl, TyR.of Tryz.underlying3 rfl (by kernel_rfl), rfl, fun _ => rfl, eql3.up (by decide), ⟨by simp, rfl, false, [(.int .i64)], [], [.int .i64 0], rfl, TyR.of Tryz.underlying3 rfl (by kernel_rfl), rfl, fun _ => rfl, eql3.up (by decide), rfl⟩⟩⟩
theorem eqr74 : EqT Tryz.prog 74 [(.int .i64), (.int .i64), (.int .i64)] ∧ ([(.int .i64), (.int .i64), (.int .i64)] : List Lf).all flatL = true := ⟨⟨⟨2, by decide, eql74⟩, by kernel_rfl⟩, rfl⟩
theorem eql84 : EqL Tryz.prog 84 true [(.int .i64), (.int .i64)] 2 := by
 refine EqL.struct (k := 1) Tryz.underlying84 (by kernel_rfl) ?_
 exact ⟨by simp, rfl, false, [(.int .i64)], [(.int .i64)], [.int .i64 0], rfl, TyR.of Tryz.underlying3 rfl (by kernel_rfl), rfl, fun _ => rfl, eql3.up (by decide), ⟨by simp, rfl, false, [(.int .i64)], [], [.int .i64 0], rfl, TyR.of Tryz.underlying3 rfl (by kernel_rfl), rfl, fun _ => rfl, eql3.up (by decide), rfl⟩⟩
theorem eqr84 : EqT Tryz.prog 84 [(.int .i64), (.int .i64)] ∧ ([(.int .i64), (.int .i64)] : List Lf).all flatL = true := ⟨⟨⟨2, by decide, eql84⟩, by kernel_rfl⟩, rfl⟩
instance : Flat Breaker := ⟨fun h => Flat.any (α := Int × Int × Int) h⟩
instance : Flat Source := ⟨fun h => Flat.any (α := Int × Int × Int) h⟩
instance : Flat Running := ⟨fun h => Flat.any (α := Int × Int × Int × Int) h⟩
instance : Flat Part := ⟨fun h => Flat.any (α := Int × Int) h⟩
instance : Flat Act := ⟨fun h => Flat.any (α := Int × Int × Int) h⟩
theorem flat0 : Flat (D 0) := (inferInstance : Flat Int)
theorem flat1 : Flat (D 1) := (inferInstance : Flat Bool)
theorem flat2 : Flat (D 2) := (inferInstance : Flat ByteArray)
theorem flat4 : Flat (D 4) := (inferInstance : Flat Breaker)
theorem flat5 : Flat (D 5) := (inferInstance : Flat Source)
theorem flat8 : Flat (D 8) := (inferInstance : Flat Running)
theorem flat9 : Flat (D 9) := (inferInstance : Flat Part)
theorem flat10 : Flat (D 10) := (inferInstance : Flat Act)
theorem kdr12 : KidT Tryz.prog D 12 3 0 := ⟨(inferInstance : OneLevel (List Int)), (inferInstance : Flat Int), TyOk.of Tryz.underlying3 rfl (by kernel_rfl), rfl⟩
instance : OneLevel Island := ⟨fun h => OneLevel.loc (α := (List Int) × (List Int) × (List Int)) h⟩
theorem kdr13 : KidT Tryz.prog D 13 3 0 := ⟨(inferInstance : OneLevel Island), (inferInstance : Flat Int), TyOk.of Tryz.underlying3 rfl (by kernel_rfl), rfl⟩
theorem arr65 : ArrT Tryz.prog D 65 2 29 3 := ArrT.of Tryz.underlying65 (TyOk.of Tryz.underlying29 rfl (by kernel_rfl)) (by kernel_rfl)
theorem arr67 : ArrT Tryz.prog D 67 3 34 7 := ArrT.of Tryz.underlying67 (TyOk.of Tryz.underlying34 rfl (by kernel_rfl)) (by kernel_rfl)
theorem arr69 : ArrT Tryz.prog D 69 2 3 0 := ArrT.of Tryz.underlying69 (TyOk.of Tryz.underlying3 rfl (by kernel_rfl)) (by kernel_rfl)
theorem pOk : POk Tryz.prog T := POk.of (⟨tyr3, tyr4, tyr22, tyr23, tyr25, tyr26, tyr27, tyr29, tyr30, tyr31, tyr32, tyr34, tyr37, tyr38, tyr44, tyr48, tyr51, tyr54, tyr57, tyr74, tyr76, tyr81, tyr84, tyr89, tyr101, tyr107, tyr133, trivial⟩) (⟨slr22, slr25, slr26, slr27, slr30, slr31, slr32, slr37, slr51, slr133, trivial⟩) (⟨flr29, flr34, flr44, flr48, flr54, flr57, flr74, flr76, flr84, flr89, flr107, trivial⟩) (⟨eqr44, eqr48, eqr74, eqr84, trivial⟩) (⟨kdr12, kdr13, trivial⟩) (⟨arr65, arr67, arr69, trivial⟩) (trivial)
theorem hmix : Tryz.prog.follows .mixedOrders = true := by kernel_rfl
def bodyOf (f : Func) : Code := match f.body with
 | some c => c
 | none => .skip
end Rx
end Go.Proofs.YtfnphdhcgkondaaGreat
