/- Types: structures, how they lie in memory. Written by a program (wip/gen). -/
import Derived.Test.YtnpghnnlcakbfaaRp
import Derived.Test.YtnpghnnlcakbfaaProg
import Derived.KernelRfl
set_option linter.unusedVariables false
namespace Go.Proofs.Ytnpghnnlcakbfaa
open Go Go.RowKit Dp
namespace Rx

structure Breaker where
  Kind : Int
  A : Int
  B : Int
def Breaker_to (x : Breaker) : Int × Int × Int := (x.Kind, x.A, x.B)
instance : Rep Breaker := Rep.via Breaker_to ⟨Rep.zero, Rep.zero, Rep.zero⟩ rfl
structure Source where
  Rating : Int
  Least : Int
  Start : Int
def Source_to (x : Source) : Int × Int × Int := (x.Rating, x.Least, x.Start)
instance : Rep Source := Rep.via Source_to ⟨Rep.zero, Rep.zero, Rep.zero⟩ rfl
structure Consumer where
  Load : Int
  Least : Int
  Preference : Int
  Thruster : Int
  Needs : (List Int)
def Consumer_to (x : Consumer) : Int × Int × Int × Int × (List Int) := (x.Load, x.Least, x.Preference, x.Thruster, x.Needs)
instance : Rep Consumer := Rep.via Consumer_to ⟨Rep.zero, Rep.zero, Rep.zero, Rep.zero, Rep.zero⟩ rfl
structure Board where
  Buses : Int
  Breakers : (List Breaker)
  Sources : (List Source)
  Consumers : (List Consumer)
  Phase : Int
  Frequency : Int
def Board_to (x : Board) : Int × (List Breaker) × (List Source) × (List Consumer) × Int × Int := (x.Buses, x.Breakers, x.Sources, x.Consumers, x.Phase, x.Frequency)
instance : Rep Board := Rep.via Board_to ⟨Rep.zero, Rep.zero, Rep.zero, Rep.zero, Rep.zero, Rep.zero⟩ rfl
structure Running where
  State : Int
  Since : Int
  Frequency : Int
  Phase : Int
def Running_to (x : Running) : Int × Int × Int × Int := (x.State, x.Since, x.Frequency, x.Phase)
instance : Rep Running := Rep.via Running_to ⟨Rep.zero, Rep.zero, Rep.zero, Rep.zero⟩ rfl
structure Part where
  Kind : Int
  Number : Int
def Part_to (x : Part) : Int × Int := (x.Kind, x.Number)
instance : Rep Part := Rep.via Part_to ⟨Rep.zero, Rep.zero⟩ rfl
structure Power where
  Closed : (List Bool)
  Sources : (List Running)
  Limits : (List Int)
  Broken : (List Part)
def Power_to (x : Power) : (List Bool) × (List Running) × (List Int) × (List Part) := (x.Closed, x.Sources, x.Limits, x.Broken)
instance : Rep Power := Rep.via Power_to ⟨Rep.zero, Rep.zero, Rep.zero, Rep.zero⟩ rfl
structure Island where
  Buses : (List Int)
  Sources : (List Int)
  Consumers : (List Int)
def Island_to (x : Island) : (List Int) × (List Int) × (List Int) := (x.Buses, x.Sources, x.Consumers)
instance : Rep Island := Rep.via Island_to ⟨Rep.zero, Rep.zero, Rep.zero⟩ rfl
structure Src where
  L : (List Int)
  At : Int
def Src_to (x : Src) : (List Int) × Int := (x.L, x.At)
instance : Rep Src := Rep.via Src_to ⟨Rep.zero, Rep.zero⟩ rfl
@[reducible] def D (n : Nat) : Type := match n with
  | 0 => Int
  | 1 => Bool
  | 2 => ByteArray
  | 3 => Board
  | 4 => Breaker
  | 5 => Source
  | 6 => Consumer
  | 7 => Power
  | 8 => Running
  | 9 => Part
  | 10 => (List Int)
  | 11 => Island
  | 12 => Src
  | _ => Int
instance repD (n : Nat) : Rep (D n) := match n with
  | 0 => inferInstanceAs (Rep Int)
  | 1 => inferInstanceAs (Rep Bool)
  | 2 => inferInstanceAs (Rep ByteArray)
  | 3 => inferInstanceAs (Rep Board)
  | 4 => inferInstanceAs (Rep Breaker)
  | 5 => inferInstanceAs (Rep Source)
  | 6 => inferInstanceAs (Rep Consumer)
  | 7 => inferInstanceAs (Rep Power)
  | 8 => inferInstanceAs (Rep Running)
  | 9 => inferInstanceAs (Rep Part)
  | 10 => inferInstanceAs (Rep (List Int))
  | 11 => inferInstanceAs (Rep Island)
  | 12 => inferInstanceAs (Rep Src)
  | _ + 13 => inferInstanceAs (Rep Int)
def tabLv (n : Nat) : List Lf := match n with
  | 0 => [(.int .i64)]
  | 1 => [.bool]
  | 2 => [.str]
  | 3 => [(.int .i64), (.sl 4), (.sl 5), (.sl 6), (.int .i64), (.int .i64)]
  | 4 => [(.int .i64), (.int .i64), (.int .i64)]
  | 5 => [(.int .i64), (.int .i64), (.int .i64)]
  | 6 => [(.int .i64), (.int .i64), (.int .i64), (.int .i64), (.sl 0)]
  | 7 => [(.sl 1), (.sl 8), (.sl 0), (.sl 9)]
  | 8 => [(.int .i64), (.int .i64), (.int .i64), (.int .i64)]
  | 9 => [(.int .i64), (.int .i64)]
  | 10 => [(.sl 0)]
  | 11 => [(.sl 0), (.sl 0), (.sl 0)]
  | 12 => [(.sl 0), (.int .i64)]
  | _ => [.int .i64]
def tabAg (n : Nat) : Bool := match n with
  | 0 => false
  | 1 => false
  | 2 => false
  | 3 => true
  | 4 => true
  | 5 => true
  | 6 => true
  | 7 => true
  | 8 => true
  | 9 => true
  | 10 => false
  | 11 => true
  | 12 => true
  | _ => false
def tabOut : ∀ n : Nat, D n → HL D (tabLv n)
  | 0 => fun x => x
  | 1 => fun x => x
  | 2 => fun x => x
  | 3 => fun x => (x.Buses, x.Breakers, x.Sources, x.Consumers, x.Phase, x.Frequency)
  | 4 => fun x => (x.Kind, x.A, x.B)
  | 5 => fun x => (x.Rating, x.Least, x.Start)
  | 6 => fun x => (x.Load, x.Least, x.Preference, x.Thruster, x.Needs)
  | 7 => fun x => (x.Closed, x.Sources, x.Limits, x.Broken)
  | 8 => fun x => (x.State, x.Since, x.Frequency, x.Phase)
  | 9 => fun x => (x.Kind, x.Number)
  | 10 => fun x => x
  | 11 => fun x => (x.Buses, x.Sources, x.Consumers)
  | 12 => fun x => (x.L, x.At)
  | _ + 13 => fun x => x
def tabMk : ∀ n : Nat, HL D (tabLv n) → D n
  | 0 => fun h => h
  | 1 => fun h => h
  | 2 => fun h => h
  | 3 => fun h => ⟨h.1, h.2.1, h.2.2.1, h.2.2.2.1, h.2.2.2.2.1, h.2.2.2.2.2⟩
  | 4 => fun h => ⟨h.1, h.2.1, h.2.2⟩
  | 5 => fun h => ⟨h.1, h.2.1, h.2.2⟩
  | 6 => fun h => ⟨h.1, h.2.1, h.2.2.1, h.2.2.2.1, h.2.2.2.2⟩
  | 7 => fun h => ⟨h.1, h.2.1, h.2.2.1, h.2.2.2⟩
  | 8 => fun h => ⟨h.1, h.2.1, h.2.2.1, h.2.2.2⟩
  | 9 => fun h => ⟨h.1, h.2⟩
  | 10 => fun h => h
  | 11 => fun h => ⟨h.1, h.2.1, h.2.2⟩
  | 12 => fun h => ⟨h.1, h.2⟩
  | _ + 13 => fun h => h
def tabZero : ∀ n : Nat, D n
  | 0 => (0 : Int)
  | 1 => false
  | 2 => ByteArray.empty
  | 3 => (⟨(0 : Int), [], [], [], (0 : Int), (0 : Int)⟩ : Board)
  | 4 => (⟨(0 : Int), (0 : Int), (0 : Int)⟩ : Breaker)
  | 5 => (⟨(0 : Int), (0 : Int), (0 : Int)⟩ : Source)
  | 6 => (⟨(0 : Int), (0 : Int), (0 : Int), (0 : Int), []⟩ : Consumer)
  | 7 => (⟨[], [], [], []⟩ : Power)
  | 8 => (⟨(0 : Int), (0 : Int), (0 : Int), (0 : Int)⟩ : Running)
  | 9 => (⟨(0 : Int), (0 : Int)⟩ : Part)
  | 10 => ([] : (List Int))
  | 11 => (⟨[], [], []⟩ : Island)
  | 12 => (⟨[], (0 : Int)⟩ : Src)
  | _ + 13 => (0 : Int)
def T : Tab D where
  lv := tabLv
  ag := tabAg
  outH := tabOut
  mkH := tabMk
  zero := tabZero
  ty := [(3, .one (.int .i64)), (4, .one .bool), (22, .one (.sl 0)), (23, .ptr), (35, .one (.sl 4)), (36, .one (.sl 5)), (37, .one (.sl 6)), (39, .st 3), (41, .one (.sl 1)), (42, .one (.sl 8)), (43, .one (.sl 9)), (45, .st 7), (48, .st 4), (49, .one (.sl 11)), (53, .st 11), (64, .st 8), (66, .st 9), (77, .st 12), (83, .st 5), (85, .st 6), (107, .one (.sl 10))]
  fld := [(39, [(0, 1), (1, 1), (2, 1), (3, 1), (4, 1), (5, 1)]), (45, [(0, 1), (1, 1), (2, 1), (3, 1)]), (48, [(0, 1), (1, 1), (2, 1)]), (53, [(0, 1), (1, 1), (2, 1)]), (64, [(0, 1), (1, 1), (2, 1), (3, 1)]), (66, [(0, 1), (1, 1)]), (77, [(0, 1), (1, 1)]), (83, [(0, 1), (1, 1), (2, 1)]), (85, [(0, 1), (1, 1), (2, 1), (3, 1), (4, 1)])]
  els := [(22, 3, 0), (35, 48, 4), (36, 83, 5), (37, 85, 6), (41, 4, 1), (42, 64, 8), (43, 66, 9), (49, 53, 11), (107, 22, 10)]
  eqs := [(48, [(.int .i64), (.int .i64), (.int .i64)]), (66, [(.int .i64), (.int .i64)])]
  kd := [(10, 3, 0), (11, 3, 0)]
  ars := [(70, 3, 39, 3), (72, 3, 45, 7), (74, 4, 3, 0)]
  pre := []
  mps := []
theorem rd4 : RdIs D Breaker (fun x => [⟨(.int .i64), x.Kind⟩, ⟨(.int .i64), x.A⟩, ⟨(.int .i64), x.B⟩]) := fun S w cs x => (RdIs.prod RdIs.int (RdIs.prod RdIs.int (RdIs.int)) : RdIs D (Int × Int × Int) _) S w cs (Breaker_to x)
theorem rd5 : RdIs D Source (fun x => [⟨(.int .i64), x.Rating⟩, ⟨(.int .i64), x.Least⟩, ⟨(.int .i64), x.Start⟩]) := fun S w cs x => (RdIs.prod RdIs.int (RdIs.prod RdIs.int (RdIs.int)) : RdIs D (Int × Int × Int) _) S w cs (Source_to x)
theorem rd6 : RdIs D Consumer (fun x => [⟨(.int .i64), x.Load⟩, ⟨(.int .i64), x.Least⟩, ⟨(.int .i64), x.Preference⟩, ⟨(.int .i64), x.Thruster⟩, ⟨(.sl 0), x.Needs⟩]) := fun S w cs x => (RdIs.prod RdIs.int (RdIs.prod RdIs.int (RdIs.prod RdIs.int (RdIs.prod RdIs.int ((RdIs.sl 0))))) : RdIs D (Int × Int × Int × Int × (List Int)) _) S w cs (Consumer_to x)
theorem rd3 : RdIs D Board (fun x => [⟨(.int .i64), x.Buses⟩, ⟨(.sl 4), x.Breakers⟩, ⟨(.sl 5), x.Sources⟩, ⟨(.sl 6), x.Consumers⟩, ⟨(.int .i64), x.Phase⟩, ⟨(.int .i64), x.Frequency⟩]) := fun S w cs x => (RdIs.prod RdIs.int (RdIs.prod (RdIs.sl 4) (RdIs.prod (RdIs.sl 5) (RdIs.prod (RdIs.sl 6) (RdIs.prod RdIs.int (RdIs.int))))) : RdIs D (Int × (List Breaker) × (List Source) × (List Consumer) × Int × Int) _) S w cs (Board_to x)
theorem rd8 : RdIs D Running (fun x => [⟨(.int .i64), x.State⟩, ⟨(.int .i64), x.Since⟩, ⟨(.int .i64), x.Frequency⟩, ⟨(.int .i64), x.Phase⟩]) := fun S w cs x => (RdIs.prod RdIs.int (RdIs.prod RdIs.int (RdIs.prod RdIs.int (RdIs.int))) : RdIs D (Int × Int × Int × Int) _) S w cs (Running_to x)
theorem rd9 : RdIs D Part (fun x => [⟨(.int .i64), x.Kind⟩, ⟨(.int .i64), x.Number⟩]) := fun S w cs x => (RdIs.prod RdIs.int (RdIs.int) : RdIs D (Int × Int) _) S w cs (Part_to x)
theorem rd7 : RdIs D Power (fun x => [⟨(.sl 1), x.Closed⟩, ⟨(.sl 8), x.Sources⟩, ⟨(.sl 0), x.Limits⟩, ⟨(.sl 9), x.Broken⟩]) := fun S w cs x => (RdIs.prod (RdIs.sl 1) (RdIs.prod (RdIs.sl 8) (RdIs.prod (RdIs.sl 0) ((RdIs.sl 9)))) : RdIs D ((List Bool) × (List Running) × (List Int) × (List Part)) _) S w cs (Power_to x)
theorem rd11 : RdIs D Island (fun x => [⟨(.sl 0), x.Buses⟩, ⟨(.sl 0), x.Sources⟩, ⟨(.sl 0), x.Consumers⟩]) := fun S w cs x => (RdIs.prod (RdIs.sl 0) (RdIs.prod (RdIs.sl 0) ((RdIs.sl 0))) : RdIs D ((List Int) × (List Int) × (List Int)) _) S w cs (Island_to x)
theorem rd12 : RdIs D Src (fun x => [⟨(.sl 0), x.L⟩, ⟨(.int .i64), x.At⟩]) := fun S w cs x => (RdIs.prod (RdIs.sl 0) (RdIs.int) : RdIs D ((List Int) × Int) _) S w cs (Src_to x)
theorem rd10 : RdIs D (List Int) (fun x => [⟨.sl 0, x⟩]) := RdIs.sl 0
theorem repOk : RepOk T where
  sz := fun n => match n with
    | 0 => rfl
    | 1 => rfl
    | 2 => rfl
    | 3 => rfl
    | 4 => rfl
    | 5 => rfl
    | 6 => rfl
    | 7 => rfl
    | 8 => rfl
    | 9 => rfl
    | 10 => rfl
    | 11 => rfl
    | 12 => rfl
    | _ + 13 => rfl
  ag := fun n => match n with
    | 0 => rfl
    | 1 => rfl
    | 2 => rfl
    | 3 => rfl
    | 4 => rfl
    | 5 => rfl
    | 6 => rfl
    | 7 => rfl
    | 8 => rfl
    | 9 => rfl
    | 10 => rfl
    | 11 => rfl
    | 12 => rfl
    | _ + 13 => rfl
  zc := fun n => match n with
    | 0 => rfl
    | 1 => rfl
    | 2 => rfl
    | 3 => rfl
    | 4 => rfl
    | 5 => rfl
    | 6 => rfl
    | 7 => rfl
    | 8 => rfl
    | 9 => rfl
    | 10 => rfl
    | 11 => rfl
    | 12 => rfl
    | _ + 13 => rfl
  zero := fun n => match n with
    | 0 => rfl
    | 1 => rfl
    | 2 => rfl
    | 3 => rfl
    | 4 => rfl
    | 5 => rfl
    | 6 => rfl
    | 7 => rfl
    | 8 => rfl
    | 9 => rfl
    | 10 => rfl
    | 11 => rfl
    | 12 => rfl
    | _ + 13 => rfl
  rd := fun n S w cs x => match n, x with
    | 0, x => RdIs.int S w cs x
    | 1, x => RdIs.bool S w cs x
    | 2, x => RdIs.str S w cs x
    | 3, x => rd3 S w cs x
    | 4, x => rd4 S w cs x
    | 5, x => rd5 S w cs x
    | 6, x => rd6 S w cs x
    | 7, x => rd7 S w cs x
    | 8, x => rd8 S w cs x
    | 9, x => rd9 S w cs x
    | 10, x => rd10 S w cs x
    | 11, x => rd11 S w cs x
    | 12, x => rd12 S w cs x
    | _ + 13, x => RdIs.int S w cs x
  few := fun n => match n with
    | 0 => by decide
    | 1 => by decide
    | 2 => by decide
    | 3 => by decide
    | 4 => by decide
    | 5 => by decide
    | 6 => by decide
    | 7 => by decide
    | 8 => by decide
    | 9 => by decide
    | 10 => by decide
    | 11 => by decide
    | 12 => by decide
    | _ + 13 => by show 1 ≤ 48; decide
  mkh := fun n h => match n, h with
    | 0, h => rfl
    | 1, h => rfl
    | 2, h => rfl
    | 3, h => rfl
    | 4, h => rfl
    | 5, h => rfl
    | 6, h => rfl
    | 7, h => rfl
    | 8, h => rfl
    | 9, h => rfl
    | 10, h => rfl
    | 11, h => rfl
    | 12, h => rfl
    | _ + 13, h => rfl
theorem tyr3 : TyF Try.prog T 3 (.one (.int .i64)) := ⟨TyR.of Try.underlying3 rfl (by kernel_rfl), Try.underlying3⟩
theorem tyr4 : TyF Try.prog T 4 (.one .bool) := ⟨TyR.of Try.underlying4 rfl (by kernel_rfl), Try.underlying4⟩
theorem tyr22 : TyF Try.prog T 22 (.one (.sl 0)) := ⟨TyR.of Try.underlying22 rfl (by kernel_rfl), trivial⟩
theorem tyr23 : TyF Try.prog T 23 (.ptr) := ⟨TyR.of Try.underlying23 rfl (by kernel_rfl), trivial⟩
theorem tyr35 : TyF Try.prog T 35 (.one (.sl 4)) := ⟨TyR.of Try.underlying35 rfl (by kernel_rfl), trivial⟩
theorem tyr36 : TyF Try.prog T 36 (.one (.sl 5)) := ⟨TyR.of Try.underlying36 rfl (by kernel_rfl), trivial⟩
theorem tyr37 : TyF Try.prog T 37 (.one (.sl 6)) := ⟨TyR.of Try.underlying37 rfl (by kernel_rfl), trivial⟩
theorem tyr39 : TyF Try.prog T 39 (.st 3) := ⟨TyR.of Try.underlying39 rfl (by kernel_rfl), trivial⟩
theorem tyr41 : TyF Try.prog T 41 (.one (.sl 1)) := ⟨TyR.of Try.underlying41 rfl (by kernel_rfl), trivial⟩
theorem tyr42 : TyF Try.prog T 42 (.one (.sl 8)) := ⟨TyR.of Try.underlying42 rfl (by kernel_rfl), trivial⟩
theorem tyr43 : TyF Try.prog T 43 (.one (.sl 9)) := ⟨TyR.of Try.underlying43 rfl (by kernel_rfl), trivial⟩
theorem tyr45 : TyF Try.prog T 45 (.st 7) := ⟨TyR.of Try.underlying45 rfl (by kernel_rfl), trivial⟩
theorem tyr48 : TyF Try.prog T 48 (.st 4) := ⟨TyR.of Try.underlying48 rfl (by kernel_rfl), trivial⟩
theorem tyr49 : TyF Try.prog T 49 (.one (.sl 11)) := ⟨TyR.of Try.underlying49 rfl (by kernel_rfl), trivial⟩
theorem tyr53 : TyF Try.prog T 53 (.st 11) := ⟨TyR.of Try.underlying53 rfl (by kernel_rfl), trivial⟩
theorem tyr64 : TyF Try.prog T 64 (.st 8) := ⟨TyR.of Try.underlying64 rfl (by kernel_rfl), trivial⟩
theorem tyr66 : TyF Try.prog T 66 (.st 9) := ⟨TyR.of Try.underlying66 rfl (by kernel_rfl), trivial⟩
theorem tyr77 : TyF Try.prog T 77 (.st 12) := ⟨TyR.of Try.underlying77 rfl (by kernel_rfl), trivial⟩
theorem tyr83 : TyF Try.prog T 83 (.st 5) := ⟨TyR.of Try.underlying83 rfl (by kernel_rfl), trivial⟩
theorem tyr85 : TyF Try.prog T 85 (.st 6) := ⟨TyR.of Try.underlying85 rfl (by kernel_rfl), trivial⟩
theorem tyr107 : TyF Try.prog T 107 (.one (.sl 10)) := ⟨TyR.of Try.underlying107 rfl (by kernel_rfl), trivial⟩
theorem slr22 : Try.prog.underlying 22 = some (.slice 3) ∧ TyOk Try.prog 3 (D 0) := ⟨Try.underlying22, TyOk.of Try.underlying3 rfl (by kernel_rfl)⟩
theorem slr35 : Try.prog.underlying 35 = some (.slice 48) ∧ TyOk Try.prog 48 (D 4) := ⟨Try.underlying35, TyOk.of Try.underlying48 rfl (by kernel_rfl)⟩
theorem slr36 : Try.prog.underlying 36 = some (.slice 83) ∧ TyOk Try.prog 83 (D 5) := ⟨Try.underlying36, TyOk.of Try.underlying83 rfl (by kernel_rfl)⟩
theorem slr37 : Try.prog.underlying 37 = some (.slice 85) ∧ TyOk Try.prog 85 (D 6) := ⟨Try.underlying37, TyOk.of Try.underlying85 rfl (by kernel_rfl)⟩
theorem slr41 : Try.prog.underlying 41 = some (.slice 4) ∧ TyOk Try.prog 4 (D 1) := ⟨Try.underlying41, TyOk.of Try.underlying4 rfl (by kernel_rfl)⟩
theorem slr42 : Try.prog.underlying 42 = some (.slice 64) ∧ TyOk Try.prog 64 (D 8) := ⟨Try.underlying42, TyOk.of Try.underlying64 rfl (by kernel_rfl)⟩
theorem slr43 : Try.prog.underlying 43 = some (.slice 66) ∧ TyOk Try.prog 66 (D 9) := ⟨Try.underlying43, TyOk.of Try.underlying66 rfl (by kernel_rfl)⟩
theorem slr49 : Try.prog.underlying 49 = some (.slice 53) ∧ TyOk Try.prog 53 (D 11) := ⟨Try.underlying49, TyOk.of Try.underlying53 rfl (by kernel_rfl)⟩
theorem slr107 : Try.prog.underlying 107 = some (.slice 22) ∧ TyOk Try.prog 22 (D 10) := ⟨Try.underlying107, TyOk.of Try.underlying22 rfl (by kernel_rfl)⟩
theorem flr39 : StOk Try.prog 39 [(0, 1), (1, 1), (2, 1), (3, 1), (4, 1), (5, 1)] ∧ ∀ i off sz, [((0 : Nat), (1 : Nat)), ((1 : Nat), (1 : Nat)), ((2 : Nat), (1 : Nat)), ((3 : Nat), (1 : Nat)), ((4 : Nat), (1 : Nat)), ((5 : Nat), (1 : Nat))][i]? = some (off, sz) → FldAt Try.prog 39 i off := flds_ok ⟨_, Try.underlying39, by kernel_rfl⟩ rfl
theorem flr45 : StOk Try.prog 45 [(0, 1), (1, 1), (2, 1), (3, 1)] ∧ ∀ i off sz, [((0 : Nat), (1 : Nat)), ((1 : Nat), (1 : Nat)), ((2 : Nat), (1 : Nat)), ((3 : Nat), (1 : Nat))][i]? = some (off, sz) → FldAt Try.prog 45 i off := flds_ok ⟨_, Try.underlying45, by kernel_rfl⟩ rfl
theorem flr48 : StOk Try.prog 48 [(0, 1), (1, 1), (2, 1)] ∧ ∀ i off sz, [((0 : Nat), (1 : Nat)), ((1 : Nat), (1 : Nat)), ((2 : Nat), (1 : Nat))][i]? = some (off, sz) → FldAt Try.prog 48 i off := flds_ok ⟨_, Try.underlying48, by kernel_rfl⟩ rfl
theorem flr53 : StOk Try.prog 53 [(0, 1), (1, 1), (2, 1)] ∧ ∀ i off sz, [((0 : Nat), (1 : Nat)), ((1 : Nat), (1 : Nat)), ((2 : Nat), (1 : Nat))][i]? = some (off, sz) → FldAt Try.prog 53 i off := flds_ok ⟨_, Try.underlying53, by kernel_rfl⟩ rfl
theorem flr64 : StOk Try.prog 64 [(0, 1), (1, 1), (2, 1), (3, 1)] ∧ ∀ i off sz, [((0 : Nat), (1 : Nat)), ((1 : Nat), (1 : Nat)), ((2 : Nat), (1 : Nat)), ((3 : Nat), (1 : Nat))][i]? = some (off, sz) → FldAt Try.prog 64 i off := flds_ok ⟨_, Try.underlying64, by kernel_rfl⟩ rfl
theorem flr66 : StOk Try.prog 66 [(0, 1), (1, 1)] ∧ ∀ i off sz, [((0 : Nat), (1 : Nat)), ((1 : Nat), (1 : Nat))][i]? = some (off, sz) → FldAt Try.prog 66 i off := flds_ok ⟨_, Try.underlying66, by kernel_rfl⟩ rfl
theorem flr77 : StOk Try.prog 77 [(0, 1), (1, 1)] ∧ ∀ i off sz, [((0 : Nat), (1 : Nat)), ((1 : Nat), (1 : Nat))][i]? = some (off, sz) → FldAt Try.prog 77 i off := flds_ok ⟨_, Try.underlying77, by kernel_rfl⟩ rfl
theorem flr83 : StOk Try.prog 83 [(0, 1), (1, 1), (2, 1)] ∧ ∀ i off sz, [((0 : Nat), (1 : Nat)), ((1 : Nat), (1 : Nat)), ((2 : Nat), (1 : Nat))][i]? = some (off, sz) → FldAt Try.prog 83 i off := flds_ok ⟨_, Try.underlying83, by kernel_rfl⟩ rfl
theorem flr85 : StOk Try.prog 85 [(0, 1), (1, 1), (2, 1), (3, 1), (4, 1)] ∧ ∀ i off sz, [((0 : Nat), (1 : Nat)), ((1 : Nat), (1 : Nat)), ((2 : Nat), (1 : Nat)), ((3 : Nat), (1 : Nat)), ((4 : Nat), (1 : Nat))][i]? = some (off, sz) → FldAt Try.prog 85 i off := flds_ok ⟨_, Try.underlying85, by kernel_rfl⟩ rfl
theorem eql3 : EqL Try.prog 3 false [(.int .i64)] 1 := EqL.int Try.underlying3
theorem eql48 : EqL Try.prog 48 true [(.int .i64), (.int .i64), (.int .i64)] 2 := by
  refine EqL.struct (k := 1) Try.underlying48 (by kernel_rfl) ?_
  exact ⟨by simp, rfl, false, [(.int .i64)], [(.int .i64), (.int .i64)], [.int .i64 0], rfl, TyR.of Try.underlying3 rfl (by kernel_rfl), rfl, fun _ => rfl, eql3.up (by decide), ⟨by simp, rfl, false, [(.int .i64)], [(.int .i64)], [.int .i64 0], rfl, TyR.of Try.underlying3 rfl (by kernel_rfl), rfl, fun _ => rfl, eql3.up (by decide), ⟨by simp, rfl, false, [(.int .i64)], [], [.int .i64 0], rfl, TyR.of Try.underlying3 rfl (by kernel_rfl), rfl, fun _ => rfl, eql3.up (by decide), rfl⟩⟩⟩
theorem eqr48 : EqT Try.prog 48 [(.int .i64), (.int .i64), (.int .i64)] ∧ ([(.int .i64), (.int .i64), (.int .i64)] : List Lf).all flatL = true := ⟨⟨⟨2, by decide, eql48⟩, by kernel_rfl⟩, rfl⟩
theorem eql66 : EqL Try.prog 66 true [(.int .i64), (.int .i64)] 2 := by
  refine EqL.struct (k := 1) Try.underlying66 (by kernel_rfl) ?_
  exact ⟨by simp, rfl, false, [(.int .i64)], [(.int .i64)], [.int .i64 0], rfl, TyR.of Try.underlying3 rfl (by kernel_rfl), rfl, fun _ => rfl, eql3.up (by decide), ⟨by simp, rfl, false, [(.int .i64)], [], [.int .i64 0], rfl, TyR.of Try.underlying3 rfl (by kernel_rfl), rfl, fun _ => rfl, eql3.up (by decide), rfl⟩⟩
theorem eqr66 : EqT Try.prog 66 [(.int .i64), (.int .i64)] ∧ ([(.int .i64), (.int .i64)] : List Lf).all flatL = true := ⟨⟨⟨2, by decide, eql66⟩, by kernel_rfl⟩, rfl⟩
instance : Flat Breaker := ⟨fun h => Flat.any (α := Int × Int × Int) h⟩
instance : Flat Source := ⟨fun h => Flat.any (α := Int × Int × Int) h⟩
instance : Flat Running := ⟨fun h => Flat.any (α := Int × Int × Int × Int) h⟩
instance : Flat Part := ⟨fun h => Flat.any (α := Int × Int) h⟩
theorem flat0 : Flat (D 0) := (inferInstance : Flat Int)
theorem flat1 : Flat (D 1) := (inferInstance : Flat Bool)
theorem flat2 : Flat (D 2) := (inferInstance : Flat ByteArray)
theorem flat4 : Flat (D 4) := (inferInstance : Flat Breaker)
theorem flat5 : Flat (D 5) := (inferInstance : Flat Source)
theorem flat8 : Flat (D 8) := (inferInstance : Flat Running)
theorem flat9 : Flat (D 9) := (inferInstance : Flat Part)
theorem kdr10 : KidT Try.prog D 10 3 0 := ⟨(inferInstance : OneLevel (List Int)), (inferInstance : Flat Int), TyOk.of Try.underlying3 rfl (by kernel_rfl), rfl⟩
instance : OneLevel Island := ⟨fun h => OneLevel.loc (α := (List Int) × (List Int) × (List Int)) h⟩
theorem kdr11 : KidT Try.prog D 11 3 0 := ⟨(inferInstance : OneLevel Island), (inferInstance : Flat Int), TyOk.of Try.underlying3 rfl (by kernel_rfl), rfl⟩
theorem arr70 : ArrT Try.prog D 70 3 39 3 := ArrT.of Try.underlying70 (TyOk.of Try.underlying39 rfl (by kernel_rfl)) (by kernel_rfl)
theorem arr72 : ArrT Try.prog D 72 3 45 7 := ArrT.of Try.underlying72 (TyOk.of Try.underlying45 rfl (by kernel_rfl)) (by kernel_rfl)
theorem arr74 : ArrT Try.prog D 74 4 3 0 := ArrT.of Try.underlying74 (TyOk.of Try.underlying3 rfl (by kernel_rfl)) (by kernel_rfl)
theorem pOk : POk Try.prog T := POk.of (⟨tyr3, tyr4, tyr22, tyr23, tyr35, tyr36, tyr37, tyr39, tyr41, tyr42, tyr43, tyr45, tyr48, tyr49, tyr53, tyr64, tyr66, tyr77, tyr83, tyr85, tyr107, trivial⟩) (⟨slr22, slr35, slr36, slr37, slr41, slr42, slr43, slr49, slr107, trivial⟩) (⟨flr39, flr45, flr48, flr53, flr64, flr66, flr77, flr83, flr85, trivial⟩) (⟨eqr48, eqr66, trivial⟩) (⟨kdr10, kdr11, trivial⟩) (⟨arr70, arr72, arr74, trivial⟩) (trivial)
theorem hmix : Try.prog.follows .mixedOrders = true := by kernel_rfl
def bodyOf (f : Func) : Code := match f.body with
  | some c => c
  | none => .skip
end Rx
end Go.Proofs.Ytnpghnnlcakbfaa
