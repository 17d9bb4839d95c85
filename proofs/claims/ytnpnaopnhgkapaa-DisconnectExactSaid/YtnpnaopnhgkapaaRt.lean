/- Types: structures, how they lie in memory. Written by a program (wip/gen). -/
import Derived.Test.YtnpnaopnhgkapaaRp
import Derived.Test.YtnpnaopnhgkapaaProg
import Derived.KernelRfl
set_option linter.unusedVariables false
namespace Go.Proofs.Ytnpnaopnhgkapaa
open Go Go.RowKit Dp
namespace Rx

structure Stage where
  Name : ByteArray
  Ticks : Int
  Tries : Int
  Needs : (List Int)
def Stage_to (x : Stage) : ByteArray × Int × Int × (List Int) := (x.Name, x.Ticks, x.Tries, x.Needs)
instance : Rep Stage := Rep.via Stage_to ⟨Rep.zero, Rep.zero, Rep.zero, Rep.zero⟩ rfl
structure Sequence where
  Stages : (List Stage)
def Sequence_to (x : Sequence) : (List Stage) := (x.Stages)
instance : Rep Sequence := Rep.via Sequence_to ⟨Rep.zero⟩ rfl
structure Work where
  State : Int
  Since : Int
  Tries : Int
def Work_to (x : Work) : Int × Int × Int := (x.State, x.Since, x.Tries)
instance : Rep Work := Rep.via Work_to ⟨Rep.zero, Rep.zero, Rep.zero⟩ rfl
structure Progress where
  Time : Int
  Works : (List Work)
def Progress_to (x : Progress) : Int × (List Work) := (x.Time, x.Works)
instance : Rep Progress := Rep.via Progress_to ⟨Rep.zero, Rep.zero⟩ rfl
structure Src where
  L : (List Int)
  At : Int
def Src_to (x : Src) : (List Int) × Int := (x.L, x.At)
instance : Rep Src := Rep.via Src_to ⟨Rep.zero, Rep.zero⟩ rfl
@[reducible] def D (n : Nat) : Type := match n with
  | 0 => Int
  | 1 => Bool
  | 2 => ByteArray
  | 3 => Sequence
  | 4 => Stage
  | 5 => Progress
  | 6 => Work
  | 7 => (ByteArray × Bool)
  | 8 => U8
  | 9 => (List Work)
  | 10 => (List Int)
  | 11 => Src
  | _ => Int
instance repD (n : Nat) : Rep (D n) := match n with
  | 0 => inferInstanceAs (Rep Int)
  | 1 => inferInstanceAs (Rep Bool)
  | 2 => inferInstanceAs (Rep ByteArray)
  | 3 => inferInstanceAs (Rep Sequence)
  | 4 => inferInstanceAs (Rep Stage)
  | 5 => inferInstanceAs (Rep Progress)
  | 6 => inferInstanceAs (Rep Work)
  | 7 => inferInstanceAs (Rep (ByteArray × Bool))
  | 8 => inferInstanceAs (Rep U8)
  | 9 => inferInstanceAs (Rep (List Work))
  | 10 => inferInstanceAs (Rep (List Int))
  | 11 => inferInstanceAs (Rep Src)
  | _ + 12 => inferInstanceAs (Rep Int)
def tabLv (n : Nat) : List Lf := match n with
  | 0 => [(.int .i64)]
  | 1 => [.bool]
  | 2 => [.str]
  | 3 => [(.sl 4)]
  | 4 => [.str, (.int .i64), (.int .i64), (.sl 0)]
  | 5 => [(.int .i64), (.sl 6)]
  | 6 => [(.int .i64), (.int .i64), (.int .i64)]
  | 7 => [.str, .bool]
  | 8 => [(.int .u8)]
  | 9 => [(.sl 6)]
  | 10 => [(.sl 0)]
  | 11 => [(.sl 0), (.int .i64)]
  | _ => [.int .i64]
def tabAg (n : Nat) : Bool := match n with
  | 0 => false
  | 1 => false
  | 2 => false
  | 3 => true
  | 4 => true
  | 5 => true
  | 6 => true
  | 7 => true
  | 8 => false
  | 9 => false
  | 10 => false
  | 11 => true
  | _ => false
def tabOut : ∀ n : Nat, D n → HL D (tabLv n)
  | 0 => fun x => x
  | 1 => fun x => x
  | 2 => fun x => x
  | 3 => fun x => x.Stages
  | 4 => fun x => (x.Name, x.Ticks, x.Tries, x.Needs)
  | 5 => fun x => (x.Time, x.Works)
  | 6 => fun x => (x.State, x.Since, x.Tries)
  | 7 => fun x => x
  | 8 => fun x => x.n
  | 9 => fun x => x
  | 10 => fun x => x
  | 11 => fun x => (x.L, x.At)
  | _ + 12 => fun x => x
def tabMk : ∀ n : Nat, HL D (tabLv n) → D n
  | 0 => fun h => h
  | 1 => fun h => h
  | 2 => fun h => h
  | 3 => fun h => ⟨h⟩
  | 4 => fun h => ⟨h.1, h.2.1, h.2.2.1, h.2.2.2⟩
  | 5 => fun h => ⟨h.1, h.2⟩
  | 6 => fun h => ⟨h.1, h.2.1, h.2.2⟩
  | 7 => fun h => h
  | 8 => fun h => ⟨h⟩
  | 9 => fun h => h
  | 10 => fun h => h
  | 11 => fun h => ⟨h.1, h.2⟩
  | _ + 12 => fun h => h
def tabZero : ∀ n : Nat, D n
  | 0 => (0 : Int)
  | 1 => false
  | 2 => ByteArray.empty
  | 3 => (⟨[]⟩ : Sequence)
  | 4 => (⟨ByteArray.empty, (0 : Int), (0 : Int), []⟩ : Stage)
  | 5 => (⟨(0 : Int), []⟩ : Progress)
  | 6 => (⟨(0 : Int), (0 : Int), (0 : Int)⟩ : Work)
  | 7 => (ByteArray.empty, false)
  | 8 => (⟨0⟩ : U8)
  | 9 => ([] : (List Work))
  | 10 => ([] : (List Int))
  | 11 => (⟨[], (0 : Int)⟩ : Src)
  | _ + 12 => (0 : Int)
def T : Tab D where
  lv := tabLv
  ag := tabAg
  outH := tabOut
  mkH := tabMk
  zero := tabZero
  ty := [(3, .one (.int .i64)), (4, .one .bool), (5, .one (.int .u8)), (9, .one .str), (22, .one (.sl 0)), (24, .ptr), (26, .one (.sl 4)), (28, .st 3), (34, .st 4), (37, .one (.sl 6)), (39, .st 5), (43, .one (.int .i64)), (62, .st 6), (64, .st 11), (65, .one (.sl 8)), (69, .fn), (76, .one (.sl 2)), (77, .one (.sl 10))]
  fld := [(28, [(0, 1)]), (34, [(0, 1), (1, 1), (2, 1), (3, 1)]), (39, [(0, 1), (1, 1)]), (62, [(0, 1), (1, 1), (2, 1)]), (64, [(0, 1), (1, 1)])]
  els := [(22, 3, 0), (26, 34, 4), (37, 62, 6), (65, 5, 8), (76, 9, 2), (77, 22, 10)]
  eqs := [(62, [(.int .i64), (.int .i64), (.int .i64)])]
  kd := []
  ars := [(41, 3, 28, 3), (47, 2, 22, 10), (48, 2, 3, 0), (53, 3, 39, 5), (58, 3, 22, 10)]
  pre := []
  mps := [(78, 9, 4, 7)]
theorem rd4 : RdIs D Stage (fun x => [⟨.str, x.Name⟩, ⟨(.int .i64), x.Ticks⟩, ⟨(.int .i64), x.Tries⟩, ⟨(.sl 0), x.Needs⟩]) := fun S w cs x => (RdIs.prod RdIs.str (RdIs.prod RdIs.int (RdIs.prod RdIs.int ((RdIs.sl 0)))) : RdIs D (ByteArray × Int × Int × (List Int)) _) S w cs (Stage_to x)
theorem rd3 : RdIs D Sequence (fun x => [⟨(.sl 4), x.Stages⟩]) := fun S w cs x => ((RdIs.sl 4) : RdIs D ((List Stage)) _) S w cs (Sequence_to x)
theorem rd6 : RdIs D Work (fun x => [⟨(.int .i64), x.State⟩, ⟨(.int .i64), x.Since⟩, ⟨(.int .i64), x.Tries⟩]) := fun S w cs x => (RdIs.prod RdIs.int (RdIs.prod RdIs.int (RdIs.int)) : RdIs D (Int × Int × Int) _) S w cs (Work_to x)
theorem rd5 : RdIs D Progress (fun x => [⟨(.int .i64), x.Time⟩, ⟨(.sl 6), x.Works⟩]) := fun S w cs x => (RdIs.prod RdIs.int ((RdIs.sl 6)) : RdIs D (Int × (List Work)) _) S w cs (Progress_to x)
theorem rd11 : RdIs D Src (fun x => [⟨(.sl 0), x.L⟩, ⟨(.int .i64), x.At⟩]) := fun S w cs x => (RdIs.prod (RdIs.sl 0) (RdIs.int) : RdIs D ((List Int) × Int) _) S w cs (Src_to x)
theorem rd7 : RdIs D (ByteArray × Bool) (fun x => [⟨.str, x.1⟩, ⟨.bool, x.2⟩]) := RdIs.prod RdIs.str (RdIs.bool)
theorem rd9 : RdIs D (List Work) (fun x => [⟨.sl 6, x⟩]) := RdIs.sl 6
theorem rd10 : RdIs D (List Int) (fun x => [⟨.sl 0, x⟩]) := RdIs.sl 0
theorem repOk : RepOk T where
  sz := fun n => match n with
    | 0 => rfl
    | 1 => rfl
    | 2 => rfl
    | 3 => rfl
    | 4 => rfl
    | 5 => rfl
    | 6 => rfl
    | 7 => rfl
    | 8 => rfl
    | 9 => rfl
    | 10 => rfl
    | 11 => rfl
    | _ + 12 => rfl
  ag := fun n => match n with
    | 0 => rfl
    | 1 => rfl
    | 2 => rfl
    | 3 => rfl
    | 4 => rfl
    | 5 => rfl
    | 6 => rfl
    | 7 => rfl
    | 8 => rfl
    | 9 => rfl
    | 10 => rfl
    | 11 => rfl
    | _ + 12 => rfl
  zc := fun n => match n with
    | 0 => rfl
    | 1 => rfl
    | 2 => rfl
    | 3 => rfl
    | 4 => rfl
    | 5 => rfl
    | 6 => rfl
    | 7 => rfl
    | 8 => rfl
    | 9 => rfl
    | 10 => rfl
    | 11 => rfl
    | _ + 12 => rfl
  zero := fun n => match n with
    | 0 => rfl
    | 1 => rfl
    | 2 => rfl
    | 3 => rfl
    | 4 => rfl
    | 5 => rfl
    | 6 => rfl
    | 7 => rfl
    | 8 => rfl
    | 9 => rfl
    | 10 => rfl
    | 11 => rfl
    | _ + 12 => rfl
  rd := fun n S w cs x => match n, x with
    | 0, x => RdIs.int S w cs x
    | 1, x => RdIs.bool S w cs x
    | 2, x => RdIs.str S w cs x
    | 3, x => rd3 S w cs x
    | 4, x => rd4 S w cs x
    | 5, x => rd5 S w cs x
    | 6, x => rd6 S w cs x
    | 7, x => rd7 S w cs x
    | 8, x => RdIs.u8 S w cs x
    | 9, x => rd9 S w cs x
    | 10, x => rd10 S w cs x
    | 11, x => rd11 S w cs x
    | _ + 12, x => RdIs.int S w cs x
  few := fun n => match n with
    | 0 => by decide
    | 1 => by decide
    | 2 => by decide
    | 3 => by decide
    | 4 => by decide
    | 5 => by decide
    | 6 => by decide
    | 7 => by decide
    | 8 => by decide
    | 9 => by decide
    | 10 => by decide
    | 11 => by decide
    | _ + 12 => by show 1 ≤ 48; decide
  mkh := fun n h => match n, h with
    | 0, h => rfl
    | 1, h => rfl
    | 2, h => rfl
    | 3, h => rfl
    | 4, h => rfl
    | 5, h => rfl
    | 6, h => rfl
    | 7, h => rfl
    | 8, h => rfl
    | 9, h => rfl
    | 10, h => rfl
    | 11, h => rfl
    | _ + 12, h => rfl
theorem tyr3 : TyF Try.prog T 3 (.one (.int .i64)) := ⟨TyR.of Try.underlying3 rfl (by kernel_rfl), Try.underlying3⟩
theorem tyr4 : TyF Try.prog T 4 (.one .bool) := ⟨TyR.of Try.underlying4 rfl (by kernel_rfl), Try.underlying4⟩
theorem tyr5 : TyF Try.prog T 5 (.one (.int .u8)) := ⟨TyR.of Try.underlying5 rfl (by kernel_rfl), Try.underlying5⟩
theorem tyr9 : TyF Try.prog T 9 (.one .str) := ⟨TyR.of Try.underlying9 rfl (by kernel_rfl), Try.underlying9⟩
theorem tyr22 : TyF Try.prog T 22 (.one (.sl 0)) := ⟨TyR.of Try.underlying22 rfl (by kernel_rfl), trivial⟩
theorem tyr24 : TyF Try.prog T 24 (.ptr) := ⟨TyR.of Try.underlying24 rfl (by kernel_rfl), trivial⟩
theorem tyr26 : TyF Try.prog T 26 (.one (.sl 4)) := ⟨TyR.of Try.underlying26 rfl (by kernel_rfl), trivial⟩
theorem tyr28 : TyF Try.prog T 28 (.st 3) := ⟨TyR.of Try.underlying28 rfl (by kernel_rfl), trivial⟩
theorem tyr34 : TyF Try.prog T 34 (.st 4) := ⟨TyR.of Try.underlying34 rfl (by kernel_rfl), trivial⟩
theorem tyr37 : TyF Try.prog T 37 (.one (.sl 6)) := ⟨TyR.of Try.underlying37 rfl (by kernel_rfl), trivial⟩
theorem tyr39 : TyF Try.prog T 39 (.st 5) := ⟨TyR.of Try.underlying39 rfl (by kernel_rfl), trivial⟩
theorem tyr43 : TyF Try.prog T 43 (.one (.int .i64)) := ⟨TyR.of Try.underlying43 rfl (by kernel_rfl), Try.underlying43⟩
theorem tyr62 : TyF Try.prog T 62 (.st 6) := ⟨TyR.of Try.underlying62 rfl (by kernel_rfl), trivial⟩
theorem tyr64 : TyF Try.prog T 64 (.st 11) := ⟨TyR.of Try.underlying64 rfl (by kernel_rfl), trivial⟩
theorem tyr65 : TyF Try.prog T 65 (.one (.sl 8)) := ⟨TyR.of Try.underlying65 rfl (by kernel_rfl), trivial⟩
theorem tyr69 : TyF Try.prog T 69 (.fn) := ⟨TyR.of Try.underlying69 rfl (by kernel_rfl), trivial⟩
theorem tyr76 : TyF Try.prog T 76 (.one (.sl 2)) := ⟨TyR.of Try.underlying76 rfl (by kernel_rfl), trivial⟩
theorem tyr77 : TyF Try.prog T 77 (.one (.sl 10)) := ⟨TyR.of Try.underlying77 rfl (by kernel_rfl), trivial⟩
theorem slr22 : Try.prog.underlying 22 = some (.slice 3) ∧ TyOk Try.prog 3 (D 0) := ⟨Try.underlying22, TyOk.of Try.underlying3 rfl (by kernel_rfl)⟩
theorem slr26 : Try.prog.underlying 26 = some (.slice 34) ∧ TyOk Try.prog 34 (D 4) := ⟨Try.underlying26, TyOk.of Try.underlying34 rfl (by kernel_rfl)⟩
theorem slr37 : Try.prog.underlying 37 = some (.slice 62) ∧ TyOk Try.prog 62 (D 6) := ⟨Try.underlying37, TyOk.of Try.underlying62 rfl (by kernel_rfl)⟩
theorem slr65 : Try.prog.underlying 65 = some (.slice 5) ∧ TyOk Try.prog 5 (D 8) := ⟨Try.underlying65, TyOk.of Try.underlying5 rfl (by kernel_rfl)⟩
theorem slr76 : Try.prog.underlying 76 = some (.slice 9) ∧ TyOk Try.prog 9 (D 2) := ⟨Try.underlying76, TyOk.of Try.underlying9 rfl (by kernel_rfl)⟩
theorem slr77 : Try.prog.underlying 77 = some (.slice 22) ∧ TyOk Try.prog 22 (D 10) := ⟨Try.underlying77, TyOk.of Try.underlying22 rfl (by kernel_rfl)⟩
theorem flr28 : StOk Try.prog 28 [(0, 1)] ∧ ∀ i off sz, [((0 : Nat), (1 : Nat))][i]? = some (off, sz) → FldAt Try.prog 28 i off := flds_ok ⟨_, Try.underlying28, by kernel_rfl⟩ rfl
theorem flr34 : StOk Try.prog 34 [(0, 1), (1, 1), (2, 1), (3, 1)] ∧ ∀ i off sz, [((0 : Nat), (1 : Nat)), ((1 : Nat), (1 : Nat)), ((2 : Nat), (1 : Nat)), ((3 : Nat), (1 : Nat))][i]? = some (off, sz) → FldAt Try.prog 34 i off := flds_ok ⟨_, Try.underlying34, by kernel_rfl⟩ rfl
theorem flr39 : StOk Try.prog 39 [(0, 1), (1, 1)] ∧ ∀ i off sz, [((0 : Nat), (1 : Nat)), ((1 : Nat), (1 : Nat))][i]? = some (off, sz) → FldAt Try.prog 39 i off := flds_ok ⟨_, Try.underlying39, by kernel_rfl⟩ rfl
theorem flr62 : StOk Try.prog 62 [(0, 1), (1, 1), (2, 1)] ∧ ∀ i off sz, [((0 : Nat), (1 : Nat)), ((1 : Nat), (1 : Nat)), ((2 : Nat), (1 : Nat))][i]? = some (off, sz) → FldAt Try.prog 62 i off := flds_ok ⟨_, Try.underlying62, by kernel_rfl⟩ rfl
theorem flr64 : StOk Try.prog 64 [(0, 1), (1, 1)] ∧ ∀ i off sz, [((0 : Nat), (1 : Nat)), ((1 : Nat), (1 : Nat))][i]? = some (off, sz) → FldAt Try.prog 64 i off := flds_ok ⟨_, Try.underlying64, by kernel_rfl⟩ rfl
theorem eql3 : EqL Try.prog 3 false [(.int .i64)] 1 := EqL.int Try.underlying3
theorem eql62 : EqL Try.prog 62 true [(.int .i64), (.int .i64), (.int .i64)] 2 := by
  refine EqL.struct (k := 1) Try.underlying62 (by kernel_rfl) ?_
  exact ⟨by simp, rfl, false, [(.int .i64)], [(.int .i64), (.int .i64)], [.int .i64 0], rfl, TyR.of Try.underlying3 rfl (by kernel_rfl), rfl, fun _ => rfl, eql3.up (by decide), ⟨by simp, rfl, false, [(.int .i64)], [(.int .i64)], [.int .i64 0], rfl, TyR.of Try.underlying3 rfl (by kernel_rfl), rfl, fun _ => rfl, eql3.up (by decide), ⟨by simp, rfl, false, [(.int .i64)], [], [.int .i64 0], rfl, TyR.of Try.underlying3 rfl (by kernel_rfl), rfl, fun _ => rfl, eql3.up (by decide), rfl⟩⟩⟩
theorem eqr62 : EqT Try.prog 62 [(.int .i64), (.int .i64), (.int .i64)] ∧ ([(.int .i64), (.int .i64), (.int .i64)] : List Lf).all flatL = true := ⟨⟨⟨2, by decide, eql62⟩, by kernel_rfl⟩, rfl⟩
instance : Flat Work := ⟨fun h => Flat.any (α := Int × Int × Int) h⟩
theorem flat0 : Flat (D 0) := (inferInstance : Flat Int)
theorem flat1 : Flat (D 1) := (inferInstance : Flat Bool)
theorem flat2 : Flat (D 2) := (inferInstance : Flat ByteArray)
theorem flat6 : Flat (D 6) := (inferInstance : Flat Work)
theorem flat7 : Flat (D 7) := (inferInstance : Flat (ByteArray × Bool))
theorem flat8 : Flat (D 8) := (inferInstance : Flat U8)
theorem arr41 : ArrT Try.prog D 41 3 28 3 := ArrT.of Try.underlying41 (TyOk.of Try.underlying28 rfl (by kernel_rfl)) (by kernel_rfl)
theorem arr47 : ArrT Try.prog D 47 2 22 10 := ArrT.of Try.underlying47 (TyOk.of Try.underlying22 rfl (by kernel_rfl)) (by kernel_rfl)
theorem arr48 : ArrT Try.prog D 48 2 3 0 := ArrT.of Try.underlying48 (TyOk.of Try.underlying3 rfl (by kernel_rfl)) (by kernel_rfl)
theorem arr53 : ArrT Try.prog D 53 3 39 5 := ArrT.of Try.underlying53 (TyOk.of Try.underlying39 rfl (by kernel_rfl)) (by kernel_rfl)
theorem arr58 : ArrT Try.prog D 58 3 22 10 := ArrT.of Try.underlying58 (TyOk.of Try.underlying22 rfl (by kernel_rfl)) (by kernel_rfl)
theorem mpr78 : MapT Try.prog T 78 9 4 7 := ⟨Try.underlying78, (KeyR.str Try.underlying9), rfl, .bool, rfl, TyR.of Try.underlying4 rfl (by kernel_rfl)⟩
theorem pOk : POk Try.prog T := POk.of (⟨tyr3, tyr4, tyr5, tyr9, tyr22, tyr24, tyr26, tyr28, tyr34, tyr37, tyr39, tyr43, tyr62, tyr64, tyr65, tyr69, tyr76, tyr77, trivial⟩) (⟨slr22, slr26, slr37, slr65, slr76, slr77, trivial⟩) (⟨flr28, flr34, flr39, flr62, flr64, trivial⟩) (⟨eqr62, trivial⟩) (trivial) (⟨arr41, arr47, arr48, arr53, arr58, trivial⟩) (⟨mpr78, trivial⟩)
theorem hmix : Try.prog.follows .mixedOrders = true := by kernel_rfl
def bodyOf (f : Func) : Code := match f.body with
  | some c => c
  | none => .skip
end Rx
end Go.Proofs.Ytnpnaopnhgkapaa
