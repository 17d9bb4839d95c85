/- The types: Lean structures and closed facts. Written by a program (wip/gen). -/
import Derived.Test.YtdfkfohpgakihaaDh
import Derived.Test.YtdfkfohpgakihaaProg
import Derived.KernelRfl
set_option linter.unusedVariables false
set_option linter.unusedSimpArgs false
namespace Go.Proofs.Ytdfkfohpgakihaa
open Go Go.RowKit Dp

structure Part where
  Kind : Int
  Number : Int
def Part.to (x : Part) : Int × Int := (x.Kind, x.Number)
instance : Rep Part := Rep.via Part.to ⟨Rep.zero, Rep.zero⟩ rfl
instance : Flat Part := ⟨fun h => Flat.any (α := Int × Int) h⟩
instance : OneLevel Part := ⟨fun h => OneLevel.loc (α := Int × Int) h⟩
instance : DecidableEq Part := fun a b => if h : a.to = b.to then isTrue (by cases a; cases b; simp_all [Part.to]) else isFalse (by rintro rfl; exact h rfl)
structure Src where
  L : (List Int)
  At : Int
def Src.to (x : Src) : (List Int) × Int := (x.L, x.At)
instance : Rep Src := Rep.via Src.to ⟨Rep.zero, Rep.zero⟩ rfl
instance : OneLevel Src := ⟨fun h => OneLevel.loc (α := (List Int) × Int) h⟩
instance : DecidableEq Src := fun a b => if h : a.to = b.to then isTrue (by cases a; cases b; simp_all [Src.to]) else isFalse (by rintro rfl; exact h rfl)
structure Source where
  Rating : Int
  Least : Int
  Start : Int
def Source.to (x : Source) : Int × Int × Int := (x.Rating, x.Least, x.Start)
instance : Rep Source := Rep.via Source.to ⟨Rep.zero, Rep.zero, Rep.zero⟩ rfl
instance : Flat Source := ⟨fun h => Flat.any (α := Int × Int × Int) h⟩
instance : OneLevel Source := ⟨fun h => OneLevel.loc (α := Int × Int × Int) h⟩
instance : DecidableEq Source := fun a b => if h : a.to = b.to then isTrue (by cases a; cases b; simp_all [Source.to]) else isFalse (by rintro rfl; exact h rfl)
structure Consumer where
  Load : Int
  Least : Int
  Preference : Int
  Thruster : Int
  Needs : (List Int)
def Consumer.to (x : Consumer) : Int × Int × Int × Int × (List Int) := (x.Load, x.Least, x.Preference, x.Thruster, x.Needs)
instance : Rep Consumer := Rep.via Consumer.to ⟨Rep.zero, Rep.zero, Rep.zero, Rep.zero, Rep.zero⟩ rfl
instance : OneLevel Consumer := ⟨fun h => OneLevel.loc (α := Int × Int × Int × Int × (List Int)) h⟩
instance : DecidableEq Consumer := fun a b => if h : a.to = b.to then isTrue (by cases a; cases b; simp_all [Consumer.to]) else isFalse (by rintro rfl; exact h rfl)
structure Breaker where
  Kind : Int
  A : Int
  B : Int
def Breaker.to (x : Breaker) : Int × Int × Int := (x.Kind, x.A, x.B)
instance : Rep Breaker := Rep.via Breaker.to ⟨Rep.zero, Rep.zero, Rep.zero⟩ rfl
instance : Flat Breaker := ⟨fun h => Flat.any (α := Int × Int × Int) h⟩
instance : OneLevel Breaker := ⟨fun h => OneLevel.loc (α := Int × Int × Int) h⟩
instance : DecidableEq Breaker := fun a b => if h : a.to = b.to then isTrue (by cases a; cases b; simp_all [Breaker.to]) else isFalse (by rintro rfl; exact h rfl)
structure Board where
  Buses : Int
  Breakers : (List Breaker)
  Sources : (List Source)
  Consumers : (List Consumer)
  Phase : Int
  Frequency : Int
def Board.to (x : Board) : Int × (List Breaker) × (List Source) × (List Consumer) × Int × Int := (x.Buses, x.Breakers, x.Sources, x.Consumers, x.Phase, x.Frequency)
instance : Rep Board := Rep.via Board.to ⟨Rep.zero, Rep.zero, Rep.zero, Rep.zero, Rep.zero, Rep.zero⟩ rfl
instance : DecidableEq Board := fun a b => if h : a.to = b.to then isTrue (by cases a; cases b; simp_all [Board.to]) else isFalse (by rintro rfl; exact h rfl)
structure Running where
  State : Int
  Since : Int
  Frequency : Int
  Phase : Int
def Running.to (x : Running) : Int × Int × Int × Int := (x.State, x.Since, x.Frequency, x.Phase)
instance : Rep Running := Rep.via Running.to ⟨Rep.zero, Rep.zero, Rep.zero, Rep.zero⟩ rfl
instance : Flat Running := ⟨fun h => Flat.any (α := Int × Int × Int × Int) h⟩
instance : OneLevel Running := ⟨fun h => OneLevel.loc (α := Int × Int × Int × Int) h⟩
instance : DecidableEq Running := fun a b => if h : a.to = b.to then isTrue (by cases a; cases b; simp_all [Running.to]) else isFalse (by rintro rfl; exact h rfl)
structure Power where
  Closed : (List Bool)
  Sources : (List Running)
  Limits : (List Int)
  Broken : (List Part)
def Power.to (x : Power) : (List Bool) × (List Running) × (List Int) × (List Part) := (x.Closed, x.Sources, x.Limits, x.Broken)
instance : Rep Power := Rep.via Power.to ⟨Rep.zero, Rep.zero, Rep.zero, Rep.zero⟩ rfl
instance : OneLevel Power := ⟨fun h => OneLevel.loc (α := (List Bool) × (List Running) × (List Int) × (List Part)) h⟩
instance : DecidableEq Power := fun a b => if h : a.to = b.to then isTrue (by cases a; cases b; simp_all [Power.to]) else isFalse (by rintro rfl; exact h rfl)
structure Island where
  Buses : (List Int)
  Sources : (List Int)
  Consumers : (List Int)
def Island.to (x : Island) : (List Int) × (List Int) × (List Int) := (x.Buses, x.Sources, x.Consumers)
instance : Rep Island := Rep.via Island.to ⟨Rep.zero, Rep.zero, Rep.zero⟩ rfl
instance : OneLevel Island := ⟨fun h => OneLevel.loc (α := (List Int) × (List Int) × (List Int)) h⟩
instance : DecidableEq Island := fun a b => if h : a.to = b.to then isTrue (by cases a; cases b; simp_all [Island.to]) else isFalse (by rintro rfl; exact h rfl)
end Go.Proofs.Ytdfkfohpgakihaa
