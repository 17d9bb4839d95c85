/- A pure reading of the code: values as data, what each operation does to them, the code run with a continuation. Definitions alone. Nothing here names a program. -/
import Derived.Test.YtkgfdplcjdidhaaKd
import Derived.KernelRfl
set_option linter.unusedVariables false
namespace Go.Proofs.Ytkgfdplcjdidhaa
open Go Dp

def mkZ {α : Type} (z : α) (n : Int) : Option (List α) := if 0 ≤ n ∧ n ≤ 1073741824 then some (List.replicate n.toNat z) else none
/-- append(nil, make([]T, n)...) -/
def mkP {α : Type} (z : α) (n : Int) : Option (List α) := if 0 < n ∧ n ≤ 1073741824 then some (List.replicate n.toNat z) else none

namespace Rx

/-! what stands in the plain functions -/
abbrev obind {α β : Type} (o : Option α) (f : α → Option β) : Option β := o.bind f
abbrev oelim {α β γ : Type} (f : α → γ) (g : β → γ) (x : α ⊕ β) : γ := Sum.elim f g x
/-- 'if c = true then a else b', unfolded once: its head is never an 'if' that the kernel could hold beside another one -/
abbrev cnd {α : Type} (c : Bool) (a b : α) : α := Decidable.casesOn (motive := fun _ => α) (instDecidableEqBool c true) (fun _ => b) (fun _ => a)
abbrev iadd (a b : Int) : Int := W (a + b)
abbrev isub (a b : Int) : Int := W (a - b)
abbrev imul (a b : Int) : Int := W (a * b)
abbrev ineg (a : Int) : Int := W (-a)
abbrev ieq (a b : Int) : Bool := a == b
abbrev ine (a b : Int) : Bool := a != b
abbrev ilt (a b : Int) : Bool := decide (a < b)
abbrev ile (a b : Int) : Bool := decide (a ≤ b)
abbrev igt (a b : Int) : Bool := decide (a > b)
abbrev ige (a b : Int) : Bool := decide (a ≥ b)
abbrev iadd0 (a b : Int) : Int := a + b
abbrev isub0 (a b : Int) : Int := a - b
abbrev imul0 (a b : Int) : Int := a * b
abbrev iwrap (k : IntKind) (a : Int) : Int := k.wrap a
/-- the rest from j on made zero -/
abbrev clrT {α : Type} (z : α) (xs : List α) (j : Int) : List α := xs.take j.toNat ++ List.replicate (xs.length - j.toNat) z
abbrev eqO (a b : Int) : Option Unit := if a = b then some () else none
abbrev takI {α : Type} (xs : List α) (j : Int) : List α := xs.take j.toNat
abbrev drpI {α : Type} (xs : List α) (j : Int) : List α := xs.drop j.toNat
abbrev shrO (n : Nat) (a b : Int) : Option Int := if b < 0 then none else some (a.fdiv (2 ^ min b.toNat n))
abbrev beq' (a b : Bool) : Bool := a == b
abbrev bnot (a : Bool) : Bool := !a
abbrev band (a b : Bool) : Bool := a && b
abbrev imin (p q : Int) : Int := if q < p then q else p
abbrev imax (p q : Int) : Int := if p < q then q else p
abbrev sEq (a b : ByteArray) : Bool := a == b
/-- a string by its bytes -/
abbrev bsL (l : List Nat) : ByteArray := ⟨(l.map UInt8.ofNat).toArray⟩
abbrev sApp (a b : ByteArray) : Option ByteArray := if a.size + b.size ≤ 1073741824 then some (a ++ b) else none
abbrev sLen (a : ByteArray) : Int := (a.size : Int)
abbrev sIdx (s : ByteArray) (j : Int) : Option Int := if 0 ≤ j then (match s.data[j.toNat]? with | some b => some (b.toNat : Int) | none => none) else none
/-- a string's bytes -/
abbrev sBys {α : Type} (mk : Int → α) (s : ByteArray) : Option (List α) := if s.size ≤ 1073741824 then some (s.data.toList.map fun b => mk (b.toNat : Int)) else none
/-- bytes as a string -/
abbrev bysS {α : Type} (f : α → Int) (xs : List α) : ByteArray := (xs.map f).foldl (fun r n => r.push (UInt8.ofNat n.toNat)) ByteArray.empty
/-- a list that is not empty -/
abbrev neO {α : Type} (xs : List α) : Option Unit := match xs with
  | [] => none
  | _ :: _ => some ()
/-- a map as the list of its entries: what stands at a key (f: 'has this key'), and an entry put in -/
def mget {α β : Type} (f : α → Bool) (v : α → β) (z : β) (xs : List α) : β := match xs.find? f with
  | some x => v x
  | none => z
def mput {α : Type} (f : α → Bool) (z : α) (xs : List α) : List α := if xs.any f = true then xs.map fun x => if f x = true then z else x else xs ++ [z]
/-- a loop, of at most 2^64 rounds: the kernel can run it -/
def loopN {σ ρ : Type} (step : σ → Option (σ ⊕ ρ)) (n : Nat) : σ → Option ρ := Nat.rec (motive := fun _ => σ → Option ρ) (fun _ => none) (fun _ ih s => match step s with
  | some (.inl s') => ih s'
  | some (.inr r) => some r
  | none => none) n
def loopO {σ ρ : Type} (step : σ → Option (σ ⊕ ρ)) (s : σ) : Option ρ := loopN step 18446744073709551616 s

/-- kinds of one cell: 'sl n' is a slice of elements of type number n -/
inductive Lf | int (k : IntKind) | bool | str | sl (n : Nat)
deriving DecidableEq
/-- kinds of a hole: one cell, or all cells of element type number n -/
inductive Ht | lf (l : Lf) | el (n : Nat)

section
variable (D : Nat → Type)
@[reducible] def Lf.den : Lf → Type
  | .int _ => Int
  | .bool => Bool
  | .str => ByteArray
  | .sl n => List (D n)
@[reducible] def Ht.den : Ht → Type
  | .lf l => l.den D
  | .el n => D n
def HL : List Lf → Type
  | [] => Unit
  | l :: r => match r with
    | [] => l.den D
    | _ :: _ => l.den D × HL r
def HH : List Ht → Type
  | [] => Unit
  | l :: r => match r with
    | [] => l.den D
    | _ :: _ => l.den D × HH r
structure DV where
  l : Lf
  d : l.den D

/-- what a closure holds -/
inductive A0
  | ptr (i off : Nat)
  | rp (n : Nat) (x : D n) (off : Nat) (K : List Nat)
/-- one cell -/
inductive A1
  | v (l : Lf) (d : l.den D) (K : List Nat) (g : Nat)
  | vb (n : Nat) (xs : List (D n)) (K : List Nat) (g : Nat) (b : Bool)
  | ptr (i off : Nat)
  | el (i n : Nat) (j : Int) (y : D n) (off tc tj : Nat)
  | rp (n : Nat) (x : D n) (off : Nat) (K : List Nat)
  | own (i : Nat)
  | fn (f : Nat) (caps : List (A0 D))
  | ch (i n : Nat) (j : Int) (off ct m : Nat) (d : List (D m))
  | cha (i t : Nat)
  | tail (i n : Nat) (j : Int)
  | pre (i n : Nat) (j : Int)
  | junk
  | arr (n : Nat) (xs : List (D n)) (K : List Nat)
  | nils
  | nilp
  | nilf
  | undef
  | unk
inductive AC | one (a : A1 D) | agg (l : List (A1 D))
inductive AV | c (x : AC D) | tup (l : List (AC D))
/-- blocks of the call's own: a variable, known cell by cell, or the array of a slice; 'kid': .. whose elements hold slices of the call's own (arrays of element type number m, type Tc), 'kidh': .. while one of them, appended to, is not yet back in its place; 'fz': a slice that nobody writes any more; 'mp': a map's entries, keys and values as elements of type number n -/
inductive AO
  | box (cs : List (A1 D))
  | sl (n T : Nat) (xs : List (D n)) (K : List Nat) (g : Nat)
  | kid (n T Tc m : Nat) (xs : List (D n)) (g ht : Nat)
  | kidh (n T Tc m : Nat) (xs : List (D n)) (j : Int) (off t g : Nat)
  | fz (n : Nat) (xs : List (D n)) (K : List Nat)
  | mp (n : Nat) (xs : List (D n))

/-- a small program that looks at blocks and may fail -/
inductive Q (α : Type) : Type 1
  | ret (a : α)
  | fail
  | obj (i : Nat) (k : AO D → Q α)
  | part {β : Type} (o : Option β) (k : β → Q α)

/-- types by their number in the program -/
inductive TyD | one (l : Lf) | st (n : Nat) | ptr | fn
structure Tab where
  lv : Nat → List Lf
  ag : Nat → Bool
  outH : ∀ n, D n → HL D (lv n)
  mkH : ∀ n, HL D (lv n) → D n
  zero : ∀ n, D n
  ty : List (Nat × TyD)
  fld : List (Nat × List (Nat × Nat))
  els : List (Nat × Nat × Nat)
  eqs : List (Nat × List Lf)
  kd : List (Nat × Nat × Nat)
  ars : List (Nat × Nat × Nat × Nat)
  pre : List Nat
  mps : List (Nat × Nat × Nat × Nat)

/-- what is known -/
structure S where
  sl : List (Nat × AV D)
  ob : List (Nat × Option (AO D))
  nx : Nat
  lk : List Nat
structure Eff where
  dst : AV D
  upd : List (Nat × Option (AO D))
  fz : List Nat
end

def leafK (K : List Nat) : Lf → List Nat
  | .sl _ => K
  | _ => []
def lookN {α : Type} : List (Nat × α) → Nat → Option α
  | [], _ => none
  | p :: r, t => cond (Nat.beq p.1 t) (some p.2) (lookN r t)
def memN : List Nat → Nat → Bool
  | [], _ => false
  | p :: r, t => cond (Nat.beq p t) true (memN r t)

inductive Out | normal | exit (id : Nat) | goto (l : Nat) | ret
def Out.beq : Out → Out → Bool
  | .normal, .normal => true
  | .exit a, .exit b => Nat.beq a b
  | .goto a, .goto b => Nat.beq a b
  | .ret, .ret => true
  | _, _ => false

/-! patterns: what a joint, a call's entry or a call's end looks like -/
inductive P0 | ptr (i off : Nat) | rp (i n : Nat) (K : List Nat)
inductive P1
  | h (i : Nat) (K : List Nat)
  | hb (i j : Nat) (K : List Nat)
  | ptr (i off : Nat)
  | own (i : Nat)
  | rp (i n : Nat) (K : List Nat)
  | fn (f : Nat) (caps : List P0)
  | nils
  | nilp
  | any
  | junk
inductive PC | one (p : P1) | agg (ps : List P1)
inductive PO | box (ps : List P1) | sl (n T i : Nat) (K : List Nat) | kid (n T Tc m i : Nat) | mp (n i : Nat)
structure J where
  hts : List Ht
  sl : List (Nat × PC)
  ob : List (Nat × PO)
  mv : List Nat
  nx : Nat
structure Con (D : Nat → Type) where
  f : Nat
  ins : List Ht
  outs : List Ht
  args : List PC
  ob : List (Nat × PO)
  res : List PC
  ob' : List (Nat × PO)
  fn : HH D ins → Option (HH D outs)

/-- segments of a region's operations: from s on, m of them, up to a joint -/
inductive Sg | nil | seg (s m : Nat) (j : J) (inner next : Sg) | thaw (s : Nat) (l : List Nat) (next : Sg)
inductive An
  | o
  | n (cut : Option (Bool × List (Out × J))) (a b : An)
  | r (cut : Option (Bool × List (Out × J))) (s : Sg)
  | loop (j : J) (pr : Bool) (E : List (Out × J)) (a : An)
  | f (l : List Nat) (a : An)
  | lab (j : J) (pr : Bool) (E : List (Out × J)) (a : An)
/-- blocks that nobody writes from here on -/
def An.fz : An → List Nat
  | .f l _ => l
  | _ => []
def An.un : An → An
  | .f _ a => a
  | a => a
def An.cut : An → Option (Bool × List (Out × J))
  | .n c _ _ => c
  | .r c _ => c
  | _ => none
def An.a : An → An
  | .n _ a _ => a
  | _ => .o
def An.b : An → An
  | .n _ _ b => b
  | _ => .o
def An.sg : An → Sg
  | .r _ s => s
  | _ => .nil

section
variable {D : Nat → Type}

def Q.bind {α β : Type} : Q D α → (α → Q D β) → Q D β
  | .ret a, f => f a
  | .fail, _ => .fail
  | .obj i k, f => .obj i fun x => (k x).bind f
  | .part o k, f => .part o fun y => (k y).bind f
def lookO (ob : List (Nat × Option (AO D))) (i : Nat) : Option (AO D) := match lookN ob i with
  | some (some x) => some x
  | _ => none
/-- run: the continuation is told which blocks were looked at -/
def Q.go {ρ α : Type} (ob : List (Nat × Option (AO D))) : Q D α → List Nat → (α → List Nat → Option ρ) → Option ρ
  | .ret a, lg, k => k a lg
  | .fail, _, _ => none
  | .obj i f, lg, k => match lookO ob i with
    | some x => (f x).go ob (i :: lg) k
    | none => none
  | .part o f, lg, k => obind o fun y => (f y).go ob lg k

/-! data -/
def toHL : (ts : List Lf) → List (DV D) → Option (HL D ts)
  | [], l => match l with
    | [] => some ()
    | _ => none
  | l :: r, ds => match r, ds with
    | [], [⟨l', d⟩] => if h : l' = l then some (h ▸ d) else none
    | m :: r', ⟨l', d⟩ :: ds' => if h : l' = l then match toHL (m :: r') ds' with
      | some x => some (h ▸ d, x)
      | none => none
      else none
    | _, _ => none
def ofHL : (ts : List Lf) → HL D ts → List (DV D)
  | [], _ => []
  | l :: r, x => match r, x with
    | [], x => [⟨l, x⟩]
    | m :: r', x => ⟨l, x.1⟩ :: ofHL (m :: r') x.2
def Tab.out (T : Tab D) (n : Nat) (x : D n) : List (DV D) := ofHL (T.lv n) (T.outH n x)
def Tab.mk? (T : Tab D) (n : Nat) (l : List (DV D)) : Option (D n) := match toHL (T.lv n) l with
  | some h => some (T.mkH n h)
  | none => none
def unOne (T : Tab D) : (t : Ht) → List (DV D) → Option (t.den D × List (DV D))
  | .lf l, ⟨l', d⟩ :: r => if h : l' = l then some (h ▸ d, r) else none
  | .lf _, [] => none
  | .el n, ds => match T.mk? n (ds.take (T.lv n).length) with
    | some x => some (x, ds.drop (T.lv n).length)
    | none => none
def toHH (T : Tab D) : (ts : List Ht) → List (DV D) → Option (HH D ts)
  | [], l => match l with
    | [] => some ()
    | _ => none
  | t :: r, ds => match r with
    | [] => match unOne T t ds with
      | some (x, []) => some x
      | _ => none
    | m :: r' => match unOne T t ds with
      | some (x, ds') => match toHH T (m :: r') ds' with
        | some y => some (x, y)
        | none => none
      | none => none
def ofOne (T : Tab D) : (t : Ht) → t.den D → List (DV D)
  | .lf l, x => [⟨l, x⟩]
  | .el n, x => T.out n x
def ofHH (T : Tab D) : (ts : List Ht) → HH D ts → List (DV D)
  | [], _ => []
  | t :: r, x => match r, x with
    | [], x => ofOne T t x
    | m :: r', x => ofOne T t x.1 ++ ofHH T (m :: r') x.2
def Ht.lfs (T : Tab D) : Ht → List Lf
  | .lf l => [l]
  | .el n => T.lv n
def tys (T : Tab D) : List Ht → List Lf
  | [] => []
  | t :: r => t.lfs T ++ tys T r

/-! taking a state apart along a pattern -/
structure M (D : Nat → Type) where
  call : Bool
  xb : Nat
  tl : List Lf
  po : List (Nat × PO)
  ids : List (Nat × Nat)
  dvs : List (Nat × DV D)
  ku : List Nat
  kr : List Nat
  new : List (Nat × AO D)
  nf : Nat

def subB (K K' : List Nat) : Bool := K.all (memN K')
def M.dv (m : M D) (i : Nat) (d : DV D) : M D := { m with dvs := (i, d) :: m.dvs }
def M.reads (m : M D) (K : List Nat) : M D := { m with kr := K ++ m.kr }
def M.uses (m : M D) (i : Nat) : M D := { m with ku := i :: m.ku }
/-- memory that may be told through a hole -/
def M.may (m : M D) (K Kp : List Nat) : Bool := if m.call then K.isEmpty || memN Kp 0 else subB K Kp
def M.bind (m : M D) (p i : Nat) : Q D (M D) := match lookN m.ids p with
  | some i' => if Nat.beq i' i then .ret m else .fail
  | none => if memN (m.po.map Prod.fst) p then (if memN (m.ids.map Prod.snd) i then .fail else .ret { m with ids := (p, i) :: m.ids })
    else if !m.call && Nat.beq p i && Nat.blt p m.xb then .ret m else .fail
def asDV : AO D → Option (DV D × List Nat)
  | .sl n _ xs K _ => some (⟨.sl n, xs⟩, K)
  | .kid n _ _ _ xs _ _ => some (⟨.sl n, xs⟩, [])
  | _ => none
def asFz : AO D → Option (DV D × List Nat)
  | .fz n xs K => some (⟨.sl n, xs⟩, K)
  | _ => none
/-- one cell read as data -/
def rdA (m : M D) (i : Nat) (Kp : List Nat) : A1 D → Q D (M D)
  | .v l d K _ => if m.may K Kp then .ret ((m.dv i ⟨l, d⟩).reads K) else .fail
  | .vb n xs K _ _ => if m.may K Kp then .ret ((m.dv i ⟨.sl n, xs⟩).reads K) else .fail
  | .nils => match m.tl[i]? with
    | some (.sl n) => .ret (m.dv i ⟨.sl n, []⟩)
    | _ => .fail
  | .own j => .obj j fun o => match asFz o with
    | some (d, K) => if m.may K Kp then .ret ((m.dv i d).reads K) else .fail
    | none => match asDV o with
      | some (d, K) => if m.may (1 :: K) Kp then .ret (((m.dv i d).reads K).uses j) else .fail
      | none => .fail
  | .ch i' n j off ct q d => .obj i' fun
    | .kid n' _ _ q' _ _ ht => if Nat.beq n n' && Nat.beq q q' && Nat.beq ct ht && m.may [1] Kp then .ret ((m.dv i ⟨.sl q, d⟩).uses i') else .fail
    | _ => .fail
  | _ => .fail
def rdAs (Kp : List Nat) : M D → Nat → List (A1 D) → Q D (M D)
  | m, _, [] => .ret m
  | m, i, a :: r => (rdA m i Kp a).bind fun m => rdAs Kp m (i + 1) r
def rdDs : M D → Nat → List (DV D) → M D
  | m, _, [] => m
  | m, i, d :: r => rdDs (m.dv i d) (i + 1) r
def mRp (T : Tab D) (m : M D) (i n : Nat) (Kp : List Nat) (n' : Nat) (x : D n') (off : Nat) (K : List Nat) : Q D (M D) :=
  if Nat.beq n n' && Nat.beq off 0 && m.may K Kp then .ret ((rdDs m i (T.out n' x)).reads K) else .fail
def mPtr (T : Tab D) (m : M D) (i n : Nat) (Kp : List Nat) (j : Nat) : Q D (M D) := .obj j fun
  | .box cs => if Nat.beq cs.length (T.lv n).length && m.may [1] Kp then (rdAs Kp (m.uses j) i cs) else .fail
  | _ => .fail
/-- a cell that may lie in memory -/
def storable : A1 D → Bool
  | .undef => false
  | .ch .. => false
  | .cha .. => false
  | .tail .. => false
  | .pre .. => false
  | .arr .. => false
  | .unk => false
  | _ => true
def m0 (T : Tab D) (m : M D) : P0 → A0 D → Q D (M D)
  | .ptr p off, .ptr i off' => if Nat.beq off off' then m.bind p i else .fail
  | .rp i n Kp, .rp n' x off K => mRp T m i n Kp n' x off K
  | .rp i n Kp, .ptr j off => if Nat.beq off 0 then mPtr T m i n Kp j else .fail
  | _, _ => .fail
def m0s (T : Tab D) : M D → List P0 → List (A0 D) → Q D (M D)
  | m, [], [] => .ret m
  | m, p :: ps, a :: as => (m0 T m p a).bind fun m => m0s T m ps as
  | _, _, _ => .fail
def m1 (T : Tab D) (m : M D) : P1 → A1 D → Q D (M D)
  | .h i K, a => rdA m i K a
  | .hb i j K, .vb n xs K' _ b => (rdA m i K (.v (.sl n) xs K' 0)).bind fun m => .ret (m.dv j ⟨.bool, b⟩)
  | .hb i j K, .nils => (rdA m i K .nils).bind fun m => .ret (m.dv j ⟨.bool, true⟩)
  | .hb i j K, .own q => .obj q fun
    | .sl _ _ xs _ _ => .part (neO xs) fun _ => (rdA m i K (.own q)).bind fun m => .ret (m.dv j ⟨.bool, false⟩)
    | _ => .fail
  | .ptr p off, .ptr i off' => if Nat.beq off off' then m.bind p i else .fail
  | .own p, .own i => m.bind p i
  | .own p, .nils => match lookN m.po p with
    | some (.sl n t _ _) => { m with new := (m.nf, .sl n t [] [] 0) :: m.new, nf := m.nf + 1 }.bind p m.nf
    | _ => .fail
  | .rp i n Kp, .rp n' x off K => mRp T m i n Kp n' x off K
  | .rp i n Kp, .ptr j off => if Nat.beq off 0 then mPtr T m i n Kp j else .fail
  | .fn f ps, .fn f' as => if Nat.beq f f' then m0s T m ps as else .fail
  | .nils, .nils => .ret m
  | .nilp, .nilp => .ret m
  | .any, _ => .ret m
  | .junk, a => if storable a then .ret m else .fail
  | _, _ => .fail
def m1s (T : Tab D) : M D → List P1 → List (A1 D) → Q D (M D)
  | m, [], [] => .ret m
  | m, p :: ps, a :: as => (m1 T m p a).bind fun m => m1s T m ps as
  | _, _, _ => .fail
def mC (T : Tab D) (m : M D) : PC → AV D → Q D (M D)
  | .one p, .c (.one a) => m1 T m p a
  | .agg ps, .c (.agg l) => m1s T m ps l
  | .one .any, _ => .ret m
  | _, _ => .fail
def mCs (T : Tab D) : M D → List PC → List (AV D) → Q D (M D)
  | m, [], [] => .ret m
  | m, p :: ps, a :: as => (mC T m p a).bind fun m => mCs T m ps as
  | _, _, _ => .fail
def mO (T : Tab D) (m : M D) : PO → AO D → Q D (M D)
  | .box ps, .box cs => m1s T m ps cs
  | .sl n t i Kp, .sl n' t' xs K _ => if Nat.beq n n' && Nat.beq t t' && m.may K Kp then .ret ((m.dv i ⟨.sl n', xs⟩).reads K) else .fail
  | .kid n t tc q i, .kid n' t' tc' q' xs _ _ => if Nat.beq n n' && Nat.beq t t' && Nat.beq tc tc' && Nat.beq q q' then .ret (m.dv i ⟨.sl n', xs⟩) else .fail
  | .mp n i, .mp n' xs => if Nat.beq n n' then .ret (m.dv i ⟨.sl n', xs⟩) else .fail
  | _, _ => .fail
def mOs (T : Tab D) : M D → List (Nat × PO) → Q D (M D)
  | m, [] => .ret m
  | m, (p, po) :: r => match lookN m.ids p with
    | none => .fail
    | some i => match lookN m.new i with
      | some ao => (mO T m po ao).bind fun m => mOs T m r
      | none => .obj i fun ao => (mO T m po ao).bind fun m => mOs T m r
def look0 (dvs : List (Nat × DV D)) : Nat → Nat → Option (List (DV D))
  | _, 0 => some []
  | i, n + 1 => match lookN dvs i, look0 dvs (i + 1) n with
    | some d, some r => some (d :: r)
    | _, _ => none
def nodupB : List Nat → Bool
  | [] => true
  | x :: r => !(memN r x) && nodupB r
def disjB (a b : List Nat) : Bool := a.all fun x => !(memN b x)
def ksP1 : P1 → List Nat
  | .h _ K => K
  | .hb _ _ K => K
  | .rp _ _ K => K
  | .fn _ ps => ps.flatMap fun | .rp _ _ K => K | _ => []
  | _ => []
def ksPC : PC → List Nat
  | .one p => ksP1 p
  | .agg ps => ps.flatMap ksP1
def ksPO : PO → List Nat
  | .box ps => ps.flatMap ksP1
  | .sl _ _ _ K => K
  | .kid .. => []
  | .mp .. => []
def ksOk (pcs : List PC) (po : List (Nat × PO)) : Bool := (pcs.flatMap ksPC).all (fun x => Nat.blt x 2) && (po.flatMap fun p => ksPO p.2).all fun x => Nat.blt x 2
def M.ok (m : M D) (po : List (Nat × PO)) : Bool :=
  nodupB (m.dvs.map Prod.fst) && m.dvs.all (fun p => Nat.blt p.1 m.tl.length) && disjB (m.ids.map Prod.snd) m.ku && nodupB (m.ids.map Prod.fst) && nodupB (m.ids.map Prod.snd) && m.ids.all (fun p => Nat.ble 1000 p.2) && m.ku.all (Nat.ble 1000) && m.ids.all (fun p => memN (po.map Prod.fst) p.1) && m.kr.all (fun x => Nat.blt x 2)
/-- values along patterns: the data in the holes, and which block is which -/
def exQ (T : Tab D) (call : Bool) (xb : Nat) (hts : List Ht) (pcs : List PC) (po : List (Nat × PO)) (ids0 : List (Nat × Nat)) (nf : Nat) (avs : List (AV D)) : Q D (HH D hts × M D) :=
  (mCs T ⟨call, xb, tys T hts, po, ids0, [], [], [], [], nf⟩ pcs avs).bind fun m => (mOs T m po).bind fun m =>
    if m.ok po && ksOk pcs po then match look0 m.dvs 0 m.tl.length with
      | some l => match toHH T hts l with
        | some h => .ret (h, m)
        | none => .fail
      | none => .fail
    else .fail

/-! a pattern filled in -/
section
variable (T : Tab D) (fl : List (DV D)) (ri : Nat → Option Nat) (rK : List Nat → List Nat) (tg : Nat)
def in0 : P0 → Option (A0 D)
  | .ptr p off => match ri p with
    | some i => some (.ptr i off)
    | none => none
  | .rp i n K => match T.mk? n ((fl.drop i).take (T.lv n).length) with
    | some x => some (.rp n x 0 (rK K))
    | none => none
def in0s : List P0 → Option (List (A0 D))
  | [] => some []
  | p :: r => match in0 T fl ri rK p, in0s r with
    | some a, some b => some (a :: b)
    | _, _ => none
def in1 : P1 → Option (A1 D)
  | .h i K => match fl[i]? with
    | some ⟨l, d⟩ => some (.v l d (leafK (rK K) l) (tg + i))
    | none => none
  | .hb i j K => match fl[i]?, fl[j]? with
    | some ⟨.sl n, xs⟩, some ⟨.bool, b⟩ => some (.vb n xs (rK K) (tg + i) b)
    | _, _ => none
  | .ptr p off => match ri p with
    | some i => some (.ptr i off)
    | none => none
  | .own p => match ri p with
    | some i => some (.own i)
    | none => none
  | .rp i n K => match T.mk? n ((fl.drop i).take (T.lv n).length) with
    | some x => some (.rp n x 0 (rK K))
    | none => none
  | .fn f ps => match in0s T fl ri rK ps with
    | some cs => some (.fn f cs)
    | none => none
  | .nils => some .nils
  | .nilp => some .nilp
  | .any => some .unk
  | .junk => some .junk
def in1s : List P1 → Option (List (A1 D))
  | [] => some []
  | p :: r => match in1 T fl ri rK tg p, in1s r with
    | some a, some b => some (a :: b)
    | _, _ => none
def inC : PC → Option (AC D)
  | .one p => match in1 T fl ri rK tg p with
    | some a => some (.one a)
    | none => none
  | .agg ps => match in1s T fl ri rK tg ps with
    | some l => some (.agg l)
    | none => none
def inCs : List PC → Option (List (AC D))
  | [] => some []
  | p :: r => match inC T fl ri rK tg p, inCs r with
    | some a, some b => some (a :: b)
    | _, _ => none
def inSl (l : List (Nat × PC)) : Option (List (Nat × AV D)) := match inCs T fl ri rK tg (l.map Prod.snd) with
  | some as => some (zipS (l.map Prod.fst) as)
  | none => none
where zipS : List Nat → List (AC D) → List (Nat × AV D)
  | t :: ts, a :: as => (t, .c a) :: zipS ts as
  | _, _ => []
def inO : PO → Option (AO D)
  | .box ps => match in1s T fl ri rK tg ps with
    | some l => if l.all storable then some (.box l) else none
    | none => none
  | .sl n t i K => match fl[i]? with
    | some ⟨.sl n', xs⟩ => if Nat.beq n n' then some (.sl n' t xs (rK K) (tg + i)) else none
    | _ => none
  | .kid n t tc q i => match fl[i]? with
    | some ⟨.sl n', xs⟩ => if Nat.beq n n' then some (.kid n' t tc q xs (tg + i) 0) else none
    | _ => none
  | .mp n i => match fl[i]? with
    | some ⟨.sl n', xs⟩ => if Nat.beq n n' then some (.mp n' xs) else none
    | _ => none
def inOs : List (Nat × PO) → Option (List (Nat × Option (AO D)))
  | [] => some []
  | (p, po) :: r => match ri p, inO T fl ri rK tg po, inOs r with
    | some i, some a, some b => some ((i, some a) :: b)
    | _, _, _ => none
end

/-! joints -/
/-- blocks that were there before and keep their number over a joint -/
def J.old (j : J) : List (Nat × Nat) := (j.ob.filter fun p => memN j.mv p.1).map fun p => (p.1, p.1)
def avsOf (sl : List (Nat × AV D)) : List (Nat × PC) → Option (List (AV D))
  | [] => some []
  | (t, _) :: r => match lookN sl t, avsOf sl r with
    | some a, some b => some (a :: b)
    | _, _ => none
def exJ {ρ : Type} (T : Tab D) (j : J) (σ : S D) (k : HH D j.hts → Option ρ) : Option ρ := match avsOf σ.sl j.sl with
  | some avs => (exQ T false j.nx j.hts (j.sl.map Prod.snd) j.ob j.old σ.nx avs).go σ.ob [] fun x _ =>
    if disjB (x.2.ids.map Prod.snd) σ.lk && disjB x.2.ku σ.lk then k x.1 else none
  | none => none
/-- blocks that stay as they are over a joint -/
def kept (σ : S D) (mv : List Nat) : List (Nat × Option (AO D)) := σ.ob.filter fun p => !(memN mv p.1)
def inJ (T : Tab D) (j : J) (wr : List Nat) (mv : List Nat) (σ : S D) (h : HH D j.hts) : Option (S D) :=
  let fl := ofHH T j.hts h
  if Nat.ble σ.nx j.nx && j.ob.all (fun p => Nat.blt p.1 j.nx && (Nat.ble σ.nx p.1 || memN j.mv p.1) && !(memN ((kept σ mv).map Prod.fst ++ σ.lk) p.1)) && j.sl.all (fun p => memN wr p.1) && disjB mv σ.lk then
    match inSl T fl some id j.nx j.sl, inOs T fl some id j.nx j.ob with
    | some a, some b => some ⟨a ++ σ.sl.filter (fun p => !(memN wr p.1)), b ++ kept σ mv, j.nx + fl.length, σ.lk⟩
    | _, _ => none
  else none

def ExT (D : Nat → Type) (pr : Bool) (ρ : Type) : List (Out × J) → Type
  | [] => ρ
  | (_, j) :: r => match pr, r with
    | true, [] => HH D j.hts
    | _, _ => HH D j.hts ⊕ ExT D pr ρ r
def toE (T : Tab D) (pr : Bool) {ρ : Type} : (E : List (Out × J)) → Out → S D → Option ρ → Option (ExT D pr ρ E)
  | [], _, _, k => k
  | (o', j) :: r, o, σ, k => match pr, r with
    | true, [] => if o.beq o' then exJ T j σ some else none
    | false, r => if o.beq o' then exJ T j σ (fun h => some (.inl h)) else match toE T false r o σ k with
      | some x => some (.inr x)
      | none => none
    | true, x :: r => if o.beq o' then exJ T j σ (fun h => some (.inl h)) else match toE T true (x :: r) o σ k with
      | some x => some (.inr x)
      | none => none
def fromJ {ρ : Type} (T : Tab D) (j : J) (wr mv : List Nat) (σ : S D) (k : S D → Option ρ) (h : HH D j.hts) : Option ρ := match inJ T j wr mv σ h with
  | some σ' => k σ'
  | none => none
def fromE (T : Tab D) (pr : Bool) {ρ : Type} (wr mv : List Nat) (σ : S D) (k : Out → S D → Option ρ) : (E : List (Out × J)) → ExT D pr ρ E → Option ρ
  | [], x => some x
  | (o, j) :: r, x => match pr, r, x with
    | true, [], x => fromJ T j wr mv σ (k o) x
    | false, r, x => oelim (fromJ T j wr mv σ (k o)) (fun y => fromE T false wr mv σ k r y) x
    | true, y :: r, x => oelim (fromJ T j wr mv σ (k o)) (fun z => fromE T true wr mv σ k (y :: r) z) x
/-- all that the joints of a list move -/
def mvE : List (Out × J) → List Nat
  | [] => []
  | (_, j) :: r => j.mv ++ mvE r
def lockS (σ : S D) (mv : List Nat) : S D := { σ with lk := (kept σ mv).map Prod.fst ++ σ.lk }
/-- a piece of code up to joints -/
def wrap (T : Tab D) (wr : List Nat) (cut : Option (Bool × List (Out × J))) {ρ : Type} (body : ∀ {ρ' : Type}, S D → (Out → S D → Option ρ') → Option ρ') (σ : S D) (k : Out → S D → Option ρ) : Option ρ := match cut with
  | none => body σ k
  | some (pr, E) => obind (body (lockS σ (mvE E)) fun o σ' => toE T pr E o σ' (k o { σ' with lk := σ.lk })) fun x => fromE T pr wr (mvE E) σ k E x
end
end Rx
end Go.Proofs.Ytkgfdplcjdidhaa
