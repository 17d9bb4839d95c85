/- What each operation does to what is known; the code run with a continuation. Definitions alone. Nothing here names a program. -/
import Derived.Test.YtkgfdplcjdidhaaRa
set_option linter.unusedVariables false
namespace Go.Proofs.Ytkgfdplcjdidhaa
open Go Dp

namespace Rx

section
variable {D : Nat → Type}

/-! operands -/
def iv (k : IntKind) (n : Int) (g : Nat) : AV D := .c (.one (.v (.int k) n [] g))
def bv (b : Bool) (g : Nat) : AV D := .c (.one (.v .bool b [] g))
def constV : Value → Option (AV D)
  | .int k n => some (iv k n 0)
  | .bool b => some (bv b 0)
  | .string s => some (.c (.one (.v .str s [] 0)))
  | .slice none 0 0 => some (.c (.one .nils))
  | .pointer none => some (.c (.one .nilp))
  | .nilFunc => some (.c (.one .nilf))
  | _ => none
def evO (sl : List (Nat × AV D)) : Operand → Option (AV D)
  | .tmp t => lookN sl t
  | .const v => constV v
  | .func f => if Nat.blt f 1000000 then some (.c (.one (.fn f []))) else none
  | .global _ => none
def evOs (sl : List (Nat × AV D)) : List Operand → Option (List (AV D))
  | [] => some []
  | x :: r => match evO sl x, evOs sl r with
    | some a, some b => some (a :: b)
    | _, _ => none
def okE (a : AV D) : Q D (Eff D) := .ret ⟨a, [], []⟩

/-! cells -/
def TyD.n (T : Tab D) : TyD → Nat
  | .one _ | .ptr | .fn => 1
  | .st n => (T.lv n).length
def TyD.agg : TyD → Bool
  | .st _ => true
  | _ => false
/-- cells that read as data -/
def cellsD (K : List Nat) : Nat → List (DV D) → List (A1 D)
  | _, [] => []
  | g, ⟨l, d⟩ :: r => .v l d (leafK K l) g :: cellsD K (g + 1) r
def zeroA (T : Tab D) : TyD → Option (List (A1 D))
  | .one (.int k) => some [.v (.int k) (0 : Int) [] 0]
  | .one .bool => some [.v .bool false [] 0]
  | .one .str => some [.v .str ByteArray.empty [] 0]
  | .one (.sl _) => some [.nils]
  | .st n => some (cellsZ (T.lv n))
  | .ptr => some [.nilp]
  | .fn => some [.nilf]
where cellsZ : List Lf → List (A1 D)
  | [] => []
  | l :: r => (match l with | .int k => .v (.int k) (0 : Int) [] 0 | .bool => .v .bool false [] 0 | .str => .v .str ByteArray.empty [] 0 | .sl _ => .nils) :: cellsZ r
def packA (g : Bool) (l : List (A1 D)) : Option (AV D) := if g then some (.c (.agg l)) else match l with
  | [a] => some (.c (.one a))
  | _ => none
def cellsOf : AV D → Option (List (A1 D))
  | .c (.one a) => some [a]
  | .c (.agg l) => some l
  | .tup _ => none
def cutA (ty : TyD) (T : Tab D) (cs : List (A1 D)) (off : Nat) : Option (AV D) :=
  if Nat.ble (off + ty.n T) cs.length then packA ty.agg ((cs.drop off).take (ty.n T)) else none
def spliceA (cs us : List (A1 D)) (off : Nat) : Option (List (A1 D)) :=
  if Nat.ble (off + us.length) cs.length && us.all storable then some (cs.take off ++ us ++ cs.drop (off + us.length)) else none

/-! cells as an element's data: what they read as, where their memory lies, and which blocks of the call's own become part of it -/
def rdE (ls : List Lf) : List (A1 D) → Q D (List (DV D) × List Nat × List Nat)
  | [] => .ret ([], [], [])
  | a :: r => match ls with
    | [] => .fail
    | l :: ls' => match a with
      | .v l' d K _ => (rdE ls' r).bind fun x => .ret (⟨l', d⟩ :: x.1, K ++ x.2.1, x.2.2)
      | .nils => match l with
        | .sl n => (rdE ls' r).bind fun x => .ret (⟨.sl n, []⟩ :: x.1, x.2.1, x.2.2)
        | _ => .fail
      | .own j => .obj j fun o => match asFz o with
        | some (d, K) => (rdE ls' r).bind fun x => .ret (d :: x.1, K ++ x.2.1, x.2.2)
        | none => match asDV o with
          | some (d, K) => (rdE ls' r).bind fun x => .ret (d :: x.1, 1 :: K ++ x.2.1, j :: x.2.2)
          | none => .fail
      | _ => .fail
def formOk (g : Bool) : AV D → Bool
  | .c (.one _) => !g
  | .c (.agg _) => g
  | .tup _ => false
def rdEl (T : Tab D) (n : Nat) (a : AV D) : Q D (D n × List Nat × List Nat) := if formOk (T.ag n) a then match cellsOf a with
  | some cs => (rdE (T.lv n) cs).bind fun x => match T.mk? n x.1 with
    | some y => .ret (y, x.2)
    | none => .fail
  | none => .fail
  else .fail
def rdEls (T : Tab D) (n : Nat) : List (AV D) → Q D (List (D n) × List Nat × List Nat)
  | [] => .ret ([], [], [])
  | a :: r => (rdEl T n a).bind fun x => (rdEls T n r).bind fun y => .ret (x.1 :: y.1, x.2.1 ++ y.2.1, x.2.2 ++ y.2.2)
/-- a slice that is only read -/
def rdSl (n : Nat) : A1 D → Q D (List (D n) × List Nat)
  | .v (.sl n') xs K _ => if h : n' = n then .ret (h ▸ xs, K) else .fail
  | .nils => .ret ([], [])
  | .own j => .obj j fun
    | .sl n' _ xs K _ => if h : n' = n then .ret (h ▸ xs, K) else .fail
    | .fz n' xs K => if h : n' = n then .ret (h ▸ xs, K) else .fail
    | _ => .fail
  | .tail j n' k => .obj j fun
    | .sl n0 _ xs K _ => if Nat.beq n0 n' then (if h : n0 = n then .ret (h ▸ drpI xs k, K) else .fail) else .fail
    | _ => .fail
  | .pre j n' k => .obj j fun
    | .sl n0 _ xs K _ => if Nat.beq n0 n' then (if h : n0 = n then .ret (h ▸ takI xs k, K) else .fail) else .fail
    | _ => .fail
  | _ => .fail
def lenQ : A1 D → Q D Int
  | .v (.sl _) xs _ _ => .ret (len xs)
  | .ch _ _ _ _ _ _ d => .ret (len d)
  | .nils => .ret 0
  | .own j => .obj j fun
    | .sl _ _ xs _ _ => .ret (len xs)
    | .kid _ _ _ _ xs _ _ => .ret (len xs)
    | .fz _ xs _ => .ret (len xs)
    | _ => .fail
  | .tail i n j => .obj i fun
    | .sl n' _ xs _ _ => if Nat.beq n' n then .ret (isub0 (len xs) j) else .fail
    | _ => .fail
  | _ => .fail

/-- numbers of other kinds -/
def binK (op : BinOp) (g : Nat) (k k' : IntKind) (a b : Int) : Q D (Eff D) := match op with
  | .shr => .part (shrO k.bits a b) fun c => okE (iv k c g)
  | op => if k = k' then match op with
      | .add => okE (iv k (iwrap k (iadd0 a b)) g)
      | .sub => okE (iv k (iwrap k (isub0 a b)) g)
      | .mul => okE (iv k (iwrap k (imul0 a b)) g)
      | .eql => okE (bv (ieq a b) g)
      | .neq => okE (bv (ine a b) g)
      | .lss => okE (bv (ilt a b) g)
      | .leq => okE (bv (ile a b) g)
      | .gtr => okE (bv (igt a b) g)
      | .geq => okE (bv (ige a b) g)
      | _ => .fail
    else .fail
def strQ (op : BinOp) (g : Nat) (a b : ByteArray) : Q D (Eff D) := match op with
  | .add => .part (sApp a b) fun c => okE (.c (.one (.v .str c [] g)))
  | .eql => okE (bv (sEq a b) g)
  | .neq => okE (bv (bnot (sEq a b)) g)
  | _ => .fail
def binQ (op : BinOp) (g : Nat) : AV D → AV D → Q D (Eff D)
  | .c (.one (.v (.int k) a _ _)), .c (.one (.v (.int k') b _ _)) => match k, k' with
    | .i64, .i64 => match op with
      | .add => okE (iv .i64 (iadd a b) g)
      | .sub => okE (iv .i64 (isub a b) g)
      | .mul => okE (iv .i64 (imul a b) g)
      | .quo => .part (quoO a b) fun c => okE (iv .i64 c g)
      | .rem => .part (remO a b) fun c => okE (iv .i64 c g)
      | .eql => okE (bv (ieq a b) g)
      | .neq => okE (bv (ine a b) g)
      | .lss => okE (bv (ilt a b) g)
      | .leq => okE (bv (ile a b) g)
      | .gtr => okE (bv (igt a b) g)
      | .geq => okE (bv (ige a b) g)
      | .shr => .part (shrO 64 a b) fun c => okE (iv .i64 c g)
      | _ => .fail
    | k, k' => binK op g k k' a b
  | .c (.one (.v .str a _ _)), .c (.one (.v .str b _ _)) => strQ op g a b
  | _, _ => .fail
def beqQ (op : BinOp) (g : Nat) (a b : Bool) : Q D (Eff D) := match op with
  | .eql => okE (bv (beq' a b) g)
  | .neq => okE (bv (bnot (beq' a b)) g)
  | _ => .fail

def offOf (T : Tab D) (t i : Nat) : Option Nat := match lookN T.fld t with
  | some l => match l[i]? with
    | some p => some p.1
    | none => none
  | none => none

/-- a part of an element of a slice whose elements hold slices of the call's own -/
def loadK (i n : Nat) (j : Int) (off t tc q : Nat) (xs : List (D n)) (gx ht g : Nat) : DV D → Q D (Eff D)
  | ⟨.sl m, d⟩ => if Nat.beq m q then (if Nat.beq ht 0 then .ret ⟨.c (.one (.ch i n j off (g + 1) m d)), [(i, some (.kid n t tc q xs gx (g + 1)))], []⟩ else okE (.c (.one (.ch i n j off ht m d)))) else .fail
  | ⟨l, d⟩ => okE (.c (.one (.v l d [] g)))
def oneTy : TyD → Bool
  | .one _ => true
  | _ => false
def loadQ (T : Tab D) (g : Nat) (ty : TyD) : A1 D → Q D (Eff D)
  | .ptr i off => .obj i fun
    | .box cs => match cutA ty T cs off with
      | some a => okE a
      | none => .fail
    | _ => .fail
  | .rp n x off K => match cutA ty T (cellsD K g (T.out n x)) off with
    | some a => okE a
    | none => .fail
  | .el i n j y off tc tj => .obj i fun
    | .sl n' _ xs K g' => if Nat.beq g' tc then match cutA ty T (cellsD K g (T.out n y)) off with
        | some a => okE a
        | none => .fail
      else if Nat.beq n n' then .part (idx xs j) fun y => match cutA ty T (cellsD K g (T.out n' y)) off with
        | some a => okE a
        | none => .fail
      else .fail
    | .kid n' t c q xs g' ht => if Nat.beq n n' && oneTy ty then .part (idx xs j) fun y => match (T.out n' y)[off]? with
        | some x => loadK i n' j off t c q xs g' ht g x
        | none => .fail
      else .fail
    | _ => .fail
  | _ => .fail
def storeQ (T : Tab D) (g : Nat) (ty : TyD) (a : AV D) : A1 D → Q D (Eff D)
  | .ptr i off => .obj i fun
    | .box cs => match cellsOf a with
      | some us => if Nat.beq us.length (ty.n T) then match spliceA cs us off with
          | some cs' => .ret ⟨.c (.one .undef), [(i, some (.box cs'))], []⟩
          | none => .fail
        else .fail
      | none => .fail
    | _ => .fail
  | .el i n j y off tc tj => .obj i fun
    | .sl n' t xs K g' => match cellsOf a with
      | some us => if Nat.beq us.length (ty.n T) && Nat.beq n n' && Nat.ble (off + us.length) (T.lv n').length then (rdE ((T.lv n').drop off) us).bind fun x =>
          .part (idx xs j) fun y => match T.mk? n' ((T.out n' y).take off ++ x.1 ++ (T.out n' y).drop (off + x.1.length)) with
            | some z => if memN x.2.2 i then .fail else .part (setO xs j z) fun zs => .ret ⟨.c (.one .undef), [(i, some (.sl n' t zs (x.2.1 ++ K) g))], x.2.2⟩
            | none => .fail
        else .fail
      | none => .fail
    | .kidh n' t' tc' q xs j' off' s gx => match a with
      | .c (.one (.cha i' s')) => if Nat.beq i i' && Nat.beq s s' && Nat.beq n n' && Nat.beq off off' && oneTy ty then .part (eqO j j') fun _ => .ret ⟨.c (.one .undef), [(i, some (.kid n' t' tc' q xs gx 0))], []⟩ else .fail
      | _ => .fail
    | _ => .fail
  | _ => .fail

def idxQ (m : Nat) (j : Int) (tj : Nat) : A1 D → Q D (Eff D)
  | .v (.sl n) xs K _ => if Nat.beq n m then .part (idx xs j) fun y => okE (.c (.one (.rp n y 0 K))) else .fail
  | .own i => .obj i fun
    | .sl n _ xs _ tc => if Nat.beq n m && !(Nat.beq tc 0) then .part (idx xs j) fun y => okE (.c (.one (.el i n j y 0 tc tj))) else .fail
    | .kid n _ _ _ xs tc _ => if Nat.beq n m && !(Nat.beq tc 0) then .part (idx xs j) fun y => okE (.c (.one (.el i n j y 0 tc tj))) else .fail
    | .kidh n _ _ _ xs _ _ _ tc => if Nat.beq n m && !(Nat.beq tc 0) then .part (idx xs j) fun y => okE (.c (.one (.el i n j y 0 tc tj))) else .fail
    | .fz n xs K => if Nat.beq n m then .part (idx xs j) fun y => okE (.c (.one (.rp n y 0 K))) else .fail
    | _ => .fail
  | .nils => .part (none : Option (D m)) fun y => okE (.c (.one (.rp m y 0 [])))
  | .tail i n0 j0 => .obj i fun
    | .sl n _ xs _ tc => if Nat.beq n m && Nat.beq n n0 && !(Nat.beq tc 0) then .part (idx (drpI xs j0) j) fun y => okE (.c (.one (.el i n (iadd0 j0 j) y 0 tc 0))) else .fail
    | _ => .fail
  | _ => .fail

def partsA (T : Tab D) (l : List (Nat × Nat)) : List (A1 D) → List (Nat × Operand) → List (AV D) → Option (List (A1 D))
  | cs, [], [] => some cs
  | cs, (i, _) :: r, a :: as => match l[i]?, cellsOf a with
    | some (off, sz), some us => if Nat.beq us.length sz then match spliceA cs us off with
        | some cs' => partsA T l cs' r as
        | none => none
      else none
    | _, _ => none
  | _, _, _ => none
def seqB : Nat → List (Nat × Operand) → Bool
  | _, [] => true
  | k, (i, _) :: r => Nat.beq i k && seqB (k + 1) r

def isKd (T : Tab D) (n tc q : Nat) : Bool := match lookN T.kd n with
  | some p => Nat.beq p.1 tc && Nat.beq p.2 q
  | none => false
def flatL : Lf → Bool
  | .sl _ => false
  | _ => true
/-- memory of elements: none where they hold no slices -/
def flK (T : Tab D) (n : Nat) (K : List Nat) : List Nat := match (T.lv n).all flatL with
  | true => []
  | false => K
def appQ (T : Tab D) (nid n t : Nat) (a x : A1 D) : Q D (Eff D) := (rdSl n x).bind fun y0 => appQ1 (y0.1, flK T n y0.2)
where appQ1 (ys : List (D n) × List Nat) : Q D (Eff D) := match a with
  | .own i => .obj i fun
    | .sl n' t' xs K _ => if h : n' = n then (if Nat.beq t' t then .part (app (h ▸ xs) ys.1) fun zs => .ret ⟨.c (.one (.own nid)), [(nid, some (.sl n t zs (ys.2 ++ K) (nid + 16))), (i, none)], []⟩ else .fail) else .fail
    | _ => .fail
  | .nils => .part (app [] ys.1) fun zs => .ret ⟨.c (.one (.own nid)), [(nid, some (.sl n t zs ys.2 (nid + 16)))], []⟩
  | .pre i e j => .obj i fun
    | .sl n' t' xs K _ => if h : n' = n then (if Nat.beq t' t && Nat.beq n' e then .part (app (h ▸ takI xs j) ys.1) fun zs => .ret ⟨.c (.one (.own nid)), [(nid, some (.sl n t zs (ys.2 ++ K) (nid + 16))), (i, none)], []⟩ else .fail) else .fail
    | _ => .fail
  | .ch i e j off ct m _ => .obj i fun
    | .kid e' te tc q xs _ ht => if Nat.beq e e' && Nat.beq ct ht && !(Nat.beq ht 0) && Nat.beq m q && Nat.beq tc t && Nat.beq q n && isKd T e' tc q then .part (idx xs j) fun y => match (T.out e' y)[off]? with
        | some ⟨.sl m', d⟩ => if h : m' = n then .part (app (h ▸ d) ys.1) fun zs => match T.mk? e' ((T.out e' y).set off ⟨.sl n, zs⟩) with
            | some y' => .part (setO xs j y') fun xs' => .ret ⟨.c (.one (.cha i nid)), [(i, some (.kidh e' te tc q xs' j off nid (nid + 16)))], []⟩
            | none => .fail
          else .fail
        | _ => .fail
      else .fail
    | _ => .fail
  | _ => .fail
/-- a slice expression -/
def bndQ (d : Int) : Option Operand → List (AV D) → Q D (Int × List (AV D))
  | none, as => .ret (d, as)
  | some _, .c (.one (.v (.int .i64) l _ _)) :: as => .ret (l, as)
  | some _, _ => .fail
def sliceV (g m : Nat) (lo hi : Option Operand) (n : Nat) (xs : List (D n)) (K : List Nat) (as : List (AV D)) : Q D (Eff D) :=
  if Nat.beq n m then (bndQ 0 lo as).bind fun l => (bndQ (len xs) hi l.2).bind fun h => match h.2 with
    | [] => .part (slc xs l.1 h.1) fun zs => okE (.c (.one (.v (.sl n) zs K g)))
    | _ => .fail
    else .fail
def sliceQ (fl : Bool) (nid g m : Nat) (lo hi : Option Operand) (a : A1 D) (as : List (AV D)) : Q D (Eff D) := match a with
  | .v (.sl n) xs K _ => sliceV g m lo hi n xs K as
  | .nils => (bndQ 0 lo as).bind fun l => (bndQ 0 hi l.2).bind fun h => match h.2 with
    | [] => .part (slc ([] : List Unit) l.1 h.1) fun _ => okE (.c (.one .nils))
    | _ => .fail
  | .own i => .obj i fun
    | .fz n xs K => sliceV g m lo hi n xs K as
    | .sl n t xs K _ => match lo with
      | none => if Nat.beq n m then (bndQ (len xs) hi as).bind fun h => match h.2 with
          | [] => match fl with
            | true => .part (slc xs 0 h.1) fun _ => okE (.c (.one (.pre i n h.1)))
            | false => .part (slc xs 0 h.1) fun zs => .ret ⟨.c (.one (.own nid)), [(nid, some (.sl n t zs K (nid + 16))), (i, none)], []⟩
          | _ => .fail
        else .fail
      | some _ => match hi with
        | none => if Nat.beq n m then (bndQ 0 lo as).bind fun l => match l.2 with
            | [] => .part (slc xs l.1 (len xs)) fun _ => okE (.c (.one (.tail i n l.1)))
            | _ => .fail
          else .fail
        | some _ => .fail
    | _ => .fail
  | _ => .fail

/-- structs compared, cell by cell -/
def dvsA : List (A1 D) → Option (List (DV D))
  | [] => some []
  | .v l d _ _ :: r => match dvsA r with
    | some x => some (⟨l, d⟩ :: x)
    | none => none
  | _ => none
def dvEq : DV D → DV D → Bool
  | ⟨.int _, a⟩, ⟨.int _, b⟩ => ieq a b
  | ⟨.bool, a⟩, ⟨.bool, b⟩ => beq' a b
  | ⟨.str, a⟩, ⟨.str, b⟩ => sEq a b
  | _, _ => false
def dvsEq : List (DV D) → List (DV D) → Bool
  | [], _ => true
  | x :: xs, ys => match xs, ys with
    | [], y :: _ => dvEq x y
    | x' :: xs', y :: ys' => band (dvEq x y) (dvsEq (x' :: xs') ys')
    | _, [] => true
def eqQ (op : BinOp) (g : Nat) (ls : List Lf) (p q : List (A1 D)) : Q D (Eff D) := match dvsA p, dvsA q with
  | some xs, some ys => if xs.map DV.l = ls ∧ ys.map DV.l = ls then match op with
      | .eql => okE (bv (dvsEq xs ys) g)
      | .neq => okE (bv (bnot (dvsEq xs ys)) g)
      | _ => .fail
    else .fail
  | _, _ => .fail
/-! maps -/
def keyLv (T : Tab D) : AV D → Option (List (DV D) × Bool)
  | .c (.one (.arr n xs _)) => some (xs.flatMap (T.out n), true)
  | .c (.one (.v l d _ _)) => some ([⟨l, d⟩], false)
  | .c (.agg cs) => match dvsA cs with
    | some x => some (x, true)
    | none => none
  | _ => none
/-- an entry (its last cell is the value) has a key -/
def keyEq : List (DV D) → List (DV D) → Bool
  | x :: r, y :: s => match s with
    | [] => dvEq x y
    | _ :: _ => band (dvEq x y) (keyEq r s)
  | _, _ => true
def zeroL : (l : Lf) → l.den D
  | .int _ => (0 : Int)
  | .bool => false
  | .str => ByteArray.empty
  | .sl _ => []
def lastV (l : Lf) : List (DV D) → l.den D
  | [] => zeroL l
  | ⟨l', d⟩ :: r => match r with
    | [] => if h : l' = l then h ▸ d else zeroL l
    | _ :: _ => lastV l r
def lastL : List Lf → Option Lf
  | [] => none
  | l :: r => match r with
    | [] => some l
    | _ :: _ => lastL r
def keyOk (T : Tab D) (n : Nat) (ks : List (DV D)) (g : Bool) : Bool := decide (ks.map DV.l = (T.lv n).dropLast) && (match ks with | [_] => !g | _ => g)
def mgetQ (T : Tab D) (n g : Nat) (a k : AV D) : Q D (Eff D) := match a, keyLv T k with
  | .c (.one (.own i)), some (ks, kg) => .obj i fun
    | .mp n' xs => if Nat.beq n n' && keyOk T n' ks kg then match lastL (T.lv n') with
        | some l => okE (.c (.one (.v l (mget (fun x => keyEq (T.out n' x) ks) (fun x => lastV l (T.out n' x)) (zeroL l) xs) [] g)))
        | none => .fail
      else .fail
    | _ => .fail
  | _, _ => .fail
def mputQ (T : Tab D) (n : Nat) (a k u : AV D) : Q D (Eff D) := match a, keyLv T k, u with
  | .c (.one (.own i)), some (ks, kg), .c (.one (.v l d _ _)) => .obj i fun
    | .mp n' xs => if Nat.beq n n' && keyOk T n' ks kg then match T.mk? n' (ks ++ [⟨l, d⟩]) with
        | some z => .ret ⟨.c (.one .undef), [(i, some (.mp n' (mput (fun x => keyEq (T.out n' x) ks) z xs)))], []⟩
        | none => .fail
      else .fail
    | _ => .fail
  | _, _, _ => .fail
def sameO : Operand → Operand → Bool
  | .tmp a, .tmp b => Nat.beq a b
  | .const (.int .i64 a), .const (.int .i64 b) => decide (a = b)
  | _, _ => false
/-- an element that is one byte -/
def mkU (T : Tab D) (n : Nat) (h : T.lv n = [.int .u8]) (b : Int) : D n := T.mkH n (h ▸ (b : HL D [.int .u8]))
def unU (T : Tab D) (n : Nat) (h : T.lv n = [.int .u8]) (x : D n) : Int := (h ▸ T.outH n x : HL D [.int .u8])
/-- slice operations that give a view: by the slice's type and its place -/
def preK (t : TypeId) : Operand → Nat
  | .tmp i => t * 4096 + i
  | _ => 0
/-- an operation's meaning: nid: the first of 64 numbers of its own -/
def opQ (T : Tab D) (nid : Nat) : Op → List (AV D) → Q D (Eff D)
  | .move _, [a] => okE a
  | .assign _, [a] => okE a
  | .pick _ _ _, [c, a, b] => match c with
    | .c (.one (.v .bool d _ _)) => if d = true then okE a else okE b
    | _ => .fail
  | .binOp op t _ _ _, [a, b] => match a, b with
    | .c (.agg p), .c (.agg q) => match lookN T.eqs t with
      | some n => eqQ op (nid + 16) n p q
      | none => .fail
    | .c (.one (.v .bool p _ _)), .c (.one (.v .bool q _ _)) => match lookN T.ty t with
      | some (.one .bool) => beqQ op (nid + 16) p q
      | _ => .fail
    | .c (.one (.vb _ _ _ _ p)), .c (.one .nils) => match lookN T.els t with
      | some _ => match op with
        | .eql => okE (bv p (nid + 16))
        | .neq => okE (bv (bnot p) (nid + 16))
        | _ => .fail
      | none => .fail
    | a, b => binQ op (nid + 16) a b
  | .unOp .not _ _, [a] => match a with
    | .c (.one (.v .bool b _ _)) => okE (bv (bnot b) (nid + 16))
    | _ => .fail
  | .unOp .neg _ _, [a] => match a with
    | .c (.one (.v (.int .i64) n _ _)) => okE (iv .i64 (ineg n) (nid + 16))
    | _ => .fail
  | .nilCheck _, [a] => match a with
    | .c (.one (.ptr i off)) => okE a
    | .c (.one (.rp n x off K)) => okE a
    | .c (.one (.el i n j y off tc tj)) => okE a
    | _ => .fail
  | .extract _ i, [a] => match a with
    | .tup l => match l[i]? with
      | some x => okE (.c x)
      | none => .fail
    | _ => .fail
  | .fieldAddr t _ i, [a] => match offOf T t i, a with
    | some o, .c (.one (.ptr j off)) => okE (.c (.one (.ptr j (off + o))))
    | some o, .c (.one (.rp n x off K)) => okE (.c (.one (.rp n x (off + o) K)))
    | some o, .c (.one (.el j n k y off tc tj)) => okE (.c (.one (.el j n k y (off + o) tc tj)))
    | _, _ => .fail
  | .load t _, [a] => match lookN T.ty t, a with
    | some ty, .c (.one p) => loadQ T (nid + 16) ty p
    | _, _ => .fail
  | .store t _ _, [p, a] => match lookN T.ty t, p with
    | some ty, .c (.one p) => storeQ T (nid + 16) ty a p
    | _, _ => .fail
  | .box _ _, [a] => match cellsOf a with
    | some cs => if cs.all storable then .ret ⟨.c (.one (.ptr nid 0)), [(nid, some (.box cs))], []⟩ else .fail
    | none => .fail
  | .alloc t, [] => match lookN T.ty t with
    | some ty => match zeroA T ty with
      | some cs => .ret ⟨.c (.one (.ptr nid 0)), [(nid, some (.box cs))], []⟩
      | none => .fail
    | none => .fail
  | .build t ps, as => match lookN T.ars t with
    | some (m, e, n) => if seqB 0 ps.toList && Nat.beq ps.toList.length m then (rdEls T n as).bind fun x => match lookN T.ty t with
        | some (.st _) => if x.2.2.isEmpty && Nat.ble (x.1.flatMap (T.out n)).length 48 then okE (.c (.agg (cellsD x.2.1 (nid + 16) (x.1.flatMap (T.out n))))) else .fail
        | _ => .ret ⟨.c (.one (.arr n x.1 x.2.1)), [], x.2.2⟩
      else .fail
    | none => match lookN T.ty t, lookN T.fld t with
      | some (.st n), some l => match partsA T l (zeroA.cellsZ (T.lv n)) ps.toList as with
        | some cs => okE (.c (.agg cs))
        | none => .fail
      | _, _ => .fail
  | .index t _ _, [a, i] => match lookN T.ars t, a, i with
    | some (m, e, n), .c (.one (.arr n' xs K)), .c (.one (.v (.int .i64) j _ _)) => if Nat.beq n n' && Nat.beq xs.length m then .part (idx xs j) fun y => match packA (T.ag n') (cellsD K (nid + 16) (T.out n' y)) with
        | some r => okE r
        | none => .fail
      else .fail
    | some (m, e, n), .c (.agg cs), .c (.one (.v (.int .i64) j _ _)) => if T.ag n then .fail else (rdEls T n (cs.map fun c => .c (.one c))).bind fun x => if x.2.2.isEmpty && Nat.beq x.1.length m then .part (idx x.1 j) fun y => match packA (T.ag n) (cellsD x.2.1 (nid + 16) (T.out n y)) with
        | some r => okE r
        | none => .fail
      else .fail
    | none, .c (.one (.v .str s _ _)), .c (.one (.v (.int .i64) j _ _)) => match lookN T.ty t with
      | some (.one .str) => .part (sIdx s j) fun b => okE (iv .u8 b (nid + 16))
      | _ => .fail
    | _, _, _ => .fail
  | .buildSlice t m ps, as => match lookN T.els t with
    | some (e, n) => if seqB 0 ps.toList && Nat.beq ps.toList.length m && Nat.ble (m * (T.lv n).length) 65536 then (rdEls T n as).bind fun x =>
        .ret ⟨.c (.one (.own nid)), [(nid, some (.sl n e x.1 x.2.1 (nid + 16)))], x.2.2⟩
      else .fail
    | none => .fail
  | .indexAddr t _ io, [a, i] => match lookN T.els t, a, i with
    | some (_, n), .c (.one a), .c (.one (.v (.int .i64) j _ tj)) => idxQ n j tj a
    | none, .c (.one (.ptr b off)), .c (.one (.v (.int .i64) _ _ _)) => match lookN T.ars t, io with
      | some (m, _, n), .const (.int .i64 (.ofNat q)) => if Nat.blt q m then okE (.c (.one (.ptr b (off + q * (T.lv n).length)))) else .fail
      | _, _ => .fail
    | _, _, _ => .fail
  | .makeSlice t x y, [a, _] => match lookN T.els t, a with
    | some (e, n), .c (.one (.v (.int .i64) l _ _)) => if sameO x y then .part (mkZ (T.zero n) l) fun zs => match lookN T.kd n with
        | some (tc, q) => .ret ⟨.c (.one (.own nid)), [(nid, some (.kid n e tc q zs (nid + 16) 0))], []⟩
        | none => .ret ⟨.c (.one (.own nid)), [(nid, some (.sl n e zs [] (nid + 16)))], []⟩
      else .fail
    | _, _ => .fail
  | .slice t x lo hi none, a :: as => match lookN T.els t, a with
    | some (_, n), .c (.one a) => sliceQ (memN T.pre (preK t x)) nid (nid + 16) n lo hi a as
    | _, _ => .fail
  | .makeMap t none, [] => match lookN T.mps t with
    | some (_, _, n) => .ret ⟨.c (.one (.own nid)), [(nid, some (.mp n []))], []⟩
    | none => .fail
  | .lookup t _ _ false, [m, k] => match lookN T.mps t with
    | some (_, _, n) => mgetQ T n (nid + 16) m k
    | none => .fail
  | .mapUpdate t _ _ _, [m, k, u] => match lookN T.mps t with
    | some (_, _, n) => mputQ T n m k u
    | none => .fail
  | .convert s t _, [a] => match lookN T.ty s, lookN T.ty t, a with
    | some (.one (.int _)), some (.one (.int k')), .c (.one (.v (.int k) n _ _)) => match k' with
      | .i64 => okE (iv .i64 (W n) (nid + 16))
      | k' => okE (iv k' (iwrap k' n) (nid + 16))
    | some (.one .str), some (.one (.sl _)), .c (.one (.v .str x _ _)) => match lookN T.els t with
      | some (e, n) => match lookN T.ty e with
        | some (.one (.int .u8)) => if h : T.lv n = [.int .u8] then .part (sBys (mkU T n h) x) fun xs => okE (.c (.one (.v (.sl n) xs [1] (nid + 16)))) else .fail
        | _ => .fail
      | none => .fail
    | some (.one (.sl _)), some (.one .str), .c (.one a) => match lookN T.els s with
      | some (e, n) => match lookN T.ty e with
        | some (.one (.int .u8)) => if h : T.lv n = [.int .u8] then (rdSl n a).bind fun x => okE (.c (.one (.v .str (bysS (unU T n h) x.1) [] (nid + 16)))) else .fail
        | _ => .fail
      | none => .fail
    | _, _, _ => .fail
  | .makeFunc (.func f) first caps, as => if Nat.blt f 1000000 then match capsA as with
      | some cs => if Nat.beq first.size 0 then okE (.c (.one (.fn f cs))) else if Nat.beq caps.size 0 then okE (.c (.one (.fn (f + 1000000) cs))) else .fail
      | none => .fail
    else .fail
  | .call { callee := .builtin b, argTypes := ts, .. }, as => match b, as with
    | .len, [.c (.one a)] => match ts.toList with
      | [t] => match lookN T.els t with
        | some _ => (lenQ a).bind fun n => okE (iv .i64 n (nid + 16))
        | none => match lookN T.ty t, a with
          | some (.one .str), .v .str s _ _ => okE (iv .i64 (sLen s) (nid + 16))
          | _, _ => .fail
      | _ => .fail
    | .min, [.c (.one (.v (.int .i64) p _ _)), .c (.one (.v (.int .i64) q _ _))] => okE (iv .i64 (imin p q) (nid + 16))
    | .max, [.c (.one (.v (.int .i64) p _ _)), .c (.one (.v (.int .i64) q _ _))] => okE (iv .i64 (imax p q) (nid + 16))
    | .clear, [.c (.one (.tail i n j))] => match ts.toList with
      | [t] => match lookN T.els t with
        | some (_, n') => if Nat.beq n n' then .obj i fun
            | .sl n0 te xs K _ => if Nat.beq n0 n then .ret ⟨.tup [], [(i, some (.sl n0 te (clrT (T.zero n0) xs j) K (nid + 16)))], []⟩ else .fail
            | _ => .fail
          else .fail
        | none => .fail
      | _ => .fail
    | .append, [.c (.one a), .c (.one x)] => match ts.toList with
      | [t, t'] => if Nat.beq t t' then match lookN T.els t with
          | some (e, n) => appQ T nid n e a x
          | none => .fail
        else match lookN T.els t, lookN T.ty t', a, x with
          | some (e, n), some (.one (.int .i64)), .nils, .v (.int .i64) k _ _ => .part (mkP (T.zero n) k) fun zs => .ret ⟨.c (.one (.own nid)), [(nid, some (.sl n e zs [] (nid + 16)))], []⟩
          | _, _, _, _ => .fail
      | _ => .fail
    | .cap, [.c (.one .nils)] => match ts.toList with
      | [t] => match lookN T.els t with
        | some _ => okE (iv .i64 0 (nid + 16))
        | none => .fail
      | _ => .fail
    | _, _ => .fail
  | _, _ => .fail
where capsA : List (AV D) → Option (List (A0 D))
  | [] => some []
  | .c (.one (.ptr i off)) :: r => match capsA r with
    | some l => some (.ptr i off :: l)
    | none => none
  | .c (.one (.rp n x off K)) :: r => match capsA r with
    | some l => some (.rp n x off K :: l)
    | none => none
  | _ => none

/-! calls by contract -/
def fit1 : P1 → A1 D → Bool
  | .own _, .own _ => true
  | .own _, .nils => true
  | .own _, _ => false
  | .fn f _, .fn f' _ => Nat.beq f f'
  | .fn _ _, _ => false
  | .ptr _ _, .ptr _ _ => true
  | .ptr _ _, _ => false
  | .nils, .nils => true
  | .nils, _ => false
  | _, _ => true
def fit1s : List P1 → List (A1 D) → Bool
  | p :: ps, a :: as => fit1 p a && fit1s ps as
  | _, _ => true
def fitC : PC → AV D → Bool
  | .one p, .c (.one a) => fit1 p a
  | .agg ps, .c (.agg l) => fit1s ps l
  | _, _ => false
def fitCs : List PC → List (AV D) → Bool
  | [], [] => true
  | p :: ps, a :: as => fitC p a && fitCs ps as
  | _, _ => false
def isFz : AO D → Bool
  | .fz .. => true
  | _ => false
/-- slices that are to be owned are not frozen -/
def ownQ1 : List P1 → List (A1 D) → Q D Bool
  | .own _ :: ps, .own i :: as => .obj i fun o => if isFz o = true then .ret false else ownQ1 ps as
  | _ :: ps, _ :: as => ownQ1 ps as
  | _, _ => .ret true
def ownQ : List PC → List (AV D) → Q D Bool
  | .one p :: ps, .c (.one a) :: as => (ownQ1 [p] [a]).bind fun b => if b = true then ownQ ps as else .ret false
  | .agg qs :: ps, .c (.agg l) :: as => (ownQ1 qs l).bind fun b => if b = true then ownQ ps as else .ret false
  | _, _ => .ret true
def conQ : List (Con D) → Nat → List (AV D) → Q D (Con D)
  | [], _, _ => .fail
  | c :: r, f, as => if Nat.beq c.f f && fitCs c.args as then (ownQ c.args as).bind fun b => if b = true then .ret c else conQ r f as else conQ r f as
def Con.bor (c : Con D) : Bool := memN (c.res.flatMap ksPC ++ c.ob'.flatMap fun p => ksPO p.2) 0
/-- a number for each block that the call gives back -/
def newIds (known : List (Nat × Nat)) : Nat → List (Nat × PO) → List (Nat × Nat)
  | _, [] => []
  | k, (p, _) :: r => match lookN known p with
    | some i => (p, i) :: newIds known k r
    | none => (p, k) :: newIds known (k + 1) r
def deadOf (ids : List (Nat × Nat)) (ob' : List (Nat × PO)) : List (Nat × Option (AO D)) :=
  (ids.filter fun p => !(memN (ob'.map Prod.fst) p.1)).map fun p => (p.2, none)
def resAV : List (AC D) → AV D
  | [x] => .c x
  | l => .tup l
def argS : Nat → List (AC D) → List (Nat × AV D)
  | _, [] => []
  | k, a :: r => (k, .c a) :: argS (k + 1) r
def entS (T : Tab D) (c : Con D) (h : HH D c.ins) : Option (S D) :=
  let fl := ofHH T c.ins h
  if Nat.ble fl.length 900 && c.ob.all (fun p => Nat.ble 1000 p.1 && Nat.blt p.1 1100) then
    match inCs T fl some id 1100 c.args, inOs T fl some id 1100 c.ob with
    | some a, some b => some ⟨argS 0 a, b, 2000, []⟩
    | _, _ => none
  else none
def callQ (T : Tab D) (Φ : List (Con D)) (nid f : Nat) (args : List (AV D)) : Q D (Eff D) := (conQ Φ f args).bind fun c => (exQ T true 0 c.ins c.args c.ob [] nid args).bind fun x => if (c.bor && !x.2.ku.isEmpty) || !(Nat.ble x.2.nf (nid + 8)) || (entS T c x.1).isNone then .fail else
      .part (c.fn x.1) fun y =>
        let fl := ofHH T c.outs y
        let ids := newIds x.2.ids (nid + 8) c.ob'
        let ri := lookN ids
        let rK := fun K => (if memN K 0 then x.2.kr else []) ++ (if memN K 1 then [1] else [])
        match inCs T fl ri rK (nid + 16) c.res, inOs T fl ri rK (nid + 16) c.ob' with
        | some r, some obs => if Nat.ble fl.length 48 then .ret ⟨resAV r, obs ++ deadOf x.2.ids c.ob', []⟩ else .fail
        | _, _ => .fail

def capAV : A0 D → AV D
  | .ptr i off => .c (.one (.ptr i off))
  | .rp n x off K => .c (.one (.rp n x off K))
/-- an operation, calls among them -/
def operQ (T : Tab D) (Φ : List (Con D)) (nid : Nat) (o : Op) (as : List (AV D)) : Q D (Eff D) := match o with
  | .call { callee := .value _, .. } => match as with
    | .c (.one (.fn f caps)) :: as => match Nat.blt f 1000000 with
      | true => callQ T Φ nid f (as ++ caps.map capAV)
      | false => callQ T Φ nid (f - 1000000) (caps.map capAV ++ as)
    | _ => .fail
  | o => opQ T nid o as

/-! operations one by one: σ.nx is the first of 64 numbers of the next one -/
def effOk (lk : List Nat) (e : Eff D) : Bool := disjB (e.upd.map Prod.fst) lk && disjB e.fz lk
def apE (σ : S D) (dst : Option Nat) (e : Eff D) : S D :=
  { σ with sl := (match dst with | some d => (d, e.dst) :: σ.sl | none => σ.sl), ob := e.fz.map (fun i => (i, none)) ++ e.upd ++ σ.ob, nx := σ.nx + 64 }
def skipE (σ : S D) (dst : Option Nat) : S D :=
  { σ with sl := (match dst with | some d => (d, .c (.one .undef)) :: σ.sl | none => σ.sl), nx := σ.nx + 64 }
/-- what an operation looks at, and what it changes -/
structure Lg where
  i : Nat
  rd : List Nat
  wr : List Nat
def Eff.wr (e : Eff D) : List Nat := e.upd.map Prod.fst ++ e.fz
def stepK (T : Tab D) (Φ : List (Con D)) (p : Nat) (o : Oper) (σ : S D) (lg : List Lg) {ρ : Type} (k : S D → List Lg → Option ρ) : Option ρ := match evOs σ.sl o.op.operands.toList with
  | some as => (operQ T Φ σ.nx o.op as).go σ.ob [] fun e rd => match effOk σ.lk e with
    | true => k (apE σ o.dst e) (⟨p, rd, e.wr⟩ :: lg)
    | false => none
  | none => none
def guardOf (ops : List Oper) (sl : List (Nat × AV D)) (j : Nat) : Option (Nat × AV D) := match ops[j]? with
  | some og => match og.dst with
    | some d => match lookN sl d with
      | some a => some (d, a)
      | none => none
    | none => none
  | none => none
def setB (σ : S D) (d : Nat) (b : Bool) (K : List Nat) (g : Nat) : S D := { σ with sl := (d, .c (.one (.v .bool b K g))) :: σ.sl }
def isUndef : AV D → Bool
  | .c (.one .undef) => true
  | _ => false
def cpsL (T : Tab D) (Φ : List (Con D)) (ops : List Oper) {ρ : Type} : List Oper → Nat → S D → List Lg → (S D → List Lg → Option ρ) → Option ρ
  | [], _, σ, lg, k => k σ lg
  | o :: r, p, σ, lg, k => match o.guard with
    | none => stepK T Φ p o σ lg fun σ lg => cpsL T Φ ops r (p + 1) σ lg k
    | some (j, b) => match guardOf ops σ.sl j with
      | none => none
      | some (d, a) => match a with
        | .c (.one (.v .bool c K g)) =>
          cnd c
            (match b with
              | true => stepK T Φ p o (setB σ d true K g) lg fun σ lg => cpsL T Φ ops r (p + 1) σ lg k
              | false => cpsL T Φ ops r (p + 1) (skipE (setB σ d true K g) o.dst) lg k)
            (match b with
              | true => cpsL T Φ ops r (p + 1) (skipE (setB σ d false K g) o.dst) lg k
              | false => stepK T Φ p o (setB σ d false K g) lg fun σ lg => cpsL T Φ ops r (p + 1) σ lg k)
        | a => if isUndef a then cpsL T Φ ops r (p + 1) (skipE σ o.dst) lg k else none

/-- slices whose elements hold slices of the call's own become slices whose elements' memory stays as it is -/
def thaw : S D → List Nat → Option (S D)
  | σ, [] => some σ
  | σ, i :: r => match lookO σ.ob i with
    | some (.kid n t _ _ xs g _) => if memN σ.lk i then none else thaw { σ with ob := (i, some (.sl n t xs [1] g)) :: σ.ob } r
    | _ => none
/-- slices that nobody writes from here on -/
def frz : S D → List Nat → Option (S D)
  | σ, [] => some σ
  | σ, i :: r => match lookO σ.ob i with
    | some o => match asDV o with
      | some (⟨.sl n, xs⟩, K) => if memN σ.lk i then none else frz { σ with ob := (i, some (.fz n xs (1 :: K))) :: σ.ob } r
      | _ => none
    | none => none
def frzK (l : List Nat) (σ : S D) {ρ : Type} (k : S D → Option ρ) : Option ρ := match frz σ l with
  | some σ' => k σ'
  | none => none
def dstsOf (l : List Oper) : List Nat := l.filterMap (·.dst)
/-- a region's operations, some of them up to a joint -/
def cpsG (T : Tab D) (Φ : List (Con D)) (ops : List Oper) : Sg → ∀ {ρ : Type}, List Oper → Nat → S D → (S D → Option ρ) → Option ρ
  | .nil, _, l, p, σ, k => cpsL T Φ ops l p σ [] fun σ _ => k σ
  | .thaw s b next, _, l, p, σ, k => cpsL T Φ ops (l.take (s - p)) p σ [] fun σ1 _ => match thaw σ1 b with
    | some σ2 => cpsG T Φ ops next (l.drop (s - p)) s σ2 k
    | none => none
  | .seg s m j inner next, _, l, p, σ, k => cpsL T Φ ops (l.take (s - p)) p σ [] fun σ1 _ =>
      let seg := (l.drop (s - p)).take m
      let go := fun {ρ' : Type} (σ : S D) (k : S D → Option ρ') => match seg with
        | o :: _ => match o.guard with
          | some (i, b) => match guardOf ops σ.sl i with
            | some (d, .c (.one (.v .bool c K g))) =>
              cnd c
                (match b with
                  | true => cpsG T Φ ops inner seg s (setB σ d true K g) k
                  | false => cpsL T Φ ops seg s (setB σ d true K g) [] fun σ _ => k σ)
                (match b with
                  | true => cpsL T Φ ops seg s (setB σ d false K g) [] fun σ _ => k σ
                  | false => cpsG T Φ ops inner seg s (setB σ d false K g) k)
            | _ => cpsL T Φ ops seg s σ [] fun σ _ => k σ
          | none => cpsG T Φ ops inner seg s σ k
        | [] => none
      wrap T (dstsOf seg) (some (true, [(.normal, j)])) (fun σ k => go σ (k .normal)) σ1 fun _ σ2 => cpsG T Φ ops next (l.drop (s - p + m)) (s + m) σ2 k

/-! a region that draws its order -/
def bit (m i : Nat) : Bool := Nat.beq ((m >>> i) % 2) 1
def ancOf (acc : List Nat) (o : Oper) : Nat := o.after.toList.foldl (fun s e => if Region.binds .any e then s ||| (1 <<< e.on) ||| (acc.reverse.getD e.on 0) else s) 0
def ancs : List Oper → List Nat → List Nat
  | [], acc => acc.reverse
  | o :: r, acc => ancs r (ancOf acc o :: acc)
def tmpsOf (ops : List Oper) (o : Oper) : List Nat := (o.op.operands.toList.filterMap fun | .tmp t => some t | _ => none) ++ (match o.guard with
  | some (j, _) => match ops[j]? with
    | some og => og.dst.toList
    | none => []
  | none => [])
/-- slots of two operations that no edge orders do not meet -/
def apart (ops : List Oper) (a b : Oper) : Bool := match a.dst with
  | none => match b.dst with
    | none => true
    | some d => !(memN (tmpsOf ops a) d)
  | some d => !(memN (tmpsOf ops b) d) && match b.dst with
    | none => true
    | some d' => !(Nat.beq d d') && !(memN (tmpsOf ops a) d')
def slotsOk (ops : List Oper) (an : List Nat) : Nat → List Oper → List (Nat × Oper) → Bool
  | _, [], _ => true
  | j, o :: r, seen => (seen.all fun p => bit (an.getD j 0) p.1 || apart ops p.2 o) && o.after.toList.all (fun e => !(Region.binds .any e) || Nat.blt e.on j) && slotsOk ops an (j + 1) r ((j, o) :: seen)
def lgApart (a b : Lg) : Bool := disjB a.wr b.rd && disjB b.wr a.rd && disjB a.wr b.wr
def lgsOk (an : List Nat) : List Lg → Bool
  | [] => true
  | a :: r => (r.all fun b => bit (an.getD a.i 0) b.i || lgApart a b) && lgsOk an r
def cpsR (T : Tab D) (Φ : List (Con D)) (ops : List Oper) (draw : Bool) (sg : Sg) {ρ : Type} (σ : S D) (k : S D → Option ρ) : Option ρ :=
  match draw with
  | true =>
    match slotsOk ops (ancs ops []) 0 ops [] with
    | true => cpsL T Φ ops ops 0 σ [] fun σ' lg => match lgsOk (ancs ops []) lg with
      | true => k σ'
      | false => none
    | false => none
  | false => cpsG T Φ ops sg ops 0 σ k

/-! code -/
def writes : Code → List Nat
  | .region _ ops _ => dstsOf ops.toList
  | .seq a b => writes a ++ writes b
  | .cond _ a b => writes a ++ writes b
  | .block _ a => writes a
  | .loop a => writes a
  | .scope a => writes a
  | .rangeFunc _ ps a b => ps.toList ++ writes a ++ writes b
  | _ => []
noncomputable def loopK (T : Tab D) (wr : List Nat) (j : J) (pr : Bool) (E : List (Out × J)) {ρ : Type} (body : ∀ {ρ' : Type}, S D → (Out → S D → Option ρ') → Option ρ') (σ : S D) (k : Out → S D → Option ρ) : Option ρ :=
  let mv := j.mv ++ mvE E
  let lk := (kept σ mv).map Prod.fst ++ σ.lk
  exJ T j { σ with lk := lk } fun h0 =>
    obind (loopO (σ := HH D j.hts) (ρ := ExT D pr ρ E) (fun h => match inJ T j wr mv σ h with
      | some σh => body { σh with lk := lk } fun o σ1 => match o with
        | .normal => exJ T j σ1 fun h' => some (.inl h')
        | o => match toE T pr E o σ1 (k o { σ1 with lk := σ.lk }) with
          | some x => some (.inr x)
          | none => none
      | none => none) h0) fun x => fromE T pr wr mv σ k E x
/-! labels: on the spine of a scope, one -/
def isLab : Code → Option Nat
  | .label l => some l
  | _ => none
def lblQ (a : Code) (an : An) : Option (Nat × J × Bool × List (Out × J) × An) := match isLab a, an with
  | some l, .lab j pr E x => some (l, j, pr, E, x)
  | _, _ => none
/-- at a label the round ends by a jump to it -/
def swO (l : Nat) : Out → Out
  | .normal => .goto l
  | .goto l' => if Nat.beq l' l then .normal else .goto l'
  | o => o
def spineL : Code → Option (Nat × Code)
  | .label l => some (l, .skip)
  | .seq a b => match isLab a with
    | some l => some (l, b)
    | none => spineL b
  | _ => none
def noSp (c : Code) : Bool := (spineL c).isNone
def okC : Code → Bool
  | .seq a b => (match isLab a with
    | some _ => noSp b
    | none => noSp a && okC a) && okC b
  | .cond _ a b => noSp a && noSp b && okC a && okC b
  | .block _ a => noSp a && okC a
  | .loop a => noSp a && okC a
  | .scope a => okC a
  | _ => true
/-- code without scopes -/
def noScp : Code → Bool
  | .seq a b => noScp a && noScp b
  | .cond _ a b => noScp a && noScp b
  | .block _ a => noScp a
  | .loop a => noScp a
  | .scope _ => false
  | _ => true
noncomputable def cps (T : Tab D) (Φ : List (Con D)) : Code → An → ∀ {ρ : Type}, S D → (Out → S D → Option ρ) → Option ρ
  | .skip, _, _, σ, k => k .normal σ
  | .region _ ops draw, an, _, σ, k => wrap T (dstsOf ops.toList) an.cut (fun σ k => cpsR T Φ ops.toList draw an.sg σ (k .normal)) σ k
  | .seq a b, an, _, σ, k => match lblQ a an with
    | some x => loopK T (writes b) x.2.1 x.2.2.1 x.2.2.2.1 (fun σ k => frzK x.2.2.2.2.fz σ fun σ => cps T Φ b x.2.2.2.2.un σ fun o σ' => k (swO x.1 o) σ') σ fun o σ' => k (swO x.1 o) σ'
    | none => wrap T (writes (.seq a b)) an.cut (fun σ k => frzK an.a.fz σ fun σ => cps T Φ a an.a.un σ fun o σ' => match o with
      | .normal => frzK an.b.fz σ' fun σ => cps T Φ b an.b.un σ k
      | o => k o σ') σ k
  | .cond c a b, an, _, σ, k => wrap T (writes (.cond c a b)) an.cut (fun σ k => match evO σ.sl c with
      | some (.c (.one (.v .bool d _ _))) => cnd d (frzK an.a.fz σ fun σ => cps T Φ a an.a.un σ k) (frzK an.b.fz σ fun σ => cps T Φ b an.b.un σ k)
      | _ => none) σ k
  | .block id a, an, _, σ, k => wrap T (writes a) an.cut (fun σ k => frzK an.a.fz σ fun σ => cps T Φ a an.a.un σ fun o σ' => match o with
      | .exit id' => match Nat.beq id' id with
        | true => k .normal σ'
        | false => k o σ'
      | o => k o σ') σ k
  | .exit id, _, _, σ, k => k (.exit id) σ
  | .ret, _, _, σ, k => k .ret σ
  | .scope a, an, _, σ, k => wrap T (writes a) an.cut (fun σ k => frzK an.a.fz σ fun σ => cps T Φ a an.a.un σ fun o σ' => match o with
      | .goto _ => none
      | o => k o σ') σ k
  | .goto l, _, _, σ, k => k (.goto l) σ
  | .loop a, .loop j pr E x, _, σ, k => loopK T (writes a) j pr E (fun σ k => frzK x.fz σ fun σ => cps T Φ a x.un σ k) σ k
  | _, _, _, _, _ => none

/-! functions -/
def resQ (T : Tab D) (sl : List (Nat × AV D)) : List ResultVar → Q D (List (AV D))
  | [] => .ret []
  | .tmp t :: r => match lookN sl t with
    | some a => (resQ T sl r).bind fun l => .ret (a :: l)
    | none => .fail
  | .cell t ty :: r => match lookN sl t, lookN T.ty ty with
    | some (.c (.one (.ptr i off))), some ty => .obj i fun
      | .box cs => match cutA ty T cs off with
        | some a => (resQ T sl r).bind fun l => .ret (a :: l)
        | none => .fail
      | _ => .fail
    | _, _ => .fail
/-- the blocks of a contract's entry that are still there at its end -/
def stay (c : Con D) : List (Nat × Nat) := (c.ob'.filter fun p => memN (c.ob.map Prod.fst) p.1).map fun p => (p.1, p.1)
def retK (T : Tab D) (c : Con D) (rs : List ResultVar) : Out → S D → Option (HH D c.outs)
  | .ret, σ => fin σ
  | .normal, σ => fin σ
  | _, _ => none
where fin (σ : S D) : Option (HH D c.outs) := (resQ T σ.sl rs).go σ.ob [] fun avs _ =>
    (exQ T false 0 c.outs c.res c.ob' (stay c) σ.nx avs).go σ.ob [] fun x _ => match inCs T (ofHH T c.outs x.1) some id 3000 c.res, inOs T (ofHH T c.outs x.1) some id 3000 c.ob' with
      | some _, some _ => some x.1
      | _, _ => none
/-- what the code computes, as a function of the contract's data -/
noncomputable def sem (T : Tab D) (Φ : List (Con D)) (c : Con D) (rs : List ResultVar) (code : Code) (an : An) (h : HH D c.ins) : Option (HH D c.outs) := match noSp code && okC code with
  | true => match entS T c h with
    | some σ => frzK an.fz σ fun σ => cps T Φ code an.un σ (retK T c rs)
    | none => none
  | false => none
end
end Rx
end Go.Proofs.Ytkgfdplcjdidhaa
