/- The rules of the operations. Nothing here names a program. -/
import Derived.Test.YtdfkfohpgakihaaDm
set_option linter.unusedVariables false
set_option linter.unusedSimpArgs false
namespace Go.Proofs.Ytdfkfohpgakihaa
open Go Go.RowKit

namespace Dp

/-! plain functions: 'none' where Go would panic (or where a list would be larger than any that occurs) -/
def W (x : Int) : Int := IntKind.i64.wrap x
theorem W_in {x : Int} (h1 : -9223372036854775808 ≤ x) (h2 : x ≤ 9223372036854775807) : W x = x := IntWalk.i64_in x ⟨h1, by omega⟩
def idx {α : Type} (xs : List α) (j : Int) : Option α := if 0 ≤ j then xs[j.toNat]? else none
def setO {α : Type} (xs : List α) (j : Int) (y : α) : Option (List α) := if 0 ≤ j ∧ j < xs.length then some (xs.set j.toNat y) else none
def app {α : Type} (xs ys : List α) : Option (List α) := if xs.length + ys.length ≤ 1073741824 then some (xs ++ ys) else none
def mkL (α : Type) [Rep α] (n : Int) : Option (List α) := if 0 ≤ n ∧ n ≤ 1073741824 then some (List.replicate n.toNat Rep.zero) else none
def slc {α : Type} (xs : List α) (lo hi : Int) : Option (List α) := if 0 ≤ lo ∧ lo ≤ hi ∧ hi ≤ xs.length then some ((xs.take hi.toNat).drop lo.toNat) else none
def quoO (a b : Int) : Option Int := if b = 0 then none else some (W (a.tdiv b))
def remO (a b : Int) : Option Int := if b = 0 then none else some (a.tmod b)
def len {α : Type} (xs : List α) : Int := xs.length

def bin : BinOp → Value → Value → Option Value
  | .add, .int .i64 a, .int .i64 b => some (.int .i64 (W (a + b)))
  | .sub, .int .i64 a, .int .i64 b => some (.int .i64 (W (a - b)))
  | .mul, .int .i64 a, .int .i64 b => some (.int .i64 (W (a * b)))
  | .eql, .int .i64 a, .int .i64 b => some (.bool (a == b))
  | .neq, .int .i64 a, .int .i64 b => some (.bool (a != b))
  | .lss, .int .i64 a, .int .i64 b => some (.bool (decide (a < b)))
  | .leq, .int .i64 a, .int .i64 b => some (.bool (decide (a ≤ b)))
  | .gtr, .int .i64 a, .int .i64 b => some (.bool (decide (a > b)))
  | .geq, .int .i64 a, .int .i64 b => some (.bool (decide (a ≥ b)))
  | _, _, _ => none

def evs (L : List (Nat × Value)) : List Operand → Option (List Value)
  | [] => some []
  | x :: r => match ev L x, evs L r with
    | some v, some vs => some (v :: vs)
    | _, _ => none

/-- operations that look at no memory and at no type -/
def pv (L : List (Nat × Value)) : Op → Option Value
  | .move x => ev L x
  | .assign x => ev L x
  | .pick c a b => match ev L c with
    | some (.bool true) => ev L a
    | some (.bool false) => ev L b
    | _ => none
  | .binOp op _ x y _ => match ev L x, ev L y with
    | some a, some b => bin op a b
    | _, _ => none
  | .unOp .not _ x => match ev L x with
    | some (.bool b) => some (.bool (!b))
    | _ => none
  | .unOp .neg _ x => match ev L x with
    | some (.int .i64 a) => some (.int .i64 (W (-a)))
    | _ => none
  | .nilCheck x => match ev L x with
    | some (.pointer (some a)) => some (.pointer (some a))
    | _ => none
  | .extract x i => match ev L x with
    | some (.tuple vs) => vs[i]?
    | _ => none
  | .makeFunc fn first caps => match evs L first.toList, evs L caps.toList with
    | some f, some c => some (.func fn f.toArray c.toArray)
    | _, _ => none
  | _ => none

section
variable {P : Program} {n : Nat} {Q : Exit → Act → World → Prop} {L : List (Nat × Value)} {w : World} {ops : Array Oper} {rest : List Oper} {d : Option Tmp} {ty : TypeId} {pos : String} {af : Array Edge} {g : Option (Nat × Bool)}

abbrev Reads (L : List (Nat × Value)) (a : Act) : Prop := ∀ x v, ev L x = some v → a.eval x = v

theorem OW.run {o : Oper} {R : Value → World → Prop} (h : ∀ a, Reads L a → ∃ v w', (execOp a.eval o).run P w = .ok (.value v) w' ∧ R v w') : OW P Q L o w R := by
  intro a K ha hK
  obtain ⟨v, w', h1, h2⟩ := h a ha
  unfold Oper.wp
  rw [h1]
  exact hK v w' h2
theorem OW.runSkip {o : Oper} {R : Value → World → Prop} (h : ∀ a, Reads L a → ∃ w', (execOp a.eval o).run P w = .ok .skip w' ∧ R undef w') : OW P Q L o w R := by
  intro a K ha hK
  obtain ⟨w', h1, h2⟩ := h a ha
  unfold Oper.wp
  rw [h1]
  exact hK _ w' h2
/-- what a call returns -/
def Ret (R : Value → World → Prop) : Ending → World → Prop := fun e w' => ∃ v, e = .returned v ∧ R v w'
theorem OW.runCall {o : Oper} {R : Value → World → Prop} (h : ∀ a, Reads L a → ∃ f args, (execOp a.eval o).run P w = .ok (.enter f args) w ∧ Calls P f args w (Ret R)) : OW P Q L o w R := by
  intro a K ha hK
  obtain ⟨f, args, h1, h2⟩ := h a ha
  unfold Oper.wp
  rw [h1, Oper.upon_enter]
  refine h2.mono ?_
  rintro e w' ⟨v, rfl, hr⟩
  exact hK v w' hr

theorem evs_map {a : Act} (ha : Reads L a) : ∀ (l : List Operand) {vs : List Value}, evs L l = some vs → l.map a.eval = vs
  | [], vs, h => by simp [evs] at h; simp [h]
  | x :: r, vs, h => by
    unfold evs at h
    split at h
    · rename_i v us h1 h2
      cases h
      simp [ha _ _ h1, evs_map ha r h2]
    · cases h

theorem bin_run {op : BinOp} {x y v : Value} {a b : Operand} (h : bin op x y = some v) (t : TypeId) : (eqGuard op t a b x y).run P w = .ok () w ∧ (binOp op t x y).run P w = .ok v w := by
  unfold bin at h
  split at h <;> first
    | (cases h; simp [eqGuard, binOp, Op.intArith, Op.intCmp, W]; done)
    | cases h

theorem OW.pv {op : Op} {v : Value} (h : Dp.pv L op = some v) : OW P Q L ⟨d, op, ty, pos, af, g⟩ w (fun v' w' => v' = v ∧ w' = w) := by
  refine OW.run fun a ha => ⟨v, w, ?_, rfl, rfl⟩
  unfold Dp.pv at h
  split at h
  · rename_i x
    simp [execOp, ha _ _ h]
  · rename_i x
    simp [execOp, ha _ _ h]
  · rename_i c x y
    split at h <;> first
      | (rename_i hc; simp [execOp, ha _ _ hc, ha _ _ h, asBool]; done)
      | cases h
  · rename_i op t x y u
    split at h
    · rename_i vx vy hx hy
      obtain ⟨h1, h2⟩ := bin_run (P := P) (w := w) (a := x) (b := y) h t
      simp [execOp, ha _ _ hx, ha _ _ hy, Sem.run_bind, h1, h2]
    · cases h
  · rename_i t x
    split at h
    · rename_i b hx
      cases h
      simp [execOp, ha _ _ hx, Op.unary]
    · cases h
  · rename_i t x
    split at h
    · rename_i b hx
      cases h
      simp [execOp, ha _ _ hx, Op.unary, W, Op.intArith]
    · cases h
  · rename_i x
    split at h
    · rename_i b hx
      cases h
      simp [execOp, ha _ _ hx]
    · cases h
  · rename_i x i
    split at h
    · rename_i vs hx
      simp [execOp, ha _ _ hx, Instr.extract, h]
    · cases h
  · rename_i fn first caps
    split at h
    · rename_i f c hf hc
      cases h
      have h1 : first.map a.eval = f.toArray := by rw [← evs_map ha _ hf, ← List.map_toArray, Array.toArray_toList]
      have h2 : caps.map a.eval = c.toArray := by rw [← evs_map ha _ hc, ← List.map_toArray, Array.toArray_toList]
      simp [execOp, Instr.makeFunc, h1, h2]
    · cases h
  · cases h

theorem WL.v {d : Nat} {op : Op} {v : Value} (h : Dp.pv L op = some v) (hd : Nat.blt d n = true) (k : WL P n ops Q rest ((d, v) :: L) w) : WL P n ops Q (⟨some d, op, ty, pos, af, none⟩ :: rest) L w :=
  WL.step (OW.pv h) hd (by rintro v' w' ⟨rfl, rfl⟩; exact k)

/-- the first k operations at once -/
def pvs (n : Nat) : Nat → List Oper → List (Nat × Value) → Option (List (Nat × Value))
  | 0, _, L => some L
  | k + 1, ⟨some d, op, _, _, _, none⟩ :: r, L => match Nat.blt d n, pv L op with
    | true, some v => pvs n k r ((d, v) :: L)
    | _, _ => none
  | _ + 1, _, _ => none
def picks (L : List (Nat × Value)) : List Nat → Option (List (Nat × Value))
  | [] => some []
  | t :: r => match look L t, picks L r with
    | some v, some l => some ((t, v) :: l)
    | _, _ => none
theorem picks_sub {L L' : List (Nat × Value)} : ∀ {ks : List Nat}, picks L ks = some L' → sub L' L := by
  intro ks
  induction ks generalizing L' with
  | nil => intro h; simp [picks] at h; subst h; trivial
  | cons t r ih =>
    intro h
    unfold picks at h
    split at h
    · rename_i v l h1 h2
      cases h
      exact ⟨h1, ih h2⟩
    · cases h
def pvk (n k : Nat) (l : List Oper) (L : List (Nat × Value)) (ks : List Nat) : Option (List (Nat × Value)) :=
  match pvs n k l L with
  | some L1 => picks L1 ks
  | none => none
theorem WL.pvs : ∀ (k : Nat) {l : List Oper} {L L1 : List (Nat × Value)}, Dp.pvs n k l L = some L1 → WL P n ops Q (l.drop k) L1 w → WL P n ops Q l L w
  | 0, l, L, L1, h, c => by simp [Dp.pvs] at h; subst h; simpa using c
  | k + 1, l, L, L1, h, c => by
    unfold Dp.pvs at h
    split at h
    · rename_i e; omega
    · rename_i k' d op t p a r L0 e
      split at h
      · rename_i h1 h2
        exact WL.v h2 h1 (WL.pvs k (by cases e; exact h) (by simpa using c))
      · cases h
    · cases h
theorem WL.runs (k : Nat) {l : List Oper} (L' : List (Nat × Value)) (h : pvk n k l L (L'.map Prod.fst) = some L') (c : WL P n ops Q (l.drop k) L' w) : WL P n ops Q l L w := by
  unfold pvk at h
  split at h
  · rename_i L1 h1
    exact WL.pvs k h1 (WL.sub (picks_sub h) c)
  · cases h

theorem addr_add (a : Addr) (i j : Nat) : (a.add i).add j = a.add (i + j) := by
  by_cases hi : i = 0
  · subst hi; simp [Addr.add]
  · by_cases hj : j = 0
    · subst hj; simp [Addr.add]
    · simp [Addr.add, hi, hj, Nat.add_assoc]

/-! types -/
structure TyOk (P : Program) (t : TypeId) (α : Type) [Rep α] : Prop where
  agg : ∃ d, P.underlying t = some d ∧ (match d with | .struct _ | .array _ _ => true | _ => false) = Rep.agg α
  info : ∃ i, P.info? t = some i ∧ i.size = Rep.sz α ∧ i.bytes ≤ 65536 ∧ i.zero = some (pack (Rep.agg α) (Rep.zc α))

/-- field i of struct type T: from it to its part f -/
structure FldOk (P : Program) (T : TypeId) (i : Nat) {α β : Type} [Rep α] [Rep β] (off : Nat) (f : α → β) : Prop where
  fld : ∃ fs fd, P.underlying T = some (.struct fs) ∧ fs[i]? = some fd ∧ fd.offset = off ∧ TyOk P fd.type β
  prt : ∀ {S w cs x}, Rep.rd S w cs x → ∃ c1 c c2, cs = c1 ++ c ++ c2 ∧ c1.length = off ∧ Rep.rd S w c (f x)
/-- .. and a store into it -/
def FldSet {α β : Type} [Rep α] [Rep β] (off : Nat) (st : α → β → α) : Prop :=
  ∀ {S : Nat → Prop} {w : World} {cs : List Value} {x : α} {c' : List Value} {y : β}, Rep.rd S w cs x → Rep.rd S w c' y → Rep.rd S w (cs.take off ++ c' ++ cs.drop (off + c'.length)) (st x y)

section
variable {α β : Type} [Rep α] [Rep β] {t T : TypeId} {x : Operand}

theorem TyOk.isAgg (h : TyOk P t α) (w : World) : (isAgg t).run P w = .ok (Rep.agg α) w := by
  obtain ⟨d, h1, h2⟩ := h.agg
  unfold Go.isAgg
  rw [Sem.run_bind, run_underlying h1 w]
  simp only [Result.andThen_ok]
  rw [← h2]
  cases d <;> rfl
theorem TyOk.sizeOf (h : TyOk P t α) (w : World) : (sizeOf t).run P w = .ok (Rep.sz α) w := by
  obtain ⟨i, h1, h2, _⟩ := h.info
  simp [Go.sizeOf, typeInfo, h1, h2]
theorem TyOk.zero (h : TyOk P t α) (w : World) : (zeroValue t).run P w = .ok (pack (Rep.agg α) (Rep.zc α)) w := by
  obtain ⟨i, h1, _, _, h4⟩ := h.info
  simp [zeroValue, typeInfo, h1, h4]

theorem run_loadVar {S : Nat → Prop} {pa : Addr} {y : α} (h : TyOk P t α) (hp : PtrAt S w pa y) : ∃ v, (loadVar t pa).run P w = .ok v w ∧ Rv S w v y := by
  obtain ⟨cs, h1, _, h3⟩ := hp
  have hl := Rep.len h1
  refine ⟨_, ?_, cs, rfl, h1⟩
  simp only [loadVar, Sem.run_bind, h.isAgg, Result.andThen_ok]
  cases hg : Rep.agg α with
  | true =>
    have := run_loadCells_list (P := P) w pa cs h3
    rw [hl] at this
    simp [h.sizeOf, this, pack]
  | false =>
    rw [Rep.flat hg] at hl
    match cs, hl, h3 with
    | [u], _, h3 =>
      have := h3 0 u rfl
      have hu : w.cell? pa = some u := by simpa [Addr.add] using this
      simp [pack, hu]

theorem OW.load {S : Nat → Prop} {pa : Addr} {y : α} (hT : TyOk P t α) (hx : ev L x = some (.pointer (some pa))) (h : PtrAt S w pa y) :
    OW P Q L ⟨d, .load t x, ty, pos, af, g⟩ w (fun v w' => w' = w ∧ Rv S w v y) := by
  refine OW.run fun a ha => ?_
  obtain ⟨v, h1, h2⟩ := run_loadVar hT h
  refine ⟨v, w, ?_, rfl, h2⟩
  simp [execOp, ha _ _ hx, Instr.loadAt, Instr.sureAddr, h1]

theorem OW.loadI {S : Nat → Prop} {pa : Addr} {y : Int} (hT : TyOk P t Int) (hx : ev L x = some (.pointer (some pa))) (h : PtrAt S w pa y) :
    OW P Q L ⟨d, .load t x, ty, pos, af, g⟩ w (fun v w' => v = .int .i64 y ∧ w' = w) := by
  intro a K ha hK
  refine OW.load hT hx h a K ha ?_
  rintro v w' ⟨rfl, hr⟩
  exact hK v _ ⟨rv_int.1 hr, rfl⟩
theorem OW.loadB {S : Nat → Prop} {pa : Addr} {y : Bool} (hT : TyOk P t Bool) (hx : ev L x = some (.pointer (some pa))) (h : PtrAt S w pa y) :
    OW P Q L ⟨d, .load t x, ty, pos, af, g⟩ w (fun v w' => v = .bool y ∧ w' = w) := by
  intro a K ha hK
  refine OW.load hT hx h a K ha ?_
  rintro v w' ⟨rfl, hr⟩
  exact hK v _ ⟨rv_bool.1 hr, rfl⟩
theorem OW.loadS {S : Nat → Prop} {pa : Addr} {y : ByteArray} (hT : TyOk P t ByteArray) (hx : ev L x = some (.pointer (some pa))) (h : PtrAt S w pa y) :
    OW P Q L ⟨d, .load t x, ty, pos, af, g⟩ w (fun v w' => v = .string y ∧ w' = w) := by
  intro a K ha hK
  refine OW.load hT hx h a K ha ?_
  rintro v w' ⟨rfl, hr⟩
  exact hK v _ ⟨rv_str.1 hr, rfl⟩
theorem OW.pickT {c u v : Operand} {b : Bool} {vu : Value} (hc : ev L c = some (.bool b)) (hb : b = true) (hu : ev L u = some vu) :
    OW P Q L ⟨d, .pick c u v, ty, pos, af, g⟩ w (fun v' w' => v' = vu ∧ w' = w) := by
  subst hb
  exact OW.run fun a ha => ⟨_, w, by simp [execOp, ha _ _ hc, ha _ _ hu, asBool], rfl, rfl⟩
theorem OW.pickF {c u v : Operand} {b : Bool} {vv : Value} (hc : ev L c = some (.bool b)) (hb : b = false) (hv : ev L v = some vv) :
    OW P Q L ⟨d, .pick c u v, ty, pos, af, g⟩ w (fun v' w' => v' = vv ∧ w' = w) := by
  subst hb
  exact OW.run fun a ha => ⟨_, w, by simp [execOp, ha _ _ hc, ha _ _ hv, asBool], rfl, rfl⟩

theorem OW.fieldAddr {i off : Nat} {f : α → β} {pa : Addr} (hF : FldOk P T i off f) (hx : ev L x = some (.pointer (some pa))) :
    OW P Q L ⟨d, .fieldAddr T x i, ty, pos, af, g⟩ w (fun v w' => v = .pointer (some (pa.add off)) ∧ w' = w) := by
  refine OW.run fun a ha => ⟨_, w, ?_, rfl, rfl⟩
  obtain ⟨fs, fd, h1, h2, h3, h4⟩ := hF.fld
  have hs := h4.sizeOf w
  have hp := Rep.pos (α := β)
  have hne : ¬ Rep.sz β = 0 := by omega
  simp [execOp, ha _ _ hx, Instr.fieldAt, run_underlying h1, h2, Instr.sureAddr, fieldPlace, hs, hne, h3]

theorem PtrAt.fld {S : Nat → Prop} {i off : Nat} {f : α → β} {pa : Addr} {y : α} (hF : FldOk P T i off f) (h : PtrAt S w pa y) : PtrAt S w (pa.add off) (f y) := by
  obtain ⟨cs, h1, h2, h3⟩ := h
  obtain ⟨c1, c, c2, rfl, h4, h5⟩ := hF.prt h1
  refine ⟨c, h5, by rw [add_block]; exact h2, fun j u hu => ?_⟩
  rw [addr_add]
  refine h3 _ _ ?_
  rw [List.append_assoc, List.getElem?_append_right (by omega), ← h4, Nat.add_sub_cancel_left]
  rw [List.getElem?_append_left (List.getElem?_eq_some_iff.1 hu).1]
  exact hu

theorem run_part (hT : TyOk P t β) {cs c1 c c2 : List Value} {S : Nat → Prop} {y : β} (hcs : cs = c1 ++ c ++ c2) (hc : Rep.rd S w c y) : (part t cs.toArray c1.length).run P w = .ok (pack (Rep.agg β) c) w := by
  have hl := Rep.len hc
  simp only [part, Sem.run_bind, hT.isAgg, Result.andThen_ok]
  cases hg : Rep.agg β with
  | true =>
    simp [hT.sizeOf, pack, ← hl, hcs]
  | false =>
    rw [Rep.flat hg] at hl
    match c, hl with
    | [u], _ => simp [hcs, pack]

theorem OW.field {S : Nat → Prop} {i off : Nat} {f : α → β} {v : Value} {y : α} (hF : FldOk P T i off f) (hg : Rep.agg α = true) (hx : ev L x = some v) (h : Rv S w v y) :
    OW P Q L ⟨d, .field T x i, ty, pos, af, g⟩ w (fun v' w' => w' = w ∧ Rv S w v' (f y)) := by
  obtain ⟨cs, rfl, h2⟩ := h
  obtain ⟨fs, fd, h3, h4, h5, h6⟩ := hF.fld
  obtain ⟨c1, c, c2, hcs, h7, h8⟩ := hF.prt h2
  refine OW.run fun a ha => ⟨_, w, ?_, rfl, c, rfl, h8⟩
  have hp := run_part (P := P) (w := w) h6 hcs h8
  rw [h7, ← h5] at hp
  simp [execOp, ha _ _ hx, Instr.field, run_underlying h3, h4, pack, hg, asAgg, hp]

theorem OW.len {S : Nat → Prop} {e : TypeId} {v : Value} {xs : List α} {o : Operand} (hu : P.underlying t = some (.slice e)) (hx : ev L o = some v) (h : Rv S w v xs) :
    OW P Q L ⟨d, .call { callee := .builtin .len, args := #[o], argTypes := #[t] }, ty, pos, af, g⟩ w (fun v' w' => v' = .int .i64 (Dp.len xs) ∧ w' = w) := by
  obtain ⟨p, cap, rfl, _⟩ := rv_list h
  refine OW.run fun a ha => ⟨_, w, ?_, rfl, rfl⟩
  simp [execOp, resolve, invoke, builtin, Builtin.len_, run_underlying hu, ha _ _ hx, goInt, Dp.len]

theorem OW.min {u v : Operand} {p q : Int} {ts : Array TypeId} (hu : ev L u = some (.int .i64 p)) (hv : ev L v = some (.int .i64 q)) :
    OW P Q L ⟨d, .call { callee := .builtin .min, args := #[u, v], argTypes := ts }, ty, pos, af, g⟩ w (fun v' w' => v' = .int .i64 (if q < p then q else p) ∧ w' = w) := by
  refine OW.run fun a ha => ⟨_, w, ?_, rfl, rfl⟩
  simp [execOp, resolve, invoke, builtin, Builtin.min_, Builtin.min2, ha _ _ hu, ha _ _ hv]
theorem OW.max {u v : Operand} {p q : Int} {ts : Array TypeId} (hu : ev L u = some (.int .i64 p)) (hv : ev L v = some (.int .i64 q)) :
    OW P Q L ⟨d, .call { callee := .builtin .max, args := #[u, v], argTypes := ts }, ty, pos, af, g⟩ w (fun v' w' => v' = .int .i64 (if p < q then q else p) ∧ w' = w) := by
  refine OW.run fun a ha => ⟨_, w, ?_, rfl, rfl⟩
  simp [execOp, resolve, invoke, builtin, Builtin.max_, Builtin.max2, ha _ _ hu, ha _ _ hv]

theorem OW.quo {u v : Operand} {p q r : Int} {t1 t2 : TypeId} (hu : ev L u = some (.int .i64 p)) (hv : ev L v = some (.int .i64 q)) (h : quoO p q = some r) :
    OW P Q L ⟨d, .binOp .quo t1 u v t2, ty, pos, af, g⟩ w (fun v' w' => v' = .int .i64 r ∧ w' = w) := by
  refine OW.run fun a ha => ⟨_, w, ?_, rfl, rfl⟩
  unfold quoO at h
  split at h
  · cases h
  · rename_i hq
    cases h
    simp [execOp, eqGuard, binOp, Op.intDiv, ha _ _ hu, ha _ _ hv, hq, W]
theorem OW.rem {k : IntKind} {u v : Operand} {p q r : Int} {t1 t2 : TypeId} (hu : ev L u = some (.int k p)) (hv : ev L v = some (.int k q)) (h : remO p q = some r) :
    OW P Q L ⟨d, .binOp .rem t1 u v t2, ty, pos, af, g⟩ w (fun v' w' => v' = .int k r ∧ w' = w) := by
  refine OW.run fun a ha => ⟨_, w, ?_, rfl, rfl⟩
  unfold remO at h
  split at h
  · cases h
  · rename_i hq
    cases h
    simp [execOp, eqGuard, binOp, Op.intDiv, ha _ _ hu, ha _ _ hv, hq]

/-- a pointer to element i of slice value v -/
theorem flatten_at {z : Nat} : ∀ {css : List (List Value)}, (∀ c ∈ css, c.length = z) → ∀ {i : Nat} {c : List Value}, css[i]? = some c → ∀ {j : Nat} {u : Value}, c[j]? = some u → css.flatten[i * z + j]? = some u
  | [], _, i, c, hi, _, _, _ => by simp at hi
  | b :: css, hz, 0, c, hi, j, u, hu => by
    have : b = c := by simpa using hi
    subst this
    simp only [List.flatten_cons, Nat.zero_mul, Nat.zero_add]
    rw [List.getElem?_append_left (List.getElem?_eq_some_iff.1 hu).1]
    exact hu
  | b :: css, hz, i + 1, c, hi, j, u, hu => by
    have hb : b.length = z := hz b (by simp)
    have ih := flatten_at (css := css) (fun c hc => hz c (by simp [hc])) (i := i) (c := c) (by simpa using hi) hu
    have e : (i + 1) * z + j = b.length + (i * z + j) := by rw [hb, Nat.succ_mul]; omega
    rw [List.flatten_cons, e, List.getElem?_append_right (by omega), Nat.add_sub_cancel_left]
    exact ih
theorem All2.sizes {S : Nat → Prop} {css : List (List Value)} {xs : List α} (h : All2 (Rep.rd S w) css xs) : ∀ c ∈ css, c.length = Rep.sz α := by
  intro c hc
  obtain ⟨x, hx⟩ := h.mem c hc
  exact Rep.len hx

def EPtr (v : Value) (z : Nat) (i : Int) (pa : Addr) : Prop := ∃ a n cap, v = .slice (some a) n cap ∧ pa = a.add (i.toNat * z)

theorem OW.indexAddr {S : Nat → Prop} {e : TypeId} {v : Value} {xs : List α} {y : α} {u i : Operand} {k : IntKind} {j : Int} (hu : P.underlying t = some (.slice e)) (hT : TyOk P e α) (hx : ev L u = some v) (h : Rv S w v xs)
    (hi : ev L i = some (.int k j)) (hj : idx xs j = some y) :
    OW P Q L ⟨d, .indexAddr t u i, ty, pos, af, g⟩ w (fun v' w' => w' = w ∧ ∃ pa, v' = .pointer (some pa) ∧ PtrAt S w pa y ∧ EPtr v (Rep.sz α) j pa) := by
  obtain ⟨p, cap, rfl, h1, h2, h3⟩ := rv_list h
  unfold idx at hj
  split at hj
  · rename_i h0
    have hlt : j.toNat < xs.length := (List.getElem?_eq_some_iff.1 hj).1
    rcases h3 with h3 | ⟨a, css, rfl, h4, h5, h6⟩
    · subst h3; simp at hj
    · obtain ⟨c, hc1, hc2⟩ := h5.get hj
      refine OW.run fun b hb => ⟨_, w, ?_, rfl, a.add (j.toNat * Rep.sz α), rfl, ⟨c, hc2, by rw [add_block]; exact h4, fun m q hq => ?_⟩, a, _, cap, rfl, rfl⟩
      · have hjl : j < (xs.length : Int) := by omega
        simp [execOp, ha_ hb hx, ha_ hb hi, Instr.indexAt, asIntOf, run_underlying hu, h0, hjl, hT.sizeOf]
      · rw [addr_add]
        exact h6 _ _ (flatten_at h5.sizes hc1 hq)
  · cases hj
where
  ha_ {b : Act} (hb : Reads L b) {o : Operand} {v : Value} (h : ev L o = some v) : b.eval o = v := hb _ _ h

/-- an element of an array value -/
theorem OW.indexArr {S : Nat → Prop} {e m : TypeId} {xs : List α} {css : List (List Value)} {y : α} {u i : Operand} {k : IntKind} {j : Int} (hu : P.underlying t = some (.array m e)) (hm : xs.length = m) (hT : TyOk P e α)
    (hx : ev L u = some (.agg css.flatten.toArray)) (h : All2 (Rep.rd S w) css xs) (hi : ev L i = some (.int k j)) (hj : idx xs j = some y) :
    OW P Q L ⟨d, .index t u i, ty, pos, af, g⟩ w (fun v' w' => w' = w ∧ Rv S w v' y) := by
  unfold idx at hj
  split at hj
  · rename_i h0
    have hlt : j.toNat < xs.length := (List.getElem?_eq_some_iff.1 hj).1
    obtain ⟨c, hc1, hc2⟩ := h.get hj
    obtain ⟨l1, l2, hl, hlen⟩ := cut h.sizes hc1
    have hjl : j < (m : Int) := by omega
    have hp := run_part (P := P) (w := w) hT hl hc2
    refine OW.run fun b hb => ⟨_, w, ?_, rfl, c, rfl, hc2⟩
    simp [execOp, hb _ _ hx, hb _ _ hi, Instr.index, asIntOf, run_underlying hu, h0, hjl, hT.sizeOf, ← hlen, hp]
  · cases hj
where
  cut {z : Nat} : ∀ {css : List (List Value)}, (∀ c ∈ css, c.length = z) → ∀ {i : Nat} {c : List Value}, css[i]? = some c → ∃ l1 l2, css.flatten = l1 ++ c ++ l2 ∧ l1.length = i * z
    | [], _, i, c, hi => by simp at hi
    | b :: css, hz, 0, c, hi => by
      have : b = c := by simpa using hi
      subst this
      exact ⟨[], css.flatten, by simp, by simp⟩
    | b :: css, hz, i + 1, c, hi => by
      obtain ⟨l1, l2, h1, h2⟩ := cut (css := css) (fun c hc => hz c (by simp [hc])) (i := i) (c := c) (by simpa using hi)
      refine ⟨b ++ l1, l2, by rw [List.flatten_cons, h1]; simp, ?_⟩
      rw [List.length_append, h2, hz b (by simp), Nat.succ_mul]; omega

/-! new blocks -/
theorem Evo.alloc (o : Cls) (w : World) (ob : Obj) (c : Nat) : Evo [] [c] o w (grow o w c) (w.alloc ob) :=
  Evo.fresh c ((Below.refl _ _).alloc (Nat.le_refl _) _)
theorem grow_new (o : Cls) (w : World) (c b : Nat) (h : w.heap.size ≤ b) : grow o w c b = c := by simp [grow, Nat.not_lt.2 h]

theorem Bx.new {K : List Nat} {o : Cls} {cs : List Value} {y : α} (c : Nat) (T : TypeId) (h : Rep.rd (In o K) w cs y) : Bx (grow o w c) c K (w.alloc (.cells cs.toArray T)) ⟨w.heap.size, 0, none⟩ y := by
  refine ⟨cs, T, rfl, rfl, grow_new o w c _ (Nat.le_refl _), heap_alloc_new w _, ?_⟩
  exact Rep.mono (Evo.ro (Evo.alloc o w (.cells cs.toArray T) c) (by simp [disj])) h

theorem OW.box {K : List Nat} {o : Cls} {v : Value} {y : α} {u : Operand} (c : Nat) (hx : ev L u = some v) (h : Rv (In o K) w v y) :
    OW P Q L ⟨d, .box t u, ty, pos, af, g⟩ w (fun v' w' => ∃ pa o', v' = .pointer (some pa) ∧ Evo [] [c] o w o' w' ∧ Bx o' c K w' pa y) := by
  obtain ⟨cs, rfl, h2⟩ := h
  refine OW.run fun a ha => ⟨_, w.alloc (.cells cs.toArray t), ?_, ⟨w.heap.size, 0, none⟩, _, rfl, Evo.alloc o w _ c, Bx.new c t h2⟩
  have hpk := pack_cells h2
  have hpk' : (pack (Rep.agg α) cs).cells = cs.toArray := Array.toList_inj.1 (by simpa using hpk)
  simp [execOp, ha _ _ hx, Instr.box, newVar, newRow, hpk', newObj]
  rfl

theorem OW.alloc {o : Cls} (c : Nat) (hT : TyOk P t α) :
    OW P Q L ⟨d, .alloc t, ty, pos, af, g⟩ w (fun v' w' => ∃ pa o', v' = .pointer (some pa) ∧ Evo [] [c] o w o' w' ∧ Bx o' c [] w' pa (Rep.zero : α)) := by
  have hz : Rep.rd (In o []) w (Rep.zc α) (Rep.zero : α) := Rep.zok _ _
  refine OW.run fun a ha => ⟨_, w.alloc (.cells (Rep.zc α).toArray t), ?_, ⟨w.heap.size, 0, none⟩, _, rfl, Evo.alloc o w _ c, Bx.new c t hz⟩
  have hpk := pack_cells hz
  have hpk' : (pack (Rep.agg α) (Rep.zc α)).cells = (Rep.zc α).toArray := Array.toList_inj.1 (by simpa using hpk)
  simp [execOp, Instr.alloc, hT.zero, newVar, newRow, hpk', newObj]
  rfl
end
end
end Dp
end Go.Proofs.Ytdfkfohpgakihaa
