/- The rules of the operations. Nothing here names a program. The rules of the operations that write or make memory, and of calls. Nothing here names a program. The rules: element stores, literals, slice expressions, calls, equality, results in a cell. Nothing here names a program. -/
import Derived.Test.YtkgfdplcjdidhaaDm
set_option linter.unusedVariables false
set_option linter.unusedSimpArgs false
namespace Go.Proofs.Ytkgfdplcjdidhaa
open Go Go.RowKit

namespace Dp

/-! plain functions: 'none' where Go would panic (or where a list would be larger than any that occurs) -/
def W (x : Int) : Int := IntKind.i64.wrap x
theorem W_in {x : Int} (h1 : -9223372036854775808 ≤ x) (h2 : x ≤ 9223372036854775807) : W x = x := IntWalk.i64_in x ⟨h1, by omega⟩
def idx {α : Type} (xs : List α) (j : Int) : Option α := if 0 ≤ j then xs[j.toNat]? else none
def setO {α : Type} (xs : List α) (j : Int) (y : α) : Option (List α) := if 0 ≤ j ∧ j < xs.length then some (xs.set j.toNat y) else none
def app {α : Type} (xs ys : List α) : Option (List α) := if xs.length + ys.length ≤ 1073741824 then some (xs ++ ys) else none
def mkL (α : Type) [Rep α] (n : Int) : Option (List α) := if 0 ≤ n ∧ n ≤ 1073741824 then some (List.replicate n.toNat Rep.zero) else none
def slc {α : Type} (xs : List α) (lo hi : Int) : Option (List α) := if 0 ≤ lo ∧ lo ≤ hi ∧ hi ≤ xs.length then some ((xs.take hi.toNat).drop lo.toNat) else none
def quoO (a b : Int) : Option Int := if b = 0 then none else some (W (a.tdiv b))
def remO (a b : Int) : Option Int := if b = 0 then none else some (a.tmod b)
def len {α : Type} (xs : List α) : Int := xs.length

def bin : BinOp → Value → Value → Option Value
  | .add, .int .i64 a, .int .i64 b => some (.int .i64 (W (a + b)))
  | .sub, .int .i64 a, .int .i64 b => some (.int .i64 (W (a - b)))
  | .mul, .int .i64 a, .int .i64 b => some (.int .i64 (W (a * b)))
  | .eql, .int .i64 a, .int .i64 b => some (.bool (a == b))
  | .neq, .int .i64 a, .int .i64 b => some (.bool (a != b))
  | .lss, .int .i64 a, .int .i64 b => some (.bool (decide (a < b)))
  | .leq, .int .i64 a, .int .i64 b => some (.bool (decide (a ≤ b)))
  | .gtr, .int .i64 a, .int .i64 b => some (.bool (decide (a > b)))
  | .geq, .int .i64 a, .int .i64 b => some (.bool (decide (a ≥ b)))
  | _, _, _ => none

def evs (L : List (Nat × Value)) : List Operand → Option (List Value)
  | [] => some []
  | x :: r => match ev L x, evs L r with
    | some v, some vs => some (v :: vs)
    | _, _ => none

/-- operations that look at no memory and at no type -/
def pv (L : List (Nat × Value)) : Op → Option Value
  | .move x => ev L x
  | .assign x => ev L x
  | .pick c a b => match ev L c with
    | some (.bool true) => ev L a
    | some (.bool false) => ev L b
    | _ => none
  | .binOp op _ x y _ => match ev L x, ev L y with
    | some a, some b => bin op a b
    | _, _ => none
  | .unOp .not _ x => match ev L x with
    | some (.bool b) => some (.bool (!b))
    | _ => none
  | .unOp .neg _ x => match ev L x with
    | some (.int .i64 a) => some (.int .i64 (W (-a)))
    | _ => none
  | .nilCheck x => match ev L x with
    | some (.pointer (some a)) => some (.pointer (some a))
    | _ => none
  | .extract x i => match ev L x with
    | some (.tuple vs) => vs[i]?
    | _ => none
  | .makeFunc fn first caps => match evs L first.toList, evs L caps.toList with
    | some f, some c => some (.func fn f.toArray c.toArray)
    | _, _ => none
  | _ => none

section
variable {P : Program} {n : Nat} {Q : Exit → Act → World → Prop} {L : List (Nat × Value)} {w : World} {ops : Array Oper} {rest : List Oper} {d : Option Tmp} {ty : TypeId} {pos : String} {af : Array Edge} {g : Option (Nat × Bool)}

abbrev Reads (L : List (Nat × Value)) (a : Act) : Prop := ∀ x v, ev L x = some v → a.eval x = v

/-- in a round every operation that is no defer statement is carried out as everywhere -/
theorem semAt_run {ro : Option Nat} {o : Oper} {ρ : Operand → Value} {x : Next} {w' : World} (h : (execOp ρ o).run P w = .ok x w') (hx : ∀ d, x ≠ .defer d) : (o.semAt ro ρ).run P w = .ok x w' := by
  by_cases hd : ∃ c, o.op = .defer c
  · obtain ⟨c, hc⟩ := hd
    exfalso
    simp only [execOp, hc, Sem.run_bind] at h
    generalize (resolve ρ c o.type).run P w = r at h
    cases r with
    | ok d w1 => simp only [Result.andThen_ok, Sem.run_pure, Result.ok.injEq] at h; exact hx _ h.1.symm
    | halt e w1 => cases h
  · rw [Oper.semAt_eq ro ρ o fun c hc => hd ⟨c, hc⟩]
    exact h
theorem OW.run [I : Rd] {o : Oper} {R : Value → World → Prop} (h : ∀ a, Reads L a → ∃ v w', (execOp a.eval o).run P w = .ok (.value v) w' ∧ R v w') : OW P Q L o w R := by
  intro a K ha hK
  obtain ⟨v, w', h1, h2⟩ := h a ha
  unfold Oper.wpIn
  rw [semAt_run h1 (fun _ h => by cases h)]
  exact ⟨fun f _ => trivial, hK v w' h2⟩
theorem OW.runSkip [I : Rd] {o : Oper} {R : Value → World → Prop} (h : ∀ a, Reads L a → ∃ w', (execOp a.eval o).run P w = .ok .skip w' ∧ R undef w') : OW P Q L o w R := by
  intro a K ha hK
  obtain ⟨w', h1, h2⟩ := h a ha
  unfold Oper.wpIn
  rw [semAt_run h1 (fun _ h => by cases h)]
  exact ⟨fun f _ => trivial, hK _ w' h2⟩
/-- what a call returns -/
def Ret (R : Value → World → Prop) : Ending → World → Prop := fun e w' => ∃ v, e = .returned v ∧ R v w'
theorem OW.runCall [I : Rd] {o : Oper} {R : Value → World → Prop} (h : ∀ a, Reads L a → ∃ f args, (execOp a.eval o).run P w = .ok (.enter f args) w ∧ Calls P f args w (Ret R)) : OW P Q L o w R := by
  intro a K ha hK
  obtain ⟨f, args, h1, h2⟩ := h a ha
  unfold Oper.wpIn
  rw [semAt_run h1 (fun _ h => by cases h), Oper.uponIn_enter]
  refine ⟨fun f _ => trivial, fun h => by simp [Rd.F, Fence.wide] at h, ?_⟩
  have h3 := (callsIn_wide (n := 0)).2 h2
  refine (h3 : CallsIn Fence.wide 0 P f args w (Ret R)).mono ?_
  rintro e w' ⟨v, rfl, hr⟩
  exact hK v w' hr

theorem evs_map [Rd] {a : Act} (ha : Reads L a) : ∀ (l : List Operand) {vs : List Value}, evs L l = some vs → l.map a.eval = vs
  | [], vs, h => by simp [evs] at h; simp [h]
  | x :: r, vs, h => by
    unfold evs at h
    split at h
    · rename_i v us h1 h2
      cases h
      simp [ha _ _ h1, evs_map ha r h2]
    · cases h

theorem bin_run {op : BinOp} {x y v : Value} {a b : Operand} (h : bin op x y = some v) (t : TypeId) : (eqGuard op t a b x y).run P w = .ok () w ∧ (binOp op t x y).run P w = .ok v w := by
  unfold bin at h
  split at h <;> first
    | (cases h; simp [eqGuard, binOp, Op.intArith, Op.intCmp, W]; done)
    | cases h

theorem OW.pv [Rd] {op : Op} {v : Value} (h : Dp.pv L op = some v) : OW P Q L ⟨d, op, ty, pos, af, g⟩ w (fun v' w' => v' = v ∧ w' = w) := by
  refine OW.run fun a ha => ⟨v, w, ?_, rfl, rfl⟩
  unfold Dp.pv at h
  split at h
  · rename_i x
    simp [execOp, ha _ _ h]
  · rename_i x
    simp [execOp, ha _ _ h]
  · rename_i c x y
    split at h <;> first
      | (rename_i hc; simp [execOp, ha _ _ hc, ha _ _ h, asBool]; done)
      | cases h
  · rename_i op t x y u
    split at h
    · rename_i vx vy hx hy
      obtain ⟨h1, h2⟩ := bin_run (P := P) (w := w) (a := x) (b := y) h t
      simp [execOp, ha _ _ hx, ha _ _ hy, Sem.run_bind, h1, h2]
    · cases h
  · rename_i t x
    split at h
    · rename_i b hx
      cases h
      simp [execOp, ha _ _ hx, Op.unary]
    · cases h
  · rename_i t x
    split at h
    · rename_i b hx
      cases h
      simp [execOp, ha _ _ hx, Op.unary, W, Op.intArith]
    · cases h
  · rename_i x
    split at h
    · rename_i b hx
      cases h
      simp [execOp, ha _ _ hx]
    · cases h
  · rename_i x i
    split at h
    · rename_i vs hx
      simp [execOp, ha _ _ hx, Instr.extract, h]
    · cases h
  · rename_i fn first caps
    split at h
    · rename_i f c hf hc
      cases h
      have h1 : first.map a.eval = f.toArray := by rw [← evs_map ha _ hf, ← List.map_toArray, Array.toArray_toList]
      have h2 : caps.map a.eval = c.toArray := by rw [← evs_map ha _ hc, ← List.map_toArray, Array.toArray_toList]
      simp [execOp, Instr.makeFunc, h1, h2]
    · cases h
  · cases h

theorem WL.v [I : Rd] {d : Nat} {op : Op} {v : Value} (h : Dp.pv L op = some v) (hd : I.okt n d = true) (k : WL P n ops Q rest ((d, v) :: L) w) : WL P n ops Q (⟨some d, op, ty, pos, af, none⟩ :: rest) L w :=
  WL.step (OW.pv h) hd (by rintro v' w' ⟨rfl, rfl⟩; exact k)

theorem addr_add (a : Addr) (i j : Nat) : (a.add i).add j = a.add (i + j) := by
  by_cases hi : i = 0
  · subst hi; simp [Addr.add]
  · by_cases hj : j = 0
    · subst hj; simp [Addr.add]
    · simp [Addr.add, hi, hj, Nat.add_assoc]

/-! types -/
structure TyOk (P : Program) (t : TypeId) (α : Type) [Rep α] : Prop where
  agg : ∃ d, P.underlying t = some d ∧ (match d with | .struct _ | .array _ _ => true | _ => false) = Rep.agg α
  info : ∃ i, P.info? t = some i ∧ i.size = Rep.sz α ∧ i.bytes ≤ 65536 ∧ i.zero = some (pack (Rep.agg α) (Rep.zc α))

/-- .. and a store into it -/
def FldSet {α β : Type} [Rep α] [Rep β] (off : Nat) (st : α → β → α) : Prop :=
  ∀ {S : Nat → Prop} {w : World} {cs : List Value} {x : α} {c' : List Value} {y : β}, Rep.rd S w cs x → Rep.rd S w c' y → Rep.rd S w (cs.take off ++ c' ++ cs.drop (off + c'.length)) (st x y)

section
variable {α β : Type} [Rep α] [Rep β] {t T : TypeId} {x : Operand}

theorem TyOk.isAgg (h : TyOk P t α) (w : World) : (isAgg t).run P w = .ok (Rep.agg α) w := by
  obtain ⟨d, h1, h2⟩ := h.agg
  unfold Go.isAgg
  rw [Sem.run_bind, run_underlying h1 w]
  simp only [Result.andThen_ok]
  rw [← h2]
  cases d <;> rfl
theorem TyOk.sizeOf (h : TyOk P t α) (w : World) : (sizeOf t).run P w = .ok (Rep.sz α) w := by
  obtain ⟨i, h1, h2, _⟩ := h.info
  simp [Go.sizeOf, typeInfo, h1, h2]
theorem TyOk.zero (h : TyOk P t α) (w : World) : (zeroValue t).run P w = .ok (pack (Rep.agg α) (Rep.zc α)) w := by
  obtain ⟨i, h1, _, _, h4⟩ := h.info
  simp [zeroValue, typeInfo, h1, h4]

theorem run_part (hT : TyOk P t β) {cs c1 c c2 : List Value} {S : Nat → Prop} {y : β} (hcs : cs = c1 ++ c ++ c2) (hc : Rep.rd S w c y) : (part t cs.toArray c1.length).run P w = .ok (pack (Rep.agg β) c) w := by
  have hl := Rep.len hc
  simp only [part, Sem.run_bind, hT.isAgg, Result.andThen_ok]
  cases hg : Rep.agg β with
  | true =>
    simp [hT.sizeOf, pack, ← hl, hcs]
  | false =>
    rw [Rep.flat hg] at hl
    match c, hl with
    | [u], _ => simp [hcs, pack]

theorem OW.len [Rd] {S : Nat → Prop} {e : TypeId} {v : Value} {xs : List α} {o : Operand} (hu : P.underlying t = some (.slice e)) (hx : ev L o = some v) (h : Rv S w v xs) :
    OW P Q L ⟨d, .call { callee := .builtin .len, args := #[o], argTypes := #[t] }, ty, pos, af, g⟩ w (fun v' w' => v' = .int .i64 (Dp.len xs) ∧ w' = w) := by
  obtain ⟨p, cap, rfl, _⟩ := rv_list h
  refine OW.run fun a ha => ⟨_, w, ?_, rfl, rfl⟩
  simp [execOp, resolve, invoke, builtin, Builtin.len_, run_underlying hu, ha _ _ hx, goInt, Dp.len]

theorem OW.min [Rd] {u v : Operand} {p q : Int} {ts : Array TypeId} (hu : ev L u = some (.int .i64 p)) (hv : ev L v = some (.int .i64 q)) :
    OW P Q L ⟨d, .call { callee := .builtin .min, args := #[u, v], argTypes := ts }, ty, pos, af, g⟩ w (fun v' w' => v' = .int .i64 (if q < p then q else p) ∧ w' = w) := by
  refine OW.run fun a ha => ⟨_, w, ?_, rfl, rfl⟩
  simp [execOp, resolve, invoke, builtin, Builtin.min_, Builtin.min2, ha _ _ hu, ha _ _ hv]
theorem OW.max [Rd] {u v : Operand} {p q : Int} {ts : Array TypeId} (hu : ev L u = some (.int .i64 p)) (hv : ev L v = some (.int .i64 q)) :
    OW P Q L ⟨d, .call { callee := .builtin .max, args := #[u, v], argTypes := ts }, ty, pos, af, g⟩ w (fun v' w' => v' = .int .i64 (if p < q then q else p) ∧ w' = w) := by
  refine OW.run fun a ha => ⟨_, w, ?_, rfl, rfl⟩
  simp [execOp, resolve, invoke, builtin, Builtin.max_, Builtin.max2, ha _ _ hu, ha _ _ hv]

theorem OW.quo [Rd] {u v : Operand} {p q r : Int} {t1 t2 : TypeId} (hu : ev L u = some (.int .i64 p)) (hv : ev L v = some (.int .i64 q)) (h : quoO p q = some r) :
    OW P Q L ⟨d, .binOp .quo t1 u v t2, ty, pos, af, g⟩ w (fun v' w' => v' = .int .i64 r ∧ w' = w) := by
  refine OW.run fun a ha => ⟨_, w, ?_, rfl, rfl⟩
  unfold quoO at h
  split at h
  · cases h
  · rename_i hq
    cases h
    simp [execOp, eqGuard, binOp, Op.intDiv, ha _ _ hu, ha _ _ hv, hq, W]
theorem OW.rem [Rd] {k : IntKind} {u v : Operand} {p q r : Int} {t1 t2 : TypeId} (hu : ev L u = some (.int k p)) (hv : ev L v = some (.int k q)) (h : remO p q = some r) :
    OW P Q L ⟨d, .binOp .rem t1 u v t2, ty, pos, af, g⟩ w (fun v' w' => v' = .int k r ∧ w' = w) := by
  refine OW.run fun a ha => ⟨_, w, ?_, rfl, rfl⟩
  unfold remO at h
  split at h
  · cases h
  · rename_i hq
    cases h
    simp [execOp, eqGuard, binOp, Op.intDiv, ha _ _ hu, ha _ _ hv, hq]

/-- a pointer to element i of slice value v -/
theorem flatten_at {z : Nat} : ∀ {css : List (List Value)}, (∀ c ∈ css, c.length = z) → ∀ {i : Nat} {c : List Value}, css[i]? = some c → ∀ {j : Nat} {u : Value}, c[j]? = some u → css.flatten[i * z + j]? = some u
  | [], _, i, c, hi, _, _, _ => by simp at hi
  | b :: css, hz, 0, c, hi, j, u, hu => by
    have : b = c := by simpa using hi
    subst this
    simp only [List.flatten_cons, Nat.zero_mul, Nat.zero_add]
    rw [List.getElem?_append_left (List.getElem?_eq_some_iff.1 hu).1]
    exact hu
  | b :: css, hz, i + 1, c, hi, j, u, hu => by
    have hb : b.length = z := hz b (by simp)
    have ih := flatten_at (css := css) (fun c hc => hz c (by simp [hc])) (i := i) (c := c) (by simpa using hi) hu
    have e : (i + 1) * z + j = b.length + (i * z + j) := by rw [hb, Nat.succ_mul]; omega
    rw [List.flatten_cons, e, List.getElem?_append_right (by omega), Nat.add_sub_cancel_left]
    exact ih
theorem All2.sizes {S : Nat → Prop} {css : List (List Value)} {xs : List α} (h : All2 (Rep.rd S w) css xs) : ∀ c ∈ css, c.length = Rep.sz α := by
  intro c hc
  obtain ⟨x, hx⟩ := h.mem c hc
  exact Rep.len hx

def EPtr (v : Value) (z : Nat) (i : Int) (pa : Addr) : Prop := ∃ a n cap, v = .slice (some a) n cap ∧ pa = a.add (i.toNat * z)

theorem OW.indexAddr [Rd] {S : Nat → Prop} {e : TypeId} {v : Value} {xs : List α} {y : α} {u i : Operand} {k : IntKind} {j : Int} (hu : P.underlying t = some (.slice e)) (hT : TyOk P e α) (hx : ev L u = some v) (h : Rv S w v xs)
    (hi : ev L i = some (.int k j)) (hj : idx xs j = some y) :
    OW P Q L ⟨d, .indexAddr t u i, ty, pos, af, g⟩ w (fun v' w' => w' = w ∧ ∃ pa, v' = .pointer (some pa) ∧ PtrAt S w pa y ∧ EPtr v (Rep.sz α) j pa) := by
  obtain ⟨p, cap, rfl, h1, h2, h3⟩ := rv_list h
  unfold idx at hj
  split at hj
  · rename_i h0
    have hlt : j.toNat < xs.length := (List.getElem?_eq_some_iff.1 hj).1
    rcases h3 with h3 | ⟨a, css, rfl, h4, h5, h6⟩
    · subst h3; simp at hj
    · obtain ⟨c, hc1, hc2⟩ := h5.get hj
      refine OW.run fun b hb => ⟨_, w, ?_, rfl, a.add (j.toNat * Rep.sz α), rfl, ⟨c, hc2, by rw [add_block]; exact h4, fun m q hq => ?_⟩, a, _, cap, rfl, rfl⟩
      · have hjl : j < (xs.length : Int) := by omega
        simp [execOp, ha_ hb hx, ha_ hb hi, Instr.indexAt, asIntOf, run_underlying hu, h0, hjl, hT.sizeOf]
      · rw [addr_add]
        exact h6 _ _ (flatten_at h5.sizes hc1 hq)
  · cases hj
where
  ha_ {b : Act} (hb : Reads L b) {o : Operand} {v : Value} (h : ev L o = some v) : b.eval o = v := hb _ _ h

/-- the address of an element of an array -/
theorem OW.indexArrAddr [Rd] {e m : TypeId} {pa : Addr} {u i : Operand} {k : IntKind} {q : Nat} (hu : P.underlying t = some (.array m e)) (hT : TyOk P e α) (hx : ev L u = some (.pointer (some pa))) (hi : ev L i = some (.int k (q : Int))) (hq : q < m) :
    OW P Q L ⟨d, .indexAddr t u i, ty, pos, af, g⟩ w (fun v w' => v = .pointer (some (pa.add (q * Rep.sz α))) ∧ w' = w) := by
  refine OW.run fun b hb => ⟨_, w, ?_, rfl, rfl⟩
  have h1 : b.eval u = .pointer (some pa) := hb _ _ hx
  have h2 : b.eval i = .int k (q : Int) := hb _ _ hi
  have h3 : (q : Int) < (m : Int) := by omega
  simp [execOp, h1, h2, Instr.indexAt, asIntOf, run_underlying hu, Instr.sureAddr, hq, hT.sizeOf]

/-- an element of an array value -/
theorem OW.indexArr [Rd] {S : Nat → Prop} {e m : TypeId} {xs : List α} {css : List (List Value)} {y : α} {u i : Operand} {k : IntKind} {j : Int} (hu : P.underlying t = some (.array m e)) (hm : xs.length = m) (hT : TyOk P e α)
    (hx : ev L u = some (.agg css.flatten.toArray)) (h : All2 (Rep.rd S w) css xs) (hi : ev L i = some (.int k j)) (hj : idx xs j = some y) :
    OW P Q L ⟨d, .index t u i, ty, pos, af, g⟩ w (fun v' w' => w' = w ∧ Rv S w v' y) := by
  unfold idx at hj
  split at hj
  · rename_i h0
    have hlt : j.toNat < xs.length := (List.getElem?_eq_some_iff.1 hj).1
    obtain ⟨c, hc1, hc2⟩ := h.get hj
    obtain ⟨l1, l2, hl, hlen⟩ := cut h.sizes hc1
    have hjl : j < (m : Int) := by omega
    have hp := run_part (P := P) (w := w) hT hl hc2
    refine OW.run fun b hb => ⟨_, w, ?_, rfl, c, rfl, hc2⟩
    simp [execOp, hb _ _ hx, hb _ _ hi, Instr.index, asIntOf, run_underlying hu, h0, hjl, hT.sizeOf, ← hlen, hp]
  · cases hj
where
  cut {z : Nat} : ∀ {css : List (List Value)}, (∀ c ∈ css, c.length = z) → ∀ {i : Nat} {c : List Value}, css[i]? = some c → ∃ l1 l2, css.flatten = l1 ++ c ++ l2 ∧ l1.length = i * z
    | [], _, i, c, hi => by simp at hi
    | b :: css, hz, 0, c, hi => by
      have : b = c := by simpa using hi
      subst this
      exact ⟨[], css.flatten, by simp, by simp⟩
    | b :: css, hz, i + 1, c, hi => by
      obtain ⟨l1, l2, h1, h2⟩ := cut (css := css) (fun c hc => hz c (by simp [hc])) (i := i) (c := c) (by simpa using hi)
      refine ⟨b ++ l1, l2, by rw [List.flatten_cons, h1]; simp, ?_⟩
      rw [List.length_append, h2, hz b (by simp), Nat.succ_mul]; omega

/-! new blocks -/
theorem Evo.alloc (o : Cls) (w : World) (ob : Obj) (c : Nat) : Evo [] [c] o w (grow o w c) (w.alloc ob) :=
  Evo.fresh c ((Below.refl _ _).alloc (Nat.le_refl _) _)
theorem grow_new (o : Cls) (w : World) (c b : Nat) (h : w.heap.size ≤ b) : grow o w c b = c := by simp [grow, Nat.not_lt.2 h]

end
end
end Dp
end Go.Proofs.Ytkgfdplcjdidhaa
namespace Go.Proofs.Ytkgfdplcjdidhaa
open Go Go.RowKit

namespace Dp

/-- a type whose readings look at no memory -/
class Flat (α : Type) [Rep α] : Prop where
  any : ∀ {S S' : Nat → Prop} {w w' : World} {cs : List Value} {x : α}, Rep.rd S w cs x → Rep.rd S' w' cs x
instance : Flat Int := ⟨fun h => h⟩
instance : Flat Bool := ⟨fun h => h⟩
instance : Flat ByteArray := ⟨fun h => h⟩
instance : Flat U8 := ⟨fun h => h⟩
instance {α β : Type} [Rep α] [Rep β] [Flat α] [Flat β] : Flat (α × β) := ⟨fun ⟨c1, c2, h, h1, h2⟩ => ⟨c1, c2, h, Flat.any h1, Flat.any h2⟩⟩

/-- a function value -/
structure FnV where
  v : Value
instance : Rep FnV where
  sz := 1
  agg := false
  zc := [.nilFunc]
  zero := ⟨.nilFunc⟩
  rd := fun _ _ cs x => cs = [x.v] ∧ x.v.oneCell' = true
  len := by rintro S w cs x ⟨rfl, _⟩; rfl
  one := by rintro S w cs x ⟨rfl, h⟩ u hu; simp at hu; subst hu; exact h
  mono := fun _ h => h
  flat := fun _ => rfl
  pos := Nat.one_pos
  zok := fun _ _ => ⟨rfl, rfl⟩
instance : Flat FnV := ⟨fun h => h⟩
/-- the elements of a slice value, wherever its array lies -/
def Els {α : Type} [Rep α] (S : Nat → Prop) (w : World) (v : Value) (ys : List α) : Prop :=
  ∃ p cap, v = .slice p ys.length cap ∧ (ys = [] ∨ ∃ a css, p = some a ∧ All2 (Rep.rd S w) css ys ∧ CellsAt w a css.flatten)

section
variable {α β : Type} [Rep α] [Rep β]
theorem Rv.els {S : Nat → Prop} {w : World} {v : Value} {ys : List α} (h : Rv S w v ys) : Els S w v ys := by
  obtain ⟨p, cap, rfl, _, _, h⟩ := rv_list h
  refine ⟨p, cap, rfl, ?_⟩
  rcases h with h | ⟨a, css, h1, _, h3, h4⟩
  · exact .inl h
  · exact .inr ⟨a, css, h1, h3, h4⟩
theorem Ow.els {T : TypeId} {o : Cls} {k : Nat} {K : List Nat} {w : World} {v : Value} {ys : List α} (r : Ow T o k K w v ys) : Els (In o K) w v ys := by
  rcases r with ⟨rfl, rfl⟩ | ⟨g, cap, cur, css, rfl, h2, h3, h4, h5, h6, h7, h8⟩
  · exact ⟨none, 0, rfl, .inl rfl⟩
  · refine ⟨_, cap, rfl, .inr ⟨_, css, rfl, h7, ?_⟩⟩
    intro j u hu
    have hadd : (⟨g, 0, none⟩ : Addr).add j = ⟨g, j, none⟩ := by unfold Addr.add; split <;> simp_all
    rw [hadd, cell_of_row w g j cur T (0, 0) h3]
    rw [← h8, List.getElem?_take] at hu
    split at hu
    · simpa using hu
    · cases hu
theorem Els.flat [Flat α] {S S' : Nat → Prop} {w : World} {v : Value} {ys : List α} (h : Els S w v ys) : Els S' w v ys := by
  obtain ⟨p, cap, rfl, h⟩ := h
  refine ⟨p, cap, rfl, ?_⟩
  rcases h with h | ⟨a, css, h1, h3, h4⟩
  · exact .inl h
  · exact .inr ⟨a, css, h1, h3.mono fun _ _ => Flat.any, h4⟩
variable {P : Program} {n : Nat} {Q : Exit → Act → World → Prop} {L : List (Nat × Value)} {w : World} {ops : Array Oper} {rest : List Oper} {d : Option Tmp} {ty : TypeId} {pos : String} {af : Array Edge} {g : Option (Nat × Bool)} {t T e : TypeId} {o : Cls} {K : List Nat} {k : Nat}

/-! boxes written -/
theorem Evo.row {c : Nat} {b : Nat} (cs : Array Value) (hb : o b = c) : Evo [c] [] o w o (w.setRow b cs) :=
  ⟨rfl, rfl, rfl, by simp, fun _ _ => rfl, fun b' h1 h2 => by simp at h2; omega, fun b' _ hne => setRow_other w b b' cs (fun e => hne (by rw [e, hb]; exact List.mem_singleton.2 rfl))⟩

/-! slices of the call's own -/
theorem OW.make [Rd] {u1 u2 : Operand} {zs : List α} {m : Int} (hu : P.underlying t = some (.slice e)) (hT : TyOk P e α) (h1 : ev L u1 = some (.int .i64 m)) (h2 : ev L u2 = some (.int .i64 m)) (hm : mkL α m = some zs) :
    OW P Q L ⟨d, .makeSlice t u1 u2, ty, pos, af, g⟩ w (fun v' w' => ∃ o', Evo [] [k] o w o' w' ∧ Ow e o' k [] w' v' zs) := by
  unfold mkL at hm
  split at hm
  · rename_i hb
    cases hm
    obtain ⟨i, hi1, hi2, hi3, hi4⟩ := hT.info
    have hr := run_make (P := P) w t e i _ hu hi1 hi4 .i64 .i64 m m hb.1 (by omega) (by
      have h : (i.bytes : Int) ≤ 65536 := by omega
      have h' : (i.bytes : Int) * m ≤ 65536 * 1073741824 := Int.mul_le_mul h hb.2 hb.1 (by omega)
      omega) (by omega)
    refine OW.run fun a ha => ⟨.slice (some ⟨w.heap.size, 0, none⟩) m.toNat m.toNat, w.alloc (.cells (madeCells (pack (Rep.agg α) (Rep.zc α)).cells (m.toNat * i.size)) e), ?_, _, Evo.alloc o w _ k, .inr ⟨w.heap.size, m.toNat, _, List.replicate m.toNat (Rep.zc α), ?_, grow_new o w k _ (Nat.le_refl _), heap_alloc_new w _, by simp, ?_, ?_, ?_, ?_⟩⟩
    · simp [execOp, ha _ _ h1, ha _ _ h2, hr]
    · simp
    · unfold maxLen; omega
    · simp [size_madeCells, hi2]
    · exact All2.replicate (Rep.zok _ _) _
    · have hz : (pack (Rep.agg α) (Rep.zc α)).cells.toList = Rep.zc α := pack_cells (α := α) (Rep.zok (fun _ => True) w)
      have hzl : (Rep.zc α).length = Rep.sz α := Rep.len (Rep.zok (α := α) (fun _ => True) w)
      have hpos := Rep.pos (α := α)
      generalize hzz : (pack (Rep.agg α) (Rep.zc α)).cells = z at *
      rw [hi2]
      rw [List.length_replicate, List.take_of_length_le (by simp [size_madeCells])]
      unfold madeCells
      have hzs : z.size = Rep.sz α := by rw [← Array.length_toList, hz, hzl]
      have key : ∀ q : Nat, (List.range (q * Rep.sz α)).map (z[· % z.size]!) = (List.replicate q (Rep.zc α)).flatten := by
        intro q
        induction q with
        | zero => simp
        | succ q ih =>
          rw [List.replicate_succ', List.flatten_append, ← ih, Nat.succ_mul, List.range_add, List.map_append]
          congr 1
          simp only [List.map_map, List.flatten_singleton]
          rw [← hz]
          apply List.ext_getElem?
          intro j
          by_cases hj : j < Rep.sz α
          · have e1 : (q * Rep.sz α + j) % z.size = j := by rw [hzs, Nat.mul_comm, Nat.mul_add_mod, Nat.mod_eq_of_lt hj]
            have hj' : j < z.size := by omega
            simp [hj, e1, hj', getElem!_pos]
          · simp [hj, hzs]
      simpa using key m.toNat
  · cases hm

theorem oneCells {S : Nat → Prop} {css : List (List Value)} {xs : List α} (h : All2 (Rep.rd S w) css xs) : ∀ u ∈ css.flatten, u.oneCell' = true := by
  intro u hu
  obtain ⟨c, hc, huc⟩ := List.mem_flatten.1 hu
  obtain ⟨x, hx⟩ := h.mem c hc
  exact Rep.one hx u huc
theorem flatLen {S : Nat → Prop} {css : List (List Value)} {xs : List α} (h : All2 (Rep.rd S w) css xs) : css.flatten.length = xs.length * Rep.sz α := by
  have hl := h.length
  have hs := h.sizes
  rw [← hl]
  clear h hl
  induction css with
  | nil => simp
  | cons c css ih =>
    rw [List.flatten_cons, List.length_append, ih (fun c hc => hs c (by simp [hc])), hs c (by simp), List.length_cons, Nat.succ_mul]
    omega

theorem run_append {v vx : Value} {xs ys zs : List α} (hu : P.underlying t = some (.slice e)) (hT : TyOk P e α) (ho : Ow e o k K w v xs) (hr : Els (In o K) w vx ys) (hz : app xs ys = some zs) (hd : disj K [k] = true) :
    ∃ v' w' o', (Builtin.append_ #[t, t] ty #[v, vx]).run P w = .ok v' w' ∧ Evo [k] [k] o w o' w' ∧ Ow e o' k K w' v' zs := by
  unfold app at hz
  split at hz
  case isFalse => cases hz
  rename_i hlen
  cases hz
  obtain ⟨i, hi1, hi2, hi3, hi4⟩ := hT.info
  obtain ⟨p, capx, rfl, hx⟩ := hr
  have hzc : (pack (Rep.agg α) (Rep.zc α)).cells.toList = Rep.zc α := pack_cells (α := α) (Rep.zok (fun _ => True) w)
  have hzl : (Rep.zc α).length = Rep.sz α := Rep.len (Rep.zok (α := α) (fun _ => True) w)
  have hzs : (pack (Rep.agg α) (Rep.zc α)).cells.size = Rep.sz α := by rw [← Array.length_toList, hzc, hzl]
  have hbytes : (xs.length + ys.length) * i.bytes ≤ 140737488355328 := by
    have := Nat.mul_le_mul hlen hi3
    omega
  by_cases hy : ys = []
  · subst hy
    refine ⟨v, w, o, ?_, Evo.refl _ _ _ _, by simpa using ho⟩
    rcases ho with ⟨rfl, rfl⟩ | ⟨gg, cap, cur, css, rfl, h2, h3, h4, h5, h6, h7, h8⟩
    · cases p <;> simp [Builtin.append_, run_underlying hu, sizeOf, typeInfo, hi1, Builtin.lenOf, Builtin.firstCells, loadCells, loadCellsFrom]
    · cases p <;> simp [Builtin.append_, run_underlying hu, sizeOf, typeInfo, hi1, Builtin.lenOf, Builtin.firstCells, loadCells, loadCellsFrom, storeCells, h4]
  · rcases hx with hx | ⟨a, css', rfl, hx1, hx2⟩
    · exact (hy hx).elim
    have hnl := flatLen hx1
    have hn1 := oneCells hx1
    have hypos : 0 < ys.length := List.length_pos_iff.2 hy
    rcases ho with ⟨rfl, rfl⟩ | ⟨gg, cap, cur, css, rfl, h2, h3, h4, h5, h6, h7, h8⟩
    · have hrun := run_append_nil (P := P) w t ty e i _ hu hi1 hi4 a ys.length capx css'.flatten (by rw [hnl, hi2]) hx2 hypos (by simp at hlen; omega) (by simp at hbytes; omega)
      have hro : ∀ (ob : Obj) (b : Nat), In o K b → b < w.heap.size → In (grow o w k) K b ∧ (w.drew.alloc ob).heap[b]? = w.heap[b]? := fun ob b hb hlt =>
        ⟨by simp [In, grow, hlt] at hb ⊢; exact hb, Below.heap_alloc w.drew _ b hlt⟩
      refine ⟨_, _, grow o w k, hrun, ?_, .inr ⟨w.heap.size, grownCap w ys.length 0 e, _, css', by simp, grow_new o w k _ (Nat.le_refl _), heap_alloc_new w.drew _, ?_, ?_, ?_, ?_, ?_⟩⟩
      · exact (Evo.fresh k ((Below.refl _ _).drew.alloc (Nat.le_refl _) _)).weaken (by simp) (by simp)
      · simpa using grownCap_ge w ys.length 0 e
      · exact grownCap_le_maxLen w _ _ _ (by unfold maxLen; simp at hlen; omega)
      · have hge := grownCap_ge w ys.length 0 e
        simp only [Array.size_append, List.size_toArray, size_zeroCells, hzs, hnl, ← Nat.add_mul]
        congr 1
        omega
      · simp only [List.nil_append]
        exact hx1.mono fun _ _ => Rep.mono (hro _)
      · simp only [List.nil_append]
        rw [← hnl]
        simp
    · have hcl := flatLen h7
      by_cases hroom : xs.length + ys.length ≤ cap
      · have hrun := run_append_room (P := P) w t ty e i hu hi1 gg xs.length cap cur h3 a ys.length capx css'.flatten (by rw [hnl, hi2]) hx2 hn1 hroom (by
          rw [hi2, hnl, h6, ← Nat.add_mul]
          exact Nat.mul_le_mul_right _ hroom)
        rw [hi2] at hrun
        have hev : Evo [k] [k] o w o (w.setRow gg (cur.toList.take (xs.length * Rep.sz α) ++ css'.flatten ++ cur.toList.drop (xs.length * Rep.sz α + css'.flatten.length)).toArray) := (Evo.row _ h2).weaken (by simp) (by simp)
        refine ⟨_, _, o, hrun, hev, .inr ⟨gg, cap, _, css ++ css', by simp, h2, setRow_heap w gg cur _ e _ h3, by simpa using hroom, h5, ?_, ?_, ?_⟩⟩
        · have hfit : (xs.length + ys.length) * Rep.sz α ≤ cap * Rep.sz α := Nat.mul_le_mul_right _ hroom
          rw [Nat.add_mul] at hfit
          simp only [List.size_toArray, List.length_append, List.length_take, List.length_drop, Array.length_toList, h6, hnl]
          omega
        · exact All2.append (h7.mono fun _ _ => Rep.mono (hev.ro hd)) (hx1.mono fun _ _ => Rep.mono (hev.ro hd))
        · simp only [List.length_append, List.flatten_append]
          rw [h8, Nat.add_mul, ← hnl, ← hcl, ← List.length_append]
          exact List.take_left
      · have hols : ∀ (j : Nat) (u : Value), css.flatten[j]? = some u → w.cell? ((⟨gg, 0, none⟩ : Addr).add j) = some u := by
          intro j u hu
          have hadd : (⟨gg, 0, none⟩ : Addr).add j = ⟨gg, j, none⟩ := by unfold Addr.add; split <;> simp_all
          rw [hadd, cell_of_row w gg j cur e (0, 0) h3]
          rw [← h8, List.getElem?_take] at hu
          split at hu
          · simpa using hu
          · cases hu
        have hrun := run_append_grow (P := P) w t ty e i _ hu hi1 hi4 ⟨gg, 0, none⟩ xs.length cap css.flatten (by rw [hcl, hi2]) hols a ys.length capx css'.flatten (by rw [hnl, hi2]) hx2 (by omega) (by omega) (growslice_fits (by omega) hbytes)
        have hge := grownCap_ge w (xs.length + ys.length) cap e
        have hro : ∀ (ob : Obj) (b : Nat), In o K b → b < w.heap.size → In (grow o w k) K b ∧ (w.drew.alloc ob).heap[b]? = w.heap[b]? := fun ob b hb hlt =>
          ⟨by simp [In, grow, hlt] at hb ⊢; exact hb, Below.heap_alloc w.drew _ b hlt⟩
        refine ⟨_, _, grow o w k, hrun, ?_, .inr ⟨w.heap.size, grownCap w (xs.length + ys.length) cap e, _, css ++ css', by simp, grow_new o w k _ (Nat.le_refl _), heap_alloc_new w.drew _, by simpa using hge, ?_, ?_, ?_, ?_⟩⟩
        · exact (Evo.fresh k ((Below.refl _ _).drew.alloc (Nat.le_refl _) _)).weaken (by simp) (by simp)
        · exact grownCap_le_maxLen w _ _ _ (by unfold maxLen; omega)
        · simp only [Array.size_append, List.size_toArray, size_zeroCells, hzs, hnl, hcl, ← Nat.add_mul]
          congr 1
          omega
        · exact All2.append (h7.mono fun _ _ => Rep.mono (hro _)) (hx1.mono fun _ _ => Rep.mono (hro _))
        · simp only [List.length_append, List.flatten_append, Array.toList_append, List.append_assoc]
          rw [Nat.add_mul, ← hnl, ← hcl, ← List.length_append, ← List.append_assoc]
          exact List.take_left
end
end Dp
end Go.Proofs.Ytkgfdplcjdidhaa
namespace Go.Proofs.Ytkgfdplcjdidhaa
open Go Go.RowKit

namespace Dp

section
variable {α β : Type} [Rep α] [Rep β]
variable {P : Program} {n : Nat} {Q : Exit → Act → World → Prop} {L : List (Nat × Value)} {w : World} {ops : Array Oper} {rest : List Oper} {d : Option Tmp} {ty : TypeId} {pos : String} {af : Array Edge} {g : Option (Nat × Bool)} {t T e : TypeId} {o : Cls} {K : List Nat} {k : Nat}

theorem OW.append [Rd] {s x : Operand} {v vx : Value} {xs ys zs : List α} (hu : P.underlying t = some (.slice e)) (hT : TyOk P e α) (hs : ev L s = some v) (hx : ev L x = some vx) (ho : Ow e o k K w v xs) (hr : Els (In o K) w vx ys) (hz : app xs ys = some zs) (hd : disj K [k] = true) :
    OW P Q L ⟨d, .call { callee := .builtin .append, args := #[s, x], argTypes := #[t, t] }, ty, pos, af, g⟩ w (fun v' w' => ∃ o', Evo [k] [k] o w o' w' ∧ Ow e o' k K w' v' zs) := by
  obtain ⟨v', w', o', h1, h2, h3⟩ := run_append (P := P) (ty := ty) hu hT ho hr hz hd
  refine OW.run fun a ha => ⟨v', w', ?_, o', h2, h3⟩
  simp [execOp, resolve, invoke, builtin, ha _ _ hs, ha _ _ hx, h1]

/-! one element of an own slice written, whole or in part -/
theorem flatten_set {z : Nat} : ∀ {css : List (List Value)}, (∀ c ∈ css, c.length = z) → ∀ {i : Nat}, i < css.length → ∀ {c : List Value}, c.length = z → (css.set i c).flatten = css.flatten.take (i * z) ++ c ++ css.flatten.drop (i * z + z)
  | [], _, i, hi, _, _ => by simp at hi
  | b :: css, hz, 0, _, c, hc => by
    have hb : b.length = z := hz b (by simp)
    simp [hc, ← hb]
  | b :: css, hz, i + 1, hi, c, hc => by
    have hb : b.length = z := hz b (by simp)
    have ih := flatten_set (css := css) (fun c hc => hz c (by simp [hc])) (i := i) (by simpa using hi) hc
    have e1 : (i + 1) * z = b.length + i * z := by rw [hb, Nat.succ_mul]; omega
    simp only [List.set_cons_succ, List.flatten_cons, ih, e1]
    rw [List.take_length_add_append, Nat.add_assoc, List.drop_length_add_append]
    simp
theorem flatten_get {z : Nat} : ∀ {css : List (List Value)}, (∀ c ∈ css, c.length = z) → ∀ {i : Nat} {c : List Value}, css[i]? = some c → (css.flatten.drop (i * z)).take z = c
  | [], _, i, c, hi => by simp at hi
  | b :: css, hz, 0, c, hi => by
    have : b = c := by simpa using hi
    subst this
    have hb : b.length = z := hz b (by simp)
    simp [← hb]
  | b :: css, hz, i + 1, c, hi => by
    have hb : b.length = z := hz b (by simp)
    have ih := flatten_get (css := css) (fun c hc => hz c (by simp [hc])) (i := i) (c := c) (by simpa using hi)
    have e1 : (i + 1) * z = b.length + i * z := by rw [hb, Nat.succ_mul]; omega
    rw [List.flatten_cons, e1, List.drop_length_add_append]
    exact ih

theorem splice_take {A c : List Value} {m N : Nat} (h : m + c.length ≤ N) (hN : N ≤ A.length) : (A.take m ++ c ++ A.drop (m + c.length)).take N = (A.take N).take m ++ c ++ (A.take N).drop (m + c.length) := by
  apply List.ext_getElem?
  intro j
  rw [List.getElem?_take]
  have hml : min m A.length = m := by omega
  have hmN : min m (min N A.length) = m := by omega
  by_cases hj : j < N
  · rw [if_pos hj]
    by_cases h1 : j < m
    · rw [List.getElem?_append_left (by simp; omega), List.getElem?_append_left (by simp; omega), List.getElem?_append_left (by simp; omega), List.getElem?_append_left (by simp; omega), List.getElem?_take, List.getElem?_take, List.getElem?_take, if_pos h1, if_pos h1, if_pos hj]
    · by_cases h2 : j < m + c.length
      · rw [List.getElem?_append_left (by simp; omega), List.getElem?_append_right (by simp; omega), List.getElem?_append_left (by simp; omega), List.getElem?_append_right (by simp; omega)]
        simp [hml, hmN]
      · rw [List.getElem?_append_right (by simp; omega), List.getElem?_append_right (by simp; omega)]
        simp only [List.length_append, List.length_take, hml, hmN, List.getElem?_drop]
        rw [List.getElem?_take, if_pos (by omega)]
  · rw [if_neg hj]
    symm
    apply List.getElem?_eq_none
    simp
    omega

/-- an own slice, its element j given new cells in part -/
theorem Ow.put {v : Value} {xs : List α} {pa : Addr} {j : Int} {off : Nat} {c' : List Value} {y y' : α} (hE : EPtr v (Rep.sz α) j pa) (ho : Ow T o k K w v xs) (hy : idx xs j = some y) (h1 : ∀ u ∈ c', u.oneCell' = true) (hoff : off + c'.length ≤ Rep.sz α)
    (hput : ∀ cs, Rep.rd (In o K) w cs y → Rep.rd (In o K) w (cs.take off ++ c' ++ cs.drop (off + c'.length)) y') (hd : disj K [k] = true) :
    ∃ w', (storeCells (pa.add off) c').run P w = .ok () w' ∧ Evo [k] [] o w o w' ∧ Ow T o k K w' v (xs.set j.toNat y') := by
  unfold idx at hy
  split at hy
  case isFalse => cases hy
  rename_i h0
  have hlt : j.toNat < xs.length := (List.getElem?_eq_some_iff.1 hy).1
  rcases ho with ⟨rfl, rfl⟩ | ⟨gg, cap, cur, css, rfl, h2, h3, h4, h5, h6, h7, h8⟩
  · simp at hlt
  · obtain ⟨a, m, cap', hv, rfl⟩ := hE
    have ha : a = ⟨gg, 0, none⟩ := by
      have := congrArg (fun v => match v with | Value.slice (some a) _ _ => a | _ => (⟨0, 0, none⟩ : Addr)) hv
      simpa using this.symm
    subst ha
    obtain ⟨c, hc1, hc2⟩ := h7.get hy
    have hsz := h7.sizes
    have hcl : c.length = Rep.sz α := Rep.len hc2
    have hadd : ((⟨gg, 0, none⟩ : Addr).add (j.toNat * Rep.sz α)).add off = ⟨gg, j.toNat * Rep.sz α + off, none⟩ := by
      rw [addr_add]
      unfold Addr.add
      split <;> simp_all
    have hmul : (j.toNat + 1) * Rep.sz α ≤ xs.length * Rep.sz α := Nat.mul_le_mul_right _ hlt
    have hmul2 : xs.length * Rep.sz α ≤ cap * Rep.sz α := Nat.mul_le_mul_right _ h4
    rw [Nat.succ_mul] at hmul
    have hst := run_storeCells_at P gg (j.toNat * Rep.sz α + off) T c' 0 cur w h3 (by omega) h1
    rw [← hadd] at hst
    simp only [Nat.add_zero] at hst
    have hev : Evo [k] [] o w o (w.setRow gg (cur.toList.take (j.toNat * Rep.sz α + off) ++ c' ++ cur.toList.drop (j.toNat * Rep.sz α + off + c'.length)).toArray) := Evo.row _ h2
    refine ⟨_, hst, hev, .inr ⟨gg, cap, _, css.set j.toNat (c.take off ++ c' ++ c.drop (off + c'.length)), by simp, h2, setRow_heap w gg cur _ T _ h3, by simpa using h4, h5, ?_, ?_, ?_⟩⟩
    · simp
      omega
    · exact (All2.set h7 j.toNat (hput _ hc2)).mono fun _ _ => Rep.mono (hev.ro hd)
    · have hjc : j.toNat < css.length := by rw [h7.length]; exact hlt
      rw [flatten_set hsz hjc (by simp; omega), List.length_set]
      simp only
      rw [splice_take (by omega) (by simp; omega), h8]
      have hfl := flatLen h7
      have hce : c = (css.flatten.drop (j.toNat * Rep.sz α)).take (Rep.sz α) := (flatten_get hsz hc1).symm
      rw [hce]
      generalize css.flatten = A at *
      generalize hq : j.toNat * Rep.sz α = q at *
      generalize Rep.sz α = z at *
      rw [List.take_take, Nat.min_eq_left (by omega), List.drop_take, List.drop_drop]
      rw [show q + off = q + off from rfl, List.take_add, List.append_assoc, List.append_assoc, List.append_assoc, List.append_assoc, List.append_assoc]
      congr 3
      rw [show q + (off + c'.length) = q + off + c'.length from by omega, show A.drop (q + z) = (A.drop (q + off + c'.length)).drop (z - (off + c'.length)) from by rw [List.drop_drop]; congr 1; omega]
      rw [List.take_append_drop]

/-! literals -/
def partVals (L : List (Nat × Value)) : Nat → List (Nat × Operand) → Option (List Value)
  | _, [] => some []
  | k, (i, x) :: r => match Nat.beq i k, ev L x, partVals L (k + 1) r with
    | true, some v, some vs => some (v :: vs)
    | _, _, _ => none
def AllV (S : Nat → Prop) (w : World) : List Value → List α → Prop
  | [], [] => True
  | v :: vs, x :: xs => Rv S w v x ∧ AllV S w vs xs
  | _, _ => False
theorem AllV.css {S : Nat → Prop} : ∀ {vs : List Value} {xs : List α}, AllV S w vs xs → ∃ css, vs = css.map (pack (Rep.agg α)) ∧ All2 (Rep.rd S w) css xs
  | [], [], _ => ⟨[], rfl, trivial⟩
  | _ :: _, _ :: _, h => by
    obtain ⟨⟨c, rfl, h1⟩, h2⟩ := h
    obtain ⟨css, rfl, h3⟩ := AllV.css h2
    exact ⟨c :: css, rfl, h1, h3⟩
  | [], _ :: _, h => h.elim
  | _ :: _, [], h => h.elim
/-- numbered from k on -/
def number : Nat → List Value → List (Nat × Value)
  | _, [] => []
  | k, v :: r => (k, v) :: number (k + 1) r
theorem partVals_number [Rd] {a : Act} (ha : Reads L a) : ∀ {l : List (Nat × Operand)} {k : Nat} {vs : List Value}, partVals L k l = some vs → l.map (fun p => (p.1, a.eval p.2)) = number k vs
  | [], k, vs, h => by simp [partVals] at h; subst h; rfl
  | (i, x) :: r, k, vs, h => by
    unfold partVals at h
    split at h
    · rename_i v us h1 h2 h3
      cases h
      have hi : i = k := Nat.eq_of_beq_eq_true h1
      simp [number, partVals_number ha h3, ha _ _ h2, hi]
    · cases h

theorem put_fold (c : List Value) : ∀ (off s : Nat) (A : Array Value), off + s + c.length ≤ A.size → (c.zipIdx s).foldl (fun cs (x : Value × Nat) => cs.setIfInBounds (off + x.2) x.1) A = (A.toList.take (off + s) ++ c ++ A.toList.drop (off + s + c.length)).toArray := by
  induction c with
  | nil => intro off s A _; simp
  | cons x c ih =>
    intro off s A h
    have hs : off + s < A.size := by simp at h; omega
    rw [List.zipIdx_cons, List.foldl_cons, ih off (s + 1) _ (by simp at h ⊢; omega)]
    apply congrArg
    simp only [Array.toList_setIfInBounds]
    apply List.ext_getElem?
    intro j
    have hlen : (A.toList.set (off + s) x).length = A.toList.length := by simp
    by_cases h1 : j < off + s
    · rw [List.append_assoc, List.getElem?_append_left (by simp; omega), List.getElem?_take, if_pos (by omega), List.getElem?_set, if_neg (by omega), List.append_assoc, List.getElem?_append_left (by simp; omega), List.getElem?_take, if_pos h1]
    · by_cases h2 : j = off + s
      · subst h2
        rw [List.append_assoc, List.getElem?_append_left (by simp; omega), List.getElem?_take, if_pos (by omega), List.getElem?_set, if_pos rfl, if_pos (by simpa using hs), List.append_assoc, List.getElem?_append_right (by simp; omega)]
        have : off + s - (A.toList.take (off + s)).length = 0 := by simp; omega
        rw [this]
        simp
      · by_cases h3 : j < off + s + (c.length + 1)
        · rw [List.append_assoc, List.getElem?_append_right (by simp; omega), List.getElem?_append_left (by simp; omega), List.append_assoc, List.getElem?_append_right (by simp; omega), List.getElem?_append_left (by simp; omega)]
          have e1 : j - ((A.toList.set (off + s) x).take (off + (s + 1))).length = j - (off + s + 1) := by simp; omega
          have e2 : j - (A.toList.take (off + s)).length = (j - (off + s + 1)) + 1 := by simp; omega
          rw [e1, e2]
          simp
        · simp only [List.length_cons] at h h3 ⊢
          rw [List.append_assoc, List.getElem?_append_right (by simp; omega), List.getElem?_append_right (by simp; omega), List.append_assoc, List.getElem?_append_right (by simp; omega), List.getElem?_append_right (by simp; omega)]
          simp only [List.length_take, List.getElem?_drop, List.length_cons, hlen]
          rw [List.getElem?_set, if_neg (by simp; omega)]
          congr 1
          simp
          omega

theorem fill_number {S : Nat → Prop} {xs : List α} : ∀ {css : List (List Value)} {xs : List α}, All2 (Rep.rd S w) css xs → ∀ (k : Nat) (A : Array Value), (k + css.length) * Rep.sz α ≤ A.size →
    Instr.fill (fun i => some (i * Rep.sz α, Rep.sz α)) A (number k (css.map (pack (Rep.agg α)))) = some (A.toList.take (k * Rep.sz α) ++ css.flatten ++ A.toList.drop ((k + css.length) * Rep.sz α)).toArray
  | [], [], _, k, A, h => by simp [number, Instr.fill]
  | c :: css, x :: xs, hh, k, A, h => by
    have hpk := pack_cells hh.1
    have hcl := Rep.len hh.1
    have hpk' : (pack (Rep.agg α) c).cells = c.toArray := Array.toList_inj.1 (by simpa using hpk)
    have hm : (k + 1 + css.length) * Rep.sz α ≤ A.size := by rw [List.length_cons] at h; rw [show k + 1 + css.length = k + (css.length + 1) from by omega]; exact h
    have hm1 : (k + 1) * Rep.sz α ≤ (k + 1 + css.length) * Rep.sz α := Nat.mul_le_mul_right _ (by omega)
    have e1 : (k + 1) * Rep.sz α = k * Rep.sz α + Rep.sz α := Nat.succ_mul _ _
    have hfold := put_fold c (k * Rep.sz α) 0 A (by omega)
    simp only [Nat.add_zero] at hfold
    have ih := fill_number (xs := xs) hh.2 (k + 1) ((A.toList.take (k * Rep.sz α) ++ c ++ A.toList.drop (k * Rep.sz α + c.length)).toArray) (by simp; omega)
    simp only [List.map_cons, number, Instr.fill, hpk', List.size_toArray, hcl, ne_eq, not_true_eq_false, false_or, decide_false, Bool.false_or]
    rw [if_neg (by simp; omega)]
    have ez : c.toArray.zipIdx.toList = c.zipIdx := by simp
    rw [← Array.foldl_toList, ez, hfold]
    rw [ih]
    apply congrArg
    apply congrArg
    simp only
    rw [List.take_append_of_le_length (by simp; omega), List.take_of_length_le (by simp; omega), List.drop_append, List.drop_eq_nil_of_le (by simp; omega), List.nil_append, List.drop_drop]
    simp only [List.flatten_cons, List.append_assoc, List.length_cons]
    congr 4
    simp
    have : (k + (css.length + 1)) * Rep.sz α = (k + 1 + css.length) * Rep.sz α := by rw [show k + (css.length + 1) = k + 1 + css.length from by omega]
    omega
  | [], _ :: _, h, _, _, _ => h.elim
  | _ :: _, [], h, _, _, _ => h.elim
end
end Dp
end Go.Proofs.Ytkgfdplcjdidhaa
