/- The rules: literals, slice expressions, calls, equality, results in a cell. Nothing here names a program. Boxes whose cells are written out, and what a struct's value is made of. Nothing here names a program. -/
import Derived.Test.YthgnnjdjdmdfoaaDt
import Derived.Great.BuildSlice
set_option linter.unusedVariables false
set_option linter.unusedSimpArgs false
namespace Go.Proofs.Ythgnnjdjdmdfoaa
open Go Go.RowKit

namespace Dp

section
variable {α β : Type} [Rep α] [Rep β]
variable {P : Program} {n : Nat} {Q : Exit → Act → World → Prop} {L : List (Nat × Value)} {w : World} {ops : Array Oper} {rest : List Oper} {d : Option Tmp} {ty : TypeId} {pos : String} {af : Array Edge} {g : Option (Nat × Bool)} {t T e : TypeId} {o : Cls} {K : List Nat} {k : Nat}

theorem OW.buildSlice {m : Nat} {parts : List (Nat × Operand)} {vs : List Value} {xs : List α} (hu : P.underlying t = some (.slice e)) (hT : TyOk P e α) (hp : partVals L 0 parts = some vs) (h : AllV (In o K) w vs xs) (hm : xs.length = m) (hs : Nat.ble (m * Rep.sz α) 65536 = true) :
    OW P Q L ⟨d, .buildSlice t m parts.toArray, ty, pos, af, g⟩ w (fun v' w' => ∃ o', Evo [] [k] o w o' w' ∧ Ow e o' k K w' v' xs) := by
  obtain ⟨css, rfl, h2⟩ := h.css
  obtain ⟨i, hi1, hi2, hi3, hi4⟩ := hT.info
  have hcl := h2.length
  have hfl := flatLen h2
  have hs' : m * Rep.sz α ≤ 65536 := Nat.le_of_ble_eq_true hs
  have hpos := Rep.pos (α := α)
  have hmle : m ≤ m * Rep.sz α := Nat.le_mul_of_pos_right m hpos
  have hro : ∀ ob : Obj, ∀ b, In o K b → b < w.heap.size → In (grow o w k) K b ∧ (w.alloc ob).heap[b]? = w.heap[b]? := fun ob => Evo.ro (Evo.alloc o w ob k) (by simp [disj])
  refine OW.run fun a ha => ⟨.slice (some ⟨w.heap.size, 0, none⟩) m m, w.alloc (.cells css.flatten.toArray e), ?_, grow o w k, Evo.alloc o w _ k, .inr ⟨w.heap.size, m, _, css, by rw [hm], grow_new o w k _ (Nat.le_refl _), heap_alloc_new w _, by omega, by unfold maxLen; omega, by simp [hfl, hm], h2.mono fun _ _ => Rep.mono (hro _), ?_⟩⟩
  · have hparts : (parts.toArray.map fun (x : Nat × Operand) => (x.1, a.eval x.2)).toList = number 0 (css.map (pack (Rep.agg α))) := by
      rw [← partVals_number ha hp]; simp
    by_cases h0 : m = 0
    · have hx : css = [] := List.eq_nil_of_length_eq_zero (by omega)
      subst hx
      simp [number] at hparts
      simp [execOp, Instr.buildSlice, run_underlying hu, sizeOf, typeInfo, hi1, h0, newRow, newObj, Instr.fill, hparts]
      have e0 : Array.range 0 = #[] := by simp [Array.range]
      rw [e0, Array.map_empty]
      rfl
    · have hne : ¬ m * i.size = 0 := by rw [hi2]; intro hh; rcases Nat.mul_eq_zero.1 hh with h | h <;> omega
      have hf := fill_number (xs := xs) h2 0 ((Array.range (m * i.size)).map ((pack (Rep.agg α) (Rep.zc α)).cells[· % (pack (Rep.agg α) (Rep.zc α)).cells.size]!)) (by simp [hi2, hcl, hm])
      have hd0 : ((Array.range (m * i.size)).map ((pack (Rep.agg α) (Rep.zc α)).cells[· % (pack (Rep.agg α) (Rep.zc α)).cells.size]!)).toList.drop ((0 + css.length) * Rep.sz α) = [] := List.drop_eq_nil_of_le (by simp [hi2, hcl, hm])
      rw [hd0, ← hi2] at hf
      simp only [Nat.zero_mul, List.take_zero, List.nil_append, List.append_nil] at hf
      rw [← hparts] at hf
      have hsm : ¬ m * i.size > 2 ^ 24 := by rw [hi2]; omega
      have hb := run_buildSlice (P := P) w t e m _ _ i _ hu hi1 hi4 hsm hne hf
      simp only [execOp, Sem.run_bind]
      rw [hb]
      rfl
  · show (css.flatten.toArray.toList).take (xs.length * Rep.sz α) = css.flatten
    rw [← hfl]
    exact List.take_length

/-! struct literals -/
structure StOk (P : Program) (T : TypeId) (pl : List (Nat × Nat)) : Prop where
  fs : ∃ fs, P.underlying T = some (.struct fs) ∧ fs.toList.mapM (fun f => (P.info? f.type).map fun i => (f.offset, i.size)) = some pl

/-- the fields of a literal, one by one, put into what has been built so far -/
inductive Fills (S : Nat → Prop) (w : World) (pl : List (Nat × Nat)) : α → List (Nat × Value) → α → Prop
  | nil {x : α} : Fills S w pl x [] x
  | cons {β : Type} [Rep β] {x z : α} {y : β} {i off : Nat} {v : Value} {r : List (Nat × Value)} {st : α → β → α} : pl[i]? = some (off, Rep.sz β) → Nat.ble (off + Rep.sz β) (Rep.sz α) = true → FldSet off st → Rv S w v y → Fills S w pl (st x y) r z → Fills S w pl x ((i, v) :: r) z

theorem Fills.run {S : Nat → Prop} {pl : List (Nat × Nat)} {x z : α} {r : List (Nat × Value)} (h : Fills S w pl x r z) : ∀ cs, Rep.rd S w cs x → ∃ cs', Instr.fill (pl.toArray[·]?) cs.toArray r = some cs'.toArray ∧ Rep.rd S w cs' z := by
  induction h with
  | nil => intro cs hcs; exact ⟨cs, rfl, hcs⟩
  | @cons β _ x z y i off v r st hpl hle hst hv _ ih =>
    intro cs hcs
    obtain ⟨c', rfl, hc'⟩ := hv
    have hpk := pack_cells hc'
    have hpk' : (pack (Rep.agg β) c').cells = c'.toArray := Array.toList_inj.1 (by simpa using hpk)
    have hcl := Rep.len hc'
    have hl := Rep.len hcs
    have hle' : off + Rep.sz β ≤ Rep.sz α := Nat.le_of_ble_eq_true hle
    obtain ⟨cs', h1, h2⟩ := ih _ (hst hcs hc')
    refine ⟨cs', ?_, h2⟩
    have hf := put_fold c' off 0 cs.toArray (by simp; omega)
    simp only [Nat.add_zero] at hf
    have hpl' : pl.toArray[i]? = some (off, Rep.sz β) := by simpa using hpl
    have ez : c'.toArray.zipIdx.toList = c'.zipIdx := by simp
    simp only [Instr.fill, hpl', hpk', List.size_toArray, hcl, ne_eq, not_true_eq_false, false_or, decide_false, Bool.false_or]
    rw [if_neg (by simp; omega)]
    rw [← Array.foldl_toList, ez, hf]
    exact h1

def evsN (L : List (Nat × Value)) : List (Nat × Operand) → Option (List (Nat × Value))
  | [] => some []
  | (i, x) :: r => match ev L x, evsN L r with
    | some v, some vs => some ((i, v) :: vs)
    | _, _ => none
theorem evsN_map {a : Act} (ha : Reads L a) : ∀ {l : List (Nat × Operand)} {vs : List (Nat × Value)}, evsN L l = some vs → l.map (fun p => (p.1, a.eval p.2)) = vs
  | [], vs, h => by simp [evsN] at h; subst h; rfl
  | (i, x) :: r, vs, h => by
    unfold evsN at h
    split at h
    · rename_i v us h2 h3
      cases h
      simp [evsN_map ha h3, ha _ _ h2]
    · cases h

theorem OW.build {S : Nat → Prop} {parts : List (Nat × Operand)} {vs : List (Nat × Value)} {z : α} {pl : List (Nat × Nat)} (hst : StOk P t pl) (hT : TyOk P t α) (hg : Rep.agg α = true) (hp : evsN L parts = some vs) (h : Fills S w pl Rep.zero vs z) :
    OW P Q L ⟨d, .build t parts.toArray, ty, pos, af, g⟩ w (fun v' w' => w' = w ∧ Rv S w v' z) := by
  obtain ⟨fs, h1, h2⟩ := hst.fs
  obtain ⟨i, hi1, hi2, hi3, hi4⟩ := hT.info
  obtain ⟨cs', h3, h4⟩ := h.run (Rep.zc α) (Rep.zok _ _)
  refine OW.run fun a ha => ⟨.agg cs'.toArray, w, ?_, rfl, cs', by simp [pack, hg], h4⟩
  have hparts : (parts.toArray.map fun (x : Nat × Operand) => (x.1, a.eval x.2)).toList = vs := by
    rw [← evsN_map ha hp]; simp
  have hpk := pack_cells (α := α) (Rep.zok (fun _ => True) w)
  have hpk' : (pack (Rep.agg α) (Rep.zc α)).cells = (Rep.zc α).toArray := Array.toList_inj.1 (by simpa using hpk)
  have hb : P.built t (parts.toArray.map fun (x : Nat × Operand) => (x.1, a.eval x.2)).toList = some cs'.toArray := by
    simp only [Program.built, hi1, h1, hi4, h2, hpk', hparts, h3]
  have hr := run_build (P := P) w t _ _ hb
  simp only [execOp, Sem.run_bind]
  rw [hr]
  rfl

/-- an array literal, every place written -/
theorem OW.buildArr {m : Nat} {S : Nat → Prop} {parts : List (Nat × Operand)} {vs : List Value} {xs : List α} (hu : P.underlying t = some (.array m e)) (hT : TyOk P e α) (hz : ∃ i z, P.info? t = some i ∧ i.zero = some z ∧ z.cells.size = m * Rep.sz α) (hp : partVals L 0 parts = some vs) (h : AllV S w vs xs) (hm : xs.length = m) :
    OW P Q L ⟨d, .build t parts.toArray, ty, pos, af, g⟩ w (fun v' w' => w' = w ∧ ∃ css, v' = .agg css.flatten.toArray ∧ All2 (Rep.rd S w) css xs) := by
  obtain ⟨css, rfl, h2⟩ := h.css
  obtain ⟨i, hi1, hi2, hi3, hi4⟩ := hT.info
  obtain ⟨j, z, hj1, hj2, hj3⟩ := hz
  have hcl := h2.length
  refine OW.run fun a ha => ⟨.agg css.flatten.toArray, w, ?_, rfl, css, rfl, h2⟩
  have hparts : (parts.toArray.map fun (x : Nat × Operand) => (x.1, a.eval x.2)).toList = number 0 (css.map (pack (Rep.agg α))) := by
    rw [← partVals_number ha hp]; simp
  have hf := fill_number (xs := xs) h2 0 z.cells (by rw [hj3, hcl, hm]; simp)
  have hd0 : z.cells.toList.drop ((0 + css.length) * Rep.sz α) = [] := List.drop_eq_nil_of_le (by simp [hj3, hcl, hm])
  rw [hd0, ← hi2] at hf
  simp only [Nat.zero_mul, List.take_zero, List.nil_append, List.append_nil] at hf
  have hb : P.built t (parts.toArray.map fun (x : Nat × Operand) => (x.1, a.eval x.2)).toList = some css.flatten.toArray := by
    simp only [Program.built, hj1, hu, hj2, hi1, hparts, hf]
  have hr := run_build (P := P) w t _ _ hb
  simp only [execOp, Sem.run_bind]
  rw [hr]
  rfl

/-! slice expressions -/
theorem flatten_drop {z : Nat} : ∀ {css : List (List Value)}, (∀ c ∈ css, c.length = z) → ∀ i, (css.drop i).flatten = css.flatten.drop (i * z)
  | css, _, 0 => by simp
  | [], _, i + 1 => by simp
  | b :: css, hz, i + 1 => by
    have hb : b.length = z := hz b (by simp)
    have e1 : (i + 1) * z = b.length + i * z := by rw [hb, Nat.succ_mul]; omega
    rw [List.drop_succ_cons, flatten_drop (css := css) (fun c hc => hz c (by simp [hc])) i, List.flatten_cons, e1, List.drop_length_add_append]
theorem flatten_take {z : Nat} : ∀ {css : List (List Value)}, (∀ c ∈ css, c.length = z) → ∀ i, (css.take i).flatten = css.flatten.take (i * z)
  | css, _, 0 => by simp
  | [], _, i + 1 => by simp
  | b :: css, hz, i + 1 => by
    have hb : b.length = z := hz b (by simp)
    have e1 : (i + 1) * z = b.length + i * z := by rw [hb, Nat.succ_mul]; omega
    rw [List.take_succ_cons, List.flatten_cons, flatten_take (css := css) (fun c hc => hz c (by simp [hc])) i, List.flatten_cons, e1, List.take_length_add_append]

def OpIs (L : List (Nat × Value)) (x : Option Operand) (dflt : Int) (l : Int) : Prop := (x = none ∧ l = dflt) ∨ ∃ y, x = some y ∧ ev L y = some (.int .i64 l)

theorem OW.slice {S : Nat → Prop} {u : Operand} {lo hi : Option Operand} {l h : Int} {v : Value} {xs zs : List α} (hu : P.underlying t = some (.slice e)) (hT : TyOk P e α) (hx : ev L u = some v) (hr : Rv S w v xs) (hlo : OpIs L lo 0 l) (hhi : OpIs L hi (Dp.len xs) h) (hz : slc xs l h = some zs) :
    OW P Q L ⟨d, .slice t u lo hi none, ty, pos, af, g⟩ w (fun v' w' => w' = w ∧ Rv S w v' zs) := by
  obtain ⟨p, cap, rfl, h1, h2, h3⟩ := rv_list hr
  unfold slc at hz
  split at hz
  case isFalse => cases hz
  rename_i hb
  cases hz
  obtain ⟨b1, b2, b3⟩ := hb
  have hlen : ((xs.take h.toNat).drop l.toNat).length = h.toNat - l.toNat := by simp; omega
  refine OW.run fun a ha => ⟨.slice (if cap = l.toNat then p else p.map (·.add (l.toNat * Rep.sz α))) (h.toNat - l.toNat) (cap - l.toNat), w, ?_, rfl, _, rfl, _, cap - l.toNat, by rw [hlen], by rw [hlen]; omega, by unfold maxLen at *; omega, ?_⟩
  · have hlc : h ≤ (cap : Int) := by omega
    have hhn : (h.toNat : Int) = h := by omega
    have hln : (l.toNat : Int) = l := by omega
    rcases hlo with ⟨rfl, rfl⟩ | ⟨yl, rfl, hl⟩ <;> rcases hhi with ⟨rfl, rfl⟩ | ⟨yh, rfl, hh⟩
    · simp [execOp, ha _ _ hx, Instr.sliceAt, run_underlying hu, Instr.slice, Instr.sliceBounds, hT.sizeOf, Dp.len]
    · have b0 : 0 ≤ h := by omega
      simp [execOp, ha _ _ hx, ha _ _ hh, Instr.sliceAt, run_underlying hu, Instr.slice, Instr.sliceBounds, Instr.sliceBound, asIntOf, hT.sizeOf, b0, hlc]
    · have b0 : l ≤ (xs.length : Int) := by unfold Dp.len at b2; omega
      simp [execOp, ha _ _ hx, ha _ _ hl, Instr.sliceAt, run_underlying hu, Instr.slice, Instr.sliceBounds, Instr.sliceBound, asIntOf, hT.sizeOf, b1, b0, Dp.len]
    · have b0 : 0 ≤ h := by omega
      simp [execOp, ha _ _ hx, ha _ _ hl, ha _ _ hh, Instr.sliceAt, run_underlying hu, Instr.slice, Instr.sliceBounds, Instr.sliceBound, asIntOf, hT.sizeOf, b1, b0, hlc, hhn, b2]
  · by_cases he : (xs.take h.toNat).drop l.toNat = []
    · exact .inl he
    · have hlt : l.toNat < h.toNat := by
        rcases Nat.lt_or_ge l.toNat h.toNat with hh | hh
        · exact hh
        · exact (he (List.eq_nil_of_length_eq_zero (by omega))).elim
      rcases h3 with rfl | ⟨a, css, rfl, h4, h5, h6⟩
      · simp at he
      · right
        have hsz := h5.sizes
        refine ⟨a.add (l.toNat * Rep.sz α), (css.take h.toNat).drop l.toNat, ?_, by rw [add_block]; exact h4, (h5.take _).drop _, ?_⟩
        · rw [if_neg (by omega)]; rfl
        · intro j u hj
          rw [addr_add]
          refine h6 _ _ ?_
          rw [flatten_drop (fun c hc => hsz c (List.mem_of_mem_take hc)), flatten_take hsz, List.getElem?_drop, List.getElem?_take] at hj
          split at hj
          · exact hj
          · cases hj

/-! calls -/
theorem OW.call {f : FuncId} {args : List Operand} {vs : List Value} {ats : Array TypeId} {R : Value → World → Prop} (hf : ∀ (args : Array Value) (w : World), (callFunc f args).run P w = .ok (.enter f args) w) (ha : evs L args = some vs) (hC : Calls P f vs.toArray w (Ret R)) :
    OW P Q L ⟨d, .call { callee := .value (.func f), args := args.toArray, argTypes := ats }, ty, pos, af, g⟩ w R := by
  refine OW.runCall fun a hr => ⟨f, vs.toArray, ?_, hC⟩
  have h2 : args.toArray.map a.eval = vs.toArray := by rw [← evs_map hr _ ha]; simp
  simp [execOp, resolve, invoke, Deferred.ofValue, Act.eval, hf] at h2 ⊢
  rw [h2]
theorem OW.callV {f : FuncId} {u : Operand} {args : List Operand} {caps : Array Value} {vs : List Value} {ats : Array TypeId} {R : Value → World → Prop} (hf : ∀ (args : Array Value) (w : World), (callFunc f args).run P w = .ok (.enter f args) w) (hu : ev L u = some (.func (.func f) #[] caps)) (ha : evs L args = some vs) (hC : Calls P f (vs.toArray ++ caps) w (Ret R)) :
    OW P Q L ⟨d, .call { callee := .value u, args := args.toArray, argTypes := ats }, ty, pos, af, g⟩ w R := by
  refine OW.runCall fun a hr => ⟨f, vs.toArray ++ caps, ?_, hC⟩
  have h2 : args.toArray.map a.eval = vs.toArray := by rw [← evs_map hr _ ha]; simp
  simp [execOp, resolve, invoke, Deferred.ofValue, hr _ _ hu, hf] at h2 ⊢
  rw [h2]

theorem OW.conv {src dst : TypeId} {x : Operand} {j : IntKind} {q : Int} (h1 : ∃ k', P.underlying src = some (.int k')) (h2 : P.underlying dst = some (.int .i64)) (hx : ev L x = some (.int j q)) :
    OW P Q L ⟨d, .convert src dst x, ty, pos, af, g⟩ w (fun v' w' => v' = .int .i64 (W q) ∧ w' = w) := by
  obtain ⟨k', h1⟩ := h1
  refine OW.run fun a ha => ⟨_, w, ?_, rfl, rfl⟩
  simp [execOp, ha _ _ hx, convert, run_underlying h1, run_underlying h2, Conv.intToInt, W]

/-! equality -/
structure EqOk (P : Program) (t : TypeId) (α : Type) [Rep α] [DecidableEq α] : Prop where
  run : ∀ {S S' : Nat → Prop} {w : World} {v1 v2 : Value} {x y : α} (a b : Operand), Rv S w v1 x → Rv S' w v2 y →
    ((eqGuard .eql t a b v1 v2).run P w = .ok () w ∧ (binOp .eql t v1 v2).run P w = .ok (.bool (decide (x = y))) w) ∧ ((eqGuard .neq t a b v1 v2).run P w = .ok () w ∧ (binOp .neq t v1 v2).run P w = .ok (.bool (!decide (x = y))) w)
theorem OW.eql [DecidableEq α] {S S' : Nat → Prop} {u v : Operand} {v1 v2 : Value} {x y : α} {t2 : TypeId} (hE : EqOk P t α) (hu : ev L u = some v1) (hv : ev L v = some v2) (h1 : Rv S w v1 x) (h2 : Rv S' w v2 y) :
    OW P Q L ⟨d, .binOp .eql t u v t2, ty, pos, af, g⟩ w (fun v' w' => v' = .bool (decide (x = y)) ∧ w' = w) := by
  refine OW.run fun a ha => ⟨_, w, ?_, rfl, rfl⟩
  have h := (hE.run u v h1 h2).1
  simp [execOp, ha _ _ hu, ha _ _ hv, h.1, h.2]
theorem OW.neq [DecidableEq α] {S S' : Nat → Prop} {u v : Operand} {v1 v2 : Value} {x y : α} {t2 : TypeId} (hE : EqOk P t α) (hu : ev L u = some v1) (hv : ev L v = some v2) (h1 : Rv S w v1 x) (h2 : Rv S' w v2 y) :
    OW P Q L ⟨d, .binOp .neq t u v t2, ty, pos, af, g⟩ w (fun v' w' => v' = .bool (!decide (x = y)) ∧ w' = w) := by
  refine OW.run fun a ha => ⟨_, w, ?_, rfl, rfl⟩
  have h := (hE.run u v h1 h2).2
  simp [execOp, ha _ _ hu, ha _ _ hv, h.1, h.2]
theorem EqOk.bool (h : P.underlying t = some .bool) : EqOk P t Bool := ⟨by
  intro S S' w v1 v2 x y a b h1 h2
  rw [rv_bool] at h1 h2
  subst h1 h2
  have h3 : ∀ d : Nat, (Op.equalIn (d + 1) t (.bool x) (.bool y)).run P w = .ok (x == y) w := fun d => run_equalIn_bool' w d t x y h
  have h4 := h3 9999
  cases x <;> cases y <;> simp [eqGuard, binOp, Op.equal, Op.maxDepth] at h4 ⊢ <;> simp [h4]⟩

/-! results, among them those that lie in a cell -/
def ResIs (P : Program) (L : List (Nat × Value)) (w : World) : ResultVar → Value → Prop
  | .tmp t, v => look L t = some v
  | .cell t T, v => ∃ pa, look L t = some (.pointer (some pa)) ∧ (loadVar T pa).run P w = .ok v w
def ResAll (P : Program) (L : List (Nat × Value)) (w : World) : List ResultVar → List Value → Prop
  | [], [] => True
  | r :: rs, v :: vs => ResIs P L w r v ∧ ResAll P L w rs vs
  | _, _ => False
def resVal : List Value → Value
  | [v] => v
  | vs => .tuple vs.toArray
theorem results_all {fn : Func} {a : Act} (ha : Reads L a) {rs : List ResultVar} {vs : List Value} (hr : fn.results = rs.toArray) (h : ResAll P L w rs vs) : (results fn a.tmps).run P w = .ok (resVal vs) w := by
  obtain ⟨f, hf⟩ : ∃ f : ResultVar → Sem Value, f = (fun r => (match r with
      | .tmp t => pure (a.tmps.getD t undef)
      | .cell a' t => (do loadVar t (← asAddr (a.tmps.getD a' undef))))) := ⟨_, rfl⟩
  have one : ∀ {r : ResultVar} {v : Value}, ResIs P L w r v → (f r).run P w = .ok v w := by
    intro r v h
    rw [hf]
    cases r with
    | tmp t =>
      have h1 := ha (.tmp t) v h
      simp only [Act.eval] at h1
      simp only [Sem.run_pure, h1]
    | cell t T =>
      obtain ⟨pa, h3, h4⟩ := h
      have h1 := ha (.tmp t) _ h3
      simp only [Act.eval] at h1
      simp only [Sem.run_bind, h1, asAddr, Sem.run_pure, Result.andThen_ok, h4]
  have key : ∀ {rs : List ResultVar} {vs : List Value}, ResAll P L w rs vs → (rs.mapM f).run P w = .ok vs w := by
    intro rs
    induction rs with
    | nil => intro vs h; cases vs with
      | nil => simp
      | cons v vs => exact h.elim
    | cons r rs ih =>
      intro vs h
      cases vs with
      | nil => exact h.elim
      | cons v vs => simp only [List.mapM_cons, Sem.run_bind, one h.1, Result.andThen_ok, ih h.2, Sem.run_pure]
  have h1 := key h
  have h2 : results fn a.tmps = (do let vs ← fn.results.mapM f; pure (if h : vs.size = 1 then vs[0] else .tuple vs)) := by rw [hf]; rfl
  rw [h2, hr, Array.mapM_eq_mapM_toList]
  simp only [map_eq_pure_bind, Sem.run_bind, h1, Result.andThen_ok, Sem.run_pure]
  match vs with
  | [] => simp [resVal]
  | [v] => simp [resVal]
  | _ :: _ :: _ => simp [resVal]
theorem CW.rets {fn : Func} {R : Ending → World → Prop} {rs : List ResultVar} {vs : List Value} (hr : fn.results = rs.toArray) (h : ResAll P L w rs vs) (hR : R (.returned (resVal vs)) w) (hQ : ∀ a w, bodyPost P fn R .ret a w → Q .ret a w) : CW P n .ret Q L w :=
  fun a ha => wp_ret (hQ _ _ (bodyPost_ret (results_all (fun _ _ hx => ha.ev hx) hr h) ha.defers hR))
theorem ResIs.cell {S : Nat → Prop} {pa : Addr} {y : α} {t T : Nat} (hT : TyOk P T α) (h1 : look L t = some (.pointer (some pa))) (h2 : PtrAt S w pa y) : ∃ v, ResIs P L w (.cell t T) v ∧ Rv S w v y := by
  obtain ⟨v, h3, h4⟩ := run_loadVar hT h2
  exact ⟨v, ⟨pa, h1, h3⟩, h4⟩
end

def isAggD : TypeDesc → Bool
  | .struct _ | .array _ _ => true
  | _ => false
theorem TyOk.of {P : Program} {t : TypeId} {α : Type} [Rep α] {d : TypeDesc} (h1 : P.underlying t = some d) (h2 : isAggD d = Rep.agg α)
    (h3 : (P.info? t).map (fun i => (i.size, Nat.ble i.bytes 65536, i.zero)) = some (Rep.sz α, true, some (pack (Rep.agg α) (Rep.zc α)))) : TyOk P t α := by
  refine ⟨⟨d, h1, by rw [← h2]; cases d <;> rfl⟩, ?_⟩
  cases hi : P.info? t with
  | none => simp [hi] at h3
  | some i =>
    simp [hi] at h3
    exact ⟨i, rfl, h3.1, h3.2.1, h3.2.2⟩
theorem splice_eq {A B R c' cs : List Value} {off : Nat} (h : cs = A ++ (B ++ R)) (hA : A.length = off) (hB : B.length = c'.length) : cs.take off ++ c' ++ cs.drop (off + c'.length) = A ++ (c' ++ R) := by
  subst h
  rw [← hA, ← hB, List.take_left, List.drop_append, List.drop_eq_nil_of_le (by omega), List.nil_append, Nat.add_sub_cancel_left, List.drop_left, List.append_assoc]

/-! what a call leaves, as its contract says it -/
section
variable {o : Cls} {w w' : World}
/-- the caller's owners behind a call that writes no old block -/
theorem fresh_evo {o : Cls} {w w' : World} (n : Nat) (h : Below w.heap.size w w') : Evo [] [n] o w (grow o w n) w' := Evo.fresh n h
end
end Dp
end Go.Proofs.Ythgnnjdjdmdfoaa
namespace Go.Proofs.Ythgnnjdjdmdfoaa
open Go Go.RowKit

namespace Dp

/-- a box of the call's own, its cells written out -/
structure Bk (o : Cls) (c : Nat) (w : World) (pa : Addr) (cs : List Value) : Prop where
  off : pa.off = 0
  spot : pa.spot = none
  own : o pa.block = c
  cells : ∃ T, w.heap[pa.block]? = some (.cells cs.toArray T (0, 0))

def ones : List Value → Prop
  | [] => True
  | v :: r => v.oneCell' = true ∧ ones r
theorem ones_spec : ∀ {l : List Value}, ones l → ∀ u ∈ l, u.oneCell' = true
  | [], _, u, hu => by cases hu
  | v :: r, h, u, hu => by
    rcases List.mem_cons.1 hu with rfl | hu
    · exact h.1
    · exact ones_spec h.2 u hu

section
variable {α β : Type} [Rep α] [Rep β]
variable {P : Program} {n : Nat} {Q : Exit → Act → World → Prop} {L : List (Nat × Value)} {w w' : World} {ops : Array Oper} {rest : List Oper} {d : Option Tmp} {ty : TypeId} {pos : String} {af : Array Edge} {g : Option (Nat × Bool)} {t T e : TypeId} {o o' : Cls} {K M N : List Nat} {k c : Nat}

theorem Bk.lt {pa : Addr} {cs : List Value} (h : Bk o c w pa cs) : pa.block < w.heap.size := by
  obtain ⟨T, h1⟩ := h.cells
  exact (Array.getElem?_eq_some_iff.1 h1).1
theorem Bk.evo {pa : Addr} {cs : List Value} (r : Bk o c w pa cs) (h : Evo M N o w o' w') (hd : disj [c] M = true) : Bk o' c w' pa cs := by
  have hlt := r.lt
  obtain ⟨T, h1⟩ := r.cells
  have hc : o pa.block ∉ M := disj_spec hd (by rw [r.own]; exact List.mem_cons_self)
  exact ⟨r.off, r.spot, by rw [h.old _ hlt]; exact r.own, T, by rw [h.blk _ hlt hc]; exact h1⟩

theorem Rv.one {α : Type} [Rep α] {S : Nat → Prop} {v : Value} {x : α} (h : Rv S w v x) (hg : Rep.agg α = false) : v.oneCell' = true := by
  obtain ⟨cs, rfl, h1⟩ := h
  have hl := Rep.len h1
  rw [Rep.flat hg] at hl
  match cs, hl with
  | [u], _ =>
    have := Rep.one h1 u (by simp)
    simpa [pack, hg] using this
theorem Ow.one {v : Value} {xs : List α} (h : Ow T o k K w v xs) : v.oneCell' = true := by
  rcases h with ⟨rfl, _⟩ | ⟨g, cap, cur, css, rfl, _⟩ <;> rfl

theorem OW.boxK {v : Value} {u : Operand} (c : Nat) (cs : List Value) (hx : ev L u = some v) (hv : v.cells = cs.toArray) :
    OW P Q L ⟨d, .box t u, ty, pos, af, g⟩ w (fun v' w' => ∃ pa o', v' = .pointer (some pa) ∧ Evo [] [c] o w o' w' ∧ Bk o' c w' pa cs) := by
  refine OW.run fun a ha => ⟨_, w.alloc (.cells cs.toArray t), ?_, ⟨w.heap.size, 0, none⟩, _, rfl, Evo.alloc o w _ c, rfl, rfl, grow_new o w c _ (Nat.le_refl _), t, heap_alloc_new w _⟩
  simp [execOp, ha _ _ hx, Instr.box, newVar, newRow, hv, newObj]
  rfl
theorem OW.allocK (α : Type) [Rep α] (c : Nat) (cs : List Value) (hT : TyOk P t α) (hv : Rep.zc α = cs) :
    OW P Q L ⟨d, .alloc t, ty, pos, af, g⟩ w (fun v' w' => ∃ pa o', v' = .pointer (some pa) ∧ Evo [] [c] o w o' w' ∧ Bk o' c w' pa cs) := by
  have hz : Rep.rd (In o []) w (Rep.zc α) (Rep.zero : α) := Rep.zok _ _
  refine OW.run fun a ha => ⟨_, w.alloc (.cells cs.toArray t), ?_, ⟨w.heap.size, 0, none⟩, _, rfl, Evo.alloc o w _ c, rfl, rfl, grow_new o w c _ (Nat.le_refl _), t, heap_alloc_new w _⟩
  have hpk := pack_cells hz
  have hpk' : (pack (Rep.agg α) (Rep.zc α)).cells = (Rep.zc α).toArray := Array.toList_inj.1 (by simpa using hpk)
  subst hv
  simp [execOp, Instr.alloc, hT.zero, newVar, newRow, hpk', newObj]
  rfl

theorem Bk.at {pa : Addr} {cs : List Value} (h : Bk o c w pa cs) (off sz : Nat) (hle : off + sz ≤ cs.length) : CellsAt w (pa.add off) ((cs.drop off).take sz) := by
  obtain ⟨T, h1⟩ := h.cells
  intro j u hu
  rw [List.getElem?_take] at hu
  split at hu
  case isFalse => cases hu
  rw [List.getElem?_drop] at hu
  have hadd : (pa.add off).add j = ⟨pa.block, off + j, none⟩ := by
    rw [addr_add, addr_eq h.off h.spot]
    unfold Addr.add
    split <;> simp_all
  rw [hadd, cell_of_row w pa.block (off + j) cs.toArray T (0, 0) h1]
  simpa using hu

theorem OW.loadK (β : Type) [Rep β] {pa : Addr} {cs : List Value} {x : Operand} {off : Nat} (v : Value) (hT : TyOk P t β) (hx : ev L x = some (.pointer (some (pa.add off)))) (h : Bk o c w pa cs) (hle : Nat.ble (off + Rep.sz β) cs.length = true) (hv : pack (Rep.agg β) ((cs.drop off).take (Rep.sz β)) = v) :
    OW P Q L ⟨d, .load t x, ty, pos, af, g⟩ w (fun v' w' => v' = v ∧ w' = w) := by
  have hle' : off + Rep.sz β ≤ cs.length := Nat.le_of_ble_eq_true hle
  have hc := h.at off (Rep.sz β) hle'
  have hl : ((cs.drop off).take (Rep.sz β)).length = Rep.sz β := by simp; omega
  refine OW.run fun a ha => ⟨v, w, ?_, rfl, rfl⟩
  have hrun : (loadVar t (pa.add off)).run P w = .ok v w := by
    simp only [loadVar, Sem.run_bind, hT.isAgg, Result.andThen_ok]
    subst hv
    generalize (cs.drop off).take (Rep.sz β) = l at *
    cases hg : Rep.agg β with
    | true =>
      have := run_loadCells_list (P := P) w (pa.add off) l hc
      rw [hl] at this
      simp [hT.sizeOf, this, pack]
    | false =>
      rw [Rep.flat hg] at hl
      match l, hl, hc with
      | [u], _, hc =>
        have := hc 0 u rfl
        have hu : w.cell? (pa.add off) = some u := by simpa [addr_add] using this
        simp [pack, hu]
  simp [execOp, ha _ _ hx, Instr.loadAt, Instr.sureAddr, hrun]
theorem add_zero' (a : Addr) : a.add 0 = a := by simp [Addr.add]
theorem OW.loadK0 (β : Type) [Rep β] {pa : Addr} {cs : List Value} {x : Operand} (v : Value) (hT : TyOk P t β) (hx : ev L x = some (.pointer (some pa))) (h : Bk o c w pa cs) (hle : Nat.ble (Rep.sz β) cs.length = true) (hv : pack (Rep.agg β) (cs.take (Rep.sz β)) = v) :
    OW P Q L ⟨d, .load t x, ty, pos, af, g⟩ w (fun v' w' => v' = v ∧ w' = w) :=
  OW.loadK β (off := 0) v hT (by rw [add_zero']; exact hx) h (by simpa using hle) (by simpa using hv)

theorem OW.storeK (β : Type) [Rep β] {pa : Addr} {cs : List Value} {x u : Operand} {v : Value} {off : Nat} (cs' vs : List Value) (hT : TyOk P t β) (hx : ev L x = some (.pointer (some (pa.add off)))) (hu : ev L u = some v) (h : Bk o c w pa cs) (hv : v.cells = vs.toArray) (h1 : ones vs) (hl : vs.length = Rep.sz β) (hle : Nat.ble (off + Rep.sz β) cs.length = true) (hc : cs.take off ++ vs ++ cs.drop (off + vs.length) = cs') :
    OW P Q L ⟨none, .store t x u, ty, pos, af, g⟩ w (fun _ w' => Evo [c] [] o w o w' ∧ Bk o c w' pa cs') := by
  obtain ⟨T', h4⟩ := h.cells
  have hle' : off + Rep.sz β ≤ cs.length := Nat.le_of_ble_eq_true hle
  have hadd : pa.add off = ⟨pa.block, off, none⟩ := by
    rw [addr_eq h.off h.spot]
    unfold Addr.add
    split <;> simp_all
  have hst := run_storeCells_at P pa.block off T' vs 0 cs.toArray w h4 (by simp; omega) (ones_spec h1)
  rw [← hadd] at hst
  simp only [Nat.add_zero] at hst
  have hev : Evo [c] [] o w o (w.setRow pa.block (cs.take off ++ vs ++ cs.drop (off + vs.length)).toArray) := Evo.row _ h.own
  rw [hc] at hev
  refine OW.runSkip fun a ha => ⟨_, ?_, hev, h.off, h.spot, h.own, T', setRow_heap w pa.block _ _ T' _ h4⟩
  have hst' : (storeCells (pa.add off) vs).run P w = .ok () (w.setRow pa.block cs'.toArray) := by rw [← hc]; exact hst
  simp [execOp, ha _ _ hx, ha _ _ hu, Instr.storeAt, Instr.sureAddr, storeVar, hT.sizeOf, hv, hl, hst']
theorem OW.storeK0 (β : Type) [Rep β] {pa : Addr} {cs : List Value} {x u : Operand} {v : Value} (cs' vs : List Value) (hT : TyOk P t β) (hx : ev L x = some (.pointer (some pa))) (hu : ev L u = some v) (h : Bk o c w pa cs) (hv : v.cells = vs.toArray) (h1 : ones vs) (hl : vs.length = Rep.sz β) (hle : Nat.ble (Rep.sz β) cs.length = true) (hc : vs ++ cs.drop vs.length = cs') :
    OW P Q L ⟨none, .store t x u, ty, pos, af, g⟩ w (fun _ w' => Evo [c] [] o w o w' ∧ Bk o c w' pa cs') :=
  OW.storeK β (off := 0) cs' vs hT (by rw [add_zero']; exact hx) hu h hv h1 hl (by simpa using hle) (by simpa using hc)

/-- a struct type's field: where it lies -/
structure FldAt (P : Program) (T : TypeId) (i off : Nat) : Prop where
  fld : ∃ fs fd, P.underlying T = some (.struct fs) ∧ fs[i]? = some fd ∧ fd.offset = off ∧ ∃ inf, P.info? fd.type = some inf ∧ inf.size ≠ 0
theorem FldOk.at {i off : Nat} {f : α → β} (h : FldOk P T i off f) : FldAt P T i off := by
  obtain ⟨fs, fd, h1, h2, h3, h4⟩ := h.fld
  obtain ⟨inf, h5, h6, _⟩ := h4.info
  exact ⟨fs, fd, h1, h2, h3, inf, h5, by rw [h6]; exact Nat.ne_of_gt Rep.pos⟩

theorem OW.fldAddr {i off : Nat} {pa : Addr} {x : Operand} (hF : FldAt P T i off) (hx : ev L x = some (.pointer (some pa))) :
    OW P Q L ⟨d, .fieldAddr T x i, ty, pos, af, g⟩ w (fun v w' => v = .pointer (some (pa.add off)) ∧ w' = w) := by
  refine OW.run fun a ha => ⟨_, w, ?_, rfl, rfl⟩
  obtain ⟨fs, fd, h1, h2, h3, inf, h4, h5⟩ := hF.fld
  have hs : (sizeOf fd.type).run P w = .ok inf.size w := by simp [sizeOf, typeInfo, h4]
  simp [execOp, ha _ _ hx, Instr.fieldAt, run_underlying h1, h2, Instr.sureAddr, fieldPlace, hs, h5, h3]

theorem cells_one {v : Value} (h : v.oneCell' = true) : v.cells = [v].toArray := by
  cases v <;> simp_all [Value.cells, Value.oneCell']

/-- a struct literal, its parts' cells written out -/
def PartCells : List (Nat × Value) → List (Nat × List Value) → Prop
  | [], [] => True
  | (i, v) :: r, (j, c) :: s => i = j ∧ v.cells = c.toArray ∧ PartCells r s
  | _, _ => False
def fillC (pl : List (Nat × Nat)) : List Value → List (Nat × List Value) → Option (List Value)
  | cs, [] => some cs
  | cs, (i, c) :: r => match pl[i]? with
    | some (off, sz) => if Nat.beq c.length sz = true ∧ Nat.ble (off + sz) cs.length = true then fillC pl (cs.take off ++ c ++ cs.drop (off + c.length)) r else none
    | none => none
theorem fillC_run {pl : List (Nat × Nat)} : ∀ {vs : List (Nat × Value)} {vcs : List (Nat × List Value)} {cs cs' : List Value}, PartCells vs vcs → fillC pl cs vcs = some cs' → Instr.fill (pl.toArray[·]?) cs.toArray vs = some cs'.toArray
  | [], [], cs, cs', _, h => by
    simp [fillC] at h
    subst h
    rfl
  | (i, v) :: r, (j, c) :: s, cs, cs', hp, h => by
    obtain ⟨rfl, hc, hp⟩ := hp
    unfold fillC at h
    split at h
    case h_2 => cases h
    rename_i off sz hpl
    split at h
    case isFalse => cases h
    rename_i hb
    have h1 : c.length = sz := Nat.eq_of_beq_eq_true hb.1
    have h2 : off + sz ≤ cs.length := Nat.le_of_ble_eq_true hb.2
    have hf := put_fold c off 0 cs.toArray (by simp; omega)
    simp only [Nat.add_zero] at hf
    have hpl' : pl.toArray[i]? = some (off, sz) := by simpa using hpl
    have ez : c.toArray.zipIdx.toList = c.zipIdx := by simp
    simp only [Instr.fill, hpl', hc, List.size_toArray, h1, ne_eq, not_true_eq_false, false_or, decide_false, Bool.false_or]
    rw [if_neg (by simp; omega)]
    rw [← Array.foldl_toList, ez, hf]
    exact fillC_run hp h
theorem OW.buildK (α : Type) [Rep α] {parts : List (Nat × Operand)} {vs : List (Nat × Value)} {pl : List (Nat × Nat)} (vcs : List (Nat × List Value)) (cs' : List Value) (hst : StOk P t pl) (hT : TyOk P t α) (hp : evsN L parts = some vs) (hc : PartCells vs vcs) (hf : fillC pl (Rep.zc α) vcs = some cs') :
    OW P Q L ⟨d, .build t parts.toArray, ty, pos, af, g⟩ w (fun v' w' => v' = .agg cs'.toArray ∧ w' = w) := by
  obtain ⟨fs, h1, h2⟩ := hst.fs
  obtain ⟨i, hi1, hi2, hi3, hi4⟩ := hT.info
  have h3 := fillC_run hc hf
  refine OW.run fun a ha => ⟨.agg cs'.toArray, w, ?_, rfl, rfl⟩
  have hparts : (parts.toArray.map fun (x : Nat × Operand) => (x.1, a.eval x.2)).toList = vs := by
    rw [← evsN_map ha hp]; simp
  have hpk := pack_cells (α := α) (Rep.zok (fun _ => True) w)
  have hpk' : (pack (Rep.agg α) (Rep.zc α)).cells = (Rep.zc α).toArray := Array.toList_inj.1 (by simpa using hpk)
  have hb : P.built t (parts.toArray.map fun (x : Nat × Operand) => (x.1, a.eval x.2)).toList = some cs'.toArray := by
    simp only [Program.built, hi1, h1, hi4, h2, hpk', hparts, h3]
  have hr := run_build (P := P) w t _ _ hb
  simp only [execOp, Sem.run_bind]
  rw [hr]
  rfl

theorem ResIs.bk (β : Type) [Rep β] {pa : Addr} {cs : List Value} {t T : Nat} (v : Value) (hT : TyOk P T β) (h1 : look L t = some (.pointer (some pa))) (h : Bk o c w pa cs) (hle : Nat.ble (Rep.sz β) cs.length = true) (hv : pack (Rep.agg β) (cs.take (Rep.sz β)) = v) : ResIs P L w (.cell t T) v := by
  refine ⟨pa, h1, ?_⟩
  have hle' : Rep.sz β ≤ cs.length := Nat.le_of_ble_eq_true hle
  have hc := h.at 0 (Rep.sz β) (by omega)
  have hl : ((cs.drop 0).take (Rep.sz β)).length = Rep.sz β := by simp; omega
  rw [add_zero'] at hc
  have hv' : pack (Rep.agg β) ((cs.drop 0).take (Rep.sz β)) = v := by simpa using hv
  simp only [loadVar, Sem.run_bind, hT.isAgg, Result.andThen_ok]
  subst hv'
  generalize (cs.drop 0).take (Rep.sz β) = l at *
  cases hg : Rep.agg β with
  | true =>
    have := run_loadCells_list (P := P) w pa l hc
    rw [hl] at this
    simp [hT.sizeOf, this, pack]
  | false =>
    rw [Rep.flat hg] at hl
    match l, hl, hc with
    | [u], _, hc =>
      have := hc 0 u rfl
      have hu : w.cell? pa = some u := by simpa [Addr.add] using this
      simp [pack, hu]

/-- what the cells of an explicit struct read as -/
theorem Rv.ofCells {S : Nat → Prop} {x : α} {cs : List Value} (hg : Rep.agg α = true) (h : Rep.rd S w cs x) : Rv S w (.agg cs.toArray) x := ⟨cs, by simp [pack, hg], h⟩
theorem Rv.rd1 {S : Nat → Prop} {v : Value} {x : α} (h : Rv S w v x) (hg : Rep.agg α = false) : Rep.rd S w [v] x := by
  obtain ⟨cs, rfl, h1⟩ := h
  have hl := Rep.len h1
  rw [Rep.flat hg] at hl
  match cs, hl with
  | [u], _ => simpa [pack, hg] using h1
end

theorem single {cs : List Value} (h : cs.length = 1) : ∃ u, cs = [u] := by
  match cs, h with
  | [u], _ => exact ⟨u, rfl⟩
theorem Rv.of1 {α : Type} [Rep α] {S : Nat → Prop} {w : World} {u : Value} {x : α} (hg : Rep.agg α = false) (h : Rep.rd S w [u] x) : Rv S w u x := ⟨[u], by simp [pack, hg], h⟩

theorem rdI {S : Nat → Prop} {w : World} {x : Int} : Rep.rd S w [.int .i64 x] x := rfl
theorem rdB {S : Nat → Prop} {w : World} {x : Bool} : Rep.rd S w [.bool x] x := rfl
theorem rdS {S : Nat → Prop} {w : World} {x : ByteArray} : Rep.rd S w [.string x] x := rfl
theorem rdU {S : Nat → Prop} {w : World} {x : U8} : Rep.rd S w [.int .u8 x.n] x := rfl

/-- the owners behind a call that writes no old block -/
theorem fresh_new {o : Cls} {w w' : World} (n : Nat) (h : Below w.heap.size w w') : ∃ o', Evo [] [n] o w o' w' ∧ ∀ b, w.heap.size ≤ b → o' b = n :=
  ⟨grow o w n, Evo.fresh n h, fun b hb => grow_new o w n b hb⟩
theorem but_new {o : Cls} {w w' : World} {sb m : Nat} (n : Nat) (h : w.grownBy w' (some sb)) (hm : o sb = m) : ∃ o', Evo [m] [n] o w o' w' ∧ ∀ b, w.heap.size ≤ b → o' b = n :=
  ⟨grow o w n, Evo.but n h hm, fun b hb => grow_new o w n b hb⟩
theorem Rv.new {α : Type} [Rep α] {o' : Cls} {w w' : World} {v : Value} {x : α} {n : Nat} (h : Rv (fun b => w.heap.size ≤ b) w' v x) (hn : ∀ b, w.heap.size ≤ b → o' b = n) : Rv (In o' [n]) w' v x :=
  h.weaken fun b hb => by rw [In, hn b hb]; exact List.mem_cons_self

/-! equality at structs of ints -/
def IntFields (P : Program) (n : Nat) : Nat → List Field → Prop
  | k, [] => k = n
  | k, f :: r => f.name ≠ "_" ∧ f.offset = k ∧ P.underlying f.type = some (.int .i64) ∧ IntFields P n (k + 1) r
theorem eqFields_ints {P : Program} {w : World} {d : Nat} {xs ys : List Int} (hl : xs.length = ys.length) : ∀ {fs : List Field} {k : Nat}, IntFields P xs.length k fs → k ≤ xs.length →
    (Op.eqFields (d + 1) (xs.map (Value.int .i64)).toArray (ys.map (Value.int .i64)).toArray fs).run P w = .ok (decide (xs.drop k = ys.drop k)) w
  | [], k, h, _ => by
    have hk : k = xs.length := h
    subst hk
    have h1 : xs.drop xs.length = [] := List.drop_length
    have h2 : ys.drop xs.length = [] := List.drop_eq_nil_of_le (by omega)
    rw [h1, h2]
    simp [Op.eqFields]
  | f :: r, k, h, hk => by
    obtain ⟨h1, rfl, h3, h4⟩ := h
    have hle : f.offset + 1 ≤ xs.length := by
      have : ∀ {fs : List Field} {k : Nat}, IntFields P xs.length k fs → k ≤ xs.length := by
        intro fs
        induction fs with
        | nil => intro k h; exact Nat.le_of_eq h
        | cons g r ih => intro k h; have := ih h.2.2.2; omega
      exact this h4
    have hag : (isAgg f.type).run P w = .ok false w := by
      unfold isAgg
      rw [Sem.run_bind, run_underlying h3 w]
      rfl
    have hx : xs.drop f.offset = xs[f.offset] :: xs.drop (f.offset + 1) := List.drop_eq_getElem_cons (by omega)
    have hy : ys.drop f.offset = ys[f.offset]'(by omega) :: ys.drop (f.offset + 1) := List.drop_eq_getElem_cons (by omega)
    have p1 : (part f.type (xs.map (Value.int .i64)).toArray f.offset).run P w = .ok (.int .i64 xs[f.offset]) w := by
      simp [part, hag, show f.offset < xs.length from by omega]
    have p2 : (part f.type (ys.map (Value.int .i64)).toArray f.offset).run P w = .ok (.int .i64 (ys[f.offset]'(by omega))) w := by
      simp [part, hag, show f.offset < ys.length from by omega]
    have p3 := run_equalIn_int (P := P) w d f.type .i64 .i64 xs[f.offset] (ys[f.offset]'(by omega)) h3
    have ih := eqFields_ints (P := P) (w := w) (d := d) hl h4 hle
    simp only [Op.eqFields, ne_eq, h1, not_false_eq_true, if_true, Sem.run_bind, p1, p2, p3, Result.andThen_ok]
    rw [hx, hy]
    clear hx hy p1 p2 p3
    generalize xs[f.offset] = a
    generalize ys[f.offset]'(by omega) = b
    generalize xs.drop (f.offset + 1) = A at *
    generalize ys.drop (f.offset + 1) = B at *
    by_cases he : a = b
    · subst he; simp [ih]
    · simp [he]
theorem EqOk.ints {P : Program} {t : TypeId} {α : Type} [Rep α] [DecidableEq α] {fs : Array Field} (enc : α → List Int) (hu : P.underlying t = some (.struct fs)) (hp : P.stoodInHeld t = false) (hg : P.eqGuardType P.depth t = false)
    (hinj : ∀ x y, enc x = enc y ↔ x = y) (hop : ∀ {S : Nat → Prop} {w : World} {v : Value} {x : α}, Rv S w v x → v = .agg ((enc x).map (Value.int .i64)).toArray) (hf : ∀ x, IntFields P (enc x).length 0 fs.toList) (hlen : ∀ x y, (enc x).length = (enc y).length) : EqOk P t α := ⟨by
  intro S S' w v1 v2 x y a b h1 h2
  rw [hop h1, hop h2]
  have hfo : P.fieldsOf t = fs := by simp [Program.fieldsOf, hu]
  have hrun : (Op.equal t (.agg ((enc x).map (Value.int .i64)).toArray) (.agg ((enc y).map (Value.int .i64)).toArray)).run P w = .ok (decide (x = y)) w := by
    have e1 := run_equalIn_struct (P := P) w 9999 t ((enc x).map (Value.int .i64)).toArray ((enc y).map (Value.int .i64)).toArray (by rw [hfo]; exact hu) hp
    rw [hfo, eqFields_ints (d := 9998) (hlen x y) (hf x) (Nat.zero_le _)] at e1
    simp only [List.drop_zero] at e1
    show (Op.equalIn (9999 + 1) t _ _).run P w = _
    rw [e1]
    congr 1
    by_cases he : x = y
    · subst he; simp
    · have : ¬ enc x = enc y := fun hh => he ((hinj x y).1 hh)
      simp [he, this]
  refine ⟨⟨?_, ?_⟩, ?_, ?_⟩
  · simp [eqGuard, hg]
  · simp [binOp, hrun]
  · simp [eqGuard, hg]
  · simp [binOp, hrun]⟩

/-! the one pointer that is handed in: a source of numbers -/
/-- block sb holds the list (value sv, numbers sL) and how many are spent: st is what is left -/
def SrcB (w : World) (sb : Nat) (sv : Value) (sL st : List Int) : Prop :=
  ∃ (T : TypeId) (k : Nat), w.heap[sb]? = some (.cells #[sv, .int .i64 (k : Int)] T (0, 0)) ∧ k ≤ sL.length ∧ st = sL.drop k
theorem SrcB.evo {w w' : World} {sb : Nat} {sv : Value} {sL st : List Int} {M N : List Nat} {o o' : Cls} {c : Nat} (h : SrcB w sb sv sL st) (hc : o sb = c) (k : Evo M N o w o' w') (hd : disj [c] M = true) : SrcB w' sb sv sL st ∧ o' sb = c := by
  obtain ⟨T, j, h1, h2⟩ := h
  have hlt : sb < w.heap.size := (Array.getElem?_eq_some_iff.1 h1).1
  refine ⟨⟨T, j, ?_, h2⟩, by rw [k.old _ hlt]; exact hc⟩
  rw [k.blk sb hlt (by rw [hc]; exact disj_spec hd List.mem_cons_self)]
  exact h1
/-- .. and whose block it is -/
def SrcC (o : Cls) (c : Nat) (w : World) (sb : Nat) (sv : Value) (sL st : List Int) : Prop := SrcB w sb sv sL st ∧ o sb = c
theorem SrcC.evo {w w' : World} {sb : Nat} {sv : Value} {sL st : List Int} {M N : List Nat} {o o' : Cls} {c : Nat} (h : SrcC o c w sb sv sL st) (k : Evo M N o w o' w') (hd : disj [c] M = true) : SrcC o' c w' sb sv sL st := h.1.evo h.2 k hd
theorem SrcB.lt {w : World} {sb : Nat} {sv : Value} {sL st : List Int} (h : SrcB w sb sv sL st) : sb < w.heap.size := by
  obtain ⟨T, j, h1, _⟩ := h
  exact (Array.getElem?_eq_some_iff.1 h1).1
theorem ent_src {w : World} {sb : Nat} {sv : Value} {sL st : List Int} (h : SrcB w sb sv sL st) : ent w (some sb) sb = 1 := by simp [ent, h.lt]
theorem SrcC.new {o o' : Cls} {c : Nat} {w w' : World} {sb : Nat} {sv : Value} {sL st st' : List Int} {M N : List Nat} (h : SrcC o c w sb sv sL st) (k : Evo M N o w o' w') (h' : SrcB w' sb sv sL st') : SrcC o' c w' sb sv sL st' :=
  ⟨h', by rw [k.old sb h.1.lt]; exact h.2⟩
theorem ent_raw {w : World} {sb : Nat} {cs : Array Value} (h : ∃ T, w.heap[sb]? = some (.cells cs T (0, 0))) : ent w (some sb) sb = 1 := by
  obtain ⟨T, h⟩ := h
  simp [ent, (Array.getElem?_eq_some_iff.1 h).1]
theorem Rv.old {α : Type} [Rep α] {M N K : List Nat} {o o' : Cls} {w w' : World} {v : Value} {x : α} (h : Rv (fun b => In o K b ∧ b < w.heap.size) w' v x) (k : Evo M N o w o' w') : Rv (In o' K) w' v x :=
  h.weaken fun b hb => by
    rw [In, k.old b hb.2]
    exact hb.1
theorem src_not {o : Cls} {sb c : Nat} {K : List Nat} (hc : o sb = c) (hd : disj K [c] = true) : ∀ b, In o K b → b ≠ sb := by
  rintro b hb rfl
  rw [In, hc] at hb
  exact disj_spec hd hb List.mem_cons_self
theorem evo_keep {M N : List Nat} {o o' : Cls} {w w' : World} {sb c : Nat} (h : Evo M N o w o' w') (hlt : sb < w.heap.size) (hc : o sb = c) : o' sb = c := by rw [h.old sb hlt]; exact hc
end Dp
end Go.Proofs.Ythgnnjdjdmdfoaa
