/- Boxes whose cells are written out, and what a struct's value is made of. Nothing here names a program. -/
import Derived.Test.YtdfkfohpgakihaaDu
set_option linter.unusedVariables false
set_option linter.unusedSimpArgs false
namespace Go.Proofs.Ytdfkfohpgakihaa
open Go Go.RowKit

namespace Dp

/-- a box of the call's own, its cells written out -/
structure Bk (o : Cls) (c : Nat) (w : World) (pa : Addr) (cs : List Value) : Prop where
  off : pa.off = 0
  spot : pa.spot = none
  own : o pa.block = c
  cells : ∃ T, w.heap[pa.block]? = some (.cells cs.toArray T (0, 0))

def ones : List Value → Prop
  | [] => True
  | v :: r => v.oneCell' = true ∧ ones r
theorem ones_spec : ∀ {l : List Value}, ones l → ∀ u ∈ l, u.oneCell' = true
  | [], _, u, hu => by cases hu
  | v :: r, h, u, hu => by
    rcases List.mem_cons.1 hu with rfl | hu
    · exact h.1
    · exact ones_spec h.2 u hu

section
variable {α β : Type} [Rep α] [Rep β]
variable {P : Program} {n : Nat} {Q : Exit → Act → World → Prop} {L : List (Nat × Value)} {w w' : World} {ops : Array Oper} {rest : List Oper} {d : Option Tmp} {ty : TypeId} {pos : String} {af : Array Edge} {g : Option (Nat × Bool)} {t T e : TypeId} {o o' : Cls} {K M N : List Nat} {k c : Nat}

theorem Bk.lt {pa : Addr} {cs : List Value} (h : Bk o c w pa cs) : pa.block < w.heap.size := by
  obtain ⟨T, h1⟩ := h.cells
  exact (Array.getElem?_eq_some_iff.1 h1).1
theorem Bk.evo {pa : Addr} {cs : List Value} (r : Bk o c w pa cs) (h : Evo M N o w o' w') (hd : disj [c] M = true) : Bk o' c w' pa cs := by
  have hlt := r.lt
  obtain ⟨T, h1⟩ := r.cells
  have hc : o pa.block ∉ M := disj_spec hd (by rw [r.own]; exact List.mem_cons_self)
  exact ⟨r.off, r.spot, by rw [h.old _ hlt]; exact r.own, T, by rw [h.blk _ hlt hc]; exact h1⟩

theorem Rv.one {α : Type} [Rep α] {S : Nat → Prop} {v : Value} {x : α} (h : Rv S w v x) (hg : Rep.agg α = false) : v.oneCell' = true := by
  obtain ⟨cs, rfl, h1⟩ := h
  have hl := Rep.len h1
  rw [Rep.flat hg] at hl
  match cs, hl with
  | [u], _ =>
    have := Rep.one h1 u (by simp)
    simpa [pack, hg] using this
theorem Ow.one {v : Value} {xs : List α} (h : Ow T o k K w v xs) : v.oneCell' = true := by
  rcases h with ⟨rfl, _⟩ | ⟨g, cap, cur, css, rfl, _⟩ <;> rfl

theorem OW.boxK {v : Value} {u : Operand} (c : Nat) (cs : List Value) (hx : ev L u = some v) (hv : v.cells = cs.toArray) :
    OW P Q L ⟨d, .box t u, ty, pos, af, g⟩ w (fun v' w' => ∃ pa o', v' = .pointer (some pa) ∧ Evo [] [c] o w o' w' ∧ Bk o' c w' pa cs) := by
  refine OW.run fun a ha => ⟨_, w.alloc (.cells cs.toArray t), ?_, ⟨w.heap.size, 0, none⟩, _, rfl, Evo.alloc o w _ c, rfl, rfl, grow_new o w c _ (Nat.le_refl _), t, heap_alloc_new w _⟩
  simp [execOp, ha _ _ hx, Instr.box, newVar, newRow, hv, newObj]
  rfl
theorem OW.allocK (α : Type) [Rep α] (c : Nat) (cs : List Value) (hT : TyOk P t α) (hv : Rep.zc α = cs) :
    OW P Q L ⟨d, .alloc t, ty, pos, af, g⟩ w (fun v' w' => ∃ pa o', v' = .pointer (some pa) ∧ Evo [] [c] o w o' w' ∧ Bk o' c w' pa cs) := by
  have hz : Rep.rd (In o []) w (Rep.zc α) (Rep.zero : α) := Rep.zok _ _
  refine OW.run fun a ha => ⟨_, w.alloc (.cells cs.toArray t), ?_, ⟨w.heap.size, 0, none⟩, _, rfl, Evo.alloc o w _ c, rfl, rfl, grow_new o w c _ (Nat.le_refl _), t, heap_alloc_new w _⟩
  have hpk := pack_cells hz
  have hpk' : (pack (Rep.agg α) (Rep.zc α)).cells = (Rep.zc α).toArray := Array.toList_inj.1 (by simpa using hpk)
  subst hv
  simp [execOp, Instr.alloc, hT.zero, newVar, newRow, hpk', newObj]
  rfl

theorem Bk.at {pa : Addr} {cs : List Value} (h : Bk o c w pa cs) (off sz : Nat) (hle : off + sz ≤ cs.length) : CellsAt w (pa.add off) ((cs.drop off).take sz) := by
  obtain ⟨T, h1⟩ := h.cells
  intro j u hu
  rw [List.getElem?_take] at hu
  split at hu
  case isFalse => cases hu
  rw [List.getElem?_drop] at hu
  have hadd : (pa.add off).add j = ⟨pa.block, off + j, none⟩ := by
    rw [addr_add, addr_eq h.off h.spot]
    unfold Addr.add
    split <;> simp_all
  rw [hadd, cell_of_row w pa.block (off + j) cs.toArray T (0, 0) h1]
  simpa using hu

theorem OW.loadK (β : Type) [Rep β] {pa : Addr} {cs : List Value} {x : Operand} {off : Nat} (v : Value) (hT : TyOk P t β) (hx : ev L x = some (.pointer (some (pa.add off)))) (h : Bk o c w pa cs) (hle : Nat.ble (off + Rep.sz β) cs.length = true) (hv : pack (Rep.agg β) ((cs.drop off).take (Rep.sz β)) = v) :
    OW P Q L ⟨d, .load t x, ty, pos, af, g⟩ w (fun v' w' => v' = v ∧ w' = w) := by
  have hle' : off + Rep.sz β ≤ cs.length := Nat.le_of_ble_eq_true hle
  have hc := h.at off (Rep.sz β) hle'
  have hl : ((cs.drop off).take (Rep.sz β)).length = Rep.sz β := by simp; omega
  refine OW.run fun a ha => ⟨v, w, ?_, rfl, rfl⟩
  have hrun : (loadVar t (pa.add off)).run P w = .ok v w := by
    simp only [loadVar, Sem.run_bind, hT.isAgg, Result.andThen_ok]
    subst hv
    generalize (cs.drop off).take (Rep.sz β) = l at *
    cases hg : Rep.agg β with
    | true =>
      have := run_loadCells_list (P := P) w (pa.add off) l hc
      rw [hl] at this
      simp [hT.sizeOf, this, pack]
    | false =>
      rw [Rep.flat hg] at hl
      match l, hl, hc with
      | [u], _, hc =>
        have := hc 0 u rfl
        have hu : w.cell? (pa.add off) = some u := by simpa [addr_add] using this
        simp [pack, hu]
  simp [execOp, ha _ _ hx, Instr.loadAt, Instr.sureAddr, hrun]
theorem add_zero' (a : Addr) : a.add 0 = a := by simp [Addr.add]
theorem OW.loadK0 (β : Type) [Rep β] {pa : Addr} {cs : List Value} {x : Operand} (v : Value) (hT : TyOk P t β) (hx : ev L x = some (.pointer (some pa))) (h : Bk o c w pa cs) (hle : Nat.ble (Rep.sz β) cs.length = true) (hv : pack (Rep.agg β) (cs.take (Rep.sz β)) = v) :
    OW P Q L ⟨d, .load t x, ty, pos, af, g⟩ w (fun v' w' => v' = v ∧ w' = w) :=
  OW.loadK β (off := 0) v hT (by rw [add_zero']; exact hx) h (by simpa using hle) (by simpa using hv)

theorem OW.storeK (β : Type) [Rep β] {pa : Addr} {cs : List Value} {x u : Operand} {v : Value} {off : Nat} (cs' vs : List Value) (hT : TyOk P t β) (hx : ev L x = some (.pointer (some (pa.add off)))) (hu : ev L u = some v) (h : Bk o c w pa cs) (hv : v.cells = vs.toArray) (h1 : ones vs) (hl : vs.length = Rep.sz β) (hle : Nat.ble (off + Rep.sz β) cs.length = true) (hc : cs.take off ++ vs ++ cs.drop (off + vs.length) = cs') :
    OW P Q L ⟨none, .store t x u, ty, pos, af, g⟩ w (fun _ w' => Evo [c] [] o w o w' ∧ Bk o c w' pa cs') := by
  obtain ⟨T', h4⟩ := h.cells
  have hle' : off + Rep.sz β ≤ cs.length := Nat.le_of_ble_eq_true hle
  have hadd : pa.add off = ⟨pa.block, off, none⟩ := by
    rw [addr_eq h.off h.spot]
    unfold Addr.add
    split <;> simp_all
  have hst := run_storeCells_at P pa.block off T' vs 0 cs.toArray w h4 (by simp; omega) (ones_spec h1)
  rw [← hadd] at hst
  simp only [Nat.add_zero] at hst
  have hev : Evo [c] [] o w o (w.setRow pa.block (cs.take off ++ vs ++ cs.drop (off + vs.length)).toArray) := Evo.row _ h.own
  rw [hc] at hev
  refine OW.runSkip fun a ha => ⟨_, ?_, hev, h.off, h.spot, h.own, T', setRow_heap w pa.block _ _ T' _ h4⟩
  have hst' : (storeCells (pa.add off) vs).run P w = .ok () (w.setRow pa.block cs'.toArray) := by rw [← hc]; exact hst
  simp [execOp, ha _ _ hx, ha _ _ hu, Instr.storeAt, Instr.sureAddr, storeVar, hT.sizeOf, hv, hl, hst']
theorem OW.storeK0 (β : Type) [Rep β] {pa : Addr} {cs : List Value} {x u : Operand} {v : Value} (cs' vs : List Value) (hT : TyOk P t β) (hx : ev L x = some (.pointer (some pa))) (hu : ev L u = some v) (h : Bk o c w pa cs) (hv : v.cells = vs.toArray) (h1 : ones vs) (hl : vs.length = Rep.sz β) (hle : Nat.ble (Rep.sz β) cs.length = true) (hc : vs ++ cs.drop vs.length = cs') :
    OW P Q L ⟨none, .store t x u, ty, pos, af, g⟩ w (fun _ w' => Evo [c] [] o w o w' ∧ Bk o c w' pa cs') :=
  OW.storeK β (off := 0) cs' vs hT (by rw [add_zero']; exact hx) hu h hv h1 hl (by simpa using hle) (by simpa using hc)

/-- a struct type's field: where it lies -/
structure FldAt (P : Program) (T : TypeId) (i off : Nat) : Prop where
  fld : ∃ fs fd, P.underlying T = some (.struct fs) ∧ fs[i]? = some fd ∧ fd.offset = off ∧ ∃ inf, P.info? fd.type = some inf ∧ inf.size ≠ 0
theorem FldOk.at {i off : Nat} {f : α → β} (h : FldOk P T i off f) : FldAt P T i off := by
  obtain ⟨fs, fd, h1, h2, h3, h4⟩ := h.fld
  obtain ⟨inf, h5, h6, _⟩ := h4.info
  exact ⟨fs, fd, h1, h2, h3, inf, h5, by rw [h6]; exact Nat.ne_of_gt Rep.pos⟩

theorem OW.fldAddr {i off : Nat} {pa : Addr} {x : Operand} (hF : FldAt P T i off) (hx : ev L x = some (.pointer (some pa))) :
    OW P Q L ⟨d, .fieldAddr T x i, ty, pos, af, g⟩ w (fun v w' => v = .pointer (some (pa.add off)) ∧ w' = w) := by
  refine OW.run fun a ha => ⟨_, w, ?_, rfl, rfl⟩
  obtain ⟨fs, fd, h1, h2, h3, inf, h4, h5⟩ := hF.fld
  have hs : (sizeOf fd.type).run P w = .ok inf.size w := by simp [sizeOf, typeInfo, h4]
  simp [execOp, ha _ _ hx, Instr.fieldAt, run_underlying h1, h2, Instr.sureAddr, fieldPlace, hs, h5, h3]

theorem cells_one {v : Value} (h : v.oneCell' = true) : v.cells = [v].toArray := by
  cases v <;> simp_all [Value.cells, Value.oneCell']

/-- a struct literal, its parts' cells written out -/
def PartCells : List (Nat × Value) → List (Nat × List Value) → Prop
  | [], [] => True
  | (i, v) :: r, (j, c) :: s => i = j ∧ v.cells = c.toArray ∧ PartCells r s
  | _, _ => False
def fillC (pl : List (Nat × Nat)) : List Value → List (Nat × List Value) → Option (List Value)
  | cs, [] => some cs
  | cs, (i, c) :: r => match pl[i]? with
    | some (off, sz) => if Nat.beq c.length sz = true ∧ Nat.ble (off + sz) cs.length = true then fillC pl (cs.take off ++ c ++ cs.drop (off + c.length)) r else none
    | none => none
theorem fillC_run {pl : List (Nat × Nat)} : ∀ {vs : List (Nat × Value)} {vcs : List (Nat × List Value)} {cs cs' : List Value}, PartCells vs vcs → fillC pl cs vcs = some cs' → Instr.fill (pl.toArray[·]?) cs.toArray vs = some cs'.toArray
  | [], [], cs, cs', _, h => by
    simp [fillC] at h
    subst h
    rfl
  | (i, v) :: r, (j, c) :: s, cs, cs', hp, h => by
    obtain ⟨rfl, hc, hp⟩ := hp
    unfold fillC at h
    split at h
    case h_2 => cases h
    rename_i off sz hpl
    split at h
    case isFalse => cases h
    rename_i hb
    have h1 : c.length = sz := Nat.eq_of_beq_eq_true hb.1
    have h2 : off + sz ≤ cs.length := Nat.le_of_ble_eq_true hb.2
    have hf := put_fold c off 0 cs.toArray (by simp; omega)
    simp only [Nat.add_zero] at hf
    have hpl' : pl.toArray[i]? = some (off, sz) := by simpa using hpl
    have ez : c.toArray.zipIdx.toList = c.zipIdx := by simp
    simp only [Instr.fill, hpl', hc, List.size_toArray, h1, ne_eq, not_true_eq_false, false_or, decide_false, Bool.false_or]
    rw [if_neg (by simp; omega)]
    rw [← Array.foldl_toList, ez, hf]
    exact fillC_run hp h
theorem OW.buildK (α : Type) [Rep α] {parts : List (Nat × Operand)} {vs : List (Nat × Value)} {pl : List (Nat × Nat)} (vcs : List (Nat × List Value)) (cs' : List Value) (hst : StOk P t pl) (hT : TyOk P t α) (hp : evsN L parts = some vs) (hc : PartCells vs vcs) (hf : fillC pl (Rep.zc α) vcs = some cs') :
    OW P Q L ⟨d, .build t parts.toArray, ty, pos, af, g⟩ w (fun v' w' => v' = .agg cs'.toArray ∧ w' = w) := by
  obtain ⟨fs, h1, h2⟩ := hst.fs
  obtain ⟨i, hi1, hi2, hi3, hi4⟩ := hT.info
  have h3 := fillC_run hc hf
  refine OW.run fun a ha => ⟨.agg cs'.toArray, w, ?_, rfl, rfl⟩
  have hparts : (parts.toArray.map fun (x : Nat × Operand) => (x.1, a.eval x.2)).toList = vs := by
    rw [← evsN_map ha hp]; simp
  have hpk := pack_cells (α := α) (Rep.zok (fun _ => True) w)
  have hpk' : (pack (Rep.agg α) (Rep.zc α)).cells = (Rep.zc α).toArray := Array.toList_inj.1 (by simpa using hpk)
  have hb : P.built t (parts.toArray.map fun (x : Nat × Operand) => (x.1, a.eval x.2)).toList = some cs'.toArray := by
    simp only [Program.built, hi1, h1, hi4, h2, hpk', hparts, h3]
  have hr := run_build (P := P) w t _ _ hb
  simp only [execOp, Sem.run_bind]
  rw [hr]
  rfl

theorem ResIs.bk (β : Type) [Rep β] {pa : Addr} {cs : List Value} {t T : Nat} (v : Value) (hT : TyOk P T β) (h1 : look L t = some (.pointer (some pa))) (h : Bk o c w pa cs) (hle : Nat.ble (Rep.sz β) cs.length = true) (hv : pack (Rep.agg β) (cs.take (Rep.sz β)) = v) : ResIs P L w (.cell t T) v := by
  refine ⟨pa, h1, ?_⟩
  have hle' : Rep.sz β ≤ cs.length := Nat.le_of_ble_eq_true hle
  have hc := h.at 0 (Rep.sz β) (by omega)
  have hl : ((cs.drop 0).take (Rep.sz β)).length = Rep.sz β := by simp; omega
  rw [add_zero'] at hc
  have hv' : pack (Rep.agg β) ((cs.drop 0).take (Rep.sz β)) = v := by simpa using hv
  simp only [loadVar, Sem.run_bind, hT.isAgg, Result.andThen_ok]
  subst hv'
  generalize (cs.drop 0).take (Rep.sz β) = l at *
  cases hg : Rep.agg β with
  | true =>
    have := run_loadCells_list (P := P) w pa l hc
    rw [hl] at this
    simp [hT.sizeOf, this, pack]
  | false =>
    rw [Rep.flat hg] at hl
    match l, hl, hc with
    | [u], _, hc =>
      have := hc 0 u rfl
      have hu : w.cell? pa = some u := by simpa [Addr.add] using this
      simp [pack, hu]

/-- what the cells of an explicit struct read as -/
theorem Rv.ofCells {S : Nat → Prop} {x : α} {cs : List Value} (hg : Rep.agg α = true) (h : Rep.rd S w cs x) : Rv S w (.agg cs.toArray) x := ⟨cs, by simp [pack, hg], h⟩
theorem Rv.rd1 {S : Nat → Prop} {v : Value} {x : α} (h : Rv S w v x) (hg : Rep.agg α = false) : Rep.rd S w [v] x := by
  obtain ⟨cs, rfl, h1⟩ := h
  have hl := Rep.len h1
  rw [Rep.flat hg] at hl
  match cs, hl with
  | [u], _ => simpa [pack, hg] using h1
end

theorem single {cs : List Value} (h : cs.length = 1) : ∃ u, cs = [u] := by
  match cs, h with
  | [u], _ => exact ⟨u, rfl⟩
theorem Rv.of1 {α : Type} [Rep α] {S : Nat → Prop} {w : World} {u : Value} {x : α} (hg : Rep.agg α = false) (h : Rep.rd S w [u] x) : Rv S w u x := ⟨[u], by simp [pack, hg], h⟩

theorem rdI {S : Nat → Prop} {w : World} {x : Int} : Rep.rd S w [.int .i64 x] x := rfl
theorem rdB {S : Nat → Prop} {w : World} {x : Bool} : Rep.rd S w [.bool x] x := rfl
theorem rdS {S : Nat → Prop} {w : World} {x : ByteArray} : Rep.rd S w [.string x] x := rfl
theorem rdU {S : Nat → Prop} {w : World} {x : U8} : Rep.rd S w [.int .u8 x.n] x := rfl

/-- the owners behind a call that writes no old block -/
theorem fresh_new {o : Cls} {w w' : World} (n : Nat) (h : Below w.heap.size w w') : ∃ o', Evo [] [n] o w o' w' ∧ ∀ b, w.heap.size ≤ b → o' b = n :=
  ⟨grow o w n, Evo.fresh n h, fun b hb => grow_new o w n b hb⟩
theorem but_new {o : Cls} {w w' : World} {sb m : Nat} (n : Nat) (h : w.grownBy w' (some sb)) (hm : o sb = m) : ∃ o', Evo [m] [n] o w o' w' ∧ ∀ b, w.heap.size ≤ b → o' b = n :=
  ⟨grow o w n, Evo.but n h hm, fun b hb => grow_new o w n b hb⟩
theorem Rv.new {α : Type} [Rep α] {o' : Cls} {w w' : World} {v : Value} {x : α} {n : Nat} (h : Rv (fun b => w.heap.size ≤ b) w' v x) (hn : ∀ b, w.heap.size ≤ b → o' b = n) : Rv (In o' [n]) w' v x :=
  h.weaken fun b hb => by rw [In, hn b hb]; exact List.mem_cons_self

/-! equality at structs of ints -/
def IntFields (P : Program) (n : Nat) : Nat → List Field → Prop
  | k, [] => k = n
  | k, f :: r => f.name ≠ "_" ∧ f.offset = k ∧ P.underlying f.type = some (.int .i64) ∧ IntFields P n (k + 1) r
theorem eqFields_ints {P : Program} {w : World} {d : Nat} {xs ys : List Int} (hl : xs.length = ys.length) : ∀ {fs : List Field} {k : Nat}, IntFields P xs.length k fs → k ≤ xs.length →
    (Op.eqFields (d + 1) (xs.map (Value.int .i64)).toArray (ys.map (Value.int .i64)).toArray fs).run P w = .ok (decide (xs.drop k = ys.drop k)) w
  | [], k, h, _ => by
    have hk : k = xs.length := h
    subst hk
    have h1 : xs.drop xs.length = [] := List.drop_length
    have h2 : ys.drop xs.length = [] := List.drop_eq_nil_of_le (by omega)
    rw [h1, h2]
    simp [Op.eqFields]
  | f :: r, k, h, hk => by
    obtain ⟨h1, rfl, h3, h4⟩ := h
    have hle : f.offset + 1 ≤ xs.length := by
      have : ∀ {fs : List Field} {k : Nat}, IntFields P xs.length k fs → k ≤ xs.length := by
        intro fs
        induction fs with
        | nil => intro k h; exact Nat.le_of_eq h
        | cons g r ih => intro k h; have := ih h.2.2.2; omega
      exact this h4
    have hag : (isAgg f.type).run P w = .ok false w := by
      unfold isAgg
      rw [Sem.run_bind, run_underlying h3 w]
      rfl
    have hx : xs.drop f.offset = xs[f.offset] :: xs.drop (f.offset + 1) := List.drop_eq_getElem_cons (by omega)
    have hy : ys.drop f.offset = ys[f.offset]'(by omega) :: ys.drop (f.offset + 1) := List.drop_eq_getElem_cons (by omega)
    have p1 : (part f.type (xs.map (Value.int .i64)).toArray f.offset).run P w = .ok (.int .i64 xs[f.offset]) w := by
      simp [part, hag, show f.offset < xs.length from by omega]
    have p2 : (part f.type (ys.map (Value.int .i64)).toArray f.offset).run P w = .ok (.int .i64 (ys[f.offset]'(by omega))) w := by
      simp [part, hag, show f.offset < ys.length from by omega]
    have p3 := run_equalIn_int (P := P) w d f.type .i64 .i64 xs[f.offset] (ys[f.offset]'(by omega)) h3
    have ih := eqFields_ints (P := P) (w := w) (d := d) hl h4 hle
    simp only [Op.eqFields, ne_eq, h1, not_false_eq_true, if_true, Sem.run_bind, p1, p2, p3, Result.andThen_ok]
    rw [hx, hy]
    clear hx hy p1 p2 p3
    generalize xs[f.offset] = a
    generalize ys[f.offset]'(by omega) = b
    generalize xs.drop (f.offset + 1) = A at *
    generalize ys.drop (f.offset + 1) = B at *
    by_cases he : a = b
    · subst he; simp [ih]
    · simp [he]
theorem EqOk.ints {P : Program} {t : TypeId} {α : Type} [Rep α] [DecidableEq α] {fs : Array Field} (enc : α → List Int) (hu : P.underlying t = some (.struct fs)) (hp : P.stoodInHeld t = false) (hg : P.eqGuardType P.depth t = false)
    (hinj : ∀ x y, enc x = enc y ↔ x = y) (hop : ∀ {S : Nat → Prop} {w : World} {v : Value} {x : α}, Rv S w v x → v = .agg ((enc x).map (Value.int .i64)).toArray) (hf : ∀ x, IntFields P (enc x).length 0 fs.toList) (hlen : ∀ x y, (enc x).length = (enc y).length) : EqOk P t α := ⟨by
  intro S S' w v1 v2 x y a b h1 h2
  rw [hop h1, hop h2]
  have hfo : P.fieldsOf t = fs := by simp [Program.fieldsOf, hu]
  have hrun : (Op.equal t (.agg ((enc x).map (Value.int .i64)).toArray) (.agg ((enc y).map (Value.int .i64)).toArray)).run P w = .ok (decide (x = y)) w := by
    have e1 := run_equalIn_struct (P := P) w 9999 t ((enc x).map (Value.int .i64)).toArray ((enc y).map (Value.int .i64)).toArray (by rw [hfo]; exact hu) hp
    rw [hfo, eqFields_ints (d := 9998) (hlen x y) (hf x) (Nat.zero_le _)] at e1
    simp only [List.drop_zero] at e1
    show (Op.equalIn (9999 + 1) t _ _).run P w = _
    rw [e1]
    congr 1
    by_cases he : x = y
    · subst he; simp
    · have : ¬ enc x = enc y := fun hh => he ((hinj x y).1 hh)
      simp [he, this]
  refine ⟨⟨?_, ?_⟩, ?_, ?_⟩
  · simp [eqGuard, hg]
  · simp [binOp, hrun]
  · simp [eqGuard, hg]
  · simp [binOp, hrun]⟩

/-! the one pointer that is handed in: a source of numbers -/
/-- block sb holds the list (value sv, numbers sL) and how many are spent: st is what is left -/
def SrcB (w : World) (sb : Nat) (sv : Value) (sL st : List Int) : Prop :=
  ∃ (T : TypeId) (k : Nat), w.heap[sb]? = some (.cells #[sv, .int .i64 (k : Int)] T (0, 0)) ∧ k ≤ sL.length ∧ st = sL.drop k
theorem SrcB.evo {w w' : World} {sb : Nat} {sv : Value} {sL st : List Int} {M N : List Nat} {o o' : Cls} {c : Nat} (h : SrcB w sb sv sL st) (hc : o sb = c) (k : Evo M N o w o' w') (hd : disj [c] M = true) : SrcB w' sb sv sL st ∧ o' sb = c := by
  obtain ⟨T, j, h1, h2⟩ := h
  have hlt : sb < w.heap.size := (Array.getElem?_eq_some_iff.1 h1).1
  refine ⟨⟨T, j, ?_, h2⟩, by rw [k.old _ hlt]; exact hc⟩
  rw [k.blk sb hlt (by rw [hc]; exact disj_spec hd List.mem_cons_self)]
  exact h1
/-- .. and whose block it is -/
def SrcC (o : Cls) (c : Nat) (w : World) (sb : Nat) (sv : Value) (sL st : List Int) : Prop := SrcB w sb sv sL st ∧ o sb = c
theorem SrcC.evo {w w' : World} {sb : Nat} {sv : Value} {sL st : List Int} {M N : List Nat} {o o' : Cls} {c : Nat} (h : SrcC o c w sb sv sL st) (k : Evo M N o w o' w') (hd : disj [c] M = true) : SrcC o' c w' sb sv sL st := h.1.evo h.2 k hd
theorem SrcB.lt {w : World} {sb : Nat} {sv : Value} {sL st : List Int} (h : SrcB w sb sv sL st) : sb < w.heap.size := by
  obtain ⟨T, j, h1, _⟩ := h
  exact (Array.getElem?_eq_some_iff.1 h1).1
theorem ent_src {w : World} {sb : Nat} {sv : Value} {sL st : List Int} (h : SrcB w sb sv sL st) : ent w (some sb) sb = 1 := by simp [ent, h.lt]
theorem SrcC.new {o o' : Cls} {c : Nat} {w w' : World} {sb : Nat} {sv : Value} {sL st st' : List Int} {M N : List Nat} (h : SrcC o c w sb sv sL st) (k : Evo M N o w o' w') (h' : SrcB w' sb sv sL st') : SrcC o' c w' sb sv sL st' :=
  ⟨h', by rw [k.old sb h.1.lt]; exact h.2⟩
theorem ent_raw {w : World} {sb : Nat} {cs : Array Value} (h : ∃ T, w.heap[sb]? = some (.cells cs T (0, 0))) : ent w (some sb) sb = 1 := by
  obtain ⟨T, h⟩ := h
  simp [ent, (Array.getElem?_eq_some_iff.1 h).1]
theorem Rv.old {α : Type} [Rep α] {M N K : List Nat} {o o' : Cls} {w w' : World} {v : Value} {x : α} (h : Rv (fun b => In o K b ∧ b < w.heap.size) w' v x) (k : Evo M N o w o' w') : Rv (In o' K) w' v x :=
  h.weaken fun b hb => by
    rw [In, k.old b hb.2]
    exact hb.1
theorem src_not {o : Cls} {sb c : Nat} {K : List Nat} (hc : o sb = c) (hd : disj K [c] = true) : ∀ b, In o K b → b ≠ sb := by
  rintro b hb rfl
  rw [In, hc] at hb
  exact disj_spec hd hb List.mem_cons_self
theorem evo_keep {M N : List Nat} {o o' : Cls} {w w' : World} {sb c : Nat} (h : Evo M N o w o' w') (hlt : sb < w.heap.size) (hc : o sb = c) : o' sb = c := by rw [h.old sb hlt]; exact hc
end Dp
end Go.Proofs.Ytdfkfohpgakihaa
