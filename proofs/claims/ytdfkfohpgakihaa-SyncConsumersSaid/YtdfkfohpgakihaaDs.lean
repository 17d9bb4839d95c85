/- The rules of the operations that write or make memory, and of calls. Nothing here names a program. -/
import Derived.Test.YtdfkfohpgakihaaDr
set_option linter.unusedVariables false
set_option linter.unusedSimpArgs false
namespace Go.Proofs.Ytdfkfohpgakihaa
open Go Go.RowKit

namespace Dp

/-- a type whose readings look at no memory -/
class Flat (α : Type) [Rep α] : Prop where
  any : ∀ {S S' : Nat → Prop} {w w' : World} {cs : List Value} {x : α}, Rep.rd S w cs x → Rep.rd S' w' cs x
instance : Flat Int := ⟨fun h => h⟩
instance : Flat Bool := ⟨fun h => h⟩
instance : Flat ByteArray := ⟨fun h => h⟩
instance : Flat U8 := ⟨fun h => h⟩
instance {α β : Type} [Rep α] [Rep β] [Flat α] [Flat β] : Flat (α × β) := ⟨fun ⟨c1, c2, h, h1, h2⟩ => ⟨c1, c2, h, Flat.any h1, Flat.any h2⟩⟩

/-- a function value -/
structure FnV where
  v : Value
instance : Rep FnV where
  sz := 1
  agg := false
  zc := [.nilFunc]
  zero := ⟨.nilFunc⟩
  rd := fun _ _ cs x => cs = [x.v] ∧ x.v.oneCell' = true
  len := by rintro S w cs x ⟨rfl, _⟩; rfl
  one := by rintro S w cs x ⟨rfl, h⟩ u hu; simp at hu; subst hu; exact h
  mono := fun _ h => h
  flat := fun _ => rfl
  pos := Nat.one_pos
  zok := fun _ _ => ⟨rfl, rfl⟩
instance : Flat FnV := ⟨fun h => h⟩
theorem rv_fn {S : Nat → Prop} {w : World} {v : Value} {x : FnV} (h : Rv S w v x) : v = x.v := by
  obtain ⟨cs, rfl, rfl, _⟩ := h
  rfl
theorem rv_fn_mk {S : Nat → Prop} {w : World} {v : Value} (h : v.oneCell' = true) : Rv S w v (⟨v⟩ : FnV) := ⟨_, rfl, rfl, h⟩

/-- the elements of a slice value, wherever its array lies -/
def Els {α : Type} [Rep α] (S : Nat → Prop) (w : World) (v : Value) (ys : List α) : Prop :=
  ∃ p cap, v = .slice p ys.length cap ∧ (ys = [] ∨ ∃ a css, p = some a ∧ All2 (Rep.rd S w) css ys ∧ CellsAt w a css.flatten)

section
variable {α β : Type} [Rep α] [Rep β]
theorem Rv.els {S : Nat → Prop} {w : World} {v : Value} {ys : List α} (h : Rv S w v ys) : Els S w v ys := by
  obtain ⟨p, cap, rfl, _, _, h⟩ := rv_list h
  refine ⟨p, cap, rfl, ?_⟩
  rcases h with h | ⟨a, css, h1, _, h3, h4⟩
  · exact .inl h
  · exact .inr ⟨a, css, h1, h3, h4⟩
theorem Ow.els {T : TypeId} {o : Cls} {k : Nat} {K : List Nat} {w : World} {v : Value} {ys : List α} (r : Ow T o k K w v ys) : Els (In o K) w v ys := by
  rcases r with ⟨rfl, rfl⟩ | ⟨g, cap, cur, css, rfl, h2, h3, h4, h5, h6, h7, h8⟩
  · exact ⟨none, 0, rfl, .inl rfl⟩
  · refine ⟨_, cap, rfl, .inr ⟨_, css, rfl, h7, ?_⟩⟩
    intro j u hu
    have hadd : (⟨g, 0, none⟩ : Addr).add j = ⟨g, j, none⟩ := by unfold Addr.add; split <;> simp_all
    rw [hadd, cell_of_row w g j cur T (0, 0) h3]
    rw [← h8, List.getElem?_take] at hu
    split at hu
    · simpa using hu
    · cases hu
theorem Els.flat [Flat α] {S S' : Nat → Prop} {w : World} {v : Value} {ys : List α} (h : Els S w v ys) : Els S' w v ys := by
  obtain ⟨p, cap, rfl, h⟩ := h
  refine ⟨p, cap, rfl, ?_⟩
  rcases h with h | ⟨a, css, h1, h3, h4⟩
  · exact .inl h
  · exact .inr ⟨a, css, h1, h3.mono fun _ _ => Flat.any, h4⟩
theorem Els.sub {o : Cls} {K K' : List Nat} {w : World} {v : Value} {ys : List α} (h : Els (In o K) w v ys) (hs : subN K K' = true) : Els (In o K') w v ys := by
  obtain ⟨p, cap, rfl, h⟩ := h
  refine ⟨p, cap, rfl, ?_⟩
  rcases h with h | ⟨a, css, h1, h3, h4⟩
  · exact .inl h
  · exact .inr ⟨a, css, h1, h3.mono fun _ _ => Rep.mono fun b hb _ => ⟨subN_spec hs hb, rfl⟩, h4⟩
theorem Els.rd {o : Cls} {K : List Nat} {w : World} {v : Value} {ys : List α} (h : Rv (In o K) w v ys) : Els (In o K) w v ys := h.els
theorem Ow.flat [Flat α] {T : TypeId} {o : Cls} {k : Nat} {K K' : List Nat} {w : World} {v : Value} {ys : List α} (r : Ow T o k K w v ys) : Ow T o k K' w v ys := by
  rcases r with r | ⟨g, cap, cur, css, h1, h2, h3, h4, h5, h6, h7, h8⟩
  · exact .inl r
  · exact .inr ⟨g, cap, cur, css, h1, h2, h3, h4, h5, h6, h7.mono fun _ _ => Flat.any, h8⟩

variable {P : Program} {n : Nat} {Q : Exit → Act → World → Prop} {L : List (Nat × Value)} {w : World} {ops : Array Oper} {rest : List Oper} {d : Option Tmp} {ty : TypeId} {pos : String} {af : Array Edge} {g : Option (Nat × Bool)} {t T e : TypeId} {o : Cls} {K : List Nat} {k : Nat}

/-! boxes written -/
theorem Evo.row {c : Nat} {b : Nat} (cs : Array Value) (hb : o b = c) : Evo [c] [] o w o (w.setRow b cs) :=
  ⟨rfl, rfl, rfl, by simp, fun _ _ => rfl, fun b' h1 h2 => by simp at h2; omega, fun b' _ hne => setRow_other w b b' cs (fun e => hne (by rw [e, hb]; exact List.mem_singleton.2 rfl))⟩

theorem addr_eq {pa : Addr} (h1 : pa.off = 0) (h2 : pa.spot = none) : pa = ⟨pa.block, 0, none⟩ := by
  obtain ⟨b, o, s⟩ := pa
  simp only at h1 h2
  subst h1 h2
  rfl

theorem OW.store {K' : List Nat} {pa : Addr} {y y' : α} {x u : Operand} {v : Value} {c : Nat} (hT : TyOk P t α) (hx : ev L x = some (.pointer (some pa))) (hu : ev L u = some v) (hb : Bx o c K w pa y) (h : Rv (In o K') w v y') (hd : disj K' [c] = true) :
    OW P Q L ⟨none, .store t x u, ty, pos, af, g⟩ w (fun _ w' => Evo [c] [] o w o w' ∧ Bx o c K' w' pa y') := by
  obtain ⟨cs, T, h1, h2, h3, h4, h5⟩ := hb
  obtain ⟨cs', rfl, h6⟩ := h
  have hpk := pack_cells h6
  have hl := Rep.len h6
  have hl0 := Rep.len h5
  have hst := run_storeCells_at P pa.block 0 T cs' 0 cs.toArray w h4 (by simp; omega) (Rep.one h6)
  rw [← addr_eq h1 h2] at hst
  have hev : Evo [c] [] o w o (w.setRow pa.block (cs.take 0 ++ cs' ++ cs.drop (0 + cs'.length)).toArray) := Evo.row _ h3
  have hcs : (cs.take 0 ++ cs' ++ cs.drop (0 + cs'.length)) = cs' := by simp; omega
  rw [hcs] at hev
  refine OW.runSkip fun a ha => ⟨w.setRow pa.block cs'.toArray, ?_, hev, cs', T, h1, h2, h3, setRow_heap w pa.block _ _ T _ h4, ?_⟩
  · have hsz : (pack (Rep.agg α) cs').cells.size = Rep.sz α := by rw [← Array.length_toList, hpk, hl]
    have : (cs.toArray.toList.take (0 + 0) ++ cs' ++ cs.toArray.toList.drop (0 + 0 + cs'.length)) = cs' := by simp; omega
    rw [this] at hst
    simp [execOp, ha _ _ hx, ha _ _ hu, Instr.storeAt, Instr.sureAddr, storeVar, hT.sizeOf, hsz, hpk, hst]
  · exact Rep.mono (Evo.ro hev hd) h6

theorem OW.storeField {pa : Addr} {y : α} {z : β} {x u : Operand} {v : Value} {c i off : Nat} {f : α → β} {st : α → β → α} (hT : TyOk P t β) (hF : FldOk P T i off f) (hS : FldSet off st) (hx : ev L x = some (.pointer (some (pa.add off)))) (hu : ev L u = some v)
    (hb : Bx o c K w pa y) (h : Rv (In o K) w v z) (hd : disj K [c] = true) :
    OW P Q L ⟨none, .store t x u, ty, pos, af, g⟩ w (fun _ w' => Evo [c] [] o w o w' ∧ Bx o c K w' pa (st y z)) := by
  obtain ⟨cs, T', h1, h2, h3, h4, h5⟩ := hb
  obtain ⟨cs', rfl, h6⟩ := h
  have hpk := pack_cells h6
  have hl := Rep.len h6
  obtain ⟨c1, c', c2, hcs, hc1, hc'⟩ := hF.prt h5
  have hle : off + cs'.length ≤ cs.length := by
    have := Rep.len hc'
    rw [hcs]
    simp
    omega
  have hadd : pa.add off = ⟨pa.block, off, none⟩ := by
    rw [addr_eq h1 h2]
    unfold Addr.add
    split <;> simp_all
  have hst := run_storeCells_at P pa.block off T' cs' 0 cs.toArray w h4 (by simp; omega) (Rep.one h6)
  rw [← hadd] at hst
  simp only [Nat.add_zero] at hst
  have hev : Evo [c] [] o w o (w.setRow pa.block (cs.take off ++ cs' ++ cs.drop (off + cs'.length)).toArray) := Evo.row _ h3
  refine OW.runSkip fun a ha => ⟨_, ?_, hev, _, T', h1, h2, h3, setRow_heap w pa.block _ _ T' _ h4, ?_⟩
  · have hsz : (pack (Rep.agg β) cs').cells.size = Rep.sz β := by rw [← Array.length_toList, hpk, hl]
    simp [execOp, ha _ _ hx, ha _ _ hu, Instr.storeAt, Instr.sureAddr, storeVar, hT.sizeOf, hsz, hpk, hst]
  · exact Rep.mono (Evo.ro hev hd) (hS h5 h6)

/-- a box's own data may be said to belong to fewer owners where they look at no memory -/
theorem Bx.flat [Flat α] {c : Nat} {K' : List Nat} {pa : Addr} {x : α} (r : Bx o c K w pa x) : Bx o c K' w pa x := by
  obtain ⟨cs, T, h1, h2, h3, h4, h5⟩ := r
  exact ⟨cs, T, h1, h2, h3, h4, Flat.any h5⟩
theorem Rv.flat [Flat α] {S S' : Nat → Prop} {w' : World} {v : Value} {x : α} (h : Rv S w v x) : Rv S' w' v x := by
  obtain ⟨cs, h1, h2⟩ := h
  exact ⟨cs, h1, Flat.any h2⟩

/-! slices of the call's own -/
theorem OW.make {u1 u2 : Operand} {zs : List α} {m : Int} (hu : P.underlying t = some (.slice e)) (hT : TyOk P e α) (h1 : ev L u1 = some (.int .i64 m)) (h2 : ev L u2 = some (.int .i64 m)) (hm : mkL α m = some zs) :
    OW P Q L ⟨d, .makeSlice t u1 u2, ty, pos, af, g⟩ w (fun v' w' => ∃ o', Evo [] [k] o w o' w' ∧ Ow e o' k [] w' v' zs) := by
  unfold mkL at hm
  split at hm
  · rename_i hb
    cases hm
    obtain ⟨i, hi1, hi2, hi3, hi4⟩ := hT.info
    have hr := run_make (P := P) w t e i _ hu hi1 hi4 .i64 .i64 m m hb.1 (by omega) (by
      have h : (i.bytes : Int) ≤ 65536 := by omega
      have h' : (i.bytes : Int) * m ≤ 65536 * 1073741824 := Int.mul_le_mul h hb.2 hb.1 (by omega)
      omega) (by omega)
    refine OW.run fun a ha => ⟨.slice (some ⟨w.heap.size, 0, none⟩) m.toNat m.toNat, w.alloc (.cells (madeCells (pack (Rep.agg α) (Rep.zc α)).cells (m.toNat * i.size)) e), ?_, _, Evo.alloc o w _ k, .inr ⟨w.heap.size, m.toNat, _, List.replicate m.toNat (Rep.zc α), ?_, grow_new o w k _ (Nat.le_refl _), heap_alloc_new w _, by simp, ?_, ?_, ?_, ?_⟩⟩
    · simp [execOp, ha _ _ h1, ha _ _ h2, hr]
    · simp
    · unfold maxLen; omega
    · simp [size_madeCells, hi2]
    · exact All2.replicate (Rep.zok _ _) _
    · have hz : (pack (Rep.agg α) (Rep.zc α)).cells.toList = Rep.zc α := pack_cells (α := α) (Rep.zok (fun _ => True) w)
      have hzl : (Rep.zc α).length = Rep.sz α := Rep.len (Rep.zok (α := α) (fun _ => True) w)
      have hpos := Rep.pos (α := α)
      generalize hzz : (pack (Rep.agg α) (Rep.zc α)).cells = z at *
      rw [hi2]
      rw [List.length_replicate, List.take_of_length_le (by simp [size_madeCells])]
      unfold madeCells
      have hzs : z.size = Rep.sz α := by rw [← Array.length_toList, hz, hzl]
      have key : ∀ q : Nat, (List.range (q * Rep.sz α)).map (z[· % z.size]!) = (List.replicate q (Rep.zc α)).flatten := by
        intro q
        induction q with
        | zero => simp
        | succ q ih =>
          rw [List.replicate_succ', List.flatten_append, ← ih, Nat.succ_mul, List.range_add, List.map_append]
          congr 1
          simp only [List.map_map, List.flatten_singleton]
          rw [← hz]
          apply List.ext_getElem?
          intro j
          by_cases hj : j < Rep.sz α
          · have e1 : (q * Rep.sz α + j) % z.size = j := by rw [hzs, Nat.mul_comm, Nat.mul_add_mod, Nat.mod_eq_of_lt hj]
            have hj' : j < z.size := by omega
            simp [hj, e1, hj', getElem!_pos]
          · simp [hj, hzs]
      simpa using key m.toNat
  · cases hm

theorem oneCells {S : Nat → Prop} {css : List (List Value)} {xs : List α} (h : All2 (Rep.rd S w) css xs) : ∀ u ∈ css.flatten, u.oneCell' = true := by
  intro u hu
  obtain ⟨c, hc, huc⟩ := List.mem_flatten.1 hu
  obtain ⟨x, hx⟩ := h.mem c hc
  exact Rep.one hx u huc
theorem flatLen {S : Nat → Prop} {css : List (List Value)} {xs : List α} (h : All2 (Rep.rd S w) css xs) : css.flatten.length = xs.length * Rep.sz α := by
  have hl := h.length
  have hs := h.sizes
  rw [← hl]
  clear h hl
  induction css with
  | nil => simp
  | cons c css ih =>
    rw [List.flatten_cons, List.length_append, ih (fun c hc => hs c (by simp [hc])), hs c (by simp), List.length_cons, Nat.succ_mul]
    omega

theorem run_append {v vx : Value} {xs ys zs : List α} (hu : P.underlying t = some (.slice e)) (hT : TyOk P e α) (ho : Ow e o k K w v xs) (hr : Els (In o K) w vx ys) (hz : app xs ys = some zs) (hd : disj K [k] = true) :
    ∃ v' w' o', (Builtin.append_ #[t, t] ty #[v, vx]).run P w = .ok v' w' ∧ Evo [k] [k] o w o' w' ∧ Ow e o' k K w' v' zs := by
  unfold app at hz
  split at hz
  case isFalse => cases hz
  rename_i hlen
  cases hz
  obtain ⟨i, hi1, hi2, hi3, hi4⟩ := hT.info
  obtain ⟨p, capx, rfl, hx⟩ := hr
  have hzc : (pack (Rep.agg α) (Rep.zc α)).cells.toList = Rep.zc α := pack_cells (α := α) (Rep.zok (fun _ => True) w)
  have hzl : (Rep.zc α).length = Rep.sz α := Rep.len (Rep.zok (α := α) (fun _ => True) w)
  have hzs : (pack (Rep.agg α) (Rep.zc α)).cells.size = Rep.sz α := by rw [← Array.length_toList, hzc, hzl]
  have hbytes : (xs.length + ys.length) * i.bytes ≤ 140737488355328 := by
    have := Nat.mul_le_mul hlen hi3
    omega
  by_cases hy : ys = []
  · subst hy
    refine ⟨v, w, o, ?_, Evo.refl _ _ _ _, by simpa using ho⟩
    rcases ho with ⟨rfl, rfl⟩ | ⟨gg, cap, cur, css, rfl, h2, h3, h4, h5, h6, h7, h8⟩
    · cases p <;> simp [Builtin.append_, run_underlying hu, sizeOf, typeInfo, hi1, Builtin.lenOf, Builtin.firstCells, loadCells, loadCellsFrom]
    · cases p <;> simp [Builtin.append_, run_underlying hu, sizeOf, typeInfo, hi1, Builtin.lenOf, Builtin.firstCells, loadCells, loadCellsFrom, storeCells, h4]
  · rcases hx with hx | ⟨a, css', rfl, hx1, hx2⟩
    · exact (hy hx).elim
    have hnl := flatLen hx1
    have hn1 := oneCells hx1
    have hypos : 0 < ys.length := List.length_pos_iff.2 hy
    rcases ho with ⟨rfl, rfl⟩ | ⟨gg, cap, cur, css, rfl, h2, h3, h4, h5, h6, h7, h8⟩
    · have hrun := run_append_nil (P := P) w t ty e i _ hu hi1 hi4 a ys.length capx css'.flatten (by rw [hnl, hi2]) hx2 hypos (by simp at hlen; omega) (by simp at hbytes; omega)
      have hro : ∀ (ob : Obj) (b : Nat), In o K b → b < w.heap.size → In (grow o w k) K b ∧ (w.drew.alloc ob).heap[b]? = w.heap[b]? := fun ob b hb hlt =>
        ⟨by simp [In, grow, hlt] at hb ⊢; exact hb, Below.heap_alloc w.drew _ b hlt⟩
      refine ⟨_, _, grow o w k, hrun, ?_, .inr ⟨w.heap.size, grownCap w ys.length 0 e, _, css', by simp, grow_new o w k _ (Nat.le_refl _), heap_alloc_new w.drew _, ?_, ?_, ?_, ?_, ?_⟩⟩
      · exact (Evo.fresh k ((Below.refl _ _).drew.alloc (Nat.le_refl _) _)).weaken (by simp) (by simp)
      · simpa using grownCap_ge w ys.length 0 e
      · exact grownCap_le_maxLen w _ _ _ (by unfold maxLen; simp at hlen; omega)
      · have hge := grownCap_ge w ys.length 0 e
        simp only [Array.size_append, List.size_toArray, size_zeroCells, hzs, hnl, ← Nat.add_mul]
        congr 1
        omega
      · simp only [List.nil_append]
        exact hx1.mono fun _ _ => Rep.mono (hro _)
      · simp only [List.nil_append]
        rw [← hnl]
        simp
    · have hcl := flatLen h7
      by_cases hroom : xs.length + ys.length ≤ cap
      · have hrun := run_append_room (P := P) w t ty e i hu hi1 gg xs.length cap cur h3 a ys.length capx css'.flatten (by rw [hnl, hi2]) hx2 hn1 hroom (by
          rw [hi2, hnl, h6, ← Nat.add_mul]
          exact Nat.mul_le_mul_right _ hroom)
        rw [hi2] at hrun
        have hev : Evo [k] [k] o w o (w.setRow gg (cur.toList.take (xs.length * Rep.sz α) ++ css'.flatten ++ cur.toList.drop (xs.length * Rep.sz α + css'.flatten.length)).toArray) := (Evo.row _ h2).weaken (by simp) (by simp)
        refine ⟨_, _, o, hrun, hev, .inr ⟨gg, cap, _, css ++ css', by simp, h2, setRow_heap w gg cur _ e _ h3, by simpa using hroom, h5, ?_, ?_, ?_⟩⟩
        · have hfit : (xs.length + ys.length) * Rep.sz α ≤ cap * Rep.sz α := Nat.mul_le_mul_right _ hroom
          rw [Nat.add_mul] at hfit
          simp only [List.size_toArray, List.length_append, List.length_take, List.length_drop, Array.length_toList, h6, hnl]
          omega
        · exact All2.append (h7.mono fun _ _ => Rep.mono (hev.ro hd)) (hx1.mono fun _ _ => Rep.mono (hev.ro hd))
        · simp only [List.length_append, List.flatten_append]
          rw [h8, Nat.add_mul, ← hnl, ← hcl, ← List.length_append]
          exact List.take_left
      · have hols : ∀ (j : Nat) (u : Value), css.flatten[j]? = some u → w.cell? ((⟨gg, 0, none⟩ : Addr).add j) = some u := by
          intro j u hu
          have hadd : (⟨gg, 0, none⟩ : Addr).add j = ⟨gg, j, none⟩ := by unfold Addr.add; split <;> simp_all
          rw [hadd, cell_of_row w gg j cur e (0, 0) h3]
          rw [← h8, List.getElem?_take] at hu
          split at hu
          · simpa using hu
          · cases hu
        have hrun := run_append_grow (P := P) w t ty e i _ hu hi1 hi4 ⟨gg, 0, none⟩ xs.length cap css.flatten (by rw [hcl, hi2]) hols a ys.length capx css'.flatten (by rw [hnl, hi2]) hx2 (by omega) (by omega) (growslice_fits (by omega) hbytes)
        have hge := grownCap_ge w (xs.length + ys.length) cap e
        have hro : ∀ (ob : Obj) (b : Nat), In o K b → b < w.heap.size → In (grow o w k) K b ∧ (w.drew.alloc ob).heap[b]? = w.heap[b]? := fun ob b hb hlt =>
          ⟨by simp [In, grow, hlt] at hb ⊢; exact hb, Below.heap_alloc w.drew _ b hlt⟩
        refine ⟨_, _, grow o w k, hrun, ?_, .inr ⟨w.heap.size, grownCap w (xs.length + ys.length) cap e, _, css ++ css', by simp, grow_new o w k _ (Nat.le_refl _), heap_alloc_new w.drew _, by simpa using hge, ?_, ?_, ?_, ?_⟩⟩
        · exact (Evo.fresh k ((Below.refl _ _).drew.alloc (Nat.le_refl _) _)).weaken (by simp) (by simp)
        · exact grownCap_le_maxLen w _ _ _ (by unfold maxLen; omega)
        · simp only [Array.size_append, List.size_toArray, size_zeroCells, hzs, hnl, hcl, ← Nat.add_mul]
          congr 1
          omega
        · exact All2.append (h7.mono fun _ _ => Rep.mono (hro _)) (hx1.mono fun _ _ => Rep.mono (hro _))
        · simp only [List.length_append, List.flatten_append, Array.toList_append, List.append_assoc]
          rw [Nat.add_mul, ← hnl, ← hcl, ← List.length_append, ← List.append_assoc]
          exact List.take_left
end
end Dp
end Go.Proofs.Ytdfkfohpgakihaa
