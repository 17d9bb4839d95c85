/- The rules: elements of own slices, child slices, parts of own slices, clear. Nothing here names a program. -/
import Derived.Test.YtdfkfohpgakihaaDf
set_option linter.unusedVariables false
set_option linter.unusedSimpArgs false
namespace Go.Proofs.Ytdfkfohpgakihaa
open Go Go.RowKit

namespace Dp

section
variable {α β : Type} [Rep α] [Rep β]
variable {P : Program} {n : Nat} {Q : Exit → Act → World → Prop} {L : List (Nat × Value)} {w w' : World} {d : Option Tmp} {ty : TypeId} {pos : String} {af : Array Edge} {g : Option (Nat × Bool)} {t T Tc e : TypeId} {o o' : Cls} {K K' M N : List Nat} {k kc z : Nat}

/-- a pointer into a block of owner k; what lies there belongs to K -/
def PtrO (o : Cls) (k : Nat) (K : List Nat) (w : World) (pa : Addr) (x : α) : Prop := ∃ cs, Rep.rd (In o K) w cs x ∧ o pa.block = k ∧ CellsAt w pa cs
theorem PtrO.evo {pa : Addr} {x : α} (r : PtrO o k K w pa x) (h : Evo M N o w o' w') (hd : disj (k :: K) M = true) : PtrO o' k K w' pa x := by
  obtain ⟨cs, h1, h2, h3⟩ := r
  have hlt := h3.lt (by rw [Rep.len h1]; exact Rep.pos)
  have hdK : disj K M = true := by simp only [disj, List.all_cons, Bool.and_eq_true] at hd; exact hd.2
  exact ⟨cs, Rep.mono (h.ro hdK) h1, by rw [h.old _ hlt]; exact h2, h3.mono (h.blk _ hlt (disj_spec hd (by rw [h2]; exact List.mem_cons_self)))⟩
theorem PtrO.at {pa : Addr} {x : α} (r : PtrO o k K w pa x) : PtrAt (In o (k :: K)) w pa x := by
  obtain ⟨cs, h1, h2, h3⟩ := r
  exact ⟨cs, Rep.mono (fun b hb _ => ⟨List.mem_cons_of_mem _ hb, rfl⟩) h1, by show o pa.block ∈ k :: K; rw [h2]; exact List.mem_cons_self, h3⟩
theorem PtrO.fld {i off : Nat} {f : α → β} {pa : Addr} {y : α} (hF : FldOk P T i off f) (h : PtrO o k K w pa y) : PtrO o k K w (pa.add off) (f y) := by
  obtain ⟨cs, h1, h2, h3⟩ := h
  obtain ⟨c1, c, c2, rfl, h4, h5⟩ := hF.prt h1
  refine ⟨c, h5, by rw [add_block]; exact h2, fun j u hu => ?_⟩
  rw [addr_add]
  refine h3 _ _ ?_
  rw [List.append_assoc, List.getElem?_append_right (by omega), ← h4, Nat.add_sub_cancel_left]
  rw [List.getElem?_append_left (List.getElem?_eq_some_iff.1 hu).1]
  exact hu
theorem PtrO.sub {pa : Addr} {x : α} (r : PtrO o k K w pa x) (hs : subN K K' = true) : PtrO o k K' w pa x := by
  obtain ⟨cs, h1, h2, h3⟩ := r
  exact ⟨cs, Rep.mono (fun b hb _ => ⟨subN_spec hs hb, rfl⟩) h1, h2, h3⟩

theorem run_loadAt {S : Nat → Prop} {pa : Addr} {y : α} {cs : List Value} (h : TyOk P t α) (h1 : Rep.rd S w cs y) (h3 : CellsAt w pa cs) : (loadVar t pa).run P w = .ok (pack (Rep.agg α) cs) w := by
  have hl := Rep.len h1
  simp only [loadVar, Sem.run_bind, h.isAgg, Result.andThen_ok]
  cases hg : Rep.agg α with
  | true =>
    have := run_loadCells_list (P := P) w pa cs h3
    rw [hl] at this
    simp [h.sizeOf, this, pack]
  | false =>
    rw [Rep.flat hg] at hl
    match cs, hl, h3 with
    | [u], _, h3 =>
      have := h3 0 u rfl
      have hu : w.cell? pa = some u := by simpa [Addr.add] using this
      simp [pack, hu]
theorem OW.loadO {pa : Addr} {y : α} {x : Operand} (hT : TyOk P t α) (hx : ev L x = some (.pointer (some pa))) (h : PtrO o k K w pa y) :
    OW P Q L ⟨d, .load t x, ty, pos, af, g⟩ w (fun v w' => w' = w ∧ Rv (In o K) w v y) := by
  obtain ⟨cs, h1, _, h3⟩ := h
  refine OW.run fun a ha => ⟨_, w, ?_, rfl, cs, rfl, h1⟩
  simp [execOp, ha _ _ hx, Instr.loadAt, Instr.sureAddr, run_loadAt hT h1 h3]
/-- .. and the cell that it comes from -/
theorem OW.loadCh {pa : Addr} {y : List β} {x : Operand} (hT : TyOk P t (List β)) (hx : ev L x = some (.pointer (some pa))) (h : PtrO o k K w pa y) :
    OW P Q L ⟨d, .load t x, ty, pos, af, g⟩ w (fun v w' => w' = w ∧ Rv (In o K) w v y ∧ CellIs o k w pa v) := by
  obtain ⟨cs, h1, h2, h3⟩ := h
  refine OW.run fun a ha => ⟨_, w, ?_, rfl, ⟨cs, rfl, h1⟩, h2, ?_⟩
  · simp [execOp, ha _ _ hx, Instr.loadAt, Instr.sureAddr, run_loadAt hT h1 h3]
  · obtain ⟨p, cap, rfl, _⟩ := h1
    have := h3 0 _ rfl
    rw [add_zero'] at this
    exact this

theorem OW.indexAddrO {v : Value} {xs : List α} {y : α} {u i : Operand} {q : IntKind} {j : Int} (hu : P.underlying t = some (.slice e)) (hT : TyOk P e α) (hx : ev L u = some v) (h : Ow T o k K w v xs)
    (hi : ev L i = some (.int q j)) (hj : idx xs j = some y) :
    OW P Q L ⟨d, .indexAddr t u i, ty, pos, af, g⟩ w (fun v' w' => w' = w ∧ ∃ pa, v' = .pointer (some pa) ∧ PtrO o k K w pa y ∧ EPtr v (Rep.sz α) j pa) := by
  rcases h with ⟨rfl, rfl⟩ | ⟨gg, cap, cur, css, rfl, h2, h3, h4, h5, h6, h7, h8⟩
  · unfold idx at hj; split at hj <;> simp at hj
  · unfold idx at hj
    split at hj
    case isFalse => cases hj
    rename_i h0
    have hlt : j.toNat < xs.length := (List.getElem?_eq_some_iff.1 hj).1
    obtain ⟨c, hc1, hc2⟩ := h7.get hj
    refine OW.run fun b hb => ⟨_, w, ?_, rfl, (⟨gg, 0, none⟩ : Addr).add (j.toNat * Rep.sz α), rfl, ⟨c, hc2, by rw [add_block]; exact h2, fun m q hq => ?_⟩, _, _, cap, rfl, rfl⟩
    · have hjl : j < (xs.length : Int) := by omega
      have e1 : b.eval u = _ := hb _ _ hx
      have e2 : b.eval i = _ := hb _ _ hi
      simp [execOp, e1, e2, Instr.indexAt, asIntOf, run_underlying hu, h0, hjl, hT.sizeOf]
    · rw [addr_add]
      have h9 := flatten_at h7.sizes hc1 hq
      have hadd : (⟨gg, 0, none⟩ : Addr).add (j.toNat * Rep.sz α + m) = ⟨gg, j.toNat * Rep.sz α + m, none⟩ := by unfold Addr.add; split <;> simp_all
      rw [hadd, cell_of_row w gg _ cur T (0, 0) h3]
      rw [← h8, List.getElem?_take] at h9
      split at h9
      · simpa using h9
      · cases h9

/-- an array value -/
def ArrV (o : Cls) (K : List Nat) (w : World) (v : Value) (xs : List α) : Prop := ∃ css, v = .agg css.flatten.toArray ∧ All2 (Rep.rd (In o K) w) css xs
theorem ArrV.evo {v : Value} {xs : List α} (r : ArrV o K w v xs) (h : Evo M N o w o' w') (hd : disj K M = true) : ArrV o' K w' v xs := by
  obtain ⟨css, h1, h2⟩ := r
  exact ⟨css, h1, h2.mono fun _ _ => Rep.mono (h.ro hd)⟩
theorem OW.indexArrV {m : TypeId} {v : Value} {xs : List α} {y : α} {u i : Operand} {q : IntKind} {j : Int} (hu : P.underlying t = some (.array m e)) (hm : xs.length = m) (hT : TyOk P e α)
    (hx : ev L u = some v) (h : ArrV o K w v xs) (hi : ev L i = some (.int q j)) (hj : idx xs j = some y) :
    OW P Q L ⟨d, .index t u i, ty, pos, af, g⟩ w (fun v' w' => w' = w ∧ Rv (In o K) w v' y) := by
  obtain ⟨css, rfl, h2⟩ := h
  exact OW.indexArr hu hm hT hx h2 hi hj

/-! child slices -/
theorem OW.appendCh [OneLevel α] [Flat β] {s x : Operand} {f : α → List β} {st : α → List β → α} {off : Nat} {v u vx : Value} {xs zs : List α} {y : α} {ys l' : List β} {j : Int} {pa : Addr} {S : Nat → Prop} (hF : Prt off f st) (hu : P.underlying t = some (.slice e)) (hT : TyOk P e β) (hs : ev L s = some u) (hx : ev L x = some vx)
    (ho : OwC (Rep.sz β) T e o k kc w v xs) (hE : EPtr v (Rep.sz α) j pa) (hc : CellIs o k w (pa.add off) u) (hy : idx xs j = some y) (hr : Els S w vx ys) (hz : app (f y) ys = some l') (hz' : setO xs j (st y l') = some zs) (hk : Nat.beq k kc = false) :
    OW P Q L ⟨d, .call { callee := .builtin .append, args := #[s, x], argTypes := #[t, t] }, ty, pos, af, g⟩ w (fun v' w' => ∃ o', Evo [kc] [kc] o w o' w' ∧ OwH (Rep.sz β) T e o' k kc w' v zs (pa.add off) v') := by
  obtain ⟨v', w', o', h1, h2, h3⟩ := run_appendCh (P := P) (ty := ty) hF hu hT ho hE hc hy hr hz hz' hk
  refine OW.run fun a ha => ⟨v', w', ?_, o', h2, h3⟩
  simp [execOp, resolve, invoke, builtin, ha _ _ hs, ha _ _ hx, h1]
theorem EPtr.uniq {v : Value} {j : Int} {p q : Addr} (h1 : EPtr v z j p) (h2 : EPtr v z j q) : p = q := by
  obtain ⟨a, n, c, rfl, rfl⟩ := h1
  obtain ⟨a', n', c', h, rfl⟩ := h2
  cases h
  rfl
theorem OW.storeCh {zb off sz : Nat} {v v' : Value} {xs : List α} {x u : Operand} {pa pb : Addr} {j : Int} (hT : TyOk P t (List β)) (hx : ev L x = some (.pointer (some (pb.add off)))) (hu : ev L u = some v') (hE : EPtr v sz j pa) (hE' : EPtr v sz j pb) (ho : OwH zb T Tc o k kc w v xs (pa.add off) v') :
    OW P Q L ⟨none, .store t x u, ty, pos, af, g⟩ w (fun _ w' => Evo [k] [] o w o w' ∧ OwC zb T Tc o k kc w' v xs) := by
  obtain rfl := hE.uniq hE'
  obtain ⟨gg, q, cur, h1, h2, h3, h4, h5, h6⟩ := ho
  rw [h1] at hx
  have hst := run_storeCells_at P gg q T [v'] 0 cur w h3 (by simp; omega) (by intro u hu; simp at hu; subst hu; exact h4)
  have hev : Evo [k] [] o w o (w.setRow gg (rowPut cur q v')) := Evo.row _ h2
  refine OW.runSkip fun a ha => ⟨_, ?_, hev, h6⟩
  have hcl := cells_one h4
  have hsz : v'.cells.size = 1 := by rw [hcl]; rfl
  have hst' : (storeCells ⟨gg, q, none⟩ [v']).run P w = .ok () (w.setRow gg (rowPut cur q v')) := hst
  have hs1 : Rep.sz (List β) = 1 := rfl
  simp [execOp, ha _ _ hx, ha _ _ hu, Instr.storeAt, Instr.sureAddr, storeVar, hT.sizeOf, hsz, hs1, hcl, hst']
def zcNil (l : List Value) : Bool := l.all fun u => match u with
  | .slice none 0 0 => true
  | .slice _ _ _ => false
  | _ => true
theorem zcNil_spec {l : List Value} (h : zcNil l = true) {p : Option Addr} {n c : Nat} (hm : Value.slice p n c ∈ l) : p = none ∧ n = 0 ∧ c = 0 := by
  have := List.all_eq_true.1 h _ hm
  match p, n, c, this with
  | none, 0, 0, _ => exact ⟨rfl, rfl, rfl⟩
theorem OW.makeC {u1 u2 : Operand} {zs : List α} {m : Int} (kc z : Nat) (Tc : TypeId) (hzc : zcNil (Rep.zc α) = true) (hu : P.underlying t = some (.slice e)) (hT : TyOk P e α) (h1 : ev L u1 = some (.int .i64 m)) (h2 : ev L u2 = some (.int .i64 m)) (hm : mkL α m = some zs) :
    OW P Q L ⟨d, .makeSlice t u1 u2, ty, pos, af, g⟩ w (fun v' w' => ∃ o', Evo [] [k] o w o' w' ∧ OwC z e Tc o' k kc w' v' zs) := by
  unfold mkL at hm
  split at hm
  case isFalse => cases hm
  rename_i hb
  cases hm
  obtain ⟨i, hi1, hi2, hi3, hi4⟩ := hT.info
  have hr := run_make (P := P) w t e i _ hu hi1 hi4 .i64 .i64 m m hb.1 (by omega) (by
    have h : (i.bytes : Int) ≤ 65536 := by omega
    have h' : (i.bytes : Int) * m ≤ 65536 * 1073741824 := Int.mul_le_mul h hb.2 hb.1 (by omega)
    omega) (by omega)
  have hflz : ∀ q : Nat, ∀ u ∈ (List.replicate q (Rep.zc α)).flatten, u ∈ Rep.zc α := by
    intro q u hu
    obtain ⟨l, hl, hul⟩ := List.mem_flatten.1 hu
    rw [List.mem_replicate] at hl
    exact hl.2 ▸ hul
  refine OW.run fun a ha => ⟨.slice (some ⟨w.heap.size, 0, none⟩) m.toNat m.toNat, w.alloc (.cells (madeCells (pack (Rep.agg α) (Rep.zc α)).cells (m.toNat * i.size)) e), ?_, _, Evo.alloc o w _ k, .inr ⟨w.heap.size, m.toNat, _, List.replicate m.toNat (Rep.zc α), ?_, grow_new o w k _ (Nat.le_refl _), heap_alloc_new w _, by simp, ?_, ?_, ?_, ?_, ?_, ?_⟩⟩
  · simp [execOp, ha _ _ h1, ha _ _ h2, hr]
  · simp
  · unfold maxLen; omega
  · simp [size_madeCells, hi2]
  · exact All2.replicate (Rep.zok _ _) _
  · have hz : (pack (Rep.agg α) (Rep.zc α)).cells.toList = Rep.zc α := pack_cells (α := α) (Rep.zok (fun _ => True) w)
    have hzl : (Rep.zc α).length = Rep.sz α := Rep.len (Rep.zok (α := α) (fun _ => True) w)
    have hpos := Rep.pos (α := α)
    generalize hzz : (pack (Rep.agg α) (Rep.zc α)).cells = z at *
    rw [hi2]
    rw [List.length_replicate, List.take_of_length_le (by simp [size_madeCells])]
    unfold madeCells
    have hzs : z.size = Rep.sz α := by rw [← Array.length_toList, hz, hzl]
    have key : ∀ q : Nat, (List.range (q * Rep.sz α)).map (z[· % z.size]!) = (List.replicate q (Rep.zc α)).flatten := by
      intro q
      induction q with
      | zero => simp
      | succ q ih =>
        rw [List.replicate_succ', List.flatten_append, ← ih, Nat.succ_mul, List.range_add, List.map_append]
        congr 1
        simp only [List.map_map, List.flatten_singleton]
        rw [← hz]
        apply List.ext_getElem?
        intro j
        by_cases hj : j < Rep.sz α
        · have e1 : (q * Rep.sz α + j) % z.size = j := by rw [hzs, Nat.mul_comm, Nat.mul_add_mod, Nat.mod_eq_of_lt hj]
          have hj' : j < z.size := by omega
          simp [hj, e1, hj', getElem!_pos]
        · simp [hj, hzs]
    simpa using key m.toNat
  · intro u hu p n c e
    subst e
    exact .inl (zcNil_spec hzc (hflz _ _ hu))
  · intro i j p q n m c d hi _ _
    have := zcNil_spec hzc (hflz _ _ (List.mem_of_getElem? hi))
    cases this.1

/-! parts of own slices -/
/-- v' is the first j elements of v, with all its room -/
def PreOf (v v' : Value) (j : Nat) : Prop := ∃ p n c, v = .slice p n c ∧ v' = .slice p j c ∧ j ≤ n
theorem Ow.pre {v v' : Value} {j : Nat} {xs : List α} (h : Ow T o k K w v xs) (hp : PreOf v v' j) : Ow T o k K w v' (xs.take j) := by
  obtain ⟨p, m, c, h1, rfl, hj⟩ := hp
  rcases h with ⟨rfl, rfl⟩ | ⟨gg, cap, cur, css, rfl, h2, h3, h4, h5, h6, h7, h8⟩
  · cases h1
    have : j = 0 := by omega
    subst this
    exact .inl ⟨rfl, rfl⟩
  · cases h1
    have hl : (xs.take j).length = j := by simp; omega
    refine .inr ⟨gg, c, cur, css.take j, by rw [hl], h2, h3, by omega, h5, h6, h7.take j, ?_⟩
    rw [flatten_take h7.sizes, ← h8, List.take_take, hl]
    congr 1
    exact (Nat.min_eq_left (Nat.mul_le_mul_right _ hj)).symm
theorem OW.sliceV {S : Nat → Prop} {u : Operand} {lo hi : Option Operand} {l h : Int} {v : Value} {xs zs : List α} (hu : P.underlying t = some (.slice e)) (hT : TyOk P e α) (hx : ev L u = some v) (hr : Rv S w v xs) (hlo : OpIs L lo 0 l) (hhi : OpIs L hi (Dp.len xs) h) (hz : slc xs l h = some zs) :
    OW P Q L ⟨d, .slice t u lo hi none, ty, pos, af, g⟩ w (fun v' w' => w' = w ∧ Rv S w v' zs ∧ ∃ p cap, v = .slice p xs.length cap ∧ xs.length ≤ cap ∧ v' = .slice (if cap = l.toNat then p else p.map (·.add (l.toNat * Rep.sz α))) (h.toNat - l.toNat) (cap - l.toNat) ∧ l ≤ h ∧ h ≤ xs.length) := by
  obtain ⟨p, cap, rfl, h1, h2, h3⟩ := rv_list hr
  unfold slc at hz
  split at hz
  case isFalse => cases hz
  rename_i hb
  cases hz
  obtain ⟨b1, b2, b3⟩ := hb
  have hlen : ((xs.take h.toNat).drop l.toNat).length = h.toNat - l.toNat := by simp; omega
  refine OW.run fun a ha => ⟨.slice (if cap = l.toNat then p else p.map (·.add (l.toNat * Rep.sz α))) (h.toNat - l.toNat) (cap - l.toNat), w, ?_, rfl, ⟨_, rfl, _, cap - l.toNat, by rw [hlen], by rw [hlen]; omega, by unfold maxLen at *; omega, ?_⟩, p, cap, rfl, h1, rfl, b2, b3⟩
  · have hlc : h ≤ (cap : Int) := by omega
    have hhn : (h.toNat : Int) = h := by omega
    have hln : (l.toNat : Int) = l := by omega
    rcases hlo with ⟨rfl, rfl⟩ | ⟨yl, rfl, hl⟩ <;> rcases hhi with ⟨rfl, rfl⟩ | ⟨yh, rfl, hh⟩
    · simp [execOp, ha _ _ hx, Instr.sliceAt, run_underlying hu, Instr.slice, Instr.sliceBounds, hT.sizeOf, Dp.len]
    · have b0 : 0 ≤ h := by omega
      simp [execOp, ha _ _ hx, ha _ _ hh, Instr.sliceAt, run_underlying hu, Instr.slice, Instr.sliceBounds, Instr.sliceBound, asIntOf, hT.sizeOf, b0, hlc]
    · have b0 : l ≤ (xs.length : Int) := by unfold Dp.len at b2; omega
      simp [execOp, ha _ _ hx, ha _ _ hl, Instr.sliceAt, run_underlying hu, Instr.slice, Instr.sliceBounds, Instr.sliceBound, asIntOf, hT.sizeOf, b1, b0, Dp.len]
    · have b0 : 0 ≤ h := by omega
      simp [execOp, ha _ _ hx, ha _ _ hl, ha _ _ hh, Instr.sliceAt, run_underlying hu, Instr.slice, Instr.sliceBounds, Instr.sliceBound, asIntOf, hT.sizeOf, b1, b0, hlc, hhn, b2]
  · by_cases he : (xs.take h.toNat).drop l.toNat = []
    · exact .inl he
    · have hlt : l.toNat < h.toNat := by
        rcases Nat.lt_or_ge l.toNat h.toNat with hh | hh
        · exact hh
        · exact (he (List.eq_nil_of_length_eq_zero (by omega))).elim
      rcases h3 with rfl | ⟨a, css, rfl, h4, h5, h6⟩
      · simp at he
      · right
        have hsz := h5.sizes
        refine ⟨a.add (l.toNat * Rep.sz α), (css.take h.toNat).drop l.toNat, ?_, by rw [add_block]; exact h4, (h5.take _).drop _, ?_⟩
        · rw [if_neg (by omega)]; rfl
        · intro j u hj
          rw [addr_add]
          refine h6 _ _ ?_
          rw [flatten_drop (fun c hc => hsz c (List.mem_of_mem_take hc)), flatten_take hsz, List.getElem?_drop, List.getElem?_take] at hj
          split at hj
          · exact hj
          · cases hj

theorem OW.slicePre {u : Operand} {hi : Option Operand} {h : Int} {v : Value} {xs zs : List α} (hu : P.underlying t = some (.slice e)) (hT : TyOk P e α) (hx : ev L u = some v) (ho : Ow T o k K w v xs) (hhi : OpIs L hi (Dp.len xs) h) (hz : slc xs 0 h = some zs) :
    OW P Q L ⟨d, .slice t u none hi none, ty, pos, af, g⟩ w (fun v' w' => w' = w ∧ Rv (In o (k :: K)) w v' zs ∧ PreOf v v' h.toNat ∧ zs = xs.take h.toNat) := by
  refine OW.imp (OW.sliceV hu hT hx ho.rv (.inl ⟨rfl, rfl⟩) hhi hz) ?_
  rintro v' w' ⟨h1, h2, p, cap, h3, h4, h5, h6, h7⟩
  refine ⟨h1, h2, ⟨p, _, cap, h3, ?_, by omega⟩, ?_⟩
  · rw [h5]
    have : ∀ a : Addr, a.add 0 = a := add_zero'
    cases p <;> simp [this]
  · unfold slc at hz
    rw [if_pos ⟨by omega, h6, h7⟩] at hz
    simpa using (Option.some.inj hz).symm

theorem Ow.preS {v v' : Value} {h : Int} {xs zs : List α} (ho : Ow T o k K w v xs) (hp : PreOf v v' h.toNat) (hz : slc xs 0 h = some zs) : Ow T o k K w v' zs := by
  unfold slc at hz
  split at hz
  case isFalse => cases hz
  cases hz
  simpa using ho.pre hp
theorem OwH.hd {v v' : Value} {xs : List α} {pq : Addr} (h : OwH z T Tc o k kc w v xs pq v') : Hd v xs := by
  obtain ⟨_, _, _, _, _, _, _, _, h6⟩ := h
  rcases h6 with ⟨rfl, rfl⟩ | ⟨gg, cap, cur, css, rfl, _⟩
  · exact ⟨none, 0, rfl, .inl rfl⟩
  · exact ⟨_, cap, rfl, .inr ⟨_, rfl⟩⟩

/-- v' is what is left of v behind the first j elements -/
def TailOf (z : Nat) (v v' : Value) (j : Nat) : Prop := ∃ p n c, v = .slice p n c ∧ v' = .slice (if c = j then p else p.map (·.add (j * z))) (n - j) (c - j) ∧ j ≤ n
theorem OW.sliceTail {u : Operand} {lo : Operand} {l : Int} {v : Value} {xs zs : List α} (hu : P.underlying t = some (.slice e)) (hT : TyOk P e α) (hx : ev L u = some v) (ho : Ow T o k K w v xs) (hlo : ev L lo = some (.int .i64 l)) (hz : slc xs l (Dp.len xs) = some zs) :
    OW P Q L ⟨d, .slice t u (some lo) none none, ty, pos, af, g⟩ w (fun v' w' => w' = w ∧ Rv (In o (k :: K)) w v' zs ∧ TailOf (Rep.sz α) v v' l.toNat) := by
  refine OW.imp (OW.sliceV hu hT hx ho.rv (.inr ⟨_, rfl, hlo⟩) (.inl ⟨rfl, rfl⟩) hz) ?_
  rintro v' w' ⟨h1, h2, p, cap, h3, h4, h5, h6, h7⟩
  refine ⟨h1, h2, p, _, cap, h3, ?_, by unfold Dp.len at h6; omega⟩
  rw [h5]
  unfold Dp.len
  simp

theorem cells_repl (z : Array Value) (hp : 0 < z.size) : ∀ q : Nat, (List.range (q * z.size)).map (z[· % z.size]!) = (List.replicate q z.toList).flatten := by
  intro q
  induction q with
  | zero => simp
  | succ q ih =>
    rw [List.replicate_succ', List.flatten_append, ← ih, Nat.succ_mul, List.range_add, List.map_append]
    congr 1
    simp only [List.map_map, List.flatten_singleton]
    apply List.ext_getElem?
    intro j
    by_cases hj : j < z.size
    · have e1 : (q * z.size + j) % z.size = j := by rw [Nat.mul_comm, Nat.mul_add_mod, Nat.mod_eq_of_lt hj]
      simp [hj, e1, getElem!_pos]
    · simp [hj]
/-- clear of the rest of an own slice -/
theorem OW.clearTail {u : Operand} {v v' : Value} {j : Nat} {xs : List α} (hu : P.underlying t = some (.slice e)) (hT : TyOk P e α) (hx : ev L u = some v') (ho : Ow T o k K w v xs) (ht : TailOf (Rep.sz α) v v' j) (hd : disj K [k] = true) :
    OW P Q L ⟨d, .call { callee := .builtin .clear, args := #[u], argTypes := #[t] }, ty, pos, af, g⟩ w (fun _ w' => Evo [k] [] o w o w' ∧ Ow T o k K w' v (xs.take j ++ List.replicate (xs.length - j) Rep.zero)) := by
  obtain ⟨p, m, c, h1, rfl, hj⟩ := ht
  by_cases he : m - j = 0
  · have hm : m = xs.length := by
      rcases ho with ⟨rfl, rfl⟩ | ⟨gg, cap, cur, css, rfl, _⟩
      · cases h1; rfl
      · cases h1; rfl
    have hxs : xs.take j ++ List.replicate (xs.length - j) Rep.zero = xs := by
      rw [show xs.length - j = 0 from by omega, List.replicate_zero, List.append_nil, List.take_of_length_le (by omega)]
    rw [hxs]
    refine OW.run fun a ha => ⟨.tuple #[], w, ?_, Evo.refl _ _ _ _, ho⟩
    have e0 : (Builtin.clear_ #[t] ty #[Value.slice (if c = j then p else p.map (·.add (j * Rep.sz α))) (m - j) (c - j)]).run P w = .ok (.tuple #[]) w := by
      rw [he]
      cases (if c = j then p else p.map (·.add (j * Rep.sz α))) <;> simp [Builtin.clear_, run_underlying hu]
    simp [execOp, resolve, invoke, builtin, ha _ _ hx, e0]
  · rcases ho with ⟨rfl, rfl⟩ | ⟨gg, cap, cur, css, rfl, h2, h3, h4, h5, h6, h7, h8⟩
    · cases h1; omega
    · cases h1
      obtain ⟨i, hi1, hi2, hi3, hi4⟩ := hT.info
      have hcj : ¬ c = j := by omega
      have hadd : (⟨gg, 0, none⟩ : Addr).add (j * Rep.sz α) = ⟨gg, j * Rep.sz α, none⟩ := by unfold Addr.add; split <;> simp_all
      have hz : (pack (Rep.agg α) (Rep.zc α)).cells.toList = Rep.zc α := pack_cells (α := α) (Rep.zok (fun _ => True) w)
      have hzl : (Rep.zc α).length = Rep.sz α := Rep.len (Rep.zok (α := α) (fun _ => True) w)
      have hzs : (pack (Rep.agg α) (Rep.zc α)).cells.size = Rep.sz α := by rw [← Array.length_toList, hz, hzl]
      have hzc : (Builtin.zeroCells (pack (Rep.agg α) (Rep.zc α)).cells (xs.length - j)).toList = (List.replicate (xs.length - j) (Rep.zc α)).flatten := by
        have := cells_repl (pack (Rep.agg α) (Rep.zc α)).cells (by rw [hzs]; exact Rep.pos) (xs.length - j)
        rw [hz] at this
        rw [← this]
        simp [Builtin.zeroCells]
      have hfl := flatLen h7
      have hmul : xs.length * Rep.sz α ≤ c * Rep.sz α := Nat.mul_le_mul_right _ h4
      have hsub : (xs.length - j) * Rep.sz α = xs.length * Rep.sz α - j * Rep.sz α := Nat.sub_mul _ _ _
      have hjm : j * Rep.sz α ≤ xs.length * Rep.sz α := Nat.mul_le_mul_right _ hj
      have hrl : (List.replicate (xs.length - j) (Rep.zc α)).flatten.length = (xs.length - j) * Rep.sz α := by simp [hzl]
      have hone : ∀ u ∈ (List.replicate (xs.length - j) (Rep.zc α)).flatten, u.oneCell' = true := by
        intro u hu
        obtain ⟨l, hl, hul⟩ := List.mem_flatten.1 hu
        rw [List.mem_replicate] at hl
        exact Rep.one (Rep.zok (α := α) (fun _ => True) w) u (hl.2 ▸ hul)
      have hst := run_storeCells_at P gg (j * Rep.sz α) T (List.replicate (xs.length - j) (Rep.zc α)).flatten 0 cur w h3 (by omega) hone
      simp only [Nat.add_zero] at hst
      have hev : Evo [k] [] o w o (w.setRow gg (cur.toList.take (j * Rep.sz α) ++ (List.replicate (xs.length - j) (Rep.zc α)).flatten ++ cur.toList.drop (j * Rep.sz α + (List.replicate (xs.length - j) (Rep.zc α)).flatten.length)).toArray) := Evo.row _ h2
      have hlen : (xs.take j ++ List.replicate (xs.length - j) (Rep.zero : α)).length = xs.length := by simp; omega
      refine OW.run fun a ha => ⟨.tuple #[], _, ?_, hev, .inr ⟨gg, c, _, css.take j ++ List.replicate (xs.length - j) (Rep.zc α), by rw [hlen], h2, setRow_heap w gg cur _ T _ h3, by rw [hlen]; exact h4, h5, ?_, ?_, ?_⟩⟩
      · have e0 : (Builtin.clear_ #[t] ty #[Value.slice (some ⟨gg, j * Rep.sz α, none⟩) (xs.length - j) (c - j)]).run P w = .ok (.tuple #[]) (w.setRow gg (cur.toList.take (j * Rep.sz α) ++ (List.replicate (xs.length - j) (Rep.zc α)).flatten ++ cur.toList.drop (j * Rep.sz α + (List.replicate (xs.length - j) (Rep.zc α)).flatten.length)).toArray) := by
          obtain ⟨q, hq⟩ : ∃ q, xs.length - j = q + 1 := ⟨xs.length - j - 1, by omega⟩
          rw [hq] at hst hzc ⊢
          simp [Builtin.clear_, run_underlying hu, hT.zero, hzc, hst]
        simp [execOp, resolve, invoke, builtin, ha _ _ hx, hcj, hadd, e0]
      · simp [hzl]
        omega
      · exact All2.append ((h7.take j).mono fun _ _ => Rep.mono (hev.ro hd)) (All2.replicate (Rep.zok _ _) _)
      · rw [hlen, List.flatten_append, flatten_take h7.sizes, ← h8, List.take_take, Nat.min_eq_left hjm]
        show (cur.toList.take (j * Rep.sz α) ++ (List.replicate (xs.length - j) (Rep.zc α)).flatten ++ cur.toList.drop _).take _ = _
        rw [List.take_append_of_le_length (by simp [hzl]; omega), List.take_of_length_le (by simp [hzl]; omega)]
end

/-! short forms for walks -/
section
variable {P : Program} {n : Nat} {Q : Exit → Act → World → Prop} {L : List (Nat × Value)} {w : World} {ops : Array Oper} {rest : List Oper}
theorem CW.sr {id : Nat} {l : List Oper} {y : Code} (h : ∀ K : Act → World → Prop, (∀ L' w', CW P n y Q L' w' → NK n K L' w') → WL P n l.toArray (Exit.then K Q) l L w) : CW P n (.seq (.region id l.toArray false) y) Q L w :=
  CW.seq fun K hK => CW.region (h K hK)
theorem WL.nx {y : Code} {K : Act → World → Prop} {Q' : Exit → Act → World → Prop} (hK : ∀ L' w', CW P n y Q' L' w' → NK n K L' w') (h : CW P n y Q' L w) : WL P n ops (Exit.then K Q) [] L w := WL.nil (hK _ _ h)
theorem WL.p {d : Nat} {op : Op} {ty : TypeId} {pos : String} {af : Array Edge} (v : Value) (h : Dp.pv L op = some v) (hd : Nat.blt d n = true) (k : WL P n ops Q rest ((d, v) :: L) w) : WL P n ops Q (⟨some d, op, ty, pos, af, none⟩ :: rest) L w := WL.v h hd k
end

/-! short forms for regions that draw their order -/
/-- a fact that stays where its owners' blocks do -/
structure SF (N : List Nat) where
  f : AFact
  st : ∀ (x : List Value) (o : Cls) (w : World) (o' : Cls) (w' : World) (M : List Nat), Evo M N o w o' w' → disj f.K M = true → f.G x o w → f.G x o' w'
abbrev sfs {N : List Nat} (l : List (SF N)) : List AFact := l.map (·.f)
theorem sfs_stab {N : List Nat} : ∀ l : List (SF N), StabAll N (sfs l)
  | [] => trivial
  | f :: r => ⟨f.st, sfs_stab r⟩
section
variable {α : Type} [Rep α] {N : List Nat}
def sRv (s e : Option Nat) (dep : List Nat) (K : List Nat) (v : List Value → Value) (xs : α) : SF N := ⟨⟨s, e, K, dep, fun x o w => Rv (In o K) w (v x) xs⟩, fun _ _ _ _ _ _ ev hd h => Rv.evo h ev hd⟩
def sOw (s e : Option Nat) (dep : List Nat) (T : TypeId) (k : Nat) (K : List Nat) (v : List Value → Value) (xs : List α) : SF N := ⟨⟨s, e, k :: K, dep, fun x o w => Ow T o k K w (v x) xs⟩, fun _ _ _ _ _ _ ev hd h => Ow.evo h ev hd⟩
def sOc (s e : Option Nat) (dep : List Nat) (z : Nat) (T Tc : TypeId) (k kc : Nat) (v : List Value → Value) (xs : List α) : SF N := ⟨⟨s, e, [k, kc], dep, fun x o w => OwC z T Tc o k kc w (v x) xs⟩, fun _ _ _ _ _ _ ev hd h => OwC.evo h ev hd⟩
def sOh (s e : Option Nat) (dep : List Nat) (z : Nat) (T Tc : TypeId) (k kc : Nat) (v : List Value → Value) (xs : List α) (p : List Value → Addr) (u : List Value → Value) : SF N := ⟨⟨s, e, [k, kc], dep, fun x o w => OwH z T Tc o k kc w (v x) xs (p x) (u x)⟩, fun _ _ _ _ _ _ ev hd h => OwH.evo h ev hd⟩
def sPt (s e : Option Nat) (dep : List Nat) (K : List Nat) (p : List Value → Addr) (y : α) : SF N := ⟨⟨s, e, K, dep, fun x o w => PtrAt (In o K) w (p x) y⟩, fun _ _ _ _ _ _ ev hd h => PtrAt.evo h ev hd⟩
def sPo (s e : Option Nat) (dep : List Nat) (k : Nat) (K : List Nat) (p : List Value → Addr) (y : α) : SF N := ⟨⟨s, e, k :: K, dep, fun x o w => PtrO o k K w (p x) y⟩, fun _ _ _ _ _ _ ev hd h => PtrO.evo h ev hd⟩
def sAr (s e : Option Nat) (dep : List Nat) (K : List Nat) (v : List Value → Value) (xs : List α) : SF N := ⟨⟨s, e, K, dep, fun x o w => ArrV o K w (v x) xs⟩, fun _ _ _ _ _ _ ev hd h => ArrV.evo h ev hd⟩
end
section
variable {N : List Nat}
def sCe (s e : Option Nat) (dep : List Nat) (k : Nat) (p : List Value → Addr) (u : List Value → Value) : SF N := ⟨⟨s, e, [k], dep, fun x o w => CellIs o k w (p x) (u x)⟩, fun _ _ _ _ _ _ ev hd h => CellIs.evo h ev hd⟩
def sEp (s e : Option Nat) (dep : List Nat) (v : List Value → Value) (z : Nat) (j : Int) (p : List Value → Addr) : SF N := ⟨⟨s, e, [], dep, fun x _ _ => EPtr (v x) z j (p x)⟩, fun _ _ _ _ _ _ _ _ h => h⟩
def sPr (s e : Option Nat) (dep : List Nat) (v v' : List Value → Value) (j : Nat) : SF N := ⟨⟨s, e, [], dep, fun x _ _ => PreOf (v x) (v' x) j⟩, fun _ _ _ _ _ _ _ _ h => h⟩
def sTl (s e : Option Nat) (dep : List Nat) (z : Nat) (v v' : List Value → Value) (j : Nat) : SF N := ⟨⟨s, e, [], dep, fun x _ _ => TailOf z (v x) (v' x) j⟩, fun _ _ _ _ _ _ _ _ h => h⟩
def sBk (s e : Option Nat) (dep : List Nat) (c : Nat) (p : List Value → Addr) (cs : List Value → List Value) : SF N := ⟨⟨s, e, [c], dep, fun x o w => Bk o c w (p x) (cs x)⟩, fun _ _ _ _ _ _ ev hd h => Bk.evo h ev hd⟩
def sSr (s e : Option Nat) (dep : List Nat) (c : Nat) (sb : Nat) (sv : Value) (sL st : List Int) : SF N := ⟨⟨s, e, [c], dep, fun _ o w => SrcC o c w sb sv sL st⟩, fun _ _ _ _ _ _ ev hd h => SrcC.evo h ev hd⟩
end

/-- what is kept in such a region: what the call may do, and what the region may do -/
def Inv (w0 : World) (e0 : Cls) (Mx N : List Nat) (o1 : Cls) (w1 : World) (o : Cls) (w : World) : Prop := En w0 e0 o w ∧ Evo Mx N o1 w1 o w
section
variable {P : Program} {n : Nat} {Q : Exit → Act → World → Prop} {L0 : List (Nat × Value)} {l : List Oper}
theorem CW.anyS {id : Nat} {w w0 : World} {ow e0 : Cls} (hm : P.follows .mixedOrders = true) {N : List Nat} (fs : List (SF N)) (as : List AOp) (Mx : List Nat) (hE : En w0 e0 ow w) (hMN : (okL Mx && okL N) = true)
    (hok : okAll l as (sfs fs) N Mx = true) (hdn : l.all (fun o => match o.dst with | some d => Nat.blt d n | none => true) = true) (h0 : initAll ow w.drew (sfs fs)) (hobs : Obs P Q (Inv w0 e0 Mx N ow w) N (sfs fs) L0 l as l as 0)
    (hend : ∀ (vs : Nat → Value) (o' : Cls) (w' : World), Inv w0 e0 Mx N ow w o' w' → endAll vs o' w' (sfs fs) (NK n (Q .normal) (selE l as L0 vs) w')) :
    CW P n (.region id l.toArray true) Q L0 w := by
  simp only [Bool.and_eq_true] at hMN
  refine CW.any hm (sfs fs) as N Mx (Inv w0 e0 Mx N ow w) hok hdn (sfs_stab fs) ?_ ⟨⟨hE.evo (Evo.drew ow w) rfl rfl, (Evo.drew ow w).weaken (by simp) (by simp)⟩, h0⟩ hobs hend
  rintro o1 w1 o2 w2 M hs ev ⟨h1, h2⟩
  exact ⟨h1.evo ev (List.all_eq_true.2 fun x hx => List.all_eq_true.1 hMN.1 x (subN_spec hs hx)) hMN.2, h2.trans (ev.weaken (fun x hx => subN_spec hs hx) fun _ hx => hx)⟩
theorem Ob.pv {inv : Cls → World → Prop} {N : List Nat} {fs : List AFact} {as : List AOp} {d : Nat} {op : Op} {ty : TypeId} {pos : String} {af : Array Edge} {a : AOp} {i : Nat} (hM : a.M = []) (hpre : a.pre = []) (h : ∀ vs, Dp.pv (sel l as L0 i vs) op = some (a.vl vs)) (hi : a.vdep.contains i = false) (hp : ∀ vs o w, postAll i vs o w fs) :
    Ob P Q inv N fs L0 l as ⟨some d, op, ty, pos, af, none⟩ a i := by
  intro vs ow w _
  rw [hpre]
  refine OW.imp (OW.pv (h vs)) ?_
  rintro v w' ⟨rfl, rfl⟩
  refine ⟨ow, by rw [hM]; exact Evo.refl _ _ _ _, ?_, hp _ _ _⟩
  show a.vl vs = a.vl (updV vs i (a.vl vs))
  unfold AOp.vl
  rw [map_updV (by
    intro hm
    have := (contains_mem (l := a.vdep) (x := i)).2 hm
    rw [hi] at this
    cases this)]
end
theorem NK.sb {n : Nat} {L L' : List (Nat × Value)} {w : World} {K : Act → World → Prop} (h : NK n K L' w) (hs : Dp.sub L' L) : NK n K L w := NK.sub hs h
/-! shorter words for the text of such regions -/
abbrev vk {α β : Type} (a : α) (_ : β) : α := a
abbrev vn (i : Nat) (x : List Value) : Value := x.getD i undef
abbrev vp (i : Nat) (x : List Value) : Addr := pOf (x.getD i undef)
abbrev vq (i : Nat) (x : List Value) : Value := .pointer (some (pOf (x.getD i undef)))
def rg : Nat → Nat → List Nat
  | _, 0 => []
  | a, n + 1 => a :: rg (a + 1) n
theorem er {M N : List Nat} {ow : Cls} {w : World} {C D : Prop} (h : C) (h2 : D) : ∃ o', Evo M N ow w o' w ∧ C ∧ D := ⟨_, Evo.refl _ _ _ _, h, h2⟩
theorem OW.q {P : Program} {Q : Exit → Act → World → Prop} {L : List (Nat × Value)} (L' : List (Nat × Value)) {o : Oper} {w : World} {X : Value} {R' : Value → World → Prop} (hs : Dp.sub L' L) (h : OW P Q L' o w (fun v w' => v = X ∧ w' = w)) (hr : R' X w) : OW P Q L o w R' :=
  OW.imp (OW.fr hs h) (by rintro _ _ ⟨rfl, rfl⟩; exact hr)
theorem OW.r {P : Program} {Q : Exit → Act → World → Prop} {L : List (Nat × Value)} (L' : List (Nat × Value)) {o : Oper} {w : World} {R R' : Value → World → Prop} (hs : Dp.sub L' L) (h : OW P Q L' o w R) (hr : ∀ v w', R v w' → R' v w') : OW P Q L o w R' := OW.imp (OW.fr hs h) hr
theorem Ob.z {P : Program} {Q : Exit → Act → World → Prop} {L0 : List (Nat × Value)} {l : List Oper} {inv : Cls → World → Prop} {N : List Nat} {fs : List AFact} {as : List AOp} {d : Nat} {op : Op} {ty : TypeId} {pos : String} {af : Array Edge} {a : AOp} {i : Nat} (h : (a.M = [] ∧ a.pre = []) ∧ (∀ vs, Dp.pv (sel l as L0 i vs) op = some (a.vl vs)) ∧ a.vdep.contains i = false) (hp : ∀ vs o w, postAll i vs o w fs) :
    Ob P Q inv N fs L0 l as ⟨some d, op, ty, pos, af, none⟩ a i := Ob.pv h.1.1 h.1.2 h.2.1 h.2.2 hp
theorem pvz {A B C : Prop} (a : A) (b : B) (c : C) : A ∧ B ∧ C := ⟨a, b, c⟩

/-! a fact by its own name -/
section
variable {α : Type} [Rep α] {o : Cls} {w : World} {k kc z : Nat} {T Tc : TypeId} {K : List Nat} {v v' : Value} {pa : Addr}
theorem tOw {xs : List α} (h : Ow T o k K w v xs) : Ow T o k K w v xs := h
theorem tRv {x : α} (h : Rv (In o K) w v x) : Rv (In o K) w v x := h
theorem tOc {xs : List α} (h : OwC z T Tc o k kc w v xs) : OwC z T Tc o k kc w v xs := h
theorem tOh {xs : List α} {u : Value} (h : OwH z T Tc o k kc w v xs pa u) : OwH z T Tc o k kc w v xs pa u := h
theorem tPt {x : α} (h : PtrAt (In o K) w pa x) : PtrAt (In o K) w pa x := h
theorem tPo {x : α} (h : PtrO o k K w pa x) : PtrO o k K w pa x := h
theorem tAr {xs : List α} (h : ArrV o K w v xs) : ArrV o K w v xs := h
theorem tBk {cs : List Value} (h : Bk o k w pa cs) : Bk o k w pa cs := h
theorem tCe {u : Value} (h : CellIs o k w pa u) : CellIs o k w pa u := h
theorem tEp {j : Int} (h : EPtr v z j pa) : EPtr v z j pa := h
theorem tPr {j : Nat} (h : PreOf v v' j) : PreOf v v' j := h
theorem tTl {j : Nat} (h : TailOf z v v' j) : TailOf z v v' j := h
theorem tSr {sb : Nat} {sv : Value} {sL st : List Int} (h : SrcC o k w sb sv sL st) : SrcC o k w sb sv sL st := h
end

end Dp
end Go.Proofs.Ytdfkfohpgakihaa
