/- Functions handed as values, and slices that a call turns in place. Nothing here names a program. -/
import Derived.Test.YtdfkfohpgakihaaDw
set_option linter.unusedVariables false
set_option linter.unusedSimpArgs false
namespace Go.Proofs.Ytdfkfohpgakihaa
open Go Go.RowKit

namespace Dp

theorem grown_trans {w w1 w2 : World} {sb : Option Nat} (h : w.grownBy w1 sb) (k : w1.grownBy w2 sb) : w.grownBy w2 sb :=
  ⟨k.os.trans h.os, k.tape.trans h.tape, k.output.trans h.output, Nat.le_trans h.size k.size, fun b hb hne => (k.block b (Nat.lt_of_lt_of_le hb h.size) hne).trans (h.block b hb hne)⟩
theorem grown_none {w w1 : World} (sb : Option Nat) (h : w.grownBy w1 none) : w.grownBy w1 sb :=
  ⟨h.os, h.tape, h.output, h.size, fun b hb _ => h.block b hb (by simp)⟩
theorem grown_refl (w : World) (sb : Option Nat) : w.grownBy w sb := ⟨rfl, rfl, rfl, Nat.le_refl _, fun _ _ _ => rfl⟩

section
variable {P : Program} {α β γ : Type} [Rep α] [Rep β] [Rep γ] {W W' : World → Prop} {g : FuncId} {caps : Array Value}

def Enters (P : Program) (g : FuncId) : Prop := ∀ (args : Array Value) (w : World), (callFunc g args).run P w = .ok (.enter g args) w
/-- a function value of one argument that answers as f does, in every world of W -/
def Fn1 (P : Program) (g : FuncId) (caps : Array Value) (W : World → Prop) (f : α → Option γ) : Prop :=
  Enters P g ∧ ∀ (w : World), W w → ∀ (x : α) (r : γ), f x = some r → ∀ (v : Value) (S : Nat → Prop), Rv S w v x →
    Calls P g ([v].toArray ++ caps) w (Ret fun u w' => Below w.heap.size w w' ∧ Rv (fun b => w.heap.size ≤ b) w' u r)
def Fn2 (P : Program) (g : FuncId) (caps : Array Value) (W : World → Prop) (f : α → β → Option γ) : Prop :=
  Enters P g ∧ ∀ (w : World), W w → ∀ (x : α) (y : β) (r : γ), f x y = some r → ∀ (v v' : Value) (S S' : Nat → Prop), Rv S w v x → Rv S' w v' y →
    Calls P g ([v, v'].toArray ++ caps) w (Ret fun u w' => Below w.heap.size w w' ∧ Rv (fun b => w.heap.size ≤ b) w' u r)
theorem Fn1.mono {f : α → Option γ} (h : Fn1 P g caps W f) (hW : ∀ w, W' w → W w) : Fn1 P g caps W' f := ⟨h.1, fun w hw => h.2 w (hW w hw)⟩
theorem Fn2.mono {f : α → β → Option γ} (h : Fn2 P g caps W f) (hW : ∀ w, W' w → W w) : Fn2 P g caps W' f := ⟨h.1, fun w hw => h.2 w (hW w hw)⟩

/-- a captured variable, at the closure's call and later -/
theorem PtrAt.arg {S : Nat → Prop} {w0 : World} {sb : Option Nat} {pa : Addr} {x : α} (h : PtrAt S w0 pa x) (hs : ∀ b, S b → some b ≠ sb) : PtrAt (In (ent w0 sb) [0]) w0 pa x :=
  h.mono fun b hb hlt => ⟨by simp [In, ent, hlt, hs b hb], rfl⟩
theorem PtrAt.arg0 {S : Nat → Prop} {w0 : World} {pa : Addr} {x : α} (h : PtrAt S w0 pa x) : PtrAt (In (ent w0 none) [0]) w0 pa x := h.arg fun _ _ => by simp
theorem PtrAt.base {w0 : World} {sb : Option Nat} {o : Cls} {w : World} {pa : Addr} {x : α} (h : PtrAt (In (ent w0 sb) [0]) w0 pa x) (k : Ent w0 sb o w) : PtrAt (In o [0]) w pa x :=
  h.mono fun b hb hlt => by
    have h0 : ent w0 sb b = 0 := by simpa [In] using hb
    refine ⟨by simp [In, k.old b hlt, h0], k.blk b hlt fun e => ?_⟩
    simp [ent, hlt, e] at h0
/-- what a caller's variable holds, as a closure reads it in a later world -/
theorem Bk.grown {o : Cls} {c : Nat} {K : List Nat} {w w' : World} {pa : Addr} {cs : List Value} {x : α} {sb : Option Nat} (h : Bk o c w pa cs) (hr : Rep.rd (In o K) w cs x) (k : w.grownBy w' sb) (hs : ∀ b, b < w.heap.size → In o (c :: K) b → some b ≠ sb) : PtrAt (fun _ => True) w' pa x := by
  have h1 : PtrAt (In o (c :: K)) w pa x := by
    refine ⟨cs, Rep.mono (fun b hb _ => ⟨List.mem_cons_of_mem _ hb, rfl⟩) hr, ?_, ?_⟩
    · obtain ⟨_, _, h3, _⟩ := h
      show o pa.block ∈ c :: K
      rw [h3]; exact List.mem_cons_self
    · have := h.at 0 cs.length (by simp)
      rw [add_zero'] at this
      simpa using this
  exact h1.mono fun b hb hlt => ⟨trivial, k.block b hlt (hs b hlt hb)⟩
end

section
variable {α : Type} [Rep α] {T : TypeId} {o o' : Cls} {k : Nat} {K M N : List Nat} {w w' : World} {v : Value} {xs : List α}
/-- a slice that the call may turn: the head of block db, or nil -/
def OwD (T : TypeId) (db : Nat) (w : World) (v : Value) (xs : List α) : Prop := Ow T (fun b => if b = db then 1 else 0) 1 [] w v xs
theorem OwD.in [Flat α] {db : Nat} (h : OwD T db w v xs) : Ow T (ent w (some db)) 1 [] w v xs := by
  rcases h with h | ⟨g, cap, cur, css, h1, h2, h3, h4, h5, h6, h7, h8⟩
  · exact .inl h
  · have hg : g = db := by
      by_cases he : g = db
      · exact he
      · simp [he] at h2
    subst hg
    have hlt : g < w.heap.size := (Array.getElem?_eq_some_iff.1 h3).1
    exact .inr ⟨g, cap, cur, css, h1, by simp [ent, hlt], h3, h4, h5, h6, h7.mono fun _ _ => Flat.any, h8⟩
theorem OwD.out [Flat α] {w0 : World} {db : Nat} {K : List Nat} (h : Ow T o 1 K w v xs) (hE : Ent w0 (some db) o w) : OwD T db w v xs := by
  rcases h with h | ⟨g, cap, cur, css, h1, h2, h3, h4, h5, h6, h7, h8⟩
  · exact .inl h
  · have hg : g = db := by
      by_cases hlt : g < w0.heap.size
      · have := hE.old g hlt
        rw [h2] at this
        unfold ent at this
        rw [if_pos hlt] at this
        by_cases he : g = db
        · exact he
        · simp [he] at this
      · have := hE.new g (Nat.le_of_not_lt hlt) (Array.getElem?_eq_some_iff.1 h3).1
        omega
    subst hg
    exact .inr ⟨g, cap, cur, css, h1, by simp, h3, h4, h5, h6, h7.mono fun _ _ => Flat.any, h8⟩
/-- the caller's side -/
theorem Ow.handed [Flat α] (h : Ow T o k K w v xs) : ∃ db, OwD T db w v xs ∧ (o db = k ∨ w.heap.size ≤ db) ∧ (v = .slice none 0 0 ∨ db < w.heap.size) := by
  rcases h with h | ⟨g, cap, cur, css, h1, h2, h3, h4, h5, h6, h7, h8⟩
  · exact ⟨w.heap.size, .inl h, .inr (Nat.le_refl _), .inl h.1⟩
  · exact ⟨g, .inr ⟨g, cap, cur, css, h1, by simp, h3, h4, h5, h6, h7.mono fun _ _ => Flat.any, h8⟩, .inl h2, .inr (Array.getElem?_eq_some_iff.1 h3).1⟩
theorem handed_new {db : Nat} (n : Nat) (hd : o db = k ∨ w.heap.size ≤ db) (h : w.grownBy w' (some db)) : ∃ o', Evo [k] [n] o w o' w' ∧ ∀ b, w.heap.size ≤ b → o' b = n :=
  ⟨grow o w n, ⟨h.os, h.tape, h.output, h.size, fun b hb => by simp [grow, hb], fun b h1 _ => by simp [grow, Nat.not_lt.2 h1], fun b hb hne => h.block b hb fun e => by
    cases e
    rcases hd with hd | hd
    · exact hne (by simp [hd])
    · omega⟩, fun b hb => grow_new o w n b hb⟩
theorem handed_back [Flat α] {db : Nat} (hd : o db = k ∨ w.heap.size ≤ db) (hv : v = .slice none 0 0 ∨ db < w.heap.size) (e : Evo M N o w o' w') (h : OwD T db w' v xs) : Ow T o' k [] w' v xs := by
  rcases h with h | ⟨g, cap, cur, css, h1, h2, h3, h4, h5, h6, h7, h8⟩
  · exact .inl h
  · have hg : g = db := by
      by_cases he : g = db
      · exact he
      · simp [he] at h2
    subst hg
    rcases hv with hv | hv
    · rw [hv] at h1; cases h1
    · refine .inr ⟨g, cap, cur, css, h1, ?_, h3, h4, h5, h6, h7.mono fun _ _ => Flat.any, h8⟩
      rw [e.old g hv]
      rcases hd with hd | hd
      · exact hd
      · omega
theorem handed_not {db : Nat} (hd : o db = k ∨ w.heap.size ≤ db) (hk : disj K [k] = true) : ∀ b, b < w.heap.size → In o K b → some b ≠ some db := by
  rintro b hlt hb e
  cases e
  rcases hd with hd | hd
  · rw [In, hd] at hb
    exact disj_spec hk hb List.mem_cons_self
  · omega
theorem Ent.handed {w0 : World} {sb : Option Nat} {db : Nat} (hE : Ent w0 sb o w) (hd : o db = k ∨ w.heap.size ≤ db) (hk : Nat.ble 1 k = true) (h : w.grownBy w' (some db)) : w0.grownBy w' sb :=
  ⟨h.os.trans hE.os, h.tape.trans hE.tape, h.output.trans hE.output, Nat.le_trans hE.size h.size, fun b hb hne => by
    rw [← hE.blk b hb hne]
    refine h.block b (Nat.lt_of_lt_of_le hb hE.size) fun e => ?_
    rw [← Option.some.inj e] at hd
    have h0 : o b = 0 := by rw [hE.old b hb, ent, if_pos hb, if_neg hne]
    have := Nat.le_of_ble_eq_true hk
    have := hE.size
    rcases hd with hd | hd <;> omega⟩
end

/-! a function's end without a return -/
section
variable {P : Program} {n : Nat} {L : List (Nat × Value)} {w : World}
theorem NK.fall {fn : Func} {R : Ending → World → Prop} (hr : fn.results = #[]) (hR : R (.returned (resVal [])) w) : NK n (bodyPost P fn R .normal) L w :=
  fun a ha => ⟨ha.defers, _, results_all (L := L) (rs := []) (vs := []) (fun _ _ hx => ha.ev hx) hr trivial, hR⟩
end
section
variable {P : Program} {n : Nat} {L : List (Nat × Value)} {w : World} {Q : Exit → Act → World → Prop} {c : Code}
theorem CW.tail (h : ∀ K : Act → World → Prop, (∀ L' w', NK n (Q .normal) L' w' → NK n K L' w') → CW P n c (Exit.then K Q) L w) : CW P n c Q L w := by
  have h1 := h (Q .normal) (fun _ _ h => h)
  have e : Exit.then (Q .normal) Q = Q := by
    funext x
    cases x <;> rfl
  rwa [e] at h1
end
section
variable {α : Type} [Rep α] {P : Program} {n : Nat} {Q : Exit → Act → World → Prop} {L : List (Nat × Value)} {w : World} {d : Option Tmp} {ty : TypeId} {pos : String} {af : Array Edge} {g : Option (Nat × Bool)} {t : TypeId}
/-- a slice value's head alone -/
def Hd (v : Value) (xs : List α) : Prop := ∃ p cap, v = .slice p xs.length cap ∧ (xs = [] ∨ ∃ a, p = some a)
theorem Rv.hd {S : Nat → Prop} {v : Value} {xs : List α} (h : Rv S w v xs) : Hd v xs := by
  obtain ⟨p, cap, rfl, h1, h2, h3⟩ := rv_list h
  refine ⟨p, cap, rfl, ?_⟩
  rcases h3 with h3 | ⟨a, css, rfl, _⟩
  · exact .inl h3
  · exact .inr ⟨a, rfl⟩
theorem OW.indexAddrH {e : TypeId} {v : Value} {xs : List α} {y : α} {u i : Operand} {k : IntKind} {j : Int} (hu : P.underlying t = some (.slice e)) (hT : TyOk P e α) (hx : ev L u = some v) (h : Hd v xs)
    (hi : ev L i = some (.int k j)) (hj : idx xs j = some y) :
    OW P Q L ⟨d, .indexAddr t u i, ty, pos, af, g⟩ w (fun v' w' => w' = w ∧ ∃ pa, v' = .pointer (some pa) ∧ EPtr v (Rep.sz α) j pa) := by
  obtain ⟨p, cap, rfl, h3⟩ := h
  unfold idx at hj
  split at hj
  · rename_i h0
    have hlt : j.toNat < xs.length := (List.getElem?_eq_some_iff.1 hj).1
    rcases h3 with h3 | ⟨a, rfl⟩
    · subst h3; simp at hj
    · refine OW.run fun b hb => ⟨_, w, ?_, rfl, a.add (j.toNat * Rep.sz α), rfl, a, _, cap, rfl, rfl⟩
      have hjl : j < (xs.length : Int) := by omega
      have e1 : b.eval u = _ := hb _ _ hx
      have e2 : b.eval i = _ := hb _ _ hi
      simp [execOp, e1, e2, Instr.indexAt, asIntOf, run_underlying hu, h0, hjl, hT.sizeOf]
  · cases hj
theorem OW.loadF {S : Nat → Prop} {pa : Addr} {v : Value} {x : Operand} (hT : TyOk P t FnV) (hx : ev L x = some (.pointer (some pa))) (h : PtrAt S w pa (⟨v⟩ : FnV)) :
    OW P Q L ⟨d, .load t x, ty, pos, af, g⟩ w (fun v' w' => v' = v ∧ w' = w) := by
  intro a K ha hK
  refine OW.load hT hx h a K ha ?_
  rintro v' w' ⟨rfl, hr⟩
  exact hK _ _ ⟨rv_fn hr, rfl⟩
theorem Rv.rdA {S : Nat → Prop} {cs : Array Value} {x : α} (h : Rv S w (.agg cs) x) (hg : Rep.agg α = true) : Rep.rd S w cs.toList x := by
  obtain ⟨l, h1, h2⟩ := h
  simp only [pack, hg, if_true] at h1
  cases h1
  simpa using h2
theorem OW.makeFunc {f : Fn} {xs : List Operand} {vs : List Value} (h : evs L xs = some vs) : OW P Q L ⟨d, .makeFunc f #[] xs.toArray, ty, pos, af, g⟩ w (fun v' w' => v' = .func f #[] vs.toArray ∧ w' = w) := by
  refine OW.run fun a hr => ⟨_, w, ?_, rfl, rfl⟩
  have h2 : xs.toArray.map a.eval = vs.toArray := by rw [← evs_map hr _ h]; simp
  simp [execOp, Instr.makeFunc] at h2 ⊢
  rw [h2]
end
end Dp
end Go.Proofs.Ytdfkfohpgakihaa
