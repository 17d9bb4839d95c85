/- What it means that something is known: abstract values, blocks and states against the machine's values and memory. Nothing here names a program. Small programs that look at blocks; how a step changes what is known; rules of operations for raw cells. Nothing here names a program. Each operation does what opQ says: those on numbers, pointers, cells. Nothing here names a program. -/
import Derived.Test.YtkgfdplcjdidhaaRb
set_option linter.unusedVariables false
set_option linter.unusedSimpArgs false
set_option linter.unusedSectionVars false
namespace Go.Proofs.Ytkgfdplcjdidhaa
open Go Go.RowKit Dp

namespace Rx

section
variable {D : Nat → Type} [∀ n, Rep (D n)]

/-! data in cells -/
def LfRd (S : Nat → Prop) (w : World) (v : Value) : DV D → Prop
  | ⟨.int k, d⟩ => v = .int k d
  | ⟨.bool, d⟩ => v = .bool d
  | ⟨.str, d⟩ => v = .string d
  | ⟨.sl n, d⟩ => Rv S w v (d : List (D n))
def LRd (S : Nat → Prop) (w : World) : List Value → List (DV D) → Prop
  | [], [] => True
  | v :: vs, d :: ds => LfRd S w v d ∧ LRd S w vs ds
  | _, _ => False
def zeroC : List Lf → List Value
  | [] => []
  | l :: r => (match l with | .int k => .int k 0 | .bool => .bool false | .str => .string ByteArray.empty | .sl _ => .slice none 0 0) :: zeroC r

/-- the table of elements says how they lie in memory -/
structure RepOk (T : Tab D) : Prop where
  sz : ∀ n, Rep.sz (D n) = (T.lv n).length
  ag : ∀ n, Rep.agg (D n) = T.ag n
  zc : ∀ n, Rep.zc (D n) = zeroC (T.lv n)
  zero : ∀ n, (Rep.zero : D n) = T.zero n
  rd : ∀ n S w cs (x : D n), Rep.rd S w cs x ↔ LRd S w cs (T.out n x)
  few : ∀ n, (T.lv n).length ≤ 48
  mkh : ∀ n h, T.outH n (T.mkH n h) = h

theorem LfRd.mono {S S' : Nat → Prop} {w w' : World} (hm : ∀ b, S b → b < w.heap.size → S' b ∧ w'.heap[b]? = w.heap[b]?) {v : Value} : ∀ {d : DV D}, LfRd S w v d → LfRd S' w' v d
  | ⟨.int k, d⟩, h => h
  | ⟨.bool, d⟩, h => h
  | ⟨.str, d⟩, h => h
  | ⟨.sl n, d⟩, h => Rv.mono hm h
theorem LfRd.flat {S S' : Nat → Prop} {w w' : World} {v : Value} : ∀ {d : DV D}, flatL d.l = true → LfRd S w v d → LfRd S' w' v d
  | ⟨.int k, d⟩, _, h => h
  | ⟨.bool, d⟩, _, h => h
  | ⟨.str, d⟩, _, h => h
  | ⟨.sl n, d⟩, h, _ => by cases h
theorem LRd.flat {S S' : Nat → Prop} {w w' : World} : ∀ {vs : List Value} {ds : List (DV D)}, (ds.map DV.l).all flatL = true → LRd S w vs ds → LRd S' w' vs ds
  | [], [], _, _ => trivial
  | v :: vs, d :: ds, hf, h => by
    simp only [List.map_cons, List.all_cons, Bool.and_eq_true] at hf
    exact ⟨h.1.flat hf.1, LRd.flat hf.2 h.2⟩
  | [], _ :: _, _, h => h.elim
  | _ :: _, [], _, h => h.elim
theorem ofHL_ls : ∀ (ts : List Lf) (h : HL D ts), (ofHL ts h).map DV.l = ts
  | [], _ => rfl
  | [l], x => rfl
  | l :: m :: r, x => by simp only [ofHL, List.map_cons, ofHL_ls (m :: r) x.2]
/-- elements without slices look at no memory -/
theorem RepOk.flat {T : Tab D} (hR : RepOk T) {n : Nat} (h : (T.lv n).all flatL = true) : Flat (D n) :=
  ⟨fun {S S' w w' cs x} hr => (hR.rd n S' w' cs x).2 (LRd.flat (by rw [Tab.out, ofHL_ls]; exact h) ((hR.rd n S w cs x).1 hr))⟩
theorem LRd.mono {S S' : Nat → Prop} {w w' : World} (hm : ∀ b, S b → b < w.heap.size → S' b ∧ w'.heap[b]? = w.heap[b]?) : ∀ {vs : List Value} {ds : List (DV D)}, LRd S w vs ds → LRd S' w' vs ds
  | [], [], _ => trivial
  | v :: vs, d :: ds, h => ⟨h.1.mono hm, LRd.mono hm h.2⟩
  | [], _ :: _, h => h.elim
  | _ :: _, [], h => h.elim
theorem LfRd.one {S : Nat → Prop} {w : World} {v : Value} : ∀ {d : DV D}, LfRd S w v d → v.oneCell' = true
  | ⟨.int k, d⟩, h => by cases h; rfl
  | ⟨.bool, d⟩, h => by cases h; rfl
  | ⟨.str, d⟩, h => by cases h; rfl
  | ⟨.sl n, d⟩, h => Rv.one (α := List (D n)) h rfl
theorem LRd.length {S : Nat → Prop} {w : World} : ∀ {vs : List Value} {ds : List (DV D)}, LRd S w vs ds → vs.length = ds.length
  | [], [], _ => rfl
  | v :: vs, d :: ds, h => by simp [LRd.length h.2]
  | [], _ :: _, h => h.elim
  | _ :: _, [], h => h.elim
theorem LRd.append {S : Nat → Prop} {w : World} : ∀ {vs : List Value} {ds : List (DV D)} {us : List Value} {es : List (DV D)}, LRd S w vs ds → LRd S w us es → LRd S w (vs ++ us) (ds ++ es)
  | [], [], _, _, _, h => h
  | v :: vs, d :: ds, _, _, h, h' => ⟨h.1, LRd.append h.2 h'⟩
  | [], _ :: _, _, _, h, _ => h.elim
  | _ :: _, [], _, _, h, _ => h.elim
theorem LRd.take {S : Nat → Prop} {w : World} : ∀ {vs : List Value} {ds : List (DV D)}, LRd S w vs ds → ∀ k, LRd S w (vs.take k) (ds.take k)
  | _, _, _, 0 => by simp [LRd]
  | [], [], _, k + 1 => trivial
  | v :: vs, d :: ds, h, k + 1 => ⟨h.1, LRd.take h.2 k⟩
  | [], _ :: _, h, _ => h.elim
  | _ :: _, [], h, _ => h.elim
theorem LRd.drop {S : Nat → Prop} {w : World} : ∀ {vs : List Value} {ds : List (DV D)}, LRd S w vs ds → ∀ k, LRd S w (vs.drop k) (ds.drop k)
  | _, _, h, 0 => by simpa using h
  | [], [], _, k + 1 => trivial
  | v :: vs, d :: ds, h, k + 1 => by simpa using LRd.drop h.2 k
  | [], _ :: _, h, _ => h.elim
  | _ :: _, [], h, _ => h.elim

/-! typed lists of data and lists of tagged data -/
theorem toHL_of : ∀ (ts : List Lf) (h : HL D ts), toHL ts (ofHL ts h) = some h
  | [], _ => rfl
  | [l], x => by simp [toHL, ofHL]
  | l :: m :: r, x => by
    have ih := toHL_of (m :: r) x.2
    simp only [toHL, ofHL, dif_pos] at ih ⊢
    rw [ih]
    rfl
theorem ofHL_to : ∀ {ts : List Lf} {ds : List (DV D)} {h : HL D ts}, toHL ts ds = some h → ofHL ts h = ds
  | [], [], h, e => rfl
  | [], _ :: _, h, e => by simp [toHL] at e
  | [l], [], h, e => by simp [toHL] at e
  | [l], [⟨l', d⟩], h, e => by
    simp only [toHL] at e
    by_cases hl : l' = l
    · subst hl
      simp only [dif_pos] at e
      cases e
      rfl
    · simp [hl] at e
  | [l], _ :: _ :: _, h, e => by simp [toHL] at e
  | l :: m :: r, [], h, e => by simp [toHL] at e
  | l :: m :: r, ⟨l', d⟩ :: ds', h, e => by
    rw [toHL] at e
    by_cases hl : l' = l
    · subst hl
      simp only [dif_pos] at e
      cases hx : toHL (m :: r) ds' with
      | none => rw [hx] at e; cases e
      | some x =>
        rw [hx] at e
        cases e
        simp only [ofHL, ofHL_to hx]
    · simp [hl] at e
variable {T : Tab D}
theorem RepOk.mk? {n : Nat} {ds : List (DV D)} {x : D n} (hR : RepOk T) (h : T.mk? n ds = some x) : T.out n x = ds := by
  unfold Tab.mk? at h
  split at h
  · rename_i y hy
    cases h
    rw [Tab.out, hR.mkh, ofHL_to hy]
  · cases h
theorem ofHL_len {D : Nat → Type} : ∀ (ts : List Lf) (h : HL D ts), (ofHL ts h).length = ts.length
  | [], _ => rfl
  | [l], x => rfl
  | l :: m :: r, x => by simp [ofHL, ofHL_len (m :: r) x.2]
theorem out_len (T : Tab D) (n : Nat) (x : D n) : (T.out n x).length = (T.lv n).length := ofHL_len _ _
theorem ofOne_un (hR : RepOk T) : ∀ {t : Ht} {ds ds' : List (DV D)} {x : t.den D}, unOne T t ds = some (x, ds') → ds = ofOne T t x ++ ds'
  | .lf l, [], ds', x, e => by simp [unOne] at e
  | .lf l, ⟨l', d⟩ :: r, ds', x, e => by
    simp only [unOne] at e
    by_cases hl : l' = l
    · subst hl
      simp only [dif_pos, Option.some.injEq, Prod.mk.injEq] at e
      obtain ⟨rfl, rfl⟩ := e
      rfl
    · simp [hl] at e
  | .el n, ds, ds', x, e => by
    simp only [unOne] at e
    cases hy : T.mk? n (ds.take (T.lv n).length) with
    | none => simp [hy] at e
    | some y =>
      simp only [hy, Option.some.injEq, Prod.mk.injEq] at e
      obtain ⟨rfl, rfl⟩ := e
      rw [ofOne, hR.mk? hy, List.take_append_drop]
theorem ofHH_to (hR : RepOk T) : ∀ {ts : List Ht} {ds : List (DV D)} {h : HH D ts}, toHH T ts ds = some h → ofHH T ts h = ds
  | [], [], h, e => rfl
  | [], _ :: _, h, e => by simp [toHH] at e
  | [t], ds, h, e => by
    rw [toHH] at e
    cases hx : unOne T t ds with
    | none => simp [hx] at e
    | some y =>
      obtain ⟨x, r⟩ := y
      cases r with
      | nil =>
        simp only [hx] at e
        cases e
        have := ofOne_un hR hx
        simp [ofHH, this]
      | cons _ _ => simp [hx] at e
  | t :: m :: r, ds, h, e => by
    rw [toHH] at e
    cases hx : unOne T t ds with
    | none => simp [hx] at e
    | some y =>
      obtain ⟨x, ds'⟩ := y
      rw [hx] at e
      dsimp only at e
      cases hy : toHH T (m :: r) ds' with
      | none => rw [hy] at e; cases e
      | some z =>
        rw [hy] at e
        cases e
        have := ofOne_un hR hx
        simp only [ofHH, ofHH_to hR hy, this]

/-! ghosts: who owns a block, where a block of the call's own lies, what a name names -/
structure Gh (D : Nat → Type) where
  o : Cls
  g : Nat → Value
  v : Nat → DV D
def roK (K : List Nat) : Prop := ∀ x ∈ K, x < 2
def named (U : Nat → Prop) (γ : Gh D) (t : Nat) (d : DV D) : Prop := t = 0 ∨ (U t ∧ γ.v t = d)
def ptrV (b off : Nat) : Value := .pointer (some ⟨b, off, none⟩)
/-- block b is where the slice lies -/
def headB (v : Value) (b : Nat) : Bool := match v with
  | .slice (some a) _ _ => Nat.beq a.block b
  | _ => false
/-- of the blocks of owner i: 0: the array of the slice v; 1: the others, its elements' own -/
def kcls (o : Cls) (i : Nat) (v : Value) : Cls := fun b => if o b = i then (if headB v b then 0 else 1) else 2
/-- the cells of v's array are named by h -/
def Hdr (γ : Gh D) (w : World) (i h : Nat) : Prop := ∃ cells : Array Value, γ.g h = .agg cells ∧ ∀ (b n c q : Nat), γ.g i = .slice (some ⟨b, 0, none⟩) n c → w.cell? ⟨b, q, none⟩ = cells[q]?

/-- a function as a value: bound to its first arguments (numbers from 1000000 on), or with what it has caught -/
def fnV (f : Nat) (cs : List Value) : Value := if Nat.blt f 1000000 = true then .func (.func f) #[] cs.toArray else .func (.func (f - 1000000)) cs.toArray #[]
theorem fnV_one (f : Nat) (cs : List Value) : (fnV f cs).oneCell' = true := by unfold fnV; split <;> rfl
/-- a slice that is nil -/
def isNilV : Value → Bool
  | .slice none _ _ => true
  | _ => false
def VR0 (U : Nat → Prop) (γ : Gh D) (w : World) : A0 D → Value → Prop
  | .ptr i off, v => U i ∧ ∃ b, γ.g i = ptrV b 0 ∧ v = ptrV b off
  | .rp n x off K, v => ∃ pa : Addr, v = .pointer (some (pa.add off)) ∧ PtrAt (In γ.o K) w pa x ∧ roK K
def VR0s (U : Nat → Prop) (γ : Gh D) (w : World) : List (A0 D) → List Value → Prop
  | [], [] => True
  | a :: as, v :: vs => VR0 U γ w a v ∧ VR0s U γ w as vs
  | _, _ => False
def VR1 (U : Nat → Prop) (γ : Gh D) (w : World) : A1 D → Value → Prop
  | .v l d K t, v => LfRd (In γ.o K) w v ⟨l, d⟩ ∧ named U γ t ⟨l, d⟩ ∧ roK K
  | .ptr i off, v => U i ∧ ∃ b, γ.g i = ptrV b 0 ∧ v = ptrV b off
  | .el i n j y off tc tj, v => U i ∧ (tc ≠ 0 ∧ U tc) ∧ (∃ xs : List (D n), γ.v tc = ⟨.sl n, xs⟩ ∧ idx xs j = some y) ∧ named U γ tj ⟨.int .i64, j⟩ ∧
      ∃ b len cap, γ.g i = .slice (some ⟨b, 0, none⟩) len cap ∧ v = ptrV b (j.toNat * Rep.sz (D n) + off)
  | .rp n x off K, v => ∃ pa : Addr, v = .pointer (some (pa.add off)) ∧ PtrAt (In γ.o K) w pa x ∧ roK K
  | .vb n xs K t b, v => (Rv (In γ.o K) w v xs ∧ named U γ t ⟨.sl n, xs⟩ ∧ roK K) ∧ b = isNilV v
  | .own i, v => U i ∧ v = γ.g i ∧ v.oneCell' = true
  | .fn f caps, v => ∃ cs : List Value, v = fnV f cs ∧ VR0s U γ w caps cs
  | .ch i n j off ct m d, v => U i ∧ (ct ≠ 0 ∧ U ct) ∧ (∃ (xs : List (D n)) (y : D n), γ.v ct = ⟨.sl n, xs⟩ ∧ idx xs j = some y ∧ ∀ (S : Nat → Prop) (w : World) (cs : List Value), Rep.rd S w cs y → ∃ u, cs[off]? = some u ∧ Rv S w u d) ∧
      (∃ b len cap cells, γ.g i = .slice (some ⟨b, 0, none⟩) len cap ∧ γ.g ct = .agg cells ∧ cells[j.toNat * Rep.sz (D n) + off]? = some v) ∧ ∃ p c, v = .slice p d.length c
  | .cha i t, v => U i ∧ U t ∧ v = γ.g t ∧ v.oneCell' = true
  | .tail i n j, v => U i ∧ (0 ≤ j ∧ TailOf (Rep.sz (D n)) (γ.g i) v j.toNat)
  | .pre i n j, v => U i ∧ PreO (γ.g i) v j.toNat
  | .arr n xs K, v => (∃ css, v = .agg css.flatten.toArray ∧ All2 (Rep.rd (In γ.o K) w) css xs) ∧ roK K
  | .nils, v => v = .slice none 0 0
  | .nilp, v => v = .pointer none
  | .nilf, v => v = .nilFunc
  | .undef, v => v = undef
  | .unk, _ => True
  | .junk, v => v.oneCell' = true
def VR1s (U : Nat → Prop) (γ : Gh D) (w : World) : List (A1 D) → List Value → Prop
  | [], [] => True
  | a :: as, v :: vs => VR1 U γ w a v ∧ VR1s U γ w as vs
  | _, _ => False
def VRC (U : Nat → Prop) (γ : Gh D) (w : World) : AC D → Value → Prop
  | .one a, v => VR1 U γ w a v
  | .agg l, v => ∃ us : List Value, v = .agg us.toArray ∧ VR1s U γ w l us
def VRCs (U : Nat → Prop) (γ : Gh D) (w : World) : List (AC D) → List Value → Prop
  | [], [] => True
  | a :: as, v :: vs => VRC U γ w a v ∧ VRCs U γ w as vs
  | _, _ => False
def VRV (U : Nat → Prop) (γ : Gh D) (w : World) : AV D → Value → Prop
  | .c x, v => VRC U γ w x v
  | .tup l, v => ∃ us : List Value, v = .tuple us.toArray ∧ VRCs U γ w l us
def VRVs (U : Nat → Prop) (γ : Gh D) (w : World) : List (AV D) → List Value → Prop
  | [], [] => True
  | a :: as, v :: vs => VRV U γ w a v ∧ VRVs U γ w as vs
  | _, _ => False
def SR (U : Nat → Prop) (γ : Gh D) (w : World) (sl : List (Nat × AV D)) (L : List (Nat × Value)) : Prop := ∀ t a, lookN sl t = some a → ∃ v, Dp.look L t = some v ∧ VRV U γ w a v
/-- a key's value: one cell, or an array's or struct's cells -/
def mkKey : List Value → Value
  | [u] => u
  | l => .agg l.toArray
def AllE {α : Type} (R : MapEntry → α → Prop) : List MapEntry → List α → Prop
  | [], [] => True
  | e :: es, x :: xs => R e x ∧ AllE R es xs
  | _, _ => False
theorem AllE.mono {α : Type} {R R' : MapEntry → α → Prop} (hr : ∀ e x, R e x → R' e x) : ∀ {es : List MapEntry} {xs : List α}, AllE R es xs → AllE R' es xs
  | [], [], _ => trivial
  | _ :: _, _ :: _, h => ⟨hr _ _ h.1, AllE.mono hr h.2⟩
  | [], _ :: _, h => h.elim
  | _ :: _, [], h => h.elim
/-- a map of the call's own: its entries -/
def MpO {α : Type} [Rep α] (o : Cls) (i : Nat) (w : World) (v : Value) (xs : List α) : Prop := ∃ (r : Nat) (es : Array MapEntry) (clock : Nat), v = .map (some r) ∧ o r = i ∧ w.heap[r]? = some (.map es clock) ∧
  es.toList.Pairwise (fun a b => a.key ≠ b.key) ∧ AllE (fun e x => ∃ ks : List Value, e.key = mkKey ks ∧ Rep.rd (fun _ => False) w (ks ++ [e.val]) x) es.toList xs
theorem MpO.mono {α : Type} [Rep α] {o o' : Cls} {i i' : Nat} {w w' : World} {v : Value} {xs : List α} (h : MpO o i w v xs) (hb : ∀ b, b < w.heap.size → o b = i → o' b = i' ∧ w'.heap[b]? = w.heap[b]?) : MpO o' i' w' v xs := by
  obtain ⟨r, es, clock, h1, h2, h3, h4, h5⟩ := h
  obtain ⟨e1, e2⟩ := hb r (Array.getElem?_eq_some_iff.1 h3).1 h2
  exact ⟨r, es, clock, h1, e1, by rw [e2]; exact h3, h4, h5.mono fun e x ⟨ks, k1, k2⟩ => ⟨ks, k1, Rep.mono (fun b hb _ => hb.elim) k2⟩⟩
def OR (U : Nat → Prop) (γ : Gh D) (w : World) (i : Nat) : AO D → Prop
  | .box cs => ∃ (b : Nat) (us : List Value) (t : TypeId), γ.g i = ptrV b 0 ∧ γ.o b = i ∧ w.heap[b]? = some (.cells us.toArray t (0, 0)) ∧ VR1s U γ w cs us ∧ cs.all storable = true
  | .sl n t xs K g => Ow t γ.o i K w (γ.g i) xs ∧ roK K ∧ named U γ g ⟨.sl n, xs⟩
  | .kid n t tc m xs g h => OwC (Rep.sz (D m)) t tc (kcls γ.o i (γ.g i)) 0 1 w (γ.g i) xs ∧ named U γ g ⟨.sl n, xs⟩ ∧ (h = 0 ∨ (U h ∧ γ.v h = ⟨.sl n, xs⟩ ∧ Hdr γ w i h))
  | .kidh n t tc m xs j off s g => named U γ g ⟨.sl n, xs⟩ ∧ U s ∧ ∃ b len cap, γ.g i = .slice (some ⟨b, 0, none⟩) len cap ∧ OwH (Rep.sz (D m)) t tc (kcls γ.o i (γ.g i)) 0 1 w (γ.g i) xs ⟨b, j.toNat * Rep.sz (D n) + off, none⟩ (γ.g s)
  | .fz n xs K => Rv (In γ.o K) w (γ.g i) xs ∧ roK K
  | .mp n xs => MpO γ.o i w (γ.g i) xs
/-- all that is known of blocks -/
structure OB (U : Nat → Prop) (γ : Gh D) (w : World) (ob : List (Nat × Option (AO D))) : Prop where
  ob : ∀ i x, lookO ob i = some x → 1000 ≤ i ∧ U i ∧ OR U γ w i x
  cl : ∀ b, b < w.heap.size → U (γ.o b)
  ro : ∀ x, x < 2000 → U x

/-- what a step leaves of the world -/
structure Frame0 (γ : Gh D) (w : World) (γ' : Gh D) (w' : World) : Prop where
  os : w'.os = w.os
  tape : w'.tape = w.tape
  output : w'.output = w.output
  size : w.heap.size ≤ w'.heap.size
  ro : ∀ b, b < w.heap.size → (γ.o b = 0 ∨ γ.o b = 3) → γ'.o b = γ.o b ∧ w'.heap[b]? = w.heap[b]?
  back : ∀ b, b < w'.heap.size → (γ'.o b = 0 ∨ γ'.o b = 3) → b < w.heap.size ∧ γ.o b = γ'.o b
/-- .. and of where the blocks lie that a call came in with -/
structure Frame (γ : Gh D) (w : World) (γ' : Gh D) (w' : World) : Prop extends Frame0 γ w γ' w' where
  gk : ∀ i, i < 2000 → γ'.g i = γ.g i
theorem Frame0.refl (γ : Gh D) (w : World) : Frame0 γ w γ w := ⟨rfl, rfl, rfl, Nat.le_refl _, fun _ _ _ => ⟨rfl, rfl⟩, fun _ h _ => ⟨h, rfl⟩⟩
theorem Frame.refl (γ : Gh D) (w : World) : Frame γ w γ w := ⟨.refl γ w, fun _ _ => rfl⟩
theorem Frame0.trans {γ γ1 γ2 : Gh D} {w w1 w2 : World} (h : Frame0 γ w γ1 w1) (k : Frame0 γ1 w1 γ2 w2) : Frame0 γ w γ2 w2 := by
  refine ⟨k.os.trans h.os, k.tape.trans h.tape, k.output.trans h.output, Nat.le_trans h.size k.size, fun b hb hc => ?_, fun b hb hc => ?_⟩
  · obtain ⟨h1, h2⟩ := h.ro b hb hc
    obtain ⟨k1, k2⟩ := k.ro b (Nat.lt_of_lt_of_le hb h.size) (by rw [h1]; exact hc)
    exact ⟨k1.trans h1, k2.trans h2⟩
  · obtain ⟨k1, k2⟩ := k.back b hb hc
    obtain ⟨h1, h2⟩ := h.back b k1 (by rw [k2]; exact hc)
    exact ⟨h1, h2.trans k2⟩
theorem Frame.trans {γ γ1 γ2 : Gh D} {w w1 w2 : World} (h : Frame γ w γ1 w1) (k : Frame γ1 w1 γ2 w2) : Frame γ w γ2 w2 :=
  ⟨h.toFrame0.trans k.toFrame0, fun i hi => (k.gk i hi).trans (h.gk i hi)⟩

/-- from one moment to a later one: what stays known -/
structure Keep (U U' : Nat → Prop) (γ : Gh D) (w : World) (γ' : Gh D) (w' : World) : Prop where
  u : ∀ i, U i → U' i
  g : ∀ i, U i → γ'.g i = γ.g i
  v : ∀ i, U i → γ'.v i = γ.v i
  ro : ∀ b, b < w.heap.size → γ.o b < 2 → γ'.o b = γ.o b ∧ w'.heap[b]? = w.heap[b]?

section
variable {U U' : Nat → Prop} {γ γ' : Gh D} {w w' : World}
theorem Keep.refl : Keep U U γ w γ w := ⟨fun _ h => h, fun _ _ => rfl, fun _ _ => rfl, fun _ _ _ => ⟨rfl, rfl⟩⟩
theorem Keep.mem (k : Keep U U' γ w γ' w') {K : List Nat} (hK : roK K) : ∀ b, In γ.o K b → b < w.heap.size → In γ'.o K b ∧ w'.heap[b]? = w.heap[b]? := fun b hb hlt => by
  obtain ⟨h1, h2⟩ := k.ro b hlt (hK _ hb)
  exact ⟨by unfold In; rw [h1]; exact hb, h2⟩
theorem named.keep (k : Keep U U' γ w γ' w') {t : Nat} {d : DV D} (h : named U γ t d) : named U' γ' t d := by
  rcases h with h | ⟨h1, h2⟩
  · exact .inl h
  · exact .inr ⟨k.u _ h1, by rw [k.v _ h1]; exact h2⟩
theorem VR0.keep (k : Keep U U' γ w γ' w') : ∀ {a : A0 D} {v : Value}, VR0 U γ w a v → VR0 U' γ' w' a v
  | .ptr i off, v, ⟨h, b, h1, h2⟩ => ⟨k.u _ h, b, by rw [k.g _ h]; exact h1, h2⟩
  | .rp n x off K, v, ⟨pa, h1, h2, h3⟩ => ⟨pa, h1, h2.mono (k.mem h3), h3⟩
theorem VR0s.keep (k : Keep U U' γ w γ' w') : ∀ {as : List (A0 D)} {vs : List Value}, VR0s U γ w as vs → VR0s U' γ' w' as vs
  | [], [], _ => trivial
  | a :: as, v :: vs, h => ⟨h.1.keep k, VR0s.keep k h.2⟩
  | [], _ :: _, h => h.elim
  | _ :: _, [], h => h.elim
theorem VR1.keep (k : Keep U U' γ w γ' w') : ∀ {a : A1 D} {v : Value}, VR1 U γ w a v → VR1 U' γ' w' a v
  | .v l d K t, v, ⟨h1, h2, h3⟩ => ⟨h1.mono (k.mem h3), h2.keep k, h3⟩
  | .ptr i off, v, ⟨h, b, h1, h2⟩ => ⟨k.u _ h, b, by rw [k.g _ h]; exact h1, h2⟩
  | .el i n j y off tc tj, v, ⟨h1, h2, ⟨xs, h3, h4⟩, h5, b, len, cap, h6, h7⟩ => ⟨k.u _ h1, ⟨h2.1, k.u _ h2.2⟩, ⟨xs, by rw [k.v _ h2.2]; exact h3, h4⟩, h5.keep k, b, len, cap, by rw [k.g _ h1]; exact h6, h7⟩
  | .rp n x off K, v, ⟨pa, h1, h2, h3⟩ => ⟨pa, h1, h2.mono (k.mem h3), h3⟩
  | .vb n xs K t b, v, ⟨⟨h1, h2, h3⟩, h4⟩ => ⟨⟨LfRd.mono (d := ⟨.sl n, xs⟩) (k.mem h3) h1, h2.keep k, h3⟩, h4⟩
  | .own i, v, ⟨h, h1, h2⟩ => ⟨k.u _ h, by rw [k.g _ h]; exact h1, h2⟩
  | .fn f caps, v, ⟨cs, h1, h2⟩ => ⟨cs, h1, h2.keep k⟩
  | .ch i n j off ct m d, v, ⟨h1, h2, ⟨xs, y, h3, h4⟩, ⟨b, len, cap, cells, h5, h6, h7⟩, h8⟩ => ⟨k.u _ h1, ⟨h2.1, k.u _ h2.2⟩, ⟨xs, y, by rw [k.v _ h2.2]; exact h3, h4⟩, ⟨b, len, cap, cells, by rw [k.g _ h1]; exact h5, by rw [k.g _ h2.2]; exact h6, h7⟩, h8⟩
  | .cha i t, v, ⟨h1, h2, h3, h4⟩ => ⟨k.u _ h1, k.u _ h2, by rw [k.g _ h2]; exact h3, h4⟩
  | .tail i n j, v, ⟨h1, h2⟩ => ⟨k.u _ h1, by rw [k.g _ h1]; exact h2⟩
  | .pre i n j, v, ⟨h1, h2⟩ => ⟨k.u _ h1, by rw [k.g _ h1]; exact h2⟩
  | .arr n xs K, v, ⟨⟨css, h1, h2⟩, h3⟩ => ⟨⟨css, h1, h2.mono fun _ _ => Rep.mono (k.mem h3)⟩, h3⟩
  | .nils, v, h => h
  | .nilp, v, h => h
  | .nilf, v, h => h
  | .undef, v, h => h
  | .unk, v, h => h
  | .junk, v, h => h
theorem VR1s.keep (k : Keep U U' γ w γ' w') : ∀ {as : List (A1 D)} {vs : List Value}, VR1s U γ w as vs → VR1s U' γ' w' as vs
  | [], [], _ => trivial
  | a :: as, v :: vs, h => ⟨h.1.keep k, VR1s.keep k h.2⟩
  | [], _ :: _, h => h.elim
  | _ :: _, [], h => h.elim
theorem VRC.keep (k : Keep U U' γ w γ' w') : ∀ {a : AC D} {v : Value}, VRC U γ w a v → VRC U' γ' w' a v
  | .one a, v, h => VR1.keep k h
  | .agg l, v, ⟨us, h1, h2⟩ => ⟨us, h1, h2.keep k⟩
theorem VRCs.keep (k : Keep U U' γ w γ' w') : ∀ {as : List (AC D)} {vs : List Value}, VRCs U γ w as vs → VRCs U' γ' w' as vs
  | [], [], _ => trivial
  | a :: as, v :: vs, h => ⟨h.1.keep k, VRCs.keep k h.2⟩
  | [], _ :: _, h => h.elim
  | _ :: _, [], h => h.elim
theorem VRV.keep (k : Keep U U' γ w γ' w') : ∀ {a : AV D} {v : Value}, VRV U γ w a v → VRV U' γ' w' a v
  | .c x, v, h => VRC.keep k h
  | .tup l, v, ⟨us, h1, h2⟩ => ⟨us, h1, h2.keep k⟩
theorem SR.keep (k : Keep U U' γ w γ' w') {sl : List (Nat × AV D)} {L : List (Nat × Value)} (h : SR U γ w sl L) : SR U' γ' w' sl L := fun t a e => by
  obtain ⟨v, h1, h2⟩ := h t a e
  exact ⟨v, h1, h2.keep k⟩
theorem kcls_0 {o : Cls} {i : Nat} {v : Value} {b : Nat} (h : kcls o i v b = 0) : o b = i ∧ headB v b = true := by
  unfold kcls at h
  split at h
  · rename_i ho
    split at h
    · rename_i hh; exact ⟨ho, hh⟩
    · cases h
  · cases h
theorem kcls_1 {o : Cls} {i : Nat} {v : Value} {b : Nat} (h : kcls o i v b = 1) : o b = i ∧ headB v b = false := by
  unfold kcls at h
  split at h
  · rename_i ho
    split at h
    · cases h
    · rename_i hh; exact ⟨ho, by simpa using hh⟩
  · cases h
theorem kcls_eq0 {o : Cls} {i : Nat} {v : Value} {b : Nat} (h : o b = i) (hh : headB v b = true) : kcls o i v b = 0 := by unfold kcls; rw [if_pos h, if_pos hh]
theorem kcls_eq1 {o : Cls} {i : Nat} {v : Value} {b : Nat} (h : o b = i) (hh : headB v b = false) : kcls o i v b = 1 := by unfold kcls; rw [if_pos h, if_neg (by simp [hh])]
/-- the same blocks under another number, in another world -/
theorem kcls_mono {o o' : Cls} {i i' : Nat} {v : Value} {w w' : World} (h : ∀ b, b < w.heap.size → o b = i → o' b = i' ∧ w'.heap[b]? = w.heap[b]?) :
    (∀ b, b < w.heap.size → kcls o i v b = 0 → kcls o' i' v b = 0 ∧ w'.heap[b]? = w.heap[b]?) ∧ (∀ b, b < w.heap.size → kcls o i v b = 1 → kcls o' i' v b = 1 ∧ w'.heap[b]? = w.heap[b]?) := by
  constructor
  · intro b hb hc
    obtain ⟨h1, h2⟩ := kcls_0 hc
    exact ⟨kcls_eq0 (h b hb h1).1 h2, (h b hb h1).2⟩
  · intro b hb hc
    obtain ⟨h1, h2⟩ := kcls_1 hc
    exact ⟨kcls_eq1 (h b hb h1).1 h2, (h b hb h1).2⟩
theorem headB_ow {α : Type} [Rep α] {z : Nat} {T Tc : TypeId} {o : Cls} {k kc : Nat} {v : Value} {xs : List α} {b len cap : Nat} (h : OwC z T Tc o k kc w v xs) (hv : v = .slice (some ⟨b, 0, none⟩) len cap) : ∃ cur, o b = k ∧ w.heap[b]? = some (.cells cur T (0, 0)) := by
  rcases h with ⟨rfl, _⟩ | ⟨g, cap', cur, css, rfl, h2, h3, _⟩
  · cases hv
  · cases hv
    exact ⟨cur, h2, h3⟩
theorem Hdr.mono {γ γ' : Gh D} {w w' : World} {i i' h h' : Nat} (hg : γ'.g i' = γ.g i) (hh : γ'.g h' = γ.g h) (hb : ∀ b n c, γ.g i = .slice (some ⟨b, 0, none⟩) n c → w'.heap[b]? = w.heap[b]?) (k : Hdr γ w i h) : Hdr γ' w' i' h' := by
  obtain ⟨cells, h1, h2⟩ := k
  refine ⟨cells, by rw [hh]; exact h1, fun b n c q e => ?_⟩
  rw [hg] at e
  rw [← h2 b n c q e]
  exact World.cell?_of_block (hb b n c e)
/-- a block of the call's own that a step leaves alone -/
theorem OR.keep (k : Keep U U' γ w γ' w') {i : Nat} (hU : U i) (hb : ∀ b, b < w.heap.size → γ.o b = i → γ'.o b = γ.o b ∧ w'.heap[b]? = w.heap[b]?) : ∀ {x : AO D}, OR U γ w i x → OR U' γ' w' i x
  | .box cs, ⟨b, us, t, h1, h2, h3, h4, h5⟩ => by
    have hlt : b < w.heap.size := (Array.getElem?_eq_some_iff.1 h3).1
    obtain ⟨e1, e2⟩ := hb b hlt h2
    exact ⟨b, us, t, by rw [k.g _ hU]; exact h1, by rw [e1]; exact h2, by rw [e2]; exact h3, h4.keep k, h5⟩
  | .sl n t xs K g, ⟨h1, h2, h3⟩ => by
    refine ⟨?_, h2, h3.keep k⟩
    rw [k.g _ hU]
    rcases h1 with h1 | ⟨g, cap, cur, css, e1, e2, e3, e4, e5, e6, e7, e8⟩
    · exact .inl h1
    · have hlt : g < w.heap.size := (Array.getElem?_eq_some_iff.1 e3).1
      obtain ⟨f1, f2⟩ := hb g hlt e2
      exact .inr ⟨g, cap, cur, css, e1, by rw [f1]; exact e2, by rw [f2]; exact e3, e4, e5, e6, e7.mono fun _ _ => Rep.mono (k.mem h2), e8⟩
  | .kid n t tc m xs g h, ⟨h1, h2, h3⟩ => by
    obtain ⟨m0, m1⟩ := kcls_mono (v := γ.g i) (o := γ.o) (o' := γ'.o) (i := i) (i' := i) (w := w) (w' := w') fun b hb' ho => by
      obtain ⟨f1, f2⟩ := hb b hb' ho
      exact ⟨by rw [f1]; exact ho, f2⟩
    have hg := k.g _ hU
    refine ⟨by rw [hg]; exact h1.mono m0 m1, h2.keep k, ?_⟩
    rcases h3 with h3 | ⟨h3, h4, h5⟩
    · exact .inl h3
    · refine .inr ⟨k.u _ h3, by rw [k.v _ h3]; exact h4, h5.mono hg (k.g _ h3) fun b n c e => ?_⟩
      obtain ⟨cur, e1, e2⟩ := headB_ow h1 e
      exact (hb b (Array.getElem?_eq_some_iff.1 e2).1 (kcls_0 e1).1).2
  | .kidh n t tc m xs j off s g, ⟨h1, h2, b, len, cap, h3, h4⟩ => by
    obtain ⟨m0, m1⟩ := kcls_mono (v := γ.g i) (o := γ.o) (o' := γ'.o) (i := i) (i' := i) (w := w) (w' := w') fun b hb' ho => by
      obtain ⟨f1, f2⟩ := hb b hb' ho
      exact ⟨by rw [f1]; exact ho, f2⟩
    have hg := k.g _ hU
    exact ⟨h1.keep k, k.u _ h2, b, len, cap, by rw [hg]; exact h3, by rw [hg, k.g _ h2]; exact h4.mono m0 m1⟩
  | .fz n xs K, ⟨h1, h2⟩ => ⟨by rw [k.g _ hU]; exact LfRd.mono (d := ⟨.sl n, xs⟩) (k.mem h2) h1, h2⟩
  | .mp n xs, h => by
    show MpO γ'.o i w' (γ'.g i) xs
    rw [k.g _ hU]
    exact MpO.mono h fun b hb' ho => by
      obtain ⟨f1, f2⟩ := hb b hb' ho
      exact ⟨by rw [f1]; exact ho, f2⟩

theorem SR.look {sl : List (Nat × AV D)} {L : List (Nat × Value)} (h : SR U γ w sl L) {t : Nat} {a : AV D} (e : lookN sl t = some a) : ∃ v, Dp.look L t = some v ∧ VRV U γ w a v := h t a e
theorem SR.cons {sl : List (Nat × AV D)} {L : List (Nat × Value)} {d : Nat} {a : AV D} {v : Value} (h : SR U γ w sl L) (hv : VRV U γ w a v) : SR U γ w ((d, a) :: sl) ((d, v) :: L) := fun t b e => by
  unfold lookN at e
  unfold Dp.look
  cases hb : Nat.beq d t with
  | true =>
    simp only [hb, cond_true, Option.some.injEq] at e ⊢
    subst e
    exact ⟨v, rfl, hv⟩
  | false =>
    simp only [hb, cond_false] at e ⊢
    exact h t b e
end
end
end Rx
end Go.Proofs.Ytkgfdplcjdidhaa
namespace Go.Proofs.Ytkgfdplcjdidhaa
open Go Go.RowKit Dp

namespace Rx

section
variable {D : Nat → Type}
/-- the small program comes to a, looking at the blocks l -/
def Q.R {α : Type} (ob : List (Nat × Option (AO D))) : Q D α → List Nat → α → Prop
  | .ret b, l, a => l = [] ∧ a = b
  | .fail, _, _ => False
  | .obj i f, l, a => ∃ x l', lookO ob i = some x ∧ l = i :: l' ∧ Q.R ob (f x) l' a
  | .part o f, l, a => ∃ y, o = some y ∧ Q.R ob (f y) l a
theorem Q.go_R {ρ α : Type} {ob : List (Nat × Option (AO D))} {r : ρ} : ∀ {q : Q D α} {lg : List Nat} {k : α → List Nat → Option ρ}, q.go ob lg k = some r → ∃ l a, Q.R ob q l a ∧ k a (l.reverse ++ lg) = some r := by
  intro q
  induction q with
  | ret b => intro lg k h; exact ⟨[], b, ⟨rfl, rfl⟩, h⟩
  | fail => intro lg k h; cases h
  | obj i f ih =>
    intro lg k h
    simp only [Q.go] at h
    split at h
    · rename_i x hx
      obtain ⟨l, a, h1, h2⟩ := ih x h
      exact ⟨i :: l, a, ⟨x, l, hx, rfl, h1⟩, by simpa using h2⟩
    · cases h
  | part o f ih =>
    intro lg k h
    simp only [Q.go, obind] at h
    obtain ⟨y, hy, h⟩ := bindE h
    obtain ⟨l, a, h1, h2⟩ := ih y h
    exact ⟨l, a, ⟨y, hy, h1⟩, h2⟩
theorem Q.R_bind {α β : Type} {ob : List (Nat × Option (AO D))} {f : α → Q D β} {b : β} : ∀ {q : Q D α} {l : List Nat}, Q.R ob (q.bind f) l b → ∃ l1 l2 a, l = l1 ++ l2 ∧ Q.R ob q l1 a ∧ Q.R ob (f a) l2 b := by
  intro q
  induction q with
  | ret c => intro l h; exact ⟨[], l, c, rfl, ⟨rfl, rfl⟩, h⟩
  | fail => intro l h; exact h.elim
  | obj i g ih =>
    intro l h
    obtain ⟨x, l', h1, rfl, h2⟩ := h
    obtain ⟨l1, l2, a, rfl, h3, h4⟩ := ih x h2
    exact ⟨i :: l1, l2, a, rfl, ⟨x, l1, h1, rfl, h3⟩, h4⟩
  | part o g ih =>
    intro l h
    obtain ⟨y, hy, h2⟩ := h
    obtain ⟨l1, l2, a, rfl, h3, h4⟩ := ih y h2
    exact ⟨l1, l2, a, rfl, ⟨y, hy, h3⟩, h4⟩
theorem Q.R_local {α : Type} {ob ob' : List (Nat × Option (AO D))} {a : α} : ∀ {q : Q D α} {l : List Nat}, Q.R ob q l a → (∀ i ∈ l, lookO ob' i = lookO ob i) → Q.R ob' q l a := by
  intro q
  induction q with
  | ret c => intro l h _; exact h
  | fail => intro l h _; exact h
  | obj i g ih =>
    intro l h hl
    obtain ⟨x, l', h1, rfl, h2⟩ := h
    exact ⟨x, l', by rw [hl i (by simp)]; exact h1, rfl, ih x h2 fun j hj => hl j (by simp [hj])⟩
  | part o g ih =>
    intro l h hl
    obtain ⟨y, hy, h2⟩ := h
    exact ⟨y, hy, ih y h2 hl⟩
end

section
variable {D : Nat → Type} [∀ n, Rep (D n)]

/-! steps -/
def addU (U : Nat → Prop) (nid : Nat) : Nat → Prop := fun i => U i ∨ (nid ≤ i ∧ i < nid + 64)
structure Post (U : Nat → Prop) (nid : Nat) (γ : Gh D) (w : World) (ob : List (Nat × Option (AO D))) (e : Eff D) (γ' : Gh D) (v : Value) (w' : World) : Prop where
  fr : Frame γ w γ' w'
  kp : Keep U (addU U nid) γ w γ' w'
  dst : VRV (addU U nid) γ' w' e.dst v
  ob : OB (addU U nid) γ' w' (e.fz.map (fun i => (i, none)) ++ e.upd ++ ob)

/-- what is known before an operation -/
structure Cx (U : Nat → Prop) (nid : Nat) (γ : Gh D) (w : World) (sl : List (Nat × AV D)) (L : List (Nat × Value)) (ob : List (Nat × Option (AO D))) : Prop where
  sr : SR U γ w sl L
  ob : OB U γ w ob
  fresh : ∀ i, nid ≤ i → i < nid + 64 → ¬ U i
  big : 1000 ≤ nid

def rel (ps : List (Nat × Nat)) (x : Nat) : Nat := match lookN ps x with
  | some y => y
  | none => x
theorem rel_nil (x : Nat) : rel [] x = x := rfl
theorem lookN_mem {α : Type} : ∀ {l : List (Nat × α)} {t : Nat} {a : α}, lookN l t = some a → (t, a) ∈ l
  | [], t, a, h => by simp [lookN] at h
  | p :: r, t, a, h => by
    unfold lookN at h
    cases hb : Nat.beq p.1 t with
    | true =>
      simp only [hb, cond_true, Option.some.injEq] at h
      have := Nat.eq_of_beq_eq_true hb
      subst this; subst h
      simp
    | false =>
      simp only [hb, cond_false] at h
      exact List.mem_cons_of_mem _ (lookN_mem h)
theorem lookN_none {α : Type} : ∀ {l : List (Nat × α)} {t : Nat}, lookN l t = none → ∀ a, (t, a) ∉ l
  | [], t, h, a => by simp
  | p :: r, t, h, a => by
    unfold lookN at h
    cases hb : Nat.beq p.1 t with
    | true => simp [hb] at h
    | false =>
      simp only [hb, cond_false] at h
      intro hm
      rcases List.mem_cons.1 hm with rfl | hm
      · simp at hb
      · exact lookN_none h a hm
theorem lookN_append {α : Type} : ∀ (l l' : List (Nat × α)) (t : Nat), lookN (l ++ l') t = match lookN l t with
    | some a => some a
    | none => lookN l' t
  | [], l', t => by simp [lookN]
  | p :: r, l', t => by
    simp only [List.cons_append, lookN]
    cases hb : Nat.beq p.1 t with
    | true => simp
    | false => simp only [cond_false]; exact lookN_append r l' t
theorem lookN_none_iff {α : Type} : ∀ {l : List (Nat × α)} {t : Nat}, lookN l t = none ↔ t ∉ l.map Prod.fst
  | [], t => by simp [lookN]
  | p :: r, t => by
    simp only [lookN, List.map_cons, List.mem_cons, not_or]
    cases hb : Nat.beq p.1 t with
    | true =>
      have := Nat.eq_of_beq_eq_true hb
      simp [this]
    | false =>
      have hne : ¬ t = p.1 := fun e => by subst e; simp at hb
      simp only [cond_false, hne, not_false_eq_true, true_and]
      exact lookN_none_iff

section
variable {U : Nat → Prop} {γ : Gh D} {w w' : World} {ob : List (Nat × Option (AO D))} {nid : Nat} {e : Eff D} {v : Value}

theorem rel_low {ps : List (Nat × Nat)} (hps : ∀ p ∈ ps, 1000 ≤ p.1) {x : Nat} (hx : x < 1000) : rel ps x = x := by
  unfold rel
  split
  · rename_i y hy
    have := hps _ (lookN_mem hy)
    simp only at this
    omega
  · rfl
theorem mkKeep {M N : List Nat} {ps : List (Nat × Nat)} {o' : Cls} {g' : Nat → Value} {v' : Nat → DV D} (ev : Evo M N γ.o w o' w') (hM : ∀ x ∈ M, 1000 ≤ x) (hps : ∀ p ∈ ps, 1000 ≤ p.1) (hg : ∀ i, U i → g' i = γ.g i) (hv : ∀ i, U i → v' i = γ.v i) :
    Keep U (addU U nid) γ w ⟨fun b => rel ps (o' b), g', v'⟩ w' :=
  ⟨fun i h => .inl h, hg, hv, fun b hb hc => ⟨by simp only; rw [ev.old b hb]; exact rel_low hps (by omega), ev.blk b hb fun hm => by
    have := hM _ hm
    omega⟩⟩
theorem look1 {α : Type} {i j : Nat} {a x : α} (h : lookN [(i, a)] j = some x) : i = j ∧ x = a := by
  have := lookN_mem h
  simp only [List.mem_singleton, Prod.mk.injEq] at this
  exact ⟨this.1.symm, this.2⟩
/-- a step: the world's owners change along Evo, then some owners get other numbers, blocks and names of the step's own are added -/
theorem mkPost {M N : List Nat} {ps : List (Nat × Nat)} {o' : Cls} {g' : Nat → Value} {v' : Nat → DV D} (hob : OB U γ w ob) (ev : Evo M N γ.o w o' w')
    (hM : ∀ x ∈ M, 1000 ≤ x ∧ U x ∧ x ∈ e.wr) (hN : ∀ x ∈ N, x ∈ M ∨ (nid ≤ x ∧ x < nid + 64)) (hps : ∀ p ∈ ps, 1000 ≤ p.1 ∧ (U p.1 → p.1 ∈ e.wr) ∧ (p.2 = 1 ∨ (nid ≤ p.2 ∧ p.2 < nid + 64)))
    (hbig : 1000 ≤ nid) (hg : ∀ i, U i → g' i = γ.g i) (hv : ∀ i, U i → v' i = γ.v i)
    (hdst : VRV (addU U nid) ⟨fun b => rel ps (o' b), g', v'⟩ w' e.dst v)
    (hup : ∀ i x, lookN e.upd i = some (some x) → i ∉ e.fz → 1000 ≤ i ∧ addU U nid i ∧ OR (addU U nid) ⟨fun b => rel ps (o' b), g', v'⟩ w' i x) :
    Post U nid γ w ob e ⟨fun b => rel ps (o' b), g', v'⟩ v w' := by
  have hrel : ∀ x, x < 1000 → rel ps x = x := fun x hx => by
    unfold rel
    split
    · rename_i y hy
      have := (hps _ (lookN_mem hy)).1
      simp only at this
      omega
    · rfl
  have hrel2 : ∀ x, rel ps x < 1000 → rel ps x = x ∨ rel ps x = 1 := fun x hx => by
    unfold rel at hx ⊢
    split
    · rename_i y hy
      rw [hy] at hx
      rcases (hps _ (lookN_mem hy)).2.2 with h | h
      · exact .inr h
      · simp only at h hx; omega
    · exact .inl rfl
  have hold : ∀ b, b < w.heap.size → γ.o b < 4 → rel ps (o' b) = γ.o b ∧ w'.heap[b]? = w.heap[b]? := fun b hb h4 => by
    have h1 := ev.old b hb
    refine ⟨by rw [h1]; exact hrel _ (by omega), ev.blk b hb fun hm => ?_⟩
    have := (hM _ hm).1
    omega
  have hfr : Frame γ w ⟨fun b => rel ps (o' b), g', v'⟩ w' := by
    refine ⟨⟨ev.os, ev.tape, ev.output, ev.size, fun b hb hc => hold b hb (by omega), fun b hb hc => ?_⟩, fun i hi => hg i (hob.ro i hi)⟩
    simp only at hc ⊢
    have h1 : rel ps (o' b) = o' b := by
      rcases hrel2 (o' b) (by omega) with h | h
      · exact h
      · omega
    rw [h1] at hc
    by_cases hlt : b < w.heap.size
    · exact ⟨hlt, by rw [h1, ev.old b hlt]⟩
    · have h2 := ev.new b (by omega) hb
      rcases hN _ h2 with h | h
      · have := (hM _ h).1; omega
      · omega
  have hkp : Keep U (addU U nid) γ w ⟨fun b => rel ps (o' b), g', v'⟩ w' :=
    ⟨fun i h => .inl h, hg, hv, fun b hb hc => hold b hb (by omega)⟩
  refine ⟨hfr, hkp, hdst, fun i x hx => ?_, fun b hb => ?_, fun x hx => .inl (hob.ro x hx)⟩
  · by_cases hfz : i ∈ e.fz
    · exfalso
      unfold lookO at hx
      rw [List.append_assoc, lookN_append] at hx
      have : lookN (e.fz.map fun i => (i, (none : Option (AO D)))) i = some none := by
        have h1 : ¬ lookN (e.fz.map fun i => (i, (none : Option (AO D)))) i = none := by
          rw [lookN_none_iff]
          simpa using hfz
        cases hl : lookN (e.fz.map fun i => (i, (none : Option (AO D)))) i with
        | none => exact (h1 hl).elim
        | some y =>
          have := lookN_mem hl
          simp only [List.mem_map] at this
          obtain ⟨_, _, h3⟩ := this
          cases h3
          rfl
      rw [this] at hx
      cases hx
    · have h0 : lookN (e.fz.map fun i => (i, (none : Option (AO D)))) i = none := by
        rw [lookN_none_iff]
        simpa using hfz
      unfold lookO at hx
      rw [List.append_assoc, lookN_append, h0] at hx
      simp only at hx
      rw [lookN_append] at hx
      cases hu : lookN e.upd i with
      | some y =>
        rw [hu] at hx
        cases y with
        | none => cases hx
        | some y =>
          cases hx
          exact hup i x hu hfz
      | none =>
        rw [hu] at hx
        simp only at hx
        obtain ⟨h1, h2, h3⟩ := hob.ob i x hx
        have hnw : i ∉ e.wr := by
          unfold Eff.wr
          rw [List.mem_append, not_or]
          exact ⟨lookN_none_iff.1 hu, hfz⟩
        refine ⟨h1, .inl h2, h3.keep hkp h2 fun b hb hc => ?_⟩
        have hM' : i ∉ M := fun hm => hnw (hM _ hm).2.2
        have hr : rel ps i = i := by
          unfold rel
          split
          · rename_i y hy
            exact (hnw ((hps _ (lookN_mem hy)).2.1 h2)).elim
          · rfl
        exact ⟨by simp only; rw [ev.old b hb, hc, hr], ev.blk b hb (by rw [hc]; exact hM')⟩
  · simp only
    have h1 : U (o' b) ∨ (nid ≤ o' b ∧ o' b < nid + 64) := by
      by_cases hlt : b < w.heap.size
      · rw [ev.old b hlt]; exact .inl (hob.cl b hlt)
      · rcases hN _ (ev.new b (by omega) hb) with h | h
        · exact .inl (hM _ h).2.1
        · exact .inr h
    unfold rel
    split
    · rename_i y hy
      rcases (hps _ (lookN_mem hy)).2.2 with h | h
      · simp only at h; subst h; exact .inl (hob.ro 1 (by omega))
      · exact .inr h
    · exact h1
end

/-- what is known of blocks behind a step -/
theorem ob_put {U U' : Nat → Prop} {γ γ' : Gh D} {w w' : World} {ob : List (Nat × Option (AO D))} {e : Eff D} (hob : OB U γ w ob) (k : Keep U U' γ w γ' w') (hun : ∀ i, U i → 1000 ≤ i → i ∉ e.wr → ∀ b, b < w.heap.size → γ.o b = i → γ'.o b = γ.o b ∧ w'.heap[b]? = w.heap[b]?)
    (hcl : ∀ b, b < w'.heap.size → U' (γ'.o b)) (hup : ∀ i x, lookN e.upd i = some (some x) → i ∉ e.fz → 1000 ≤ i ∧ U' i ∧ OR U' γ' w' i x) : OB U' γ' w' (e.fz.map (fun i => (i, none)) ++ e.upd ++ ob) := by
  refine ⟨fun i x hx => ?_, hcl, fun x hx => k.u _ (hob.ro x hx)⟩
  by_cases hfz : i ∈ e.fz
  · exfalso
    unfold lookO at hx
    rw [List.append_assoc, lookN_append] at hx
    have : lookN (e.fz.map fun i => (i, (none : Option (AO D)))) i = some none := by
      have h1 : ¬ lookN (e.fz.map fun i => (i, (none : Option (AO D)))) i = none := by
        rw [lookN_none_iff]
        simpa using hfz
      cases hl : lookN (e.fz.map fun i => (i, (none : Option (AO D)))) i with
      | none => exact (h1 hl).elim
      | some y =>
        have := lookN_mem hl
        simp only [List.mem_map] at this
        obtain ⟨_, _, h3⟩ := this
        cases h3
        rfl
    rw [this] at hx
    cases hx
  · have h0 : lookN (e.fz.map fun i => (i, (none : Option (AO D)))) i = none := by
      rw [lookN_none_iff]
      simpa using hfz
    unfold lookO at hx
    rw [List.append_assoc, lookN_append, h0] at hx
    simp only at hx
    rw [lookN_append] at hx
    cases hu : lookN e.upd i with
    | some y =>
      rw [hu] at hx
      cases y with
      | none => cases hx
      | some y =>
        cases hx
        exact hup i x hu hfz
    | none =>
      rw [hu] at hx
      simp only at hx
      obtain ⟨h1, h2, h3⟩ := hob.ob i x hx
      have hnw : i ∉ e.wr := by
        unfold Eff.wr
        rw [List.mem_append, not_or]
        exact ⟨lookN_none_iff.1 hu, hfz⟩
      exact ⟨h1, k.u _ h2, h3.keep k h2 (hun i h2 h1 hnw)⟩

/-! operations on raw cells -/
structure TyR (P : Program) (t : TypeId) (g : Bool) (z : List Value) : Prop where
  agg : ∃ d, P.underlying t = some d ∧ isAggD d = g
  info : ∃ i, P.info? t = some i ∧ i.size = z.length ∧ i.zero = some (pack g z)
section
variable {P : Program} {Qx : Exit → Act → World → Prop} {L : List (Nat × Value)} {w : World} {d : Option Tmp} {ty : TypeId} {pos : String} {af : Array Edge} {g : Option (Nat × Bool)} {t : TypeId} {x u : Operand} {a : Bool} {z : List Value} {o : Cls}
theorem TyR.isAgg (h : TyR P t a z) (w : World) : (isAgg t).run P w = .ok a w := by
  obtain ⟨d, h1, h2⟩ := h.agg
  unfold Go.isAgg
  rw [Sem.run_bind, run_underlying h1 w]
  simp only [Result.andThen_ok]
  rw [← h2]
  cases d <;> rfl
theorem TyR.sizeOf (h : TyR P t a z) (w : World) : (sizeOf t).run P w = .ok z.length w := by
  obtain ⟨i, h1, h2, _⟩ := h.info
  simp [Go.sizeOf, typeInfo, h1, h2]
theorem TyR.zero (h : TyR P t a z) (w : World) : (zeroValue t).run P w = .ok (pack a z) w := by
  obtain ⟨i, h1, _, h4⟩ := h.info
  simp [zeroValue, typeInfo, h1, h4]
theorem OW.loadR [Rd] {pa : Addr} {cs : List Value} (hT : TyR P t a z) (hz : a = false → z.length = 1) (hx : ev L x = some (.pointer (some pa))) (hc : CellsAt w pa cs) (hl : cs.length = z.length) :
    OW P Qx L ⟨d, .load t x, ty, pos, af, g⟩ w (fun v' w' => v' = pack a cs ∧ w' = w) := by
  refine OW.run fun b hb => ⟨pack a cs, w, ?_, rfl, rfl⟩
  have hrun : (loadVar t pa).run P w = .ok (pack a cs) w := by
    simp only [loadVar, Sem.run_bind, hT.isAgg, Result.andThen_ok]
    cases a with
    | true =>
      have := run_loadCells_list (P := P) w pa cs hc
      rw [hl] at this
      simp [hT.sizeOf, this, pack]
    | false =>
      rw [hz rfl] at hl
      match cs, hl, hc with
      | [u], _, hc =>
        have := hc 0 u rfl
        have hu : w.cell? pa = some u := by simpa [Addr.add] using this
        simp [pack, hu]
  simp [execOp, hb _ _ hx, Instr.loadAt, Instr.sureAddr, hrun]
theorem OW.storeR [Rd] {b off : Nat} {cs vs : List Value} {T' : TypeId} {v : Value} {c : Nat} (hT : TyR P t a z) (hx : ev L x = some (.pointer (some ⟨b, off, none⟩))) (hu : ev L u = some v) (hb : w.heap[b]? = some (.cells cs.toArray T' (0, 0))) (ho : o b = c)
    (hv : v.cells = vs.toArray) (h1 : ∀ u ∈ vs, u.oneCell' = true) (hl : vs.length = z.length) (hle : off + vs.length ≤ cs.length) :
    OW P Qx L ⟨d, .store t x u, ty, pos, af, g⟩ w (fun v' w' => v' = undef ∧ Evo [c] [] o w o w' ∧ w'.heap[b]? = some (.cells (cs.take off ++ vs ++ cs.drop (off + vs.length)).toArray T' (0, 0))) := by
  have hst := run_storeCells_at P b off T' vs 0 cs.toArray w hb (by simp; omega) h1
  simp only [Nat.add_zero] at hst
  have hev : Evo [c] [] o w o (w.setRow b (cs.take off ++ vs ++ cs.drop (off + vs.length)).toArray) := Evo.row _ ho
  refine OW.runSkip fun a ha => ⟨_, ?_, rfl, hev, setRow_heap w b _ _ T' _ hb⟩
  simp [execOp, ha _ _ hx, ha _ _ hu, Instr.storeAt, Instr.sureAddr, storeVar, hT.sizeOf, hv, hl, hst]
theorem OW.allocR [Rd] (c : Nat) (hT : TyR P t a z) (hz : a = false → ∃ u, z = [u] ∧ u.oneCell' = true) :
    OW P Qx L ⟨d, .alloc t, ty, pos, af, g⟩ w (fun v' w' => ∃ b, v' = ptrV b 0 ∧ w.heap.size ≤ b ∧ Evo [] [c] o w (grow o w c) w' ∧ w'.heap[b]? = some (.cells z.toArray t (0, 0))) := by
  refine OW.run fun b ha => ⟨_, w.alloc (.cells z.toArray t), ?_, w.heap.size, rfl, Nat.le_refl _, Evo.alloc o w _ c, heap_alloc_new w _⟩
  have hpk : (pack a z).cells = z.toArray := by
    cases a with
    | true => rfl
    | false =>
      obtain ⟨u, rfl, h1⟩ := hz rfl
      exact cells_one h1
  simp [execOp, Instr.alloc, hT.zero, newVar, newRow, hpk, newObj]
  rfl
theorem OW.boxR [Rd] {v : Value} (c : Nat) (cs : List Value) (hx : ev L u = some v) (hv : v.cells = cs.toArray) :
    OW P Qx L ⟨d, .box t u, ty, pos, af, g⟩ w (fun v' w' => ∃ b, v' = ptrV b 0 ∧ w.heap.size ≤ b ∧ Evo [] [c] o w (grow o w c) w' ∧ w'.heap[b]? = some (.cells cs.toArray t (0, 0))) := by
  refine OW.run fun a ha => ⟨_, w.alloc (.cells cs.toArray t), ?_, w.heap.size, rfl, Nat.le_refl _, Evo.alloc o w _ c, heap_alloc_new w _⟩
  simp [execOp, ha _ _ hx, Instr.box, newVar, newRow, hv, newObj]
  rfl
theorem OW.buildR [Rd] {parts : List (Nat × Operand)} {vs : List (Nat × Value)} {pl : List (Nat × Nat)} (vcs : List (Nat × List Value)) (cs' : List Value) (hst : StOk P t pl) (hT : TyR P t true z) (hp : evsN L parts = some vs) (hc : PartCells vs vcs) (hf : fillC pl z vcs = some cs') :
    OW P Qx L ⟨d, .build t parts.toArray, ty, pos, af, g⟩ w (fun v' w' => v' = .agg cs'.toArray ∧ w' = w) := by
  obtain ⟨fs, h1, h2⟩ := hst.fs
  obtain ⟨i, hi1, hi2, hi4⟩ := hT.info
  have h3 := fillC_run hc hf
  refine OW.run fun a ha => ⟨.agg cs'.toArray, w, ?_, rfl, rfl⟩
  have hparts : (parts.toArray.map fun (x : Nat × Operand) => (x.1, a.eval x.2)).toList = vs := by
    rw [← evsN_map ha hp]; simp
  have hpk' : (pack true z).cells = z.toArray := rfl
  have hb : P.built t (parts.toArray.map fun (x : Nat × Operand) => (x.1, a.eval x.2)).toList = some cs'.toArray := by
    simp only [Program.built, hi1, h1, hi4, h2, hpk', hparts, h3]
  have hr := run_build (P := P) w t _ _ hb
  simp only [execOp, Sem.run_bind]
  rw [hr]
  rfl
end
end
end Rx
end Go.Proofs.Ytkgfdplcjdidhaa
namespace Go.Proofs.Ytkgfdplcjdidhaa
open Go Go.RowKit Dp

namespace Rx

section
variable {D : Nat → Type} [∀ n, Rep (D n)]

def zcells (T : Tab D) : TyD → List Value
  | .one (.int k) => [.int k 0]
  | .one .bool => [.bool false]
  | .one .str => [.string ByteArray.empty]
  | .one (.sl _) => [.slice none 0 0]
  | .st n => zeroC (T.lv n)
  | .ptr => [.pointer none]
  | .fn => [.nilFunc]
def TyF (P : Program) (T : Tab D) (t : TypeId) (d : TyD) : Prop :=
  TyR P t d.agg (zcells T d) ∧ match d with
    | .one (.int k) => P.underlying t = some (.int k)
    | .one .bool => P.underlying t = some .bool
    | .one .str => P.underlying t = some .string
    | _ => True
/-- elements that hold slices of the call's own -/
structure KidT (P : Program) (D : Nat → Type) [∀ n, Rep (D n)] (n tc m : Nat) : Prop where
  one : OneLevel (D n)
  flat : Flat (D m)
  ty : TyOk P tc (D m)
  zc : zcNil (Rep.zc (D n)) = true
/-- an array's type -/
structure ArrT (P : Program) (D : Nat → Type) [∀ n, Rep (D n)] (t m e n : Nat) : Prop where
  und : P.underlying t = some (.array m e)
  el : TyOk P e (D n)
  z : ∃ i z, P.info? t = some i ∧ i.zero = some z ∧ z.cells.size = m * Rep.sz (D n)
/-- cells of the kinds of a key -/
def KeyC : List Lf → List Value → Prop
  | [], [] => True
  | l :: r, v :: vs => (match l with | .int k => ∃ a, v = .int k a | .bool => ∃ b, v = .bool b | .str => ∃ s, v = .string s | .sl _ => False) ∧ KeyC r vs
  | _, _ => False
/-- equality at a type: of its cells -/
def EqL (P : Program) (t : TypeId) (g : Bool) (ls : List Lf) (k : Nat) : Prop := ∀ (d : Nat) (w : World) (us vs : List Value), KeyC ls us → KeyC ls vs → ∃ r : Bool, (Op.equalIn (d + k) t (pack g us) (pack g vs)).run P w = .ok r w ∧ (r = true ↔ us = vs)
structure EqT (P : Program) (t : TypeId) (ls : List Lf) : Prop where
  eq : ∃ k, k ≤ 10000 ∧ EqL P t true ls k
  guard : P.eqGuardType P.depth t = false
/-- keys of a type -/
structure KeyR (P : Program) (kt : TypeId) (ls : List Lf) : Prop where
  check : ∀ (w : World) (em : Bool) (ks : List Value), KeyC ls ks → (Instr.checkKey em 10000 kt (mkKey ks)).run P w = .ok () w
  find : ∀ (w : World) (ks : List Value), KeyC ls ks → ∀ es : List MapEntry, (∀ e ∈ es, ∃ us, KeyC ls us ∧ e.key = mkKey us) →
    ((Instr.findKey kt (mkKey ks) es).run P w = .ok none w ∧ ∀ e ∈ es, e.key ≠ mkKey ks) ∨ ∃ j e, (Instr.findKey kt (mkKey ks) es).run P w = .ok (some (j, e.val)) w ∧ es[j]? = some e ∧ e.key = mkKey ks
  stays : ∀ (w : World) (ks : List Value), KeyC ls ks → (Instr.keyThatStays (mkKey ks) (mkKey ks)).run P w = .ok (mkKey ks) w
/-- a map's type -/
structure MapT (P : Program) (T : Tab D) (t kt vt n : Nat) : Prop where
  und : P.underlying t = some (.map kt vt)
  key : KeyR P kt (T.lv n).dropLast
  flat : (T.lv n).all flatL = true
  val : ∃ l, lastL (T.lv n) = some l ∧ TyR P vt false (zeroC [l])
structure POk (P : Program) (T : Tab D) : Prop where
  ty : ∀ t d, lookN T.ty t = some d → TyF P T t d
  els : ∀ t e n, lookN T.els t = some (e, n) → P.underlying t = some (.slice e) ∧ TyOk P e (D n)
  fld : ∀ t l, lookN T.fld t = some l → StOk P t l ∧ ∀ i off sz, l[i]? = some (off, sz) → FldAt P t i off
  eqs : ∀ t ls, lookN T.eqs t = some ls → EqT P t ls ∧ ls.all flatL = true
  kd : ∀ n tc m, lookN T.kd n = some (tc, m) → KidT P D n tc m
  ars : ∀ t m e n, lookN T.ars t = some (m, e, n) → ArrT P D t m e n
  mps : ∀ t kt vt n, lookN T.mps t = some (kt, vt, n) → MapT P T t kt vt n

variable {P : Program} {T : Tab D} {Qx : Exit → Act → World → Prop} {U : Nat → Prop} {nid : Nat} {γ : Gh D} {w : World} {sl : List (Nat × AV D)} {L : List (Nat × Value)} {ob : List (Nat × Option (AO D))}
  {d : Option Tmp} {ty : TypeId} {pos : String} {af : Array Edge} {gd : Option (Nat × Bool)} {e : Eff D} {l : List Nat}

theorem zeroC_len : ∀ ls : List Lf, (zeroC ls).length = ls.length
  | [] => rfl
  | l :: r => by simp [zeroC, zeroC_len r]
theorem zcells_len (T : Tab D) : ∀ ty : TyD, (zcells T ty).length = ty.n T
  | .one (.int k) => rfl
  | .one .bool => rfl
  | .one .str => rfl
  | .one (.sl _) => rfl
  | .st n => zeroC_len _
  | .ptr => rfl
  | .fn => rfl
theorem zcells_one (T : Tab D) : ∀ ty : TyD, ty.agg = false → (zcells T ty).length = 1
  | .one (.int k), _ => rfl
  | .one .bool, _ => rfl
  | .one .str, _ => rfl
  | .one (.sl _), _ => rfl
  | .st n, h => by cases h
  | .ptr, _ => rfl
  | .fn, _ => rfl

/-! parts of elements -/
theorem ofHL_kinds : ∀ (ts : List Lf) (h : HL D ts), (ofHL ts h).map DV.l = ts
  | [], _ => rfl
  | [l], x => rfl
  | l :: m :: r, x => by simp [ofHL, ofHL_kinds (m :: r) x.2]
theorem toHL_some : ∀ {ts : List Lf} {ds : List (DV D)}, ds.map DV.l = ts → ∃ h, toHL ts ds = some h
  | [], [], _ => ⟨(), rfl⟩
  | [], _ :: _, h => by simp at h
  | [l], [⟨l', d⟩], h => by
    simp at h
    subst h
    exact ⟨d, by simp [toHL]⟩
  | [l], [], h => by simp at h
  | [l], _ :: _ :: _, h => by simp at h
  | l :: m :: r, [], h => by simp at h
  | l :: m :: r, ⟨l', d⟩ :: ds, h => by
    simp only [List.map_cons, List.cons.injEq] at h
    obtain ⟨rfl, h⟩ := h
    obtain ⟨x, hx⟩ := toHL_some h
    exact ⟨(d, x), by simp only [toHL, hx, dif_pos]⟩
def leafG (T : Tab D) (n off m : Nat) (x : D n) : List (D m) := match (T.out n x)[off]? with
  | some ⟨.sl m', d⟩ => if h : m' = m then h ▸ d else []
  | _ => []
def leafS (T : Tab D) (n off m : Nat) (x : D n) (l : List (D m)) : D n := match T.mk? n ((T.out n x).set off ⟨.sl m, l⟩) with
  | some y => y
  | none => x
theorem leafG_eq {n off m : Nat} {x : D n} {d : List (D m)} (h : (T.out n x)[off]? = some ⟨.sl m, d⟩) : leafG T n off m x = d := by
  unfold leafG
  rw [h]
  simp
theorem leafG_at {n off m : Nat} (x : D n) (h : (T.lv n)[off]? = some (.sl m)) : (T.out n x)[off]? = some ⟨.sl m, leafG T n off m x⟩ := by
  have hk : ((T.out n x).map DV.l)[off]? = some (.sl m) := by rw [Tab.out, ofHL_kinds]; exact h
  rw [List.getElem?_map] at hk
  cases hd : (T.out n x)[off]? with
  | none => rw [hd] at hk; cases hk
  | some y =>
    obtain ⟨l, d⟩ := y
    rw [hd] at hk
    simp only [Option.map_some, Option.some.injEq] at hk
    subst hk
    rw [leafG_eq hd]
theorem leafS_out (hR : RepOk T) {n off m : Nat} {x : D n} {l : List (D m)} (h : (T.lv n)[off]? = some (.sl m)) : T.out n (leafS T n off m x l) = (T.out n x).set off ⟨.sl m, l⟩ := by
  have hk : ((T.out n x).set off ⟨.sl m, l⟩).map DV.l = T.lv n := by
    rw [List.map_set, Tab.out, ofHL_kinds]
    apply List.ext_getElem?
    intro i
    rw [List.getElem?_set]
    by_cases hi : off = i
    · subst hi
      rw [if_pos rfl, h]
      simp [(List.getElem?_eq_some_iff.1 h).1]
    · rw [if_neg hi]
  obtain ⟨y, hy⟩ := toHL_some hk
  have hm : T.mk? n ((T.out n x).set off ⟨.sl m, l⟩) = some (T.mkH n y) := by unfold Tab.mk?; rw [hy]
  unfold leafS
  rw [hm]
  exact hR.mk? hm
theorem LRd.at {S : Nat → Prop} {w : World} : ∀ {vs : List Value} {ds : List (DV D)}, LRd S w vs ds → ∀ {i : Nat} {d : DV D}, ds[i]? = some d → ∃ u, vs[i]? = some u ∧ LfRd S w u d
  | [], [], _, i, d, h => by simp at h
  | v :: vs, e :: ds, hl, 0, d, h => by cases h; exact ⟨v, rfl, hl.1⟩
  | v :: vs, e :: ds, hl, i + 1, d, h => by
    obtain ⟨u, h1, h2⟩ := LRd.at hl.2 (i := i) (by simpa using h)
    exact ⟨u, by simpa using h1, h2⟩
  | [], _ :: _, hl, _, _, _ => hl.elim
  | _ :: _, [], hl, _, _, _ => hl.elim
theorem LRd.setAt {S : Nat → Prop} {w : World} {u : Value} {d : DV D} (hu : LfRd S w u d) : ∀ {vs : List Value} {ds : List (DV D)}, LRd S w vs ds → ∀ (i : Nat), LRd S w (vs.set i u) (ds.set i d)
  | [], [], _, _ => trivial
  | v :: vs, e :: ds, hl, 0 => ⟨hu, hl.2⟩
  | v :: vs, e :: ds, hl, i + 1 => ⟨hl.1, LRd.setAt hu hl.2 i⟩
  | [], _ :: _, hl, _ => hl.elim
  | _ :: _, [], hl, _ => hl.elim
theorem leaf_prt (hR : RepOk T) {n off m : Nat} (h : (T.lv n)[off]? = some (.sl m)) : Prt off (leafG T n off m) (leafS T n off m) := by
  refine ⟨?_, ?_, ?_⟩
  · intro S w cs x hr
    rw [hR.rd] at hr
    obtain ⟨u, h1, h2⟩ := LRd.at hr (leafG_at x h)
    have hlt := (List.getElem?_eq_some_iff.1 h1).1
    refine ⟨cs.take off, [u], cs.drop (off + 1), ?_, by simp; omega, Rv.rd1 h2 rfl⟩
    have := set_splice (x := u) hlt
    rw [this]
    apply List.ext_getElem?
    intro i
    rw [List.getElem?_set]
    by_cases hi : off = i
    · subst hi; rw [if_pos rfl, if_pos hlt, h1]
    · rw [if_neg hi]
  · intro S w cs x c' y hr hy
    rw [hR.rd] at hr ⊢
    rw [leafS_out hR h]
    have hl := Rep.len hy
    have hl1 : c'.length = 1 := hl
    match c', hl1 with
    | [u], _ =>
      have hoff : off < cs.length := by
        obtain ⟨u', h1, _⟩ := LRd.at hr (leafG_at x h)
        exact (List.getElem?_eq_some_iff.1 h1).1
      show LRd _ _ (cs.take off ++ [u] ++ cs.drop (off + 1)) _
      rw [set_splice hoff]
      exact LRd.setAt (d := ⟨.sl m, y⟩) ⟨[u], rfl, hy⟩ hr off
  · intro x a b
    unfold leafS
    have e := leafS_out hR (x := x) (l := a) h
    unfold leafS at e
    rw [e, List.set_set]
    have hk := leafS_out hR (x := x) (l := b) h
    cases hm : T.mk? n ((T.out n x).set off ⟨.sl m, b⟩) with
    | some y => rfl
    | none =>
      exfalso
      unfold Tab.mk? at hm
      split at hm
      · cases hm
      · rename_i hn
        obtain ⟨z, hz⟩ := toHL_some (ts := T.lv n) (ds := (T.out n x).set off ⟨.sl m, b⟩) (by
          rw [← hk, Tab.out, ofHL_kinds])
        rw [hz] at hn
        cases hn

/-! operands -/
theorem named0 (d : DV D) : named U γ 0 d := .inl rfl
theorem roK_nil : roK [] := fun x h => by cases h
theorem constV_ok {v : Value} {a : AV D} (h : constV v = some a) : VRV U γ w a v := by
  unfold constV at h
  split at h <;> first
    | (cases h; exact ⟨rfl, named0 _, roK_nil⟩)
    | (cases h; rfl)
    | cases h
theorem evO_ok (hs : SR U γ w sl L) {x : Operand} {a : AV D} (h : evO sl x = some a) : ∃ v, ev L x = some v ∧ VRV U γ w a v := by
  cases x with
  | tmp t => exact hs.look h
  | const v => exact ⟨v, rfl, constV_ok h⟩
  | func f =>
    simp only [evO] at h
    split at h
    · rename_i hf
      cases h
      exact ⟨_, rfl, [], by unfold fnV; rw [if_pos hf], trivial⟩
    · cases h
  | global g => cases h
theorem evOs_ok (hs : SR U γ w sl L) : ∀ {xs : List Operand} {as : List (AV D)}, evOs sl xs = some as → ∃ vs, evs L xs = some vs ∧ VRVs U γ w as vs
  | [], as, h => by
    simp only [evOs, Option.some.injEq] at h
    subst h
    exact ⟨[], rfl, trivial⟩
  | x :: r, as, h => by
    unfold evOs at h
    split at h
    · rename_i a b ha hb
      cases h
      obtain ⟨v, h1, h2⟩ := evO_ok hs ha
      obtain ⟨vs, h3, h4⟩ := evOs_ok hs hb
      exact ⟨v :: vs, by simp [evs, h1, h3], h2, h4⟩
    · cases h
theorem evOs_cons {xs : List Operand} {a : AV D} {as : List (AV D)} {x : Operand} (h : evOs sl (x :: xs) = some (a :: as)) : evO sl x = some a ∧ evOs sl xs = some as := by
  unfold evOs at h
  split at h
  · rename_i a' b ha hb
    cases h
    exact ⟨ha, hb⟩
  · cases h
theorem evOs_one {a : AV D} {x : Operand} (h : evOs sl [x] = some [a]) : evO sl x = some a := (evOs_cons h).1
theorem evOs_two {a b : AV D} {x y : Operand} (h : evOs sl [x, y] = some [a, b]) : evO sl x = some a ∧ evO sl y = some b := ⟨(evOs_cons h).1, evOs_one (evOs_cons h).2⟩
theorem evOs_three {a b c : AV D} {x y z : Operand} (h : evOs sl [x, y, z] = some [a, b, c]) : evO sl x = some a ∧ evO sl y = some b ∧ evO sl z = some c := ⟨(evOs_cons h).1, evOs_two (evOs_cons h).2⟩
theorem evOs_len : ∀ {xs : List Operand} {as : List (AV D)}, evOs sl xs = some as → xs.length = as.length
  | [], as, h => by simp only [evOs, Option.some.injEq] at h; subst h; rfl
  | x :: r, as, h => by
    unfold evOs at h
    split at h
    · rename_i a b ha hb
      cases h
      simp [evOs_len hb]
    · cases h

/-! what a step leaves where nothing is made -/
theorem post0 (hx : Cx U nid γ w sl L ob) {a : AV D} {v : Value} (h : VRV U γ w a v) : Post U nid γ w ob ⟨a, [], []⟩ γ v w := by
  have k : Keep U (addU U nid) γ w γ w := ⟨fun i h => .inl h, fun _ _ => rfl, fun _ _ => rfl, fun _ _ _ => ⟨rfl, rfl⟩⟩
  have := mkPost (e := ⟨a, [], []⟩) (v := v) (M := []) (N := []) (ps := []) (g' := γ.g) (v' := γ.v) hx.ob (Evo.refl [] [] γ.o w) (by simp) (by simp) (by simp) hx.big (fun _ _ => rfl) (fun _ _ => rfl) (h.keep k) (fun i x hx => by simp [lookN] at hx)
  exact this
/-- names g, g + 1, .. for data -/
def nms (f : Nat → DV D) (g : Nat) (ds : List (DV D)) : Nat → DV D := fun i => if g ≤ i then (match ds[i - g]? with | some d => d | none => f i) else f i
theorem nms_at {f : Nat → DV D} {g i : Nat} {ds : List (DV D)} {d : DV D} (h : ds[i]? = some d) : nms f g ds (g + i) = d := by
  unfold nms
  rw [if_pos (by omega), Nat.add_sub_cancel_left, h]
theorem nms_old {f : Nat → DV D} {g i : Nat} {ds : List (DV D)} (h : i < g ∨ g + ds.length ≤ i) : nms f g ds i = f i := by
  unfold nms
  split
  · rename_i hg
    rw [List.getElem?_eq_none (by omega)]
  · rfl
theorem Cx.old (hx : Cx U nid γ w sl L ob) {i : Nat} (h : U i) : i < nid ∨ nid + 64 ≤ i := by
  rcases Nat.lt_or_ge i nid with h1 | h1
  · exact .inl h1
  · rcases Nat.lt_or_ge i (nid + 64) with h2 | h2
    · exact (hx.fresh i h1 h2 h).elim
    · exact .inr h2
theorem nms_keep (hx : Cx U nid γ w sl L ob) {ds : List (DV D)} (hl : ds.length ≤ 48) {i : Nat} (h : U i) : nms γ.v (nid + 16) ds i = γ.v i := by
  rcases hx.old h with h1 | h1
  · exact nms_old (.inl (by omega))
  · exact nms_old (.inr (by omega))
/-- .. but names are given -/
theorem post1 (hx : Cx U nid γ w sl L ob) (ds : List (DV D)) (hl : ds.length ≤ 48) {a : AV D} {v : Value} (h : VRV (addU U nid) ⟨γ.o, γ.g, nms γ.v (nid + 16) ds⟩ w a v) : Post U nid γ w ob ⟨a, [], []⟩ ⟨γ.o, γ.g, nms γ.v (nid + 16) ds⟩ v w := by
  have := mkPost (e := ⟨a, [], []⟩) (v := v) (M := []) (N := []) (ps := []) (g' := γ.g) (v' := nms γ.v (nid + 16) ds) hx.ob (Evo.refl [] [] γ.o w) (by simp) (by simp) (by simp) hx.big (fun _ _ => rfl) (fun i hi => nms_keep hx hl hi) h (fun i x hx => by simp [lookN] at hx)
  exact this
theorem keep1 (hx : Cx U nid γ w sl L ob) (ds : List (DV D)) (hl : ds.length ≤ 48) : Keep U (addU U nid) γ w ⟨γ.o, γ.g, nms γ.v (nid + 16) ds⟩ w :=
  ⟨fun i h => .inl h, fun _ _ => rfl, fun i hi => nms_keep hx hl hi, fun _ _ _ => ⟨rfl, rfl⟩⟩
theorem named1 {γ' : Gh D} {ds : List (DV D)} {i : Nat} {x : DV D} (hv : γ'.v = nms γ.v (nid + 16) ds) (hi : i < 48) (h : ds[i]? = some x) : named (addU U nid) γ' (nid + 16 + i) x :=
  .inr ⟨.inr ⟨by omega, by omega⟩, by rw [hv]; exact nms_at h⟩
/-- one number or bool as the result -/
theorem postL (hx : Cx U nid γ w sl L ob) {lf : Lf} {x : lf.den D} {v : Value} (hf : LfRd (In γ.o []) w v ⟨lf, x⟩) : Post U nid γ w ob ⟨.c (.one (.v lf x [] (nid + 16))), [], []⟩ ⟨γ.o, γ.g, nms γ.v (nid + 16) [⟨lf, x⟩]⟩ v w :=
  post1 hx [⟨lf, x⟩] (by simp) ⟨hf, named1 (γ := γ) (i := 0) rfl (by omega) rfl, roK_nil⟩

/-! operations that look at values alone -/
theorem OW.mono [Rd] {o : Oper} {R R' : Value → World → Prop} (h : OW P Qx L o w R) (hr : ∀ v w', R v w' → R' v w') : OW P Qx L o w R' := fun a K ha hK => h a K ha fun v w' r => hK v w' (hr v w' r)
theorem OWpost [Rd] {o : Oper} {v : Value} {γ' : Gh D} (h : OW P Qx L o w (fun v' w' => v' = v ∧ w' = w)) (hp : Post U nid γ w ob e γ' v w) : OW P Qx L o w (fun v' w' => ∃ γ', Post U nid γ w ob e γ' v' w') :=
  OW.mono h fun v' w' ⟨h1, h2⟩ => by subst h1; subst h2; exact ⟨γ', hp⟩

theorem OW.shr [Rd] {k k' : IntKind} {x y : Operand} {t t2 : TypeId} {p q c : Int} (h1 : ev L x = some (.int k p)) (h2 : ev L y = some (.int k' q)) (hc : shrO k.bits p q = some c) :
    OW P Qx L ⟨d, .binOp .shr t x y t2, ty, pos, af, gd⟩ w (fun v w' => v = .int k c ∧ w' = w) := by
  refine OW.run fun a ha => ⟨_, w, ?_, rfl, rfl⟩
  unfold shrO at hc
  split at hc
  · cases hc
  · rename_i hq
    cases hc
    simp [execOp, ha _ _ h1, ha _ _ h2, eqGuard, binOp, Op.shift, hq]
theorem OW.binB [Rd] {op : BinOp} {x y : Operand} {t t2 : TypeId} {p q : Bool} {v : Bool} (ht : P.underlying t = some .bool) (hv : (op = .eql ∧ v = (p == q)) ∨ (op = .neq ∧ v = !(p == q))) (h1 : ev L x = some (.bool p)) (h2 : ev L y = some (.bool q)) :
    OW P Qx L ⟨d, .binOp op t x y t2, ty, pos, af, gd⟩ w (fun v' w' => v' = .bool v ∧ w' = w) := by
  have hE := EqOk.bool ht
  have := hE.run (S := fun _ => True) (S' := fun _ => True) (w := w) (v1 := .bool p) (v2 := .bool q) (x := p) (y := q) x y ⟨[.bool p], rfl, rfl⟩ ⟨[.bool q], rfl, rfl⟩
  refine OW.run fun a ha => ⟨_, w, ?_, rfl, rfl⟩
  rcases hv with ⟨rfl, rfl⟩ | ⟨rfl, rfl⟩
  · simp [execOp, ha _ _ h1, ha _ _ h2, this.1.1, this.1.2]
    cases p <;> cases q <;> rfl
  · simp [execOp, ha _ _ h1, ha _ _ h2, this.2.1, this.2.2]
    cases p <;> cases q <;> rfl
theorem OW.binRun [Rd] {op : BinOp} {x y : Operand} {a b v : Value} {t t2 : TypeId} (h1 : ev L x = some a) (h2 : ev L y = some b) (hg : (eqGuard op t x y a b).run P w = .ok () w) (hr : (binOp op t a b).run P w = .ok v w) :
    OW P Qx L ⟨d, .binOp op t x y t2, ty, pos, af, gd⟩ w (fun v' w' => v' = v ∧ w' = w) :=
  OW.run fun c hc => ⟨_, w, by simp [execOp, hc _ _ h1, hc _ _ h2, hg, hr], rfl, rfl⟩
theorem beq_ok [Rd] (hP : POk P T) (hx : Cx U nid γ w sl L ob) {op : BinOp} {x y : Operand} {p q : Bool} {K K' : List Nat} {g g' : Nat} {t t2 : TypeId} (ht : lookN T.ty t = some (.one .bool)) (ha : evO sl x = some (.c (.one (.v .bool p K g)))) (hb : evO sl y = some (.c (.one (.v .bool q K' g')))) (h : Q.R ob (beqQ op (nid + 16) p q) l e) :
    OW P Qx L ⟨d, .binOp op t x y t2, ty, pos, af, gd⟩ w (fun v w' => ∃ γ', Post U nid γ w ob e γ' v w') := by
  obtain ⟨u, h1, h2⟩ := evO_ok hx.sr ha
  obtain ⟨v, h3, h4⟩ := evO_ok hx.sr hb
  have e1 : u = .bool p := h2.1
  have e2 : v = .bool q := h4.1
  subst e1 e2
  have hu : P.underlying t = some .bool := (hP.ty _ _ ht).2
  unfold beqQ at h
  split at h
  · obtain ⟨_, rfl⟩ := h
    exact OWpost (OW.binB (v := p == q) hu (.inl ⟨rfl, rfl⟩) h1 h3) (postL hx rfl)
  · obtain ⟨_, rfl⟩ := h
    exact OWpost (OW.binB (v := !(p == q)) hu (.inr ⟨rfl, rfl⟩) h1 h3) (postL hx rfl)
  · exact h.elim
theorem binK_ok [Rd] (hx : Cx U nid γ w sl L ob) {op : BinOp} {x y : Operand} {k k' : IntKind} {p q : Int} {t t2 : TypeId} (h1 : ev L x = some (.int k p)) (h3 : ev L y = some (.int k' q)) (h : Q.R ob (binK op (nid + 16) k k' p q) l e) :
    OW P Qx L ⟨d, .binOp op t x y t2, ty, pos, af, gd⟩ w (fun v w' => ∃ γ', Post U nid γ w ob e γ' v w') := by
  unfold binK at h
  split at h
  · obtain ⟨c, hc, _, rfl⟩ := h
    exact OWpost (OW.shr h1 h3 hc) (postL hx rfl)
  · split at h
    case isFalse => exact h.elim
    rename_i hk
    subst hk
    split at h
    · obtain ⟨_, rfl⟩ := h
      exact OWpost (OW.binRun (v := .int k (k.wrap (p + q))) h1 h3 (by simp [eqGuard]) (by simp [binOp, Op.intArith])) (postL hx rfl)
    · obtain ⟨_, rfl⟩ := h
      exact OWpost (OW.binRun (v := .int k (k.wrap (p - q))) h1 h3 (by simp [eqGuard]) (by simp [binOp, Op.intArith])) (postL hx rfl)
    · obtain ⟨_, rfl⟩ := h
      exact OWpost (OW.binRun (v := .int k (k.wrap (p * q))) h1 h3 (by simp [eqGuard]) (by simp [binOp, Op.intArith])) (postL hx rfl)
    · obtain ⟨_, rfl⟩ := h
      exact OWpost (OW.binRun (v := .bool (p == q)) h1 h3 (by simp [eqGuard]) (by simp [binOp, Op.intCmp])) (postL hx rfl)
    · obtain ⟨_, rfl⟩ := h
      exact OWpost (OW.binRun (v := .bool (p != q)) h1 h3 (by simp [eqGuard]) (by simp [binOp, Op.intCmp])) (postL hx rfl)
    · obtain ⟨_, rfl⟩ := h
      exact OWpost (OW.binRun (v := .bool (decide (p < q))) h1 h3 (by simp [eqGuard]) (by simp [binOp, Op.intCmp])) (postL hx rfl)
    · obtain ⟨_, rfl⟩ := h
      exact OWpost (OW.binRun (v := .bool (decide (p ≤ q))) h1 h3 (by simp [eqGuard]) (by simp [binOp, Op.intCmp])) (postL hx rfl)
    · obtain ⟨_, rfl⟩ := h
      exact OWpost (OW.binRun (v := .bool (decide (p > q))) h1 h3 (by simp [eqGuard]) (by simp [binOp, Op.intCmp])) (postL hx rfl)
    · obtain ⟨_, rfl⟩ := h
      exact OWpost (OW.binRun (v := .bool (decide (p ≥ q))) h1 h3 (by simp [eqGuard]) (by simp [binOp, Op.intCmp])) (postL hx rfl)
    · exact h.elim
theorem sEq_list (a b : ByteArray) : (a.toList == b.toList) = sEq a b := by
  rw [Bool.eq_iff_iff]
  show (a.toList == b.toList) = true ↔ (a == b) = true
  have hb : ∀ p q : ByteArray, (p == q) = true ↔ p = q := fun ⟨a⟩ ⟨b⟩ => by
    show (a == b) = true ↔ _
    simp
  rw [beq_iff_eq, hb, ByteArray.toList_eq, ByteArray.toList_eq]
  constructor
  · intro h
    exact ByteArray.ext (Array.toList_inj.mp h)
  · rintro rfl
    rfl
theorem str_ok [Rd] (hx : Cx U nid γ w sl L ob) {op : BinOp} {x y : Operand} {p q : ByteArray} {t t2 : TypeId} (h1 : ev L x = some (.string p)) (h3 : ev L y = some (.string q)) (h : Q.R ob (strQ op (nid + 16) p q) l e) :
    OW P Qx L ⟨d, .binOp op t x y t2, ty, pos, af, gd⟩ w (fun v w' => ∃ γ', Post U nid γ w ob e γ' v w') := by
  unfold strQ at h
  split at h
  · obtain ⟨c, hc, _, rfl⟩ := h
    unfold sApp at hc
    split at hc
    case isFalse => cases hc
    rename_i hs
    cases hc
    have h' : ¬ (9223372036854775807 < ((p.size : Int) + (q.size : Int))) := by omega
    exact OWpost (OW.binRun (v := .string (p ++ q)) h1 h3 (by simp [eqGuard]) (by simp [binOp, Op.stringOp, h'])) (postL hx rfl)
  · obtain ⟨_, rfl⟩ := h
    exact OWpost (OW.binRun (v := .bool (sEq p q)) h1 h3 (by simp [eqGuard]) (by rw [← sEq_list]; simp [binOp, Op.stringOp])) (postL hx rfl)
  · obtain ⟨_, rfl⟩ := h
    exact OWpost (OW.binRun (v := .bool (!(sEq p q))) h1 h3 (by simp [eqGuard]) (by rw [← sEq_list]; simp [binOp, Op.stringOp]; try rfl)) (postL hx rfl)
  · exact h.elim
theorem bin_ok [Rd] (hx : Cx U nid γ w sl L ob) {op : BinOp} {x y : Operand} {a b : AV D} {t t2 : TypeId} (ha : evO sl x = some a) (hb : evO sl y = some b) (h : Q.R ob (binQ op (nid + 16) a b) l e) :
    OW P Qx L ⟨d, .binOp op t x y t2, ty, pos, af, gd⟩ w (fun v w' => ∃ γ', Post U nid γ w ob e γ' v w') := by
  unfold binQ at h
  split at h
  · rename_i k p K g k' q K' g'
    obtain ⟨u, h1, h2⟩ := evO_ok hx.sr ha
    obtain ⟨v, h3, h4⟩ := evO_ok hx.sr hb
    have e1 : u = .int k p := h2.1
    have e2 : v = .int k' q := h4.1
    subst e1 e2
    split at h
    · split at h
      case h_4 =>
        obtain ⟨c, hc, _, rfl⟩ := h
        exact OWpost (OW.quo h1 h3 hc) (postL hx rfl)
      case h_5 =>
        obtain ⟨c, hc, _, rfl⟩ := h
        exact OWpost (OW.rem h1 h3 hc) (postL hx rfl)
      case h_12 =>
        obtain ⟨c, hc, _, rfl⟩ := h
        exact OWpost (OW.shr h1 h3 hc) (postL hx rfl)
      all_goals first
        | exact h.elim
        | (obtain ⟨_, rfl⟩ := h
           refine OWpost (OW.pv (v := ?_) ?_) (postL hx ?_)
           rotate_left
           · simp only [Dp.pv, h1, h3, bin]
             rfl
           · rfl)
    · exact binK_ok hx h1 h3 h
  · rename_i p K g q K' g'
    obtain ⟨u, h1, h2⟩ := evO_ok hx.sr ha
    obtain ⟨v, h3, h4⟩ := evO_ok hx.sr hb
    have e1 : u = .string p := h2.1
    have e2 : v = .string q := h4.1
    subst e1 e2
    exact str_ok hx h1 h3 h
  · exact h.elim

theorem dvsA_ok : ∀ {cs : List (A1 D)} {us : List Value} {ks : List (DV D)}, dvsA cs = some ks → VR1s U γ w cs us → LRd (fun _ => True) w us ks
  | [], us, ks, h, hv => by
    cases h
    cases us with
    | nil => trivial
    | cons _ _ => exact hv.elim
  | a :: cs, us, ks, h, hv => by
    cases us with
    | nil => exact hv.elim
    | cons u us =>
      unfold dvsA at h
      split at h
      · rename_i heq; cases heq
      · rename_i lf x K g r heq
        cases heq
        split at h
        case h_2 => cases h
        rename_i ks' hks
        cases h
        exact ⟨hv.1.1.mono fun _ _ _ => ⟨trivial, rfl⟩, dvsA_ok hks hv.2⟩
      · cases h
theorem KeyC_of {S : Nat → Prop} : ∀ {vs : List Value} {ks : List (DV D)}, LRd S w vs ks → (ks.map DV.l).all flatL = true → KeyC (ks.map DV.l) vs
  | [], [], _, _ => trivial
  | v :: vs, ⟨l, x⟩ :: ks, h, hf => by
    simp only [List.map_cons, List.all_cons, Bool.and_eq_true] at hf
    refine ⟨?_, KeyC_of h.2 hf.2⟩
    cases l with
    | int k => exact ⟨x, h.1⟩
    | bool => exact ⟨x, h.1⟩
    | str => exact ⟨x, h.1⟩
    | sl n => cases hf.1
  | [], _ :: _, h, _ => h.elim
  | _ :: _, [], h, _ => h.elim
theorem dvEq_ok {S S' : Nat → Prop} {w' : World} {u v : Value} {x y : DV D} (hu : LfRd S w u x) (hv : LfRd S' w' v y) (hl : x.l = y.l) (hf : flatL x.l = true) : dvEq x y = true ↔ u = v := by
  obtain ⟨l, x⟩ := x
  obtain ⟨l', y⟩ := y
  dsimp only at hl
  subst hl
  cases l with
  | int k =>
    have e1 : u = .int k x := hu
    have e2 : v = .int k y := hv
    subst e1 e2
    simp [dvEq, ieq]
  | bool =>
    have e1 : u = .bool x := hu
    have e2 : v = .bool y := hv
    subst e1 e2
    simp [dvEq, beq']
  | str =>
    have e1 : u = .string x := hu
    have e2 : v = .string y := hv
    subst e1 e2
    show (x == y) = true ↔ _
    rw [show (Value.string x = Value.string y) = (x = y) from by simp]
    clear hu hv hf
    have : ∀ p q : ByteArray, (p == q) = true ↔ p = q := fun ⟨a⟩ ⟨b⟩ => by
      show (a == b) = true ↔ _
      simp
    exact this x y
  | sl n => cases hf
theorem dvsEq_ok {S S' : Nat → Prop} {w' : World} : ∀ {us vs : List Value} {xs ys : List (DV D)}, LRd S w us xs → LRd S' w' vs ys → xs.map DV.l = ys.map DV.l → (xs.map DV.l).all flatL = true → (dvsEq xs ys = true ↔ us = vs)
  | [], [], [], [], _, _, _, _ => by simp [dvsEq]
  | u :: us, v :: vs, x :: xs, y :: ys, h, h', hk, hf => by
    simp only [List.map_cons, List.cons.injEq] at hk
    simp only [List.map_cons, List.all_cons, Bool.and_eq_true] at hf
    have e1 := dvEq_ok h.1 h'.1 hk.1 hf.1
    have ih := dvsEq_ok h.2 h'.2 hk.2 hf.2
    cases xs with
    | nil =>
      have hy : ys = [] := by
        have := hk.2
        cases ys with
        | nil => rfl
        | cons _ _ => simp at this
      subst hy
      have h1 : us = [] := by cases us with | nil => rfl | cons _ _ => exact h.2.elim
      have h2 : vs = [] := by cases vs with | nil => rfl | cons _ _ => exact h'.2.elim
      subst h1 h2
      simp only [dvsEq, e1]
      simp
    | cons x' xs =>
      simp only [dvsEq, band, Bool.and_eq_true, e1]
      rw [ih]
      simp
  | [], _ :: _, [], [], _, h', _, _ => h'.elim
  | [], _, _ :: _, _, h, _, _, _ => h.elim
  | _ :: _, _, [], _, h, _, _, _ => h.elim
  | _, [], _, _ :: _, _, h', _, _ => h'.elim
  | _, _ :: _, _, [], _, h', _, _ => h'.elim
theorem eq_run {t : TypeId} {ls : List Lf} {us vs : List Value} {xs ys : List (DV D)} (hE : EqT P t ls) (hf : ls.all flatL = true) (hx : LRd (fun _ => True) w us xs) (hy : LRd (fun _ => True) w vs ys) (h1 : xs.map DV.l = ls) (h2 : ys.map DV.l = ls) : (Op.equal t (.agg us.toArray) (.agg vs.toArray)).run P w = .ok (dvsEq xs ys) w := by
  obtain ⟨k, hk, hE⟩ := hE.eq
  have c1 := KeyC_of hx (by rw [h1]; exact hf)
  have c2 := KeyC_of hy (by rw [h2]; exact hf)
  rw [h1] at c1
  rw [h2] at c2
  obtain ⟨r, e1, e2⟩ := hE (10000 - k) w us vs c1 c2
  rw [show 10000 - k + k = 10000 by omega] at e1
  have e3 : dvsEq xs ys = r := Bool.eq_iff_iff.2 ((dvsEq_ok hx hy (h1.trans h2.symm) (by rw [h1]; exact hf)).trans e2.symm)
  rw [e3]
  exact e1
theorem eq_ok [Rd] (hP : POk P T) (hx : Cx U nid γ w sl L ob) {op : BinOp} {x y : Operand} {p q : List (A1 D)} {t t2 : TypeId} {n : List Lf} (ht : lookN T.eqs t = some n) (ha : evO sl x = some (.c (.agg p))) (hb : evO sl y = some (.c (.agg q))) (h : Q.R ob (eqQ op (nid + 16) n p q) l e) :
    OW P Qx L ⟨d, .binOp op t x y t2, ty, pos, af, gd⟩ w (fun v w' => ∃ γ', Post U nid γ w ob e γ' v w') := by
  unfold eqQ at h
  split at h
  case h_2 => exact h.elim
  rename_i xs ys hxs hys
  split at h
  case isFalse => exact h.elim
  rename_i hc
  obtain ⟨u, h1, us, rfl, h2⟩ := evO_ok hx.sr ha
  obtain ⟨v, h3, vs, rfl, h4⟩ := evO_ok hx.sr hb
  have e1 := dvsA_ok hxs h2
  have e2 := dvsA_ok hys h4
  obtain ⟨hE, hf⟩ := hP.eqs t n ht
  have hrun := eq_run hE hf e1 e2 hc.1 hc.2
  split at h
  · obtain ⟨_, rfl⟩ := h
    refine OWpost (v := .bool (dvsEq xs ys)) (OW.run fun a ha => ⟨_, w, ?_, rfl, rfl⟩) (postL hx rfl)
    simp [execOp, ha _ _ h1, ha _ _ h3, eqGuard, hE.guard, binOp, hrun]
  · obtain ⟨_, rfl⟩ := h
    refine OWpost (v := .bool (!(dvsEq xs ys))) (OW.run fun a ha => ⟨_, w, ?_, rfl, rfl⟩) (postL hx rfl)
    simp [execOp, ha _ _ h1, ha _ _ h3, eqGuard, hE.guard, binOp, hrun]
  · exact h.elim
end
end Rx
end Go.Proofs.Ytkgfdplcjdidhaa
