/- What it means that something is known: abstract values, blocks and states against the machine's values and memory. Nothing here names a program. -/
import Derived.Test.YtdfkfohpgakihaaRb
set_option linter.unusedVariables false
set_option linter.unusedSimpArgs false
set_option linter.unusedSectionVars false
namespace Go.Proofs.Ytdfkfohpgakihaa
open Go Go.RowKit Dp

namespace Rx

section
variable {D : Nat → Type} [∀ n, Rep (D n)]

/-! data in cells -/
def LfRd (S : Nat → Prop) (w : World) (v : Value) : DV D → Prop
  | ⟨.int k, d⟩ => v = .int k d
  | ⟨.bool, d⟩ => v = .bool d
  | ⟨.str, d⟩ => v = .string d
  | ⟨.sl n, d⟩ => Rv S w v (d : List (D n))
def LRd (S : Nat → Prop) (w : World) : List Value → List (DV D) → Prop
  | [], [] => True
  | v :: vs, d :: ds => LfRd S w v d ∧ LRd S w vs ds
  | _, _ => False
def zeroC : List Lf → List Value
  | [] => []
  | l :: r => (match l with | .int k => .int k 0 | .bool => .bool false | .str => .string ByteArray.empty | .sl _ => .slice none 0 0) :: zeroC r

/-- the table of elements says how they lie in memory -/
structure RepOk (T : Tab D) : Prop where
  sz : ∀ n, Rep.sz (D n) = (T.lv n).length
  ag : ∀ n, Rep.agg (D n) = T.ag n
  zc : ∀ n, Rep.zc (D n) = zeroC (T.lv n)
  zero : ∀ n, (Rep.zero : D n) = T.zero n
  rd : ∀ n S w cs (x : D n), Rep.rd S w cs x ↔ LRd S w cs (T.out n x)
  few : ∀ n, (T.lv n).length ≤ 48
  mkh : ∀ n h, T.outH n (T.mkH n h) = h

theorem LfRd.mono {S S' : Nat → Prop} {w w' : World} (hm : ∀ b, S b → b < w.heap.size → S' b ∧ w'.heap[b]? = w.heap[b]?) {v : Value} : ∀ {d : DV D}, LfRd S w v d → LfRd S' w' v d
  | ⟨.int k, d⟩, h => h
  | ⟨.bool, d⟩, h => h
  | ⟨.str, d⟩, h => h
  | ⟨.sl n, d⟩, h => Rv.mono hm h
theorem LRd.mono {S S' : Nat → Prop} {w w' : World} (hm : ∀ b, S b → b < w.heap.size → S' b ∧ w'.heap[b]? = w.heap[b]?) : ∀ {vs : List Value} {ds : List (DV D)}, LRd S w vs ds → LRd S' w' vs ds
  | [], [], _ => trivial
  | v :: vs, d :: ds, h => ⟨h.1.mono hm, LRd.mono hm h.2⟩
  | [], _ :: _, h => h.elim
  | _ :: _, [], h => h.elim
theorem LfRd.one {S : Nat → Prop} {w : World} {v : Value} : ∀ {d : DV D}, LfRd S w v d → v.oneCell' = true
  | ⟨.int k, d⟩, h => by cases h; rfl
  | ⟨.bool, d⟩, h => by cases h; rfl
  | ⟨.str, d⟩, h => by cases h; rfl
  | ⟨.sl n, d⟩, h => Rv.one (α := List (D n)) h rfl
theorem LRd.length {S : Nat → Prop} {w : World} : ∀ {vs : List Value} {ds : List (DV D)}, LRd S w vs ds → vs.length = ds.length
  | [], [], _ => rfl
  | v :: vs, d :: ds, h => by simp [LRd.length h.2]
  | [], _ :: _, h => h.elim
  | _ :: _, [], h => h.elim
theorem LRd.append {S : Nat → Prop} {w : World} : ∀ {vs : List Value} {ds : List (DV D)} {us : List Value} {es : List (DV D)}, LRd S w vs ds → LRd S w us es → LRd S w (vs ++ us) (ds ++ es)
  | [], [], _, _, _, h => h
  | v :: vs, d :: ds, _, _, h, h' => ⟨h.1, LRd.append h.2 h'⟩
  | [], _ :: _, _, _, h, _ => h.elim
  | _ :: _, [], _, _, h, _ => h.elim
theorem LRd.take {S : Nat → Prop} {w : World} : ∀ {vs : List Value} {ds : List (DV D)}, LRd S w vs ds → ∀ k, LRd S w (vs.take k) (ds.take k)
  | _, _, _, 0 => by simp [LRd]
  | [], [], _, k + 1 => trivial
  | v :: vs, d :: ds, h, k + 1 => ⟨h.1, LRd.take h.2 k⟩
  | [], _ :: _, h, _ => h.elim
  | _ :: _, [], h, _ => h.elim
theorem LRd.drop {S : Nat → Prop} {w : World} : ∀ {vs : List Value} {ds : List (DV D)}, LRd S w vs ds → ∀ k, LRd S w (vs.drop k) (ds.drop k)
  | _, _, h, 0 => by simpa using h
  | [], [], _, k + 1 => trivial
  | v :: vs, d :: ds, h, k + 1 => by simpa using LRd.drop h.2 k
  | [], _ :: _, h, _ => h.elim
  | _ :: _, [], h, _ => h.elim

/-! typed lists of data and lists of tagged data -/
theorem toHL_of : ∀ (ts : List Lf) (h : HL D ts), toHL ts (ofHL ts h) = some h
  | [], _ => rfl
  | [l], x => by simp [toHL, ofHL]
  | l :: m :: r, x => by
    have ih := toHL_of (m :: r) x.2
    simp only [toHL, ofHL, dif_pos] at ih ⊢
    rw [ih]
    rfl
theorem ofHL_to : ∀ {ts : List Lf} {ds : List (DV D)} {h : HL D ts}, toHL ts ds = some h → ofHL ts h = ds
  | [], [], h, e => rfl
  | [], _ :: _, h, e => by simp [toHL] at e
  | [l], [], h, e => by simp [toHL] at e
  | [l], [⟨l', d⟩], h, e => by
    simp only [toHL] at e
    by_cases hl : l' = l
    · subst hl
      simp only [dif_pos] at e
      cases e
      rfl
    · simp [hl] at e
  | [l], _ :: _ :: _, h, e => by simp [toHL] at e
  | l :: m :: r, [], h, e => by simp [toHL] at e
  | l :: m :: r, ⟨l', d⟩ :: ds', h, e => by
    rw [toHL] at e
    by_cases hl : l' = l
    · subst hl
      simp only [dif_pos] at e
      cases hx : toHL (m :: r) ds' with
      | none => rw [hx] at e; cases e
      | some x =>
        rw [hx] at e
        cases e
        simp only [ofHL, ofHL_to hx]
    · simp [hl] at e
variable {T : Tab D}
theorem RepOk.mk? {n : Nat} {ds : List (DV D)} {x : D n} (hR : RepOk T) (h : T.mk? n ds = some x) : T.out n x = ds := by
  unfold Tab.mk? at h
  split at h
  · rename_i y hy
    cases h
    rw [Tab.out, hR.mkh, ofHL_to hy]
  · cases h
theorem ofHL_len {D : Nat → Type} : ∀ (ts : List Lf) (h : HL D ts), (ofHL ts h).length = ts.length
  | [], _ => rfl
  | [l], x => rfl
  | l :: m :: r, x => by simp [ofHL, ofHL_len (m :: r) x.2]
theorem out_len (T : Tab D) (n : Nat) (x : D n) : (T.out n x).length = (T.lv n).length := ofHL_len _ _
theorem ofOne_un (hR : RepOk T) : ∀ {t : Ht} {ds ds' : List (DV D)} {x : t.den D}, unOne T t ds = some (x, ds') → ds = ofOne T t x ++ ds'
  | .lf l, [], ds', x, e => by simp [unOne] at e
  | .lf l, ⟨l', d⟩ :: r, ds', x, e => by
    simp only [unOne] at e
    by_cases hl : l' = l
    · subst hl
      simp only [dif_pos, Option.some.injEq, Prod.mk.injEq] at e
      obtain ⟨rfl, rfl⟩ := e
      rfl
    · simp [hl] at e
  | .el n, ds, ds', x, e => by
    simp only [unOne] at e
    cases hy : T.mk? n (ds.take (T.lv n).length) with
    | none => simp [hy] at e
    | some y =>
      simp only [hy, Option.some.injEq, Prod.mk.injEq] at e
      obtain ⟨rfl, rfl⟩ := e
      rw [ofOne, hR.mk? hy, List.take_append_drop]
theorem ofHH_to (hR : RepOk T) : ∀ {ts : List Ht} {ds : List (DV D)} {h : HH D ts}, toHH T ts ds = some h → ofHH T ts h = ds
  | [], [], h, e => rfl
  | [], _ :: _, h, e => by simp [toHH] at e
  | [t], ds, h, e => by
    rw [toHH] at e
    cases hx : unOne T t ds with
    | none => simp [hx] at e
    | some y =>
      obtain ⟨x, r⟩ := y
      cases r with
      | nil =>
        simp only [hx] at e
        cases e
        have := ofOne_un hR hx
        simp [ofHH, this]
      | cons _ _ => simp [hx] at e
  | t :: m :: r, ds, h, e => by
    rw [toHH] at e
    cases hx : unOne T t ds with
    | none => simp [hx] at e
    | some y =>
      obtain ⟨x, ds'⟩ := y
      rw [hx] at e
      dsimp only at e
      cases hy : toHH T (m :: r) ds' with
      | none => rw [hy] at e; cases e
      | some z =>
        rw [hy] at e
        cases e
        have := ofOne_un hR hx
        simp only [ofHH, ofHH_to hR hy, this]

/-! ghosts: who owns a block, where a block of the call's own lies, what a name names -/
structure Gh (D : Nat → Type) where
  o : Cls
  g : Nat → Value
  v : Nat → DV D
def roK (K : List Nat) : Prop := ∀ x ∈ K, x < 2
def named (U : Nat → Prop) (γ : Gh D) (t : Nat) (d : DV D) : Prop := t = 0 ∨ (U t ∧ γ.v t = d)
def ptrV (b off : Nat) : Value := .pointer (some ⟨b, off, none⟩)
/-- block b is where the slice lies -/
def headB (v : Value) (b : Nat) : Bool := match v with
  | .slice (some a) _ _ => Nat.beq a.block b
  | _ => false
/-- of the blocks of owner i: 0: the array of the slice v; 1: the others, its elements' own -/
def kcls (o : Cls) (i : Nat) (v : Value) : Cls := fun b => if o b = i then (if headB v b then 0 else 1) else 2
/-- the cells of v's array are named by h -/
def Hdr (γ : Gh D) (w : World) (i h : Nat) : Prop := ∃ cells : Array Value, γ.g h = .agg cells ∧ ∀ (b n c q : Nat), γ.g i = .slice (some ⟨b, 0, none⟩) n c → w.cell? ⟨b, q, none⟩ = cells[q]?

def VR0 (U : Nat → Prop) (γ : Gh D) (w : World) : A0 D → Value → Prop
  | .ptr i off, v => U i ∧ ∃ b, γ.g i = ptrV b 0 ∧ v = ptrV b off
  | .rp n x off K, v => ∃ pa : Addr, v = .pointer (some (pa.add off)) ∧ PtrAt (In γ.o K) w pa x ∧ roK K
def VR0s (U : Nat → Prop) (γ : Gh D) (w : World) : List (A0 D) → List Value → Prop
  | [], [] => True
  | a :: as, v :: vs => VR0 U γ w a v ∧ VR0s U γ w as vs
  | _, _ => False
def VR1 (U : Nat → Prop) (γ : Gh D) (w : World) : A1 D → Value → Prop
  | .v l d K t, v => LfRd (In γ.o K) w v ⟨l, d⟩ ∧ named U γ t ⟨l, d⟩ ∧ roK K
  | .ptr i off, v => U i ∧ ∃ b, γ.g i = ptrV b 0 ∧ v = ptrV b off
  | .el i n j y off tc tj, v => U i ∧ (tc ≠ 0 ∧ U tc) ∧ (∃ xs : List (D n), γ.v tc = ⟨.sl n, xs⟩ ∧ idx xs j = some y) ∧ named U γ tj ⟨.int .i64, j⟩ ∧
      ∃ b len cap, γ.g i = .slice (some ⟨b, 0, none⟩) len cap ∧ v = ptrV b (j.toNat * Rep.sz (D n) + off)
  | .rp n x off K, v => ∃ pa : Addr, v = .pointer (some (pa.add off)) ∧ PtrAt (In γ.o K) w pa x ∧ roK K
  | .own i, v => U i ∧ v = γ.g i ∧ v.oneCell' = true
  | .fn f caps, v => ∃ cs : List Value, v = .func (.func f) #[] cs.toArray ∧ VR0s U γ w caps cs
  | .ch i n j off ct m d, v => U i ∧ (ct ≠ 0 ∧ U ct) ∧ (∃ (xs : List (D n)) (y : D n), γ.v ct = ⟨.sl n, xs⟩ ∧ idx xs j = some y ∧ ∀ (S : Nat → Prop) (w : World) (cs : List Value), Rep.rd S w cs y → ∃ u, cs[off]? = some u ∧ Rv S w u d) ∧
      (∃ b len cap cells, γ.g i = .slice (some ⟨b, 0, none⟩) len cap ∧ γ.g ct = .agg cells ∧ cells[j.toNat * Rep.sz (D n) + off]? = some v) ∧ ∃ p c, v = .slice p d.length c
  | .cha i t, v => U i ∧ U t ∧ v = γ.g t ∧ v.oneCell' = true
  | .tail i n j, v => U i ∧ TailOf (Rep.sz (D n)) (γ.g i) v j.toNat
  | .nils, v => v = .slice none 0 0
  | .nilp, v => v = .pointer none
  | .nilf, v => v = .nilFunc
  | .undef, v => v = undef
  | .unk, _ => True
def VR1s (U : Nat → Prop) (γ : Gh D) (w : World) : List (A1 D) → List Value → Prop
  | [], [] => True
  | a :: as, v :: vs => VR1 U γ w a v ∧ VR1s U γ w as vs
  | _, _ => False
def VRC (U : Nat → Prop) (γ : Gh D) (w : World) : AC D → Value → Prop
  | .one a, v => VR1 U γ w a v
  | .agg l, v => ∃ us : List Value, v = .agg us.toArray ∧ VR1s U γ w l us
def VRCs (U : Nat → Prop) (γ : Gh D) (w : World) : List (AC D) → List Value → Prop
  | [], [] => True
  | a :: as, v :: vs => VRC U γ w a v ∧ VRCs U γ w as vs
  | _, _ => False
def VRV (U : Nat → Prop) (γ : Gh D) (w : World) : AV D → Value → Prop
  | .c x, v => VRC U γ w x v
  | .tup l, v => ∃ us : List Value, v = .tuple us.toArray ∧ VRCs U γ w l us
def VRVs (U : Nat → Prop) (γ : Gh D) (w : World) : List (AV D) → List Value → Prop
  | [], [] => True
  | a :: as, v :: vs => VRV U γ w a v ∧ VRVs U γ w as vs
  | _, _ => False
def SR (U : Nat → Prop) (γ : Gh D) (w : World) (sl : List (Nat × AV D)) (L : List (Nat × Value)) : Prop := ∀ t a, lookN sl t = some a → ∃ v, Dp.look L t = some v ∧ VRV U γ w a v
def OR (U : Nat → Prop) (γ : Gh D) (w : World) (i : Nat) : AO D → Prop
  | .box cs => ∃ (b : Nat) (us : List Value) (t : TypeId), γ.g i = ptrV b 0 ∧ γ.o b = i ∧ w.heap[b]? = some (.cells us.toArray t (0, 0)) ∧ VR1s U γ w cs us ∧ cs.all storable = true
  | .sl n t xs K g => Ow t γ.o i K w (γ.g i) xs ∧ roK K ∧ named U γ g ⟨.sl n, xs⟩
  | .kid n t tc m xs g h => OwC (Rep.sz (D m)) t tc (kcls γ.o i (γ.g i)) 0 1 w (γ.g i) xs ∧ named U γ g ⟨.sl n, xs⟩ ∧ (h = 0 ∨ (U h ∧ γ.v h = ⟨.sl n, xs⟩ ∧ Hdr γ w i h))
  | .kidh n t tc m xs j off s g => named U γ g ⟨.sl n, xs⟩ ∧ U s ∧ ∃ b len cap, γ.g i = .slice (some ⟨b, 0, none⟩) len cap ∧ OwH (Rep.sz (D m)) t tc (kcls γ.o i (γ.g i)) 0 1 w (γ.g i) xs ⟨b, j.toNat * Rep.sz (D n) + off, none⟩ (γ.g s)
/-- all that is known of blocks -/
structure OB (U : Nat → Prop) (γ : Gh D) (w : World) (ob : List (Nat × Option (AO D))) : Prop where
  ob : ∀ i x, lookO ob i = some x → 1000 ≤ i ∧ U i ∧ OR U γ w i x
  cl : ∀ b, b < w.heap.size → U (γ.o b)
  ro : ∀ x, x < 2000 → U x

/-- what a step leaves of the world -/
structure Frame0 (γ : Gh D) (w : World) (γ' : Gh D) (w' : World) : Prop where
  os : w'.os = w.os
  tape : w'.tape = w.tape
  output : w'.output = w.output
  size : w.heap.size ≤ w'.heap.size
  ro : ∀ b, b < w.heap.size → (γ.o b = 0 ∨ γ.o b = 3) → γ'.o b = γ.o b ∧ w'.heap[b]? = w.heap[b]?
  back : ∀ b, b < w'.heap.size → (γ'.o b = 0 ∨ γ'.o b = 3) → b < w.heap.size ∧ γ.o b = γ'.o b
/-- .. and of where the blocks lie that a call came in with -/
structure Frame (γ : Gh D) (w : World) (γ' : Gh D) (w' : World) : Prop extends Frame0 γ w γ' w' where
  gk : ∀ i, i < 2000 → γ'.g i = γ.g i
theorem Frame0.refl (γ : Gh D) (w : World) : Frame0 γ w γ w := ⟨rfl, rfl, rfl, Nat.le_refl _, fun _ _ _ => ⟨rfl, rfl⟩, fun _ h _ => ⟨h, rfl⟩⟩
theorem Frame.refl (γ : Gh D) (w : World) : Frame γ w γ w := ⟨.refl γ w, fun _ _ => rfl⟩
theorem Frame0.trans {γ γ1 γ2 : Gh D} {w w1 w2 : World} (h : Frame0 γ w γ1 w1) (k : Frame0 γ1 w1 γ2 w2) : Frame0 γ w γ2 w2 := by
  refine ⟨k.os.trans h.os, k.tape.trans h.tape, k.output.trans h.output, Nat.le_trans h.size k.size, fun b hb hc => ?_, fun b hb hc => ?_⟩
  · obtain ⟨h1, h2⟩ := h.ro b hb hc
    obtain ⟨k1, k2⟩ := k.ro b (Nat.lt_of_lt_of_le hb h.size) (by rw [h1]; exact hc)
    exact ⟨k1.trans h1, k2.trans h2⟩
  · obtain ⟨k1, k2⟩ := k.back b hb hc
    obtain ⟨h1, h2⟩ := h.back b k1 (by rw [k2]; exact hc)
    exact ⟨h1, h2.trans k2⟩
theorem Frame.trans {γ γ1 γ2 : Gh D} {w w1 w2 : World} (h : Frame γ w γ1 w1) (k : Frame γ1 w1 γ2 w2) : Frame γ w γ2 w2 :=
  ⟨h.toFrame0.trans k.toFrame0, fun i hi => (k.gk i hi).trans (h.gk i hi)⟩

/-- from one moment to a later one: what stays known -/
structure Keep (U U' : Nat → Prop) (γ : Gh D) (w : World) (γ' : Gh D) (w' : World) : Prop where
  u : ∀ i, U i → U' i
  g : ∀ i, U i → γ'.g i = γ.g i
  v : ∀ i, U i → γ'.v i = γ.v i
  ro : ∀ b, b < w.heap.size → γ.o b < 2 → γ'.o b = γ.o b ∧ w'.heap[b]? = w.heap[b]?

section
variable {U U' : Nat → Prop} {γ γ' : Gh D} {w w' : World}
theorem Keep.refl : Keep U U γ w γ w := ⟨fun _ h => h, fun _ _ => rfl, fun _ _ => rfl, fun _ _ _ => ⟨rfl, rfl⟩⟩
theorem Keep.mem (k : Keep U U' γ w γ' w') {K : List Nat} (hK : roK K) : ∀ b, In γ.o K b → b < w.heap.size → In γ'.o K b ∧ w'.heap[b]? = w.heap[b]? := fun b hb hlt => by
  obtain ⟨h1, h2⟩ := k.ro b hlt (hK _ hb)
  exact ⟨by unfold In; rw [h1]; exact hb, h2⟩
theorem named.keep (k : Keep U U' γ w γ' w') {t : Nat} {d : DV D} (h : named U γ t d) : named U' γ' t d := by
  rcases h with h | ⟨h1, h2⟩
  · exact .inl h
  · exact .inr ⟨k.u _ h1, by rw [k.v _ h1]; exact h2⟩
theorem VR0.keep (k : Keep U U' γ w γ' w') : ∀ {a : A0 D} {v : Value}, VR0 U γ w a v → VR0 U' γ' w' a v
  | .ptr i off, v, ⟨h, b, h1, h2⟩ => ⟨k.u _ h, b, by rw [k.g _ h]; exact h1, h2⟩
  | .rp n x off K, v, ⟨pa, h1, h2, h3⟩ => ⟨pa, h1, h2.mono (k.mem h3), h3⟩
theorem VR0s.keep (k : Keep U U' γ w γ' w') : ∀ {as : List (A0 D)} {vs : List Value}, VR0s U γ w as vs → VR0s U' γ' w' as vs
  | [], [], _ => trivial
  | a :: as, v :: vs, h => ⟨h.1.keep k, VR0s.keep k h.2⟩
  | [], _ :: _, h => h.elim
  | _ :: _, [], h => h.elim
theorem VR1.keep (k : Keep U U' γ w γ' w') : ∀ {a : A1 D} {v : Value}, VR1 U γ w a v → VR1 U' γ' w' a v
  | .v l d K t, v, ⟨h1, h2, h3⟩ => ⟨h1.mono (k.mem h3), h2.keep k, h3⟩
  | .ptr i off, v, ⟨h, b, h1, h2⟩ => ⟨k.u _ h, b, by rw [k.g _ h]; exact h1, h2⟩
  | .el i n j y off tc tj, v, ⟨h1, h2, ⟨xs, h3, h4⟩, h5, b, len, cap, h6, h7⟩ => ⟨k.u _ h1, ⟨h2.1, k.u _ h2.2⟩, ⟨xs, by rw [k.v _ h2.2]; exact h3, h4⟩, h5.keep k, b, len, cap, by rw [k.g _ h1]; exact h6, h7⟩
  | .rp n x off K, v, ⟨pa, h1, h2, h3⟩ => ⟨pa, h1, h2.mono (k.mem h3), h3⟩
  | .own i, v, ⟨h, h1, h2⟩ => ⟨k.u _ h, by rw [k.g _ h]; exact h1, h2⟩
  | .fn f caps, v, ⟨cs, h1, h2⟩ => ⟨cs, h1, h2.keep k⟩
  | .ch i n j off ct m d, v, ⟨h1, h2, ⟨xs, y, h3, h4⟩, ⟨b, len, cap, cells, h5, h6, h7⟩, h8⟩ => ⟨k.u _ h1, ⟨h2.1, k.u _ h2.2⟩, ⟨xs, y, by rw [k.v _ h2.2]; exact h3, h4⟩, ⟨b, len, cap, cells, by rw [k.g _ h1]; exact h5, by rw [k.g _ h2.2]; exact h6, h7⟩, h8⟩
  | .cha i t, v, ⟨h1, h2, h3, h4⟩ => ⟨k.u _ h1, k.u _ h2, by rw [k.g _ h2]; exact h3, h4⟩
  | .tail i n j, v, ⟨h1, h2⟩ => ⟨k.u _ h1, by rw [k.g _ h1]; exact h2⟩
  | .nils, v, h => h
  | .nilp, v, h => h
  | .nilf, v, h => h
  | .undef, v, h => h
  | .unk, v, h => h
theorem VR1s.keep (k : Keep U U' γ w γ' w') : ∀ {as : List (A1 D)} {vs : List Value}, VR1s U γ w as vs → VR1s U' γ' w' as vs
  | [], [], _ => trivial
  | a :: as, v :: vs, h => ⟨h.1.keep k, VR1s.keep k h.2⟩
  | [], _ :: _, h => h.elim
  | _ :: _, [], h => h.elim
theorem VRC.keep (k : Keep U U' γ w γ' w') : ∀ {a : AC D} {v : Value}, VRC U γ w a v → VRC U' γ' w' a v
  | .one a, v, h => VR1.keep k h
  | .agg l, v, ⟨us, h1, h2⟩ => ⟨us, h1, h2.keep k⟩
theorem VRCs.keep (k : Keep U U' γ w γ' w') : ∀ {as : List (AC D)} {vs : List Value}, VRCs U γ w as vs → VRCs U' γ' w' as vs
  | [], [], _ => trivial
  | a :: as, v :: vs, h => ⟨h.1.keep k, VRCs.keep k h.2⟩
  | [], _ :: _, h => h.elim
  | _ :: _, [], h => h.elim
theorem VRV.keep (k : Keep U U' γ w γ' w') : ∀ {a : AV D} {v : Value}, VRV U γ w a v → VRV U' γ' w' a v
  | .c x, v, h => VRC.keep k h
  | .tup l, v, ⟨us, h1, h2⟩ => ⟨us, h1, h2.keep k⟩
theorem SR.keep (k : Keep U U' γ w γ' w') {sl : List (Nat × AV D)} {L : List (Nat × Value)} (h : SR U γ w sl L) : SR U' γ' w' sl L := fun t a e => by
  obtain ⟨v, h1, h2⟩ := h t a e
  exact ⟨v, h1, h2.keep k⟩
theorem kcls_0 {o : Cls} {i : Nat} {v : Value} {b : Nat} (h : kcls o i v b = 0) : o b = i ∧ headB v b = true := by
  unfold kcls at h
  split at h
  · rename_i ho
    split at h
    · rename_i hh; exact ⟨ho, hh⟩
    · cases h
  · cases h
theorem kcls_1 {o : Cls} {i : Nat} {v : Value} {b : Nat} (h : kcls o i v b = 1) : o b = i ∧ headB v b = false := by
  unfold kcls at h
  split at h
  · rename_i ho
    split at h
    · cases h
    · rename_i hh; exact ⟨ho, by simpa using hh⟩
  · cases h
theorem kcls_eq0 {o : Cls} {i : Nat} {v : Value} {b : Nat} (h : o b = i) (hh : headB v b = true) : kcls o i v b = 0 := by unfold kcls; rw [if_pos h, if_pos hh]
theorem kcls_eq1 {o : Cls} {i : Nat} {v : Value} {b : Nat} (h : o b = i) (hh : headB v b = false) : kcls o i v b = 1 := by unfold kcls; rw [if_pos h, if_neg (by simp [hh])]
/-- the same blocks under another number, in another world -/
theorem kcls_mono {o o' : Cls} {i i' : Nat} {v : Value} {w w' : World} (h : ∀ b, b < w.heap.size → o b = i → o' b = i' ∧ w'.heap[b]? = w.heap[b]?) :
    (∀ b, b < w.heap.size → kcls o i v b = 0 → kcls o' i' v b = 0 ∧ w'.heap[b]? = w.heap[b]?) ∧ (∀ b, b < w.heap.size → kcls o i v b = 1 → kcls o' i' v b = 1 ∧ w'.heap[b]? = w.heap[b]?) := by
  constructor
  · intro b hb hc
    obtain ⟨h1, h2⟩ := kcls_0 hc
    exact ⟨kcls_eq0 (h b hb h1).1 h2, (h b hb h1).2⟩
  · intro b hb hc
    obtain ⟨h1, h2⟩ := kcls_1 hc
    exact ⟨kcls_eq1 (h b hb h1).1 h2, (h b hb h1).2⟩
theorem headB_ow {α : Type} [Rep α] {z : Nat} {T Tc : TypeId} {o : Cls} {k kc : Nat} {v : Value} {xs : List α} {b len cap : Nat} (h : OwC z T Tc o k kc w v xs) (hv : v = .slice (some ⟨b, 0, none⟩) len cap) : ∃ cur, o b = k ∧ w.heap[b]? = some (.cells cur T (0, 0)) := by
  rcases h with ⟨rfl, _⟩ | ⟨g, cap', cur, css, rfl, h2, h3, _⟩
  · cases hv
  · cases hv
    exact ⟨cur, h2, h3⟩
theorem Hdr.mono {γ γ' : Gh D} {w w' : World} {i i' h h' : Nat} (hg : γ'.g i' = γ.g i) (hh : γ'.g h' = γ.g h) (hb : ∀ b n c, γ.g i = .slice (some ⟨b, 0, none⟩) n c → w'.heap[b]? = w.heap[b]?) (k : Hdr γ w i h) : Hdr γ' w' i' h' := by
  obtain ⟨cells, h1, h2⟩ := k
  refine ⟨cells, by rw [hh]; exact h1, fun b n c q e => ?_⟩
  rw [hg] at e
  rw [← h2 b n c q e]
  exact World.cell?_of_block (hb b n c e)
/-- a block of the call's own that a step leaves alone -/
theorem OR.keep (k : Keep U U' γ w γ' w') {i : Nat} (hU : U i) (hb : ∀ b, b < w.heap.size → γ.o b = i → γ'.o b = γ.o b ∧ w'.heap[b]? = w.heap[b]?) : ∀ {x : AO D}, OR U γ w i x → OR U' γ' w' i x
  | .box cs, ⟨b, us, t, h1, h2, h3, h4, h5⟩ => by
    have hlt : b < w.heap.size := (Array.getElem?_eq_some_iff.1 h3).1
    obtain ⟨e1, e2⟩ := hb b hlt h2
    exact ⟨b, us, t, by rw [k.g _ hU]; exact h1, by rw [e1]; exact h2, by rw [e2]; exact h3, h4.keep k, h5⟩
  | .sl n t xs K g, ⟨h1, h2, h3⟩ => by
    refine ⟨?_, h2, h3.keep k⟩
    rw [k.g _ hU]
    rcases h1 with h1 | ⟨g, cap, cur, css, e1, e2, e3, e4, e5, e6, e7, e8⟩
    · exact .inl h1
    · have hlt : g < w.heap.size := (Array.getElem?_eq_some_iff.1 e3).1
      obtain ⟨f1, f2⟩ := hb g hlt e2
      exact .inr ⟨g, cap, cur, css, e1, by rw [f1]; exact e2, by rw [f2]; exact e3, e4, e5, e6, e7.mono fun _ _ => Rep.mono (k.mem h2), e8⟩
  | .kid n t tc m xs g h, ⟨h1, h2, h3⟩ => by
    obtain ⟨m0, m1⟩ := kcls_mono (v := γ.g i) (o := γ.o) (o' := γ'.o) (i := i) (i' := i) (w := w) (w' := w') fun b hb' ho => by
      obtain ⟨f1, f2⟩ := hb b hb' ho
      exact ⟨by rw [f1]; exact ho, f2⟩
    have hg := k.g _ hU
    refine ⟨by rw [hg]; exact h1.mono m0 m1, h2.keep k, ?_⟩
    rcases h3 with h3 | ⟨h3, h4, h5⟩
    · exact .inl h3
    · refine .inr ⟨k.u _ h3, by rw [k.v _ h3]; exact h4, h5.mono hg (k.g _ h3) fun b n c e => ?_⟩
      obtain ⟨cur, e1, e2⟩ := headB_ow h1 e
      exact (hb b (Array.getElem?_eq_some_iff.1 e2).1 (kcls_0 e1).1).2
  | .kidh n t tc m xs j off s g, ⟨h1, h2, b, len, cap, h3, h4⟩ => by
    obtain ⟨m0, m1⟩ := kcls_mono (v := γ.g i) (o := γ.o) (o' := γ'.o) (i := i) (i' := i) (w := w) (w' := w') fun b hb' ho => by
      obtain ⟨f1, f2⟩ := hb b hb' ho
      exact ⟨by rw [f1]; exact ho, f2⟩
    have hg := k.g _ hU
    exact ⟨h1.keep k, k.u _ h2, b, len, cap, by rw [hg]; exact h3, by rw [hg, k.g _ h2]; exact h4.mono m0 m1⟩

theorem SR.look {sl : List (Nat × AV D)} {L : List (Nat × Value)} (h : SR U γ w sl L) {t : Nat} {a : AV D} (e : lookN sl t = some a) : ∃ v, Dp.look L t = some v ∧ VRV U γ w a v := h t a e
theorem SR.cons {sl : List (Nat × AV D)} {L : List (Nat × Value)} {d : Nat} {a : AV D} {v : Value} (h : SR U γ w sl L) (hv : VRV U γ w a v) : SR U γ w ((d, a) :: sl) ((d, v) :: L) := fun t b e => by
  unfold lookN at e
  unfold Dp.look
  cases hb : Nat.beq d t with
  | true =>
    simp only [hb, cond_true, Option.some.injEq] at e ⊢
    subst e
    exact ⟨v, rfl, hv⟩
  | false =>
    simp only [hb, cond_false] at e ⊢
    exact h t b e
end
end
end Rx
end Go.Proofs.Ytdfkfohpgakihaa
