/- A call's entry: whose blocks it may write and what it may read; what it leaves, and how its caller takes that over. Nothing here names a program. -/
import Derived.Test.YtdfkfohpgakihaaDy
set_option linter.unusedVariables false
set_option linter.unusedSimpArgs false
namespace Go.Proofs.Ytdfkfohpgakihaa
open Go Go.RowKit

namespace Dp

/-! classes: 0: others; 1..39: what may be written; 40..99: what may be read; 100..: new -/
def okc (c : Nat) : Bool := Nat.ble 1 c && (Nat.blt c 40 || Nat.ble 100 c)
def okL (l : List Nat) : Bool := l.all okc
def roL (l : List Nat) : Bool := l.all fun c => !(okc c)
def clsB : Nat → List Nat → Nat → Nat
  | _, [], _ => 0
  | k, x :: r, b => if b = x then k else clsB (k + 1) r b
open Classical in
noncomputable def clsS : Nat → List (Nat → Prop) → Nat → Nat
  | _, [], _ => 0
  | k, S :: r, b => if S b then k else clsS (k + 1) r b
noncomputable def entM (w0 : World) (mb : List Nat) (Ss : List (Nat → Prop)) : Cls := fun b =>
  if b < w0.heap.size then (if clsB 1 mb b = 0 then clsS 40 Ss b else clsB 1 mb b) else 100

theorem clsB_spec {b : Nat} : ∀ {mb : List Nat} {k : Nat}, clsB k mb b = 0 ∧ (0 < k → b ∉ mb) ∨ ∃ j, mb[j]? = some b ∧ clsB k mb b = k + j ∧ j < mb.length
  | [], k => .inl ⟨rfl, fun _ => by simp⟩
  | x :: r, k => by
    unfold clsB
    by_cases h : b = x
    · rw [if_pos h]
      exact .inr ⟨0, by simp [h], by omega, by simp⟩
    · rw [if_neg h]
      rcases clsB_spec (b := b) (mb := r) (k := k + 1) with ⟨h1, h2⟩ | ⟨j, h1, h2, h3⟩
      · exact .inl ⟨h1, fun _ hm => by
          rcases List.mem_cons.1 hm with e | e
          · exact h e
          · exact h2 (by omega) e⟩
      · exact .inr ⟨j + 1, by simpa using h1, by omega, by simp; omega⟩
theorem clsB_zero {b : Nat} {mb : List Nat} (h : b ∉ mb) {k : Nat} : clsB k mb b = 0 := by
  rcases clsB_spec (b := b) (mb := mb) (k := k) with ⟨h1, _⟩ | ⟨j, h1, _⟩
  · exact h1
  · exact (h (List.mem_of_getElem? h1)).elim
theorem clsB_at {b : Nat} : ∀ {mb : List Nat} {k j : Nat}, mb.Nodup → mb[j]? = some b → clsB k mb b = k + j
  | [], k, j, _, h => by simp at h
  | x :: r, k, 0, _, h => by
    have : x = b := by simpa using h
    simp [clsB, this]
  | x :: r, k, j + 1, hn, h => by
    have h' : r[j]? = some b := by simpa using h
    have hne : ¬ b = x := fun e => (List.nodup_cons.1 hn).1 (e ▸ List.mem_of_getElem? h')
    unfold clsB
    rw [if_neg hne, clsB_at (List.nodup_cons.1 hn).2 h']
    omega
theorem clsS_spec {b : Nat} : ∀ {Ss : List (Nat → Prop)} {k : Nat}, clsS k Ss b = 0 ∨ ∃ i S, Ss[i]? = some S ∧ S b ∧ clsS k Ss b = k + i ∧ i < Ss.length
  | [], k => .inl rfl
  | S :: r, k => by
    unfold clsS
    by_cases h : S b
    · rw [if_pos h]
      exact .inr ⟨0, S, rfl, h, rfl, by simp⟩
    · rw [if_neg h]
      rcases clsS_spec (b := b) (Ss := r) (k := k + 1) with h1 | ⟨i, S', h1, h2, h3, h4⟩
      · exact .inl h1
      · exact .inr ⟨i + 1, S', by simpa using h1, h2, by omega, by simp; omega⟩
theorem clsS_upTo {b : Nat} : ∀ {Ss : List (Nat → Prop)} {k i : Nat} {S : Nat → Prop}, Ss[i]? = some S → S b → ∃ j, j ≤ i ∧ clsS k Ss b = k + j
  | [], k, i, S, h, _ => by simp at h
  | S' :: r, k, i, S, h, hb => by
    unfold clsS
    by_cases h' : S' b
    · rw [if_pos h']
      exact ⟨0, Nat.zero_le _, rfl⟩
    · rw [if_neg h']
      cases i with
      | zero =>
        have : S' = S := by simpa using h
        exact (h' (this ▸ hb)).elim
      | succ i =>
        obtain ⟨j, h1, h2⟩ := clsS_upTo (k := k + 1) (i := i) (S := S) (Ss := r) (by simpa using h) hb
        exact ⟨j + 1, by omega, by omega⟩

theorem entM_mut {w0 : World} {mb : List Nat} {Ss : List (Nat → Prop)} (hn : mb.Nodup) {j b : Nat} (h : mb[j]? = some b) (hb : b < w0.heap.size) : entM w0 mb Ss b = 1 + j := by
  have := clsB_at (k := 1) hn h
  unfold entM
  rw [if_pos hb, this, if_neg (by omega)]
theorem entM_ro {w0 : World} {mb : List Nat} {Ss : List (Nat → Prop)} {b : Nat} (hb : b < w0.heap.size) (h : b ∉ mb) : entM w0 mb Ss b = clsS 40 Ss b := by
  unfold entM
  rw [if_pos hb, if_pos (clsB_zero h)]
theorem entM_ro_okc {w0 : World} {mb : List Nat} {Ss : List (Nat → Prop)} (hl : Nat.ble Ss.length 60 = true) {b : Nat} (hb : b < w0.heap.size) (h : b ∉ mb) : okc (entM w0 mb Ss b) = false := by
  have hl' : Ss.length ≤ 60 := Nat.le_of_ble_eq_true hl
  rw [entM_ro hb h]
  rcases clsS_spec (b := b) (Ss := Ss) (k := 40) with h1 | ⟨i, S, _, _, h3, h4⟩
  · rw [h1]; rfl
  · rw [h3]
    have e1 : Nat.blt (40 + i) 40 = false := by rw [Nat.blt, ← Bool.not_eq_true, Nat.ble_eq]; omega
    have e2 : Nat.ble 100 (40 + i) = false := by rw [← Bool.not_eq_true, Nat.ble_eq]; omega
    simp [okc, e1, e2]

structure En (w0 : World) (e : Cls) (o : Cls) (w : World) : Prop where
  os : w.os = w0.os
  tape : w.tape = w0.tape
  output : w.output = w0.output
  size : w0.heap.size ≤ w.heap.size
  old : ∀ b, b < w0.heap.size → o b = e b
  new : ∀ b, w0.heap.size ≤ b → b < w.heap.size → okc (o b) = true
  blk : ∀ b, b < w0.heap.size → okc (e b) = false → w.heap[b]? = w0.heap[b]?
theorem En.refl (w0 : World) (e : Cls) : En w0 e e w0 := ⟨rfl, rfl, rfl, Nat.le_refl _, fun _ _ => rfl, fun b h1 h2 => by omega, fun _ _ _ => rfl⟩
theorem okL_mem {l : List Nat} (h : okL l = true) {x : Nat} (hx : x ∈ l) : okc x = true := List.all_eq_true.1 h x hx
theorem roL_mem {l : List Nat} (h : roL l = true) {x : Nat} (hx : x ∈ l) : okc x = false := by simpa using List.all_eq_true.1 h x hx

section
variable {w0 w w' : World} {e o o' : Cls} {M N K K' : List Nat}
theorem En.evo (h : En w0 e o w) (k : Evo M N o w o' w') (hM : okL M = true) (hN : okL N = true) : En w0 e o' w' := by
  refine ⟨k.os.trans h.os, k.tape.trans h.tape, k.output.trans h.output, Nat.le_trans h.size k.size, fun b hb => ?_, fun b h1 h2 => ?_, fun b hb hne => ?_⟩
  · rw [k.old b (Nat.lt_of_lt_of_le hb h.size), h.old b hb]
  · by_cases hlt : b < w.heap.size
    · rw [k.old b hlt]; exact h.new b h1 hlt
    · exact okL_mem hN (k.new b (by omega) h2)
  · rw [k.blk b (Nat.lt_of_lt_of_le hb h.size) (fun hx => by
      have := okL_mem hM hx
      rw [h.old b hb, hne] at this
      cases this), h.blk b hb hne]
theorem En.any {Mx N : List Nat} (hM : okL Mx = true) (hN : okL N = true) : ∀ (o : Cls) (w : World) (o' : Cls) (w' : World) (M : List Nat), subN M Mx = true → Evo M N o w o' w' → En w0 e o w → En w0 e o' w' :=
  fun _ _ _ _ _ hs ev h => h.evo ev (List.all_eq_true.2 fun x hx => List.all_eq_true.1 hM x (subN_spec hs hx)) hN
theorem En.ro (k : En w0 e o w) (hK : roL K = true) : ∀ b, In e K b → b < w0.heap.size → In o K b ∧ w.heap[b]? = w0.heap[b]? := fun b hb hlt =>
  ⟨by unfold In; rw [k.old b hlt]; exact hb, k.blk b hlt (roL_mem hK hb)⟩
theorem Rv.baseM {α : Type} [Rep α] {v : Value} {x : α} (h : Rv (In e K) w0 v x) (k : En w0 e o w) (hK : roL K = true) : Rv (In o K) w v x := h.mono (k.ro hK)
theorem PtrAt.baseM {α : Type} [Rep α] {pa : Addr} {x : α} (h : PtrAt (In e K) w0 pa x) (k : En w0 e o w) (hK : roL K = true) : PtrAt (In o K) w pa x := h.mono (k.ro hK)

/-! what is handed in -/
def upTo (i : Nat) (K : List Nat) : Bool := (List.range (i + 1)).all fun j => K.any fun c => Nat.beq c (40 + j)
theorem ent_in {mb : List Nat} {Ss : List (Nat → Prop)} {S : Nat → Prop} {i : Nat} (hS : Ss[i]? = some S) (hs : ∀ b, b < w0.heap.size → S b → b ∉ mb) (hK : upTo i K = true) : ∀ b, S b → b < w0.heap.size → In (entM w0 mb Ss) K b ∧ w0.heap[b]? = w0.heap[b]? := by
  intro b hb hlt
  obtain ⟨j, h1, h2⟩ := clsS_upTo (k := 40) hS hb
  refine ⟨?_, rfl⟩
  unfold In
  rw [entM_ro hlt (hs b hlt hb), h2]
  have h3 := List.all_eq_true.1 hK j (List.mem_range.2 (by omega))
  obtain ⟨c, hc, he⟩ := List.any_eq_true.1 h3
  have : c = 40 + j := Nat.eq_of_beq_eq_true he
  exact this ▸ hc
theorem Rv.argM {α : Type} [Rep α] {mb : List Nat} {Ss : List (Nat → Prop)} {S : Nat → Prop} {v : Value} {x : α} (h : Rv S w0 v x) (he : e = entM w0 mb Ss) (i : Nat) (hS : Ss[i]? = some S) (hs : ∀ b, b < w0.heap.size → S b → b ∉ mb) (hK : upTo i K = true) : Rv (In e K) w0 v x := by
  subst he
  exact h.mono (ent_in hS hs hK)
theorem PtrAt.argM {α : Type} [Rep α] {mb : List Nat} {Ss : List (Nat → Prop)} {S : Nat → Prop} {pa : Addr} {x : α} (h : PtrAt S w0 pa x) (he : e = entM w0 mb Ss) (i : Nat) (hS : Ss[i]? = some S) (hs : ∀ b, b < w0.heap.size → S b → b ∉ mb) (hK : upTo i K = true) : PtrAt (In e K) w0 pa x := by
  subst he
  exact h.mono (ent_in hS hs hK)

/-- a slice that the call may write: nil, or the head of block db -/
def OwG {α : Type} [Rep α] (T : TypeId) (db : Nat) (S : Nat → Prop) (w : World) (v : Value) (xs : List α) : Prop :=
  (v = .slice none 0 0 ∧ xs = []) ∨
  ∃ cap cur css, v = .slice (some ⟨db, 0, none⟩) xs.length cap ∧ w.heap[db]? = some (.cells cur T (0, 0)) ∧ xs.length ≤ cap ∧ cap ≤ maxLen ∧ cur.size = cap * Rep.sz α ∧
    All2 (Rep.rd S w) css xs ∧ cur.toList.take (xs.length * Rep.sz α) = css.flatten
theorem OwG.inM {α : Type} [Rep α] {T : TypeId} {db : Nat} {S : Nat → Prop} {v : Value} {xs : List α} {mb : List Nat} {Ss : List (Nat → Prop)} (h : OwG T db S w0 v xs) (he : e = entM w0 mb Ss) (hn : mb.Nodup) (j : Nat) (hj : mb[j]? = some db) (i : Nat) (hS : Ss[i]? = some S) (hs : ∀ b, b < w0.heap.size → S b → b ∉ mb) (hK : upTo i K = true) : Ow T e (1 + j) K w0 v xs := by
  subst he
  rcases h with h | ⟨cap, cur, css, h1, h3, h4, h5, h6, h7, h8⟩
  · exact .inl h
  · have hlt : db < w0.heap.size := (Array.getElem?_eq_some_iff.1 h3).1
    exact .inr ⟨db, cap, cur, css, h1, entM_mut hn hj hlt, h3, h4, h5, h6, h7.mono fun _ _ => Rep.mono (ent_in hS hs hK), h8⟩
theorem OwG.inF {α : Type} [Rep α] [Flat α] {T : TypeId} {db : Nat} {S : Nat → Prop} {v : Value} {xs : List α} {mb : List Nat} {Ss : List (Nat → Prop)} (h : OwG T db S w0 v xs) (he : e = entM w0 mb Ss) (hn : mb.Nodup) (j : Nat) (hj : mb[j]? = some db) : Ow T e (1 + j) [] w0 v xs := by
  subst he
  rcases h with h | ⟨cap, cur, css, h1, h3, h4, h5, h6, h7, h8⟩
  · exact .inl h
  · have hlt : db < w0.heap.size := (Array.getElem?_eq_some_iff.1 h3).1
    exact .inr ⟨db, cap, cur, css, h1, entM_mut hn hj hlt, h3, h4, h5, h6, h7.mono fun _ _ => Flat.any, h8⟩
/-- .. and a variable in memory -/
structure BkI (w : World) (pa : Addr) (cs : List Value) : Prop where
  off : pa.off = 0
  spot : pa.spot = none
  cells : ∃ T, w.heap[pa.block]? = some (.cells cs.toArray T (0, 0))
theorem BkI.lt {pa : Addr} {cs : List Value} (h : BkI w pa cs) : pa.block < w.heap.size := by
  obtain ⟨T, h1⟩ := h.cells
  exact (Array.getElem?_eq_some_iff.1 h1).1
theorem BkI.inM {pa : Addr} {cs : List Value} {mb : List Nat} {Ss : List (Nat → Prop)} (h : BkI w0 pa cs) (he : e = entM w0 mb Ss) (hn : mb.Nodup) (j : Nat) (hj : mb[j]? = some pa.block) : Bk e (1 + j) w0 pa cs := by
  subst he
  exact ⟨h.off, h.spot, entM_mut hn hj h.lt, h.cells⟩
theorem Bk.give {c : Nat} {pa : Addr} {cs : List Value} (h : Bk o c w pa cs) : BkI w pa cs := ⟨h.off, h.spot, h.cells⟩
/-- the source -/
theorem SrcB.inM {sb : Nat} {sv : Value} {sL st : List Int} {mb : List Nat} {Ss : List (Nat → Prop)} (h : SrcB w0 sb sv sL st) (he : e = entM w0 mb Ss) (hn : mb.Nodup) (j : Nat) (hj : mb[j]? = some sb) : SrcC e (1 + j) w0 sb sv sL st := by
  subst he
  exact ⟨h, entM_mut hn hj h.lt⟩

/-! what is left -/
structure Bts (mb : List Nat) (w w' : World) : Prop where
  os : w'.os = w.os
  tape : w'.tape = w.tape
  output : w'.output = w.output
  size : w.heap.size ≤ w'.heap.size
  blk : ∀ b, b < w.heap.size → b ∉ mb → w'.heap[b]? = w.heap[b]?
theorem Bts.refl (mb : List Nat) (w : World) : Bts mb w w := ⟨rfl, rfl, rfl, Nat.le_refl _, fun _ _ _ => rfl⟩
theorem Bts.trans {mb : List Nat} {w1 w2 : World} (h : Bts mb w w1) (k : Bts mb w1 w2) : Bts mb w w2 :=
  ⟨k.os.trans h.os, k.tape.trans h.tape, k.output.trans h.output, Nat.le_trans h.size k.size, fun b hb hne => (k.blk b (Nat.lt_of_lt_of_le hb h.size) hne).trans (h.blk b hb hne)⟩
theorem Bts.below (h : Bts [] w w') : Below w.heap.size w w' := ⟨h.os, h.tape, h.output, h.size, fun b hb => h.blk b hb (by simp)⟩
theorem Below.bts {mb : List Nat} (h : Below w.heap.size w w') : Bts mb w w' := ⟨h.os, h.tape, h.output, h.size, fun b hb _ => h.block b hb⟩
theorem En.bts {mb : List Nat} {Ss : List (Nat → Prop)} (h : En w0 e o w) (he : e = entM w0 mb Ss) (hl : Nat.ble Ss.length 60 = true) : Bts mb w0 w :=
  ⟨h.os, h.tape, h.output, h.size, fun b hb hne => h.blk b hb (by rw [he]; exact entM_ro_okc hl hb hne)⟩
theorem En.below {Ss : List (Nat → Prop)} (h : En w0 (entM w0 [] Ss) o w) (hl : Nat.ble Ss.length 60 = true) : Below w0.heap.size w0 w := (h.bts rfl hl).below
/-- what is read of new blocks alone -/
def newL (K : List Nat) : Bool := K.all fun c => Nat.ble 100 c
theorem Rv.freshM {α : Type} [Rep α] {mb : List Nat} {Ss : List (Nat → Prop)} {v : Value} {x : α} (h : Rv (In o K) w v x) (k : En w0 (entM w0 mb Ss) o w) (hl : Nat.ble Ss.length 60 = true) (hm : Nat.ble mb.length 39 = true) (hK : newL K = true) : Rv (fun b => w0.heap.size ≤ b) w v x :=
  h.weaken fun b hb => by
    have h2 := Nat.le_of_ble_eq_true (List.all_eq_true.1 hK _ hb)
    have hl' : Ss.length ≤ 60 := Nat.le_of_ble_eq_true hl
    have hm' : mb.length ≤ 39 := Nat.le_of_ble_eq_true hm
    by_cases hlt : b < w0.heap.size
    · have := k.old b hlt
      rw [this] at h2
      unfold entM at h2
      rw [if_pos hlt] at h2
      rcases clsB_spec (b := b) (mb := mb) (k := 1) with ⟨h1, _⟩ | ⟨j, h1, h3, h4⟩
      · rw [if_pos h1] at h2
        rcases clsS_spec (b := b) (Ss := Ss) (k := 40) with h1 | ⟨i, S, _, _, h3, h4⟩ <;> omega
      · rw [if_neg (by omega)] at h2
        omega
    · omega

/-! the caller's side -/
/-- each block that is handed to be written: of its owner; a nil slice has none -/
def MbOk (o : Cls) (w : World) : Nat → List Nat → List Nat → Prop
  | _, [], [] => True
  | j, b :: r, k :: s => ((b < w.heap.size ∧ o b = k) ∨ b = w.heap.size + j) ∧ MbOk o w (j + 1) r s
  | _, _, _ => False
def diffL : List Nat → Bool
  | [] => true
  | x :: r => r.all (fun y => !(Nat.beq x y)) && diffL r
theorem MbOk.mem : ∀ {j : Nat} {mb ks : List Nat}, MbOk o w j mb ks → ∀ b ∈ mb, (b < w.heap.size ∧ o b ∈ ks) ∨ w.heap.size + j ≤ b
  | _, [], [], _, b, hb => by cases hb
  | j, x :: r, k :: s, h, b, hb => by
    rcases List.mem_cons.1 hb with rfl | hb
    · rcases h.1 with ⟨h1, h2⟩ | h1
      · exact .inl ⟨h1, h2 ▸ List.mem_cons_self⟩
      · exact .inr (by omega)
    · rcases MbOk.mem h.2 b hb with ⟨h1, h2⟩ | h1
      · exact .inl ⟨h1, List.mem_cons_of_mem _ h2⟩
      · exact .inr (by omega)
  | _, [], _ :: _, h, _, _ => h.elim
  | _, _ :: _, [], h, _, _ => h.elim
theorem MbOk.nodup : ∀ {j : Nat} {mb ks : List Nat}, MbOk o w j mb ks → diffL ks = true → mb.Nodup
  | _, [], [], _, _ => List.nodup_nil
  | j, x :: r, k :: s, h, hd => by
    simp only [diffL, Bool.and_eq_true] at hd
    refine List.nodup_cons.2 ⟨fun hm => ?_, MbOk.nodup h.2 hd.2⟩
    rcases MbOk.mem h.2 x hm with ⟨h1, h2⟩ | h1
    · rcases h.1 with ⟨_, h3⟩ | h3
      · have := List.all_eq_true.1 hd.1 _ h2
        rw [h3] at this
        simp at this
      · omega
    · rcases h.1 with ⟨h3, _⟩ | h3 <;> omega
  | _, [], _ :: _, h, _ => h.elim
  | _, _ :: _, [], h, _ => h.elim
theorem MbOk.sep {j : Nat} {mb ks : List Nat} (h : MbOk o w j mb ks) (hd : disj K ks = true) : ∀ b, b < w.heap.size → In o K b → b ∉ mb := by
  intro b hlt hb hm
  rcases h.mem b hm with ⟨_, h2⟩ | h1
  · exact disj_spec hd hb h2
  · omega
theorem MbOk.get : ∀ {j : Nat} {mb ks : List Nat}, MbOk o w j mb ks → ∀ {i b : Nat}, mb[i]? = some b → b < w.heap.size → ks[i]? = some (o b)
  | _, [], [], _, i, b, hi, _ => by simp at hi
  | j, x :: r, k :: s, h, 0, b, hi, hb => by
    have : x = b := by simpa using hi
    subst this
    rcases h.1 with ⟨_, h2⟩ | h2
    · simp [h2]
    · omega
  | j, x :: r, k :: s, h, i + 1, b, hi, hb => by
    have := MbOk.get h.2 (i := i) (b := b) (by simpa using hi) hb
    simpa using this
  | _, [], _ :: _, h, _, _, _, _ => h.elim
  | _, _ :: _, [], h, _, _, _, _ => h.elim
theorem MbOk.nil : MbOk o w 0 [] [] := trivial
theorem nosep {mb : List Nat} (h : mb = []) {S : Nat → Prop} : ∀ b, b < w.heap.size → S b → b ∉ mb := by subst h; simp
theorem Ow.give {α : Type} [Rep α] {T : TypeId} {k : Nat} {v : Value} {xs : List α} (j : Nat) (h : Ow T o k K w v xs) : ∃ db, OwG T db (In o K) w v xs ∧ ((db < w.heap.size ∧ o db = k) ∨ db = w.heap.size + j) := by
  rcases h with h | ⟨g, cap, cur, css, h1, h2, h3, h4, h5, h6, h7, h8⟩
  · exact ⟨_, .inl h, .inr rfl⟩
  · exact ⟨g, .inr ⟨cap, cur, css, h1, h3, h4, h5, h6, h7, h8⟩, .inl ⟨(Array.getElem?_eq_some_iff.1 h3).1, h2⟩⟩

def luk (d : Nat) : List (Nat × Nat) → Nat → Nat
  | [], _ => d
  | p :: r, c => if Nat.beq p.1 c = true then p.2 else luk d r c
theorem luk_mem {d : Nat} {c : Nat} : ∀ {l : List (Nat × Nat)}, luk d l c ∈ l.map Prod.snd ++ [d]
  | [] => by simp [luk]
  | p :: r => by
    unfold luk
    split
    · simp
    · have := luk_mem (d := d) (c := c) (l := r)
      simp at this ⊢
      rcases this with h | h
      · exact .inr (.inl h)
      · exact .inr (.inr h)
/-- how the classes of a call's end are taken over -/
structure Ad (oc o2 : Cls) (w' : World) (ks : List Nat) (Ks : List (List Nat)) (d : Nat) (l : List (Nat × Nat)) : Prop where
  m : ∀ b, b < w'.heap.size → ∀ j k, ks[j]? = some k → 1 + j < 40 → oc b = 1 + j → o2 b = k
  r : ∀ b, b < w'.heap.size → ∀ i K, Ks[i]? = some K → 40 + i < 100 → oc b = 40 + i → o2 b ∈ K
  n : ∀ b, b < w'.heap.size → 100 ≤ oc b → o2 b = luk d l (oc b)
theorem adopt {mb : List Nat} {Ss : List (Nat → Prop)} {ks : List Nat} {Ks : List (List Nat)} {oc : Cls} (d : Nat) (l : List (Nat × Nat)) (N : List Nat) (hn : En w (entM w mb Ss) oc w') (hm : MbOk o w 0 mb ks) (hd : diffL ks = true) (hS : Ss = Ks.map (In o)) (hl : (Nat.ble Ks.length 60 && Nat.ble ks.length 39) = true) (hN : subN (ks ++ (l.map Prod.snd ++ [d])) N = true) :
    ∃ o2, Evo ks N o w o2 w' ∧ Ad oc o2 w' ks Ks d l := by
  have hnd := hm.nodup hd
  simp only [Bool.and_eq_true] at hl
  have hl1 : Ks.length ≤ 60 := Nat.le_of_ble_eq_true hl.1
  have hl2 : ks.length ≤ 39 := Nat.le_of_ble_eq_true hl.2
  have hSl : Ss.length = Ks.length := by rw [hS]; simp
  have hlen : ∀ {j : Nat} {mb ks : List Nat}, MbOk o w j mb ks → mb.length = ks.length := by
    intro j mb
    induction mb generalizing j with
    | nil => intro ks h; cases ks with
      | nil => rfl
      | cons _ _ => exact h.elim
    | cons x r ih => intro ks h; cases ks with
      | nil => exact h.elim
      | cons _ _ => simp [ih h.2]
  have hml := hlen hm
  have hold : ∀ b, b < w.heap.size → (∃ j, mb[j]? = some b ∧ entM w mb Ss b = 1 + j ∧ j < 39) ∨ (b ∉ mb ∧ (entM w mb Ss b = 0 ∨ ∃ i K, Ks[i]? = some K ∧ In o K b ∧ entM w mb Ss b = 40 + i ∧ i < 60)) := by
    intro b hb
    by_cases hbm : b ∈ mb
    · obtain ⟨j, hj1, hj2⟩ := List.getElem_of_mem hbm
      have hj : mb[j]? = some b := by rw [List.getElem?_eq_getElem hj1, hj2]
      exact .inl ⟨j, hj, entM_mut hnd hj hb, by omega⟩
    · refine .inr ⟨hbm, ?_⟩
      rw [entM_ro hb hbm]
      rcases clsS_spec (b := b) (Ss := Ss) (k := 40) with h1 | ⟨i, S, h1, h2, h3, h4⟩
      · exact .inl h1
      · refine .inr ⟨i, ?_⟩
        rw [hS, List.getElem?_map] at h1
        cases hK : Ks[i]? with
        | none => rw [hK] at h1; cases h1
        | some K =>
          rw [hK] at h1
          cases h1
          exact ⟨K, rfl, h2, h3, by omega⟩
  refine ⟨fun b => if b < w.heap.size then o b else if oc b < 40 then ks.getD (oc b - 1) d else luk d l (oc b), ⟨hn.os, hn.tape, hn.output, hn.size, fun b hb => by simp [hb], fun b h1 h2 => ?_, fun b hb hne => ?_⟩, fun b hb j k hj hj' hc => ?_, fun b hb i K hi hi' hc => ?_, fun b hb hc => ?_⟩
  · refine subN_spec hN ?_
    have hnb : ¬ b < w.heap.size := by omega
    simp only [hnb, if_false]
    split
    · rw [List.getD_eq_getElem?_getD]
      cases hk : ks[oc b - 1]? with
      | none => simp
      | some k => simp only [Option.getD_some]; exact List.mem_append_left _ (List.mem_of_getElem? hk)
    · exact List.mem_append_right _ luk_mem
  · refine hn.blk b hb (entM_ro_okc (by rw [hSl]; exact hl.1) hb fun hbm => ?_)
    rcases hm.mem b hbm with ⟨_, h2⟩ | h2
    · exact hne h2
    · omega
  · by_cases hlt : b < w.heap.size
    · rw [if_pos hlt]
      rw [hn.old b hlt] at hc
      rcases hold b hlt with ⟨j', h1, h2, h3⟩ | ⟨_, h1 | ⟨i, K, _, _, h3, _⟩⟩
      · have : j' = j := by omega
        subst this
        have := hm.get h1 hlt
        rw [hj] at this
        exact (Option.some.inj this).symm
      · omega
      · omega
    · rw [if_neg hlt, if_pos (by omega), hc, show 1 + j - 1 = j from by omega]
      simp [List.getD_eq_getElem?_getD, hj]
  · by_cases hlt : b < w.heap.size
    · rw [if_pos hlt]
      rw [hn.old b hlt] at hc
      rcases hold b hlt with ⟨j', h1, h2, h3⟩ | ⟨_, h1 | ⟨i', K', h1, h2, h3, _⟩⟩
      · omega
      · omega
      · have : i' = i := by omega
        subst this
        rw [hi] at h1
        cases h1
        exact h2
    · have := hn.new b (by omega) hb
      rw [hc] at this
      have e1 : Nat.blt (40 + i) 40 = false := by rw [Nat.blt, ← Bool.not_eq_true, Nat.ble_eq]; omega
      have e2 : Nat.ble 100 (40 + i) = false := by rw [← Bool.not_eq_true, Nat.ble_eq]; omega
      simp [okc, e1, e2] at this
  · by_cases hlt : b < w.heap.size
    · exfalso
      rw [hn.old b hlt] at hc
      rcases hold b hlt with ⟨j', h1, h2, h3⟩ | ⟨_, h1 | ⟨i', K', h1, h2, h3, _⟩⟩ <;> omega
    · rw [if_neg hlt, if_neg (by omega)]

/-- the owners K of a call's end, as the caller's K' -/
def trK (ks : List Nat) (Ks : List (List Nat)) (d : Nat) (l : List (Nat × Nat)) (K K' : List Nat) : Bool := K.all fun c =>
  bif Nat.blt c 40 then (match ks[c - 1]? with | some k => Nat.ble 1 c && K'.any fun y => Nat.beq k y | none => false)
  else bif Nat.blt c 100 then (match Ks[c - 40]? with | some L => subN L K' | none => false)
  else K'.any fun y => Nat.beq (luk d l c) y
def trC (ks : List Nat) (d : Nat) (l : List (Nat × Nat)) (c c' : Nat) : Bool :=
  bif Nat.blt c 40 then (match ks[c - 1]? with | some k => Nat.ble 1 c && Nat.beq k c' | none => false)
  else Nat.ble 100 c && Nat.beq (luk d l c) c'
theorem any_beq {c : Nat} {K : List Nat} (h : (K.any fun y => Nat.beq c y) = true) : c ∈ K := by
  obtain ⟨y, hy, he⟩ := List.any_eq_true.1 h
  have : c = y := Nat.eq_of_beq_eq_true he
  exact this ▸ hy
section
variable {oc o2 : Cls} {ks : List Nat} {Ks : List (List Nat)} {d : Nat} {l : List (Nat × Nat)} {α : Type} [Rep α]
theorem Ad.inK (h : Ad oc o2 w' ks Ks d l) (hK : trK ks Ks d l K K' = true) : ∀ b, In oc K b → b < w'.heap.size → In o2 K' b ∧ w'.heap[b]? = w'.heap[b]? := by
  intro b hb hlt
  refine ⟨?_, rfl⟩
  have h1 := List.all_eq_true.1 hK _ hb
  unfold In
  cases c1 : Nat.blt (oc b) 40 with
  | true =>
    rw [c1] at h1
    simp only [cond_true] at h1
    have c1' : oc b < 40 := Nat.le_of_ble_eq_true c1
    cases hk : ks[oc b - 1]? with
    | none => rw [hk] at h1; cases h1
    | some k =>
      rw [hk] at h1
      simp only [Bool.and_eq_true] at h1
      have c2 : 1 ≤ oc b := Nat.le_of_ble_eq_true h1.1
      rw [h.m b hlt (oc b - 1) k hk (by omega) (by omega)]
      exact any_beq h1.2
  | false =>
    rw [c1] at h1
    simp only [cond_false] at h1
    have c1' : ¬ oc b < 40 := fun hh => by
      have : Nat.blt (oc b) 40 = true := by rw [Nat.blt, Nat.ble_eq]; exact hh
      rw [c1] at this; cases this
    cases c2 : Nat.blt (oc b) 100 with
    | true =>
      rw [c2] at h1
      simp only [cond_true] at h1
      have c2' : oc b < 100 := Nat.le_of_ble_eq_true c2
      cases hk : Ks[oc b - 40]? with
      | none => rw [hk] at h1; cases h1
      | some L =>
        rw [hk] at h1
        exact subN_spec h1 (h.r b hlt (oc b - 40) L hk (by omega) (by omega))
    | false =>
      rw [c2] at h1
      simp only [cond_false] at h1
      have c2' : ¬ oc b < 100 := fun hh => by
        have : Nat.blt (oc b) 100 = true := by rw [Nat.blt, Nat.ble_eq]; exact hh
        rw [c2] at this; cases this
      rw [h.n b hlt (by omega)]
      exact any_beq h1
theorem Ad.cls (h : Ad oc o2 w' ks Ks d l) {c c' : Nat} (hc : trC ks d l c c' = true) : ∀ b, b < w'.heap.size → oc b = c → o2 b = c' := by
  intro b hlt e
  subst e
  unfold trC at hc
  cases c1 : Nat.blt (oc b) 40 with
  | true =>
    rw [c1] at hc
    simp only [cond_true] at hc
    have c1' : oc b < 40 := Nat.le_of_ble_eq_true c1
    cases hk : ks[oc b - 1]? with
    | none => rw [hk] at hc; cases hc
    | some k =>
      rw [hk] at hc
      simp only [Bool.and_eq_true] at hc
      have c2 : 1 ≤ oc b := Nat.le_of_ble_eq_true hc.1
      rw [h.m b hlt (oc b - 1) k hk (by omega) (by omega)]
      exact Nat.eq_of_beq_eq_true hc.2
  | false =>
    rw [c1] at hc
    simp only [cond_false, Bool.and_eq_true] at hc
    have c2 : 100 ≤ oc b := Nat.le_of_ble_eq_true hc.1
    rw [h.n b hlt c2]
    exact Nat.eq_of_beq_eq_true hc.2
theorem Rv.ad {v : Value} {x : α} (r : Rv (In oc K) w' v x) (h : Ad oc o2 w' ks Ks d l) (hK : trK ks Ks d l K K' = true) : Rv (In o2 K') w' v x := r.mono (h.inK hK)
theorem Ow.ad {T : TypeId} {c c' : Nat} {v : Value} {xs : List α} (r : Ow T oc c K w' v xs) (h : Ad oc o2 w' ks Ks d l) (hc : trC ks d l c c' = true) (hK : trK ks Ks d l K K' = true) : Ow T o2 c' K' w' v xs := by
  rcases r with r | ⟨g, cap, cur, css, h1, h2, h3, h4, h5, h6, h7, h8⟩
  · exact .inl r
  · exact .inr ⟨g, cap, cur, css, h1, h.cls hc g (Array.getElem?_eq_some_iff.1 h3).1 h2, h3, h4, h5, h6, h7.mono fun _ _ => Rep.mono (h.inK hK), h8⟩
theorem Bk.ad {c c' : Nat} {pa : Addr} {cs : List Value} (r : Bk oc c w' pa cs) (h : Ad oc o2 w' ks Ks d l) (hc : trC ks d l c c' = true) : Bk o2 c' w' pa cs :=
  ⟨r.off, r.spot, h.cls hc _ r.lt r.own, r.cells⟩
theorem SrcC.ad {c c' : Nat} {sb : Nat} {sv : Value} {sL st : List Int} (r : SrcC oc c w' sb sv sL st) (h : Ad oc o2 w' ks Ks d l) (hc : trC ks d l c c' = true) : SrcC o2 c' w' sb sv sL st := ⟨r.1, h.cls hc _ r.1.lt r.2⟩
end

/-! classes named anew, at the end -/
def rn (d : Nat) (l : List (Nat × Nat)) (c : Nat) : Nat := bif Nat.blt c 100 then c else luk d l c
def rnO (d : Nat) (l : List (Nat × Nat)) (o : Cls) : Cls := fun b => rn d l (o b)
theorem entM_lt {mb : List Nat} {Ss : List (Nat → Prop)} (hl : (Nat.ble Ss.length 60 && Nat.ble mb.length 39) = true) {b : Nat} (hb : b < w0.heap.size) : entM w0 mb Ss b < 100 := by
  simp only [Bool.and_eq_true] at hl
  have hl' : Ss.length ≤ 60 := Nat.le_of_ble_eq_true hl.1
  have hm' : mb.length ≤ 39 := Nat.le_of_ble_eq_true hl.2
  unfold entM
  rw [if_pos hb]
  rcases clsB_spec (b := b) (mb := mb) (k := 1) with ⟨h1, _⟩ | ⟨j, h1, h3, h4⟩
  · rw [if_pos h1]
    rcases clsS_spec (b := b) (Ss := Ss) (k := 40) with h1 | ⟨i, S, _, _, h3, h4⟩ <;> omega
  · rw [if_neg (by omega)]
    omega
theorem rn_lt {d : Nat} {l : List (Nat × Nat)} {c : Nat} (h : c < 100) : rn d l c = c := by
  have : Nat.blt c 100 = true := by rw [Nat.blt, Nat.ble_eq]; exact h
  simp [rn, this]
theorem En.rn {mb : List Nat} {Ss : List (Nat → Prop)} (h : En w0 e o w) (he : e = entM w0 mb Ss) (d : Nat) (l : List (Nat × Nat)) (hl : (Nat.ble Ss.length 60 && Nat.ble mb.length 39) = true) (hN : okL (l.map Prod.snd ++ [d]) = true) : En w0 (entM w0 mb Ss) (rnO d l o) w := by
  subst he
  refine ⟨h.os, h.tape, h.output, h.size, fun b hb => ?_, fun b h1 h2 => ?_, h.blk⟩
  · unfold rnO
    rw [h.old b hb]
    exact rn_lt (entM_lt hl hb)
  · have hh := h.new b h1 h2
    unfold rnO Dp.rn
    cases c1 : Nat.blt (o b) 100 with
    | true => simpa using hh
    | false => simp only [cond_false]; exact okL_mem hN luk_mem
def rnK (d : Nat) (l : List (Nat × Nat)) (K K' : List Nat) : Bool := K.all fun c => K'.any fun y => Nat.beq (rn d l c) y
section
variable {d : Nat} {l : List (Nat × Nat)} {α : Type} [Rep α]
theorem rn_in (hK : rnK d l K K' = true) : ∀ b, In o K b → b < w.heap.size → In (rnO d l o) K' b ∧ w.heap[b]? = w.heap[b]? := fun b hb _ =>
  ⟨any_beq (List.all_eq_true.1 hK _ hb), rfl⟩
theorem Rv.rn {v : Value} {x : α} (r : Rv (In o K) w v x) (hK : rnK d l K K' = true) : Rv (In (rnO d l o) K') w v x := r.mono (rn_in hK)
theorem Ow.rn {T : TypeId} {c c' : Nat} {v : Value} {xs : List α} (r : Ow T o c K w v xs) (hc : Nat.beq (rn d l c) c' = true) (hK : rnK d l K K' = true) : Ow T (rnO d l o) c' K' w v xs := by
  rcases r with r | ⟨g, cap, cur, css, h1, h2, h3, h4, h5, h6, h7, h8⟩
  · exact .inl r
  · exact .inr ⟨g, cap, cur, css, h1, by unfold rnO; rw [h2]; exact Nat.eq_of_beq_eq_true hc, h3, h4, h5, h6, h7.mono fun _ _ => Rep.mono (rn_in hK), h8⟩
theorem Bk.rn {c c' : Nat} {pa : Addr} {cs : List Value} (r : Bk o c w pa cs) (hc : Nat.beq (rn d l c) c' = true) : Bk (rnO d l o) c' w pa cs :=
  ⟨r.off, r.spot, by unfold rnO; rw [r.own]; exact Nat.eq_of_beq_eq_true hc, r.cells⟩
theorem SrcC.rn {c c' : Nat} {sb : Nat} {sv : Value} {sL st : List Int} (r : SrcC o c w sb sv sL st) (hc : Nat.beq (rn d l c) c' = true) : SrcC (rnO d l o) c' w sb sv sL st :=
  ⟨r.1, by unfold rnO; rw [r.2]; exact Nat.eq_of_beq_eq_true hc⟩
end

/-! function values -/
/-- what a variable holds, as a closure reads it in a later world -/
theorem Bk.bts {α : Type} [Rep α] {c : Nat} {pa : Addr} {cs : List Value} {x : α} {mb : List Nat} (h : Bk o c w pa cs) (hr : Rep.rd (In o K) w cs x) (k : Bts mb w w') (hs : ∀ b, b < w.heap.size → In o (c :: K) b → b ∉ mb) : PtrAt (fun _ => True) w' pa x := by
  have h1 : PtrAt (In o (c :: K)) w pa x := by
    refine ⟨cs, Rep.mono (fun b hb _ => ⟨List.mem_cons_of_mem _ hb, rfl⟩) hr, ?_, ?_⟩
    · show o pa.block ∈ c :: K
      rw [h.own]; exact List.mem_cons_self
    · have := h.at 0 cs.length (by simp)
      rw [add_zero'] at this
      simpa using this
  exact h1.mono fun b hb hlt => ⟨trivial, k.blk b hlt (hs b hlt hb)⟩
theorem PtrAt.bts {α : Type} [Rep α] {pa : Addr} {x : α} {mb : List Nat} (h : PtrAt (In o K) w pa x) (k : Bts mb w w') (hs : ∀ b, b < w.heap.size → In o K b → b ∉ mb) : PtrAt (fun _ => True) w' pa x :=
  h.mono fun b hb hlt => ⟨trivial, k.blk b hlt (hs b hlt hb)⟩
/-- a world that a callee can reach is one that this call can reach -/
theorem En.on {mb mb' ks : List Nat} {Ss : List (Nat → Prop)} (h : En w0 e o w) (he : e = entM w0 mb Ss) (hl : Nat.ble Ss.length 60 = true) (hm : MbOk o w 0 mb' ks) (hk : okL ks = true) (k : Bts mb' w w') : Bts mb w0 w' := by
  have h0 := h.bts he hl
  refine ⟨k.os.trans h0.os, k.tape.trans h0.tape, k.output.trans h0.output, Nat.le_trans h0.size k.size, fun b hb hne => ?_⟩
  rw [← h0.blk b hb hne]
  refine k.blk b (Nat.lt_of_lt_of_le hb h0.size) fun hbm => ?_
  rcases hm.mem b hbm with ⟨_, h2⟩ | h2
  · have h3 := okL_mem hk h2
    rw [h.old b hb, he, entM_ro_okc hl hb hne] at h3
    cases h3
  · have := h0.size
    omega
end
end Dp
end Go.Proofs.Ytdfkfohpgakihaa
