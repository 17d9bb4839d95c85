/- Own slices whose elements hold own slices: one of these appended to, and put in its place. Nothing here names a program. -/
import Derived.Test.YtkgfdplcjdidhaaDv
set_option linter.unusedVariables false
set_option linter.unusedSimpArgs false
namespace Go.Proofs.Ytkgfdplcjdidhaa
open Go Go.RowKit

namespace Dp

/-- a type whose readings look at no blocks but those that its own cells name -/
class OneLevel (α : Type) [Rep α] : Prop where
  loc : ∀ {S : Nat → Prop} {w : World} {cs : List Value} {x : α}, Rep.rd S w cs x → Rep.rd (fun b => S b ∧ ∃ p n c, Value.slice (some p) n c ∈ cs ∧ p.block = b) w cs x
instance : OneLevel Int := ⟨fun h => h⟩
instance : OneLevel Bool := ⟨fun h => h⟩
instance : OneLevel ByteArray := ⟨fun h => h⟩
instance : OneLevel U8 := ⟨fun h => h⟩
instance {β : Type} [Rep β] [Flat β] : OneLevel (List β) := ⟨by
  rintro S w cs x ⟨p, cap, rfl, h1, h2, h3⟩
  refine ⟨p, cap, rfl, h1, h2, ?_⟩
  rcases h3 with h3 | ⟨a, css, rfl, h4, h5, h6⟩
  · exact .inl h3
  · exact .inr ⟨a, css, rfl, ⟨h4, a, x.length, cap, by simp, rfl⟩, h5.mono fun _ _ => Flat.any, h6⟩⟩
instance {α β : Type} [Rep α] [Rep β] [OneLevel α] [OneLevel β] : OneLevel (α × β) := ⟨by
  rintro S w cs x ⟨c1, c2, rfl, h1, h2⟩
  refine ⟨c1, c2, rfl, Rep.mono ?_ (OneLevel.loc h1), Rep.mono ?_ (OneLevel.loc h2)⟩
  · rintro b ⟨hb, p, n, c, hm, e⟩ _
    exact ⟨⟨hb, p, n, c, List.mem_append_left _ hm, e⟩, rfl⟩
  · rintro b ⟨hb, p, n, c, hm, e⟩ _
    exact ⟨⟨hb, p, n, c, List.mem_append_right _ hm, e⟩, rfl⟩⟩

/-- a slice value that is nil or the head of a whole block of owner kc; other values: no matter -/
def ChOk (z : Nat) (Tc : TypeId) (o : Cls) (kc : Nat) (w : World) (u : Value) : Prop :=
  ∀ p n c, u = .slice p n c → (p = none ∧ n = 0 ∧ c = 0) ∨ ∃ g cur, p = some ⟨g, 0, none⟩ ∧ o g = kc ∧ w.heap[g]? = some (.cells cur Tc (0, 0)) ∧ n ≤ c ∧ c ≤ maxLen ∧ cur.size = c * z
/-- no two of them share a block -/
def Dst (l : List Value) : Prop := ∀ (i j : Nat) (p q : Addr) (n m c d : Nat), l[i]? = some (.slice (some p) n c) → l[j]? = some (.slice (some q) m d) → p.block = q.block → i = j

def OwC {α : Type} [Rep α] (z : Nat) (T Tc : TypeId) (o : Cls) (k kc : Nat) (w : World) (v : Value) (xs : List α) : Prop :=
  (v = .slice none 0 0 ∧ xs = []) ∨
  ∃ g cap cur css, v = .slice (some ⟨g, 0, none⟩) xs.length cap ∧ o g = k ∧ w.heap[g]? = some (.cells cur T (0, 0)) ∧ xs.length ≤ cap ∧ cap ≤ maxLen ∧ cur.size = cap * Rep.sz α ∧
    All2 (Rep.rd (In o [kc]) w) css xs ∧ cur.toList.take (xs.length * Rep.sz α) = css.flatten ∧ (∀ u ∈ css.flatten, ChOk z Tc o kc w u) ∧ Dst css.flatten

section
variable {α β : Type} [Rep α] [Rep β] {z : Nat} {T Tc : TypeId} {o o' : Cls} {k kc k' kc' : Nat} {w w' : World} {v u : Value} {xs : List α} {M N : List Nat}
theorem OwC.ow (h : OwC z T Tc o k kc w v xs) : Ow T o k [kc] w v xs := by
  rcases h with h | ⟨g, cap, cur, css, h1, h2, h3, h4, h5, h6, h7, h8, _⟩
  · exact .inl h
  · exact .inr ⟨g, cap, cur, css, h1, h2, h3, h4, h5, h6, h7, h8⟩
theorem OwC.rv (h : OwC z T Tc o k kc w v xs) : Rv (In o [k, kc]) w v xs := h.ow.rv
theorem OwC.nil (z : Nat) (T Tc : TypeId) (o : Cls) (k kc : Nat) (w : World) : OwC z T Tc o k kc w (.slice none 0 0) ([] : List α) := .inl ⟨rfl, rfl⟩
theorem OwC.one (h : OwC z T Tc o k kc w v xs) : v.oneCell' = true := h.ow.one
theorem ChOk.evo (h : ChOk z Tc o kc w u) (ev : Evo M N o w o' w') (hd : disj [kc] M = true) : ChOk z Tc o' kc w' u := by
  intro p n c e
  rcases h p n c e with h | ⟨g, cur, h1, h2, h3, h4⟩
  · exact .inl h
  · have hlt : g < w.heap.size := (Array.getElem?_eq_some_iff.1 h3).1
    exact .inr ⟨g, cur, h1, by rw [ev.old g hlt]; exact h2, by rw [ev.blk g hlt (disj_spec hd (by rw [h2]; exact List.mem_cons_self))]; exact h3, h4⟩
theorem OwC.evo (h : OwC z T Tc o k kc w v xs) (ev : Evo M N o w o' w') (hd : disj [k, kc] M = true) : OwC z T Tc o' k kc w' v xs := by
  have hdc : disj [kc] M = true := by simp only [disj, List.all_cons, Bool.and_eq_true] at hd ⊢; exact ⟨hd.2.1, rfl⟩
  rcases h with h | ⟨g, cap, cur, css, h1, h2, h3, h4, h5, h6, h7, h8, h9, h10⟩
  · exact .inl h
  · have hlt : g < w.heap.size := (Array.getElem?_eq_some_iff.1 h3).1
    exact .inr ⟨g, cap, cur, css, h1, by rw [ev.old _ hlt]; exact h2, by rw [ev.blk _ hlt (disj_spec hd (by rw [h2]; exact List.mem_cons_self))]; exact h3, h4, h5, h6, h7.mono fun _ _ => Rep.mono (ev.ro hdc), h8, fun u hu => (h9 u hu).evo ev hdc, h10⟩
/-- cell pa holds u -/
def CellIs (o : Cls) (k : Nat) (w : World) (pa : Addr) (u : Value) : Prop := o pa.block = k ∧ w.cell? pa = some u
theorem CellIs.evo {pa : Addr} (h : CellIs o k w pa u) (ev : Evo M N o w o' w') (hd : disj [k] M = true) : CellIs o' k w' pa u := by
  have hlt := World.block_lt_of_cell? w pa h.2
  have hne : o pa.block ∉ M := disj_spec hd (by rw [h.1]; exact List.mem_cons_self)
  refine ⟨by rw [ev.old _ hlt]; exact h.1, ?_⟩
  rw [← h.2]
  exact World.cell?_of_block (ev.blk _ hlt hne)

/-- the outer slice's place g, while the new value v' of cell pq is not yet stored: as it will be -/
def rowPut (cur : Array Value) (q : Nat) (v' : Value) : Array Value := (cur.toList.take q ++ [v'] ++ cur.toList.drop (q + 1)).toArray
def OwH (z : Nat) (T Tc : TypeId) (o : Cls) (k kc : Nat) (w : World) (v : Value) (xs : List α) (pq : Addr) (v' : Value) : Prop :=
  ∃ g q cur, pq = ⟨g, q, none⟩ ∧ o g = k ∧ w.heap[g]? = some (.cells cur T (0, 0)) ∧ v'.oneCell' = true ∧ q < cur.size ∧ OwC z T Tc o k kc (w.setRow g (rowPut cur q v')) v xs

theorem Evo.both {g : Nat} {X cur : Array Value} {T : TypeId} (ev : Evo M N o w o' w') (hg : w.heap[g]? = some (.cells cur T (0, 0))) (he : w'.heap[g]? = w.heap[g]?) : Evo M N o (w.setRow g X) o' (w'.setRow g X) := by
  refine ⟨ev.os, ev.tape, ev.output, by simpa using ev.size, fun b hb => ev.old b (by simpa using hb), fun b h1 h2 => ev.new b (by simpa using h1) (by simpa using h2), fun b hb hne => ?_⟩
  have hb' : b < w.heap.size := by simpa using hb
  by_cases hbg : b = g
  · subst hbg
    rw [setRow_heap w b cur X T (0, 0) hg, setRow_heap w' b cur X T (0, 0) (by rw [he]; exact hg)]
  · rw [setRow_other w' g b X hbg, setRow_other w g b X hbg]
    exact ev.blk b hb' hne
theorem OwH.evo {pq : Addr} (h : OwH z T Tc o k kc w v xs pq u) (ev : Evo M N o w o' w') (hd : disj [k, kc] M = true) : OwH z T Tc o' k kc w' v xs pq u := by
  obtain ⟨g, q, cur, h1, h2, h3, h4, h5, h6⟩ := h
  have hlt : g < w.heap.size := (Array.getElem?_eq_some_iff.1 h3).1
  have he := ev.blk _ hlt (disj_spec hd (by rw [h2]; exact List.mem_cons_self))
  exact ⟨g, q, cur, h1, by rw [ev.old _ hlt]; exact h2, by rw [he]; exact h3, h4, h5, h6.evo (ev.both h3 he) hd⟩
end

theorem All2.monoM {α : Type} {R R' : List Value → α → Prop} : ∀ {cs : List (List Value)} {xs : List α}, (∀ c ∈ cs, ∀ x, R c x → R' c x) → All2 R cs xs → All2 R' cs xs
  | [], [], _, _ => trivial
  | _ :: _, _ :: _, hr, h => ⟨hr _ (by simp) _ h.1, All2.monoM (fun c hc => hr c (by simp [hc])) h.2⟩
  | [], _ :: _, _, h => h.elim
  | _ :: _, [], _, h => h.elim
theorem set_splice {α : Type} {l : List α} {q : Nat} {x : α} (h : q < l.length) : l.take q ++ [x] ++ l.drop (q + 1) = l.set q x := by
  rw [List.set_eq_take_append_cons_drop, if_pos h]
  simp
theorem flatten_set_one {z : Nat} {css : List (List Value)} (hz : ∀ c ∈ css, c.length = z) {j off : Nat} {c : List Value} (hc : css[j]? = some c) (ho : off < z) (v : Value) :
    (css.set j (c.take off ++ [v] ++ c.drop (off + 1))).flatten = css.flatten.set (j * z + off) v := by
  have hcl : c.length = z := hz c (List.mem_of_getElem? hc)
  rw [set_splice (by omega)]
  induction css generalizing j with
  | nil => simp at hc
  | cons b css ih =>
    have hb : b.length = z := hz b (by simp)
    cases j with
    | zero =>
      have : b = c := by simpa using hc
      subst this
      simp only [List.set_cons_zero, List.flatten_cons, Nat.zero_mul, Nat.zero_add]
      rw [List.set_append_left _ _ (by omega)]
    | succ j =>
      have e1 : (j + 1) * z + off = b.length + (j * z + off) := by rw [hb, Nat.succ_mul]; omega
      simp only [List.set_cons_succ, List.flatten_cons, e1]
      rw [List.set_append_right _ _ (by omega), Nat.add_sub_cancel_left, ih (fun c hc => hz c (by simp [hc])) (by simpa using hc)]
theorem big (o : Cls) (n : Nat) : ∃ kx, ∀ b, b < n → o b < kx := by
  induction n with
  | zero => exact ⟨0, fun b h => by omega⟩
  | succ n ih =>
    obtain ⟨kx, h⟩ := ih
    refine ⟨kx + o n + 1, fun b hb => ?_⟩
    by_cases e : b = n
    · subst e; omega
    · have := h b (by omega); omega

section
variable {α β : Type} [Rep α] [Rep β]
variable {P : Program} {Q : Exit → Act → World → Prop} {L : List (Nat × Value)} {w : World} {d : Option Tmp} {ty : TypeId} {pos : String} {af : Array Edge} {g : Option (Nat × Bool)} {t T e : TypeId} {o : Cls} {k kc : Nat}

/-- a part of an element that is a slice: its place, and how it is read and written -/
structure Prt (off : Nat) (f : α → List β) (st : α → List β → α) : Prop where
  prt : ∀ {S : Nat → Prop} {w : World} {cs : List Value} {x : α}, Rep.rd S w cs x → ∃ c1 c c2, cs = c1 ++ c ++ c2 ∧ c1.length = off ∧ Rep.rd S w c (f x)
  set : FldSet off st
  two : ∀ x a b, st (st x a) b = st x b
theorem Prt.self : Prt (α := List β) (β := β) 0 (fun x => x) (fun _ y => y) := by
  refine ⟨fun h => ⟨[], _, [], by simp, rfl, h⟩, ?_, fun _ _ _ => rfl⟩
  intro S w cs x c' y h h'
  have h1 := Rep.len h
  have h2 := Rep.len h'
  have : cs.take 0 ++ c' ++ cs.drop (0 + c'.length) = c' := by
    rw [List.take_zero, List.nil_append, List.drop_eq_nil_of_le (by omega), List.append_nil]
  rw [this]
  exact h'

theorem run_appendCh [OneLevel α] [Flat β] {f : α → List β} {st : α → List β → α} {off : Nat} {v u vx : Value} {xs zs : List α} {y : α} {ys l' : List β} {j : Int} {pa : Addr} (hF : Prt off f st) (hu : P.underlying t = some (.slice e)) (hT : TyOk P e β)
    (ho : OwC (Rep.sz β) T e o k kc w v xs) (hE : EPtr v (Rep.sz α) j pa) (hc : CellIs o k w (pa.add off) u) (hy : idx xs j = some y) {S : Nat → Prop} (hx : Els S w vx ys) (hz : app (f y) ys = some l') (hs : setO xs j (st y l') = some zs) (hk : Nat.beq k kc = false) :
    ∃ v' w' o', (Builtin.append_ #[t, t] ty #[u, vx]).run P w = .ok v' w' ∧ Evo [kc] [kc] o w o' w' ∧ OwH (Rep.sz β) T e o' k kc w' v zs (pa.add off) v' := by
  have hkk : k ≠ kc := fun e => by subst e; simp at hk
  unfold idx at hy
  split at hy
  case isFalse => cases hy
  rename_i h0
  have hlt : j.toNat < xs.length := (List.getElem?_eq_some_iff.1 hy).1
  unfold setO at hs
  split at hs
  case isFalse => cases hs
  cases hs
  rcases ho with ⟨rfl, rfl⟩ | ⟨gg, cap, cur, css, rfl, h2, h3, h4, h5, h6, h7, h8, h9, h10⟩
  · simp at hlt
  obtain ⟨a, m, cap', hv, rfl⟩ := hE
  have ha : a = ⟨gg, 0, none⟩ := by
    have := congrArg (fun v => match v with | Value.slice (some a) _ _ => a | _ => (⟨0, 0, none⟩ : Addr)) hv
    simpa using this.symm
  subst ha
  obtain ⟨c, hc1, hc2⟩ := h7.get hy
  have hsz := h7.sizes
  have hcl : c.length = Rep.sz α := Rep.len hc2
  have hadd : ((⟨gg, 0, none⟩ : Addr).add (j.toNat * Rep.sz α)).add off = ⟨gg, j.toNat * Rep.sz α + off, none⟩ := by
    rw [addr_add]
    unfold Addr.add
    split <;> simp_all
  rw [hadd] at hc ⊢
  obtain ⟨c1, cc, c2, hcc, hcl1, hrd⟩ := hF.prt hc2
  obtain ⟨p0, cp0, rfl, r1, r2, r3⟩ := hrd
  have hoff : off < Rep.sz α := by rw [← hcl, hcc]; simp; omega
  have hcoff : c[off]? = some (.slice p0 (f y).length cp0) := by
    rw [hcc, List.append_assoc, List.getElem?_append_right (by omega), hcl1]
    simp
  have hFq : css.flatten[j.toNat * Rep.sz α + off]? = some (.slice p0 (f y).length cp0) := flatten_at hsz hc1 hcoff
  have hfl := flatLen h7
  have hmul : (j.toNat + 1) * Rep.sz α ≤ xs.length * Rep.sz α := Nat.mul_le_mul_right _ hlt
  have hmul2 : xs.length * Rep.sz α ≤ cap * Rep.sz α := Nat.mul_le_mul_right _ h4
  rw [Nat.succ_mul] at hmul
  generalize hq : j.toNat * Rep.sz α + off = q at *
  have hqF : q < css.flatten.length := by omega
  have hqc : q < cur.size := by omega
  have hu0 : u = .slice p0 (f y).length cp0 := by
    have e1 := hc.2
    rw [cell_of_row w gg q cur T (0, 0) h3] at e1
    have e2 : css.flatten[q]? = cur.toList[q]? := by rw [← h8, List.getElem?_take, if_pos (by omega)]
    rw [hFq] at e2
    simp only [Array.getElem?_toList] at e2
    rw [e1] at e2
    exact (Option.some.inj e2).symm
  have hch := h9 _ (List.mem_of_getElem? hFq)
  obtain ⟨kx, hkx⟩ := big o (w.heap.size + gg + 1)
  have hgl : gg < w.heap.size := (Array.getElem?_eq_some_iff.1 h3).1
  -- the block of the old value, if there is one
  have key : ∃ (gs : Option Nat) (ox : Cls), (∀ b, ox b = if some b = gs then kx else o b) ∧ (∀ b, gs = some b → b < w.heap.size ∧ o b = kc) ∧ Ow e ox kx [] w u (f y) ∧ (∀ b, gs = some b → ∃ p, p0 = some p ∧ p.block = b) := by
    rcases hch _ _ _ rfl with ⟨e1, e2, e3⟩ | ⟨g', cur', e1, e2, e3, e4, e5, e6⟩
    · subst e1
      refine ⟨none, o, ?_, ?_, ?_, ?_⟩
      · intro b; simp
      · intro b h; cases h
      · exact .inl ⟨by rw [hu0, e2, e3], List.eq_nil_of_length_eq_zero e2⟩
      · intro b h; cases h
    · subst e1
      refine ⟨some g', fun b => if some b = some g' then kx else o b, ?_, ?_, .inr ?_, ?_⟩
      · intro b; rfl
      · intro b h; cases h; exact ⟨(Array.getElem?_eq_some_iff.1 e3).1, e2⟩
      rotate_left
      · intro b h; exact ⟨⟨g', 0, none⟩, rfl, Option.some.inj h⟩
      have hcs : ∃ css', All2 (Rep.rd (In (fun b => if some b = some g' then kx else o b) []) w) css' (f y) ∧ cur'.toList.take ((f y).length * Rep.sz β) = css'.flatten := by
        rcases r3 with r3 | ⟨a, css', r4, r5, r6, r7⟩
        · rw [r3]; exact ⟨[], trivial, by simp⟩
        · cases r4
          refine ⟨css', r6.mono fun _ _ => Flat.any, ?_⟩
          have hl' := flatLen r6
          have hle : (f y).length * Rep.sz β ≤ cp0 * Rep.sz β := Nat.mul_le_mul_right _ e4
          apply List.ext_getElem?
          intro i
          by_cases hi : i < css'.flatten.length
          · have e7 : css'.flatten[i]? = some css'.flatten[i] := List.getElem?_eq_getElem hi
            have e8 := r7 i _ e7
            have hadd' : (⟨g', 0, none⟩ : Addr).add i = ⟨g', i, none⟩ := by unfold Addr.add; split <;> simp_all
            rw [hadd', cell_of_row w g' i cur' e (0, 0) e3] at e8
            rw [List.getElem?_take, if_pos (by omega), e7]
            simpa using e8
          · rw [List.getElem?_eq_none (by simp; omega), List.getElem?_eq_none (by omega)]
      obtain ⟨css', hcs1, hcs2⟩ := hcs
      exact ⟨g', cp0, cur', css', hu0, by simp, e3, r1, r2, e6, hcs1, hcs2⟩
  obtain ⟨gs, ox, hox, hgs, how, hp0⟩ := key
  have hxE : Els (In ox []) w vx ys := hx.flat
  obtain ⟨v', w', o1, hrun, hev, how'⟩ := run_append (P := P) (ty := ty) hu hT how hxE hz (by simp [disj])
  have hsize := hev.size
  have hox_old : ∀ b, b < w.heap.size → ox b = kx → gs = some b := by
    intro b hb h
    rw [hox] at h
    split at h
    · rename_i h'; exact h'.symm
    · have := hkx b (by omega); omega
  have hkeep : ∀ b, b < w.heap.size → gs ≠ some b → w'.heap[b]? = w.heap[b]? := fun b hb hne => hev.blk b hb fun hm => hne (hox_old b hb (by simpa using hm))
  have hev2 : Evo [kc] [kc] o w (grow o w kc) w' := ⟨hev.os, hev.tape, hev.output, hev.size, fun b hb => by simp [grow, hb], fun b h1 _ => by simp [grow, Nat.not_lt.2 h1], fun b hb hne => hkeep b hb fun h => hne (by simp [(hgs b h).2])⟩
  have hgg : gs ≠ some gg := fun h => hkk (h2.symm.trans (hgs gg h).2)
  have hrow' : w'.heap[gg]? = some (.cells cur T (0, 0)) := by rw [hkeep gg hgl hgg]; exact h3
  -- where the new value lies
  have hnew : ∀ b, b < w'.heap.size → o1 b = kx → gs = some b ∨ w.heap.size ≤ b := by
    intro b hb h
    by_cases hlt : b < w.heap.size
    · rw [hev.old b hlt] at h
      exact .inl (hox_old b hlt h)
    · exact .inr (by omega)
  have hkc : ∀ b, b < w'.heap.size → (gs = some b ∨ w.heap.size ≤ b) → grow o w kc b = kc ∧ b ≠ gg := by
    intro b _ h
    rcases h with h | h
    · exact ⟨by simp [grow, (hgs b h).1, (hgs b h).2], fun e => hgg (e ▸ h)⟩
    · exact ⟨by simp [grow, Nat.not_lt.2 h], by omega⟩
  have hw2 : ∀ b, b ≠ gg → (w'.setRow gg (rowPut cur q v')).heap[b]? = w'.heap[b]? := fun b hb => setRow_other w' gg b _ hb
  have hone := how'.one
  have hoth : ∀ i p n cc, i ≠ q → css.flatten[i]? = some (.slice (some p) n cc) → gs ≠ some p.block := by
    intro i p n cc hiq hi3 hgs'
    obtain ⟨p1, hp, h12⟩ := hp0 _ hgs'
    rw [hp] at hFq
    exact hiq (h10 _ _ _ _ _ _ _ _ hFq hi3 h12).symm
  refine ⟨v', w', grow o w kc, hrun, hev2, gg, q, cur, rfl, by simp [grow, hgl, h2], hrow', hone, hqc, .inr ⟨gg, cap, rowPut cur q v', css.set j.toNat (c.take off ++ [v'] ++ c.drop (off + 1)), by simp, by simp [grow, hgl, h2], setRow_heap w' gg cur _ T _ hrow', by simpa using h4, h5, ?_, ?_, ?_, ?_, ?_⟩⟩
  · simp [rowPut]; omega
  · -- the readings
    have hnil : Rep.rd (In o [kc]) w [.slice none 0 0] ([] : List β) := Rep.zok (α := List β) _ _
    have hb1 : All2 (Rep.rd (In o [kc]) w) (css.set j.toNat (c.take off ++ [.slice none 0 0] ++ c.drop (off + 1))) (xs.set j.toNat (st y [])) := All2.set h7 j.toNat (by have := hF.set hc2 hnil; simpa using this)
    have hfl0 := flatten_set_one hsz hc1 hoff (.slice none 0 0)
    rw [hq] at hfl0
    have hb2 : All2 (Rep.rd (In (grow o w kc) [kc]) (w'.setRow gg (rowPut cur q v'))) (css.set j.toNat (c.take off ++ [.slice none 0 0] ++ c.drop (off + 1))) (xs.set j.toNat (st y [])) := by
      refine All2.monoM (fun cs hcs x hr => Rep.mono ?_ (OneLevel.loc hr)) hb1
      rintro b ⟨hb, p, n, cc, hm, rfl⟩ hlt'
      have hbk : o p.block = kc := by simpa [In] using hb
      have hne : gs ≠ some p.block := by
        intro hgs'
        have hm2 : Value.slice (some p) n cc ∈ css.flatten.set q (.slice none 0 0) := hfl0 ▸ List.mem_flatten.2 ⟨cs, hcs, hm⟩
        obtain ⟨i, hi1, hi2⟩ := List.getElem_of_mem hm2
        have hi3 : (css.flatten.set q (.slice none 0 0))[i]? = some (.slice (some p) n cc) := by rw [List.getElem?_eq_getElem hi1, hi2]
        by_cases hiq : q = i
        · subst hiq
          rw [List.getElem?_set, if_pos rfl, if_pos hqF] at hi3
          simp at hi3
        · rw [List.getElem?_set, if_neg hiq] at hi3
          exact hoth i p n cc (fun e => hiq e.symm) hi3 hgs'
      refine ⟨by simp [In, grow, hlt', hbk], ?_⟩
      rw [hw2 _ (fun e => hkk (by rw [← h2, ← e, hbk])), hkeep _ hlt' hne]
    have hlt2 : j.toNat < (xs.set j.toNat (st y [])).length := by simpa using hlt
    obtain ⟨cs0, hcs0, hcs1⟩ := hb2.get (i := j.toNat) (x := st y []) (by simp [hlt])
    have hjc : j.toNat < css.length := by rw [h7.length]; exact hlt
    have hcs2 : cs0 = c.take off ++ [.slice none 0 0] ++ c.drop (off + 1) := by
      rw [List.getElem?_set, if_pos rfl, if_pos hjc] at hcs0
      exact (Option.some.inj hcs0).symm
    have hrv' : Rep.rd (In (grow o w kc) [kc]) (w'.setRow gg (rowPut cur q v')) [v'] l' := by
      refine Rep.mono ?_ (Rv.rd1 how'.rv rfl)
      intro b hb hlt'
      have hb' : o1 b = kx := by simpa [In] using hb
      obtain ⟨e1, e2⟩ := hkc b hlt' (hnew b hlt' hb')
      exact ⟨by simp [In, e1], hw2 b e2⟩
    have hfin := All2.set hb2 j.toNat (hF.set hcs1 hrv')
    rw [List.set_set, List.set_set, hF.two, hcs2] at hfin
    have e1 : List.take off (c.take off ++ [Value.slice none 0 0] ++ c.drop (off + 1)) ++ [v'] ++ List.drop (off + [v'].length) (c.take off ++ [Value.slice none 0 0] ++ c.drop (off + 1)) = c.take off ++ [v'] ++ c.drop (off + 1) := by
      rw [show off + [v'].length = off + 1 from rfl, set_splice (l := c) (by omega), set_splice (l := c) (by omega), set_splice (by simp; omega), List.set_set]
    rw [e1] at hfin
    exact hfin
  · rw [List.length_set]
    have := flatten_set_one hsz hc1 hoff v'
    rw [hq] at this
    rw [this]
    have hcl2 : q < cur.toList.length := by simpa using hqc
    show (cur.toList.take q ++ [v'] ++ cur.toList.drop (q + 1)).take (xs.length * Rep.sz α) = _
    rw [set_splice hcl2, ← h8, List.take_set]
  · have := flatten_set_one hsz hc1 hoff v'
    rw [hq] at this
    rw [this]
    intro u1 hu1 p n cc e7
    obtain ⟨i, hi1, hi2⟩ := List.getElem_of_mem hu1
    have hi3 : (css.flatten.set q v')[i]? = some u1 := by rw [List.getElem?_eq_getElem hi1, hi2]
    by_cases hiq : q = i
    case neg =>
      rw [List.getElem?_set, if_neg hiq] at hi3
      rcases h9 u1 (List.mem_of_getElem? hi3) p n cc e7 with h | ⟨g1, cur1, i1, i2, i3, i4⟩
      · exact .inl h
      · subst i1
        rw [e7] at hi3
        have hne := hoth i _ _ _ (fun e => hiq e.symm) hi3
        have hg1 := (Array.getElem?_eq_some_iff.1 i3).1
        exact .inr ⟨g1, cur1, rfl, by simp [grow, hg1, i2], by rw [hw2 g1 (fun e => hkk (by rw [← h2, ← e, i2])), hkeep g1 hg1 hne]; exact i3, i4⟩
    case pos =>
      subst hiq
      rw [List.getElem?_set, if_pos rfl, if_pos hqF] at hi3
      obtain rfl := Option.some.inj hi3
      rcases how' with ⟨hn, _⟩ | ⟨g1, cap1, cur1, css1, i1, i2, i3, i4, i5, i6, i7, i8⟩
      · rw [hn] at e7; cases e7; exact .inl ⟨rfl, rfl, rfl⟩
      · rw [i1] at e7
        cases e7
        have hg1 := (Array.getElem?_eq_some_iff.1 i3).1
        obtain ⟨e1, e2⟩ := hkc g1 hg1 (hnew g1 hg1 i2)
        exact .inr ⟨g1, cur1, rfl, e1, by rw [hw2 g1 e2]; exact i3, i4, i5, i6⟩
  · have := flatten_set_one hsz hc1 hoff v'
    rw [hq] at this
    rw [this]
    have hvq : ∀ i p n cc, i ≠ q → css.flatten[i]? = some (.slice (some p) n cc) → ∀ p' n' c', v' = .slice (some p') n' c' → p.block ≠ p'.block := by
      intro i p n cc hiq hi p' n' c' e7 hpp
      have hne := hoth i p n cc hiq hi
      rcases h9 _ (List.mem_of_getElem? hi) p n cc rfl with ⟨e1, _⟩ | ⟨g2, cur2, e1, e2, e3, _⟩
      · cases e1
      · cases e1
        have hg2 := (Array.getElem?_eq_some_iff.1 e3).1
        rcases how' with ⟨hn, _⟩ | ⟨g1, cap1, cur1, css1, i1, i2, i3, _⟩
        · rw [hn] at e7; cases e7
        · rw [i1] at e7
          cases e7
          have hpp' : g2 = g1 := hpp
          subst hpp'
          rcases hnew g2 (Array.getElem?_eq_some_iff.1 i3).1 i2 with h | h
          · exact hne h
          · omega
    intro i j' p p' n n' c' d' hi hj hpp
    by_cases hiq : q = i
    · by_cases hjq : q = j'
      · omega
      · subst hiq
        rw [List.getElem?_set, if_neg hjq] at hj
        rw [List.getElem?_set, if_pos rfl, if_pos hqF] at hi
        exact (hvq j' _ _ _ (fun e => hjq e.symm) hj _ _ _ (Option.some.inj hi) hpp.symm).elim
    · by_cases hjq : q = j'
      · subst hjq
        rw [List.getElem?_set, if_neg hiq] at hi
        rw [List.getElem?_set, if_pos rfl, if_pos hqF] at hj
        exact (hvq i _ _ _ (fun e => hiq e.symm) hi _ _ _ (Option.some.inj hj) hpp).elim
      · rw [List.getElem?_set, if_neg hiq] at hi
        rw [List.getElem?_set, if_neg hjq] at hj
        exact h10 _ _ _ _ _ _ _ _ hi hj hpp
end

theorem OwC.mono {α : Type} [Rep α] {z : Nat} {T Tc : TypeId} {o o' : Cls} {k kc k' kc' : Nat} {w w' : World} {v : Value} {xs : List α} (hk : ∀ b, b < w.heap.size → o b = k → o' b = k' ∧ w'.heap[b]? = w.heap[b]?) (hc : ∀ b, b < w.heap.size → o b = kc → o' b = kc' ∧ w'.heap[b]? = w.heap[b]?) (h : OwC z T Tc o k kc w v xs) : OwC z T Tc o' k' kc' w' v xs := by
  rcases h with h | ⟨g, cap, cur, css, h1, h2, h3, h4, h5, h6, h7, h8, h9, h10⟩
  · exact .inl h
  · obtain ⟨e1, e2⟩ := hk g (Array.getElem?_eq_some_iff.1 h3).1 h2
    refine .inr ⟨g, cap, cur, css, h1, e1, by rw [e2]; exact h3, h4, h5, h6, h7.mono fun _ _ => Rep.mono fun b hb hlt => ?_, h8, fun u hu p n c e => ?_, h10⟩
    · have hb : o b = kc := by simpa [In] using hb
      obtain ⟨f1, f2⟩ := hc b hlt hb
      exact ⟨by simp [In, f1], f2⟩
    · rcases h9 u hu p n c e with h | ⟨g', cur', i1, i2, i3, i4⟩
      · exact .inl h
      · obtain ⟨f1, f2⟩ := hc g' (Array.getElem?_eq_some_iff.1 i3).1 i2
        exact .inr ⟨g', cur', i1, f1, by rw [f2]; exact i3, i4⟩
theorem OwH.mono {α : Type} [Rep α] {z : Nat} {T Tc : TypeId} {o o' : Cls} {k kc k' kc' : Nat} {w w' : World} {v u : Value} {xs : List α} {pq : Addr} (hk : ∀ b, b < w.heap.size → o b = k → o' b = k' ∧ w'.heap[b]? = w.heap[b]?) (hc : ∀ b, b < w.heap.size → o b = kc → o' b = kc' ∧ w'.heap[b]? = w.heap[b]?) (h : OwH z T Tc o k kc w v xs pq u) : OwH z T Tc o' k' kc' w' v xs pq u := by
  obtain ⟨g, q, cur, h1, h2, h3, h4, h5, h6⟩ := h
  obtain ⟨e1, e2⟩ := hk g (Array.getElem?_eq_some_iff.1 h3).1 h2
  have h3' : w'.heap[g]? = some (.cells cur T (0, 0)) := by rw [e2]; exact h3
  have key : ∀ {c c' : Nat}, (∀ b, b < w.heap.size → o b = c → o' b = c' ∧ w'.heap[b]? = w.heap[b]?) → ∀ b, b < (w.setRow g (rowPut cur q u)).heap.size → o b = c → o' b = c' ∧ (w'.setRow g (rowPut cur q u)).heap[b]? = (w.setRow g (rowPut cur q u)).heap[b]? := by
    intro c c' h b hb hoc
    obtain ⟨f1, f2⟩ := h b (by simpa using hb) hoc
    refine ⟨f1, ?_⟩
    by_cases hbg : b = g
    · subst hbg
      rw [setRow_heap w b cur _ T (0, 0) h3, setRow_heap w' b cur _ T (0, 0) h3']
    · rw [setRow_other w' g b _ hbg, setRow_other w g b _ hbg]
      exact f2
  exact ⟨g, q, cur, h1, e1, h3', h4, h5, h6.mono (key hk) (key hc)⟩

section
variable {α β : Type} [Rep α] [Rep β]
variable {P : Program} {Q : Exit → Act → World → Prop} {L : List (Nat × Value)} {w : World} {d : Option Tmp} {ty : TypeId} {pos : String} {af : Array Edge} {g : Option (Nat × Bool)} {t T e Tc : TypeId} {o : Cls} {k kc z : Nat} {K : List Nat}
theorem OW.appendCh [Rd] [OneLevel α] [Flat β] {s x : Operand} {f : α → List β} {st : α → List β → α} {off : Nat} {v u vx : Value} {xs zs : List α} {y : α} {ys l' : List β} {j : Int} {pa : Addr} {S : Nat → Prop} (hF : Prt off f st) (hu : P.underlying t = some (.slice e)) (hT : TyOk P e β) (hs : ev L s = some u) (hx : ev L x = some vx)
    (ho : OwC (Rep.sz β) T e o k kc w v xs) (hE : EPtr v (Rep.sz α) j pa) (hc : CellIs o k w (pa.add off) u) (hy : idx xs j = some y) (hr : Els S w vx ys) (hz : app (f y) ys = some l') (hz' : setO xs j (st y l') = some zs) (hk : Nat.beq k kc = false) :
    OW P Q L ⟨d, .call { callee := .builtin .append, args := #[s, x], argTypes := #[t, t] }, ty, pos, af, g⟩ w (fun v' w' => ∃ o', Evo [kc] [kc] o w o' w' ∧ OwH (Rep.sz β) T e o' k kc w' v zs (pa.add off) v') := by
  obtain ⟨v', w', o', h1, h2, h3⟩ := run_appendCh (P := P) (ty := ty) hF hu hT ho hE hc hy hr hz hz' hk
  refine OW.run fun a ha => ⟨v', w', ?_, o', h2, h3⟩
  simp [execOp, resolve, invoke, builtin, ha _ _ hs, ha _ _ hx, h1]
theorem EPtr.uniq {v : Value} {j : Int} {p q : Addr} (h1 : EPtr v z j p) (h2 : EPtr v z j q) : p = q := by
  obtain ⟨a, n, c, rfl, rfl⟩ := h1
  obtain ⟨a', n', c', h, rfl⟩ := h2
  cases h
  rfl
theorem OW.storeCh [Rd] {zb off sz : Nat} {v v' : Value} {xs : List α} {x u : Operand} {pa pb : Addr} {j : Int} (hT : TyOk P t (List β)) (hx : ev L x = some (.pointer (some (pb.add off)))) (hu : ev L u = some v') (hE : EPtr v sz j pa) (hE' : EPtr v sz j pb) (ho : OwH zb T Tc o k kc w v xs (pa.add off) v') :
    OW P Q L ⟨none, .store t x u, ty, pos, af, g⟩ w (fun _ w' => Evo [k] [] o w o w' ∧ OwC zb T Tc o k kc w' v xs) := by
  obtain rfl := hE.uniq hE'
  obtain ⟨gg, q, cur, h1, h2, h3, h4, h5, h6⟩ := ho
  rw [h1] at hx
  have hst := run_storeCells_at P gg q T [v'] 0 cur w h3 (by simp; omega) (by intro u hu; simp at hu; subst hu; exact h4)
  have hev : Evo [k] [] o w o (w.setRow gg (rowPut cur q v')) := Evo.row _ h2
  refine OW.runSkip fun a ha => ⟨_, ?_, hev, h6⟩
  have hcl := cells_one h4
  have hsz : v'.cells.size = 1 := by rw [hcl]; rfl
  have hst' : (storeCells ⟨gg, q, none⟩ [v']).run P w = .ok () (w.setRow gg (rowPut cur q v')) := hst
  have hs1 : Rep.sz (List β) = 1 := rfl
  simp [execOp, ha _ _ hx, ha _ _ hu, Instr.storeAt, Instr.sureAddr, storeVar, hT.sizeOf, hsz, hs1, hcl, hst']
def zcNil (l : List Value) : Bool := l.all fun u => match u with
  | .slice none 0 0 => true
  | .slice _ _ _ => false
  | _ => true
theorem zcNil_spec {l : List Value} (h : zcNil l = true) {p : Option Addr} {n c : Nat} (hm : Value.slice p n c ∈ l) : p = none ∧ n = 0 ∧ c = 0 := by
  have := List.all_eq_true.1 h _ hm
  match p, n, c, this with
  | none, 0, 0, _ => exact ⟨rfl, rfl, rfl⟩
theorem OW.makeC [Rd] {u1 u2 : Operand} {zs : List α} {m : Int} (kc z : Nat) (Tc : TypeId) (hzc : zcNil (Rep.zc α) = true) (hu : P.underlying t = some (.slice e)) (hT : TyOk P e α) (h1 : ev L u1 = some (.int .i64 m)) (h2 : ev L u2 = some (.int .i64 m)) (hm : mkL α m = some zs) :
    OW P Q L ⟨d, .makeSlice t u1 u2, ty, pos, af, g⟩ w (fun v' w' => ∃ o', Evo [] [k] o w o' w' ∧ OwC z e Tc o' k kc w' v' zs) := by
  unfold mkL at hm
  split at hm
  case isFalse => cases hm
  rename_i hb
  cases hm
  obtain ⟨i, hi1, hi2, hi3, hi4⟩ := hT.info
  have hr := run_make (P := P) w t e i _ hu hi1 hi4 .i64 .i64 m m hb.1 (by omega) (by
    have h : (i.bytes : Int) ≤ 65536 := by omega
    have h' : (i.bytes : Int) * m ≤ 65536 * 1073741824 := Int.mul_le_mul h hb.2 hb.1 (by omega)
    omega) (by omega)
  have hflz : ∀ q : Nat, ∀ u ∈ (List.replicate q (Rep.zc α)).flatten, u ∈ Rep.zc α := by
    intro q u hu
    obtain ⟨l, hl, hul⟩ := List.mem_flatten.1 hu
    rw [List.mem_replicate] at hl
    exact hl.2 ▸ hul
  refine OW.run fun a ha => ⟨.slice (some ⟨w.heap.size, 0, none⟩) m.toNat m.toNat, w.alloc (.cells (madeCells (pack (Rep.agg α) (Rep.zc α)).cells (m.toNat * i.size)) e), ?_, _, Evo.alloc o w _ k, .inr ⟨w.heap.size, m.toNat, _, List.replicate m.toNat (Rep.zc α), ?_, grow_new o w k _ (Nat.le_refl _), heap_alloc_new w _, by simp, ?_, ?_, ?_, ?_, ?_, ?_⟩⟩
  · simp [execOp, ha _ _ h1, ha _ _ h2, hr]
  · simp
  · unfold maxLen; omega
  · simp [size_madeCells, hi2]
  · exact All2.replicate (Rep.zok _ _) _
  · have hz : (pack (Rep.agg α) (Rep.zc α)).cells.toList = Rep.zc α := pack_cells (α := α) (Rep.zok (fun _ => True) w)
    have hzl : (Rep.zc α).length = Rep.sz α := Rep.len (Rep.zok (α := α) (fun _ => True) w)
    have hpos := Rep.pos (α := α)
    generalize hzz : (pack (Rep.agg α) (Rep.zc α)).cells = z at *
    rw [hi2]
    rw [List.length_replicate, List.take_of_length_le (by simp [size_madeCells])]
    unfold madeCells
    have hzs : z.size = Rep.sz α := by rw [← Array.length_toList, hz, hzl]
    have key : ∀ q : Nat, (List.range (q * Rep.sz α)).map (z[· % z.size]!) = (List.replicate q (Rep.zc α)).flatten := by
      intro q
      induction q with
      | zero => simp
      | succ q ih =>
        rw [List.replicate_succ', List.flatten_append, ← ih, Nat.succ_mul, List.range_add, List.map_append]
        congr 1
        simp only [List.map_map, List.flatten_singleton]
        rw [← hz]
        apply List.ext_getElem?
        intro j
        by_cases hj : j < Rep.sz α
        · have e1 : (q * Rep.sz α + j) % z.size = j := by rw [hzs, Nat.mul_comm, Nat.mul_add_mod, Nat.mod_eq_of_lt hj]
          have hj' : j < z.size := by omega
          simp [hj, e1, hj', getElem!_pos]
        · simp [hj, hzs]
    simpa using key m.toNat
  · intro u hu p n c e
    subst e
    exact .inl (zcNil_spec hzc (hflz _ _ hu))
  · intro i j p q n m c d hi _ _
    have := zcNil_spec hzc (hflz _ _ (List.mem_of_getElem? hi))
    cases this.1

/-! the head of a slice alone -/
theorem OW.idxHead [Rd] {v : Value} {xs : List α} {y : α} {u i : Operand} {q : IntKind} {j : Int} {a : Addr} {cap : Nat} (hu : P.underlying t = some (.slice e)) (hT : TyOk P e α) (hx : ev L u = some v) (h : v = .slice (some a) xs.length cap)
    (hi : ev L i = some (.int q j)) (hj : idx xs j = some y) :
    OW P Q L ⟨d, .indexAddr t u i, ty, pos, af, g⟩ w (fun v' w' => w' = w ∧ v' = .pointer (some (a.add (j.toNat * Rep.sz α)))) := by
  subst h
  unfold idx at hj
  split at hj
  · rename_i h0
    have hlt : j.toNat < xs.length := (List.getElem?_eq_some_iff.1 hj).1
    refine OW.run fun b hb => ⟨_, w, ?_, rfl, rfl⟩
    have hjl : j < (xs.length : Int) := by omega
    have e1 : b.eval u = _ := hb _ _ hx
    have e2 : b.eval i = _ := hb _ _ hi
    simp [execOp, e1, e2, Instr.indexAt, asIntOf, run_underlying hu, h0, hjl, hT.sizeOf]
  · cases hj
theorem OW.lenHead [Rd] {o : Operand} {p : Option Addr} {n cap : Nat} (hu : P.underlying t = some (.slice e)) (hx : ev L o = some (.slice p n cap)) :
    OW P Q L ⟨d, .call { callee := .builtin .len, args := #[o], argTypes := #[t] }, ty, pos, af, g⟩ w (fun v' w' => v' = .int .i64 n ∧ w' = w) := by
  refine OW.run fun a ha => ⟨_, w, ?_, rfl, rfl⟩
  simp [execOp, resolve, invoke, builtin, ha _ _ hx, Builtin.len_, run_underlying hu, goInt]
/-! the rest of a slice-/
def PreO (v v' : Value) (j : Nat) : Prop := ∃ p n c, v = .slice p n c ∧ v' = .slice p j c ∧ j ≤ n
/-- v' is what is left of v behind the first j elements -/
def TailOf (z : Nat) (v v' : Value) (j : Nat) : Prop := ∃ p n c, v = .slice p n c ∧ v' = .slice (if c = j then p else p.map (·.add (j * z))) (n - j) (c - j) ∧ j ≤ n
theorem cells_repl (z : Array Value) (hp : 0 < z.size) : ∀ q : Nat, (List.range (q * z.size)).map (z[· % z.size]!) = (List.replicate q z.toList).flatten := by
  intro q
  induction q with
  | zero => simp
  | succ q ih =>
    rw [List.replicate_succ', List.flatten_append, ← ih, Nat.succ_mul, List.range_add, List.map_append]
    congr 1
    simp only [List.map_map, List.flatten_singleton]
    apply List.ext_getElem?
    intro j
    by_cases hj : j < z.size
    · have e1 : (q * z.size + j) % z.size = j := by rw [Nat.mul_comm, Nat.mul_add_mod, Nat.mod_eq_of_lt hj]
      simp [hj, e1, getElem!_pos]
    · simp [hj]
/-- clear of the rest of an own slice -/
theorem OW.clearTail [Rd] {u : Operand} {v v' : Value} {j : Nat} {xs : List α} (hu : P.underlying t = some (.slice e)) (hT : TyOk P e α) (hx : ev L u = some v') (ho : Ow T o k K w v xs) (ht : TailOf (Rep.sz α) v v' j) (hd : disj K [k] = true) :
    OW P Q L ⟨d, .call { callee := .builtin .clear, args := #[u], argTypes := #[t] }, ty, pos, af, g⟩ w (fun v0 w' => v0 = .tuple #[] ∧ Evo [k] [] o w o w' ∧ Ow T o k K w' v (xs.take j ++ List.replicate (xs.length - j) Rep.zero)) := by
  obtain ⟨p, m, c, h1, rfl, hj⟩ := ht
  by_cases he : m - j = 0
  · have hm : m = xs.length := by
      rcases ho with ⟨rfl, rfl⟩ | ⟨gg, cap, cur, css, rfl, _⟩
      · cases h1; rfl
      · cases h1; rfl
    have hxs : xs.take j ++ List.replicate (xs.length - j) Rep.zero = xs := by
      rw [show xs.length - j = 0 from by omega, List.replicate_zero, List.append_nil, List.take_of_length_le (by omega)]
    rw [hxs]
    refine OW.run fun a ha => ⟨.tuple #[], w, ?_, rfl, Evo.refl _ _ _ _, ho⟩
    have e0 : (Builtin.clear_ #[t] ty #[Value.slice (if c = j then p else p.map (·.add (j * Rep.sz α))) (m - j) (c - j)]).run P w = .ok (.tuple #[]) w := by
      rw [he]
      cases (if c = j then p else p.map (·.add (j * Rep.sz α))) <;> simp [Builtin.clear_, run_underlying hu]
    simp [execOp, resolve, invoke, builtin, ha _ _ hx, e0]
  · rcases ho with ⟨rfl, rfl⟩ | ⟨gg, cap, cur, css, rfl, h2, h3, h4, h5, h6, h7, h8⟩
    · cases h1; omega
    · cases h1
      obtain ⟨i, hi1, hi2, hi3, hi4⟩ := hT.info
      have hcj : ¬ c = j := by omega
      have hadd : (⟨gg, 0, none⟩ : Addr).add (j * Rep.sz α) = ⟨gg, j * Rep.sz α, none⟩ := by unfold Addr.add; split <;> simp_all
      have hz : (pack (Rep.agg α) (Rep.zc α)).cells.toList = Rep.zc α := pack_cells (α := α) (Rep.zok (fun _ => True) w)
      have hzl : (Rep.zc α).length = Rep.sz α := Rep.len (Rep.zok (α := α) (fun _ => True) w)
      have hzs : (pack (Rep.agg α) (Rep.zc α)).cells.size = Rep.sz α := by rw [← Array.length_toList, hz, hzl]
      have hzc : (Builtin.zeroCells (pack (Rep.agg α) (Rep.zc α)).cells (xs.length - j)).toList = (List.replicate (xs.length - j) (Rep.zc α)).flatten := by
        have := cells_repl (pack (Rep.agg α) (Rep.zc α)).cells (by rw [hzs]; exact Rep.pos) (xs.length - j)
        rw [hz] at this
        rw [← this]
        simp [Builtin.zeroCells]
      have hfl := flatLen h7
      have hmul : xs.length * Rep.sz α ≤ c * Rep.sz α := Nat.mul_le_mul_right _ h4
      have hsub : (xs.length - j) * Rep.sz α = xs.length * Rep.sz α - j * Rep.sz α := Nat.sub_mul _ _ _
      have hjm : j * Rep.sz α ≤ xs.length * Rep.sz α := Nat.mul_le_mul_right _ hj
      have hrl : (List.replicate (xs.length - j) (Rep.zc α)).flatten.length = (xs.length - j) * Rep.sz α := by simp [hzl]
      have hone : ∀ u ∈ (List.replicate (xs.length - j) (Rep.zc α)).flatten, u.oneCell' = true := by
        intro u hu
        obtain ⟨l, hl, hul⟩ := List.mem_flatten.1 hu
        rw [List.mem_replicate] at hl
        exact Rep.one (Rep.zok (α := α) (fun _ => True) w) u (hl.2 ▸ hul)
      have hst := run_storeCells_at P gg (j * Rep.sz α) T (List.replicate (xs.length - j) (Rep.zc α)).flatten 0 cur w h3 (by omega) hone
      simp only [Nat.add_zero] at hst
      have hev : Evo [k] [] o w o (w.setRow gg (cur.toList.take (j * Rep.sz α) ++ (List.replicate (xs.length - j) (Rep.zc α)).flatten ++ cur.toList.drop (j * Rep.sz α + (List.replicate (xs.length - j) (Rep.zc α)).flatten.length)).toArray) := Evo.row _ h2
      have hlen : (xs.take j ++ List.replicate (xs.length - j) (Rep.zero : α)).length = xs.length := by simp; omega
      refine OW.run fun a ha => ⟨.tuple #[], _, ?_, rfl, hev, .inr ⟨gg, c, _, css.take j ++ List.replicate (xs.length - j) (Rep.zc α), by rw [hlen], h2, setRow_heap w gg cur _ T _ h3, by rw [hlen]; exact h4, h5, ?_, ?_, ?_⟩⟩
      · have e0 : (Builtin.clear_ #[t] ty #[Value.slice (some ⟨gg, j * Rep.sz α, none⟩) (xs.length - j) (c - j)]).run P w = .ok (.tuple #[]) (w.setRow gg (cur.toList.take (j * Rep.sz α) ++ (List.replicate (xs.length - j) (Rep.zc α)).flatten ++ cur.toList.drop (j * Rep.sz α + (List.replicate (xs.length - j) (Rep.zc α)).flatten.length)).toArray) := by
          obtain ⟨q, hq⟩ : ∃ q, xs.length - j = q + 1 := ⟨xs.length - j - 1, by omega⟩
          rw [hq] at hst hzc ⊢
          simp [Builtin.clear_, run_underlying hu, hT.zero, hzc, hst]
        simp [execOp, resolve, invoke, builtin, ha _ _ hx, hcj, hadd, e0]
      · simp [hzl]
        omega
      · exact All2.append ((h7.take j).mono fun _ _ => Rep.mono (hev.ro hd)) (All2.replicate (Rep.zok _ _) _)
      · rw [hlen, List.flatten_append, flatten_take h7.sizes, ← h8, List.take_take, Nat.min_eq_left hjm]
        show (cur.toList.take (j * Rep.sz α) ++ (List.replicate (xs.length - j) (Rep.zc α)).flatten ++ cur.toList.drop _).take _ = _
        rw [List.take_append_of_le_length (by simp [hzl]; omega), List.take_of_length_le (by simp [hzl]; omega)]
end
end Dp
end Go.Proofs.Ytkgfdplcjdidhaa
