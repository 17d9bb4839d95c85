/- The rules: element stores, literals, slice expressions, calls, equality, results in a cell. Nothing here names a program. -/
import Derived.Test.YtdfkfohpgakihaaDs
set_option linter.unusedVariables false
set_option linter.unusedSimpArgs false
namespace Go.Proofs.Ytdfkfohpgakihaa
open Go Go.RowKit

namespace Dp

section
variable {α β : Type} [Rep α] [Rep β]
variable {P : Program} {n : Nat} {Q : Exit → Act → World → Prop} {L : List (Nat × Value)} {w : World} {ops : Array Oper} {rest : List Oper} {d : Option Tmp} {ty : TypeId} {pos : String} {af : Array Edge} {g : Option (Nat × Bool)} {t T e : TypeId} {o : Cls} {K : List Nat} {k : Nat}

theorem OW.append {s x : Operand} {v vx : Value} {xs ys zs : List α} (hu : P.underlying t = some (.slice e)) (hT : TyOk P e α) (hs : ev L s = some v) (hx : ev L x = some vx) (ho : Ow e o k K w v xs) (hr : Els (In o K) w vx ys) (hz : app xs ys = some zs) (hd : disj K [k] = true) :
    OW P Q L ⟨d, .call { callee := .builtin .append, args := #[s, x], argTypes := #[t, t] }, ty, pos, af, g⟩ w (fun v' w' => ∃ o', Evo [k] [k] o w o' w' ∧ Ow e o' k K w' v' zs) := by
  obtain ⟨v', w', o', h1, h2, h3⟩ := run_append (P := P) (ty := ty) hu hT ho hr hz hd
  refine OW.run fun a ha => ⟨v', w', ?_, o', h2, h3⟩
  simp [execOp, resolve, invoke, builtin, ha _ _ hs, ha _ _ hx, h1]

/-! one element of an own slice written, whole or in part -/
theorem flatten_set {z : Nat} : ∀ {css : List (List Value)}, (∀ c ∈ css, c.length = z) → ∀ {i : Nat}, i < css.length → ∀ {c : List Value}, c.length = z → (css.set i c).flatten = css.flatten.take (i * z) ++ c ++ css.flatten.drop (i * z + z)
  | [], _, i, hi, _, _ => by simp at hi
  | b :: css, hz, 0, _, c, hc => by
    have hb : b.length = z := hz b (by simp)
    simp [hc, ← hb]
  | b :: css, hz, i + 1, hi, c, hc => by
    have hb : b.length = z := hz b (by simp)
    have ih := flatten_set (css := css) (fun c hc => hz c (by simp [hc])) (i := i) (by simpa using hi) hc
    have e1 : (i + 1) * z = b.length + i * z := by rw [hb, Nat.succ_mul]; omega
    simp only [List.set_cons_succ, List.flatten_cons, ih, e1]
    rw [List.take_length_add_append, Nat.add_assoc, List.drop_length_add_append]
    simp
theorem flatten_get {z : Nat} : ∀ {css : List (List Value)}, (∀ c ∈ css, c.length = z) → ∀ {i : Nat} {c : List Value}, css[i]? = some c → (css.flatten.drop (i * z)).take z = c
  | [], _, i, c, hi => by simp at hi
  | b :: css, hz, 0, c, hi => by
    have : b = c := by simpa using hi
    subst this
    have hb : b.length = z := hz b (by simp)
    simp [← hb]
  | b :: css, hz, i + 1, c, hi => by
    have hb : b.length = z := hz b (by simp)
    have ih := flatten_get (css := css) (fun c hc => hz c (by simp [hc])) (i := i) (c := c) (by simpa using hi)
    have e1 : (i + 1) * z = b.length + i * z := by rw [hb, Nat.succ_mul]; omega
    rw [List.flatten_cons, e1, List.drop_length_add_append]
    exact ih

theorem splice_take {A c : List Value} {m N : Nat} (h : m + c.length ≤ N) (hN : N ≤ A.length) : (A.take m ++ c ++ A.drop (m + c.length)).take N = (A.take N).take m ++ c ++ (A.take N).drop (m + c.length) := by
  apply List.ext_getElem?
  intro j
  rw [List.getElem?_take]
  have hml : min m A.length = m := by omega
  have hmN : min m (min N A.length) = m := by omega
  by_cases hj : j < N
  · rw [if_pos hj]
    by_cases h1 : j < m
    · rw [List.getElem?_append_left (by simp; omega), List.getElem?_append_left (by simp; omega), List.getElem?_append_left (by simp; omega), List.getElem?_append_left (by simp; omega), List.getElem?_take, List.getElem?_take, List.getElem?_take, if_pos h1, if_pos h1, if_pos hj]
    · by_cases h2 : j < m + c.length
      · rw [List.getElem?_append_left (by simp; omega), List.getElem?_append_right (by simp; omega), List.getElem?_append_left (by simp; omega), List.getElem?_append_right (by simp; omega)]
        simp [hml, hmN]
      · rw [List.getElem?_append_right (by simp; omega), List.getElem?_append_right (by simp; omega)]
        simp only [List.length_append, List.length_take, hml, hmN, List.getElem?_drop]
        rw [List.getElem?_take, if_pos (by omega)]
  · rw [if_neg hj]
    symm
    apply List.getElem?_eq_none
    simp
    omega

/-- an own slice, its element j given new cells in part -/
theorem Ow.put {v : Value} {xs : List α} {pa : Addr} {j : Int} {off : Nat} {c' : List Value} {y y' : α} (hE : EPtr v (Rep.sz α) j pa) (ho : Ow T o k K w v xs) (hy : idx xs j = some y) (h1 : ∀ u ∈ c', u.oneCell' = true) (hoff : off + c'.length ≤ Rep.sz α)
    (hput : ∀ cs, Rep.rd (In o K) w cs y → Rep.rd (In o K) w (cs.take off ++ c' ++ cs.drop (off + c'.length)) y') (hd : disj K [k] = true) :
    ∃ w', (storeCells (pa.add off) c').run P w = .ok () w' ∧ Evo [k] [] o w o w' ∧ Ow T o k K w' v (xs.set j.toNat y') := by
  unfold idx at hy
  split at hy
  case isFalse => cases hy
  rename_i h0
  have hlt : j.toNat < xs.length := (List.getElem?_eq_some_iff.1 hy).1
  rcases ho with ⟨rfl, rfl⟩ | ⟨gg, cap, cur, css, rfl, h2, h3, h4, h5, h6, h7, h8⟩
  · simp at hlt
  · obtain ⟨a, m, cap', hv, rfl⟩ := hE
    have ha : a = ⟨gg, 0, none⟩ := by
      have := congrArg (fun v => match v with | Value.slice (some a) _ _ => a | _ => (⟨0, 0, none⟩ : Addr)) hv
      simpa using this.symm
    subst ha
    obtain ⟨c, hc1, hc2⟩ := h7.get hy
    have hsz := h7.sizes
    have hcl : c.length = Rep.sz α := Rep.len hc2
    have hadd : ((⟨gg, 0, none⟩ : Addr).add (j.toNat * Rep.sz α)).add off = ⟨gg, j.toNat * Rep.sz α + off, none⟩ := by
      rw [addr_add]
      unfold Addr.add
      split <;> simp_all
    have hmul : (j.toNat + 1) * Rep.sz α ≤ xs.length * Rep.sz α := Nat.mul_le_mul_right _ hlt
    have hmul2 : xs.length * Rep.sz α ≤ cap * Rep.sz α := Nat.mul_le_mul_right _ h4
    rw [Nat.succ_mul] at hmul
    have hst := run_storeCells_at P gg (j.toNat * Rep.sz α + off) T c' 0 cur w h3 (by omega) h1
    rw [← hadd] at hst
    simp only [Nat.add_zero] at hst
    have hev : Evo [k] [] o w o (w.setRow gg (cur.toList.take (j.toNat * Rep.sz α + off) ++ c' ++ cur.toList.drop (j.toNat * Rep.sz α + off + c'.length)).toArray) := Evo.row _ h2
    refine ⟨_, hst, hev, .inr ⟨gg, cap, _, css.set j.toNat (c.take off ++ c' ++ c.drop (off + c'.length)), by simp, h2, setRow_heap w gg cur _ T _ h3, by simpa using h4, h5, ?_, ?_, ?_⟩⟩
    · simp
      omega
    · exact (All2.set h7 j.toNat (hput _ hc2)).mono fun _ _ => Rep.mono (hev.ro hd)
    · have hjc : j.toNat < css.length := by rw [h7.length]; exact hlt
      rw [flatten_set hsz hjc (by simp; omega), List.length_set]
      simp only
      rw [splice_take (by omega) (by simp; omega), h8]
      have hfl := flatLen h7
      have hce : c = (css.flatten.drop (j.toNat * Rep.sz α)).take (Rep.sz α) := (flatten_get hsz hc1).symm
      rw [hce]
      generalize css.flatten = A at *
      generalize hq : j.toNat * Rep.sz α = q at *
      generalize Rep.sz α = z at *
      rw [List.take_take, Nat.min_eq_left (by omega), List.drop_take, List.drop_drop]
      rw [show q + off = q + off from rfl, List.take_add, List.append_assoc, List.append_assoc, List.append_assoc, List.append_assoc, List.append_assoc]
      congr 3
      rw [show q + (off + c'.length) = q + off + c'.length from by omega, show A.drop (q + z) = (A.drop (q + off + c'.length)).drop (z - (off + c'.length)) from by rw [List.drop_drop]; congr 1; omega]
      rw [List.take_append_drop]

theorem OW.storeElem {v vu : Value} {xs zs : List α} {y : α} {x u : Operand} {pa : Addr} {j : Int} (hT : TyOk P t α) (hx : ev L x = some (.pointer (some pa))) (hE : EPtr v (Rep.sz α) j pa) (ho : Ow T o k K w v xs) (hu : ev L u = some vu) (hy : Rv (In o K) w vu y)
    (hz : setO xs j y = some zs) (hd : disj K [k] = true) :
    OW P Q L ⟨none, .store t x u, ty, pos, af, g⟩ w (fun _ w' => Evo [k] [] o w o w' ∧ Ow T o k K w' v zs) := by
  unfold setO at hz
  split at hz
  case isFalse => cases hz
  rename_i hb
  cases hz
  obtain ⟨cs', rfl, h6⟩ := hy
  have hpk := pack_cells h6
  have hl := Rep.len h6
  have hidx : ∃ y0, idx xs j = some y0 := ⟨xs[j.toNat]'(by omega), by unfold idx; rw [if_pos hb.1]; exact List.getElem?_eq_getElem _⟩
  obtain ⟨y0, hidx⟩ := hidx
  obtain ⟨w', h1, h2, h3⟩ := Ow.put (P := P) (off := 0) (c' := cs') (y' := y) hE ho hidx (Rep.one h6) (by omega) (fun cs hcs => by
    have := Rep.len hcs
    have e1 : cs.take 0 ++ cs' ++ cs.drop (0 + cs'.length) = cs' := by simp; omega
    rw [e1]; exact h6) hd
  refine OW.runSkip fun a ha => ⟨w', ?_, h2, h3⟩
  have hsz : (pack (Rep.agg α) cs').cells.size = Rep.sz α := by rw [← Array.length_toList, hpk, hl]
  have h1' : (storeCells pa cs').run P w = .ok () w' := by simpa [Addr.add] using h1
  simp [execOp, ha _ _ hx, ha _ _ hu, Instr.storeAt, Instr.sureAddr, storeVar, hT.sizeOf, hsz, hpk, h1']

theorem OW.storeElemField {v vu : Value} {xs zs : List α} {y : α} {z : β} {x u : Operand} {pa : Addr} {j : Int} {i off : Nat} {f : α → β} {st : α → β → α} (hT : TyOk P t β) (hF : FldOk P T i off f) (hS : FldSet off st) {T' : TypeId} (hx : ev L x = some (.pointer (some (pa.add off)))) (hE : EPtr v (Rep.sz α) j pa) (ho : Ow T' o k K w v xs)
    (hu : ev L u = some vu) (hy : Rv (In o K) w vu z) (hi : idx xs j = some y) (hz : setO xs j (st y z) = some zs) (hd : disj K [k] = true) :
    OW P Q L ⟨none, .store t x u, ty, pos, af, g⟩ w (fun _ w' => Evo [k] [] o w o w' ∧ Ow T' o k K w' v zs) := by
  unfold setO at hz
  split at hz
  case isFalse => cases hz
  rename_i hb
  cases hz
  obtain ⟨cs', rfl, h6⟩ := hy
  have hpk := pack_cells h6
  have hl := Rep.len h6
  have hoff : off + cs'.length ≤ Rep.sz α := by
    have hz0 := Rep.zok (α := α) (In o K) w
    obtain ⟨c1, c, c2, h7, h8, h9⟩ := hF.prt hz0
    have := Rep.len h9
    have hl0 := Rep.len hz0
    rw [h7] at hl0
    simp at hl0
    omega
  obtain ⟨w', h1, h2, h3⟩ := Ow.put (P := P) (off := off) (c' := cs') (y' := st y z) hE ho hi (Rep.one h6) hoff (fun cs hcs => hS hcs h6) hd
  refine OW.runSkip fun a ha => ⟨w', ?_, h2, h3⟩
  have hsz : (pack (Rep.agg β) cs').cells.size = Rep.sz β := by rw [← Array.length_toList, hpk, hl]
  simp [execOp, ha _ _ hx, ha _ _ hu, Instr.storeAt, Instr.sureAddr, storeVar, hT.sizeOf, hsz, hpk, h1]

/-! literals -/
def partVals (L : List (Nat × Value)) : Nat → List (Nat × Operand) → Option (List Value)
  | _, [] => some []
  | k, (i, x) :: r => match Nat.beq i k, ev L x, partVals L (k + 1) r with
    | true, some v, some vs => some (v :: vs)
    | _, _, _ => none
def AllV (S : Nat → Prop) (w : World) : List Value → List α → Prop
  | [], [] => True
  | v :: vs, x :: xs => Rv S w v x ∧ AllV S w vs xs
  | _, _ => False
theorem AllV.css {S : Nat → Prop} : ∀ {vs : List Value} {xs : List α}, AllV S w vs xs → ∃ css, vs = css.map (pack (Rep.agg α)) ∧ All2 (Rep.rd S w) css xs
  | [], [], _ => ⟨[], rfl, trivial⟩
  | _ :: _, _ :: _, h => by
    obtain ⟨⟨c, rfl, h1⟩, h2⟩ := h
    obtain ⟨css, rfl, h3⟩ := AllV.css h2
    exact ⟨c :: css, rfl, h1, h3⟩
  | [], _ :: _, h => h.elim
  | _ :: _, [], h => h.elim
/-- numbered from k on -/
def number : Nat → List Value → List (Nat × Value)
  | _, [] => []
  | k, v :: r => (k, v) :: number (k + 1) r
theorem partVals_number {a : Act} (ha : Reads L a) : ∀ {l : List (Nat × Operand)} {k : Nat} {vs : List Value}, partVals L k l = some vs → l.map (fun p => (p.1, a.eval p.2)) = number k vs
  | [], k, vs, h => by simp [partVals] at h; subst h; rfl
  | (i, x) :: r, k, vs, h => by
    unfold partVals at h
    split at h
    · rename_i v us h1 h2 h3
      cases h
      have hi : i = k := Nat.eq_of_beq_eq_true h1
      simp [number, partVals_number ha h3, ha _ _ h2, hi]
    · cases h

theorem put_fold (c : List Value) : ∀ (off s : Nat) (A : Array Value), off + s + c.length ≤ A.size → (c.zipIdx s).foldl (fun cs (x : Value × Nat) => cs.setIfInBounds (off + x.2) x.1) A = (A.toList.take (off + s) ++ c ++ A.toList.drop (off + s + c.length)).toArray := by
  induction c with
  | nil => intro off s A _; simp
  | cons x c ih =>
    intro off s A h
    have hs : off + s < A.size := by simp at h; omega
    rw [List.zipIdx_cons, List.foldl_cons, ih off (s + 1) _ (by simp at h ⊢; omega)]
    apply congrArg
    simp only [Array.toList_setIfInBounds]
    apply List.ext_getElem?
    intro j
    have hlen : (A.toList.set (off + s) x).length = A.toList.length := by simp
    by_cases h1 : j < off + s
    · rw [List.append_assoc, List.getElem?_append_left (by simp; omega), List.getElem?_take, if_pos (by omega), List.getElem?_set, if_neg (by omega), List.append_assoc, List.getElem?_append_left (by simp; omega), List.getElem?_take, if_pos h1]
    · by_cases h2 : j = off + s
      · subst h2
        rw [List.append_assoc, List.getElem?_append_left (by simp; omega), List.getElem?_take, if_pos (by omega), List.getElem?_set, if_pos rfl, if_pos (by simpa using hs), List.append_assoc, List.getElem?_append_right (by simp; omega)]
        have : off + s - (A.toList.take (off + s)).length = 0 := by simp; omega
        rw [this]
        simp
      · by_cases h3 : j < off + s + (c.length + 1)
        · rw [List.append_assoc, List.getElem?_append_right (by simp; omega), List.getElem?_append_left (by simp; omega), List.append_assoc, List.getElem?_append_right (by simp; omega), List.getElem?_append_left (by simp; omega)]
          have e1 : j - ((A.toList.set (off + s) x).take (off + (s + 1))).length = j - (off + s + 1) := by simp; omega
          have e2 : j - (A.toList.take (off + s)).length = (j - (off + s + 1)) + 1 := by simp; omega
          rw [e1, e2]
          simp
        · simp only [List.length_cons] at h h3 ⊢
          rw [List.append_assoc, List.getElem?_append_right (by simp; omega), List.getElem?_append_right (by simp; omega), List.append_assoc, List.getElem?_append_right (by simp; omega), List.getElem?_append_right (by simp; omega)]
          simp only [List.length_take, List.getElem?_drop, List.length_cons, hlen]
          rw [List.getElem?_set, if_neg (by simp; omega)]
          congr 1
          simp
          omega

theorem fill_number {S : Nat → Prop} {xs : List α} : ∀ {css : List (List Value)} {xs : List α}, All2 (Rep.rd S w) css xs → ∀ (k : Nat) (A : Array Value), (k + css.length) * Rep.sz α ≤ A.size →
    Instr.fill (fun i => some (i * Rep.sz α, Rep.sz α)) A (number k (css.map (pack (Rep.agg α)))) = some (A.toList.take (k * Rep.sz α) ++ css.flatten ++ A.toList.drop ((k + css.length) * Rep.sz α)).toArray
  | [], [], _, k, A, h => by simp [number, Instr.fill]
  | c :: css, x :: xs, hh, k, A, h => by
    have hpk := pack_cells hh.1
    have hcl := Rep.len hh.1
    have hpk' : (pack (Rep.agg α) c).cells = c.toArray := Array.toList_inj.1 (by simpa using hpk)
    have hm : (k + 1 + css.length) * Rep.sz α ≤ A.size := by rw [List.length_cons] at h; rw [show k + 1 + css.length = k + (css.length + 1) from by omega]; exact h
    have hm1 : (k + 1) * Rep.sz α ≤ (k + 1 + css.length) * Rep.sz α := Nat.mul_le_mul_right _ (by omega)
    have e1 : (k + 1) * Rep.sz α = k * Rep.sz α + Rep.sz α := Nat.succ_mul _ _
    have hfold := put_fold c (k * Rep.sz α) 0 A (by omega)
    simp only [Nat.add_zero] at hfold
    have ih := fill_number (xs := xs) hh.2 (k + 1) ((A.toList.take (k * Rep.sz α) ++ c ++ A.toList.drop (k * Rep.sz α + c.length)).toArray) (by simp; omega)
    simp only [List.map_cons, number, Instr.fill, hpk', List.size_toArray, hcl, ne_eq, not_true_eq_false, false_or, decide_false, Bool.false_or]
    rw [if_neg (by simp; omega)]
    have ez : c.toArray.zipIdx.toList = c.zipIdx := by simp
    rw [← Array.foldl_toList, ez, hfold]
    rw [ih]
    apply congrArg
    apply congrArg
    simp only
    rw [List.take_append_of_le_length (by simp; omega), List.take_of_length_le (by simp; omega), List.drop_append, List.drop_eq_nil_of_le (by simp; omega), List.nil_append, List.drop_drop]
    simp only [List.flatten_cons, List.append_assoc, List.length_cons]
    congr 4
    simp
    have : (k + (css.length + 1)) * Rep.sz α = (k + 1 + css.length) * Rep.sz α := by rw [show k + (css.length + 1) = k + 1 + css.length from by omega]
    omega
  | [], _ :: _, h, _, _, _ => h.elim
  | _ :: _, [], h, _, _, _ => h.elim
end
end Dp
end Go.Proofs.Ytdfkfohpgakihaa
