/- Structured arguments: what the row's reading says of the engine's data. Nothing here names a program. -/
import Derived.Test.YtkgfdplcjdidhaaRp
import Derived.ChangeArms
import Derived.DataReads
import Derived.DataElems
set_option linter.unusedVariables false
set_option linter.unusedSimpArgs false
set_option linter.unusedSectionVars false
namespace Go.Proofs.Ytkgfdplcjdidhaa
open Go Go.RowKit Dp

namespace Rx

section
variable {D : Nat → Type} [∀ n, Rep (D n)]
variable {P : Program} {T : Tab D}
/-- a number of its kind -/
def WfD : DV D → Prop
  | ⟨.int k, n⟩ => (Lit.int k n).wf = true
  | ⟨.bool, _⟩ => True
  | ⟨.str, _⟩ => True
  | ⟨.sl _, xs⟩ => xs.length ≤ maxLen
/-- whatever is read at a type are data of these leaves -/
def Opn (D : Nat → Type) [∀ n, Rep (D n)] (P : Program) (t : TypeId) (ls : List Lf) : Prop :=
  P.cellsOf t = ls.length ∧ ∀ {H : Type} (enc : TypeId × Value → H) (w : World) (base : Nat) (spare : Nat → Bool) (held : Bool) (fuel : Nat) (cs : List Value) (x : DataW H × List MemPlace), DataW.trod enc P w base spare held fuel t cs = some x →
    ∃ ds : List (DV D), ds.map DV.l = ls ∧ LRd (fun _ => True) w cs ds ∧ ∀ d ∈ ds, WfD d
theorem opn_int {t : TypeId} {k : IntKind} (ht : P.underlying t = some (.int k)) (hc : P.cellsOf t = 1) : Opn D P t [.int k] := by
  refine ⟨hc, fun enc w base spare held fuel cs x h => ?_⟩
  obtain ⟨n, rfl, _, hw⟩ := DataW.trod_int ht h
  exact ⟨[⟨.int k, n⟩], rfl, ⟨rfl, trivial⟩, fun d hd => by rw [List.mem_singleton.1 hd]; exact hw⟩
theorem opn_bool {t : TypeId} (ht : P.underlying t = some .bool) (hc : P.cellsOf t = 1) : Opn D P t [.bool] := by
  refine ⟨hc, fun enc w base spare held fuel cs x h => ?_⟩
  obtain ⟨b, rfl, _⟩ := DataW.trod_bool ht h
  exact ⟨[⟨.bool, b⟩], rfl, ⟨rfl, trivial⟩, fun d hd => by rw [List.mem_singleton.1 hd]; trivial⟩
theorem opn_str {t : TypeId} (ht : P.underlying t = some .string) (hc : P.cellsOf t = 1) : Opn D P t [.str] := by
  refine ⟨hc, fun enc w base spare held fuel cs x h => ?_⟩
  obtain ⟨s, rfl, _, _⟩ := DataW.trod_string ht h
  exact ⟨[⟨.str, s⟩], rfl, ⟨rfl, trivial⟩, fun d hd => by rw [List.mem_singleton.1 hd]; trivial⟩
theorem opn_slice {t e : TypeId} {n : Nat} (hR : RepOk T) (ht : P.underlying t = some (.slice e)) (hc : P.cellsOf t = 1) (he : Opn D P e (T.lv n)) : Opn D P t [.sl n] := by
  refine ⟨hc, fun enc w base spare held fuel cs x h => ?_⟩
  rcases DataW.trod_slice ht h with ⟨rfl, _⟩ | ⟨a, len, cap, elems, rest, m, _, rfl, _, hb, hl, hm, hlen, hel, _, _⟩
  · exact ⟨[⟨.sl n, ([] : List (D n))⟩], rfl, ⟨rv_nil _ _, trivial⟩, fun d hd => by rw [List.mem_singleton.1 hd]; exact Nat.zero_le _⟩
  have hsz : P.cellsOf e = Rep.sz (D n) := by rw [he.1, hR.sz n]
  have each : ∀ i, i < len → ∃ (x : D n) (c : List Value), Rep.rd (fun _ => True) w c x ∧ ∀ j u, c[j]? = some u → w.cell? (a.add (i * Rep.sz (D n) + j)) = some u := fun i hi => by
    have h1 := hel i hi
    rw [List.getElem?_eq_getElem (by omega), Option.bind_eq_some_iff] at h1
    obtain ⟨c, hc1, hc2⟩ := h1
    obtain ⟨_, hcl, hcc⟩ := World.cells?_some hc1
    obtain ⟨ds, d1, d2, _⟩ := he.2 enc w base spare held m c _ hc2
    obtain ⟨hh, hhe⟩ := toHL_some d1
    refine ⟨T.mkH n hh, c, ?_, fun j u hj => ?_⟩
    · rw [hR.rd]
      show LRd _ w c (ofHL (T.lv n) (T.outH n (T.mkH n hh)))
      rw [hR.mkh, ofHL_to hhe]
      exact d2
    · have hjl := (List.getElem?_eq_some_iff.1 hj).1
      have := hcc j (by omega)
      rw [hj, hsz] at this
      rw [← Addr.add_add]
      exact this
  have all : ∀ k, k ≤ len → ∃ (xs : List (D n)) (css : List (List Value)), xs.length = k ∧ All2 (Rep.rd (fun _ => True) w) css xs ∧ CellsAt w a css.flatten := by
    intro k
    induction k with
    | zero => intro _; exact ⟨[], [], rfl, trivial, fun j u hj => by simp at hj⟩
    | succ k ih =>
      intro hk
      obtain ⟨xs, css, h1, h2, h3⟩ := ih (by omega)
      obtain ⟨x, c, h4, h5⟩ := each k (by omega)
      refine ⟨xs ++ [x], css ++ [c], by simp [h1], h2.append ⟨h4, trivial⟩, fun j u hj => ?_⟩
      have hfl := flatLen h2
      rw [List.flatten_append, show [c].flatten = c by simp] at hj
      by_cases hjl : j < css.flatten.length
      · rw [List.getElem?_append_left hjl] at hj
        exact h3 j u hj
      · rw [List.getElem?_append_right (by omega)] at hj
        have := h5 _ u hj
        rw [hfl, h1] at this hjl
        rwa [show k * Rep.sz (D n) + (j - k * Rep.sz (D n)) = j by omega] at this
  obtain ⟨xs, css, h1, h2, h3⟩ := all len (Nat.le_refl _)
  refine ⟨[⟨.sl n, xs⟩], rfl, ⟨⟨[.slice (some a) len cap], rfl, some a, cap, by rw [h1], by omega, hm, .inr ⟨a, css, rfl, trivial, h2, h3⟩⟩, trivial⟩, fun d hd => by rw [List.mem_singleton.1 hd]; show xs.length ≤ maxLen; omega⟩
/-- fields that lie one behind the other -/
def OpnFs (D : Nat → Type) [∀ n, Rep (D n)] (P : Program) : List Field → Nat → List Lf → Prop
  | [], _, ls => ls = []
  | f :: r, off, ls => ∃ l1 l2, ls = l1 ++ l2 ∧ f.offset = off ∧ Opn D P f.type l1 ∧ OpnFs D P r (off + l1.length) l2
theorem opnFs_run {H : Type} {enc : TypeId × Value → H} {w : World} {base : Nat} {spare : Nat → Bool} {held : Bool} {fuel : Nat} {cs : List Value} : ∀ {fs : List Field} {off : Nat} {ls : List Lf}, OpnFs D P fs off ls → cs.length = off + ls.length →
    (∀ f ∈ fs, ∃ y, DataW.trod enc P w base spare held fuel f.type ((cs.drop f.offset).take (P.cellsOf f.type)) = some y) → ∃ ds : List (DV D), ds.map DV.l = ls ∧ LRd (fun _ => True) w (cs.drop off) ds ∧ ∀ d ∈ ds, WfD d
  | [], off, ls, h, hl, _ => by
    have h : ls = [] := h
    subst h
    refine ⟨[], rfl, ?_, fun d hd => by cases hd⟩
    rw [List.drop_eq_nil_of_le (by simp at hl; omega)]
    trivial
  | f :: r, off, ls, h, hl, hf => by
    obtain ⟨l1, l2, rfl, ho, h1, h2⟩ := h
    obtain ⟨y, hy⟩ := hf f List.mem_cons_self
    rw [ho, h1.1] at hy
    obtain ⟨ds1, a1, a2, a3⟩ := h1.2 enc w base spare held fuel _ _ hy
    obtain ⟨ds2, b1, b2, b3⟩ := opnFs_run h2 (by simp at hl ⊢; omega) (fun g hg => hf g (List.mem_cons_of_mem _ hg))
    refine ⟨ds1 ++ ds2, by rw [List.map_append, a1, b1], ?_, fun d hd => (List.mem_append.1 hd).elim (a3 d) (b3 d)⟩
    have e : cs.drop off = (cs.drop off).take l1.length ++ cs.drop (off + l1.length) := by rw [← List.drop_drop, List.take_append_drop]
    rw [e]
    exact LRd_append.2 ⟨_, _, rfl, a2, b2⟩
theorem opn_struct {t : TypeId} {fs : Array Field} {ls : List Lf} (ht : P.underlying t = some (.struct fs)) (hc : P.cellsOf t = ls.length) (hf : OpnFs D P fs.toList 0 ls) : Opn D P t ls := by
  refine ⟨hc, fun enc w base spare held fuel cs x h => ?_⟩
  obtain ⟨xs, n, _, _, hl, hlen, hfl⟩ := DataW.trod_struct ht h
  have := opnFs_run (enc := enc) (w := w) (base := base) (spare := spare) (held := held) (fuel := n) (cs := cs) hf (by omega) (fun f hm => by
    obtain ⟨i, hi, rfl⟩ := List.mem_iff_getElem.1 hm
    have hi' : i < fs.size := by simpa using hi
    refine ⟨xs[i]'(by omega), ?_⟩
    rw [hfl i _ (by rw [Array.getElem?_eq_getElem hi']; simp)]
    exact List.getElem?_eq_getElem (by omega))
  simpa using this
/-- a cell that is read -/
theorem vr1_rd {ds : List (DV D)} {w : World} {i : Nat} {d : DV D} {v : Value} (hl : ds.length ≤ 800) (hd : ds[i]? = some d) (h : LfRd (fun _ => True) w v d) : VR1 U0 (rowG ds) w (.v d.l d.d (leafK [0] d.l) (1100 + i)) v := by
  obtain ⟨l, d⟩ := d
  refine ⟨?_, rowG_named hl hd, fun x hx => ?_⟩
  · cases l with
    | sl n => exact Rv.mono (fun b _ _ => ⟨List.mem_singleton.2 rfl, rfl⟩) h
    | int k => exact h
    | bool => exact h
    | str => exact h
  · cases l with
    | sl n => rw [List.mem_singleton.1 hx]; omega
    | int k => cases hx
    | bool => cases hx
    | str => cases hx
/-- cells from a place on -/
def cells1 (i : Nat) : List (DV D) → List (A1 D)
  | [] => []
  | d :: r => .v d.l d.d (leafK [0] d.l) (1100 + i) :: cells1 (i + 1) r
theorem vr1s_rd {ds : List (DV D)} {w : World} (hl : ds.length ≤ 800) : ∀ {es : List (DV D)} {us : List Value} {i : Nat}, (∀ k d, es[k]? = some d → ds[i + k]? = some d) → LRd (fun _ => True) w us es → VR1s U0 (rowG ds) w (cells1 i es) us
  | [], [], i, _, _ => trivial
  | [], _ :: _, i, _, h => h.elim
  | _ :: _, [], i, _, h => h.elim
  | d :: es, u :: us, i, hk, h => ⟨vr1_rd hl (hk 0 d rfl) h.1, vr1s_rd hl (fun k e he => by rw [show i + 1 + k = i + (k + 1) by omega]; exact hk (k + 1) e (by simpa using he)) h.2⟩
theorem vr_agg {ds es : List (DV D)} {w : World} {cs : Array Value} {i m : Nat} {l : List (A1 D)} (hl : ds.length ≤ 800) (he : (ds.drop i).take m = es) (h : LRd (fun _ => True) w cs.toList es) (e : cells1 i es = l) : VRC U0 (rowG ds) w (.agg l) (.agg cs) := by
  subst e
  refine ⟨cs.toList, by simp, vr1s_rd hl (fun k d hd => ?_) h⟩
  rw [← he] at hd
  by_cases hkm : k < m
  · rw [List.getElem?_take_of_lt hkm, List.getElem?_drop] at hd
    exact hd
  · rw [List.getElem?_eq_none (by simp; omega)] at hd
    cases hd
theorem vr_rd {ds : List (DV D)} {w : World} {i : Nat} {d : DV D} {v : Value} {a : A1 D} (hl : ds.length ≤ 800) (hd : ds[i]? = some d) (h : LRd (fun _ => True) w [v] [d]) (e : a = .v d.l d.d (leafK [0] d.l) (1100 + i)) : VRC U0 (rowG ds) w (.one a) v := by
  subst e
  exact vr1_rd hl hd h.1
theorem dv_cons {l : Lf} {ls : List Lf} {ds : List (DV D)} (h : ds.map DV.l = l :: ls) : ∃ (d : l.den D) (r : List (DV D)), ds = ⟨l, d⟩ :: r ∧ r.map DV.l = ls := by
  cases ds with
  | nil => simp at h
  | cons d r =>
    obtain ⟨l', d⟩ := d
    simp at h
    obtain ⟨rfl, h⟩ := h
    exact ⟨d, r, rfl, h⟩
theorem dv_nil {ds : List (DV D)} (h : ds.map DV.l = []) : ds = [] := by simpa using h
end
end Rx
end Go.Proofs.Ytkgfdplcjdidhaa
