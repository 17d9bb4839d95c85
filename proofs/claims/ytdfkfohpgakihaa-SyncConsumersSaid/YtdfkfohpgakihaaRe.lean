/- Each operation does what opQ says: those on numbers, pointers, cells. Nothing here names a program. -/
import Derived.Test.YtdfkfohpgakihaaRd
set_option linter.unusedVariables false
set_option linter.unusedSimpArgs false
set_option linter.unusedSectionVars false
namespace Go.Proofs.Ytdfkfohpgakihaa
open Go Go.RowKit Dp

namespace Rx

section
variable {D : Nat → Type} [∀ n, Rep (D n)]

def zcells (T : Tab D) : TyD → List Value
  | .one (.int k) => [.int k 0]
  | .one .bool => [.bool false]
  | .one .str => [.string ByteArray.empty]
  | .one (.sl _) => [.slice none 0 0]
  | .st n => zeroC (T.lv n)
  | .ptr => [.pointer none]
  | .fn => [.nilFunc]
def TyF (P : Program) (T : Tab D) (t : TypeId) (d : TyD) : Prop :=
  TyR P t d.agg (zcells T d) ∧ match d with
    | .one (.int k) => P.underlying t = some (.int k)
    | .one .bool => P.underlying t = some .bool
    | _ => True
structure EqT (P : Program) (t : TypeId) (n : Nat) : Prop where
  str : ∃ fs, P.underlying t = some (.struct fs) ∧ IntFields P n 0 fs.toList
  held : P.stoodInHeld t = false
  guard : P.eqGuardType P.depth t = false
/-- elements that hold slices of the call's own -/
structure KidT (P : Program) (D : Nat → Type) [∀ n, Rep (D n)] (n tc m : Nat) : Prop where
  one : OneLevel (D n)
  flat : Flat (D m)
  ty : TyOk P tc (D m)
  zc : zcNil (Rep.zc (D n)) = true
structure POk (P : Program) (T : Tab D) : Prop where
  ty : ∀ t d, lookN T.ty t = some d → TyF P T t d
  els : ∀ t e n, lookN T.els t = some (e, n) → P.underlying t = some (.slice e) ∧ TyOk P e (D n)
  fld : ∀ t l, lookN T.fld t = some l → StOk P t l ∧ ∀ i off sz, l[i]? = some (off, sz) → FldAt P t i off
  eqs : ∀ t n, lookN T.eqs t = some n → EqT P t n
  kd : ∀ n tc m, lookN T.kd n = some (tc, m) → KidT P D n tc m

variable {P : Program} {T : Tab D} {Qx : Exit → Act → World → Prop} {U : Nat → Prop} {nid : Nat} {γ : Gh D} {w : World} {sl : List (Nat × AV D)} {L : List (Nat × Value)} {ob : List (Nat × Option (AO D))}
  {d : Option Tmp} {ty : TypeId} {pos : String} {af : Array Edge} {gd : Option (Nat × Bool)} {e : Eff D} {l : List Nat}

theorem zeroC_len : ∀ ls : List Lf, (zeroC ls).length = ls.length
  | [] => rfl
  | l :: r => by simp [zeroC, zeroC_len r]
theorem zcells_len (T : Tab D) : ∀ ty : TyD, (zcells T ty).length = ty.n T
  | .one (.int k) => rfl
  | .one .bool => rfl
  | .one .str => rfl
  | .one (.sl _) => rfl
  | .st n => zeroC_len _
  | .ptr => rfl
  | .fn => rfl
theorem zcells_one (T : Tab D) : ∀ ty : TyD, ty.agg = false → (zcells T ty).length = 1
  | .one (.int k), _ => rfl
  | .one .bool, _ => rfl
  | .one .str, _ => rfl
  | .one (.sl _), _ => rfl
  | .st n, h => by cases h
  | .ptr, _ => rfl
  | .fn, _ => rfl

/-! parts of elements -/
theorem ofHL_kinds : ∀ (ts : List Lf) (h : HL D ts), (ofHL ts h).map DV.l = ts
  | [], _ => rfl
  | [l], x => rfl
  | l :: m :: r, x => by simp [ofHL, ofHL_kinds (m :: r) x.2]
theorem toHL_some : ∀ {ts : List Lf} {ds : List (DV D)}, ds.map DV.l = ts → ∃ h, toHL ts ds = some h
  | [], [], _ => ⟨(), rfl⟩
  | [], _ :: _, h => by simp at h
  | [l], [⟨l', d⟩], h => by
    simp at h
    subst h
    exact ⟨d, by simp [toHL]⟩
  | [l], [], h => by simp at h
  | [l], _ :: _ :: _, h => by simp at h
  | l :: m :: r, [], h => by simp at h
  | l :: m :: r, ⟨l', d⟩ :: ds, h => by
    simp only [List.map_cons, List.cons.injEq] at h
    obtain ⟨rfl, h⟩ := h
    obtain ⟨x, hx⟩ := toHL_some h
    exact ⟨(d, x), by simp only [toHL, hx, dif_pos]⟩
def leafG (T : Tab D) (n off m : Nat) (x : D n) : List (D m) := match (T.out n x)[off]? with
  | some ⟨.sl m', d⟩ => if h : m' = m then h ▸ d else []
  | _ => []
def leafS (T : Tab D) (n off m : Nat) (x : D n) (l : List (D m)) : D n := match T.mk? n ((T.out n x).set off ⟨.sl m, l⟩) with
  | some y => y
  | none => x
theorem leafG_eq {n off m : Nat} {x : D n} {d : List (D m)} (h : (T.out n x)[off]? = some ⟨.sl m, d⟩) : leafG T n off m x = d := by
  unfold leafG
  rw [h]
  simp
theorem leafG_at {n off m : Nat} (x : D n) (h : (T.lv n)[off]? = some (.sl m)) : (T.out n x)[off]? = some ⟨.sl m, leafG T n off m x⟩ := by
  have hk : ((T.out n x).map DV.l)[off]? = some (.sl m) := by rw [Tab.out, ofHL_kinds]; exact h
  rw [List.getElem?_map] at hk
  cases hd : (T.out n x)[off]? with
  | none => rw [hd] at hk; cases hk
  | some y =>
    obtain ⟨l, d⟩ := y
    rw [hd] at hk
    simp only [Option.map_some, Option.some.injEq] at hk
    subst hk
    rw [leafG_eq hd]
theorem leafS_out (hR : RepOk T) {n off m : Nat} {x : D n} {l : List (D m)} (h : (T.lv n)[off]? = some (.sl m)) : T.out n (leafS T n off m x l) = (T.out n x).set off ⟨.sl m, l⟩ := by
  have hk : ((T.out n x).set off ⟨.sl m, l⟩).map DV.l = T.lv n := by
    rw [List.map_set, Tab.out, ofHL_kinds]
    apply List.ext_getElem?
    intro i
    rw [List.getElem?_set]
    by_cases hi : off = i
    · subst hi
      rw [if_pos rfl, h]
      simp [(List.getElem?_eq_some_iff.1 h).1]
    · rw [if_neg hi]
  obtain ⟨y, hy⟩ := toHL_some hk
  have hm : T.mk? n ((T.out n x).set off ⟨.sl m, l⟩) = some (T.mkH n y) := by unfold Tab.mk?; rw [hy]
  unfold leafS
  rw [hm]
  exact hR.mk? hm
theorem LRd.at {S : Nat → Prop} {w : World} : ∀ {vs : List Value} {ds : List (DV D)}, LRd S w vs ds → ∀ {i : Nat} {d : DV D}, ds[i]? = some d → ∃ u, vs[i]? = some u ∧ LfRd S w u d
  | [], [], _, i, d, h => by simp at h
  | v :: vs, e :: ds, hl, 0, d, h => by cases h; exact ⟨v, rfl, hl.1⟩
  | v :: vs, e :: ds, hl, i + 1, d, h => by
    obtain ⟨u, h1, h2⟩ := LRd.at hl.2 (i := i) (by simpa using h)
    exact ⟨u, by simpa using h1, h2⟩
  | [], _ :: _, hl, _, _, _ => hl.elim
  | _ :: _, [], hl, _, _, _ => hl.elim
theorem LRd.setAt {S : Nat → Prop} {w : World} {u : Value} {d : DV D} (hu : LfRd S w u d) : ∀ {vs : List Value} {ds : List (DV D)}, LRd S w vs ds → ∀ (i : Nat), LRd S w (vs.set i u) (ds.set i d)
  | [], [], _, _ => trivial
  | v :: vs, e :: ds, hl, 0 => ⟨hu, hl.2⟩
  | v :: vs, e :: ds, hl, i + 1 => ⟨hl.1, LRd.setAt hu hl.2 i⟩
  | [], _ :: _, hl, _ => hl.elim
  | _ :: _, [], hl, _ => hl.elim
theorem leaf_prt (hR : RepOk T) {n off m : Nat} (h : (T.lv n)[off]? = some (.sl m)) : Prt off (leafG T n off m) (leafS T n off m) := by
  refine ⟨?_, ?_, ?_⟩
  · intro S w cs x hr
    rw [hR.rd] at hr
    obtain ⟨u, h1, h2⟩ := LRd.at hr (leafG_at x h)
    have hlt := (List.getElem?_eq_some_iff.1 h1).1
    refine ⟨cs.take off, [u], cs.drop (off + 1), ?_, by simp; omega, Rv.rd1 h2 rfl⟩
    have := set_splice (x := u) hlt
    rw [this]
    apply List.ext_getElem?
    intro i
    rw [List.getElem?_set]
    by_cases hi : off = i
    · subst hi; rw [if_pos rfl, if_pos hlt, h1]
    · rw [if_neg hi]
  · intro S w cs x c' y hr hy
    rw [hR.rd] at hr ⊢
    rw [leafS_out hR h]
    have hl := Rep.len hy
    have hl1 : c'.length = 1 := hl
    match c', hl1 with
    | [u], _ =>
      have hoff : off < cs.length := by
        obtain ⟨u', h1, _⟩ := LRd.at hr (leafG_at x h)
        exact (List.getElem?_eq_some_iff.1 h1).1
      show LRd _ _ (cs.take off ++ [u] ++ cs.drop (off + 1)) _
      rw [set_splice hoff]
      exact LRd.setAt (d := ⟨.sl m, y⟩) ⟨[u], rfl, hy⟩ hr off
  · intro x a b
    unfold leafS
    have e := leafS_out hR (x := x) (l := a) h
    unfold leafS at e
    rw [e, List.set_set]
    have hk := leafS_out hR (x := x) (l := b) h
    cases hm : T.mk? n ((T.out n x).set off ⟨.sl m, b⟩) with
    | some y => rfl
    | none =>
      exfalso
      unfold Tab.mk? at hm
      split at hm
      · cases hm
      · rename_i hn
        obtain ⟨z, hz⟩ := toHL_some (ts := T.lv n) (ds := (T.out n x).set off ⟨.sl m, b⟩) (by
          rw [← hk, Tab.out, ofHL_kinds])
        rw [hz] at hn
        cases hn

/-! operands -/
theorem named0 (d : DV D) : named U γ 0 d := .inl rfl
theorem roK_nil : roK [] := fun x h => by cases h
theorem constV_ok {v : Value} {a : AV D} (h : constV v = some a) : VRV U γ w a v := by
  unfold constV at h
  split at h <;> first
    | (cases h; exact ⟨rfl, named0 _, roK_nil⟩)
    | (cases h; rfl)
    | cases h
theorem evO_ok (hs : SR U γ w sl L) {x : Operand} {a : AV D} (h : evO sl x = some a) : ∃ v, ev L x = some v ∧ VRV U γ w a v := by
  cases x with
  | tmp t => exact hs.look h
  | const v => exact ⟨v, rfl, constV_ok h⟩
  | func f =>
    cases h
    exact ⟨_, rfl, [], rfl, trivial⟩
  | global g => cases h
theorem evOs_ok (hs : SR U γ w sl L) : ∀ {xs : List Operand} {as : List (AV D)}, evOs sl xs = some as → ∃ vs, evs L xs = some vs ∧ VRVs U γ w as vs
  | [], as, h => by
    simp only [evOs, Option.some.injEq] at h
    subst h
    exact ⟨[], rfl, trivial⟩
  | x :: r, as, h => by
    unfold evOs at h
    split at h
    · rename_i a b ha hb
      cases h
      obtain ⟨v, h1, h2⟩ := evO_ok hs ha
      obtain ⟨vs, h3, h4⟩ := evOs_ok hs hb
      exact ⟨v :: vs, by simp [evs, h1, h3], h2, h4⟩
    · cases h
theorem evOs_cons {xs : List Operand} {a : AV D} {as : List (AV D)} {x : Operand} (h : evOs sl (x :: xs) = some (a :: as)) : evO sl x = some a ∧ evOs sl xs = some as := by
  unfold evOs at h
  split at h
  · rename_i a' b ha hb
    cases h
    exact ⟨ha, hb⟩
  · cases h
theorem evOs_one {a : AV D} {x : Operand} (h : evOs sl [x] = some [a]) : evO sl x = some a := (evOs_cons h).1
theorem evOs_two {a b : AV D} {x y : Operand} (h : evOs sl [x, y] = some [a, b]) : evO sl x = some a ∧ evO sl y = some b := ⟨(evOs_cons h).1, evOs_one (evOs_cons h).2⟩
theorem evOs_three {a b c : AV D} {x y z : Operand} (h : evOs sl [x, y, z] = some [a, b, c]) : evO sl x = some a ∧ evO sl y = some b ∧ evO sl z = some c := ⟨(evOs_cons h).1, evOs_two (evOs_cons h).2⟩
theorem evOs_len : ∀ {xs : List Operand} {as : List (AV D)}, evOs sl xs = some as → xs.length = as.length
  | [], as, h => by simp only [evOs, Option.some.injEq] at h; subst h; rfl
  | x :: r, as, h => by
    unfold evOs at h
    split at h
    · rename_i a b ha hb
      cases h
      simp [evOs_len hb]
    · cases h

/-! what a step leaves where nothing is made -/
theorem post0 (hx : Cx U nid γ w sl L ob) {a : AV D} {v : Value} (h : VRV U γ w a v) : Post U nid γ w ob ⟨a, [], []⟩ γ v w := by
  have k : Keep U (addU U nid) γ w γ w := ⟨fun i h => .inl h, fun _ _ => rfl, fun _ _ => rfl, fun _ _ _ => ⟨rfl, rfl⟩⟩
  have := mkPost (e := ⟨a, [], []⟩) (v := v) (M := []) (N := []) (ps := []) (g' := γ.g) (v' := γ.v) hx.ob (Evo.refl [] [] γ.o w) (by simp) (by simp) (by simp) hx.big (fun _ _ => rfl) (fun _ _ => rfl) (h.keep k) (fun i x hx => by simp [lookN] at hx)
  exact this
/-- names g, g + 1, .. for data -/
def nms (f : Nat → DV D) (g : Nat) (ds : List (DV D)) : Nat → DV D := fun i => if g ≤ i then (match ds[i - g]? with | some d => d | none => f i) else f i
theorem nms_at {f : Nat → DV D} {g i : Nat} {ds : List (DV D)} {d : DV D} (h : ds[i]? = some d) : nms f g ds (g + i) = d := by
  unfold nms
  rw [if_pos (by omega), Nat.add_sub_cancel_left, h]
theorem nms_old {f : Nat → DV D} {g i : Nat} {ds : List (DV D)} (h : i < g ∨ g + ds.length ≤ i) : nms f g ds i = f i := by
  unfold nms
  split
  · rename_i hg
    rw [List.getElem?_eq_none (by omega)]
  · rfl
theorem Cx.old (hx : Cx U nid γ w sl L ob) {i : Nat} (h : U i) : i < nid ∨ nid + 64 ≤ i := by
  rcases Nat.lt_or_ge i nid with h1 | h1
  · exact .inl h1
  · rcases Nat.lt_or_ge i (nid + 64) with h2 | h2
    · exact (hx.fresh i h1 h2 h).elim
    · exact .inr h2
theorem nms_keep (hx : Cx U nid γ w sl L ob) {ds : List (DV D)} (hl : ds.length ≤ 48) {i : Nat} (h : U i) : nms γ.v (nid + 16) ds i = γ.v i := by
  rcases hx.old h with h1 | h1
  · exact nms_old (.inl (by omega))
  · exact nms_old (.inr (by omega))
/-- .. but names are given -/
theorem post1 (hx : Cx U nid γ w sl L ob) (ds : List (DV D)) (hl : ds.length ≤ 48) {a : AV D} {v : Value} (h : VRV (addU U nid) ⟨γ.o, γ.g, nms γ.v (nid + 16) ds⟩ w a v) : Post U nid γ w ob ⟨a, [], []⟩ ⟨γ.o, γ.g, nms γ.v (nid + 16) ds⟩ v w := by
  have := mkPost (e := ⟨a, [], []⟩) (v := v) (M := []) (N := []) (ps := []) (g' := γ.g) (v' := nms γ.v (nid + 16) ds) hx.ob (Evo.refl [] [] γ.o w) (by simp) (by simp) (by simp) hx.big (fun _ _ => rfl) (fun i hi => nms_keep hx hl hi) h (fun i x hx => by simp [lookN] at hx)
  exact this
theorem keep1 (hx : Cx U nid γ w sl L ob) (ds : List (DV D)) (hl : ds.length ≤ 48) : Keep U (addU U nid) γ w ⟨γ.o, γ.g, nms γ.v (nid + 16) ds⟩ w :=
  ⟨fun i h => .inl h, fun _ _ => rfl, fun i hi => nms_keep hx hl hi, fun _ _ _ => ⟨rfl, rfl⟩⟩
theorem named1 {γ' : Gh D} {ds : List (DV D)} {i : Nat} {x : DV D} (hv : γ'.v = nms γ.v (nid + 16) ds) (hi : i < 48) (h : ds[i]? = some x) : named (addU U nid) γ' (nid + 16 + i) x :=
  .inr ⟨.inr ⟨by omega, by omega⟩, by rw [hv]; exact nms_at h⟩
/-- one number or bool as the result -/
theorem postL (hx : Cx U nid γ w sl L ob) {lf : Lf} {x : lf.den D} {v : Value} (hf : LfRd (In γ.o []) w v ⟨lf, x⟩) : Post U nid γ w ob ⟨.c (.one (.v lf x [] (nid + 16))), [], []⟩ ⟨γ.o, γ.g, nms γ.v (nid + 16) [⟨lf, x⟩]⟩ v w :=
  post1 hx [⟨lf, x⟩] (by simp) ⟨hf, named1 (γ := γ) (i := 0) rfl (by omega) rfl, roK_nil⟩

/-! operations that look at values alone -/
theorem OW.mono {o : Oper} {R R' : Value → World → Prop} (h : OW P Qx L o w R) (hr : ∀ v w', R v w' → R' v w') : OW P Qx L o w R' := fun a K ha hK => h a K ha fun v w' r => hK v w' (hr v w' r)
theorem OWpost {o : Oper} {v : Value} {γ' : Gh D} (h : OW P Qx L o w (fun v' w' => v' = v ∧ w' = w)) (hp : Post U nid γ w ob e γ' v w) : OW P Qx L o w (fun v' w' => ∃ γ', Post U nid γ w ob e γ' v' w') :=
  OW.mono h fun v' w' ⟨h1, h2⟩ => by subst h1; subst h2; exact ⟨γ', hp⟩

theorem OW.shr {k k' : IntKind} {x y : Operand} {t t2 : TypeId} {p q c : Int} (h1 : ev L x = some (.int k p)) (h2 : ev L y = some (.int k' q)) (hc : shrO k.bits p q = some c) :
    OW P Qx L ⟨d, .binOp .shr t x y t2, ty, pos, af, gd⟩ w (fun v w' => v = .int k c ∧ w' = w) := by
  refine OW.run fun a ha => ⟨_, w, ?_, rfl, rfl⟩
  unfold shrO at hc
  split at hc
  · cases hc
  · rename_i hq
    cases hc
    simp [execOp, ha _ _ h1, ha _ _ h2, eqGuard, binOp, Op.shift, hq]
theorem OW.binB {op : BinOp} {x y : Operand} {t t2 : TypeId} {p q : Bool} {v : Bool} (ht : P.underlying t = some .bool) (hv : (op = .eql ∧ v = (p == q)) ∨ (op = .neq ∧ v = !(p == q))) (h1 : ev L x = some (.bool p)) (h2 : ev L y = some (.bool q)) :
    OW P Qx L ⟨d, .binOp op t x y t2, ty, pos, af, gd⟩ w (fun v' w' => v' = .bool v ∧ w' = w) := by
  have hE := EqOk.bool ht
  have := hE.run (S := fun _ => True) (S' := fun _ => True) (w := w) (v1 := .bool p) (v2 := .bool q) (x := p) (y := q) x y ⟨[.bool p], rfl, rfl⟩ ⟨[.bool q], rfl, rfl⟩
  refine OW.run fun a ha => ⟨_, w, ?_, rfl, rfl⟩
  rcases hv with ⟨rfl, rfl⟩ | ⟨rfl, rfl⟩
  · simp [execOp, ha _ _ h1, ha _ _ h2, this.1.1, this.1.2]
    cases p <;> cases q <;> rfl
  · simp [execOp, ha _ _ h1, ha _ _ h2, this.2.1, this.2.2]
    cases p <;> cases q <;> rfl
theorem OW.binRun {op : BinOp} {x y : Operand} {a b v : Value} {t t2 : TypeId} (h1 : ev L x = some a) (h2 : ev L y = some b) (hg : (eqGuard op t x y a b).run P w = .ok () w) (hr : (binOp op t a b).run P w = .ok v w) :
    OW P Qx L ⟨d, .binOp op t x y t2, ty, pos, af, gd⟩ w (fun v' w' => v' = v ∧ w' = w) :=
  OW.run fun c hc => ⟨_, w, by simp [execOp, hc _ _ h1, hc _ _ h2, hg, hr], rfl, rfl⟩
theorem beq_ok (hP : POk P T) (hx : Cx U nid γ w sl L ob) {op : BinOp} {x y : Operand} {p q : Bool} {K K' : List Nat} {g g' : Nat} {t t2 : TypeId} (ht : lookN T.ty t = some (.one .bool)) (ha : evO sl x = some (.c (.one (.v .bool p K g)))) (hb : evO sl y = some (.c (.one (.v .bool q K' g')))) (h : Q.R ob (beqQ op (nid + 16) p q) l e) :
    OW P Qx L ⟨d, .binOp op t x y t2, ty, pos, af, gd⟩ w (fun v w' => ∃ γ', Post U nid γ w ob e γ' v w') := by
  obtain ⟨u, h1, h2⟩ := evO_ok hx.sr ha
  obtain ⟨v, h3, h4⟩ := evO_ok hx.sr hb
  have e1 : u = .bool p := h2.1
  have e2 : v = .bool q := h4.1
  subst e1 e2
  have hu : P.underlying t = some .bool := (hP.ty _ _ ht).2
  unfold beqQ at h
  split at h
  · obtain ⟨_, rfl⟩ := h
    exact OWpost (OW.binB (v := p == q) hu (.inl ⟨rfl, rfl⟩) h1 h3) (postL hx rfl)
  · obtain ⟨_, rfl⟩ := h
    exact OWpost (OW.binB (v := !(p == q)) hu (.inr ⟨rfl, rfl⟩) h1 h3) (postL hx rfl)
  · exact h.elim
theorem binK_ok (hx : Cx U nid γ w sl L ob) {op : BinOp} {x y : Operand} {k k' : IntKind} {p q : Int} {t t2 : TypeId} (h1 : ev L x = some (.int k p)) (h3 : ev L y = some (.int k' q)) (h : Q.R ob (binK op (nid + 16) k k' p q) l e) :
    OW P Qx L ⟨d, .binOp op t x y t2, ty, pos, af, gd⟩ w (fun v w' => ∃ γ', Post U nid γ w ob e γ' v w') := by
  unfold binK at h
  split at h
  · obtain ⟨c, hc, _, rfl⟩ := h
    exact OWpost (OW.shr h1 h3 hc) (postL hx rfl)
  · split at h
    case isFalse => exact h.elim
    rename_i hk
    subst hk
    split at h
    · obtain ⟨_, rfl⟩ := h
      exact OWpost (OW.binRun (v := .int k (k.wrap (p + q))) h1 h3 (by simp [eqGuard]) (by simp [binOp, Op.intArith])) (postL hx rfl)
    · obtain ⟨_, rfl⟩ := h
      exact OWpost (OW.binRun (v := .int k (k.wrap (p - q))) h1 h3 (by simp [eqGuard]) (by simp [binOp, Op.intArith])) (postL hx rfl)
    · obtain ⟨_, rfl⟩ := h
      exact OWpost (OW.binRun (v := .int k (k.wrap (p * q))) h1 h3 (by simp [eqGuard]) (by simp [binOp, Op.intArith])) (postL hx rfl)
    · obtain ⟨_, rfl⟩ := h
      exact OWpost (OW.binRun (v := .bool (p == q)) h1 h3 (by simp [eqGuard]) (by simp [binOp, Op.intCmp])) (postL hx rfl)
    · obtain ⟨_, rfl⟩ := h
      exact OWpost (OW.binRun (v := .bool (p != q)) h1 h3 (by simp [eqGuard]) (by simp [binOp, Op.intCmp])) (postL hx rfl)
    · obtain ⟨_, rfl⟩ := h
      exact OWpost (OW.binRun (v := .bool (decide (p < q))) h1 h3 (by simp [eqGuard]) (by simp [binOp, Op.intCmp])) (postL hx rfl)
    · obtain ⟨_, rfl⟩ := h
      exact OWpost (OW.binRun (v := .bool (decide (p ≤ q))) h1 h3 (by simp [eqGuard]) (by simp [binOp, Op.intCmp])) (postL hx rfl)
    · obtain ⟨_, rfl⟩ := h
      exact OWpost (OW.binRun (v := .bool (decide (p > q))) h1 h3 (by simp [eqGuard]) (by simp [binOp, Op.intCmp])) (postL hx rfl)
    · obtain ⟨_, rfl⟩ := h
      exact OWpost (OW.binRun (v := .bool (decide (p ≥ q))) h1 h3 (by simp [eqGuard]) (by simp [binOp, Op.intCmp])) (postL hx rfl)
    · exact h.elim
theorem bin_ok (hx : Cx U nid γ w sl L ob) {op : BinOp} {x y : Operand} {a b : AV D} {t t2 : TypeId} (ha : evO sl x = some a) (hb : evO sl y = some b) (h : Q.R ob (binQ op (nid + 16) a b) l e) :
    OW P Qx L ⟨d, .binOp op t x y t2, ty, pos, af, gd⟩ w (fun v w' => ∃ γ', Post U nid γ w ob e γ' v w') := by
  unfold binQ at h
  split at h
  · rename_i k p K g k' q K' g'
    obtain ⟨u, h1, h2⟩ := evO_ok hx.sr ha
    obtain ⟨v, h3, h4⟩ := evO_ok hx.sr hb
    have e1 : u = .int k p := h2.1
    have e2 : v = .int k' q := h4.1
    subst e1 e2
    split at h
    · split at h
      case h_4 =>
        obtain ⟨c, hc, _, rfl⟩ := h
        exact OWpost (OW.quo h1 h3 hc) (postL hx rfl)
      case h_5 =>
        obtain ⟨c, hc, _, rfl⟩ := h
        exact OWpost (OW.rem h1 h3 hc) (postL hx rfl)
      case h_12 =>
        obtain ⟨c, hc, _, rfl⟩ := h
        exact OWpost (OW.shr h1 h3 hc) (postL hx rfl)
      all_goals first
        | exact h.elim
        | (obtain ⟨_, rfl⟩ := h
           refine OWpost (OW.pv (v := ?_) ?_) (postL hx ?_)
           rotate_left
           · simp only [Dp.pv, h1, h3, bin]
             rfl
           · rfl)
    · exact binK_ok hx h1 h3 h
  · exact h.elim

theorem intsA_ok : ∀ {p : List (A1 D)} {xs : List Int} {us : List Value}, intsA p = some xs → VR1s U γ w p us → us = xs.map (Value.int .i64)
  | [], xs, us, h, hv => by
    cases h
    cases us with
    | nil => rfl
    | cons _ _ => exact hv.elim
  | a :: p, xs, us, h, hv => by
    cases us with
    | nil => exact hv.elim
    | cons u us =>
      unfold intsA at h
      split at h
      · rename_i heq
        cases heq
      · rename_i x K g r heq
        cases heq
        split at h
        case h_2 => cases h
        rename_i l hl
        cases h
        have e : u = .int .i64 x := hv.1.1
        rw [e, intsA_ok hl hv.2]
        rfl
      · cases h
theorem eqI_ok : ∀ {xs ys : List Int}, xs.length = ys.length → eqI xs ys = decide (xs = ys)
  | [], [], _ => rfl
  | [x], [y], _ => by
    by_cases h : x = y <;> simp [eqI, h]
  | x :: x' :: xs, y :: y' :: ys, hl => by
    have ih := eqI_ok (xs := x' :: xs) (ys := y' :: ys) (by simpa using hl)
    simp only [eqI, ih]
    by_cases h : x = y <;> by_cases h' : x' = y' <;> simp [h, h']
  | [], _ :: _, hl => by simp at hl
  | _ :: _, [], hl => by simp at hl
  | [_], _ :: _ :: _, hl => by simp at hl
  | _ :: _ :: _, [_], hl => by simp at hl
theorem eq_run {t : TypeId} {n : Nat} {xs ys : List Int} (hE : EqT P t n) (hx : xs.length = n) (hy : ys.length = n) (w : World) : (Op.equal t (.agg (xs.map (Value.int .i64)).toArray) (.agg (ys.map (Value.int .i64)).toArray)).run P w = .ok (eqI xs ys) w := by
  obtain ⟨fs, hu, hf⟩ := hE.str
  have hfo : P.fieldsOf t = fs := by simp [Program.fieldsOf, hu]
  subst hx
  have e1 := run_equalIn_struct (P := P) w 9999 t (xs.map (Value.int .i64)).toArray (ys.map (Value.int .i64)).toArray (by rw [hfo]; exact hu) hE.held
  rw [hfo, eqFields_ints (d := 9998) hy.symm hf (Nat.zero_le _)] at e1
  simp only [List.drop_zero] at e1
  show (Op.equalIn (9999 + 1) t _ _).run P w = _
  rw [e1, eqI_ok hy.symm]
theorem eq_ok (hP : POk P T) (hx : Cx U nid γ w sl L ob) {op : BinOp} {x y : Operand} {p q : List (A1 D)} {t t2 : TypeId} {n : Nat} (ht : lookN T.eqs t = some n) (ha : evO sl x = some (.c (.agg p))) (hb : evO sl y = some (.c (.agg q))) (h : Q.R ob (eqQ op (nid + 16) n p q) l e) :
    OW P Qx L ⟨d, .binOp op t x y t2, ty, pos, af, gd⟩ w (fun v w' => ∃ γ', Post U nid γ w ob e γ' v w') := by
  unfold eqQ at h
  split at h
  case h_2 => exact h.elim
  rename_i xs ys hxs hys
  split at h
  case isFalse => exact h.elim
  rename_i hc
  simp only [Bool.and_eq_true] at hc
  obtain ⟨u, h1, us, rfl, h2⟩ := evO_ok hx.sr ha
  obtain ⟨v, h3, vs, rfl, h4⟩ := evO_ok hx.sr hb
  have e1 := intsA_ok hxs h2
  have e2 := intsA_ok hys h4
  subst e1 e2
  have hE := hP.eqs t n ht
  have hrun := eq_run hE (Nat.eq_of_beq_eq_true hc.1) (Nat.eq_of_beq_eq_true hc.2) w
  split at h
  · obtain ⟨_, rfl⟩ := h
    refine OWpost (v := .bool (eqI xs ys)) (OW.run fun a ha => ⟨_, w, ?_, rfl, rfl⟩) (postL hx rfl)
    simp [execOp, ha _ _ h1, ha _ _ h3, eqGuard, hE.guard, binOp, hrun]
  · obtain ⟨_, rfl⟩ := h
    refine OWpost (v := .bool (!(eqI xs ys))) (OW.run fun a ha => ⟨_, w, ?_, rfl, rfl⟩) (postL hx rfl)
    simp [execOp, ha _ _ h1, ha _ _ h3, eqGuard, hE.guard, binOp, hrun]
  · exact h.elim
end
end Rx
end Go.Proofs.Ytdfkfohpgakihaa
