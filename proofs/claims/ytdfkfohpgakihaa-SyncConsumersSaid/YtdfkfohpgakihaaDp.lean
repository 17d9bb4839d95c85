/- The engine: frames as lists of slots, operations one by one, loops by a partial function. Nothing here names a program. -/
import Derived.WalkKit
import Derived.WalkSpells
import Derived.WalkLawsBesides
import Derived.Laws.AppendOwnNone
set_option linter.unusedVariables false
set_option linter.unusedSimpArgs false
namespace Go.Proofs.Ytdfkfohpgakihaa
open Go Go.RowKit

namespace Dp

/-! frames -/
def look : List (Nat × Value) → Nat → Option Value
  | [], _ => none
  | p :: r, t => cond (Nat.beq p.1 t) (some p.2) (look r t)

structure Fr (n : Nat) (L : List (Nat × Value)) (a : Act) : Prop where
  size : a.tmps.size = n
  defers : a.defers = []
  get : ∀ t v, look L t = some v → a.tmps[t]? = some v

def ev (L : List (Nat × Value)) : Operand → Option Value
  | .tmp t => look L t
  | .const v => some v
  | .func f => some (.func (.func f) #[] #[])
  | .global g => some (.pointer (some ⟨g, 0, none⟩))

theorem Fr.ev {n : Nat} {L : List (Nat × Value)} {a : Act} (h : Fr n L a) {x : Operand} {v : Value} (hx : Dp.ev L x = some v) : a.eval x = v := by
  cases x with
  | tmp t =>
    have hg := h.get t v hx
    simp [Act.eval, hg]
  | const u => simpa [Dp.ev, Act.eval] using hx
  | global g => simpa [Dp.ev, Act.eval] using hx
  | func f => simpa [Dp.ev, Act.eval] using hx

theorem look_cons_eq (d : Nat) (v : Value) (L : List (Nat × Value)) : look ((d, v) :: L) d = some v := by simp [look]
theorem look_cons_ne {d t : Nat} (v : Value) (L : List (Nat × Value)) (h : d ≠ t) : look ((d, v) :: L) t = look L t := by
  have : Nat.beq d t = false := by
    rcases hb : Nat.beq d t with _ | _
    · rfl
    · exact (h (Nat.eq_of_beq_eq_true hb)).elim
  simp [look, this]

theorem Fr.put {n : Nat} {L : List (Nat × Value)} {a : Act} (h : Fr n L a) {d : Nat} (hd : Nat.blt d n = true) (v : Value) : Fr n ((d, v) :: L) (a.put (some d) v) := by
  have hd' : d < n := Nat.le_of_ble_eq_true hd
  refine ⟨by simp [Act.put, h.size], by simp [Act.put, h.defers], fun t u hu => ?_⟩
  by_cases hdt : d = t
  · subst hdt
    rw [look_cons_eq] at hu
    simp [Act.put, h.size, hd'] at hu ⊢
    exact hu
  · rw [look_cons_ne _ _ hdt] at hu
    have := h.get t u hu
    simp [Act.put, Array.getElem?_setIfInBounds, hdt, this]

theorem Fr.put_none {n : Nat} {L : List (Nat × Value)} {a : Act} (h : Fr n L a) (v : Value) : Fr n L (a.put none v) := h

/-- every slot of L' is in L -/
def sub : List (Nat × Value) → List (Nat × Value) → Prop
  | [], _ => True
  | p :: r, L => look L p.1 = some p.2 ∧ sub r L

theorem sub_look {L' L : List (Nat × Value)} (h : sub L' L) {t : Nat} {v : Value} (hv : look L' t = some v) : look L t = some v := by
  induction L' with
  | nil => simp [look] at hv
  | cons p r ih =>
    obtain ⟨d, u⟩ := p
    by_cases hdt : d = t
    · subst hdt
      rw [look_cons_eq] at hv
      cases hv
      exact h.1
    · rw [look_cons_ne _ _ hdt] at hv
      exact ih h.2 hv

theorem Fr.sub {n : Nat} {L L' : List (Nat × Value)} {a : Act} (h : Fr n L a) (hs : Dp.sub L' L) : Fr n L' a :=
  ⟨h.size, h.defers, fun t v hv => h.get t v (sub_look hs hv)⟩

/-! judgements -/
section
variable (P : Program) (n : Nat)

def NK (K : Act → World → Prop) (L : List (Nat × Value)) (w : World) : Prop := ∀ a, Fr n L a → K a w
def CW (c : Code) (Q : Exit → Act → World → Prop) (L : List (Nat × Value)) (w : World) : Prop := ∀ a, Fr n L a → Code.wp P c Q a w
def WL (ops : Array Oper) (Q : Exit → Act → World → Prop) (l : List Oper) (L : List (Nat × Value)) (w : World) : Prop := ∀ a, Fr n L a → wpList P ops Q l a w

/-- one operation, at any frame that holds the slots of L -/
def OW (Q : Exit → Act → World → Prop) (L : List (Nat × Value)) (o : Oper) (w : World) (R : Value → World → Prop) : Prop :=
  ∀ (a : Act) (K : Act → World → Prop), (∀ x v, ev L x = some v → a.eval x = v) → (∀ v w', R v w' → K (a.put o.dst v) w') → o.wp P a w K Q
end

section
variable {P : Program} {n : Nat} {Q : Exit → Act → World → Prop} {L : List (Nat × Value)} {w : World} {ops : Array Oper} {rest : List Oper}

theorem NK.sub {K : Act → World → Prop} {L' : List (Nat × Value)} (hs : Dp.sub L' L) (h : NK n K L' w) : NK n K L w := fun a ha => h a (ha.sub hs)
theorem CW.sub {c : Code} {L' : List (Nat × Value)} (hs : Dp.sub L' L) (h : CW P n c Q L' w) : CW P n c Q L w := fun a ha => h a (ha.sub hs)
theorem WL.sub {L' : List (Nat × Value)} (hs : Dp.sub L' L) (h : WL P n ops Q rest L' w) : WL P n ops Q rest L w := fun a ha => h a (ha.sub hs)

theorem WL.nil (h : NK n (Q .normal) L w) : WL P n ops Q [] L w := fun a ha => wpList_nil (h a ha)

theorem WL.step {d : Nat} {op : Op} {ty : TypeId} {pos : String} {af : Array Edge} {R : Value → World → Prop} (h : OW P Q L ⟨some d, op, ty, pos, af, none⟩ w R) (hd : Nat.blt d n = true)
    (k : ∀ v w', R v w' → WL P n ops Q rest ((d, v) :: L) w') : WL P n ops Q (⟨some d, op, ty, pos, af, none⟩ :: rest) L w := by
  intro a ha
  refine wpList_plain rfl fun K hK => ?_
  exact h a K (fun x v hx => ha.ev hx) fun v w' hr => hK _ _ (k v w' hr _ (ha.put hd v))

theorem WL.step0 {op : Op} {ty : TypeId} {pos : String} {af : Array Edge} {R : Value → World → Prop} (h : OW P Q L ⟨none, op, ty, pos, af, none⟩ w R)
    (k : ∀ v w', R v w' → WL P n ops Q rest L w') : WL P n ops Q (⟨none, op, ty, pos, af, none⟩ :: rest) L w := by
  intro a ha
  refine wpList_plain rfl fun K hK => ?_
  exact h a K (fun x v hx => ha.ev hx) fun v w' hr => hK _ _ (k v w' hr _ ha)

/-- the same where the value is known and the world stays -/
theorem WL.stepE {d : Nat} {op : Op} {ty : TypeId} {pos : String} {af : Array Edge} {v : Value} (h : OW P Q L ⟨some d, op, ty, pos, af, none⟩ w (fun v' w' => v' = v ∧ w' = w)) (hd : Nat.blt d n = true)
    (k : WL P n ops Q rest ((d, v) :: L) w) : WL P n ops Q (⟨some d, op, ty, pos, af, none⟩ :: rest) L w :=
  WL.step h hd (by rintro v' w' ⟨rfl, rfl⟩; exact k)
/-- the same where the world stays -/
theorem WL.stepP {d : Nat} {op : Op} {ty : TypeId} {pos : String} {af : Array Edge} {R : Value → Prop} (h : OW P Q L ⟨some d, op, ty, pos, af, none⟩ w (fun v' w' => w' = w ∧ R v')) (hd : Nat.blt d n = true)
    (k : ∀ v, R v → WL P n ops Q rest ((d, v) :: L) w) : WL P n ops Q (⟨some d, op, ty, pos, af, none⟩ :: rest) L w :=
  WL.step h hd (by rintro v' w' ⟨rfl, hr⟩; exact k v' hr)

/-- a guarded operation whose guard holds -/
theorem WL.stepG' {d : Nat} {op : Op} {ty : TypeId} {pos : String} {af : Array Edge} {R : Value → World → Prop} {j : Nat} {b : Bool} {og : Oper} {dg : Nat}
    (hj : ops[j]? = some og) (hdg : og.dst = some dg) (hg : look L dg = some (.bool b)) (h : OW P Q L ⟨some d, op, ty, pos, af, some (j, b)⟩ w R) (hd : Nat.blt d n = true)
    (k : ∀ v w', R v w' → WL P n ops Q rest ((d, v) :: L) w') : WL P n ops Q (⟨some d, op, ty, pos, af, some (j, b)⟩ :: rest) L w := by
  intro a ha
  refine wpList_step fun K hK => ?_
  have hy : yielded ops a.tmps j = some b := by
    have := ha.get dg _ hg
    simp [yielded, hj, hdg, this]
  rw [if_pos (by simp [Region.wanted, hy])]
  exact h a K (fun x v hx => ha.ev hx) fun v w' hr => hK _ _ (k v w' hr _ (ha.put hd v))

/-- a guarded operation whose guard does not hold -/
theorem WL.skipG' {d : Nat} {op : Op} {ty : TypeId} {pos : String} {af : Array Edge} {j : Nat} {b c : Bool} {og : Oper} {dg : Nat}
    (hj : ops[j]? = some og) (hdg : og.dst = some dg) (hg : look L dg = some (.bool c)) (hbc : b = !c) (hd : Nat.blt d n = true)
    (k : WL P n ops Q rest ((d, undef) :: L) w) : WL P n ops Q (⟨some d, op, ty, pos, af, some (j, b)⟩ :: rest) L w := by
  intro a ha
  refine wpList_step fun K hK => ?_
  have hy : yielded ops a.tmps j = some c := by
    have := ha.get dg _ hg
    simp [yielded, hj, hdg, this]
  subst hbc
  rw [if_neg (by cases c <;> simp [Region.wanted, hy])]
  exact hK _ _ (k _ (ha.put hd _))

theorem WL.stepG {d : Nat} {op : Op} {ty : TypeId} {pos : String} {af : Array Edge} {R : Value → World → Prop} {j : Nat} {b c : Bool} {og : Oper} {dg : Nat}
    (hj : ops[j]? = some og) (hdg : og.dst = some dg) (hg : look L dg = some (.bool c)) (hc : c = b) (h : OW P Q L ⟨some d, op, ty, pos, af, some (j, b)⟩ w R) (hd : Nat.blt d n = true)
    (k : ∀ v w', R v w' → WL P n ops Q rest ((d, v) :: L) w') : WL P n ops Q (⟨some d, op, ty, pos, af, some (j, b)⟩ :: rest) L w := by
  subst hc
  exact WL.stepG' hj hdg hg h hd k
theorem WL.stepGE {d : Nat} {op : Op} {ty : TypeId} {pos : String} {af : Array Edge} {v : Value} {j : Nat} {b c : Bool} {og : Oper} {dg : Nat}
    (hj : ops[j]? = some og) (hdg : og.dst = some dg) (hg : look L dg = some (.bool c)) (hc : c = b) (h : OW P Q L ⟨some d, op, ty, pos, af, some (j, b)⟩ w (fun v' w' => v' = v ∧ w' = w)) (hd : Nat.blt d n = true)
    (k : WL P n ops Q rest ((d, v) :: L) w) : WL P n ops Q (⟨some d, op, ty, pos, af, some (j, b)⟩ :: rest) L w :=
  WL.stepG hj hdg hg hc h hd (by rintro v' w' ⟨rfl, rfl⟩; exact k)
theorem WL.stepGP {d : Nat} {op : Op} {ty : TypeId} {pos : String} {af : Array Edge} {R : Value → Prop} {j : Nat} {b c : Bool} {og : Oper} {dg : Nat}
    (hj : ops[j]? = some og) (hdg : og.dst = some dg) (hg : look L dg = some (.bool c)) (hc : c = b) (h : OW P Q L ⟨some d, op, ty, pos, af, some (j, b)⟩ w (fun v' w' => w' = w ∧ R v')) (hd : Nat.blt d n = true)
    (k : ∀ v, R v → WL P n ops Q rest ((d, v) :: L) w) : WL P n ops Q (⟨some d, op, ty, pos, af, some (j, b)⟩ :: rest) L w :=
  WL.stepG hj hdg hg hc h hd (by rintro v' w' ⟨rfl, hr⟩; exact k v' hr)
theorem WL.skipG {d : Nat} {op : Op} {ty : TypeId} {pos : String} {af : Array Edge} {j : Nat} {b c : Bool} {og : Oper} {dg : Nat}
    (hj : ops[j]? = some og) (hdg : og.dst = some dg) (hg : look L dg = some (.bool c)) (hc : c = !b) (hd : Nat.blt d n = true)
    (k : WL P n ops Q rest ((d, undef) :: L) w) : WL P n ops Q (⟨some d, op, ty, pos, af, some (j, b)⟩ :: rest) L w :=
  WL.skipG' hj hdg hg (by rw [hc]; simp) hd k

/-- a guarded operation behind one that was passed over -/
theorem WL.skipU {d : Nat} {op : Op} {ty : TypeId} {pos : String} {af : Array Edge} {j : Nat} {b : Bool} {og : Oper} {dg : Nat}
    (hj : ops[j]? = some og) (hdg : og.dst = some dg) (hg : look L dg = some undef) (hd : Nat.blt d n = true)
    (k : WL P n ops Q rest ((d, undef) :: L) w) : WL P n ops Q (⟨some d, op, ty, pos, af, some (j, b)⟩ :: rest) L w := by
  intro a ha
  refine wpList_step fun K hK => ?_
  have hy : yielded ops a.tmps j = none := by
    have := ha.get dg _ hg
    simp [yielded, hj, hdg, this, undef]
  rw [if_neg (by simp [Region.wanted, hy])]
  exact hK _ _ (k _ (ha.put hd _))

theorem CW.region {id : Nat} {l : List Oper} (h : WL P n l.toArray Q l L w) : CW P n (.region id l.toArray false) Q L w := fun a ha => wp_region_lit (h a ha)
theorem CW.seq {x y : Code} (h : ∀ K : Act → World → Prop, (∀ L' w', CW P n y Q L' w' → NK n K L' w') → CW P n x (Exit.then K Q) L w) : CW P n (.seq x y) Q L w :=
  fun a ha => wp_seq (h (y.wp P Q) (fun _ _ hc a' ha' => hc a' ha') a ha)
theorem CW.skip (h : NK n (Q .normal) L w) : CW P n .skip Q L w := fun a ha => wp_skip (h a ha)
theorem CW.exit {id : Nat} (h : NK n (Q (.exit id)) L w) : CW P n (.exit id) Q L w := fun a ha => wp_exit (h a ha)
theorem CW.block {id : Nat} {c : Code} (h : CW P n c (Exit.inBlock id Q) L w) : CW P n (.block id c) Q L w := fun a ha => wp_block (h a ha)
theorem CW.cond {t : Nat} {x y : Code} {b : Bool} (hc : look L t = some (.bool b)) (ht : b = true → CW P n x Q L w) (hf : b = false → CW P n y Q L w) : CW P n (.cond (.tmp t) x y) Q L w :=
  fun a ha => wp_cond_split (ha.ev (x := .tmp t) hc) (fun h => ht h a ha) (fun h => hf h a ha)

theorem CW.ret1 {fn : Func} {R : Ending → World → Prop} {t : Nat} {v : Value} (hr : fn.results = #[.tmp t]) (hv : look L t = some v) (hR : R (.returned v) w) (hQ : ∀ a w, bodyPost P fn R .ret a w → Q .ret a w) : CW P n .ret Q L w :=
  fun a ha => wp_ret (hQ _ _ (bodyPost_ret (results_tmp hr _ _ _) ha.defers (by have := ha.ev (x := .tmp t) hv; simp only [Act.eval] at this; rw [this]; exact hR)))
theorem CW.ret2 {fn : Func} {R : Ending → World → Prop} {t u : Nat} {v v2 : Value} (hr : fn.results = #[.tmp t, .tmp u]) (hv : look L t = some v) (hv2 : look L u = some v2) (hR : R (.returned (.tuple #[v, v2])) w) (hQ : ∀ a w, bodyPost P fn R .ret a w → Q .ret a w) : CW P n .ret Q L w :=
  fun a ha => wp_ret (hQ _ _ (bodyPost_ret (results_tmp2 hr _ _ _) ha.defers (by
    have h1 := ha.ev (x := .tmp t) hv
    have h2 := ha.ev (x := .tmp u) hv2
    simp only [Act.eval] at h1 h2
    rw [h1, h2]
    exact hR)))
theorem results_tmp3' {fn : Func} {t u x : Tmp} (h : fn.results = #[.tmp t, .tmp u, .tmp x]) (tmps : Array Value) (P : Program) (w : World) :
    (results fn tmps).run P w = .ok (.tuple #[tmps.getD t undef, tmps.getD u undef, tmps.getD x undef]) w := by simp [results, h]
theorem CW.ret3 {fn : Func} {R : Ending → World → Prop} {t u x : Nat} {v v2 v3 : Value} (hr : fn.results = #[.tmp t, .tmp u, .tmp x]) (hv : look L t = some v) (hv2 : look L u = some v2) (hv3 : look L x = some v3) (hR : R (.returned (.tuple #[v, v2, v3])) w) (hQ : ∀ a w, bodyPost P fn R .ret a w → Q .ret a w) : CW P n .ret Q L w :=
  fun a ha => wp_ret (hQ _ _ (bodyPost_ret (results_tmp3' hr _ _ _) ha.defers (by
    have h1 := ha.ev (x := .tmp t) hv
    have h2 := ha.ev (x := .tmp u) hv2
    have h3 := ha.ev (x := .tmp x) hv3
    simp only [Act.eval] at h1 h2 h3
    rw [h1, h2, h3]
    exact hR)))
/-- the end of a body without results -/
theorem CW.ret0 {fn : Func} {R : Ending → World → Prop} (hr : fn.results = #[]) (hR : R (.returned (.tuple #[])) w) (hQ : ∀ a w, bodyPost P fn R .ret a w → Q .ret a w) : CW P n .ret Q L w :=
  fun a ha => wp_ret (hQ _ _ (bodyPost_ret (results_none hr _ _ _) ha.defers hR))
theorem NK.end0 {fn : Func} {R : Ending → World → Prop} {K : Act → World → Prop} (hr : fn.results = #[]) (hR : R (.returned (.tuple #[])) w) (hQ : ∀ a w, bodyPost P fn R .normal a w → K a w) : NK n K L w :=
  fun _ ha => hQ _ _ (bodyPost_end (results_none hr _ _ _) ha.defers hR)

/-- the arguments as slots -/
def argsL : Nat → List Value → List (Nat × Value)
  | _, [] => []
  | k, v :: r => (k, v) :: argsL (k + 1) r
theorem look_argsL (l : List Value) : ∀ k t v, look (argsL k l) t = some v → k ≤ t ∧ l[t - k]? = some v := by
  induction l with
  | nil => intro k t v h; simp [argsL, look] at h
  | cons u r ih =>
    intro k t v h
    by_cases hk : k = t
    · subst hk
      rw [argsL, look_cons_eq] at h
      simpa using h
    · rw [argsL, look_cons_ne _ _ hk] at h
      obtain ⟨h1, h2⟩ := ih (k + 1) t v h
      refine ⟨by omega, ?_⟩
      rw [show t - k = (t - (k + 1)) + 1 from by omega]
      simpa using h2

theorem enter {f : FuncId} {fn : Func} {c : Code} {l : List Value} {R : Ending → World → Prop} (hf : P.funcs[f]? = some fn) (hb : fn.body = some c) (hn : fn.ntmps = n) (hl : Nat.ble l.length n = true)
    (h : CW P n c (bodyPost P fn R) (argsL 0 l) w) : Calls P f l.toArray w R := by
  have hl' : l.length ≤ n := by simpa using hl
  refine calls_of_wp hf hb (h _ ⟨by simp [hn]; omega, rfl, fun t v hv => ?_⟩)
  obtain ⟨_, h2⟩ := look_argsL l 0 t v hv
  have ht : t < l.length := (List.getElem?_eq_some_iff.1 h2).1
  simp only [Nat.sub_zero] at h2
  rw [Array.getElem?_append_left (by simpa using ht)]
  simpa using h2
end

/-! what a plain function's result tells -/
theorem bindE {α β : Type} {a : Option α} {f : α → Option β} {r : β} (h : a.bind f = some r) : ∃ y, a = some y ∧ f y = some r := by
  cases a with
  | none => cases h
  | some y => exact ⟨y, rfl, h⟩
theorem elimL {α β γ : Type} {f : α → γ} {g : β → γ} {a : α} {x : γ} (h : Sum.elim f g (.inl a) = x) : f a = x := h
theorem elimR {α β γ : Type} {f : α → γ} {g : β → γ} {a : β} {x : γ} (h : Sum.elim f g (.inr a) = x) : g a = x := h
theorem iteT {α : Type} {c : Bool} {a b x : α} (hc : c = true) (h : (if c = true then a else b) = x) : a = x := by rw [if_pos hc] at h; exact h
theorem iteF {α : Type} {c : Bool} {a b x : α} (hc : c = false) (h : (if c = true then a else b) = x) : b = x := by rw [if_neg (by simp [hc])] at h; exact h

/-! loops -/
section
variable {σ ρ : Type}

inductive Runs (step : σ → Option (σ ⊕ ρ)) : Nat → σ → ρ → Prop
  | done {s r} : step s = some (.inr r) → Runs step 0 s r
  | more {k s s' r} : step s = some (.inl s') → Runs step k s' r → Runs step (k + 1) s r

theorem Runs.det {step : σ → Option (σ ⊕ ρ)} {k k' : Nat} {s : σ} {r r' : ρ} (h : Runs step k s r) (h' : Runs step k' s r') : r = r' ∧ k = k' := by
  induction h generalizing k' with
  | done e =>
    cases h' with
    | done e' => rw [e] at e'; cases e'; exact ⟨rfl, rfl⟩
    | more e' _ => rw [e] at e'; cases e'
  | more e _ ih =>
    cases h' with
    | done e' => rw [e] at e'; cases e'
    | more e' h2 =>
      rw [e] at e'
      cases e'
      obtain ⟨h1, h3⟩ := ih h2
      exact ⟨h1, by rw [h3]⟩

open Classical in
noncomputable def loopR (step : σ → Option (σ ⊕ ρ)) (s : σ) : Option ρ :=
  if h : ∃ r k, Runs step k s r then some (Classical.choose h) else none

theorem least (p : Nat → Prop) (h : ∃ k, p k) : ∃ m, p m ∧ ∀ j, p j → m ≤ j := by
  obtain ⟨k, hk⟩ := h
  induction k using Nat.strongRecOn with
  | _ k ih =>
    by_cases hs : ∃ j, j < k ∧ p j
    · obtain ⟨j, hj, hp⟩ := hs
      exact ih j hj hp
    · exact ⟨k, hk, fun j hj => Nat.le_of_not_lt fun hlt => hs ⟨j, hlt, hj⟩⟩

theorem loopR_runs {step : σ → Option (σ ⊕ ρ)} {s : σ} {r : ρ} : loopR step s = some r ↔ ∃ k, Runs step k s r := by
  unfold loopR
  split
  · rename_i h
    obtain ⟨k, hk⟩ := Classical.choose_spec h
    constructor
    · intro e; cases e; exact ⟨k, hk⟩
    · rintro ⟨k', hk'⟩; rw [(hk.det hk').1]
  · rename_i h
    constructor
    · intro e; cases e
    · rintro ⟨k, hk⟩; exact (h ⟨r, k, hk⟩).elim

theorem loopR_unfold (step : σ → Option (σ ⊕ ρ)) (s : σ) :
    loopR step s = match step s with
      | some (.inl s') => loopR step s'
      | some (.inr r) => some r
      | none => none := by
  apply Option.ext
  intro r
  rw [loopR_runs]
  cases h : step s with
  | none =>
    constructor
    · rintro ⟨k, hk⟩; cases hk <;> simp_all
    · intro e; cases e
  | some x =>
    cases x with
    | inl s' =>
      simp only
      rw [loopR_runs]
      constructor
      · rintro ⟨k, hk⟩
        cases hk with
        | done e => rw [h] at e; cases e
        | more e h2 => rw [h] at e; cases e; exact ⟨_, h2⟩
      · rintro ⟨k, hk⟩; exact ⟨_, .more h hk⟩
    | inr r' =>
      simp only [Option.some.injEq]
      constructor
      · rintro ⟨k, hk⟩
        cases hk with
        | done e => rw [h] at e; cases e; rfl
        | more e h2 => rw [h] at e; cases e
      · rintro rfl; exact ⟨0, .done h⟩

variable {P : Program} {n : Nat} {Q : Exit → Act → World → Prop} {L : List (Nat × Value)} {w : World}

/-- THE LOOP: 'inv s' is kept round by round as the state goes by 'step'; a round that ends it knows its result. -/
theorem CW.loop {c : Code} (step : σ → Option (σ ⊕ ρ)) (inv : σ → List (Nat × Value) → World → Prop) {s0 : σ} {r : ρ} (hr : loopR step s0 = some r) (h0 : inv s0 L w)
    (round : ∀ (K : Act → World → Prop) s L' w', inv s L' w' → ∀ x, step s = some x → (∀ r', x = .inr r' → r' = r) → (∀ s' L'' w'', x = .inl s' → inv s' L'' w'' → NK n K L'' w'') →
      CW P n c (Exit.then K Q) L' w') : CW P n (.loop c) Q L w := by
  intro a ha
  obtain ⟨k, hk⟩ := loopR_runs.1 hr
  classical
  let I : Act → World → Prop := fun a w => ∃ s L, Fr n L a ∧ inv s L w ∧ ∃ k, Runs step k s r
  let J : Nat → Act → World → Prop := fun k a w => ∃ s L, Fr n L a ∧ inv s L w ∧ Runs step k s r
  have hIJ : ∀ a w, I a w → ∃ k, J k a w := fun a w ⟨s, L, h1, h2, k, h3⟩ => ⟨k, s, L, h1, h2, h3⟩
  let μ : Act → World → Nat := fun a w => if h : ∃ k, J k a w then Classical.choose (least _ h) else 0
  refine wp_loop I μ ⟨s0, L, ha, h0, k, hk⟩ ?_
  intro a1 w1 hI
  have hex := hIJ a1 w1 hI
  have hμ : μ a1 w1 = Classical.choose (least _ hex) := by simp only [μ]; rw [dif_pos hex]
  obtain ⟨s, L1, hf, hi, hruns⟩ := (Classical.choose_spec (least _ hex)).1
  generalize hm : Classical.choose (least _ hex) = m at *
  have key : ∀ x, step s = some x → (∀ r', x = .inr r' → r' = r) ∧ (∀ s', x = .inl s' → ∃ j, j < m ∧ Runs step j s' r) := by
    intro x hx
    cases hruns with
    | done e =>
      rw [hx] at e
      cases e
      exact ⟨(fun r' h => by cases h; rfl), (fun s' h => by cases h)⟩
    | more e h2 =>
      rw [hx] at e
      cases e
      exact ⟨(fun r' h => by cases h), (fun s' h => by cases h; exact ⟨_, Nat.lt_succ_self _, h2⟩)⟩
  have hx : ∃ x, step s = some x := by
    cases hruns with
    | done e => exact ⟨_, e⟩
    | more e _ => exact ⟨_, e⟩
  obtain ⟨x, hx⟩ := hx
  obtain ⟨k1, k2⟩ := key x hx
  refine round (fun a' w' => I a' w' ∧ μ a' w' < μ a1 w1) s L1 w1 hi x hx k1 ?_ a1 hf
  intro s' L2 w2 hxs hinv a2 ha2
  obtain ⟨j, hj, hruns2⟩ := k2 s' hxs
  have hJ : J j a2 w2 := ⟨s', L2, ha2, hinv, hruns2⟩
  refine ⟨⟨s', L2, ha2, hinv, j, hruns2⟩, ?_⟩
  rw [hμ]
  have hex2 : ∃ k, J k a2 w2 := ⟨j, hJ⟩
  simp only [μ]
  rw [dif_pos hex2]
  exact Nat.lt_of_le_of_lt ((Classical.choose_spec (least _ hex2)).2 j hJ) hj
end

end Dp
end Go.Proofs.Ytdfkfohpgakihaa
