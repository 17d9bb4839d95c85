/- The engine: frames as lists of slots, operations one by one, loops by a partial function. Nothing here names a program. How data lie in memory: readings of values as data, owners of blocks, and the operations' rules. Nothing here names a program. -/
import Derived.WalkKit
import Derived.WalkSpells
import Derived.WalkLawsBesides
import Derived.Laws.AppendOwnNone
import Derived.TacticsIn
import Derived.OrdersIn
set_option linter.unusedVariables false
set_option linter.unusedSimpArgs false
namespace Go.Proofs.Ytkgfdplcjdidhaa
open Go Go.RowKit

namespace Dp

/-! frames -/
/-- in which frame code runs: a round's of a range over a function (its loop's record), or a plain one; and what its activation has deferred -/
class Rd where
  ro : Option Nat
  ds : List Deferred
  /-- slots that stay as they are -/
  fix : Nat → Option Value
instance (priority := low) Rd.plain : Rd := ⟨none, [], fun _ => none⟩
def Rd.okt (I : Rd) (n t : Nat) : Bool := Nat.blt t n && (I.fix t).isNone
def Rd.F (I : Rd) : Fence := { Fence.wide with round := I.ro }
theorem Rd.fn (I : Rd) (f : FuncId) : I.F.fn f := trivial
theorem Rd.room (I : Rd) (n : Nat) : I.F.room n := fun _ h => by simp [Rd.F, Fence.wide] at h
def look : List (Nat × Value) → Nat → Option Value
  | [], _ => none
  | p :: r, t => cond (Nat.beq p.1 t) (some p.2) (look r t)

structure Fr [I : Rd] (n : Nat) (L : List (Nat × Value)) (a : Act) : Prop where
  size : a.tmps.size = n
  defers : a.defers = I.ds
  get : ∀ t v, look L t = some v → a.tmps[t]? = some v
  fix : ∀ t v, I.fix t = some v → a.tmps[t]? = some v

def ev (L : List (Nat × Value)) : Operand → Option Value
  | .tmp t => look L t
  | .const v => some v
  | .func f => some (.func (.func f) #[] #[])
  | .global g => some (.pointer (some ⟨g, 0, none⟩))

theorem Fr.ev [Rd] {n : Nat} {L : List (Nat × Value)} {a : Act} (h : Fr n L a) {x : Operand} {v : Value} (hx : Dp.ev L x = some v) : a.eval x = v := by
  cases x with
  | tmp t =>
    have hg := h.get t v hx
    simp [Act.eval, hg]
  | const u => simpa [Dp.ev, Act.eval] using hx
  | global g => simpa [Dp.ev, Act.eval] using hx
  | func f => simpa [Dp.ev, Act.eval] using hx

theorem look_cons_eq (d : Nat) (v : Value) (L : List (Nat × Value)) : look ((d, v) :: L) d = some v := by simp [look]
theorem look_cons_ne {d t : Nat} (v : Value) (L : List (Nat × Value)) (h : d ≠ t) : look ((d, v) :: L) t = look L t := by
  have : Nat.beq d t = false := by
    rcases hb : Nat.beq d t with _ | _
    · rfl
    · exact (h (Nat.eq_of_beq_eq_true hb)).elim
  simp [look, this]

theorem Fr.put [I : Rd] {n : Nat} {L : List (Nat × Value)} {a : Act} (h : Fr n L a) {d : Nat} (hd : I.okt n d = true) (v : Value) : Fr n ((d, v) :: L) (a.put (some d) v) := by
  unfold Rd.okt at hd
  rw [Bool.and_eq_true] at hd
  have hd' : d < n := Nat.le_of_ble_eq_true hd.1
  refine ⟨by simp [Act.put, h.size], by simp [Act.put, h.defers], fun t u hu => ?_, fun t u hu => ?_⟩
  case refine_2 =>
    have hdt : d ≠ t := fun e => by subst e; rw [hu] at hd; exact Bool.noConfusion hd.2
    have := h.fix t u hu
    simp [Act.put, Array.getElem?_setIfInBounds, hdt, this]
  by_cases hdt : d = t
  · subst hdt
    rw [look_cons_eq] at hu
    simp [Act.put, h.size, hd'] at hu ⊢
    exact hu
  · rw [look_cons_ne _ _ hdt] at hu
    have := h.get t u hu
    simp [Act.put, Array.getElem?_setIfInBounds, hdt, this]

/-- every slot of L' is in L -/
def sub : List (Nat × Value) → List (Nat × Value) → Prop
  | [], _ => True
  | p :: r, L => look L p.1 = some p.2 ∧ sub r L

theorem sub_look {L' L : List (Nat × Value)} (h : sub L' L) {t : Nat} {v : Value} (hv : look L' t = some v) : look L t = some v := by
  induction L' with
  | nil => simp [look] at hv
  | cons p r ih =>
    obtain ⟨d, u⟩ := p
    by_cases hdt : d = t
    · subst hdt
      rw [look_cons_eq] at hv
      cases hv
      exact h.1
    · rw [look_cons_ne _ _ hdt] at hv
      exact ih h.2 hv

theorem Fr.sub [Rd] {n : Nat} {L L' : List (Nat × Value)} {a : Act} (h : Fr n L a) (hs : Dp.sub L' L) : Fr n L' a :=
  ⟨h.size, h.defers, fun t v hv => h.get t v (sub_look hs hv), h.fix⟩

/-! judgements -/
section
variable (P : Program) (n : Nat)

def NK [Rd] (K : Act → World → Prop) (L : List (Nat × Value)) (w : World) : Prop := ∀ a, Fr n L a → K a w
def CW [I : Rd] (c : Code) (Q : Exit → Act → World → Prop) (L : List (Nat × Value)) (w : World) : Prop := ∀ a, Fr n L a → Code.wpIn I.F 0 P c Q a w
def WL [I : Rd] (ops : Array Oper) (Q : Exit → Act → World → Prop) (l : List Oper) (L : List (Nat × Value)) (w : World) : Prop := ∀ a, Fr n L a → wpListIn I.F 0 P ops Q l a w

/-- one operation, at any frame that holds the slots of L -/
def OW [I : Rd] (Q : Exit → Act → World → Prop) (L : List (Nat × Value)) (o : Oper) (w : World) (R : Value → World → Prop) : Prop :=
  ∀ (a : Act) (K : Act → World → Prop), (∀ x v, ev L x = some v → a.eval x = v) → (∀ v w', R v w' → K (a.put o.dst v) w') → o.wpIn I.F 0 P a w K Q
end

section
variable {P : Program} {n : Nat} {Q : Exit → Act → World → Prop} {L : List (Nat × Value)} {w : World} {ops : Array Oper} {rest : List Oper}

theorem CW.sub [Rd] {c : Code} {L' : List (Nat × Value)} (hs : Dp.sub L' L) (h : CW P n c Q L' w) : CW P n c Q L w := fun a ha => h a (ha.sub hs)
theorem WL.nil [Rd] (h : NK n (Q .normal) L w) : WL P n ops Q [] L w := fun a ha => wpListIn_nil (h a ha)

theorem WL.step [I : Rd] {d : Nat} {op : Op} {ty : TypeId} {pos : String} {af : Array Edge} {R : Value → World → Prop} (h : OW P Q L ⟨some d, op, ty, pos, af, none⟩ w R) (hd : I.okt n d = true)
    (k : ∀ v w', R v w' → WL P n ops Q rest ((d, v) :: L) w') : WL P n ops Q (⟨some d, op, ty, pos, af, none⟩ :: rest) L w := by
  intro a ha
  refine wpListIn_plain rfl fun K hK => ?_
  exact h a K (fun x v hx => ha.ev hx) fun v w' hr => hK _ _ (k v w' hr _ (ha.put hd v))

theorem WL.step0 [Rd] {op : Op} {ty : TypeId} {pos : String} {af : Array Edge} {R : Value → World → Prop} (h : OW P Q L ⟨none, op, ty, pos, af, none⟩ w R)
    (k : ∀ v w', R v w' → WL P n ops Q rest L w') : WL P n ops Q (⟨none, op, ty, pos, af, none⟩ :: rest) L w := by
  intro a ha
  refine wpListIn_plain rfl fun K hK => ?_
  exact h a K (fun x v hx => ha.ev hx) fun v w' hr => hK _ _ (k v w' hr _ ha)

/-- the same where the value is known and the world stays -/
theorem WL.stepE [I : Rd] {d : Nat} {op : Op} {ty : TypeId} {pos : String} {af : Array Edge} {v : Value} (h : OW P Q L ⟨some d, op, ty, pos, af, none⟩ w (fun v' w' => v' = v ∧ w' = w)) (hd : I.okt n d = true)
    (k : WL P n ops Q rest ((d, v) :: L) w) : WL P n ops Q (⟨some d, op, ty, pos, af, none⟩ :: rest) L w :=
  WL.step h hd (by rintro v' w' ⟨rfl, rfl⟩; exact k)
/-- the same where the world stays -/
theorem WL.stepP [I : Rd] {d : Nat} {op : Op} {ty : TypeId} {pos : String} {af : Array Edge} {R : Value → Prop} (h : OW P Q L ⟨some d, op, ty, pos, af, none⟩ w (fun v' w' => w' = w ∧ R v')) (hd : I.okt n d = true)
    (k : ∀ v, R v → WL P n ops Q rest ((d, v) :: L) w) : WL P n ops Q (⟨some d, op, ty, pos, af, none⟩ :: rest) L w :=
  WL.step h hd (by rintro v' w' ⟨rfl, hr⟩; exact k v' hr)

theorem CW.region [Rd] {id : Nat} {l : List Oper} (h : WL P n l.toArray Q l L w) : CW P n (.region id l.toArray false) Q L w := fun a ha => wpIn_region_lit (h a ha)
theorem CW.seq [I : Rd] {x y : Code} (h : ∀ K : Act → World → Prop, (∀ L' w', CW P n y Q L' w' → NK n K L' w') → CW P n x (Exit.then K Q) L w) : CW P n (.seq x y) Q L w :=
  fun a ha => wpIn_seq (h (y.wpIn I.F 0 P Q) (fun _ _ hc a' ha' => hc a' ha') a ha)
theorem CW.skip [Rd] (h : NK n (Q .normal) L w) : CW P n .skip Q L w := fun a ha => wpIn_skip (h a ha)
theorem CW.exit [Rd] {id : Nat} (h : NK n (Q (.exit id)) L w) : CW P n (.exit id) Q L w := fun a ha => wpIn_exit (h a ha)
theorem CW.block [Rd] {id : Nat} {c : Code} (h : CW P n c (Exit.inBlock id Q) L w) : CW P n (.block id c) Q L w := fun a ha => wpIn_block (h a ha)
theorem CW.cond [Rd] {t : Nat} {x y : Code} {b : Bool} (hc : look L t = some (.bool b)) (ht : b = true → CW P n x Q L w) (hf : b = false → CW P n y Q L w) : CW P n (.cond (.tmp t) x y) Q L w :=
  fun a ha => wpIn_cond_split (ha.ev (x := .tmp t) hc) (fun h => ht h a ha) (fun h => hf h a ha)

/-- the arguments as slots -/
def argsL : Nat → List Value → List (Nat × Value)
  | _, [] => []
  | k, v :: r => (k, v) :: argsL (k + 1) r
theorem look_argsL (l : List Value) : ∀ k t v, look (argsL k l) t = some v → k ≤ t ∧ l[t - k]? = some v := by
  induction l with
  | nil => intro k t v h; simp [argsL, look] at h
  | cons u r ih =>
    intro k t v h
    by_cases hk : k = t
    · subst hk
      rw [argsL, look_cons_eq] at h
      simpa using h
    · rw [argsL, look_cons_ne _ _ hk] at h
      obtain ⟨h1, h2⟩ := ih (k + 1) t v h
      refine ⟨by omega, ?_⟩
      rw [show t - k = (t - (k + 1)) + 1 from by omega]
      simpa using h2

theorem enter {f : FuncId} {fn : Func} {c : Code} {l : List Value} {R : Ending → World → Prop} (hf : P.funcs[f]? = some fn) (hb : fn.body = some c) (hn : fn.ntmps = n) (hl : Nat.ble l.length n = true)
    (h : CW P n c (bodyPost P fn R) (argsL 0 l) w) : Calls P f l.toArray w R := by
  have hl' : l.length ≤ n := by simpa using hl
  refine calls_of_wp hf hb (wpIn_wide.1 (h _ ⟨by simp [hn]; omega, rfl, fun t v hv => ?_, fun _ _ h => by cases h⟩))
  obtain ⟨_, h2⟩ := look_argsL l 0 t v hv
  have ht : t < l.length := (List.getElem?_eq_some_iff.1 h2).1
  simp only [Nat.sub_zero] at h2
  rw [Array.getElem?_append_left (by simpa using ht)]
  simpa using h2
end

/-! what a plain function's result tells -/
theorem bindE {α β : Type} {a : Option α} {f : α → Option β} {r : β} (h : a.bind f = some r) : ∃ y, a = some y ∧ f y = some r := by
  cases a with
  | none => cases h
  | some y => exact ⟨y, rfl, h⟩
/-! loops -/
section
variable {σ ρ : Type}

inductive Runs (step : σ → Option (σ ⊕ ρ)) : Nat → σ → ρ → Prop
  | done {s r} : step s = some (.inr r) → Runs step 0 s r
  | more {k s s' r} : step s = some (.inl s') → Runs step k s' r → Runs step (k + 1) s r

theorem Runs.det {step : σ → Option (σ ⊕ ρ)} {k k' : Nat} {s : σ} {r r' : ρ} (h : Runs step k s r) (h' : Runs step k' s r') : r = r' ∧ k = k' := by
  induction h generalizing k' with
  | done e =>
    cases h' with
    | done e' => rw [e] at e'; cases e'; exact ⟨rfl, rfl⟩
    | more e' _ => rw [e] at e'; cases e'
  | more e _ ih =>
    cases h' with
    | done e' => rw [e] at e'; cases e'
    | more e' h2 =>
      rw [e] at e'
      cases e'
      obtain ⟨h1, h3⟩ := ih h2
      exact ⟨h1, by rw [h3]⟩

open Classical in
noncomputable def loopR (step : σ → Option (σ ⊕ ρ)) (s : σ) : Option ρ :=
  if h : ∃ r k, Runs step k s r then some (Classical.choose h) else none

theorem least (p : Nat → Prop) (h : ∃ k, p k) : ∃ m, p m ∧ ∀ j, p j → m ≤ j := by
  obtain ⟨k, hk⟩ := h
  induction k using Nat.strongRecOn with
  | _ k ih =>
    by_cases hs : ∃ j, j < k ∧ p j
    · obtain ⟨j, hj, hp⟩ := hs
      exact ih j hj hp
    · exact ⟨k, hk, fun j hj => Nat.le_of_not_lt fun hlt => hs ⟨j, hlt, hj⟩⟩

theorem loopR_runs {step : σ → Option (σ ⊕ ρ)} {s : σ} {r : ρ} : loopR step s = some r ↔ ∃ k, Runs step k s r := by
  unfold loopR
  split
  · rename_i h
    obtain ⟨k, hk⟩ := Classical.choose_spec h
    constructor
    · intro e; cases e; exact ⟨k, hk⟩
    · rintro ⟨k', hk'⟩; rw [(hk.det hk').1]
  · rename_i h
    constructor
    · intro e; cases e
    · rintro ⟨k, hk⟩; exact (h ⟨r, k, hk⟩).elim

theorem loopR_unfold (step : σ → Option (σ ⊕ ρ)) (s : σ) :
    loopR step s = match step s with
      | some (.inl s') => loopR step s'
      | some (.inr r) => some r
      | none => none := by
  apply Option.ext
  intro r
  rw [loopR_runs]
  cases h : step s with
  | none =>
    constructor
    · rintro ⟨k, hk⟩; cases hk <;> simp_all
    · intro e; cases e
  | some x =>
    cases x with
    | inl s' =>
      simp only
      rw [loopR_runs]
      constructor
      · rintro ⟨k, hk⟩
        cases hk with
        | done e => rw [h] at e; cases e
        | more e h2 => rw [h] at e; cases e; exact ⟨_, h2⟩
      · rintro ⟨k, hk⟩; exact ⟨_, .more h hk⟩
    | inr r' =>
      simp only [Option.some.injEq]
      constructor
      · rintro ⟨k, hk⟩
        cases hk with
        | done e => rw [h] at e; cases e; rfl
        | more e h2 => rw [h] at e; cases e
      · rintro rfl; exact ⟨0, .done h⟩

variable {P : Program} {n : Nat} {Q : Exit → Act → World → Prop} {L : List (Nat × Value)} {w : World}

/-- THE LOOP: 'inv s' is kept round by round as the state goes by 'step'; a round that ends it knows its result. -/
theorem CW.loop [Rd] {c : Code} (step : σ → Option (σ ⊕ ρ)) (inv : σ → List (Nat × Value) → World → Prop) {s0 : σ} {r : ρ} (hr : loopR step s0 = some r) (h0 : inv s0 L w)
    (round : ∀ (K : Act → World → Prop) s L' w', inv s L' w' → ∀ x, step s = some x → (∀ r', x = .inr r' → r' = r) → (∀ s' L'' w'', x = .inl s' → inv s' L'' w'' → NK n K L'' w'') →
      CW P n c (Exit.then K Q) L' w') : CW P n (.loop c) Q L w := by
  intro a ha
  obtain ⟨k, hk⟩ := loopR_runs.1 hr
  classical
  let I : Act → World → Prop := fun a w => ∃ s L, Fr n L a ∧ inv s L w ∧ ∃ k, Runs step k s r
  let J : Nat → Act → World → Prop := fun k a w => ∃ s L, Fr n L a ∧ inv s L w ∧ Runs step k s r
  have hIJ : ∀ a w, I a w → ∃ k, J k a w := fun a w ⟨s, L, h1, h2, k, h3⟩ => ⟨k, s, L, h1, h2, h3⟩
  let μ : Act → World → Nat := fun a w => if h : ∃ k, J k a w then Classical.choose (least _ h) else 0
  refine wpIn_loop I μ ⟨s0, L, ha, h0, k, hk⟩ ?_
  intro a1 w1 hI
  have hex := hIJ a1 w1 hI
  have hμ : μ a1 w1 = Classical.choose (least _ hex) := by simp only [μ]; rw [dif_pos hex]
  obtain ⟨s, L1, hf, hi, hruns⟩ := (Classical.choose_spec (least _ hex)).1
  generalize hm : Classical.choose (least _ hex) = m at *
  have key : ∀ x, step s = some x → (∀ r', x = .inr r' → r' = r) ∧ (∀ s', x = .inl s' → ∃ j, j < m ∧ Runs step j s' r) := by
    intro x hx
    cases hruns with
    | done e =>
      rw [hx] at e
      cases e
      exact ⟨(fun r' h => by cases h; rfl), (fun s' h => by cases h)⟩
    | more e h2 =>
      rw [hx] at e
      cases e
      exact ⟨(fun r' h => by cases h), (fun s' h => by cases h; exact ⟨_, Nat.lt_succ_self _, h2⟩)⟩
  have hx : ∃ x, step s = some x := by
    cases hruns with
    | done e => exact ⟨_, e⟩
    | more e _ => exact ⟨_, e⟩
  obtain ⟨x, hx⟩ := hx
  obtain ⟨k1, k2⟩ := key x hx
  refine round (fun a' w' => I a' w' ∧ μ a' w' < μ a1 w1) s L1 w1 hi x hx k1 ?_ a1 hf
  intro s' L2 w2 hxs hinv a2 ha2
  obtain ⟨j, hj, hruns2⟩ := k2 s' hxs
  have hJ : J j a2 w2 := ⟨s', L2, ha2, hinv, hruns2⟩
  refine ⟨⟨s', L2, ha2, hinv, j, hruns2⟩, ?_⟩
  rw [hμ]
  have hex2 : ∃ k, J k a2 w2 := ⟨j, hJ⟩
  simp only [μ]
  rw [dif_pos hex2]
  exact Nat.lt_of_le_of_lt ((Classical.choose_spec (least _ hex2)).2 j hJ) hj
end

end Dp
end Go.Proofs.Ytkgfdplcjdidhaa
namespace Go.Proofs.Ytkgfdplcjdidhaa
open Go Go.RowKit

namespace Dp

def CellsAt (w : World) (a : Addr) (cs : List Value) : Prop := ∀ (j : Nat) (u : Value), cs[j]? = some u → w.cell? (a.add j) = some u

def All2 {α : Type} (R : List Value → α → Prop) : List (List Value) → List α → Prop
  | [], [] => True
  | c :: cs, x :: xs => R c x ∧ All2 R cs xs
  | _, _ => False

theorem All2.length {α : Type} {R : List Value → α → Prop} : ∀ {cs : List (List Value)} {xs : List α}, All2 R cs xs → cs.length = xs.length
  | [], [], _ => rfl
  | _ :: _, _ :: _, h => by simp [All2.length h.2]
  | [], _ :: _, h => h.elim
  | _ :: _, [], h => h.elim
theorem All2.mono {α : Type} {R R' : List Value → α → Prop} (hr : ∀ c x, R c x → R' c x) : ∀ {cs : List (List Value)} {xs : List α}, All2 R cs xs → All2 R' cs xs
  | [], [], _ => trivial
  | _ :: _, _ :: _, h => ⟨hr _ _ h.1, All2.mono hr h.2⟩
  | [], _ :: _, h => h.elim
  | _ :: _, [], h => h.elim
theorem All2.get {α : Type} {R : List Value → α → Prop} : ∀ {cs : List (List Value)} {xs : List α}, All2 R cs xs → ∀ {i : Nat} {x : α}, xs[i]? = some x → ∃ c, cs[i]? = some c ∧ R c x
  | [], [], _, i, x, hx => by simp at hx
  | c :: cs, y :: ys, h, 0, x, hx => by
    have : y = x := by simpa using hx
    exact ⟨c, rfl, this ▸ h.1⟩
  | c :: cs, y :: ys, h, i + 1, x, hx => by
    obtain ⟨c', h1, h2⟩ := All2.get h.2 (i := i) (x := x) (by simpa using hx)
    exact ⟨c', by simpa using h1, h2⟩
  | [], _ :: _, h, _, _, _ => h.elim
  | _ :: _, [], h, _, _, _ => h.elim
theorem All2.append {α : Type} {R : List Value → α → Prop} : ∀ {cs ds : List (List Value)} {xs ys : List α}, All2 R cs xs → All2 R ds ys → All2 R (cs ++ ds) (xs ++ ys)
  | [], _, [], _, _, h' => h'
  | _ :: _, _, _ :: _, _, h, h' => ⟨h.1, All2.append h.2 h'⟩
  | [], _, _ :: _, _, h, _ => h.elim
  | _ :: _, _, [], _, h, _ => h.elim
theorem All2.set {α : Type} {R : List Value → α → Prop} : ∀ {cs : List (List Value)} {xs : List α}, All2 R cs xs → ∀ (i : Nat) {c : List Value} {x : α}, R c x → All2 R (cs.set i c) (xs.set i x)
  | [], [], _, _, _, _, _ => trivial
  | _ :: _, _ :: _, h, 0, _, _, hr => ⟨hr, h.2⟩
  | _ :: _, _ :: _, h, i + 1, _, _, hr => ⟨h.1, All2.set h.2 i hr⟩
  | [], _ :: _, h, _, _, _, _ => h.elim
  | _ :: _, [], h, _, _, _, _ => h.elim
theorem All2.drop {α : Type} {R : List Value → α → Prop} : ∀ {cs : List (List Value)} {xs : List α}, All2 R cs xs → ∀ (i : Nat), All2 R (cs.drop i) (xs.drop i)
  | _, _, h, 0 => by simpa using h
  | [], [], _, i + 1 => trivial
  | _ :: _, _ :: _, h, i + 1 => by simpa using All2.drop h.2 i
  | [], _ :: _, h, _ => h.elim
  | _ :: _, [], h, _ => h.elim
theorem All2.take {α : Type} {R : List Value → α → Prop} : ∀ {cs : List (List Value)} {xs : List α}, All2 R cs xs → ∀ (i : Nat), All2 R (cs.take i) (xs.take i)
  | _, _, h, 0 => by simp [All2]
  | [], [], _, i + 1 => trivial
  | _ :: _, _ :: _, h, i + 1 => by simpa [All2] using ⟨h.1, All2.take h.2 i⟩
  | [], _ :: _, h, _ => h.elim
  | _ :: _, [], h, _ => h.elim
theorem All2.mem {α : Type} {R : List Value → α → Prop} : ∀ {cs : List (List Value)} {xs : List α}, All2 R cs xs → ∀ c ∈ cs, ∃ x, R c x
  | [], [], _, c, hc => by cases hc
  | _ :: _, x :: _, h, c, hc => by
    rcases List.mem_cons.1 hc with rfl | hc
    · exact ⟨x, h.1⟩
    · exact All2.mem h.2 c hc
  | [], _ :: _, h, _, _ => h.elim
  | _ :: _, [], h, _, _ => h.elim
theorem All2.replicate {α : Type} {R : List Value → α → Prop} {c : List Value} {x : α} (h : R c x) : ∀ n, All2 R (List.replicate n c) (List.replicate n x)
  | 0 => trivial
  | n + 1 => ⟨h, All2.replicate h n⟩

class Rep (α : Type) where
  sz : Nat
  agg : Bool
  zc : List Value
  zero : α
  rd : (Nat → Prop) → World → List Value → α → Prop
  len : ∀ {S w cs x}, rd S w cs x → cs.length = sz
  one : ∀ {S w cs x}, rd S w cs x → ∀ u ∈ cs, u.oneCell' = true
  mono : ∀ {S S' : Nat → Prop} {w w' : World} {cs x}, (∀ b, S b → b < w.heap.size → S' b ∧ w'.heap[b]? = w.heap[b]?) → rd S w cs x → rd S' w' cs x
  flat : agg = false → sz = 1
  pos : 0 < sz
  zok : ∀ S w, rd S w zc zero

def pack (g : Bool) (cs : List Value) : Value := if g then .agg cs.toArray else cs.headD undef

section
variable {α : Type} [Rep α]

def Rv (S : Nat → Prop) (w : World) (v : Value) (x : α) : Prop := ∃ cs, v = pack (Rep.agg α) cs ∧ Rep.rd S w cs x
def PtrAt (S : Nat → Prop) (w : World) (pa : Addr) (x : α) : Prop := ∃ cs, Rep.rd S w cs x ∧ S pa.block ∧ CellsAt w pa cs

theorem pack_cells {S : Nat → Prop} {w : World} {cs : List Value} {x : α} (h : Rep.rd S w cs x) : (pack (Rep.agg α) cs).cells.toList = cs := by
  cases hg : Rep.agg α with
  | true => simp [pack, Value.cells]
  | false =>
    have hl := Rep.len h
    rw [Rep.flat hg] at hl
    match cs, hl with
    | [u], _ =>
      have := Rep.one h u (by simp)
      cases u <;> simp_all [pack, Value.cells, Value.oneCell']

theorem Rv.mono {S S' : Nat → Prop} {w w' : World} {v : Value} {x : α} (hm : ∀ b, S b → b < w.heap.size → S' b ∧ w'.heap[b]? = w.heap[b]?) (h : Rv S w v x) : Rv S' w' v x := by
  obtain ⟨cs, h1, h2⟩ := h
  exact ⟨cs, h1, Rep.mono hm h2⟩
theorem Rv.weaken {S S' : Nat → Prop} {w : World} {v : Value} {x : α} (hm : ∀ b, S b → S' b) (h : Rv S w v x) : Rv S' w v x := h.mono fun b hb _ => ⟨hm b hb, rfl⟩

theorem CellsAt.lt {w : World} {a : Addr} {cs : List Value} (h : CellsAt w a cs) (hp : 0 < cs.length) : a.block < w.heap.size := by
  have := h 0 cs[0] (by simp [hp])
  exact World.block_lt_of_cell? w a (u := cs[0]) (by simpa [Addr.add] using this)

theorem add_block (a : Addr) (j : Nat) : (a.add j).block = a.block := by unfold Addr.add; split <;> rfl
theorem CellsAt.mono {w w' : World} {a : Addr} {cs : List Value} (h : CellsAt w a cs) (hb : w'.heap[a.block]? = w.heap[a.block]?) : CellsAt w' a cs := by
  intro j u hu
  have := h j u hu
  rw [← this]
  exact World.cell?_of_block (by rw [add_block]; exact hb)

theorem PtrAt.mono {S S' : Nat → Prop} {w w' : World} {pa : Addr} {x : α} (hm : ∀ b, S b → b < w.heap.size → S' b ∧ w'.heap[b]? = w.heap[b]?) (h : PtrAt S w pa x) : PtrAt S' w' pa x := by
  obtain ⟨cs, h1, h2, h3⟩ := h
  have hlt := h3.lt (by rw [Rep.len h1]; exact Rep.pos)
  have hh := hm _ h2 hlt
  exact ⟨cs, Rep.mono hm h1, hh.1, h3.mono hh.2⟩
end

/-! the plain readings -/
instance : Rep Int where
  sz := 1
  agg := false
  zc := [.int .i64 0]
  zero := 0
  rd := fun _ _ cs x => cs = [.int .i64 x]
  len := by rintro S w cs x rfl; rfl
  one := by rintro S w cs x rfl u hu; simp at hu; subst hu; rfl
  mono := fun _ h => h
  flat := fun _ => rfl
  pos := Nat.one_pos
  zok := fun _ _ => rfl
instance : Rep Bool where
  sz := 1
  agg := false
  zc := [.bool false]
  zero := false
  rd := fun _ _ cs x => cs = [.bool x]
  len := by rintro S w cs x rfl; rfl
  one := by rintro S w cs x rfl u hu; simp at hu; subst hu; rfl
  mono := fun _ h => h
  flat := fun _ => rfl
  pos := Nat.one_pos
  zok := fun _ _ => rfl
instance : Rep ByteArray where
  sz := 1
  agg := false
  zc := [.string ByteArray.empty]
  zero := ByteArray.empty
  rd := fun _ _ cs x => cs = [.string x]
  len := by rintro S w cs x rfl; rfl
  one := by rintro S w cs x rfl u hu; simp at hu; subst hu; rfl
  mono := fun _ h => h
  flat := fun _ => rfl
  pos := Nat.one_pos
  zok := fun _ _ => rfl
/-- a number of kind uint8 -/
structure U8 where
  n : Int
instance : Rep U8 where
  sz := 1
  agg := false
  zc := [.int .u8 0]
  zero := ⟨0⟩
  rd := fun _ _ cs x => cs = [.int .u8 x.n]
  len := by rintro S w cs x rfl; rfl
  one := by rintro S w cs x rfl u hu; simp at hu; subst hu; rfl
  mono := fun _ h => h
  flat := fun _ => rfl
  pos := Nat.one_pos
  zok := fun _ _ => rfl
instance {α β : Type} [Rep α] [Rep β] : Rep (α × β) where
  sz := Rep.sz α + Rep.sz β
  agg := true
  zc := Rep.zc α ++ Rep.zc β
  zero := (Rep.zero, Rep.zero)
  rd := fun S w cs x => ∃ c1 c2, cs = c1 ++ c2 ∧ Rep.rd S w c1 x.1 ∧ Rep.rd S w c2 x.2
  len := by
    rintro S w cs x ⟨c1, c2, rfl, h1, h2⟩
    simp [Rep.len h1, Rep.len h2]
  one := by
    rintro S w cs x ⟨c1, c2, rfl, h1, h2⟩ u hu
    rcases List.mem_append.1 hu with hu | hu
    · exact Rep.one h1 u hu
    · exact Rep.one h2 u hu
  mono := by
    rintro S S' w w' cs x hm ⟨c1, c2, rfl, h1, h2⟩
    exact ⟨c1, c2, rfl, Rep.mono hm h1, Rep.mono hm h2⟩
  flat := by simp
  pos := Nat.lt_of_lt_of_le Rep.pos (Nat.le_add_right _ _)
  zok := fun S w => ⟨_, _, rfl, Rep.zok S w, Rep.zok S w⟩
instance {α : Type} [Rep α] : Rep (List α) where
  sz := 1
  agg := false
  zc := [.slice none 0 0]
  zero := []
  rd := fun S w cs xs => ∃ p cap, cs = [.slice p xs.length cap] ∧ xs.length ≤ cap ∧ cap ≤ maxLen ∧ (xs = [] ∨ ∃ a css, p = some a ∧ S a.block ∧ All2 (Rep.rd S w) css xs ∧ CellsAt w a css.flatten)
  len := by rintro S w cs x ⟨p, cap, rfl, _⟩; rfl
  one := by rintro S w cs x ⟨p, cap, rfl, _⟩ u hu; simp at hu; subst hu; rfl
  mono := by
    rintro S S' w w' cs xs hm ⟨p, cap, rfl, h1, h2, h3⟩
    refine ⟨p, cap, rfl, h1, h2, ?_⟩
    rcases h3 with h3 | ⟨a, css, rfl, hs, ha, hc⟩
    · exact .inl h3
    · by_cases hx : xs = []
      · exact .inl hx
      · have hp : 0 < css.flatten.length := by
          match css, xs, ha with
          | [], [], _ => exact (hx rfl).elim
          | c :: css, x :: xs, ha =>
            have := Rep.len ha.1
            have := Rep.pos (α := α)
            simp
            omega
        have hh := hm _ hs (hc.lt hp)
        exact .inr ⟨a, css, rfl, hh.1, ha.mono fun _ _ => Rep.mono hm, hc.mono hh.2⟩
  flat := fun _ => rfl
  pos := Nat.one_pos
  zok := fun S w => ⟨none, 0, rfl, Nat.le_refl _, Nat.zero_le _, .inl rfl⟩

/-- a struct by its parts; 'to' gives them as nested pairs -/
@[reducible] def Rep.via {α β : Type} [Rep α] (to : β → α) (z : β) (hz : to z = Rep.zero) : Rep β where
  sz := Rep.sz α
  agg := true
  zc := Rep.zc α
  zero := z
  rd := fun S w cs x => Rep.rd S w cs (to x)
  len := fun h => Rep.len h
  one := fun h => Rep.one h
  mono := fun hm h => Rep.mono hm h
  flat := by simp
  pos := Rep.pos (α := α)
  zok := fun S w => by rw [hz]; exact Rep.zok S w

theorem rv_bool {S : Nat → Prop} {w : World} {v : Value} {x : Bool} : Rv S w v x ↔ v = .bool x := by
  constructor
  · rintro ⟨cs, rfl, h⟩
    have : cs = [.bool x] := h
    subst this; rfl
  · rintro rfl; exact ⟨_, rfl, rfl⟩
theorem rv_list {α : Type} [Rep α] {S : Nat → Prop} {w : World} {v : Value} {xs : List α} (h : Rv S w v xs) : ∃ p cap, v = .slice p xs.length cap ∧ xs.length ≤ cap ∧ cap ≤ maxLen ∧
    (xs = [] ∨ ∃ a css, p = some a ∧ S a.block ∧ All2 (Rep.rd S w) css xs ∧ CellsAt w a css.flatten) := by
  obtain ⟨cs, rfl, p, cap, rfl, h1, h2, h3⟩ := h
  exact ⟨p, cap, rfl, h1, h2, h3⟩
theorem rv_nil {α : Type} [Rep α] (S : Nat → Prop) (w : World) : Rv S w (.slice none 0 0) ([] : List α) := ⟨_, rfl, Rep.zok S w⟩

/-! owners of blocks -/
abbrev Cls := Nat → Nat
def In (o : Cls) (K : List Nat) : Nat → Prop := fun b => o b ∈ K

/-- From (o, w) to (o', w'): old blocks keep their owners, those of owners outside M their contents; new blocks belong to owners of N. -/
structure Evo (M N : List Nat) (o : Cls) (w : World) (o' : Cls) (w' : World) : Prop where
  os : w'.os = w.os
  tape : w'.tape = w.tape
  output : w'.output = w.output
  size : w.heap.size ≤ w'.heap.size
  old : ∀ b, b < w.heap.size → o' b = o b
  new : ∀ b, w.heap.size ≤ b → b < w'.heap.size → o' b ∈ N
  blk : ∀ b, b < w.heap.size → o b ∉ M → w'.heap[b]? = w.heap[b]?

theorem Evo.refl (M N : List Nat) (o : Cls) (w : World) : Evo M N o w o w := ⟨rfl, rfl, rfl, Nat.le_refl _, fun _ _ => rfl, fun b h1 h2 => by omega, fun _ _ _ => rfl⟩
theorem Evo.trans {M N : List Nat} {o o1 o2 : Cls} {w w1 w2 : World} (h : Evo M N o w o1 w1) (k : Evo M N o1 w1 o2 w2) : Evo M N o w o2 w2 := by
  refine ⟨k.os.trans h.os, k.tape.trans h.tape, k.output.trans h.output, Nat.le_trans h.size k.size, fun b hb => ?_, fun b h1 h2 => ?_, fun b hb hm => ?_⟩
  · rw [k.old b (Nat.lt_of_lt_of_le hb h.size), h.old b hb]
  · by_cases hlt : b < w1.heap.size
    · rw [k.old b hlt]; exact h.new b h1 hlt
    · exact k.new b (by omega) h2
  · have hb1 := Nat.lt_of_lt_of_le hb h.size
    rw [k.blk b hb1 (by rw [h.old b hb]; exact hm), h.blk b hb hm]
theorem Evo.weaken {M N M' N' : List Nat} {o o' : Cls} {w w' : World} (h : Evo M N o w o' w') (hM : ∀ x ∈ M, x ∈ M') (hN : ∀ x ∈ N, x ∈ N') : Evo M' N' o w o' w' :=
  ⟨h.os, h.tape, h.output, h.size, h.old, fun b h1 h2 => hN _ (h.new b h1 h2), fun b hb hm => h.blk b hb fun hx => hm (hM _ hx)⟩

/-- no number of K is in M -/
def disj (K M : List Nat) : Bool := K.all fun x => M.all fun y => !(Nat.beq x y)
theorem disj_spec {K M : List Nat} (h : disj K M = true) {x : Nat} (hx : x ∈ K) : x ∉ M := by
  intro hy
  have h1 := List.all_eq_true.1 h x hx
  have h2 := List.all_eq_true.1 h1 x hy
  simp at h2
section
variable {M N K K' : List Nat} {o o' : Cls} {w w' : World}
theorem Evo.ro (h : Evo M N o w o' w') (hd : disj K M = true) : ∀ b, In o K b → b < w.heap.size → In o' K b ∧ w'.heap[b]? = w.heap[b]? := fun b hb hlt =>
  ⟨by unfold In; rw [h.old b hlt]; exact hb, h.blk b hlt (disj_spec hd hb)⟩
theorem Rv.evo {α : Type} [Rep α] {v : Value} {x : α} (r : Rv (In o K) w v x) (h : Evo M N o w o' w') (hd : disj K M = true) : Rv (In o' K) w' v x := r.mono (h.ro hd)
end

/-- a slice of the call's own: nil, or the head of a block of owner k; what its elements hold belongs to K -/
def Ow {α : Type} [Rep α] (T : TypeId) (o : Cls) (k : Nat) (K : List Nat) (w : World) (v : Value) (xs : List α) : Prop :=
  (v = .slice none 0 0 ∧ xs = []) ∨
  ∃ g cap cur css, v = .slice (some ⟨g, 0, none⟩) xs.length cap ∧ o g = k ∧ w.heap[g]? = some (.cells cur T (0, 0)) ∧ xs.length ≤ cap ∧ cap ≤ maxLen ∧ cur.size = cap * Rep.sz α ∧
    All2 (Rep.rd (In o K) w) css xs ∧ cur.toList.take (xs.length * Rep.sz α) = css.flatten

section
variable {α : Type} [Rep α] {M N K K' : List Nat} {o o' : Cls} {w w' : World} {c k : Nat}

theorem Ow.rv {T : TypeId} {v : Value} {xs : List α} (r : Ow T o k K w v xs) : Rv (In o (k :: K)) w v xs := by
  rcases r with ⟨rfl, rfl⟩ | ⟨g, cap, cur, css, rfl, h2, h3, h4, h5, h6, h7, h8⟩
  · exact rv_nil _ _
  · refine ⟨_, rfl, some ⟨g, 0, none⟩, cap, rfl, h4, h5, .inr ⟨⟨g, 0, none⟩, css, rfl, ?_, h7.mono fun _ _ => Rep.mono (fun b hb _ => ⟨List.mem_cons_of_mem _ hb, rfl⟩), ?_⟩⟩
    · show o g ∈ k :: K
      rw [h2]; exact List.mem_cons_self
    · intro j u hu
      have hadd : (⟨g, 0, none⟩ : Addr).add j = ⟨g, j, none⟩ := by unfold Addr.add; split <;> simp_all
      rw [hadd, cell_of_row w g j cur T (0, 0) h3]
      rw [← h8, List.getElem?_take] at hu
      split at hu
      · simpa using hu
      · cases hu
theorem Ow.nil (T : TypeId) (o : Cls) (k : Nat) (K : List Nat) (w : World) : Ow T o k K w (.slice none 0 0) ([] : List α) := .inl ⟨rfl, rfl⟩
end

/-- the caller's side: new blocks get owner n -/
def grow (o : Cls) (w : World) (n : Nat) : Cls := fun b => if b < w.heap.size then o b else n
theorem Evo.fresh {o : Cls} {w w' : World} (n : Nat) (h : Below w.heap.size w w') : Evo [] [n] o w (grow o w n) w' :=
  ⟨h.os, h.tape, h.output, h.size, fun b hb => by simp [grow, hb], fun b h1 _ => by simp [grow, Nat.not_lt.2 h1], fun b hb _ => h.block b hb⟩
end Dp
end Go.Proofs.Ytkgfdplcjdidhaa
