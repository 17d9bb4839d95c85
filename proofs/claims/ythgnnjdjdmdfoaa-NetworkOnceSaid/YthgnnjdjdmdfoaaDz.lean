/- A region that draws its order: what each operation needs and leaves, whatever order is drawn. Nothing here names a program. Functions handed as values, and slices that a call turns in place. Nothing here names a program. From the memory that a row's argument reads to a reading of the engine. Nothing here names a program. -/
import Derived.Test.YthgnnjdjdmdfoaaDv
import Derived.Orders
import Derived.ProofKit
import Derived.Carry
set_option linter.unusedVariables false
set_option linter.unusedSimpArgs false
namespace Go.Proofs.Ythgnnjdjdmdfoaa
open Go Go.RowKit

namespace Dp

def updV (vs : Nat → Value) (i : Nat) (v : Value) : Nat → Value := fun j => cond (Nat.beq j i) v (vs j)
theorem updV_ne {vs : Nat → Value} {i j : Nat} {v : Value} (h : j ≠ i) : updV vs i v j = vs j := by
  have : Nat.beq j i = false := by
    rcases hb : Nat.beq j i with _ | _
    · rfl
    · exact (h (Nat.eq_of_beq_eq_true hb)).elim
  simp [updV, this]

def pOf : Value → Addr
  | .pointer (some a) => a
  | _ => ⟨0, 0, none⟩
def cOf (k : Nat) : Value → Value
  | .agg cs => cs.getD k undef
  | _ => undef
def tOf (k : Nat) : Value → Value
  | .tuple cs => cs.getD k undef
  | _ => undef
theorem OW.imp {P : Program} {Q : Exit → Act → World → Prop} {L : List (Nat × Value)} {o : Oper} {w : World} {R R' : Value → World → Prop} (h : OW P Q L o w R) (hr : ∀ v w', R v w' → R' v w') : OW P Q L o w R' :=
  fun a K ha hK => h a K ha fun v w' h' => hK v w' (hr v w' h')
theorem OW.fr {P : Program} {Q : Exit → Act → World → Prop} {L L' : List (Nat × Value)} {o : Oper} {w : World} {R : Value → World → Prop} (hs : Dp.sub L' L) (h : OW P Q L' o w R) : OW P Q L o w R := by
  intro a K ha hK
  refine h a K (fun x v hx => ?_) hK
  cases x with
  | tmp t => exact ha (.tmp t) v (sub_look hs hx)
  | const u => exact ha (.const u) v hx
  | global g => exact ha (.global g) v hx
  | func f => exact ha (.func f) v hx
theorem Evo.sub {M N M' N' : List Nat} {o o' : Cls} {w w' : World} (h : Evo M N o w o' w') (hM : subN M M' = true) (hN : subN N N' = true) : Evo M' N' o w o' w' :=
  h.weaken (fun _ hx => subN_spec hM hx) (fun _ hx => subN_spec hN hx)
theorem Evo.drew (o : Cls) (w : World) : Evo [] [] o w o w.drew := ⟨rfl, rfl, rfl, Nat.le_refl _, fun _ _ => rfl, fun b h1 h2 => absurd h2 (Nat.not_lt.2 h1), fun _ _ _ => rfl⟩
theorem Ent.any {w0 : World} {sb : Option Nat} {Mx N : List Nat} (hM : noZero Mx = true) (hN : geTwo N = true) : ∀ (o : Cls) (w : World) (o' : Cls) (w' : World) (M : List Nat), subN M Mx = true → Evo M N o w o' w' → Ent w0 sb o w → Ent w0 sb o' w' :=
  fun _ _ _ _ _ hs ev h => h.evo ev (List.all_eq_true.2 fun x hx => List.all_eq_true.1 hM x (subN_spec hs hx)) hN

/-- a fact: from operation s on (none: from the start), till operation e (none: to the end); it looks at the values of operations 'dep' and at blocks of owners K -/
structure AFact where
  s : Option Nat
  e : Option Nat
  K : List Nat
  dep : List Nat
  G : List Value → Cls → World → Prop
def AFact.F (f : AFact) (vs : Nat → Value) (o : Cls) (w : World) : Prop := f.G (f.dep.map vs) o w
/-- an operation: whose blocks it may write, the facts that it needs, the operations that are surely done ahead of it, what its slot holds; is it passed over? -/
structure AOp where
  M : List Nat
  pre : List Nat
  anc : List Nat
  vdep : List Nat
  vg : List Value → Value
  skip : Bool
def AOp.vl (a : AOp) (vs : Nat → Value) : Value := a.vg (a.vdep.map vs)

def dstN (l : List Oper) (j : Nat) : Option Nat := match l[j]? with
  | some o => o.dst
  | none => none
def ancOf (as : List AOp) (j : Nat) : List Nat := match as[j]? with
  | some a => a.anc
  | none => []
/-- slot t is written by no operation but i and those behind it -/
def free (l : List Oper) (as : List AOp) (i t : Nat) : Bool := (List.range l.length).all fun j => Nat.beq j i || (ancOf as j).contains i || (match dstN l j with | some d => !(Nat.beq d t) | none => true)
def selA (l : List Oper) (as : List AOp) (vs : Nat → Value) : List Nat → List (Nat × Value)
  | [] => []
  | j :: r => match dstN l j, as[j]? with
    | some d, some a => (d, a.vl vs) :: selA l as vs r
    | _, _ => selA l as vs r
def sel (l : List Oper) (as : List AOp) (L0 : List (Nat × Value)) (i : Nat) (vs : Nat → Value) : List (Nat × Value) :=
  selA l as vs (ancOf as i) ++ L0.filter fun p => free l as i p.1

def preAll (fs : List AFact) (vs : Nat → Value) (o : Cls) (w : World) : List Nat → Prop → Prop
  | [], C => C
  | k :: r, C => (match fs[k]? with | some f => f.F vs o w | none => True) → preAll fs vs o w r C
def postAll (i : Nat) (vs : Nat → Value) (o : Cls) (w : World) : List AFact → Prop
  | [] => True
  | f :: r => (match f.s with | some j => cond (Nat.beq j i) (f.F vs o w ∧ postAll i vs o w r) (postAll i vs o w r) | none => postAll i vs o w r)

section
variable (P : Program) (Q : Exit → Act → World → Prop) (inv : Cls → World → Prop) (N : List Nat) (fs : List AFact) (L0 : List (Nat × Value))

/-- what is owed for operation i -/
def Ob (l : List Oper) (as : List AOp) (o : Oper) (a : AOp) (i : Nat) : Prop :=
  ∀ (vs : Nat → Value) (ow : Cls) (w : World), inv ow w → preAll fs vs ow w a.pre
    (match o.guard, a.skip with
      | none, _ => OW P Q (sel l as L0 i vs) o w (fun v w' => ∃ o', Evo a.M N ow w o' w' ∧ (match o.dst with | some _ => v = a.vl (updV vs i v) | none => True) ∧ postAll i (updV vs i v) o' w' fs)
      | some (j, b), false => (∃ d, dstN l j = some d ∧ look (sel l as L0 i vs) d = some (.bool b)) ∧ OW P Q (sel l as L0 i vs) o w (fun v w' => ∃ o', Evo a.M N ow w o' w' ∧ (match o.dst with | some _ => v = a.vl (updV vs i v) | none => True) ∧ postAll i (updV vs i v) o' w' fs)
      | some (j, b), true => (∃ d, dstN l j = some d ∧ (look (sel l as L0 i vs) d = some (.bool (!b)) ∨ look (sel l as L0 i vs) d = some undef)) ∧ a.vl (updV vs i undef) = undef ∧ postAll i (updV vs i undef) ow w fs)
def Obs (l : List Oper) (as : List AOp) : List Oper → List AOp → Nat → Prop
  | [], [], _ => True
  | o :: r, a :: q, i => Ob P Q inv N fs L0 l as o a i ∧ Obs l as r q (i + 1)
  | _, _, _ => False
def StabAll (N : List Nat) : List AFact → Prop
  | [] => True
  | f :: r => (∀ (x : List Value) (o : Cls) (w : World) (o' : Cls) (w' : World) (M : List Nat), Evo M N o w o' w' → disj f.K M = true → f.G x o w → f.G x o' w') ∧ StabAll N r
def initAll (o : Cls) (w : World) : List AFact → Prop
  | [] => True
  | f :: r => (match f.s with | none => f.G [] o w ∧ initAll o w r | some _ => initAll o w r)
/-- what is known at the end -/
def endAll (vs : Nat → Value) (o : Cls) (w : World) : List AFact → Prop → Prop
  | [], C => C
  | f :: r, C => (match f.e with | none => (f.F vs o w → endAll vs o w r C) | some _ => endAll vs o w r C)
end

/-- may a fact of activity (s, e) be used by operation i? -/
def okPre (as : List AOp) (i : Nat) (f : AFact) : Bool :=
  (match f.s with | none => true | some s => (ancOf as i).contains s) && (match f.e with | none => true | some e => Nat.beq e i || (ancOf as e).contains i)
/-- does operation i leave it? -/
def okKeep (as : List AOp) (i : Nat) (M : List Nat) (f : AFact) : Bool :=
  (match f.s with | none => false | some s => Nat.beq s i || (ancOf as s).contains i) || (match f.e with | none => false | some e => Nat.beq e i || (ancOf as i).contains e) || disj f.K M
def okFact (as : List AOp) (f : AFact) : Bool :=
  match f.s with
  | none => f.dep.isEmpty
  | some s => Nat.blt s as.length && f.dep.all fun j => Nat.beq j s || (ancOf as s).contains j
def okOp (l : List Oper) (as : List AOp) (fs : List AFact) (N : List Nat) (Mx : List Nat) (i : Nat) (o : Oper) (a : AOp) : Bool :=
  (o.after.all fun e => !(Region.binds .any e) || Nat.blt e.on i) &&
  (a.anc.all fun j => Nat.blt j i && o.after.any fun e => Region.binds .any e && (Nat.beq e.on j || (ancOf as e.on).contains j)) &&
  ((List.range i).all fun j => match dstN l j, o.dst with | some d, some d' => !(Nat.beq d d') | _, _ => true) &&
  (a.pre.all fun k => match fs[k]? with | some f => okPre as i f | none => true) &&
  (fs.all fun f => okKeep as i a.M f) &&
  (a.vdep.all fun j => Nat.beq j i || a.anc.contains j) &&
  (match o.guard with | some (j, _) => a.anc.contains j | none => true) && subN a.M Mx && (N.all fun _ => true)
def okOps (l : List Oper) (as : List AOp) (fs : List AFact) (N Mx : List Nat) : List Oper → List AOp → Nat → Bool
  | [], [], _ => true
  | o :: r, a :: q, i => okOp l as fs N Mx i o a && okOps l as fs N Mx r q (i + 1)
  | _, _, _ => false
def okAll (l : List Oper) (as : List AOp) (fs : List AFact) (N Mx : List Nat) : Bool := okOps l as fs N Mx l as 0 && fs.all (okFact as)

theorem okOps_get {l : List Oper} {as : List AOp} {fs : List AFact} {N Mx : List Nat} : ∀ {r : List Oper} {q : List AOp} {k : Nat}, okOps l as fs N Mx r q k = true → ∀ {i : Nat} {o : Oper}, r[i]? = some o → ∃ a, q[i]? = some a ∧ okOp l as fs N Mx (k + i) o a = true
  | [], [], k, _, i, o, hi => by simp at hi
  | o' :: r, a' :: q, k, h, 0, o, hi => by
    simp only [okOps, Bool.and_eq_true] at h
    have : o' = o := by simpa using hi
    subst this
    exact ⟨a', rfl, h.1⟩
  | o' :: r, a' :: q, k, h, i + 1, o, hi => by
    simp only [okOps, Bool.and_eq_true] at h
    obtain ⟨a, h1, h2⟩ := okOps_get h.2 (i := i) (o := o) (by simpa using hi)
    exact ⟨a, by simpa using h1, by rw [show k + (i + 1) = k + 1 + i from by omega]; exact h2⟩
  | [], _ :: _, _, h, _, _, _ => by simp [okOps] at h
  | _ :: _, [], _, h, _, _, _ => by simp [okOps] at h
theorem okOps_len {l : List Oper} {as : List AOp} {fs : List AFact} {N Mx : List Nat} : ∀ {r : List Oper} {q : List AOp} {k : Nat}, okOps l as fs N Mx r q k = true → r.length = q.length
  | [], [], _, _ => rfl
  | _ :: r, _ :: q, k, h => by
    simp only [okOps, Bool.and_eq_true] at h
    simp [okOps_len h.2]
  | [], _ :: _, _, h => by simp [okOps] at h
  | _ :: _, [], _, h => by simp [okOps] at h
theorem Obs_get {P : Program} {Q : Exit → Act → World → Prop} {inv : Cls → World → Prop} {N : List Nat} {fs : List AFact} {L0 : List (Nat × Value)} {l : List Oper} {as : List AOp} : ∀ {r : List Oper} {q : List AOp} {k : Nat}, Obs P Q inv N fs L0 l as r q k →
    ∀ {i : Nat} {o : Oper} {a : AOp}, r[i]? = some o → q[i]? = some a → Ob P Q inv N fs L0 l as o a (k + i)
  | [], [], k, _, i, o, a, hi, _ => by simp at hi
  | o' :: r, a' :: q, k, h, 0, o, a, hi, ha => by
    have e1 : o' = o := by simpa using hi
    have e2 : a' = a := by simpa using ha
    subst e1 e2
    exact h.1
  | o' :: r, a' :: q, k, h, i + 1, o, a, hi, ha => by
    have := Obs_get h.2 (i := i) (o := o) (a := a) (by simpa using hi) (by simpa using ha)
    rw [show k + (i + 1) = k + 1 + i from by omega]
    exact this
  | [], _ :: _, _, h, _, _, _, _, _ => h.elim
  | _ :: _, [], _, h, _, _, _, _, _ => h.elim
theorem StabAll_get {N : List Nat} : ∀ {fs : List AFact}, StabAll N fs → ∀ {f : AFact}, f ∈ fs → ∀ (x : List Value) (o : Cls) (w : World) (o' : Cls) (w' : World) (M : List Nat), Evo M N o w o' w' → disj f.K M = true → f.G x o w → f.G x o' w'
  | [], _, f, hf => by cases hf
  | g :: r, h, f, hf => by
    rcases List.mem_cons.1 hf with rfl | hf
    · exact h.1
    · exact StabAll_get h.2 hf
theorem initAll_get {o : Cls} {w : World} : ∀ {fs : List AFact}, initAll o w fs → ∀ {f : AFact}, f ∈ fs → f.s = none → f.G [] o w
  | [], _, f, hf, _ => by cases hf
  | g :: r, h, f, hf, hs => by
    unfold initAll at h
    rcases List.mem_cons.1 hf with rfl | hf
    · rw [hs] at h
      exact h.1
    · split at h
      · exact initAll_get h.2 hf hs
      · exact initAll_get h hf hs
theorem postAll_get {i : Nat} {vs : Nat → Value} {o : Cls} {w : World} : ∀ {fs : List AFact}, postAll i vs o w fs → ∀ {f : AFact}, f ∈ fs → f.s = some i → f.F vs o w
  | [], _, f, hf, _ => by cases hf
  | g :: r, h, f, hf, hs => by
    unfold postAll at h
    rcases List.mem_cons.1 hf with rfl | hf
    · rw [hs] at h
      have : Nat.beq i i = true := by simp
      simp only [this, cond_true] at h
      exact h.1
    · split at h
      · rename_i j _
        cases hb : Nat.beq j i with
        | true => rw [hb] at h; exact postAll_get h.2 hf hs
        | false => rw [hb] at h; exact postAll_get h hf hs
      · exact postAll_get h hf hs
theorem endAll_use {vs : Nat → Value} {o : Cls} {w : World} {C : Prop} : ∀ {fs : List AFact}, endAll vs o w fs C → (∀ f ∈ fs, f.e = none → f.F vs o w) → C
  | [], h, _ => h
  | g :: r, h, hh => by
    unfold endAll at h
    split at h
    · rename_i he
      exact endAll_use (h (hh g (by simp) he)) fun f hf => hh f (by simp [hf])
    · exact endAll_use h fun f hf => hh f (by simp [hf])
theorem preAll_use {fs : List AFact} {vs : Nat → Value} {o : Cls} {w : World} {C : Prop} : ∀ {ks : List Nat}, preAll fs vs o w ks C → (∀ k ∈ ks, ∀ f, fs[k]? = some f → f.F vs o w) → C
  | [], h, _ => h
  | k :: r, h, hh => by
    unfold preAll at h
    refine preAll_use (h ?_) fun k' hk => hh k' (by simp [hk])
    cases hf : fs[k]? with
    | none => trivial
    | some f => exact hh k (by simp) f hf

theorem map_updV {vs : Nat → Value} {i : Nat} {v : Value} {l : List Nat} (h : i ∉ l) : l.map (updV vs i v) = l.map vs := by
  apply List.map_congr_left
  intro j hj
  exact updV_ne (fun e => h (e ▸ hj))

theorem look_append {A B : List (Nat × Value)} {t : Nat} {v : Value} (h : look (A ++ B) t = some v) : look A t = some v ∨ (look A t = none ∧ look B t = some v) := by
  induction A with
  | nil => exact .inr ⟨rfl, h⟩
  | cons p A ih =>
    obtain ⟨d, u⟩ := p
    by_cases hd : d = t
    · subst hd
      rw [List.cons_append, look_cons_eq] at h
      rw [look_cons_eq]
      exact .inl h
    · rw [List.cons_append, look_cons_ne _ _ hd] at h
      rw [look_cons_ne _ _ hd]
      exact ih h
theorem look_filter {L : List (Nat × Value)} {p : Nat → Bool} {t : Nat} {v : Value} (h : look (L.filter fun x => p x.1) t = some v) : look L t = some v ∧ p t = true := by
  induction L with
  | nil => simp [look] at h
  | cons q L ih =>
    obtain ⟨d, u⟩ := q
    by_cases hp : p d = true
    · rw [List.filter_cons_of_pos (by simpa using hp)] at h
      by_cases hd : d = t
      · subst hd
        rw [look_cons_eq] at h ⊢
        exact ⟨h, hp⟩
      · rw [look_cons_ne _ _ hd] at h ⊢
        exact ih h
    · rw [List.filter_cons_of_neg (by simpa using hp)] at h
      by_cases hd : d = t
      · subst hd
        exact (hp (ih h).2).elim
      · rw [look_cons_ne _ _ hd]
        exact ih h
theorem look_selA {l : List Oper} {as : List AOp} {vs : Nat → Value} {t : Nat} {v : Value} : ∀ {js : List Nat}, look (selA l as vs js) t = some v → ∃ j a, j ∈ js ∧ dstN l j = some t ∧ as[j]? = some a ∧ v = a.vl vs
  | [], h => by simp [selA, look] at h
  | j :: r, h => by
    unfold selA at h
    split at h
    · rename_i d a h1 h2
      by_cases hd : d = t
      · subst hd
        rw [look_cons_eq] at h
        cases h
        exact ⟨j, a, by simp, h1, h2, rfl⟩
      · rw [look_cons_ne _ _ hd] at h
        obtain ⟨j', a', h3, h4⟩ := look_selA h
        exact ⟨j', a', by simp [h3], h4⟩
    · obtain ⟨j', a', h3, h4⟩ := look_selA h
      exact ⟨j', a', by simp [h3], h4⟩

structure JSt (l : List Oper) (as : List AOp) (fs : List AFact) (inv : Cls → World → Prop) (n : Nat) (L0 : List (Nat × Value)) (D : Nat → Bool) (vs : Nat → Value) (o : Cls) (a : Act) (w : World) : Prop where
  size : a.tmps.size = n
  defers : a.defers = []
  old : ∀ t v, look L0 t = some v → (∀ j, D j = true → dstN l j ≠ some t) → a.tmps[t]? = some v
  new : ∀ j d x, D j = true → dstN l j = some d → as[j]? = some x → a.tmps[d]? = some (x.vl vs)
  inv : inv o w
  fact : ∀ f, f ∈ fs → (∀ s, f.s = some s → D s = true) → (∀ e, f.e = some e → D e = false) → f.F vs o w
  closed : ∀ j i, D j = true → i ∈ ancOf as j → D i = true

section
variable {P : Program} {Q : Exit → Act → World → Prop} {inv : Cls → World → Prop} {N Mx : List Nat} {fs : List AFact} {L0 : List (Nat × Value)} {l : List Oper} {as : List AOp} {n : Nat}

theorem contains_mem {l : List Nat} {x : Nat} : l.contains x = true ↔ x ∈ l := by simp

/-- one operation, from any state that can be reached -/
theorem JSt.step (hok : okAll l as fs N Mx = true) (hst : StabAll N fs) (hinv : ∀ (o : Cls) (w : World) (o' : Cls) (w' : World) (M : List Nat), subN M Mx = true → Evo M N o w o' w' → inv o w → inv o' w') (hobs : Obs P Q inv N fs L0 l as l as 0) (hdn : l.all (fun o => match o.dst with | some d => Nat.blt d n | none => true) = true)
    {D : Nat → Bool} {vs : Nat → Value} {ow : Cls} {a : Act} {w : World} (hJ : JSt l as fs inv n L0 D vs ow a w) {i : Nat} {op : Oper} (hi : l[i]? = some op) (hD : D i = false) (haft : ∀ e ∈ op.after, Region.binds .any e = true → D e.on = true) :
    wpOp P l.toArray Q i (fun a' w' => ∃ vs' o', JSt l as fs inv n L0 (fun j => D j || Nat.beq j i) vs' o' a' w') a w := by
  simp only [okAll, Bool.and_eq_true] at hok
  obtain ⟨hok1, hok2⟩ := hok
  obtain ⟨ao, hao, hop⟩ := okOps_get hok1 hi
  simp only [Nat.zero_add] at hop
  simp only [okOp, Bool.and_eq_true] at hop
  obtain ⟨⟨⟨⟨⟨⟨⟨⟨c1, c2⟩, c3⟩, c4⟩, c5⟩, c6⟩, c7⟩, c8⟩, _⟩ := hop
  have hob := Obs_get hobs hi hao
  simp only [Nat.zero_add] at hob
  have hancE : ancOf as i = ao.anc := by simp [ancOf, hao]
  -- what is surely done
  have hanc : ∀ j ∈ ao.anc, D j = true := by
    intro j hj
    have h1 := List.all_eq_true.1 c2 j hj
    simp only [Bool.and_eq_true] at h1
    obtain ⟨e, he, h2⟩ := Array.any_eq_true'.1 h1.2
    simp only [Bool.and_eq_true, Bool.or_eq_true] at h2
    have hDe := haft e he h2.1
    rcases h2.2 with h3 | h3
    · have : e.on = j := Nat.eq_of_beq_eq_true h3
      exact this ▸ hDe
    · exact hJ.closed e.on j hDe (contains_mem.1 h3)
  have hnot : ∀ j, i ∈ ancOf as j → D j = false := by
    intro j hj
    cases h : D j with
    | false => rfl
    | true => rw [hJ.closed j i h hj] at hD; cases hD
  -- the slots
  have hsel : ∀ t v, look (sel l as L0 i vs) t = some v → a.tmps[t]? = some v := by
    intro t v h
    rcases look_append h with h | ⟨_, h⟩
    · obtain ⟨j, x, h1, h2, h3, rfl⟩ := look_selA h
      rw [hancE] at h1
      exact hJ.new j t x (hanc j h1) h2 h3
    · obtain ⟨h1, h2⟩ := look_filter h
      refine hJ.old t v h1 fun j hj hd => ?_
      have hjl : j < l.length := by
        unfold dstN at hd
        split at hd
        · rename_i o ho; exact (List.getElem?_eq_some_iff.1 ho).1
        · cases hd
      have h3 := List.all_eq_true.1 h2 j (List.mem_range.2 hjl)
      simp only [Bool.or_eq_true, hd] at h3
      rcases h3 with (h3 | h3) | h3
      · have : j = i := Nat.eq_of_beq_eq_true h3
        subst this
        rw [hD] at hj; cases hj
      · rw [hnot j (contains_mem.1 h3)] at hj; cases hj
      · simp at h3
  have hreads : Reads (sel l as L0 i vs) a := by
    intro x v hx
    cases x with
    | tmp t =>
      have := hsel t v hx
      simp [Act.eval, this]
    | const u => simpa [ev, Act.eval] using hx
    | global g => simpa [ev, Act.eval] using hx
    | func f => simpa [ev, Act.eval] using hx
  -- the facts that it needs
  have hbody := preAll_use (hob vs ow w hJ.inv) (fun k hk f hf => by
    have h1 := List.all_eq_true.1 c4 k hk
    rw [hf] at h1
    simp only [okPre, Bool.and_eq_true] at h1
    refine hJ.fact f (List.mem_of_getElem? hf) (fun s hs => ?_) (fun e he => ?_)
    · have h2 := h1.1
      rw [hs] at h2
      exact hanc s (by rw [← hancE]; exact contains_mem.1 h2)
    · have h2 := h1.2
      rw [he] at h2
      simp only [Bool.or_eq_true] at h2
      rcases h2 with h2 | h2
      · have : e = i := Nat.eq_of_beq_eq_true h2
        rw [this]; exact hD
      · exact hnot e (contains_mem.1 h2))
  have hiv : ∀ x : AOp, ∀ j, as[j]? = some x → D j = true → i ∉ x.vdep := by
    intro x j hx hj hmem
    have hjl : j < l.length := by
      have := okOps_len hok1
      rw [this]
      exact (List.getElem?_eq_some_iff.1 hx).1
    obtain ⟨x', hx', hop'⟩ := okOps_get hok1 (List.getElem?_eq_getElem hjl)
    rw [hx] at hx'
    cases hx'
    simp only [okOp, Bool.and_eq_true] at hop'
    have h6 := hop'.1.1.1.2
    have := List.all_eq_true.1 h6 i hmem
    simp only [Bool.or_eq_true, Nat.zero_add] at this
    rcases this with h | h
    · have : i = j := Nat.eq_of_beq_eq_true h
      subst this
      rw [hD] at hj; cases hj
    · have hh := hJ.closed j i hj (by simp only [ancOf, hx]; exact contains_mem.1 h)
      rw [hh] at hD; cases hD
  -- the state behind it
  have hafter : ∀ v o' w', Evo ao.M N ow w o' w' → (match op.dst with | some _ => v = ao.vl (updV vs i v) | none => True) → postAll i (updV vs i v) o' w' fs → JSt l as fs inv n L0 (fun j => D j || Nat.beq j i) (updV vs i v) o' (a.put op.dst v) w' := by
    intro v o' w' hev hv hpost
    have hput : ∀ t, op.dst ≠ some t → (a.put op.dst v).tmps[t]? = a.tmps[t]? := by
      intro t ht
      cases hd : op.dst with
      | none => rfl
      | some d =>
        have : d ≠ t := fun e => ht (by rw [hd, e])
        simp [Act.put, Array.getElem?_setIfInBounds, this]
    have hdi : dstN l i = op.dst := by simp [dstN, hi]
    refine ⟨?_, ?_, ?_, ?_, ?_, ?_, ?_⟩
    · cases op.dst <;> simp [Act.put, hJ.size]
    · cases op.dst <;> simp [Act.put, hJ.defers]
    · intro t u hu hno
      have h1 : op.dst ≠ some t := by
        have := hno i (by simp)
        rwa [hdi] at this
      rw [hput t h1]
      exact hJ.old t u hu fun j hj => hno j (by simp [hj])
    · intro j d x hj hd hx
      simp only [Bool.or_eq_true] at hj
      by_cases hji : j = i
      · subst hji
        rw [hao] at hx
        cases hx
        rw [hdi] at hd
        have hdl : d < n := by
          have := List.all_eq_true.1 hdn op (List.mem_of_getElem? hi)
          rw [hd] at this
          exact Nat.le_of_ble_eq_true this
        rw [hd] at hv
        rw [hd, ← hv]
        simp [Act.put, hJ.size, hdl]
      · have hDj : D j = true := by
          rcases hj with h | h
          · exact h
          · exact (hji (Nat.eq_of_beq_eq_true h)).elim
        have hne : op.dst ≠ some d := by
          intro e
          -- two operations write one slot
          have hjl : j < l.length := by
            unfold dstN at hd
            split at hd
            · rename_i o ho; exact (List.getElem?_eq_some_iff.1 ho).1
            · cases hd
          rcases Nat.lt_or_gt_of_ne hji with hlt | hgt
          · have := List.all_eq_true.1 c3 j (List.mem_range.2 hlt)
            rw [hd, e] at this
            simp at this
          · obtain ⟨x', hx', hop'⟩ := okOps_get hok1 (List.getElem?_eq_getElem hjl)
            simp only [okOp, Bool.and_eq_true, Nat.zero_add] at hop'
            have h3 := hop'.1.1.1.1.1.1.2
            have := List.all_eq_true.1 h3 i (List.mem_range.2 hgt)
            have hd2 : (l[j]'hjl).dst = some d := by
              have := hd
              simp [dstN, List.getElem?_eq_getElem hjl] at this
              exact this
            rw [hdi, e, hd2] at this
            simp at this
        rw [hput d hne, hJ.new j d x hDj hd hx]
        congr 1
        unfold AOp.vl
        rw [map_updV (hiv x j hx hDj)]
    · exact hinv _ _ _ _ ao.M c8 hev hJ.inv
    · intro f hf hs he
      by_cases hsi : f.s = some i
      · exact postAll_get hpost hf hsi
      · have hsD : ∀ s, f.s = some s → D s = true := by
          intro s hs'
          have := hs s hs'
          simp only [Bool.or_eq_true] at this
          rcases this with h | h
          · exact h
          · exact (hsi (by rw [hs', Nat.eq_of_beq_eq_true h])).elim
        have heD : ∀ e, f.e = some e → D e = false ∧ e ≠ i := by
          intro e he'
          have := he e he'
          simp only [Bool.or_eq_false_iff] at this
          exact ⟨this.1, fun h => by rw [h] at this; simp at this⟩
        have hold := hJ.fact f hf hsD fun e he' => (heD e he').1
        have hfd : i ∉ f.dep := by
          intro hmem
          have h1 := List.all_eq_true.1 hok2 f hf
          unfold okFact at h1
          split at h1
          · rename_i hs0
            simp at h1
            rw [h1] at hmem
            cases hmem
          · rename_i s hs0
            simp only [Bool.and_eq_true] at h1
            have h2 := List.all_eq_true.1 h1.2 i hmem
            simp only [Bool.or_eq_true] at h2
            rcases h2 with h2 | h2
            · exact hsi (by rw [hs0, Nat.eq_of_beq_eq_true h2])
            · have := hJ.closed s i (hsD s hs0) (contains_mem.1 h2)
              rw [this] at hD; cases hD
        have hkeep := List.all_eq_true.1 c5 f hf
        simp only [okKeep, Bool.or_eq_true] at hkeep
        have hdis : disj f.K ao.M = true := by
          rcases hkeep with (h1 | h1) | h1
          · split at h1
            · cases h1
            · rename_i s hs0
              simp only [Bool.or_eq_true] at h1
              rcases h1 with h1 | h1
              · exact (hsi (by rw [hs0, Nat.eq_of_beq_eq_true h1])).elim
              · have := hnot s (contains_mem.1 h1)
                rw [hsD s hs0] at this; cases this
          · split at h1
            · cases h1
            · rename_i e he0
              simp only [Bool.or_eq_true] at h1
              rcases h1 with h1 | h1
              · exact ((heD e he0).2 (Nat.eq_of_beq_eq_true h1)).elim
              · have h3 := hanc e (by rw [← hancE]; exact contains_mem.1 h1)
                rw [(heD e he0).1] at h3; cases h3
          · exact h1
        have := StabAll_get hst hf _ _ _ _ _ _ hev hdis hold
        unfold AFact.F
        rw [map_updV hfd]
        exact this
    · intro j k hj hk
      simp only [Bool.or_eq_true] at hj ⊢
      rcases hj with h | h
      · exact .inl (hJ.closed j k h hk)
      · have : j = i := Nat.eq_of_beq_eq_true h
        subst this
        exact .inl (hanc k (by rw [← hancE]; exact hk))
  have hiA : l.toArray[i]? = some op := by simpa using hi
  unfold wpOp
  rw [hiA]
  simp only
  cases hg : op.guard with
  | none =>
    have hb2 := hbody
    simp only [hg] at hb2
    rw [if_pos (by simp [Region.wanted, hg])]
    refine .inl (hb2 a _ hreads ?_)
    rintro v w' ⟨o', h1, h2, h3⟩
    exact ⟨_, _, hafter v o' w' h1 h2 h3⟩
  | some gb =>
    obtain ⟨j, b⟩ := gb
    have hb2 := hbody
    simp only [hg] at hb2
    have hy : ∀ d, dstN l j = some d → ∀ u, look (sel l as L0 i vs) d = some u → yielded l.toArray a.tmps j = (match u with | .bool b => some b | _ => none) := by
      intro d hd u hu
      have h1 := hsel d u hu
      have h2 : (l.toArray[j]?).bind (·.dst) = some d := by
        unfold dstN at hd
        split at hd
        · rename_i o ho
          have : l.toArray[j]? = some o := by simpa using ho
          rw [this]; exact hd
        · cases hd
      unfold yielded
      rw [h2]
      simp only [Option.bind_some, h1]
      cases u <;> rfl
    cases hsk : ao.skip with
    | false =>
      simp only [hsk] at hb2
      obtain ⟨⟨d, hd, hlk⟩, hb3⟩ := hb2
      have := hy d hd _ hlk
      rw [if_pos (by simp [Region.wanted, hg, this])]
      refine .inl (hb3 a _ hreads ?_)
      rintro v w' ⟨o', h1, h2, h3⟩
      exact ⟨_, _, hafter v o' w' h1 h2 h3⟩
    | true =>
      simp only [hsk] at hb2
      obtain ⟨⟨d, hd, hlk⟩, h2, h3⟩ := hb2
      have hw : ¬ Region.wanted op (yielded l.toArray a.tmps) = true := by
        rcases hlk with hlk | hlk
        · have := hy d hd _ hlk
          cases b <;> simp [Region.wanted, hg, this]
        · have := hy d hd _ hlk
          simp [Region.wanted, hg, this, undef]
      rw [if_neg hw]
      exact ⟨_, _, hafter undef ow w (Evo.refl _ _ _ _) (by cases op.dst <;> first | trivial | exact h2.symm) h3⟩

theorem filter_lt {p q : Nat → Bool} (h : ∀ x, q x = true → p x = true) {i : Nat} (hp : p i = true) (hq : q i = false) : ∀ {l : List Nat}, i ∈ l → (l.filter q).length < (l.filter p).length
  | [], hi => by cases hi
  | x :: l, hi => by
    have hle : (l.filter q).length ≤ (l.filter p).length := by
      clear hi
      induction l with
      | nil => simp
      | cons y l ih =>
        by_cases hy : q y = true
        · rw [List.filter_cons_of_pos hy, List.filter_cons_of_pos (h y hy)]
          simpa using ih
        · rw [List.filter_cons_of_neg hy]
          by_cases hy' : p y = true
          · rw [List.filter_cons_of_pos hy']
            simp
            omega
          · rw [List.filter_cons_of_neg hy']
            exact ih
    by_cases hx : x = i
    · subst hx
      rw [List.filter_cons_of_neg (by simp [hq]), List.filter_cons_of_pos hp]
      simp
      omega
    · have hil : i ∈ l := by
        rcases List.mem_cons.1 hi with e | hh
        · exact (hx e.symm).elim
        · exact hh
      have ih := filter_lt h hp hq hil
      by_cases hy : q x = true
      · rw [List.filter_cons_of_pos hy, List.filter_cons_of_pos (h x hy)]
        simpa using ih
      · rw [List.filter_cons_of_neg hy]
        by_cases hy' : p x = true
        · rw [List.filter_cons_of_pos hy']
          simp
          omega
        · rw [List.filter_cons_of_neg hy']
          exact ih
def freeE (l : List Oper) (t : Nat) : Bool := (List.range l.length).all fun j => match dstN l j with | some d => !(Nat.beq d t) | none => true
/-- the frame at the end -/
def selE (l : List Oper) (as : List AOp) (L0 : List (Nat × Value)) (vs : Nat → Value) : List (Nat × Value) :=
  selA l as vs (List.range l.length) ++ L0.filter fun p => freeE l p.1

/-- THE REGION, in whatever order -/
theorem CW.any {id : Nat} {w : World} {ow : Cls} (hm : P.follows .mixedOrders = true) (fs : List AFact) (as : List AOp) (N Mx : List Nat) (inv : Cls → World → Prop)
    (hok : okAll l as fs N Mx = true) (hdn : l.all (fun o => match o.dst with | some d => Nat.blt d n | none => true) = true) (hst : StabAll N fs) (hinv : ∀ (o : Cls) (w : World) (o' : Cls) (w' : World) (M : List Nat), subN M Mx = true → Evo M N o w o' w' → inv o w → inv o' w')
    (h0 : inv ow w.drew ∧ initAll ow w.drew fs) (hobs : Obs P Q inv N fs L0 l as l as 0)
    (hend : ∀ (vs : Nat → Value) (o' : Cls) (w' : World), inv o' w' → endAll vs o' w' fs (NK n (Q .normal) (selE l as L0 vs) w')) :
    CW P n (.region id l.toArray true) Q L0 w := by
  intro a ha
  refine wp_region_any hm ?_
  have hok' := hok
  simp only [okAll, Bool.and_eq_true] at hok'
  have hlen := okOps_len hok'.1
  have main : ∀ (fuel : Nat) (listed : Array Bool) (a : Act) (w : World) (vs : Nat → Value) (o : Cls), listed.size = l.length → ((List.range l.length).filter fun i => !listed.getD i true).length ≤ fuel →
      JSt l as fs inv n L0 (fun j => listed.getD j false) vs o a w → wpAny P .any l.toArray Q fuel listed a w := by
    intro fuel
    have hready : ∀ (listed : Array Bool), Region.ready .any l.toArray listed = [] → listed.size = l.length → ∀ i, i < l.length → listed.getD i false = true := by
      intro listed hr hsz i
      induction i using Nat.strongRecOn with
      | _ i ih =>
        intro hi
        cases hli : listed.getD i false with
        | true => rfl
        | false =>
          exfalso
          have hmem : i ∈ Region.ready .any l.toArray listed := by
            have hio : l.toArray[i]? = some l[i] := by simp [hi]
            have hb : i < listed.size := by omega
            have h1 : listed.getD i true = false := by
              simp [Array.getD, hb] at hli ⊢
              exact hli
            simp only [Region.ready, List.mem_filter, List.mem_range, List.size_toArray]
            refine ⟨hi, ?_⟩
            rw [h1, hio]
            simp only [Bool.not_false, Bool.true_and, Option.map_some, Option.getD_some]
            obtain ⟨ao, hao, hop⟩ := okOps_get hok'.1 (List.getElem?_eq_getElem hi)
            simp only [okOp, Bool.and_eq_true, Nat.zero_add] at hop
            have c1 := hop.1.1.1.1.1.1.1.1
            rw [Array.all_eq_true'] at c1 ⊢
            intro e he
            have h1 := c1 e he
            cases hbn : Region.binds .any e with
            | false => simp
            | true =>
              rw [hbn] at h1
              have h2 := Nat.le_of_ble_eq_true (by simpa using h1 : Nat.blt e.on i = true)
              have h3 : e.on < i := h2
              rw [ih e.on h3 (by omega)]
              simp
          rw [hr] at hmem
          cases hmem
    have hfin : ∀ (listed : Array Bool) (a : Act) (w : World) (vs : Nat → Value) (o : Cls), listed.size = l.length → Region.ready .any l.toArray listed = [] → JSt l as fs inv n L0 (fun j => listed.getD j false) vs o a w → Q .normal a w := by
      intro listed a w vs o hsz hr hJ
      have hall := hready listed hr hsz
      have hfact : ∀ f ∈ fs, f.e = none → f.F vs o w := by
        intro f hf he
        refine hJ.fact f hf (fun s hs => ?_) (fun e he' => by rw [he] at he'; cases he')
        apply hall
        have h1 := List.all_eq_true.1 hok'.2 f hf
        unfold okFact at h1
        rw [hs] at h1
        simp only [Bool.and_eq_true] at h1
        have : s < as.length := Nat.le_of_ble_eq_true h1.1
        omega
      refine endAll_use (hend vs o w hJ.inv) hfact a ⟨hJ.size, hJ.defers, fun t v hv => ?_⟩
      rcases look_append hv with hv | ⟨_, hv⟩
      · obtain ⟨j, x, h1, h2, h3, rfl⟩ := look_selA hv
        exact hJ.new j t x (hall j (List.mem_range.1 h1)) h2 h3
      · obtain ⟨h1, h2⟩ := look_filter hv
        refine hJ.old t v h1 fun j _ hd => ?_
        have hjl : j < l.length := by
          unfold dstN at hd
          split at hd
          · rename_i o ho; exact (List.getElem?_eq_some_iff.1 ho).1
          · cases hd
        have h3 := List.all_eq_true.1 h2 j (List.mem_range.2 hjl)
        rw [hd] at h3
        simp at h3
    induction fuel with
    | zero =>
      intro listed a w vs o hsz hcount hJ
      have hr : Region.ready .any l.toArray listed = [] := by
        refine List.eq_nil_iff_forall_not_mem.2 fun i hi => ?_
        simp only [Region.ready, List.mem_filter, List.mem_range, List.size_toArray, Bool.and_eq_true] at hi
        have hmem : i ∈ (List.range l.length).filter fun i => !listed.getD i true := List.mem_filter.2 ⟨List.mem_range.2 hi.1, hi.2.1⟩
        have := List.length_pos_of_mem hmem
        omega
      exact ⟨hr, hfin listed a w vs o hsz hr hJ⟩
    | succ fuel ih =>
      intro listed a w vs o hsz hcount hJ
      refine ⟨fun hr => hfin listed a w vs o hsz hr hJ, fun i hi => ?_⟩
      simp only [Region.ready, List.mem_filter, List.mem_range, List.size_toArray, Bool.and_eq_true] at hi
      obtain ⟨hil, hli, haf⟩ := hi
      have hio : l[i]? = some l[i] := List.getElem?_eq_getElem hil
      have hioA : l.toArray[i]? = some l[i] := by simp [hil]
      have hib : i < listed.size := by omega
      have hlf : listed.getD i false = false := by
        simp [Array.getD, hib] at hli ⊢
        exact hli
      rw [hioA] at haf
      simp only [Option.map_some, Option.getD_some] at haf
      refine wpOp_mono ?_ (hJ.step hok hst hinv hobs hdn hio hlf (fun e he hb => by
        have h9 := Array.all_eq_true'.1 haf e he
        simp only [hb, Bool.not_true, Bool.false_or] at h9
        exact h9))
      rintro a' w' ⟨vs', o', hJ'⟩
      refine ih (listed.setIfInBounds i true) a' w' vs' o' (by simp [hsz]) ?_ ?_
      · have hlt := filter_lt (p := fun i => !listed.getD i true) (q := fun j => !(listed.setIfInBounds i true).getD j true) (i := i) (fun x hx => by
          by_cases hxi : x = i
          · subst hxi
            simp [Array.getD, hib] at hx
          · rw [getD_set_ne true (Ne.symm hxi)] at hx
            exact hx) hli (by simp [Array.getD, hib]) (List.mem_range.2 hil)
        omega
      · have e : (fun j => (listed.setIfInBounds i true).getD j false) = (fun j => listed.getD j false || Nat.beq j i) := by
          funext j
          by_cases hji : j = i
          · subst hji
            have : Nat.beq j j = true := by simp
            simp [Array.getD, hib, this]
          · have hb : Nat.beq j i = false := by
              rcases hb : Nat.beq j i with _ | _
              · rfl
              · exact (hji (Nat.eq_of_beq_eq_true hb)).elim
            rw [hb, Bool.or_false]
            exact getD_set_ne false (Ne.symm hji)
        rw [e]
        exact hJ'
  refine main _ _ a w.drew (fun _ => undef) ow (by simp) ?_ ?_
  · have := List.length_filter_le (fun i => !(Array.replicate l.toArray.size false).getD i true) (List.range l.length)
    simpa using this
  · have hf : ∀ j, (Array.replicate l.toArray.size false).getD j false = false := by
      intro j
      simp [Array.getD]
    refine ⟨ha.size, ha.defers, fun t v hv _ => ha.get t v hv, (fun j d x hj => by simp only [hf] at hj; cases hj), h0.1, fun f hfm hs he => ?_, (fun j i hj => by simp only [hf] at hj; cases hj)⟩
    have hsn : f.s = none := by
      cases hq : f.s with
      | none => rfl
      | some s =>
        have := hs s hq
        simp only [hf] at this
        cases this
    have hd : f.dep = [] := by
      have h1 := List.all_eq_true.1 hok'.2 f hfm
      unfold okFact at h1
      rw [hsn] at h1
      simpa using h1
    unfold AFact.F
    rw [hd]
    exact initAll_get h0.2 hfm hsn
end
end Dp
end Go.Proofs.Ythgnnjdjdmdfoaa
namespace Go.Proofs.Ythgnnjdjdmdfoaa
open Go Go.RowKit

namespace Dp

theorem grown_trans {w w1 w2 : World} {sb : Option Nat} (h : w.grownBy w1 sb) (k : w1.grownBy w2 sb) : w.grownBy w2 sb :=
  ⟨k.os.trans h.os, k.tape.trans h.tape, k.output.trans h.output, Nat.le_trans h.size k.size, fun b hb hne => (k.block b (Nat.lt_of_lt_of_le hb h.size) hne).trans (h.block b hb hne)⟩
theorem grown_none {w w1 : World} (sb : Option Nat) (h : w.grownBy w1 none) : w.grownBy w1 sb :=
  ⟨h.os, h.tape, h.output, h.size, fun b hb _ => h.block b hb (by simp)⟩
theorem grown_refl (w : World) (sb : Option Nat) : w.grownBy w sb := ⟨rfl, rfl, rfl, Nat.le_refl _, fun _ _ _ => rfl⟩

section
variable {P : Program} {α β γ : Type} [Rep α] [Rep β] [Rep γ] {W W' : World → Prop} {g : FuncId} {caps : Array Value}

def Enters (P : Program) (g : FuncId) : Prop := ∀ (args : Array Value) (w : World), (callFunc g args).run P w = .ok (.enter g args) w
/-- a function value of one argument that answers as f does, in every world of W -/
def Fn1 (P : Program) (g : FuncId) (caps : Array Value) (W : World → Prop) (f : α → Option γ) : Prop :=
  Enters P g ∧ ∀ (w : World), W w → ∀ (x : α) (r : γ), f x = some r → ∀ (v : Value) (S : Nat → Prop), Rv S w v x →
    Calls P g ([v].toArray ++ caps) w (Ret fun u w' => Below w.heap.size w w' ∧ Rv (fun b => w.heap.size ≤ b) w' u r)
def Fn2 (P : Program) (g : FuncId) (caps : Array Value) (W : World → Prop) (f : α → β → Option γ) : Prop :=
  Enters P g ∧ ∀ (w : World), W w → ∀ (x : α) (y : β) (r : γ), f x y = some r → ∀ (v v' : Value) (S S' : Nat → Prop), Rv S w v x → Rv S' w v' y →
    Calls P g ([v, v'].toArray ++ caps) w (Ret fun u w' => Below w.heap.size w w' ∧ Rv (fun b => w.heap.size ≤ b) w' u r)
theorem Fn1.mono {f : α → Option γ} (h : Fn1 P g caps W f) (hW : ∀ w, W' w → W w) : Fn1 P g caps W' f := ⟨h.1, fun w hw => h.2 w (hW w hw)⟩
theorem Fn2.mono {f : α → β → Option γ} (h : Fn2 P g caps W f) (hW : ∀ w, W' w → W w) : Fn2 P g caps W' f := ⟨h.1, fun w hw => h.2 w (hW w hw)⟩

/-- a captured variable, at the closure's call and later -/
theorem PtrAt.arg {S : Nat → Prop} {w0 : World} {sb : Option Nat} {pa : Addr} {x : α} (h : PtrAt S w0 pa x) (hs : ∀ b, S b → some b ≠ sb) : PtrAt (In (ent w0 sb) [0]) w0 pa x :=
  h.mono fun b hb hlt => ⟨by simp [In, ent, hlt, hs b hb], rfl⟩
theorem PtrAt.arg0 {S : Nat → Prop} {w0 : World} {pa : Addr} {x : α} (h : PtrAt S w0 pa x) : PtrAt (In (ent w0 none) [0]) w0 pa x := h.arg fun _ _ => by simp
theorem PtrAt.base {w0 : World} {sb : Option Nat} {o : Cls} {w : World} {pa : Addr} {x : α} (h : PtrAt (In (ent w0 sb) [0]) w0 pa x) (k : Ent w0 sb o w) : PtrAt (In o [0]) w pa x :=
  h.mono fun b hb hlt => by
    have h0 : ent w0 sb b = 0 := by simpa [In] using hb
    refine ⟨by simp [In, k.old b hlt, h0], k.blk b hlt fun e => ?_⟩
    simp [ent, hlt, e] at h0
/-- what a caller's variable holds, as a closure reads it in a later world -/
theorem Bk.grown {o : Cls} {c : Nat} {K : List Nat} {w w' : World} {pa : Addr} {cs : List Value} {x : α} {sb : Option Nat} (h : Bk o c w pa cs) (hr : Rep.rd (In o K) w cs x) (k : w.grownBy w' sb) (hs : ∀ b, b < w.heap.size → In o (c :: K) b → some b ≠ sb) : PtrAt (fun _ => True) w' pa x := by
  have h1 : PtrAt (In o (c :: K)) w pa x := by
    refine ⟨cs, Rep.mono (fun b hb _ => ⟨List.mem_cons_of_mem _ hb, rfl⟩) hr, ?_, ?_⟩
    · obtain ⟨_, _, h3, _⟩ := h
      show o pa.block ∈ c :: K
      rw [h3]; exact List.mem_cons_self
    · have := h.at 0 cs.length (by simp)
      rw [add_zero'] at this
      simpa using this
  exact h1.mono fun b hb hlt => ⟨trivial, k.block b hlt (hs b hlt hb)⟩
end

section
variable {α : Type} [Rep α] {T : TypeId} {o o' : Cls} {k : Nat} {K M N : List Nat} {w w' : World} {v : Value} {xs : List α}
/-- a slice that the call may turn: the head of block db, or nil -/
def OwD (T : TypeId) (db : Nat) (w : World) (v : Value) (xs : List α) : Prop := Ow T (fun b => if b = db then 1 else 0) 1 [] w v xs
theorem OwD.in [Flat α] {db : Nat} (h : OwD T db w v xs) : Ow T (ent w (some db)) 1 [] w v xs := by
  rcases h with h | ⟨g, cap, cur, css, h1, h2, h3, h4, h5, h6, h7, h8⟩
  · exact .inl h
  · have hg : g = db := by
      by_cases he : g = db
      · exact he
      · simp [he] at h2
    subst hg
    have hlt : g < w.heap.size := (Array.getElem?_eq_some_iff.1 h3).1
    exact .inr ⟨g, cap, cur, css, h1, by simp [ent, hlt], h3, h4, h5, h6, h7.mono fun _ _ => Flat.any, h8⟩
theorem OwD.out [Flat α] {w0 : World} {db : Nat} {K : List Nat} (h : Ow T o 1 K w v xs) (hE : Ent w0 (some db) o w) : OwD T db w v xs := by
  rcases h with h | ⟨g, cap, cur, css, h1, h2, h3, h4, h5, h6, h7, h8⟩
  · exact .inl h
  · have hg : g = db := by
      by_cases hlt : g < w0.heap.size
      · have := hE.old g hlt
        rw [h2] at this
        unfold ent at this
        rw [if_pos hlt] at this
        by_cases he : g = db
        · exact he
        · simp [he] at this
      · have := hE.new g (Nat.le_of_not_lt hlt) (Array.getElem?_eq_some_iff.1 h3).1
        omega
    subst hg
    exact .inr ⟨g, cap, cur, css, h1, by simp, h3, h4, h5, h6, h7.mono fun _ _ => Flat.any, h8⟩
/-- the caller's side -/
theorem Ow.handed [Flat α] (h : Ow T o k K w v xs) : ∃ db, OwD T db w v xs ∧ (o db = k ∨ w.heap.size ≤ db) ∧ (v = .slice none 0 0 ∨ db < w.heap.size) := by
  rcases h with h | ⟨g, cap, cur, css, h1, h2, h3, h4, h5, h6, h7, h8⟩
  · exact ⟨w.heap.size, .inl h, .inr (Nat.le_refl _), .inl h.1⟩
  · exact ⟨g, .inr ⟨g, cap, cur, css, h1, by simp, h3, h4, h5, h6, h7.mono fun _ _ => Flat.any, h8⟩, .inl h2, .inr (Array.getElem?_eq_some_iff.1 h3).1⟩
theorem handed_new {db : Nat} (n : Nat) (hd : o db = k ∨ w.heap.size ≤ db) (h : w.grownBy w' (some db)) : ∃ o', Evo [k] [n] o w o' w' ∧ ∀ b, w.heap.size ≤ b → o' b = n :=
  ⟨grow o w n, ⟨h.os, h.tape, h.output, h.size, fun b hb => by simp [grow, hb], fun b h1 _ => by simp [grow, Nat.not_lt.2 h1], fun b hb hne => h.block b hb fun e => by
    cases e
    rcases hd with hd | hd
    · exact hne (by simp [hd])
    · omega⟩, fun b hb => grow_new o w n b hb⟩
theorem handed_back [Flat α] {db : Nat} (hd : o db = k ∨ w.heap.size ≤ db) (hv : v = .slice none 0 0 ∨ db < w.heap.size) (e : Evo M N o w o' w') (h : OwD T db w' v xs) : Ow T o' k [] w' v xs := by
  rcases h with h | ⟨g, cap, cur, css, h1, h2, h3, h4, h5, h6, h7, h8⟩
  · exact .inl h
  · have hg : g = db := by
      by_cases he : g = db
      · exact he
      · simp [he] at h2
    subst hg
    rcases hv with hv | hv
    · rw [hv] at h1; cases h1
    · refine .inr ⟨g, cap, cur, css, h1, ?_, h3, h4, h5, h6, h7.mono fun _ _ => Flat.any, h8⟩
      rw [e.old g hv]
      rcases hd with hd | hd
      · exact hd
      · omega
theorem handed_not {db : Nat} (hd : o db = k ∨ w.heap.size ≤ db) (hk : disj K [k] = true) : ∀ b, b < w.heap.size → In o K b → some b ≠ some db := by
  rintro b hlt hb e
  cases e
  rcases hd with hd | hd
  · rw [In, hd] at hb
    exact disj_spec hk hb List.mem_cons_self
  · omega
theorem Ent.handed {w0 : World} {sb : Option Nat} {db : Nat} (hE : Ent w0 sb o w) (hd : o db = k ∨ w.heap.size ≤ db) (hk : Nat.ble 1 k = true) (h : w.grownBy w' (some db)) : w0.grownBy w' sb :=
  ⟨h.os.trans hE.os, h.tape.trans hE.tape, h.output.trans hE.output, Nat.le_trans hE.size h.size, fun b hb hne => by
    rw [← hE.blk b hb hne]
    refine h.block b (Nat.lt_of_lt_of_le hb hE.size) fun e => ?_
    rw [← Option.some.inj e] at hd
    have h0 : o b = 0 := by rw [hE.old b hb, ent, if_pos hb, if_neg hne]
    have := Nat.le_of_ble_eq_true hk
    have := hE.size
    rcases hd with hd | hd <;> omega⟩
end

/-! a function's end without a return -/
section
variable {P : Program} {n : Nat} {L : List (Nat × Value)} {w : World}
theorem NK.fall {fn : Func} {R : Ending → World → Prop} (hr : fn.results = #[]) (hR : R (.returned (resVal [])) w) : NK n (bodyPost P fn R .normal) L w :=
  fun a ha => ⟨ha.defers, _, results_all (L := L) (rs := []) (vs := []) (fun _ _ hx => ha.ev hx) hr trivial, hR⟩
end
section
variable {P : Program} {n : Nat} {L : List (Nat × Value)} {w : World} {Q : Exit → Act → World → Prop} {c : Code}
theorem CW.tail (h : ∀ K : Act → World → Prop, (∀ L' w', NK n (Q .normal) L' w' → NK n K L' w') → CW P n c (Exit.then K Q) L w) : CW P n c Q L w := by
  have h1 := h (Q .normal) (fun _ _ h => h)
  have e : Exit.then (Q .normal) Q = Q := by
    funext x
    cases x <;> rfl
  rwa [e] at h1
end
section
variable {α : Type} [Rep α] {P : Program} {n : Nat} {Q : Exit → Act → World → Prop} {L : List (Nat × Value)} {w : World} {d : Option Tmp} {ty : TypeId} {pos : String} {af : Array Edge} {g : Option (Nat × Bool)} {t : TypeId}
/-- a slice value's head alone -/
def Hd (v : Value) (xs : List α) : Prop := ∃ p cap, v = .slice p xs.length cap ∧ (xs = [] ∨ ∃ a, p = some a)
theorem Rv.hd {S : Nat → Prop} {v : Value} {xs : List α} (h : Rv S w v xs) : Hd v xs := by
  obtain ⟨p, cap, rfl, h1, h2, h3⟩ := rv_list h
  refine ⟨p, cap, rfl, ?_⟩
  rcases h3 with h3 | ⟨a, css, rfl, _⟩
  · exact .inl h3
  · exact .inr ⟨a, rfl⟩
theorem OW.indexAddrH {e : TypeId} {v : Value} {xs : List α} {y : α} {u i : Operand} {k : IntKind} {j : Int} (hu : P.underlying t = some (.slice e)) (hT : TyOk P e α) (hx : ev L u = some v) (h : Hd v xs)
    (hi : ev L i = some (.int k j)) (hj : idx xs j = some y) :
    OW P Q L ⟨d, .indexAddr t u i, ty, pos, af, g⟩ w (fun v' w' => w' = w ∧ ∃ pa, v' = .pointer (some pa) ∧ EPtr v (Rep.sz α) j pa) := by
  obtain ⟨p, cap, rfl, h3⟩ := h
  unfold idx at hj
  split at hj
  · rename_i h0
    have hlt : j.toNat < xs.length := (List.getElem?_eq_some_iff.1 hj).1
    rcases h3 with h3 | ⟨a, rfl⟩
    · subst h3; simp at hj
    · refine OW.run fun b hb => ⟨_, w, ?_, rfl, a.add (j.toNat * Rep.sz α), rfl, a, _, cap, rfl, rfl⟩
      have hjl : j < (xs.length : Int) := by omega
      have e1 : b.eval u = _ := hb _ _ hx
      have e2 : b.eval i = _ := hb _ _ hi
      simp [execOp, e1, e2, Instr.indexAt, asIntOf, run_underlying hu, h0, hjl, hT.sizeOf]
  · cases hj
theorem OW.loadF {S : Nat → Prop} {pa : Addr} {v : Value} {x : Operand} (hT : TyOk P t FnV) (hx : ev L x = some (.pointer (some pa))) (h : PtrAt S w pa (⟨v⟩ : FnV)) :
    OW P Q L ⟨d, .load t x, ty, pos, af, g⟩ w (fun v' w' => v' = v ∧ w' = w) := by
  intro a K ha hK
  refine OW.load hT hx h a K ha ?_
  rintro v' w' ⟨rfl, hr⟩
  exact hK _ _ ⟨rv_fn hr, rfl⟩
theorem Rv.rdA {S : Nat → Prop} {cs : Array Value} {x : α} (h : Rv S w (.agg cs) x) (hg : Rep.agg α = true) : Rep.rd S w cs.toList x := by
  obtain ⟨l, h1, h2⟩ := h
  simp only [pack, hg, if_true] at h1
  cases h1
  simpa using h2
theorem OW.makeFunc {f : Fn} {xs : List Operand} {vs : List Value} (h : evs L xs = some vs) : OW P Q L ⟨d, .makeFunc f #[] xs.toArray, ty, pos, af, g⟩ w (fun v' w' => v' = .func f #[] vs.toArray ∧ w' = w) := by
  refine OW.run fun a hr => ⟨_, w, ?_, rfl, rfl⟩
  have h2 : xs.toArray.map a.eval = vs.toArray := by rw [← evs_map hr _ h]; simp
  simp [execOp, Instr.makeFunc] at h2 ⊢
  rw [h2]
end
end Dp
end Go.Proofs.Ythgnnjdjdmdfoaa
namespace Go.Proofs.Ythgnnjdjdmdfoaa
open Go Go.RowKit

namespace Dp

theorem all2_ints {w : World} {S : Nat → Prop} : ∀ xs : List Int, All2 (Rep.rd S w) (xs.map fun x => [Value.int .i64 x]) xs
  | [] => trivial
  | _ :: xs => ⟨rfl, all2_ints xs⟩
theorem rv_ints {w : World} {a : Addr} {len cap : Nat} {zs : List Int} (hl : len ≤ cap) (hm : cap ≤ maxLen) (hz : len ≤ zs.length) (hc : ∀ i, i < zs.length → w.cell? (a.add i) = some (.int .i64 (zs.getD i 0))) :
    Rv (fun _ => True) w (.slice (some a) len cap) (zs.take len) := by
  have e : (zs.take len).length = len := by simp; omega
  refine ⟨[.slice (some a) len cap], rfl, some a, cap, by rw [e], by rw [e]; exact hl, hm, .inr ⟨a, (zs.take len).map fun x => [Value.int .i64 x], rfl, trivial, all2_ints _, fun j u hj => ?_⟩⟩
  have hf : ((zs.take len).map fun x => [Value.int .i64 x]).flatten = (zs.take len).map (Value.int .i64) := by
    induction (zs.take len) with
    | nil => rfl
    | cons x xs ih => simp [ih]
  rw [hf, List.getElem?_map] at hj
  cases hx : (zs.take len)[j]? with
  | none => simp [hx] at hj
  | some x =>
    rw [hx] at hj
    have hjl : j < (zs.take len).length := (List.getElem?_eq_some_iff.1 hx).1
    rw [e] at hjl
    rw [hc j (by omega)]
    rw [List.getElem?_take_of_lt hjl] at hx
    simp only [Option.map_some, Option.some.injEq] at hj
    rw [← hj, List.getD_eq_getElem?_getD, hx]
    rfl
end Dp
end Go.Proofs.Ythgnnjdjdmdfoaa
