/- Small programs that look at blocks; how a step changes what is known; rules of operations for raw cells. Nothing here names a program. -/
import Derived.Test.YtdfkfohpgakihaaRc
set_option linter.unusedVariables false
set_option linter.unusedSimpArgs false
set_option linter.unusedSectionVars false
namespace Go.Proofs.Ytdfkfohpgakihaa
open Go Go.RowKit Dp

namespace Rx

section
variable {D : Nat → Type}
/-- the small program comes to a, looking at the blocks l -/
def Q.R {α : Type} (ob : List (Nat × Option (AO D))) : Q D α → List Nat → α → Prop
  | .ret b, l, a => l = [] ∧ a = b
  | .fail, _, _ => False
  | .obj i f, l, a => ∃ x l', lookO ob i = some x ∧ l = i :: l' ∧ Q.R ob (f x) l' a
  | .part o f, l, a => ∃ y, o = some y ∧ Q.R ob (f y) l a
theorem Q.go_R {ρ α : Type} {ob : List (Nat × Option (AO D))} {r : ρ} : ∀ {q : Q D α} {lg : List Nat} {k : α → List Nat → Option ρ}, q.go ob lg k = some r → ∃ l a, Q.R ob q l a ∧ k a (l.reverse ++ lg) = some r := by
  intro q
  induction q with
  | ret b => intro lg k h; exact ⟨[], b, ⟨rfl, rfl⟩, h⟩
  | fail => intro lg k h; cases h
  | obj i f ih =>
    intro lg k h
    simp only [Q.go] at h
    split at h
    · rename_i x hx
      obtain ⟨l, a, h1, h2⟩ := ih x h
      exact ⟨i :: l, a, ⟨x, l, hx, rfl, h1⟩, by simpa using h2⟩
    · cases h
  | part o f ih =>
    intro lg k h
    simp only [Q.go, obind] at h
    obtain ⟨y, hy, h⟩ := bindE h
    obtain ⟨l, a, h1, h2⟩ := ih y h
    exact ⟨l, a, ⟨y, hy, h1⟩, h2⟩
theorem Q.R_bind {α β : Type} {ob : List (Nat × Option (AO D))} {f : α → Q D β} {b : β} : ∀ {q : Q D α} {l : List Nat}, Q.R ob (q.bind f) l b → ∃ l1 l2 a, l = l1 ++ l2 ∧ Q.R ob q l1 a ∧ Q.R ob (f a) l2 b := by
  intro q
  induction q with
  | ret c => intro l h; exact ⟨[], l, c, rfl, ⟨rfl, rfl⟩, h⟩
  | fail => intro l h; exact h.elim
  | obj i g ih =>
    intro l h
    obtain ⟨x, l', h1, rfl, h2⟩ := h
    obtain ⟨l1, l2, a, rfl, h3, h4⟩ := ih x h2
    exact ⟨i :: l1, l2, a, rfl, ⟨x, l1, h1, rfl, h3⟩, h4⟩
  | part o g ih =>
    intro l h
    obtain ⟨y, hy, h2⟩ := h
    obtain ⟨l1, l2, a, rfl, h3, h4⟩ := ih y h2
    exact ⟨l1, l2, a, rfl, ⟨y, hy, h3⟩, h4⟩
theorem Q.R_local {α : Type} {ob ob' : List (Nat × Option (AO D))} {a : α} : ∀ {q : Q D α} {l : List Nat}, Q.R ob q l a → (∀ i ∈ l, lookO ob' i = lookO ob i) → Q.R ob' q l a := by
  intro q
  induction q with
  | ret c => intro l h _; exact h
  | fail => intro l h _; exact h
  | obj i g ih =>
    intro l h hl
    obtain ⟨x, l', h1, rfl, h2⟩ := h
    exact ⟨x, l', by rw [hl i (by simp)]; exact h1, rfl, ih x h2 fun j hj => hl j (by simp [hj])⟩
  | part o g ih =>
    intro l h hl
    obtain ⟨y, hy, h2⟩ := h
    exact ⟨y, hy, ih y h2 hl⟩
end

section
variable {D : Nat → Type} [∀ n, Rep (D n)]

/-! steps -/
def addU (U : Nat → Prop) (nid : Nat) : Nat → Prop := fun i => U i ∨ (nid ≤ i ∧ i < nid + 64)
structure Post (U : Nat → Prop) (nid : Nat) (γ : Gh D) (w : World) (ob : List (Nat × Option (AO D))) (e : Eff D) (γ' : Gh D) (v : Value) (w' : World) : Prop where
  fr : Frame γ w γ' w'
  kp : Keep U (addU U nid) γ w γ' w'
  dst : VRV (addU U nid) γ' w' e.dst v
  ob : OB (addU U nid) γ' w' (e.fz.map (fun i => (i, none)) ++ e.upd ++ ob)

/-- what is known before an operation -/
structure Cx (U : Nat → Prop) (nid : Nat) (γ : Gh D) (w : World) (sl : List (Nat × AV D)) (L : List (Nat × Value)) (ob : List (Nat × Option (AO D))) : Prop where
  sr : SR U γ w sl L
  ob : OB U γ w ob
  fresh : ∀ i, nid ≤ i → i < nid + 64 → ¬ U i
  big : 1000 ≤ nid

def rel (ps : List (Nat × Nat)) (x : Nat) : Nat := match lookN ps x with
  | some y => y
  | none => x
theorem rel_nil (x : Nat) : rel [] x = x := rfl
theorem lookN_mem {α : Type} : ∀ {l : List (Nat × α)} {t : Nat} {a : α}, lookN l t = some a → (t, a) ∈ l
  | [], t, a, h => by simp [lookN] at h
  | p :: r, t, a, h => by
    unfold lookN at h
    cases hb : Nat.beq p.1 t with
    | true =>
      simp only [hb, cond_true, Option.some.injEq] at h
      have := Nat.eq_of_beq_eq_true hb
      subst this; subst h
      simp
    | false =>
      simp only [hb, cond_false] at h
      exact List.mem_cons_of_mem _ (lookN_mem h)
theorem lookN_none {α : Type} : ∀ {l : List (Nat × α)} {t : Nat}, lookN l t = none → ∀ a, (t, a) ∉ l
  | [], t, h, a => by simp
  | p :: r, t, h, a => by
    unfold lookN at h
    cases hb : Nat.beq p.1 t with
    | true => simp [hb] at h
    | false =>
      simp only [hb, cond_false] at h
      intro hm
      rcases List.mem_cons.1 hm with rfl | hm
      · simp at hb
      · exact lookN_none h a hm
theorem lookN_append {α : Type} : ∀ (l l' : List (Nat × α)) (t : Nat), lookN (l ++ l') t = match lookN l t with
    | some a => some a
    | none => lookN l' t
  | [], l', t => by simp [lookN]
  | p :: r, l', t => by
    simp only [List.cons_append, lookN]
    cases hb : Nat.beq p.1 t with
    | true => simp
    | false => simp only [cond_false]; exact lookN_append r l' t
theorem lookN_none_iff {α : Type} : ∀ {l : List (Nat × α)} {t : Nat}, lookN l t = none ↔ t ∉ l.map Prod.fst
  | [], t => by simp [lookN]
  | p :: r, t => by
    simp only [lookN, List.map_cons, List.mem_cons, not_or]
    cases hb : Nat.beq p.1 t with
    | true =>
      have := Nat.eq_of_beq_eq_true hb
      simp [this]
    | false =>
      have hne : ¬ t = p.1 := fun e => by subst e; simp at hb
      simp only [cond_false, hne, not_false_eq_true, true_and]
      exact lookN_none_iff

section
variable {U : Nat → Prop} {γ : Gh D} {w w' : World} {ob : List (Nat × Option (AO D))} {nid : Nat} {e : Eff D} {v : Value}

theorem rel_low {ps : List (Nat × Nat)} (hps : ∀ p ∈ ps, 1000 ≤ p.1) {x : Nat} (hx : x < 1000) : rel ps x = x := by
  unfold rel
  split
  · rename_i y hy
    have := hps _ (lookN_mem hy)
    simp only at this
    omega
  · rfl
theorem mkKeep {M N : List Nat} {ps : List (Nat × Nat)} {o' : Cls} {g' : Nat → Value} {v' : Nat → DV D} (ev : Evo M N γ.o w o' w') (hM : ∀ x ∈ M, 1000 ≤ x) (hps : ∀ p ∈ ps, 1000 ≤ p.1) (hg : ∀ i, U i → g' i = γ.g i) (hv : ∀ i, U i → v' i = γ.v i) :
    Keep U (addU U nid) γ w ⟨fun b => rel ps (o' b), g', v'⟩ w' :=
  ⟨fun i h => .inl h, hg, hv, fun b hb hc => ⟨by simp only; rw [ev.old b hb]; exact rel_low hps (by omega), ev.blk b hb fun hm => by
    have := hM _ hm
    omega⟩⟩
theorem look1 {α : Type} {i j : Nat} {a x : α} (h : lookN [(i, a)] j = some x) : i = j ∧ x = a := by
  have := lookN_mem h
  simp only [List.mem_singleton, Prod.mk.injEq] at this
  exact ⟨this.1.symm, this.2⟩
/-- a step: the world's owners change along Evo, then some owners get other numbers, blocks and names of the step's own are added -/
theorem mkPost {M N : List Nat} {ps : List (Nat × Nat)} {o' : Cls} {g' : Nat → Value} {v' : Nat → DV D} (hob : OB U γ w ob) (ev : Evo M N γ.o w o' w')
    (hM : ∀ x ∈ M, 1000 ≤ x ∧ U x ∧ x ∈ e.wr) (hN : ∀ x ∈ N, x ∈ M ∨ (nid ≤ x ∧ x < nid + 64)) (hps : ∀ p ∈ ps, 1000 ≤ p.1 ∧ (U p.1 → p.1 ∈ e.wr) ∧ (p.2 = 1 ∨ (nid ≤ p.2 ∧ p.2 < nid + 64)))
    (hbig : 1000 ≤ nid) (hg : ∀ i, U i → g' i = γ.g i) (hv : ∀ i, U i → v' i = γ.v i)
    (hdst : VRV (addU U nid) ⟨fun b => rel ps (o' b), g', v'⟩ w' e.dst v)
    (hup : ∀ i x, lookN e.upd i = some (some x) → i ∉ e.fz → 1000 ≤ i ∧ addU U nid i ∧ OR (addU U nid) ⟨fun b => rel ps (o' b), g', v'⟩ w' i x) :
    Post U nid γ w ob e ⟨fun b => rel ps (o' b), g', v'⟩ v w' := by
  have hrel : ∀ x, x < 1000 → rel ps x = x := fun x hx => by
    unfold rel
    split
    · rename_i y hy
      have := (hps _ (lookN_mem hy)).1
      simp only at this
      omega
    · rfl
  have hrel2 : ∀ x, rel ps x < 1000 → rel ps x = x ∨ rel ps x = 1 := fun x hx => by
    unfold rel at hx ⊢
    split
    · rename_i y hy
      rw [hy] at hx
      rcases (hps _ (lookN_mem hy)).2.2 with h | h
      · exact .inr h
      · simp only at h hx; omega
    · exact .inl rfl
  have hold : ∀ b, b < w.heap.size → γ.o b < 4 → rel ps (o' b) = γ.o b ∧ w'.heap[b]? = w.heap[b]? := fun b hb h4 => by
    have h1 := ev.old b hb
    refine ⟨by rw [h1]; exact hrel _ (by omega), ev.blk b hb fun hm => ?_⟩
    have := (hM _ hm).1
    omega
  have hfr : Frame γ w ⟨fun b => rel ps (o' b), g', v'⟩ w' := by
    refine ⟨⟨ev.os, ev.tape, ev.output, ev.size, fun b hb hc => hold b hb (by omega), fun b hb hc => ?_⟩, fun i hi => hg i (hob.ro i hi)⟩
    simp only at hc ⊢
    have h1 : rel ps (o' b) = o' b := by
      rcases hrel2 (o' b) (by omega) with h | h
      · exact h
      · omega
    rw [h1] at hc
    by_cases hlt : b < w.heap.size
    · exact ⟨hlt, by rw [h1, ev.old b hlt]⟩
    · have h2 := ev.new b (by omega) hb
      rcases hN _ h2 with h | h
      · have := (hM _ h).1; omega
      · omega
  have hkp : Keep U (addU U nid) γ w ⟨fun b => rel ps (o' b), g', v'⟩ w' :=
    ⟨fun i h => .inl h, hg, hv, fun b hb hc => hold b hb (by omega)⟩
  refine ⟨hfr, hkp, hdst, fun i x hx => ?_, fun b hb => ?_, fun x hx => .inl (hob.ro x hx)⟩
  · by_cases hfz : i ∈ e.fz
    · exfalso
      unfold lookO at hx
      rw [List.append_assoc, lookN_append] at hx
      have : lookN (e.fz.map fun i => (i, (none : Option (AO D)))) i = some none := by
        have h1 : ¬ lookN (e.fz.map fun i => (i, (none : Option (AO D)))) i = none := by
          rw [lookN_none_iff]
          simpa using hfz
        cases hl : lookN (e.fz.map fun i => (i, (none : Option (AO D)))) i with
        | none => exact (h1 hl).elim
        | some y =>
          have := lookN_mem hl
          simp only [List.mem_map] at this
          obtain ⟨_, _, h3⟩ := this
          cases h3
          rfl
      rw [this] at hx
      cases hx
    · have h0 : lookN (e.fz.map fun i => (i, (none : Option (AO D)))) i = none := by
        rw [lookN_none_iff]
        simpa using hfz
      unfold lookO at hx
      rw [List.append_assoc, lookN_append, h0] at hx
      simp only at hx
      rw [lookN_append] at hx
      cases hu : lookN e.upd i with
      | some y =>
        rw [hu] at hx
        cases y with
        | none => cases hx
        | some y =>
          cases hx
          exact hup i x hu hfz
      | none =>
        rw [hu] at hx
        simp only at hx
        obtain ⟨h1, h2, h3⟩ := hob.ob i x hx
        have hnw : i ∉ e.wr := by
          unfold Eff.wr
          rw [List.mem_append, not_or]
          exact ⟨lookN_none_iff.1 hu, hfz⟩
        refine ⟨h1, .inl h2, h3.keep hkp h2 fun b hb hc => ?_⟩
        have hM' : i ∉ M := fun hm => hnw (hM _ hm).2.2
        have hr : rel ps i = i := by
          unfold rel
          split
          · rename_i y hy
            exact (hnw ((hps _ (lookN_mem hy)).2.1 h2)).elim
          · rfl
        exact ⟨by simp only; rw [ev.old b hb, hc, hr], ev.blk b hb (by rw [hc]; exact hM')⟩
  · simp only
    have h1 : U (o' b) ∨ (nid ≤ o' b ∧ o' b < nid + 64) := by
      by_cases hlt : b < w.heap.size
      · rw [ev.old b hlt]; exact .inl (hob.cl b hlt)
      · rcases hN _ (ev.new b (by omega) hb) with h | h
        · exact .inl (hM _ h).2.1
        · exact .inr h
    unfold rel
    split
    · rename_i y hy
      rcases (hps _ (lookN_mem hy)).2.2 with h | h
      · simp only at h; subst h; exact .inl (hob.ro 1 (by omega))
      · exact .inr h
    · exact h1
end

/-- what is known of blocks behind a step -/
theorem ob_put {U U' : Nat → Prop} {γ γ' : Gh D} {w w' : World} {ob : List (Nat × Option (AO D))} {e : Eff D} (hob : OB U γ w ob) (k : Keep U U' γ w γ' w') (hun : ∀ i, U i → 1000 ≤ i → i ∉ e.wr → ∀ b, b < w.heap.size → γ.o b = i → γ'.o b = γ.o b ∧ w'.heap[b]? = w.heap[b]?)
    (hcl : ∀ b, b < w'.heap.size → U' (γ'.o b)) (hup : ∀ i x, lookN e.upd i = some (some x) → i ∉ e.fz → 1000 ≤ i ∧ U' i ∧ OR U' γ' w' i x) : OB U' γ' w' (e.fz.map (fun i => (i, none)) ++ e.upd ++ ob) := by
  refine ⟨fun i x hx => ?_, hcl, fun x hx => k.u _ (hob.ro x hx)⟩
  by_cases hfz : i ∈ e.fz
  · exfalso
    unfold lookO at hx
    rw [List.append_assoc, lookN_append] at hx
    have : lookN (e.fz.map fun i => (i, (none : Option (AO D)))) i = some none := by
      have h1 : ¬ lookN (e.fz.map fun i => (i, (none : Option (AO D)))) i = none := by
        rw [lookN_none_iff]
        simpa using hfz
      cases hl : lookN (e.fz.map fun i => (i, (none : Option (AO D)))) i with
      | none => exact (h1 hl).elim
      | some y =>
        have := lookN_mem hl
        simp only [List.mem_map] at this
        obtain ⟨_, _, h3⟩ := this
        cases h3
        rfl
    rw [this] at hx
    cases hx
  · have h0 : lookN (e.fz.map fun i => (i, (none : Option (AO D)))) i = none := by
      rw [lookN_none_iff]
      simpa using hfz
    unfold lookO at hx
    rw [List.append_assoc, lookN_append, h0] at hx
    simp only at hx
    rw [lookN_append] at hx
    cases hu : lookN e.upd i with
    | some y =>
      rw [hu] at hx
      cases y with
      | none => cases hx
      | some y =>
        cases hx
        exact hup i x hu hfz
    | none =>
      rw [hu] at hx
      simp only at hx
      obtain ⟨h1, h2, h3⟩ := hob.ob i x hx
      have hnw : i ∉ e.wr := by
        unfold Eff.wr
        rw [List.mem_append, not_or]
        exact ⟨lookN_none_iff.1 hu, hfz⟩
      exact ⟨h1, k.u _ h2, h3.keep k h2 (hun i h2 h1 hnw)⟩

/-! operations on raw cells -/
structure TyR (P : Program) (t : TypeId) (g : Bool) (z : List Value) : Prop where
  agg : ∃ d, P.underlying t = some d ∧ isAggD d = g
  info : ∃ i, P.info? t = some i ∧ i.size = z.length ∧ i.zero = some (pack g z)
section
variable {P : Program} {Qx : Exit → Act → World → Prop} {L : List (Nat × Value)} {w : World} {d : Option Tmp} {ty : TypeId} {pos : String} {af : Array Edge} {g : Option (Nat × Bool)} {t : TypeId} {x u : Operand} {a : Bool} {z : List Value} {o : Cls}
theorem TyR.isAgg (h : TyR P t a z) (w : World) : (isAgg t).run P w = .ok a w := by
  obtain ⟨d, h1, h2⟩ := h.agg
  unfold Go.isAgg
  rw [Sem.run_bind, run_underlying h1 w]
  simp only [Result.andThen_ok]
  rw [← h2]
  cases d <;> rfl
theorem TyR.sizeOf (h : TyR P t a z) (w : World) : (sizeOf t).run P w = .ok z.length w := by
  obtain ⟨i, h1, h2, _⟩ := h.info
  simp [Go.sizeOf, typeInfo, h1, h2]
theorem TyR.zero (h : TyR P t a z) (w : World) : (zeroValue t).run P w = .ok (pack a z) w := by
  obtain ⟨i, h1, _, h4⟩ := h.info
  simp [zeroValue, typeInfo, h1, h4]
theorem OW.loadR {pa : Addr} {cs : List Value} (hT : TyR P t a z) (hz : a = false → z.length = 1) (hx : ev L x = some (.pointer (some pa))) (hc : CellsAt w pa cs) (hl : cs.length = z.length) :
    OW P Qx L ⟨d, .load t x, ty, pos, af, g⟩ w (fun v' w' => v' = pack a cs ∧ w' = w) := by
  refine OW.run fun b hb => ⟨pack a cs, w, ?_, rfl, rfl⟩
  have hrun : (loadVar t pa).run P w = .ok (pack a cs) w := by
    simp only [loadVar, Sem.run_bind, hT.isAgg, Result.andThen_ok]
    cases a with
    | true =>
      have := run_loadCells_list (P := P) w pa cs hc
      rw [hl] at this
      simp [hT.sizeOf, this, pack]
    | false =>
      rw [hz rfl] at hl
      match cs, hl, hc with
      | [u], _, hc =>
        have := hc 0 u rfl
        have hu : w.cell? pa = some u := by simpa [Addr.add] using this
        simp [pack, hu]
  simp [execOp, hb _ _ hx, Instr.loadAt, Instr.sureAddr, hrun]
theorem OW.storeR {b off : Nat} {cs vs : List Value} {T' : TypeId} {v : Value} {c : Nat} (hT : TyR P t a z) (hx : ev L x = some (.pointer (some ⟨b, off, none⟩))) (hu : ev L u = some v) (hb : w.heap[b]? = some (.cells cs.toArray T' (0, 0))) (ho : o b = c)
    (hv : v.cells = vs.toArray) (h1 : ∀ u ∈ vs, u.oneCell' = true) (hl : vs.length = z.length) (hle : off + vs.length ≤ cs.length) :
    OW P Qx L ⟨d, .store t x u, ty, pos, af, g⟩ w (fun v' w' => v' = undef ∧ Evo [c] [] o w o w' ∧ w'.heap[b]? = some (.cells (cs.take off ++ vs ++ cs.drop (off + vs.length)).toArray T' (0, 0))) := by
  have hst := run_storeCells_at P b off T' vs 0 cs.toArray w hb (by simp; omega) h1
  simp only [Nat.add_zero] at hst
  have hev : Evo [c] [] o w o (w.setRow b (cs.take off ++ vs ++ cs.drop (off + vs.length)).toArray) := Evo.row _ ho
  refine OW.runSkip fun a ha => ⟨_, ?_, rfl, hev, setRow_heap w b _ _ T' _ hb⟩
  simp [execOp, ha _ _ hx, ha _ _ hu, Instr.storeAt, Instr.sureAddr, storeVar, hT.sizeOf, hv, hl, hst]
theorem OW.allocR (c : Nat) (hT : TyR P t a z) (hz : a = false → ∃ u, z = [u] ∧ u.oneCell' = true) :
    OW P Qx L ⟨d, .alloc t, ty, pos, af, g⟩ w (fun v' w' => ∃ b, v' = ptrV b 0 ∧ w.heap.size ≤ b ∧ Evo [] [c] o w (grow o w c) w' ∧ w'.heap[b]? = some (.cells z.toArray t (0, 0))) := by
  refine OW.run fun b ha => ⟨_, w.alloc (.cells z.toArray t), ?_, w.heap.size, rfl, Nat.le_refl _, Evo.alloc o w _ c, heap_alloc_new w _⟩
  have hpk : (pack a z).cells = z.toArray := by
    cases a with
    | true => rfl
    | false =>
      obtain ⟨u, rfl, h1⟩ := hz rfl
      exact cells_one h1
  simp [execOp, Instr.alloc, hT.zero, newVar, newRow, hpk, newObj]
  rfl
theorem OW.boxR {v : Value} (c : Nat) (cs : List Value) (hx : ev L u = some v) (hv : v.cells = cs.toArray) :
    OW P Qx L ⟨d, .box t u, ty, pos, af, g⟩ w (fun v' w' => ∃ b, v' = ptrV b 0 ∧ w.heap.size ≤ b ∧ Evo [] [c] o w (grow o w c) w' ∧ w'.heap[b]? = some (.cells cs.toArray t (0, 0))) := by
  refine OW.run fun a ha => ⟨_, w.alloc (.cells cs.toArray t), ?_, w.heap.size, rfl, Nat.le_refl _, Evo.alloc o w _ c, heap_alloc_new w _⟩
  simp [execOp, ha _ _ hx, Instr.box, newVar, newRow, hv, newObj]
  rfl
theorem OW.buildR {parts : List (Nat × Operand)} {vs : List (Nat × Value)} {pl : List (Nat × Nat)} (vcs : List (Nat × List Value)) (cs' : List Value) (hst : StOk P t pl) (hT : TyR P t true z) (hp : evsN L parts = some vs) (hc : PartCells vs vcs) (hf : fillC pl z vcs = some cs') :
    OW P Qx L ⟨d, .build t parts.toArray, ty, pos, af, g⟩ w (fun v' w' => v' = .agg cs'.toArray ∧ w' = w) := by
  obtain ⟨fs, h1, h2⟩ := hst.fs
  obtain ⟨i, hi1, hi2, hi4⟩ := hT.info
  have h3 := fillC_run hc hf
  refine OW.run fun a ha => ⟨.agg cs'.toArray, w, ?_, rfl, rfl⟩
  have hparts : (parts.toArray.map fun (x : Nat × Operand) => (x.1, a.eval x.2)).toList = vs := by
    rw [← evsN_map ha hp]; simp
  have hpk' : (pack true z).cells = z.toArray := rfl
  have hb : P.built t (parts.toArray.map fun (x : Nat × Operand) => (x.1, a.eval x.2)).toList = some cs'.toArray := by
    simp only [Program.built, hi1, h1, hi4, h2, hpk', hparts, h3]
  have hr := run_build (P := P) w t _ _ hb
  simp only [execOp, Sem.run_bind]
  rw [hr]
  rfl
end
end
end Rx
end Go.Proofs.Ytdfkfohpgakihaa
