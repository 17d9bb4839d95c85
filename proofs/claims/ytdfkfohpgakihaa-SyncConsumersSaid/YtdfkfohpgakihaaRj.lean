/- Calls by contract. Nothing here names a program. -/
import Derived.Test.YtdfkfohpgakihaaRi
set_option linter.unusedVariables false
set_option linter.unusedSimpArgs false
set_option linter.unusedSectionVars false
namespace Go.Proofs.Ytdfkfohpgakihaa
open Go Go.RowKit Dp

namespace Rx

section
variable {D : Nat → Type} [∀ n, Rep (D n)]
variable {T : Tab D} {U U' : Nat → Prop} {γ γ' : Gh D} {w w' : World} {ob : List (Nat × Option (AO D))} {l : List Nat}

/-- where the result lies -/
def VRR (U : Nat → Prop) (γ : Gh D) (w : World) (rs : List (AC D)) (v : Value) : Prop := VRV U γ w (resAV rs) v
def U0 : Nat → Prop := fun i => i < 2000
/-- a contract holds -/
structure ConOk (P : Program) (T : Tab D) (c : Con D) : Prop where
  ent : ∀ (args : Array Value) (w : World), (callFunc c.f args).run P w = .ok (.enter c.f args) w
  ks : ksOk c.res c.ob' = true
  key : nodupB (c.ob'.map Prod.fst) = true
  big : c.ob'.all (fun p => Nat.ble 1000 p.1) = true
  few : Nat.ble c.ob'.length 40 = true
  run : ∀ (h : HH D c.ins) (r : HH D c.outs), c.fn h = some r → ∀ as obs, inCs T (ofHH T c.ins h) some id 1100 c.args = some as → inOs T (ofHH T c.ins h) some id 1100 c.ob = some obs →
    ∀ (γ : Gh D) (w : World) (vs : List Value), VRCs U0 γ w as vs → OB U0 γ w obs → Calls P c.f vs.toArray w (Ret fun v w' => ∃ U' γ' rs obs', inCs T (ofHH T c.outs r) some id 3000 c.res = some rs ∧ inOs T (ofHH T c.outs r) some id 3000 c.ob' = some obs' ∧
      VRR U' γ' w' rs v ∧ (∀ p x, lookO obs' p = some x → OR U' γ' w' p x) ∧ (∀ p, (p, p) ∈ stay c → γ'.g p = γ.g p) ∧ Frame0 γ w γ' w')

/-! the same pattern filled in with other numbers -/
structure Re (ok : Nat → Prop) (U' U : Nat → Prop) (γ' γ : Gh D) (w : World) (fl : List (DV D)) (ri : Nat → Option Nat) (rK : List Nat → List Nat) (tg : Nat) : Prop where
  id : ∀ p i, ri p = some i → U i ∧ γ.g i = γ'.g p
  K : ∀ K, (∀ x ∈ K, ok x) → roK (rK K) ∧ ∀ b, b < w.heap.size → In γ'.o K b → In γ.o (rK K) b
  nm : ∀ i d, fl[i]? = some d → i < 48 → named U γ (tg + i) d
  few : fl.length ≤ 48
section
variable {ok : Nat → Prop} {fl : List (DV D)} {ri : Nat → Option Nat} {rK : List Nat → List Nat} {tg t0 : Nat}
theorem Re.mem (hr : Re ok U' U γ' γ w fl ri rK tg) {K : List Nat} (hK : ∀ x ∈ K, ok x) : ∀ b, In γ'.o K b → b < w.heap.size → In γ.o (rK K) b ∧ w.heap[b]? = w.heap[b]? := fun b hb hlt => ⟨(hr.K K hK).2 b hlt hb, rfl⟩
theorem in0_re (hr : Re ok U' U γ' γ w fl ri rK tg) {p : P0} (hK : match p with | .rp _ _ K => ∀ x ∈ K, ok x | _ => True) {a b : A0 D} {v : Value} (ha : in0 T fl some id p = some a) (hb : in0 T fl ri rK p = some b) (hv : VR0 U' γ' w a v) : VR0 U γ w b v := by
  cases p with
  | ptr q off =>
    simp only [in0] at ha hb
    split at hb
    case h_2 => cases hb
    rename_i i hi
    cases ha
    cases hb
    obtain ⟨hU, c, h1, h2⟩ := hv
    obtain ⟨k1, k2⟩ := hr.id q i hi
    exact ⟨k1, c, by rw [k2]; exact h1, h2⟩
  | rp i n K =>
    simp only [in0] at ha hb
    split at ha
    case h_2 => cases ha
    rename_i x hx
    rw [hx] at hb
    cases ha
    cases hb
    obtain ⟨pa, h1, h2, h3⟩ := hv
    exact ⟨pa, h1, h2.mono (hr.mem hK), (hr.K K hK).1⟩
theorem in0s_re (hr : Re ok U' U γ' γ w fl ri rK tg) : ∀ {ps : List P0} {as bs : List (A0 D)} {vs : List Value}, (∀ p ∈ ps, match p with | .rp _ _ K => ∀ x ∈ K, ok x | _ => True) → in0s T fl some id ps = some as → in0s T fl ri rK ps = some bs → VR0s U' γ' w as vs → VR0s U γ w bs vs
  | [], as, bs, vs, _, ha, hb, hv => by
    cases ha
    cases hb
    cases vs with
    | nil => trivial
    | cons _ _ => exact hv.elim
  | p :: ps, as, bs, vs, hK, ha, hb, hv => by
    simp only [in0s] at ha hb
    split at ha
    case h_2 => cases ha
    rename_i a1 a2 g1 g2
    split at hb
    case h_2 => cases hb
    rename_i b1 b2 g3 g4
    cases ha
    cases hb
    cases vs with
    | nil => exact hv.elim
    | cons v vs => exact ⟨in0_re hr (hK p (by simp)) g1 g3 hv.1, in0s_re hr (fun p hp => hK p (by simp [hp])) g2 g4 hv.2⟩
theorem in1_re (hr : Re ok U' U γ' γ w fl ri rK tg) {p : P1} (hK : ∀ x ∈ ksP1 p, ok x) {a b : A1 D} {v : Value} (ha : in1 T fl some id t0 p = some a) (hb : in1 T fl ri rK tg p = some b) (hv : VR1 U' γ' w a v) : VR1 U γ w b v := by
  cases p with
  | h i K =>
    simp only [in1] at ha hb
    split at ha
    case h_2 => cases ha
    rename_i lf x hx
    rw [hx] at hb
    cases ha
    cases hb
    obtain ⟨h1, h2, h3⟩ := hv
    have hn := hr.nm i _ hx (by have := (List.getElem?_eq_some_iff.1 hx).1; have := hr.few; omega)
    refine LfRd.toV ?_ (hr.K K hK).1 hn
    cases lf with
    | sl n => exact LfRd.mono (d := ⟨.sl n, x⟩) (hr.mem hK) h1
    | int k => exact h1
    | bool => exact h1
    | str => exact h1
  | ptr q off =>
    simp only [in1] at ha hb
    split at hb
    case h_2 => cases hb
    rename_i i hi
    cases ha
    cases hb
    obtain ⟨hU, c, h1, h2⟩ := hv
    obtain ⟨k1, k2⟩ := hr.id q i hi
    exact ⟨k1, c, by rw [k2]; exact h1, h2⟩
  | own q =>
    simp only [in1] at ha hb
    split at hb
    case h_2 => cases hb
    rename_i i hi
    cases ha
    cases hb
    obtain ⟨hU, h1, h2⟩ := hv
    obtain ⟨k1, k2⟩ := hr.id q i hi
    exact ⟨k1, by rw [k2]; exact h1, h2⟩
  | rp i n K =>
    simp only [in1] at ha hb
    split at ha
    case h_2 => cases ha
    rename_i x hx
    rw [hx] at hb
    cases ha
    cases hb
    obtain ⟨pa, h1, h2, h3⟩ := hv
    exact ⟨pa, h1, h2.mono (hr.mem hK), (hr.K K hK).1⟩
  | fn f ps =>
    simp only [in1] at ha hb
    split at ha
    case h_2 => cases ha
    rename_i a2 g1
    split at hb
    case h_2 => cases hb
    rename_i b2 g2
    cases ha
    cases hb
    obtain ⟨cs, h1, h2⟩ := hv
    refine ⟨cs, h1, in0s_re hr (fun p hp => ?_) g1 g2 h2⟩
    split
    · rename_i i n K
      intro x hx
      refine hK x ?_
      simp only [ksP1, List.mem_flatMap]
      exact ⟨_, hp, hx⟩
    · trivial
  | nils => cases ha; cases hb; exact hv
  | nilp => cases ha; cases hb; exact hv
  | any => cases hb; trivial
theorem in1s_re (hr : Re ok U' U γ' γ w fl ri rK tg) : ∀ {ps : List P1} {as bs : List (A1 D)} {vs : List Value}, (∀ p ∈ ps, ∀ x ∈ ksP1 p, ok x) → in1s T fl some id t0 ps = some as → in1s T fl ri rK tg ps = some bs → VR1s U' γ' w as vs → VR1s U γ w bs vs
  | [], as, bs, vs, _, ha, hb, hv => by
    cases ha
    cases hb
    cases vs with
    | nil => trivial
    | cons _ _ => exact hv.elim
  | p :: ps, as, bs, vs, hK, ha, hb, hv => by
    simp only [in1s] at ha hb
    split at ha
    case h_2 => cases ha
    rename_i a1 a2 g1 g2
    split at hb
    case h_2 => cases hb
    rename_i b1 b2 g3 g4
    cases ha
    cases hb
    cases vs with
    | nil => exact hv.elim
    | cons v vs => exact ⟨in1_re hr (hK p (by simp)) g1 g3 hv.1, in1s_re hr (fun p hp => hK p (by simp [hp])) g2 g4 hv.2⟩
theorem inC_re (hr : Re ok U' U γ' γ w fl ri rK tg) {p : PC} (hK : ∀ x ∈ ksPC p, ok x) {a b : AC D} {v : Value} (ha : inC T fl some id t0 p = some a) (hb : inC T fl ri rK tg p = some b) (hv : VRC U' γ' w a v) : VRC U γ w b v := by
  cases p with
  | one p =>
    simp only [inC] at ha hb
    split at ha
    case h_2 => cases ha
    rename_i a1 g1
    split at hb
    case h_2 => cases hb
    rename_i b1 g2
    cases ha
    cases hb
    exact in1_re hr hK g1 g2 hv
  | agg ps =>
    simp only [inC] at ha hb
    split at ha
    case h_2 => cases ha
    rename_i a1 g1
    split at hb
    case h_2 => cases hb
    rename_i b1 g2
    cases ha
    cases hb
    obtain ⟨us, h1, h2⟩ := hv
    exact ⟨us, h1, in1s_re hr (fun p hp x hx => hK x (by simp only [ksPC, List.mem_flatMap]; exact ⟨p, hp, hx⟩)) g1 g2 h2⟩
theorem inCs_re (hr : Re ok U' U γ' γ w fl ri rK tg) : ∀ {ps : List PC} {as bs : List (AC D)} {vs : List Value}, (∀ x ∈ ps.flatMap ksPC, ok x) → inCs T fl some id t0 ps = some as → inCs T fl ri rK tg ps = some bs → VRCs U' γ' w as vs → VRCs U γ w bs vs
  | [], as, bs, vs, _, ha, hb, hv => by
    cases ha
    cases hb
    cases vs with
    | nil => trivial
    | cons _ _ => exact hv.elim
  | p :: ps, as, bs, vs, hK, ha, hb, hv => by
    simp only [inCs] at ha hb
    split at ha
    case h_2 => cases ha
    rename_i a1 a2 g1 g2
    split at hb
    case h_2 => cases hb
    rename_i b1 b2 g3 g4
    cases ha
    cases hb
    cases vs with
    | nil => exact hv.elim
    | cons v vs => exact ⟨inC_re hr (fun x hx => hK x (by simp [hx])) g1 g3 hv.1, inCs_re hr (fun x hx => hK x (by rw [List.flatMap_cons]; exact List.mem_append.2 (.inr hx))) g2 g4 hv.2⟩
theorem inCs_len {fl : List (DV D)} {ri : Nat → Option Nat} {rK : List Nat → List Nat} {tg : Nat} : ∀ {ps : List PC} {as : List (AC D)}, inCs T fl ri rK tg ps = some as → as.length = ps.length
  | [], as, h => by cases h; rfl
  | p :: ps, as, h => by
    simp only [inCs] at h
    split at h
    case h_2 => cases h
    rename_i a1 a2 g1 g2
    cases h
    simp [inCs_len g2]
theorem res_re (hr : Re ok U' U γ' γ w fl ri rK tg) {ps : List PC} (hK : ∀ x ∈ ps.flatMap ksPC, ok x) {as bs : List (AC D)} {v : Value} (ha : inCs T fl some id t0 ps = some as) (hb : inCs T fl ri rK tg ps = some bs) (hv : VRR U' γ' w as v) : VRR U γ w bs v := by
  have hl : as.length = bs.length := (inCs_len ha).trans (inCs_len hb).symm
  unfold VRR at hv ⊢
  match as, bs, hl with
  | [], [], _ =>
    obtain ⟨us, h1, h2⟩ := hv
    cases us with
    | nil => exact ⟨[], h1, trivial⟩
    | cons _ _ => exact h2.elim
  | [a], [b], _ =>
    have := inCs_re (vs := [v]) hr hK ha hb ⟨hv, trivial⟩
    exact this.1
  | a :: a' :: as, b :: b' :: bs, _ =>
    obtain ⟨us, h1, h2⟩ := hv
    exact ⟨us, h1, inCs_re hr hK ha hb h2⟩
theorem inO_re (hr : Re ok U' U γ' γ w fl ri rK tg) {p : PO} (hK : ∀ x ∈ ksPO p, ok x) {a b : AO D} {q i : Nat} (hg : γ.g i = γ'.g q) (hq : ∀ b, b < w.heap.size → γ'.o b = q → γ.o b = i) (ha : inO T fl some id t0 p = some a) (hb : inO T fl ri rK tg p = some b) (hv : OR U' γ' w q a) : OR U γ w i b := by
  cases p with
  | box ps =>
    simp only [inO] at ha hb
    split at ha
    case h_2 => cases ha
    rename_i a1 g1
    split at ha
    case isFalse => cases ha
    split at hb
    case h_2 => cases hb
    rename_i b1 g2
    split at hb
    case isFalse => cases hb
    rename_i hst
    cases ha
    cases hb
    obtain ⟨c, us, t, h1, h2, h3, h4, h5⟩ := hv
    exact ⟨c, us, t, by rw [hg]; exact h1, hq c (Array.getElem?_eq_some_iff.1 h3).1 h2, h3, in1s_re hr (fun p hp x hx => hK x (by simp only [ksPO, List.mem_flatMap]; exact ⟨p, hp, hx⟩)) g1 g2 h4, hst⟩
  | sl n t j K =>
    simp only [inO] at ha hb
    split at ha
    case h_2 => cases ha
    rename_i n' xs hx
    rw [hx] at hb
    dsimp only at hb
    split at ha
    case isFalse => cases ha
    rename_i hn
    rw [if_pos hn] at hb
    cases ha
    cases hb
    obtain ⟨h1, h2, h3⟩ := hv
    have hn := hr.nm j _ hx (by have := (List.getElem?_eq_some_iff.1 hx).1; have := hr.few; omega)
    refine ⟨?_, (hr.K K hK).1, hn⟩
    rw [hg]
    rcases h1 with h1 | ⟨g, cap, cur, css, e1, e2, e3, e4, e5, e6, e7, e8⟩
    · exact .inl h1
    · exact .inr ⟨g, cap, cur, css, e1, hq g (Array.getElem?_eq_some_iff.1 e3).1 e2, e3, e4, e5, e6, e7.mono fun _ _ => Rep.mono (hr.mem hK), e8⟩
  | kid n t tc q' j =>
    simp only [inO] at ha hb
    split at ha
    case h_2 => cases ha
    rename_i n' xs hx
    rw [hx] at hb
    dsimp only at hb
    split at ha
    case isFalse => cases ha
    rename_i hn
    rw [if_pos hn] at hb
    cases ha
    cases hb
    obtain ⟨h1, h2, h3⟩ := hv
    have hn := hr.nm j _ hx (by have := (List.getElem?_eq_some_iff.1 hx).1; have := hr.few; omega)
    obtain ⟨m0, m1⟩ := kcls_mono (v := γ'.g q) (o := γ'.o) (o' := γ.o) (i := q) (i' := i) (w := w) (w' := w) fun b hb ho => ⟨hq b hb ho, rfl⟩
    exact ⟨by rw [hg]; exact h1.mono m0 m1, hn, .inl rfl⟩
theorem inOs_keys {fl : List (DV D)} {ri : Nat → Option Nat} {rK : List Nat → List Nat} {tg : Nat} : ∀ {po : List (Nat × PO)} {obs : List (Nat × Option (AO D))} {p i : Nat} {q : PO}, inOs T fl ri rK tg po = some obs → (p, q) ∈ po → ri p = some i → i ∈ obs.map Prod.fst
  | [], obs, p, i, q, h, hm, _ => by cases hm
  | (p', q') :: po, obs, p, i, q, h, hm, hi => by
    simp only [inOs] at h
    split at h
    case h_2 => cases h
    rename_i i' a b g0 g1 g2
    cases h
    rcases List.mem_cons.1 hm with e1 | hm
    · cases e1
      rw [hi] at g0
      cases g0
      simp
    · have := inOs_keys g2 hm hi
      rw [List.map_cons]
      exact List.mem_cons_of_mem _ this
/-- a block among those that a pattern makes -/
theorem inOs_get {fl : List (DV D)} {ri : Nat → Option Nat} {rK : List Nat → List Nat} {tg : Nat} : ∀ {po : List (Nat × PO)} {obs : List (Nat × Option (AO D))} {i : Nat} {x : Option (AO D)}, inOs T fl ri rK tg po = some obs → lookN obs i = some x → ∃ p q y, (p, q) ∈ po ∧ ri p = some i ∧ inO T fl ri rK tg q = some y ∧ x = some y
  | [], obs, i, x, h, hx => by cases h; cases hx
  | (p, q) :: po, obs, i, x, h, hx => by
    simp only [inOs] at h
    split at h
    case h_2 => cases h
    rename_i i' a b g0 g1 g2
    cases h
    unfold lookN at hx
    cases hb : Nat.beq i' i with
    | true =>
      have := Nat.eq_of_beq_eq_true hb
      subst this
      simp only [hb, cond_true, Option.some.injEq] at hx
      subst hx
      exact ⟨p, q, a, by simp, g0, g1, rfl⟩
    | false =>
      simp only [hb, cond_false] at hx
      obtain ⟨p', q', y, h1, h2, h3, h4⟩ := inOs_get g2 hx
      exact ⟨p', q', y, by simp [h1], h2, h3, h4⟩
theorem inOs_put {fl : List (DV D)} {tg : Nat} : ∀ {po : List (Nat × PO)} {obs : List (Nat × Option (AO D))} {p : Nat} {q : PO}, inOs T fl some id tg po = some obs → nodupB (po.map Prod.fst) = true → (p, q) ∈ po → ∃ y, inO T fl some id tg q = some y ∧ lookO obs p = some y
  | [], obs, p, q, h, _, hm => by cases hm
  | (p', q') :: po, obs, p, q, h, hn, hm => by
    simp only [inOs] at h
    split at h
    case h_2 => cases h
    rename_i i' a b g0 g1 g2
    cases g0
    cases h
    simp only [List.map_cons, nodupB, Bool.and_eq_true, Bool.not_eq_true'] at hn
    rcases List.mem_cons.1 hm with e1 | hm
    · cases e1
      exact ⟨a, g1, by simp [lookO, lookN]⟩
    · obtain ⟨y, h1, h2⟩ := inOs_put g2 hn.2 hm
      refine ⟨y, h1, ?_⟩
      have hne : Nat.beq p' p = false := by
        cases hb : Nat.beq p' p with
        | true =>
          have := Nat.eq_of_beq_eq_true hb
          exact (memN_false hn.1 (by rw [this]; exact List.mem_map.2 ⟨_, hm, rfl⟩)).elim
        | false => rfl
      unfold lookO at h2 ⊢
      simpa [lookN, hne] using h2
end

/-! numbers of the blocks that a call gives back -/
def swap (l : List (Nat × Nat)) : List (Nat × Nat) := l.map fun p => (p.2, p.1)
theorem swap_mem {l : List (Nat × Nat)} {p i : Nat} : (i, p) ∈ swap l ↔ (p, i) ∈ l := by
  simp only [swap, List.mem_map, Prod.mk.injEq, Prod.exists]
  constructor
  · rintro ⟨a, b, h, rfl, rfl⟩; exact h
  · intro h; exact ⟨p, i, h, rfl, rfl⟩
theorem look_swap {l : List (Nat × Nat)} (hu : ∀ p p' i, (p, i) ∈ l → (p', i) ∈ l → p = p') {p i : Nat} (h : (p, i) ∈ l) : lookN (swap l) i = some p := by
  cases hl : lookN (swap l) i with
  | none => exact (lookN_none hl p (swap_mem.2 h)).elim
  | some p' =>
    have := swap_mem.1 (lookN_mem hl)
    rw [hu p p' i h this]
theorem look_fst {l : List (Nat × Nat)} (hu : ∀ p i i', (p, i) ∈ l → (p, i') ∈ l → i = i') {p i : Nat} (h : (p, i) ∈ l) : lookN l p = some i := by
  cases hl : lookN l p with
  | none => exact (lookN_none hl i h).elim
  | some i' => rw [hu p i i' h (lookN_mem hl)]
theorem newIds_mem {known : List (Nat × Nat)} : ∀ {k : Nat} {po : List (Nat × PO)} {p i : Nat}, (p, i) ∈ newIds known k po → memN (po.map Prod.fst) p = true ∧ (lookN known p = some i ∨ (lookN known p = none ∧ k ≤ i ∧ i < k + po.length))
  | k, [], p, i, h => by cases h
  | k, (q, x) :: r, p, i, h => by
    simp only [newIds] at h
    split at h
    · rename_i i' hi
      rcases List.mem_cons.1 h with e1 | h
      · cases e1
        exact ⟨by simp [memN], .inl hi⟩
      · obtain ⟨h1, h2⟩ := newIds_mem h
        refine ⟨by simp only [List.map_cons, memN]; cases Nat.beq q p <;> simp [h1], ?_⟩
        rcases h2 with h2 | ⟨h2, h3, h4⟩
        · exact .inl h2
        · exact .inr ⟨h2, h3, by simp; omega⟩
    · rename_i hi
      rcases List.mem_cons.1 h with e1 | h
      · cases e1
        exact ⟨by simp [memN], .inr ⟨hi, Nat.le_refl _, by simp⟩⟩
      · obtain ⟨h1, h2⟩ := newIds_mem h
        refine ⟨by simp only [List.map_cons, memN]; cases Nat.beq q p <;> simp [h1], ?_⟩
        rcases h2 with h2 | ⟨h2, h3, h4⟩
        · exact .inl h2
        · exact .inr ⟨h2, by omega, by simp; omega⟩
theorem newIds_fst {known : List (Nat × Nat)} : ∀ {k : Nat} {po : List (Nat × PO)}, (newIds known k po).map Prod.fst = po.map Prod.fst
  | k, [] => rfl
  | k, (q, x) :: r => by
    simp only [newIds]
    split <;> simp [newIds_fst]
theorem newIds_inj {known : List (Nat × Nat)} {B : Nat} (hk : ∀ p p' i, (p, i) ∈ known → (p', i) ∈ known → p = p') : ∀ {k : Nat} {po : List (Nat × PO)} {p p' i : Nat}, k + po.length ≤ B → (∀ q j, (q, j) ∈ known → j < k ∨ B ≤ j) → (p, i) ∈ newIds known k po → (p', i) ∈ newIds known k po → p = p'
  | k, [], p, p', i, _, _, h, _ => by cases h
  | k, (q, x) :: r, p, p', i, hB, hlt, h, h' => by
    simp only [List.length_cons] at hB
    simp only [newIds] at h h'
    split at h
    · rename_i i' hi
      rw [hi] at h'
      rcases List.mem_cons.1 h with e1 | g1 <;> rcases List.mem_cons.1 h' with e2 | g2
      · cases e1; cases e2; rfl
      · cases e1
        rcases (newIds_mem g2).2 with h2 | ⟨_, h2, h3⟩
        · exact hk _ _ _ (lookN_mem hi) (lookN_mem h2)
        · have := hlt _ _ (lookN_mem hi); omega
      · cases e2
        rcases (newIds_mem g1).2 with h2 | ⟨_, h2, h3⟩
        · exact hk _ _ _ (lookN_mem h2) (lookN_mem hi)
        · have := hlt _ _ (lookN_mem hi); omega
      · exact newIds_inj hk (by omega) hlt g1 g2
    · rename_i hi
      rw [hi] at h'
      have hlt' : ∀ q j, (q, j) ∈ known → j < k + 1 ∨ B ≤ j := fun q j hq => (hlt q j hq).imp (fun h => by omega) id
      rcases List.mem_cons.1 h with e1 | g1 <;> rcases List.mem_cons.1 h' with e2 | g2
      · cases e1; cases e2; rfl
      · cases e1
        rcases (newIds_mem g2).2 with h2 | ⟨_, h2, _⟩
        · have := hlt _ _ (lookN_mem h2); omega
        · omega
      · cases e2
        rcases (newIds_mem g1).2 with h2 | ⟨_, h2, _⟩
        · have := hlt _ _ (lookN_mem h2); omega
        · omega
      · exact newIds_inj hk (by omega) hlt' g1 g2

/-! the call -/
def rhoC (m : M D) (x : Nat) : Nat := match lookN (swap m.ids) x with
  | some p => p
  | none => if memN m.kr x || memN m.ku x then 0 else 3
def gOf (γ : Gh D) (m : M D) : Nat → Value := fun p => match lookN m.ids p with
  | some i => match lookN m.new i with
    | some _ => .slice none 0 0
    | none => γ.g i
  | none => γ.g p
theorem conOf_mem : ∀ {Φ : List (Con D)} {f : Nat} {as : List (AV D)} {c : Con D}, conOf Φ f as = some c → c ∈ Φ ∧ c.f = f
  | [], f, as, c, h => by cases h
  | c0 :: r, f, as, c, h => by
    simp only [conOf] at h
    split at h
    · rename_i hb
      cases h
      simp only [Bool.and_eq_true] at hb
      exact ⟨by simp, Nat.eq_of_beq_eq_true hb.1⟩
    · obtain ⟨h1, h2⟩ := conOf_mem h
      exact ⟨by simp [h1], h2⟩
theorem rhoC_id {call : Bool} {xb : Nat} {po : List (Nat × PO)} {ids0 : List (Nat × Nat)} {nf : Nat} {m : M D} {fl : List (DV D)} (hex : ExOk T call xb po ids0 nf m fl) {p i : Nat} (h : (p, i) ∈ m.ids) : rhoC m i = p := by
  unfold rhoC
  rw [look_swap hex.ids h]
theorem rhoC_or (m : M D) (x : Nat) : (∃ p, (p, x) ∈ m.ids ∧ rhoC m x = p) ∨ ((∀ p, (p, x) ∉ m.ids) ∧ ((rhoC m x = 0 ∧ (x ∈ m.kr ∨ x ∈ m.ku)) ∨ (rhoC m x = 3 ∧ x ∉ m.kr ∧ x ∉ m.ku))) := by
  unfold rhoC
  cases hl : lookN (swap m.ids) x with
  | some p => exact .inl ⟨p, swap_mem.1 (lookN_mem hl), rfl⟩
  | none =>
    refine .inr ⟨fun p hp => lookN_none hl p (swap_mem.2 hp), ?_⟩
    by_cases h1 : memN m.kr x = true
    · exact .inl ⟨by simp [h1], .inl (memN_iff.1 h1)⟩
    · by_cases h2 : memN m.ku x = true
      · exact .inl ⟨by simp [h2], .inr (memN_iff.1 h2)⟩
      · exact .inr ⟨by simp [h1, h2], fun h => h1 (memN_iff.2 h), fun h => h2 (memN_iff.2 h)⟩
theorem gOf_new {call : Bool} {xb : Nat} {po : List (Nat × PO)} {ids0 : List (Nat × Nat)} {nf : Nat} {m : M D} {fl : List (DV D)} (hex : ExOk T call xb po ids0 nf m fl) {p i : Nat} (h : (p, i) ∈ m.ids) :
    ((∃ x, (i, x) ∈ m.new) → gOf γ m p = .slice none 0 0) ∧ ((∀ x, (i, x) ∉ m.new) → gOf γ m p = γ.g i) := by
  unfold gOf
  rw [look_fst hex.idf h]
  constructor
  · rintro ⟨x, hx⟩
    cases hl : lookN m.new i with
    | none => exact (lookN_none hl x hx).elim
    | some y => dsimp only; rw [hl]
  · intro hn
    cases hl : lookN m.new i with
    | none => dsimp only; rw [hl]
    | some y => exact (hn y (lookN_mem hl)).elim
theorem memN_map {α : Type} {l : List (Nat × α)} {p : Nat} (h : memN (l.map Prod.fst) p = true) : ∃ q, (p, q) ∈ l := by
  have := memN_iff.1 h
  simp only [List.mem_map] at this
  obtain ⟨⟨a, b⟩, h1, rfl⟩ := this
  exact ⟨b, h1⟩
/-- the callee's view at its entry -/
theorem entry_ok {nf : Nat} {po : List (Nat × PO)} {m : M D} {fl : List (DV D)} (hob : OB U γ w ob) (hex : ExOk T true 0 po [] nf m fl) (hfresh : ∀ i, nf ≤ i → i < m.nf → ¬ U i) (hpo : po.all (fun p => Nat.ble 1000 p.1 && Nat.blt p.1 1100) = true) (hfl : fl.length ≤ 900) :
    Fin T U U0 γ ⟨fun b => rhoC m (γ.o b), gOf γ m, nms γ.v 1100 fl⟩ w m fl 1100 ∧ FinO γ ⟨fun b => rhoC m (γ.o b), gOf γ m, nms γ.v 1100 fl⟩ m := by
  have hp : ∀ p i, (p, i) ∈ m.ids → 1000 ≤ p ∧ p < 1100 := fun p i h => by
    obtain ⟨q, hq⟩ := memN_map (hex.key p i h)
    have := List.all_eq_true.1 hpo _ hq
    simp only [Bool.and_eq_true] at this
    exact ⟨Nat.le_of_ble_eq_true this.1, Nat.le_of_ble_eq_true this.2⟩
  have hlow : ∀ x ∈ m.kr, x < 2 → rhoC m x = 0 := fun x hx h2 => by
    rcases rhoC_or m x with ⟨p, h1, _⟩ | ⟨_, h1⟩
    · have := hex.idb p x h1; omega
    · rcases h1 with h1 | h1
      · exact h1.1
      · exact (h1.2.1 hx).elim
  have hku : ∀ x ∈ m.ku, rhoC m x = 0 := fun x hx => by
    rcases rhoC_or m x with ⟨p, h1, _⟩ | ⟨_, h1⟩
    · exact ((hex.ku x hx).2 p h1).elim
    · rcases h1 with h1 | h1
      · exact h1.1
      · exact (h1.2.2 hx).elim
  refine ⟨⟨hex.dv, fun p i h => ⟨?_, gOf_new hex h⟩, fun i x h => ?_, fun h => ?_, fun K Kp hmay hK hkr b hb => ?_, fun j K Kp hj hmay hK hkr b hb => ?_, fun i d hd => ?_⟩, ⟨fun p i h b hb => ?_⟩⟩
  · have := hp p i h
    show p < 2000
    omega
  · have := hex.new _ h
    exact hfresh i this.1 this.2
  · rw [hex.call_] at h; cases h
  · unfold M.may at hmay
    rw [hex.call_] at hmay
    simp only [if_true, Bool.or_eq_true] at hmay
    have hb' : γ.o b ∈ K := hb
    have h1 := hlow _ (hkr _ hb') (hK _ hb')
    show rhoC m (γ.o b) ∈ Kp
    rw [h1]
    rcases hmay with h2 | h2
    · cases K with
      | nil => cases hb'
      | cons _ _ => cases h2
    · exact memN_iff.1 h2
  · unfold M.may at hmay
    rw [hex.call_] at hmay
    simp only [if_true, Bool.or_eq_true, List.isEmpty_cons, Bool.false_eq_true, false_or] at hmay
    have h1 : rhoC m (γ.o b) = 0 := by
      have hb' : γ.o b ∈ j :: K := hb
      rcases List.mem_cons.1 hb' with h2 | h2
      · rw [h2]; exact hku j hj
      · exact hlow _ (hkr _ h2) (hK _ h2)
    show rhoC m (γ.o b) ∈ Kp
    rw [h1]
    exact memN_iff.1 hmay
  · refine .inr ⟨?_, nms_at hd⟩
    have := (List.getElem?_eq_some_iff.1 hd).1
    show 1100 + i < 2000
    omega
  · show rhoC m (γ.o b) = p
    rw [hb]
    exact rhoC_id hex h


def backC (ids : List (Nat × Nat)) (x : Nat) : Nat := match lookN ids x with
  | some i => i
  | none => if x = 1 then 1 else 2
theorem callQ_ok {P : Program} {nid : Nat} {sl : List (Nat × AV D)} {L : List (Nat × Value)} {e : Eff D} (hR : RepOk T) {Φ : List (Con D)} (hΦ : ∀ c ∈ Φ, ConOk P T c) (hx : Cx U nid γ w sl L ob) {f : Nat} {args : List (AV D)} {vs : List Value} (hv : VRVs U γ w args vs) (h : Q.R ob (callQ T Φ nid f args) l e) :
    (∀ (a : Array Value) (w : World), (callFunc f a).run P w = .ok (.enter f a) w) ∧ Calls P f vs.toArray w (Ret fun v w' => ∃ γ', Post U nid γ w ob e γ' v w') := by
  unfold callQ at h
  split at h
  case h_2 => exact (h : False).elim
  rename_i c hc
  obtain ⟨hcm, rfl⟩ := conOf_mem hc
  have hcon := hΦ c hcm
  refine ⟨hcon.ent, ?_⟩
  obtain ⟨l1, l2, x, _, h1, h2⟩ := Q.R_bind h
  split at h2
  case isTrue => exact (h2 : False).elim
  rename_i hcond
  simp only [Bool.or_eq_true, Bool.and_eq_true, not_or, not_and, Bool.not_eq_true, Bool.not_eq_false'] at hcond
  obtain ⟨⟨hbor, hnf⟩, hent⟩ := hcond
  have hnf : x.2.nf ≤ nid + 8 := Nat.le_of_ble_eq_true (by simpa using hnf)
  obtain ⟨y, hy, h3⟩ := h2
  dsimp only at h3
  split at h3
  case h_2 => exact (h3 : False).elim
  rename_i rs1 obs1 hrs1 hobs1
  split at h3
  case isFalse => exact (h3 : False).elim
  rename_i hfew
  have hfew := Nat.le_of_ble_eq_true hfew
  obtain ⟨_, rfl⟩ := h3
  obtain ⟨⟨hex, hidU⟩, hgen⟩ := exQ_ok hR hx.ob h1 hv
  obtain ⟨hh, m⟩ := x
  dsimp only at *
  -- the entry
  unfold entS at hent
  dsimp only at hent
  split at hent
  case isFalse => cases hent
  rename_i hch
  simp only [Bool.and_eq_true] at hch
  have hfl := Nat.le_of_ble_eq_true hch.1
  have hpo := hch.2
  split at hent
  case h_2 => cases hent
  rename_i as0 obs0 has0 hobs0
  have hfresh : ∀ i, nid ≤ i → i < m.nf → ¬ U i := fun i h1 h2 => hx.fresh i h1 (by omega)
  obtain ⟨hFin, hFinO⟩ := entry_ok (γ := γ) (w := w) hx.ob hex hfresh hpo hfl
  obtain ⟨g1, g2⟩ := hgen hFin hFinO
  have hp : ∀ p i, (p, i) ∈ m.ids → 1000 ≤ p ∧ p < 1100 := fun p i h => by
    obtain ⟨q, hq⟩ := memN_map (hex.key p i h)
    have := List.all_eq_true.1 hpo _ hq
    simp only [Bool.and_eq_true] at this
    exact ⟨Nat.le_of_ble_eq_true this.1, Nat.le_of_ble_eq_true this.2⟩
  have hob0 : OB U0 ⟨fun b => rhoC m (γ.o b), gOf γ m, nms γ.v 1100 (ofHH T c.ins hh)⟩ w obs0 := by
    refine ⟨fun i x hx => ?_, fun b hb => ?_, fun x hx => ?_⟩
    · obtain ⟨k1, k2, k3⟩ := g2 obs0 hobs0 i x hx
      obtain ⟨q, hq⟩ := memN_map k1
      have := List.all_eq_true.1 hpo _ hq
      simp only [Bool.and_eq_true] at this
      exact ⟨Nat.le_of_ble_eq_true this.1, k2, k3⟩
    · show rhoC m (γ.o b) < 2000
      rcases rhoC_or m (γ.o b) with ⟨p, h1, h2⟩ | ⟨_, h1⟩
      · have := hp p _ h1; omega
      · rcases h1 with h1 | h1 <;> omega
    · show x < 2000
      omega
  refine Calls.mono (hcon.run hh y hy as0 obs0 has0 hobs0 _ w vs (g1 as0 has0) hob0) ?_
  rintro e' w' ⟨v, rfl, U', γ', rs, obs', hrs, hobs', hres, hob', hstay, hfr⟩
  -- the caller's view behind the call
  have hkey := hcon.key
  have hids : ∀ p i, lookN (newIds m.ids (nid + 8) c.ob') p = some i → (p, i) ∈ newIds m.ids (nid + 8) c.ob' := fun p i h => lookN_mem h
  have hklt : ∀ q j, (q, j) ∈ m.ids → j < nid + 8 ∨ nid + 64 ≤ j := fun q j hq => by
    rcases hidU q j hq with h | ⟨x, h⟩
    · rcases hx.old h with h | h
      · exact .inl (by omega)
      · exact .inr h
    · have := hex.new _ h
      exact .inl (by simp only at this; omega)
  have hfew' : c.ob'.length ≤ 40 := Nat.le_of_ble_eq_true hcon.few
  have hinj : ∀ p p' i, (p, i) ∈ newIds m.ids (nid + 8) c.ob' → (p', i) ∈ newIds m.ids (nid + 8) c.ob' → p = p' := fun p p' i h h' => newIds_inj (B := nid + 64) hex.ids (by omega) hklt h h'
  have hbig : ∀ p i, (p, i) ∈ newIds m.ids (nid + 8) c.ob' → 1000 ≤ p ∧ 1000 ≤ i := fun p i h => by
    obtain ⟨k1, k2⟩ := newIds_mem h
    obtain ⟨q, hq⟩ := memN_map k1
    refine ⟨Nat.le_of_ble_eq_true (List.all_eq_true.1 hcon.big _ hq), ?_⟩
    rcases k2 with k2 | ⟨_, k2, _⟩
    · exact hex.idb _ _ (lookN_mem k2)
    · have := hx.big; omega
  -- what each owner becomes
  have hcls : ∀ b, b < w.heap.size → (∃ p, (p, γ.o b) ∈ m.ids) ∨ ((rhoC m (γ.o b) = 0 ∨ rhoC m (γ.o b) = 3) ∧ ∀ p, (p, γ.o b) ∉ m.ids) := fun b hb => by
    rcases rhoC_or m (γ.o b) with ⟨p, h1, _⟩ | ⟨h0, h1⟩
    · exact .inl ⟨p, h1⟩
    · exact .inr ⟨h1.imp (fun h => h.1) (fun h => h.1), h0⟩
  obtain ⟨o'', ho''⟩ : ∃ o'' : Cls, o'' = fun b => if b < w.heap.size ∧ (rhoC m (γ.o b) = 0 ∨ rhoC m (γ.o b) = 3) then γ.o b else backC (newIds m.ids (nid + 8) c.ob') (γ'.o b) := ⟨_, rfl⟩
  obtain ⟨g'', hg''⟩ : ∃ g'' : Nat → Value, g'' = fun i => match lookN (swap (newIds m.ids (nid + 8) c.ob')) i with
    | some p => γ'.g p
    | none => γ.g i := ⟨_, rfl⟩
  have hkeepo : ∀ b, b < w.heap.size → (∀ p, (p, γ.o b) ∉ m.ids) → o'' b = γ.o b ∧ w'.heap[b]? = w.heap[b]? := fun b hb hn => by
    rcases hcls b hb with ⟨p, h1⟩ | ⟨h1, _⟩
    · exact (hn p h1).elim
    · rw [ho'']
      exact ⟨if_pos ⟨hb, h1⟩, (hfr.ro b hb h1).2⟩
  have hlow : ∀ b, b < w.heap.size → γ.o b < 1000 → o'' b = γ.o b ∧ w'.heap[b]? = w.heap[b]? := fun b hb hlt => hkeepo b hb fun p hp => by
    have := hex.idb p _ hp; omega
  have hback : ∀ x, (∃ i, (x, i) ∈ newIds m.ids (nid + 8) c.ob' ∧ backC (newIds m.ids (nid + 8) c.ob') x = i) ∨ backC (newIds m.ids (nid + 8) c.ob') x = 1 ∧ x = 1 ∨ backC (newIds m.ids (nid + 8) c.ob') x = 2 := fun x => by
    unfold backC
    cases hl : lookN (newIds m.ids (nid + 8) c.ob') x with
    | some i => exact .inl ⟨i, lookN_mem hl, rfl⟩
    | none =>
      by_cases h1 : x = 1
      · exact .inr (.inl ⟨by simp [h1], h1⟩)
      · exact .inr (.inr (by simp [h1]))
  have hgU : ∀ i, U i → g'' i = γ.g i := fun i hi => by
    rw [hg'']
    dsimp only
    cases hl : lookN (swap (newIds m.ids (nid + 8) c.ob')) i with
    | none => rfl
    | some p =>
      have hm := swap_mem.1 (lookN_mem hl)
      obtain ⟨k1, k2⟩ := newIds_mem hm
      rcases k2 with k2 | ⟨_, k2, k3⟩
      · have hmem := lookN_mem k2
        have hst : (p, p) ∈ stay c := by
          obtain ⟨q, hq⟩ := memN_map k1
          unfold stay
          simp only [List.mem_map, List.mem_filter]
          exact ⟨(p, q), ⟨hq, hex.key p i hmem⟩, rfl⟩
        show γ'.g p = γ.g i
        rw [hstay p hst]
        exact (gOf_new hex hmem).2 fun x hxn => hfresh i (hex.new _ hxn).1 (hex.new _ hxn).2 hi
      · exact (hx.fresh i (by omega) (by omega) hi).elim
  have hfrm : Frame γ w ⟨o'', g'', nms γ.v (nid + 16) (ofHH T c.outs y)⟩ w' := by
    refine ⟨⟨hfr.os, hfr.tape, hfr.output, hfr.size, fun b hb hc => hlow b hb (by omega), fun b hb hc => ?_⟩, fun i hi => hgU i (hx.ob.ro i hi)⟩
    simp only at hc ⊢
    by_cases h1 : b < w.heap.size ∧ (rhoC m (γ.o b) = 0 ∨ rhoC m (γ.o b) = 3)
    · refine ⟨h1.1, ?_⟩
      rw [ho'']
      exact (if_pos h1).symm
    · exfalso
      rw [ho''] at hc
      simp only [if_neg h1] at hc
      rcases hback (γ'.o b) with ⟨i, h2, h3⟩ | ⟨h2, _⟩ | h2
      · have := (hbig _ _ h2).2; omega
      · omega
      · omega
  have hkp : Keep U (addU U nid) γ w ⟨o'', g'', nms γ.v (nid + 16) (ofHH T c.outs y)⟩ w' :=
    ⟨fun i h => .inl h, hgU, fun i hi => nms_keep hx hfew hi, fun b hb hc => hlow b hb (by omega)⟩
  have hU' : ∀ p i, (p, i) ∈ newIds m.ids (nid + 8) c.ob' → addU U nid i := fun p i h => by
    rcases (newIds_mem h).2 with k2 | ⟨_, k2, k3⟩
    · rcases hidU p i (lookN_mem k2) with h | ⟨x, h⟩
      · exact .inl h
      · have := hex.new _ h
        simp only at this
        exact .inr ⟨this.1, by omega⟩
    · exact .inr ⟨by omega, by omega⟩
  have hre : Re (fun x => x < 2 ∧ (x = 0 → c.bor = true)) U' (addU U nid) γ' ⟨o'', g'', nms γ.v (nid + 16) (ofHH T c.outs y)⟩ w' (ofHH T c.outs y) (lookN (newIds m.ids (nid + 8) c.ob')) (fun K => (if memN K 0 then m.kr else []) ++ (if memN K 1 then [1] else [])) (nid + 16) := by
    refine ⟨fun p i hpi => ⟨hU' p i (lookN_mem hpi), ?_⟩, fun K hK => ⟨?_, fun b hb hbK => ?_⟩, fun i d hd hi => named1 (γ := γ) rfl hi hd, hfew⟩
    · show g'' i = γ'.g p
      rw [hg'']
      dsimp only
      rw [look_swap hinj (lookN_mem hpi)]
    · intro x hx
      rcases List.mem_append.1 hx with hx | hx
      · split at hx
        · exact hex.kr x hx
        · cases hx
      · split at hx
        · simp only [List.mem_singleton] at hx
          omega
        · cases hx
    · have hbK : γ'.o b ∈ K := hbK
      show o'' b ∈ _
      have h01 := (hK _ hbK).1
      have hz : γ'.o b = 0 ∨ γ'.o b = 1 := by omega
      rcases hz with hz | hz
      · obtain ⟨k1, k2⟩ := hfr.back b hb (.inl hz)
        rw [hz] at k2
        have k2 : rhoC m (γ.o b) = 0 := k2
        have k3 : o'' b = γ.o b := by rw [ho'']; exact if_pos ⟨k1, .inl k2⟩
        rw [k3]
        have hbr := (hK _ hbK).2 hz
        have hku : m.ku = [] := by simpa using hbor hbr
        rcases rhoC_or m (γ.o b) with ⟨p, h1, h2⟩ | ⟨_, h1⟩
        · have := hp p _ h1; omega
        · rcases h1 with h1 | h1
          · rcases h1.2 with h2 | h2
            · rw [hz] at hbK
              rw [if_pos (memN_iff.2 hbK)]
              exact List.mem_append.2 (.inl h2)
            · rw [hku] at h2; cases h2
          · omega
      · have k3 : o'' b = 1 := by
          rw [ho'']
          dsimp only
          split
          · rename_i hc
            have := (hfr.ro b hc.1 hc.2).1
            have k4 : γ'.o b = rhoC m (γ.o b) := this
            omega
          · rw [hz]
            unfold backC
            cases hl : lookN (newIds m.ids (nid + 8) c.ob') 1 with
            | none => rfl
            | some i => have := (hbig 1 i (lookN_mem hl)).1; omega
        rw [k3]
        rw [hz] at hbK
        rw [if_pos (memN_iff.2 hbK)]
        simp
  have hks := hcon.ks
  unfold ksOk at hks
  simp only [Bool.and_eq_true, List.all_eq_true] at hks
  have hK1 : ∀ x ∈ c.res.flatMap ksPC, x < 2 ∧ (x = 0 → c.bor = true) := fun x hx => ⟨Nat.le_of_ble_eq_true (hks.1 x hx), fun e => by
    subst e
    unfold Con.bor
    exact memN_iff.2 (List.mem_append.2 (.inl hx))⟩
  have hK2 : ∀ x ∈ c.ob'.flatMap (fun p => ksPO p.2), x < 2 ∧ (x = 0 → c.bor = true) := fun x hx => ⟨Nat.le_of_ble_eq_true (hks.2 x hx), fun e => by
    subst e
    unfold Con.bor
    exact memN_iff.2 (List.mem_append.2 (.inr hx))⟩
  refine ⟨v, rfl, _, hfrm, hkp, res_re hre hK1 hrs hrs1 hres, ?_⟩
  refine ob_put hx.ob hkp (fun i hiU hi hnw b hb hbi => ?_) (fun b hb => ?_) (fun i x hix hfz => ?_)
  · refine hkeepo b hb fun p hpi => hnw ?_
    rw [hbi] at hpi
    show i ∈ (obs1 ++ deadOf m.ids c.ob').map Prod.fst ++ []
    rw [List.append_nil, List.map_append, List.mem_append]
    cases hm : memN (c.ob'.map Prod.fst) p with
    | true =>
      obtain ⟨q, hq⟩ := memN_map hm
      refine .inl (inOs_keys hobs1 hq ?_)
      have h5 : ∃ i', (p, i') ∈ newIds m.ids (nid + 8) c.ob' := by
        have : p ∈ (newIds m.ids (nid + 8) c.ob').map Prod.fst := by rw [newIds_fst]; exact memN_iff.1 hm
        simp only [List.mem_map] at this
        obtain ⟨⟨a, b⟩, h1, rfl⟩ := this
        exact ⟨b, h1⟩
      cases hl : lookN (newIds m.ids (nid + 8) c.ob') p with
      | none => obtain ⟨i', hi'⟩ := h5; exact (lookN_none hl i' hi').elim
      | some i' =>
        rcases (newIds_mem (lookN_mem hl)).2 with k2 | ⟨k2, _⟩
        · rw [look_fst hex.idf hpi] at k2
          exact k2.symm ▸ rfl
        · exact (lookN_none k2 i hpi).elim
    | false =>
      refine .inr ?_
      unfold deadOf
      simp only [List.mem_map, List.mem_filter, Prod.exists]
      exact ⟨i, none, ⟨p, i, ⟨hpi, by simp [hm]⟩, rfl⟩, rfl⟩
  · show addU U nid (o'' b)
    rw [ho'']
    dsimp only
    split
    · rename_i h1
      exact .inl (hx.ob.cl b h1.1)
    · rcases hback (γ'.o b) with ⟨i, h2, h3⟩ | ⟨h2, _⟩ | h2
      · rw [h3]; exact hU' _ _ h2
      · rw [h2]; exact .inl (hx.ob.ro 1 (by omega))
      · rw [h2]; exact .inl (hx.ob.ro 2 (by omega))
  · have hix : lookN (obs1 ++ deadOf m.ids c.ob') i = some (some x) := hix
    rw [lookN_append] at hix
    have h5 : lookN obs1 i = some (some x) := by
      cases hl : lookN obs1 i with
      | some y => rw [hl] at hix; exact hix
      | none =>
        rw [hl] at hix
        have := lookN_mem hix
        unfold deadOf at this
        simp only [List.mem_map, List.mem_filter, Prod.exists, Prod.mk.injEq, reduceCtorEq, and_false, exists_false] at this
    obtain ⟨p, q, y', k1, k2, k3, k4⟩ := inOs_get hobs1 h5
    cases k4
    obtain ⟨y0, m1, m2⟩ := inOs_put hobs' hkey k1
    have hmem := lookN_mem k2
    refine ⟨(hbig _ _ hmem).2, hU' _ _ hmem, inO_re hre (fun z hz => hK2 z (List.mem_flatMap.2 ⟨_, k1, hz⟩)) (hre.id p i k2).2 (fun b hb hbp => ?_) m1 k3 (hob' p y0 m2)⟩
    show o'' b = i
    rw [ho'']
    dsimp only
    have hp1 := (hbig _ _ hmem).1
    split
    · rename_i hc
      have := (hfr.ro b hc.1 hc.2).1
      have k4 : γ'.o b = rhoC m (γ.o b) := this
      omega
    · rw [hbp]
      unfold backC
      rw [k2]
end
end Rx
end Go.Proofs.Ytdfkfohpgakihaa
