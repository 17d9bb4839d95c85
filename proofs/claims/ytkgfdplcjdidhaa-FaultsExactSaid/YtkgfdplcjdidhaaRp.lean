/- Tables of types, checked part by part. Nothing here names a program. From a contract of a given function, and what its plain form gives, to the call from the row. Nothing here names a program. -/
import Derived.Test.YtkgfdplcjdidhaaRo
import Derived.Test.YtkgfdplcjdidhaaDz
set_option linter.unusedVariables false
set_option linter.unusedSimpArgs false
set_option linter.unusedSectionVars false
namespace Go.Proofs.Ytkgfdplcjdidhaa
open Go Go.RowKit Dp

namespace Rx

def AllP {α : Type} (p : Nat → α → Prop) : List (Nat × α) → Prop
  | [] => True
  | q :: r => p q.1 q.2 ∧ AllP p r
theorem AllP.look {α : Type} {p : Nat → α → Prop} : ∀ {l : List (Nat × α)}, AllP p l → ∀ t d, lookN l t = some d → p t d
  | [], _, t, d, h => by simp [lookN] at h
  | q :: r, hp, t, d, h => by
    unfold lookN at h
    cases hb : Nat.beq q.1 t with
    | true =>
      simp only [hb, cond_true, Option.some.injEq] at h
      have := Nat.eq_of_beq_eq_true hb
      subst this
      subst h
      exact hp.1
    | false =>
      simp only [hb, cond_false] at h
      exact AllP.look hp.2 t d h

section
variable {D : Nat → Type} [∀ n, Rep (D n)]
variable {P : Program} {T : Tab D}
def AllC (P : Program) (T : Tab D) : List (Con D) → Prop
  | [] => True
  | c :: r => ConOk P T c ∧ AllC P T r
theorem AllC.mem : ∀ {l : List (Con D)}, AllC P T l → ∀ c ∈ l, ConOk P T c
  | [], _, c, h => by cases h
  | d :: r, hp, c, h => by
    rcases List.mem_cons.1 h with rfl | h
    · exact hp.1
    · exact AllC.mem hp.2 c h

/-! how elements lie in memory -/
def RdIs (D : Nat → Type) [∀ n, Rep (D n)] (α : Type) [Rep α] (f : α → List (DV D)) : Prop := ∀ (S : Nat → Prop) (w : World) (cs : List Value) (x : α), Rep.rd S w cs x ↔ LRd S w cs (f x)
theorem LRd_one {S : Nat → Prop} {w : World} {cs : List Value} {d : DV D} : LRd S w cs [d] ↔ ∃ v, cs = [v] ∧ LfRd S w v d := by
  constructor
  · intro h
    match cs, h with
    | [v], h => exact ⟨v, rfl, h.1⟩
    | [], h => exact h.elim
    | _ :: _ :: _, h => exact h.2.elim
  · rintro ⟨v, rfl, h⟩
    exact ⟨h, trivial⟩
theorem LRd_append {S : Nat → Prop} {w : World} : ∀ {ds es : List (DV D)} {cs : List Value}, LRd S w cs (ds ++ es) ↔ ∃ a b, cs = a ++ b ∧ LRd S w a ds ∧ LRd S w b es
  | [], es, cs => by
    constructor
    · intro h
      exact ⟨[], cs, rfl, trivial, h⟩
    · rintro ⟨a, b, rfl, h1, h2⟩
      match a, h1 with
      | [], _ => exact h2
      | _ :: _, h1 => exact h1.elim
  | d :: ds, es, cs => by
    constructor
    · intro h
      match cs, h with
      | [], h => exact h.elim
      | v :: cs, h =>
        obtain ⟨a, b, rfl, h1, h2⟩ := LRd_append.1 h.2
        exact ⟨v :: a, b, rfl, ⟨h.1, h1⟩, h2⟩
    · rintro ⟨a, b, rfl, h1, h2⟩
      exact h1.append h2
theorem RdIs.int : RdIs D Int (fun x => [⟨.int .i64, x⟩]) := fun S w cs x => by
  rw [LRd_one]
  constructor
  · intro h
    exact ⟨_, h, rfl⟩
  · rintro ⟨v, rfl, h⟩
    have h : v = .int .i64 x := h
    rw [h]
    rfl
theorem RdIs.u8 : RdIs D U8 (fun x => [⟨.int .u8, x.n⟩]) := fun S w cs x => by
  rw [LRd_one]
  constructor
  · intro h
    exact ⟨_, h, rfl⟩
  · rintro ⟨v, rfl, h⟩
    have h : v = .int .u8 x.n := h
    rw [h]
    rfl
theorem RdIs.bool : RdIs D Bool (fun x => [⟨.bool, x⟩]) := fun S w cs x => by
  rw [LRd_one]
  constructor
  · intro h
    exact ⟨_, h, rfl⟩
  · rintro ⟨v, rfl, h⟩
    have h : v = .bool x := h
    rw [h]
    rfl
theorem RdIs.str : RdIs D ByteArray (fun x => [⟨.str, x⟩]) := fun S w cs x => by
  rw [LRd_one]
  constructor
  · intro h
    exact ⟨_, h, rfl⟩
  · rintro ⟨v, rfl, h⟩
    have h : v = .string x := h
    rw [h]
    rfl
theorem RdIs.sl (n : Nat) : RdIs D (List (D n)) (fun x => [⟨.sl n, x⟩]) := fun S w cs x => by
  rw [LRd_one]
  constructor
  · intro h
    have hl := Rep.len h
    match cs, hl, h with
    | [v], _, h => exact ⟨v, rfl, [v], rfl, h⟩
  · rintro ⟨v, rfl, h⟩
    obtain ⟨cs, h1, h2⟩ : Rv S w v x := h
    have hl := Rep.len h2
    match cs, hl, h1, h2 with
    | [u], _, h1, h2 =>
      have : v = u := h1
      rw [this]
      exact h2
theorem RdIs.prod {α β : Type} [Rep α] [Rep β] {f : α → List (DV D)} {g : β → List (DV D)} (h : RdIs D α f) (k : RdIs D β g) : RdIs D (α × β) (fun x => f x.1 ++ g x.2) := fun S w cs x => by
  rw [LRd_append]
  constructor
  · rintro ⟨a, b, h1, h2, h3⟩
    exact ⟨a, b, h1, (h S w a x.1).1 h2, (k S w b x.2).1 h3⟩
  · rintro ⟨a, b, h1, h2, h3⟩
    exact ⟨a, b, h1, (h S w a x.1).2 h2, (k S w b x.2).2 h3⟩

/-! types of the program -/
theorem TyR.of {t : TypeId} {g : Bool} {z : List Value} {d : TypeDesc} (h1 : P.underlying t = some d) (h2 : isAggD d = g) (h3 : (P.info? t).map (fun i => (i.size, i.zero)) = some (z.length, some (pack g z))) : TyR P t g z := by
  refine ⟨⟨d, h1, h2⟩, ?_⟩
  cases hi : P.info? t with
  | none => simp [hi] at h3
  | some i =>
    simp [hi] at h3
    exact ⟨i, rfl, h3.1, h3.2⟩
theorem mapM_get {α β : Type} {f : α → Option β} : ∀ {l : List α} {r : List β}, l.mapM f = some r → ∀ {i : Nat} {b : β}, r[i]? = some b → ∃ a, l[i]? = some a ∧ f a = some b
  | [], r, h, i, b, hb => by
    simp at h
    subst h
    simp at hb
  | a :: l, r, h, i, b, hb => by
    rw [List.mapM_cons] at h
    cases ha : f a with
    | none => simp [ha] at h
    | some c =>
      cases hl : l.mapM f with
      | none => simp [ha, hl] at h
      | some r' =>
        simp [ha, hl] at h
        subst h
        cases i with
        | zero =>
          simp at hb
          subst hb
          exact ⟨a, rfl, ha⟩
        | succ i =>
          obtain ⟨a', h1, h2⟩ := mapM_get hl (i := i) (b := b) (by simpa using hb)
          exact ⟨a', by simpa using h1, h2⟩
theorem flds_ok {t : TypeId} {l : List (Nat × Nat)} (h : StOk P t l) (hz : l.all (fun p => !(Nat.beq p.2 0)) = true) : StOk P t l ∧ ∀ i off sz, l[i]? = some (off, sz) → FldAt P t i off := by
  refine ⟨h, fun i off sz hi => ?_⟩
  obtain ⟨fs, h1, h2⟩ := h.fs
  obtain ⟨fd, h3, h4⟩ := mapM_get h2 hi
  cases hin : P.info? fd.type with
  | none => simp [hin] at h4
  | some inf =>
    simp [hin] at h4
    have := List.all_eq_true.1 hz _ (List.mem_of_getElem? hi)
    refine ⟨fs, fd, h1, by simpa using h3, h4.1, inf, hin, fun e => ?_⟩
    rw [h4.2] at e
    subst e
    simp at this
/-- a function of which nothing is claimed -/
theorem none_ok {c : Con D} (hent : ∀ (args : Array Value) (w : World), (callFunc c.f args).run P w = .ok (.enter c.f args) w)
    (hst : (ksOk c.res c.ob' && nodupB (c.ob'.map Prod.fst) && c.ob'.all (fun p => Nat.ble 1000 p.1) && Nat.ble c.ob'.length 40) = true) (hfn : ∀ h, c.fn h = none) : ConOk P T c := by
  simp only [Bool.and_eq_true] at hst
  exact ⟨hent, hst.1.1.1, hst.1.1.2, hst.1.2, hst.2, fun h r hr => by rw [hfn] at hr; cases hr⟩
theorem ArrT.of {t m e n : Nat} (h1 : P.underlying t = some (.array m e)) (h2 : TyOk P e (D n)) (h3 : (P.info? t).bind (fun i => i.zero.map fun z => z.cells.size) = some (m * Rep.sz (D n))) : ArrT P D t m e n := by
  refine ⟨h1, h2, ?_⟩
  cases hi : P.info? t with
  | none => simp [hi] at h3
  | some i =>
    simp only [hi, Option.bind_some, Option.map_eq_some_iff] at h3
    obtain ⟨z, h4, h5⟩ := h3
    exact ⟨i, z, rfl, h4, h5⟩
theorem POk.of (h1 : AllP (fun t d => TyF P T t d) T.ty) (h2 : AllP (fun t (x : Nat × Nat) => P.underlying t = some (.slice x.1) ∧ TyOk P x.1 (D x.2)) T.els)
    (h3 : AllP (fun t l => StOk P t l ∧ ∀ i off sz, l[i]? = some (off, sz) → FldAt P t i off) T.fld) (h4 : AllP (fun t ls => EqT P t ls ∧ ls.all flatL = true) T.eqs) (h5 : AllP (fun n (x : Nat × Nat) => KidT P D n x.1 x.2) T.kd)
    (h6 : AllP (fun t (x : Nat × Nat × Nat) => ArrT P D t x.1 x.2.1 x.2.2) T.ars) (h7 : AllP (fun t (x : Nat × Nat × Nat) => MapT P T t x.1 x.2.1 x.2.2) T.mps) : POk P T :=
  ⟨fun t d h => h1.look t d h, fun t e n h => h2.look t (e, n) h, fun t l h => h3.look t l h, fun t n h => h4.look t n h, fun n tc m h => h5.look n (tc, m) h, fun t m e n h => h6.look t (m, e, n) h, fun t kt vt n h => h7.look t (kt, vt, n) h⟩
end
end Rx
end Go.Proofs.Ytkgfdplcjdidhaa
namespace Go.Proofs.Ytkgfdplcjdidhaa
open Go Go.RowKit Dp

namespace Rx

section
variable {D : Nat → Type} [∀ n, Rep (D n)]
variable {P : Program} {T : Tab D}
/-- ghosts at the row: all memory is only read; the names of the arguments' data -/
def rowV (ds : List (DV D)) : Nat → DV D := nms (fun _ => ⟨.bool, false⟩) 1100 ds
def rowG (ds : List (DV D)) : Gh D := ⟨fun _ => 0, fun _ => .pointer none, rowV ds⟩
theorem rowG_named {ds : List (DV D)} (hl : ds.length ≤ 800) {i : Nat} {d : DV D} (h : ds[i]? = some d) : named U0 (rowG ds) (1100 + i) d := by
  have hlt := (List.getElem?_eq_some_iff.1 h).1
  refine .inr ⟨show 1100 + i < 2000 by omega, ?_⟩
  exact nms_at (f := fun _ => ⟨.bool, false⟩) (g := 1100) h
theorem rowG_In {ds : List (DV D)} {K : List Nat} (h : memN K 0 = true) (b : Nat) : In (rowG ds).o K b := memN_iff.1 h
theorem law_run {c : Con D} (hc : ConOk P T c) {h : HH D c.ins} {r : HH D c.outs} (hf : c.fn h = some r) {ac : List (AC D)} {w : World} {vs : List Value}
    (ha : inCs T (ofHH T c.ins h) some id 1100 c.args = some ac) (ho : c.ob = []) (hv : VRCs U0 (rowG (ofHH T c.ins h)) w ac vs) :
    Calls P c.f vs.toArray w (Ret fun v w' => (∃ U' γ' rs, inCs T (ofHH T c.outs r) some id 3000 c.res = some rs ∧ VRR U' γ' w' rs v) ∧ Below w.heap.size w w') := by
  have hob : inOs T (ofHH T c.ins h) some id 1100 c.ob = some [] := by rw [ho]; rfl
  refine (hc.run h r hf ac [] ha hob (rowG (ofHH T c.ins h)) w vs hv ⟨fun i x hx => by simp [lookO, lookN] at hx, fun b _ => show (0 : Nat) < 2000 by omega, fun x hx => hx⟩).mono ?_
  rintro e w' ⟨v, rfl, U', γ', rs, obs', h1, h2, h3, h4, h5, h6⟩
  exact ⟨v, rfl, ⟨U', γ', rs, h1, h3⟩, ⟨h6.os, h6.tape, h6.output, h6.size, fun k hk => (h6.ro k hk (.inl rfl)).2⟩⟩
theorem vr_sl {ds : List (DV D)} {w : World} {v : Value} {n i : Nat} {xs : List (D n)} (hl : ds.length ≤ 800) (hd : ds[i]? = some ⟨.sl n, xs⟩) (h : Rv (fun _ => True) w v xs) : VRC U0 (rowG ds) w (.one (.v (.sl n) xs [0] (1100 + i))) v :=
  ⟨h.mono fun b _ _ => ⟨List.mem_singleton.2 rfl, rfl⟩, rowG_named hl hd, fun x hx => by rw [List.mem_singleton.1 hx]; omega⟩
theorem vr_int {ds : List (DV D)} {w : World} {k : IntKind} {i : Nat} {n : Int} (hl : ds.length ≤ 800) (hd : ds[i]? = some ⟨.int k, n⟩) : VRC U0 (rowG ds) w (.one (.v (.int k) n [] (1100 + i))) (.int k n) :=
  ⟨rfl, rowG_named hl hd, fun x hx => by cases hx⟩
end
end Rx
end Go.Proofs.Ytkgfdplcjdidhaa
