/- The code run with a continuation does what the code does: operations one by one, segments, joints. Nothing here names a program. -/
import Derived.Test.YtdfkfohpgakihaaRk
import Derived.Orders
set_option linter.unusedVariables false
set_option linter.unusedSimpArgs false
set_option linter.unusedSectionVars false
namespace Go.Proofs.Ytdfkfohpgakihaa
open Go Go.RowKit Dp

namespace Rx

section
variable {D : Nat → Type} [∀ n, Rep (D n)]
variable {P : Program} {T : Tab D} {Φ : List (Con D)} {n : Nat} {γ : Gh D} {w : World} {L : List (Nat × Value)} {Qx : Exit → Act → World → Prop}

/-! one operation -/
theorem VRVs.append {U : Nat → Prop} : ∀ {as : List (AV D)} {vs : List Value} {bs : List (AV D)} {us : List Value}, VRVs U γ w as vs → VRVs U γ w bs us → VRVs U γ w (as ++ bs) (vs ++ us)
  | [], [], _, _, _, h => h
  | a :: as, v :: vs, _, _, h, h' => ⟨h.1, VRVs.append h.2 h'⟩
  | [], _ :: _, _, _, h, _ => h.elim
  | _ :: _, [], _, _, h, _ => h.elim
theorem capAV_ok {U : Nat → Prop} : ∀ {cs : List (A0 D)} {vs : List Value}, VR0s U γ w cs vs → VRVs U γ w (cs.map capAV) vs
  | [], [], _ => trivial
  | c :: cs, v :: vs, h => by
    refine ⟨?_, capAV_ok h.2⟩
    cases c with
    | ptr i off => exact h.1
    | rp n x off K => exact h.1
  | [], _ :: _, h => h.elim
  | _ :: _, [], h => h.elim
theorem operQ_ok (hP : POk P T) (hR : RepOk T) (hΦ : ∀ c ∈ Φ, ConOk P T c) {U : Nat → Prop} {nid : Nat} {sl : List (Nat × AV D)} {ob : List (Nat × Option (AO D))} {d : Option Tmp} {ty : TypeId} {pos : String} {af : Array Edge} {gd : Option (Nat × Bool)} {e : Eff D} {l : List Nat}
    (hx : Cx U nid γ w sl L ob) {op : Op} {as : List (AV D)} (he : evOs sl op.operands.toList = some as) (h : Q.R ob (operQ T Φ nid op as) l e) :
    OW P Qx L ⟨d, op, ty, pos, af, gd⟩ w (fun v w' => ∃ γ', Post U nid γ w ob e γ' v w') := by
  unfold operQ at h
  split at h
  · rename_i u cargs ts
    have he : evOs sl (u :: cargs.toList) = some as := by simpa [Op.operands, Call.operands] using he
    split at h
    case h_2 => exact (h : False).elim
    rename_i f caps as' _
    obtain ⟨h1, h2⟩ := evOs_cons he
    obtain ⟨vu, k1, cs, rfl, k2⟩ := evO_ok hx.sr h1
    obtain ⟨vs, k3, k4⟩ := evOs_ok hx.sr h2
    obtain ⟨m1, m2⟩ := callQ_ok hR hΦ hx (VRVs.append k4 (capAV_ok k2)) h
    have := OW.callV (P := P) (Q := Qx) (L := L) (w := w) (d := d) (ty := ty) (pos := pos) (af := af) (g := gd) (f := f) (u := u) (args := cargs.toList) (caps := cs.toArray) (vs := vs) (ats := ts) m1 k1 k3 (by simpa using m2)
    simpa using this
  · exact opQ_ok hP hR hx he h

def putL (d : Option Tmp) (v : Value) (L : List (Nat × Value)) : List (Nat × Value) := match d with
  | some d => (d, v) :: L
  | none => L
theorem Fr.putL {a : Act} (h : Fr n L a) {d : Option Tmp} (hd : ∀ t, d = some t → Nat.blt t n = true) (v : Value) : Fr n (putL d v L) (a.put d v) := by
  cases d with
  | none => exact h
  | some t => exact h.put (hd t rfl) v
theorem WL.take {ops : Array Oper} {rest : List Oper} {o : Oper} {R : Value → World → Prop} (hd : ∀ t, o.dst = some t → Nat.blt t n = true) (hw : ∀ a, Fr n L a → Region.wanted o (yielded ops a.tmps) = true) (h : OW P Qx L o w R)
    (k : ∀ v w', R v w' → WL P n ops Qx rest (putL o.dst v L) w') : WL P n ops Qx (o :: rest) L w := by
  intro a ha
  refine wpList_step fun K hK => ?_
  rw [if_pos (hw a ha)]
  exact h a K (fun x v hx => ha.ev hx) fun v w' hr => hK _ _ (k v w' hr _ (Fr.putL ha hd v))
theorem WL.pass {ops : Array Oper} {rest : List Oper} {o : Oper} (hd : ∀ t, o.dst = some t → Nat.blt t n = true) (hw : ∀ a, Fr n L a → Region.wanted o (yielded ops a.tmps) = false)
    (k : WL P n ops Qx rest (putL o.dst undef L) w) : WL P n ops Qx (o :: rest) L w := by
  intro a ha
  refine wpList_step fun K hK => ?_
  rw [if_neg (by rw [hw a ha]; simp)]
  exact hK _ _ (k _ (Fr.putL ha hd _))
theorem yield_ok {ops : List Oper} {j d : Nat} {og : Oper} {b : Bool} {a : Act} (ha : Fr n L a) (hj : ops[j]? = some og) (hd : og.dst = some d) (hl : Dp.look L d = some (.bool b)) : yielded ops.toArray a.tmps j = some b := by
  have := ha.get d _ hl
  simp [yielded, hj, hd, this]
theorem yield_un {ops : List Oper} {j d : Nat} {og : Oper} {a : Act} (ha : Fr n L a) (hj : ops[j]? = some og) (hd : og.dst = some d) (hl : Dp.look L d = some undef) : yielded ops.toArray a.tmps j = none := by
  have := ha.get d _ hl
  simp [yielded, hj, hd, this, undef]

theorem addU_lt (N : Nat) : addU (fun i => i < N) N = fun i => i < N + 64 := by
  funext i
  unfold addU
  apply propext
  omega
theorem Kn.cx {σ : S D} (h : Kn σ γ w L) : Cx (fun i => i < σ.nx) σ.nx γ w σ.sl L σ.ob :=
  ⟨h.sr, h.ob, fun i h1 h2 h3 => by omega, by have := h.big; omega⟩
theorem Kn.ap {σ : S D} {γ' : Gh D} {w' : World} {v : Value} {e : Eff D} (h : Kn σ γ w L) (hp : Post (fun i => i < σ.nx) σ.nx γ w σ.ob e γ' v w') (d : Option Tmp) : Kn (apE σ d e) γ' w' (putL d v L) := by
  have hkp := hp.kp
  have hdst := hp.dst
  have hob := hp.ob
  rw [addU_lt] at hkp hdst hob
  refine ⟨?_, hob, by show 2000 ≤ σ.nx + 64; have := h.big; omega⟩
  cases d with
  | none => exact h.sr.keep hkp
  | some t => exact (h.sr.keep hkp).cons hdst
theorem Kn.skip {σ : S D} (h : Kn σ γ w L) (d : Option Tmp) : Kn (skipE σ d) γ w (putL d undef L) := by
  have hkp : Keep (fun i => i < σ.nx) (fun i => i < σ.nx + 64) γ w γ w := ⟨fun i h => by show i < _; have h : i < σ.nx := h; omega, fun _ _ => rfl, fun _ _ => rfl, fun _ _ _ => ⟨rfl, rfl⟩⟩
  refine ⟨?_, ⟨fun i x hx => ?_, fun b hb => hkp.u _ (h.ob.cl b hb), fun x hx => hkp.u _ (h.ob.ro x hx)⟩, by show 2000 ≤ σ.nx + 64; have := h.big; omega⟩
  · cases d with
    | none => exact h.sr.keep hkp
    | some t => exact (h.sr.keep hkp).cons rfl
  · obtain ⟨h1, h2, h3⟩ := h.ob.ob i x hx
    exact ⟨h1, hkp.u _ h2, h3.keep hkp h2 fun _ _ _ => ⟨rfl, rfl⟩⟩
theorem lookN_cons_self {α : Type} {l : List (Nat × α)} {d : Nat} {a : α} (h : lookN l d = some a) (t : Nat) : lookN ((d, a) :: l) t = lookN l t := by
  simp only [lookN]
  cases hb : Nat.beq d t with
  | true =>
    have := Nat.eq_of_beq_eq_true hb
    subst this
    simp [h]
  | false => rfl
theorem Kn.setB {σ : S D} {d : Nat} {c : Bool} {K : List Nat} {g : Nat} (h : Kn σ γ w L) (hd : lookN σ.sl d = some (.c (.one (.v .bool c K g)))) : Kn (setB σ d c K g) γ w L :=
  ⟨fun t a ha => h.sr t a (by rw [← lookN_cons_self hd]; exact ha), h.ob, h.big⟩
theorem Ext.setB {σ : S D} {d : Nat} {c : Bool} {K : List Nat} {g : Nat} (wr : List Nat) (hd : lookN σ.sl d = some (.c (.one (.v .bool c K g)))) : Ext wr σ (setB σ d c K g) :=
  ⟨fun t _ => lookN_cons_self hd t, rfl, fun _ _ => rfl, Nat.le_refl _⟩
theorem Ext.ap {σ : S D} {e : Eff D} {d : Option Tmp} {wr : List Nat} (hd : ∀ t, d = some t → t ∈ wr) (he : effOk σ.lk e = true) : Ext wr σ (apE σ d e) := by
  unfold effOk at he
  simp only [Bool.and_eq_true] at he
  refine ⟨fun t ht => ?_, rfl, fun i hi => ?_, by show σ.nx ≤ σ.nx + 64; omega⟩
  · cases d with
    | none => rfl
    | some d =>
      show lookN ((d, e.dst) :: σ.sl) t = _
      simp only [lookN]
      have : Nat.beq d t = false := by
        cases hb : Nat.beq d t with
        | true =>
          have := Nat.eq_of_beq_eq_true hb
          exact (ht (hd t (by rw [this]))).elim
        | false => rfl
      rw [this]
      rfl
  · show lookN (e.fz.map (fun i => (i, none)) ++ e.upd ++ σ.ob) i = _
    have h1 : lookN (e.fz.map fun i => (i, (none : Option (AO D)))) i = none := by
      rw [lookN_none_iff]
      intro hm
      simp only [List.map_map, List.mem_map] at hm
      obtain ⟨x, hx, rfl⟩ := hm
      exact disjB_ok he.2 hx hi
    have h2 : lookN e.upd i = none := by
      rw [lookN_none_iff]
      exact fun hm => disjB_ok he.1 hm hi
    rw [List.append_assoc, lookN_append, h1]
    dsimp only
    rw [lookN_append, h2]
theorem Ext.skip {σ : S D} {d : Option Tmp} {wr : List Nat} (hd : ∀ t, d = some t → t ∈ wr) : Ext wr σ (skipE σ d) := by
  refine ⟨fun t ht => ?_, rfl, fun _ _ => rfl, by show σ.nx ≤ σ.nx + 64; omega⟩
  cases d with
  | none => rfl
  | some d =>
    show lookN ((d, _) :: σ.sl) t = _
    simp only [lookN]
    have : Nat.beq d t = false := by
      cases hb : Nat.beq d t with
      | true =>
        have := Nat.eq_of_beq_eq_true hb
        exact (ht (hd t (by rw [this]))).elim
      | false => rfl
    rw [this]
    rfl

theorem stepK_R {ρ : Type} {p : Nat} {o : Oper} {σ : S D} {lg : List Lg} {k : S D → List Lg → Option ρ} {r : ρ} (h : stepK T Φ p o σ lg k = some r) :
    ∃ as e l, evOs σ.sl o.op.operands.toList = some as ∧ Q.R σ.ob (operQ T Φ σ.nx o.op as) l e ∧ effOk σ.lk e = true ∧ k (apE σ o.dst e) (⟨p, l.reverse, e.wr⟩ :: lg) = some r := by
  unfold stepK at h
  split at h
  case h_2 => cases h
  rename_i as ha
  obtain ⟨l, e, h1, h2⟩ := Q.go_R h
  split at h2
  case isFalse => cases h2
  rename_i hc
  exact ⟨as, e, l, ha, h1, hc, by simpa using h2⟩
theorem dstsOf_mem {o : Oper} {r : List Oper} {t : Nat} (h : o.dst = some t) : t ∈ dstsOf (o :: r) := by
  unfold dstsOf
  simp [List.filterMap_cons, h]
theorem dstsOf_tail {o : Oper} {r : List Oper} {t : Nat} (h : t ∈ dstsOf r) : t ∈ dstsOf (o :: r) := by
  unfold dstsOf at h ⊢
  rw [List.filterMap_cons]
  split
  · exact h
  · exact List.mem_cons_of_mem _ h
theorem guardOf_R {ops : List Oper} {sl : List (Nat × AV D)} {j d : Nat} {a : AV D} (h : guardOf ops sl j = some (d, a)) : ∃ og, ops[j]? = some og ∧ og.dst = some d ∧ lookN sl d = some a := by
  unfold guardOf at h
  split at h
  case h_2 => cases h
  rename_i og ho
  split at h
  case h_2 => cases h
  rename_i d' hd
  split at h
  case h_2 => cases h
  rename_i a' ha
  cases h
  exact ⟨og, ho, hd, ha⟩
theorem cnd_R {ρ : Type} {c : Bool} {a b : Option ρ} {r : ρ} (h : cnd c a b = some r) : (c = true ∧ a = some r) ∨ (c = false ∧ b = some r) := by
  cases c with
  | true => exact .inl ⟨rfl, h⟩
  | false => exact .inr ⟨rfl, h⟩

section
variable (hP : POk P T) (hR : RepOk T) (hΦ : ∀ c ∈ Φ, ConOk P T c)
include hP hR hΦ
theorem step_ok {σ : S D} (hk : Kn σ γ w L) {o : Oper} {as : List (AV D)} {e : Eff D} {l : List Nat} (ha : evOs σ.sl o.op.operands.toList = some as) (hq : Q.R σ.ob (operQ T Φ σ.nx o.op as) l e) :
    OW P Qx L o w (fun v w' => ∃ γ', Frame γ w γ' w' ∧ Kn (apE σ o.dst e) γ' w' (putL o.dst v L)) := by
  obtain ⟨d, op, ty, pos, af, gd⟩ := o
  refine OW.mono (operQ_ok hP hR hΦ hk.cx ha hq) ?_
  rintro v w' ⟨γ', hp⟩
  exact ⟨γ', hp.fr, hk.ap hp d⟩

theorem cpsL_ok {ops : List Oper} : ∀ {l : List Oper} {p : Nat} {σ : S D} {lg : List Lg} {ρ : Type} {k : S D → List Lg → Option ρ} {r : ρ} {γ : Gh D} {w : World} {L : List (Nat × Value)}, cpsL T Φ ops l p σ lg k = some r → (∀ t ∈ dstsOf l, Nat.blt t n = true) → Kn σ γ w L →
    (∀ σ' lg' γ' w' L', Kn σ' γ' w' L' → Frame γ w γ' w' → Ext (dstsOf l) σ σ' → k σ' lg' = some r → NK n (Qx .normal) L' w') → WL P n ops.toArray Qx l L w
  | [], p, σ, lg, ρ, k, r, γ, w, L, h, hd, hk, hc => WL.nil (hc σ lg γ w L hk (Frame.refl _ _) (Ext.refl _ _) h)
  | o :: l, p, σ, lg, ρ, k, r, γ, w, L, h, hd, hk, hc => by
    have hdo : ∀ t, o.dst = some t → Nat.blt t n = true := fun t ht => hd t (dstsOf_mem ht)
    have hdl : ∀ t ∈ dstsOf l, Nat.blt t n = true := fun t ht => hd t (dstsOf_tail ht)
    -- an operation that runs, from a state that is as good as σ
    have run : ∀ {σ0 : S D}, Kn σ0 γ w L → Ext (dstsOf (o :: l)) σ σ0 → (∀ a, Fr n L a → Region.wanted o (yielded ops.toArray a.tmps) = true) → stepK T Φ p o σ0 lg (fun σ lg => cpsL T Φ ops l (p + 1) σ lg k) = some r → WL P n ops.toArray Qx (o :: l) L w := by
      intro σ0 hk0 he0 hw h
      obtain ⟨as, e, l', h1, h2, h3, h4⟩ := stepK_R h
      refine WL.take hdo hw (step_ok hP hR hΦ hk0 h1 h2) ?_
      rintro v w' ⟨γ', hf, hk'⟩
      have he' : Ext (dstsOf (o :: l)) σ0 (apE σ0 o.dst e) := Ext.ap (fun t ht => dstsOf_mem ht) h3
      exact cpsL_ok h4 hdl hk' fun σ' lg' γ'' w'' L'' hk'' hf'' he'' hc'' => hc σ' lg' γ'' w'' L'' hk'' (hf.trans hf'') ((he0.trans he').trans (he''.mono fun t ht => dstsOf_tail ht)) hc''
    -- one that is passed over
    have pass : ∀ {σ0 : S D}, Kn σ0 γ w L → Ext (dstsOf (o :: l)) σ σ0 → (∀ a, Fr n L a → Region.wanted o (yielded ops.toArray a.tmps) = false) → cpsL T Φ ops l (p + 1) (skipE σ0 o.dst) lg k = some r → WL P n ops.toArray Qx (o :: l) L w := by
      intro σ0 hk0 he0 hw h
      refine WL.pass hdo hw ?_
      have he' : Ext (dstsOf (o :: l)) σ0 (skipE σ0 o.dst) := Ext.skip fun t ht => dstsOf_mem ht
      exact cpsL_ok h hdl (hk0.skip o.dst) fun σ' lg' γ'' w'' L'' hk'' hf'' he'' hc'' => hc σ' lg' γ'' w'' L'' hk'' hf'' ((he0.trans he').trans (he''.mono fun t ht => dstsOf_tail ht)) hc''
    simp only [cpsL] at h
    split at h
    · rename_i hg
      exact run hk (Ext.refl _ _) (fun a _ => by simp [Region.wanted, hg]) h
    · rename_i j b hg
      split at h
      case h_1 => cases h
      rename_i d a hgo
      obtain ⟨og, ho, hdg, hl⟩ := guardOf_R hgo
      split at h
      · rename_i c K g
        obtain ⟨v, hv1, hv2⟩ := hk.sr d _ hl
        have hv2 : v = .bool c := hv2.1
        subst hv2
        have hy : ∀ a, Fr n L a → Region.wanted o (yielded ops.toArray a.tmps) = (c == b) := fun a ha => by
          simp [Region.wanted, hg, yield_ok ha ho hdg hv1]
        rcases cnd_R h with ⟨rfl, h⟩ | ⟨rfl, h⟩
        · have hks := hk.setB hl
          have hes := Ext.setB (dstsOf (o :: l)) hl
          cases b with
          | true => exact run hks hes (fun a ha => by rw [hy a ha]; rfl) h
          | false => exact pass hks hes (fun a ha => by rw [hy a ha]; rfl) h
        · have hks := hk.setB hl
          have hes := Ext.setB (dstsOf (o :: l)) hl
          cases b with
          | true => exact pass hks hes (fun a ha => by rw [hy a ha]; rfl) h
          | false => exact run hks hes (fun a ha => by rw [hy a ha]; rfl) h
      · split at h
        case isFalse => cases h
        rename_i hu
        have ha : a = .c (.one .undef) := by
          unfold isUndef at hu
          split at hu
          · rfl
          · cases hu
        subst ha
        obtain ⟨v, hv1, hv2⟩ := hk.sr d _ hl
        have hv2 : v = undef := hv2
        subst hv2
        exact pass hk (Ext.refl _ _) (fun a ha => by simp [Region.wanted, hg, yield_un ha ho hdg hv1]) h
end
end
end Rx
end Go.Proofs.Ytdfkfohpgakihaa
