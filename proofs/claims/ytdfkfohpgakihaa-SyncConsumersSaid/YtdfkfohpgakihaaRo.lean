/- The code run with a continuation does what the code does: code, functions. Nothing here names a program. -/
import Derived.Test.YtdfkfohpgakihaaRn
set_option linter.unusedVariables false
set_option linter.unusedSimpArgs false
set_option linter.unusedSectionVars false
namespace Go.Proofs.Ytdfkfohpgakihaa
open Go Go.RowKit Dp

namespace Rx

section
variable {D : Nat → Type} [∀ n, Rep (D n)]
variable {P : Program} {T : Tab D} {Φ : List (Con D)} {n : Nat}

def toX : Out → Exit
  | .normal => .normal
  | .exit id => .exit id
  | .goto l => .goto l
  | .ret => .ret

theorem loopN_R {σ ρ : Type} {step : σ → Option (σ ⊕ ρ)} : ∀ {n : Nat} {s : σ} {r : ρ}, loopN step n s = some r → loopR step s = some r
  | 0, s, r, h => by cases h
  | n + 1, s, r, h => by
    have h : (match step s with
      | some (.inl s') => loopN step n s'
      | some (.inr r) => some r
      | none => none) = some r := h
    rw [loopR_unfold]
    cases hs : step s with
    | none => rw [hs] at h; cases h
    | some x =>
      rw [hs] at h
      cases x with
      | inl s' => exact loopN_R h
      | inr r' => exact h
theorem loopO_R {σ ρ : Type} {step : σ → Option (σ ⊕ ρ)} {s : σ} {r : ρ} (h : loopO step s = some r) : loopR step s = some r := loopN_R h
section
variable (hP : POk P T) (hR : RepOk T) (hΦ : ∀ c ∈ Φ, ConOk P T c) (hm : P.follows .mixedOrders = true)
include hP hR hΦ hm

theorem region_ok {id : Nat} {ops : Array Oper} {draw : Bool} {sg : Sg} {ρ : Type} {σ : S D} {k : S D → Option ρ} {r : ρ} {γ : Gh D} {w : World} {L : List (Nat × Value)} {Qx : Exit → Act → World → Prop} (h : cpsR T Φ ops.toList draw sg σ k = some r) (hd : ∀ t ∈ dstsOf ops.toList, Nat.blt t n = true) (hk : Kn σ γ w L)
    (hc : ∀ σ' γ' w' L', Kn σ' γ' w' L' → Frame γ w γ' w' → Ext (dstsOf ops.toList) σ σ' → k σ' = some r → NK n (Qx .normal) L' w') : CW P n (.region id ops draw) Qx L w := by
  unfold cpsR at h
  have e : ops = ops.toList.toArray := by simp
  cases draw with
  | true =>
    simp only [if_true] at h
    split at h
    case isFalse => cases h
    rename_i hs
    rw [e]
    exact any_ok hP hR hΦ hm hs h hd hk hc
  | false =>
    simp only [Bool.false_eq_true, if_false] at h
    rw [e]
    exact CW.region (cpsG_ok hP hR hΦ sg h hd hk hc)

/-- the loop -/
theorem loop_ok {c : Code} {wr : List Nat} {j : J} {pr : Bool} {E : List (Out × J)} {ρ : Type} {body : ∀ {ρ' : Type}, S D → (Out → S D → Option ρ') → Option ρ'} {σ : S D} {k : Out → S D → Option ρ} {r : ρ} {γ : Gh D} {w : World} {L : List (Nat × Value)} {Qx : Exit → Act → World → Prop}
    (h : loopK T wr j pr E body σ k = some r) (hk : Kn σ γ w L)
    (hbody : ∀ {ρ' : Type} {σ' : S D} {k' : Out → S D → Option ρ'} {r' : ρ'} {γ' : Gh D} {w' : World} {L' : List (Nat × Value)} {Q' : Exit → Act → World → Prop}, body σ' k' = some r' → Kn σ' γ' w' L' → (∀ o σ1 γ1 w1 L1, Kn σ1 γ1 w1 L1 → Frame γ' w' γ1 w1 → Ext wr σ' σ1 → k' o σ1 = some r' → NK n (Q' (toX o)) L1 w1) → CW P n c Q' L' w')
    (hc : ∀ o σ1 γ1 w1 L1, Kn σ1 γ1 w1 L1 → Frame γ w γ1 w1 → Ext wr σ σ1 → k o σ1 = some r → NK n (Qx (toX o)) L1 w1) : CW P n (.loop c) Qx L w := by
  unfold loopK at h
  obtain ⟨h0, hx0, h⟩ := exJ_R h
  obtain ⟨x, hx, hf⟩ := bindE h
  generalize hmv : j.mv ++ mvE E = mv at *
  have hs : ∀ i ∈ σ.lk, i ∈ (kept σ mv).map Prod.fst ++ σ.lk := fun i hi => List.mem_append.2 (.inr hi)
  -- the state at the head of a round
  have head : ∀ {h' : HH D j.hts} {σ1 : S D} {γ1 : Gh D} {w1 : World} {L1 : List (Nat × Value)}, Kn σ1 γ1 w1 L1 → Ext wr { σ with lk := (kept σ mv).map Prod.fst ++ σ.lk } σ1 → ExR T j σ1 h' → Frame γ w γ1 w1 → ∀ {σh : S D}, inJ T j wr mv σ h' = some σh →
      ∃ γ', Kn σh γ' w1 L1 ∧ Frame γ w γ' w1 ∧ Ext wr { σ with lk := (kept σ mv).map Prod.fst ++ σ.lk } { σh with lk := (kept σ mv).map Prod.fst ++ σ.lk } := by
    intro h' σ1 γ1 w1 L1 hk1 he hx hfr σh hi
    obtain ⟨γ2, k1, k2, k3, _⟩ := join_ok hR rfl hk hk1 he hx hi
    exact ⟨γ2, k1, hfr.trans k2, k3⟩
  refine CW.loop _ (fun h' L' w' => ∀ σh, inJ T j wr mv σ h' = some σh → ∃ γ', Kn σh γ' w' L' ∧ Frame γ w γ' w' ∧ Ext wr { σ with lk := (kept σ mv).map Prod.fst ++ σ.lk } { σh with lk := (kept σ mv).map Prod.fst ++ σ.lk }) (loopO_R hx) ?_ ?_
  · intro σh hi
    exact head (hk.lk _) (Ext.refl _ _) hx0 (Frame.refl _ _) hi
  · intro K s L' w' hinv y hy hr1 hr2
    dsimp only at hy
    split at hy
    case h_2 => cases hy
    rename_i σh hσh
    obtain ⟨γ', hk', hfr', he'⟩ := hinv σh hσh
    refine hbody hy (hk'.lk _) fun o σ1 γ1 w1 L1 hk1 hfr1 he1 ho => ?_
    have heT := he'.trans he1
    have out : ∀ {z : Option (ExT D pr ρ E)} {o : Out}, o ≠ .normal → z = toE T pr E o σ1 (k o { σ1 with lk := σ.lk }) → (match z with | some x => some (Sum.inr x) | none => none) = some y → NK n (Exit.then K Qx (toX o)) L1 w1 := by
      intro z o hon hz hzy
      subst hz
      split at hzy
      case h_2 => cases hzy
      rename_i x' hx'
      cases hzy
      have := hr1 x' rfl
      subst this
      have fin : ∀ o σ1 γ1 w1 L1, o ≠ .normal → Kn σ1 γ1 w1 L1 → Frame γ w γ1 w1 → Ext wr σ σ1 → k o σ1 = some r → NK n (Exit.then K Qx (toX o)) L1 w1 := by
        intro o σ1 γ1 w1 L1 hon k1 k2 k3 k4
        have := hc o σ1 γ1 w1 L1 k1 k2 k3 k4
        cases o with
        | normal => exact (hon rfl).elim
        | exit id => exact this
        | goto l => exact this
        | ret => exact this
      rcases toE_fromE hx' hf with ⟨j', y, σ2, h1, h2, h3⟩ | h1
      · obtain ⟨γ2, k1, k2, k3, k4⟩ := join_ok hR rfl hk hk1 heT h1 h2
        have e3 := k3.unlk (σ := σ) hs
        have e : ({ σ2 with lk := σ.lk } : S D) = σ2 := by rw [← k4]
        rw [show ({ ({ σ2 with lk := (kept σ mv).map Prod.fst ++ σ.lk } : S D) with lk := σ.lk } : S D) = { σ2 with lk := σ.lk } from rfl, e] at e3
        exact fin o σ2 γ2 w1 L1 hon k1 ((hfr'.trans hfr1).trans k2) e3 h3
      · exact fin o _ γ1 w1 L1 hon (hk1.lk _) (hfr'.trans hfr1) (heT.unlk hs) h1
    cases o with
    | normal =>
      obtain ⟨h', hx', e⟩ := exJ_R ho
      cases e
      exact hr2 h' L1 w1 rfl fun σh2 hi2 => head hk1 heT hx' (hfr'.trans hfr1) hi2
    | exit id => exact out (by simp) rfl ho
    | goto l => exact out (by simp) rfl ho
    | ret => exact out (by simp) rfl ho

theorem cps_ok : ∀ (c : Code) (an : An) {ρ : Type} {σ : S D} {k : Out → S D → Option ρ} {r : ρ} {γ : Gh D} {w : World} {L : List (Nat × Value)} {Qx : Exit → Act → World → Prop}, cps T Φ c an σ k = some r → (∀ t ∈ writes c, Nat.blt t n = true) → Kn σ γ w L →
    (∀ o σ' γ' w' L', Kn σ' γ' w' L' → Frame γ w γ' w' → Ext (writes c) σ σ' → k o σ' = some r → NK n (Qx (toX o)) L' w') → CW P n c Qx L w := by
  intro c
  induction c with
  | skip =>
    intro an ρ σ k r γ w L Qx h hd hk hc
    simp only [cps] at h
    exact CW.skip (hc .normal σ γ w L hk (Frame.refl _ _) (Ext.refl _ _) h)
  | region id ops draw =>
    intro an ρ σ k r γ w L Qx h hd hk hc
    simp only [cps] at h
    refine wrap_ok hR h hk (X := fun o L' w' => NK n (Qx (toX o)) L' w') ?_ hc
    intro ρ' σ' k' r' hb hk' hx
    exact region_ok hP hR hΦ hm hb hd hk' fun σ1 γ1 w1 L1 m1 m2 m3 m4 => hx .normal σ1 γ1 w1 L1 m1 m2 m3 m4
  | seq a b iha ihb =>
    intro an ρ σ k r γ w L Qx h hd hk hc
    simp only [cps] at h
    refine wrap_ok hR h hk (X := fun o L' w' => NK n (Qx (toX o)) L' w') ?_ hc
    intro ρ' σ' k' r' hb hk' hx
    have hda : ∀ t ∈ writes a, t ∈ writes (.seq a b) := fun t ht => by simp only [writes]; exact List.mem_append.2 (.inl ht)
    have hdb : ∀ t ∈ writes b, t ∈ writes (.seq a b) := fun t ht => by simp only [writes]; exact List.mem_append.2 (.inr ht)
    refine CW.seq fun K hK => ?_
    refine iha _ hb (fun t ht => hd t (hda t ht)) hk' fun o σ1 γ1 w1 L1 m1 m2 m3 m4 => ?_
    have m3 := m3.mono hda
    cases o with
    | normal =>
      refine hK _ _ ?_
      refine ihb _ m4 (fun t ht => hd t (hdb t ht)) m1 fun o σ2 γ2 w2 L2 n1 n2 n3 n4 => ?_
      exact hx o σ2 γ2 w2 L2 n1 (m2.trans n2) (m3.trans (n3.mono hdb)) n4
    | exit id => exact hx (.exit id) σ1 γ1 w1 L1 m1 m2 m3 m4
    | goto l => exact hx (.goto l) σ1 γ1 w1 L1 m1 m2 m3 m4
    | ret => exact hx .ret σ1 γ1 w1 L1 m1 m2 m3 m4
  | cond x a b iha ihb =>
    intro an ρ σ k r γ w L Qx h hd hk hc
    simp only [cps] at h
    refine wrap_ok hR h hk (X := fun o L' w' => NK n (Qx (toX o)) L' w') ?_ hc
    intro ρ' σ' k' r' hb hk' hx
    have hda : ∀ t ∈ writes a, t ∈ writes (.cond x a b) := fun t ht => by simp only [writes]; exact List.mem_append.2 (.inl ht)
    have hdb : ∀ t ∈ writes b, t ∈ writes (.cond x a b) := fun t ht => by simp only [writes]; exact List.mem_append.2 (.inr ht)
    split at hb
    case h_2 => cases hb
    rename_i d K g hev
    obtain ⟨v, h1, h2⟩ := evO_ok hk'.sr hev
    have h2 : v = .bool d := h2.1
    subst h2
    intro a' ha'
    refine wp_cond_split (ha'.ev h1) (fun hdt => ?_) (fun hdf => ?_)
    · subst hdt
      refine iha _ hb (fun t ht => hd t (hda t ht)) hk' (fun o σ1 γ1 w1 L1 m1 m2 m3 m4 => hx o σ1 γ1 w1 L1 m1 m2 (m3.mono hda) m4) a' ha'
    · subst hdf
      refine ihb _ hb (fun t ht => hd t (hdb t ht)) hk' (fun o σ1 γ1 w1 L1 m1 m2 m3 m4 => hx o σ1 γ1 w1 L1 m1 m2 (m3.mono hdb) m4) a' ha'
  | block id a iha =>
    intro an ρ σ k r γ w L Qx h hd hk hc
    simp only [cps] at h
    refine wrap_ok hR h hk (X := fun o L' w' => NK n (Qx (toX o)) L' w') ?_ hc
    intro ρ' σ' k' r' hb hk' hx
    refine CW.block ?_
    refine iha _ hb hd hk' fun o σ1 γ1 w1 L1 m1 m2 m3 m4 => ?_
    cases o with
    | normal => exact hx .normal σ1 γ1 w1 L1 m1 m2 m3 m4
    | exit id' =>
      dsimp only at m4
      intro a' ha'
      show (if id' = id then Qx .normal a' w1 else Qx (.exit id') a' w1)
      cases hb : Nat.beq id' id with
      | true =>
        rw [hb] at m4
        rw [if_pos (Nat.eq_of_beq_eq_true hb)]
        exact hx .normal σ1 γ1 w1 L1 m1 m2 m3 m4 a' ha'
      | false =>
        rw [hb] at m4
        have hne : ¬ id' = id := fun e => by subst e; simp at hb
        rw [if_neg hne]
        exact hx (.exit id') σ1 γ1 w1 L1 m1 m2 m3 m4 a' ha'
    | goto l => exact hx (.goto l) σ1 γ1 w1 L1 m1 m2 m3 m4
    | ret => exact hx .ret σ1 γ1 w1 L1 m1 m2 m3 m4
  | loop a iha =>
    intro an ρ σ k r γ w L Qx h hd hk hc
    cases an with
    | loop j pr E x =>
      simp only [cps] at h
      refine loop_ok hP hR hΦ hm h hk ?_ hc
      intro ρ' σ' k' r' γ' w' L' Q' hb hk' hx
      exact iha x hb hd hk' hx
    | _ => simp [cps] at h
  | exit id =>
    intro an ρ σ k r γ w L Qx h hd hk hc
    simp only [cps] at h
    exact CW.exit (hc (.exit id) σ γ w L hk (Frame.refl _ _) (Ext.refl _ _) h)
  | ret =>
    intro an ρ σ k r γ w L Qx h hd hk hc
    simp only [cps] at h
    have := hc .ret σ γ w L hk (Frame.refl _ _) (Ext.refl _ _) h
    exact fun a ha => wp_ret (this a ha)
  | rangeFunc => intro an ρ σ k r γ w L Qx h; simp [cps] at h
  | scope => intro an ρ σ k r γ w L Qx h; simp [cps] at h
  | label => intro an ρ σ k r γ w L Qx h; simp [cps] at h
  | goto => intro an ρ σ k r γ w L Qx h; simp [cps] at h
  | refuse => intro an ρ σ k r γ w L Qx h; simp [cps] at h

end

/-! functions -/
theorem run_loadR {t : TypeId} {a : Bool} {z : List Value} {pa : Addr} {cs : List Value} {w : World} (hT : TyR P t a z) (hz : a = false → z.length = 1) (hc : CellsAt w pa cs) (hl : cs.length = z.length) : (loadVar t pa).run P w = .ok (pack a cs) w := by
  simp only [loadVar, Sem.run_bind, hT.isAgg, Result.andThen_ok]
  cases a with
  | true =>
    have := run_loadCells_list (P := P) w pa cs hc
    rw [hl] at this
    simp [hT.sizeOf, this, pack]
  | false =>
    rw [hz rfl] at hl
    match cs, hl, hc with
    | [u], _, hc =>
      have := hc 0 u rfl
      have hu : w.cell? pa = some u := by simpa [Addr.add] using this
      simp [pack, hu]
theorem resQ_ok (hP : POk P T) {σ : S D} {γ : Gh D} {w : World} {L : List (Nat × Value)} (hk : Kn σ γ w L) : ∀ {rs : List ResultVar} {l : List Nat} {avs : List (AV D)}, Q.R σ.ob (resQ T σ.sl rs) l avs → ∃ vs, ResAll P L w rs vs ∧ VRVs (fun i => i < σ.nx) γ w avs vs
  | [], l, avs, h => by
    obtain ⟨_, rfl⟩ := h
    exact ⟨[], trivial, trivial⟩
  | .tmp t :: rs, l, avs, h => by
    simp only [resQ] at h
    split at h
    case h_2 => exact (h : False).elim
    rename_i a ha
    obtain ⟨l1, l2, bs, _, h1, h2⟩ := Q.R_bind h
    obtain ⟨_, rfl⟩ := h2
    obtain ⟨v, k1, k2⟩ := hk.sr t a ha
    obtain ⟨vs, k3, k4⟩ := resQ_ok hP hk h1
    exact ⟨v :: vs, ⟨k1, k3⟩, k2, k4⟩
  | .cell t ty :: rs, l, avs, h => by
    simp only [resQ] at h
    split at h
    case h_2 => exact (h : False).elim
    rename_i i off tyd ha ht
    obtain ⟨ao, l', ho, rfl, h⟩ := h
    cases ao with
    | sl => exact (h : False).elim
    | kid => exact (h : False).elim
    | kidh => exact (h : False).elim
    | box cs =>
      dsimp only at h
      split at h
      case h_2 => exact (h : False).elim
      rename_i a hcut
      obtain ⟨l1, l2, bs, _, h1, h2⟩ := Q.R_bind h
      obtain ⟨_, rfl⟩ := h2
      obtain ⟨v, k1, _, b, hg, rfl⟩ := hk.sr t _ ha
      obtain ⟨_, _, b', us, t', m1, m2, m3, m4, m5⟩ := hk.ob.ob i _ ho
      rw [hg] at m1
      obtain ⟨rfl, _⟩ := ptrV_inj m1
      obtain ⟨n1, n2⟩ := cutA_ok m4 hcut
      obtain ⟨vs, k3, k4⟩ := resQ_ok hP hk h1
      have hT := (hP.ty ty tyd ht).1
      have hrun := run_loadR (w := w) hT (zcells_one T tyd) (cells_at m3 off (tyd.n T)) (by rw [zcells_len]; simp; omega)
      exact ⟨_ :: vs, ⟨⟨_, k1, hrun⟩, k3⟩, n2, k4⟩
theorem argS_ok {U : Nat → Prop} {γ : Gh D} {w : World} : ∀ {as : List (AC D)} {vs : List Value} {k : Nat}, VRCs U γ w as vs → SR U γ w (argS k as) (argsL k vs)
  | [], [], k, _ => fun t a h => by simp [argS, lookN] at h
  | a :: as, v :: vs, k, h => SR.cons (argS_ok h.2) h.1
  | [], _ :: _, k, h => h.elim
  | _ :: _, [], k, h => h.elim

def rhoR (m : M D) (x : Nat) : Nat := match lookN (swap m.ids) x with
  | some p => p
  | none => if memN m.ku x then 1 else if x < 4 then x else 2
theorem ret_ok (hP : POk P T) (hR : RepOk T) {σ : S D} {γ : Gh D} {w : World} {L : List (Nat × Value)} {c : Con D} {rs : List ResultVar} {r : HH D c.outs} (hk : Kn σ γ w L) (hbp : ∀ q ∈ c.ob', 1000 ≤ q.1) (hs : ∀ q ∈ c.ob, q.1 < 2000) (h : retK.fin T c rs σ = some r) :
    ∃ vs, ResAll P L w rs vs ∧ ∃ γ' rs' obs', inCs T (ofHH T c.outs r) some id 3000 c.res = some rs' ∧ inOs T (ofHH T c.outs r) some id 3000 c.ob' = some obs' ∧ VRR (fun _ => True) γ' w rs' (resVal vs) ∧ (∀ p x, lookO obs' p = some x → OR (fun _ => True) γ' w p x) ∧
      (∀ p, (p, p) ∈ stay c → γ'.g p = γ.g p) ∧ Frame0 γ w γ' w := by
  unfold retK.fin at h
  obtain ⟨l, avs, h1, h2⟩ := Q.go_R h
  obtain ⟨l', x, h3, h4⟩ := Q.go_R h2
  obtain ⟨hh, m⟩ := x
  dsimp only at h4
  split at h4
  case h_2 => cases h4
  rename_i rs' obs' hrs hobs
  have h4 := Option.some.inj h4
  subst h4
  obtain ⟨vs, k1, k2⟩ := resQ_ok hP hk h1
  obtain ⟨⟨hex, hidU⟩, hgen⟩ := exQ_ok hR hk.ob h3 k2
  dsimp only at hex hidU hgen
  have hnone : ∀ x, (∀ p, (p, x) ∉ m.ids) → lookN (swap m.ids) x = none := fun x hn => by
    cases hl : lookN (swap m.ids) x with
    | none => rfl
    | some p => exact (hn p (swap_mem.1 (lookN_mem hl))).elim
  have hrho_low : ∀ x, x < 4 → rhoR m x = x := fun x hx => by
    unfold rhoR
    rw [hnone x fun p hp => by have := hex.idb p x hp; omega]
    have h1 : memN m.ku x = false := by
      cases hm : memN m.ku x with
      | true => have := (hex.ku x (memN_iff.1 hm)).1; omega
      | false => rfl
    simp only [h1, Bool.false_eq_true, if_false]
    rw [if_pos hx]
  have hrho_ku : ∀ x, x ∈ m.ku → rhoR m x = 1 := fun x hx => by
    unfold rhoR
    rw [hnone x (hex.ku x hx).2]
    simp only [memN_iff.2 hx, if_true]
  have hbigp : ∀ p i, (p, i) ∈ m.ids → rhoR m i = p := fun p i hp => by
    unfold rhoR
    rw [look_swap hex.ids hp]
  have hFin : Fin T (fun i => i < σ.nx) (fun _ => True) γ ⟨fun b => rhoR m (γ.o b), gOf γ m, nms γ.v 3000 (ofHH T c.outs hh)⟩ w m (ofHH T c.outs hh) 3000 := by
    refine ⟨hex.dv, fun p i hp => ⟨trivial, gOf_new hex hp⟩, fun i x hx => ?_, fun _ p _ hxb _ => ?_, fun K Kp hmay hK hkr b hb => ?_, fun q K Kp hq hmay hK hkr b hb => ?_, fun i d hd => .inr ⟨trivial, nms_at hd⟩⟩
    · have := (hex.new _ hx).1
      simp only at this
      show ¬ i < σ.nx
      omega
    · rw [hex.xb_] at hxb
      omega
    · unfold M.may at hmay
      rw [hex.call_] at hmay
      simp only [Bool.false_eq_true, if_false, subB, List.all_eq_true] at hmay
      have hb : γ.o b ∈ K := hb
      show rhoR m (γ.o b) ∈ Kp
      rw [hrho_low _ (by have := hK _ hb; omega)]
      exact memN_iff.1 (hmay _ hb)
    · unfold M.may at hmay
      rw [hex.call_] at hmay
      simp only [Bool.false_eq_true, if_false, subB, List.all_eq_true] at hmay
      have hb : γ.o b ∈ q :: K := hb
      show rhoR m (γ.o b) ∈ Kp
      rcases List.mem_cons.1 hb with hb | hb
      · rw [hb, hrho_ku q hq]
        exact memN_iff.1 (hmay 1 (by simp))
      · rw [hrho_low _ (by have := hK _ hb; omega)]
        exact memN_iff.1 (hmay _ (by simp [hb]))
  have hFinO : FinO γ ⟨fun b => rhoR m (γ.o b), gOf γ m, nms γ.v 3000 (ofHH T c.outs hh)⟩ m := ⟨fun p i hp b hb => by
    show rhoR m (γ.o b) = p
    rw [hb]
    exact hbigp p i hp⟩
  obtain ⟨g1, g2⟩ := hgen hFin hFinO
  have hvr := g1 rs' hrs
  refine ⟨vs, k1, _, rs', obs', hrs, hobs, ?_, fun p x hx => (g2 obs' hobs p x hx).2.2, fun p hp => ?_, ⟨rfl, rfl, rfl, Nat.le_refl _, fun b hb hc => ⟨hrho_low _ (by omega), rfl⟩, fun b hb hc => ⟨hb, ?_⟩⟩⟩
  · unfold VRR
    match rs', vs, hvr with
    | [], [], _ => exact ⟨[], rfl, trivial⟩
    | [a], [v], hvr => exact hvr.1
    | a :: a' :: as, v :: v' :: vs, hvr => exact ⟨v :: v' :: vs, rfl, hvr⟩
    | [], _ :: _, hvr => exact hvr.elim
    | _ :: _, [], hvr => exact hvr.elim
    | [a], v :: v' :: vs, hvr => exact hvr.2.elim
    | a :: a' :: as, [v], hvr => exact hvr.2.elim
  · have hmem := hex.ids0_ _ hp
    refine (gOf_new hex hmem).2 fun x hx => ?_
    have h5 := (hex.new _ hx).1
    simp only at h5
    have hpb : p < 2000 := by
      unfold stay at hp
      obtain ⟨q, hq, e⟩ := List.mem_map.1 hp
      cases e
      obtain ⟨q', hq'⟩ := memN_map (List.mem_filter.1 hq).2
      exact hs (q.1, q') hq'
    have := hk.big
    omega
  · show γ.o b = rhoR m (γ.o b)
    have hc : rhoR m (γ.o b) = 0 ∨ rhoR m (γ.o b) = 3 := hc
    have hmk : ∀ p i, (p, i) ∈ m.ids → 1000 ≤ p := fun p i hp => by
      obtain ⟨q, hq⟩ := memN_map (hex.key p i hp)
      exact hbp (p, q) hq
    unfold rhoR at hc ⊢
    cases hl : lookN (swap m.ids) (γ.o b) with
    | some p =>
      rw [hl] at hc
      have := hmk p _ (swap_mem.1 (lookN_mem hl))
      dsimp only at hc
      omega
    | none =>
      rw [hl] at hc
      dsimp only at hc ⊢
      split at hc
      · omega
      · split at hc
        · rename_i h5 h6
          simp only [h5, h6, if_true, if_false]
          simp
        · omega

theorem VRCs.len {U : Nat → Prop} {γ : Gh D} {w : World} : ∀ {as : List (AC D)} {vs : List Value}, VRCs U γ w as vs → vs.length = as.length
  | [], [], _ => rfl
  | _ :: as, _ :: vs, h => by simp [VRCs.len h.2]
  | [], _ :: _, h => h.elim
  | _ :: _, [], h => h.elim
/-- a function -/
theorem fn_ok (hP : POk P T) (hR : RepOk T) (hΦ : ∀ c ∈ Φ, ConOk P T c) (hm : P.follows .mixedOrders = true) {c : Con D} {fn : Func} {code : Code} {rs : List ResultVar} {an : An}
    (hent : ∀ (args : Array Value) (w : World), (callFunc c.f args).run P w = .ok (.enter c.f args) w)
    (hf : P.funcs[c.f]? = some fn) (hb : fn.body = some code) (hrs : fn.results = rs.toArray)
    (hst : ((writes code).all (fun t => Nat.blt t fn.ntmps) && Nat.ble c.args.length fn.ntmps && ksOk c.res c.ob' && nodupB (c.ob'.map Prod.fst) && c.ob'.all (fun p => Nat.ble 1000 p.1) && Nat.ble c.ob'.length 40) = true)
    (hfn : ∀ h, sem T Φ c rs code an h = c.fn h) : ConOk P T c := by
  simp only [Bool.and_eq_true] at hst
  obtain ⟨⟨⟨⟨⟨hw, hl⟩, hks⟩, hkey⟩, hbig⟩, hfew⟩ := hst
  refine ⟨hent, hks, hkey, hbig, hfew, fun h r hr as obs has hobs γ w vs hv hob => ?_⟩
  rw [← hfn] at hr
  unfold sem at hr
  split at hr
  case h_2 => cases hr
  rename_i σ hσ
  unfold entS at hσ
  dsimp only at hσ
  split at hσ
  case isFalse => cases hσ
  rename_i hc
  rw [has, hobs] at hσ
  have hσ := Option.some.inj hσ
  subst hσ
  simp only [Bool.and_eq_true, List.all_eq_true] at hc hbig hw
  have hsr := argS_ok (k := 0) hv
  have hlen := hv.len
  have hlen2 := inCs_len has
  refine enter hf hb rfl (by rw [hlen, hlen2]; exact hl) ?_
  refine cps_ok hP hR hΦ hm code an hr hw (γ := γ) ⟨hsr, hob, Nat.le_refl _⟩ fun o σ' γ' w' L' hk' hfr hext ho => ?_
  have fin : ∀ {σ'}, Kn σ' γ' w' L' → retK.fin T c rs σ' = some r → ∃ vs, ResAll P L' w' rs vs ∧ Ret (fun v w' => ∃ U' γ' rs obs', inCs T (ofHH T c.outs r) some id 3000 c.res = some rs ∧ inOs T (ofHH T c.outs r) some id 3000 c.ob' = some obs' ∧
      VRR U' γ' w' rs v ∧ (∀ p x, lookO obs' p = some x → OR U' γ' w' p x) ∧ (∀ p, (p, p) ∈ stay c → γ'.g p = γ.g p) ∧ Frame0 γ w γ' w') (.returned (resVal vs)) w' := by
    intro σ' hk' ho
    obtain ⟨vs, h1, γ2, rs', obs', h2, h3, h4, h5, h6, h7⟩ := ret_ok hP hR hk' (fun q hq => Nat.le_of_ble_eq_true (hbig q hq)) (fun q hq => by
      have := Nat.le_of_ble_eq_true (hc.2 q hq).2
      omega) ho
    refine ⟨vs, h1, _, rfl, _, γ2, rs', obs', h2, h3, h4, h5, fun p hp => ?_, hfr.toFrame0.trans h7⟩
    rw [h6 p hp]
    refine hfr.gk p ?_
    unfold stay at hp
    obtain ⟨q, hq, e⟩ := List.mem_map.1 hp
    cases e
    obtain ⟨q', hq'⟩ := memN_map (List.mem_filter.1 hq).2
    have := Nat.le_of_ble_eq_true (hc.2 _ hq').2
    simp only at this
    omega
  cases o with
  | normal =>
    obtain ⟨vs, h1, h2⟩ := fin hk' ho
    exact fun a ha => bodyPost_end (results_all (fun _ _ hx => ha.ev hx) hrs h1) ha.defers h2
  | ret =>
    obtain ⟨vs, h1, h2⟩ := fin hk' ho
    exact fun a ha => bodyPost_ret (results_all (fun _ _ hx => ha.ev hx) hrs h1) ha.defers h2
  | exit id => cases ho
  | goto l => cases ho
end
end Rx
end Go.Proofs.Ytdfkfohpgakihaa
