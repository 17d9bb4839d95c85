/- The code run with a continuation does what the code does: joints, regions in the order of the text, code. Nothing here names a program. -/
import Derived.Test.YtdfkfohpgakihaaRl
set_option linter.unusedVariables false
set_option linter.unusedSimpArgs false
set_option linter.unusedSectionVars false
namespace Go.Proofs.Ytdfkfohpgakihaa
open Go Go.RowKit Dp

namespace Rx

section
variable {D : Nat → Type} [∀ n, Rep (D n)]
variable {P : Program} {T : Tab D} {Φ : List (Con D)} {n : Nat} {γ : Gh D} {w : World} {L : List (Nat × Value)} {Qx : Exit → Act → World → Prop}

theorem Out.beq_ok : ∀ {a b : Out}, a.beq b = true → a = b
  | .normal, .normal, _ => rfl
  | .exit a, .exit b, h => by rw [Nat.eq_of_beq_eq_true h]
  | .goto a, .goto b, h => by rw [Nat.eq_of_beq_eq_true h]
  | .ret, .ret, _ => rfl
  | .normal, .exit _, h => by cases h
  | .normal, .goto _, h => by cases h
  | .normal, .ret, h => by cases h
  | .exit _, .normal, h => by cases h
  | .exit _, .goto _, h => by cases h
  | .exit _, .ret, h => by cases h
  | .goto _, .normal, h => by cases h
  | .goto _, .exit _, h => by cases h
  | .goto _, .ret, h => by cases h
  | .ret, .normal, h => by cases h
  | .ret, .exit _, h => by cases h
  | .ret, .goto _, h => by cases h
theorem fromJ_R {ρ : Type} {j : J} {wr mv : List Nat} {σ : S D} {k : S D → Option ρ} {h : HH D j.hts} {r : ρ} (e : fromJ T j wr mv σ k h = some r) : ∃ σ2, inJ T j wr mv σ h = some σ2 ∧ k σ2 = some r := by
  unfold fromJ at e
  split at e
  · rename_i σ' h1
    exact ⟨σ', h1, e⟩
  · cases e
theorem toE_fromE {ρ : Type} {wr mv : List Nat} {σ σ1 : S D} {k : Out → S D → Option ρ} {kv : Option ρ} {o : Out} {r : ρ} : ∀ {E : List (Out × J)} {pr : Bool} {x : ExT D pr ρ E}, toE T pr E o σ1 kv = some x → fromE T pr wr mv σ k E x = some r →
    (∃ j h σ2, ExR T j σ1 h ∧ inJ T j wr mv σ h = some σ2 ∧ k o σ2 = some r) ∨ kv = some r
  | [], pr, x, h, hf => by
    simp only [toE] at h
    simp only [fromE] at hf
    exact .inr (h.trans hf)
  | (o', j) :: E, pr, x, h, hf => by
    cases pr with
    | true =>
      cases E with
      | nil =>
        simp only [toE] at h
        split at h
        case isFalse => cases h
        rename_i hb
        obtain ⟨y, h1, h2⟩ := exJ_R h
        cases h2
        have := Out.beq_ok hb
        subst this
        simp only [fromE] at hf
        obtain ⟨σ2, h3, h4⟩ := fromJ_R hf
        exact .inl ⟨j, x, σ2, h1, h3, h4⟩
      | cons e E =>
        simp only [toE] at h
        split at h
        · rename_i hb
          obtain ⟨y, h1, h2⟩ := exJ_R h
          cases h2
          have := Out.beq_ok hb
          subst this
          simp only [fromE, oelim, Sum.elim_inl] at hf
          obtain ⟨σ2, h3, h4⟩ := fromJ_R hf
          exact .inl ⟨j, y, σ2, h1, h3, h4⟩
        · split at h
          case h_2 => cases h
          rename_i y hy
          cases h
          simp only [fromE, oelim, Sum.elim_inr] at hf
          exact toE_fromE hy hf
    | false =>
      simp only [toE] at h
      split at h
      · rename_i hb
        obtain ⟨y, h1, h2⟩ := exJ_R h
        cases h2
        have := Out.beq_ok hb
        subst this
        simp only [fromE, oelim, Sum.elim_inl] at hf
        obtain ⟨σ2, h3, h4⟩ := fromJ_R hf
        exact .inl ⟨j, y, σ2, h1, h3, h4⟩
      · split at h
        case h_2 => cases h
        rename_i y hy
        cases h
        simp only [fromE, oelim, Sum.elim_inr] at hf
        exact toE_fromE hy hf
theorem Kn.lk {σ : S D} (h : Kn σ γ w L) (l : List Nat) : Kn { σ with lk := l } γ w L := ⟨h.sr, h.ob, h.big⟩
theorem Ext.unlk {wr : List Nat} {σ σ1 : S D} {lk : List Nat} (hs : ∀ i ∈ σ.lk, i ∈ lk) (h : Ext wr { σ with lk := lk } σ1) : Ext wr σ { σ1 with lk := σ.lk } :=
  ⟨h.sl, rfl, fun i hi => h.ob i (hs i hi), h.nx⟩

/-- a piece up to joints -/
theorem wrap_ok (hR : RepOk T) {cut : Option (Bool × List (Out × J))} {wr : List Nat} {ρ : Type} {body : ∀ {ρ' : Type}, S D → (Out → S D → Option ρ') → Option ρ'} {σ : S D} {k : Out → S D → Option ρ} {r : ρ} (h : wrap T wr cut body σ k = some r) (hk : Kn σ γ w L) {G : Prop} (X : Out → List (Nat × Value) → World → Prop)
    (hbody : ∀ {ρ' : Type} {σ' : S D} {k' : Out → S D → Option ρ'} {r' : ρ'}, body σ' k' = some r' → Kn σ' γ w L → (∀ o σ1 γ1 w1 L1, Kn σ1 γ1 w1 L1 → Frame γ w γ1 w1 → Ext wr σ' σ1 → k' o σ1 = some r' → X o L1 w1) → G)
    (hc : ∀ o σ1 γ1 w1 L1, Kn σ1 γ1 w1 L1 → Frame γ w γ1 w1 → Ext wr σ σ1 → k o σ1 = some r → X o L1 w1) : G := by
  unfold wrap at h
  split at h
  · exact hbody h hk hc
  · rename_i pr E
    obtain ⟨x, hx, hf⟩ := bindE h
    refine hbody hx (hk.lk _) fun o σ1 γ1 w1 L1 hk1 hfr he hto => ?_
    have hs : ∀ i ∈ σ.lk, i ∈ (kept σ (mvE E)).map Prod.fst ++ σ.lk := fun i hi => List.mem_append.2 (.inr hi)
    rcases toE_fromE hto hf with ⟨j, y, σ2, h1, h2, h3⟩ | h1
    · obtain ⟨γ2, k1, k2, k3, k4⟩ := join_ok hR rfl hk hk1 he h1 h2
      have := k3.unlk (σ := σ) hs
      have e : ({ σ2 with lk := σ.lk } : S D) = σ2 := by rw [← k4]
      rw [show ({ ({ σ2 with lk := (kept σ (mvE E)).map Prod.fst ++ σ.lk } : S D) with lk := σ.lk } : S D) = { σ2 with lk := σ.lk } from rfl, e] at this
      exact hc o σ2 γ2 w1 L1 k1 (hfr.trans k2) this h3
    · exact hc o _ γ1 w1 L1 (hk1.lk _) hfr (he.unlk hs) h1

/-! lists of operations one behind the other -/
theorem wp_then {o : Oper} {a : Act} {w : World} {K : Act → World → Prop} {K2 : Act → World → Prop} (hh : o.wp P a w K (Exit.then K2 Qx)) : o.wp P a w K Qx := by
  unfold Oper.wp at *
  generalize (execOp a.eval o).run P w = r at *
  cases r with
  | ok n w' =>
    cases n <;> simp only [Oper.upon] at hh ⊢ <;>
      first
        | exact hh
        | exact Calls.mono hh (fun e w'' he => by cases e <;> exact he)
        | exact Rows.mono hh (fun _ _ he => he)
  | halt x w' => cases x <;> simp only [Oper.upon] at hh ⊢ <;> exact hh
theorem list_app {ops : Array Oper} {l2 : List Oper} : ∀ {l1 : List Oper} {a : Act} {w : World}, wpList P ops (Exit.then (wpList P ops Qx l2) Qx) l1 a w → wpList P ops Qx (l1 ++ l2) a w
  | [], a, w, h => h
  | o :: l1, a, w, h => by
    unfold wpList at h
    show wpList P ops Qx (o :: (l1 ++ l2)) a w
    unfold wpList
    split
    · rename_i hw
      rw [if_pos hw] at h
      rcases h with h | ⟨h1, h2⟩
      · exact .inl (Oper.wp_mono (fun a w h => list_app h) (wp_then h))
      · exact .inr ⟨h1, h2⟩
    · rename_i hw
      rw [if_neg hw] at h
      exact list_app h
theorem WL.app {ops : Array Oper} {l1 l2 : List Oper} (h : ∀ K : Act → World → Prop, (∀ L' w', WL P n ops Qx l2 L' w' → NK n K L' w') → WL P n ops (Exit.then K Qx) l1 L w) : WL P n ops Qx (l1 ++ l2) L w :=
  fun a ha => list_app (h _ (fun _ _ hc a' ha' => hc a' ha') a ha)
theorem dstsOf_app (a b : List Oper) : dstsOf (a ++ b) = dstsOf a ++ dstsOf b := by
  unfold dstsOf
  simp

/-! slices of own slices become plain -/
theorem thaw1 {σ : S D} {γ : Gh D} {w : World} {L : List (Nat × Value)} {i m t tc q g h : Nat} {xs : List (D m)} (hk : Kn σ γ w L) (ho : lookO σ.ob i = some (.kid m t tc q xs g h)) (hl : memN σ.lk i = false) :
    ∃ γ2, Kn { σ with ob := (i, some (.sl m t xs [1] g)) :: σ.ob } γ2 w L ∧ Frame γ w γ2 w ∧ Ext [] σ { σ with ob := (i, some (.sl m t xs [1] g)) :: σ.ob } := by
  obtain ⟨hi, hU, h1, h2, _⟩ := hk.ob.ob i _ ho
  obtain ⟨o', ho'⟩ : ∃ o' : Cls, o' = fun b => if γ.o b = i ∧ headB (γ.g i) b = false then 1 else γ.o b := ⟨_, rfl⟩
  have hne : ∀ b, γ.o b ≠ i → o' b = γ.o b := fun b hb => by rw [ho']; exact if_neg fun hc => hb hc.1
  have hhd : ∀ b, headB (γ.g i) b = true → o' b = γ.o b := fun b hb => by rw [ho']; exact if_neg fun hc => by rw [hb] at hc; cases hc.2
  have h1' : ∀ b, γ.o b = i → headB (γ.g i) b = false → o' b = 1 := fun b e hb => by rw [ho']; exact if_pos ⟨e, hb⟩
  have hor : ∀ b, o' b = γ.o b ∨ o' b = 1 ∧ γ.o b = i := fun b => by
    rw [ho']
    by_cases hc : γ.o b = i ∧ headB (γ.g i) b = false
    · exact .inr ⟨if_pos hc, hc.1⟩
    · exact .inl (if_neg hc)
  have kp : Keep (fun i => i < σ.nx) (fun i => i < σ.nx) γ w ⟨o', γ.g, γ.v⟩ w := ⟨fun _ h => h, fun _ _ => rfl, fun _ _ => rfl, fun b _ hc => ⟨hne b (by omega), rfl⟩⟩
  refine ⟨⟨o', γ.g, γ.v⟩, ⟨hk.sr.keep kp, ⟨fun j x hx => ?_, fun b hb => ?_, hk.ob.ro⟩, hk.big⟩, ⟨⟨rfl, rfl, rfl, Nat.le_refl _, fun b _ hc => ⟨hne b (by omega), rfl⟩, fun b hb hc => ⟨hb, ?_⟩⟩, fun _ _ => rfl⟩, ⟨fun _ _ => rfl, rfl, fun j hj => ?_, Nat.le_refl _⟩⟩
  · by_cases hji : i = j
    · subst hji
      have e : lookO ((i, some (AO.sl m t xs [1] g)) :: σ.ob) i = some (.sl m t xs [1] g) := by simp [lookO, lookN]
      rw [e] at hx
      cases hx
      refine ⟨hi, hU, ?_, fun x hx => by rw [List.mem_singleton.1 hx]; omega, h2.keep kp⟩
      refine Ow.relab (fun b hb => ?_) (fun b hb => ?_) h1.ow
      · obtain ⟨f1, f2⟩ := kcls_0 hb
        show o' b = i
        rw [hhd b f2, f1]
      · have hb : kcls γ.o i (γ.g i) b = 1 := by simpa [In] using hb
        obtain ⟨f1, f2⟩ := kcls_1 hb
        show o' b ∈ [1]
        rw [h1' b f1 f2]
        exact List.mem_singleton.2 rfl
    · have hb : Nat.beq i j = false := by
        cases hb : Nat.beq i j with
        | true => exact (hji (Nat.eq_of_beq_eq_true hb)).elim
        | false => rfl
      have e : lookO ((i, some (AO.sl m t xs [1] g)) :: σ.ob) j = lookO σ.ob j := by simp [lookO, lookN, hb]
      rw [e] at hx
      obtain ⟨k1, k2, k3⟩ := hk.ob.ob j x hx
      exact ⟨k1, k2, k3.keep kp k2 fun b _ hb => ⟨hne b (by rw [hb]; exact fun e => hji e.symm), rfl⟩⟩
  · show o' b < σ.nx
    rcases hor b with e | ⟨e, _⟩
    · rw [e]; exact hk.ob.cl b hb
    · rw [e]; have := hk.big; omega
  · rcases hor b with e | ⟨e, _⟩
    · exact e.symm
    · have hc : o' b = 0 ∨ o' b = 3 := hc
      omega
  · have hne : i ≠ j := fun e => memN_false hl (e ▸ hj)
    have hb : Nat.beq i j = false := by
      cases hb : Nat.beq i j with
      | true => exact (hne (Nat.eq_of_beq_eq_true hb)).elim
      | false => rfl
    simp [lookN, hb]
theorem thaw_ok {w : World} {L : List (Nat × Value)} : ∀ {b : List Nat} {σ σ2 : S D} {γ : Gh D}, thaw σ b = some σ2 → Kn σ γ w L → ∃ γ2, Kn σ2 γ2 w L ∧ Frame γ w γ2 w ∧ Ext [] σ σ2
  | [], σ, σ2, γ, h, hk => by
    cases h
    exact ⟨γ, hk, Frame.refl _ _, Ext.refl _ _⟩
  | i :: r, σ, σ2, γ, h, hk => by
    simp only [thaw] at h
    split at h
    case h_2 => cases h
    rename_i m t tc q xs g ht ho
    split at h
    case isTrue => cases h
    rename_i hl
    obtain ⟨γ1, k1, k2, k3⟩ := thaw1 hk ho (by simpa using hl)
    obtain ⟨γ2, j1, j2, j3⟩ := thaw_ok h k1
    exact ⟨γ2, j1, k2.trans j2, k3.trans j3⟩

section
variable (hP : POk P T) (hR : RepOk T) (hΦ : ∀ c ∈ Φ, ConOk P T c)
include hP hR hΦ

theorem cpsG_ok {ops : List Oper} : ∀ (sg : Sg) {ρ : Type} {l : List Oper} {p : Nat} {σ : S D} {k : S D → Option ρ} {r : ρ} {γ : Gh D} {w : World} {L : List (Nat × Value)} {Qx : Exit → Act → World → Prop}, cpsG T Φ ops sg l p σ k = some r → (∀ t ∈ dstsOf l, Nat.blt t n = true) → Kn σ γ w L →
    (∀ σ' γ' w' L', Kn σ' γ' w' L' → Frame γ w γ' w' → Ext (dstsOf l) σ σ' → k σ' = some r → NK n (Qx .normal) L' w') → WL P n ops.toArray Qx l L w := by
  intro sg
  induction sg with
  | nil =>
    intro ρ l p σ k r γ w L Qx h hd hk hc
    simp only [cpsG] at h
    exact cpsL_ok hP hR hΦ h hd hk fun σ' _ γ' w' L' h1 h2 h3 h4 => hc σ' γ' w' L' h1 h2 h3 h4
  | thaw s b next ihn =>
    intro ρ l p σ k r γ w L Qx h hd hk hc
    simp only [cpsG] at h
    have hsplit : l = l.take (s - p) ++ l.drop (s - p) := (List.take_append_drop _ _).symm
    generalize hl1 : l.take (s - p) = l1 at *
    generalize hl3 : l.drop (s - p) = l3 at *
    have hdl : dstsOf l = dstsOf l1 ++ dstsOf l3 := by rw [hsplit, dstsOf_app]
    rw [hdl] at hd hc
    rw [hsplit]
    refine WL.app fun K1 hK1 => ?_
    refine cpsL_ok hP hR hΦ h (fun t ht => hd t (List.mem_append.2 (.inl ht))) hk fun σ1 _ γ1 w1 L1 k1 k2 k3 k4 => ?_
    refine hK1 _ _ ?_
    split at k4
    case h_2 => cases k4
    rename_i σ2 hσ2
    obtain ⟨γ2, m1, m2, m3⟩ := thaw_ok hσ2 k1
    refine ihn k4 (fun t ht => hd t (List.mem_append.2 (.inr ht))) m1 fun σ3 γ3 w3 L3 n1 n2 n3 n4 => ?_
    refine hc σ3 γ3 w3 L3 n1 ((k2.trans m2).trans n2) ?_ n4
    exact ((k3.mono fun t ht => List.mem_append.2 (.inl ht)).trans (m3.mono fun t ht => by cases ht)).trans (n3.mono fun t ht => List.mem_append.2 (.inr ht))
  | seg s m j inner next ihi ihn =>
    intro ρ l p σ k r γ w L Qx h hd hk hc
    simp only [cpsG] at h
    have hsplit : l = l.take (s - p) ++ ((l.drop (s - p)).take m ++ l.drop (s - p + m)) := by
      rw [← List.drop_drop, List.take_append_drop, List.take_append_drop]
    generalize hl1 : l.take (s - p) = l1 at *
    generalize hl2 : (l.drop (s - p)).take m = l2 at *
    generalize hl3 : l.drop (s - p + m) = l3 at *
    have hdl : dstsOf l = dstsOf l1 ++ (dstsOf l2 ++ dstsOf l3) := by rw [hsplit, dstsOf_app, dstsOf_app]
    rw [hdl] at hd hc
    rw [hsplit]
    refine WL.app fun K1 hK1 => ?_
    refine cpsL_ok hP hR hΦ h (fun t ht => hd t (List.mem_append.2 (.inl ht))) hk fun σ1 _ γ1 w1 L1 k1 k2 k3 k4 => ?_
    refine hK1 _ _ ?_
    refine WL.app fun K2 hK2 => ?_
    have hd2 : ∀ t ∈ dstsOf l2, Nat.blt t n = true := fun t ht => hd t (List.mem_append.2 (.inr (List.mem_append.2 (.inl ht))))
    have hd3 : ∀ t ∈ dstsOf l3, Nat.blt t n = true := fun t ht => hd t (List.mem_append.2 (.inr (List.mem_append.2 (.inr ht))))
    refine wrap_ok hR k4 k1 (X := fun _ L1 w1 => NK n K2 L1 w1) ?_ ?_
    · intro ρ' σ' k' r' hb hk' hx
      have fin : ∀ {σ0 : S D}, Ext (dstsOf l2) σ' σ0 → ∀ σ1' γ1' w1' L1', Kn σ1' γ1' w1' L1' → Frame γ1 w1 γ1' w1' → Ext (dstsOf l2) σ0 σ1' → k' .normal σ1' = some r' → NK n ((Exit.then K2 Qx) .normal) L1' w1' :=
        fun he0 σ1' γ1' w1' L1' m1 m2 m3 m4 => hx .normal σ1' γ1' w1' L1' m1 m2 (he0.trans m3) m4
      cases l2 with
      | nil => cases hb
      | cons o l2 =>
        dsimp only at hb
        split at hb
        · rename_i i b hg
          split at hb
          · rename_i d c K g hgo
            obtain ⟨_, _, _, hl⟩ := guardOf_R hgo
            have hes : ∀ c', c = c' → Ext (dstsOf (o :: l2)) σ' (setB σ' d c' K g) := fun c' e => by subst e; exact Ext.setB _ hl
            have hks : ∀ c', c = c' → Kn (setB σ' d c' K g) γ1 w1 L1 := fun c' e => by subst e; exact hk'.setB hl
            rcases cnd_R hb with ⟨hcc, hb⟩ | ⟨hcc, hb⟩
            · cases b with
              | true => exact ihi hb hd2 (hks _ hcc) (fin (hes _ hcc))
              | false => exact cpsL_ok hP hR hΦ hb hd2 (hks _ hcc) fun σ' _ => fin (hes _ hcc) σ'
            · cases b with
              | true => exact cpsL_ok hP hR hΦ hb hd2 (hks _ hcc) fun σ' _ => fin (hes _ hcc) σ'
              | false => exact ihi hb hd2 (hks _ hcc) (fin (hes _ hcc))
          · exact cpsL_ok hP hR hΦ hb hd2 hk' fun σ' _ => fin (Ext.refl _ _) σ'
        · exact ihi hb hd2 hk' (fin (Ext.refl _ _))
    · intro o σ2 γ2 w2 L2 m1 m2 m3 m4
      refine hK2 _ _ ?_
      refine ihn m4 hd3 m1 fun σ3 γ3 w3 L3 n1 n2 n3 n4 => ?_
      refine hc σ3 γ3 w3 L3 n1 ((k2.trans m2).trans n2) ?_ n4
      exact ((k3.mono fun t ht => List.mem_append.2 (.inl ht)).trans (m3.mono fun t ht => List.mem_append.2 (.inr (List.mem_append.2 (.inl ht))))).trans (n3.mono fun t ht => List.mem_append.2 (.inr (List.mem_append.2 (.inr ht))))
end
end
end Rx
end Go.Proofs.Ytdfkfohpgakihaa
