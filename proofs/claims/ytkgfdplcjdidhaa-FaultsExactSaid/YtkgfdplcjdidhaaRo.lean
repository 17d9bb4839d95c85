/- A region that draws its order: whatever order is drawn, each operation finds what it finds in the text's order. Nothing here names a program. The code run with a continuation does what the code does: code, functions. Nothing here names a program. -/
import Derived.ScopeJumps
import Derived.Test.YtkgfdplcjdidhaaRm
set_option linter.unusedVariables false
set_option linter.unusedSimpArgs false
set_option linter.unusedSectionVars false
namespace Go.Proofs.Ytkgfdplcjdidhaa
open Go Go.RowKit Dp

namespace Rx

/-! layers of what is known -/
section
variable {α : Type} {g : Nat → List (Nat × α)} {l0 : List (Nat × α)} {D D' : Nat → Bool} {i p : Nat}
def acc (g : Nat → List (Nat × α)) (l0 : List (Nat × α)) (D : Nat → Bool) : Nat → List (Nat × α)
  | 0 => l0
  | n + 1 => cond (D n) (g n ++ acc g l0 D n) (acc g l0 D n)
theorem acc_congr : ∀ {n : Nat}, (∀ q, q < n → i ∈ (g q).map Prod.fst → D q = D' q) → lookN (acc g l0 D n) i = lookN (acc g l0 D' n) i
  | 0, _ => rfl
  | n + 1, h => by
    have ih := acc_congr (n := n) fun q hq => h q (by omega)
    simp only [acc]
    by_cases hi : i ∈ (g n).map Prod.fst
    · rw [h n (by omega) hi]
      cases D' n with
      | true => simp only [cond_true, lookN_append, ih]
      | false => exact ih
    · have hn := lookN_none_iff.2 hi
      have e : ∀ l, lookN (g n ++ l) i = lookN l i := fun l => by rw [lookN_append, hn]
      cases D n <;> cases D' n <;> simp only [cond_true, cond_false, e, ih]
theorem acc_last (hp : D p = true) (hi : i ∈ (g p).map Prod.fst) : ∀ {n : Nat}, p < n → (∀ q, p < q → q < n → D q = true → i ∉ (g q).map Prod.fst) → lookN (acc g l0 D n) i = lookN (g p) i
  | 0, h, _ => by omega
  | n + 1, h, hq => by
    simp only [acc]
    by_cases hpn : p = n
    · subst hpn
      rw [hp]
      simp only [cond_true, lookN_append]
      cases hl : lookN (g p) i with
      | none => exact (lookN_none_iff.1 hl hi).elim
      | some a => rfl
    · have ih := acc_last hp hi (n := n) (by omega) fun q h1 h2 => hq q h1 (by omega)
      cases hD : D n with
      | false => exact ih
      | true =>
        simp only [cond_true, lookN_append, lookN_none_iff.2 (hq n (by omega) (by omega) hD)]
        exact ih
theorem acc_same : ∀ {n : Nat}, (∀ q, q < n → D q = D' q) → acc g l0 D n = acc g l0 D' n
  | 0, _ => rfl
  | n + 1, h => by
    simp only [acc]
    rw [acc_same (n := n) fun q hq => h q (by omega), h n (by omega)]
theorem acc_stop : ∀ {n k : Nat}, (∀ q, n ≤ q → D q = false) → acc g l0 D (n + k) = acc g l0 D n
  | n, 0, _ => rfl
  | n, k + 1, h => by
    rw [Nat.add_succ]
    simp only [acc]
    rw [h (n + k) (by omega)]
    exact acc_stop h
theorem acc_text {n N : Nat} (h : n ≤ N) : acc g l0 (fun _ => true) n = acc g l0 (fun q => Nat.blt q n) N := by
  obtain ⟨k, rfl⟩ : ∃ k, N = n + k := ⟨N - n, by omega⟩
  rw [acc_stop fun q hq => by
    cases hb : Nat.blt q n with
    | true => have := Nat.le_of_ble_eq_true hb; omega
    | false => rfl]
  refine acc_same fun q hq => ?_
  exact (Nat.ble_eq_true_of_le hq).symm
theorem acc_shift : ∀ {n : Nat}, acc g l0 (fun _ => true) (n + 1) = acc (fun q => g (q + 1)) (g 0 ++ l0) (fun _ => true) n
  | 0 => rfl
  | n + 1 => by
    have := acc_shift (n := n)
    simp only [acc, cond_true] at this ⊢
    rw [this]
def ins (D : Nat → Bool) (p : Nat) : Nat → Bool := fun j => D j || Nat.beq j p
theorem ins_self (D : Nat → Bool) (p : Nat) : ins D p p = true := by simp [ins]
theorem ins_ne {q : Nat} (h : q ≠ p) : ins D p q = D q := by
  have : Nat.beq q p = false := by
    cases hb : Nat.beq q p with
    | true => exact (h (Nat.eq_of_beq_eq_true hb)).elim
    | false => rfl
  simp [ins, this]
theorem acc_ins {n : Nat} (hp : p < n) (hD : D p = false) (h : ∀ i ∈ (g p).map Prod.fst, ∀ q, p < q → q < n → D q = true → i ∉ (g q).map Prod.fst) (i : Nat) : lookN (acc g l0 (ins D p) n) i = lookN (g p ++ acc g l0 D n) i := by
  by_cases hi : i ∈ (g p).map Prod.fst
  · rw [acc_last (ins_self D p) hi hp fun q h1 h2 h3 => h i hi q h1 h2 (by rw [ins_ne (by omega)] at h3; exact h3), lookN_append]
    cases hl : lookN (g p) i with
    | none => exact (lookN_none_iff.1 hl hi).elim
    | some a => rfl
  · rw [lookN_append, lookN_none_iff.2 hi]
    refine acc_congr fun q hq hm => ?_
    by_cases hqp : q = p
    · subst hqp; exact (hi hm).elim
    · exact ins_ne hqp
end

section
variable {D : Nat → Type} [∀ n, Rep (D n)]
variable {P : Program} {T : Tab D} {Φ : List (Con D)} {n : Nat}

/-! what the text's order comes to -/
inductive RS (D : Nat → Type) | run (e : Eff D) (l : List Nat) | skip
def dl (d : Option Nat) (a : AV D) : List (Nat × AV D) := match d with
  | some d => [(d, a)]
  | none => []
def gS (o : Oper) : RS D → List (Nat × AV D)
  | .run e _ => dl o.dst e.dst
  | .skip => dl o.dst (.c (.one .undef))
def gO : RS D → List (Nat × Option (AO D))
  | .run e _ => e.fz.map (fun i => (i, none)) ++ e.upd
  | .skip => []
def stR (σ : S D) (o : Oper) (x : RS D) : S D := ⟨gS o x ++ σ.sl, gO x ++ σ.ob, σ.nx + 64, σ.lk⟩
theorem stR_run {σ : S D} {o : Oper} {e : Eff D} {l : List Nat} : stR σ o (.run e l) = apE σ o.dst e := by
  cases h : o.dst <;> simp [stR, apE, gS, gO, dl, h]
theorem stR_skip {σ : S D} {o : Oper} : stR σ o .skip = skipE σ o.dst := by
  cases h : o.dst <;> simp [stR, skipE, gS, gO, dl, h]
theorem gS_key {o : Oper} {x : RS D} {t : Nat} : t ∈ (gS o x).map Prod.fst ↔ o.dst = some t := by
  cases x <;> cases h : o.dst <;> simp [gS, dl, h, eq_comm]
theorem gO_key {e : Eff D} {l : List Nat} {i : Nat} (h : i ∈ (gO (.run e l)).map Prod.fst) : i ∈ e.wr := by
  unfold Eff.wr
  simp only [gO, List.map_append, List.map_map, List.mem_append, List.mem_map] at h ⊢
  rcases h with ⟨x, h, rfl⟩ | h
  · exact .inr h
  · exact .inl h
def Okay (T : Tab D) (Φ : List (Con D)) (ops : List Oper) (σ : S D) (o : Oper) : RS D → Prop
  | .run e l => (∀ j b, o.guard = some (j, b) → ∃ og d K g, ops[j]? = some og ∧ og.dst = some d ∧ lookN σ.sl d = some (.c (.one (.v .bool b K g)))) ∧
      ∃ as, evOs σ.sl o.op.operands.toList = some as ∧ Q.R σ.ob (operQ T Φ σ.nx o.op as) l e ∧ effOk σ.lk e = true
  | .skip => ∃ j b og d a, o.guard = some (j, b) ∧ ops[j]? = some og ∧ og.dst = some d ∧ lookN σ.sl d = some a ∧ ((∃ K g, a = .c (.one (.v .bool (!b) K g))) ∨ a = .c (.one .undef))
def Tr (T : Tab D) (Φ : List (Con D)) (ops : List Oper) : List Oper → List (RS D) → S D → Prop
  | [], [], _ => True
  | o :: r, x :: xs, σ => Okay T Φ ops σ o x ∧ Tr T Φ ops r xs (stR σ o x)
  | _, _, _ => False
def runT : List Oper → List (RS D) → S D → S D
  | o :: r, x :: xs, σ => runT r xs (stR σ o x)
  | _, _, σ => σ
def lgT : List (RS D) → Nat → List Lg → List Lg
  | [], _, lg => lg
  | .run e l :: xs, p, lg => lgT xs (p + 1) (⟨p, l.reverse, e.wr⟩ :: lg)
  | .skip :: xs, p, lg => lgT xs (p + 1) lg
structure EqS (σ σ' : S D) : Prop where
  sl : ∀ t, lookN σ.sl t = lookN σ'.sl t
  ob : σ.ob = σ'.ob
  nx : σ.nx = σ'.nx
  lk : σ.lk = σ'.lk
theorem evOs_congr {sl sl' : List (Nat × AV D)} : ∀ {l : List Operand}, (∀ t, .tmp t ∈ l → lookN sl t = lookN sl' t) → evOs sl l = evOs sl' l
  | [], _ => rfl
  | x :: l, h => by
    simp only [evOs]
    rw [evOs_congr (l := l) fun t ht => h t (by simp [ht])]
    have : evO sl x = evO sl' x := by
      cases x with
      | tmp t => exact h t (by simp)
      | _ => rfl
    rw [this]
theorem EqS.st {σ σ' : S D} (h : EqS σ σ') (o : Oper) (x : RS D) : EqS (stR σ o x) (stR σ' o x) := by
  refine ⟨fun t => ?_, ?_, ?_, h.lk⟩
  · show lookN (gS o x ++ σ.sl) t = lookN (gS o x ++ σ'.sl) t
    rw [lookN_append, lookN_append, h.sl]
  · show gO x ++ σ.ob = gO x ++ σ'.ob
    rw [h.ob]
  · show σ.nx + 64 = σ'.nx + 64
    rw [h.nx]

theorem trace {ops : List Oper} : ∀ {l : List Oper} {p : Nat} {σ σ' : S D} {lg : List Lg} {ρ : Type} {k : S D → List Lg → Option ρ} {r : ρ}, cpsL T Φ ops l p σ' lg k = some r → EqS σ σ' → ∃ rs σe, Tr T Φ ops l rs σ ∧ EqS (runT l rs σ) σe ∧ k σe (lgT rs p lg) = some r
  | [], p, σ, σ', lg, ρ, k, r, h, he => ⟨[], σ', trivial, he, h⟩
  | o :: l, p, σ, σ', lg, ρ, k, r, h, he => by
    have run : ∀ {σ0 : S D}, EqS σ σ0 → (∀ j b, o.guard = some (j, b) → ∃ og d K g, ops[j]? = some og ∧ og.dst = some d ∧ lookN σ.sl d = some (.c (.one (.v .bool b K g)))) → stepK T Φ p o σ0 lg (fun σ lg => cpsL T Φ ops l (p + 1) σ lg k) = some r →
        ∃ rs σe, Tr T Φ ops (o :: l) rs σ ∧ EqS (runT (o :: l) rs σ) σe ∧ k σe (lgT rs p lg) = some r := by
      intro σ0 he0 hg h
      obtain ⟨as, e, l', h1, h2, h3, h4⟩ := stepK_R h
      rw [← stR_run (l := l')] at h4
      obtain ⟨rs, σe, t1, t2, t3⟩ := trace h4 (he0.st o (.run e l'))
      refine ⟨.run e l' :: rs, σe, ⟨⟨hg, as, ?_, ?_, ?_⟩, t1⟩, t2, t3⟩
      · rw [evOs_congr fun t _ => he0.sl t]; exact h1
      · rw [he0.ob, he0.nx]; exact h2
      · rw [he0.lk]; exact h3
    have pass : ∀ {σ0 : S D}, EqS σ σ0 → (∃ j b og d a, o.guard = some (j, b) ∧ ops[j]? = some og ∧ og.dst = some d ∧ lookN σ.sl d = some a ∧ ((∃ K g, a = .c (.one (.v .bool (!b) K g))) ∨ a = .c (.one .undef))) → cpsL T Φ ops l (p + 1) (skipE σ0 o.dst) lg k = some r →
        ∃ rs σe, Tr T Φ ops (o :: l) rs σ ∧ EqS (runT (o :: l) rs σ) σe ∧ k σe (lgT rs p lg) = some r := by
      intro σ0 he0 hg h
      rw [← stR_skip] at h
      obtain ⟨rs, σe, t1, t2, t3⟩ := trace h (he0.st o .skip)
      exact ⟨.skip :: rs, σe, ⟨hg, t1⟩, t2, t3⟩
    simp only [cpsL] at h
    split at h
    · rename_i hg
      exact run he (fun j b hb => by rw [hg] at hb; cases hb) h
    · rename_i j b hg
      split at h
      case h_1 => cases h
      rename_i d a hgo
      obtain ⟨og, ho, hdg, hl⟩ := guardOf_R hgo
      rw [← he.sl] at hl
      split at h
      · rename_i c K g
        have hset : ∀ c', c = c' → EqS σ (setB σ' d c' K g) := fun c' hc => by
          subst hc
          exact ⟨fun t => by
            show _ = lookN ((d, _) :: σ'.sl) t
            rw [lookN_cons_self (by rw [← he.sl]; exact hl)]
            exact he.sl t, he.ob, he.nx, he.lk⟩
        have hrun : c = b → ∀ j' b', o.guard = some (j', b') → ∃ og d K g, ops[j']? = some og ∧ og.dst = some d ∧ lookN σ.sl d = some (.c (.one (.v .bool b' K g))) := fun hcb j' b' hb => by
          rw [hg] at hb
          cases hb
          exact ⟨og, d, K, g, ho, hdg, by rw [hl, hcb]⟩
        have hpass : c = (!b) → ∃ j b og d a, o.guard = some (j, b) ∧ ops[j]? = some og ∧ og.dst = some d ∧ lookN σ.sl d = some a ∧ ((∃ K g, a = .c (.one (.v .bool (!b) K g))) ∨ a = .c (.one .undef)) := fun hcb =>
          ⟨j, b, og, d, _, hg, ho, hdg, hl, .inl ⟨K, g, by rw [hcb]⟩⟩
        rcases cnd_R h with ⟨hc, h⟩ | ⟨hc, h⟩
        · cases b with
          | true => exact run (hset true hc) (hrun hc) h
          | false => exact pass (hset true hc) (hpass hc) h
        · cases b with
          | true => exact pass (hset false hc) (hpass hc) h
          | false => exact run (hset false hc) (hrun hc) h
      · split at h
        case isFalse => cases h
        rename_i hu
        have ha : a = .c (.one .undef) := by
          unfold isUndef at hu
          split at hu
          · rfl
          · cases hu
        exact pass he ⟨j, b, og, d, a, hg, ho, hdg, hl, .inr ha⟩ h

def gA (l : List Oper) (rs : List (RS D)) (q : Nat) : List (Nat × AV D) := match l[q]?, rs[q]? with
  | some o, some x => gS o x
  | _, _ => []
def gB (rs : List (RS D)) (q : Nat) : List (Nat × Option (AO D)) := match rs[q]? with
  | some x => gO x
  | none => []
theorem gA_at {l : List Oper} {rs : List (RS D)} {q : Nat} {o : Oper} {x : RS D} (h : l[q]? = some o) (hx : rs[q]? = some x) : gA l rs q = gS o x := by simp [gA, h, hx]
theorem gB_at {rs : List (RS D)} {q : Nat} {x : RS D} (hx : rs[q]? = some x) : gB rs q = gO x := by simp [gB, hx]
theorem gA_key {l : List Oper} {rs : List (RS D)} {q t : Nat} (h : t ∈ (gA l rs q).map Prod.fst) : ∃ o, l[q]? = some o ∧ o.dst = some t := by
  unfold gA at h
  split at h
  · rename_i o x ho hx
    exact ⟨o, ho, gS_key.1 h⟩
  · simp at h
theorem gB_key {rs : List (RS D)} {q i : Nat} (h : i ∈ (gB rs q).map Prod.fst) : ∃ e l, rs[q]? = some (.run e l) ∧ i ∈ e.wr := by
  unfold gB at h
  split at h
  · rename_i x hx
    cases x with
    | run e l => exact ⟨e, l, hx, gO_key h⟩
    | skip => simp [gO] at h
  · simp at h
theorem Tr_len {ops : List Oper} : ∀ {l : List Oper} {rs : List (RS D)} {σ : S D}, Tr T Φ ops l rs σ → rs.length = l.length
  | [], [], _, _ => rfl
  | _ :: _, _ :: _, _, h => by simp [Tr_len h.2]
  | [], _ :: _, _, h => h.elim
  | _ :: _, [], _, h => h.elim
theorem Tr_get {ops : List Oper} : ∀ {l : List Oper} {rs : List (RS D)} {σ : S D}, Tr T Φ ops l rs σ → ∀ {i : Nat} {o : Oper} {x : RS D}, l[i]? = some o → rs[i]? = some x →
    Okay T Φ ops ⟨acc (gA l rs) σ.sl (fun _ => true) i, acc (gB rs) σ.ob (fun _ => true) i, σ.nx + 64 * i, σ.lk⟩ o x
  | [], [], _, _, i, o, x, hi, _ => by simp at hi
  | o' :: l, x' :: rs, σ, h, 0, o, x, hi, hx => by
    have e1 : o' = o := by simpa using hi
    have e2 : x' = x := by simpa using hx
    subst e1 e2
    exact h.1
  | o' :: l, x' :: rs, σ, h, i + 1, o, x, hi, hx => by
    have := Tr_get h.2 (i := i) (o := o) (x := x) (by simpa using hi) (by simpa using hx)
    rw [acc_shift, acc_shift, show σ.nx + 64 * (i + 1) = σ.nx + 64 + 64 * i from by omega]
    exact this
  | [], _ :: _, _, h, _, _, _, _, _ => h.elim
  | _ :: _, [], _, h, _, _, _, _, _ => h.elim
theorem runT_is {ops : List Oper} : ∀ {l : List Oper} {rs : List (RS D)} {σ : S D}, Tr T Φ ops l rs σ → runT l rs σ = ⟨acc (gA l rs) σ.sl (fun _ => true) l.length, acc (gB rs) σ.ob (fun _ => true) l.length, σ.nx + 64 * l.length, σ.lk⟩
  | [], [], _, _ => rfl
  | o :: l, x :: rs, σ, h => by
    simp only [runT, List.length_cons]
    rw [runT_is h.2, acc_shift, acc_shift, show σ.nx + 64 * (l.length + 1) = σ.nx + 64 + 64 * l.length from by omega]
    rfl
  | [], _ :: _, _, h => h.elim
  | _ :: _, [], _, h => h.elim

/-! the checks -/
theorem lgs_get {an : List Nat} : ∀ {rs : List (RS D)} {p : Nat} {lg : List Lg}, lgsOk an (lgT rs p lg) = true →
    lgsOk an lg = true ∧ (∀ j e l, rs[j]? = some (.run e l) → ∀ b ∈ lg, bit (an.getD (p + j) 0) b.i = true ∨ lgApart ⟨p + j, l.reverse, e.wr⟩ b = true) ∧
    ∀ i j e l e' l', i < j → rs[i]? = some (.run e l) → rs[j]? = some (.run e' l') → bit (an.getD (p + j) 0) (p + i) = true ∨ lgApart ⟨p + j, l'.reverse, e'.wr⟩ ⟨p + i, l.reverse, e.wr⟩ = true
  | [], p, lg, h => ⟨h, fun j e l hj => by simp at hj, fun i j e l e' l' _ hi => by simp at hi⟩
  | .skip :: rs, p, lg, h => by
    obtain ⟨h1, h2, h3⟩ := lgs_get (rs := rs) (p := p + 1) (lg := lg) h
    refine ⟨h1, fun j e l hj b hb => ?_, fun i j e l e' l' hij hi hj => ?_⟩
    · cases j with
      | zero => simp at hj
      | succ j =>
        have := h2 j e l (by simpa using hj) b hb
        rw [show p + (j + 1) = p + 1 + j from by omega]
        exact this
    · cases i with
      | zero => simp at hi
      | succ i =>
        cases j with
        | zero => omega
        | succ j =>
          have := h3 i j e l e' l' (by omega) (by simpa using hi) (by simpa using hj)
          rw [show p + (j + 1) = p + 1 + j from by omega, show p + (i + 1) = p + 1 + i from by omega]
          exact this
  | .run e0 l0 :: rs, p, lg, h => by
    obtain ⟨h1, h2, h3⟩ := lgs_get (rs := rs) (p := p + 1) (lg := ⟨p, l0.reverse, e0.wr⟩ :: lg) h
    simp only [lgsOk, Bool.and_eq_true, List.all_eq_true, Bool.or_eq_true] at h1
    refine ⟨h1.2, fun j e l hj b hb => ?_, fun i j e l e' l' hij hi hj => ?_⟩
    · cases j with
      | zero =>
        have : RS.run e0 l0 = .run e l := by simpa using hj
        cases this
        exact h1.1 b hb
      | succ j =>
        have := h2 j e l (by simpa using hj) b (by simp [hb])
        rw [show p + (j + 1) = p + 1 + j from by omega]
        exact this
    · cases j with
      | zero => omega
      | succ j =>
        rw [show p + (j + 1) = p + 1 + j from by omega]
        cases i with
        | zero =>
          have : RS.run e0 l0 = .run e l := by simpa using hi
          cases this
          exact h2 j e' l' (by simpa using hj) ⟨p, l0.reverse, e0.wr⟩ (by simp)
        | succ i =>
          have := h3 i j e l e' l' (by omega) (by simpa using hi) (by simpa using hj)
          rw [show p + (i + 1) = p + 1 + i from by omega]
          exact this
theorem slots_get {ops : List Oper} {an : List Nat} : ∀ {r : List Oper} {j : Nat} {seen : List (Nat × Oper)}, slotsOk ops an j r seen = true →
    (∀ q b, r[q]? = some b → (∀ s ∈ seen, bit (an.getD (j + q) 0) s.1 = true ∨ apart ops s.2 b = true) ∧ ∀ e ∈ b.after.toList, Region.binds .any e = true → e.on < j + q) ∧
    ∀ p q a b, p < q → r[p]? = some a → r[q]? = some b → bit (an.getD (j + q) 0) (j + p) = true ∨ apart ops a b = true
  | [], j, seen, h => ⟨fun q b hq => by simp at hq, fun p q a b _ hp => by simp at hp⟩
  | o :: r, j, seen, h => by
    simp only [slotsOk, Bool.and_eq_true, List.all_eq_true, Bool.or_eq_true] at h
    obtain ⟨⟨h1, h2⟩, h3⟩ := h
    obtain ⟨k1, k2⟩ := slots_get (r := r) (j := j + 1) (seen := (j, o) :: seen) h3
    refine ⟨fun q b hq => ?_, fun p q a b hpq hp hq => ?_⟩
    · cases q with
      | zero =>
        have e : o = b := by simpa using hq
        subst e
        refine ⟨h1, fun e he hb => ?_⟩
        rcases h2 e he with h4 | h4
        · rw [hb] at h4; cases h4
        · exact Nat.le_of_ble_eq_true h4
      | succ q =>
        obtain ⟨m1, m2⟩ := k1 q b (by simpa using hq)
        rw [show j + (q + 1) = j + 1 + q from by omega]
        exact ⟨fun s hs => m1 s (by simp [hs]), m2⟩
    · cases q with
      | zero => omega
      | succ q =>
        rw [show j + (q + 1) = j + 1 + q from by omega]
        cases p with
        | zero =>
          have e : o = a := by simpa using hp
          subst e
          exact (k1 q b (by simpa using hq)).1 (j, o) (by simp)
        | succ p =>
          have := k2 p q a b (by omega) (by simpa using hp) (by simpa using hq)
          rw [show j + (p + 1) = j + 1 + p from by omega]
          exact this

/-! who comes ahead of whom -/
theorem bit_is (m i : Nat) : bit m i = m.testBit i := by
  unfold bit
  rw [Nat.testBit_eq_decide_div_mod_eq, Nat.shiftRight_eq_div_pow]
  cases h : Nat.beq (m / 2 ^ i % 2) 1 with
  | true => rw [Nat.eq_of_beq_eq_true h]; rfl
  | false =>
    have : ¬ m / 2 ^ i % 2 = 1 := fun e => by rw [e] at h; cases h
    simp [this]
theorem ancF {f : Nat → Nat} {i : Nat} : ∀ {es : List Edge} {s : Nat}, bit (es.foldl (fun s e => if Region.binds .any e then s ||| (1 <<< e.on) ||| (f e.on) else s) s) i = true →
    bit s i = true ∨ ∃ e ∈ es, Region.binds .any e = true ∧ (i = e.on ∨ bit (f e.on) i = true)
  | [], s, h => .inl h
  | e :: es, s, h => by
    rw [List.foldl_cons] at h
    rcases ancF h with h | ⟨e', h1, h2⟩
    · split at h
      · rename_i hb
        rw [bit_is, Nat.testBit_or, Nat.testBit_or, Bool.or_eq_true, Bool.or_eq_true] at h
        rcases h with (h | h) | h
        · exact .inl (by rw [bit_is]; exact h)
        · refine .inr ⟨e, by simp, hb, .inl ?_⟩
          rw [Nat.one_shiftLeft, Nat.testBit_two_pow] at h
          exact (of_decide_eq_true h).symm
        · exact .inr ⟨e, by simp, hb, .inr (by rw [bit_is]; exact h)⟩
      · exact .inl h
    · exact .inr ⟨e', by simp [h1], h2⟩
theorem ancs_pre : ∀ {l : List Oper} {acc : List Nat}, ∃ s, ancs l acc = acc.reverse ++ s
  | [], acc => ⟨[], by simp [ancs]⟩
  | o :: r, acc => by
    obtain ⟨s, h⟩ := ancs_pre (l := r) (acc := ancOf acc o :: acc)
    exact ⟨ancOf acc o :: s, by simp only [ancs]; rw [h]; simp⟩
theorem ancs_get : ∀ {l : List Oper} {acc : List Nat} {q : Nat} {o : Oper}, l[q]? = some o → ∃ m, ancs l acc = m ++ (ancs l acc).drop (acc.length + q) ∧ m.length = acc.length + q ∧ (ancs l acc)[acc.length + q]? = some (ancOf m.reverse o)
  | [], acc, q, o, h => by simp at h
  | o' :: r, acc, 0, o, h => by
    have e : o' = o := by simpa using h
    subst e
    obtain ⟨s, h⟩ := ancs_pre (l := r) (acc := ancOf acc o' :: acc)
    refine ⟨acc.reverse, ?_, by simp, ?_⟩
    · simp only [ancs]
      rw [h]
      simp
    · simp only [ancs]
      rw [h]
      simp
  | o' :: r, acc, q + 1, o, h => by
    obtain ⟨m, h1, h2, h3⟩ := ancs_get (l := r) (acc := ancOf acc o' :: acc) (q := q) (o := o) (by simpa using h)
    simp only [List.length_cons] at h1 h2 h3
    rw [show acc.length + 1 + q = acc.length + (q + 1) from by omega] at h1 h2 h3
    exact ⟨m, h1, h2, h3⟩
theorem anc_bit {l : List Oper} {q i : Nat} {o : Oper} (h : l[q]? = some o) (hb : bit ((ancs l []).getD q 0) i = true) : ∃ e ∈ o.after.toList, Region.binds .any e = true ∧ (i = e.on ∨ bit ((ancs l []).getD e.on 0) i = true) := by
  obtain ⟨m, h1, h2, h3⟩ := ancs_get (acc := []) h
  simp only [List.length_nil, Nat.zero_add] at h1 h2 h3
  rw [List.getD_eq_getElem?_getD, h3] at hb
  simp only [Option.getD_some] at hb
  unfold ancOf at hb
  rcases ancF (f := fun x => m.reverse.reverse.getD x 0) hb with hb | ⟨e, k1, k2, k3⟩
  · simp [bit] at hb
  · refine ⟨e, k1, k2, ?_⟩
    rcases k3 with k3 | k3
    · exact .inl k3
    · right
      rw [List.reverse_reverse] at k3
      rw [h1]
      by_cases hlt : e.on < m.length
      · rw [List.getD_eq_getElem?_getD, List.getElem?_append_left hlt, ← List.getD_eq_getElem?_getD]
        exact k3
      · rw [List.getD_eq_getElem?_getD, List.getElem?_eq_none (by omega)] at k3
        simp [bit] at k3

theorem Q.R_congr {α : Type} {ob ob' : List (Nat × Option (AO D))} : ∀ {q : Q D α} {l : List Nat} {a : α}, (∀ i ∈ l, lookN ob i = lookN ob' i) → Q.R ob q l a → Q.R ob' q l a := by
  intro q
  induction q with
  | ret b => intro l a _ h; exact h
  | fail => intro l a _ h; exact h
  | obj i f ih =>
    intro l a he h
    obtain ⟨x, l', h1, rfl, h2⟩ := h
    refine ⟨x, l', ?_, rfl, ih x (fun i hi => he i (by simp [hi])) h2⟩
    unfold lookO at h1 ⊢
    rw [← he i (by simp)]
    exact h1
  | part o f ih =>
    intro l a he h
    obtain ⟨y, h1, h2⟩ := h
    exact ⟨y, h1, ih y he h2⟩

/-! one drawn operation -/
def UD (D : Nat → Bool) (nx N : Nat) : Nat → Prop := fun i => i < nx ∨ ∃ q, q < N ∧ D q = true ∧ nx + 64 * q ≤ i ∧ i < nx + 64 * q + 64
theorem UD_ins {Dn : Nat → Bool} {nx N p : Nat} (hp : p < N) : addU (UD Dn nx N) (nx + 64 * p) = UD (ins Dn p) nx N := by
  funext i
  apply propext
  unfold addU UD
  constructor
  · rintro ((h | ⟨q, h1, h2, h3⟩) | h)
    · exact .inl h
    · exact .inr ⟨q, h1, by simp [ins, h2], h3⟩
    · exact .inr ⟨p, hp, ins_self _ _, h⟩
  · rintro (h | ⟨q, h1, h2, h3⟩)
    · exact .inl (.inl h)
    · by_cases hq : q = p
      · subst hq
        exact .inr h3
      · rw [ins_ne hq] at h2
        exact .inl (.inr ⟨q, h1, h2, h3⟩)
structure Dr (l : List Oper) (rs : List (RS D)) (σ : S D) (γ0 : Gh D) (w0 : World) (Dn : Nat → Bool) (γ : Gh D) (w : World) (L : List (Nat × Value)) : Prop where
  sr : SR (UD Dn σ.nx l.length) γ w (acc (gA l rs) σ.sl Dn l.length) L
  ob : OB (UD Dn σ.nx l.length) γ w (acc (gB rs) σ.ob Dn l.length)
  fr : Frame γ0 w0 γ w
  cl : ∀ q o, Dn q = true → l[q]? = some o → ∀ e ∈ o.after.toList, Region.binds .any e = true → Dn e.on = true
  big : 2000 ≤ σ.nx
theorem SR.eqv {U : Nat → Prop} {γ : Gh D} {w : World} {sl sl' : List (Nat × AV D)} {L : List (Nat × Value)} (h : SR U γ w sl L) (he : ∀ t, lookN sl' t = lookN sl t) : SR U γ w sl' L := fun t a ha => h t a (by rw [← he]; exact ha)
theorem OB.eqv {U : Nat → Prop} {γ : Gh D} {w : World} {ob ob' : List (Nat × Option (AO D))} (h : OB U γ w ob) (he : ∀ t, lookN ob' t = lookN ob t) : OB U γ w ob' :=
  ⟨fun i x hx => h.ob i x (by unfold lookO at hx ⊢; rw [← he]; exact hx), h.cl, h.ro⟩
theorem Ext.of {wr : List Nat} {σ σ' : S D} (h1 : ∀ t, t ∉ wr → lookN σ'.sl t = lookN σ.sl t) (h2 : σ'.lk = σ.lk) (h3 : ∀ i ∈ σ.lk, lookN σ'.ob i = lookN σ.ob i) (h4 : σ.nx ≤ σ'.nx) : Ext wr σ σ' := ⟨h1, h2, h3, h4⟩
theorem apart_l {ops : List Oper} {a b : Oper} {d : Nat} (h : apart ops a b = true) (hd : a.dst = some d) : d ∉ tmpsOf ops b ∧ b.dst ≠ some d := by
  unfold apart at h
  rw [hd] at h
  simp only [Bool.and_eq_true, Bool.not_eq_true'] at h
  refine ⟨memN_false h.1, fun hb => ?_⟩
  rw [hb] at h
  simp at h
theorem apart_r {ops : List Oper} {a b : Oper} {d : Nat} (h : apart ops a b = true) (hd : b.dst = some d) : d ∉ tmpsOf ops a := by
  unfold apart at h
  rw [hd] at h
  split at h
  · simp only [Bool.not_eq_true'] at h
    exact memN_false h
  · simp only [Bool.and_eq_true, Bool.not_eq_true'] at h
    exact memN_false h.2.2
theorem tmpsOf_op {ops : List Oper} {o : Oper} {t : Nat} (h : Operand.tmp t ∈ o.op.operands.toList) : t ∈ tmpsOf ops o := by
  unfold tmpsOf
  exact List.mem_append.2 (.inl (List.mem_filterMap.2 ⟨.tmp t, h, rfl⟩))
theorem tmpsOf_guard {ops : List Oper} {o og : Oper} {j d : Nat} {b : Bool} (h : o.guard = some (j, b)) (ho : ops[j]? = some og) (hd : og.dst = some d) : d ∈ tmpsOf ops o := by
  unfold tmpsOf
  refine List.mem_append.2 (.inr ?_)
  simp [h, ho, hd]

section
variable (hP : POk P T) (hR : RepOk T) (hΦ : ∀ c ∈ Φ, ConOk P T c)
include hP hR hΦ
theorem Dr.step [Rd] {l : List Oper} {rs : List (RS D)} {σ : S D} {γ0 γ : Gh D} {w0 w : World} {Dn : Nat → Bool} {L : List (Nat × Value)} {Qx : Exit → Act → World → Prop} (h : Dr l rs σ γ0 w0 Dn γ w L) (hT : Tr T Φ l l rs σ) (hs : slotsOk l (ancs l []) 0 l [] = true) (hl : lgsOk (ancs l []) (lgT rs 0 []) = true)
    {p : Nat} {o : Oper} {x : RS D} (hp : l[p]? = some o) (hx : rs[p]? = some x) (hD : Dn p = false) (hr : ∀ e ∈ o.after.toList, Region.binds .any e = true → Dn e.on = true) :
    match x with
    | .run e l' => (∀ a, Fr n L a → Region.wanted o (yielded l.toArray a.tmps) = true) ∧ OW P Qx L o w (fun v w' => ∃ γ', Dr l rs σ γ0 w0 (ins Dn p) γ' w' (putL o.dst v L))
    | .skip => (∀ a, Fr n L a → Region.wanted o (yielded l.toArray a.tmps) = false) ∧ Dr l rs σ γ0 w0 (ins Dn p) γ w (putL o.dst undef L) := by
  have hpl : p < l.length := (List.getElem?_eq_some_iff.1 hp).1
  obtain ⟨s1, s2⟩ := slots_get hs
  obtain ⟨_, _, g3⟩ := lgs_get hl
  simp only [Nat.zero_add] at s1 s2 g3
  have down : ∀ q, Dn q = true → ∀ i, bit ((ancs l []).getD q 0) i = true → Dn i = true := by
    intro q
    induction q using Nat.strongRecOn with
    | _ q ih =>
      intro hq i hi
      by_cases hql : q < l.length
      · obtain ⟨e, k1, k2, k3⟩ := anc_bit (List.getElem?_eq_getElem hql) hi
        have hon := h.cl q _ hq (List.getElem?_eq_getElem hql) e k1 k2
        rcases k3 with rfl | k3
        · exact hon
        · exact ih e.on ((s1 q _ (List.getElem?_eq_getElem hql)).2 e k1 k2) hon i k3
      · exfalso
        have hlen : (ancs l []).length ≤ q := by
          have : ∀ {l : List Oper} {acc : List Nat}, (ancs l acc).length = acc.length + l.length := by
            intro l
            induction l with
            | nil => intro acc; simp [ancs]
            | cons o r ih => intro acc; simp only [ancs]; rw [ih]; simp; omega
          rw [this]
          simp
          omega
        rw [List.getD_eq_getElem?_getD, List.getElem?_eq_none hlen] at hi
        simp [bit] at hi
  have upp : ∀ i, bit ((ancs l []).getD p 0) i = true → Dn i = true := fun i hi => by
    obtain ⟨e, k1, k2, k3⟩ := anc_bit hp hi
    rcases k3 with rfl | k3
    · exact hr e k1 k2
    · exact down e.on (hr e k1 k2) i k3
  have hup2 : ∀ q, Dn q = true → ¬ bit ((ancs l []).getD q 0) p = true := fun q hq hb => by
    rw [down q hq p hb] at hD
    cases hD
  have hne : ∀ q, Dn q = true → q ≠ p := fun q hq e => by subst e; rw [hq] at hD; cases hD
  -- slots that it looks at hold what they hold in the text's order
  have hlook : ∀ t ∈ tmpsOf l o, lookN (acc (gA l rs) σ.sl Dn l.length) t = lookN (acc (gA l rs) σ.sl (fun _ => true) p) t := by
    intro t ht
    rw [acc_text (Nat.le_of_lt hpl)]
    refine acc_congr fun q hq hm => ?_
    obtain ⟨oq, hoq, hdq⟩ := gA_key hm
    rcases Nat.lt_trichotomy q p with hqp | rfl | hqp
    · have : Nat.blt q p = true := Nat.ble_eq_true_of_le hqp
      rw [this]
      rcases s2 q p oq o hqp hoq hp with hb | hb
      · exact upp q hb
      · exact ((apart_l hb hdq).1 ht).elim
    · rw [hD]
      cases hb : Nat.blt q q with
      | true => have := Nat.le_of_ble_eq_true hb; omega
      | false => rfl
    · have : Nat.blt q p = false := by
        cases hb : Nat.blt q p with
        | true => have := Nat.le_of_ble_eq_true hb; omega
        | false => rfl
      rw [this]
      cases hDq : Dn q with
      | false => rfl
      | true =>
        rcases s2 p q o oq hqp hp hoq with hb | hb
        · exact (hup2 q hDq hb).elim
        · exact (apart_r hb hdq ht).elim
  have hinsS : ∀ t, lookN (acc (gA l rs) σ.sl (ins Dn p) l.length) t = lookN (gS o x ++ acc (gA l rs) σ.sl Dn l.length) t := by
    rw [← gA_at hp hx]
    refine acc_ins hpl hD fun t ht q h1 h2 h3 hm => ?_
    obtain ⟨oq, hoq, hdq⟩ := gA_key hm
    obtain ⟨o', ho', hdo⟩ := gA_key ht
    rw [hp] at ho'
    cases ho'
    rcases s2 p q o oq h1 hp hoq with hb | hb
    · exact hup2 q h3 hb
    · exact (apart_l hb hdo).2 hdq
  have hinsO : ∀ t, lookN (acc (gB rs) σ.ob (ins Dn p) l.length) t = lookN (gO x ++ acc (gB rs) σ.ob Dn l.length) t := by
    rw [← gB_at hx]
    refine acc_ins hpl hD fun t ht q h1 h2 h3 hm => ?_
    obtain ⟨e', l2, hq2, hw2⟩ := gB_key hm
    obtain ⟨e1, l1, hq1, hw1⟩ := gB_key ht
    rcases g3 p q _ _ _ _ h1 hq1 hq2 with hb | hb
    · exact hup2 q h3 hb
    · simp only [lgApart, Bool.and_eq_true] at hb
      exact disjB_ok hb.2 hw2 hw1
  have hcl : ∀ q o', ins Dn p q = true → l[q]? = some o' → ∀ e ∈ o'.after.toList, Region.binds .any e = true → ins Dn p e.on = true := by
    intro q o' hq ho' e he hb
    have : Dn e.on = true := by
      by_cases hqp : q = p
      · subst hqp
        rw [hp] at ho'
        cases ho'
        exact hr e he hb
      · rw [ins_ne hqp] at hq
        exact h.cl q o' hq ho' e he hb
    simp [ins, this]
  have hOk := Tr_get hT hp hx
  have hguard : ∀ (j d : Nat) (b : Bool) (og : Oper) (av : AV D), o.guard = some (j, b) → l[j]? = some og → og.dst = some d → lookN (acc (gA l rs) σ.sl (fun _ => true) p) d = some av → ∃ v, Dp.look L d = some v ∧ VRV (UD Dn σ.nx l.length) γ w av v := by
    intro j d b og av hg ho hd hl
    exact h.sr d av (by rw [hlook d (tmpsOf_guard hg ho hd)]; exact hl)
  cases x with
  | run e l' =>
    obtain ⟨hg, as, he, hq, hef⟩ := hOk
    dsimp only at hg he hq hef
    refine ⟨fun a ha => ?_, ?_⟩
    · cases hgo : o.guard with
      | none => simp [Region.wanted, hgo]
      | some jb =>
        obtain ⟨j, b⟩ := jb
        obtain ⟨og, d, K, g, h1, h2, h3⟩ := hg j b hgo
        obtain ⟨v, hv1, hv2⟩ := hguard j d b og _ hgo h1 h2 h3
        have hv2 : v = .bool b := hv2.1
        subst hv2
        simp [Region.wanted, hgo, yield_ok ha h1 h2 hv1]
    · have he' : evOs (acc (gA l rs) σ.sl Dn l.length) o.op.operands.toList = some as := by
        rw [evOs_congr fun t ht => hlook t (tmpsOf_op ht)]
        exact he
      have hq' : Q.R (acc (gB rs) σ.ob Dn l.length) (operQ T Φ (σ.nx + 64 * p) o.op as) l' e := by
        refine Q.R_congr (fun i hi => ?_) hq
        rw [acc_text (Nat.le_of_lt hpl)]
        refine acc_congr fun q hq hm => ?_
        obtain ⟨e', l2, hq2, hw2⟩ := gB_key hm
        rcases Nat.lt_trichotomy q p with hqp | rfl | hqp
        · have : Nat.blt q p = true := Nat.ble_eq_true_of_le hqp
          rw [this]
          rcases g3 q p _ _ _ _ hqp hq2 hx with hb | hb
          · exact (upp q hb).symm
          · simp only [lgApart, Bool.and_eq_true] at hb
            exact (disjB_ok hb.1.2 hw2 (by simpa using hi)).elim
        · rw [hD]
          cases hb : Nat.blt q q with
          | true => have := Nat.le_of_ble_eq_true hb; omega
          | false => rfl
        · have : Nat.blt q p = false := by
            cases hb : Nat.blt q p with
            | true => have := Nat.le_of_ble_eq_true hb; omega
            | false => rfl
          rw [this]
          cases hDq : Dn q with
          | false => rfl
          | true =>
            rcases g3 p q _ _ _ _ hqp hx hq2 with hb | hb
            · exact (hup2 q hDq hb).elim
            · simp only [lgApart, Bool.and_eq_true] at hb
              exact (disjB_ok hb.1.1 hw2 (by simpa using hi)).elim
      have hcx : Cx (UD Dn σ.nx l.length) (σ.nx + 64 * p) γ w (acc (gA l rs) σ.sl Dn l.length) L (acc (gB rs) σ.ob Dn l.length) := by
        refine ⟨h.sr, h.ob, fun i h1 h2 h3 => ?_, by have := h.big; omega⟩
        rcases h3 with h3 | ⟨q, k1, k2, k3, k4⟩
        · omega
        · have := hne q k2
          omega
      have := operQ_ok (Qx := Qx) (d := o.dst) (ty := o.type) (pos := o.pos) (af := o.after) (gd := o.guard) hP hR hΦ hcx he' hq'
      refine OW.mono this ?_
      rintro v w' ⟨γ', hpo⟩
      have hkp := hpo.kp
      have hdst := hpo.dst
      have hob := hpo.ob
      rw [UD_ins hpl] at hkp hdst hob
      refine ⟨γ', ⟨SR.eqv ?_ hinsS, OB.eqv hob fun t => by rw [hinsO]; rfl, h.fr.trans hpo.fr, hcl, h.big⟩⟩
      show SR _ γ' w' (dl o.dst e.dst ++ _) _
      cases hd : o.dst with
      | none => exact h.sr.keep hkp
      | some t => exact (h.sr.keep hkp).cons hdst
  | skip =>
    obtain ⟨j, b, og, d, av, hg, h1, h2, h3, h4⟩ := hOk
    obtain ⟨v, hv1, hv2⟩ := hguard j d b og _ hg h1 h2 h3
    refine ⟨fun a ha => ?_, ?_⟩
    · rcases h4 with ⟨K, g, rfl⟩ | rfl
      · have hv2 : v = .bool (!b) := hv2.1
        subst hv2
        cases b <;> simp [Region.wanted, hg, yield_ok ha h1 h2 hv1]
      · have hv2 : v = undef := hv2
        subst hv2
        simp [Region.wanted, hg, yield_un ha h1 h2 hv1]
    · have hkp : Keep (UD Dn σ.nx l.length) (UD (ins Dn p) σ.nx l.length) γ w γ w := ⟨fun i hi => by
        rw [← UD_ins hpl]
        exact .inl hi, fun _ _ => rfl, fun _ _ => rfl, fun _ _ _ => ⟨rfl, rfl⟩⟩
      refine ⟨SR.eqv ?_ hinsS, OB.eqv ⟨fun i x hx => ?_, fun b hb => hkp.u _ (h.ob.cl b hb), fun x hx => hkp.u _ (h.ob.ro x hx)⟩ hinsO, h.fr, hcl, h.big⟩
      · show SR _ γ w (dl o.dst _ ++ _) _
        cases hd : o.dst with
        | none => exact h.sr.keep hkp
        | some t => exact (h.sr.keep hkp).cons rfl
      · obtain ⟨h1, h2, h3⟩ := h.ob.ob i x hx
        exact ⟨h1, hkp.u _ h2, h3.keep hkp h2 fun _ _ _ => ⟨rfl, rfl⟩⟩
end

theorem filter_lt {p q : Nat → Bool} (h : ∀ x, q x = true → p x = true) {i : Nat} (hp : p i = true) (hq : q i = false) : ∀ {l : List Nat}, i ∈ l → (l.filter q).length < (l.filter p).length
  | [], hi => by cases hi
  | x :: l, hi => by
    have hle : (l.filter q).length ≤ (l.filter p).length := by
      clear hi
      induction l with
      | nil => simp
      | cons y l ih =>
        by_cases hy : q y = true
        · rw [List.filter_cons_of_pos hy, List.filter_cons_of_pos (h y hy)]
          simpa using ih
        · rw [List.filter_cons_of_neg hy]
          by_cases hy' : p y = true
          · rw [List.filter_cons_of_pos hy']
            simp
            omega
          · rw [List.filter_cons_of_neg hy']
            exact ih
    by_cases hx : x = i
    · subst hx
      rw [List.filter_cons_of_neg (by simp [hq]), List.filter_cons_of_pos hp]
      simp
      omega
    · have hil : i ∈ l := by
        rcases List.mem_cons.1 hi with e | hh
        · exact (hx e.symm).elim
        · exact hh
      have ih := filter_lt h hp hq hil
      by_cases hy : q x = true
      · rw [List.filter_cons_of_pos hy, List.filter_cons_of_pos (h x hy)]
        simpa using ih
      · rw [List.filter_cons_of_neg hy]
        by_cases hy' : p x = true
        · rw [List.filter_cons_of_pos hy']
          simp
          omega
        · rw [List.filter_cons_of_neg hy']
          exact ih

section
variable (hP : POk P T) (hR : RepOk T) (hΦ : ∀ c ∈ Φ, ConOk P T c) (hm : P.follows .mixedOrders = true)
include hP hR hΦ hm
theorem any_ok [I : Rd] {id : Nat} {ops : List Oper} {ρ : Type} {σ : S D} {k : S D → Option ρ} {r : ρ} {γ : Gh D} {w : World} {L : List (Nat × Value)} {Qx : Exit → Act → World → Prop} (hs : slotsOk ops (ancs ops []) 0 ops [] = true)
    (h : cpsL T Φ ops ops 0 σ [] (fun σ' lg => match lgsOk (ancs ops []) lg with
      | true => k σ'
      | false => none) = some r) (hd : ∀ t ∈ dstsOf ops, I.okt n t = true) (hk : Kn σ γ w L)
    (hc : ∀ σ' γ' w' L', Kn σ' γ' w' L' → Frame γ w γ' w' → Ext (dstsOf ops) σ σ' → k σ' = some r → NK n (Qx .normal) L' w') : CW P n (.region id ops.toArray true) Qx L w := by
  obtain ⟨rs, σe, hT, heq, hfin⟩ := trace h (EqS.mk (fun _ => rfl) rfl rfl rfl)
  split at hfin
  case h_2 => cases hfin
  rename_i hl
  have hlen := Tr_len hT
  rw [runT_is hT] at heq
  intro a ha
  refine wpIn_region_any hm ?_
  -- at the end
  have fin : ∀ (Dn : Nat → Bool) (γ' : Gh D) (w' : World) (L' : List (Nat × Value)) (a' : Act), Dr ops rs σ γ w Dn γ' w' L' → Fr n L' a' → (∀ i, i < ops.length → Dn i = true) → Qx .normal a' w' := by
    intro Dn γ' w' L' a' hdr hfr hall
    have hU : UD Dn σ.nx ops.length = fun i => i < σe.nx := by
      rw [← heq.nx]
      funext i
      apply propext
      show UD Dn σ.nx ops.length i ↔ i < σ.nx + 64 * ops.length
      unfold UD
      constructor
      · rintro (h | ⟨q, h1, h2, h3, h4⟩) <;> omega
      · intro h
        by_cases h0 : i < σ.nx
        · exact .inl h0
        · exact .inr ⟨(i - σ.nx) / 64, by omega, hall _ (by omega), by omega, by omega⟩
    have hsr := hdr.sr
    have hob := hdr.ob
    rw [hU] at hsr hob
    rw [acc_same (D' := fun _ => true) fun q hq => hall q hq] at hsr hob
    have hbig := hdr.big
    have hnx := heq.nx
    dsimp only at hnx
    refine hc σe γ' w' L' ⟨hsr.eqv fun t => (heq.sl t).symm, ?_, by omega⟩ hdr.fr (Ext.of (fun t ht => ?_) heq.lk.symm (fun i hi => ?_) (by omega)) hfin a' hfr
    · rw [← heq.ob]
      exact hob
    · rw [← heq.sl]
      show lookN (acc (gA ops rs) σ.sl (fun _ => true) ops.length) t = _
      have : lookN (acc (gA ops rs) σ.sl (fun _ => true) ops.length) t = lookN (acc (gA ops rs) σ.sl (fun _ => false) ops.length) t := acc_congr fun q hq hm => by
        obtain ⟨o, ho, hdo⟩ := gA_key hm
        exact (ht (List.mem_filterMap.2 ⟨o, List.mem_of_getElem? ho, hdo⟩)).elim
      rw [this]
      have := acc_stop (g := gA ops rs) (l0 := σ.sl) (D := fun _ => false) (n := 0) (k := ops.length) fun _ _ => rfl
      rw [Nat.zero_add] at this
      rw [this]
      rfl
    · rw [← heq.ob]
      show lookN (acc (gB rs) σ.ob (fun _ => true) ops.length) i = _
      have : lookN (acc (gB rs) σ.ob (fun _ => true) ops.length) i = lookN (acc (gB rs) σ.ob (fun _ => false) ops.length) i := acc_congr fun q hq hm => by
        obtain ⟨e, l, hx, hw⟩ := gB_key hm
        obtain ⟨_, as, _, _, hef⟩ := Tr_get hT (List.getElem?_eq_getElem hq) hx
        unfold effOk at hef
        simp only [Bool.and_eq_true] at hef
        unfold Eff.wr at hw
        rcases List.mem_append.1 hw with hw | hw
        · exact (disjB_ok hef.1 hw hi).elim
        · exact (disjB_ok hef.2 hw hi).elim
      rw [this]
      have := acc_stop (g := gB rs) (l0 := σ.ob) (D := fun _ => false) (n := 0) (k := ops.length) fun _ _ => rfl
      rw [Nat.zero_add] at this
      rw [this]
      rfl
  have edges : ∀ q (hq : q < ops.length), ∀ e ∈ (ops[q]).after.toList, Region.binds .any e = true → e.on < q := fun q hq e he hb => by
    have := (slots_get hs).1 q _ (List.getElem?_eq_getElem hq)
    simp only [Nat.zero_add] at this
    exact this.2 e he hb
  have hready : ∀ (listed : Array Bool), Region.ready .any ops.toArray listed = [] → listed.size = ops.length → ∀ i, i < ops.length → listed.getD i false = true := by
    intro listed hr hsz i
    induction i using Nat.strongRecOn with
    | _ i ih =>
      intro hi
      cases hli : listed.getD i false with
      | true => rfl
      | false =>
        exfalso
        have hmem : i ∈ Region.ready .any ops.toArray listed := by
          have hb : i < listed.size := by omega
          refine mem_ready.2 ⟨?_, ops[i], by simp [hi], fun e he hbn => ?_⟩
          · simp [Array.getD, hb] at hli ⊢
            exact hli
          · have h3 := edges i hi e (by simpa using he) hbn
            exact ih e.on h3 (by omega)
        rw [hr] at hmem
        cases hmem
  have main : ∀ (fuel : Nat) (listed : Array Bool) (a : Act) (w' : World) (γ' : Gh D) (L' : List (Nat × Value)), listed.size = ops.length → ((List.range ops.length).filter fun i => !listed.getD i true).length ≤ fuel →
      Dr ops rs σ γ w (fun j => listed.getD j false) γ' w' L' → Fr n L' a → wpAnyIn I.F 0 P .any ops.toArray Qx fuel listed a w' := by
    intro fuel
    induction fuel with
    | zero =>
      intro listed a w' γ' L' hsz hcount hJ hf
      have hr : Region.ready .any ops.toArray listed = [] := by
        refine List.eq_nil_iff_forall_not_mem.2 fun i hi => ?_
        obtain ⟨h1, o, h2, _⟩ := mem_ready.1 hi
        have hio : i < ops.length := by simpa using (Array.getElem?_eq_some_iff.1 h2).1
        have hmem : i ∈ (List.range ops.length).filter fun i => !listed.getD i true := List.mem_filter.2 ⟨List.mem_range.2 hio, by simp only [h1]; rfl⟩
        have := List.length_pos_of_mem hmem
        omega
      exact ⟨hr, fin _ _ _ _ _ hJ hf (hready listed hr hsz)⟩
    | succ fuel ih =>
      intro listed a w' γ' L' hsz hcount hJ hf
      refine ⟨fun hr => fin _ _ _ _ _ hJ hf (hready listed hr hsz), fun i hi => ?_⟩
      obtain ⟨hli, o, hio, haf⟩ := mem_ready.1 hi
      have hil : i < ops.length := by simpa using (Array.getElem?_eq_some_iff.1 hio).1
      have hioL : ops[i]? = some o := by simpa using hio
      have hib : i < listed.size := by omega
      have hlf : listed.getD i false = false := by
        simp [Array.getD, hib] at hli ⊢
        exact hli
      have hxl : i < rs.length := by omega
      have next : ∀ {γ2 : Gh D} {w2 : World} {L2 : List (Nat × Value)} {a2 : Act}, Dr ops rs σ γ w (ins (fun j => listed.getD j false) i) γ2 w2 L2 → Fr n L2 a2 → wpAnyIn I.F 0 P .any ops.toArray Qx fuel (listed.setIfInBounds i true) a2 w2 := by
        intro γ2 w2 L2 a2 hdr hfr
        refine ih (listed.setIfInBounds i true) a2 w2 γ2 L2 (by simp [hsz]) ?_ ?_ hfr
        · have hlt := filter_lt (p := fun i => !listed.getD i true) (q := fun j => !(listed.setIfInBounds i true).getD j true) (i := i) (fun x hx => by
            by_cases hxi : x = i
            · subst hxi
              simp [Array.getD, hib] at hx
            · rw [getD_set_ne true (Ne.symm hxi)] at hx
              exact hx) (by simp only [hli]; rfl) (by simp [Array.getD, hib]) (List.mem_range.2 hil)
          omega
        · have e : (fun j => (listed.setIfInBounds i true).getD j false) = ins (fun j => listed.getD j false) i := by
            funext j
            by_cases hji : j = i
            · subst hji
              simp [Array.getD, hib, ins]
            · rw [ins_ne hji]
              exact getD_set_ne false (Ne.symm hji)
          rw [e]
          exact hdr
      have hdo : ∀ t, o.dst = some t → I.okt n t = true := fun t ht => hd t (List.mem_filterMap.2 ⟨o, List.mem_of_getElem? hioL, ht⟩)
      obtain ⟨x, hx⟩ : ∃ x, rs[i]? = some x := ⟨_, List.getElem?_eq_getElem hxl⟩
      have hstep := Dr.step (n := n) (Qx := Qx) hP hR hΦ hJ hT hs hl hioL hx hlf (fun e he hb => haf e (by simpa using he) hb)
      unfold wpOpIn
      rw [hio]
      simp only
      cases x with
      | run e l' =>
        rw [if_pos (hstep.1 a hf)]
        refine hstep.2 a _ (fun x v hx => hf.ev hx) ?_
        rintro v w2 ⟨γ2, hdr⟩
        exact next hdr (Fr.putL hf hdo v)
      | skip =>
        rw [if_neg (by rw [hstep.1 a hf]; simp)]
        exact ⟨fun _ _ => trivial, next hstep.2 (Fr.putL hf hdo undef)⟩
  have hf0 : ∀ j, (Array.replicate ops.toArray.size false).getD j false = false := by
    intro j
    simp [Array.getD]
  have hD0 : (fun j => (Array.replicate ops.toArray.size false).getD j false) = fun _ => false := funext hf0
  refine main _ _ a _ γ L (by simp) ?_ ?_ ha
  · have := List.length_filter_le (fun i => !(Array.replicate ops.toArray.size false).getD i true) (List.range ops.length)
    simpa using this
  · rw [hD0]
    have hU : UD (fun _ => false) σ.nx ops.length = fun i => i < σ.nx := by
      funext i
      apply propext
      unfold UD
      constructor
      · rintro (h | ⟨q, h1, h2, h3⟩)
        · exact h
        · cases h2
      · exact .inl
    have hz : ∀ {α : Type} {g : Nat → List (Nat × α)} {l0 : List (Nat × α)}, acc g l0 (fun _ => false) ops.length = l0 := by
      intro α g l0
      have := acc_stop (g := g) (l0 := l0) (D := fun _ => false) (n := 0) (k := ops.length) fun _ _ => rfl
      rw [Nat.zero_add] at this
      exact this
    have hkp : Keep (fun i => i < σ.nx) (fun i => i < σ.nx) γ w γ { w with drawn := w.drawn + 1 } := ⟨fun _ h => h, fun _ _ => rfl, fun _ _ => rfl, fun _ _ _ => ⟨rfl, rfl⟩⟩
    refine ⟨?_, ?_, ⟨⟨rfl, rfl, rfl, Nat.le_refl _, fun _ _ _ => ⟨rfl, rfl⟩, fun b hb _ => ⟨hb, rfl⟩⟩, fun _ _ => rfl⟩, fun q o hq => (by cases hq), hk.big⟩
    · rw [hU, hz]
      exact hk.sr.keep hkp
    · rw [hU, hz]
      exact ⟨fun i x hx => by
        obtain ⟨h1, h2, h3⟩ := hk.ob.ob i x hx
        exact ⟨h1, h2, h3.keep hkp h2 fun _ _ _ => ⟨rfl, rfl⟩⟩, hk.ob.cl, hk.ob.ro⟩
end
end
end Rx
end Go.Proofs.Ytkgfdplcjdidhaa
namespace Go.Proofs.Ytkgfdplcjdidhaa
open Go Go.RowKit Dp

namespace Rx

section
variable {D : Nat → Type} [∀ n, Rep (D n)]
variable {P : Program} {T : Tab D} {Φ : List (Con D)} {n : Nat}

def toX : Out → Exit
  | .normal => .normal
  | .exit id => .exit id
  | .goto l => .goto l
  | .ret => .ret

/-! labels -/
def jmpE (l : Nat) (J : Act → World → Prop) (Q : Exit → Act → World → Prop) : Exit → Act → World → Prop
  | .goto l', a, w => if l' = l then J a w else Q (.goto l') a w
  | e, a, w => Q e a w
/-- what is known of a jump to the label on the spine: it may go on for so many rounds -/
def Lb [I : Rd] (P : Program) (c : Code) (Qx : Exit → Act → World → Prop) : Prop := ∀ l b, spineL c = some (l, b) → ∃ Jm : Nat → Act → World → Prop,
  (∀ m a w, b.wpIn I.F 0 P (jmpE l (Jm m) Qx) a w → Jm (m + 1) a w) ∧ ∀ m a w, Jm m a w → Qx (.goto l) a w
theorem Lb.none [Rd] {c : Code} {Qx : Exit → Act → World → Prop} (h : noSp c = true) : Lb P c Qx := by
  intro l b hs
  unfold noSp at h
  rw [hs] at h
  cases h
theorem isLab_some {c : Code} {l : Nat} (h : isLab c = some l) : c = .label l := by
  unfold isLab at h
  split at h
  · cases h; rfl
  · cases h
theorem nolab_find (l : Nat) : ∀ (c : Code), noSp c = true → okC c = true → findLabel c l = none := by
  intro c
  induction c with
  | seq x y ihx ihy =>
    intro h1 h2
    unfold noSp at h1
    unfold spineL at h1
    unfold okC at h2
    cases hl : isLab x with
    | some q => rw [hl] at h1; cases h1
    | none =>
      rw [hl] at h1 h2
      simp only [Bool.and_eq_true] at h2
      unfold findLabel
      rw [ihx h2.1.1 h2.1.2]
      exact ihy h1 h2.2
  | label q => intro h1 _; cases h1
  | _ => intros; rfl
theorem spine_find [I : Rd] : ∀ (c : Code) {l : Nat} {b : Code}, spineL c = some (l, b) → okC c = true → ∃ rest, findLabel c l = some rest ∧ ∀ (Q : Exit → Act → World → Prop) a w, b.wpIn I.F 0 P Q a w → rest.wpIn I.F 0 P Q a w := by
  intro c
  induction c with
  | seq x y ihx ihy =>
    intro l b h1 h2
    unfold spineL at h1
    unfold okC at h2
    cases hl : isLab x with
    | some q =>
      rw [hl] at h1
      cases h1
      obtain rfl := isLab_some hl
      refine ⟨.seq .skip y, by simp [findLabel], fun Q a w h => wpIn_seq (wpIn_skip h)⟩
    | none =>
      rw [hl] at h1 h2
      simp only [Bool.and_eq_true] at h2
      obtain ⟨rest, h3, h4⟩ := ihy h1 h2.2
      refine ⟨rest, ?_, h4⟩
      unfold findLabel
      rw [nolab_find l x h2.1.1 h2.1.2]
      exact h3
  | label q =>
    intro l b h1 _
    cases h1
    exact ⟨.skip, by simp [findLabel], fun Q a w h => h⟩
  | _ => intro l b h1; cases h1
def jmpN [I : Rd] (P : Program) (rest : Code) (l : Nat) (Q : Exit → Act → World → Prop) : Nat → Act → World → Prop
  | 0 => fun _ _ => False
  | m + 1 => fun a w => rest.wpIn I.F 0 P (Exit.jump l (jmpN P rest l Q m) Q) a w
theorem loopN_succ {σ ρ : Type} (step : σ → Option (σ ⊕ ρ)) (n : Nat) (s : σ) : loopN step (n + 1) s = (match step s with
  | some (.inl s') => loopN step n s'
  | some (.inr r) => some r
  | none => none) := rfl
theorem swO_swO (l : Nat) (o : Out) : swO l (swO l o) = o := by
  cases o with
  | normal => simp [swO]
  | exit id => rfl
  | ret => rfl
  | goto q =>
    cases hb : Nat.beq q l with
    | true =>
      have := Nat.eq_of_beq_eq_true hb
      subst this
      simp [swO]
    | false => simp [swO, hb]
theorem least_ex {p : Nat → Prop} (h : ∃ m, p m) : ∃ m, p m ∧ ∀ k, k < m → ¬ p k := by
  apply Classical.byContradiction
  intro hn
  have key : ∀ m, ¬ p m := by
    intro m
    induction m using Nat.strongRecOn with
    | _ m ih => exact fun hp => hn ⟨m, hp, fun k hk => ih k hk⟩
  obtain ⟨m, hm⟩ := h
  exact key m hm
open Classical in
noncomputable def leastN (p : Nat → Prop) : Nat := if h : ∃ m, p m then (least_ex h).choose else 0
theorem leastN_spec {p : Nat → Prop} (h : ∃ m, p m) : p (leastN p) := by
  unfold leastN
  rw [dif_pos h]
  exact (least_ex h).choose_spec.1
theorem leastN_le {p : Nat → Prop} {m : Nat} (h : p m) : leastN p ≤ m := by
  have hx : ∃ m, p m := ⟨m, h⟩
  unfold leastN
  rw [dif_pos hx]
  rcases Nat.lt_or_ge m (least_ex hx).choose with hlt | hge
  · exact ((least_ex hx).choose_spec.2 m hlt h).elim
  · exact hge
theorem Rd.wide {I : Rd} (h : I.ro = none) : I.F = Fence.wide := by unfold Rd.F; rw [h]; rfl
theorem scope_any [I : Rd] (hI : I.ro = none) {c rest : Code} {l : Nat} {Q : Exit → Act → World → Prop} {a : Act} {w : World} (hf : findLabel c l = some rest) (first : c.wpIn I.F 0 P (Exit.jump l (fun a w => ∃ m, jmpN P rest l Q m a w) Q) a w) : (Code.scope c).wpIn I.F 0 P Q a w := by
  rw [Rd.wide hI] at first ⊢
  rw [wpIn_wide] at first ⊢
  refine wp_scope_jumps l (fun a w => ∃ m, jmpN P rest l Q m a w) (fun a w => leastN fun m => jmpN P rest l Q m a w) hf first ?_
  intro a w h
  have h1 := leastN_spec (p := fun m => jmpN P rest l Q m a w) h
  generalize leastN (fun m => jmpN P rest l Q m a w) = m at *
  cases m with
  | zero => exact h1.elim
  | succ m =>
    have h1 : rest.wpIn I.F 0 P (Exit.jump l (jmpN P rest l Q m) Q) a w := h1
    rw [Rd.wide hI, wpIn_wide] at h1
    refine Code.wp_mono (fun e a' w' he => ?_) h1
    cases e with
    | goto l' => exact ⟨he.1, ⟨m, he.2⟩, Nat.lt_succ_of_le (leastN_le (p := fun m => jmpN P rest l Q m a' w') he.2)⟩
    | _ => exact he

theorem scope_straight [I : Rd] (hI : I.ro = none) {c : Code} {Q : Exit → Act → World → Prop} {a : Act} {w : World} (h : c.wpIn I.F 0 P (Exit.noGoto Q) a w) : (Code.scope c).wpIn I.F 0 P Q a w := by
  rw [Rd.wide hI] at h ⊢
  rw [wpIn_wide] at h ⊢
  exact wp_scope_straight h
theorem loopN_R {σ ρ : Type} {step : σ → Option (σ ⊕ ρ)} : ∀ {n : Nat} {s : σ} {r : ρ}, loopN step n s = some r → loopR step s = some r
  | 0, s, r, h => by cases h
  | n + 1, s, r, h => by
    have h : (match step s with
      | some (.inl s') => loopN step n s'
      | some (.inr r) => some r
      | none => none) = some r := h
    rw [loopR_unfold]
    cases hs : step s with
    | none => rw [hs] at h; cases h
    | some x =>
      rw [hs] at h
      cases x with
      | inl s' => exact loopN_R h
      | inr r' => exact h
theorem loopO_R {σ ρ : Type} {step : σ → Option (σ ⊕ ρ)} {s : σ} {r : ρ} (h : loopO step s = some r) : loopR step s = some r := loopN_R h
section
variable (hP : POk P T) (hR : RepOk T) (hΦ : ∀ c ∈ Φ, ConOk P T c) (hm : P.follows .mixedOrders = true)
include hP hR hΦ hm

theorem region_ok [I : Rd] {id : Nat} {ops : Array Oper} {draw : Bool} {sg : Sg} {ρ : Type} {σ : S D} {k : S D → Option ρ} {r : ρ} {γ : Gh D} {w : World} {L : List (Nat × Value)} {Qx : Exit → Act → World → Prop} (h : cpsR T Φ ops.toList draw sg σ k = some r) (hd : ∀ t ∈ dstsOf ops.toList, I.okt n t = true) (hk : Kn σ γ w L)
    (hc : ∀ σ' γ' w' L', Kn σ' γ' w' L' → Frame γ w γ' w' → Ext (dstsOf ops.toList) σ σ' → k σ' = some r → NK n (Qx .normal) L' w') : CW P n (.region id ops draw) Qx L w := by
  unfold cpsR at h
  have e : ops = ops.toList.toArray := by simp
  cases draw with
  | true =>
    dsimp only at h
    split at h
    case h_2 => cases h
    rename_i hs
    rw [e]
    exact any_ok hP hR hΦ hm hs h hd hk hc
  | false =>
    dsimp only at h
    rw [e]
    exact CW.region (cpsG_ok hP hR hΦ sg h hd hk hc)

/-- the loop -/
theorem loop_ok [Rd] {c : Code} {wr : List Nat} {j : J} {pr : Bool} {E : List (Out × J)} {ρ : Type} {body : ∀ {ρ' : Type}, S D → (Out → S D → Option ρ') → Option ρ'} {σ : S D} {k : Out → S D → Option ρ} {r : ρ} {γ : Gh D} {w : World} {L : List (Nat × Value)} {Qx : Exit → Act → World → Prop}
    (h : loopK T wr j pr E body σ k = some r) (hk : Kn σ γ w L)
    (hbody : ∀ {ρ' : Type} {σ' : S D} {k' : Out → S D → Option ρ'} {r' : ρ'} {γ' : Gh D} {w' : World} {L' : List (Nat × Value)} {Q' : Exit → Act → World → Prop}, body σ' k' = some r' → Kn σ' γ' w' L' → (∀ o σ1 γ1 w1 L1, Kn σ1 γ1 w1 L1 → Frame γ' w' γ1 w1 → Ext wr σ' σ1 → k' o σ1 = some r' → NK n (Q' (toX o)) L1 w1) → CW P n c Q' L' w')
    (hc : ∀ o σ1 γ1 w1 L1, Kn σ1 γ1 w1 L1 → Frame γ w γ1 w1 → Ext wr σ σ1 → k o σ1 = some r → NK n (Qx (toX o)) L1 w1) : CW P n (.loop c) Qx L w := by
  unfold loopK at h
  obtain ⟨h0, hx0, h⟩ := exJ_R h
  obtain ⟨x, hx, hf⟩ := bindE h
  generalize hmv : j.mv ++ mvE E = mv at *
  have hs : ∀ i ∈ σ.lk, i ∈ (kept σ mv).map Prod.fst ++ σ.lk := fun i hi => List.mem_append.2 (.inr hi)
  -- the state at the head of a round
  have head : ∀ {h' : HH D j.hts} {σ1 : S D} {γ1 : Gh D} {w1 : World} {L1 : List (Nat × Value)}, Kn σ1 γ1 w1 L1 → Ext wr { σ with lk := (kept σ mv).map Prod.fst ++ σ.lk } σ1 → ExR T j σ1 h' → Frame γ w γ1 w1 → ∀ {σh : S D}, inJ T j wr mv σ h' = some σh →
      ∃ γ', Kn σh γ' w1 L1 ∧ Frame γ w γ' w1 ∧ Ext wr { σ with lk := (kept σ mv).map Prod.fst ++ σ.lk } { σh with lk := (kept σ mv).map Prod.fst ++ σ.lk } := by
    intro h' σ1 γ1 w1 L1 hk1 he hx hfr σh hi
    obtain ⟨γ2, k1, k2, k3, _⟩ := join_ok hR rfl hk hk1 he hx hi
    exact ⟨γ2, k1, hfr.trans k2, k3⟩
  refine CW.loop _ (fun h' L' w' => ∀ σh, inJ T j wr mv σ h' = some σh → ∃ γ', Kn σh γ' w' L' ∧ Frame γ w γ' w' ∧ Ext wr { σ with lk := (kept σ mv).map Prod.fst ++ σ.lk } { σh with lk := (kept σ mv).map Prod.fst ++ σ.lk }) (loopO_R hx) ?_ ?_
  · intro σh hi
    exact head (hk.lk _) (Ext.refl _ _) hx0 (Frame.refl _ _) hi
  · intro K s L' w' hinv y hy hr1 hr2
    dsimp only at hy
    split at hy
    case h_2 => cases hy
    rename_i σh hσh
    obtain ⟨γ', hk', hfr', he'⟩ := hinv σh hσh
    refine hbody hy (hk'.lk _) fun o σ1 γ1 w1 L1 hk1 hfr1 he1 ho => ?_
    have heT := he'.trans he1
    have out : ∀ {z : Option (ExT D pr ρ E)} {o : Out}, o ≠ .normal → z = toE T pr E o σ1 (k o { σ1 with lk := σ.lk }) → (match z with | some x => some (Sum.inr x) | none => none) = some y → NK n (Exit.then K Qx (toX o)) L1 w1 := by
      intro z o hon hz hzy
      subst hz
      split at hzy
      case h_2 => cases hzy
      rename_i x' hx'
      cases hzy
      have := hr1 x' rfl
      subst this
      have fin : ∀ o σ1 γ1 w1 L1, o ≠ .normal → Kn σ1 γ1 w1 L1 → Frame γ w γ1 w1 → Ext wr σ σ1 → k o σ1 = some r → NK n (Exit.then K Qx (toX o)) L1 w1 := by
        intro o σ1 γ1 w1 L1 hon k1 k2 k3 k4
        have := hc o σ1 γ1 w1 L1 k1 k2 k3 k4
        cases o with
        | normal => exact (hon rfl).elim
        | exit id => exact this
        | goto l => exact this
        | ret => exact this
      rcases toE_fromE hx' hf with ⟨j', y, σ2, h1, h2, h3⟩ | h1
      · obtain ⟨γ2, k1, k2, k3, k4⟩ := join_ok hR rfl hk hk1 heT h1 h2
        have e3 := k3.unlk (σ := σ) hs
        have e : ({ σ2 with lk := σ.lk } : S D) = σ2 := by rw [← k4]
        rw [show ({ ({ σ2 with lk := (kept σ mv).map Prod.fst ++ σ.lk } : S D) with lk := σ.lk } : S D) = { σ2 with lk := σ.lk } from rfl, e] at e3
        exact fin o σ2 γ2 w1 L1 hon k1 ((hfr'.trans hfr1).trans k2) e3 h3
      · exact fin o _ γ1 w1 L1 hon (hk1.lk _) (hfr'.trans hfr1) (heT.unlk hs) h1
    cases o with
    | normal =>
      obtain ⟨h', hx', e⟩ := exJ_R ho
      cases e
      exact hr2 h' L1 w1 rfl fun σh2 hi2 => head hk1 heT hx' (hfr'.trans hfr1) hi2
    | exit id => exact out (by simp) rfl ho
    | goto l => exact out (by simp) rfl ho
    | ret => exact out (by simp) rfl ho

theorem label_ok [I : Rd] {b : Code} {l : Nat} {wr : List Nat} {j : J} {pr : Bool} {E : List (Out × J)} {ρ : Type} {body : ∀ {ρ' : Type}, S D → (Out → S D → Option ρ') → Option ρ'} {σ : S D} {k : Out → S D → Option ρ} {r : ρ} {γ : Gh D} {w : World} {L : List (Nat × Value)} {Qx : Exit → Act → World → Prop}
    {Jm : Nat → Act → World → Prop} (hJ1 : ∀ m a w, b.wpIn I.F 0 P (jmpE l (Jm m) Qx) a w → Jm (m + 1) a w) (hJ2 : ∀ m a w, Jm m a w → Qx (.goto l) a w)
    (h : loopK T wr j pr E body σ k = some r) (hk : Kn σ γ w L)
    (hbody : ∀ {ρ' : Type} {σ' : S D} {k' : Out → S D → Option ρ'} {r' : ρ'} {γ' : Gh D} {w' : World} {L' : List (Nat × Value)} {Q' : Exit → Act → World → Prop}, body σ' k' = some r' → Kn σ' γ' w' L' → (∀ o σ1 γ1 w1 L1, Kn σ1 γ1 w1 L1 → Frame γ' w' γ1 w1 → Ext wr σ' σ1 → k' o σ1 = some r' → NK n (Q' (toX (swO l o))) L1 w1) → CW P n b Q' L' w')
    (hc : ∀ o σ1 γ1 w1 L1, Kn σ1 γ1 w1 L1 → Frame γ w γ1 w1 → Ext wr σ σ1 → k o σ1 = some r → NK n (Qx (toX (swO l o))) L1 w1) : CW P n b Qx L w := by
  unfold loopK at h
  obtain ⟨h0, hx0, h⟩ := exJ_R h
  obtain ⟨x, hx, hf⟩ := bindE h
  generalize hmv : j.mv ++ mvE E = mv at *
  have hs : ∀ i ∈ σ.lk, i ∈ (kept σ mv).map Prod.fst ++ σ.lk := fun i hi => List.mem_append.2 (.inr hi)
  have head : ∀ {h' : HH D j.hts} {σ1 : S D} {γ1 : Gh D} {w1 : World} {L1 : List (Nat × Value)}, Kn σ1 γ1 w1 L1 → Ext wr { σ with lk := (kept σ mv).map Prod.fst ++ σ.lk } σ1 → ExR T j σ1 h' → Frame γ w γ1 w1 → ∀ {σh : S D}, inJ T j wr mv σ h' = some σh →
      ∃ γ', Kn σh γ' w1 L1 ∧ Frame γ w γ' w1 ∧ Ext wr { σ with lk := (kept σ mv).map Prod.fst ++ σ.lk } { σh with lk := (kept σ mv).map Prod.fst ++ σ.lk } := by
    intro h' σ1 γ1 w1 L1 hk1 he hx hfr σh hi
    obtain ⟨γ2, k1, k2, k3, _⟩ := join_ok hR rfl hk hk1 he hx hi
    exact ⟨γ2, k1, hfr.trans k2, k3⟩
  obtain ⟨step, hstep, hx⟩ : ∃ step : HH D j.hts → Option (HH D j.hts ⊕ ExT D pr ρ E), (∀ h y, step h = some y → ∃ σh, inJ T j wr mv σ h = some σh ∧ (body { σh with lk := (kept σ mv).map Prod.fst ++ σ.lk } fun o σ1 => match o with
      | .normal => exJ T j σ1 fun h' => some (.inl h')
      | o => match toE T pr E o σ1 (k o { σ1 with lk := σ.lk }) with
        | some x => some (.inr x)
        | none => none) = some y) ∧ loopO step h0 = some x := by
    refine ⟨_, fun h y hy => ?_, hx⟩
    dsimp only at hy
    split at hy
    case h_2 => cases hy
    rename_i σh hσh
    exact ⟨σh, hσh, hy⟩
  have key : ∀ (N : Nat) (h' : HH D j.hts) (L' : List (Nat × Value)) (w' : World), (∀ σh, inJ T j wr mv σ h' = some σh → ∃ γ', Kn σh γ' w' L' ∧ Frame γ w γ' w' ∧ Ext wr { σ with lk := (kept σ mv).map Prod.fst ++ σ.lk } { σh with lk := (kept σ mv).map Prod.fst ++ σ.lk }) →
      loopN step N h' = some x → ∀ a, Fr n L' a → b.wpIn I.F 0 P (jmpE l (Jm N) Qx) a w' := by
    intro N
    induction N with
    | zero => intro h' L' w' _ hl; cases hl
    | succ N ih =>
      intro h' L' w' hinv hl
      rw [loopN_succ] at hl
      cases hs' : step h' with
      | none => rw [hs'] at hl; cases hl
      | some y =>
      rw [hs'] at hl
      obtain ⟨σh, hσh, hy⟩ := hstep _ _ hs'
      obtain ⟨γ', hk', hfr', he'⟩ := hinv σh hσh
      cases y with
      | inl s' =>
        refine hbody hy (hk'.lk _) fun o σ1 γ1 w1 L1 hk1 hfr1 he1 ho => ?_
        have heT := he'.trans he1
        cases o with
        | normal =>
          obtain ⟨h2, hx', e⟩ := exJ_R ho
          cases e
          intro a' ha'
          show (if l = l then Jm (N + 1) a' w1 else Qx (.goto l) a' w1)
          rw [if_pos rfl]
          exact hJ1 N a' w1 (ih _ L1 w1 (fun σh2 hi2 => head hk1 heT hx' (hfr'.trans hfr1) hi2) hl a' ha')
        | exit id => dsimp only at ho; split at ho <;> cases ho
        | goto q => dsimp only at ho; split at ho <;> cases ho
        | ret => dsimp only at ho; split at ho <;> cases ho
      | inr y' =>
        have hxy : y' = x := Option.some.inj hl
        rw [hxy] at hy
        refine hbody hy (hk'.lk _) fun o σ1 γ1 w1 L1 hk1 hfr1 he1 ho => ?_
        have heT := he'.trans he1
        have lift : ∀ (o : Out) (a' : Act) (w1 : World), o ≠ .normal → Qx (toX (swO l o)) a' w1 → jmpE l (Jm (N + 1)) Qx (toX (swO l o)) a' w1 := by
          intro o a' w1 hon hq
          cases o with
          | normal => exact (hon rfl).elim
          | exit id => exact hq
          | ret => exact hq
          | goto q =>
            cases hb : Nat.beq q l with
            | true =>
              have e : swO l (.goto q) = .normal := by simp [swO, hb]
              rw [e] at hq ⊢
              exact hq
            | false =>
              have e : swO l (.goto q) = .goto q := by simp [swO, hb]
              have hne : ¬ q = l := fun e => by subst e; simp at hb
              rw [e] at hq ⊢
              show (if q = l then Jm (N + 1) a' w1 else Qx (.goto q) a' w1)
              rw [if_neg hne]
              exact hq
        have out : ∀ {z : Option (ExT D pr ρ E)} {o : Out}, o ≠ .normal → z = toE T pr E o σ1 (k o { σ1 with lk := σ.lk }) → (match z with | some x => some (Sum.inr x) | none => none : Option (HH D j.hts ⊕ ExT D pr ρ E)) = some (.inr x) → NK n (jmpE l (Jm (N + 1)) Qx (toX (swO l o))) L1 w1 := by
          intro z o hon hz hzy
          subst hz
          split at hzy
          case h_2 => cases hzy
          rename_i x' hx'
          cases hzy
          have fin : ∀ σ1 γ1 w1 L1, Kn σ1 γ1 w1 L1 → Frame γ w γ1 w1 → Ext wr σ σ1 → k o σ1 = some r → NK n (jmpE l (Jm (N + 1)) Qx (toX (swO l o))) L1 w1 := by
            intro σ1 γ1 w1 L1 k1 k2 k3 k4 a' ha'
            exact lift o a' w1 hon (hc o σ1 γ1 w1 L1 k1 k2 k3 k4 a' ha')
          rcases toE_fromE hx' hf with ⟨j', y, σ2, h1, h2, h3⟩ | h1
          · obtain ⟨γ2, k1, k2, k3, k4⟩ := join_ok hR rfl hk hk1 heT h1 h2
            have e3 := k3.unlk (σ := σ) hs
            have e : ({ σ2 with lk := σ.lk } : S D) = σ2 := by rw [← k4]
            rw [show ({ ({ σ2 with lk := (kept σ mv).map Prod.fst ++ σ.lk } : S D) with lk := σ.lk } : S D) = { σ2 with lk := σ.lk } from rfl, e] at e3
            exact fin σ2 γ2 w1 L1 k1 ((hfr'.trans hfr1).trans k2) e3 h3
          · exact fin _ γ1 w1 L1 (hk1.lk _) (hfr'.trans hfr1) (heT.unlk hs) h1
        cases o with
        | normal =>
          obtain ⟨h2, hx', e⟩ := exJ_R ho
          cases e
        | exit id => exact out (by simp) rfl ho
        | goto q => exact out (by simp) rfl ho
        | ret => exact out (by simp) rfl ho
  intro a ha
  obtain ⟨N, hN⟩ : ∃ N, N = 18446744073709551616 := ⟨_, rfl⟩
  have hxN := hx
  unfold loopO at hxN
  rw [← hN] at hxN
  refine wpIn_mono (key N h0 L w (fun σh hi => head (hk.lk _) (Ext.refl _ _) hx0 (Frame.refl _ _) hi) hxN a ha) (fun e a' w' he => ?_)
  cases e with
  | goto q =>
    have he2 : (if q = l then Jm N a' w' else Qx (.goto q) a' w') := he
    split at he2
    · rename_i hq
      rw [hq]
      exact hJ2 _ _ _ he2
    · exact he2
  | _ => exact he

theorem cps_ok [I : Rd] : ∀ (c : Code) (an : An) {ρ : Type} {σ : S D} {k : Out → S D → Option ρ} {r : ρ} {γ : Gh D} {w : World} {L : List (Nat × Value)} {Qx : Exit → Act → World → Prop}, okC c = true → (I.ro = none ∨ noScp c = true) → Lb P c Qx → cps T Φ c an σ k = some r → (∀ t ∈ writes c, I.okt n t = true) → Kn σ γ w L →
    (∀ o σ' γ' w' L', Kn σ' γ' w' L' → Frame γ w γ' w' → Ext (writes c) σ σ' → k o σ' = some r → NK n (Qx (toX o)) L' w') → CW P n c Qx L w := by
  intro c
  induction c with
  | skip =>
    intro an ρ σ k r γ w L Qx hN hI hL h hd hk hc
    simp only [cps] at h
    exact CW.skip (hc .normal σ γ w L hk (Frame.refl _ _) (Ext.refl _ _) h)
  | region id ops draw =>
    intro an ρ σ k r γ w L Qx hN hI hL h hd hk hc
    simp only [cps] at h
    refine wrap_ok hR h hk (X := fun o L' w' => NK n (Qx (toX o)) L' w') ?_ hc
    intro ρ' σ' k' r' hb hk' hx
    exact region_ok hP hR hΦ hm hb hd hk' fun σ1 γ1 w1 L1 m1 m2 m3 m4 => hx .normal σ1 γ1 w1 L1 m1 m2 m3 m4
  | seq a b iha ihb =>
    intro an ρ σ k r γ w L Qx hN hI hL h hd hk hc
    have hIa : I.ro = none ∨ noScp a = true := hI.imp (fun h => h) fun h => by simp only [noScp, Bool.and_eq_true] at h; exact h.1
    have hIb : I.ro = none ∨ noScp b = true := hI.imp (fun h => h) fun h => by simp only [noScp, Bool.and_eq_true] at h; exact h.2
    simp only [cps] at h
    unfold okC at hN
    have hda : ∀ t ∈ writes a, t ∈ writes (.seq a b) := fun t ht => by simp only [writes]; exact List.mem_append.2 (.inl ht)
    have hdb : ∀ t ∈ writes b, t ∈ writes (.seq a b) := fun t ht => by simp only [writes]; exact List.mem_append.2 (.inr ht)
    split at h
    · rename_i x hx0
      unfold lblQ at hx0
      split at hx0
      case h_2 => cases hx0
      rename_i l j pr E x' hl
      cases hx0
      obtain ⟨Jm, hJ1, hJ2⟩ := hL l b (by unfold spineL; rw [hl])
      rw [hl] at hN
      simp only [Bool.and_eq_true] at hN
      obtain rfl := isLab_some hl
      have hcb : CW P n b Qx L w := by
        refine label_ok hP hR hΦ hm hJ1 hJ2 h hk ?_ (fun o σ1 γ1 w1 L1 m1 m2 m3 m4 => ?_)
        · intro ρ' σ' k' r' γ' w' L' Q' hb hk' hx
          obtain ⟨σ0, hf0, hb⟩ := frzK_R hb
          obtain ⟨γ0, z1, z2, z3⟩ := frz_ok hf0 hk'
          refine ihb _ hN.2 hIb (Lb.none hN.1) hb (fun t ht => hd t (hdb t ht)) z1 fun o σ1 γ1 w1 L1 m1 m2 m3 m4 => ?_
          have := hx (swO l o) σ1 γ1 w1 L1 m1 (z2.trans m2) (z3.frz.trans m3) m4
          rwa [swO_swO] at this
        · have := hc (swO l o) σ1 γ1 w1 L1 m1 m2 (m3.mono hdb) m4
          exact this
      refine CW.seq fun K hK => ?_
      exact fun a' ha' => wpIn_label (hK _ _ hcb a' ha')
    cases hl : isLab a with
    | some l =>
      exfalso
      obtain rfl := isLab_some hl
      refine wrap_ok hR h hk (X := fun _ _ _ => True) (fun hb _ _ => ?_) (fun _ _ _ _ _ _ _ _ _ => trivial)
      obtain ⟨σ0, _, hb⟩ := frzK_R hb
      simp [cps] at hb
    | none =>
    rw [hl] at hN
    simp only [Bool.and_eq_true] at hN
    have hLb : Lb P b Qx := fun l b' hs => hL l b' (by unfold spineL; rw [hl]; exact hs)
    refine wrap_ok hR h hk (X := fun o L' w' => NK n (Qx (toX o)) L' w') ?_ hc
    intro ρ' σ' k' r' hb hk' hx
    have hda' : ∀ t ∈ writes a, t ∈ writes (.seq a b) := fun t ht => by simp only [writes]; exact List.mem_append.2 (.inl ht)
    refine CW.seq fun K hK => ?_
    obtain ⟨σ0, hf0, hb⟩ := frzK_R hb
    obtain ⟨γ0, z1, z2, z3⟩ := frz_ok hf0 hk'
    refine iha _ hN.1.2 hIa (Lb.none hN.1.1) hb (fun t ht => hd t (hda t ht)) z1 fun o σ1 γ1 w1 L1 m1 m2 m3 m4 => ?_
    have m3 := (z3.frz).trans (m3.mono hda)
    have m2 := z2.trans m2
    cases o with
    | normal =>
      refine hK _ _ ?_
      obtain ⟨σ5, hf5, m4⟩ := frzK_R m4
      obtain ⟨γ5, y1, y2, y3⟩ := frz_ok hf5 m1
      refine ihb _ hN.2 hIb hLb m4 (fun t ht => hd t (hdb t ht)) y1 fun o σ2 γ2 w2 L2 n1 n2 n3 n4 => ?_
      exact hx o σ2 γ2 w2 L2 n1 (m2.trans (y2.trans n2)) (m3.trans (y3.frz.trans (n3.mono hdb))) n4
    | exit id => exact hx (.exit id) σ1 γ1 w1 L1 m1 m2 m3 m4
    | goto l => exact hx (.goto l) σ1 γ1 w1 L1 m1 m2 m3 m4
    | ret => exact hx .ret σ1 γ1 w1 L1 m1 m2 m3 m4
  | cond x a b iha ihb =>
    intro an ρ σ k r γ w L Qx hN hI hL h hd hk hc
    have hIa : I.ro = none ∨ noScp a = true := hI.imp (fun h => h) fun h => by simp only [noScp, Bool.and_eq_true] at h; exact h.1
    have hIb : I.ro = none ∨ noScp b = true := hI.imp (fun h => h) fun h => by simp only [noScp, Bool.and_eq_true] at h; exact h.2
    simp only [cps] at h
    refine wrap_ok hR h hk (X := fun o L' w' => NK n (Qx (toX o)) L' w') ?_ hc
    intro ρ' σ' k' r' hb hk' hx
    have hda : ∀ t ∈ writes a, t ∈ writes (.cond x a b) := fun t ht => by simp only [writes]; exact List.mem_append.2 (.inl ht)
    have hdb : ∀ t ∈ writes b, t ∈ writes (.cond x a b) := fun t ht => by simp only [writes]; exact List.mem_append.2 (.inr ht)
    unfold okC at hN
    simp only [Bool.and_eq_true] at hN
    split at hb
    case h_2 => cases hb
    rename_i d K g hev
    obtain ⟨v, h1, h2⟩ := evO_ok hk'.sr hev
    have h2 : v = .bool d := h2.1
    subst h2
    intro a' ha'
    refine wpIn_cond_split (ha'.ev h1) (fun hdt => ?_) (fun hdf => ?_)
    · subst hdt
      obtain ⟨σ0, hf0, hb⟩ := frzK_R hb
      obtain ⟨γ0, z1, z2, z3⟩ := frz_ok hf0 hk'
      refine iha _ hN.1.2 hIa (Lb.none hN.1.1.1) hb (fun t ht => hd t (hda t ht)) z1 (fun o σ1 γ1 w1 L1 m1 m2 m3 m4 => hx o σ1 γ1 w1 L1 m1 (z2.trans m2) (z3.frz.trans (m3.mono hda)) m4) a' ha'
    · subst hdf
      obtain ⟨σ0, hf0, hb⟩ := frzK_R hb
      obtain ⟨γ0, z1, z2, z3⟩ := frz_ok hf0 hk'
      refine ihb _ hN.2 hIb (Lb.none hN.1.1.2) hb (fun t ht => hd t (hdb t ht)) z1 (fun o σ1 γ1 w1 L1 m1 m2 m3 m4 => hx o σ1 γ1 w1 L1 m1 (z2.trans m2) (z3.frz.trans (m3.mono hdb)) m4) a' ha'
  | block id a iha =>
    intro an ρ σ k r γ w L Qx hN hI hL h hd hk hc
    have hIa : I.ro = none ∨ noScp a = true := hI.imp (fun h => h) fun h => by simp only [noScp] at h; exact h
    simp only [cps] at h
    refine wrap_ok hR h hk (X := fun o L' w' => NK n (Qx (toX o)) L' w') ?_ hc
    intro ρ' σ' k' r' hb hk' hx
    refine CW.block ?_
    unfold okC at hN
    simp only [Bool.and_eq_true] at hN
    obtain ⟨σ0, hf0, hb⟩ := frzK_R hb
    obtain ⟨γ0, z1, z2, z3⟩ := frz_ok hf0 hk'
    refine iha _ hN.2 hIa (Lb.none hN.1) hb hd z1 fun o σ1 γ1 w1 L1 m1 m2 m3 m4 => ?_
    have m2 := z2.trans m2
    have m3 := z3.frz.trans m3
    cases o with
    | normal => exact hx .normal σ1 γ1 w1 L1 m1 m2 m3 m4
    | exit id' =>
      dsimp only at m4
      intro a' ha'
      show (if id' = id then Qx .normal a' w1 else Qx (.exit id') a' w1)
      cases hb : Nat.beq id' id with
      | true =>
        rw [hb] at m4
        rw [if_pos (Nat.eq_of_beq_eq_true hb)]
        exact hx .normal σ1 γ1 w1 L1 m1 m2 m3 m4 a' ha'
      | false =>
        rw [hb] at m4
        have hne : ¬ id' = id := fun e => by subst e; simp at hb
        rw [if_neg hne]
        exact hx (.exit id') σ1 γ1 w1 L1 m1 m2 m3 m4 a' ha'
    | goto l => exact hx (.goto l) σ1 γ1 w1 L1 m1 m2 m3 m4
    | ret => exact hx .ret σ1 γ1 w1 L1 m1 m2 m3 m4
  | loop a iha =>
    intro an ρ σ k r γ w L Qx hN hI hL h hd hk hc
    have hIa : I.ro = none ∨ noScp a = true := hI.imp (fun h => h) fun h => by simp only [noScp] at h; exact h
    cases an with
    | loop j pr E x =>
      simp only [cps] at h
      unfold okC at hN
      simp only [Bool.and_eq_true] at hN
      refine loop_ok hP hR hΦ hm h hk ?_ hc
      intro ρ' σ' k' r' γ' w' L' Q' hb hk' hx
      obtain ⟨σ0, hf0, hb⟩ := frzK_R hb
      obtain ⟨γ0, z1, z2, z3⟩ := frz_ok hf0 hk'
      exact iha x.un hN.2 hIa (Lb.none hN.1) hb hd z1 fun o σ1 γ1 w1 L1 m1 m2 m3 m4 => hx o σ1 γ1 w1 L1 m1 (z2.trans m2) (z3.frz.trans m3) m4
    | _ => simp [cps] at h
  | exit id =>
    intro an ρ σ k r γ w L Qx hN hI hL h hd hk hc
    simp only [cps] at h
    exact CW.exit (hc (.exit id) σ γ w L hk (Frame.refl _ _) (Ext.refl _ _) h)
  | ret =>
    intro an ρ σ k r γ w L Qx hN hI hL h hd hk hc
    simp only [cps] at h
    have := hc .ret σ γ w L hk (Frame.refl _ _) (Ext.refl _ _) h
    exact fun a ha => wpIn_ret (this a ha)
  | rangeFunc => intro an ρ σ k r γ w L Qx hN hI hL h; simp [cps] at h
  | scope a iha =>
    intro an ρ σ k r γ w L Qx hN hI hL h hd hk hc
    have hI0 : I.ro = none := hI.resolve_right fun h => by simp [noScp] at h
    have hIa : I.ro = none ∨ noScp a = true := .inl hI0
    simp only [cps] at h
    unfold okC at hN
    refine wrap_ok hR h hk (X := fun o L' w' => NK n (Qx (toX o)) L' w') ?_ hc
    intro ρ' σ' k' r' hb hk' hx
    obtain ⟨σ0, hf0, hb⟩ := frzK_R hb
    obtain ⟨γ0, z1, z2, z3⟩ := frz_ok hf0 hk'
    cases hs : spineL a with
    | none =>
      intro a' ha'
      refine scope_straight hI0 (iha _ hN hIa (Lb.none (by unfold noSp; rw [hs]; rfl)) hb hd z1 (fun o σ1 γ1 w1 L1 m1 m2 m3 m4 => ?_) a' ha')
      have m2 := z2.trans m2
      have m3 := z3.frz.trans m3
      cases o with
      | normal => exact hx .normal σ1 γ1 w1 L1 m1 m2 m3 m4
      | exit id => exact hx (.exit id) σ1 γ1 w1 L1 m1 m2 m3 m4
      | goto l => cases m4
      | ret => exact hx .ret σ1 γ1 w1 L1 m1 m2 m3 m4
    | some q =>
      obtain ⟨l, b⟩ := q
      obtain ⟨rest, hf, hrest⟩ := spine_find (P := P) a hs hN
      intro a' ha'
      refine scope_any hI0 hf (iha _ hN hIa (fun l' b' hs' => ?_) hb hd z1 (fun o σ1 γ1 w1 L1 m1 m2 m3 m4 => ?_) a' ha')
      · rw [hs] at hs'
        cases hs'
        refine ⟨jmpN P rest l Qx, fun m a w h => hrest _ _ _ (wpIn_mono h (fun e a' w' he => ?_)), fun m a w h => ⟨rfl, m, h⟩⟩
        cases e with
        | goto q =>
          have he : (if q = l then jmpN P rest l Qx m a' w' else (q = l ∧ ∃ m, jmpN P rest l Qx m a' w')) := he
          split at he
          · rename_i hq; exact ⟨hq, he⟩
          · rename_i hq; exact (hq he.1).elim
        | _ => exact he
      · have m2 := z2.trans m2
        have m3 := z3.frz.trans m3
        cases o with
        | normal => exact hx .normal σ1 γ1 w1 L1 m1 m2 m3 m4
        | exit id => exact hx (.exit id) σ1 γ1 w1 L1 m1 m2 m3 m4
        | goto l => cases m4
        | ret => exact hx .ret σ1 γ1 w1 L1 m1 m2 m3 m4
  | label => intro an ρ σ k r γ w L Qx hN hI hL h; simp [cps] at h
  | goto l =>
    intro an ρ σ k r γ w L Qx hN hI hL h hd hk hc
    simp only [cps] at h
    have := hc (.goto l) σ γ w L hk (Frame.refl _ _) (Ext.refl _ _) h
    exact fun a ha => wpIn_goto (this a ha)
  | refuse => intro an ρ σ k r γ w L Qx hN hI hL h; simp [cps] at h

end

/-! functions -/
theorem run_loadR {t : TypeId} {a : Bool} {z : List Value} {pa : Addr} {cs : List Value} {w : World} (hT : TyR P t a z) (hz : a = false → z.length = 1) (hc : CellsAt w pa cs) (hl : cs.length = z.length) : (loadVar t pa).run P w = .ok (pack a cs) w := by
  simp only [loadVar, Sem.run_bind, hT.isAgg, Result.andThen_ok]
  cases a with
  | true =>
    have := run_loadCells_list (P := P) w pa cs hc
    rw [hl] at this
    simp [hT.sizeOf, this, pack]
  | false =>
    rw [hz rfl] at hl
    match cs, hl, hc with
    | [u], _, hc =>
      have := hc 0 u rfl
      have hu : w.cell? pa = some u := by simpa [Addr.add] using this
      simp [pack, hu]
theorem resQ_ok (hP : POk P T) {σ : S D} {γ : Gh D} {w : World} {L : List (Nat × Value)} (hk : Kn σ γ w L) : ∀ {rs : List ResultVar} {l : List Nat} {avs : List (AV D)}, Q.R σ.ob (resQ T σ.sl rs) l avs → ∃ vs, ResAll P L w rs vs ∧ VRVs (fun i => i < σ.nx) γ w avs vs
  | [], l, avs, h => by
    obtain ⟨_, rfl⟩ := h
    exact ⟨[], trivial, trivial⟩
  | .tmp t :: rs, l, avs, h => by
    simp only [resQ] at h
    split at h
    case h_2 => exact (h : False).elim
    rename_i a ha
    obtain ⟨l1, l2, bs, _, h1, h2⟩ := Q.R_bind h
    obtain ⟨_, rfl⟩ := h2
    obtain ⟨v, k1, k2⟩ := hk.sr t a ha
    obtain ⟨vs, k3, k4⟩ := resQ_ok hP hk h1
    exact ⟨v :: vs, ⟨k1, k3⟩, k2, k4⟩
  | .cell t ty :: rs, l, avs, h => by
    simp only [resQ] at h
    split at h
    case h_2 => exact (h : False).elim
    rename_i i off tyd ha ht
    obtain ⟨ao, l', ho, rfl, h⟩ := h
    cases ao with
    | sl => exact (h : False).elim
    | kid => exact (h : False).elim
    | kidh => exact (h : False).elim
    | fz => exact (h : False).elim
    | mp => exact (h : False).elim
    | box cs =>
      dsimp only at h
      split at h
      case h_2 => exact (h : False).elim
      rename_i a hcut
      obtain ⟨l1, l2, bs, _, h1, h2⟩ := Q.R_bind h
      obtain ⟨_, rfl⟩ := h2
      obtain ⟨v, k1, _, b, hg, rfl⟩ := hk.sr t _ ha
      obtain ⟨_, _, b', us, t', m1, m2, m3, m4, m5⟩ := hk.ob.ob i _ ho
      rw [hg] at m1
      obtain ⟨rfl, _⟩ := ptrV_inj m1
      obtain ⟨n1, n2⟩ := cutA_ok m4 hcut
      obtain ⟨vs, k3, k4⟩ := resQ_ok hP hk h1
      have hT := (hP.ty ty tyd ht).1
      have hrun := run_loadR (w := w) hT (zcells_one T tyd) (cells_at m3 off (tyd.n T)) (by rw [zcells_len]; simp; omega)
      exact ⟨_ :: vs, ⟨⟨_, k1, hrun⟩, k3⟩, n2, k4⟩
theorem argS_ok {U : Nat → Prop} {γ : Gh D} {w : World} : ∀ {as : List (AC D)} {vs : List Value} {k : Nat}, VRCs U γ w as vs → SR U γ w (argS k as) (argsL k vs)
  | [], [], k, _ => fun t a h => by simp [argS, lookN] at h
  | a :: as, v :: vs, k, h => SR.cons (argS_ok h.2) h.1
  | [], _ :: _, k, h => h.elim
  | _ :: _, [], k, h => h.elim

def rhoR (m : M D) (x : Nat) : Nat := match lookN (swap m.ids) x with
  | some p => p
  | none => if memN m.ku x then 1 else if x < 4 then x else 2
theorem ret_ok (hP : POk P T) (hR : RepOk T) {σ : S D} {γ : Gh D} {w : World} {L : List (Nat × Value)} {c : Con D} {rs : List ResultVar} {r : HH D c.outs} (hk : Kn σ γ w L) (hbp : ∀ q ∈ c.ob', 1000 ≤ q.1) (hs : ∀ q ∈ c.ob, q.1 < 2000) (h : retK.fin T c rs σ = some r) :
    ∃ vs, ResAll P L w rs vs ∧ ∃ γ' rs' obs', inCs T (ofHH T c.outs r) some id 3000 c.res = some rs' ∧ inOs T (ofHH T c.outs r) some id 3000 c.ob' = some obs' ∧ VRR (fun _ => True) γ' w rs' (resVal vs) ∧ (∀ p x, lookO obs' p = some x → OR (fun _ => True) γ' w p x) ∧
      (∀ p, (p, p) ∈ stay c → γ'.g p = γ.g p) ∧ Frame0 γ w γ' w := by
  unfold retK.fin at h
  obtain ⟨l, avs, h1, h2⟩ := Q.go_R h
  obtain ⟨l', x, h3, h4⟩ := Q.go_R h2
  obtain ⟨hh, m⟩ := x
  dsimp only at h4
  split at h4
  case h_2 => cases h4
  rename_i rs' obs' hrs hobs
  have h4 := Option.some.inj h4
  subst h4
  obtain ⟨vs, k1, k2⟩ := resQ_ok hP hk h1
  obtain ⟨⟨hex, hidU⟩, hgen⟩ := exQ_ok hR hk.ob h3 k2
  dsimp only at hex hidU hgen
  have hnone : ∀ x, (∀ p, (p, x) ∉ m.ids) → lookN (swap m.ids) x = none := fun x hn => by
    cases hl : lookN (swap m.ids) x with
    | none => rfl
    | some p => exact (hn p (swap_mem.1 (lookN_mem hl))).elim
  have hrho_low : ∀ x, x < 4 → rhoR m x = x := fun x hx => by
    unfold rhoR
    rw [hnone x fun p hp => by have := hex.idb p x hp; omega]
    have h1 : memN m.ku x = false := by
      cases hm : memN m.ku x with
      | true => have := (hex.ku x (memN_iff.1 hm)).1; omega
      | false => rfl
    simp only [h1, Bool.false_eq_true, if_false]
    rw [if_pos hx]
  have hrho_ku : ∀ x, x ∈ m.ku → rhoR m x = 1 := fun x hx => by
    unfold rhoR
    rw [hnone x (hex.ku x hx).2]
    simp only [memN_iff.2 hx, if_true]
  have hbigp : ∀ p i, (p, i) ∈ m.ids → rhoR m i = p := fun p i hp => by
    unfold rhoR
    rw [look_swap hex.ids hp]
  have hFin : Fin T (fun i => i < σ.nx) (fun _ => True) γ ⟨fun b => rhoR m (γ.o b), gOf γ m, nms γ.v 3000 (ofHH T c.outs hh)⟩ w m (ofHH T c.outs hh) 3000 := by
    refine ⟨hex.dv, fun p i hp => ⟨trivial, gOf_new hex hp⟩, fun i x hx => ?_, fun _ p _ hxb _ => ?_, fun K Kp hmay hK hkr b hb => ?_, fun q K Kp hq hmay hK hkr b hb => ?_, fun i d hd => .inr ⟨trivial, nms_at hd⟩⟩
    · have := (hex.new _ hx).1
      simp only at this
      show ¬ i < σ.nx
      omega
    · rw [hex.xb_] at hxb
      omega
    · unfold M.may at hmay
      rw [hex.call_] at hmay
      simp only [Bool.false_eq_true, if_false, subB, List.all_eq_true] at hmay
      have hb : γ.o b ∈ K := hb
      show rhoR m (γ.o b) ∈ Kp
      rw [hrho_low _ (by have := hK _ hb; omega)]
      exact memN_iff.1 (hmay _ hb)
    · unfold M.may at hmay
      rw [hex.call_] at hmay
      simp only [Bool.false_eq_true, if_false, subB, List.all_eq_true] at hmay
      have hb : γ.o b ∈ q :: K := hb
      show rhoR m (γ.o b) ∈ Kp
      rcases List.mem_cons.1 hb with hb | hb
      · rw [hb, hrho_ku q hq]
        exact memN_iff.1 (hmay 1 (by simp))
      · rw [hrho_low _ (by have := hK _ hb; omega)]
        exact memN_iff.1 (hmay _ (by simp [hb]))
  have hFinO : FinO γ ⟨fun b => rhoR m (γ.o b), gOf γ m, nms γ.v 3000 (ofHH T c.outs hh)⟩ m := ⟨fun p i hp b hb => by
    show rhoR m (γ.o b) = p
    rw [hb]
    exact hbigp p i hp⟩
  obtain ⟨g1, g2⟩ := hgen hFin hFinO
  have hvr := g1 rs' hrs
  refine ⟨vs, k1, _, rs', obs', hrs, hobs, ?_, fun p x hx => (g2 obs' hobs p x hx).2.2, fun p hp => ?_, ⟨rfl, rfl, rfl, Nat.le_refl _, fun b hb hc => ⟨hrho_low _ (by omega), rfl⟩, fun b hb hc => ⟨hb, ?_⟩⟩⟩
  · unfold VRR
    match rs', vs, hvr with
    | [], [], _ => exact ⟨[], rfl, trivial⟩
    | [a], [v], hvr => exact hvr.1
    | a :: a' :: as, v :: v' :: vs, hvr => exact ⟨v :: v' :: vs, rfl, hvr⟩
    | [], _ :: _, hvr => exact hvr.elim
    | _ :: _, [], hvr => exact hvr.elim
    | [a], v :: v' :: vs, hvr => exact hvr.2.elim
    | a :: a' :: as, [v], hvr => exact hvr.2.elim
  · have hmem := hex.ids0_ _ hp
    refine (gOf_new hex hmem).2 fun x hx => ?_
    have h5 := (hex.new _ hx).1
    simp only at h5
    have hpb : p < 2000 := by
      unfold stay at hp
      obtain ⟨q, hq, e⟩ := List.mem_map.1 hp
      cases e
      obtain ⟨q', hq'⟩ := memN_map (List.mem_filter.1 hq).2
      exact hs (q.1, q') hq'
    have := hk.big
    omega
  · show γ.o b = rhoR m (γ.o b)
    have hc : rhoR m (γ.o b) = 0 ∨ rhoR m (γ.o b) = 3 := hc
    have hmk : ∀ p i, (p, i) ∈ m.ids → 1000 ≤ p := fun p i hp => by
      obtain ⟨q, hq⟩ := memN_map (hex.key p i hp)
      exact hbp (p, q) hq
    unfold rhoR at hc ⊢
    cases hl : lookN (swap m.ids) (γ.o b) with
    | some p =>
      rw [hl] at hc
      have := hmk p _ (swap_mem.1 (lookN_mem hl))
      dsimp only at hc
      omega
    | none =>
      rw [hl] at hc
      dsimp only at hc ⊢
      split at hc
      · omega
      · split at hc
        · rename_i h5 h6
          simp only [h5, h6, if_true, if_false]
          simp
        · omega

theorem VRCs.len {U : Nat → Prop} {γ : Gh D} {w : World} : ∀ {as : List (AC D)} {vs : List Value}, VRCs U γ w as vs → vs.length = as.length
  | [], [], _ => rfl
  | _ :: as, _ :: vs, h => by simp [VRCs.len h.2]
  | [], _ :: _, h => h.elim
  | _ :: _, [], h => h.elim
/-- a function -/
theorem fn_ok (hP : POk P T) (hR : RepOk T) (hΦ : ∀ c ∈ Φ, ConOk P T c) (hm : P.follows .mixedOrders = true) {c : Con D} {fn : Func} {code : Code} {rs : List ResultVar} {an : An}
    (hent : ∀ (args : Array Value) (w : World), (callFunc c.f args).run P w = .ok (.enter c.f args) w)
    (hf : P.funcs[c.f]? = some fn) (hb : fn.body = some code) (hrs : fn.results = rs.toArray)
    (hst : ((writes code).all (fun t => Nat.blt t fn.ntmps) && Nat.ble c.args.length fn.ntmps && ksOk c.res c.ob' && nodupB (c.ob'.map Prod.fst) && c.ob'.all (fun p => Nat.ble 1000 p.1) && Nat.ble c.ob'.length 40) = true)
    (hfn : ∀ h, sem T Φ c rs code an h = c.fn h) : ConOk P T c := by
  simp only [Bool.and_eq_true] at hst
  obtain ⟨⟨⟨⟨⟨hw, hl⟩, hks⟩, hkey⟩, hbig⟩, hfew⟩ := hst
  refine ⟨hent, hks, hkey, hbig, hfew, fun h r hr as obs has hobs γ w vs hv hob => ?_⟩
  rw [← hfn] at hr
  unfold sem at hr
  split at hr
  case h_2 => cases hr
  rename_i hok
  simp only [Bool.and_eq_true] at hok
  split at hr
  case h_2 => cases hr
  rename_i σ hσ
  unfold entS at hσ
  dsimp only at hσ
  split at hσ
  case isFalse => cases hσ
  rename_i hc
  rw [has, hobs] at hσ
  have hσ := Option.some.inj hσ
  subst hσ
  simp only [Bool.and_eq_true, List.all_eq_true] at hc hbig hw
  have hsr := argS_ok (k := 0) hv
  have hlen := hv.len
  have hlen2 := inCs_len has
  refine enter hf hb rfl (by rw [hlen, hlen2]; exact hl) ?_
  obtain ⟨σ0, hf0, hr⟩ := frzK_R hr
  obtain ⟨γ0, z1, z2, z3⟩ := frz_ok hf0 (γ := γ) ⟨hsr, hob, Nat.le_refl _⟩
  refine cps_ok hP hR hΦ hm code an.un hok.2 (.inl rfl) (Lb.none hok.1) hr (fun t ht => by unfold Rd.okt; rw [hw t ht]; rfl) z1 fun o σ' γ' w' L' hk' hfr hext ho => ?_
  have hfr := z2.trans hfr
  have fin : ∀ {σ'}, Kn σ' γ' w' L' → retK.fin T c rs σ' = some r → ∃ vs, ResAll P L' w' rs vs ∧ Ret (fun v w' => ∃ U' γ' rs obs', inCs T (ofHH T c.outs r) some id 3000 c.res = some rs ∧ inOs T (ofHH T c.outs r) some id 3000 c.ob' = some obs' ∧
      VRR U' γ' w' rs v ∧ (∀ p x, lookO obs' p = some x → OR U' γ' w' p x) ∧ (∀ p, (p, p) ∈ stay c → γ'.g p = γ.g p) ∧ Frame0 γ w γ' w') (.returned (resVal vs)) w' := by
    intro σ' hk' ho
    obtain ⟨vs, h1, γ2, rs', obs', h2, h3, h4, h5, h6, h7⟩ := ret_ok hP hR hk' (fun q hq => Nat.le_of_ble_eq_true (hbig q hq)) (fun q hq => by
      have := Nat.le_of_ble_eq_true (hc.2 q hq).2
      omega) ho
    refine ⟨vs, h1, _, rfl, _, γ2, rs', obs', h2, h3, h4, h5, fun p hp => ?_, hfr.toFrame0.trans h7⟩
    rw [h6 p hp]
    refine hfr.gk p ?_
    unfold stay at hp
    obtain ⟨q, hq, e⟩ := List.mem_map.1 hp
    cases e
    obtain ⟨q', hq'⟩ := memN_map (List.mem_filter.1 hq).2
    have := Nat.le_of_ble_eq_true (hc.2 _ hq').2
    simp only at this
    omega
  cases o with
  | normal =>
    obtain ⟨vs, h1, h2⟩ := fin hk' ho
    exact fun a ha => bodyPost_end (results_all (fun _ _ hx => ha.ev hx) hrs h1) ha.defers h2
  | ret =>
    obtain ⟨vs, h1, h2⟩ := fin hk' ho
    exact fun a ha => bodyPost_ret (results_all (fun _ _ hx => ha.ev hx) hrs h1) ha.defers h2
  | exit id => cases ho
  | goto l => cases ho
end
end Rx
end Go.Proofs.Ytkgfdplcjdidhaa
