/- Joints: what is known behind one. Nothing here names a program. -/
import Derived.Test.YtdfkfohpgakihaaRj
set_option linter.unusedVariables false
set_option linter.unusedSimpArgs false
set_option linter.unusedSectionVars false
namespace Go.Proofs.Ytdfkfohpgakihaa
open Go Go.RowKit Dp

namespace Rx

section
variable {D : Nat → Type} [∀ n, Rep (D n)]
variable {T : Tab D} {U0 U1 U2 : Nat → Prop} {γ0 γ γ1 γ2 : Gh D} {w0 w w1 : World}

/-- what is known, numbers below σ.nx in use -/
structure Kn (σ : S D) (γ : Gh D) (w : World) (L : List (Nat × Value)) : Prop where
  sr : SR (fun i => i < σ.nx) γ w σ.sl L
  ob : OB (fun i => i < σ.nx) γ w σ.ob
  big : 2000 ≤ σ.nx
/-- what a piece of code leaves of what was known -/
structure Ext (wr : List Nat) (σ σ' : S D) : Prop where
  sl : ∀ t, t ∉ wr → lookN σ'.sl t = lookN σ.sl t
  lk : σ'.lk = σ.lk
  ob : ∀ i ∈ σ.lk, lookN σ'.ob i = lookN σ.ob i
  nx : σ.nx ≤ σ'.nx
theorem Ext.refl (wr : List Nat) (σ : S D) : Ext wr σ σ := ⟨fun _ _ => rfl, rfl, fun _ _ => rfl, Nat.le_refl _⟩
theorem Ext.trans {wr : List Nat} {σ σ1 σ2 : S D} (h : Ext wr σ σ1) (k : Ext wr σ1 σ2) : Ext wr σ σ2 :=
  ⟨fun t ht => (k.sl t ht).trans (h.sl t ht), k.lk.trans h.lk, fun i hi => (k.ob i (by rw [h.lk]; exact hi)).trans (h.ob i hi), Nat.le_trans h.nx k.nx⟩
theorem Ext.mono {wr wr' : List Nat} {σ σ1 : S D} (h : Ext wr σ σ1) (hs : ∀ t ∈ wr, t ∈ wr') : Ext wr' σ σ1 := ⟨fun t ht => h.sl t fun hm => ht (hs t hm), h.lk, h.ob, h.nx⟩

/-! values that were known before: the same under new numbers for other blocks -/
structure Two (U0 U1 U2 : Nat → Prop) (γ1 γ2 : Gh D) : Prop where
  u : ∀ i, U0 i → U2 i ∧ γ2.g i = γ1.g i ∧ γ2.v i = γ1.v i
  ro : ∀ b, γ1.o b < 2 → γ2.o b = γ1.o b
section
variable (t : Two U0 U1 U2 γ1 γ2)
include t
theorem Two.mem {K : List Nat} (hK : roK K) : ∀ b, In γ1.o K b → b < w.heap.size → In γ2.o K b ∧ w.heap[b]? = w.heap[b]? := fun b hb _ => by
  refine ⟨?_, rfl⟩
  unfold In at hb ⊢
  rw [t.ro b (hK _ hb)]
  exact hb
theorem named.two {g : Nat} {d : DV D} (h1 : named U1 γ1 g d) (h0 : named U0 γ0 g d) : named U2 γ2 g d := by
  rcases h0 with h0 | ⟨h0, _⟩
  · exact .inl h0
  · rcases h1 with h1 | ⟨_, h1⟩
    · exact .inl h1
    · obtain ⟨k1, _, k3⟩ := t.u _ h0
      exact .inr ⟨k1, by rw [k3]; exact h1⟩
theorem VR0.two : ∀ {a : A0 D} {v v0 : Value}, VR0 U1 γ1 w a v → VR0 U0 γ0 w0 a v0 → VR0 U2 γ2 w a v
  | .ptr i off, v, v0, ⟨_, b, h1, h2⟩, ⟨h0, _⟩ => by
    obtain ⟨k1, k2, _⟩ := t.u i h0
    exact ⟨k1, b, by rw [k2]; exact h1, h2⟩
  | .rp n x off K, v, v0, ⟨pa, h1, h2, h3⟩, _ => ⟨pa, h1, h2.mono (t.mem h3), h3⟩
theorem VR0s.two : ∀ {as : List (A0 D)} {vs vs0 : List Value}, VR0s U1 γ1 w as vs → VR0s U0 γ0 w0 as vs0 → VR0s U2 γ2 w as vs
  | [], [], _, _, _ => trivial
  | a :: as, v :: vs, v0 :: vs0, h, h0 => ⟨VR0.two t h.1 h0.1, VR0s.two h.2 h0.2⟩
  | a :: as, v :: vs, [], _, h0 => h0.elim
  | [], _ :: _, _, h, _ => h.elim
  | _ :: _, [], _, h, _ => h.elim
theorem VR1.two : ∀ {a : A1 D} {v v0 : Value}, VR1 U1 γ1 w a v → VR1 U0 γ0 w0 a v0 → VR1 U2 γ2 w a v
  | .v l d K g, v, v0, ⟨h1, h2, h3⟩, h0 => ⟨h1.mono (t.mem h3), named.two t h2 h0.2.1, h3⟩
  | .ptr i off, v, v0, ⟨_, b, h1, h2⟩, ⟨h0, _⟩ => by
    obtain ⟨k1, k2, _⟩ := t.u i h0
    exact ⟨k1, b, by rw [k2]; exact h1, h2⟩
  | .el i n j y off tc tj, v, v0, ⟨h1, h2, ⟨xs, h3, h4⟩, h5, b, len, cap, h6, h7⟩, ⟨k1, k2, _, k5, _⟩ => by
    obtain ⟨m1, m2, _⟩ := t.u i k1
    obtain ⟨n1, _, n3⟩ := t.u tc k2.2
    exact ⟨m1, ⟨h2.1, n1⟩, ⟨xs, by rw [n3]; exact h3, h4⟩, named.two t h5 k5, b, len, cap, by rw [m2]; exact h6, h7⟩
  | .rp n x off K, v, v0, ⟨pa, h1, h2, h3⟩, _ => ⟨pa, h1, h2.mono (t.mem h3), h3⟩
  | .own i, v, v0, ⟨_, h1, h2⟩, ⟨h0, _⟩ => by
    obtain ⟨k1, k2, _⟩ := t.u i h0
    exact ⟨k1, by rw [k2]; exact h1, h2⟩
  | .fn f caps, v, v0, ⟨cs, h1, h2⟩, ⟨cs0, _, h0⟩ => ⟨cs, h1, VR0s.two t h2 h0⟩
  | .ch i n j off ct m d, v, v0, ⟨h1, h2, ⟨xs, y, h3, h4⟩, ⟨b, len, cap, cells, h5, h6, h7⟩, h8⟩, ⟨k1, k2, _⟩ => by
    obtain ⟨m1, m2, _⟩ := t.u i k1
    obtain ⟨n1, n2, n3⟩ := t.u ct k2.2
    exact ⟨m1, ⟨h2.1, n1⟩, ⟨xs, y, by rw [n3]; exact h3, h4⟩, ⟨b, len, cap, cells, by rw [m2]; exact h5, by rw [n2]; exact h6, h7⟩, h8⟩
  | .cha i s, v, v0, ⟨h1, h2, h3, h4⟩, ⟨k1, k2, _⟩ => by
    obtain ⟨m1, _, _⟩ := t.u i k1
    obtain ⟨n1, n2, _⟩ := t.u s k2
    exact ⟨m1, n1, by rw [n2]; exact h3, h4⟩
  | .tail i n j, v, v0, ⟨h1, h2⟩, ⟨k1, _⟩ => by
    obtain ⟨m1, m2, _⟩ := t.u i k1
    exact ⟨m1, by rw [m2]; exact h2⟩
  | .nils, v, v0, h, _ => h
  | .nilp, v, v0, h, _ => h
  | .nilf, v, v0, h, _ => h
  | .undef, v, v0, h, _ => h
  | .unk, v, v0, h, _ => h
theorem VR1s.two : ∀ {as : List (A1 D)} {vs vs0 : List Value}, VR1s U1 γ1 w as vs → VR1s U0 γ0 w0 as vs0 → VR1s U2 γ2 w as vs
  | [], [], _, _, _ => trivial
  | a :: as, v :: vs, v0 :: vs0, h, h0 => ⟨VR1.two t h.1 h0.1, VR1s.two h.2 h0.2⟩
  | a :: as, v :: vs, [], _, h0 => h0.elim
  | [], _ :: _, _, h, _ => h.elim
  | _ :: _, [], _, h, _ => h.elim
theorem VRC.two : ∀ {a : AC D} {v v0 : Value}, VRC U1 γ1 w a v → VRC U0 γ0 w0 a v0 → VRC U2 γ2 w a v
  | .one a, v, v0, h, h0 => VR1.two t h h0
  | .agg l, v, v0, ⟨us, h1, h2⟩, ⟨us0, _, h0⟩ => ⟨us, h1, VR1s.two t h2 h0⟩
theorem VRCs.two : ∀ {as : List (AC D)} {vs vs0 : List Value}, VRCs U1 γ1 w as vs → VRCs U0 γ0 w0 as vs0 → VRCs U2 γ2 w as vs
  | [], [], _, _, _ => trivial
  | a :: as, v :: vs, v0 :: vs0, h, h0 => ⟨VRC.two t h.1 h0.1, VRCs.two h.2 h0.2⟩
  | a :: as, v :: vs, [], _, h0 => h0.elim
  | [], _ :: _, _, h, _ => h.elim
  | _ :: _, [], _, h, _ => h.elim
theorem VRV.two : ∀ {a : AV D} {v v0 : Value}, VRV U1 γ1 w a v → VRV U0 γ0 w0 a v0 → VRV U2 γ2 w a v
  | .c x, v, v0, h, h0 => VRC.two t h h0
  | .tup l, v, v0, ⟨us, h1, h2⟩, ⟨us0, _, h0⟩ => ⟨us, h1, VRCs.two t h2 h0⟩
theorem OR.two {i : Nat} (hi : U0 i) (hc : ∀ b, γ1.o b = i → γ2.o b = i) : ∀ {x : AO D}, OR U1 γ1 w i x → OR U0 γ0 w0 i x → OR U2 γ2 w i x
  | .box cs, ⟨b, us, ty, h1, h2, h3, h4, h5⟩, ⟨_, us0, _, _, _, _, h0, _⟩ => by
    obtain ⟨k1, k2, _⟩ := t.u i hi
    exact ⟨b, us, ty, by rw [k2]; exact h1, hc b h2, h3, VR1s.two t h4 h0, h5⟩
  | .sl n ty xs K g, ⟨h1, h2, h3⟩, ⟨_, _, h0⟩ => by
    obtain ⟨k1, k2, _⟩ := t.u i hi
    refine ⟨?_, h2, named.two t h3 h0⟩
    rw [k2]
    rcases h1 with h1 | ⟨g, cap, cur, css, e1, e2, e3, e4, e5, e6, e7, e8⟩
    · exact .inl h1
    · exact .inr ⟨g, cap, cur, css, e1, hc g e2, e3, e4, e5, e6, e7.mono fun _ _ => Rep.mono (t.mem h2), e8⟩
  | .kid n ty tc q xs g h, ⟨h1, h2, h3⟩, ⟨_, h02, h03⟩ => by
    obtain ⟨k1, k2, _⟩ := t.u i hi
    obtain ⟨m0, m1⟩ := kcls_mono (v := γ1.g i) (o := γ1.o) (o' := γ2.o) (i := i) (i' := i) (w := w) (w' := w) fun b _ hb => ⟨hc b hb, rfl⟩
    refine ⟨by rw [k2]; exact h1.mono m0 m1, named.two t h2 h02, ?_⟩
    rcases h03 with h03 | ⟨h03, _⟩
    · exact .inl h03
    · rcases h3 with h3 | ⟨_, h4, h5⟩
      · exact .inl h3
      · obtain ⟨n1, n2, n3⟩ := t.u h h03
        exact .inr ⟨n1, by rw [n3]; exact h4, h5.mono k2 n2 fun _ _ _ _ => rfl⟩
  | .kidh n ty tc q xs j off s g, ⟨h1, h2, b, len, cap, h3, h4⟩, ⟨h01, h02, _⟩ => by
    obtain ⟨k1, k2, _⟩ := t.u i hi
    obtain ⟨n1, n2, _⟩ := t.u s h02
    obtain ⟨m0, m1⟩ := kcls_mono (v := γ1.g i) (o := γ1.o) (o' := γ2.o) (i := i) (i' := i) (w := w) (w' := w) fun b _ hb => ⟨hc b hb, rfl⟩
    exact ⟨named.two t h1 h01, n1, b, len, cap, by rw [k2]; exact h3, by rw [k2, n2]; exact h4.mono m0 m1⟩
end

/-! lists by number -/
theorem lookN_filter {α : Type} {f : Nat → Bool} : ∀ {l : List (Nat × α)} {t : Nat}, lookN (l.filter fun p => f p.1) t = if f t then lookN l t else none
  | [], t => by simp [lookN]
  | p :: r, t => by
    have ih := lookN_filter (f := f) (l := r) (t := t)
    simp only [List.filter_cons, lookN]
    cases hb : Nat.beq p.1 t with
    | true =>
      have := Nat.eq_of_beq_eq_true hb
      subst this
      cases hf : f p.1 with
      | true => simp [lookN]
      | false => simp [ih, hf]
    | false =>
      cases hf : f p.1 with
      | true => simp [lookN, hb, ih]
      | false => simp [ih]
theorem avsOf_ok {U : Nat → Prop} {sl : List (Nat × AV D)} {L : List (Nat × Value)} (hs : SR U γ w sl L) : ∀ {js : List (Nat × PC)} {avs : List (AV D)}, avsOf sl js = some avs → ∃ vs, VRVs U γ w avs vs ∧ js.length = vs.length ∧ ∀ (k t : Nat) (v : Value), (js.map Prod.fst)[k]? = some t → vs[k]? = some v → Dp.look L t = some v
  | [], avs, h => by
    cases h
    exact ⟨[], trivial, rfl, by simp⟩
  | (t, p) :: js, avs, h => by
    simp only [avsOf] at h
    split at h
    case h_2 => cases h
    rename_i a b g1 g2
    cases h
    obtain ⟨v, h1, h2⟩ := hs t a g1
    obtain ⟨vs, k1, k2, k3⟩ := avsOf_ok hs g2
    refine ⟨v :: vs, ⟨h2, k1⟩, by simp [k2], fun k t' v' ht hv => ?_⟩
    cases k with
    | zero => cases ht; cases hv; exact h1
    | succ k => exact k3 k t' v' (by simpa using ht) (by simpa using hv)
theorem zipS_look {U : Nat → Prop} {L : List (Nat × Value)} : ∀ {ts : List Nat} {as : List (AC D)} {vs : List Value} {t : Nat} {a : AV D}, VRCs U γ w as vs → (∀ (k t : Nat) (v : Value), ts[k]? = some t → vs[k]? = some v → Dp.look L t = some v) → lookN (inSl.zipS ts as) t = some a → ∃ v, Dp.look L t = some v ∧ VRV U γ w a v
  | [], as, vs, t, a, _, _, h => by simp [inSl.zipS, lookN] at h
  | t0 :: ts, [], vs, t, a, _, _, h => by simp [inSl.zipS, lookN] at h
  | t0 :: ts, a0 :: as, vs, t, a, hv, hl, h => by
    cases vs with
    | nil => exact hv.elim
    | cons v vs =>
      simp only [inSl.zipS, lookN] at h
      cases hb : Nat.beq t0 t with
      | true =>
        have := Nat.eq_of_beq_eq_true hb
        subst this
        simp only [hb, cond_true, Option.some.injEq] at h
        subst h
        exact ⟨v, hl 0 _ _ rfl rfl, hv.1⟩
      | false =>
        simp only [hb, cond_false] at h
        exact zipS_look hv.2 (fun k t v ht hv => hl (k + 1) t v (by simpa using ht) (by simpa using hv)) h
theorem zipS_keys : ∀ {ts : List Nat} {as : List (AC D)} {t : Nat} {a : AV D}, lookN (inSl.zipS ts as) t = some a → t ∈ ts
  | [], as, t, a, h => by simp [inSl.zipS, lookN] at h
  | t0 :: ts, [], t, a, h => by simp [inSl.zipS, lookN] at h
  | t0 :: ts, a0 :: as, t, a, h => by
    simp only [inSl.zipS, lookN] at h
    cases hb : Nat.beq t0 t with
    | true =>
      have := Nat.eq_of_beq_eq_true hb
      subst this
      simp
    | false =>
      simp only [hb, cond_false] at h
      exact List.mem_cons_of_mem _ (zipS_keys h)
theorem disjB_ok {a b : List Nat} (h : disjB a b = true) {x : Nat} (hx : x ∈ a) : x ∉ b := by
  have := List.all_eq_true.1 h x hx
  simp only [Bool.not_eq_true'] at this
  exact memN_false this

def rhoJ (m : M D) (keep : List Nat) (N : Nat) (x : Nat) : Nat := match lookN (swap m.ids) x with
  | some p => p
  | none => if memN m.ku x then 1 else if memN keep x && Nat.blt x N then x else if x < 4 then x else 2

/-- what a joint finds -/
structure ExR (T : Tab D) (j : J) (σ : S D) (h : HH D j.hts) : Prop where
  ex : ∃ avs l m, avsOf σ.sl j.sl = some avs ∧ Q.R σ.ob (exQ T false j.nx j.hts (j.sl.map Prod.snd) j.ob j.old σ.nx avs) l (h, m) ∧ disjB (m.ids.map Prod.snd) σ.lk = true ∧ disjB m.ku σ.lk = true
theorem exJ_R {ρ : Type} {j : J} {σ : S D} {k : HH D j.hts → Option ρ} {r : ρ} (h : exJ T j σ k = some r) : ∃ x, ExR T j σ x ∧ k x = some r := by
  unfold exJ at h
  split at h
  case h_2 => cases h
  rename_i avs ha
  obtain ⟨l, x, h1, h2⟩ := Q.go_R h
  split at h2
  case isFalse => cases h2
  rename_i hc
  simp only [Bool.and_eq_true] at hc
  obtain ⟨h, m⟩ := x
  exact ⟨h, ⟨avs, l, m, ha, h1, hc.1, hc.2⟩, h2⟩

theorem join_ok (hR : RepOk T) {σ σ1 σ2 : S D} {L L1 : List (Nat × Value)} {wr mv : List Nat} {j : J} {h : HH D j.hts} {lk : List Nat} (hlk : lk = (kept σ mv).map Prod.fst ++ σ.lk)
    (hk : Kn σ γ w L) (hk1 : Kn σ1 γ1 w1 L1) (he : Ext wr { σ with lk := lk } σ1) (hx : ExR T j σ1 h) (hi : inJ T j wr mv σ h = some σ2) :
    ∃ γ2, Kn σ2 γ2 w1 L1 ∧ Frame γ1 w1 γ2 w1 ∧ Ext wr { σ with lk := lk } { σ2 with lk := lk } ∧ σ2.lk = σ.lk := by
  obtain ⟨avs, l, m, ha, hq, hd1, hd2⟩ := hx.ex
  obtain ⟨vs, hvs, hlen, hlook⟩ := avsOf_ok hk1.sr ha
  obtain ⟨⟨hex, hidU⟩, hgen⟩ := exQ_ok hR hk1.ob hq hvs
  unfold inJ at hi
  split at hi
  case isFalse => cases hi
  rename_i hc
  simp only [Bool.and_eq_true, List.all_eq_true, Bool.not_eq_true'] at hc
  obtain ⟨⟨⟨hnx, hpo⟩, hjs⟩, hmv⟩ := hc
  have hnx := Nat.le_of_ble_eq_true hnx
  dsimp only at hi hex hidU hgen
  split at hi
  case h_2 => cases hi
  rename_i sa sb hsa hsb
  cases hi
  have hlk1 : σ1.lk = lk := he.lk
  rw [hlk1] at hd1 hd2
  have hpoid : ∀ p i, (p, i) ∈ m.ids → p < j.nx ∧ (σ.nx ≤ p ∨ p = i) ∧ p ∉ lk := fun p i hp => by
    obtain ⟨q, hq⟩ := memN_map (hex.key p i hp)
    obtain ⟨⟨k1, k2⟩, k3⟩ := hpo _ hq
    refine ⟨Nat.le_of_ble_eq_true k1, ?_, by rw [hlk]; exact memN_false k3⟩
    rw [Bool.or_eq_true] at k2
    rcases k2 with k2 | k2
    · exact .inl (Nat.le_of_ble_eq_true k2)
    · exact .inr (hex.idf p p i (hex.ids0_ _ (List.mem_map.2 ⟨_, List.mem_filter.2 ⟨hq, k2⟩, rfl⟩)) hp)
  have hkeep : ∀ i, i ∈ (kept σ mv).map Prod.fst → (∀ p, (p, i) ∉ m.ids) ∧ i ∉ m.ku ∧ i ∈ lk := fun i hi => by
    have hil : i ∈ lk := by rw [hlk]; exact List.mem_append.2 (.inl hi)
    exact ⟨fun p hp => disjB_ok hd1 (List.mem_map.2 ⟨_, hp, rfl⟩) hil, fun hu => disjB_ok hd2 hu hil, hil⟩
  obtain ⟨γ2, hγ2⟩ : ∃ γ2 : Gh D, γ2 = ⟨fun b => rhoJ m ((kept σ mv).map Prod.fst) σ.nx (γ1.o b), gOf γ1 m, nms γ1.v j.nx (ofHH T j.hts h)⟩ := ⟨_, rfl⟩
  have hrho_id : ∀ p i, (p, i) ∈ m.ids → rhoJ m ((kept σ mv).map Prod.fst) σ.nx i = p := fun p i hp => by
    unfold rhoJ
    rw [look_swap hex.ids hp]
  have hnone : ∀ x, (∀ p, (p, x) ∉ m.ids) → lookN (swap m.ids) x = none := fun x hn => by
    cases hl : lookN (swap m.ids) x with
    | none => rfl
    | some p => exact (hn p (swap_mem.1 (lookN_mem hl))).elim
  have hrho_keep : ∀ i, i ∈ (kept σ mv).map Prod.fst → i < σ.nx → rhoJ m ((kept σ mv).map Prod.fst) σ.nx i = i := fun i hi hin => by
    obtain ⟨k1, k2, _⟩ := hkeep i hi
    unfold rhoJ
    rw [hnone i k1]
    have h1 : memN m.ku i = false := by
      cases hm : memN m.ku i with
      | true => exact (k2 (memN_iff.1 hm)).elim
      | false => rfl
    have h2 : Nat.blt i σ.nx = true := Nat.ble_eq_true_of_le hin
    simp only [h1, Bool.false_eq_true, if_false, memN_iff.2 hi, h2, Bool.and_self, if_true]
  have hrho_low : ∀ x, x < 4 → rhoJ m ((kept σ mv).map Prod.fst) σ.nx x = x := fun x hx => by
    unfold rhoJ
    rw [hnone x fun p hp => by have := hex.idb p x hp; omega]
    have h1 : memN m.ku x = false := by
      cases hm : memN m.ku x with
      | true => have := (hex.ku x (memN_iff.1 hm)).1; omega
      | false => rfl
    simp only [h1, Bool.false_eq_true, if_false]
    split
    · rfl
    · first | rfl | rw [if_pos hx]
  have hrho_ku : ∀ x, x ∈ m.ku → rhoJ m ((kept σ mv).map Prod.fst) σ.nx x = 1 := fun x hx => by
    unfold rhoJ
    rw [hnone x (hex.ku x hx).2]
    simp only [memN_iff.2 hx, if_true]
  have hrho_or : ∀ x, (∃ p, (p, x) ∈ m.ids ∧ rhoJ m ((kept σ mv).map Prod.fst) σ.nx x = p) ∨ rhoJ m ((kept σ mv).map Prod.fst) σ.nx x = 1 ∨ (rhoJ m ((kept σ mv).map Prod.fst) σ.nx x = x ∧ (x < σ.nx ∨ x < 4)) ∨ rhoJ m ((kept σ mv).map Prod.fst) σ.nx x = 2 := fun x => by
    unfold rhoJ
    cases hl : lookN (swap m.ids) x with
    | some p => exact .inl ⟨p, swap_mem.1 (lookN_mem hl), rfl⟩
    | none =>
      right
      dsimp only
      split
      · exact .inl rfl
      · split
        · rename_i hm
          simp only [Bool.and_eq_true] at hm
          exact .inr (.inl ⟨rfl, .inl (Nat.le_of_ble_eq_true hm.2)⟩)
        · split
          · rename_i hm
            exact .inr (.inl ⟨rfl, .inr hm⟩)
          · exact .inr (.inr rfl)
  have hFin : Fin T (fun i => i < σ1.nx) (fun i => i < j.nx + (ofHH T j.hts h).length) γ1 γ2 w1 m (ofHH T j.hts h) j.nx := by
    subst hγ2
    refine ⟨hex.dv, fun p i hp => ⟨?_, gOf_new hex hp⟩, fun i x hx => ?_, fun _ p hp hxb hU => ⟨?_, ?_⟩, fun K Kp hmay hK hkr b hb => ?_, fun q K Kp hq hmay hK hkr b hb => ?_, fun i d hd => ?_⟩
    · have := hpoid p i hp
      show p < j.nx + _
      omega
    · have := (hex.new _ hx).1
      simp only at this
      show ¬ i < σ1.nx
      omega
    · rw [hex.xb_] at hxb
      show p < j.nx + _
      omega
    · show gOf γ1 m p = γ1.g p
      unfold gOf
      cases hl : lookN m.ids p with
      | none => rfl
      | some i =>
        have := hex.key p i (lookN_mem hl)
        rw [hex.po_] at hp
        rw [hp] at this
        cases this
    · unfold M.may at hmay
      rw [hex.call_] at hmay
      simp only [Bool.false_eq_true, if_false, subB, List.all_eq_true] at hmay
      have hb : γ1.o b ∈ K := hb
      show rhoJ m _ _ (γ1.o b) ∈ Kp
      rw [hrho_low _ (by have := hK _ hb; omega)]
      exact memN_iff.1 (hmay _ hb)
    · unfold M.may at hmay
      rw [hex.call_] at hmay
      simp only [Bool.false_eq_true, if_false, subB, List.all_eq_true] at hmay
      have hb : γ1.o b ∈ q :: K := hb
      show rhoJ m _ _ (γ1.o b) ∈ Kp
      rcases List.mem_cons.1 hb with hb | hb
      · rw [hb, hrho_ku q hq]
        exact memN_iff.1 (hmay 1 (by simp))
      · rw [hrho_low _ (by have := hK _ hb; omega)]
        exact memN_iff.1 (hmay _ (by simp [hb]))
    · refine .inr ⟨?_, nms_at hd⟩
      have := (List.getElem?_eq_some_iff.1 hd).1
      show j.nx + i < _
      omega
  have hFinO : FinO γ1 γ2 m := ⟨fun p i hp b hb => by
    subst hγ2
    show rhoJ m _ _ (γ1.o b) = p
    rw [hb]
    exact hrho_id p i hp⟩
  obtain ⟨g1, g2⟩ := hgen hFin hFinO
  have htwo : Two (fun i => i < σ.nx) (fun i => i < σ1.nx) (fun i => i < j.nx + (ofHH T j.hts h).length) γ1 γ2 := by
    subst hγ2
    refine ⟨fun i hi => ⟨?_, ?_, ?_⟩, fun b hb => hrho_low _ (by omega)⟩
    · show i < _
      have hi : i < σ.nx := hi
      omega
    · show gOf γ1 m i = γ1.g i
      unfold gOf
      cases hl : lookN m.ids i with
      | none => rfl
      | some x =>
        have hi : i < σ.nx := hi
        rcases (hpoid i x (lookN_mem hl)).2.1 with h1 | rfl
        · omega
        · have hnn : lookN m.new i = none := by
            cases hn : lookN m.new i with
            | none => rfl
            | some y =>
              have := (hex.new _ (lookN_mem hn)).1
              have := he.nx
              simp only at *
              omega
          simp only [hnn]
    · exact nms_old (.inl (by have hi : i < σ.nx := hi; omega))
  have hro2 : ∀ b, γ1.o b < 4 → γ2.o b = γ1.o b := fun b hb => by subst hγ2; exact hrho_low _ hb
  refine ⟨γ2, ⟨fun t a hta => ?_, ⟨fun i x hix => ?_, fun b hb => ?_, fun x hx => ?_⟩, ?_⟩, ⟨⟨rfl, rfl, rfl, Nat.le_refl _, fun b hb hc => ⟨hro2 b (by omega), rfl⟩, fun b hb hc => ⟨hb, ?_⟩⟩, fun i hi => (htwo.u i (by have := hk.big; show i < σ.nx; omega)).2.1⟩, ⟨fun t ht => ?_, rfl, fun i hi => ?_, ?_⟩, rfl⟩
  · -- slots
    rw [lookN_append] at hta
    unfold inSl at hsa
    split at hsa
    case h_2 => cases hsa
    rename_i as' has'
    cases hsa
    cases hl : lookN (inSl.zipS (j.sl.map Prod.fst) as') t with
    | some a' =>
      rw [hl] at hta
      cases hta
      exact zipS_look (g1 as' has') hlook hl
    | none =>
      rw [hl] at hta
      dsimp only at hta
      rw [lookN_filter (f := fun t => !(memN wr t))] at hta
      split at hta
      case isFalse => cases hta
      rename_i hnw
      have hnw : t ∉ wr := memN_false (by simpa using hnw)
      have h1 : lookN σ1.sl t = some a := (he.sl t hnw).trans hta
      obtain ⟨v, k1, k2⟩ := hk1.sr t a h1
      obtain ⟨v0, _, k3⟩ := hk.sr t a hta
      exact ⟨v, k1, VRV.two htwo k2 k3⟩
  · -- blocks
    unfold lookO at hix
    rw [lookN_append] at hix
    cases hl : lookN sb i with
    | some y =>
      rw [hl] at hix
      cases y with
      | none => cases hix
      | some y =>
        cases hix
        obtain ⟨k1, k2, k3⟩ := g2 sb hsb i x (by unfold lookO; rw [hl])
        obtain ⟨q, hq⟩ := memN_map k1
        obtain ⟨⟨_, k4⟩, _⟩ := hpo _ hq
        have := hk.big
        refine ⟨?_, k2, k3⟩
        rw [Bool.or_eq_true] at k4
        rcases k4 with k4 | k4
        · have := Nat.le_of_ble_eq_true k4
          simp only at *
          omega
        · exact hex.idb i i (hex.ids0_ _ (List.mem_map.2 ⟨_, List.mem_filter.2 ⟨hq, k4⟩, rfl⟩))
    | none =>
      rw [hl] at hix
      dsimp only at hix
      have hkl : lookO σ.ob i = some x ∧ i ∈ (kept σ mv).map Prod.fst := by
        unfold kept at hix ⊢
        rw [lookN_filter (f := fun t => !(memN mv t))] at hix
        by_cases hm : (!memN mv i) = true
        · rw [if_pos hm] at hix
          refine ⟨hix, ?_⟩
          cases hl2 : lookN σ.ob i with
          | none => rw [hl2] at hix; cases hix
          | some y => exact List.mem_map.2 ⟨(i, y), List.mem_filter.2 ⟨lookN_mem hl2, hm⟩, rfl⟩
        · rw [if_neg hm] at hix; cases hix
      obtain ⟨hl1, hkm⟩ := hkl
      have h1 : lookO σ1.ob i = some x := by
        have := he.ob i (by show i ∈ lk; exact (hkeep i hkm).2.2)
        unfold lookO at hl1 ⊢
        rw [this]
        exact hl1
      obtain ⟨k1, k2, k3⟩ := hk1.ob.ob i x h1
      obtain ⟨_, m2, m3⟩ := hk.ob.ob i x hl1
      refine ⟨k1, (htwo.u i m2).1, OR.two htwo m2 (fun b hb => ?_) k3 m3⟩
      subst hγ2
      show rhoJ m _ _ (γ1.o b) = i
      rw [hb]
      exact hrho_keep i hkm m2
  · -- owners
    show γ2.o b < j.nx + _
    subst hγ2
    show rhoJ m _ _ (γ1.o b) < _
    have := hk.big
    rcases hrho_or (γ1.o b) with ⟨p, h1, h2⟩ | h1 | ⟨h1, h2⟩ | h1
    · have := hpoid p _ h1; omega
    · omega
    · rw [h1]
      omega
    · omega
  · show x < j.nx + _
    have := hk.big
    omega
  · show 2000 ≤ j.nx + _
    have := hk.big
    omega
  · -- back
    subst hγ2
    show γ1.o b = rhoJ m _ _ (γ1.o b)
    have hc : rhoJ m ((kept σ mv).map Prod.fst) σ.nx (γ1.o b) = 0 ∨ rhoJ m ((kept σ mv).map Prod.fst) σ.nx (γ1.o b) = 3 := hc
    have := hk.big
    rcases hrho_or (γ1.o b) with ⟨p, h1, h2⟩ | h1 | ⟨h1, h2⟩ | h1
    · have := hpoid p _ h1; omega
    · omega
    · exact h1.symm
    · omega
  · -- slots that are not written
    show lookN (sa ++ _) t = _
    rw [lookN_append]
    have : lookN sa t = none := by
      unfold inSl at hsa
      split at hsa
      case h_2 => cases hsa
      cases hsa
      cases hl : lookN (inSl.zipS (j.sl.map Prod.fst) _) t with
      | none => rfl
      | some a =>
        have := zipS_keys hl
        simp only [List.mem_map] at this
        obtain ⟨q, hq, rfl⟩ := this
        exact (ht (memN_iff.1 (hjs _ hq))).elim
    rw [this]
    dsimp only
    rw [lookN_filter (f := fun t => !(memN wr t))]
    rw [if_pos]
    cases hm : memN wr t with
    | true => exact (ht (memN_iff.1 hm)).elim
    | false => rfl
  · -- locked blocks
    show lookN (sb ++ kept σ mv) i = _
    rw [lookN_append]
    have : lookN sb i = none := by
      cases hl : lookN sb i with
      | none => rfl
      | some y =>
        obtain ⟨p, q, y', k1, k2, _⟩ := inOs_get hsb hl
        cases k2
        obtain ⟨⟨_, _⟩, k3⟩ := hpo _ k1
        have hi' : i ∈ lk := hi
        rw [hlk] at hi'
        exact (memN_false k3 hi').elim
    rw [this]
    unfold kept
    dsimp only
    rw [lookN_filter (f := fun t => !(memN mv t)), if_pos]
    cases hm : memN mv i with
    | true =>
      have hi' : i ∈ lk := hi
      rw [hlk] at hi'
      rcases List.mem_append.1 hi' with hi' | hi'
      · unfold kept at hi'
        simp only [List.mem_map, List.mem_filter] at hi'
        obtain ⟨q, ⟨_, hq⟩, rfl⟩ := hi'
        rw [hm] at hq
        cases hq
      · exact (disjB_ok hmv (memN_iff.1 hm) hi').elim
    | false => rfl
  · show σ.nx ≤ j.nx + _
    omega
end
end Rx
end Go.Proofs.Ytdfkfohpgakihaa
