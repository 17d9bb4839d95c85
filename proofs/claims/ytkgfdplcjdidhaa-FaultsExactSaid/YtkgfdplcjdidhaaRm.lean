/- Joints: what is known behind one. Nothing here names a program. The code run with a continuation does what the code does: operations one by one, segments, joints. Nothing here names a program. The code run with a continuation does what the code does: joints, regions in the order of the text, code. Nothing here names a program. -/
import Derived.Test.YtkgfdplcjdidhaaRj
import Derived.Orders
set_option linter.unusedVariables false
set_option linter.unusedSimpArgs false
set_option linter.unusedSectionVars false
namespace Go.Proofs.Ytkgfdplcjdidhaa
open Go Go.RowKit Dp

namespace Rx

section
variable {D : Nat → Type} [∀ n, Rep (D n)]
variable {T : Tab D} {U0 U1 U2 : Nat → Prop} {γ0 γ γ1 γ2 : Gh D} {w0 w w1 : World}

/-- what is known, numbers below σ.nx in use -/
structure Kn (σ : S D) (γ : Gh D) (w : World) (L : List (Nat × Value)) : Prop where
  sr : SR (fun i => i < σ.nx) γ w σ.sl L
  ob : OB (fun i => i < σ.nx) γ w σ.ob
  big : 2000 ≤ σ.nx
/-- what a piece of code leaves of what was known -/
structure Ext (wr : List Nat) (σ σ' : S D) : Prop where
  sl : ∀ t, t ∉ wr → lookN σ'.sl t = lookN σ.sl t
  lk : σ'.lk = σ.lk
  ob : ∀ i ∈ σ.lk, lookN σ'.ob i = lookN σ.ob i
  nx : σ.nx ≤ σ'.nx
theorem Ext.refl (wr : List Nat) (σ : S D) : Ext wr σ σ := ⟨fun _ _ => rfl, rfl, fun _ _ => rfl, Nat.le_refl _⟩
theorem Ext.trans {wr : List Nat} {σ σ1 σ2 : S D} (h : Ext wr σ σ1) (k : Ext wr σ1 σ2) : Ext wr σ σ2 :=
  ⟨fun t ht => (k.sl t ht).trans (h.sl t ht), k.lk.trans h.lk, fun i hi => (k.ob i (by rw [h.lk]; exact hi)).trans (h.ob i hi), Nat.le_trans h.nx k.nx⟩
theorem Ext.mono {wr wr' : List Nat} {σ σ1 : S D} (h : Ext wr σ σ1) (hs : ∀ t ∈ wr, t ∈ wr') : Ext wr' σ σ1 := ⟨fun t ht => h.sl t fun hm => ht (hs t hm), h.lk, h.ob, h.nx⟩

/-! values that were known before: the same under new numbers for other blocks -/
structure Two (U0 U1 U2 : Nat → Prop) (γ1 γ2 : Gh D) : Prop where
  u : ∀ i, U0 i → U2 i ∧ γ2.g i = γ1.g i ∧ γ2.v i = γ1.v i
  ro : ∀ b, γ1.o b < 2 → γ2.o b = γ1.o b
section
variable (t : Two U0 U1 U2 γ1 γ2)
include t
theorem Two.mem {K : List Nat} (hK : roK K) : ∀ b, In γ1.o K b → b < w.heap.size → In γ2.o K b ∧ w.heap[b]? = w.heap[b]? := fun b hb _ => by
  refine ⟨?_, rfl⟩
  unfold In at hb ⊢
  rw [t.ro b (hK _ hb)]
  exact hb
theorem named.two {g : Nat} {d : DV D} (h1 : named U1 γ1 g d) (h0 : named U0 γ0 g d) : named U2 γ2 g d := by
  rcases h0 with h0 | ⟨h0, _⟩
  · exact .inl h0
  · rcases h1 with h1 | ⟨_, h1⟩
    · exact .inl h1
    · obtain ⟨k1, _, k3⟩ := t.u _ h0
      exact .inr ⟨k1, by rw [k3]; exact h1⟩
theorem VR0.two : ∀ {a : A0 D} {v v0 : Value}, VR0 U1 γ1 w a v → VR0 U0 γ0 w0 a v0 → VR0 U2 γ2 w a v
  | .ptr i off, v, v0, ⟨_, b, h1, h2⟩, ⟨h0, _⟩ => by
    obtain ⟨k1, k2, _⟩ := t.u i h0
    exact ⟨k1, b, by rw [k2]; exact h1, h2⟩
  | .rp n x off K, v, v0, ⟨pa, h1, h2, h3⟩, _ => ⟨pa, h1, h2.mono (t.mem h3), h3⟩
theorem VR0s.two : ∀ {as : List (A0 D)} {vs vs0 : List Value}, VR0s U1 γ1 w as vs → VR0s U0 γ0 w0 as vs0 → VR0s U2 γ2 w as vs
  | [], [], _, _, _ => trivial
  | a :: as, v :: vs, v0 :: vs0, h, h0 => ⟨VR0.two t h.1 h0.1, VR0s.two h.2 h0.2⟩
  | a :: as, v :: vs, [], _, h0 => h0.elim
  | [], _ :: _, _, h, _ => h.elim
  | _ :: _, [], _, h, _ => h.elim
theorem VR1.two : ∀ {a : A1 D} {v v0 : Value}, VR1 U1 γ1 w a v → VR1 U0 γ0 w0 a v0 → VR1 U2 γ2 w a v
  | .v l d K g, v, v0, ⟨h1, h2, h3⟩, h0 => ⟨h1.mono (t.mem h3), named.two t h2 h0.2.1, h3⟩
  | .ptr i off, v, v0, ⟨_, b, h1, h2⟩, ⟨h0, _⟩ => by
    obtain ⟨k1, k2, _⟩ := t.u i h0
    exact ⟨k1, b, by rw [k2]; exact h1, h2⟩
  | .el i n j y off tc tj, v, v0, ⟨h1, h2, ⟨xs, h3, h4⟩, h5, b, len, cap, h6, h7⟩, ⟨k1, k2, _, k5, _⟩ => by
    obtain ⟨m1, m2, _⟩ := t.u i k1
    obtain ⟨n1, _, n3⟩ := t.u tc k2.2
    exact ⟨m1, ⟨h2.1, n1⟩, ⟨xs, by rw [n3]; exact h3, h4⟩, named.two t h5 k5, b, len, cap, by rw [m2]; exact h6, h7⟩
  | .rp n x off K, v, v0, ⟨pa, h1, h2, h3⟩, _ => ⟨pa, h1, h2.mono (t.mem h3), h3⟩
  | .vb n xs K g b, v, v0, ⟨⟨h1, h2, h3⟩, h4⟩, h0 => ⟨⟨LfRd.mono (d := ⟨.sl n, xs⟩) (t.mem h3) h1, named.two t h2 h0.1.2.1, h3⟩, h4⟩
  | .own i, v, v0, ⟨_, h1, h2⟩, ⟨h0, _⟩ => by
    obtain ⟨k1, k2, _⟩ := t.u i h0
    exact ⟨k1, by rw [k2]; exact h1, h2⟩
  | .fn f caps, v, v0, ⟨cs, h1, h2⟩, ⟨cs0, _, h0⟩ => ⟨cs, h1, VR0s.two t h2 h0⟩
  | .ch i n j off ct m d, v, v0, ⟨h1, h2, ⟨xs, y, h3, h4⟩, ⟨b, len, cap, cells, h5, h6, h7⟩, h8⟩, ⟨k1, k2, _⟩ => by
    obtain ⟨m1, m2, _⟩ := t.u i k1
    obtain ⟨n1, n2, n3⟩ := t.u ct k2.2
    exact ⟨m1, ⟨h2.1, n1⟩, ⟨xs, y, by rw [n3]; exact h3, h4⟩, ⟨b, len, cap, cells, by rw [m2]; exact h5, by rw [n2]; exact h6, h7⟩, h8⟩
  | .cha i s, v, v0, ⟨h1, h2, h3, h4⟩, ⟨k1, k2, _⟩ => by
    obtain ⟨m1, _, _⟩ := t.u i k1
    obtain ⟨n1, n2, _⟩ := t.u s k2
    exact ⟨m1, n1, by rw [n2]; exact h3, h4⟩
  | .tail i n j, v, v0, ⟨h1, h2⟩, ⟨k1, _⟩ => by
    obtain ⟨m1, m2, _⟩ := t.u i k1
    exact ⟨m1, by rw [m2]; exact h2⟩
  | .pre i n j, v, v0, ⟨h1, h2⟩, ⟨k1, _⟩ => by
    obtain ⟨m1, m2, _⟩ := t.u i k1
    exact ⟨m1, by rw [m2]; exact h2⟩
  | .arr n xs K, v, v0, ⟨⟨css, h1, h2⟩, h3⟩, _ => ⟨⟨css, h1, h2.mono fun _ _ => Rep.mono (t.mem h3)⟩, h3⟩
  | .nils, v, v0, h, _ => h
  | .nilp, v, v0, h, _ => h
  | .nilf, v, v0, h, _ => h
  | .undef, v, v0, h, _ => h
  | .unk, v, v0, h, _ => h
  | .junk, v, v0, h, _ => h
theorem VR1s.two : ∀ {as : List (A1 D)} {vs vs0 : List Value}, VR1s U1 γ1 w as vs → VR1s U0 γ0 w0 as vs0 → VR1s U2 γ2 w as vs
  | [], [], _, _, _ => trivial
  | a :: as, v :: vs, v0 :: vs0, h, h0 => ⟨VR1.two t h.1 h0.1, VR1s.two h.2 h0.2⟩
  | a :: as, v :: vs, [], _, h0 => h0.elim
  | [], _ :: _, _, h, _ => h.elim
  | _ :: _, [], _, h, _ => h.elim
theorem VRC.two : ∀ {a : AC D} {v v0 : Value}, VRC U1 γ1 w a v → VRC U0 γ0 w0 a v0 → VRC U2 γ2 w a v
  | .one a, v, v0, h, h0 => VR1.two t h h0
  | .agg l, v, v0, ⟨us, h1, h2⟩, ⟨us0, _, h0⟩ => ⟨us, h1, VR1s.two t h2 h0⟩
theorem VRCs.two : ∀ {as : List (AC D)} {vs vs0 : List Value}, VRCs U1 γ1 w as vs → VRCs U0 γ0 w0 as vs0 → VRCs U2 γ2 w as vs
  | [], [], _, _, _ => trivial
  | a :: as, v :: vs, v0 :: vs0, h, h0 => ⟨VRC.two t h.1 h0.1, VRCs.two h.2 h0.2⟩
  | a :: as, v :: vs, [], _, h0 => h0.elim
  | [], _ :: _, _, h, _ => h.elim
  | _ :: _, [], _, h, _ => h.elim
theorem VRV.two : ∀ {a : AV D} {v v0 : Value}, VRV U1 γ1 w a v → VRV U0 γ0 w0 a v0 → VRV U2 γ2 w a v
  | .c x, v, v0, h, h0 => VRC.two t h h0
  | .tup l, v, v0, ⟨us, h1, h2⟩, ⟨us0, _, h0⟩ => ⟨us, h1, VRCs.two t h2 h0⟩
theorem OR.two {i : Nat} (hi : U0 i) (hc : ∀ b, γ1.o b = i → γ2.o b = i) : ∀ {x : AO D}, OR U1 γ1 w i x → OR U0 γ0 w0 i x → OR U2 γ2 w i x
  | .box cs, ⟨b, us, ty, h1, h2, h3, h4, h5⟩, ⟨_, us0, _, _, _, _, h0, _⟩ => by
    obtain ⟨k1, k2, _⟩ := t.u i hi
    exact ⟨b, us, ty, by rw [k2]; exact h1, hc b h2, h3, VR1s.two t h4 h0, h5⟩
  | .sl n ty xs K g, ⟨h1, h2, h3⟩, ⟨_, _, h0⟩ => by
    obtain ⟨k1, k2, _⟩ := t.u i hi
    refine ⟨?_, h2, named.two t h3 h0⟩
    rw [k2]
    rcases h1 with h1 | ⟨g, cap, cur, css, e1, e2, e3, e4, e5, e6, e7, e8⟩
    · exact .inl h1
    · exact .inr ⟨g, cap, cur, css, e1, hc g e2, e3, e4, e5, e6, e7.mono fun _ _ => Rep.mono (t.mem h2), e8⟩
  | .kid n ty tc q xs g h, ⟨h1, h2, h3⟩, ⟨_, h02, h03⟩ => by
    obtain ⟨k1, k2, _⟩ := t.u i hi
    obtain ⟨m0, m1⟩ := kcls_mono (v := γ1.g i) (o := γ1.o) (o' := γ2.o) (i := i) (i' := i) (w := w) (w' := w) fun b _ hb => ⟨hc b hb, rfl⟩
    refine ⟨by rw [k2]; exact h1.mono m0 m1, named.two t h2 h02, ?_⟩
    rcases h03 with h03 | ⟨h03, _⟩
    · exact .inl h03
    · rcases h3 with h3 | ⟨_, h4, h5⟩
      · exact .inl h3
      · obtain ⟨n1, n2, n3⟩ := t.u h h03
        exact .inr ⟨n1, by rw [n3]; exact h4, h5.mono k2 n2 fun _ _ _ _ => rfl⟩
  | .kidh n ty tc q xs j off s g, ⟨h1, h2, b, len, cap, h3, h4⟩, ⟨h01, h02, _⟩ => by
    obtain ⟨k1, k2, _⟩ := t.u i hi
    obtain ⟨n1, n2, _⟩ := t.u s h02
    obtain ⟨m0, m1⟩ := kcls_mono (v := γ1.g i) (o := γ1.o) (o' := γ2.o) (i := i) (i' := i) (w := w) (w' := w) fun b _ hb => ⟨hc b hb, rfl⟩
    exact ⟨named.two t h1 h01, n1, b, len, cap, by rw [k2]; exact h3, by rw [k2, n2]; exact h4.mono m0 m1⟩
  | .fz n xs K, ⟨h1, h2⟩, _ => by
    obtain ⟨k1, k2, _⟩ := t.u i hi
    exact ⟨by rw [k2]; exact LfRd.mono (d := ⟨.sl n, xs⟩) (t.mem h2) h1, h2⟩
  | .mp n xs, h, _ => by
    obtain ⟨k1, k2, _⟩ := t.u i hi
    show MpO γ2.o i w (γ2.g i) xs
    rw [k2]
    exact MpO.mono h fun b _ hb => ⟨hc b hb, rfl⟩
end

/-! lists by number -/
theorem lookN_filter {α : Type} {f : Nat → Bool} : ∀ {l : List (Nat × α)} {t : Nat}, lookN (l.filter fun p => f p.1) t = if f t then lookN l t else none
  | [], t => by simp [lookN]
  | p :: r, t => by
    have ih := lookN_filter (f := f) (l := r) (t := t)
    simp only [List.filter_cons, lookN]
    cases hb : Nat.beq p.1 t with
    | true =>
      have := Nat.eq_of_beq_eq_true hb
      subst this
      cases hf : f p.1 with
      | true => simp [lookN]
      | false => simp [ih, hf]
    | false =>
      cases hf : f p.1 with
      | true => simp [lookN, hb, ih]
      | false => simp [ih]
theorem avsOf_ok {U : Nat → Prop} {sl : List (Nat × AV D)} {L : List (Nat × Value)} (hs : SR U γ w sl L) : ∀ {js : List (Nat × PC)} {avs : List (AV D)}, avsOf sl js = some avs → ∃ vs, VRVs U γ w avs vs ∧ js.length = vs.length ∧ ∀ (k t : Nat) (v : Value), (js.map Prod.fst)[k]? = some t → vs[k]? = some v → Dp.look L t = some v
  | [], avs, h => by
    cases h
    exact ⟨[], trivial, rfl, by simp⟩
  | (t, p) :: js, avs, h => by
    simp only [avsOf] at h
    split at h
    case h_2 => cases h
    rename_i a b g1 g2
    cases h
    obtain ⟨v, h1, h2⟩ := hs t a g1
    obtain ⟨vs, k1, k2, k3⟩ := avsOf_ok hs g2
    refine ⟨v :: vs, ⟨h2, k1⟩, by simp [k2], fun k t' v' ht hv => ?_⟩
    cases k with
    | zero => cases ht; cases hv; exact h1
    | succ k => exact k3 k t' v' (by simpa using ht) (by simpa using hv)
theorem zipS_look {U : Nat → Prop} {L : List (Nat × Value)} : ∀ {ts : List Nat} {as : List (AC D)} {vs : List Value} {t : Nat} {a : AV D}, VRCs U γ w as vs → (∀ (k t : Nat) (v : Value), ts[k]? = some t → vs[k]? = some v → Dp.look L t = some v) → lookN (inSl.zipS ts as) t = some a → ∃ v, Dp.look L t = some v ∧ VRV U γ w a v
  | [], as, vs, t, a, _, _, h => by simp [inSl.zipS, lookN] at h
  | t0 :: ts, [], vs, t, a, _, _, h => by simp [inSl.zipS, lookN] at h
  | t0 :: ts, a0 :: as, vs, t, a, hv, hl, h => by
    cases vs with
    | nil => exact hv.elim
    | cons v vs =>
      simp only [inSl.zipS, lookN] at h
      cases hb : Nat.beq t0 t with
      | true =>
        have := Nat.eq_of_beq_eq_true hb
        subst this
        simp only [hb, cond_true, Option.some.injEq] at h
        subst h
        exact ⟨v, hl 0 _ _ rfl rfl, hv.1⟩
      | false =>
        simp only [hb, cond_false] at h
        exact zipS_look hv.2 (fun k t v ht hv => hl (k + 1) t v (by simpa using ht) (by simpa using hv)) h
theorem zipS_keys : ∀ {ts : List Nat} {as : List (AC D)} {t : Nat} {a : AV D}, lookN (inSl.zipS ts as) t = some a → t ∈ ts
  | [], as, t, a, h => by simp [inSl.zipS, lookN] at h
  | t0 :: ts, [], t, a, h => by simp [inSl.zipS, lookN] at h
  | t0 :: ts, a0 :: as, t, a, h => by
    simp only [inSl.zipS, lookN] at h
    cases hb : Nat.beq t0 t with
    | true =>
      have := Nat.eq_of_beq_eq_true hb
      subst this
      simp
    | false =>
      simp only [hb, cond_false] at h
      exact List.mem_cons_of_mem _ (zipS_keys h)
theorem disjB_ok {a b : List Nat} (h : disjB a b = true) {x : Nat} (hx : x ∈ a) : x ∉ b := by
  have := List.all_eq_true.1 h x hx
  simp only [Bool.not_eq_true'] at this
  exact memN_false this

def rhoJ (m : M D) (keep : List Nat) (N : Nat) (x : Nat) : Nat := match lookN (swap m.ids) x with
  | some p => p
  | none => if memN m.ku x then 1 else if memN keep x && Nat.blt x N then x else if x < 4 then x else 2

/-- what a joint finds -/
structure ExR (T : Tab D) (j : J) (σ : S D) (h : HH D j.hts) : Prop where
  ex : ∃ avs l m, avsOf σ.sl j.sl = some avs ∧ Q.R σ.ob (exQ T false j.nx j.hts (j.sl.map Prod.snd) j.ob j.old σ.nx avs) l (h, m) ∧ disjB (m.ids.map Prod.snd) σ.lk = true ∧ disjB m.ku σ.lk = true
theorem exJ_R {ρ : Type} {j : J} {σ : S D} {k : HH D j.hts → Option ρ} {r : ρ} (h : exJ T j σ k = some r) : ∃ x, ExR T j σ x ∧ k x = some r := by
  unfold exJ at h
  split at h
  case h_2 => cases h
  rename_i avs ha
  obtain ⟨l, x, h1, h2⟩ := Q.go_R h
  split at h2
  case isFalse => cases h2
  rename_i hc
  simp only [Bool.and_eq_true] at hc
  obtain ⟨h, m⟩ := x
  exact ⟨h, ⟨avs, l, m, ha, h1, hc.1, hc.2⟩, h2⟩

theorem join_ok (hR : RepOk T) {σ σ1 σ2 : S D} {L L1 : List (Nat × Value)} {wr mv : List Nat} {j : J} {h : HH D j.hts} {lk : List Nat} (hlk : lk = (kept σ mv).map Prod.fst ++ σ.lk)
    (hk : Kn σ γ w L) (hk1 : Kn σ1 γ1 w1 L1) (he : Ext wr { σ with lk := lk } σ1) (hx : ExR T j σ1 h) (hi : inJ T j wr mv σ h = some σ2) :
    ∃ γ2, Kn σ2 γ2 w1 L1 ∧ Frame γ1 w1 γ2 w1 ∧ Ext wr { σ with lk := lk } { σ2 with lk := lk } ∧ σ2.lk = σ.lk := by
  obtain ⟨avs, l, m, ha, hq, hd1, hd2⟩ := hx.ex
  obtain ⟨vs, hvs, hlen, hlook⟩ := avsOf_ok hk1.sr ha
  obtain ⟨⟨hex, hidU⟩, hgen⟩ := exQ_ok hR hk1.ob hq hvs
  unfold inJ at hi
  split at hi
  case isFalse => cases hi
  rename_i hc
  simp only [Bool.and_eq_true, List.all_eq_true, Bool.not_eq_true'] at hc
  obtain ⟨⟨⟨hnx, hpo⟩, hjs⟩, hmv⟩ := hc
  have hnx := Nat.le_of_ble_eq_true hnx
  dsimp only at hi hex hidU hgen
  split at hi
  case h_2 => cases hi
  rename_i sa sb hsa hsb
  cases hi
  have hlk1 : σ1.lk = lk := he.lk
  rw [hlk1] at hd1 hd2
  have hpoid : ∀ p i, (p, i) ∈ m.ids → p < j.nx ∧ (σ.nx ≤ p ∨ p = i) ∧ p ∉ lk := fun p i hp => by
    obtain ⟨q, hq⟩ := memN_map (hex.key p i hp)
    obtain ⟨⟨k1, k2⟩, k3⟩ := hpo _ hq
    refine ⟨Nat.le_of_ble_eq_true k1, ?_, by rw [hlk]; exact memN_false k3⟩
    rw [Bool.or_eq_true] at k2
    rcases k2 with k2 | k2
    · exact .inl (Nat.le_of_ble_eq_true k2)
    · exact .inr (hex.idf p p i (hex.ids0_ _ (List.mem_map.2 ⟨_, List.mem_filter.2 ⟨hq, k2⟩, rfl⟩)) hp)
  have hkeep : ∀ i, i ∈ (kept σ mv).map Prod.fst → (∀ p, (p, i) ∉ m.ids) ∧ i ∉ m.ku ∧ i ∈ lk := fun i hi => by
    have hil : i ∈ lk := by rw [hlk]; exact List.mem_append.2 (.inl hi)
    exact ⟨fun p hp => disjB_ok hd1 (List.mem_map.2 ⟨_, hp, rfl⟩) hil, fun hu => disjB_ok hd2 hu hil, hil⟩
  obtain ⟨γ2, hγ2⟩ : ∃ γ2 : Gh D, γ2 = ⟨fun b => rhoJ m ((kept σ mv).map Prod.fst) σ.nx (γ1.o b), gOf γ1 m, nms γ1.v j.nx (ofHH T j.hts h)⟩ := ⟨_, rfl⟩
  have hrho_id : ∀ p i, (p, i) ∈ m.ids → rhoJ m ((kept σ mv).map Prod.fst) σ.nx i = p := fun p i hp => by
    unfold rhoJ
    rw [look_swap hex.ids hp]
  have hnone : ∀ x, (∀ p, (p, x) ∉ m.ids) → lookN (swap m.ids) x = none := fun x hn => by
    cases hl : lookN (swap m.ids) x with
    | none => rfl
    | some p => exact (hn p (swap_mem.1 (lookN_mem hl))).elim
  have hrho_keep : ∀ i, i ∈ (kept σ mv).map Prod.fst → i < σ.nx → rhoJ m ((kept σ mv).map Prod.fst) σ.nx i = i := fun i hi hin => by
    obtain ⟨k1, k2, _⟩ := hkeep i hi
    unfold rhoJ
    rw [hnone i k1]
    have h1 : memN m.ku i = false := by
      cases hm : memN m.ku i with
      | true => exact (k2 (memN_iff.1 hm)).elim
      | false => rfl
    have h2 : Nat.blt i σ.nx = true := Nat.ble_eq_true_of_le hin
    simp only [h1, Bool.false_eq_true, if_false, memN_iff.2 hi, h2, Bool.and_self, if_true]
  have hrho_low : ∀ x, x < 4 → rhoJ m ((kept σ mv).map Prod.fst) σ.nx x = x := fun x hx => by
    unfold rhoJ
    rw [hnone x fun p hp => by have := hex.idb p x hp; omega]
    have h1 : memN m.ku x = false := by
      cases hm : memN m.ku x with
      | true => have := (hex.ku x (memN_iff.1 hm)).1; omega
      | false => rfl
    simp only [h1, Bool.false_eq_true, if_false]
    split
    · rfl
    · first | rfl | rw [if_pos hx]
  have hrho_ku : ∀ x, x ∈ m.ku → rhoJ m ((kept σ mv).map Prod.fst) σ.nx x = 1 := fun x hx => by
    unfold rhoJ
    rw [hnone x (hex.ku x hx).2]
    simp only [memN_iff.2 hx, if_true]
  have hrho_or : ∀ x, (∃ p, (p, x) ∈ m.ids ∧ rhoJ m ((kept σ mv).map Prod.fst) σ.nx x = p) ∨ rhoJ m ((kept σ mv).map Prod.fst) σ.nx x = 1 ∨ (rhoJ m ((kept σ mv).map Prod.fst) σ.nx x = x ∧ (x < σ.nx ∨ x < 4)) ∨ rhoJ m ((kept σ mv).map Prod.fst) σ.nx x = 2 := fun x => by
    unfold rhoJ
    cases hl : lookN (swap m.ids) x with
    | some p => exact .inl ⟨p, swap_mem.1 (lookN_mem hl), rfl⟩
    | none =>
      right
      dsimp only
      split
      · exact .inl rfl
      · split
        · rename_i hm
          simp only [Bool.and_eq_true] at hm
          exact .inr (.inl ⟨rfl, .inl (Nat.le_of_ble_eq_true hm.2)⟩)
        · split
          · rename_i hm
            exact .inr (.inl ⟨rfl, .inr hm⟩)
          · exact .inr (.inr rfl)
  have hFin : Fin T (fun i => i < σ1.nx) (fun i => i < j.nx + (ofHH T j.hts h).length) γ1 γ2 w1 m (ofHH T j.hts h) j.nx := by
    subst hγ2
    refine ⟨hex.dv, fun p i hp => ⟨?_, gOf_new hex hp⟩, fun i x hx => ?_, fun _ p hp hxb hU => ⟨?_, ?_⟩, fun K Kp hmay hK hkr b hb => ?_, fun q K Kp hq hmay hK hkr b hb => ?_, fun i d hd => ?_⟩
    · have := hpoid p i hp
      show p < j.nx + _
      omega
    · have := (hex.new _ hx).1
      simp only at this
      show ¬ i < σ1.nx
      omega
    · rw [hex.xb_] at hxb
      show p < j.nx + _
      omega
    · show gOf γ1 m p = γ1.g p
      unfold gOf
      cases hl : lookN m.ids p with
      | none => rfl
      | some i =>
        have := hex.key p i (lookN_mem hl)
        rw [hex.po_] at hp
        rw [hp] at this
        cases this
    · unfold M.may at hmay
      rw [hex.call_] at hmay
      simp only [Bool.false_eq_true, if_false, subB, List.all_eq_true] at hmay
      have hb : γ1.o b ∈ K := hb
      show rhoJ m _ _ (γ1.o b) ∈ Kp
      rw [hrho_low _ (by have := hK _ hb; omega)]
      exact memN_iff.1 (hmay _ hb)
    · unfold M.may at hmay
      rw [hex.call_] at hmay
      simp only [Bool.false_eq_true, if_false, subB, List.all_eq_true] at hmay
      have hb : γ1.o b ∈ q :: K := hb
      show rhoJ m _ _ (γ1.o b) ∈ Kp
      rcases List.mem_cons.1 hb with hb | hb
      · rw [hb, hrho_ku q hq]
        exact memN_iff.1 (hmay 1 (by simp))
      · rw [hrho_low _ (by have := hK _ hb; omega)]
        exact memN_iff.1 (hmay _ (by simp [hb]))
    · refine .inr ⟨?_, nms_at hd⟩
      have := (List.getElem?_eq_some_iff.1 hd).1
      show j.nx + i < _
      omega
  have hFinO : FinO γ1 γ2 m := ⟨fun p i hp b hb => by
    subst hγ2
    show rhoJ m _ _ (γ1.o b) = p
    rw [hb]
    exact hrho_id p i hp⟩
  obtain ⟨g1, g2⟩ := hgen hFin hFinO
  have htwo : Two (fun i => i < σ.nx) (fun i => i < σ1.nx) (fun i => i < j.nx + (ofHH T j.hts h).length) γ1 γ2 := by
    subst hγ2
    refine ⟨fun i hi => ⟨?_, ?_, ?_⟩, fun b hb => hrho_low _ (by omega)⟩
    · show i < _
      have hi : i < σ.nx := hi
      omega
    · show gOf γ1 m i = γ1.g i
      unfold gOf
      cases hl : lookN m.ids i with
      | none => rfl
      | some x =>
        have hi : i < σ.nx := hi
        rcases (hpoid i x (lookN_mem hl)).2.1 with h1 | rfl
        · omega
        · have hnn : lookN m.new i = none := by
            cases hn : lookN m.new i with
            | none => rfl
            | some y =>
              have := (hex.new _ (lookN_mem hn)).1
              have := he.nx
              simp only at *
              omega
          simp only [hnn]
    · exact nms_old (.inl (by have hi : i < σ.nx := hi; omega))
  have hro2 : ∀ b, γ1.o b < 4 → γ2.o b = γ1.o b := fun b hb => by subst hγ2; exact hrho_low _ hb
  refine ⟨γ2, ⟨fun t a hta => ?_, ⟨fun i x hix => ?_, fun b hb => ?_, fun x hx => ?_⟩, ?_⟩, ⟨⟨rfl, rfl, rfl, Nat.le_refl _, fun b hb hc => ⟨hro2 b (by omega), rfl⟩, fun b hb hc => ⟨hb, ?_⟩⟩, fun i hi => (htwo.u i (by have := hk.big; show i < σ.nx; omega)).2.1⟩, ⟨fun t ht => ?_, rfl, fun i hi => ?_, ?_⟩, rfl⟩
  · -- slots
    rw [lookN_append] at hta
    unfold inSl at hsa
    split at hsa
    case h_2 => cases hsa
    rename_i as' has'
    cases hsa
    cases hl : lookN (inSl.zipS (j.sl.map Prod.fst) as') t with
    | some a' =>
      rw [hl] at hta
      cases hta
      exact zipS_look (g1 as' has') hlook hl
    | none =>
      rw [hl] at hta
      dsimp only at hta
      rw [lookN_filter (f := fun t => !(memN wr t))] at hta
      split at hta
      case isFalse => cases hta
      rename_i hnw
      have hnw : t ∉ wr := memN_false (by simpa using hnw)
      have h1 : lookN σ1.sl t = some a := (he.sl t hnw).trans hta
      obtain ⟨v, k1, k2⟩ := hk1.sr t a h1
      obtain ⟨v0, _, k3⟩ := hk.sr t a hta
      exact ⟨v, k1, VRV.two htwo k2 k3⟩
  · -- blocks
    unfold lookO at hix
    rw [lookN_append] at hix
    cases hl : lookN sb i with
    | some y =>
      rw [hl] at hix
      cases y with
      | none => cases hix
      | some y =>
        cases hix
        obtain ⟨k1, k2, k3⟩ := g2 sb hsb i x (by unfold lookO; rw [hl])
        obtain ⟨q, hq⟩ := memN_map k1
        obtain ⟨⟨_, k4⟩, _⟩ := hpo _ hq
        have := hk.big
        refine ⟨?_, k2, k3⟩
        rw [Bool.or_eq_true] at k4
        rcases k4 with k4 | k4
        · have := Nat.le_of_ble_eq_true k4
          simp only at *
          omega
        · exact hex.idb i i (hex.ids0_ _ (List.mem_map.2 ⟨_, List.mem_filter.2 ⟨hq, k4⟩, rfl⟩))
    | none =>
      rw [hl] at hix
      dsimp only at hix
      have hkl : lookO σ.ob i = some x ∧ i ∈ (kept σ mv).map Prod.fst := by
        unfold kept at hix ⊢
        rw [lookN_filter (f := fun t => !(memN mv t))] at hix
        by_cases hm : (!memN mv i) = true
        · rw [if_pos hm] at hix
          refine ⟨hix, ?_⟩
          cases hl2 : lookN σ.ob i with
          | none => rw [hl2] at hix; cases hix
          | some y => exact List.mem_map.2 ⟨(i, y), List.mem_filter.2 ⟨lookN_mem hl2, hm⟩, rfl⟩
        · rw [if_neg hm] at hix; cases hix
      obtain ⟨hl1, hkm⟩ := hkl
      have h1 : lookO σ1.ob i = some x := by
        have := he.ob i (by show i ∈ lk; exact (hkeep i hkm).2.2)
        unfold lookO at hl1 ⊢
        rw [this]
        exact hl1
      obtain ⟨k1, k2, k3⟩ := hk1.ob.ob i x h1
      obtain ⟨_, m2, m3⟩ := hk.ob.ob i x hl1
      refine ⟨k1, (htwo.u i m2).1, OR.two htwo m2 (fun b hb => ?_) k3 m3⟩
      subst hγ2
      show rhoJ m _ _ (γ1.o b) = i
      rw [hb]
      exact hrho_keep i hkm m2
  · -- owners
    show γ2.o b < j.nx + _
    subst hγ2
    show rhoJ m _ _ (γ1.o b) < _
    have := hk.big
    rcases hrho_or (γ1.o b) with ⟨p, h1, h2⟩ | h1 | ⟨h1, h2⟩ | h1
    · have := hpoid p _ h1; omega
    · omega
    · rw [h1]
      omega
    · omega
  · show x < j.nx + _
    have := hk.big
    omega
  · show 2000 ≤ j.nx + _
    have := hk.big
    omega
  · -- back
    subst hγ2
    show γ1.o b = rhoJ m _ _ (γ1.o b)
    have hc : rhoJ m ((kept σ mv).map Prod.fst) σ.nx (γ1.o b) = 0 ∨ rhoJ m ((kept σ mv).map Prod.fst) σ.nx (γ1.o b) = 3 := hc
    have := hk.big
    rcases hrho_or (γ1.o b) with ⟨p, h1, h2⟩ | h1 | ⟨h1, h2⟩ | h1
    · have := hpoid p _ h1; omega
    · omega
    · exact h1.symm
    · omega
  · -- slots that are not written
    show lookN (sa ++ _) t = _
    rw [lookN_append]
    have : lookN sa t = none := by
      unfold inSl at hsa
      split at hsa
      case h_2 => cases hsa
      cases hsa
      cases hl : lookN (inSl.zipS (j.sl.map Prod.fst) _) t with
      | none => rfl
      | some a =>
        have := zipS_keys hl
        simp only [List.mem_map] at this
        obtain ⟨q, hq, rfl⟩ := this
        exact (ht (memN_iff.1 (hjs _ hq))).elim
    rw [this]
    dsimp only
    rw [lookN_filter (f := fun t => !(memN wr t))]
    rw [if_pos]
    cases hm : memN wr t with
    | true => exact (ht (memN_iff.1 hm)).elim
    | false => rfl
  · -- locked blocks
    show lookN (sb ++ kept σ mv) i = _
    rw [lookN_append]
    have : lookN sb i = none := by
      cases hl : lookN sb i with
      | none => rfl
      | some y =>
        obtain ⟨p, q, y', k1, k2, _⟩ := inOs_get hsb hl
        cases k2
        obtain ⟨⟨_, _⟩, k3⟩ := hpo _ k1
        have hi' : i ∈ lk := hi
        rw [hlk] at hi'
        exact (memN_false k3 hi').elim
    rw [this]
    unfold kept
    dsimp only
    rw [lookN_filter (f := fun t => !(memN mv t)), if_pos]
    cases hm : memN mv i with
    | true =>
      have hi' : i ∈ lk := hi
      rw [hlk] at hi'
      rcases List.mem_append.1 hi' with hi' | hi'
      · unfold kept at hi'
        simp only [List.mem_map, List.mem_filter] at hi'
        obtain ⟨q, ⟨_, hq⟩, rfl⟩ := hi'
        rw [hm] at hq
        cases hq
      · exact (disjB_ok hmv (memN_iff.1 hm) hi').elim
    | false => rfl
  · show σ.nx ≤ j.nx + _
    omega
end
end Rx
end Go.Proofs.Ytkgfdplcjdidhaa
namespace Go.Proofs.Ytkgfdplcjdidhaa
open Go Go.RowKit Dp

namespace Rx

section
variable {D : Nat → Type} [∀ n, Rep (D n)]
variable {P : Program} {T : Tab D} {Φ : List (Con D)} {n : Nat} {γ : Gh D} {w : World} {L : List (Nat × Value)} {Qx : Exit → Act → World → Prop}

/-! one operation -/
theorem VRVs.append {U : Nat → Prop} : ∀ {as : List (AV D)} {vs : List Value} {bs : List (AV D)} {us : List Value}, VRVs U γ w as vs → VRVs U γ w bs us → VRVs U γ w (as ++ bs) (vs ++ us)
  | [], [], _, _, _, h => h
  | a :: as, v :: vs, _, _, h, h' => ⟨h.1, VRVs.append h.2 h'⟩
  | [], _ :: _, _, _, h, _ => h.elim
  | _ :: _, [], _, _, h, _ => h.elim
theorem capAV_ok {U : Nat → Prop} : ∀ {cs : List (A0 D)} {vs : List Value}, VR0s U γ w cs vs → VRVs U γ w (cs.map capAV) vs
  | [], [], _ => trivial
  | c :: cs, v :: vs, h => by
    refine ⟨?_, capAV_ok h.2⟩
    cases c with
    | ptr i off => exact h.1
    | rp n x off K => exact h.1
  | [], _ :: _, h => h.elim
  | _ :: _, [], h => h.elim
theorem operQ_ok [Rd] (hP : POk P T) (hR : RepOk T) (hΦ : ∀ c ∈ Φ, ConOk P T c) {U : Nat → Prop} {nid : Nat} {sl : List (Nat × AV D)} {ob : List (Nat × Option (AO D))} {d : Option Tmp} {ty : TypeId} {pos : String} {af : Array Edge} {gd : Option (Nat × Bool)} {e : Eff D} {l : List Nat}
    (hx : Cx U nid γ w sl L ob) {op : Op} {as : List (AV D)} (he : evOs sl op.operands.toList = some as) (h : Q.R ob (operQ T Φ nid op as) l e) :
    OW P Qx L ⟨d, op, ty, pos, af, gd⟩ w (fun v w' => ∃ γ', Post U nid γ w ob e γ' v w') := by
  unfold operQ at h
  split at h
  · rename_i u cargs ts
    have he : evOs sl (u :: cargs.toList) = some as := by simpa [Op.operands, Call.operands] using he
    split at h
    case h_2 => exact (h : False).elim
    rename_i f caps as' _
    obtain ⟨h1, h2⟩ := evOs_cons he
    obtain ⟨vu, k1, cs, rfl, k2⟩ := evO_ok hx.sr h1
    obtain ⟨vs, k3, k4⟩ := evOs_ok hx.sr h2
    split at h
    · rename_i hf
      have e0 : fnV f cs = .func (.func f) #[] cs.toArray := if_pos hf
      rw [e0] at k1
      obtain ⟨m1, m2⟩ := callQ_ok hR hΦ hx (VRVs.append k4 (capAV_ok k2)) h
      have := OW.callV (P := P) (Q := Qx) (L := L) (w := w) (d := d) (ty := ty) (pos := pos) (af := af) (g := gd) (f := f) (u := u) (args := cargs.toList) (caps := cs.toArray) (vs := vs) (ats := ts) m1 k1 k3 (by simpa using m2)
      simpa using this
    · rename_i hf
      have e0 : fnV f cs = .func (.func (f - 1000000)) cs.toArray #[] := if_neg (by rw [hf]; decide)
      rw [e0] at k1
      obtain ⟨m1, m2⟩ := callQ_ok hR hΦ hx (VRVs.append (capAV_ok k2) k4) h
      refine OW.runCall fun a hr => ⟨f - 1000000, (cs ++ vs).toArray, ?_, m2⟩
      simp [execOp, resolve, invoke, Deferred.ofValue, hr _ _ k1, m1]
      exact evs_map hr _ k3
  · exact opQ_ok hP hR hx he h

def putL (d : Option Tmp) (v : Value) (L : List (Nat × Value)) : List (Nat × Value) := match d with
  | some d => (d, v) :: L
  | none => L
theorem Fr.putL [I : Rd] {a : Act} (h : Fr n L a) {d : Option Tmp} (hd : ∀ t, d = some t → I.okt n t = true) (v : Value) : Fr n (putL d v L) (a.put d v) := by
  cases d with
  | none => exact h
  | some t => exact h.put (hd t rfl) v
theorem WL.take [I : Rd] {ops : Array Oper} {rest : List Oper} {o : Oper} {R : Value → World → Prop} (hd : ∀ t, o.dst = some t → I.okt n t = true) (hw : ∀ a, Fr n L a → Region.wanted o (yielded ops a.tmps) = true) (h : OW P Qx L o w R)
    (k : ∀ v w', R v w' → WL P n ops Qx rest (putL o.dst v L) w') : WL P n ops Qx (o :: rest) L w := by
  intro a ha
  refine wpListIn_step fun K hK => ?_
  rw [if_pos (hw a ha)]
  exact h a K (fun x v hx => ha.ev hx) fun v w' hr => hK _ _ (k v w' hr _ (Fr.putL ha hd v))
theorem WL.pass [I : Rd] {ops : Array Oper} {rest : List Oper} {o : Oper} (hd : ∀ t, o.dst = some t → I.okt n t = true) (hw : ∀ a, Fr n L a → Region.wanted o (yielded ops a.tmps) = false)
    (k : WL P n ops Qx rest (putL o.dst undef L) w) : WL P n ops Qx (o :: rest) L w := by
  intro a ha
  refine wpListIn_step fun K hK => ?_
  rw [if_neg (by rw [hw a ha]; simp)]
  exact ⟨fun _ _ => trivial, hK _ _ (k _ (Fr.putL ha hd _))⟩
theorem yield_ok [Rd] {ops : List Oper} {j d : Nat} {og : Oper} {b : Bool} {a : Act} (ha : Fr n L a) (hj : ops[j]? = some og) (hd : og.dst = some d) (hl : Dp.look L d = some (.bool b)) : yielded ops.toArray a.tmps j = some b := by
  have := ha.get d _ hl
  simp [yielded, hj, hd, this]
theorem yield_un [Rd] {ops : List Oper} {j d : Nat} {og : Oper} {a : Act} (ha : Fr n L a) (hj : ops[j]? = some og) (hd : og.dst = some d) (hl : Dp.look L d = some undef) : yielded ops.toArray a.tmps j = none := by
  have := ha.get d _ hl
  simp [yielded, hj, hd, this, undef]

theorem addU_lt (N : Nat) : addU (fun i => i < N) N = fun i => i < N + 64 := by
  funext i
  unfold addU
  apply propext
  omega
theorem Kn.cx {σ : S D} (h : Kn σ γ w L) : Cx (fun i => i < σ.nx) σ.nx γ w σ.sl L σ.ob :=
  ⟨h.sr, h.ob, fun i h1 h2 h3 => by omega, by have := h.big; omega⟩
theorem Kn.ap {σ : S D} {γ' : Gh D} {w' : World} {v : Value} {e : Eff D} (h : Kn σ γ w L) (hp : Post (fun i => i < σ.nx) σ.nx γ w σ.ob e γ' v w') (d : Option Tmp) : Kn (apE σ d e) γ' w' (putL d v L) := by
  have hkp := hp.kp
  have hdst := hp.dst
  have hob := hp.ob
  rw [addU_lt] at hkp hdst hob
  refine ⟨?_, hob, by show 2000 ≤ σ.nx + 64; have := h.big; omega⟩
  cases d with
  | none => exact h.sr.keep hkp
  | some t => exact (h.sr.keep hkp).cons hdst
theorem Kn.skip {σ : S D} (h : Kn σ γ w L) (d : Option Tmp) : Kn (skipE σ d) γ w (putL d undef L) := by
  have hkp : Keep (fun i => i < σ.nx) (fun i => i < σ.nx + 64) γ w γ w := ⟨fun i h => by show i < _; have h : i < σ.nx := h; omega, fun _ _ => rfl, fun _ _ => rfl, fun _ _ _ => ⟨rfl, rfl⟩⟩
  refine ⟨?_, ⟨fun i x hx => ?_, fun b hb => hkp.u _ (h.ob.cl b hb), fun x hx => hkp.u _ (h.ob.ro x hx)⟩, by show 2000 ≤ σ.nx + 64; have := h.big; omega⟩
  · cases d with
    | none => exact h.sr.keep hkp
    | some t => exact (h.sr.keep hkp).cons rfl
  · obtain ⟨h1, h2, h3⟩ := h.ob.ob i x hx
    exact ⟨h1, hkp.u _ h2, h3.keep hkp h2 fun _ _ _ => ⟨rfl, rfl⟩⟩
theorem lookN_cons_self {α : Type} {l : List (Nat × α)} {d : Nat} {a : α} (h : lookN l d = some a) (t : Nat) : lookN ((d, a) :: l) t = lookN l t := by
  simp only [lookN]
  cases hb : Nat.beq d t with
  | true =>
    have := Nat.eq_of_beq_eq_true hb
    subst this
    simp [h]
  | false => rfl
theorem Kn.setB {σ : S D} {d : Nat} {c : Bool} {K : List Nat} {g : Nat} (h : Kn σ γ w L) (hd : lookN σ.sl d = some (.c (.one (.v .bool c K g)))) : Kn (setB σ d c K g) γ w L :=
  ⟨fun t a ha => h.sr t a (by rw [← lookN_cons_self hd]; exact ha), h.ob, h.big⟩
theorem Ext.setB {σ : S D} {d : Nat} {c : Bool} {K : List Nat} {g : Nat} (wr : List Nat) (hd : lookN σ.sl d = some (.c (.one (.v .bool c K g)))) : Ext wr σ (setB σ d c K g) :=
  ⟨fun t _ => lookN_cons_self hd t, rfl, fun _ _ => rfl, Nat.le_refl _⟩
theorem Ext.ap {σ : S D} {e : Eff D} {d : Option Tmp} {wr : List Nat} (hd : ∀ t, d = some t → t ∈ wr) (he : effOk σ.lk e = true) : Ext wr σ (apE σ d e) := by
  unfold effOk at he
  simp only [Bool.and_eq_true] at he
  refine ⟨fun t ht => ?_, rfl, fun i hi => ?_, by show σ.nx ≤ σ.nx + 64; omega⟩
  · cases d with
    | none => rfl
    | some d =>
      show lookN ((d, e.dst) :: σ.sl) t = _
      simp only [lookN]
      have : Nat.beq d t = false := by
        cases hb : Nat.beq d t with
        | true =>
          have := Nat.eq_of_beq_eq_true hb
          exact (ht (hd t (by rw [this]))).elim
        | false => rfl
      rw [this]
      rfl
  · show lookN (e.fz.map (fun i => (i, none)) ++ e.upd ++ σ.ob) i = _
    have h1 : lookN (e.fz.map fun i => (i, (none : Option (AO D)))) i = none := by
      rw [lookN_none_iff]
      intro hm
      simp only [List.map_map, List.mem_map] at hm
      obtain ⟨x, hx, rfl⟩ := hm
      exact disjB_ok he.2 hx hi
    have h2 : lookN e.upd i = none := by
      rw [lookN_none_iff]
      exact fun hm => disjB_ok he.1 hm hi
    rw [List.append_assoc, lookN_append, h1]
    dsimp only
    rw [lookN_append, h2]
theorem Ext.skip {σ : S D} {d : Option Tmp} {wr : List Nat} (hd : ∀ t, d = some t → t ∈ wr) : Ext wr σ (skipE σ d) := by
  refine ⟨fun t ht => ?_, rfl, fun _ _ => rfl, by show σ.nx ≤ σ.nx + 64; omega⟩
  cases d with
  | none => rfl
  | some d =>
    show lookN ((d, _) :: σ.sl) t = _
    simp only [lookN]
    have : Nat.beq d t = false := by
      cases hb : Nat.beq d t with
      | true =>
        have := Nat.eq_of_beq_eq_true hb
        exact (ht (hd t (by rw [this]))).elim
      | false => rfl
    rw [this]
    rfl

theorem stepK_R {ρ : Type} {p : Nat} {o : Oper} {σ : S D} {lg : List Lg} {k : S D → List Lg → Option ρ} {r : ρ} (h : stepK T Φ p o σ lg k = some r) :
    ∃ as e l, evOs σ.sl o.op.operands.toList = some as ∧ Q.R σ.ob (operQ T Φ σ.nx o.op as) l e ∧ effOk σ.lk e = true ∧ k (apE σ o.dst e) (⟨p, l.reverse, e.wr⟩ :: lg) = some r := by
  unfold stepK at h
  split at h
  case h_2 => cases h
  rename_i as ha
  obtain ⟨l, e, h1, h2⟩ := Q.go_R h
  split at h2
  case h_2 => cases h2
  rename_i hc
  exact ⟨as, e, l, ha, h1, hc, by simpa using h2⟩
theorem dstsOf_mem {o : Oper} {r : List Oper} {t : Nat} (h : o.dst = some t) : t ∈ dstsOf (o :: r) := by
  unfold dstsOf
  simp [List.filterMap_cons, h]
theorem dstsOf_tail {o : Oper} {r : List Oper} {t : Nat} (h : t ∈ dstsOf r) : t ∈ dstsOf (o :: r) := by
  unfold dstsOf at h ⊢
  rw [List.filterMap_cons]
  split
  · exact h
  · exact List.mem_cons_of_mem _ h
theorem guardOf_R {ops : List Oper} {sl : List (Nat × AV D)} {j d : Nat} {a : AV D} (h : guardOf ops sl j = some (d, a)) : ∃ og, ops[j]? = some og ∧ og.dst = some d ∧ lookN sl d = some a := by
  unfold guardOf at h
  split at h
  case h_2 => cases h
  rename_i og ho
  split at h
  case h_2 => cases h
  rename_i d' hd
  split at h
  case h_2 => cases h
  rename_i a' ha
  cases h
  exact ⟨og, ho, hd, ha⟩
theorem cnd_R {ρ : Type} {c : Bool} {a b : Option ρ} {r : ρ} (h : cnd c a b = some r) : (c = true ∧ a = some r) ∨ (c = false ∧ b = some r) := by
  cases c with
  | true => exact .inl ⟨rfl, h⟩
  | false => exact .inr ⟨rfl, h⟩

section
variable (hP : POk P T) (hR : RepOk T) (hΦ : ∀ c ∈ Φ, ConOk P T c)
include hP hR hΦ
theorem step_ok [Rd] {σ : S D} (hk : Kn σ γ w L) {o : Oper} {as : List (AV D)} {e : Eff D} {l : List Nat} (ha : evOs σ.sl o.op.operands.toList = some as) (hq : Q.R σ.ob (operQ T Φ σ.nx o.op as) l e) :
    OW P Qx L o w (fun v w' => ∃ γ', Frame γ w γ' w' ∧ Kn (apE σ o.dst e) γ' w' (putL o.dst v L)) := by
  obtain ⟨d, op, ty, pos, af, gd⟩ := o
  refine OW.mono (operQ_ok hP hR hΦ hk.cx ha hq) ?_
  rintro v w' ⟨γ', hp⟩
  exact ⟨γ', hp.fr, hk.ap hp d⟩

theorem cpsL_ok [I : Rd] {ops : List Oper} : ∀ {l : List Oper} {p : Nat} {σ : S D} {lg : List Lg} {ρ : Type} {k : S D → List Lg → Option ρ} {r : ρ} {γ : Gh D} {w : World} {L : List (Nat × Value)}, cpsL T Φ ops l p σ lg k = some r → (∀ t ∈ dstsOf l, I.okt n t = true) → Kn σ γ w L →
    (∀ σ' lg' γ' w' L', Kn σ' γ' w' L' → Frame γ w γ' w' → Ext (dstsOf l) σ σ' → k σ' lg' = some r → NK n (Qx .normal) L' w') → WL P n ops.toArray Qx l L w
  | [], p, σ, lg, ρ, k, r, γ, w, L, h, hd, hk, hc => WL.nil (hc σ lg γ w L hk (Frame.refl _ _) (Ext.refl _ _) h)
  | o :: l, p, σ, lg, ρ, k, r, γ, w, L, h, hd, hk, hc => by
    have hdo : ∀ t, o.dst = some t → I.okt n t = true := fun t ht => hd t (dstsOf_mem ht)
    have hdl : ∀ t ∈ dstsOf l, I.okt n t = true := fun t ht => hd t (dstsOf_tail ht)
    -- an operation that runs, from a state that is as good as σ
    have run : ∀ {σ0 : S D}, Kn σ0 γ w L → Ext (dstsOf (o :: l)) σ σ0 → (∀ a, Fr n L a → Region.wanted o (yielded ops.toArray a.tmps) = true) → stepK T Φ p o σ0 lg (fun σ lg => cpsL T Φ ops l (p + 1) σ lg k) = some r → WL P n ops.toArray Qx (o :: l) L w := by
      intro σ0 hk0 he0 hw h
      obtain ⟨as, e, l', h1, h2, h3, h4⟩ := stepK_R h
      refine WL.take hdo hw (step_ok hP hR hΦ hk0 h1 h2) ?_
      rintro v w' ⟨γ', hf, hk'⟩
      have he' : Ext (dstsOf (o :: l)) σ0 (apE σ0 o.dst e) := Ext.ap (fun t ht => dstsOf_mem ht) h3
      exact cpsL_ok h4 hdl hk' fun σ' lg' γ'' w'' L'' hk'' hf'' he'' hc'' => hc σ' lg' γ'' w'' L'' hk'' (hf.trans hf'') ((he0.trans he').trans (he''.mono fun t ht => dstsOf_tail ht)) hc''
    -- one that is passed over
    have pass : ∀ {σ0 : S D}, Kn σ0 γ w L → Ext (dstsOf (o :: l)) σ σ0 → (∀ a, Fr n L a → Region.wanted o (yielded ops.toArray a.tmps) = false) → cpsL T Φ ops l (p + 1) (skipE σ0 o.dst) lg k = some r → WL P n ops.toArray Qx (o :: l) L w := by
      intro σ0 hk0 he0 hw h
      refine WL.pass hdo hw ?_
      have he' : Ext (dstsOf (o :: l)) σ0 (skipE σ0 o.dst) := Ext.skip fun t ht => dstsOf_mem ht
      exact cpsL_ok h hdl (hk0.skip o.dst) fun σ' lg' γ'' w'' L'' hk'' hf'' he'' hc'' => hc σ' lg' γ'' w'' L'' hk'' hf'' ((he0.trans he').trans (he''.mono fun t ht => dstsOf_tail ht)) hc''
    simp only [cpsL] at h
    split at h
    · rename_i hg
      exact run hk (Ext.refl _ _) (fun a _ => by simp [Region.wanted, hg]) h
    · rename_i j b hg
      split at h
      case h_1 => cases h
      rename_i d a hgo
      obtain ⟨og, ho, hdg, hl⟩ := guardOf_R hgo
      split at h
      · rename_i c K g
        obtain ⟨v, hv1, hv2⟩ := hk.sr d _ hl
        have hv2 : v = .bool c := hv2.1
        subst hv2
        have hy : ∀ a, Fr n L a → Region.wanted o (yielded ops.toArray a.tmps) = (c == b) := fun a ha => by
          simp [Region.wanted, hg, yield_ok ha ho hdg hv1]
        rcases cnd_R h with ⟨rfl, h⟩ | ⟨rfl, h⟩
        · have hks := hk.setB hl
          have hes := Ext.setB (dstsOf (o :: l)) hl
          cases b with
          | true => exact run hks hes (fun a ha => by rw [hy a ha]; rfl) h
          | false => exact pass hks hes (fun a ha => by rw [hy a ha]; rfl) h
        · have hks := hk.setB hl
          have hes := Ext.setB (dstsOf (o :: l)) hl
          cases b with
          | true => exact pass hks hes (fun a ha => by rw [hy a ha]; rfl) h
          | false => exact run hks hes (fun a ha => by rw [hy a ha]; rfl) h
      · split at h
        case isFalse => cases h
        rename_i hu
        have ha : a = .c (.one .undef) := by
          unfold isUndef at hu
          split at hu
          · rfl
          · cases hu
        subst ha
        obtain ⟨v, hv1, hv2⟩ := hk.sr d _ hl
        have hv2 : v = undef := hv2
        subst hv2
        exact pass hk (Ext.refl _ _) (fun a ha => by simp [Region.wanted, hg, yield_un ha ho hdg hv1]) h
end
end
end Rx
end Go.Proofs.Ytkgfdplcjdidhaa
namespace Go.Proofs.Ytkgfdplcjdidhaa
open Go Go.RowKit Dp

namespace Rx

section
variable {D : Nat → Type} [∀ n, Rep (D n)]
variable {P : Program} {T : Tab D} {Φ : List (Con D)} {n : Nat} {γ : Gh D} {w : World} {L : List (Nat × Value)} {Qx : Exit → Act → World → Prop}

theorem Out.beq_ok : ∀ {a b : Out}, a.beq b = true → a = b
  | .normal, .normal, _ => rfl
  | .exit a, .exit b, h => by rw [Nat.eq_of_beq_eq_true h]
  | .goto a, .goto b, h => by rw [Nat.eq_of_beq_eq_true h]
  | .ret, .ret, _ => rfl
  | .normal, .exit _, h => by cases h
  | .normal, .goto _, h => by cases h
  | .normal, .ret, h => by cases h
  | .exit _, .normal, h => by cases h
  | .exit _, .goto _, h => by cases h
  | .exit _, .ret, h => by cases h
  | .goto _, .normal, h => by cases h
  | .goto _, .exit _, h => by cases h
  | .goto _, .ret, h => by cases h
  | .ret, .normal, h => by cases h
  | .ret, .exit _, h => by cases h
  | .ret, .goto _, h => by cases h
theorem fromJ_R {ρ : Type} {j : J} {wr mv : List Nat} {σ : S D} {k : S D → Option ρ} {h : HH D j.hts} {r : ρ} (e : fromJ T j wr mv σ k h = some r) : ∃ σ2, inJ T j wr mv σ h = some σ2 ∧ k σ2 = some r := by
  unfold fromJ at e
  split at e
  · rename_i σ' h1
    exact ⟨σ', h1, e⟩
  · cases e
theorem toE_fromE {ρ : Type} {wr mv : List Nat} {σ σ1 : S D} {k : Out → S D → Option ρ} {kv : Option ρ} {o : Out} {r : ρ} : ∀ {E : List (Out × J)} {pr : Bool} {x : ExT D pr ρ E}, toE T pr E o σ1 kv = some x → fromE T pr wr mv σ k E x = some r →
    (∃ j h σ2, ExR T j σ1 h ∧ inJ T j wr mv σ h = some σ2 ∧ k o σ2 = some r) ∨ kv = some r
  | [], pr, x, h, hf => by
    simp only [toE] at h
    simp only [fromE] at hf
    exact .inr (h.trans hf)
  | (o', j) :: E, pr, x, h, hf => by
    cases pr with
    | true =>
      cases E with
      | nil =>
        simp only [toE] at h
        split at h
        case isFalse => cases h
        rename_i hb
        obtain ⟨y, h1, h2⟩ := exJ_R h
        cases h2
        have := Out.beq_ok hb
        subst this
        simp only [fromE] at hf
        obtain ⟨σ2, h3, h4⟩ := fromJ_R hf
        exact .inl ⟨j, x, σ2, h1, h3, h4⟩
      | cons e E =>
        simp only [toE] at h
        split at h
        · rename_i hb
          obtain ⟨y, h1, h2⟩ := exJ_R h
          cases h2
          have := Out.beq_ok hb
          subst this
          simp only [fromE, oelim, Sum.elim_inl] at hf
          obtain ⟨σ2, h3, h4⟩ := fromJ_R hf
          exact .inl ⟨j, y, σ2, h1, h3, h4⟩
        · split at h
          case h_2 => cases h
          rename_i y hy
          cases h
          simp only [fromE, oelim, Sum.elim_inr] at hf
          exact toE_fromE hy hf
    | false =>
      simp only [toE] at h
      split at h
      · rename_i hb
        obtain ⟨y, h1, h2⟩ := exJ_R h
        cases h2
        have := Out.beq_ok hb
        subst this
        simp only [fromE, oelim, Sum.elim_inl] at hf
        obtain ⟨σ2, h3, h4⟩ := fromJ_R hf
        exact .inl ⟨j, y, σ2, h1, h3, h4⟩
      · split at h
        case h_2 => cases h
        rename_i y hy
        cases h
        simp only [fromE, oelim, Sum.elim_inr] at hf
        exact toE_fromE hy hf
theorem Kn.lk {σ : S D} (h : Kn σ γ w L) (l : List Nat) : Kn { σ with lk := l } γ w L := ⟨h.sr, h.ob, h.big⟩
theorem Ext.unlk {wr : List Nat} {σ σ1 : S D} {lk : List Nat} (hs : ∀ i ∈ σ.lk, i ∈ lk) (h : Ext wr { σ with lk := lk } σ1) : Ext wr σ { σ1 with lk := σ.lk } :=
  ⟨h.sl, rfl, fun i hi => h.ob i (hs i hi), h.nx⟩

/-- a piece up to joints -/
theorem wrap_ok (hR : RepOk T) {cut : Option (Bool × List (Out × J))} {wr : List Nat} {ρ : Type} {body : ∀ {ρ' : Type}, S D → (Out → S D → Option ρ') → Option ρ'} {σ : S D} {k : Out → S D → Option ρ} {r : ρ} (h : wrap T wr cut body σ k = some r) (hk : Kn σ γ w L) {G : Prop} (X : Out → List (Nat × Value) → World → Prop)
    (hbody : ∀ {ρ' : Type} {σ' : S D} {k' : Out → S D → Option ρ'} {r' : ρ'}, body σ' k' = some r' → Kn σ' γ w L → (∀ o σ1 γ1 w1 L1, Kn σ1 γ1 w1 L1 → Frame γ w γ1 w1 → Ext wr σ' σ1 → k' o σ1 = some r' → X o L1 w1) → G)
    (hc : ∀ o σ1 γ1 w1 L1, Kn σ1 γ1 w1 L1 → Frame γ w γ1 w1 → Ext wr σ σ1 → k o σ1 = some r → X o L1 w1) : G := by
  unfold wrap at h
  split at h
  · exact hbody h hk hc
  · rename_i pr E
    obtain ⟨x, hx, hf⟩ := bindE h
    refine hbody hx (hk.lk _) fun o σ1 γ1 w1 L1 hk1 hfr he hto => ?_
    have hs : ∀ i ∈ σ.lk, i ∈ (kept σ (mvE E)).map Prod.fst ++ σ.lk := fun i hi => List.mem_append.2 (.inr hi)
    rcases toE_fromE hto hf with ⟨j, y, σ2, h1, h2, h3⟩ | h1
    · obtain ⟨γ2, k1, k2, k3, k4⟩ := join_ok hR rfl hk hk1 he h1 h2
      have := k3.unlk (σ := σ) hs
      have e : ({ σ2 with lk := σ.lk } : S D) = σ2 := by rw [← k4]
      rw [show ({ ({ σ2 with lk := (kept σ (mvE E)).map Prod.fst ++ σ.lk } : S D) with lk := σ.lk } : S D) = { σ2 with lk := σ.lk } from rfl, e] at this
      exact hc o σ2 γ2 w1 L1 k1 (hfr.trans k2) this h3
    · exact hc o _ γ1 w1 L1 (hk1.lk _) hfr (he.unlk hs) h1

/-! lists of operations one behind the other -/
theorem wp_then [I : Rd] {o : Oper} {a : Act} {w : World} {K : Act → World → Prop} {K2 : Act → World → Prop} (hh : o.wpIn I.F 0 P a w K (Exit.then K2 Qx)) : o.wpIn I.F 0 P a w K Qx := by
  unfold Oper.wpIn at *
  refine ⟨hh.1, ?_⟩
  have hh := hh.2
  generalize (o.semAt I.F.round a.eval).run P w = r at *
  cases r with
  | ok n w' =>
    cases n <;> simp only [Oper.uponIn] at hh ⊢ <;>
      first
        | exact hh
        | exact ⟨hh.1, hh.2.mono (fun e w'' he => by cases e <;> exact he)⟩
        | exact ⟨hh.1, hh.2.mono (fun _ _ he => he)⟩
  | halt x w' => cases x <;> simp only [Oper.uponIn] at hh ⊢ <;> exact hh
theorem list_app [I : Rd] {ops : Array Oper} {l2 : List Oper} : ∀ {l1 : List Oper} {a : Act} {w : World}, wpListIn I.F 0 P ops (Exit.then (wpListIn I.F 0 P ops Qx l2) Qx) l1 a w → wpListIn I.F 0 P ops Qx (l1 ++ l2) a w
  | [], a, w, h => h
  | o :: l1, a, w, h => by
    unfold wpListIn at h
    show wpListIn I.F 0 P ops Qx (o :: (l1 ++ l2)) a w
    unfold wpListIn
    split
    · rename_i hw
      rw [if_pos hw] at h
      exact Oper.wpIn_mono (fun a w h => list_app h) (wp_then h)
    · rename_i hw
      rw [if_neg hw] at h
      exact ⟨h.1, list_app h.2⟩
theorem WL.app [Rd] {ops : Array Oper} {l1 l2 : List Oper} (h : ∀ K : Act → World → Prop, (∀ L' w', WL P n ops Qx l2 L' w' → NK n K L' w') → WL P n ops (Exit.then K Qx) l1 L w) : WL P n ops Qx (l1 ++ l2) L w :=
  fun a ha => list_app (h _ (fun _ _ hc a' ha' => hc a' ha') a ha)
theorem dstsOf_app (a b : List Oper) : dstsOf (a ++ b) = dstsOf a ++ dstsOf b := by
  unfold dstsOf
  simp

/-! slices of own slices become plain -/
theorem thaw1 {σ : S D} {γ : Gh D} {w : World} {L : List (Nat × Value)} {i m t tc q g h : Nat} {xs : List (D m)} (hk : Kn σ γ w L) (ho : lookO σ.ob i = some (.kid m t tc q xs g h)) (hl : memN σ.lk i = false) :
    ∃ γ2, Kn { σ with ob := (i, some (.sl m t xs [1] g)) :: σ.ob } γ2 w L ∧ Frame γ w γ2 w ∧ Ext [] σ { σ with ob := (i, some (.sl m t xs [1] g)) :: σ.ob } := by
  obtain ⟨hi, hU, h1, h2, _⟩ := hk.ob.ob i _ ho
  obtain ⟨o', ho'⟩ : ∃ o' : Cls, o' = fun b => if γ.o b = i ∧ headB (γ.g i) b = false then 1 else γ.o b := ⟨_, rfl⟩
  have hne : ∀ b, γ.o b ≠ i → o' b = γ.o b := fun b hb => by rw [ho']; exact if_neg fun hc => hb hc.1
  have hhd : ∀ b, headB (γ.g i) b = true → o' b = γ.o b := fun b hb => by rw [ho']; exact if_neg fun hc => by rw [hb] at hc; cases hc.2
  have h1' : ∀ b, γ.o b = i → headB (γ.g i) b = false → o' b = 1 := fun b e hb => by rw [ho']; exact if_pos ⟨e, hb⟩
  have hor : ∀ b, o' b = γ.o b ∨ o' b = 1 ∧ γ.o b = i := fun b => by
    rw [ho']
    by_cases hc : γ.o b = i ∧ headB (γ.g i) b = false
    · exact .inr ⟨if_pos hc, hc.1⟩
    · exact .inl (if_neg hc)
  have kp : Keep (fun i => i < σ.nx) (fun i => i < σ.nx) γ w ⟨o', γ.g, γ.v⟩ w := ⟨fun _ h => h, fun _ _ => rfl, fun _ _ => rfl, fun b _ hc => ⟨hne b (by omega), rfl⟩⟩
  refine ⟨⟨o', γ.g, γ.v⟩, ⟨hk.sr.keep kp, ⟨fun j x hx => ?_, fun b hb => ?_, hk.ob.ro⟩, hk.big⟩, ⟨⟨rfl, rfl, rfl, Nat.le_refl _, fun b _ hc => ⟨hne b (by omega), rfl⟩, fun b hb hc => ⟨hb, ?_⟩⟩, fun _ _ => rfl⟩, ⟨fun _ _ => rfl, rfl, fun j hj => ?_, Nat.le_refl _⟩⟩
  · by_cases hji : i = j
    · subst hji
      have e : lookO ((i, some (AO.sl m t xs [1] g)) :: σ.ob) i = some (.sl m t xs [1] g) := by simp [lookO, lookN]
      rw [e] at hx
      cases hx
      refine ⟨hi, hU, ?_, fun x hx => by rw [List.mem_singleton.1 hx]; omega, h2.keep kp⟩
      refine Ow.relab (fun b hb => ?_) (fun b hb => ?_) h1.ow
      · obtain ⟨f1, f2⟩ := kcls_0 hb
        show o' b = i
        rw [hhd b f2, f1]
      · have hb : kcls γ.o i (γ.g i) b = 1 := by simpa [In] using hb
        obtain ⟨f1, f2⟩ := kcls_1 hb
        show o' b ∈ [1]
        rw [h1' b f1 f2]
        exact List.mem_singleton.2 rfl
    · have hb : Nat.beq i j = false := by
        cases hb : Nat.beq i j with
        | true => exact (hji (Nat.eq_of_beq_eq_true hb)).elim
        | false => rfl
      have e : lookO ((i, some (AO.sl m t xs [1] g)) :: σ.ob) j = lookO σ.ob j := by simp [lookO, lookN, hb]
      rw [e] at hx
      obtain ⟨k1, k2, k3⟩ := hk.ob.ob j x hx
      exact ⟨k1, k2, k3.keep kp k2 fun b _ hb => ⟨hne b (by rw [hb]; exact fun e => hji e.symm), rfl⟩⟩
  · show o' b < σ.nx
    rcases hor b with e | ⟨e, _⟩
    · rw [e]; exact hk.ob.cl b hb
    · rw [e]; have := hk.big; omega
  · rcases hor b with e | ⟨e, _⟩
    · exact e.symm
    · have hc : o' b = 0 ∨ o' b = 3 := hc
      omega
  · have hne : i ≠ j := fun e => memN_false hl (e ▸ hj)
    have hb : Nat.beq i j = false := by
      cases hb : Nat.beq i j with
      | true => exact (hne (Nat.eq_of_beq_eq_true hb)).elim
      | false => rfl
    simp [lookN, hb]
theorem thaw_ok {w : World} {L : List (Nat × Value)} : ∀ {b : List Nat} {σ σ2 : S D} {γ : Gh D}, thaw σ b = some σ2 → Kn σ γ w L → ∃ γ2, Kn σ2 γ2 w L ∧ Frame γ w γ2 w ∧ Ext [] σ σ2
  | [], σ, σ2, γ, h, hk => by
    cases h
    exact ⟨γ, hk, Frame.refl _ _, Ext.refl _ _⟩
  | i :: r, σ, σ2, γ, h, hk => by
    simp only [thaw] at h
    split at h
    case h_2 => cases h
    rename_i m t tc q xs g ht ho
    split at h
    case isTrue => cases h
    rename_i hl
    obtain ⟨γ1, k1, k2, k3⟩ := thaw1 hk ho (by simpa using hl)
    obtain ⟨γ2, j1, j2, j3⟩ := thaw_ok h k1
    exact ⟨γ2, j1, k2.trans j2, k3.trans j3⟩

/-! slices that nobody writes any more -/
theorem frz1 {σ : S D} {γ : Gh D} {w : World} {L : List (Nat × Value)} {i n : Nat} {xs : List (D n)} {K : List Nat} {o : AO D} (hk : Kn σ γ w L) (ho : lookO σ.ob i = some o) (hd : asDV o = some (⟨.sl n, xs⟩, K)) (hl : memN σ.lk i = false) :
    ∃ γ2, Kn { σ with ob := (i, some (.fz n xs (1 :: K))) :: σ.ob } γ2 w L ∧ Frame γ w γ2 w ∧ Ext [] σ { σ with ob := (i, some (.fz n xs (1 :: K))) :: σ.ob } := by
  obtain ⟨hi, hU, h1⟩ := hk.ob.ob i _ ho
  obtain ⟨h2, h3⟩ := asDV_ok h1 hd
  obtain ⟨o', ho'⟩ : ∃ o' : Cls, o' = fun b => if γ.o b = i then 1 else γ.o b := ⟨_, rfl⟩
  have hne : ∀ b, γ.o b ≠ i → o' b = γ.o b := fun b hb => by rw [ho']; exact if_neg hb
  have heq : ∀ b, γ.o b = i → o' b = 1 := fun b hb => by rw [ho']; exact if_pos hb
  have hor : ∀ b, o' b = γ.o b ∨ o' b = 1 ∧ γ.o b = i := fun b => by
    by_cases hc : γ.o b = i
    · exact .inr ⟨heq b hc, hc⟩
    · exact .inl (hne b hc)
  have kp : Keep (fun i => i < σ.nx) (fun i => i < σ.nx) γ w ⟨o', γ.g, γ.v⟩ w := ⟨fun _ h => h, fun _ _ => rfl, fun _ _ => rfl, fun b _ hc => ⟨hne b (by omega), rfl⟩⟩
  have hbeq : ∀ j, i ≠ j → Nat.beq i j = false := fun j hji => by
    cases hb : Nat.beq i j with
    | true => exact (hji (Nat.eq_of_beq_eq_true hb)).elim
    | false => rfl
  refine ⟨⟨o', γ.g, γ.v⟩, ⟨hk.sr.keep kp, ⟨fun j x hx => ?_, fun b hb => ?_, hk.ob.ro⟩, hk.big⟩, ⟨⟨rfl, rfl, rfl, Nat.le_refl _, fun b _ hc => ⟨hne b (by omega), rfl⟩, fun b hb hc => ⟨hb, ?_⟩⟩, fun _ _ => rfl⟩, ⟨fun _ _ => rfl, rfl, fun j hj => ?_, Nat.le_refl _⟩⟩
  · by_cases hji : i = j
    · subst hji
      have e : lookO ((i, some (AO.fz n xs (1 :: K))) :: σ.ob) i = some (.fz n xs (1 :: K)) := by simp [lookO, lookN]
      rw [e] at hx
      cases hx
      refine ⟨hi, hU, ?_, fun x hx => ?_⟩
      · show LfRd (In o' (1 :: K)) w (γ.g i) ⟨.sl n, xs⟩
        refine LfRd.weaken (fun b hb => ?_) h2
        unfold In at hb ⊢
        rcases List.mem_cons.1 hb with hb | hb
        · rw [heq b hb]; exact List.mem_cons_self ..
        · rw [hne b (fun e => by have := h3 _ hb; omega)]
          exact List.mem_cons_of_mem _ hb
      · rcases List.mem_cons.1 hx with rfl | hx
        · omega
        · exact h3 x hx
    · have e : lookO ((i, some (AO.fz n xs (1 :: K))) :: σ.ob) j = lookO σ.ob j := by simp [lookO, lookN, hbeq j hji]
      rw [e] at hx
      obtain ⟨k1, k2, k3⟩ := hk.ob.ob j x hx
      exact ⟨k1, k2, k3.keep kp k2 fun b _ hb => ⟨hne b (by rw [hb]; exact fun e => hji e.symm), rfl⟩⟩
  · show o' b < σ.nx
    rcases hor b with e | ⟨e, _⟩
    · rw [e]; exact hk.ob.cl b hb
    · rw [e]; have := hk.big; omega
  · rcases hor b with e | ⟨e, _⟩
    · exact e.symm
    · have hc : o' b = 0 ∨ o' b = 3 := hc
      omega
  · have hne : i ≠ j := fun e => memN_false hl (e ▸ hj)
    simp [lookN, hbeq j hne]
theorem frz_ok {w : World} {L : List (Nat × Value)} : ∀ {b : List Nat} {σ σ2 : S D} {γ : Gh D}, frz σ b = some σ2 → Kn σ γ w L → ∃ γ2, Kn σ2 γ2 w L ∧ Frame γ w γ2 w ∧ Ext [] σ σ2
  | [], σ, σ2, γ, h, hk => by
    cases h
    exact ⟨γ, hk, Frame.refl _ _, Ext.refl _ _⟩
  | i :: r, σ, σ2, γ, h, hk => by
    simp only [frz] at h
    split at h
    case h_2 => cases h
    rename_i o ho
    split at h
    case h_2 => cases h
    rename_i n xs K hd
    split at h
    case isTrue => cases h
    rename_i hl
    obtain ⟨γ1, k1, k2, k3⟩ := frz1 hk ho hd (by simpa using hl)
    obtain ⟨γ2, j1, j2, j3⟩ := frz_ok h k1
    exact ⟨γ2, j1, k2.trans j2, k3.trans j3⟩
theorem frzK_R {l : List Nat} {σ : S D} {ρ : Type} {k : S D → Option ρ} {r : ρ} (h : frzK l σ k = some r) : ∃ σ', frz σ l = some σ' ∧ k σ' = some r := by
  unfold frzK at h
  split at h
  case h_2 => cases h
  exact ⟨_, by assumption, h⟩
theorem Ext.frz {wr : List Nat} {σ σ' : S D} (h : Ext [] σ σ') : Ext wr σ σ' := h.mono fun t ht => by cases ht

section
variable (hP : POk P T) (hR : RepOk T) (hΦ : ∀ c ∈ Φ, ConOk P T c)
include hP hR hΦ

theorem cpsG_ok [I : Rd] {ops : List Oper} : ∀ (sg : Sg) {ρ : Type} {l : List Oper} {p : Nat} {σ : S D} {k : S D → Option ρ} {r : ρ} {γ : Gh D} {w : World} {L : List (Nat × Value)} {Qx : Exit → Act → World → Prop}, cpsG T Φ ops sg l p σ k = some r → (∀ t ∈ dstsOf l, I.okt n t = true) → Kn σ γ w L →
    (∀ σ' γ' w' L', Kn σ' γ' w' L' → Frame γ w γ' w' → Ext (dstsOf l) σ σ' → k σ' = some r → NK n (Qx .normal) L' w') → WL P n ops.toArray Qx l L w := by
  intro sg
  induction sg with
  | nil =>
    intro ρ l p σ k r γ w L Qx h hd hk hc
    simp only [cpsG] at h
    exact cpsL_ok hP hR hΦ h hd hk fun σ' _ γ' w' L' h1 h2 h3 h4 => hc σ' γ' w' L' h1 h2 h3 h4
  | thaw s b next ihn =>
    intro ρ l p σ k r γ w L Qx h hd hk hc
    simp only [cpsG] at h
    have hsplit : l = l.take (s - p) ++ l.drop (s - p) := (List.take_append_drop _ _).symm
    generalize hl1 : l.take (s - p) = l1 at *
    generalize hl3 : l.drop (s - p) = l3 at *
    have hdl : dstsOf l = dstsOf l1 ++ dstsOf l3 := by rw [hsplit, dstsOf_app]
    rw [hdl] at hd hc
    rw [hsplit]
    refine WL.app fun K1 hK1 => ?_
    refine cpsL_ok hP hR hΦ h (fun t ht => hd t (List.mem_append.2 (.inl ht))) hk fun σ1 _ γ1 w1 L1 k1 k2 k3 k4 => ?_
    refine hK1 _ _ ?_
    split at k4
    case h_2 => cases k4
    rename_i σ2 hσ2
    obtain ⟨γ2, m1, m2, m3⟩ := thaw_ok hσ2 k1
    refine ihn k4 (fun t ht => hd t (List.mem_append.2 (.inr ht))) m1 fun σ3 γ3 w3 L3 n1 n2 n3 n4 => ?_
    refine hc σ3 γ3 w3 L3 n1 ((k2.trans m2).trans n2) ?_ n4
    exact ((k3.mono fun t ht => List.mem_append.2 (.inl ht)).trans (m3.mono fun t ht => by cases ht)).trans (n3.mono fun t ht => List.mem_append.2 (.inr ht))
  | seg s m j inner next ihi ihn =>
    intro ρ l p σ k r γ w L Qx h hd hk hc
    simp only [cpsG] at h
    have hsplit : l = l.take (s - p) ++ ((l.drop (s - p)).take m ++ l.drop (s - p + m)) := by
      rw [← List.drop_drop, List.take_append_drop, List.take_append_drop]
    generalize hl1 : l.take (s - p) = l1 at *
    generalize hl2 : (l.drop (s - p)).take m = l2 at *
    generalize hl3 : l.drop (s - p + m) = l3 at *
    have hdl : dstsOf l = dstsOf l1 ++ (dstsOf l2 ++ dstsOf l3) := by rw [hsplit, dstsOf_app, dstsOf_app]
    rw [hdl] at hd hc
    rw [hsplit]
    refine WL.app fun K1 hK1 => ?_
    refine cpsL_ok hP hR hΦ h (fun t ht => hd t (List.mem_append.2 (.inl ht))) hk fun σ1 _ γ1 w1 L1 k1 k2 k3 k4 => ?_
    refine hK1 _ _ ?_
    refine WL.app fun K2 hK2 => ?_
    have hd2 : ∀ t ∈ dstsOf l2, I.okt n t = true := fun t ht => hd t (List.mem_append.2 (.inr (List.mem_append.2 (.inl ht))))
    have hd3 : ∀ t ∈ dstsOf l3, I.okt n t = true := fun t ht => hd t (List.mem_append.2 (.inr (List.mem_append.2 (.inr ht))))
    refine wrap_ok hR k4 k1 (X := fun _ L1 w1 => NK n K2 L1 w1) ?_ ?_
    · intro ρ' σ' k' r' hb hk' hx
      have fin : ∀ {σ0 : S D}, Ext (dstsOf l2) σ' σ0 → ∀ σ1' γ1' w1' L1', Kn σ1' γ1' w1' L1' → Frame γ1 w1 γ1' w1' → Ext (dstsOf l2) σ0 σ1' → k' .normal σ1' = some r' → NK n ((Exit.then K2 Qx) .normal) L1' w1' :=
        fun he0 σ1' γ1' w1' L1' m1 m2 m3 m4 => hx .normal σ1' γ1' w1' L1' m1 m2 (he0.trans m3) m4
      cases l2 with
      | nil => cases hb
      | cons o l2 =>
        dsimp only at hb
        split at hb
        · rename_i i b hg
          split at hb
          · rename_i d c K g hgo
            obtain ⟨_, _, _, hl⟩ := guardOf_R hgo
            have hes : ∀ c', c = c' → Ext (dstsOf (o :: l2)) σ' (setB σ' d c' K g) := fun c' e => by subst e; exact Ext.setB _ hl
            have hks : ∀ c', c = c' → Kn (setB σ' d c' K g) γ1 w1 L1 := fun c' e => by subst e; exact hk'.setB hl
            rcases cnd_R hb with ⟨hcc, hb⟩ | ⟨hcc, hb⟩
            · cases b with
              | true => exact ihi hb hd2 (hks _ hcc) (fin (hes _ hcc))
              | false => exact cpsL_ok hP hR hΦ hb hd2 (hks _ hcc) fun σ' _ => fin (hes _ hcc) σ'
            · cases b with
              | true => exact cpsL_ok hP hR hΦ hb hd2 (hks _ hcc) fun σ' _ => fin (hes _ hcc) σ'
              | false => exact ihi hb hd2 (hks _ hcc) (fin (hes _ hcc))
          · exact cpsL_ok hP hR hΦ hb hd2 hk' fun σ' _ => fin (Ext.refl _ _) σ'
        · exact ihi hb hd2 hk' (fin (Ext.refl _ _))
    · intro o σ2 γ2 w2 L2 m1 m2 m3 m4
      refine hK2 _ _ ?_
      refine ihn m4 hd3 m1 fun σ3 γ3 w3 L3 n1 n2 n3 n4 => ?_
      refine hc σ3 γ3 w3 L3 n1 ((k2.trans m2).trans n2) ?_ n4
      exact ((k3.mono fun t ht => List.mem_append.2 (.inl ht)).trans (m3.mono fun t ht => List.mem_append.2 (.inr (List.mem_append.2 (.inl ht))))).trans (n3.mono fun t ht => List.mem_append.2 (.inr (List.mem_append.2 (.inr ht))))
end
end
end Rx
end Go.Proofs.Ytkgfdplcjdidhaa
