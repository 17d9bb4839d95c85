/- Each operation does what opQ says: literals, elements, make, append, slices. Nothing here names a program. -/
import Derived.Test.YtkgfdplcjdidhaaRs
import Derived.Lib.AppendZeros
set_option linter.unusedVariables false
set_option linter.unusedSimpArgs false
set_option linter.unusedSectionVars false
namespace Go.Proofs.Ytkgfdplcjdidhaa
open Go Go.RowKit Dp

namespace Rx

section
variable {D : Nat → Type} [∀ n, Rep (D n)]
variable {P : Program} {T : Tab D} {Qx : Exit → Act → World → Prop} {U : Nat → Prop} {nid : Nat} {γ : Gh D} {w : World} {sl : List (Nat × AV D)} {L : List (Nat × Value)} {ob : List (Nat × Option (AO D))}
  {d : Option Tmp} {ty : TypeId} {pos : String} {af : Array Edge} {gd : Option (Nat × Bool)} {e : Eff D} {l : List Nat}

/-! struct literals -/
theorem partsA_ok (hs : SR U γ w sl L) {pl : List (Nat × Nat)} : ∀ {ps : List (Nat × Operand)} {as : List (AV D)} {cs cs' : List (A1 D)} {us : List Value}, partsA T pl cs ps as = some cs' → evOs sl (ps.map (·.2)) = some as → VR1s U γ w cs us →
    ∃ vs vcs us', evsN L ps = some vs ∧ PartCells vs vcs ∧ fillC pl us vcs = some us' ∧ VR1s U γ w cs' us'
  | [], as, cs, cs', us, h, he, hv => by
    cases as with
    | nil =>
      simp only [partsA, Option.some.injEq] at h
      subst h
      exact ⟨[], [], us, rfl, trivial, rfl, hv⟩
    | cons _ _ => simp [partsA] at h
  | (i, x) :: r, as, cs, cs', us, h, he, hv => by
    cases as with
    | nil => simp [partsA] at h
    | cons a as =>
      obtain ⟨h1, h2⟩ := evOs_cons he
      simp only [partsA] at h
      split at h
      case h_2 => cases h
      rename_i off sz us1 hpl hc
      split at h
      case isFalse => cases h
      rename_i hlen
      split at h
      case h_2 => cases h
      rename_i cs1 hcs
      obtain ⟨v, hev, hvv⟩ := evO_ok hs h1
      have hst : us1.all storable = true := by
        unfold spliceA at hcs
        split at hcs
        · rename_i hb; simp only [Bool.and_eq_true] at hb; exact hb.2
        · cases hcs
      obtain ⟨vs1, k1, k2, k3⟩ := cells_of hc hvv hst
      obtain ⟨m1, _, m3, m4⟩ := hv.splice k1 hcs
      obtain ⟨vs, vcs, us', n1, n2, n3, n4⟩ := partsA_ok hs h h2 m4
      have hlen := Nat.eq_of_beq_eq_true hlen
      refine ⟨(i, v) :: vs, (i, vs1) :: vcs, us', by simp [evsN, hev, n1], ⟨rfl, k2, n2⟩, ?_, n4⟩
      have e1 : vs1.length = sz := by rw [← k1.length]; exact hlen
      simp only [fillC, hpl]
      rw [if_pos ⟨by rw [e1]; exact Nat.beq_refl sz, by rw [← e1]; exact Nat.ble_eq_true_of_le m1⟩]
      exact n3
theorem build_ok [Rd] (hP : POk P T) (hx : Cx U nid γ w sl L ob) {t : TypeId} {n : Nat} {pl : List (Nat × Nat)} {ps : Array (Nat × Operand)} {as : List (AV D)} {cs : List (A1 D)} (ht : lookN T.ty t = some (.st n)) (hl : lookN T.fld t = some pl)
    (he : evOs sl (ps.toList.map (·.2)) = some as) (h : partsA T pl (zeroA.cellsZ (T.lv n)) ps.toList as = some cs) :
    OW P Qx L ⟨d, .build t ps, ty, pos, af, gd⟩ w (fun v w' => ∃ γ', Post U nid γ w ob ⟨.c (.agg cs), [], []⟩ γ' v w') := by
  have hT := (hP.ty t _ ht).1
  obtain ⟨vs, vcs, us, h1, h2, h3, h4⟩ := partsA_ok hx.sr h he (zero_lv (γ := γ) (by simp [In]) (T.lv n))
  have := OW.buildR (P := P) (Qx := Qx) (L := L) (w := w) (d := d) (ty := ty) (pos := pos) (af := af) (g := gd) vcs us (hP.fld t pl hl).1 hT h1 h2 h3
  exact OWpost this (post0 hx ⟨us, rfl, h4⟩)

/-! elements as data -/
theorem rdEl_ok (hR : RepOk T) (hob : OB U γ w ob) {n : Nat} {a : AV D} {v : Value} {r : D n × List Nat × List Nat} (h : Q.R ob (rdEl T n a) l r) (hv : VRV U γ w a v) :
    Rv (In γ.o (r.2.2 ++ r.2.1)) w v r.1 ∧ roK r.2.1 ∧ (∀ i ∈ r.2.2, 1000 ≤ i ∧ U i) ∧ (r.2.2 ≠ [] → 1 ∈ r.2.1) := by
  unfold rdEl at h
  split at h
  case isFalse => exact h.elim
  rename_i hform
  split at h
  case h_2 => exact h.elim
  rename_i cs hcs
  obtain ⟨l1, l2, x, _, h1, h2⟩ := Q.R_bind h
  split at h2
  case h_2 => exact h2.elim
  rename_i y hy
  obtain ⟨_, rfl⟩ := h2
  obtain ⟨vs, k1, k2⟩ := cellsOf_ok hcs hv
  obtain ⟨r1, r2, r3, r4⟩ := rdE_ok hob h1 k1
  refine ⟨⟨vs, ?_, ?_⟩, r2, r3, r4⟩
  · rw [hR.ag]
    rcases k2 with ⟨u, rfl, rfl, b, rfl⟩ | ⟨rfl, b, rfl⟩
    · simp only [formOk, Bool.not_eq_true'] at hform
      simp [hform, pack]
    · simp only [formOk] at hform
      simp [hform, pack]
  · rw [hR.rd, hR.mk? hy]
    exact r1
theorem rdEls_ok (hR : RepOk T) (hob : OB U γ w ob) {n : Nat} : ∀ {as : List (AV D)} {vs : List Value} {l : List Nat} {r : List (D n) × List Nat × List Nat}, Q.R ob (rdEls T n as) l r → VRVs U γ w as vs →
    AllV (In γ.o (r.2.2 ++ r.2.1)) w vs r.1 ∧ roK r.2.1 ∧ (∀ i ∈ r.2.2, 1000 ≤ i ∧ U i) ∧ (r.2.2 ≠ [] → 1 ∈ r.2.1) ∧ r.1.length = as.length
  | [], vs, l, r, h, hv => by
    obtain ⟨_, rfl⟩ := h
    cases vs with
    | nil => exact ⟨trivial, roK_nil, by simp, fun h => (h rfl).elim, rfl⟩
    | cons _ _ => exact hv.elim
  | a :: as, vs, l, r, h, hv => by
    cases vs with
    | nil => exact hv.elim
    | cons v vs =>
      simp only [rdEls] at h
      obtain ⟨l1, l2, x, _, h1, h2⟩ := Q.R_bind h
      obtain ⟨l3, l4, y, _, h3, h4⟩ := Q.R_bind h2
      obtain ⟨_, rfl⟩ := h4
      obtain ⟨i1, i2, i3, i4⟩ := rdEl_ok hR hob h1 hv.1
      obtain ⟨j1, j2, j3, j4, j5⟩ := rdEls_ok hR hob h3 hv.2
      have mono : ∀ {vs : List Value} {xs : List (D n)}, AllV (In γ.o (y.2.2 ++ y.2.1)) w vs xs → AllV (In γ.o ((x.2.2 ++ y.2.2) ++ (x.2.1 ++ y.2.1))) w vs xs := by
        intro vs
        induction vs with
        | nil => intro xs h; cases xs with
          | nil => trivial
          | cons _ _ => exact h.elim
        | cons u us ih => intro xs h; cases xs with
          | nil => exact h.elim
          | cons z zs => exact ⟨h.1.weaken fun b hb => by
              unfold In at hb ⊢
              rcases List.mem_append.1 hb with hb | hb <;> simp [hb], ih h.2⟩
      refine ⟨⟨i1.weaken fun b hb => ?_, mono j1⟩, ?_, ?_, fun h => ?_, by simp [j5]⟩
      · unfold In at hb ⊢
        rcases List.mem_append.1 hb with hb | hb <;> simp [hb]
      · intro z hz
        rcases List.mem_append.1 hz with hz | hz
        · exact i2 z hz
        · exact j2 z hz
      · intro z hz
        rcases List.mem_append.1 hz with hz | hz
        · exact i3 z hz
        · exact j3 z hz
      · rw [List.mem_append]
        by_cases h5 : x.2.2 = []
        · exact .inr (j4 fun h6 => h (by simp [h5, h6]))
        · exact .inl (i4 h5)
theorem fzP_ok {fz : List Nat} (h : ∀ i ∈ fz, 1000 ≤ i ∧ U i) {e : Eff D} (he : e.fz = fz) : ∀ p ∈ fzP fz, 1000 ≤ p.1 ∧ (U p.1 → p.1 ∈ e.wr) ∧ (p.2 = 1 ∨ (nid ≤ p.2 ∧ p.2 < nid + 64)) := by
  intro p hp
  simp only [fzP, List.mem_map] at hp
  obtain ⟨q, hq, rfl⟩ := hp
  exact ⟨(h q hq).1, fun _ => by simp [Eff.wr, he, hq], .inl rfl⟩
/-- a new slice of the call's own -/
theorem slPost (hx : Cx U nid γ w sl L ob) {n t : Nat} {xs : List (D n)} {K fz : List Nat} {o' : Cls} {w' : World} {v : Value} (hK : roK K) (hfz : ∀ i ∈ fz, 1000 ≤ i ∧ U i) (h1 : fz ≠ [] → 1 ∈ K) (hev : Evo [] [nid] γ.o w o' w') (hO : Ow t o' nid (fz ++ K) w' v xs) :
    ∃ γ', Post U nid γ w ob ⟨.c (.one (.own nid)), [(nid, some (.sl n t xs K (nid + 16)))], fz⟩ γ' v w' := by
  have hnf : nid ∉ fz := fun h => hx.fresh nid (Nat.le_refl _) (by omega) (hfz _ h).2
  refine ⟨_, mkPost (M := []) (N := [nid]) (ps := fzP fz) (g' := gAt γ.g nid v) (v' := nms γ.v (nid + 16) [⟨.sl n, xs⟩]) hx.ob hev (by simp) (by simp) (fzP_ok hfz rfl) hx.big (fun i hi => gAt_old hx hi) (fun i hi => nms_keep hx (by simp) hi) ⟨addU_nid, (gAt_eq _ _ _).symm, hO.one⟩ ?_⟩
  intro j x hj hfz'
  obtain ⟨rfl, hx'⟩ := look1 hj
  cases hx'
  refine ⟨hx.big, addU_nid, ?_, hK, named1 (γ := γ) (i := 0) rfl (by omega) rfl⟩
  show Ow t _ nid K w' (gAt γ.g nid v nid) xs
  rw [gAt_eq]
  refine Ow.relab (fun b hb => ?_) (fun b hb => ?_) hO
  · show rel (fzP fz) (o' b) = nid
    rw [hb, rel_fz.2 hnf]
  · exact fz_in hK h1 (fun i hi => (hfz i hi).1) b hb
theorem seqB_vals (hs : SR U γ w sl L) : ∀ {ps : List (Nat × Operand)} {k : Nat} {as : List (AV D)}, seqB k ps = true → evOs sl (ps.map (·.2)) = some as → ∃ vs, partVals L k ps = some vs ∧ VRVs U γ w as vs
  | [], k, as, _, h => by
    simp only [List.map_nil, evOs, Option.some.injEq] at h
    subst h
    exact ⟨[], rfl, trivial⟩
  | (i, x) :: r, k, as, hb, h => by
    simp only [seqB, Bool.and_eq_true] at hb
    cases as with
    | nil => have := evOs_len h; simp at this
    | cons a as =>
      obtain ⟨h1, h2⟩ := evOs_cons h
      obtain ⟨v, e1, e2⟩ := evO_ok hs h1
      obtain ⟨vs, e3, e4⟩ := seqB_vals hs hb.2 h2
      exact ⟨v :: vs, by simp [partVals, hb.1, e1, e3], e2, e4⟩
theorem buildSlice_ok [Rd] (hP : POk P T) (hR : RepOk T) (hx : Cx U nid γ w sl L ob) {t e' n m : Nat} {ps : Array (Nat × Operand)} {as : List (AV D)} {r : List (D n) × List Nat × List Nat} (ht : lookN T.els t = some (e', n)) (hb : seqB 0 ps.toList = true) (hm : ps.toList.length = m) (hsz : m * (T.lv n).length ≤ 65536)
    (he : evOs sl (ps.toList.map (·.2)) = some as) (h : Q.R ob (rdEls T n as) l r) :
    OW P Qx L ⟨d, .buildSlice t m ps, ty, pos, af, gd⟩ w (fun v w' => ∃ γ', Post U nid γ w ob ⟨.c (.one (.own nid)), [(nid, some (.sl n e' r.1 r.2.1 (nid + 16)))], r.2.2⟩ γ' v w') := by
  obtain ⟨hu, hT⟩ := hP.els t e' n ht
  obtain ⟨vs, h1, h2⟩ := seqB_vals hx.sr hb he
  obtain ⟨i1, i2, i3, i4, i5⟩ := rdEls_ok hR hx.ob h h2
  have hlen : r.1.length = m := by
    rw [i5, ← hm]
    simpa using (evOs_len he).symm
  have := OW.buildSlice (P := P) (Q := Qx) (L := L) (w := w) (d := d) (ty := ty) (pos := pos) (af := af) (g := gd) (o := γ.o) (k := nid) hu hT h1 i1 hlen (by rw [hR.sz]; exact Nat.ble_eq_true_of_le hsz)
  refine OW.mono this ?_
  rintro v w' ⟨o', hev, hO⟩
  exact slPost hx i2 i3 i4 hev hO

/-! arrays -/
theorem buildArr_ok [Rd] (hP : POk P T) (hR : RepOk T) (hx : Cx U nid γ w sl L ob) {t e' n m : Nat} {ps : Array (Nat × Operand)} {as : List (AV D)} {r : List (D n) × List Nat × List Nat} (ht : lookN T.ars t = some (m, e', n)) (hb : seqB 0 ps.toList = true) (hm : ps.toList.length = m)
    (he : evOs sl (ps.toList.map (·.2)) = some as) (h : Q.R ob (rdEls T n as) l r) :
    OW P Qx L ⟨d, .build t ps, ty, pos, af, gd⟩ w (fun v w' => ∃ γ', Post U nid γ w ob ⟨.c (.one (.arr n r.1 r.2.1)), [], r.2.2⟩ γ' v w') := by
  have hA := hP.ars t m e' n ht
  obtain ⟨vs, h1, h2⟩ := seqB_vals hx.sr hb he
  obtain ⟨i1, i2, i3, i4, i5⟩ := rdEls_ok hR hx.ob h h2
  have hlen : r.1.length = m := by
    rw [i5, ← hm]
    simpa using (evOs_len he).symm
  have := OW.buildArr (P := P) (Q := Qx) (L := L) (w := w) (d := d) (ty := ty) (pos := pos) (af := af) (g := gd) hA.und hA.el hA.z h1 i1 hlen
  refine OW.mono this ?_
  rintro v w' ⟨rfl, css, rfl, h5⟩
  refine ⟨_, mkPost (M := []) (N := []) (ps := fzP r.2.2) (g' := γ.g) (v' := γ.v) hx.ob (Evo.refl _ _ _ _) (by simp) (by simp) (fzP_ok i3 rfl) hx.big (fun _ _ => rfl) (fun _ _ => rfl) ?_ (fun j x hj => ?_)⟩
  · exact ⟨⟨css, rfl, h5.mono fun _ _ => Rep.mono fun b hb _ => ⟨fz_in i2 i4 (fun i hi => (i3 i hi).1) b hb, rfl⟩⟩, i2⟩
  · simp [lookN] at hj
/-- .. known cell by cell -/
theorem buildAgg_ok [Rd] (hP : POk P T) (hR : RepOk T) (hx : Cx U nid γ w sl L ob) {t e' n m : Nat} {ps : Array (Nat × Operand)} {as : List (AV D)} {r : List (D n) × List Nat × List Nat} (ht : lookN T.ars t = some (m, e', n)) (hb : seqB 0 ps.toList = true) (hm : ps.toList.length = m)
    (he : evOs sl (ps.toList.map (·.2)) = some as) (h : Q.R ob (rdEls T n as) l r) (hf : r.2.2 = []) (hl : (r.1.flatMap (T.out n)).length ≤ 48) :
    OW P Qx L ⟨d, .build t ps, ty, pos, af, gd⟩ w (fun v w' => ∃ γ', Post U nid γ w ob ⟨.c (.agg (cellsD r.2.1 (nid + 16) (r.1.flatMap (T.out n)))), [], []⟩ γ' v w') := by
  have hA := hP.ars t m e' n ht
  obtain ⟨vs, h1, h2⟩ := seqB_vals hx.sr hb he
  obtain ⟨i1, i2, i3, i4, i5⟩ := rdEls_ok hR hx.ob h h2
  have hlen : r.1.length = m := by
    rw [i5, ← hm]
    simpa using (evOs_len he).symm
  rw [hf, List.nil_append] at i1
  have := OW.buildArr (P := P) (Q := Qx) (L := L) (w := w) (d := d) (ty := ty) (pos := pos) (af := af) (g := gd) hA.und hA.el hA.z h1 i1 hlen
  refine OW.mono this ?_
  rintro v w' ⟨rfl, css, rfl, h5⟩
  refine ⟨_, post1 hx _ hl ⟨css.flatten, rfl, ?_⟩⟩
  exact cellsD_ok (γ' := ⟨γ.o, γ.g, nms γ.v (nid + 16) (r.1.flatMap (T.out n))⟩) i2 (css_ok hR h5) fun i x hi => named1 rfl (by have := (List.getElem?_eq_some_iff.1 hi).1; omega) hi
theorem aggArr_ok (hR : RepOk T) (hob : OB U γ w ob) {n : Nat} {cs : List (A1 D)} {us : List Value} {r : List (D n) × List Nat × List Nat} (hag : T.ag n = false) (h : Q.R ob (rdEls T n (cs.map fun c => .c (.one c))) l r) (hv : VR1s U γ w cs us) (hf : r.2.2 = []) : VR1 U γ w (.arr n r.1 r.2.1) (.agg us.toArray) := by
  have hvs : VRVs U γ w (cs.map fun c => (.c (.one c) : AV D)) us := by
    clear h
    induction cs generalizing us with
    | nil => cases us with
      | nil => trivial
      | cons _ _ => exact hv.elim
    | cons c cs ih => cases us with
      | nil => exact hv.elim
      | cons u us => exact ⟨hv.1, ih hv.2⟩
  obtain ⟨i1, i2, _, _, _⟩ := rdEls_ok hR hob h hvs
  rw [hf, List.nil_append] at i1
  have hfl : ∀ us : List Value, (us.map fun u => [u]).flatten = us := fun us => by
    induction us with
    | nil => rfl
    | cons u us ih => simp [ih]
  refine ⟨⟨us.map fun u => [u], by rw [hfl], ?_⟩, i2⟩
  generalize r.1 = xs at i1
  clear h hvs hv
  induction us generalizing xs with
  | nil => cases xs with
    | nil => trivial
    | cons _ _ => exact i1.elim
  | cons u us ih => cases xs with
    | nil => exact i1.elim
    | cons x xs => exact ⟨Rv.rd1 i1.1 (by rw [hR.ag]; exact hag), ih xs i1.2⟩
theorem indexArr_ok [Rd] (hP : POk P T) (hR : RepOk T) (hx : Cx U nid γ w sl L ob) {t e' n m : Nat} {u i : Operand} {xs : List (D n)} {K : List Nat} {j : Int} {y : D n} {va : Value} {r : AV D} (ht : lookN T.ars t = some (m, e', n)) (hm : xs.length = m)
    (hu : ev L u = some va) (hva : VR1 U γ w (.arr n xs K) va) (hi : ev L i = some (.int .i64 j)) (hj : idx xs j = some y) (hr : packA (T.ag n) (cellsD K (nid + 16) (T.out n y)) = some r) :
    OW P Qx L ⟨d, .index t u i, ty, pos, af, gd⟩ w (fun v w' => ∃ γ', Post U nid γ w ob ⟨r, [], []⟩ γ' v w') := by
  have hA := hP.ars t m e' n ht
  obtain ⟨⟨css, rfl, h1⟩, h2⟩ := hva
  refine OW.mono (OW.indexArr hA.und hm hA.el hu h1 hi hj) ?_
  rintro v w' ⟨rfl, cs, rfl, h3⟩
  have hl : (T.out n y).length ≤ 48 := by rw [out_len]; exact hR.few n
  have h4 := cellsD_ok (γ' := ⟨γ.o, γ.g, nms γ.v (nid + 16) (T.out n y)⟩) (U := addU U nid) h2 (g := nid + 16) ((hR.rd n _ _ _ _).1 h3) (fun i x hix => named1 (γ := γ) rfl (by
    have := (List.getElem?_eq_some_iff.1 hix).1
    omega) hix)
  refine ⟨_, post1 hx (T.out n y) hl ?_⟩
  rw [hR.ag]
  unfold packA at hr
  cases hg : T.ag n with
  | true =>
    rw [hg] at hr
    cases hr
    exact ⟨cs, rfl, h4⟩
  | false =>
    rw [hg] at hr
    simp only [Bool.false_eq_true, if_false] at hr
    split at hr
    case h_2 => cases hr
    rename_i a ha
    cases hr
    rw [ha] at h4
    cases cs with
    | nil => exact h4.elim
    | cons c cs => exact h4.1

/-! elements -/
theorem Ow.head {t : TypeId} {o : Cls} {k : Nat} {K : List Nat} {v : Value} {n : Nat} {xs : List (D n)} {y : D n} {j : Int} (h : Ow t o k K w v xs) (hj : idx xs j = some y) : ∃ b cap, v = .slice (some ⟨b, 0, none⟩) xs.length cap := by
  rcases h with ⟨rfl, rfl⟩ | ⟨g, cap, cur, css, e1, _⟩
  · unfold idx at hj; split at hj <;> simp at hj
  · exact ⟨g, cap, e1⟩
theorem idx_ok [Rd] (hP : POk P T) (hx : Cx U nid γ w sl L ob) {t e' n tj : Nat} {u i : Operand} {a : A1 D} {va : Value} {j : Int} (ht : lookN T.els t = some (e', n)) (hu : ev L u = some va) (hva : VR1 U γ w a va) (hi : ev L i = some (.int .i64 j)) (htj : named U γ tj ⟨.int .i64, j⟩)
    (h : Q.R ob (idxQ n j tj a) l e) :
    OW P Qx L ⟨d, .indexAddr t u i, ty, pos, af, gd⟩ w (fun v w' => ∃ γ', Post U nid γ w ob e γ' v w') := by
  obtain ⟨hund, hT⟩ := hP.els t e' n ht
  unfold idxQ at h
  split at h
  · rename_i n' xs K g
    split at h
    case isFalse => exact h.elim
    rename_i hn
    have hn := Nat.eq_of_beq_eq_true hn
    subst hn
    obtain ⟨y, hy, _, rfl⟩ := h
    obtain ⟨h1, h2, h3⟩ := hva
    refine OW.mono (OW.indexAddr hund hT hu h1 hi hy) ?_
    rintro v w' ⟨rfl, pa, rfl, hp, _⟩
    exact ⟨γ, post0 hx ⟨pa, by rw [add_zero'], hp, h3⟩⟩
  · rename_i i'
    obtain ⟨ao, l', ho, rfl, h⟩ := h
    obtain ⟨hU, rfl, _⟩ := hva
    have key : ∀ {n' tc : Nat} {xs : List (D n')}, ((∀ y, idx xs j = some y → ∃ b cap, γ.g i' = .slice (some ⟨b, 0, none⟩) xs.length cap) ∧ named U γ tc ⟨.sl n', xs⟩) → Q.R ob (if Nat.beq n' n && !(Nat.beq tc 0) then .part (idx xs j) fun y => okE (.c (.one (.el i' n' j y 0 tc tj))) else .fail) l' e →
        OW P Qx L ⟨d, .indexAddr t u i, ty, pos, af, gd⟩ w (fun v w' => ∃ γ', Post U nid γ w ob e γ' v w') := by
      clear h
      rintro n' tc xs ⟨hh, h3⟩ hq
      split at hq
      case isFalse => exact hq.elim
      rename_i hn
      simp only [Bool.and_eq_true, Bool.not_eq_true'] at hn
      have htc : tc ≠ 0 := fun e => by subst e; simp at hn
      have hn := Nat.eq_of_beq_eq_true hn.1
      subst hn
      obtain ⟨y, hy, _, rfl⟩ := hq
      obtain ⟨b, cap, hg⟩ := hh y hy
      refine OW.mono (OW.idxHead hund hT hu hg hi hy) ?_
      rintro v w' ⟨rfl, rfl⟩
      rcases h3 with h3 | ⟨h3, h4⟩
      · exact (htc h3).elim
      refine ⟨γ, post0 hx ⟨hU, ⟨htc, h3⟩, ⟨xs, h4, hy⟩, htj, b, _, _, hg, ?_⟩⟩
      unfold ptrV Addr.add
      split <;> simp_all
    obtain ⟨_, _, h1⟩ := hx.ob.ob _ _ ho
    cases ao with
    | box => exact h.elim
    | sl n' t' xs K tc => exact key ⟨fun y hy => Ow.head h1.1 hy, h1.2.2⟩ h
    | kid n' t' tc' q xs tc h0 => exact key ⟨fun y hy => Ow.head h1.1.ow hy, h1.2.1⟩ h
    | kidh n' t' tc' q xs j' off' s tc =>
      obtain ⟨h2, _, b, len, cap, h3, gg, q', cur, _, _, _, _, _, h4⟩ := h1
      exact key ⟨fun y hy => Ow.head h4.ow hy, h2⟩ h
    | mp => exact h.elim
    | fz n' xs K =>
      dsimp only at h
      split at h
      case isFalse => exact h.elim
      rename_i hn
      have hn := Nat.eq_of_beq_eq_true hn
      subst hn
      obtain ⟨y, hy, _, rfl⟩ := h
      refine OW.mono (OW.indexAddr hund hT hu h1.1 hi hy) ?_
      rintro v w' ⟨rfl, pa, rfl, hp, _⟩
      exact ⟨γ, post0 hx ⟨pa, by rw [add_zero'], hp, h1.2⟩⟩
  · obtain ⟨y, hy, _⟩ := h
    cases hy
  · rename_i i' n0 j0
    obtain ⟨ao, l', ho, rfl, h⟩ := h
    obtain ⟨hU, hj0, p, nn, c, e1, e2, e3⟩ := hva
    cases ao with
    | sl n' t' xs K tc =>
      dsimp only at h
      split at h
      case isFalse => exact h.elim
      rename_i hn
      simp only [Bool.and_eq_true, Bool.not_eq_true'] at hn
      have htc : tc ≠ 0 := fun e => by subst e; simp at hn
      have hn1 := Nat.eq_of_beq_eq_true hn.1.1
      have hn2 := Nat.eq_of_beq_eq_true hn.1.2
      subst hn1
      subst hn2
      obtain ⟨y, hy, _, rfl⟩ := h
      obtain ⟨_, _, h1, h2, h3⟩ := hx.ob.ob _ _ ho
      obtain ⟨p', cap', f1, f2, _⟩ := rv_list h1.rv
      have hy' := hy
      unfold idx at hy'
      split at hy'
      case isFalse => cases hy'
      rename_i hj
      have hyx : idx xs (iadd0 j0 j) = some y := by
        unfold idx
        rw [if_pos (show 0 ≤ j0 + j by omega)]
        rw [List.getElem?_drop] at hy'
        rw [show (iadd0 j0 j).toNat = j0.toNat + j.toNat by show (j0 + j).toNat = _; omega]
        exact hy'
      obtain ⟨b, cap, hg⟩ := Ow.head h1 hyx
      rw [hg] at e1 f1
      simp only [Value.slice.injEq] at e1 f1
      obtain ⟨rfl, rfl, rfl⟩ := e1
      obtain ⟨_, _, rfl⟩ := f1
      have hlt : j0.toNat + j.toNat < xs.length := by
        rw [List.getElem?_drop] at hy'
        exact (List.getElem?_eq_some_iff.1 hy').1
      have hadd : ∀ (q r : Nat), (⟨b, q, none⟩ : Addr).add r = ⟨b, q + r, none⟩ := fun q r => by unfold Addr.add; split <;> simp_all
      have e2' : va = .slice (some ⟨b, j0.toNat * Rep.sz (D n'), none⟩) (drpI xs j0).length (cap - j0.toNat) := by
        rw [e2, if_neg (by omega)]
        simp [hadd]
      refine OW.mono (OW.idxHead (xs := drpI xs j0) hund hT hu e2' hi hy) ?_
      rintro v w' ⟨rfl, rfl⟩
      rcases h3 with h3 | ⟨h3, h4⟩
      · exact (htc h3).elim
      refine ⟨γ, post0 hx ⟨hU, ⟨htc, h3⟩, ⟨xs, h4, hyx⟩, .inl rfl, b, _, _, hg, ?_⟩⟩
      rw [hadd]
      unfold ptrV
      rw [show (iadd0 j0 j).toNat = j0.toNat + j.toNat by show (j0 + j).toNat = _; omega, Nat.add_mul, Nat.add_zero]
    | _ => exact h.elim
  · exact h.elim

/-! make -/
theorem sameO_ok {x y : Operand} {v : Value} (h : sameO x y = true) (hx : ev L x = some v) : ev L y = some v := by
  unfold sameO at h
  split at h
  · rename_i a b
    have := Nat.eq_of_beq_eq_true h
    subst this
    exact hx
  · rename_i a b
    have := of_decide_eq_true h
    subst this
    exact hx
  · cases h
theorem make_ok [Rd] (hP : POk P T) (hR : RepOk T) (hx : Cx U nid γ w sl L ob) {t e' n : Nat} {u1 u2 : Operand} {m : Int} {zs : List (D n)} (ht : lookN T.els t = some (e', n)) (h1 : ev L u1 = some (.int .i64 m)) (h2 : sameO u1 u2 = true) (hm : mkZ (T.zero n) m = some zs) :
    OW P Qx L ⟨d, .makeSlice t u1 u2, ty, pos, af, gd⟩ w (fun v w' => ∃ γ', Post U nid γ w ob ⟨.c (.one (.own nid)), [(nid, some (.sl n e' zs [] (nid + 16)))], []⟩ γ' v w') := by
  obtain ⟨hu, hT⟩ := hP.els t e' n ht
  have hm' : mkL (D n) m = some zs := by
    unfold mkL
    unfold mkZ at hm
    rw [hR.zero]
    exact hm
  refine OW.mono (OW.make (o := γ.o) (k := nid) hu hT h1 (sameO_ok h2 h1) hm') ?_
  rintro v w' ⟨o', hev, hO⟩
  exact slPost hx roK_nil (by simp) (fun h => (h rfl).elim) hev hO

theorem zeros_flat {α : Type} [Rep α] (w : World) (q : Nat) : (Builtin.zeroCells (pack (Rep.agg α) (Rep.zc α)).cells q).toList = (List.replicate q (Rep.zc α)).flatten := by
  have hz : (pack (Rep.agg α) (Rep.zc α)).cells.toList = Rep.zc α := pack_cells (α := α) (Rep.zok (fun _ => True) w)
  have hzl : (Rep.zc α).length = Rep.sz α := Rep.len (Rep.zok (α := α) (fun _ => True) w)
  have hpos := Rep.pos (α := α)
  generalize hzz : (pack (Rep.agg α) (Rep.zc α)).cells = z at *
  unfold Builtin.zeroCells
  have hzs : z.size = Rep.sz α := by rw [← Array.length_toList, hz, hzl]
  have key : ∀ q : Nat, (List.range (q * Rep.sz α)).map (fun i => z[i % z.size]!) = (List.replicate q (Rep.zc α)).flatten := by
    intro q
    induction q with
    | zero => simp
    | succ q ih =>
      rw [List.replicate_succ', List.flatten_append, ← ih, Nat.succ_mul, List.range_add, List.map_append]
      congr 1
      simp only [List.map_map, List.flatten_singleton]
      rw [← hz]
      apply List.ext_getElem?
      intro j
      by_cases hj : j < Rep.sz α
      · have e1 : (q * Rep.sz α + j) % z.size = j := by rw [hzs, Nat.mul_comm, Nat.mul_add_mod, Nat.mod_eq_of_lt hj]
        have hj' : j < z.size := by omega
        simp [hj, e1, hj', getElem!_pos]
      · simp [hj, hzs]
  rw [hzs]
  simpa [hzs] using key q
theorem OW.zeros [Rd] {α : Type} [Rep α] {s x : Operand} {t tn e' k0 : Nat} {o : Cls} {zs : List α} {m : Int} (hu : P.underlying t = some (.slice e')) (hT : TyOk P e' α) (hn : P.underlying tn = some (.int .i64)) (h1 : ev L s = some (.slice none 0 0)) (h2 : ev L x = some (.int .i64 m)) (hm : mkP (Rep.zero : α) m = some zs) :
    OW P Qx L ⟨d, .call { callee := .builtin .append, args := #[s, x], argTypes := #[t, tn] }, ty, pos, af, gd⟩ w (fun v' w' => ∃ o', Evo [] [k0] o w o' w' ∧ Ow e' o' k0 [] w' v' zs) := by
  unfold mkP at hm
  split at hm
  case isFalse => cases hm
  rename_i hb
  cases hm
  obtain ⟨i, hi1, hi2, hi3, hi4⟩ := hT.info
  have hpos := Rep.pos (α := α)
  have hbytes : m.toNat * i.bytes ≤ 281474976710656 := by
    have := Nat.mul_le_mul (show m.toNat ≤ 1073741824 by omega) hi3
    omega
  have hmm : ((m.toNat : Nat) : Int) = m := by omega
  have hr := Lib.run_append_nil_zeros (P := P) w t tn ty e' i _ .i64 .i64 hu hn hi1 hi4 m.toNat (by omega) (by omega) (by omega) hbytes
  rw [hmm] at hr
  have hzc : (pack (Rep.agg α) (Rep.zc α)).cells.toList = Rep.zc α := pack_cells (α := α) (Rep.zok (fun _ => True) w)
  have hzl : (Rep.zc α).length = Rep.sz α := Rep.len (Rep.zok (α := α) (fun _ => True) w)
  have hzs : (pack (Rep.agg α) (Rep.zc α)).cells.size = Rep.sz α := by rw [← Array.length_toList, hzc, hzl]
  have hge := grownCap_ge w m.toNat 0 e'
  refine OW.run fun a ha => ⟨_, _, by simp [execOp, resolve, invoke, builtin, ha _ _ h1, ha _ _ h2, hr]; exact ⟨rfl, rfl⟩, grow o w k0, ?_, .inr ⟨w.heap.size, grownCap w m.toNat 0 e', _, List.replicate m.toNat (Rep.zc α), by simp, grow_new o w k0 _ (Nat.le_refl _), heap_alloc_new w.drew _, ?_, ?_, ?_, ?_, ?_⟩⟩
  · exact (Evo.fresh k0 ((Below.refl _ _).drew.alloc (Nat.le_refl _) _)).weaken (by simp) (by simp)
  · simpa using hge
  · exact grownCap_le_maxLen w _ _ _ (by unfold maxLen; omega)
  · simp only [Array.size_append, size_zeroCells, hzs, ← Nat.add_mul]
    congr 1
    omega
  · exact All2.replicate (Rep.zok _ _) _
  · rw [Array.toList_append, zeros_flat w, List.length_replicate]
    refine List.take_left' ?_
    rw [← zeros_flat w, Array.length_toList, size_zeroCells, hzs]
theorem zeros_ok [Rd] (hP : POk P T) (hR : RepOk T) (hx : Cx U nid γ w sl L ob) {t tn e' n : Nat} {s x : Operand} {m : Int} {zs : List (D n)} (ht : lookN T.els t = some (e', n)) (htn : lookN T.ty tn = some (.one (.int .i64))) (h1 : ev L s = some (.slice none 0 0)) (h2 : ev L x = some (.int .i64 m)) (hm : mkP (T.zero n) m = some zs) :
    OW P Qx L ⟨d, .call { callee := .builtin .append, args := #[s, x], argTypes := #[t, tn] }, ty, pos, af, gd⟩ w (fun v w' => ∃ γ', Post U nid γ w ob ⟨.c (.one (.own nid)), [(nid, some (.sl n e' zs [] (nid + 16)))], []⟩ γ' v w') := by
  obtain ⟨hu, hT⟩ := hP.els t e' n ht
  refine OW.mono (OW.zeros (o := γ.o) (k0 := nid) hu hT (hP.ty _ _ htn).2 h1 h2 (by rw [hR.zero]; exact hm)) ?_
  rintro v w' ⟨o', hev, hO⟩
  exact slPost hx roK_nil (by simp) (fun h => (h rfl).elim) hev hO
theorem OwC.kc {α : Type} [Rep α] {z : Nat} {t tc : TypeId} {o : Cls} {k kc : Nat} {v : Value} {xs : List α} (h : OwC z t tc o k kc w v xs) (hn : ∀ b, b < w.heap.size → o b ≠ kc) : OwC z t tc (kcls o k v) 0 1 w v xs := by
  rcases h with h | ⟨g, cap, cur, css, h1, h2, h3, h4, h5, h6, h7, h8, h9, h10⟩
  · exact .inl h
  · refine .inr ⟨g, cap, cur, css, h1, kcls_eq0 h2 (by rw [h1]; exact Nat.beq_refl g), h3, h4, h5, h6, h7.mono fun _ _ => Rep.mono fun b hb hlt => ?_, h8, fun u hu p n c e => ?_, h10⟩
    · have hb : o b = kc := by simpa [In] using hb
      exact (hn b hlt hb).elim
    · rcases h9 u hu p n c e with h | ⟨g', cur', i1, i2, i3, i4⟩
      · exact .inl h
      · exact (hn g' (Array.getElem?_eq_some_iff.1 i3).1 i2).elim
theorem makeKid_ok [Rd] (hP : POk P T) (hR : RepOk T) (hx : Cx U nid γ w sl L ob) {t e' n tc q : Nat} {u1 u2 : Operand} {m : Int} {zs : List (D n)} (ht : lookN T.els t = some (e', n)) (hk : lookN T.kd n = some (tc, q)) (h1 : ev L u1 = some (.int .i64 m)) (h2 : sameO u1 u2 = true) (hm : mkZ (T.zero n) m = some zs) :
    OW P Qx L ⟨d, .makeSlice t u1 u2, ty, pos, af, gd⟩ w (fun v w' => ∃ γ', Post U nid γ w ob ⟨.c (.one (.own nid)), [(nid, some (.kid n e' tc q zs (nid + 16) 0))], []⟩ γ' v w') := by
  obtain ⟨hu, hT⟩ := hP.els t e' n ht
  have hK := hP.kd n tc q hk
  have hm' : mkL (D n) m = some zs := by
    unfold mkL
    unfold mkZ at hm
    rw [hR.zero]
    exact hm
  refine OW.mono (OW.makeC (o := γ.o) (k := nid) (nid + 1) (Rep.sz (D q)) tc hK.zc hu hT h1 (sameO_ok h2 h1) hm') ?_
  rintro v w' ⟨o', hev, hO⟩
  have hne : ∀ b, b < w'.heap.size → o' b ≠ nid + 1 := fun b hb e => by
    by_cases hlt : b < w.heap.size
    · rw [hev.old b hlt] at e
      exact hx.nw hlt (by omega) (by omega) e
    · have := hev.new b (by omega) hb
      simp at this
      omega
  have hO' := OwC.kc hO hne
  refine ⟨_, mkPost (M := []) (N := [nid]) (ps := []) (g' := gAt γ.g nid v) (v' := nms γ.v (nid + 16) [⟨.sl n, zs⟩]) hx.ob hev (by simp) (by simp) (by simp) hx.big (fun i hi => gAt_old hx hi) (fun i hi => nms_keep hx (by simp) hi) ⟨addU_nid, (gAt_eq _ _ _).symm, hO.one⟩ ?_⟩
  intro j x hj hfz'
  obtain ⟨rfl, hx'⟩ := look1 hj
  cases hx'
  refine ⟨hx.big, addU_nid, ?_, named1 (γ := γ) (i := 0) rfl (by omega) rfl, .inl rfl⟩
  show OwC _ e' tc (kcls o' nid (gAt γ.g nid v nid)) 0 1 w' (gAt γ.g nid v nid) zs
  rw [gAt_eq]
  exact hO'

/-! append -/
theorem Ow.pre0 {α : Type} [Rep α] {T : TypeId} {o : Cls} {k : Nat} {K : List Nat} {w : World} {v v' : Value} {j : Nat} {xs : List α} (h : Ow T o k K w v xs) (hp : PreO v v' j) : Ow T o k K w v' (xs.take j) := by
  obtain ⟨p, m, c, h1, rfl, hj⟩ := hp
  rcases h with ⟨rfl, rfl⟩ | ⟨gg, cap, cur, css, rfl, h2, h3, h4, h5, h6, h7, h8⟩
  · cases h1
    have : j = 0 := by omega
    subst this
    exact .inl ⟨rfl, rfl⟩
  · cases h1
    have hl : (xs.take j).length = j := by simp; omega
    refine .inr ⟨gg, c, cur, css.take j, by rw [hl], h2, h3, by omega, h5, h6, h7.take j, ?_⟩
    rw [flatten_take h7.sizes, ← h8, List.take_take, hl]
    congr 1
    exact (Nat.min_eq_left (Nat.mul_le_mul_right _ hj)).symm
theorem Ow.tailEls {α : Type} [Rep α] {T : TypeId} {o : Cls} {k j : Nat} {K : List Nat} {w : World} {v v' : Value} {xs : List α} (h : Ow T o k K w v xs) (ht : TailOf (Rep.sz α) v v' j) : Els (In o K) w v' (xs.drop j) := by
  obtain ⟨p, m, c, h1, rfl, hj⟩ := ht
  rcases h with ⟨rfl, rfl⟩ | ⟨gg, cap, cur, css, rfl, h2, h3, h4, h5, h6, h7, h8⟩
  · cases h1
    have : j = 0 := by omega
    subst this
    exact ⟨_, _, rfl, .inl (by simp)⟩
  · cases h1
    refine ⟨_, _, by rw [List.length_drop], ?_⟩
    rcases Nat.lt_or_ge j xs.length with hlt | hge
    · right
      have hcj : ¬ c = j := by omega
      refine ⟨⟨gg, j * Rep.sz α, none⟩, css.drop j, ?_, h7.drop j, ?_⟩
      · have hadd : (⟨gg, 0, none⟩ : Addr).add (j * Rep.sz α) = ⟨gg, j * Rep.sz α, none⟩ := by unfold Addr.add; split <;> simp_all
        simp [hcj, hadd]
      · intro q u hq
        have hadd : (⟨gg, j * Rep.sz α, none⟩ : Addr).add q = ⟨gg, j * Rep.sz α + q, none⟩ := by unfold Addr.add; split <;> simp_all
        rw [hadd, cell_of_row w gg _ cur T (0, 0) h3]
        rw [flatten_drop h7.sizes, List.getElem?_drop, ← h8, List.getElem?_take] at hq
        split at hq
        · simpa using hq
        · cases hq
    · exact .inl (List.drop_eq_nil_of_le hge)
theorem rdSl_ok (hob : OB U γ w ob) {n : Nat} {a : A1 D} {v : Value} {r : List (D n) × List Nat} (h : Q.R ob (rdSl n a) l r) (hv : VR1 U γ w a v) : Els (In γ.o r.2) w v r.1 ∧ roK r.2 := by
  unfold rdSl at h
  split at h
  · rename_i n' xs K g
    split at h
    case isFalse => exact h.elim
    rename_i hn
    subst hn
    obtain ⟨_, rfl⟩ := h
    exact ⟨hv.1.els, hv.2.2⟩
  · obtain ⟨_, rfl⟩ := h
    have hv : v = .slice none 0 0 := hv
    subst hv
    exact ⟨⟨none, 0, rfl, .inl rfl⟩, roK_nil⟩
  · obtain ⟨ao, l', ho, rfl, h⟩ := h
    cases ao with
    | box => exact h.elim
    | kid => exact h.elim
    | kidh => exact h.elim
    | sl n' t xs K g =>
      dsimp only at h
      split at h
      case isFalse => exact h.elim
      rename_i hn
      subst hn
      obtain ⟨_, rfl⟩ := h
      obtain ⟨_, rfl, _⟩ := hv
      obtain ⟨_, _, h1, h2, _⟩ := hob.ob _ _ ho
      exact ⟨h1.els, h2⟩
    | mp => exact h.elim
    | fz n' xs K =>
      dsimp only at h
      split at h
      case isFalse => exact h.elim
      rename_i hn
      subst hn
      obtain ⟨_, rfl⟩ := h
      obtain ⟨_, rfl, _⟩ := hv
      obtain ⟨_, _, h1, h2⟩ := hob.ob _ _ ho
      exact ⟨h1.els, h2⟩
  · obtain ⟨ao, l', ho, rfl, h⟩ := h
    cases ao with
    | box => exact h.elim
    | kid => exact h.elim
    | kidh => exact h.elim
    | fz => exact h.elim
    | mp => exact h.elim
    | sl n0 t xs K g =>
      dsimp only at h
      split at h
      case isFalse => exact h.elim
      rename_i hn0
      have hn0 := Nat.eq_of_beq_eq_true hn0
      subst hn0
      split at h
      case isFalse => exact h.elim
      rename_i hn
      subst hn
      obtain ⟨_, rfl⟩ := h
      obtain ⟨_, ht⟩ := hv
      obtain ⟨_, _, h1, h2, _⟩ := hob.ob _ _ ho
      exact ⟨Ow.tailEls h1 ht.2, h2⟩
  · obtain ⟨ao, l', ho, rfl, h⟩ := h
    cases ao with
    | box => exact h.elim
    | kid => exact h.elim
    | kidh => exact h.elim
    | fz => exact h.elim
    | mp => exact h.elim
    | sl n0 t xs K g =>
      dsimp only at h
      split at h
      case isFalse => exact h.elim
      rename_i hn0
      have hn0 := Nat.eq_of_beq_eq_true hn0
      subst hn0
      split at h
      case isFalse => exact h.elim
      rename_i hn
      subst hn
      obtain ⟨_, rfl⟩ := h
      obtain ⟨_, ht⟩ := hv
      obtain ⟨_, _, h1, h2, _⟩ := hob.ob _ _ ho
      exact ⟨(Ow.pre0 h1 ht).els, h2⟩
  · exact h.elim
theorem Els.weaken {n : Nat} {S S' : Nat → Prop} {v : Value} {xs : List (D n)} (hm : ∀ b, S b → S' b) (h : Els S w v xs) : Els S' w v xs := by
  obtain ⟨p, cap, rfl, h⟩ := h
  refine ⟨p, cap, rfl, ?_⟩
  rcases h with h | ⟨a, css, h1, h2, h3⟩
  · exact .inl h
  · exact .inr ⟨a, css, h1, h2.mono fun _ _ => Rep.mono fun b hb _ => ⟨hm b hb, rfl⟩, h3⟩
theorem addr_off (b p off : Nat) : (⟨b, p, none⟩ : Addr).add off = ⟨b, p + off, none⟩ := by
  unfold Addr.add
  split <;> simp_all
theorem append_ok [Rd] (hP : POk P T) (hR : RepOk T) (hx : Cx U nid γ w sl L ob) {t e' n : Nat} {s x : Operand} {a b : A1 D} {va vb : Value} (ht : lookN T.els t = some (e', n)) (hs : ev L s = some va) (hva : VR1 U γ w a va) (hb : ev L x = some vb) (hvb : VR1 U γ w b vb)
    (h : Q.R ob (appQ T nid n e' a b) l e) :
    OW P Qx L ⟨d, .call { callee := .builtin .append, args := #[s, x], argTypes := #[t, t] }, ty, pos, af, gd⟩ w (fun v w' => ∃ γ', Post U nid γ w ob e γ' v w') := by
  obtain ⟨hu, hT⟩ := hP.els t e' n ht
  unfold appQ at h
  obtain ⟨l1, l2, y0, _, h1, h⟩ := Q.R_bind h
  obtain ⟨k10, k20⟩ := rdSl_ok hx.ob h1 hvb
  have kf : Els (In γ.o (flK T n y0.2)) w vb y0.1 ∧ roK (flK T n y0.2) := by
    unfold flK
    split
    · rename_i hf
      haveI := hR.flat hf
      exact ⟨Els.flat k10, fun z hz => by cases hz⟩
    · exact ⟨k10, k20⟩
  obtain ⟨ys, hys⟩ : ∃ ys : List (D n) × List Nat, ys = (y0.1, flK T n y0.2) := ⟨_, rfl⟩
  rw [← hys] at h
  have k1 : Els (In γ.o ys.2) w vb ys.1 := by rw [hys]; exact kf.1
  have k2 : roK ys.2 := by rw [hys]; exact kf.2
  clear hys kf k10 k20 h1
  unfold appQ.appQ1 at h
  cases a with
  | own i =>
    obtain ⟨ao, l', ho, rfl, h⟩ := h
    cases ao with
    | box => exact h.elim
    | kid => exact h.elim
    | kidh => exact h.elim
    | fz => exact h.elim
    | mp => exact h.elim
    | sl n' t' xs K g =>
      dsimp only at h
      split at h
      case isFalse => exact h.elim
      rename_i hn
      subst hn
      split at h
      case isFalse => exact h.elim
      rename_i htt
      have htt := Nat.eq_of_beq_eq_true htt
      subst htt
      obtain ⟨zs, hz, _, rfl⟩ := h
      obtain ⟨hU, rfl, _⟩ := hva
      obtain ⟨hi1000, _, m1, m2, m3⟩ := hx.ob.ob _ _ ho
      have hK : roK (ys.2 ++ K) := fun z hz => by
        rcases List.mem_append.1 hz with hz | hz
        · exact k2 z hz
        · exact m2 z hz
      have hdis : disj (ys.2 ++ K) [i] = true := disj_of fun z hz => by
        simp only [List.mem_singleton]
        rintro rfl
        have := hK _ hz
        omega
      have m1' : Ow t' γ.o i (ys.2 ++ K) w (γ.g i) xs := Ow.relab (fun _ h => h) (fun b hb => by unfold In at hb ⊢; simp [hb]) m1
      refine OW.mono (OW.append hu hT hs hb m1' (Els.weaken (fun b hb => by unfold In at hb ⊢; simp [hb]) k1) hz hdis) ?_
      rintro v w' ⟨o', hev, hO⟩
      have hin : i ≠ nid := fun e => hx.fresh nid (Nat.le_refl _) (by omega) (e ▸ hU)
      have hlk : ∀ {j : Nat} {x : AO D}, lookN [(nid, some (AO.sl n' t' zs (ys.2 ++ K) (nid + 16))), (i, none)] j = some (some x) → j = nid ∧ x = .sl n' t' zs (ys.2 ++ K) (nid + 16) := by
        intro j x hj
        have := lookN_mem hj
        simp only [List.mem_cons, Prod.mk.injEq, List.not_mem_nil, or_false, Option.some.injEq, reduceCtorEq, and_false] at this
        exact this
      have hrel : ∀ z, z ≠ i → rel [(i, nid)] z = z := fun z hz => by
        unfold rel
        split
        · rename_i y hy
          have := (look1 hy).1
          exact (hz this.symm).elim
        · rfl
      have hreli : rel [(i, nid)] i = nid := by simp [rel, lookN]
      refine ⟨_, mkPost (M := [i]) (N := [i]) (ps := [(i, nid)]) (g' := gAt γ.g nid v) (v' := nms γ.v (nid + 16) [⟨.sl n', zs⟩]) hx.ob hev (by simp [hi1000, hU, Eff.wr]) (by simp) (by simp [hi1000, Eff.wr]) hx.big (fun i hi => gAt_old hx hi) (fun i hi => nms_keep hx (by simp) hi) ⟨addU_nid, (gAt_eq _ _ _).symm, hO.one⟩ ?_⟩
      intro j x hj hfz'
      obtain ⟨rfl, rfl⟩ := hlk hj
      refine ⟨hx.big, addU_nid, ?_, hK, named1 (γ := γ) (i := 0) rfl (by omega) rfl⟩
      show Ow t' _ j (ys.2 ++ K) w' (gAt γ.g j v j) zs
      rw [gAt_eq]
      refine Ow.relab (fun b hb => ?_) (fun b hb => ?_) hO
      · show rel [(i, j)] (o' b) = j
        rw [hb, hreli]
      · have : o' b ≠ i := fun e => by
          unfold In at hb
          have := hK _ hb
          omega
        show rel [(i, j)] (o' b) ∈ _
        rw [hrel _ this]
        exact hb
  | pre i ne j =>
    obtain ⟨ao, l', ho, rfl, h⟩ := h
    cases ao with
    | box => exact h.elim
    | kid => exact h.elim
    | kidh => exact h.elim
    | fz => exact h.elim
    | mp => exact h.elim
    | sl n' t' xs K g =>
      dsimp only at h
      split at h
      case isFalse => exact h.elim
      rename_i hn
      subst hn
      split at h
      case isFalse => exact h.elim
      rename_i htt
      obtain ⟨zs, hz, _, rfl⟩ := h
      simp only [Bool.and_eq_true] at htt
      obtain ⟨htt, hne⟩ := htt
      have htt := Nat.eq_of_beq_eq_true htt
      have hne := Nat.eq_of_beq_eq_true hne
      subst htt hne
      obtain ⟨hU, hpre⟩ := hva
      obtain ⟨hi1000, _, m0, m2, m3⟩ := hx.ob.ob _ _ ho
      have m1 := Ow.pre0 m0 hpre
      have hK : roK (ys.2 ++ K) := fun z hz => by
        rcases List.mem_append.1 hz with hz | hz
        · exact k2 z hz
        · exact m2 z hz
      have hdis : disj (ys.2 ++ K) [i] = true := disj_of fun z hz => by
        simp only [List.mem_singleton]
        rintro rfl
        have := hK _ hz
        omega
      have m1' : Ow t' γ.o i (ys.2 ++ K) w va (xs.take j.toNat) := Ow.relab (fun _ h => h) (fun b hb => by unfold In at hb ⊢; simp [hb]) m1
      refine OW.mono (OW.append hu hT hs hb m1' (Els.weaken (fun b hb => by unfold In at hb ⊢; simp [hb]) k1) hz hdis) ?_
      rintro v w' ⟨o', hev, hO⟩
      have hin : i ≠ nid := fun e => hx.fresh nid (Nat.le_refl _) (by omega) (e ▸ hU)
      have hlk : ∀ {j : Nat} {x : AO D}, lookN [(nid, some (AO.sl n' t' zs (ys.2 ++ K) (nid + 16))), (i, none)] j = some (some x) → j = nid ∧ x = .sl n' t' zs (ys.2 ++ K) (nid + 16) := by
        intro j' x hj
        have := lookN_mem hj
        simp only [List.mem_cons, Prod.mk.injEq, List.not_mem_nil, or_false, Option.some.injEq, reduceCtorEq, and_false] at this
        exact this
      have hrel : ∀ z, z ≠ i → rel [(i, nid)] z = z := fun z hz => by
        unfold rel
        split
        · rename_i y hy
          have := (look1 hy).1
          exact (hz this.symm).elim
        · rfl
      have hreli : rel [(i, nid)] i = nid := by simp [rel, lookN]
      refine ⟨_, mkPost (M := [i]) (N := [i]) (ps := [(i, nid)]) (g' := gAt γ.g nid v) (v' := nms γ.v (nid + 16) [⟨.sl n', zs⟩]) hx.ob hev (by simp [hi1000, hU, Eff.wr]) (by simp) (by simp [hi1000, Eff.wr]) hx.big (fun i hi => gAt_old hx hi) (fun i hi => nms_keep hx (by simp) hi) ⟨addU_nid, (gAt_eq _ _ _).symm, hO.one⟩ ?_⟩
      intro j' x hj hfz'
      obtain ⟨rfl, rfl⟩ := hlk hj
      refine ⟨hx.big, addU_nid, ?_, hK, named1 (γ := γ) (i := 0) rfl (by omega) rfl⟩
      show Ow t' _ j' (ys.2 ++ K) w' (gAt γ.g j' v j') zs
      rw [gAt_eq]
      refine Ow.relab (fun b hb => ?_) (fun b hb => ?_) hO
      · show rel [(i, j')] (o' b) = j'
        rw [hb, hreli]
      · have : o' b ≠ i := fun e => by
          unfold In at hb
          have := hK _ hb
          omega
        show rel [(i, j')] (o' b) ∈ _
        rw [hrel _ this]
        exact hb
  | nils =>
    obtain ⟨zs, hz, _, rfl⟩ := h
    have hva : va = .slice none 0 0 := hva
    subst hva
    have hdis : disj ys.2 [nid] = true := disj_of fun z hz => by
      simp only [List.mem_singleton]
      rintro rfl
      have := k2 _ hz
      have := hx.big
      omega
    refine OW.mono (OW.append hu hT hs hb (Ow.nil e' γ.o nid ys.2 w) k1 hz hdis) ?_
    rintro v w' ⟨o', hev, hO⟩
    have hev' : Evo [] [nid] γ.o w o' w' := ⟨hev.os, hev.tape, hev.output, hev.size, hev.old, hev.new, fun b hb _ => hev.blk b hb (by
      simp only [List.mem_singleton]
      exact hx.nw hb (Nat.le_refl _) (by omega))⟩
    exact slPost (fz := []) hx k2 (by simp) (fun h => (h rfl).elim) hev' hO
  | ch i e1 j off ct m dd =>
    obtain ⟨ao, l', ho, rfl, h⟩ := h
    cases ao with
    | box => exact h.elim
    | sl => exact h.elim
    | kidh => exact h.elim
    | fz => exact h.elim
    | mp => exact h.elim
    | kid e2 te tc q xs gx h0 =>
      dsimp only at h
      split at h
      case isFalse => exact h.elim
      rename_i hc
      have hq := h
      clear h
      simp only [Bool.and_eq_true, Bool.not_eq_true'] at hc
      obtain ⟨⟨⟨⟨⟨⟨c1, c2⟩, c3⟩, c4⟩, c5⟩, c6⟩, c7⟩ := hc
      have c1 := Nat.eq_of_beq_eq_true c1
      have c2 := Nat.eq_of_beq_eq_true c2
      have c4 := Nat.eq_of_beq_eq_true c4
      have c5 := Nat.eq_of_beq_eq_true c5
      have c6 := Nat.eq_of_beq_eq_true c6
      subst c1 c2 c4 c5 c6
      have hct : ct ≠ 0 := fun e => by subst e; simp at c3
      obtain ⟨y, hy, hq⟩ := hq
      dsimp only at hq
      split at hq
      case h_2 => exact hq.elim
      rename_i m' d' hd'
      split at hq
      case isFalse => exact hq.elim
      rename_i hm'
      subst hm'
      obtain ⟨zs, hz, hq⟩ := hq
      dsimp only at hq
      split at hq
      case h_2 => exact hq.elim
      rename_i y' hy'
      obtain ⟨xs', hset, _, rfl⟩ := hq
      have hK : KidT P D e1 tc m' := by
        unfold isKd at c7
        split at c7
        · rename_i p hp
          simp only [Bool.and_eq_true] at c7
          have e1' := Nat.eq_of_beq_eq_true c7.1
          have e2' := Nat.eq_of_beq_eq_true c7.2
          obtain ⟨p1, p2⟩ := p
          subst e1' e2'
          exact hP.kd _ _ _ hp
        · cases c7
      haveI := hK.one
      haveI := hK.flat
      obtain ⟨hU, ⟨_, hUct⟩, _, ⟨b0, len, cap, cells, hg, hcells, hcell⟩, _⟩ := hva
      obtain ⟨hi1000, _, m1, m2, m3⟩ := hx.ob.ob _ _ ho
      rcases m3 with m3 | ⟨_, _, cells', m4, m5⟩
      · exact (hct m3).elim
      rw [hcells] at m4
      cases m4
      have hlv : (T.lv e1)[off]? = some (.sl m') := by
        have : ((T.out e1 y).map DV.l)[off]? = some (.sl m') := by rw [List.getElem?_map, hd']; rfl
        rw [Tab.out, ofHL_kinds] at this
        exact this
      have hF := leaf_prt hR hlv
      have hGy : leafG T e1 off m' y = d' := leafG_eq hd'
      have hSy : leafS T e1 off m' y zs = y' := by unfold leafS; rw [hy']
      obtain ⟨cur, cb, ch⟩ := headB_ow m1 hg
      have hpa : (⟨b0, j.toNat * Rep.sz (D e1), none⟩ : Addr).add off = ⟨b0, j.toNat * Rep.sz (D e1) + off, none⟩ := addr_off _ _ _
      have hE : EPtr (γ.g i) (Rep.sz (D e1)) j ⟨b0, j.toNat * Rep.sz (D e1), none⟩ := ⟨⟨b0, 0, none⟩, len, cap, hg, by rw [addr_off, Nat.zero_add]⟩
      have hcI : CellIs (kcls γ.o i (γ.g i)) 0 w ((⟨b0, j.toNat * Rep.sz (D e1), none⟩ : Addr).add off) va := by
        rw [hpa]
        exact ⟨cb, by rw [m5 b0 len cap _ hg]; exact hcell⟩
      refine OW.mono (OW.appendCh hF hu hT hs hb m1 hE hcI hy k1 (by rw [hGy]; exact hz) (by rw [hSy]; exact hset) rfl) ?_
      rintro v' w' ⟨o', hev, hH⟩
      rw [hpa] at hH
      have hone : v'.oneCell' = true := by
        obtain ⟨_, _, _, _, _, _, h4, _⟩ := hH
        exact h4
      have hblt : b0 < w.heap.size := (Array.getElem?_eq_some_iff.1 ch).1
      obtain ⟨o'', ho''⟩ : ∃ o'' : Cls, o'' = fun b => if b < w.heap.size then γ.o b else i := ⟨_, rfl⟩
      have hol : ∀ b, b < w.heap.size → o'' b = γ.o b := fun b hb => by rw [ho'']; exact if_pos hb
      have hnw : ∀ b, w.heap.size ≤ b → o'' b = i := fun b hb => by rw [ho'']; exact if_neg (by omega)
      have hev' : Evo [i] [i] γ.o w o'' w' := ⟨hev.os, hev.tape, hev.output, hev.size, hol, fun b h1 h2 => by rw [hnw b h1]; exact List.mem_singleton.2 rfl, fun b hb hm => hev.blk b hb fun h1 => hm (by
        have : kcls γ.o i (γ.g i) b = 1 := by simpa using h1
        rw [(kcls_1 this).1]; exact List.mem_singleton.2 rfl)⟩
      refine ⟨_, mkPost (M := [i]) (N := [i]) (ps := []) (g' := gAt γ.g nid v') (v' := nms γ.v (nid + 16) [⟨.sl e1, xs'⟩]) hx.ob hev' (by simp [hi1000, hU, Eff.wr]) (by simp) (by simp) hx.big (fun i hi => gAt_old hx hi) (fun i hi => nms_keep hx (by simp) hi) ⟨.inl hU, addU_nid, (gAt_eq _ _ _).symm, hone⟩ ?_⟩
      intro k x hk hfz'
      obtain ⟨rfl, hx'⟩ := look1 hk
      cases hx'
      refine ⟨hi1000, .inl hU, named1 (γ := γ) (i := 0) rfl (by omega) rfl, addU_nid, b0, len, cap, (gAt_old hx hU).trans hg, ?_⟩
      show OwH _ te tc (kcls o'' i (gAt γ.g nid v' i)) 0 1 w' (gAt γ.g nid v' i) xs' ⟨b0, j.toNat * Rep.sz (D e1) + off, none⟩ (gAt γ.g nid v' nid)
      rw [gAt_old hx hU, gAt_eq]
      refine OwH.mono (fun b hb h0 => ⟨?_, rfl⟩) (fun b hb h1 => ⟨?_, rfl⟩) hH
      · by_cases hlt : b < w.heap.size
        · rw [hev.old b hlt] at h0
          obtain ⟨f1, f2⟩ := kcls_0 h0
          exact kcls_eq0 (by rw [hol b hlt]; exact f1) f2
        · have := hev.new b (by omega) hb
          simp at this
          omega
      · by_cases hlt : b < w.heap.size
        · rw [hev.old b hlt] at h1
          obtain ⟨f1, f2⟩ := kcls_1 h1
          exact kcls_eq1 (by rw [hol b hlt]; exact f1) f2
        · refine kcls_eq1 (hnw b (by omega)) ?_
          rw [hg]
          show Nat.beq b0 b = false
          cases hbb : Nat.beq b0 b with
          | true =>
            have := Nat.eq_of_beq_eq_true hbb
            omega
          | false => rfl
  | _ => exact (h : False).elim

/-! slice expressions, lengths -/
theorem len_ok [Rd] (hP : POk P T) (hx : Cx U nid γ w sl L ob) {t e' n : Nat} {x : Operand} {a : A1 D} {va : Value} {r : Int} (ht : lookN T.els t = some (e', n)) (hu : ev L x = some va) (hva : VR1 U γ w a va) (h : Q.R ob (lenQ a) l r) :
    OW P Qx L ⟨d, .call { callee := .builtin .len, args := #[x], argTypes := #[t] }, ty, pos, af, gd⟩ w (fun v w' => ∃ γ', Post U nid γ w ob ⟨iv .i64 r (nid + 16), [], []⟩ γ' v w') := by
  obtain ⟨hund, hT⟩ := hP.els t e' n ht
  unfold lenQ at h
  split at h
  · obtain ⟨_, rfl⟩ := h
    exact OWpost (OW.len hund hu hva.1) (postL hx rfl)
  · obtain ⟨_, rfl⟩ := h
    obtain ⟨_, _, _, _, p, c, rfl⟩ := hva
    exact OWpost (OW.lenHead hund hu) (postL hx rfl)
  · obtain ⟨_, rfl⟩ := h
    have hva : va = .slice none 0 0 := hva
    subst hva
    have := OW.len (P := P) (Q := Qx) (L := L) (w := w) (d := d) (ty := ty) (pos := pos) (af := af) (g := gd) (α := D n) hund hu (rv_nil (fun _ => True) w)
    exact OWpost this (postL hx rfl)
  · obtain ⟨ao, l', ho, rfl, h⟩ := h
    cases ao with
    | box => exact h.elim
    | kidh => exact h.elim
    | kid n' t' tc q xs g h0 =>
      obtain ⟨_, rfl⟩ := h
      obtain ⟨_, rfl, _⟩ := hva
      obtain ⟨_, _, h1, _⟩ := hx.ob.ob _ _ ho
      exact OWpost (OW.len hund hu h1.rv) (postL hx rfl)
    | mp => exact h.elim
    | fz n' xs K =>
      obtain ⟨_, rfl⟩ := h
      obtain ⟨_, rfl, _⟩ := hva
      obtain ⟨_, _, h1, _⟩ := hx.ob.ob _ _ ho
      exact OWpost (OW.len hund hu h1) (postL hx rfl)
    | sl n' t' xs K g =>
      obtain ⟨_, rfl⟩ := h
      obtain ⟨_, rfl, _⟩ := hva
      obtain ⟨_, _, h1, h2, _⟩ := hx.ob.ob _ _ ho
      exact OWpost (OW.len hund hu h1.rv) (postL hx rfl)
  · obtain ⟨ao, l', ho, rfl, h⟩ := h
    obtain ⟨_, hj0, p, nn, c, e1, e2, e3⟩ := hva
    cases ao with
    | sl n' t' xs K g =>
      dsimp only at h
      split at h
      case isFalse => exact h.elim
      rename_i hn
      have hn := Nat.eq_of_beq_eq_true hn
      subst hn
      obtain ⟨_, rfl⟩ := h
      obtain ⟨_, _, h1, h2, _⟩ := hx.ob.ob _ _ ho
      obtain ⟨p', cap', f1, _⟩ := rv_list h1.rv
      rw [e1] at f1
      simp only [Value.slice.injEq] at f1
      obtain ⟨_, rfl, _⟩ := f1
      have := OW.lenHead (P := P) (Q := Qx) (L := L) (w := w) (d := d) (ty := ty) (pos := pos) (af := af) (g := gd) hund (e2 ▸ hu)
      refine OWpost this (postL hx ?_)
      show Value.int .i64 _ = Value.int .i64 _
      congr 1
      show ((xs.length - _ : Nat) : Int) = (xs.length : Int) - _
      omega
    | _ => exact h.elim
  · exact h.elim

section
variable {α : Type} [Rep α] {t e : TypeId} {o : Cls} {T : TypeId} {k : Nat} {K : List Nat}
theorem OW.sliceV0 [Rd] {S : Nat → Prop} {u : Operand} {lo hi : Option Operand} {l h : Int} {v : Value} {xs zs : List α} (hu : P.underlying t = some (.slice e)) (hT : TyOk P e α) (hx : ev L u = some v) (hr : Rv S w v xs) (hlo : OpIs L lo 0 l) (hhi : OpIs L hi (Dp.len xs) h) (hz : slc xs l h = some zs) :
    OW P Qx L ⟨d, .slice t u lo hi none, ty, pos, af, gd⟩ w (fun v' w' => w' = w ∧ Rv S w v' zs ∧ ∃ p cap, v = .slice p xs.length cap ∧ xs.length ≤ cap ∧ v' = .slice (if cap = l.toNat then p else p.map (·.add (l.toNat * Rep.sz α))) (h.toNat - l.toNat) (cap - l.toNat) ∧ l ≤ h ∧ h ≤ xs.length) := by
  obtain ⟨p, cap, rfl, h1, h2, h3⟩ := rv_list hr
  unfold slc at hz
  split at hz
  case isFalse => cases hz
  rename_i hb
  cases hz
  obtain ⟨b1, b2, b3⟩ := hb
  have hlen : ((xs.take h.toNat).drop l.toNat).length = h.toNat - l.toNat := by simp; omega
  refine OW.run fun a ha => ⟨.slice (if cap = l.toNat then p else p.map (·.add (l.toNat * Rep.sz α))) (h.toNat - l.toNat) (cap - l.toNat), w, ?_, rfl, ⟨_, rfl, _, cap - l.toNat, by rw [hlen], by rw [hlen]; omega, by unfold maxLen at *; omega, ?_⟩, p, cap, rfl, h1, rfl, b2, b3⟩
  · have hlc : h ≤ (cap : Int) := by omega
    have hhn : (h.toNat : Int) = h := by omega
    have hln : (l.toNat : Int) = l := by omega
    rcases hlo with ⟨rfl, rfl⟩ | ⟨yl, rfl, hl⟩ <;> rcases hhi with ⟨rfl, rfl⟩ | ⟨yh, rfl, hh⟩
    · simp [execOp, ha _ _ hx, Instr.sliceAt, run_underlying hu, Instr.slice, Instr.sliceBounds, hT.sizeOf, Dp.len]
    · have b0 : 0 ≤ h := by omega
      simp [execOp, ha _ _ hx, ha _ _ hh, Instr.sliceAt, run_underlying hu, Instr.slice, Instr.sliceBounds, Instr.sliceBound, asIntOf, hT.sizeOf, b0, hlc]
    · have b0 : l ≤ (xs.length : Int) := by unfold Dp.len at b2; omega
      simp [execOp, ha _ _ hx, ha _ _ hl, Instr.sliceAt, run_underlying hu, Instr.slice, Instr.sliceBounds, Instr.sliceBound, asIntOf, hT.sizeOf, b1, b0, Dp.len]
    · have b0 : 0 ≤ h := by omega
      simp [execOp, ha _ _ hx, ha _ _ hl, ha _ _ hh, Instr.sliceAt, run_underlying hu, Instr.slice, Instr.sliceBounds, Instr.sliceBound, asIntOf, hT.sizeOf, b1, b0, hlc, hhn, b2]
  · by_cases he : (xs.take h.toNat).drop l.toNat = []
    · exact .inl he
    · have hlt : l.toNat < h.toNat := by
        rcases Nat.lt_or_ge l.toNat h.toNat with hh | hh
        · exact hh
        · exact (he (List.eq_nil_of_length_eq_zero (by omega))).elim
      rcases h3 with rfl | ⟨a, css, rfl, h4, h5, h6⟩
      · simp at he
      · right
        have hsz := h5.sizes
        refine ⟨a.add (l.toNat * Rep.sz α), (css.take h.toNat).drop l.toNat, ?_, by rw [add_block]; exact h4, (h5.take _).drop _, ?_⟩
        · rw [if_neg (by omega)]; rfl
        · intro j u hj
          rw [addr_add]
          refine h6 _ _ ?_
          rw [flatten_drop (fun c hc => hsz c (List.mem_of_mem_take hc)), flatten_take hsz, List.getElem?_drop, List.getElem?_take] at hj
          split at hj
          · exact hj
          · cases hj

theorem OW.slicePre0 [Rd] {u : Operand} {hi : Option Operand} {h : Int} {v : Value} {xs zs : List α} (hu : P.underlying t = some (.slice e)) (hT : TyOk P e α) (hx : ev L u = some v) (ho : Ow T o k K w v xs) (hhi : OpIs L hi (Dp.len xs) h) (hz : slc xs 0 h = some zs) :
    OW P Qx L ⟨d, .slice t u none hi none, ty, pos, af, gd⟩ w (fun v' w' => w' = w ∧ Rv (In o (k :: K)) w v' zs ∧ PreO v v' h.toNat ∧ zs = xs.take h.toNat) := by
  refine OW.mono (OW.sliceV0 hu hT hx ho.rv (.inl ⟨rfl, rfl⟩) hhi hz) ?_
  rintro v' w' ⟨h1, h2, p, cap, h3, h4, h5, h6, h7⟩
  refine ⟨h1, h2, ⟨p, _, cap, h3, ?_, by omega⟩, ?_⟩
  · rw [h5]
    have : ∀ a : Addr, a.add 0 = a := add_zero'
    cases p <;> simp [this]
  · unfold slc at hz
    rw [if_pos ⟨by omega, h6, h7⟩] at hz
    simpa using (Option.some.inj hz).symm

theorem Ow.preS0 {v v' : Value} {h : Int} {xs zs : List α} (ho : Ow T o k K w v xs) (hp : PreO v v' h.toNat) (hz : slc xs 0 h = some zs) : Ow T o k K w v' zs := by
  unfold slc at hz
  split at hz
  case isFalse => cases hz
  cases hz
  simpa using Ow.pre0 ho hp
end
theorem slice_ok [Rd] (hP : POk P T) (hx : Cx U nid γ w sl L ob) {fl : Bool} {t e' n : Nat} {x : Operand} {lo hi : Option Operand} {a : A1 D} {as : List (AV D)} (ht : lookN T.els t = some (e', n)) (he : evOs sl (x :: (lo.toList ++ hi.toList)) = some (.c (.one a) :: as)) (h : Q.R ob (sliceQ fl nid (nid + 16) n lo hi a as) l e) :
    OW P Qx L ⟨d, .slice t x lo hi none, ty, pos, af, gd⟩ w (fun v w' => ∃ γ', Post U nid γ w ob e γ' v w') := by
  obtain ⟨hund, hT⟩ := hP.els t e' n ht
  obtain ⟨he1, he2⟩ := evOs_cons he
  obtain ⟨va, hu, hva⟩ := evO_ok hx.sr he1
  -- the bounds
  have bnd : ∀ {x : Option Operand} {dl : Int} {as : List (AV D)} {rest : List Operand} {r : Int × List (AV D)} {l : List Nat}, evOs sl (x.toList ++ rest) = some as → Q.R ob (bndQ dl x as) l r → OpIs L x dl r.1 ∧ evOs sl rest = some r.2 := by
    intro x dl as rest r l he h
    cases x with
    | none =>
      obtain ⟨_, rfl⟩ := h
      exact ⟨.inl ⟨rfl, rfl⟩, he⟩
    | some y =>
      cases as with
      | nil => have := evOs_len he; simp at this
      | cons a as =>
        obtain ⟨f1, f2⟩ := evOs_cons he
        unfold bndQ at h
        split at h
        · rename_i hh; cases hh
        · rename_i q K' g' as' hh heq
          cases heq
          obtain ⟨_, rfl⟩ := h
          obtain ⟨v, e1, e2⟩ := evO_ok hx.sr f1
          have e2 : v = .int .i64 q := e2.1
          subst e2
          exact ⟨.inr ⟨y, rfl, e1⟩, f2⟩
        · exact (h : False).elim
  have plain : ∀ {n' : Nat} {xs : List (D n')} {K : List Nat} {l : List Nat}, Rv (In γ.o K) w va xs → roK K → Q.R ob (sliceV (nid + 16) n lo hi n' xs K as) l e →
      OW P Qx L ⟨d, .slice t x lo hi none, ty, pos, af, gd⟩ w (fun v w' => ∃ γ', Post U nid γ w ob e γ' v w') := by
    intro n' xs K l k1 k3 hq
    clear h
    unfold sliceV at hq
    split at hq
    case isFalse => exact (hq : False).elim
    rename_i hn
    have hn := Nat.eq_of_beq_eq_true hn
    subst hn
    obtain ⟨l1, l2, r1, _, h1, hq⟩ := Q.R_bind hq
    obtain ⟨l3, l4, r2, _, h2, hq⟩ := Q.R_bind hq
    split at hq
    case h_2 => exact (hq : False).elim
    rename_i hnil
    obtain ⟨zs, hz, _, rfl⟩ := hq
    obtain ⟨b1, b2⟩ := bnd he2 h1
    obtain ⟨b3, b4⟩ := bnd (rest := []) (by simpa using b2) h2
    refine OW.mono (OW.slice hund hT hu k1 b1 b3 hz) ?_
    rintro v w' ⟨rfl, hr⟩
    exact ⟨_, post1 hx [⟨.sl n', zs⟩] (by simp) ⟨hr, named1 (γ := γ) (i := 0) rfl (by omega) rfl, k3⟩⟩
  cases a with
  | v lf xs K g =>
    cases lf with
    | sl n' =>
      have h : Q.R ob (sliceV (nid + 16) n lo hi n' xs K as) _ e := h
      exact plain hva.1 hva.2.2 h
    | _ => exact (h : False).elim
  | nils =>
    have hva : va = .slice none 0 0 := hva
    subst hva
    unfold sliceQ at h
    dsimp only at h
    obtain ⟨l1, l2, r1, _, h1, hq⟩ := Q.R_bind h
    obtain ⟨l3, l4, r2, _, h2, hq⟩ := Q.R_bind hq
    split at hq
    case h_2 => exact (hq : False).elim
    rename_i hnil
    obtain ⟨zs, hz, _, rfl⟩ := hq
    obtain ⟨b1, b2⟩ := bnd he2 h1
    obtain ⟨b3, b4⟩ := bnd (rest := []) (by simpa using b2) h2
    have hz' : ∃ ys, slc ([] : List (D n)) r1.1 r2.1 = some ys := by
      have hz1 := hz
      unfold slc at hz1
      split at hz1
      case isFalse => cases hz1
      rename_i hb
      exact ⟨_, if_pos hb⟩
    obtain ⟨ys, hz'⟩ := hz'
    refine OW.mono (OW.sliceV0 (xs := ([] : List (D n))) hund hT hu (rv_nil (fun _ => True) w) b1 b3 hz') ?_
    rintro v w' ⟨rfl, _, p, cap, e1, e2, e3, e4, e5⟩
    unfold slc at hz
    split at hz
    case isFalse => cases hz
    rename_i hb
    have hv : v = .slice none 0 0 := by
      simp only [Value.slice.injEq] at e1
      obtain ⟨rfl, _, rfl⟩ := e1
      have l0 : r1.1.toNat = 0 := by have := hb.1; have := hb.2.1; have := hb.2.2; unfold Dp.len at this; simp at this; omega
      have h0 : r2.1.toNat = 0 := by have := hb.2.2; unfold Dp.len at this; simp at this; omega
      rw [e3, l0, h0]
      simp
    exact ⟨γ, post0 hx hv⟩
  | own i =>
    obtain ⟨ao, l', ho, rfl, h⟩ := h
    obtain ⟨hU, rfl, _⟩ := hva
    cases ao with
    | box => exact (h : False).elim
    | kid => exact (h : False).elim
    | kidh => exact (h : False).elim
    | mp => exact h.elim
    | fz n' xs K =>
      obtain ⟨_, _, k1, k2⟩ := hx.ob.ob _ _ ho
      exact plain k1 k2 h
    | sl n' t' xs K g =>
      dsimp only at h
      split at h
      case h_2 =>
        rename_i _ lo1
        split at h
        case h_2 => exact (h : False).elim
        split at h
        case isFalse => exact (h : False).elim
        rename_i hn
        have hn := Nat.eq_of_beq_eq_true hn
        subst hn
        obtain ⟨l1, l2, r2, _, h2, h⟩ := Q.R_bind h
        split at h
        case h_2 => exact (h : False).elim
        rename_i hnil
        obtain ⟨zs, hz, _, rfl⟩ := h
        obtain ⟨_, _, m1, _⟩ := hx.ob.ob _ _ ho
        obtain ⟨b3, b4⟩ := bnd (rest := []) (by simpa using he2) h2
        refine OW.mono (OW.sliceV0 hund hT hu m1.rv b3 (.inl ⟨rfl, rfl⟩) hz) ?_
        rintro v w' ⟨rfl, _, p, cap, e1, e2, e3, e4, e5⟩
        have hz0 : 0 ≤ r2.1 := by
          unfold slc at hz
          split at hz
          case isFalse => cases hz
          rename_i hb
          exact hb.1
        refine ⟨γ, post0 hx ⟨hU, hz0, p, xs.length, cap, e1, ?_, ?_⟩⟩
        · rw [e3]
          unfold Dp.len
          simp
        · unfold Dp.len at e4
          omega
      split at h
      case isFalse => exact (h : False).elim
      rename_i hn
      have hn := Nat.eq_of_beq_eq_true hn
      subst hn
      obtain ⟨l1, l2, r2, _, h2, h⟩ := Q.R_bind h
      split at h
      case h_2 => exact (h : False).elim
      rename_i hnil
      obtain ⟨hi1000, _, m1, m2, m3⟩ := hx.ob.ob _ _ ho
      obtain ⟨b3, b4⟩ := bnd (rest := []) (by simpa using he2) h2
      cases fl with
      | true =>
        obtain ⟨zs, hz, _, rfl⟩ := h
        refine OW.mono (OW.slicePre0 hund hT hu m1 b3 hz) ?_
        rintro v w' ⟨rfl, _, hp, _⟩
        exact ⟨γ, post0 hx ⟨hU, hp⟩⟩
      | false =>
      obtain ⟨zs, hz, _, rfl⟩ := h
      refine OW.mono (OW.slicePre0 hund hT hu m1 b3 hz) ?_
      rintro v w' ⟨rfl, _, hp, _⟩
      have hO := Ow.preS0 m1 hp hz
      have hin : i ≠ nid := fun e => hx.fresh nid (Nat.le_refl _) (by omega) (e ▸ hU)
      have hlk : ∀ {j : Nat} {x : AO D}, lookN [(nid, some (AO.sl n' t' zs K (nid + 16))), (i, none)] j = some (some x) → j = nid ∧ x = .sl n' t' zs K (nid + 16) := by
        intro j x hj
        have := lookN_mem hj
        simp only [List.mem_cons, Prod.mk.injEq, List.not_mem_nil, or_false, Option.some.injEq, reduceCtorEq, and_false] at this
        exact this
      have hrel : ∀ z, z ≠ i → rel [(i, nid)] z = z := fun z hz => by
        unfold rel
        split
        · rename_i y hy
          have := (look1 hy).1
          exact (hz this.symm).elim
        · rfl
      have hreli : rel [(i, nid)] i = nid := by simp [rel, lookN]
      refine ⟨_, mkPost (M := []) (N := []) (ps := [(i, nid)]) (g' := gAt γ.g nid v) (v' := nms γ.v (nid + 16) [⟨.sl n', zs⟩]) hx.ob (Evo.refl _ _ _ _) (by simp) (by simp) (by simp [hi1000, Eff.wr]) hx.big (fun i hi => gAt_old hx hi) (fun i hi => nms_keep hx (by simp) hi) ⟨addU_nid, (gAt_eq _ _ _).symm, hO.one⟩ ?_⟩
      intro j x hj hfz'
      obtain ⟨rfl, rfl⟩ := hlk hj
      refine ⟨hx.big, addU_nid, ?_, m2, named1 (γ := γ) (i := 0) rfl (by omega) rfl⟩
      show Ow t' _ j K w' (gAt γ.g j v j) zs
      rw [gAt_eq]
      refine Ow.relab (fun b hb => ?_) (fun b hb => ?_) hO
      · show rel [(i, j)] (γ.o b) = j
        rw [hb, hreli]
      · have : γ.o b ≠ i := fun e => by
          unfold In at hb
          have := m2 _ hb
          omega
        show rel [(i, j)] (γ.o b) ∈ _
        rw [hrel _ this]
        exact hb
  | _ => exact (h : False).elim

/-- the rest of a slice made zero -/
theorem clear_ok [Rd] (hP : POk P T) (hR : RepOk T) (hx : Cx U nid γ w sl L ob) {t e' n i : Nat} {x : Operand} {v : Value} {j : Int} (ht : lookN T.els t = some (e', n)) (hu : ev L x = some v) (hv : VR1 U γ w (.tail i n j) v)
    (h : Q.R ob (.obj i fun
            | .sl n0 te xs K _ => if Nat.beq n0 n then .ret ⟨.tup [], [(i, some (.sl n0 te (clrT (T.zero n0) xs j) K (nid + 16)))], []⟩ else .fail
            | _ => .fail) l e) :
    OW P Qx L ⟨d, .call { callee := .builtin .clear, args := #[x], argTypes := #[t] }, ty, pos, af, gd⟩ w (fun v w' => ∃ γ', Post U nid γ w ob e γ' v w') := by
  obtain ⟨hund, hT⟩ := hP.els t e' n ht
  obtain ⟨ao, l', ho, rfl, h⟩ := h
  cases ao with
  | box => exact (h : False).elim
  | kid => exact (h : False).elim
  | kidh => exact (h : False).elim
  | fz => exact (h : False).elim
  | mp => exact (h : False).elim
  | sl n0 te xs K g =>
    dsimp only at h
    split at h
    case isFalse => exact (h : False).elim
    rename_i hn
    have hn := Nat.eq_of_beq_eq_true hn
    subst hn
    obtain ⟨_, rfl⟩ := h
    obtain ⟨hU, _, htl⟩ := hv
    obtain ⟨hi1000, _, m1, m2, _⟩ := hx.ob.ob _ _ ho
    have hdis : disj K [i] = true := disj_of fun z hz => by
      simp only [List.mem_singleton]
      rintro rfl
      have := m2 _ hz
      omega
    refine OW.mono (OW.clearTail hund hT hu m1 htl hdis) ?_
    rintro v' w' ⟨rfl, hev, hO⟩
    rw [hR.zero] at hO
    refine ⟨_, mkPost (M := [i]) (N := []) (ps := []) (g' := γ.g) (v' := nms γ.v (nid + 16) [⟨.sl n0, clrT (T.zero n0) xs j⟩]) hx.ob hev (by simp [hi1000, hU, Eff.wr]) (by simp) (by simp) hx.big (fun _ _ => rfl) (fun i hi => nms_keep hx (by simp) hi) ⟨[], rfl, trivial⟩ ?_⟩
    intro k x hk hfz
    obtain ⟨rfl, hx'⟩ := look1 hk
    cases hx'
    exact ⟨hi1000, .inl hU, hO, m2, named1 (γ := γ) (i := 0) rfl (by omega) rfl⟩
theorem pv_ok [Rd] (hx : Cx U nid γ w sl L ob) {op : Op} {v : Value} {a : AV D} (h1 : Dp.pv L op = some v) (h2 : VRV U γ w a v) : OW P Qx L ⟨d, op, ty, pos, af, gd⟩ w (fun v w' => ∃ γ', Post U nid γ w ob ⟨a, [], []⟩ γ' v w') := OWpost (OW.pv h1) (post0 hx h2)
theorem pvL_ok [Rd] (hx : Cx U nid γ w sl L ob) {op : Op} {v : Value} {lf : Lf} {x : lf.den D} (h1 : Dp.pv L op = some v) (h2 : LfRd (In γ.o []) w v ⟨lf, x⟩) : OW P Qx L ⟨d, op, ty, pos, af, gd⟩ w (fun v w' => ∃ γ', Post U nid γ w ob ⟨.c (.one (.v lf x [] (nid + 16))), [], []⟩ γ' v w') := OWpost (OW.pv h1) (postL hx h2)
theorem capsA_ok (hs : SR U γ w sl L) : ∀ {xs : List Operand} {as : List (AV D)} {cs : List (A0 D)}, evOs sl xs = some as → opQ.capsA as = some cs → ∃ vs, evs L xs = some vs ∧ VR0s U γ w cs vs
  | [], as, cs, h, hc => by
    simp only [evOs, Option.some.injEq] at h
    subst h
    simp only [opQ.capsA, Option.some.injEq] at hc
    subst hc
    exact ⟨[], rfl, trivial⟩
  | x :: r, as, cs, h, hc => by
    cases as with
    | nil => have := evOs_len h; simp at this
    | cons a as =>
      obtain ⟨h1, h2⟩ := evOs_cons h
      obtain ⟨v, e1, e2⟩ := evO_ok hs h1
      unfold opQ.capsA at hc
      split at hc
      · rename_i hh; cases hh
      · rename_i i off r' heq
        cases heq
        split at hc
        · rename_i l' hl
          cases hc
          obtain ⟨vs, e3, e4⟩ := capsA_ok hs h2 hl
          exact ⟨v :: vs, by simp [evs, e1, e3], e2, e4⟩
        · cases hc
      · rename_i n y off K r' heq
        cases heq
        split at hc
        · rename_i l' hl
          cases hc
          obtain ⟨vs, e3, e4⟩ := capsA_ok hs h2 hl
          exact ⟨v :: vs, by simp [evs, e1, e3], e2, e4⟩
        · cases hc
      · cases hc
theorem ops1 {c : Array Operand} {a : AV D} (h : evOs sl c.toList = some [a]) : ∃ x, c = #[x] ∧ evO sl x = some a := by
  obtain ⟨l⟩ := c
  have := evOs_len h
  match l, this with
  | [x], _ => exact ⟨x, rfl, evOs_one h⟩
theorem ops2 {c : Array Operand} {a b : AV D} (h : evOs sl c.toList = some [a, b]) : ∃ x y, c = #[x, y] ∧ evO sl x = some a ∧ evO sl y = some b := by
  obtain ⟨l⟩ := c
  have := evOs_len h
  match l, this with
  | [x, y], _ => exact ⟨x, y, rfl, (evOs_two h).1, (evOs_two h).2⟩

theorem opQ_ok [Rd] (hP : POk P T) (hR : RepOk T) (hx : Cx U nid γ w sl L ob) {op : Op} {as : List (AV D)} (he : evOs sl op.operands.toList = some as) (h : Q.R ob (opQ T nid op as) l e) :
    OW P Qx L ⟨d, op, ty, pos, af, gd⟩ w (fun v w' => ∃ γ', Post U nid γ w ob e γ' v w') := by
  unfold opQ at h
  split at h
  · -- move
    obtain ⟨_, rfl⟩ := h
    obtain ⟨v, h1, h2⟩ := evO_ok hx.sr (evOs_one he)
    exact pv_ok hx h1 h2
  · -- assign
    obtain ⟨_, rfl⟩ := h
    obtain ⟨v, h1, h2⟩ := evO_ok hx.sr (evOs_one he)
    exact pv_ok hx h1 h2
  · -- pick
    rename_i c a b _ _ _
    split at h
    case h_2 => exact (h : False).elim
    rename_i dd K g
    obtain ⟨e1, e2, e3⟩ := evOs_three he
    obtain ⟨v1, h1, h1'⟩ := evO_ok hx.sr e1
    obtain ⟨v2, h2, h2'⟩ := evO_ok hx.sr e2
    obtain ⟨v3, h3, h3'⟩ := evO_ok hx.sr e3
    have h1'' : v1 = .bool dd := h1'.1
    subst h1''
    cases dd with
    | true =>
      obtain ⟨_, rfl⟩ := h
      exact pv_ok hx (by simp only [Dp.pv, h1]; exact h2) h2'
    | false =>
      obtain ⟨_, rfl⟩ := h
      exact pv_ok hx (by simp only [Dp.pv, h1]; exact h3) h3'
  · -- binOp
    obtain ⟨e1, e2⟩ := evOs_two he
    split at h
    · split at h
      case h_2 => exact (h : False).elim
      rename_i n hn
      exact eq_ok hP hx hn e1 e2 h
    · split at h
      case h_2 => exact (h : False).elim
      rename_i hn
      exact beq_ok hP hx hn e1 e2 h
    · split at h
      case h_2 => exact (h : False).elim
      rename_i q hq
      obtain ⟨te, n⟩ := q
      exact nilEq_ok (hP.els _ _ _ hq).1 hx e1 e2 h
    · exact bin_ok hx e1 e2 h
  · -- not
    split at h
    case h_2 => exact (h : False).elim
    obtain ⟨_, rfl⟩ := h
    obtain ⟨v, h1, h2⟩ := evO_ok hx.sr (evOs_one he)
    have h2 := h2.1
    dsimp only [LfRd] at h2
    subst h2
    exact pvL_ok hx (by simp only [Dp.pv, h1]) rfl
  · -- neg
    split at h
    case h_2 => exact (h : False).elim
    obtain ⟨_, rfl⟩ := h
    obtain ⟨v, h1, h2⟩ := evO_ok hx.sr (evOs_one he)
    have h2 := h2.1
    dsimp only [LfRd] at h2
    subst h2
    exact pvL_ok hx (by simp only [Dp.pv, h1]) rfl
  · -- nilCheck
    split at h
    · obtain ⟨_, rfl⟩ := h
      obtain ⟨v, h1, h2⟩ := evO_ok hx.sr (evOs_one he)
      obtain ⟨hU, b, hg, rfl⟩ := id h2
      exact pv_ok hx (by simp only [Dp.pv, h1, ptrV]) h2
    · obtain ⟨_, rfl⟩ := h
      obtain ⟨v, h1, h2⟩ := evO_ok hx.sr (evOs_one he)
      obtain ⟨pa, rfl, _⟩ := id h2
      exact pv_ok hx (by simp only [Dp.pv, h1]) h2
    · obtain ⟨_, rfl⟩ := h
      obtain ⟨v, h1, h2⟩ := evO_ok hx.sr (evOs_one he)
      obtain ⟨_, _, _, _, b, len, cap, _, rfl⟩ := id h2
      exact pv_ok hx (by simp only [Dp.pv, h1, ptrV]) h2
    · exact (h : False).elim
  · -- extract
    split at h
    case h_2 => exact (h : False).elim
    split at h
    case h_2 => exact (h : False).elim
    rename_i i _ ll x hx'
    obtain ⟨_, rfl⟩ := h
    obtain ⟨v, h1, us, rfl, h2⟩ := evO_ok hx.sr (evOs_one he)
    have : ∀ {ll : List (AC D)} {us : List Value} {i : Nat} {x : AC D}, VRCs U γ w ll us → ll[i]? = some x → ∃ u, us[i]? = some u ∧ VRC U γ w x u := by
      intro ll
      induction ll with
      | nil => intro us i x _ h; simp at h
      | cons a ll ih =>
        intro us i x h hi
        cases us with
        | nil => exact h.elim
        | cons u us =>
          cases i with
          | zero => cases hi; exact ⟨u, rfl, h.1⟩
          | succ i => simpa using ih h.2 (by simpa using hi)
    obtain ⟨u, h3, h4⟩ := this h2 hx'
    exact pv_ok hx (by simp only [Dp.pv, h1]; simpa using h3) h4
  · -- fieldAddr
    rename_i _ _ t x i a
    have off_ok : ∀ {o : Nat}, offOf T t i = some o → FldAt P t i o := by
      intro o ho
      unfold offOf at ho
      split at ho
      · rename_i pl hpl
        split at ho
        · rename_i p hp
          cases ho
          exact (hP.fld t pl hpl).2 i p.1 p.2 hp
        · cases ho
      · cases ho
    obtain ⟨v, h1, h2⟩ := evO_ok hx.sr (evOs_one he)
    split at h
    · rename_i o j off ho
      obtain ⟨_, rfl⟩ := h
      obtain ⟨hU, b, hg, rfl⟩ := h2
      have := OW.fldAddr (P := P) (Q := Qx) (L := L) (w := w) (d := d) (ty := ty) (pos := pos) (af := af) (g := gd) (off_ok ho) h1
      refine OWpost this (post0 hx ⟨hU, b, hg, ?_⟩)
      unfold ptrV Addr.add
      split <;> simp_all
    · rename_i o n y off K ho
      obtain ⟨_, rfl⟩ := h
      obtain ⟨pa, rfl, h3, h4⟩ := h2
      have := OW.fldAddr (P := P) (Q := Qx) (L := L) (w := w) (d := d) (ty := ty) (pos := pos) (af := af) (g := gd) (off_ok ho) h1
      exact OWpost this (post0 hx ⟨pa, by rw [addr_add], h3, h4⟩)
    · rename_i o j n k y off tc tj ho
      obtain ⟨_, rfl⟩ := h
      obtain ⟨h3, h4, h5, h6, b, len, cap, h7, rfl⟩ := h2
      have := OW.fldAddr (P := P) (Q := Qx) (L := L) (w := w) (d := d) (ty := ty) (pos := pos) (af := af) (g := gd) (off_ok ho) h1
      refine OWpost this (post0 hx ⟨h3, h4, h5, h6, b, len, cap, h7, ?_⟩)
      unfold ptrV Addr.add
      split <;> simp_all <;> omega
    · exact (h : False).elim
  · -- load
    split at h
    case h_2 => exact (h : False).elim
    rename_i tyd p ht
    obtain ⟨v, h1, h2⟩ := evO_ok hx.sr (evOs_one he)
    exact load_ok hP hR hx ht h1 h2 h
  · -- store
    split at h
    case h_2 => exact (h : False).elim
    rename_i tyd p ht
    obtain ⟨e1, e2⟩ := evOs_two he
    obtain ⟨v, h1, h2⟩ := evO_ok hx.sr e1
    obtain ⟨v', h3, h4⟩ := evO_ok hx.sr e2
    exact store_ok hP hR hx ht h1 h2 h3 h4 h
  · -- box
    split at h
    case h_2 => exact (h : False).elim
    rename_i cs hcs
    split at h
    case isFalse => exact (h : False).elim
    rename_i hs
    obtain ⟨_, rfl⟩ := h
    obtain ⟨v, h1, h2⟩ := evO_ok hx.sr (evOs_one he)
    exact box_ok hx h1 h2 hcs hs
  · -- alloc
    split at h
    case h_2 => exact (h : False).elim
    rename_i tyd ht
    split at h
    case h_2 => exact (h : False).elim
    rename_i cs hz
    obtain ⟨_, rfl⟩ := h
    exact alloc_ok hP hx ht hz
  · -- build
    split at h
    · rename_i m e' n ht
      split at h
      case isFalse => exact (h : False).elim
      rename_i hb
      simp only [Bool.and_eq_true] at hb
      obtain ⟨l1, l2, r, _, h1, h2⟩ := Q.R_bind h
      split at h2
      · split at h2
        case isFalse => exact (h2 : False).elim
        rename_i hfl
        simp only [Bool.and_eq_true, List.isEmpty_iff] at hfl
        obtain ⟨_, rfl⟩ := h2
        exact buildAgg_ok hP hR hx ht hb.1 (Nat.eq_of_beq_eq_true hb.2) he h1 hfl.1 (Nat.le_of_ble_eq_true hfl.2)
      obtain ⟨_, rfl⟩ := h2
      exact buildArr_ok hP hR hx ht hb.1 (Nat.eq_of_beq_eq_true hb.2) he h1
    split at h
    case h_2 => exact (h : False).elim
    rename_i n pl ht hl
    split at h
    case h_2 => exact (h : False).elim
    rename_i cs hcs
    obtain ⟨_, rfl⟩ := h
    exact build_ok hP hx ht hl he hcs
  · -- index
    split at h
    case h_4 => exact (h : False).elim
    case h_3 =>
      rename_i x K' g j K2 tj hta
      split at h
      case h_2 => exact (h : False).elim
      rename_i hts
      obtain ⟨c, hc, _, rfl⟩ := h
      obtain ⟨e1, e2⟩ := evOs_two he
      obtain ⟨v, g1, g2⟩ := evO_ok hx.sr e1
      obtain ⟨v', g3, g4⟩ := evO_ok hx.sr e2
      have g5 : v' = .int .i64 j := g4.1
      have g6 : v = .string x := g2.1
      subst g5 g6
      exact OWpost (OW.idxStr (hP.ty _ _ hts).2 g1 g3 hc) (postL hx rfl)
    case h_2 =>
      rename_i m e' n cs j K' tj ht
      split at h
      · exact (h : False).elim
      rename_i hag
      obtain ⟨l1, l2, x, _, h1, h⟩ := Q.R_bind h
      split at h
      case isFalse => exact (h : False).elim
      rename_i hb
      simp only [Bool.and_eq_true, List.isEmpty_iff] at hb
      obtain ⟨y, hy, h⟩ := h
      dsimp only at h
      split at h
      case h_2 => exact (h : False).elim
      rename_i r hr
      obtain ⟨_, rfl⟩ := h
      obtain ⟨e1, e2⟩ := evOs_two he
      obtain ⟨v, g1, us, rfl, g2⟩ := evO_ok hx.sr e1
      obtain ⟨v', g3, g4⟩ := evO_ok hx.sr e2
      have g5 : v' = .int .i64 j := g4.1
      subst g5
      have g6 := aggArr_ok hR hx.ob (by simpa using hag) h1 g2 hb.1
      exact indexArr_ok hP hR hx ht (Nat.eq_of_beq_eq_true hb.2) g1 g6 g3 hy hr
    rename_i m e' n n' xs K j K' tj ht
    split at h
    case isFalse => exact (h : False).elim
    rename_i hb
    simp only [Bool.and_eq_true] at hb
    obtain ⟨hn, hm⟩ := hb
    have hn := Nat.eq_of_beq_eq_true hn
    subst hn
    obtain ⟨y, hy, h⟩ := h
    dsimp only at h
    split at h
    case h_2 => exact (h : False).elim
    rename_i r hr
    obtain ⟨_, rfl⟩ := h
    obtain ⟨e1, e2⟩ := evOs_two he
    obtain ⟨v, h1, h2⟩ := evO_ok hx.sr e1
    obtain ⟨v', h3, h4⟩ := evO_ok hx.sr e2
    have h5 : v' = .int .i64 j := h4.1
    subst h5
    exact indexArr_ok hP hR hx ht (Nat.eq_of_beq_eq_true hm) h1 h2 h3 hy hr
  · -- buildSlice
    split at h
    case h_2 => exact (h : False).elim
    rename_i e' n ht
    split at h
    case isFalse => exact (h : False).elim
    rename_i hb
    simp only [Bool.and_eq_true] at hb
    obtain ⟨l1, l2, r, _, h1, h2⟩ := Q.R_bind h
    obtain ⟨_, rfl⟩ := h2
    exact buildSlice_ok hP hR hx ht hb.1.1 (Nat.eq_of_beq_eq_true hb.1.2) (Nat.le_of_ble_eq_true hb.2) he h1
  · -- indexAddr
    split at h
    case h_3 => exact (h : False).elim
    case h_2 =>
      rename_i io _ _ _ b off j K tj ht
      split at h
      case h_2 => exact (h : False).elim
      rename_i m e' n q har
      split at h
      case isFalse => exact (h : False).elim
      rename_i hq
      obtain ⟨_, rfl⟩ := h
      obtain ⟨e1, e2⟩ := evOs_two he
      obtain ⟨v, h1, h2⟩ := evO_ok hx.sr e1
      obtain ⟨hU, c, hg, rfl⟩ := h2
      have hA := hP.ars _ _ _ _ har
      have := OW.indexArrAddr (P := P) (Q := Qx) (L := L) (w := w) (d := d) (ty := ty) (pos := pos) (af := af) (g := gd) (i := .const (.int .i64 (Int.ofNat q))) hA.und hA.el h1 rfl (Nat.le_of_ble_eq_true hq)
      refine OWpost this (post0 hx ⟨hU, c, hg, ?_⟩)
      rw [hR.sz]
      unfold ptrV Addr.add
      split <;> simp_all
    rename_i e' n a j K tj ht
    obtain ⟨e1, e2⟩ := evOs_two he
    obtain ⟨v, h1, h2⟩ := evO_ok hx.sr e1
    obtain ⟨v', h3, h4⟩ := evO_ok hx.sr e2
    have h5 : v' = .int .i64 j := h4.1
    subst h5
    exact idx_ok hP hx ht h1 h2 h3 h4.2.1 h
  · -- makeSlice
    split at h
    case h_2 => exact (h : False).elim
    rename_i e' n m K g ht
    split at h
    case isFalse => exact (h : False).elim
    rename_i hs
    obtain ⟨zs, hz, h⟩ := h
    obtain ⟨e1, e2⟩ := evOs_two he
    obtain ⟨v, h1, h2⟩ := evO_ok hx.sr e1
    have h5 : v = .int .i64 m := h2.1
    subst h5
    dsimp only at h
    split at h
    · rename_i tc q hk
      obtain ⟨_, rfl⟩ := h
      exact makeKid_ok hP hR hx ht hk h1 hs hz
    · obtain ⟨_, rfl⟩ := h
      exact make_ok hP hR hx ht h1 hs hz
  · -- slice
    rename_i _ _ t x lo hi a as'
    split at h
    case h_2 => exact (h : False).elim
    rename_i e' n a ht
    exact slice_ok hP hx ht (by simpa [Op.operands] using he) h
  · -- makeMap
    split at h
    case h_2 => exact (h : False).elim
    rename_i kt vt n ht
    obtain ⟨_, rfl⟩ := h
    exact makeMap_ok hx
  · -- lookup
    split at h
    case h_2 => exact (h : False).elim
    rename_i kt vt n ht
    obtain ⟨e1, e2⟩ := evOs_two he
    exact mget_ok hP hR hx ht e1 e2 h
  · -- mapUpdate
    split at h
    case h_2 => exact (h : False).elim
    rename_i kt vt n ht
    obtain ⟨e1, e2, e3⟩ := evOs_three he
    exact mput_ok hP hR hx ht e1 e2 e3 h
  · -- convert
    split at h
    case h_4 => exact (h : False).elim
    case h_2 =>
      rename_i m0 x K g hs0 ht0
      split at h
      case h_2 => exact (h : False).elim
      rename_i te n hq
      split at h
      case h_2 => exact (h : False).elim
      rename_i hu8
      split at h
      case isFalse => exact (h : False).elim
      rename_i hlv
      obtain ⟨xs, hxs, _, rfl⟩ := h
      obtain ⟨v, h1, h2⟩ := evO_ok hx.sr (evOs_one he)
      have h5 : v = .string x := h2.1
      subst h5
      exact bytes_ok hR hx (hP.ty _ _ hs0).2 (hP.els _ _ _ hq).1 (hP.ty _ _ hu8).2 hlv h1 hxs
    case h_3 =>
      rename_i m0 a hs0 ht0
      split at h
      case h_2 => exact (h : False).elim
      rename_i te n hq
      split at h
      case h_2 => exact (h : False).elim
      rename_i hu8
      split at h
      case isFalse => exact (h : False).elim
      rename_i hlv
      obtain ⟨l1, l2, r, _, h1, h2⟩ := Q.R_bind h
      obtain ⟨_, rfl⟩ := h2
      obtain ⟨v, h3, h4⟩ := evO_ok hx.sr (evOs_one he)
      exact string_ok hR hx (hP.els _ _ _ hq).1 (hP.ty _ _ hu8).2 (hP.ty _ _ ht0).2 hlv h3 (rdSl_ok hx.ob h1 h4).1
    rename_i k1 k2 k3 n K g hs ht
    obtain ⟨v, h1, h2⟩ := evO_ok hx.sr (evOs_one he)
    have h5 : v = .int _ n := h2.1
    subst h5
    have u1 : P.underlying _ = some (.int _) := (hP.ty _ _ hs).2
    have u2 : P.underlying _ = some (.int _) := (hP.ty _ _ ht).2
    split at h
    · obtain ⟨_, rfl⟩ := h
      have := OW.conv (P := P) (Q := Qx) (L := L) (w := w) (d := d) (ty := ty) (pos := pos) (af := af) (g := gd) ⟨_, u1⟩ u2 h1
      exact OWpost this (postL hx rfl)
    · obtain ⟨_, rfl⟩ := h
      refine OWpost (v := .int k2 (k2.wrap n)) (OW.run fun a ha => ⟨_, w, ?_, rfl, rfl⟩) (postL hx rfl)
      simp [execOp, ha _ _ h1, convert, run_underlying u1, run_underlying u2, Conv.intToInt]
  · -- makeFunc
    rename_i f first caps
    split at h
    case isFalse => exact (h : False).elim
    rename_i hf
    split at h
    case h_2 => exact (h : False).elim
    rename_i cs hcs
    split at h
    · rename_i h0
      have h0 := Nat.eq_of_beq_eq_true h0
      have h0 : first = #[] := by simpa using h0
      subst h0
      obtain ⟨_, rfl⟩ := h
      obtain ⟨vs, h1, h2⟩ := capsA_ok hx.sr (by simpa [Op.operands] using he) hcs
      exact pv_ok hx (v := .func (.func f) #[] vs.toArray) (by simp [Dp.pv, evs, h1]) ⟨vs, by unfold fnV; rw [if_pos hf], h2⟩
    · split at h
      case isFalse => exact (h : False).elim
      rename_i h0
      have h0 := Nat.eq_of_beq_eq_true h0
      have h0 : caps = #[] := by simpa using h0
      subst h0
      obtain ⟨_, rfl⟩ := h
      obtain ⟨vs, h1, h2⟩ := capsA_ok hx.sr (by simpa [Op.operands] using he) hcs
      have hb : ¬ Nat.blt (f + 1000000) 1000000 = true := fun hh => by have := Nat.le_of_ble_eq_true hh; omega
      exact pv_ok hx (v := .func (.func f) vs.toArray #[]) (by simp [Dp.pv, evs, h1]) ⟨vs, by unfold fnV; rw [if_neg hb, Nat.add_sub_cancel], h2⟩
  · -- calls of builtins
    rename_i b cargs ts
    have hca : evOs sl cargs.toList = some as := by simpa [Op.operands, Call.operands] using he
    split at h
    · -- len
      split at h
      case h_2 => exact (h : False).elim
      rename_i t hts
      split at h
      case h_2 =>
        split at h
        case h_2 => exact (h : False).elim
        rename_i hty
        obtain ⟨_, rfl⟩ := h
        obtain ⟨x, rfl, hxx⟩ := ops1 hca
        obtain ⟨v, h3, h4⟩ := evO_ok hx.sr hxx
        have h5 : v = .string _ := h4.1
        subst h5
        have hts' : ts = #[t] := Array.toList_inj.1 hts
        subst hts'
        exact OWpost (OW.lenStr (hP.ty _ _ hty).2 h3) (postL hx rfl)
      rename_i p ht
      obtain ⟨e', n⟩ := p
      obtain ⟨l1, l2, r, _, h1, h2⟩ := Q.R_bind h
      obtain ⟨_, rfl⟩ := h2
      obtain ⟨x, rfl, hxx⟩ := ops1 hca
      obtain ⟨v, h3, h4⟩ := evO_ok hx.sr hxx
      have hts' : ts = #[t] := Array.toList_inj.1 hts
      subst hts'
      exact len_ok hP hx ht h3 h4 h1
    · -- min
      obtain ⟨_, rfl⟩ := h
      obtain ⟨x, y, rfl, h1, h2⟩ := ops2 hca
      obtain ⟨v, h3, h4⟩ := evO_ok hx.sr h1
      obtain ⟨v', h5, h6⟩ := evO_ok hx.sr h2
      have h4 := h4.1
      have h6 := h6.1
      dsimp only [LfRd] at h4 h6
      subst h4 h6
      exact OWpost (OW.min h3 h5) (postL hx rfl)
    · -- max
      obtain ⟨_, rfl⟩ := h
      obtain ⟨x, y, rfl, h1, h2⟩ := ops2 hca
      obtain ⟨v, h3, h4⟩ := evO_ok hx.sr h1
      obtain ⟨v', h5, h6⟩ := evO_ok hx.sr h2
      have h4 := h4.1
      have h6 := h6.1
      dsimp only [LfRd] at h4 h6
      subst h4 h6
      exact OWpost (OW.max h3 h5) (postL hx rfl)
    · -- clear
      split at h
      case h_2 => exact (h : False).elim
      rename_i t hts
      split at h
      case h_2 => exact (h : False).elim
      rename_i e' n' ht
      split at h
      case isFalse => exact (h : False).elim
      rename_i hn
      have hn := Nat.eq_of_beq_eq_true hn
      subst hn
      obtain ⟨x, rfl, hxx⟩ := ops1 hca
      obtain ⟨v, h3, h4⟩ := evO_ok hx.sr hxx
      have hts' : ts = #[t] := Array.toList_inj.1 hts
      subst hts'
      exact clear_ok hP hR hx ht h3 h4 h
    · -- append
      split at h
      case h_2 => exact (h : False).elim
      rename_i t t' hts
      split at h
      case isFalse =>
        split at h
        case h_2 => exact (h : False).elim
        rename_i e' n k g K tk ht htn
        obtain ⟨x, y, rfl, h1, h2⟩ := ops2 hca
        obtain ⟨v, h3, h4⟩ := evO_ok hx.sr h1
        obtain ⟨v', h5, h6⟩ := evO_ok hx.sr h2
        have hts' : ts = #[_, _] := Array.toList_inj.1 hts
        subst hts'
        have h6 := h6.1
        dsimp only [LfRd] at h6
        subst h6
        obtain ⟨zs, hz, _, rfl⟩ := h
        exact zeros_ok hP hR hx ht htn (by rw [h3]; exact congrArg some h4) h5 hz
      rename_i htt
      have htt := Nat.eq_of_beq_eq_true htt
      subst htt
      split at h
      case h_2 => exact (h : False).elim
      rename_i e' n ht
      obtain ⟨x, y, rfl, h1, h2⟩ := ops2 hca
      obtain ⟨v, h3, h4⟩ := evO_ok hx.sr h1
      obtain ⟨v', h5, h6⟩ := evO_ok hx.sr h2
      have hts' : ts = #[t, t] := Array.toList_inj.1 hts
      subst hts'
      exact append_ok hP hR hx ht h3 h4 h5 h6 h
    · -- cap
      split at h
      case h_2 => exact (h : False).elim
      rename_i t hts
      split at h
      case h_2 => exact (h : False).elim
      rename_i p ht
      obtain ⟨_, rfl⟩ := h
      obtain ⟨x, rfl, hxx⟩ := ops1 hca
      obtain ⟨v, h3, h4⟩ := evO_ok hx.sr hxx
      have hts' : ts = #[t] := Array.toList_inj.1 hts
      subst hts'
      have h4 : v = .slice none 0 0 := h4
      subst h4
      have hu := (hP.els t p.1 p.2 ht).1
      refine OWpost (v := .int .i64 0) (OW.run fun a ha => ⟨_, w, ?_, rfl, rfl⟩) (postL hx rfl)
      simp [execOp, resolve, invoke, builtin, Builtin.cap_, run_underlying hu, ha _ _ h3, goInt]
    · exact (h : False).elim
  · exact (h : False).elim
end
end Rx
end Go.Proofs.Ytkgfdplcjdidhaa
