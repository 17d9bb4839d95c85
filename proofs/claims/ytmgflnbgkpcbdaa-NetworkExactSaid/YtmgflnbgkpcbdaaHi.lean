/- Contracts by hand of slices.Insert and slices.Delete: what is wanted for their walks. Nothing here names a program. -/
import Derived.Test.YtmgflnbgkpcbdaaHc
import Derived.Lib.AppendZerosOnto
import Derived.Lib.Overlaps
import Derived.Laws.Externs
set_option linter.unusedVariables false
set_option linter.unusedSimpArgs false
set_option linter.unusedSectionVars false
namespace Go.Proofs.Ytmgflnbgkpcbdaa
open Go Go.RowKit Dp

namespace Rx

/-! a region that draws its order: first operations that only compute, then a chain -/
def bnd (l : List Oper) (i : Nat) : List Nat := match l[i]? with
  | some o => (o.after.toList.filter (Region.binds .any)).map Edge.on
  | none => []
def envA (l : List Oper) (L : List (Nat × Value)) (ds : List Nat) (vs : List Value) (i : Nat) : List (Nat × Value) :=
  (bnd l i).filterMap (fun j => match ds[j]?, vs[j]? with | some d, some v => some (d, v) | _, _ => none) ++ L.filter (fun p => !ds.contains p.1)
def ndB : List Nat → Bool
  | [] => true
  | x :: r => !r.contains x && ndB r
def drawOk (n : Nat) (l : List Oper) (k : Nat) (ds : List Nat) : Bool :=
  Nat.beq ds.length k && Nat.blt k l.length && ndB ds && ds.all (fun d => Nat.blt d n) &&
  (List.range k).all (fun i => (match l[i]? with | some o => (match o.dst with | some d => (match ds[i]? with | some e => Nat.beq d e | none => false) | none => false) && o.guard.isNone | none => false)) &&
  (List.range (k + 1)).all (fun i => (bnd l i).all fun j => Nat.blt j i) &&
  (List.range k).all (fun i => (List.range (k + 1)).any fun j => Nat.blt i j && (bnd l j).contains i) &&
  (List.range l.length).all (fun q => Nat.ble q k || ((bnd l q).contains (q - 1) && (bnd l q).all fun j => Nat.blt j q))
section
variable {P : Program} {n : Nat} {Q : Exit → Act → World → Prop} {L : List (Nat × Value)} {l : List Oper}
def PureAll [Rd] (P : Program) (Q : Exit → Act → World → Prop) (w : World) (E : Nat → List (Nat × Value)) : Nat → List Oper → List Value → Prop
  | i, o :: l, v :: vs => OW P Q (E i) o w (fun v' w' => v' = v ∧ w' = w) ∧ PureAll P Q w E (i + 1) l vs
  | _, _, _ => True
theorem PureAll.get [Rd] {w : World} {E : Nat → List (Nat × Value)} : ∀ (j : Nat) {i : Nat} {l : List Oper} {vs : List Value} {o : Oper} {v : Value}, PureAll P Q w E i l vs → l[j]? = some o → vs[j]? = some v → OW P Q (E (i + j)) o w (fun v' w' => v' = v ∧ w' = w) := by
  intro j
  induction j with
  | zero =>
    intro i l vs o v h h1 h2
    cases l with
    | nil => simp at h1
    | cons o' l =>
      cases vs with
      | nil => simp at h2
      | cons v' vs =>
        simp at h1 h2
        subst h1 h2
        exact h.1
  | succ j ih =>
    intro i l vs o v h h1 h2
    cases l with
    | nil => simp at h1
    | cons o' l =>
      cases vs with
      | nil => simp at h2
      | cons v' vs =>
        have := ih h.2 (by simpa using h1) (by simpa using h2)
        rw [show i + (j + 1) = i + 1 + j by omega]
        exact this
theorem mem_bnd {i : Nat} {o : Oper} (h : l[i]? = some o) {e : Edge} (he : e ∈ o.after.toList) (hb : Region.binds .any e = true) : e.on ∈ bnd l i := by
  simp only [bnd, h]
  exact List.mem_map.2 ⟨e, List.mem_filter.2 ⟨he, hb⟩, rfl⟩
theorem of_bnd {i j : Nat} (hj : j ∈ bnd l i) : ∃ o, l[i]? = some o ∧ ∃ e ∈ o.after.toList, Region.binds .any e = true ∧ e.on = j := by
  unfold bnd at hj
  split at hj
  · rename_i o ho
    obtain ⟨e, he, rfl⟩ := List.mem_map.1 hj
    obtain ⟨h1, h2⟩ := List.mem_filter.1 he
    exact ⟨o, ho, e, h1, h2, rfl⟩
  · cases hj
theorem ready_iff {listed : Array Bool} (hsz : listed.size = l.length) {i : Nat} : i ∈ Region.ready .any l.toArray listed ↔ i < l.length ∧ listed.getD i false = false ∧ ∀ j ∈ bnd l i, listed.getD j false = true := by
  simp only [Region.ready, List.mem_filter, List.mem_range, List.size_toArray]
  constructor
  · rintro ⟨hi, h⟩
    have hio : l[i]? = some l[i] := List.getElem?_eq_getElem hi
    have hioA : l.toArray[i]? = some l[i] := by simp [hi]
    have hib : i < listed.size := by omega
    simp only [Bool.and_eq_true] at h
    refine ⟨hi, ?_, fun j hj => ?_⟩
    · have := h.1
      simp [Array.getD, hib] at this ⊢
      exact this
    · obtain ⟨o, ho, e, he, hb, rfl⟩ := of_bnd hj
      rw [hio] at ho; cases ho
      have h2 := h.2
      rw [hioA] at h2
      simp only [Option.map_some, Option.getD_some] at h2
      have := Array.all_eq_true'.1 h2 e (by simpa using he)
      simpa [hb] using this
  · rintro ⟨hi, h1, h2⟩
    have hioA : l.toArray[i]? = some l[i] := by simp [hi]
    have hib : i < listed.size := by omega
    refine ⟨hi, ?_⟩
    rw [hioA]
    simp only [Bool.and_eq_true, Option.map_some, Option.getD_some]
    refine ⟨?_, Array.all_eq_true'.2 fun e he => ?_⟩
    · simp [Array.getD, hib] at h1 ⊢
      exact h1
    · cases hb : Region.binds .any e with
      | false => simp
      | true =>
        have := h2 e.on (mem_bnd (List.getElem?_eq_getElem hi) (by simpa using he) hb)
        simpa using this
theorem listed_set {listed : Array Bool} {i j : Nat} (hi : i < listed.size) : (listed.setIfInBounds i true).getD j false = (if j = i then true else listed.getD j false) := by
  by_cases hji : j = i
  · subst hji; simp [Array.getD, hi]
  · rw [if_neg hji]; exact getD_set_ne false (Ne.symm hji)

/-- the chain behind -/
theorem chain_ok [I : Rd] {k : Nat} (hch : ∀ q, k < q → q < l.length → (q - 1) ∈ bnd l q ∧ ∀ j ∈ bnd l q, j < q) (hk : ∀ j ∈ bnd l k, j < k) : ∀ (fuel p : Nat) (listed : Array Bool) (a : Act) (w : World), listed.size = l.length → k ≤ p → p ≤ l.length → l.length - p ≤ fuel →
    (∀ j, j < l.length → listed.getD j false = decide (j < p)) → wpListIn I.F 0 P l.toArray Q (l.drop p) a w → wpAnyIn I.F 0 P .any l.toArray Q fuel listed a w := by
  intro fuel
  induction fuel with
  | zero =>
    intro p listed a w hsz hkp hp hf hl h
    have hpe : p = l.length := by omega
    subst hpe
    refine ⟨List.eq_nil_iff_forall_not_mem.2 fun i hi => ?_, ?_⟩
    · obtain ⟨h1, h2, _⟩ := (ready_iff hsz).1 hi
      rw [hl i h1] at h2
      simp [h1] at h2
    · rw [List.drop_length] at h; exact h
  | succ fuel ih =>
    intro p listed a w hsz hkp hp hf hl h
    refine ⟨fun hr => ?_, fun i hi => ?_⟩
    · by_cases hpe : p = l.length
      · subst hpe; rw [List.drop_length] at h; exact h
      · exfalso
        have hplt : p < l.length := by omega
        have : p ∈ Region.ready .any l.toArray listed := (ready_iff hsz).2 ⟨hplt, by rw [hl p hplt]; simp, fun j hj => by
          have hjp : j < p := by
            by_cases hpk : p = k
            · subst hpk; exact hk j hj
            · exact (hch p (by omega) hplt).2 j hj
          rw [hl j (by omega)]; simp [hjp]⟩
        rw [hr] at this; cases this
    · obtain ⟨h1, h2, h3⟩ := (ready_iff hsz).1 hi
      rw [hl i h1] at h2
      have hip : ¬ i < p := by simpa using h2
      have hie : i = p := by
        by_cases hne : i = p
        · exact hne
        · exfalso
          have h4 := h3 (i - 1) (hch i (by omega) h1).1
          rw [hl (i - 1) (by omega)] at h4
          have : i - 1 < p := by simpa using h4
          omega
      subst hie
      have hd : l.drop i = l[i] :: l.drop (i + 1) := by rw [List.drop_eq_getElem_cons h1]
      rw [hd] at h
      have hiA : l.toArray[i]? = some l[i] := by simp [h1]
      unfold wpOpIn
      rw [hiA]
      simp only
      have hnext : ∀ a' w', wpListIn I.F 0 P l.toArray Q (l.drop (i + 1)) a' w' → wpAnyIn I.F 0 P .any l.toArray Q fuel (listed.setIfInBounds i true) a' w' := fun a' w' h' =>
        ih (i + 1) _ a' w' (by simp [hsz]) (by omega) (by omega) (by omega) (fun j hj => by
          rw [listed_set (by omega), hl j hj]
          by_cases hji : j = i
          · subst hji; simp
          · rw [if_neg hji]
            have : (j < i) ↔ (j < i + 1) := by omega
            simp [this]) h'
      simp only [wpListIn] at h
      split
      · rename_i hw
        rw [if_pos hw] at h
        exact Oper.wpIn_mono hnext h
      · rename_i hw
        rw [if_neg hw] at h
        exact ⟨h.1, hnext _ _ h.2⟩

theorem nd_get : ∀ {ds : List Nat}, ndB ds = true → ∀ {i j d : Nat}, ds[i]? = some d → ds[j]? = some d → i = j
  | [], _, i, j, d, h1, _ => by simp at h1
  | x :: r, h, i, j, d, h1, h2 => by
    simp only [ndB, Bool.and_eq_true] at h
    have hx : x ∉ r := by simpa using h.1
    match i, j with
    | 0, 0 => rfl
    | 0, j + 1 => simp at h1 h2; subst h1; exact (hx (List.mem_of_getElem? h2)).elim
    | i + 1, 0 => simp at h1 h2; subst h2; exact (hx (List.mem_of_getElem? h1)).elim
    | i + 1, j + 1 => simp at h1 h2; rw [nd_get h.2 h1 h2]

theorem look_zip {ds : List Nat} {vs : List Value} : ∀ {t : Nat} {v : Value}, Dp.look (ds.zip vs) t = some v → ∃ i : Nat, ds[i]? = some t ∧ vs[i]? = some v := by
  induction ds generalizing vs with
  | nil => intro t v h; simp [Dp.look] at h
  | cons d ds ih =>
    intro t v h
    cases vs with
    | nil => simp [Dp.look] at h
    | cons u vs =>
      rw [List.zip_cons_cons] at h
      by_cases hd : d = t
      · subst hd
        rw [look_cons_eq] at h
        cases h
        exact ⟨0, rfl, rfl⟩
      · rw [look_cons_ne _ _ hd] at h
        obtain ⟨i, h1, h2⟩ := ih h
        exact ⟨i + 1, by simpa using h1, by simpa using h2⟩
theorem look_fm {ds : List Nat} {vs : List Value} : ∀ {js : List Nat} {t : Nat} {v : Value}, Dp.look (js.filterMap (fun j => match ds[j]?, vs[j]? with | some d, some v => some (d, v) | _, _ => none)) t = some v → ∃ j ∈ js, ds[j]? = some t ∧ vs[j]? = some v
  | [], t, v, h => by simp [Dp.look] at h
  | j :: js, t, v, h => by
    rw [List.filterMap_cons] at h
    split at h
    · obtain ⟨i, h1, h2⟩ := look_fm h
      exact ⟨i, by simp [h1], h2⟩
    · rename_i b hb
      split at hb
      · rename_i d u h1 h2
        cases hb
        by_cases hd : d = t
        · subst hd
          rw [look_cons_eq] at h
          cases h
          exact ⟨j, by simp, h1, h2⟩
        · rw [look_cons_ne _ _ hd] at h
          obtain ⟨i, h3, h4⟩ := look_fm h
          exact ⟨i, by simp [h3], h4⟩
      · cases hb

structure DSt [I : Rd] (n : Nat) (L : List (Nat × Value)) (l : List Oper) (k : Nat) (ds : List Nat) (vs : List Value) (listed : Array Bool) (a : Act) : Prop where
  sz : listed.size = l.length
  size : a.tmps.size = n
  defers : a.defers = I.ds
  new : ∀ (i d : Nat) (v : Value), listed.getD i false = true → ds[i]? = some d → vs[i]? = some v → a.tmps[d]? = some v
  old : ∀ (t : Nat) (v : Value), Dp.look L t = some v → t ∉ ds → a.tmps[t]? = some v
  late : ∀ i, k ≤ i → listed.getD i false = false
  closed : ∀ i, listed.getD i false = true → ∀ j ∈ bnd l i, listed.getD j false = true

theorem CW.draw {id : Nat} {w : World} (hm : P.follows .mixedOrders = true) (k : Nat) (ds : List Nat) (vs : List Value) (hok : drawOk n l k ds = true) (hvl : vs.length = k)
    (hp : PureAll P Q w.drew (envA l L ds vs) 0 (l.take k) vs) (ht : WL P n l.toArray Q (l.drop k) (ds.zip vs ++ L.filter (fun p => !ds.contains p.1)) w.drew) :
    CW P n (.region id l.toArray true) Q L w := by
  intro a ha
  refine wpIn_region_any hm ?_
  simp only [drawOk, Bool.and_eq_true] at hok
  obtain ⟨⟨⟨⟨⟨⟨⟨c1, c2⟩, c3⟩, c4⟩, c5⟩, c6⟩, c7⟩, c8⟩ := hok
  have hdl : ds.length = k := Nat.eq_of_beq_eq_true c1
  have hkl : k < l.length := Nat.le_of_ble_eq_true c2
  have hback : ∀ i, i ≤ k → ∀ j ∈ bnd l i, j < i := fun i hi j hj => by
    have h1 := List.all_eq_true.1 c6 i (List.mem_range.2 (by omega))
    exact Nat.le_of_ble_eq_true (List.all_eq_true.1 h1 j hj)
  have hreach : ∀ i, i < k → ∃ j, j ≤ k ∧ i < j ∧ i ∈ bnd l j := fun i hi => by
    have h1 := List.all_eq_true.1 c7 i (List.mem_range.2 hi)
    obtain ⟨j, hj, h2⟩ := List.any_eq_true.1 h1
    simp only [Bool.and_eq_true] at h2
    have hjk := List.mem_range.1 hj
    refine ⟨j, by omega, Nat.le_of_ble_eq_true h2.1, by simpa using h2.2⟩
  have hchain : ∀ q, k < q → q < l.length → (q - 1) ∈ bnd l q ∧ ∀ j ∈ bnd l q, j < q := fun q hq hql => by
    have h1 := List.all_eq_true.1 c8 q (List.mem_range.2 hql)
    simp only [Bool.or_eq_true, Bool.and_eq_true] at h1
    rcases h1 with h1 | h1
    · have := Nat.le_of_ble_eq_true h1; omega
    · exact ⟨by simpa using h1.1, fun j hj => by
        exact Nat.le_of_ble_eq_true (List.all_eq_true.1 h1.2 j hj)⟩
  have hop : ∀ i, i < k → ∃ d o v, l[i]? = some o ∧ o.dst = some d ∧ o.guard = none ∧ ds[i]? = some d ∧ vs[i]? = some v ∧ d < n := fun i hi => by
    have h1 := List.all_eq_true.1 c5 i (List.mem_range.2 hi)
    split at h1
    · rename_i o ho
      simp only [Bool.and_eq_true] at h1
      obtain ⟨h1, hg⟩ := h1
      split at h1
      · rename_i d hd
        split at h1
        · rename_i e he
          have hde : d = e := Nat.eq_of_beq_eq_true h1
          subst hde
          have hvi : i < vs.length := by omega
          have hdn := List.all_eq_true.1 c4 d (List.mem_of_getElem? he)
          exact ⟨d, o, vs[i], ho, hd, by simpa using hg, he, List.getElem?_eq_getElem hvi, Nat.le_of_ble_eq_true hdn⟩
        · cases h1
      · cases h1
    · cases h1
  -- all is listed before k
  have hall : ∀ {listed : Array Bool}, (∀ i, listed.getD i false = true → ∀ j ∈ bnd l i, listed.getD j false = true) → (∀ j ∈ bnd l k, listed.getD j false = true) → ∀ i, i < k → listed.getD i false = true := by
    intro listed hcl hkd i
    have key : ∀ m i, k - i ≤ m → i < k → listed.getD i false = true := by
      intro m
      induction m with
      | zero => intro i h1 h2; omega
      | succ m ih =>
        intro i h1 h2
        obtain ⟨j, h3, h4, h5⟩ := hreach i h2
        by_cases hj : j = k
        · subst hj; exact hkd i h5
        · exact hcl j (ih j (by omega) (by omega)) i h5
    exact key _ i (Nat.le_refl _)
  have main : ∀ (fuel : Nat) (listed : Array Bool) (a : Act), l.length ≤ fuel + ((List.range l.length).filter fun i => listed.getD i false).length → DSt n L l k ds vs listed a → wpAnyIn Rd.plain.F 0 P .any l.toArray Q fuel listed a w.drew := by
    intro fuel
    induction fuel with
    | zero =>
      intro listed a hf hJ
      exfalso
      have hsub : ((List.range l.length).filter fun i => listed.getD i false).length < (List.range l.length).length := by
        have h9 := filter_lt (p := fun _ => true) (q := fun i => listed.getD i false) (i := k) (fun _ _ => rfl) rfl (hJ.late k (Nat.le_refl _)) (l := List.range l.length) (List.mem_range.2 hkl)
        have h8 : (List.range l.length).filter (fun _ => true) = List.range l.length := List.filter_eq_self.2 fun _ _ => rfl
        rw [h8] at h9
        exact h9
      rw [List.length_range] at hsub
      omega
    | succ fuel ih =>
      intro listed a hf hJ
      refine ⟨fun hr => ?_, fun i hi => ?_⟩
      · exfalso
        have hfull : ∀ i, i ≤ k → listed.getD i false = true := by
          intro i
          induction i using Nat.strongRecOn with
          | _ i ihi =>
            intro hik
            cases hli : listed.getD i false with
            | true => rfl
            | false =>
              have : i ∈ Region.ready .any l.toArray listed := (ready_iff hJ.sz).2 ⟨by omega, hli, fun j hj => ihi j (hback i hik j hj) (by have := hback i hik j hj; omega)⟩
              rw [hr] at this; cases this
        have := hfull k (Nat.le_refl _)
        rw [hJ.late k (Nat.le_refl _)] at this
        cases this
      · obtain ⟨h1, h2, h3⟩ := (ready_iff hJ.sz).1 hi
        by_cases hik : i < k
        · obtain ⟨d, o, v, e1, e2, e3, e4, e5, e6⟩ := hop i hik
          have hiA : l.toArray[i]? = some o := by simpa using e1
          have hpure := PureAll.get i (o := o) (v := v) hp (by rw [List.getElem?_take, if_pos hik]; exact e1) e5
          unfold wpOpIn
          rw [hiA]
          simp only
          rw [if_pos (by simp [Region.wanted, e3])]
          refine (hpure a _ (fun x u hx => ?_) ?_)
          · rw [Nat.zero_add] at hx
            cases x with
            | tmp t =>
              have hx : Dp.look (envA l L ds vs i) t = some u := hx
              have : a.tmps[t]? = some u := by
                rcases look_append hx with hx | ⟨_, hx⟩
                · obtain ⟨j, hj, h4, h5⟩ := look_fm hx
                  exact hJ.new j t u (h3 j hj) h4 h5
                · obtain ⟨h4, h5⟩ := look_filter (p := fun x => !ds.contains x) hx
                  exact hJ.old t u h4 (by simpa using h5)
              simp [Act.eval, this]
            | const u => simpa [ev, Act.eval] using hx
            | global g => simpa [ev, Act.eval] using hx
            | func f => simpa [ev, Act.eval] using hx
          · rintro v' w' ⟨rfl, rfl⟩
            rw [e2]
            have hib : i < listed.size := by rw [hJ.sz]; exact h1
            refine ih _ _ ?_ ⟨by simp [hJ.sz], by simp [Act.put, hJ.size], by simp [Act.put, hJ.defers], ?_, ?_, ?_, ?_⟩
            · have hlt := filter_lt (p := fun j => (listed.setIfInBounds i true).getD j false) (q := fun j => listed.getD j false) (i := i) (fun x hx => by
                rw [listed_set hib]
                by_cases hxi : x = i
                · simp [hxi]
                · rw [if_neg hxi]; exact hx) (by rw [listed_set hib]; simp) h2 (l := List.range l.length) (List.mem_range.2 h1)
              omega
            · intro j e u hj h4 h5
              rw [listed_set hib] at hj
              by_cases hji : j = i
              · subst hji
                rw [e4] at h4; cases h4
                rw [e5] at h5; cases h5
                simp [Act.put, Array.getElem?_setIfInBounds, hJ.size, e6]
              · rw [if_neg hji] at hj
                have hne : d ≠ e := fun he => hji (nd_get c3 (he ▸ h4) e4)
                simp [Act.put, Array.getElem?_setIfInBounds, hne]
                exact hJ.new j e u hj h4 h5
            · intro t u h4 h5
              have hne : d ≠ t := fun he => h5 (he ▸ List.mem_of_getElem? e4)
              simp [Act.put, Array.getElem?_setIfInBounds, hne]
              exact hJ.old t u h4 h5
            · intro j hj
              rw [listed_set hib, if_neg (by omega)]
              exact hJ.late j hj
            · intro j hj q hq
              rw [listed_set hib] at hj ⊢
              by_cases hqi : q = i
              · simp [hqi]
              · rw [if_neg hqi]
                by_cases hji : j = i
                · subst hji; exact h3 q hq
                · rw [if_neg hji] at hj
                  exact hJ.closed j hj q hq
        · have hie : i = k := by
            by_cases hne : i = k
            · exact hne
            · exfalso
              have := h3 (i - 1) (hchain i (by omega) h1).1
              rw [hJ.late (i - 1) (by omega)] at this
              cases this
          subst hie
          have hfull := hall hJ.closed h3
          have hwl := ht a ⟨hJ.size, hJ.defers, fun t v hv => by
            rcases look_append hv with hv | ⟨_, hv⟩
            · obtain ⟨j, h4, h5⟩ := look_zip hv
              have hjk : j < i := by
                have := (List.getElem?_eq_some_iff.1 h4).1
                omega
              exact hJ.new j t v (hfull j hjk) h4 h5
            · obtain ⟨h4, h5⟩ := look_filter (p := fun x => !ds.contains x) hv
              exact hJ.old t v h4 (by simpa using h5), fun _ _ h => by cases h⟩
          have hw := chain_ok (P := P) (Q := Q) hchain (hback i (Nat.le_refl _)) (fuel + 1) i listed a w.drew hJ.sz (Nat.le_refl _) (by omega) (by
            have hle : ((List.range l.length).filter fun j => listed.getD j false).length ≤ i := by
              have hs : ((List.range l.length).filter fun j => listed.getD j false) = (List.range l.length).filter fun j => decide (j < i) := by
                refine List.filter_congr fun j hj => ?_
                by_cases hji : j < i
                · rw [hfull j hji]; simp [hji]
                · rw [hJ.late j (by omega)]; simp [hji]
              rw [hs]
              have : (List.range l.length).filter (fun j => decide (j < i)) = List.range i := by
                have h5 : List.range l.length = List.range i ++ (List.range (l.length - i)).map (i + ·) := by
                  rw [← List.range_add]; congr 1; omega
                rw [h5, List.filter_append]
                have h6 : (List.range i).filter (fun j => decide (j < i)) = List.range i := List.filter_eq_self.2 fun j hj => by simpa using hj
                have h7 : ((List.range (l.length - i)).map (i + ·)).filter (fun j => decide (j < i)) = [] := by
                  rw [List.filter_eq_nil_iff]
                  intro j hj
                  obtain ⟨q, _, rfl⟩ := List.mem_map.1 hj
                  simp
                rw [h6, h7, List.append_nil]
              rw [this, List.length_range]
              exact Nat.le_refl _
            omega) (fun j hj => by
              by_cases hji : j < i
              · rw [hfull j hji]; simp [hji]
              · rw [hJ.late j (by omega)]; simp [hji]) hwl
          exact hw.2 i hi
  refine main _ _ a ?_ ⟨by simp, ha.size, ha.defers, fun i d v hi => ?_, fun t v h _ => ha.get t v h, fun i _ => by simp [Array.getD], fun i hi => ?_⟩
  · simp
  · simp [Array.getD] at hi
  · simp [Array.getD] at hi
end

/-! the two functions on lists -/
def insO {α : Type} (xs : List α) (i : Int) (ys : List α) : Option (List α) := match decide (0 ≤ i) && decide (i ≤ len xs) && !ys.isEmpty, app xs ys with
  | true, some _ => some (xs.take i.toNat ++ ys ++ xs.drop i.toNat)
  | _, _ => none
def delO {α : Type} (xs : List α) (i j : Int) : Option (List α) := match decide (0 ≤ i) && decide (i ≤ j) && decide (j ≤ len xs) with
  | true => some (xs.take i.toNat ++ xs.drop j.toNat)
  | false => none
theorem ins_some {α : Type} {xs ys r : List α} {i : Int} (h : insO xs i ys = some r) : 0 ≤ i ∧ i ≤ (xs.length : Int) ∧ ys ≠ [] ∧ app xs ys = some (xs ++ ys) ∧ xs.length + ys.length ≤ 1073741824 ∧ r = xs.take i.toNat ++ ys ++ xs.drop i.toNat := by
  unfold insO at h
  split at h
  · rename_i h1 h2
    simp only [Bool.and_eq_true, decide_eq_true_eq] at h1
    cases h
    have h3 := h2
    unfold app at h3
    split at h3
    · rename_i h4
      cases h3
      exact ⟨h1.1.1, by have := h1.1.2; unfold len at this; exact this, by intro he; subst he; simp at h1, h2, h4, rfl⟩
    · cases h3
  · cases h
theorem del_some {α : Type} {xs r : List α} {i j : Int} (h : delO xs i j = some r) : 0 ≤ i ∧ i ≤ j ∧ j ≤ (xs.length : Int) ∧ r = xs.take i.toNat ++ xs.drop j.toNat := by
  unfold delO at h
  split at h
  · rename_i h1
    simp only [Bool.and_eq_true, decide_eq_true_eq] at h1
    cases h
    exact ⟨h1.1.1, h1.1.2, by have := h1.2; unfold len at this; exact this, rfl⟩
  · cases h

section
variable {α : Type} [Rep α]
variable {P : Program} {Q : Exit → Act → World → Prop} {L : List (Nat × Value)} {w : World} {d : Option Tmp} {ty : TypeId} {pos : String} {af : Array Edge} {g : Option (Nat × Bool)} {t e : TypeId}

theorem OW.sliceV [Rd] {u : Operand} {lo hi : Option Operand} {l h : Int} {p : Option Addr} {n c : Nat} (hu : P.underlying t = some (.slice e)) (hT : TyOk P e α) (hx : ev L u = some (.slice p n c)) (hlo : OpIs L lo 0 l) (hhi : OpIs L hi n h) (b1 : 0 ≤ l) (b2 : l ≤ h) (b3 : h ≤ (c : Int)) :
    OW P Q L ⟨d, .slice t u lo hi none, ty, pos, af, g⟩ w (fun v' w' => v' = .slice (if c = l.toNat then p else p.map (·.add (l.toNat * Rep.sz α))) (h.toNat - l.toNat) (c - l.toNat) ∧ w' = w) := by
  refine OW.run fun a ha => ⟨_, w, ?_, rfl, rfl⟩
  have hhn : (h.toNat : Int) = h := by omega
  have hln : (l.toNat : Int) = l := by omega
  rcases hlo with ⟨rfl, rfl⟩ | ⟨yl, rfl, hl⟩ <;> rcases hhi with ⟨rfl, rfl⟩ | ⟨yh, rfl, hh⟩
  · simp [execOp, ha _ _ hx, Instr.sliceAt, run_underlying hu, Instr.slice, Instr.sliceBounds, hT.sizeOf]
  · have b0 : 0 ≤ h := by omega
    simp [execOp, ha _ _ hx, ha _ _ hh, Instr.sliceAt, run_underlying hu, Instr.slice, Instr.sliceBounds, Instr.sliceBound, asIntOf, hT.sizeOf, b0, b3]
  · simp [execOp, ha _ _ hx, ha _ _ hl, Instr.sliceAt, run_underlying hu, Instr.slice, Instr.sliceBounds, Instr.sliceBound, asIntOf, hT.sizeOf, b1, b2]
  · have b0 : 0 ≤ h := by omega
    simp [execOp, ha _ _ hx, ha _ _ hl, ha _ _ hh, Instr.sliceAt, run_underlying hu, Instr.slice, Instr.sliceBounds, Instr.sliceBound, asIntOf, hT.sizeOf, b1, b0, b3, hhn, b2]

/-- with a maximum: only that it does not panic -/
theorem OW.slice3 [Rd] {u y1 y2 y3 : Operand} {l h m : Int} {p : Option Addr} {n c : Nat} (hu : P.underlying t = some (.slice e)) (hT : TyOk P e α) (hx : ev L u = some (.slice p n c)) (h1 : ev L y1 = some (.int .i64 l)) (h2 : ev L y2 = some (.int .i64 h)) (h3 : ev L y3 = some (.int .i64 m)) (b1 : 0 ≤ l) (b2 : l ≤ h) (b3 : h ≤ m) (b4 : m ≤ (c : Int)) :
    OW P Q L ⟨d, .slice t u (some y1) (some y2) (some y3), ty, pos, af, g⟩ w (fun v' w' => w' = w ∧ True) := by
  refine OW.run fun a ha => ⟨.slice (if m.toNat = l.toNat then p else p.map (·.add (l.toNat * Rep.sz α))) (h.toNat - l.toNat) (m.toNat - l.toNat), w, ?_, rfl, trivial⟩
  have hhn : (h.toNat : Int) = h := by omega
  have hln : (l.toNat : Int) = l := by omega
  have hmn : (m.toNat : Int) = m := by omega
  have b0 : 0 ≤ h := by omega
  have b5 : 0 ≤ m := by omega
  simp [execOp, ha _ _ hx, ha _ _ h1, ha _ _ h2, ha _ _ h3, Instr.sliceAt, run_underlying hu, Instr.slice, Instr.sliceBounds, Instr.sliceBound, asIntOf, hT.sizeOf, b1, b0, b5, b3, b4, hhn, hmn, b2]

theorem OW.cap [Rd] {o : Operand} {p : Option Addr} {n c : Nat} (hu : P.underlying t = some (.slice e)) (hx : ev L o = some (.slice p n c)) (hc : c ≤ maxLen) :
    OW P Q L ⟨d, .call { callee := .builtin .cap, args := #[o], argTypes := #[t] }, ty, pos, af, g⟩ w (fun v' w' => v' = .int .i64 c ∧ w' = w) := by
  refine OW.run fun a ha => ⟨_, w, ?_, rfl, rfl⟩
  simp [execOp, resolve, invoke, builtin, ha _ _ hx, Builtin.cap_, run_underlying hu, goInt]

/-- copy into a row, cells for cells -/
theorem OW.copyRow [Rd] {x y : Operand} {b off dl dc sl sc : Nat} {a : Addr} {A X B src : List Value} {T : TypeId} (hu : P.underlying t = some (.slice e)) (hT : TyOk P e α) (hx : ev L x = some (.slice (some ⟨b, off, none⟩) dl dc)) (hy : ev L y = some (.slice (some a) sl sc))
    (hg : w.heap[b]? = some (.cells (A ++ X ++ B).toArray T (0, 0))) (hA : A.length = off) (hX : X.length = src.length) (hl : src.length = min sl dl * Rep.sz α) (hs : ∀ (j : Nat) (u : Value), src[j]? = some u → w.cell? (a.add j) = some u) (h1 : ∀ u ∈ src, u.oneCell' = true) :
    OW P Q L ⟨d, .call { callee := .builtin .copy, args := #[x, y], argTypes := #[t, t] }, ty, pos, af, g⟩ w (fun v' w' => w' = w.setRow b (A ++ src ++ B).toArray) := by
  obtain ⟨i, hi1, hi2, hi3, hi4⟩ := hT.info
  have hf := run_firstCells_some (P := P) w i.size (min sl dl) a sl sc src (by rw [hl, hi2]) hs
  have hst := run_storeCells_at P b off T src 0 _ w hg (by simp; omega) h1
  simp only [Nat.add_zero] at hst
  have e1 : (A ++ X ++ B).toArray.toList.take off ++ src ++ (A ++ X ++ B).toArray.toList.drop (off + src.length) = A ++ src ++ B := by
    have h2 : (A ++ X ++ B).toArray.toList = A ++ (X ++ B) := by simp
    rw [h2, ← hA, List.take_left, ← hX, List.drop_length_add_append, List.drop_left]
  rw [e1] at hst
  refine OW.run fun a' ha => ⟨goInt (min sl dl), w.setRow b (A ++ src ++ B).toArray, ?_, rfl⟩
  have hmin : Nat.min sl dl = min sl dl := rfl
  simp [execOp, resolve, invoke, builtin, ha _ _ hx, ha _ _ hy, Builtin.copy_, run_underlying hu, sizeOf, typeInfo, hi1, Builtin.lenOf, hmin, hf, hst]
  congr 1
  omega

/-- clear of a part of a row -/
theorem OW.clearRow [Rd] {x : Operand} {b off k c : Nat} {A X B : List Value} {T : TypeId} (hu : P.underlying t = some (.slice e)) (hT : TyOk P e α) (hx : ev L x = some (.slice (some ⟨b, off, none⟩) (k + 1) c))
    (hg : w.heap[b]? = some (.cells (A ++ X ++ B).toArray T (0, 0))) (hA : A.length = off) (hX : X.length = (k + 1) * Rep.sz α) :
    OW P Q L ⟨d, .call { callee := .builtin .clear, args := #[x], argTypes := #[t] }, ty, pos, af, g⟩ w (fun v' w' => ∃ Z : List Value, Z.length = X.length ∧ w' = w.setRow b (A ++ Z ++ B).toArray) := by
  have hz : (pack (Rep.agg α) (Rep.zc α)).cells.toList = Rep.zc α := pack_cells (α := α) (Rep.zok (fun _ => True) w)
  have hzl : (Rep.zc α).length = Rep.sz α := Rep.len (Rep.zok (α := α) (fun _ => True) w)
  have hzs : (pack (Rep.agg α) (Rep.zc α)).cells.size = Rep.sz α := by rw [← Array.length_toList, hz, hzl]
  have hzc : (Builtin.zeroCells (pack (Rep.agg α) (Rep.zc α)).cells (k + 1)).toList = (List.replicate (k + 1) (Rep.zc α)).flatten := by
    have := cells_repl (pack (Rep.agg α) (Rep.zc α)).cells (by rw [hzs]; exact Rep.pos) (k + 1)
    rw [hz] at this
    rw [← this]
    simp [Builtin.zeroCells]
  have hrl : (List.replicate (k + 1) (Rep.zc α)).flatten.length = (k + 1) * Rep.sz α := by simp [hzl]
  have hone : ∀ u ∈ (List.replicate (k + 1) (Rep.zc α)).flatten, u.oneCell' = true := by
    intro u hu
    obtain ⟨l, hl, hul⟩ := List.mem_flatten.1 hu
    rw [List.mem_replicate] at hl
    exact Rep.one (Rep.zok (α := α) (fun _ => True) w) u (hl.2 ▸ hul)
  have hst := run_storeCells_at P b off T (List.replicate (k + 1) (Rep.zc α)).flatten 0 _ w hg (by simp only [hrl, List.size_toArray, List.length_append]; omega) hone
  simp only [Nat.add_zero] at hst
  have e1 : (A ++ X ++ B).toArray.toList.take off ++ (List.replicate (k + 1) (Rep.zc α)).flatten ++ (A ++ X ++ B).toArray.toList.drop (off + (List.replicate (k + 1) (Rep.zc α)).flatten.length) = A ++ (List.replicate (k + 1) (Rep.zc α)).flatten ++ B := by
    have h2 : (A ++ X ++ B).toArray.toList = A ++ (X ++ B) := by simp
    rw [h2, ← hA, List.take_left, hrl, ← hX, List.drop_length_add_append, List.drop_left]
  rw [e1] at hst
  refine OW.run fun a ha => ⟨.tuple #[], _, ?_, _, by rw [hrl, hX], rfl⟩
  have e0 : (Builtin.clear_ #[t] ty #[Value.slice (some ⟨b, off, none⟩) (k + 1) c]).run P w = .ok (.tuple #[]) (w.setRow b (A ++ (List.replicate (k + 1) (Rep.zc α)).flatten ++ B).toArray) := by
    simp [Builtin.clear_, run_underlying hu, hT.zero, hzc, hst]
  simp [execOp, resolve, invoke, builtin, ha _ _ hx, e0]

/-- overlaps: two blocks of the call's own -/
theorem OW.overlaps [Rd] {x y : Operand} {f : Nat} {fn : Func} {a b la ca lb cb oa ob : Nat} {ca' cb' : Array Value} {ta tb tR : TypeId} {ats : Array TypeId} (hu : P.underlying t = some (.slice e)) (hT : TyOk P e α) (hf : P.funcs[f]? = some fn) (hn : (fn.name == "runtime.NumGoroutine") = false) (hb : fn.body.isNone = true) (hnx : Extern.findNext fn = none) (he : Extern.find fn = some (Extern.SlicesOverlaps.overlaps #[t, t] #[tR]))
    (hx : ev L x = some (.slice (some ⟨a, oa, none⟩) la ca)) (hy : ev L y = some (.slice (some ⟨b, ob, none⟩) lb cb)) (hne : a ≠ b) (hga : w.heap[a]? = some (.cells ca' ta (0, 0))) (hgb : w.heap[b]? = some (.cells cb' tb (0, 0))) (hs : cb'.size ≠ 0) :
    OW P Q L ⟨d, .call { callee := .value (.func f), args := #[x, y], argTypes := ats }, ty, pos, af, g⟩ w (fun v' w' => v' = .bool false ∧ w' = w) := by
  have h1 := run_callFunc_extern hf hn hb hnx he #[.slice (some ⟨a, oa, none⟩) la ca, .slice (some ⟨b, ob, none⟩) lb cb] w
  rw [Lib.run_overlaps_apart w t tR e hu (Rep.sz α) (fun w => hT.sizeOf w) ⟨a, oa, none⟩ ⟨b, ob, none⟩ la ca lb cb hne ta tb ca'.size cb'.size (by simp [World.shape?, hga]) (by simp [World.shape?, hgb]) hs (by simp [World.frozen?, hga]) (by simp [World.frozen?, hga])] at h1
  refine OW.run fun a' ha => ⟨_, _, ?_, rfl, rfl⟩
  have h2 := ha _ _ hx
  have h3 := ha _ _ hy
  simp [Act.eval] at h2 h3
  simp [execOp, resolve, invoke, Deferred.ofValue, Act.eval]
  rw [h2, h3, h1]
  rfl

theorem OW.pvE [Rd] {op : Op} {v v' : Value} (h : Dp.pv L op = some v) (hv : v = v') : OW P Q L ⟨d, op, ty, pos, af, g⟩ w (fun u w' => u = v' ∧ w' = w) := hv ▸ OW.pv h
theorem WL.pe [I : Rd] {n d : Nat} {ops : Array Oper} {rest : List Oper} {op : Op} {v v' : Value} (h : Dp.pv L op = some v) (hv : v = v') (hd : I.okt n d = true) (k : WL P n ops Q rest ((d, v') :: L) w) : WL P n ops Q (⟨some d, op, ty, pos, af, none⟩ :: rest) L w := by
  subst hv
  exact WL.v h hd k

theorem OW.pre [Rd] {u y : Operand} {q : Nat} {p : Option Addr} {n c : Nat} (hu : P.underlying t = some (.slice e)) (hT : TyOk P e α) (hx : ev L u = some (.slice p n c)) (hy : ev L y = some (.int .i64 (q : Int))) (hq : q ≤ c) :
    OW P Q L ⟨d, .slice t u none (some y) none, ty, pos, af, g⟩ w (fun v' w' => v' = .slice p q c ∧ w' = w) := by
  refine OW.imp (OW.sliceV (l := 0) (h := (q : Int)) hu hT hx (.inl ⟨rfl, rfl⟩) (.inr ⟨y, rfl, hy⟩) (by omega) (by omega) (by omega)) ?_
  rintro v' w' ⟨rfl, rfl⟩
  refine ⟨?_, rfl⟩
  have h0 : p.map (fun a : Addr => a.add 0) = p := by cases p <;> simp [Addr.add]
  simp [h0]
theorem OW.tl [Rd] {u y : Operand} {q b n c : Nat} (hu : P.underlying t = some (.slice e)) (hT : TyOk P e α) (hx : ev L u = some (.slice (some ⟨b, 0, none⟩) n c)) (hy : ev L y = some (.int .i64 (q : Int))) (hq : q ≤ n) (hn : n ≤ c) (hc : q < c) :
    OW P Q L ⟨d, .slice t u (some y) none none, ty, pos, af, g⟩ w (fun v' w' => v' = .slice (some ⟨b, q * Rep.sz α, none⟩) (n - q) (c - q) ∧ w' = w) := by
  refine OW.imp (OW.sliceV (l := (q : Int)) (h := (n : Int)) hu hT hx (.inr ⟨y, rfl, hy⟩) (.inl ⟨rfl, rfl⟩) (by omega) (by omega) (by omega)) ?_
  rintro v' w' ⟨rfl, rfl⟩
  refine ⟨?_, rfl⟩
  have hcq : ¬ c = q := by omega
  have hadd : (⟨b, 0, none⟩ : Addr).add (q * Rep.sz α) = ⟨b, q * Rep.sz α, none⟩ := by unfold Addr.add; split <;> simp_all
  simp [hcq, hadd]
theorem OW.tlAny [Rd] {u y : Operand} {q n c : Nat} {p : Option Addr} (hu : P.underlying t = some (.slice e)) (hT : TyOk P e α) (hx : ev L u = some (.slice p n c)) (hy : ev L y = some (.int .i64 (q : Int))) (hq : q ≤ n) (hn : n ≤ c) :
    OW P Q L ⟨d, .slice t u (some y) none none, ty, pos, af, g⟩ w (fun v' w' => w' = w ∧ True) :=
  OW.imp (OW.sliceV (l := (q : Int)) (h := (n : Int)) hu hT hx (.inr ⟨y, rfl, hy⟩) (.inl ⟨rfl, rfl⟩) (by omega) (by omega) (by omega)) fun v' w' h => ⟨h.2, trivial⟩

theorem row_cells {w : World} {b off : Nat} {A X B : List Value} {T : TypeId} (hg : w.heap[b]? = some (.cells (A ++ X ++ B).toArray T (0, 0))) (hA : A.length = off) : CellsAt w ⟨b, off, none⟩ X := by
  intro j u hj
  have hadd : (⟨b, off, none⟩ : Addr).add j = ⟨b, off + j, none⟩ := by unfold Addr.add; split <;> simp_all
  rw [hadd, cell_of_row w b (off + j) _ T (0, 0) hg]
  have hlt : j < X.length := (List.getElem?_eq_some_iff.1 hj).1
  have h1 : (A ++ X ++ B).toArray[off + j]? = (A ++ (X ++ B))[off + j]? := by simp
  rw [h1, ← hA, List.getElem?_append_right (by omega), Nat.add_sub_cancel_left, List.getElem?_append_left hlt]
  exact hj

/-- append of a make where there is no room: a new row -/
theorem OW.appZ [Rd] {x y : Operand} {b i c k : Nat} {A B : List Value} {T tn : TypeId} (hu : P.underlying t = some (.slice e)) (hT : TyOk P e α) (htn : P.underlying tn = some (.int .i64)) (hx : ev L x = some (.slice (some ⟨b, 0, none⟩) i c)) (hy : ev L y = some (.int .i64 (k : Int)))
    (hg : w.heap[b]? = some (.cells (A ++ B).toArray T (0, 0))) (hA : A.length = i * Rep.sz α) (h0 : 0 < k) (hc : c < i + k) (hlim : i + k ≤ 1073741824) :
    OW P Q L ⟨d, .call { callee := .builtin .append, args := #[x, y], argTypes := #[t, tn] }, ty, pos, af, g⟩ w (fun v' w' => ∃ (G : Nat) (Z : List Value), v' = .slice (some ⟨w.heap.size, 0, none⟩) (i + k) G ∧ i + k ≤ G ∧ G ≤ maxLen ∧ Z.length = (G - i) * Rep.sz α ∧ w' = w.drew.alloc (.cells (A ++ Z).toArray e)) := by
  obtain ⟨ti, hi1, hi2, hi3, hi4⟩ := hT.info
  have hz : (pack (Rep.agg α) (Rep.zc α)).cells.toList = Rep.zc α := pack_cells (α := α) (Rep.zok (fun _ => True) w)
  have hzl : (Rep.zc α).length = Rep.sz α := Rep.len (Rep.zok (α := α) (fun _ => True) w)
  have hzs : (pack (Rep.agg α) (Rep.zc α)).cells.size = Rep.sz α := by rw [← Array.length_toList, hz, hzl]
  have hcells : CellsAt w ⟨b, 0, none⟩ A := row_cells (A := []) (X := A) (B := B) (by simpa using hg) rfl
  have hbytes : (i + k) * ti.bytes ≤ 140737488355328 := by
    have := Nat.mul_le_mul hlim hi3
    omega
  have hold : (Builtin.firstCells ti.size i (.slice (some ⟨b, 0, none⟩) i c)).run P w.drew = .ok A.toArray w.drew :=
    run_firstCells_some w.drew ti.size i ⟨b, 0, none⟩ i c A (by rw [hA, hi2]) hcells
  have hkb : k * ti.bytes ≤ (i + k) * ti.bytes := Nat.mul_le_mul_right _ (by omega)
  have h := Lib.run_append_grow_zeros (P := P) w t tn ty e ti _ .i64 .i64 hu htn hi1 hi4 (some ⟨b, 0, none⟩) i c A hold k h0 (by rw [hi2]; exact Rep.pos) hc (by omega) (by omega) (growslice_fits hc hbytes)
  have hge := grownCap_ge w (i + k) c e
  have h9 : ∀ Z1 Z2 : Array Value, A.toArray ++ Z1 ++ Z2 = (A ++ (Z1 ++ Z2).toList).toArray := fun Z1 Z2 => by apply Array.ext'; simp
  rw [h9] at h
  refine OW.run fun a ha => ⟨_, _, ?_, grownCap w (i + k) c e, (Builtin.zeroCells (pack (Rep.agg α) (Rep.zc α)).cells k ++ Builtin.zeroCells (pack (Rep.agg α) (Rep.zc α)).cells (grownCap w (i + k) c e - (i + k))).toList, rfl, hge, grownCap_le_maxLen w _ _ _ (by unfold maxLen; omega), ?_, rfl⟩
  · simp only [execOp, resolve, invoke, builtin, Sem.run_bind, Sem.run_pure, Result.andThen_ok, List.map_toArray, List.map_cons, List.map_nil, ha _ _ hx, ha _ _ hy, h]
  · simp only [Array.length_toList, Array.size_append, size_zeroCells, hzs, ← Nat.add_mul]
    congr 1
    omega

/-- an own slice in two parts, its row in three -/
theorem Ow.split {o : Cls} {k : Nat} {K : List Nat} {b n cap : Nat} {xs : List α} (h : Ow e o k K w (.slice (some ⟨b, 0, none⟩) n cap) xs) {i : Nat} (hi : i ≤ n) :
    ∃ (c1 c2 : List (List Value)) (S : List Value), w.heap[b]? = some (.cells (c1.flatten ++ c2.flatten ++ S).toArray e (0, 0)) ∧ All2 (Rep.rd (In o K) w) c1 (xs.take i) ∧ All2 (Rep.rd (In o K) w) c2 (xs.drop i) ∧
      c1.flatten.length = i * Rep.sz α ∧ c2.flatten.length = (n - i) * Rep.sz α ∧ S.length = (cap - n) * Rep.sz α ∧ o b = k ∧ n = xs.length ∧ n ≤ cap ∧ cap ≤ maxLen := by
  rcases h with ⟨h, _⟩ | ⟨g, cap', cur, css, h1, h2, h3, h4, h5, h6, h7, h8⟩
  · cases h
  · cases h1
    have hl1 := flatLen (h7.take i)
    have hl2 := flatLen (h7.drop i)
    have hcur : cur.toList = (css.take i).flatten ++ (css.drop i).flatten ++ cur.toList.drop (xs.length * Rep.sz α) := by
      rw [← List.flatten_append, List.take_append_drop, ← h8, List.take_append_drop]
    refine ⟨css.take i, css.drop i, cur.toList.drop (xs.length * Rep.sz α), ?_, h7.take i, h7.drop i, ?_, ?_, ?_, h2, rfl, h4, h5⟩
    · rw [← hcur]; simpa using h3
    · rw [hl1, List.length_take, Nat.min_eq_left hi]
    · rw [hl2, List.length_drop]
    · rw [List.length_drop, Array.length_toList, h6, Nat.sub_mul]

def tlp (b q c z : Nat) : Option Addr := if c = q then some ⟨b, 0, none⟩ else some ⟨b, q * z, none⟩
theorem OW.tl2 [Rd] {u y : Operand} {q b n c : Nat} (hu : P.underlying t = some (.slice e)) (hT : TyOk P e α) (hx : ev L u = some (.slice (some ⟨b, 0, none⟩) n c)) (hy : ev L y = some (.int .i64 (q : Int))) (hq : q ≤ n) (hn : n ≤ c) :
    OW P Q L ⟨d, .slice t u (some y) none none, ty, pos, af, g⟩ w (fun v' w' => v' = .slice (tlp b q c (Rep.sz α)) (n - q) (c - q) ∧ w' = w) := by
  refine OW.imp (OW.sliceV (l := (q : Int)) (h := (n : Int)) hu hT hx (.inr ⟨y, rfl, hy⟩) (.inl ⟨rfl, rfl⟩) (by omega) (by omega) (by omega)) ?_
  rintro v' w' ⟨rfl, rfl⟩
  refine ⟨?_, rfl⟩
  have hadd : (⟨b, 0, none⟩ : Addr).add (q * Rep.sz α) = ⟨b, q * Rep.sz α, none⟩ := by unfold Addr.add; split <;> simp_all
  by_cases hcq : c = q <;> simp [tlp, hcq, hadd]
theorem OW.mid [Rd] {u y1 y2 : Operand} {l h b n c : Nat} (hu : P.underlying t = some (.slice e)) (hT : TyOk P e α) (hx : ev L u = some (.slice (some ⟨b, 0, none⟩) n c)) (hy1 : ev L y1 = some (.int .i64 (l : Int))) (hy2 : ev L y2 = some (.int .i64 (h : Int))) (hq : l < h) (hn : h ≤ c) :
    OW P Q L ⟨d, .slice t u (some y1) (some y2) none, ty, pos, af, g⟩ w (fun v' w' => v' = .slice (some ⟨b, l * Rep.sz α, none⟩) (h - l) (c - l) ∧ w' = w) := by
  refine OW.imp (OW.sliceV (l := (l : Int)) (h := (h : Int)) hu hT hx (.inr ⟨y1, rfl, hy1⟩) (.inr ⟨y2, rfl, hy2⟩) (by omega) (by omega) (by omega)) ?_
  rintro v' w' ⟨rfl, rfl⟩
  refine ⟨?_, rfl⟩
  have hcl : ¬ c = l := by omega
  have hadd : (⟨b, 0, none⟩ : Addr).add (l * Rep.sz α) = ⟨b, l * Rep.sz α, none⟩ := by unfold Addr.add; split <;> simp_all
  simp [hcl, hadd]
/-- append where there is room, cells for cells -/
theorem OW.appRow [Rd] {x y : Operand} {b i c m c2 : Nat} {p2 : Option Addr} {A X B src : List Value} (hu : P.underlying t = some (.slice e)) (hT : TyOk P e α) (hx : ev L x = some (.slice (some ⟨b, 0, none⟩) i c)) (hy : ev L y = some (.slice p2 m c2))
    (hg : w.heap[b]? = some (.cells (A ++ X ++ B).toArray e (0, 0))) (hA : A.length = i * Rep.sz α) (hX : X.length = src.length) (hl : src.length = m * Rep.sz α) (hs : 0 < m → ∃ a, p2 = some a ∧ CellsAt w a src) (h1 : ∀ u ∈ src, u.oneCell' = true) (hc : i + m ≤ c) :
    OW P Q L ⟨d, .call { callee := .builtin .append, args := #[x, y], argTypes := #[t, t] }, ty, pos, af, g⟩ w (fun v' w' => v' = .slice (some ⟨b, 0, none⟩) (i + m) c ∧ w' = w.setRow b (A ++ src ++ B).toArray) := by
  obtain ⟨ti, hi1, hi2, hi3, hi4⟩ := hT.info
  rcases Nat.eq_zero_or_pos m with rfl | hm
  · have hsrc : src = [] := List.eq_nil_of_length_eq_zero (by rw [hl, Nat.zero_mul])
    have hXe : X = [] := List.eq_nil_of_length_eq_zero (by rw [hX, hsrc]; rfl)
    subst hsrc hXe
    have hself : w.setRow b (A ++ [] ++ B).toArray = w := setRow_self w b _ e (0, 0) hg
    refine OW.run fun a ha => ⟨_, w, ?_, rfl, hself.symm⟩
    have h2 : (Builtin.append_ #[t, t] ty #[.slice (some ⟨b, 0, none⟩) i c, .slice p2 0 c2]).run P w = .ok (.slice (some ⟨b, 0, none⟩) i c) w := by
      cases p2 <;> simp [Builtin.append_, run_underlying hu, sizeOf, typeInfo, hi1, Builtin.lenOf, Builtin.firstCells, loadCells, loadCellsFrom, storeCells, show i ≤ c by omega]
    simp [execOp, resolve, invoke, builtin, ha _ _ hx, ha _ _ hy, h2]
  · obtain ⟨a, rfl, hcell⟩ := hs hm
    have h2 := run_append_room (P := P) w t ty e ti hu hi1 b i c _ hg a m c2 src (by rw [hl, hi2]) hcell h1 hc (by rw [hi2, List.size_toArray, List.length_append, List.length_append, hA]; omega)
    have e1 : (A ++ X ++ B).toArray.toList.take (i * ti.size) ++ src ++ (A ++ X ++ B).toArray.toList.drop (i * ti.size + src.length) = A ++ src ++ B := by
      have h3 : (A ++ X ++ B).toArray.toList = A ++ (X ++ B) := by simp
      rw [h3, hi2, ← hA, List.take_left, ← hX, List.drop_length_add_append, List.drop_left]
    rw [e1] at h2
    refine OW.run fun a' ha => ⟨_, _, ?_, rfl, rfl⟩
    simp [execOp, resolve, invoke, builtin, ha _ _ hx, ha _ _ hy, h2]
theorem evo_drew {M N : List Nat} {o o' : Cls} {w w' : World} (h : Evo M N o w.drew o' w') : Evo M N o w o' w' := ⟨h.os, h.tape, h.output, h.size, h.old, h.new, h.blk⟩
theorem evo_row {o : Cls} {w : World} {b : Nat} (cs : Array Value) (hb : o b = 1000) : Evo [1000] [1000] o w o (w.setRow b cs) := (Evo.row cs hb).weaken (by simp) (by simp)
theorem Ow.shape {o : Cls} {k : Nat} {K : List Nat} {v : Value} {xs : List α} (h : Ow e o k K w v xs) : ∃ p cap, v = .slice p xs.length cap ∧ xs.length ≤ cap ∧ cap ≤ maxLen := by
  rcases h with ⟨rfl, rfl⟩ | ⟨g, cap, cur, css, rfl, _, _, h4, h5, _⟩
  · exact ⟨none, 0, rfl, Nat.le_refl _, Nat.zero_le _⟩
  · exact ⟨_, cap, rfl, h4, h5⟩
theorem Ow.shape1 {o : Cls} {k : Nat} {K : List Nat} {v : Value} {xs : List α} (h : Ow e o k K w v xs) (hx : xs ≠ []) : ∃ b cap, v = .slice (some ⟨b, 0, none⟩) xs.length cap := by
  rcases h with ⟨rfl, rfl⟩ | ⟨g, cap, cur, css, rfl, _⟩
  · exact (hx rfl).elim
  · exact ⟨g, cap, rfl⟩
theorem Ow.block {o : Cls} {k : Nat} {K : List Nat} {p : Option Addr} {n cap : Nat} {xs : List α} (h : Ow e o k K w (.slice p n cap) xs) (hx : xs ≠ []) : ∃ b, p = some ⟨b, 0, none⟩ := by
  obtain ⟨b, c, h1⟩ := Ow.shape1 h hx
  cases h1
  exact ⟨b, rfl⟩
theorem Ow.of_row [Flat α] {o : Cls} {k : Nat} {K : List Nat} {b cap : Nat} {xs : List α} {css : List (List Value)} {S : List Value} {S0 : Nat → Prop} {w0 : World} (hg : w.heap[b]? = some (.cells (css.flatten ++ S).toArray e (0, 0))) (hb : o b = k) (h : All2 (Rep.rd S0 w0) css xs) (h1 : xs.length ≤ cap) (h2 : cap ≤ maxLen) (hs : S.length = (cap - xs.length) * Rep.sz α) :
    Ow e o k K w (.slice (some ⟨b, 0, none⟩) xs.length cap) xs := by
  have hl := flatLen h
  refine .inr ⟨b, cap, _, css, rfl, hb, hg, h1, h2, ?_, h.mono fun _ _ hh => Flat.any hh, ?_⟩
  · simp only [List.size_toArray, List.length_append, hl, hs, ← Nat.add_mul]
    congr 1
    omega
  · show (css.flatten ++ S).take _ = _
    rw [← hl, List.take_left]

theorem cut3 (l : List Value) (a b : Nat) (h : a + b ≤ l.length) : ∃ Y X S, l = Y ++ X ++ S ∧ Y.length = a ∧ X.length = b ∧ S.length = l.length - (a + b) :=
  ⟨l.take a, (l.drop a).take b, l.drop (a + b), by rw [← List.drop_drop, List.append_assoc, List.take_append_drop, List.take_append_drop], by simp; omega, by simp; omega, by simp⟩

theorem one_of {S : Nat → Prop} {css : List (List Value)} {xs : List α} (h : All2 (Rep.rd S w) css xs) : ∀ u ∈ css.flatten, u.oneCell' = true := oneCells h

section
variable {D : Nat → Type} [∀ n, Rep (D n)]
variable {T : Tab D}
/-- the end of a call whose result is one slice of its own, whatever its block was -/
theorem end_row {c : Con D} {γ : Gh D} {w w' : World} {rr : HH D c.outs} {v : Value} {n e q k : Nat} {K K' M N : List Nat} {o' : Cls} {r : List (D n)} [Flat (D n)]
    (h1 : inCs T (ofHH T c.outs rr) some id 3000 c.res = some [.one (.own q)]) (h2 : inOs T (ofHH T c.outs rr) some id 3000 c.ob' = some [(q, some (.sl n e r K 3000))]) (h3 : stay c = []) (hq : 1000 ≤ q) (hk : 1000 ≤ k)
    (hM : ∀ x ∈ M, 1000 ≤ x) (hN : ∀ x ∈ N, 1000 ≤ x) (ev : Evo M N γ.o w o' w') (how : Ow e o' k K' w' v r) (hK : roK K) : EndOwn T c γ w rr v w' := by
  obtain ⟨o'', ho⟩ : ∃ o'' : Cls, ∀ b, o'' b = if 1000 ≤ o' b then q else o' b := ⟨fun b => if 1000 ≤ o' b then q else o' b, fun _ => rfl⟩
  have how' : Ow e o'' q K w' v r := by
    rcases how with h | ⟨g, cap, cur, css, a1, a2, a3, a4, a5, a6, a7, a8⟩
    · exact .inl h
    · exact .inr ⟨g, cap, cur, css, a1, by rw [ho, a2, if_pos hk], a3, a4, a5, a6, a7.mono fun _ _ hh => Flat.any hh, a8⟩
  refine ⟨fun _ => True, ⟨o'', fun _ => v, fun _ => ⟨.sl n, r⟩⟩, _, _, h1, h2, ⟨trivial, rfl, how'.one⟩, fun p x hx => ?_, (fun p hp => by rw [h3] at hp; cases hp), ev.os, ev.tape, ev.output, ev.size, fun b hb hc => ?_, fun b hb hc => ?_⟩
  · have hb : lookN [(q, some (AO.sl n e r K 3000))] p = some (some x) := by
      unfold lookO at hx
      split at hx
      · rename_i y hy; rw [hy]; cases hx; rfl
      · cases hx
    obtain ⟨rfl, hy⟩ := look1 hb
    cases hy
    exact ⟨how', hK, .inr ⟨trivial, rfl⟩⟩
  · have hob := ev.old b hb
    refine ⟨?_, ev.blk b hb fun hm => ?_⟩
    · show o'' b = γ.o b
      rw [ho, hob, if_neg (by omega)]
    · have := hM _ hm
      omega
  · have hc : o'' b = 0 ∨ o'' b = 3 := hc
    rw [ho] at hc
    by_cases hlt : b < w.heap.size
    · refine ⟨hlt, ?_⟩
      show γ.o b = o'' b
      rw [ho]
      have hob := ev.old b hlt
      split
      · rename_i h9; rw [if_pos h9] at hc; omega
      · exact hob.symm
    · have := hN _ (ev.new b (by omega) hb)
      rw [if_pos this] at hc
      omega
end
end
end Rx
end Go.Proofs.Ytmgflnbgkpcbdaa
