/- The path of a sequence: program and reference give the same one. Plain laws. -/
import Derived.Test.YtnpnaopnhgkapaaD8
set_option linter.unusedVariables false
set_option linter.unusedSimpArgs false
namespace Go.Proofs.Ytnpnaopnhgkapaa
open Go Go.RowKit Dp
namespace Rx

/-! order of lists -/
def lx (a b : List Int) : Prop := ∃ k, k < b.length ∧ k ≤ a.length ∧ (∀ j, j < k → gt a j = gt b j) ∧ (k = a.length ∨ gt a k < gt b k)
theorem lx_irr (a : List Int) : ¬ lx a a := fun ⟨k, h1, h2, h3, h4⟩ => by
  rcases h4 with h4 | h4 <;> omega
theorem lx_trans {a b c : List Int} (h : lx a b) (h' : lx b c) : lx a c := by
  obtain ⟨k, h1, h2, h3, h4⟩ := h
  obtain ⟨m, g1, g2, g3, g4⟩ := h'
  by_cases c1 : k < m
  · refine ⟨k, by omega, h2, fun j hj => by rw [h3 j hj, g3 j (by omega)], ?_⟩
    rw [← g3 k c1]; exact h4
  · by_cases c2 : k = m
    · subst c2
      refine ⟨k, g1, h2, fun j hj => by rw [h3 j hj, g3 j hj], ?_⟩
      rcases h4 with h4 | h4
      · exact .inl h4
      · rcases g4 with g4 | g4
        · omega
        · exact .inr (by omega)
    · refine ⟨m, g1, by omega, fun j hj => by rw [h3 j (by omega), g3 j hj], .inr ?_⟩
      rw [h3 m (by omega)]
      rcases g4 with g4 | g4 <;> omega
theorem gt_cs (x : Int) (l : List Int) (j : Nat) : gt (x :: l) (j + 1) = gt l j := by simp [gt]
theorem gt_cz (x : Int) (l : List Int) : gt (x :: l) 0 = x := by simp [gt]
theorem lx_cons {a b : List Int} (x : Int) (h : lx a b) : lx (x :: a) (x :: b) := by
  obtain ⟨k, h1, h2, h3, h4⟩ := h
  refine ⟨k + 1, by simp; omega, by simp; omega, fun j hj => ?_, ?_⟩
  · cases j with
    | zero => rfl
    | succ j => rw [gt_cs, gt_cs]; exact h3 j (by omega)
  · rcases h4 with h4 | h4
    · exact .inl (by simp; omega)
    · exact .inr (by rw [gt_cs, gt_cs]; exact h4)
theorem lx_tri : ∀ a b : List Int, lx a b ∨ a = b ∨ lx b a := by
  intro a
  induction a with
  | nil =>
    intro b
    cases b with
    | nil => exact .inr (.inl rfl)
    | cons y b => exact .inl ⟨0, by simp, by simp, fun j hj => by omega, .inl rfl⟩
  | cons x a ih =>
    intro b
    cases b with
    | nil => exact .inr (.inr ⟨0, by simp, by simp, fun j hj => by omega, .inl rfl⟩)
    | cons y b =>
      by_cases h1 : x < y
      · exact .inl ⟨0, by simp, by simp, fun j hj => by omega, .inr (by rw [gt_cz, gt_cz]; exact h1)⟩
      by_cases h2 : y < x
      · exact .inr (.inr ⟨0, by simp, by simp, fun j hj => by omega, .inr (by rw [gt_cz, gt_cz]; exact h2)⟩)
      have : x = y := by omega
      subst this
      rcases ih b with h | h | h
      · exact .inl (lx_cons x h)
      · exact .inr (.inl (by rw [h]))
      · exact .inr (.inr (lx_cons x h))
theorem cmpc_eq (a b : Int) : cmp_Compare_int a b = some (if a < b then -1 else if a > b then 1 else 0) := by
  unfold cmp_Compare_int cmp_isNaN_int
  simp only [Option.bind_some, bneF (rfl : a = a), bneF (rfl : b = b)]
  by_cases h1 : a < b
  · simp [h1]
  · by_cases h2 : a > b
    · simp [h1, h2]
    · simp [h1, h2]
theorem comp_spec (a b : List Int) (ha : a.length ≤ 1000) : Wp (slices_Compare_int_int a b) fun c => (c < 0 ↔ lx a b) := by
  unfold slices_Compare_int_int
  have : Wp (loopO (slices_Compare_int_int_L1 a b) 0) fun r => (r = .inl () ∧ ∀ j, j < a.length → j < b.length ∧ gt a j = gt b j) ∨ ∃ c, r = .inr c ∧ (c < 0 ↔ lx a b) := by
    refine wp_upto a.length (fun k s => s = (k : Int) ∧ ∀ j, j < k → j < b.length ∧ gt a j = gt b j) ⟨rfl, fun j hj => by omega⟩ (fun k s hk hv => ?_) (fun s hv => ?_) (by omega)
    · obtain ⟨rfl, he⟩ := hv
      unfold slices_Compare_int_int_L1
      simp only [lt_len hk, if_true, idx_gt hk, Option.bind_some]
      by_cases hb : (k : Int) ≥ len b
      · rw [dT hb]
        unfold len at hb
        simp only [if_true]
        refine wp_some.2 (.inr ⟨_, rfl, ⟨fun h => by omega, fun ⟨m, h1, h2, h3, h4⟩ => ?_⟩⟩)
        have := (he m (by omega)).2
        rcases h4 with h4 | h4 <;> omega
      · rw [dF hb]
        unfold len at hb
        rw [idx_gt (l := b) (k := k) (by omega)]
        simp only [Bool.false_eq_true, if_false, Option.bind_some, cmpc_eq]
        have key : ∀ m, m < b.length → m ≤ a.length → (∀ j, j < m → gt a j = gt b j) → (m = a.length ∨ gt a m < gt b m) → gt a k ≠ gt b k → m = k := fun m h1 h2 h3 h4 hne => by
          by_cases c1 : m < k
          · have := (he m c1).2
            rcases h4 with h4 | h4 <;> omega
          · by_cases c2 : m = k
            · exact c2
            · exact (hne (h3 k (by omega))).elim
        by_cases g1 : gt a k < gt b k
        · rw [if_pos g1]
          simp only [show ((-1 : Int) != 0) = true from rfl, if_true]
          exact wp_some.2 (.inr ⟨_, rfl, ⟨fun _ => ⟨k, by omega, by omega, fun j hj => (he j hj).2, .inr g1⟩, fun _ => by omega⟩⟩)
        · rw [if_neg g1]
          by_cases g2 : gt a k > gt b k
          · rw [if_pos g2]
            simp only [show ((1 : Int) != 0) = true from rfl, if_true]
            refine wp_some.2 (.inr ⟨_, rfl, ⟨fun h => by omega, fun ⟨m, h1, h2, h3, h4⟩ => ?_⟩⟩)
            have := key m h1 h2 h3 h4 (by omega)
            subst this
            rcases h4 with h4 | h4 <;> omega
          · rw [if_neg g2]
            simp only [show ((0 : Int) != 0) = false from rfl, Bool.false_eq_true, if_false]
            refine wp_some.2 ⟨W_succ (by omega), fun j hj => ?_⟩
            by_cases hjk : j = k
            · subst hjk; omega
            · exact he j (by omega)
    · obtain ⟨rfl, he⟩ := hv
      unfold slices_Compare_int_int_L1
      simp only [nlt_len, Bool.false_eq_true, if_false]
      exact wp_some.2 (.inl ⟨rfl, he⟩)
  refine this.bind fun r hr => ?_
  rcases hr with ⟨rfl, he⟩ | ⟨c, rfl, hc⟩
  · simp only [Sum.elim_inl]
    by_cases hl : len a < len b
    · rw [dT hl]
      unfold len at hl
      simp only [if_true]
      exact wp_some.2 ⟨fun _ => ⟨a.length, by omega, by omega, fun j hj => (he j hj).2, .inl rfl⟩, fun _ => by omega⟩
    · rw [dF hl]
      unfold len at hl
      simp only [Bool.false_eq_true, if_false]
      refine wp_some.2 ⟨fun h => by omega, fun ⟨m, h1, h2, h3, h4⟩ => ?_⟩
      have := (he m (by omega)).2
      rcases h4 with h4 | h4 <;> omega
  · simp only [Sum.elim_inr]
    exact wp_some.2 hc
/-! chains of needs -/
structure Ch (xs : List Stage) (l : List Int) : Prop where
  rg : ∀ k, k < l.length → 0 ≤ gt l k ∧ gt l k < (xs.length : Int)
  nd : ∀ k, 0 < k → k < l.length → gt l (k - 1) ∈ (gt xs (gt l k).toNat).Needs
def tsum (xs : List Stage) : List Int → Int
  | [] => 0
  | a :: t => (gt xs a.toNat).Ticks + tsum xs t
theorem tsum_app (xs : List Stage) (l m : List Int) : tsum xs (l ++ m) = tsum xs l + tsum xs m := by
  induction l with
  | nil => simp [tsum]
  | cons b l ih => simp only [List.cons_append, tsum, ih]; omega
theorem tsum_take {xs : List Stage} {l : List Int} {k : Nat} (hk : k < l.length) : tsum xs (l.take (k + 1)) = tsum xs (l.take k) + (gt xs (gt l k).toNat).Ticks := by
  rw [take_gt hk, tsum_app]; simp [tsum]
theorem drop_gt {l : List Int} {k : Nat} (hk : k < l.length) : l.drop k = gt l k :: l.drop (k + 1) := by
  rw [gt_get hk]; exact List.drop_eq_getElem_cons hk
theorem gt_right {l m : List Int} {k : Nat} : gt (l ++ m) (l.length + k) = gt m k := by
  unfold gt
  rw [List.getD_eq_getElem?_getD, List.getD_eq_getElem?_getD, List.getElem?_append_right (by omega)]
  simp
theorem Ch.join {xs : List Stage} {l m : List Int} (h : Ch xs l) (h' : Ch xs m) (hj : 0 < l.length → 0 < m.length → gt l (l.length - 1) ∈ (gt xs (gt m 0).toNat).Needs) : Ch xs (l ++ m) := by
  refine ⟨fun k hk => ?_, fun k k0 hk => ?_⟩
  · rw [List.length_append] at hk
    by_cases c : k < l.length
    · rw [gt_app_left c]; exact h.rg k c
    · rw [show k = l.length + (k - l.length) by omega, gt_right]; exact h'.rg _ (by omega)
  · rw [List.length_append] at hk
    by_cases c : k < l.length
    · rw [gt_app_left c, gt_app_left (by omega)]; exact h.nd k k0 c
    · by_cases c2 : k = l.length
      · subst c2
        have e := gt_right (l := l) (m := m) (k := 0)
        rw [Nat.add_zero] at e
        rw [e, gt_app_left (by omega)]
        exact hj (by omega) (by omega)
      · have e1 := gt_right (l := l) (m := m) (k := k - l.length)
        have e2 := gt_right (l := l) (m := m) (k := k - 1 - l.length)
        rw [show l.length + (k - l.length) = k by omega] at e1
        rw [show l.length + (k - 1 - l.length) = k - 1 by omega] at e2
        rw [e1, e2]
        have := h'.nd (k - l.length) (by omega) (by omega)
        rwa [show k - l.length - 1 = k - 1 - l.length by omega] at this
theorem Ch.left {xs : List Stage} {l m : List Int} (h : Ch xs (l ++ m)) : Ch xs l := by
  refine ⟨fun k hk => ?_, fun k k0 hk => ?_⟩
  · have := h.rg k (by simp; omega)
    rwa [gt_app_left hk] at this
  · have := h.nd k k0 (by simp; omega)
    rwa [gt_app_left hk, gt_app_left (by omega)] at this
theorem Ch.one {xs : List Stage} {i : Nat} (hi : i < xs.length) : Ch xs [(i : Int)] := by
  refine ⟨fun k hk => ?_, fun k k0 hk => by simp at hk; omega⟩
  have : k = 0 := by simp at hk; omega
  subst this
  rw [gt_cz]; omega
theorem Ch.asc {xs : List Stage} (hs : VS xs) {l : List Int} (h : Ch xs l) : ∀ k, k < l.length → (k : Int) ≤ gt l k := by
  intro k
  induction k with
  | zero => intro hk; exact (h.rg 0 hk).1
  | succ k ih =>
    intro hk
    have a := ih (by omega)
    have b := h.nd (k + 1) (by omega) hk
    have r := h.rg (k + 1) hk
    obtain ⟨j, hj, e⟩ := mem_gt b
    have := hs.nd (gt l (k + 1)).toNat (by omega) j hj
    simp only [Nat.add_sub_cancel] at e
    omega
theorem Ch.len {xs : List Stage} (hs : VS xs) {l : List Int} (h : Ch xs l) : l.length ≤ xs.length := by
  by_cases h0 : l.length = 0
  · omega
  · have a := h.asc hs (l.length - 1) (by omega)
    have b := h.rg (l.length - 1) (by omega)
    omega
/-- ends of a sequence that has just begun -/
theorem es_new {xs : List Stage} (hs : VS xs) {es : List Int} (he : EN xs (new0 xs 0) 0 es) {i : Nat} (hi : i < xs.length) : gt es i = mx (gt xs i).Needs es + (gt xs i).Ticks := by
  rw [he.eq i hi]
  rcases new0_gt (T := 0) hi with ⟨a, b⟩ | ⟨a, b⟩ <;> rw [b]
  · rw [ef1 rfl, a]
    simp [mx]
  · rw [ef0 rfl]
theorem es_pos {xs : List Stage} (hs : VS xs) {es : List Int} (he : EN xs (new0 xs 0) 0 es) {i : Nat} (hi : i < xs.length) : 1 ≤ gt es i ∧ gt es i ≤ 120000 := by
  rw [es_new hs he hi]
  have a := mx_nn (gt xs i).Needs es
  have b := hs.tk i hi
  refine ⟨by omega, ?_⟩
  rw [← es_new hs he hi]
  have c := en_bd (K := 600) he (by omega) (by omega) hs.nd (fun i hi => (hs.tk i hi).2) (fun i hi h1 => by
    have tk := hs.tk i hi
    rcases new0_gt (T := 0) hi with ⟨_, c⟩ | ⟨_, c⟩ <;> rw [c] at h1 ⊢
    · simp only; omega
    · simp at h1) i hi
  have := hs.n2
  omega
theorem es_step {xs : List Stage} (hs : VS xs) {es : List Int} (he : EN xs (new0 xs 0) 0 es) {l : List Int} (h : Ch xs l) {k : Nat} (hk : k + 1 < l.length) : gt es (gt l k).toNat + (gt xs (gt l (k + 1)).toNat).Ticks ≤ gt es (gt l (k + 1)).toNat := by
  have r := h.rg (k + 1) hk
  have b := h.nd (k + 1) (by omega) hk
  simp only [Nat.add_sub_cancel] at b
  obtain ⟨j, hj, e⟩ := mem_gt b
  rw [es_new hs he (i := (gt l (k + 1)).toNat) (by omega)]
  have := mx_le (es := es) hj
  rw [e] at this
  omega
theorem chain_le {xs : List Stage} (hs : VS xs) {es : List Int} (he : EN xs (new0 xs 0) 0 es) {l : List Int} (h : Ch xs l) : ∀ k, k < l.length → tsum xs (l.take (k + 1)) ≤ gt es (gt l k).toNat := by
  intro k
  induction k with
  | zero =>
    intro hk
    have r := h.rg 0 hk
    rw [tsum_take hk, es_new hs he (i := (gt l 0).toNat) (by omega)]
    have := mx_nn (gt xs (gt l 0).toNat).Needs es
    simp [tsum]; omega
  | succ k ih =>
    intro hk
    have a := ih (by omega)
    have b := es_step hs he h hk
    rw [tsum_take hk]
    omega
theorem chain_top {xs : List Stage} (hs : VS xs) {es : List Int} (he : EN xs (new0 xs 0) 0 es) {L : Int} (ht : Top es L) (hL : 0 ≤ L) {l : List Int} (h : Ch xs l) : tsum xs l ≤ L := by
  by_cases h0 : l.length = 0
  · rw [List.length_eq_zero_iff.1 h0]; exact hL
  · have a := chain_le hs he h (l.length - 1) (by omega)
    have r := h.rg (l.length - 1) (by omega)
    have b := ht.1 (gt l (l.length - 1)).toNat (by have := he.ln; omega)
    rw [show l.length - 1 + 1 = l.length by omega, List.take_length] at a
    omega
/-- a path that proves a length -/
structure GP (xs : List Stage) (L : Int) (l : List Int) : Prop where
  ne : 0 < l.length
  st : (gt xs (gt l 0).toNat).Needs = []
  ch : Ch xs l
  sm : tsum xs l = L
theorem gp_es {xs : List Stage} (hs : VS xs) {es : List Int} (he : EN xs (new0 xs 0) 0 es) {L : Int} (ht : Top es L) {l : List Int} (h : GP xs L l) : ∀ k, k < l.length → gt es (gt l k).toNat = tsum xs (l.take (k + 1)) := by
  have up : ∀ d k, k + d < l.length → gt es (gt l k).toNat - tsum xs (l.take (k + 1)) ≤ gt es (gt l (k + d)).toNat - tsum xs (l.take (k + d + 1)) := by
    intro d
    induction d with
    | zero => intro k _; exact Int.le_refl _
    | succ d ih =>
      intro k hk
      have a := ih k (by omega)
      have b := es_step hs he h.ch (k := k + d) (by omega)
      rw [show k + (d + 1) = k + d + 1 by omega, tsum_take (k := k + d + 1) (by omega)]
      omega
  intro k hk
  have a := chain_le hs he h.ch k hk
  have b := up (l.length - 1 - k) k (by omega)
  rw [show k + (l.length - 1 - k) = l.length - 1 by omega, show l.length - 1 + 1 = l.length by omega, List.take_length, h.sm] at b
  have r := h.ch.rg (l.length - 1) (by omega)
  have c := ht.1 (gt l (l.length - 1)).toNat (by have := he.ln; omega)
  omega
/-- the least of the paths -/
structure MinP (xs : List Stage) (L : Int) (l : List Int) : Prop where
  gp : GP xs L l
  le : ∀ m, GP xs L m → ¬ lx m l
theorem min_uniq {xs : List Stage} {L : Int} {l l' : List Int} (h : MinP xs L l) (h' : MinP xs L l') : l = l' := by
  rcases lx_tri l l' with c | c | c
  · exact (h'.le l h.gp c).elim
  · exact c
  · exact (h.le l' h'.gp c).elim
/-! the search -/
structure Bs (xs : List Stage) (L : Int) (S : List Int → Prop) (b : List Int) (f : Bool) : Prop where
  gp : f = false → GP xs L b
  le : f = false → ∀ m, S m → ¬ lx m b
  no : f = true → ∀ m, ¬ S m
theorem Bs.congr {xs : List Stage} {L : Int} {S S' : List Int → Prop} {b : List Int} {f : Bool} (h : Bs xs L S b f) (hs : ∀ m, S' m → S m) : Bs xs L S' b f :=
  ⟨h.gp, fun hf m hm => h.le hf m (hs m hm), fun hf m hm => h.no hf m (hs m hm)⟩
theorem cons_end {q : List Int} {i : Int} {p : List Int} (hq : 0 < q.length) : q ++ i :: p = q.take (q.length - 1) ++ gt q (q.length - 1) :: i :: p := by
  have := take_gt (l := q) (k := q.length - 1) (by omega)
  rw [show q.length - 1 + 1 = q.length by omega, List.take_length] at this
  conv => lhs; rw [this]
  simp
theorem back_min {xs : List Stage} (hs : VS xs) {es : List Int} (he : EN xs (new0 xs 0) 0 es) {L : Int} (ht : Top es L) : ∀ (n : Nat) (i : Nat) (p b : List Int) (f : Bool) (S : List Int → Prop), i < n → i < xs.length → p.length + i < xs.length → Ch xs ((i : Int) :: p) → gt es i + tsum xs p = L → Bs xs L S b f →
    Wp (disconnect_Path_1_v2_R n (i : Int) p es xs b f) fun r => r.1 = p ∧ r.2.1 = es ∧ r.2.2.1 = xs ∧ r.2.2.2.2 = false ∧ Bs xs L (fun m => S m ∨ (GP xs L m ∧ ∃ q, m = q ++ (i : Int) :: p)) r.2.2.2.1 false := by
  have n2 := hs.n2
  have hel := he.ln
  intro n
  induction n with
  | zero => intro i _ _ _ _ h; omega
  | succ n ih =>
    intro i p b f S hin hi hp hch hsum hb
    have tk := hs.tk i hi
    have ep := es_pos hs he hi
    have hnew := es_new hs he hi
    show Wp (disconnect_Path_1_v2_S (disconnect_Path_1_v2_R n) (i : Int) p es xs b f) _
    unfold disconnect_Path_1_v2_S slices_Clone_int_int slices_Insert_int_int
    rw [app_nl (ys := p) (by omega)]
    have hins : insO p 0 [(i : Int)] = some ((i : Int) :: p) := by
      unfold insO
      rw [app_sm (by simp; omega)]
      rw [show (decide ((0 : Int) ≤ 0) && decide ((0 : Int) ≤ len p) && !([(i : Int)] : List Int).isEmpty) = true by
        rw [dT (c := (0 : Int) ≤ len p) (by unfold len; omega)]; rfl]
      simp
    simp only [Option.bind_some, hins, idx_gt (l := es) (k := i) (by omega), idx_gt (l := xs) (k := i) hi]
    rw [W_sm (x := gt es i - (gt xs i).Ticks) (by omega) (by omega)]
    have gi : ∀ q : List Int, gt (q ++ (i : Int) :: p) q.length = (i : Int) := fun q => by
      have := gt_right (l := q) (m := (i : Int) :: p) (k := 0)
      rw [Nat.add_zero] at this
      rw [this, gt_cz]
    by_cases hz : gt es i - (gt xs i).Ticks = 0
    · rw [beqT hz]
      simp only [if_true]
      have hnil : (gt xs i).Needs = [] := by
        cases hn : (gt xs i).Needs with
        | nil => rfl
        | cons y ys =>
          have h0 : 0 < (gt xs i).Needs.length := by rw [hn]; simp
          have a := mx_le (es := es) h0
          have b := (es_pos hs he (i := (gt (gt xs i).Needs 0).toNat) (by have := nd_lt hs hi h0; omega)).1
          omega
      have hgp : GP xs L ((i : Int) :: p) := ⟨by simp, by rw [gt_cz]; simpa using hnil, hch, by simp only [tsum, Int.toNat_natCast]; omega⟩
      have only : ∀ m, (GP xs L m ∧ ∃ q, m = q ++ (i : Int) :: p) → m = (i : Int) :: p := by
        rintro m ⟨hm, q, rfl⟩
        cases q with
        | nil => rfl
        | cons y q =>
          have := hm.ch.nd (y :: q).length (by simp) (by simp)
          rw [gi, Int.toNat_natCast, hnil] at this
          cases this
      refine Wp.bind (Q := fun x => (x = false → f = false ∧ ¬ lx ((i : Int) :: p) b) ∧ (x = true → f = true ∨ f = false ∧ lx ((i : Int) :: p) b)) ?_ fun x hx => ?_
      · refine Wp.ite (fun h => wp_some.2 ⟨fun h => (by cases h), fun _ => .inl h⟩) fun hf => ?_
        refine (comp_spec _ _ (by simp; omega)).bind fun r hr => wp_some.2 ⟨fun h => ?_, fun h => ?_⟩
        · exact ⟨hf, fun hl => by have := of_decide_eq_false h; exact this (hr.2 hl)⟩
        · exact .inr ⟨hf, hr.1 (of_decide_eq_true h)⟩
      · cases x with
        | true =>
          have hne : neO ((i : Int) :: p) = some () := rfl
          simp only [if_true, hne, Option.bind_some]
          refine wp_some.2 ⟨rfl, rfl, rfl, rfl, fun _ => hgp, fun _ m hm hl => ?_, fun h => by cases h⟩
          rcases hm with hm | hm
          · rcases hx.2 rfl with c | ⟨c, d⟩
            · exact hb.no c m hm
            · exact hb.le c m hm (lx_trans hl d)
          · rw [only m hm] at hl
            exact lx_irr _ hl
        | false =>
          obtain ⟨c, d⟩ := hx.1 rfl
          simp only [Bool.false_eq_true, if_false, Option.bind_some]
          refine wp_some.2 ⟨rfl, rfl, rfl, c, fun _ => hb.gp c, fun _ m hm hl => ?_, fun h => by cases h⟩
          rcases hm with hm | hm
          · exact hb.le c m hm hl
          · rw [only m hm] at hl
            exact d hl
    · rw [beqF hz]
      simp only [Bool.false_eq_true, if_false]
      have hM : ∃ j, j < (gt xs i).Needs.length ∧ gt es (gt (gt xs i).Needs j).toNat = gt es i - (gt xs i).Ticks := by
        rcases mx_at (gt xs i).Needs es with e | ⟨j, hj, e⟩
        · omega
        · exact ⟨j, hj, by omega⟩
      have thru : ∀ m, (GP xs L m ∧ ∃ q, m = q ++ (i : Int) :: p) → ∃ j, j < (gt xs i).Needs.length ∧ gt es (gt (gt xs i).Needs j).toNat = gt es i - (gt xs i).Ticks ∧ GP xs L m ∧ ∃ q, m = q ++ gt (gt xs i).Needs j :: (i : Int) :: p := by
        rintro m ⟨hm, q, rfl⟩
        by_cases hq : q.length = 0
        · exfalso
          have := List.length_eq_zero_iff.1 hq
          subst this
          have st := hm.st
          rw [List.nil_append, gt_cz, Int.toNat_natCast] at st
          obtain ⟨j, hj, _⟩ := hM
          rw [st] at hj
          simp at hj
        · have a := hm.ch.nd q.length (by omega) (by simp)
          rw [gi, Int.toNat_natCast, gt_app_left (by omega)] at a
          obtain ⟨j, hj, e⟩ := mem_gt a
          have e1 := gp_es hs he ht hm q.length (by simp)
          have e2 := gp_es hs he ht hm (q.length - 1) (by simp; omega)
          rw [show q.length - 1 + 1 = q.length by omega, gt_app_left (by omega)] at e2
          rw [tsum_take (by simp), gi, Int.toNat_natCast] at e1
          refine ⟨j, hj, by rw [e]; omega, hm, q.take (q.length - 1), ?_⟩
          rw [e]
          exact cons_end (by omega)
      have hloop : Wp (loopO (disconnect_Path_1_v2_L1 (disconnect_Path_1_v2_R n) (gt es i) (gt xs i) (gt xs i)) (0, es, xs, b, f, (i : Int) :: p)) fun r => r.1 = es ∧ r.2.1 = xs ∧ r.2.2.2.1 = false ∧ Bs xs L (fun m => S m ∨ (GP xs L m ∧ ∃ q, m = q ++ (i : Int) :: p)) r.2.2.1 false := by
        refine wp_upto (gt xs i).Needs.length (fun k s => s.1 = (k : Int) ∧ s.2.1 = es ∧ s.2.2.1 = xs ∧ s.2.2.2.2.2 = (i : Int) :: p ∧ Bs xs L (fun m => S m ∨ ∃ j, j < k ∧ gt es (gt (gt xs i).Needs j).toNat = gt es i - (gt xs i).Ticks ∧ GP xs L m ∧ ∃ q, m = q ++ gt (gt xs i).Needs j :: (i : Int) :: p) s.2.2.2.1 s.2.2.2.2.1 ∧ ((∃ j, j < k ∧ gt es (gt (gt xs i).Needs j).toNat = gt es i - (gt xs i).Ticks) → s.2.2.2.2.1 = false)) ⟨rfl, rfl, rfl, rfl, hb.congr fun m hm => by
            rcases hm with hm | ⟨j, hj, _⟩
            · exact hm
            · omega, fun ⟨j, hj, _⟩ => by omega⟩ (fun k s hk hv => ?_) (fun s hv => ?_) (by have := hs.nlen hi; omega)
        · obtain ⟨z, es', xs', b', f', p'⟩ := s
          simp only at hv
          obtain ⟨rfl, rfl, rfl, rfl, h1, h2⟩ := hv
          have nd := hs.nd i hi k hk
          have nl := hs.nlen hi
          unfold disconnect_Path_1_v2_L1
          rw [W_sm (x := gt es' i - (gt xs' i).Ticks) (by omega) (by omega), W_succ (by omega)]
          simp only [lt_len hk, if_true, idx_gt hk, Option.bind_some, idx_gtZ (l := es') (j := gt (gt xs' i).Needs k) nd.1 (by omega)]
          by_cases hq : gt es' (gt (gt xs' i).Needs k).toNat = gt es' i - (gt xs' i).Ticks
          · rw [beqT hq]
            simp only [if_true]
            have hj : ((gt (gt xs' i).Needs k).toNat : Int) = gt (gt xs' i).Needs k := by omega
            have hch' : Ch xs' (((gt (gt xs' i).Needs k).toNat : Int) :: (i : Int) :: p) := by
              have := (Ch.one (i := (gt (gt xs' i).Needs k).toNat) (by omega)).join hch fun _ _ => by
                rw [gt_cz, Int.toNat_natCast]
                show gt [_] 0 ∈ _
                rw [gt_cz, hj]
                exact gt_mem hk
              simpa using this
            have := ih (gt (gt xs' i).Needs k).toNat ((i : Int) :: p) b' f' _ (by omega) (by omega) (by simp; omega) hch' (by simp only [tsum, Int.toNat_natCast]; omega) h1
            rw [hj] at this
            rw [Option.bind_assoc]
            refine this.bind fun r hr => ?_
            obtain ⟨r1, r2, r3, r4, r5⟩ := r
            simp only at hr
            obtain ⟨rfl, rfl, rfl, rfl, g1⟩ := hr
            refine wp_some.2 ⟨rfl, rfl, rfl, rfl, g1.congr fun m hm => ?_, fun _ => rfl⟩
            rcases hm with hm | ⟨j, hjk, c1, c2, c3⟩
            · exact .inl (.inl hm)
            · by_cases e : j = k
              · subst e; exact .inr ⟨c2, c3⟩
              · exact .inl (.inr ⟨j, by omega, c1, c2, c3⟩)
          · rw [beqF hq]
            simp only [Bool.false_eq_true, if_false, Option.bind_some]
            refine wp_some.2 ⟨rfl, rfl, rfl, rfl, h1.congr fun m hm => ?_, fun ⟨j, hj, e⟩ => h2 ⟨j, ?_, e⟩⟩
            · rcases hm with hm | ⟨j, hjk, c1, c2, c3⟩
              · exact .inl hm
              · by_cases e : j = k
                · subst e; exact (hq c1).elim
                · exact .inr ⟨j, by omega, c1, c2, c3⟩
            · by_cases hjk : j = k
              · subst hjk; exact (hq e).elim
              · omega
        · obtain ⟨z, es', xs', b', f', p'⟩ := s
          simp only at hv
          obtain ⟨rfl, rfl, rfl, rfl, h1, h2⟩ := hv
          unfold disconnect_Path_1_v2_L1
          simp only [nlt_len, Bool.false_eq_true, if_false]
          have hf : f' = false := by
            obtain ⟨j, hj, e⟩ := hM
            exact h2 ⟨j, hj, e⟩
          subst hf
          refine wp_some.2 ⟨rfl, rfl, rfl, h1.congr fun m hm => ?_⟩
          rcases hm with hm | hm
          · exact .inl hm
          · exact .inr (thru m hm)
      refine hloop.bind fun r hr => ?_
      obtain ⟨r1, r2, r3, r4, r5⟩ := r
      simp only at hr
      obtain ⟨rfl, rfl, rfl, g1⟩ := hr
      exact wp_some.2 ⟨rfl, rfl, rfl, rfl, g1⟩
theorem path_min {xs : List Stage} (hs : VS xs) (hc : disconnect_Check xs = some 0) {es : List Int} (he : EN xs (new0 xs 0) 0 es) {L : Int} (ht : Top es L) : Wp (disconnect_Path xs) fun l => MinP xs L l := by
  have n1 := hs.n1
  have n2 := hs.n2
  obtain ⟨es1, hE, he1⟩ := ends_eq (EH.of hs (VP_new hs (T := 0) (by omega) (by omega)))
  obtain rfl := en_uniq hs.nd he he1
  have hel := he.ln
  obtain ⟨L1, hM, htop⟩ := max_eq (es := es) (by omega) (by omega)
  obtain rfl := top_uniq ht htop
  unfold disconnect_Path
  simp only [new_eq hs hc (T := 0) (by omega) (by omega), Option.bind_some, show ((0 : Int) != 0) = false from rfl, Bool.false_eq_true, if_false, hE, hM]
  have hloop : Wp (loopO (disconnect_Path_L1 es L) (0, xs, es, [], true)) fun r => MinP xs L r.2.2.1 := by
    refine wp_upto es.length (fun k s => s.1 = (k : Int) ∧ s.2.1 = xs ∧ s.2.2.1 = es ∧ Bs xs L (fun m => GP xs L m ∧ ∃ j q, j < k ∧ m = q ++ [((j : Nat) : Int)]) s.2.2.2.1 s.2.2.2.2 ∧ ((∃ j, j < k ∧ gt es j = L) → s.2.2.2.2 = false)) ⟨rfl, rfl, rfl, ⟨fun h => Bool.noConfusion h, fun h => Bool.noConfusion h, fun _ m ⟨_, j, q, hj, _⟩ => by omega⟩, fun ⟨j, hj, _⟩ => by omega⟩ (fun k s hk hv => ?_) (fun s hv => ?_) (by omega)
    · obtain ⟨z, xs', es', b', f'⟩ := s
      simp only at hv
      obtain ⟨rfl, rfl, rfl, h1, h2⟩ := hv
      unfold disconnect_Path_L1
      rw [W_succ (by omega)]
      simp only [lt_len hk, if_true, idx_gt hk, Option.bind_some]
      by_cases hq : gt es' k = L
      · rw [beqT hq]
        simp only [if_true]
        have := back_min hs he ht 64 k [] b' f' _ (by omega) (by omega) (by simp; omega) (Ch.one (by omega)) (by simp only [tsum]; omega) h1
        rw [Option.bind_assoc]
        unfold disconnect_Path_1_v2
        refine this.bind fun r hr => ?_
        obtain ⟨r1, r2, r3, r4, r5⟩ := r
        simp only at hr
        obtain ⟨rfl, rfl, rfl, rfl, g1⟩ := hr
        refine wp_some.2 ⟨rfl, rfl, rfl, g1.congr fun m hm => ?_, fun _ => rfl⟩
        obtain ⟨hm, j, q, hj, e⟩ := hm
        by_cases hjk : j = k
        · subst hjk; exact .inr ⟨hm, q, e⟩
        · exact .inl ⟨hm, j, q, by omega, e⟩
      · rw [beqF hq]
        simp only [Bool.false_eq_true, if_false, Option.bind_some]
        refine wp_some.2 ⟨rfl, rfl, rfl, h1.congr fun m hm => ?_, fun ⟨j, hj, e⟩ => h2 ⟨j, ?_, e⟩⟩
        · obtain ⟨hm, j, q, hj, e⟩ := hm
          refine ⟨hm, j, q, ?_, e⟩
          by_cases hjk : j = k
          · exfalso
            subst hjk
            have := gp_es hs he ht hm q.length (by rw [e]; simp)
            have e2 : gt m q.length = (j : Int) := by
              have := gt_right (l := q) (m := [(j : Int)]) (k := 0)
              rw [Nat.add_zero] at this
              rw [e, this, gt_cz]
            rw [e2, Int.toNat_natCast, List.take_of_length_le (by rw [e]; simp), hm.sm] at this
            exact hq this
          · omega
        · by_cases hjk : j = k
          · subst hjk; exact (hq e).elim
          · omega
    · obtain ⟨z, xs', es', b', f'⟩ := s
      simp only at hv
      obtain ⟨rfl, rfl, rfl, h1, h2⟩ := hv
      unfold disconnect_Path_L1
      simp only [nlt_len, Bool.false_eq_true, if_false]
      obtain ⟨_, j, hj, e⟩ := htop
      have hf := h2 ⟨j, hj, e⟩
      refine wp_some.2 ⟨h1.gp hf, fun m hm => h1.le hf m ⟨hm, (gt m (m.length - 1)).toNat, m.take (m.length - 1), ?_, ?_⟩⟩
      · have := hm.ch.rg (m.length - 1) (by have := hm.ne; omega)
        omega
      · have ne := hm.ne
        have r := hm.ch.rg (m.length - 1) (by omega)
        have := take_gt (l := m) (k := m.length - 1) (by omega)
        rw [show m.length - 1 + 1 = m.length by omega, List.take_length] at this
        rw [show (((gt m (m.length - 1)).toNat : Nat) : Int) = gt m (m.length - 1) by omega]
        exact this
  exact hloop.bind fun r hr => wp_some.2 hr
end Rx
end Go.Proofs.Ytnpnaopnhgkapaa
