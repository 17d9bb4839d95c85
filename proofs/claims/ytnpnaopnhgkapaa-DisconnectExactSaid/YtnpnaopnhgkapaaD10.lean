/- The reference's path is the least one too; proofs of a length. Plain laws. -/
import Derived.Test.YtnpnaopnhgkapaaD9
set_option linter.unusedVariables false
set_option linter.unusedSimpArgs false
namespace Go.Proofs.Ytnpnaopnhgkapaa
open Go Go.RowKit Dp
namespace Rx

/-- how long it takes from the beginning of a stage to the end of what must follow it -/
structure AF (xs : List Stage) (lo : Nat) (af : List Int) : Prop where
  ln : af.length = xs.length
  ge : ∀ i, lo ≤ i → i < xs.length → ∀ k, i < k → k < xs.length → (i : Int) ∈ (gt xs k).Needs → gt af k + (gt xs i).Ticks ≤ gt af i
  at_ : ∀ i, lo ≤ i → i < xs.length → gt af i = (gt xs i).Ticks ∨ ∃ k, i < k ∧ k < xs.length ∧ (i : Int) ∈ (gt xs k).Needs ∧ gt af i = gt af k + (gt xs i).Ticks
  bd : ∀ i, lo ≤ i → i < xs.length → 1 ≤ gt af i ∧ gt af i ≤ 600 * ((xs.length : Int) - i)
  z : ∀ i, i < lo → i < xs.length → gt af i = 0
theorem after_inner {xs : List Stage} (hs : VS xs) {cur : List Int} {i : Nat} (hi : i < xs.length) (h : AF xs (i + 1) cur) : Wp (loopO (dynposref31_Path_L2 xs ((i : Int), cur)) (((i + 1 : Nat) : Int), cur)) fun r => ∃ b, r = cur.set i b ∧ 0 ≤ b ∧ (∀ k, i < k → k < xs.length → (i : Int) ∈ (gt xs k).Needs → gt cur k ≤ b) ∧ (b = 0 ∨ ∃ k, i < k ∧ k < xs.length ∧ (i : Int) ∈ (gt xs k).Needs ∧ b = gt cur k) := by
  have n2 := hs.n2
  have hl := h.ln
  refine wp_upto (xs.length - (i + 1)) (fun t s => s.1 = ((i + 1 + t : Nat) : Int) ∧ ∃ b, s.2 = cur.set i b ∧ 0 ≤ b ∧ (∀ k, i < k → k < i + 1 + t → (i : Int) ∈ (gt xs k).Needs → gt cur k ≤ b) ∧ (b = 0 ∨ ∃ k, i < k ∧ k < i + 1 + t ∧ (i : Int) ∈ (gt xs k).Needs ∧ b = gt cur k)) ⟨rfl, 0, ?_, by omega, fun k h1 h2 => by omega, .inl rfl⟩ (fun t s ht hv => ?_) (fun s hv => ?_) (by omega)
  · refine ext_gt (by simp) fun k hk => ?_
    rw [gt_set (by omega)]
    by_cases e : k = i
    · rw [if_pos e, e, h.z i (by omega) hi]
    · rw [if_neg e]
  · obtain ⟨z, c⟩ := s
    obtain ⟨rfl, b, rfl, b0, hb, ha⟩ := hv
    have hk : i + 1 + t < xs.length := by omega
    have nl := hs.nlen hk
    unfold dynposref31_Path_L2
    simp only [lt_len hk, if_true, idx_gt hk, Option.bind_some, refhas_eq _ _ (show (gt xs (i + 1 + t)).Needs.length ≤ 1000000000 by omega)]
    rw [W_succ (by omega)]
    by_cases hn : (i : Int) ∈ (gt xs (i + 1 + t)).Needs
    · rw [dB_T hn]
      simp only [if_true]
      rw [idx_gt (l := cur.set i b) (k := i) (by simp; omega), idx_gt (l := cur.set i b) (k := i + 1 + t) (by simp; omega)]
      simp only [Option.bind_some]
      rw [setO_nat (j := i) (by simp; omega), gt_set (by omega), if_pos rfl, gt_set (by omega), if_neg (by omega), imax_eq]
      simp only [Option.bind_some, List.set_set]
      refine wp_some.2 ⟨rfl, max b (gt cur (i + 1 + t)), rfl, by omega, fun k h1 h2 h3 => ?_, ?_⟩
      · by_cases e : k = i + 1 + t
        · subst e; omega
        · have := hb k h1 (by omega) h3; omega
      · by_cases c : b ≤ gt cur (i + 1 + t)
        · exact .inr ⟨i + 1 + t, by omega, by omega, hn, by omega⟩
        · rcases ha with ha | ⟨k, h1, h2, h3, h4⟩
          · exact .inl (by omega)
          · exact .inr ⟨k, h1, by omega, h3, by omega⟩
    · rw [dB_F hn]
      simp only [Bool.false_eq_true, if_false, Option.bind_some]
      refine wp_some.2 ⟨rfl, b, rfl, b0, fun k h1 h2 h3 => ?_, ?_⟩
      · by_cases e : k = i + 1 + t
        · subst e; exact (hn h3).elim
        · exact hb k h1 (by omega) h3
      · rcases ha with ha | ⟨k, h1, h2, h3, h4⟩
        · exact .inl ha
        · exact .inr ⟨k, h1, by omega, h3, h4⟩
  · obtain ⟨z, c⟩ := s
    obtain ⟨rfl, b, rfl, b0, hb, ha⟩ := hv
    unfold dynposref31_Path_L2
    rw [show i + 1 + (xs.length - (i + 1)) = xs.length by omega] at *
    simp only [nlt_len, Bool.false_eq_true, if_false]
    exact wp_some.2 ⟨b, rfl, b0, hb, ha⟩
theorem after_eq {xs : List Stage} (hs : VS xs) : Wp (loopO (dynposref31_Path_L1 xs) (W (len xs - 1), List.replicate xs.length 0)) fun r => AF xs 0 r := by
  have n1 := hs.n1
  have n2 := hs.n2
  rw [show len xs = (xs.length : Int) from rfl, W_sm (x := (xs.length : Int) - 1) (by omega) (by omega)]
  refine wp_upto xs.length (fun t s => s.1 = (xs.length : Int) - 1 - t ∧ AF xs (xs.length - t) s.2) ⟨by simp, by simp, fun i h1 h2 => by omega, fun i h1 h2 => by omega, fun i h1 h2 => by omega, fun i _ hi => gt_replicate hi⟩ (fun t s ht hv => ?_) (fun s hv => ?_) (by omega)
  · obtain ⟨z, cur⟩ := s
    obtain ⟨hz, h⟩ := hv
    simp only at hz h
    obtain ⟨i, hi⟩ : ∃ i, i + 1 = xs.length - t := ⟨xs.length - t - 1, by omega⟩
    have hzi : z = (i : Int) := by omega
    subst hzi
    rw [← hi] at h
    have hl := h.ln
    have hix : i < xs.length := by omega
    have tk := hs.tk i hix
    obtain ⟨r, e, b, rfl, b0, hb, ha⟩ := after_inner hs hix h
    have bb : b ≤ 600 * ((xs.length : Int) - (i + 1)) := by
      rcases ha with ha | ⟨k, h1, h2, h3, h4⟩
      · omega
      · have := h.bd k (by omega) h2; omega
    unfold dynposref31_Path_L1
    rw [W_succ (by omega)]
    simp only [dT (c := (i : Int) ≥ 0) (by omega), if_true, e, Option.bind_some, idx_gt hix]
    rw [idx_gt (l := cur.set i b) (k := i) (by simp; omega)]
    simp only [Option.bind_some]
    rw [setO_nat (j := i) (by simp; omega), gt_set (by omega), if_pos rfl, W_sm (x := b + (gt xs i).Ticks) (by omega) (by omega), W_sm (x := (i : Int) - 1) (by omega) (by omega)]
    simp only [Option.bind_some, List.set_set]
    have g : ∀ k, gt (cur.set i (b + (gt xs i).Ticks)) k = if k = i then b + (gt xs i).Ticks else gt cur k := fun k => gt_set (by omega)
    refine wp_some.2 ⟨by simp only; omega, by simp [hl], fun j h1 h2 k h3 h4 h5 => ?_, fun j h1 h2 => ?_, fun j h1 h2 => ?_, fun j h1 h2 => ?_⟩
    · simp only
      rw [g, g, if_neg (by omega)]
      by_cases c : j = i
      · subst c; rw [if_pos rfl]; have := hb k h3 h4 h5; omega
      · rw [if_neg c]; exact h.ge j (by omega) h2 k h3 h4 h5
    · simp only
      rw [g]
      by_cases c : j = i
      · subst c
        rw [if_pos rfl]
        rcases ha with ha | ⟨k, c1, c2, c3, c4⟩
        · exact .inl (by omega)
        · exact .inr ⟨k, c1, c2, c3, by rw [g, if_neg (by omega)]; omega⟩
      · rw [if_neg c]
        rcases h.at_ j (by omega) h2 with a | ⟨k, c1, c2, c3, c4⟩
        · exact .inl a
        · exact .inr ⟨k, c1, c2, c3, by rw [g, if_neg (by omega)]; exact c4⟩
    · simp only
      rw [g]
      by_cases c : j = i
      · subst c; rw [if_pos rfl]; omega
      · rw [if_neg c]; exact h.bd j (by omega) h2
    · simp only
      rw [g, if_neg (by omega)]
      exact h.z j (by omega) h2
  · obtain ⟨z, cur⟩ := s
    obtain ⟨hz, h⟩ := hv
    simp only at hz h
    rw [Nat.sub_self] at h
    unfold dynposref31_Path_L1
    simp only [dF (c := z ≥ 0) (by omega), Bool.false_eq_true, if_false]
    exact wp_some.2 h
theorem af_le {xs : List Stage} (hs : VS xs) {af : List Int} (h : AF xs 0 af) {l : List Int} (hc : Ch xs l) : ∀ d k, k + d + 1 = l.length → tsum xs (l.drop k) ≤ gt af (gt l k).toNat := by
  intro d
  induction d with
  | zero =>
    intro k hk
    have r := hc.rg k (by omega)
    rw [drop_gt (by omega), List.drop_eq_nil_iff.2 (by omega)]
    simp only [tsum]
    rcases h.at_ (gt l k).toNat (by omega) (by omega) with e | ⟨m, h1, h2, h3, h4⟩
    · omega
    · have := h.bd m (by omega) h2; omega
  | succ d ih =>
    intro k hk
    have a := ih (k + 1) (by omega)
    have r := hc.rg k (by omega)
    have r2 := hc.rg (k + 1) (by omega)
    have n := hc.nd (k + 1) (by omega) (by omega)
    simp only [Nat.add_sub_cancel] at n
    rw [drop_gt (by omega)]
    simp only [tsum]
    obtain ⟨j, hj, e⟩ := mem_gt n
    have nd := hs.nd (gt l (k + 1)).toNat (by omega) j hj
    have := h.ge (gt l k).toNat (by omega) (by omega) (gt l (k + 1)).toNat (by omega) (by omega) (by rw [show (((gt l k).toNat : Nat) : Int) = gt l k by omega]; exact n)
    omega
theorem af_ex {xs : List Stage} (hs : VS xs) {af : List Int} (h : AF xs 0 af) : ∀ d i, i + d + 1 = xs.length → ∃ m, Ch xs ((i : Int) :: m) ∧ tsum xs ((i : Int) :: m) = gt af i := by
  intro d
  induction d using Nat.strongRecOn with
  | _ d ih =>
    intro i hi
    rcases h.at_ i (by omega) (by omega) with e | ⟨k, h1, h2, h3, h4⟩
    · exact ⟨[], Ch.one (by omega), by simp [tsum, e]⟩
    · obtain ⟨m, c1, c2⟩ := ih (xs.length - k - 1) (by omega) k (by omega)
      refine ⟨(k : Int) :: m, ?_, ?_⟩
      · have := (Ch.one (xs := xs) (i := i) (by omega)).join c1 fun _ _ => by
          rw [gt_cz, Int.toNat_natCast]
          show gt [_] 0 ∈ _
          rw [gt_cz]
          exact h3
        simpa using this
      · simp only [tsum, Int.toNat_natCast] at c2 ⊢
        omega
/-- a stage that goes on with a path so far -/
def Fit (xs : List Stage) (af out : List Int) (left : Int) (i : Nat) : Prop := (out = [] ∧ (gt xs i).Needs = [] ∨ out ≠ [] ∧ gt out (out.length - 1) ∈ (gt xs i).Needs) ∧ gt af i = left
structure Gs (xs : List Stage) (L : Int) (left : Int) (out : List Int) : Prop where
  lf : left = L - tsum xs out
  ex : ∃ m, GP xs L (out ++ m)
  mn : ∀ m, GP xs L m → (∃ r, m = out ++ r) ∨ ∃ j, j < out.length ∧ j < m.length ∧ (∀ i, i < j → gt m i = gt out i) ∧ gt out j < gt m j
theorem fit_iff {xs : List Stage} (hs : VS xs) {es : List Int} (he : EN xs (new0 xs 0) 0 es) {L : Int} (ht : Top es L) (hL : 0 ≤ L) {af : List Int} (ha : AF xs 0 af) {left : Int} {out : List Int} (h : Gs xs L left out) {i : Nat} (hi : i < xs.length) :
    (∃ m, GP xs L (out ++ (i : Int) :: m)) ↔ Fit xs af out left i := by
  have go : ∀ m : List Int, gt (out ++ (i : Int) :: m) out.length = (i : Int) := fun m => by
    have := gt_right (l := out) (m := (i : Int) :: m) (k := 0)
    rw [Nat.add_zero] at this
    rw [this, gt_cz]
  have jn : ∀ m : List Int, Ch xs ((i : Int) :: m) → Ch xs out → (0 < out.length → gt out (out.length - 1) ∈ (gt xs i).Needs) → Ch xs (out ++ (i : Int) :: m) := fun m h1 h2 h3 => h2.join h1 fun h4 _ => by
    rw [gt_cz, Int.toNat_natCast]; exact h3 h4
  obtain ⟨m0, g0⟩ := h.ex
  have hco := g0.ch.left
  constructor
  · rintro ⟨m, hg⟩
    have hcon : (out = [] ∧ (gt xs i).Needs = [] ∨ out ≠ [] ∧ gt out (out.length - 1) ∈ (gt xs i).Needs) := by
      by_cases c : out = []
      · refine .inl ⟨c, ?_⟩
        have := hg.st
        rw [c, List.nil_append, gt_cz, Int.toNat_natCast] at this
        exact this
      · refine .inr ⟨c, ?_⟩
        have l0 : 0 < out.length := List.length_pos_iff.2 c
        have := hg.ch.nd out.length l0 (by simp)
        rw [go, Int.toNat_natCast, gt_app_left (by omega)] at this
        exact this
    refine ⟨hcon, ?_⟩
    have a := af_le hs ha hg.ch m.length out.length (by simp; omega)
    rw [go, Int.toNat_natCast, List.drop_left] at a
    have s := hg.sm
    rw [tsum_app] at s
    have lf := h.lf
    obtain ⟨m', c1, c2⟩ := af_ex hs ha (xs.length - i - 1) i (by omega)
    have b := chain_top hs he ht hL (jn m' c1 hco fun l0 => by
      rcases hcon with ⟨c, _⟩ | ⟨_, c⟩
      · rw [c] at l0; simp at l0
      · exact c)
    rw [tsum_app, c2] at b
    omega
  · rintro ⟨hcon, haf⟩
    obtain ⟨m', c1, c2⟩ := af_ex hs ha (xs.length - i - 1) i (by omega)
    refine ⟨m', by simp only [List.length_append, List.length_cons]; omega, ?_, jn m' c1 hco fun l0 => ?_, ?_⟩
    · rcases hcon with ⟨c, d⟩ | ⟨c, d⟩
      · rw [c, List.nil_append, gt_cz, Int.toNat_natCast]; exact d
      · have l0 : 0 < out.length := List.length_pos_iff.2 c
        have := g0.st
        rw [gt_app_left l0] at this
        rw [gt_app_left l0]
        exact this
    · rcases hcon with ⟨c, _⟩ | ⟨_, c⟩
      · rw [c] at l0; simp at l0
      · exact c
    · rw [tsum_app, c2, haf, h.lf]; omega
theorem pick_eq {xs : List Stage} (hs : VS xs) {af : List Int} (hl : af.length = xs.length) {out : List Int} (ho : out.length ≤ 12) {left : Int} (l0 : 0 < left) (l1 : left ≤ 120000) (hex : ∃ i, i < xs.length ∧ Fit xs af out left i) : Wp (loopO (dynposref31_Path_L4 xs af) (left, 0, out)) fun r => ∃ i, i < xs.length ∧ Fit xs af out left i ∧ (∀ j, j < i → ¬ Fit xs af out left j) ∧ r = (left - (gt xs i).Ticks, out ++ [(i : Int)]) := by
  have n2 := hs.n2
  refine wp_upto xs.length (fun k s => s = (left, (k : Int), out) ∧ ∀ j, j < k → ¬ Fit xs af out left j) ⟨rfl, fun j hj => by omega⟩ (fun k s hk hv => ?_) (fun s hv => ?_) (by omega)
  · obtain ⟨rfl, hv⟩ := hv
    have nl := hs.nlen hk
    have tk := hs.tk k hk
    unfold dynposref31_Path_L4
    simp only [lt_len hk, if_true, idx_gt hk, Option.bind_some]
    have cond1 : (if (len out == 0) = true then
          if (len (gt xs k).Needs == 0) = true then some true
          else
            if decide (len out > 0) = true then
              Option.bind (idx out (W (len out - 1))) fun x26 =>
                Option.bind (dynposref01_Has (gt xs k).Needs x26) fun x27 => some x27
            else some false
        else
          if decide (len out > 0) = true then
            Option.bind (idx out (W (len out - 1))) fun x24 =>
              Option.bind (dynposref01_Has (gt xs k).Needs x24) fun x25 => some x25
          else some false) = some (dB (out = [] ∧ (gt xs k).Needs = [] ∨ out ≠ [] ∧ gt out (out.length - 1) ∈ (gt xs k).Needs)) := by
      cases out with
      | nil =>
        simp only [show (len ([] : List Int) == 0) = true from rfl, if_true, show decide (len ([] : List Int) > 0) = false from rfl, Bool.false_eq_true, if_false]
        by_cases hn : (gt xs k).Needs = []
        · rw [beqT (a := len (gt xs k).Needs) (by rw [hn]; rfl), dB_T (.inl ⟨by simp, hn⟩)]; rfl
        · have : 0 < (gt xs k).Needs.length := List.length_pos_iff.2 hn
          rw [beqF (a := len (gt xs k).Needs) (by unfold len; omega), dB_F (by simp [hn])]
          simp
      | cons y ys =>
        generalize hout : y :: ys = out at *
        have hp : 0 < out.length := by rw [← hout]; simp
        have hne : out ≠ [] := by rw [← hout]; simp
        rw [beqF (a := len out) (by unfold len; omega), dT (c := len out > 0) (by unfold len; omega), show W (len out - 1) = ((out.length - 1 : Nat) : Int) by unfold len; exact W_pred (by omega) hp]
        simp only [Bool.false_eq_true, if_false, if_true, idx_gt (l := out) (k := out.length - 1) (by omega), Option.bind_some, refhas_eq _ _ (show (gt xs k).Needs.length ≤ 1000000000 by omega)]
        refine congrArg some (dB_congr ⟨fun h => .inr ⟨hne, h⟩, fun h => ?_⟩)
        rcases h with ⟨h, _⟩ | ⟨_, h⟩
        · exact (hne h).elim
        · exact h
    rw [cond1]
    simp only [Option.bind_some]
    by_cases hc : (out = [] ∧ (gt xs k).Needs = [] ∨ out ≠ [] ∧ gt out (out.length - 1) ∈ (gt xs k).Needs)
    · rw [dB_T hc]
      simp only [if_true, idx_gt (l := af) (k := k) (by omega), Option.bind_some]
      by_cases hf : gt af k = left
      · rw [beqT hf]
        simp only [if_true]
        rw [app_sm (by simp; omega), W_sm (x := left - (gt xs k).Ticks) (by omega) (by omega)]
        exact wp_some.2 ⟨k, hk, ⟨hc, hf⟩, hv, rfl⟩
      · rw [beqF hf, W_succ (by omega)]
        simp only [Bool.false_eq_true, if_false]
        refine wp_some.2 ⟨rfl, fun j hj => ?_⟩
        by_cases e : j = k
        · subst e; exact fun h => hf h.2
        · exact hv j (by omega)
    · rw [dB_F hc, W_succ (by omega)]
      simp only [Bool.false_eq_true, if_false, Option.bind_some]
      refine wp_some.2 ⟨rfl, fun j hj => ?_⟩
      by_cases e : j = k
      · subst e; exact fun h => hc h.1
      · exact hv j (by omega)
  · obtain ⟨rfl, hv⟩ := hv
    obtain ⟨i, hi, hf⟩ := hex
    exact (hv i hi hf).elim
theorem tpos {xs : List Stage} (hs : VS xs) {l : List Int} (h : ∀ x ∈ l, 0 ≤ x ∧ x < (xs.length : Int)) : (l.length : Int) ≤ tsum xs l := by
  induction l with
  | nil => simp [tsum]
  | cons a l ih =>
    have a1 := h a (by simp)
    have a2 := ih fun x hx => h x (by simp [hx])
    have a3 := hs.tk a.toNat (by omega)
    simp only [tsum, List.length_cons]
    omega
theorem Ch.mem {xs : List Stage} {l : List Int} (h : Ch xs l) : ∀ x ∈ l, 0 ≤ x ∧ x < (xs.length : Int) := fun x hx => by
  obtain ⟨j, hj, rfl⟩ := mem_gt hx
  exact h.rg j hj
theorem refpath_min {xs : List Stage} (hs : VS xs) (hr : dynposref31_Check xs = some 0) {es : List Int} (he : EN xs (new0 xs 0) 0 es) {L : Int} (ht : Top es L) (hL : dynposref31_Length xs = some L) {l0 : List Int} (hg0 : GP xs L l0) : Wp (dynposref31_Path xs) fun l => MinP xs L l := by
  have n1 := hs.n1
  have n2 := hs.n2
  have hel := he.ln
  have L0 : 0 ≤ L := by
    obtain ⟨_, i, hi, rfl⟩ := ht
    have := (es_pos hs he (i := i) (by omega)).1
    omega
  have L1 : L ≤ 120000 := by
    obtain ⟨_, i, hi, rfl⟩ := ht
    exact (es_pos hs he (i := i) (by omega)).2
  unfold dynposref31_Path
  rw [hr, show len xs = ((xs.length : Nat) : Int) from rfl, mkZ_nat (by omega)]
  simp only [Option.bind_some, show ((0 : Int) != 0) = false from rfl, Bool.false_eq_true, if_false]
  obtain ⟨af, ea, ha⟩ := after_eq hs
  rw [show len xs = ((xs.length : Nat) : Int) from rfl] at ea
  simp only [ea, Option.bind_some, hL]
  have hloop : Wp (loopO (dynposref31_Path_L3 xs af) (L, [])) fun l => MinP xs L l := by
    refine wp_while (fun s => s.1.toNat) (fun s => Gs xs L s.1 s.2) (fun s hv => ?_) ⟨by simp [tsum], ⟨l0, by simpa using hg0⟩, fun m hm => .inl ⟨m, by simp⟩⟩ (by simp only; omega)
    obtain ⟨left, out⟩ := s
    simp only at hv
    obtain ⟨m0, g0⟩ := hv.ex
    have hco := g0.ch.left
    have hol := hco.len hs
    have lf := hv.lf
    have tm : ∀ m, GP xs L (out ++ m) → tsum xs m = left ∧ (m.length : Int) ≤ left := fun m g => by
      have s := g.sm
      rw [tsum_app] at s
      have := tpos hs (l := m) fun x hx => g.ch.mem x (by simp [hx])
      omega
    have tp := tpos hs hco.mem
    unfold dynposref31_Path_L3
    by_cases hp : left > 0
    · rw [dT hp]
      simp only [if_true]
      have hex : ∃ i, i < xs.length ∧ Fit xs af out left i := by
        cases m0 with
        | nil =>
          have := (tm [] g0).1
          simp [tsum] at this
          omega
        | cons y m =>
          have r := g0.ch.mem y (by simp)
          refine ⟨y.toNat, by omega, (fit_iff hs he ht L0 ha hv (i := y.toNat) (by omega)).1 ⟨m, ?_⟩⟩
          rw [show ((y.toNat : Nat) : Int) = y by omega]
          exact g0
      refine (pick_eq hs ha.ln (out := out) (by omega) hp (by omega) hex).bind fun r hr => ?_
      obtain ⟨i, hi, hf, hno, rfl⟩ := hr
      have tk := hs.tk i hi
      refine wp_some.2 ⟨⟨?_, ?_, fun m hm => ?_⟩, ?_⟩
      · simp only [tsum_app, tsum, Int.toNat_natCast]; omega
      · obtain ⟨m, g⟩ := (fit_iff hs he ht L0 ha hv hi).2 hf
        exact ⟨m, by simpa using g⟩
      · rcases hv.mn m hm with ⟨r, rfl⟩ | ⟨j, h1, h2, h3, h4⟩
        · cases r with
          | nil =>
            have := (tm [] hm).1
            simp [tsum] at this
            omega
          | cons y r =>
            have ry := hm.ch.mem y (by simp)
            have fy := (fit_iff hs he ht L0 ha hv (i := y.toNat) (by omega)).1 ⟨r, by rw [show ((y.toNat : Nat) : Int) = y by omega]; exact hm⟩
            have g1 : ∀ z : List Int, gt (out ++ z) out.length = gt z 0 := fun z => by
              have := gt_right (l := out) (m := z) (k := 0)
              rwa [Nat.add_zero] at this
            by_cases e : y.toNat = i
            · exact .inl ⟨r, by rw [← e, show ((y.toNat : Nat) : Int) = y by omega]; simp⟩
            · refine .inr ⟨out.length, by simp, by simp, fun k hk => by rw [gt_app_left hk, gt_app_left hk], ?_⟩
              rw [g1, g1, gt_cz, gt_cz]
              have : ¬ y.toNat < i := fun h => hno _ h fy
              omega
        · refine .inr ⟨j, by simp; omega, h2, fun k hk => ?_, ?_⟩
          · rw [gt_app_left (by omega)]; exact h3 k hk
          · rw [gt_app_left h1]; exact h4
      · simp only; omega
    · rw [dF hp]
      simp only [Bool.false_eq_true, if_false]
      have gout : GP xs L out := by
        have := (tm m0 g0).2
        have : m0 = [] := List.length_eq_zero_iff.1 (by omega)
        rw [this, List.append_nil] at g0
        exact g0
      refine wp_some.2 ⟨gout, fun m hm hl => ?_⟩
      rcases hv.mn m hm with ⟨r, rfl⟩ | ⟨j, h1, h2, h3, h4⟩
      · have := (tm r hm).2
        have : r = [] := List.length_eq_zero_iff.1 (by omega)
        rw [this, List.append_nil] at hl
        exact lx_irr _ hl
      · obtain ⟨k, k1, k2, k3, k4⟩ := hl
        by_cases c1 : k < j
        · have := h3 k c1
          rcases k4 with k4 | k4 <;> omega
        · by_cases c2 : k = j
          · subst c2
            rcases k4 with k4 | k4 <;> omega
          · have := k3 j (by omega)
            omega
  exact hloop.bind fun r hr => wp_some.2 hr
theorem path_all {xs : List Stage} (hz : NdS xs) : ∃ l, disconnect_Path xs = some l ∧ dynposref31_Path xs = some l ∧ l.length ≤ 12 := by
  by_cases h : CH xs
  case neg =>
    refine ⟨[], ?_, ?_, by simp⟩
    · unfold disconnect_Path disconnect_New
      rw [no_hc hz h]
      simp only [Option.bind_some, ne67, if_true]
    · unfold dynposref31_Path
      rw [no_hr hz h]
      simp only [Option.bind_some, ne67, if_true]
  have hs := h.vs
  obtain ⟨L, _, eR, hE⟩ := length_all hz
  obtain ⟨es, he, ht⟩ := hE h
  obtain ⟨l, e1, h1⟩ := path_min hs (ch_hc hz h) he ht
  obtain ⟨l', e2, h2⟩ := refpath_min hs (ch_hr hz h) he ht eR h1.gp
  obtain rfl := min_uniq h1 h2
  have a := h1.gp.ch.len hs
  have b := hs.n2
  exact ⟨l, e1, e2, by omega⟩
/-! proofs of a length -/
/-- a list that goes from need to need, up to a place -/
def PVk (xs : List Stage) (l : List Int) (k : Nat) : Prop := (0 ≤ gt l k ∧ gt l k < (xs.length : Int)) ∧ (k = 0 → (gt xs (gt l k).toNat).Needs = []) ∧ (0 < k → gt l (k - 1) ∈ (gt xs (gt l k).toNat).Needs)
theorem proves_all {xs : List Stage} (hz : NdS xs) {l : List Int} (hl : l.length ≤ 1000) : ∃ b, disconnect_Proves xs l = some b ∧ dynposref31_Proves xs l = some b := by
  by_cases h : CH xs
  case neg =>
    refine ⟨false, ?_, ?_⟩
    · unfold disconnect_Proves
      rw [no_hc hz h]
      simp only [Option.bind_some, ne67, if_true]
    · unfold dynposref31_Proves
      rw [no_hr hz h]
      simp only [Option.bind_some, ne67, if_true]
  have hs := h.vs
  have n1 := hs.n1
  have n2 := hs.n2
  by_cases hne : l.length = 0
  · have : l = [] := List.length_eq_zero_iff.1 hne
    subst this
    refine ⟨false, ?_, ?_⟩
    · unfold disconnect_Proves
      rw [ch_hc hz h]
      simp only [Option.bind_some, ne00, Bool.false_eq_true, if_false, show (len ([] : List Int) == 0) = true from rfl, if_true]
    · unfold dynposref31_Proves
      rw [ch_hr hz h]
      simp only [Option.bind_some, ne00, Bool.false_eq_true, if_false, show (len ([] : List Int) == 0) = true from rfl, if_true]
  obtain ⟨L, eL, eR, _⟩ := length_all hz
  have sb : ∀ k, (∀ j, j < k → PVk xs l j) → k ≤ l.length → 0 ≤ tsum xs (l.take k) ∧ tsum xs (l.take k) ≤ 600 * k := fun k => by
    induction k with
    | zero => intro _ _; simp [tsum]
    | succ k ih =>
      intro hp hk
      have a := ih (fun j hj => hp j (by omega)) (by omega)
      have r := (hp k (by omega)).1
      have tk := hs.tk (gt l k).toNat (by omega)
      rw [tsum_take (by omega)]
      omega
  have e1 : Wp (loopO (disconnect_Proves_L1 xs l) (0, 0)) fun r => (r = .inl (tsum xs l) ∧ ∀ j, j < l.length → PVk xs l j) ∨ (r = .inr false ∧ ∃ j, j < l.length ∧ ¬ PVk xs l j) := by
    refine wp_upto l.length (fun k s => s = (tsum xs (l.take k), (k : Int)) ∧ ∀ j, j < k → PVk xs l j) ⟨by simp [tsum], fun j hj => by omega⟩ (fun k s hk hv => ?_) (fun s hv => ?_) (by omega)
    · obtain ⟨rfl, hp⟩ := hv
      have b0 := sb k hp (by omega)
      unfold disconnect_Proves_L1
      simp only [lt_len hk, if_true, idx_gt hk, Option.bind_some]
      by_cases g1 : gt l k < 0
      · rw [dT g1]
        simp only [if_true, Option.bind_some]
        exact wp_some.2 (.inr ⟨rfl, k, hk, fun h => by have := h.1; omega⟩)
      rw [dF g1]
      by_cases g2 : gt l k ≥ len xs
      · rw [dT g2]
        simp only [Bool.false_eq_true, if_false, if_true, Option.bind_some]
        exact wp_some.2 (.inr ⟨rfl, k, hk, fun h => by have := h.1; unfold len at g2; omega⟩)
      rw [dF g2]
      unfold len at g2
      have tk := hs.tk (gt l k).toNat (by omega)
      have nl := hs.nlen (i := (gt l k).toNat) (by omega)
      simp only [Bool.false_eq_true, if_false, Option.bind_some, idx_gtZ (l := xs) (j := gt l k) (by omega) (by omega)]
      have fin : PVk xs l k → (W (tsum xs (l.take k) + (gt xs (gt l k).toNat).Ticks), W ((k : Int) + 1)) = (tsum xs (l.take (k + 1)), ((k + 1 : Nat) : Int)) ∧ ∀ j, j < k + 1 → PVk xs l j := fun hpk => by
        refine ⟨?_, fun j hj => ?_⟩
        · rw [W_succ (by omega), W_sm (by omega) (by omega), tsum_take hk]
        · by_cases e : j = k
          · subst e; exact hpk
          · exact hp j (by omega)
      by_cases k0 : k = 0
      · subst k0
        rw [show ((((0 : Nat) : Int)) == 0) = true from rfl, show decide ((((0 : Nat) : Int)) > 0) = false from rfl]
        simp only [if_true, Bool.false_eq_true, if_false]
        by_cases hn : (gt xs (gt l 0).toNat).Needs = []
        · rw [dF (c := len (gt xs (gt l 0).toNat).Needs > 0) (by rw [hn]; decide)]
          simp only [Bool.false_eq_true, if_false, Option.bind_some]
          exact wp_some.2 (fin ⟨⟨by omega, by omega⟩, fun _ => hn, fun h => by omega⟩)
        · have : 0 < (gt xs (gt l 0).toNat).Needs.length := List.length_pos_iff.2 hn
          rw [dT (c := len (gt xs (gt l 0).toNat).Needs > 0) (by unfold len; omega)]
          simp only [if_true, Option.bind_some]
          exact wp_some.2 (.inr ⟨rfl, 0, hk, fun h => hn (h.2.1 rfl)⟩)
      · rw [beqF (a := (k : Int)) (by omega), dT (c := (k : Int) > 0) (by omega), W_pred (by omega) (by omega)]
        simp only [Bool.false_eq_true, if_false, if_true, idx_gt (l := l) (k := k - 1) (by omega), Option.bind_some, cont_eq _ _ (show (gt xs (gt l k).toNat).Needs.length ≤ 1000000000 by omega)]
        by_cases hn : gt l (k - 1) ∈ (gt xs (gt l k).toNat).Needs
        · rw [dB_T hn]
          simp only [Bool.not_true, Bool.false_eq_true, if_false]
          exact wp_some.2 (fin ⟨⟨by omega, by omega⟩, fun h => by omega, fun _ => hn⟩)
        · rw [dB_F hn]
          simp only [Bool.not_false, if_true]
          exact wp_some.2 (.inr ⟨rfl, k, hk, fun h => hn (h.2.2 (by omega))⟩)
    · obtain ⟨rfl, hp⟩ := hv
      unfold disconnect_Proves_L1
      simp only [nlt_len, Bool.false_eq_true, if_false, List.take_length]
      exact wp_some.2 (.inl ⟨rfl, hp⟩)
  have e2 : Wp (loopO (dynposref31_Proves_L1 xs l) (0, 0)) fun r => (r = .inl (tsum xs l) ∧ ∀ j, j < l.length → PVk xs l j) ∨ (r = .inr false ∧ ∃ j, j < l.length ∧ ¬ PVk xs l j) := by
    refine wp_upto l.length (fun k s => s = (tsum xs (l.take k), (k : Int)) ∧ ∀ j, j < k → PVk xs l j) ⟨by simp [tsum], fun j hj => by omega⟩ (fun k s hk hv => ?_) (fun s hv => ?_) (by omega)
    · obtain ⟨rfl, hp⟩ := hv
      have b0 := sb k hp (by omega)
      unfold dynposref31_Proves_L1
      rw [show len xs = (xs.length : Int) from rfl, W_sm (x := (xs.length : Int) - 1) (by omega) (by omega)]
      simp only [lt_len hk, if_true, idx_gt hk, Option.bind_some, refin_eq]
      by_cases g1 : 0 ≤ gt l k ∧ gt l k ≤ (xs.length : Int) - 1
      case neg =>
        rw [dF g1]
        simp only [Bool.not_false, if_true, Option.bind_some]
        exact wp_some.2 (.inr ⟨rfl, k, hk, fun h => by have := h.1; omega⟩)
      rw [dT g1]
      have tk := hs.tk (gt l k).toNat (by omega)
      have nl := hs.nlen (i := (gt l k).toNat) (by omega)
      simp only [Bool.not_true, Bool.false_eq_true, if_false, Option.bind_some, idx_gtZ (l := xs) (j := gt l k) (by omega) (by omega)]
      have fin : PVk xs l k → (W (tsum xs (l.take k) + (gt xs (gt l k).toNat).Ticks), W ((k : Int) + 1)) = (tsum xs (l.take (k + 1)), ((k + 1 : Nat) : Int)) ∧ ∀ j, j < k + 1 → PVk xs l j := fun hpk => by
        refine ⟨?_, fun j hj => ?_⟩
        · rw [W_succ (by omega), W_sm (by omega) (by omega), tsum_take hk]
        · by_cases e : j = k
          · subst e; exact hpk
          · exact hp j (by omega)
      by_cases k0 : k = 0
      · subst k0
        rw [show ((((0 : Nat) : Int)) == 0) = true from rfl, show decide ((((0 : Nat) : Int)) > 0) = false from rfl]
        simp only [if_true, Bool.false_eq_true, if_false]
        by_cases hn : (gt xs (gt l 0).toNat).Needs = []
        · rw [dF (c := len (gt xs (gt l 0).toNat).Needs > 0) (by rw [hn]; decide)]
          simp only [Bool.false_eq_true, if_false, Option.bind_some]
          exact wp_some.2 (fin ⟨⟨by omega, by omega⟩, fun _ => hn, fun h => by omega⟩)
        · have : 0 < (gt xs (gt l 0).toNat).Needs.length := List.length_pos_iff.2 hn
          rw [dT (c := len (gt xs (gt l 0).toNat).Needs > 0) (by unfold len; omega)]
          simp only [if_true, Option.bind_some]
          exact wp_some.2 (.inr ⟨rfl, 0, hk, fun h => hn (h.2.1 rfl)⟩)
      · rw [beqF (a := (k : Int)) (by omega), dT (c := (k : Int) > 0) (by omega), W_pred (by omega) (by omega)]
        simp only [Bool.false_eq_true, if_false, if_true, idx_gt (l := l) (k := k - 1) (by omega), Option.bind_some, refhas_eq _ _ (show (gt xs (gt l k).toNat).Needs.length ≤ 1000000000 by omega)]
        by_cases hn : gt l (k - 1) ∈ (gt xs (gt l k).toNat).Needs
        · rw [dB_T hn]
          simp only [Bool.not_true, Bool.false_eq_true, if_false]
          exact wp_some.2 (fin ⟨⟨by omega, by omega⟩, fun h => by omega, fun _ => hn⟩)
        · rw [dB_F hn]
          simp only [Bool.not_false, if_true]
          exact wp_some.2 (.inr ⟨rfl, k, hk, fun h => hn (h.2.2 (by omega))⟩)
    · obtain ⟨rfl, hp⟩ := hv
      unfold dynposref31_Proves_L1
      simp only [nlt_len, Bool.false_eq_true, if_false, List.take_length]
      exact wp_some.2 (.inl ⟨rfl, hp⟩)
  obtain ⟨r1, a1, c1⟩ := e1
  obtain ⟨r2, a2, c2⟩ := e2
  have hr : r1 = r2 := by
    rcases c1 with ⟨rfl, p⟩ | ⟨rfl, j, hj, p⟩ <;> rcases c2 with ⟨rfl, q⟩ | ⟨rfl, i, hi, q⟩
    · rfl
    · exact (q (p i hi)).elim
    · exact (p (q j hj)).elim
    · rfl
  subst hr
  refine ⟨Sum.elim (fun s => s == L) (fun b => b) r1, ?_, ?_⟩
  · unfold disconnect_Proves
    rw [ch_hc hz h]
    simp only [Option.bind_some, ne00, Bool.false_eq_true, if_false]
    rw [beqF (a := len l) (by unfold len; omega)]
    simp only [Bool.false_eq_true, if_false, a1, Option.bind_some, eL]
    cases r1 <;> rfl
  · unfold dynposref31_Proves
    rw [ch_hr hz h]
    simp only [Option.bind_some, ne00, Bool.false_eq_true, if_false]
    rw [beqF (a := len l) (by unfold len; omega)]
    simp only [Bool.false_eq_true, if_false, a2, Option.bind_some, eR]
    cases r1 <;> rfl
end Rx
end Go.Proofs.Ytnpnaopnhgkapaa
