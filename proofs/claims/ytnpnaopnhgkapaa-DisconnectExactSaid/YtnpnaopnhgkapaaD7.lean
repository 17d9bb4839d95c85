/- Words and checks of sequences, whatever they are: program and reference. Plain laws. -/
import Derived.Test.YtnpnaopnhgkapaaD6e
set_option linter.unusedVariables false
set_option linter.unusedSimpArgs false
namespace Go.Proofs.Ytnpnaopnhgkapaa
open Go Go.RowKit Dp
namespace Rx

/-- a byte of a text -/
def byt (s : ByteArray) (k : Nat) : Int := gt (s.data.toList.map fun b => (b.toNat : Int)) k
structure WD (s : ByteArray) : Prop where
  n1 : 1 ≤ s.size
  n2 : s.size ≤ 12
  c0 : 97 ≤ byt s 0 ∧ byt s 0 ≤ 122
  ck : ∀ k, k < s.size → (97 ≤ byt s k ∧ byt s k ≤ 122) ∨ (48 ≤ byt s k ∧ byt s k ≤ 57) ∨ byt s k = 45
theorem byt_len (s : ByteArray) : (s.data.toList.map fun b => (b.toNat : Int)).length = s.size := by rw [List.length_map, Array.length_toList]; rfl
theorem sIdx_eq {s : ByteArray} {k : Nat} (h : k < s.size) : sIdx s (k : Int) = some (byt s k) := by
  have h' : k < s.data.size := h
  unfold sIdx byt
  rw [gt_get (by rw [byt_len]; exact h)]
  simp only [Int.toNat_natCast, List.getElem_map, Array.getElem_toList, if_pos (Int.natCast_nonneg k)]
  rw [Array.getElem?_eq_getElem h']
theorem word_eq (s : ByteArray) : design_Word s = some (dB (WD s)) := by
  unfold design_Word
  by_cases n1 : s.size < 1
  · rw [dT (c := sLen s < 1) (by unfold sLen; omega)]
    simp only [if_true, Option.bind_some]
    rw [dB_F fun h => by have := h.n1; omega]
  rw [dF (c := sLen s < 1) (by unfold sLen; omega)]
  by_cases n2 : s.size > 12
  · rw [dT (c := sLen s > 12) (by unfold sLen; omega)]
    simp only [Bool.false_eq_true, if_false, if_true, Option.bind_some]
    rw [dB_F fun h => by have := h.n2; omega]
  rw [dF (c := sLen s > 12) (by unfold sLen; omega)]
  have hb : sBys (fun x2 => U8.mk x2) s = some (s.data.toList.map fun b => U8.mk (b.toNat : Int)) := by
    unfold sBys; rw [if_pos (by omega)]
  simp only [Bool.false_eq_true, if_false, Option.bind_some, hb]
  have hl : (s.data.toList.map fun b => U8.mk (b.toNat : Int)).length = s.size := by rw [List.length_map, Array.length_toList]; rfl
  have hg : ∀ k, k < s.size → (gt (s.data.toList.map fun b => U8.mk (b.toNat : Int)) k).n = byt s k := fun k hk => by
    unfold byt
    rw [gt_get (by rw [hl]; exact hk), gt_get (by rw [byt_len]; exact hk)]
    simp only [List.getElem_map]
  have body : ∀ k, k < s.size → ∀ (y z : Option (Int ⊕ Unit ⊕ Bool)), Option.bind (if decide (byt s k ≥ 97) = true then some (decide (byt s k ≤ 122)) else some false) (fun x6 => Option.bind (if (!x6) = true then if ((k : Int) == 0) = true then some true else if (byt s k != 45) = true then if decide (byt s k < 48) = true then some true else some (decide (byt s k > 57)) else some false else some false) fun x7 => if x7 = true then y else z) = cond (dB (¬ (97 ≤ byt s k ∧ byt s k ≤ 122) ∧ (k = 0 ∨ byt s k ≠ 45 ∧ (byt s k < 48 ∨ byt s k > 57)))) y z := fun k hk y z => by
    generalize byt s k = c
    by_cases hp : ¬ (97 ≤ c ∧ c ≤ 122) ∧ (k = 0 ∨ c ≠ 45 ∧ (c < 48 ∨ c > 57))
    · rw [dB_T hp]
      have h1 : (if decide (c ≥ 97) = true then some (decide (c ≤ 122)) else some false) = some false := by
        by_cases h : c ≥ 97
        · rw [dT h, dF (by omega)]; rfl
        · rw [dF h]; rfl
      rw [h1]
      simp only [Option.bind_some, Bool.not_false, if_true]
      by_cases h0 : k = 0
      · rw [beqT (a := (k : Int)) (by omega)]; rfl
      · rw [beqF (a := (k : Int)) (by omega), bneT (a := c) (by omega)]
        simp only [Bool.false_eq_true, if_false, if_true]
        by_cases h : c < 48
        · rw [dT h]; rfl
        · rw [dF h, dT (by omega)]; rfl
    · rw [dB_F hp]
      by_cases hl : 97 ≤ c ∧ c ≤ 122
      · rw [dT (c := c ≥ 97) (by omega), dT (c := c ≤ 122) (by omega)]; rfl
      · have h1 : (if decide (c ≥ 97) = true then some (decide (c ≤ 122)) else some false) = some false := by
          by_cases h : c ≥ 97
          · rw [dT h, dF (by omega)]; rfl
          · rw [dF h]; rfl
        rw [h1]
        simp only [Option.bind_some, Bool.not_false, if_true]
        rw [beqF (a := (k : Int)) (by omega)]
        by_cases h : c = 45
        · rw [bneF h]; rfl
        · rw [bneT h, dF (c := c < 48) (by omega), dF (c := c > 57) (by omega)]; rfl
  have e := loop_anyB (step := design_Word_L1 (s.data.toList.map fun b => U8.mk (b.toNat : Int))) (fun k => (k : Int)) s.size (fun k => ¬ (97 ≤ byt s k ∧ byt s k ≤ 122) ∧ (k = 0 ∨ byt s k ≠ 45 ∧ (byt s k < 48 ∨ byt s k > 57))) (r := Sum.inr false) (e := Sum.inl ()) (fun k hk hp => by
    unfold design_Word_L1
    simp only [lt_len (l := s.data.toList.map fun b => U8.mk (b.toNat : Int)) (k := k) (by omega), if_true, idx_gt (l := s.data.toList.map fun b => U8.mk (b.toNat : Int)) (k := k) (by omega), Option.bind_some, hg k hk]
    rw [body k hk, dB_F hp, W_succ (by omega)]; rfl) (fun k hk hp => by
    unfold design_Word_L1
    simp only [lt_len (l := s.data.toList.map fun b => U8.mk (b.toNat : Int)) (k := k) (by omega), if_true, idx_gt (l := s.data.toList.map fun b => U8.mk (b.toNat : Int)) (k := k) (by omega), Option.bind_some, hg k hk]
    rw [body k hk, dB_T hp]; rfl) (by
    unfold design_Word_L1
    rw [← hl]
    simp only [nlt_len, Bool.false_eq_true, if_false]) (by omega)
  simp only [show ((0 : Nat) : Int) = 0 from rfl] at e
  rw [e, Option.bind_some]
  by_cases hw : WD s
  · rw [dB_T hw, dB_F fun ⟨k, hk, hp⟩ => by
      have := hw.ck k hk
      by_cases h0 : k = 0
      · subst h0; exact hp.1 hw.c0
      · omega]
    rfl
  · rw [dB_F hw, dB_T (Classical.byContradiction fun hn => hw ⟨by omega, by omega, Classical.byContradiction fun h => hn ⟨0, by omega, h, .inl rfl⟩, fun k hk => Classical.byContradiction fun h => hn ⟨k, hk, by omega, .inr (by omega)⟩⟩)]
    rfl
theorem refword_eq (s : ByteArray) : dynposref26_Word s = some (dB (WD s)) := by
  unfold dynposref26_Word
  by_cases n1 : s.size < 1
  · rw [beqT (a := sLen s) (by unfold sLen; omega)]
    simp only [if_true, Option.bind_some]
    rw [dB_F fun h => by have := h.n1; omega]
  rw [beqF (a := sLen s) (by unfold sLen; omega)]
  by_cases n2 : s.size > 12
  · rw [dT (c := sLen s > 12) (by unfold sLen; omega)]
    simp only [Bool.false_eq_true, if_false, if_true, Option.bind_some]
    rw [dB_F fun h => by have := h.n2; omega]
  rw [dF (c := sLen s > 12) (by unfold sLen; omega)]
  have i0 : sIdx s 0 = some (byt s 0) := sIdx_eq (k := 0) (by omega)
  simp only [Bool.false_eq_true, if_false, i0, Option.bind_some]
  by_cases h0 : 97 ≤ byt s 0 ∧ byt s 0 ≤ 122
  case neg =>
    have : (if decide (byt s 0 < 97) = true then some true else some (decide (byt s 0 > 122))) = some true := by
      by_cases h : byt s 0 < 97
      · rw [dT h]; rfl
      · rw [dF h, dT (by omega)]; rfl
    rw [this, dB_F fun h => h0 h.c0]
    simp only [Option.bind_some, if_true]
  rw [dF (c := byt s 0 < 97) (by omega), dF (c := byt s 0 > 122) (by omega)]
  simp only [Bool.false_eq_true, if_false, Option.bind_some]
  have body : ∀ k, k < s.size → (Option.bind (sIdx s (k : Int)) fun x5 =>
        if decide (x5 ≥ 97) = true then
          Option.bind (sIdx s (k : Int)) fun x10 =>
            if decide (x10 ≤ 122) = true then some !true
            else
              Option.bind (sIdx s (k : Int)) fun x11 =>
                if decide (x11 ≥ 48) = true then
                  Option.bind (sIdx s (k : Int)) fun x13 =>
                    if decide (x13 ≤ 57) = true then some !true
                    else Option.bind (sIdx s (k : Int)) fun x14 => some !x14 == 45
                else Option.bind (sIdx s (k : Int)) fun x12 => some !x12 == 45
        else
          Option.bind (sIdx s (k : Int)) fun x6 =>
            if decide (x6 ≥ 48) = true then
              Option.bind (sIdx s (k : Int)) fun x8 =>
                if decide (x8 ≤ 57) = true then some !true
                else Option.bind (sIdx s (k : Int)) fun x9 => some !x9 == 45
            else Option.bind (sIdx s (k : Int)) fun x7 => some !x7 == 45) = some (dB (¬ ((97 ≤ byt s k ∧ byt s k ≤ 122) ∨ (48 ≤ byt s k ∧ byt s k ≤ 57) ∨ byt s k = 45))) := fun k hk => by
    simp only [sIdx_eq hk, Option.bind_some]
    generalize byt s k = c
    have fin : ∀ P : Prop, (c = 45 ↔ ¬ P) → some (!(c == 45)) = some (dB P) := fun P hP => by
      by_cases h : c = 45
      · rw [beqT h, dB_F (hP.1 h)]; rfl
      · rw [beqF h, dB_T (Classical.byContradiction fun hn => h (hP.2 hn))]; rfl
    by_cases h1 : c ≥ 97
    · rw [dT h1]
      simp only [if_true]
      by_cases h2 : c ≤ 122
      · rw [dT h2, dB_F (by omega)]; rfl
      · rw [dF h2, dT (c := c ≥ 48) (by omega), dF (c := c ≤ 57) (by omega)]
        simp only [Bool.false_eq_true, if_false, if_true]
        exact fin _ (by omega)
    · rw [dF h1]
      simp only [Bool.false_eq_true, if_false]
      by_cases h3 : c ≥ 48
      · rw [dT h3]
        simp only [if_true]
        by_cases h4 : c ≤ 57
        · rw [dT h4, dB_F (by omega)]; rfl
        · rw [dF h4]
          simp only [Bool.false_eq_true, if_false]
          exact fin _ (by omega)
      · rw [dF h3]
        simp only [Bool.false_eq_true, if_false]
        exact fin _ (by omega)
  have e := loop_anyB (step := dynposref26_Word_L1 s) (fun k => (k : Int)) s.size (fun k => ¬ ((97 ≤ byt s k ∧ byt s k ≤ 122) ∨ (48 ≤ byt s k ∧ byt s k ≤ 57) ∨ byt s k = 45)) (r := Sum.inr false) (e := Sum.inl ()) (fun k hk hp => by
    unfold dynposref26_Word_L1
    rw [body k hk, dB_F hp, W_succ (by omega), dT (c := (k : Int) < sLen s) (by unfold sLen; omega)]; rfl) (fun k hk hp => by
    unfold dynposref26_Word_L1
    rw [body k hk, dB_T hp, dT (c := (k : Int) < sLen s) (by unfold sLen; omega)]; rfl) (by
    unfold dynposref26_Word_L1
    rw [dF (c := ((s.size : Nat) : Int) < sLen s) (by unfold sLen; omega)]; rfl) (by omega)
  simp only [show ((0 : Nat) : Int) = 0 from rfl] at e
  rw [e, Option.bind_some]
  by_cases hw : WD s
  · rw [dB_T hw, dB_F fun ⟨k, hk, hp⟩ => hp (hw.ck k hk)]
    rfl
  · rw [dB_F hw, dB_T (Classical.byContradiction fun hn => hw ⟨by omega, by omega, h0, fun k hk => Classical.byContradiction fun h => hn ⟨k, hk, h⟩⟩)]
    rfl
/-- a stage that is right -/
structure CK (xs : List Stage) (k : Nat) : Prop where
  wd : WD (gt xs k).Name
  ne : ∀ j, j < k → (gt xs j).Name ≠ (gt xs k).Name
  tk : 1 ≤ (gt xs k).Ticks ∧ (gt xs k).Ticks ≤ 600
  tr : 1 ≤ (gt xs k).Tries ∧ (gt xs k).Tries ≤ 3
  nd : ∀ j, j < (gt xs k).Needs.length → 0 ≤ gt (gt xs k).Needs j ∧ gt (gt xs k).Needs j < (k : Int)
  ns : ∀ j, 0 < j → j < (gt xs k).Needs.length → gt (gt xs k).Needs (j - 1) < gt (gt xs k).Needs j
structure CH (xs : List Stage) : Prop where
  n1 : 1 ≤ xs.length
  n2 : xs.length ≤ 12
  ck : ∀ k, k < xs.length → CK xs k
theorem CH.vs {xs : List Stage} (h : CH xs) : VS xs := ⟨h.n1, h.n2, fun i hi => (h.ck i hi).tk, fun i hi => (h.ck i hi).tr, fun i hi => (h.ck i hi).nd, fun i hi => (h.ck i hi).ns⟩
/-- small lists of needs -/
def NdS (xs : List Stage) : Prop := ∀ k, k < xs.length → (gt xs k).Needs.length ≤ 1000000
theorem check_eq {xs : List Stage} (hz : NdS xs) : disconnect_Check xs = some (cond (dB (CH xs)) 0 67) := by
  unfold disconnect_Check
  by_cases n1 : xs.length < 1
  · rw [dT (c := len xs < 1) (by unfold len; omega), dB_F fun h => by have := h.n1; omega]
    simp only [if_true, Option.bind_some, cond_false]
  rw [dF (c := len xs < 1) (by unfold len; omega)]
  by_cases n2 : xs.length > 12
  · rw [dT (c := len xs > 12) (by unfold len; omega), dB_F fun h => by have := h.n2; omega]
    simp only [Bool.false_eq_true, if_false, if_true, Option.bind_some, cond_false]
  rw [dF (c := len xs > 12) (by unfold len; omega)]
  simp only [Bool.false_eq_true, if_false, Option.bind_some]
  have hloop : Wp (loopO (disconnect_Check_L1 xs) (0, [])) fun r => (∃ m, r = .inl m) ∧ CH xs ∨ r = .inr 67 ∧ ¬ CH xs := by
    refine wp_upto xs.length (fun k s => s.1 = (k : Int) ∧ (∀ nm, mgN s.2 nm = true ↔ ∃ j, j < k ∧ (gt xs j).Name = nm) ∧ ∀ j, j < k → CK xs j) ⟨rfl, fun nm => ⟨fun h => by simp [mgN, mget] at h, fun ⟨j, hj, _⟩ => by omega⟩, fun j hj => by omega⟩ (fun k s hk hv => ?_) (fun s hv => ?_) (by omega)
    · obtain ⟨z, m⟩ := s
      obtain ⟨rfl, hm, hc⟩ := hv
      simp only at hm
      have nl := hz k hk
      have e : mget (fun x5 : ByteArray × Bool => x5.1 == (gt xs k).Name) (fun x6 => x6.2) false m = dB (¬ ∀ j, j < k → (gt xs j).Name ≠ (gt xs k).Name) := by
        refine dB_eq ?_
        have := hm (gt xs k).Name
        unfold mgN at this
        rw [this]
        exact ⟨fun ⟨j, hj, h⟩ hn => hn j hj h, fun h => Classical.byContradiction fun hn => h fun j hj h' => hn ⟨j, hj, h'⟩⟩
      unfold disconnect_Check_L1
      simp only [lt_len hk, if_true, idx_gt hk, Option.bind_some, word_eq, e]
      by_cases h1 : WD (gt xs k).Name
      case neg =>
        rw [dB_F h1]
        simp only [Bool.not_false, if_true, Option.bind_some]
        exact wp_some.2 (.inr ⟨rfl, fun h => h1 (h.ck k hk).wd⟩)
      by_cases h2 : ∀ j, j < k → (gt xs j).Name ≠ (gt xs k).Name
      case neg =>
        rw [dB_T h1, dB_T h2]
        simp only [Bool.not_true, Bool.false_eq_true, if_false, if_true, Option.bind_some]
        exact wp_some.2 (.inr ⟨rfl, fun h => h2 (h.ck k hk).ne⟩)
      rw [dB_T h1, dB_F (p := ¬ ∀ j, j < k → (gt xs j).Name ≠ (gt xs k).Name) fun h => h h2]
      simp only [Bool.not_true, Bool.false_eq_true, if_false]
      by_cases h3 : (gt xs k).Ticks < 1
      · rw [dT h3]
        simp only [if_true, Option.bind_some]
        exact wp_some.2 (.inr ⟨rfl, fun h => by have := (h.ck k hk).tk; omega⟩)
      rw [dF h3]
      by_cases h4 : (gt xs k).Ticks > 600
      · rw [dT h4]
        simp only [Bool.false_eq_true, if_false, if_true, Option.bind_some]
        exact wp_some.2 (.inr ⟨rfl, fun h => by have := (h.ck k hk).tk; omega⟩)
      rw [dF h4]
      by_cases h5 : (gt xs k).Tries < 1
      · rw [dT h5]
        simp only [Bool.false_eq_true, if_false, if_true, Option.bind_some]
        exact wp_some.2 (.inr ⟨rfl, fun h => by have := (h.ck k hk).tr; omega⟩)
      rw [dF h5]
      by_cases h6 : (gt xs k).Tries > 3
      · rw [dT h6]
        simp only [Bool.false_eq_true, if_false, if_true, Option.bind_some]
        exact wp_some.2 (.inr ⟨rfl, fun h => by have := (h.ck k hk).tr; omega⟩)
      rw [dF h6]
      simp only [Bool.false_eq_true, if_false, Option.bind_some]
      have inner : Wp (loopO (disconnect_Check_L2 ((k : Int), m) (gt xs k)) ((-1), 0)) fun r => r = .inl () ∧ CK xs k ∨ r = .inr (.inr (.inr 67)) ∧ ¬ CK xs k := by
        refine wp_upto (gt xs k).Needs.length (fun j s => s.2 = (j : Int) ∧ (j = 0 ∧ s.1 = -1 ∨ 0 < j ∧ s.1 = gt (gt xs k).Needs (j - 1)) ∧ (∀ i, i < j → 0 ≤ gt (gt xs k).Needs i ∧ gt (gt xs k).Needs i < (k : Int)) ∧ ∀ i, 0 < i → i < j → gt (gt xs k).Needs (i - 1) < gt (gt xs k).Needs i) ⟨rfl, .inl ⟨rfl, rfl⟩, fun i hi => by omega, fun i _ hi => by omega⟩ (fun j s hj hv => ?_) (fun s hv => ?_) (by omega)
        · obtain ⟨b, z⟩ := s
          obtain ⟨rfl, hb, hA, hB⟩ := hv
          simp only at hb
          unfold disconnect_Check_L2
          simp only [lt_len hj, if_true, idx_gt hj, Option.bind_some]
          by_cases g1 : gt (gt xs k).Needs j ≤ b
          · rw [dT g1]
            simp only [if_true, Option.bind_some]
            refine wp_some.2 (.inr ⟨rfl, fun h => ?_⟩)
            have n0 := h.nd j hj
            rcases hb with ⟨_, hb⟩ | ⟨hb, hb'⟩
            · omega
            · have := h.ns j hb hj; omega
          rw [dF g1]
          by_cases g2 : gt (gt xs k).Needs j ≥ (k : Int)
          · rw [dT g2]
            simp only [Bool.false_eq_true, if_false, if_true, Option.bind_some]
            refine wp_some.2 (.inr ⟨rfl, fun h => ?_⟩)
            have n0 := h.nd j hj
            omega
          rw [dF g2, W_succ (by omega)]
          simp only [Bool.false_eq_true, if_false, Option.bind_some]
          refine wp_some.2 ⟨rfl, .inr ⟨by omega, by simp⟩, fun i hi => ?_, fun i i0 hi => ?_⟩
          · by_cases he : i = j
            · subst he
              refine ⟨?_, by omega⟩
              rcases hb with ⟨_, hb⟩ | ⟨hb, hb'⟩
              · omega
              · have := hA (i - 1) (by omega); omega
            · exact hA i (by omega)
          · by_cases he : i = j
            · subst he
              rcases hb with ⟨hb, _⟩ | ⟨hb, hb'⟩ <;> omega
            · exact hB i i0 (by omega)
        · obtain ⟨b, z⟩ := s
          obtain ⟨rfl, hb, hA, hB⟩ := hv
          unfold disconnect_Check_L2
          simp only [nlt_len, Bool.false_eq_true, if_false]
          exact wp_some.2 (.inl ⟨rfl, h1, h2, by omega, by omega, hA, hB⟩)
      refine inner.bind fun r hr => ?_
      rcases hr with ⟨rfl, hck⟩ | ⟨rfl, hck⟩
      · simp only [Sum.elim_inl]
        rw [W_succ (by omega)]
        refine wp_some.2 ⟨rfl, fun nm => ?_, fun j hj => ?_⟩
        · simp only
          rw [mgN_put]
          cases hb : nm == (gt xs k).Name with
          | true => exact ⟨fun _ => ⟨k, by omega, ((bs_eq _ _).1 hb).symm⟩, fun _ => rfl⟩
          | false =>
            simp only [cond_false]
            rw [hm nm]
            refine ⟨fun ⟨j, hj, h⟩ => ⟨j, by omega, h⟩, fun ⟨j, hj, h⟩ => ⟨j, ?_, h⟩⟩
            by_cases he : j = k
            · subst he
              rw [(bs_eq _ _).2 h.symm] at hb
              cases hb
            · omega
        · by_cases he : j = k
          · subst he; exact hck
          · exact hc j (by omega)
      · simp only [Sum.elim_inr]
        exact wp_some.2 (.inr ⟨rfl, fun h => hck (h.ck k hk)⟩)
    · obtain ⟨z, m⟩ := s
      obtain ⟨rfl, hm, hc⟩ := hv
      unfold disconnect_Check_L1
      simp only [nlt_len, Bool.false_eq_true, if_false]
      exact wp_some.2 (.inl ⟨⟨m, rfl⟩, by omega, by omega, hc⟩)
  obtain ⟨r, e, hr⟩ := hloop
  rw [e]
  rcases hr with ⟨⟨m, rfl⟩, h⟩ | ⟨rfl, h⟩
  · rw [dB_T h]; rfl
  · rw [dB_F h]; rfl
theorem refcheck_eq {xs : List Stage} (hz : NdS xs) : dynposref31_Check xs = some (cond (dB (CH xs)) 0 67) := by
  unfold dynposref31_Check
  simp only [refin_eq, Option.bind_some]
  by_cases n1 : 1 ≤ xs.length ∧ xs.length ≤ 12
  case neg =>
    rw [dF (c := (1 : Int) ≤ len xs ∧ len xs ≤ 12) (by unfold len; omega), dB_F fun h => n1 ⟨h.n1, h.n2⟩]
    simp only [Bool.not_false, if_true, cond_false]
  rw [dT (c := (1 : Int) ≤ len xs ∧ len xs ≤ 12) (by unfold len; omega)]
  simp only [Bool.not_true, Bool.false_eq_true, if_false]
  have hloop : Wp (loopO (dynposref31_Check_L1 xs) 0) fun r => r = .inl () ∧ CH xs ∨ r = .inr 67 ∧ ¬ CH xs := by
    refine wp_upto xs.length (fun k s => s = (k : Int) ∧ ∀ j, j < k → CK xs j) ⟨rfl, fun j hj => by omega⟩ (fun k s hk hv => ?_) (fun s hv => ?_) (by omega)
    · obtain ⟨rfl, hc⟩ := hv
      have nl := hz k hk
      unfold dynposref31_Check_L1
      simp only [lt_len hk, if_true, idx_gt hk, Option.bind_some, refword_eq, refin_eq]
      by_cases h1 : WD (gt xs k).Name
      case neg =>
        rw [dB_F h1]
        simp only [Bool.not_false, if_true, Option.bind_some]
        exact wp_some.2 (.inr ⟨rfl, fun h => h1 (h.ck k hk).wd⟩)
      rw [dB_T h1]
      simp only [Bool.not_true, Bool.false_eq_true, if_false]
      by_cases h3 : 1 ≤ (gt xs k).Ticks ∧ (gt xs k).Ticks ≤ 600
      case neg =>
        rw [dF h3]
        simp only [Bool.not_false, if_true, Option.bind_some]
        exact wp_some.2 (.inr ⟨rfl, fun h => h3 (h.ck k hk).tk⟩)
      rw [dT h3]
      simp only [Bool.not_true, Bool.false_eq_true, if_false, Option.bind_some]
      by_cases h4 : 1 ≤ (gt xs k).Tries ∧ (gt xs k).Tries ≤ 3
      case neg =>
        rw [dF h4]
        simp only [Bool.not_false, if_true, Option.bind_some]
        exact wp_some.2 (.inr ⟨rfl, fun h => h4 (h.ck k hk).tr⟩)
      rw [dT h4]
      simp only [Bool.not_true, Bool.false_eq_true, if_false, Option.bind_some]
      have e2 := loop_anyB (step := dynposref31_Check_L2 xs (k : Int) (gt xs k)) (fun j => (j : Int)) k (fun j => (gt xs j).Name = (gt xs k).Name) (r := Sum.inr (Sum.inr (Sum.inr 67))) (e := Sum.inl ()) (fun j hj hp => by
        unfold dynposref31_Check_L2
        have : ((gt xs j).Name == (gt xs k).Name) = false := by
          cases hb : (gt xs j).Name == (gt xs k).Name with
          | false => rfl
          | true => exact (hp ((bs_eq _ _).1 hb)).elim
        simp only [dT (c := (j : Int) < (k : Int)) (by omega), if_true, idx_gt (l := xs) (k := j) (by omega), Option.bind_some, this, Bool.false_eq_true, if_false]
        rw [W_succ (by omega)]) (fun j hj hp => by
        unfold dynposref31_Check_L2
        simp only [dT (c := (j : Int) < (k : Int)) (by omega), if_true, idx_gt (l := xs) (k := j) (by omega), Option.bind_some, (bs_eq _ _).2 hp]) (by
        unfold dynposref31_Check_L2
        simp only [dF (c := (k : Int) < (k : Int)) (by omega), Bool.false_eq_true, if_false]) (by omega)
      simp only [show ((0 : Nat) : Int) = 0 from rfl] at e2
      rw [e2]
      by_cases h2 : ∀ j, j < k → (gt xs j).Name ≠ (gt xs k).Name
      case neg =>
        rw [dB_T (p := ∃ j, j < k ∧ (gt xs j).Name = (gt xs k).Name) (Classical.byContradiction fun hn => h2 fun j hj h => hn ⟨j, hj, h⟩)]
        simp only [cond_true, Option.bind_some, Sum.elim_inr]
        exact wp_some.2 (.inr ⟨rfl, fun h => h2 (h.ck k hk).ne⟩)
      rw [dB_F (p := ∃ j, j < k ∧ (gt xs j).Name = (gt xs k).Name) fun ⟨j, hj, h⟩ => h2 j hj h]
      simp only [cond_false, Option.bind_some, Sum.elim_inl]
      have inner : Wp (loopO (dynposref31_Check_L3 (k : Int) (gt xs k)) 0) fun r => r = .inl () ∧ CK xs k ∨ r = .inr (.inr (.inr 67)) ∧ ¬ CK xs k := by
        refine wp_upto (gt xs k).Needs.length (fun j s => s = (j : Int) ∧ (∀ i, i < j → 0 ≤ gt (gt xs k).Needs i ∧ gt (gt xs k).Needs i < (k : Int)) ∧ ∀ i, 0 < i → i < j → gt (gt xs k).Needs (i - 1) < gt (gt xs k).Needs i) ⟨rfl, fun i hi => by omega, fun i _ hi => by omega⟩ (fun j s hj hv => ?_) (fun s hv => ?_) (by omega)
        · obtain ⟨rfl, hA, hB⟩ := hv
          unfold dynposref31_Check_L3
          rw [W_sm (x := (k : Int) - 1) (by omega) (by omega)]
          simp only [lt_len hj, if_true, idx_gt hj, Option.bind_some, refin_eq]
          by_cases g1 : (0 : Int) ≤ gt (gt xs k).Needs j ∧ gt (gt xs k).Needs j ≤ (k : Int) - 1
          case neg =>
            rw [dF g1]
            simp only [Bool.not_false, if_true, Option.bind_some]
            refine wp_some.2 (.inr ⟨rfl, fun h => ?_⟩)
            have n0 := h.nd j hj
            omega
          rw [dT g1]
          simp only [Bool.not_true, Bool.false_eq_true, if_false]
          by_cases h0 : 0 < j
          · rw [dT (c := (j : Int) > 0) (by omega), W_pred (by omega) h0]
            simp only [if_true, idx_gt (l := (gt xs k).Needs) (k := j - 1) (by omega), Option.bind_some]
            by_cases g2 : gt (gt xs k).Needs j ≤ gt (gt xs k).Needs (j - 1)
            · rw [dT g2]
              simp only [if_true]
              refine wp_some.2 (.inr ⟨rfl, fun h => ?_⟩)
              have n0 := h.ns j h0 hj
              omega
            · rw [dF g2, W_succ (by omega)]
              simp only [Bool.false_eq_true, if_false]
              refine wp_some.2 ⟨rfl, fun i hi => ?_, fun i i0 hi => ?_⟩
              · by_cases he : i = j
                · subst he; omega
                · exact hA i (by omega)
              · by_cases he : i = j
                · subst he; omega
                · exact hB i i0 (by omega)
          · rw [dF (c := (j : Int) > 0) (by omega)]
            simp only [Bool.false_eq_true, if_false, Option.bind_some]
            rw [W_succ (by omega)]
            refine wp_some.2 ⟨rfl, fun i hi => ?_, fun i i0 hi => by omega⟩
            have he : i = j := by omega
            subst he; omega
        · obtain ⟨rfl, hA, hB⟩ := hv
          unfold dynposref31_Check_L3
          simp only [nlt_len, Bool.false_eq_true, if_false]
          exact wp_some.2 (.inl ⟨rfl, h1, h2, h3, h4, hA, hB⟩)
      refine inner.bind fun r hr => ?_
      rcases hr with ⟨rfl, hck⟩ | ⟨rfl, hck⟩
      · simp only [Sum.elim_inl]
        rw [W_succ (by omega)]
        refine wp_some.2 ⟨rfl, fun j hj => ?_⟩
        by_cases he : j = k
        · subst he; exact hck
        · exact hc j (by omega)
      · simp only [Sum.elim_inr]
        exact wp_some.2 (.inr ⟨rfl, fun h => hck (h.ck k hk)⟩)
    · obtain ⟨rfl, hc⟩ := hv
      unfold dynposref31_Check_L1
      simp only [nlt_len, Bool.false_eq_true, if_false]
      exact wp_some.2 (.inl ⟨rfl, n1.1, n1.2, hc⟩)
  obtain ⟨r, e, hr⟩ := hloop
  rw [e]
  rcases hr with ⟨rfl, h⟩ | ⟨rfl, h⟩
  · rw [dB_T h]; rfl
  · rw [dB_F h]; rfl
end Rx
end Go.Proofs.Ytnpnaopnhgkapaa
