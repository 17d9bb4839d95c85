/- AlarmLimits: a list takes so many alarms and no more. Plain law. -/
import Derived.Test.YtdfokgnmemlmgaaA3
set_option linter.unusedVariables false
set_option linter.unusedSimpArgs false
namespace Go.Proofs.Ytdfokgnmemlmgaa
open Go Go.RowKit Dp
namespace Rx

/-- the alarms that are raised -/
def lim (k : Nat) : Alarm := Alarm.mk (7 * (k : Int)) (1 + (k : Int) % 9) 1 k
def Lim (n : Nat) (l : List Alarm) : Prop := l.length = n ∧ ∀ k, k < n → gt l k = lim k
theorem Lim.va {n : Nat} {l : List Alarm} (h : Lim n l) (hn : n ≤ 32) {t : Int} (ht : (n : Int) ≤ t + 1) : Va 999 t l := by
  obtain ⟨h1, h2⟩ := h
  refine ⟨by omega, fun k hk => ?_, fun i j hij hj => ?_⟩
  · rw [h2 k (by omega)]
    have : (0 : Int) ≤ (k : Int) % 9 := by omega
    constructor <;> simp only [lim] <;> omega
  · rw [h2 i (by omega), h2 j (by omega)]
    simp only [lim]
    omega
theorem law_AlarmLimits (a : Int) (a0 : 0 ≤ a) (a1 : a < 256) : dynposlaw35_AlarmLimits a = some true := by
  refine Wp.true' ?_
  unfold dynposlaw35_AlarmLimits
  rw [W_sm (x := a) (by omega) (by omega), remO_nn a0 (by omega)]
  obtain ⟨n, hn⟩ : ∃ n : Nat, a % 40 = (n : Int) := ⟨(a % 40).toNat, by omega⟩
  have hn40 : n < 40 := by omega
  simp only [Option.bind_some, sane_T, hn]
  have hloop : Wp (loopO (dynposlaw35_AlarmLimits_L1 n) (0, [])) fun r => ∃ l, r = .inl l ∧ Lim (min n 32) l := by
    refine wp_upto n (fun i s => s.1 = (i : Int) ∧ Lim (min i 32) s.2) ⟨rfl, rfl, fun k hk => by omega⟩ (fun i s hi hs => ?_) (fun s hs => ?_) (by omega)
    · obtain ⟨q, l⟩ := s
      simp only at hs
      obtain ⟨rfl, hs⟩ := hs
      unfold dynposlaw35_AlarmLimits_L1
      simp only [dT (c := (i : Int) < (n : Int)) (by omega), if_true, remO_nn (a := (i : Int)) (b := 9) (by omega) (by omega), Option.bind_some, W_sm (x := 7 * (i : Int)) (by omega) (by omega), W_sm (x := 1 + (i : Int) % 9) (by omega) (by omega)]
      have hv := hs.va (t := i) (by omega) (by omega)
      obtain ⟨r, hr, hc⟩ := raise_ok (n := 7 * (i : Int)) (u := 1 + (i : Int) % 9) hv (Int.le_refl _) (by omega) (by omega) (by omega) (by omega) (by omega) (by omega) (by omega)
      rw [hr]
      obtain ⟨e, l'⟩ := r
      simp only at hc
      have hno : ∀ k, k < l.length → (gt l k).Number < 7 * (i : Int) := fun k hk => by
        rw [hs.2 k (by rw [← hs.1]; exact hk)]
        have := hs.1
        simp only [lim]
        omega
      have hlen := hs.1
      rcases hc with ⟨k, b1, b2, _, _⟩ | ⟨_, b2, rfl⟩ | ⟨k, b1, b2, b3, b4, rfl, rfl⟩
      · have := hno k b1; omega
      · have h32 : ¬ (i : Int) < 32 := by omega
        simp only [Option.bind_some, dF h32]
        simp only [show ((!((2 : Int) == 0)) == false) = false from rfl, show ((2 : Int) != 0) = true from rfl, show ((2 : Int) != 2) = false from rfl, show ((2 : Int) == 0) = false from rfl, Bool.false_eq_true, if_false, if_true, Option.bind_some]
        rw [W_succ (by omega)]
        refine wp_some.2 ⟨rfl, ?_⟩
        rw [show min (i + 1) 32 = min i 32 by omega]
        exact hs
      · have h32 : (i : Int) < 32 := by omega
        have hkl : k = l.length := by
          rcases Nat.lt_or_ge k l.length with hlt | hge
          · have := b4 k (Nat.le_refl _) hlt
            have := hno k hlt
            omega
          · omega
        subst hkl
        simp only [Option.bind_some, dT h32]
        simp only [show ((!((0 : Int) == 0)) == true) = false from rfl, show ((0 : Int) != 0) = false from rfl, show ((0 : Int) == 0) = true from rfl, Bool.false_eq_true, if_false, if_true, Option.bind_some]
        rw [W_succ (by omega)]
        refine wp_some.2 ⟨rfl, ?_⟩
        rw [List.take_length, List.drop_length, List.append_nil]
        have hmi : min i 32 = i := by omega
        rw [hmi] at hs hlen
        rw [show min (i + 1) 32 = i + 1 by omega]
        refine ⟨by simp; omega, fun k hk => ?_⟩
        rw [gt_snoc (by omega)]
        split
        · exact hs.2 k (by omega)
        · have : k = i := by omega
          subst this
          rfl
    · obtain ⟨q, l⟩ := s
      simp only at hs
      obtain ⟨rfl, hs⟩ := hs
      unfold dynposlaw35_AlarmLimits_L1
      simp only [dF (c := (n : Int) < (n : Int)) (by omega), Bool.false_eq_true, if_false]
      exact wp_some.2 ⟨l, rfl, hs⟩
  refine hloop.bind fun r hr => ?_
  obtain ⟨l, rfl, hl⟩ := hr
  have hlen := hl.1
  have him : imin (n : Int) 32 = ((min n 32 : Nat) : Int) := by unfold imin; split <;> omega
  simp only [Sum.elim_inl, him, show (len l != ((min n 32 : Nat) : Int)) = false from bneF (by unfold len; omega), Bool.false_eq_true, if_false]
  refine Wp.ite (fun h => ?_) fun _ => wp_some.2 rfl
  have h := of_decide_eq_true h
  have hv := hl.va (t := 40) (by omega) (by omega)
  obtain ⟨r, hr, hc⟩ := raise_ok (n := 0) (u := 1) (t' := 100) hv (by omega) (by omega) (by omega) (by omega) (by omega) (by omega) (by omega) (by omega)
  have h0 : gt l 0 = lim 0 := hl.2 0 (by omega)
  obtain ⟨e, l'⟩ := r
  simp only at hc
  have hfin : e = 0 ∧ l' = l := by
    rcases hc with ⟨k, b1, b2, rfl, rfl⟩ | ⟨b1, _, _⟩ | ⟨k, b1, b2, b3, b4, _, _⟩
    · refine ⟨rfl, ?_⟩
      rw [hl.2 k (by omega)]
      exact if_neg (by simp [lim])
    · exact (b1 0 (by omega) (by rw [h0]; rfl)).elim
    · exfalso
      rcases Nat.eq_zero_or_pos k with rfl | hk
      · have := b4 0 (Nat.le_refl _) (by omega)
        rw [h0] at this
        simp [lim] at this
      · have := b3 0 hk
        rw [h0] at this
        simp [lim] at this
  obtain ⟨rfl, rfl⟩ := hfin
  rw [hr]
  simp only [Option.bind_some, beq_self_eq_true, if_true, same_self (l := l') (by omega)]
  exact wp_some.2 rfl
end Rx
end Go.Proofs.Ytdfokgnmemlmgaa
