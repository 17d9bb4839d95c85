/- The example of chapter 16 answers true. -/
import Derived.Test.YtdfkfohpgakihaaLs3
import Derived.Test.YtdfkfohpgakihaaLb8
set_option linter.unusedVariables false
set_option linter.unusedSimpArgs false
namespace Go.Proofs.Ytdfkfohpgakihaa
open Go Go.RowKit Dp

def P1 : Power := prP false 5000 10 5000 100
def P2 : Power := prP false 5000 10 5000 10
def P3 : Power := prP true 5000 10 5000 10
theorem P1s : stt prB P1 = 0 := pr_stt (by omega) (by omega) (by omega) (by omega)
theorem P2s : stt prB P2 = 0 := pr_stt (by omega) (by omega) (by omega) (by omega)
theorem P3s : stt prB P3 = 0 := pr_stt (by omega) (by omega) (by omega) (by omega)
theorem P1m : SmP P1 := pr_sm
theorem P2m : SmP P2 := pr_sm
theorem P3m : SmP P3 := pr_sm
theorem P1i0 : isleOf prB P1 0 = ⟨[0], [0], []⟩ := by kernel_rfl
theorem P1i1 : isleOf prB P1 1 = ⟨[1], [1], []⟩ := by kernel_rfl
theorem P2i0 : isleOf prB P2 0 = ⟨[0], [0], []⟩ := by kernel_rfl
theorem P2i1 : isleOf prB P2 1 = ⟨[1], [1], []⟩ := by kernel_rfl
theorem P3i1 : isleOf prB P3 1 = ⟨[0, 1], [0, 1], []⟩ := by kernel_rfl
theorem P3isl : isl prB P3 = [⟨[0, 1], [0, 1], []⟩] := by kernel_rfl
theorem of_in {p : Power} (hp : SmP p) (h : stt prB p = 0) {k : Int} (h0 : 0 ≤ k) (h1 : k < 2) {x : Island} (hi : isleOf prB p k = x) : board_Of prB p k = some (x, true) := by
  rw [of_eq prB_sm hp, ofB_in' h h0 h1, hi]
theorem lead_in {p : Power} (hp : SmP p) (h : stt prB p = 0) {k : Int} (h0 : 0 ≤ k) (h1 : k < 2) {B S C : List Int} {s : Int} (hi : isleOf prB p k = ⟨B, s :: S, C⟩) : sync_Leader prB p k = some (s, true) := by
  rw [lead_eq prB_sm hp]
  unfold lead
  rw [ofB_in' h h0 h1, hi]
  rfl
theorem con_in {p : Power} (hp : SmP p) (h : stt prB p = 0) {k : Int} {r : Int × Bool} (hi : conn prB p k = r) : board_Connected prB p k = some r := by
  rw [connB_eq prB_sm hp]
  unfold connB
  rw [if_pos h, hi]
theorem state0 {p : Power} (hp : SmP p) (h : stt prB p = 0) : board_State prB p = some 0 := by rw [state_eq prB_sm hp, h]
theorem match_run : sync_Match prB P1 1 0 = some (P2, 0) := by
  have c1 : conn prB P1 1 = (1, true) := by kernel_rfl
  have e1 : (decide ((1 : Int) < 0)) = false := rfl
  have e2 : (decide ((1 : Int) ≥ len prB.Sources)) = false := rfl
  have e3 : (decide ((0 : Int) < 0)) = false := rfl
  have e4 : (decide ((0 : Int) ≥ prB.Buses)) = false := rfl
  have e5 : idx P1.Sources 1 = some ⟨2, 0, 5000, 100⟩ := rfl
  have e6 : idx P1.Sources 0 = some ⟨2, 0, 5000, 10⟩ := rfl
  have e7 : ((2 : Int) != 2) = false := rfl
  have e8 : ((0 : Int) != 0) = false := rfl
  have es : sync_set P1 [1] ⟨2, 0, 5000, 10⟩ = some P2.Sources := by
    rw [set_eq (by unfold Sm; decide) (by intro k hk; simp at hk; subst hk; exact ⟨by decide, by decide⟩)]
    rfl
  unfold sync_Match
  simp only [state0 P1m P1s, Option.bind_some, e8, Bool.false_eq_true, if_false, e1, e2, e3, e4, lead_in P1m P1s (k := 0) (by omega) (by omega) P1i0, Bool.not_true, e5, e6, e7, clone_eq P1m, con_in P1m P1s c1, if_true, of_in P1m P1s (k := 1) (by omega) (by omega) P1i1, es]
  rfl
theorem noParts {P : Part} : slices_Contains_Part_Part ([] : List Part) P = some false := by
  unfold slices_Contains_Part_Part slices_Index_Part_Part
  have h : loopR (slices_Index_Part_Part_L1 [] P) 0 = some (.inl ()) := loopR_done rfl
  rw [h]
  rfl
theorem brk0 {p : Power} (h : p.Broken = []) (k n : Int) : board_Broken p k n = some false := by
  unfold board_Broken
  rw [h, noParts]
  rfl
theorem may_run {p : Power} (hp : SmP p) (h : stt prB p = 0) (hc : idx p.Closed 0 = some false) (hb : p.Broken = []) (h0 : isleOf prB p 0 = ⟨[0], [0], []⟩) (h1 : isleOf prB p 1 = ⟨[1], [1], []⟩) {x y : Running} (hx : idx p.Sources 0 = some x) (hy : idx p.Sources 1 = some y) (sx : SmR x) (sy : SmR y) :
    sync_May prB p 0 = some (if agr prB x y then 0 else 12) := by
  have e1 : (decide ((0 : Int) < 0)) = false := rfl
  have e2 : (decide ((0 : Int) ≥ len prB.Breakers)) = false := rfl
  have e3 : idx prB.Breakers 0 = some ⟨1, 0, 1⟩ := rfl
  have e4 : ((0 : Int) != 0) = false := rfl
  have e5 : ((1 : Int) == 1) = true := rfl
  have es : sync_sound prB p 0 = some true := by
    unfold sync_sound
    simp only [e3, hc, Option.bind_some, Bool.false_eq_true, if_false, brk0 hb, e5, if_true]
    rfl
  have el0 := lead_in hp h (k := 0) (by omega) (by omega) h0
  have el1 := lead_in hp h (k := 1) (by omega) (by omega) h1
  have ey : sync_synchronous prB p ⟨1, 0, 1⟩ = some (decide (agr prB x y)) := by
    unfold sync_synchronous
    simp only [el0, el1, Option.bind_some, Bool.not_true, Bool.false_eq_true, if_false, e5, if_true, hx, hy, agree_eq sx sy]
  have eb : slices_Contains_int_int ([0] : List Int) 1 = some false := by
    rw [contains_eq (by unfold Sm; decide)]; rfl
  unfold sync_May
  simp only [state0 hp h, Option.bind_some, e4, Bool.false_eq_true, if_false, e1, e2, es, Bool.not_true, e3, of_in hp h (k := 0) (by omega) (by omega) h0, e5, if_true, eb, Bool.not_false, ey]
  by_cases ha : agr prB x y <;> simp [ha]
theorem may1 : sync_May prB P1 0 = some 12 := by
  rw [may_run P1m P1s rfl rfl P1i0 P1i1 (x := ⟨2, 0, 5000, 10⟩) (y := ⟨2, 0, 5000, 100⟩) rfl rfl ⟨⟨by decide, by decide⟩, by decide, by decide⟩ ⟨⟨by decide, by decide⟩, by decide, by decide⟩, if_neg (by decide)]
theorem may2 : sync_May prB P2 0 = some 0 := by
  rw [may_run P2m P2s rfl rfl P2i0 P2i1 (x := ⟨2, 0, 5000, 10⟩) (y := ⟨2, 0, 5000, 10⟩) rfl rfl ⟨⟨by decide, by decide⟩, by decide, by decide⟩ ⟨⟨by decide, by decide⟩, by decide, by decide⟩, if_pos (by decide)]
theorem follow3 : sync_Follow prB P3 = some (P3, 0) := by
  have e4 : ((0 : Int) != 0) = false := rfl
  have es : sync_set P3 [0, 1] ⟨2, 0, 5000, 10⟩ = some P3.Sources := by
    rw [set_eq (by unfold Sm; decide) (by
      intro k hk
      simp at hk
      rcases hk with rfl | rfl <;> exact ⟨by decide, by decide⟩)]
    rfl
  have hl : loopR (sync_Follow_L1 P3 P3 [⟨[0, 1], [0, 1], []⟩]) ((0 : Int), P3.Sources) = some P3.Sources := by
    have s1 : sync_Follow_L1 P3 P3 [⟨[0, 1], [0, 1], []⟩] ((0 : Int), P3.Sources) = some (.inl ((1 : Int), P3.Sources)) := by
      have i0 : (decide ((0 : Int) < len ([⟨[0, 1], [0, 1], []⟩] : List Island))) = true := rfl
      have i1 : idx ([⟨[0, 1], [0, 1], []⟩] : List Island) 0 = some ⟨[0, 1], [0, 1], []⟩ := rfl
      have i2 : (decide (len ([0, 1] : List Int) > 0)) = true := rfl
      have i3 : idx ([0, 1] : List Int) 0 = some 0 := rfl
      have i4 : idx P3.Sources 0 = some ⟨2, 0, 5000, 10⟩ := rfl
      have i5 : (⟨P3.Closed, P3.Sources, P3.Limits, P3.Broken⟩ : Power) = P3 := rfl
      have i6 : W ((0 : Int) + 1) = 1 := W_sm (by omega) (by omega)
      simp only [sync_Follow_L1, i0, if_true, i1, Option.bind_some, i2, i3, i4, i5, es, i6]
    rw [loopR_next s1]
    exact loopR_done rfl
  unfold sync_Follow
  simp only [state0 P3m P3s, Option.bind_some, e4, Bool.false_eq_true, if_false, clone_eq P3m, islands_eq prB_sm P3m P3s, P3isl, hl]
theorem close_run : sync_Close prB P2 0 = some (P3, 0) := by
  have e4 : ((0 : Int) != 0) = false := rfl
  have e5 : idx P2.Closed 0 = some false := rfl
  have e6 : setO P2.Closed 0 true = some [true, true, true] := rfl
  have e7 : (⟨[true, true, true], P2.Sources, P2.Limits, P2.Broken⟩ : Power) = P3 := rfl
  unfold sync_Close
  simp only [may2, Option.bind_some, e4, Bool.false_eq_true, if_false, clone_eq P2m, e5, e6, e7, follow3]
theorem together2 : sync_together prB P2 1 0 = some false := by
  have c1 : conn prB P2 1 = (1, true) := by kernel_rfl
  unfold sync_together
  simp only [con_in P2m P2s c1, Option.bind_some, Bool.not_true, Bool.false_eq_true, if_false, of_in P2m P2s (k := 1) (by omega) (by omega) P2i1, contains_eq (show Sm [1] by unfold Sm; decide)]
  rfl
theorem together3 : sync_together prB P3 1 0 = some true := by
  have c1 : conn prB P3 1 = (1, true) := by kernel_rfl
  unfold sync_together
  simp only [con_in P3m P3s c1, Option.bind_some, Bool.not_true, Bool.false_eq_true, if_false, of_in P3m P3s (k := 1) (by omega) (by omega) P3i1, contains_eq (show Sm [0, 1] by unfold Sm; decide)]
  rfl
theorem bad_run : sync_Bad prB P2 P3 = some false := by
  have e4 : ((0 : Int) != 0) = false := rfl
  have l0 : loopR (sync_Bad_L2 prB P2 P3 0) 0 = some (.inl ()) := loopR_done rfl
  have l1 : loopR (sync_Bad_L2 prB P2 P3 1) 0 = some (.inl ()) := by
    have s1 : sync_Bad_L2 prB P2 P3 1 0 = some (.inl 1) := by
      have i0 : (decide ((0 : Int) < 1)) = true := rfl
      have i4 : idx P2.Sources 1 = some ⟨2, 0, 5000, 10⟩ := rfl
      have i5 : idx P2.Sources 0 = some ⟨2, 0, 5000, 10⟩ := rfl
      have i6 : W ((0 : Int) + 1) = 1 := W_sm (by omega) (by omega)
      have ia : sync_Agree prB ⟨2, 0, 5000, 10⟩ ⟨2, 0, 5000, 10⟩ = some true := by
        rw [agree_eq ⟨⟨by decide, by decide⟩, by decide, by decide⟩ ⟨⟨by decide, by decide⟩, by decide, by decide⟩]
        rfl
      simp only [sync_Bad_L2, i0, if_true, together3, together2, Option.bind_some, Bool.not_false, i4, i5, ia, Bool.not_true, Bool.false_eq_true, if_false, i6]
    rw [loopR_next s1]
    exact loopR_done rfl
  have lo : loopR (sync_Bad_L1 prB P2 P3) 0 = some (.inl ()) := by
    have s1 : sync_Bad_L1 prB P2 P3 0 = some (.inl 1) := by
      have i0 : (decide ((0 : Int) < len prB.Sources)) = true := rfl
      have i6 : W ((0 : Int) + 1) = 1 := W_sm (by omega) (by omega)
      simp only [sync_Bad_L1, i0, if_true, l0, Option.bind_some, Sum.elim_inl, i6]
    have s2 : sync_Bad_L1 prB P2 P3 1 = some (.inl 2) := by
      have i0 : (decide ((1 : Int) < len prB.Sources)) = true := rfl
      have i6 : W ((1 : Int) + 1) = 2 := W_sm (by omega) (by omega)
      simp only [sync_Bad_L1, i0, if_true, l1, Option.bind_some, Sum.elim_inl, i6]
    rw [loopR_next s1, loopR_next s2]
    exact loopR_done rfl
  unfold sync_Bad
  simp only [state0 P2m P2s, state0 P3m P3s, Option.bind_some, e4, Bool.false_eq_true, if_false, lo, Sum.elim_inl]
theorem sane16_run : dynposlaw16_sane = some true := by
  have e0 : dynposlaw16_pair = some (prB, P1) := rfl
  have e1 : ((12 : Int) == 12) = true := rfl
  have e2 : ((0 : Int) == 0) = true := rfl
  have e3 : (len P3.Closed == 3) = true := rfl
  have e4 : idx P3.Closed 0 = some true := rfl
  unfold dynposlaw16_sane
  simp only [e0, Option.bind_some, match_run, close_run, may1, e1, e2, e3, e4, if_true, bad_run, Bool.not_false]
end Go.Proofs.Ytdfkfohpgakihaa
