/- Board: what board.Live and board.Find answer. Plain laws. -/
import Derived.Test.YtnpghnnlcakbfaaM6
set_option linter.unusedVariables false
set_option linter.unusedSimpArgs false
namespace Go.Proofs.Ytnpghnnlcakbfaa
open Go Go.RowKit Dp
namespace Rx

section
variable {b : Board} {p : Power}
theorem live_eq (hb : SmB b) (hp : SmP p) (k : Int) : board_Live b p k = some (decide (0 < (ofB b p k).1.Sources.length)) := by
  unfold board_Live
  rw [of_eq hb hp]
  simp only [Option.bind_some, Option.bind_fun_some, Sum.elim_inl, Sum.elim_inr, eqO_self]
  congr 1
  rw [decide_eq_decide]
  simp only [ofT, len]
  omega
/-! breakers found -/
noncomputable def findB (b : Board) (kind j : Int) : List Int := if chk b = 0 then rangeF (findP b kind j) b.Breakers.length else []
theorem find_eq (hb : SmB b) (kind j : Int) : board_Find b kind j = some (findB b kind j) := by
  unfold board_Find findB
  rw [check_eq hb]
  by_cases h : chk b = 0
  case neg =>
    have : (chk b != 0) = true := by simpa using h
    simp only [Option.bind_some, Option.bind_fun_some, Sum.elim_inl, Sum.elim_inr, eqO_self, this, if_true, if_neg h]
  rw [if_pos h, h]
  simp only [Option.bind_some, Option.bind_fun_some, Sum.elim_inl, Sum.elim_inr, eqO_self, bne_self_eq_false, Bool.false_eq_true, if_false]
  have hs := hb.1
  have h1 := loop_run (step := board_Find_L1 b kind j) (fun k => ((k : Int), rangeF (findP b kind j) k)) b.Breakers.length (r := rangeF (findP b kind j) b.Breakers.length)
    (fun k hk => by
      have hrl := rangeF_len (findP b kind j) k
      have hkk := sm_lt hs hk
      have hap : app (rangeF (findP b kind j) k) [(k : Int)] = some (rangeF (findP b kind j) k ++ [(k : Int)]) := app_sm (by unfold Sm at hs; simp; omega)
      simp only [board_Find_L1, lt_len hk, if_true, idx_gt hk, Option.bind_some, Option.bind_fun_some, Sum.elim_inl, Sum.elim_inr, eqO_self, W_succ hkk, rangeF_succ, hap]
      unfold findP
      cases e1 : (gt b.Breakers k).Kind == kind <;> cases e2 : (gt b.Breakers k).B == j <;> cases e3 : kind == 1 <;> cases e4 : (gt b.Breakers k).A == j <;> simp)
    (by simp only [board_Find_L1, nlt_len, Bool.false_eq_true, if_false])
  have h1' : loopO (board_Find_L1 b kind j) (0, []) = _ := h1
  rw [h1']
end
end Rx
end Go.Proofs.Ytnpghnnlcakbfaa
