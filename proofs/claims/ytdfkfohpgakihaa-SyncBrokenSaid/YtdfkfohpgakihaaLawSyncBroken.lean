/- The law SyncBroken, plainly. -/
import Derived.Test.YtdfkfohpgakihaaS6
import Derived.KernelRfl
set_option linter.unusedVariables false
set_option linter.unusedSimpArgs false
namespace Go.Proofs.Ytdfkfohpgakihaa
open Go Go.RowKit Dp
namespace Rx
open Classical
theorem sane16 : dynposlaw16_sane = some true := by kernel_rfl

section
variable {b : Board} {p : Power}
/-- part x stands for breaker i -/
def OwnQ (x : Part) (y : Breaker) (i : Nat) : Prop := (x.Kind = 2 ∧ x.Number = (i : Int)) ∨ (x.Kind = 3 ∧ (y.A = x.Number ∨ y.Kind = 1 ∧ y.B = x.Number)) ∨ (x.Kind = 1 ∧ y.Kind = 2 ∧ y.B = x.Number) ∨ (x.Kind = 4 ∧ y.Kind = 3 ∧ y.B = x.Number)
theorem may_own (h : stt b p = 0) {i : Nat} (hi : i < b.Breakers.length) {x : Part} (hx : x ∈ p.Broken) (ho : OwnQ x (gt b.Breakers i) i) : mayV b p (i : Int) = 11 := by
  unfold mayV
  rw [if_neg (show ¬ (stt b p ≠ 0) from fun hn => hn h), if_neg (show ¬ ((i : Int) < 0 ∨ (b.Breakers.length : Int) ≤ (i : Int)) by omega), Int.toNat_natCast, if_pos]
  rintro ⟨h1, h2, h3, h4⟩
  obtain ⟨k, n⟩ := x
  unfold OwnQ at ho
  simp only at ho
  rcases ho with ⟨rfl, rfl⟩ | ⟨rfl, e | ⟨e1, rfl⟩⟩ | ⟨rfl, e1, rfl⟩ | ⟨rfl, e1, rfl⟩
  · exact h2 hx
  · rw [e] at h3; exact h3 hx
  · rw [if_pos e1] at h4; exact h4 hx
  · rw [if_neg (by omega), if_pos e1] at h4; exact h4.1 hx
  · rw [if_neg (by omega), if_neg (by omega)] at h4; exact h4.1 hx
theorem brk_inner (hb : SmB b) (hp : SmP p) (h : stt b p = 0) {x2 : Int × Int × Int × List Int × Int × List Breaker × List Source × List Consumer} {x3 : List Int × Int × List Breaker × List Source × List Consumer × List Bool × List Running × List Int × List Part}
    (h1 : x3.2.2.1 = b.Breakers) (hB : Board.mk x2.1 b.Breakers x3.2.2.2.1 x3.2.2.2.2.1 x2.2.1 x2.2.2.1 = b) (hP : Power.mk x3.2.2.2.2.2.1 x3.2.2.2.2.2.2.1 x3.2.2.2.2.2.2.2.1 x3.2.2.2.2.2.2.2.2 = p) {x : Part} (hx : x ∈ p.Broken) :
    Wp (loopO (dynposlaw16_SyncBroken_L2 x2 x3 x) 0) fun r => r = .inl () := by
  have hbr := hb.1
  refine wp_upto b.Breakers.length (fun k s => s = (k : Int)) rfl (fun i s hi hs => ?_) (fun s hs => ?_)
  · subst hs
    simp only [dynposlaw16_SyncBroken_L2, h1, hB, hP, lt_len hi, if_true, idx_gt hi, Option.bind_some, may_eq hb hp, openA_eq hb hp]
    refine Wp.bind (Q := fun r => r = true → OwnQ x (gt b.Breakers i) i) ?_ fun r hr => ?_
    · unfold OwnQ
      generalize x.Kind = k
      generalize x.Number = n
      generalize (gt b.Breakers i).Kind = kb
      generalize (gt b.Breakers i).A = a
      generalize (gt b.Breakers i).B = bb
      repeat' (first
        | (refine wp_some.2 ?_)
        | (refine Wp.ite (fun h => ?_) (fun h => ?_)))
      all_goals
        simp only [beq_iff_eq, beq_eq_false_iff_ne] at *
        intro hr
        first
          | (cases hr; done)
          | omega
    · refine Wp.bind (Q := fun r => r = false) ?_ fun r2 hr2 => ?_
      · refine Wp.ite (fun hv => ?_) fun _ => wp_some.2 rfl
        rw [may_own h hi hx (hr hv)]
        exact wp_some.2 rfl
      · subst hr2
        simp only [Bool.false_eq_true, if_false]
        refine Wp.bind (Q := fun r => r = false) ?_ fun r3 hr3 => ?_
        · refine Wp.ite (fun hk => ?_) fun _ => wp_some.2 rfl
          refine Wp.ite (fun hn => ?_) fun _ => wp_some.2 rfl
          have hin : (⟨2, (i : Int)⟩ : Part) ∈ p.Broken := by
            have e : x = ⟨2, (i : Int)⟩ := (partB x ⟨2, (i : Int)⟩).1 (by simp only [hk, hn, Bool.and_self])
            rw [← e]
            exact hx
          rw [if_neg (show ¬ (stt b p ≠ 0) from fun hn => hn h), if_neg (show ¬ ((i : Int) < 0 ∨ (b.Breakers.length : Int) ≤ (i : Int)) by omega), if_pos (show gt p.Closed (i : Int).toNat = false ∨ (⟨2, (i : Int)⟩ : Part) ∈ p.Broken from .inr hin)]
          exact wp_some.2 rfl
        · subst hr3
          simp only [Bool.false_eq_true, if_false]
          exact wp_some.2 (W_succ (sm_lt hbr hi))
  · subst hs
    simp only [dynposlaw16_SyncBroken_L2, h1, nlt_len, Bool.false_eq_true, if_false]
    exact wp_some.2 rfl
theorem brk_outer (hb : SmB b) (hp : SmP p) (h : stt b p = 0) {x2 : Int × Int × Int × List Int × Int × List Breaker × List Source × List Consumer} {x3 : List Int × Int × List Breaker × List Source × List Consumer × List Bool × List Running × List Int × List Part}
    (h1 : x3.2.2.1 = b.Breakers) (hB : Board.mk x2.1 b.Breakers x3.2.2.2.1 x3.2.2.2.2.1 x2.2.1 x2.2.2.1 = b) (h2 : x3.2.2.2.2.2.2.2.2 = p.Broken) (hP : Power.mk x3.2.2.2.2.2.1 x3.2.2.2.2.2.2.1 x3.2.2.2.2.2.2.2.1 x3.2.2.2.2.2.2.2.2 = p) :
    loopO (dynposlaw16_SyncBroken_L1 x2 x3) 0 = some (.inl ()) := by
  have hsm := hp.2.2.2
  refine loop_run (step := dynposlaw16_SyncBroken_L1 x2 x3) (fun k => (k : Int)) p.Broken.length (fun i hi => ?_) (by simp only [dynposlaw16_SyncBroken_L1, h2, nlt_len, Bool.false_eq_true, if_false])
  obtain ⟨r, e, rfl⟩ := brk_inner hb hp h h1 hB hP (gt_mem hi)
  simp only [dynposlaw16_SyncBroken_L1, h2, lt_len hi, if_true, idx_gt hi, e, Option.bind_some, Sum.elim_inl, W_succ (sm_lt hsm hi)]
end
theorem law_SyncBroken (t : List Int) : dynposlaw16_SyncBroken t = some true := by
  unfold dynposlaw16_SyncBroken
  obtain ⟨⟨l, a⟩, e0, hs⟩ := wpNew t
  obtain ⟨⟨nb, ph, fr, l1, a1, br, S, C⟩, e1, hs1, hb⟩ := wpBoard hs
  simp only at hs1 hb
  obtain ⟨r, e2, l2, a2, q, rfl, hs2, hq, h0⟩ := wpFollowed hs1 hb
  simp only [e0, e1, e2, Option.bind_some]
  rw [brk_outer (b := ⟨nb, br, S, C, ph, fr⟩) (p := q) hb.sm hq h0 rfl rfl rfl rfl]
  simp only [Option.bind_some, Sum.elim_inl, sane16]
end Rx
end Go.Proofs.Ytdfkfohpgakihaa
