/- The law SyncNever, plainly. -/
import Derived.Test.YtdfkfohpgakihaaS8
import Derived.KernelRfl
set_option linter.unusedVariables false
set_option linter.unusedSimpArgs false
namespace Go.Proofs.Ytdfkfohpgakihaa
open Go Go.RowKit Dp
namespace Rx
open Classical
theorem sane16 : dynposlaw16_sane = some true := by kernel_rfl

section
variable {b : Board} {p : Power}
theorem eta_pow (q : Power) : Power.mk q.Closed q.Sources q.Limits q.Broken = q := rfl
/-- a command's answer is good, if it is no error -/
def Ans (b : Board) (p : Power) (r : Int × List Bool × List Running × List Int × List Part) : Prop := r.1 = 0 → ∃ q, r.2 = (q.Closed, q.Sources, q.Limits, q.Broken) ∧ Good b p q
theorem ans_close (hb : SmB b) (hp : SmP p) (h : stt b p = 0) (hf : folL b p = p.Sources) (i : Int) : Wp (sync_Close b p i) (Ans b p) := by
  rw [closeA_eq hb hp]
  by_cases hm : mayV b p i = 0
  · obtain ⟨_, k, rfl, hk, hs, hy⟩ := may_zero hm
    rw [if_neg (show ¬ (mayV b p (k : Int) ≠ 0) from fun hn => hn hm)]
    exact wp_some.2 fun _ => ⟨folP b (clP p k), rfl, good_close hp h hf hk hs hy⟩
  · rw [if_pos hm]
    exact wp_some.2 fun e => (hm e).elim
theorem ans_open (hb : SmB b) (hp : SmP p) (h : stt b p = 0) (hf : folL b p = p.Sources) (i : Int) : Wp (sync_Open b p i) (Ans b p) := by
  obtain ⟨_, ⟨s1, s2, s3⟩, _⟩ := stt_zero.1 h
  rw [openA_eq hb hp, if_neg (show ¬ (stt b p ≠ 0) from fun hn => hn h)]
  by_cases h1 : i < 0 ∨ (b.Breakers.length : Int) ≤ i
  · rw [if_pos h1]; exact wp_some.2 fun e => by cases e
  rw [if_neg h1]
  by_cases h2 : gt p.Closed i.toNat = false ∨ (⟨2, i⟩ : Part) ∈ p.Broken
  · rw [if_pos h2]; exact wp_some.2 fun e => by cases e
  rw [if_neg h2]
  exact wp_some.2 fun _ => ⟨opP p i.toNat, rfl, good_open hp h hf (by omega)⟩
theorem ans_match (hb : SmB b) (hp : SmP p) (h : stt b p = 0) (hf : folL b p = p.Sources) (s k : Int) : Wp (sync_Match b p s k) (Ans b p) := by
  obtain ⟨_, ⟨s1, s2, s3⟩, _⟩ := stt_zero.1 h
  rw [matchA_eq hb hp, if_neg (show ¬ (stt b p ≠ 0) from fun hn => hn h)]
  by_cases h1 : s < 0 ∨ (b.Sources.length : Int) ≤ s ∨ k < 0 ∨ b.Buses ≤ k
  · rw [if_pos h1]; exact wp_some.2 fun e => by cases e
  rw [if_neg h1]
  by_cases h2 : (lead b p k).2 = false ∨ (gt p.Sources s.toNat).State ≠ 2
  · rw [if_pos h2]; exact wp_some.2 fun e => by cases e
  rw [if_neg h2]
  have hv : (lead b p k).2 = true := by
    cases hv : (lead b p k).2 with
    | true => rfl
    | false => exact (h2 (.inl hv)).elim
  obtain ⟨m, em, hm⟩ := lead_in h hv
  rw [em, Int.toNat_natCast]
  exact wp_some.2 fun _ => ⟨matP b p s.toNat m, rfl, good_mat hp h hf (by omega) hm⟩
theorem ans_turn (hb : SmB b) (hp : SmP p) (h : stt b p = 0) (hf : folL b p = p.Sources) : Wp (sync_Turn b p) (Ans b p) := by
  rw [turn_eq hb hp h]
  exact wp_some.2 fun _ => ⟨turned p, rfl, good_turn hp h hf⟩
/-- ten commands -/
theorem never_loop (hb : SmB b) {x2 : Int × Int × Int × List Int × Int × List Breaker × List Source × List Consumer} {x3 : List Int × Int × List Breaker × List Source × List Consumer × List Bool × List Running × List Int × List Part}
    (hbus : 1 ≤ b.Buses ∧ b.Buses ≤ 1000000) (hB : Board.mk x2.1 x3.2.2.1 x3.2.2.2.1 x3.2.2.2.2.1 x2.2.1 x2.2.2.1 = b) {l : List Int} {a : Int} (hs : Sr l a) (hp : SmP p) (h : stt b p = 0) (hf : folL b p = p.Sources) :
    Wp (loopO (dynposlaw16_SyncNever_L1 x2 x3) ((0 : Int), l, a, p.Closed, p.Sources, p.Limits, p.Broken)) fun r => ∃ y, r = .inl y := by
  have hx1 : x3.2.2.1 = b.Breakers := congrArg Board.Breakers hB
  have hx2 : x3.2.2.2.1 = b.Sources := congrArg Board.Sources hB
  have hx3 : x2.1 = b.Buses := congrArg Board.Buses hB
  have hbl := hb.1
  have hsl := hb.2.1
  have hB2 := hB
  rw [hx3] at hB2
  have hlb : W (len x3.2.2.1 + 1) = ((b.Breakers.length + 1 : Nat) : Int) := by rw [hx1]; exact W_succ (by unfold Sm at hbl; omega)
  have hls : W (len x3.2.2.2.1 + 1) = ((b.Sources.length + 1 : Nat) : Int) := by rw [hx2]; exact W_succ (by unfold Sm at hsl; omega)
  unfold Sm at hbl hsl
  refine wp_upto 10 (fun k s => ∃ (l : List Int) (a : Int) (q : Power), s = ((k : Int), l, a, q.Closed, q.Sources, q.Limits, q.Broken) ∧ Sr l a ∧ SmP q ∧ stt b q = 0 ∧ folL b q = q.Sources) ⟨l, a, p, rfl, hs, hp, h, hf⟩ (fun k s hk hi => ?_) (fun s hi => ?_)
  · obtain ⟨l, a, p, rfl, hs, hp, h, hf⟩ := hi
    simp only [dynposlaw16_SyncNever_L1, hlb, hls, hx3, hB2, eta_pow, dT (show (k : Int) < 10 by omega), if_true]
    refine Wp.bind (Q := fun x => ∃ (l : List Int) (a : Int) (q : Power), x = .inl (l, a, q.Closed, q.Sources, q.Limits, q.Broken) ∧ Sr l a ∧ SmP q ∧ stt b q = 0 ∧ folL b q = q.Sources) ?_ fun x hx => ?_
    case refine_2 =>
      obtain ⟨l, a, q, rfl, h1, h2, h3, h4⟩ := hx
      simp only [Sum.elim_inl, W_succ (show k < 1000000000000000000 by omega)]
      exact wp_some.2 ⟨l, a, q, rfl, h1, h2, h3, h4⟩
    refine (wpN hs (by omega) (by omega)).bind fun r hr => ?_
    obtain ⟨v, l1, a1⟩ := r
    obtain ⟨_, hs1⟩ := hr
    simp only at hs1 ⊢
    refine Wp.bind (Q := fun _ => True) ?_ fun c _ => ?_
    · exact Wp.ite (fun _ => wp_some.2 trivial) fun _ => wp_some.2 trivial
    refine Wp.bind (Q := fun (r : Int × List Int × Int × List Bool × List Running × List Int × List Part) => Sr r.2.1 r.2.2.1 ∧ Ans b p (r.1, r.2.2.2)) ?_ fun r hr => ?_
    · refine Wp.ite (fun _ => ?_) fun _ => ?_
      · refine (wpN hs1 (by omega) (by omega)).bind fun r hr => ?_
        exact (ans_close hb hp h hf r.1).bind fun z hz => wp_some.2 ⟨hr.2, hz⟩
      refine Wp.bind (Q := fun (r : Int × List Int × Int × List Bool × List Running × List Int × List Part) => Sr r.2.1 r.2.2.1 ∧ Ans b p (r.1, r.2.2.2)) ?_ fun r hr => wp_some.2 hr
      refine Wp.ite (fun _ => ?_) fun _ => ?_
      · refine (wpN hs1 (by omega) (by omega)).bind fun r hr => ?_
        exact (ans_open hb hp h hf r.1).bind fun z hz => wp_some.2 ⟨hr.2, hz⟩
      refine Wp.bind (Q := fun (r : Int × List Int × Int × List Bool × List Running × List Int × List Part) => Sr r.2.1 r.2.2.1 ∧ Ans b p (r.1, r.2.2.2)) ?_ fun r hr => wp_some.2 hr
      refine Wp.ite (fun _ => ?_) fun _ => ?_
      · refine (wpN hs1 (by omega) (by omega)).bind fun r hr => ?_
        refine (wpN hr.2 hbus.1 (by omega)).bind fun r' hr' => ?_
        exact (ans_match hb hp h hf r.1 r'.1).bind fun z hz => wp_some.2 ⟨hr'.2, hz⟩
      · exact (ans_turn hb hp h hf).bind fun z hz => wp_some.2 ⟨hs1, hz⟩
    obtain ⟨e, l2, a2, cl, so, li, br⟩ := r
    obtain ⟨hs2, ha⟩ := hr
    simp only at hs2 ha ⊢
    refine Wp.ite (fun _ => wp_some.2 ⟨l2, a2, p, rfl, hs2, hp, h, hf⟩) fun he => ?_
    obtain ⟨q, hq, g⟩ := ha (by simpa using he)
    cases hq
    have hbad := bad_eq hb hp g.sm h g.st
    rw [dB_F g.ok] at hbad
    have hfo := follow_eq hb g.sm g.st
    rw [g.fo] at hfo
    simp only [eta_pow, hfo, hbad, same_refl g.sm, Option.bind_some, bne_self_eq_false, Bool.not_true, Bool.false_eq_true, if_false]
    exact wp_some.2 ⟨l2, a2, q, rfl, hs2, g.sm, g.st, g.fo⟩
  · obtain ⟨l, a, p, rfl, hs, hp, h, hf⟩ := hi
    simp only [dynposlaw16_SyncNever_L1, dF (show ¬ ((10 : Nat) : Int) < 10 by omega), Bool.false_eq_true, if_false]
    exact wp_some.2 ⟨_, rfl⟩
end
theorem law_SyncNever (t : List Int) : dynposlaw16_SyncNever t = some true := by
  unfold dynposlaw16_SyncNever
  obtain ⟨⟨l, a⟩, e0, hs⟩ := wpNew t
  obtain ⟨⟨nb, ph, fr, l1, a1, br, S, C⟩, e1, hs1, hb⟩ := wpBoard hs
  simp only at hs1 hb
  obtain ⟨r, e2, l2, a2, q, rfl, hs2, hq, h0, hf⟩ := wpFollowed' hs1 hb
  simp only [e0, e1, e2, Option.bind_some]
  obtain ⟨r, e3, y, rfl⟩ := never_loop (b := ⟨nb, br, S, C, ph, fr⟩) (x2 := (nb, ph, fr, l1, a1, br, S, C)) (x3 := (l2, a2, br, S, C, q.Closed, q.Sources, q.Limits, q.Broken)) (p := q) hb.sm (by have := hb.bus; omega) rfl hs2 hq h0 hf
  simp only [e3, Option.bind_some, Sum.elim_inl, sane16]
end Rx
end Go.Proofs.Ytdfkfohpgakihaa
