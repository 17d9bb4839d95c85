/- Lists of alarms: the reference's changes of valid lists, drawn lists. Plain laws. -/
import Derived.Test.YtdfokgnmemlmgaaA1
set_option linter.unusedVariables false
set_option linter.unusedSimpArgs false
namespace Go.Proofs.Ytdfokgnmemlmgaa
open Go Go.RowKit Dp
namespace Rx

theorem take_Z {α : Type} (l : List α) (k : Nat) : takI l (k : Int) = l.take k := by simp [takI]
theorem drop_Z {α : Type} (l : List α) (k : Nat) : drpI l (k : Int) = l.drop k := by simp [drpI]
theorem slcT {α : Type} {l : List α} {k : Nat} (h : k ≤ l.length) : slc l 0 (k : Int) = some (l.take k) := slc_take h
theorem slcD {α : Type} {l : List α} {k : Nat} (h : k ≤ l.length) : slc l (k : Int) (len l) = some (l.drop k) := slc_drop h

/-- the reference's Raise -/
theorem wpRefRaise {m t t' n u : Int} {l : List Alarm} (h : Va m t l) (ht : t ≤ t') (hm : m ≤ 999) (h0 : 0 ≤ t') (h1 : t' ≤ 2147483648) (n0 : 0 ≤ n) (n1 : n ≤ m) (u0 : 1 ≤ u) (u1 : u ≤ 9) :
    Wp (dynposref35_Raise l n u t') fun r => (r.1 = 0 → Va m t' r.2.2) ∧ r.2.1 = l := by
  have hv := h.later ht
  have hl := h.len
  have hx : Ar m t' (Alarm.mk n u 1 t') := ⟨n0, n1, u0, u1, by simp, by simp, h0, Int.le_refl _⟩
  unfold dynposref35_Raise
  simp only [refcheck_ok hv hm h0 h1, Option.bind_some, bneF, in_T n0 (Int.le_trans n1 hm), in_T u0 u1, Bool.not_true, Bool.false_eq_true, if_false, bne_self_eq_false]
  rw [show app ([] : List Alarm) l = some l from app_sm (by simp; omega)]
  simp only [Option.bind_some]
  refine (wpFind (by omega) n).bind fun k hk => ?_
  rcases hk with ⟨rfl, hk⟩ | ⟨k, rfl, hk, he⟩
  · simp only [dF (c := (-1 : Int) ≥ 0) (by omega), Bool.false_eq_true, if_false]
    by_cases h32 : l.length = 32
    · rw [show (len l == 32) = true from beqT (by unfold len; omega)]
      exact wp_some.2 ⟨fun he => by simp at he, rfl⟩
    · rw [show (len l == 32) = false from beqF (by unfold len; omega)]
      simp only [Bool.false_eq_true, if_false]
      have hloop : Wp (loopO (dynposref35_Raise_L1 n l) 0) fun r => ∃ k : Nat, r = k ∧ k ≤ l.length ∧ (∀ i, i < k → (gt l i).Number < n) ∧ ∀ i, k ≤ i → i < l.length → n < (gt l i).Number := by
        refine wp_upto (s := (0 : Int)) l.length (fun k s => s = (k : Int) ∧ ∀ j, j < k → (gt l j).Number < n) ⟨rfl, fun j hj => by omega⟩ (fun k s hkl hi => ?_) (fun s hi => ?_) (by omega)
        · obtain ⟨rfl, hi⟩ := hi
          unfold dynposref35_Raise_L1
          simp only [lt_len hkl, if_true, idx_gt hkl, Option.bind_some]
          by_cases he : (gt l k).Number < n
          · simp only [dT he, if_true]
            rw [W_succ (by omega)]
            exact wp_some.2 ⟨rfl, fun j hj => by
              by_cases hjk : j = k
              · rw [hjk]; exact he
              · exact hi j (by omega)⟩
          · simp only [dF he, Bool.false_eq_true, if_false]
            refine wp_some.2 ⟨k, rfl, by omega, hi, fun i hki hil => ?_⟩
            have hne := hk i hil
            have hk1 := hk k hkl
            by_cases hik : i = k
            · rw [hik]; omega
            · have := h.srt k i (by omega) hil
              omega
        · obtain ⟨rfl, hi⟩ := hi
          unfold dynposref35_Raise_L1
          simp only [nlt_len, Bool.false_eq_true, if_false, Option.bind_some]
          exact wp_some.2 ⟨l.length, rfl, Nat.le_refl _, hi, fun i h1 h2 => by omega⟩
      refine hloop.bind fun k hk => ?_
      obtain ⟨k, rfl, hkl, hk1, hk2⟩ := hk
      simp only [slcT hkl, slcD hkl, Option.bind_some, take_Z, drop_Z]
      rw [app_sm (by simp; omega)]
      simp only [Option.bind_some]
      rw [app_sm (by simp; omega)]
      refine wp_some.2 ⟨fun _ => ?_, rfl⟩
      have := hv.ins hkl hx h32 hk1 hk2
      rw [List.append_assoc] at this
      exact this
  · simp only [dT (c := (k : Int) ≥ 0) (by omega), if_true, idx_gt hk, Option.bind_some]
    by_cases hs : (gt l k).State = 3
    · simp only [beqT hs, if_true]
      rw [setO_nat hk]
      exact wp_some.2 ⟨fun _ => hv.set hk hx he.symm, rfl⟩
    · simp only [beqF hs, Bool.false_eq_true, if_false]
      exact wp_some.2 ⟨fun _ => hv, rfl⟩
theorem without_eq {l : List Alarm} {k : Nat} (hk : k < l.length) (hl : l.length ≤ 1000) : dynposref35_without l k = some (l, l.take k ++ l.drop (k + 1)) := by
  unfold dynposref35_without
  simp only [slcT (Nat.le_of_lt hk), Option.bind_some, take_Z, W_succ (k := k) (by omega), slcD (show k + 1 ≤ l.length by omega), drop_Z]
  rw [app_sm (by simp; omega)]
  simp only [Option.bind_some, List.nil_append]
  rw [app_sm (by simp; omega)]
  rfl
theorem wpRefClear {m t t' n : Int} {l : List Alarm} (h : Va m t l) (ht : t ≤ t') (hm : m ≤ 999) (h0 : 0 ≤ t') (h1 : t' ≤ 2147483648) :
    Wp (dynposref35_Clear l n t') fun r => (r.1 = 0 → Va m t' r.2.2) ∧ r.2.1 = l := by
  have hv := h.later ht
  have hl := h.len
  unfold dynposref35_Clear
  simp only [refcheck_ok hv hm h0 h1, Option.bind_some, Bool.false_eq_true, if_false, bne_self_eq_false]
  refine (wpFind (by omega) n).bind fun k hk => ?_
  rcases hk with ⟨rfl, hk⟩ | ⟨k, rfl, hk, he⟩
  · simp only [dF (c := (-1 : Int) ≥ 0) (by omega), Bool.false_eq_true, if_false, Option.bind_some]
    rw [show app ([] : List Alarm) l = some l from app_sm (by simp; omega)]
    exact wp_some.2 ⟨fun _ => hv, rfl⟩
  · simp only [dT (c := (k : Int) ≥ 0) (by omega), if_true, idx_gt hk, Option.bind_some]
    by_cases hs : (gt l k).State = 2
    · simp only [beqT hs, if_true, without_eq hk (by omega), Option.bind_some]
      exact wp_some.2 ⟨fun _ => hv.del hk, rfl⟩
    · simp only [beqF hs, Bool.false_eq_true, if_false]
      rw [show app ([] : List Alarm) l = some l from app_sm (by simp; omega)]
      simp only [Option.bind_some, idx_gt hk]
      rw [setO_nat hk]
      have ha := hv.rng k hk
      exact wp_some.2 ⟨fun _ => hv.set hk { ha with s0 := by simp, s1 := by simp } rfl, rfl⟩
theorem wpRefSee {m t t' n : Int} {l : List Alarm} (h : Va m t l) (ht : t ≤ t') (hm : m ≤ 999) (h0 : 0 ≤ t') (h1 : t' ≤ 2147483648) :
    Wp (dynposref35_See l n t') fun r => (r.1 = 0 → Va m t' r.2.2) ∧ r.2.1 = l := by
  have hv := h.later ht
  have hl := h.len
  unfold dynposref35_See
  simp only [refcheck_ok hv hm h0 h1, Option.bind_some, Bool.false_eq_true, if_false, bne_self_eq_false]
  refine (wpFind (by omega) n).bind fun k hk => ?_
  rcases hk with ⟨rfl, hk⟩ | ⟨k, rfl, hk, he⟩
  · simp only [dT (c := (-1 : Int) < 0) (by omega), if_true, Option.bind_some]
    exact wp_some.2 ⟨fun he => by simp at he, rfl⟩
  · simp only [dF (c := (k : Int) < 0) (by omega), Bool.false_eq_true, if_false, idx_gt hk, Option.bind_some]
    by_cases hs : (gt l k).State = 2
    · simp only [beqT hs, if_true]
      exact wp_some.2 ⟨fun he => by simp at he, rfl⟩
    · simp only [beqF hs, Bool.false_eq_true, if_false]
      by_cases hs3 : (gt l k).State = 3
      · simp only [beqT hs3, if_true, without_eq hk (by omega), Option.bind_some]
        exact wp_some.2 ⟨fun _ => hv.del hk, rfl⟩
      · simp only [beqF hs3, Bool.false_eq_true, if_false]
        rw [show app ([] : List Alarm) l = some l from app_sm (by simp; omega)]
        simp only [Option.bind_some, idx_gt hk]
        rw [setO_nat hk]
        have ha := hv.rng k hk
        exact wp_some.2 ⟨fun _ => hv.set hk { ha with s0 := by simp, s1 := by simp } rfl, rfl⟩

/-- a drawn list -/
theorem wpAlarms {sl : List Int} {sa c : Int} (hs : Sr sl sa) (c0 : 0 ≤ c) (c1 : c ≤ 1000) : Wp (Src_Alarms ⟨sl, sa⟩ c) fun r => 0 ≤ r.1 ∧ r.1 ≤ 3 * c ∧ Va 5 r.1 r.2.2.2 ∧ Sr r.2.1 r.2.2.1 := by
  unfold Src_Alarms
  rw [W_sm (x := c + 1) (by omega) (by omega)]
  refine (wpN hs (n := c + 1) (by omega) (by omega)).bind fun y hy => ?_
  obtain ⟨y, l1, a1⟩ := y
  simp only at hy ⊢
  obtain ⟨⟨y0, y1⟩, hs1⟩ := hy
  have hloop : Wp (loopO Src_Alarms_L1 (0, y, [], l1, a1)) fun r => 0 ≤ r.1 ∧ r.1 ≤ 3 * c ∧ Va 5 r.1 r.2.1 ∧ Sr r.2.2.1 r.2.2.2 := by
    refine wp_while (fun s => s.2.1.toNat) (fun s => 0 ≤ s.1 ∧ s.1 + 3 * s.2.1 ≤ 3 * c ∧ 0 ≤ s.2.1 ∧ Va 5 s.1 s.2.2.1 ∧ Sr s.2.2.2.1 s.2.2.2.2) (fun s hi => ?_) ⟨Int.le_refl _, by simp only; omega, y0, Va.nil _ _, hs1⟩ (by simp only; omega)
    obtain ⟨t, k, l, sl, sa⟩ := s
    simp only at hi
    obtain ⟨i1, i2, i3, i4, i5⟩ := hi
    unfold Src_Alarms_L1
    simp only
    refine Wp.ite (fun hk => ?_) (fun hk => ?_)
    · have hk := of_decide_eq_true hk
      refine (wpN i5 (n := 3) (by omega) (by omega)).bind fun d hd => ?_
      obtain ⟨d, l2, a2⟩ := d
      simp only at hd ⊢
      obtain ⟨⟨d0, d1⟩, hs2⟩ := hd
      refine (wpN hs2 (n := 4) (by omega) (by omega)).bind fun q hq => ?_
      obtain ⟨q, l3, a3⟩ := q
      simp only at hq ⊢
      obtain ⟨_, hs3⟩ := hq
      have hW : W (t + d) = t + d := W_sm (by omega) (by omega)
      have hW2 : W (k - 1) = k - 1 := W_sm (by omega) (by omega)
      have hcond : (if (q == 0) = true then some (q == 0) else some (q == 1)) = some (q == 0 || q == 1) := by
        cases hq0 : (q == 0) <;> simp
      simp only [hcond, Option.bind_some, hW, hW2]
      have mid : Wp (if (q == 0 || q == 1) = true then
              Option.bind (Src_N (Src.mk l3 a3) 6) fun x11 =>
                Option.bind (Src_Range (Src.mk x11.2.1 x11.2.2) 1 3) fun x12 =>
                  Option.bind (dynposref35_Raise l x11.1 x12.1 (t + d)) fun x13 =>
                    some (x13.1, x13.2.2, x12.2.1, x12.2.2, x13.2.1)
            else
              Option.bind
                (if (q == 2) = true then
                  Option.bind (Src_N (Src.mk l3 a3) 6) fun x8 =>
                    Option.bind (dynposref35_Clear l x8.1 (t + d)) fun x9 =>
                      some (x9.1, x9.2.2, x8.2.1, x8.2.2, x9.2.1)
                else
                  Option.bind (Src_N (Src.mk l3 a3) 6) fun x6 =>
                    Option.bind (dynposref35_See l x6.1 (t + d)) fun x7 =>
                      some (x7.1, x7.2.2, x6.2.1, x6.2.2, x7.2.1))
                fun x10 => some (x10.1, x10.2.1, x10.2.2.1, x10.2.2.2.1, x10.2.2.2.2)) fun r => (r.1 = 0 → Va 5 (t + d) r.2.1) ∧ Sr r.2.2.1 r.2.2.2.1 ∧ r.2.2.2.2 = l := by
        refine Wp.ite (fun _ => ?_) (fun _ => ?_)
        · refine (wpN hs3 (n := 6) (by omega) (by omega)).bind fun x hx => ?_
          obtain ⟨x, l4, a4⟩ := x
          simp only at hx ⊢
          obtain ⟨⟨x0, x1⟩, hs4⟩ := hx
          refine (wpRange hs4 (lo := 1) (hi := 3) (by omega) (by omega) (by omega) (by omega)).bind fun u hu => ?_
          obtain ⟨u, l5, a5⟩ := u
          simp only at hu ⊢
          obtain ⟨⟨u0, u1⟩, hs5⟩ := hu
          refine (wpRefRaise i4 (by omega) (by omega) (by omega) (by omega) x0 (by omega) u0 (by omega)).bind fun r hr => ?_
          exact wp_some.2 ⟨hr.1, hs5, hr.2⟩
        · have inner : Wp (if (q == 2) = true then
                  Option.bind (Src_N (Src.mk l3 a3) 6) fun x8 =>
                    Option.bind (dynposref35_Clear l x8.1 (t + d)) fun x9 =>
                      some (x9.1, x9.2.2, x8.2.1, x8.2.2, x9.2.1)
                else
                  Option.bind (Src_N (Src.mk l3 a3) 6) fun x6 =>
                    Option.bind (dynposref35_See l x6.1 (t + d)) fun x7 =>
                      some (x7.1, x7.2.2, x6.2.1, x6.2.2, x7.2.1)) fun r => (r.1 = 0 → Va 5 (t + d) r.2.1) ∧ Sr r.2.2.1 r.2.2.2.1 ∧ r.2.2.2.2 = l := by
            refine Wp.ite (fun _ => ?_) (fun _ => ?_)
            · refine (wpN hs3 (n := 6) (by omega) (by omega)).bind fun x hx => ?_
              refine (wpRefClear i4 (by omega) (by omega) (by omega) (by omega)).bind fun r hr => ?_
              exact wp_some.2 ⟨hr.1, hx.2, hr.2⟩
            · refine (wpN hs3 (n := 6) (by omega) (by omega)).bind fun x hx => ?_
              refine (wpRefSee i4 (by omega) (by omega) (by omega) (by omega)).bind fun r hr => ?_
              exact wp_some.2 ⟨hr.1, hx.2, hr.2⟩
          exact inner.bind fun r hr => wp_some.2 hr
      refine mid.bind fun r hr => ?_
      obtain ⟨e, lr, sl6, sa6, lo⟩ := r
      simp only at hr ⊢
      obtain ⟨r1, r2, rfl⟩ := hr
      by_cases he : e = 0
      · simp only [beqT he, if_true, Option.bind_some]
        exact wp_some.2 ⟨⟨by simp only; omega, by simp only; omega, by simp only; omega, r1 he, r2⟩, by simp only; omega⟩
      · simp only [beqF he, Bool.false_eq_true, if_false, Option.bind_some]
        exact wp_some.2 ⟨⟨by simp only; omega, by simp only; omega, by simp only; omega, i4.later (by omega), r2⟩, by simp only; omega⟩
    · exact wp_some.2 ⟨i1, by simp only; omega, i4, i5⟩
  refine hloop.bind fun r hr => ?_
  exact wp_some.2 ⟨hr.1, hr.2.1, hr.2.2.1, hr.2.2.2⟩
end Rx
end Go.Proofs.Ytdfokgnmemlmgaa
