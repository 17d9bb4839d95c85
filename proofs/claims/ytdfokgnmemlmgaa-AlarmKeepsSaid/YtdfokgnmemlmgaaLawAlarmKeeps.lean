/- AlarmKeeps: an alarm that was raised leaves the list only after somebody has seen it. Plain law. -/
import Derived.Test.YtdfokgnmemlmgaaA4
set_option linter.unusedVariables false
set_option linter.unusedSimpArgs false
namespace Go.Proofs.Ytdfokgnmemlmgaa
open Go Go.RowKit Dp
namespace Rx

/-- what See does -/
theorem see_ok {t n : Int} {l : List Alarm} (h : Va 5 t l) (h0 : 0 ≤ t) (h1 : t ≤ 2147483648) : ∃ r, alarm_See l n t = some r ∧
    (r.1 ≠ 0 ∨ (Va 5 t r.2 ∧ (∀ a ∈ l, a.Number = n ∨ ∃ b ∈ r.2, b.Number = a.Number) ∧ ∀ b ∈ r.2, b.State = 2 → b.Number = n ∨ b ∈ l)) := by
  have hl := h.len
  obtain ⟨k, hk, h1', h2, hf⟩ := wpLFind h t n
  unfold alarm_See
  simp only [open_ok h (Int.le_refl _) (by omega) h0 h1, Option.bind_some, bne_self_eq_false, Bool.false_eq_true, if_false]
  unfold list_see
  simp only [hf, Option.bind_some]
  by_cases hb : k < l.length ∧ (gt l k).Number = n
  · rw [dB_T hb]
    obtain ⟨hkl, he⟩ := hb
    have hra := h.rng k hkl
    simp only [Bool.not_true, Bool.false_eq_true, if_false, idx_gt hkl, Option.bind_some]
    by_cases hs2 : (gt l k).State = 2
    · simp only [beqT hs2, if_true, Option.bind_some]
      exact ⟨_, rfl, .inl (by simp)⟩
    · simp only [beqF hs2, Bool.false_eq_true, if_false]
      by_cases hs1 : (gt l k).State = 1
      · simp only [beqT hs1, if_true, setO_nat hkl, Option.bind_some, bne_self_eq_false, Bool.false_eq_true, if_false]
        refine ⟨_, rfl, .inr ⟨h.set hkl { hra with s0 := by simp, s1 := by simp } rfl, fun a ha => ?_, fun b hb hs => ?_⟩⟩
        · obtain ⟨j, hj, rfl⟩ := mem_gt ha
          by_cases hjk : j = k
          · subst hjk; exact .inl he
          · refine .inr ⟨gt l j, ?_, rfl⟩
            have : gt (l.set k (Alarm.mk (gt l k).Number (gt l k).Urgency 2 (gt l k).Since)) j = gt l j := by rw [gt_set hkl, if_neg hjk]
            rw [← this]
            exact gt_mem (by simpa using hj)
        · obtain ⟨j, hj, rfl⟩ := mem_gt hb
          have hj : j < l.length := by simpa using hj
          rw [gt_set hkl] at hs ⊢
          by_cases hjk : j = k
          · rw [if_pos hjk]; exact .inl he
          · rw [if_neg hjk]; exact .inr (gt_mem hj)
      · have hd : slices_Delete_Alarm_Alarm l (k : Int) (W ((k : Int) + 1)) = some (l.take k ++ l.drop (k + 1)) := by
          rw [W_succ (by omega)]
          unfold slices_Delete_Alarm_Alarm delO
          have e1 : decide ((0 : Int) ≤ (k : Int)) = true := dT (by omega)
          have e2 : decide ((k : Int) ≤ ((k + 1 : Nat) : Int)) = true := dT (by omega)
          have e3 : decide (((k + 1 : Nat) : Int) ≤ Dp.len l) = true := dT (by unfold Dp.len; omega)
          rw [e1, e2, e3]
          rfl
        simp only [beqF hs1, Bool.false_eq_true, if_false, hd, Option.bind_some, bne_self_eq_false]
        refine ⟨_, rfl, .inr ⟨h.del hkl, fun a ha => ?_, fun b hb hs => .inr ?_⟩⟩
        · obtain ⟨j, hj, rfl⟩ := mem_gt ha
          by_cases hjk : j = k
          · subst hjk; exact .inl he
          · refine .inr ⟨gt l j, ?_, rfl⟩
            rcases Nat.lt_or_ge j k with hlt | hge
            · have := gt_del (i := j) hkl (by omega)
              rw [if_pos hlt] at this
              rw [← this]
              exact gt_mem (by simp; omega)
            · have := gt_del (i := j - 1) hkl (by omega)
              rw [if_neg (by omega), show j - 1 + 1 = j by omega] at this
              rw [← this]
              exact gt_mem (by simp; omega)
        · rcases List.mem_append.1 hb with hb | hb
          · exact List.mem_of_mem_take hb
          · exact List.mem_of_mem_drop hb
  · rw [dB_F hb]
    simp only [Bool.not_false, if_true, Option.bind_some]
    exact ⟨_, rfl, .inl (by simp)⟩

theorem round_ok {time : Nat} (ht : time < 16) {l : List Alarm} {sl : List Int} {sa : Int} {m : List (Int × Bool)} (hv : Va 5 time l) (hs : Sr sl sa) (hj : ∀ a ∈ l, a.State = 2 → mgB m a.Number = true) :
    Wp (dynposlaw35_AlarmKeeps_L1 ((time : Int), l, sl, sa, m)) fun x => match x with
      | .inl s' => s'.1 = ((time + 1 : Nat) : Int) ∧ Va 5 (time + 1 : Nat) s'.2.1 ∧ Sr s'.2.2.1 s'.2.2.2.1 ∧ ∀ a ∈ s'.2.1, a.State = 2 → mgB s'.2.2.2.2 a.Number = true
      | .inr r => ∃ y, r = .inl y := by
  unfold dynposlaw35_AlarmKeeps_L1
  simp only [dT (c := (time : Int) < 16) (by omega), if_true]
  refine (wpCauses hs).bind fun x3 hx3 => ?_
  obtain ⟨sl3, sa3, cs⟩ := x3
  simp only at hx3 ⊢
  obtain ⟨hcs, hs3⟩ := hx3
  obtain ⟨l1, u1, hu, _, hk⟩ := upd hv hcs (by omega) (by omega)
  simp only [u1, Option.bind_some, bne_self_eq_false, Bool.false_eq_true, if_false, check_ok hu.va (by omega) (by omega : (0 : Int) ≤ time) (by omega)]
  refine (wpN hs3 (n := 9) (by omega) (by omega)).bind fun x7 hx7 => ?_
  obtain ⟨k, sl7, sa7⟩ := x7
  simp only at hx7 ⊢
  obtain ⟨_, hs7⟩ := hx7
  obtain ⟨r, hr, hc⟩ := see_ok (n := k) hu.va (by omega) (by omega)
  simp only [hr, Option.bind_some]
  have mid : ∃ x10 : List Alarm × List (Int × Bool), (if (r.1 == 0) = true then some (r.2, mput (fun x9 => x9.1 == k) (k, true) m) else some (l1, m)) = some x10 ∧ Va 5 time x10.1 ∧
      (∀ a ∈ l, (∃ b ∈ x10.1, b.Number = a.Number) ∨ mgB x10.2 a.Number = true) ∧ (∀ b ∈ x10.1, b.State = 2 → mgB x10.2 b.Number = true ∨ ∃ a ∈ l, a.Number = b.Number) ∧ (∀ b ∈ x10.1, b.State = 2 → (∃ a ∈ l, a.Number = b.Number) → mgB x10.2 b.Number = true) := by
    rcases hc with hc | ⟨c1, c2, c3⟩
    · rw [beqF hc]
      refine ⟨_, rfl, hu.va, fun a ha => ?_, fun b hb h2 => ?_, fun b hb h2 _ => ?_⟩
      · rcases hk.there a ha with g | g
        · exact .inr (hj a ha g)
        · exact .inl g
      · obtain ⟨a, ha, g1, g2⟩ := hk.seen b hb h2
        exact .inr ⟨a, ha, g1⟩
      · obtain ⟨a, ha, g1, g2⟩ := hk.seen b hb h2
        rw [← g1]
        exact hj a ha g2
    · by_cases h0 : r.1 = 0
      · rw [beqT h0]
        have hput : ∀ j, mgB m j = true → mgB (mput (fun x9 => x9.1 == k) (k, true) m) j = true := fun j hm => by
          rw [mgB_put]
          split
          · rfl
          · exact hm
        have hputk : mgB (mput (fun x9 => x9.1 == k) (k, true) m) k = true := by rw [mgB_put, if_pos rfl]
        have sn : ∀ b ∈ r.2, b.State = 2 → mgB (mput (fun x9 => x9.1 == k) (k, true) m) b.Number = true := fun b hb h2 => by
          rcases c3 b hb h2 with g | g
          · rw [g]; exact hputk
          · obtain ⟨a, ha, g1, g2⟩ := hk.seen b g h2
            rw [← g1]
            exact hput _ (hj a ha g2)
        refine ⟨_, rfl, c1, fun a ha => ?_, fun b hb h2 => .inl (sn b hb h2), fun b hb h2 _ => sn b hb h2⟩
        rcases hk.there a ha with g | ⟨b, hb, g⟩
        · exact .inr (hput _ (hj a ha g))
        · rcases c2 b hb with g2 | ⟨c, hc, g2⟩
          · refine .inr ?_
            rw [← g, g2]
            exact hputk
          · exact .inl ⟨c, hc, g2.trans g⟩
      · rw [beqF h0]
        refine ⟨_, rfl, hu.va, fun a ha => ?_, fun b hb h2 => ?_, fun b hb h2 _ => ?_⟩
        · rcases hk.there a ha with g | g
          · exact .inr (hj a ha g)
          · exact .inl g
        · obtain ⟨a, ha, g1, g2⟩ := hk.seen b hb h2
          exact .inr ⟨a, ha, g1⟩
        · obtain ⟨a, ha, g1, g2⟩ := hk.seen b hb h2
          rw [← g1]
          exact hj a ha g2
  obtain ⟨⟨l2, m2⟩, e1, v2, t2, _, s2⟩ := mid
  simp only at v2 t2 s2
  rw [e1]
  simp only [Option.bind_some]
  have hll := hv.len
  have hl2 := v2.len
  have eL2 := loop_run (step := dynposlaw35_AlarmKeeps_L2 ((time : Int), l, sl, sa, m) (l2, m2)) (r := .inl ()) (fun k => (k : Int)) l.length (fun i hi => by
    unfold dynposlaw35_AlarmKeeps_L2
    obtain ⟨r, hr, hr2⟩ := wpFind (l := l2) (by omega) (gt l i).Number
    simp only [lt_len hi, if_true, idx_gt hi, Option.bind_some, hr]
    rcases hr2 with ⟨rfl, hno⟩ | ⟨k, rfl, hk, hke⟩
    · simp only [dT (c := (-1 : Int) < 0) (by omega), if_true]
      have hsn : mget (fun x14 : Int × Bool => x14.1 == (gt l i).Number) (fun x15 => x15.2) false m2 = true := by
        rcases t2 _ (gt_mem hi) with ⟨b, hb, g⟩ | g
        · obtain ⟨j, hj, rfl⟩ := mem_gt hb
          exact (hno j hj g).elim
        · exact g
      simp only [hsn, Bool.not_true, Option.bind_some, Bool.false_eq_true, if_false]
      rw [W_succ (by omega)]
    · simp only [dF (c := (k : Int) < 0) (by omega), Bool.false_eq_true, if_false, Option.bind_some]
      rw [W_succ (by omega)]) (by
    unfold dynposlaw35_AlarmKeeps_L2
    simp only [nlt_len, Bool.false_eq_true, if_false])
  simp only [show ((0 : Nat) : Int) = 0 from rfl] at eL2
  simp only [eL2, Option.bind_some, Sum.elim_inl]
  have hL3 : Wp (loopO (dynposlaw35_AlarmKeeps_L3 ((time : Int), l, sl, sa, m) (l2, m2)) (0, m2)) fun m3 => ∀ b ∈ l2, b.State = 2 → mgB m3 b.Number = true := by
    refine wp_upto l2.length (fun i s => s.1 = (i : Int) ∧ (∀ j, j < i → (gt l2 j).State = 2 → mgB s.2 (gt l2 j).Number = true) ∧ ∀ j, i ≤ j → j < l2.length → (∃ a ∈ l, a.Number = (gt l2 j).Number) → mgB s.2 (gt l2 j).Number = mgB m2 (gt l2 j).Number) ⟨rfl, fun j hj => by omega, fun j _ _ _ => rfl⟩ (fun i s hi hv' => ?_) (fun s hv' => ?_) (by omega)
    · obtain ⟨z, mm⟩ := s
      simp only at hv'
      obtain ⟨rfl, k1, k2⟩ := hv'
      unfold dynposlaw35_AlarmKeeps_L3
      obtain ⟨r, hr, hr2⟩ := wpFind (l := l) (by omega) (gt l2 i).Number
      simp only [lt_len hi, if_true, idx_gt hi, Option.bind_some, hr]
      rcases hr2 with ⟨rfl, hno⟩ | ⟨k, rfl, hk, hke⟩
      · simp only [dT (c := (-1 : Int) < 0) (by omega), if_true, Option.bind_some]
        rw [W_succ (by omega)]
        refine wp_some.2 ⟨rfl, fun j hj h2 => ?_, fun j hj hjl hex => ?_⟩
        · simp only
          rw [mgB_put]
          by_cases hji : j = i
          · subst hji
            rw [if_pos rfl]
            exact beqT h2
          · rw [if_neg (fun hh => hji (v2.inj (by omega) hi hh))]
            exact k1 j (by omega) h2
        · simp only
          rw [mgB_put, if_neg]
          · exact k2 j (by omega) hjl hex
          · intro hh
            have := v2.inj hjl hi hh
            omega
      · simp only [dF (c := (k : Int) < 0) (by omega), Bool.false_eq_true, if_false, Option.bind_some]
        rw [W_succ (by omega)]
        refine wp_some.2 ⟨rfl, fun j hj h2 => ?_, fun j hj hjl hex => k2 j (by omega) hjl hex⟩
        by_cases hji : j = i
        · subst hji
          have hex : ∃ a ∈ l, a.Number = (gt l2 j).Number := ⟨_, gt_mem hk, hke⟩
          simp only
          rw [k2 j (Nat.le_refl _) hi hex]
          exact s2 _ (gt_mem hi) h2 hex
        · exact k1 j (by omega) h2
    · obtain ⟨z, mm⟩ := s
      simp only at hv'
      obtain ⟨rfl, k1, k2⟩ := hv'
      unfold dynposlaw35_AlarmKeeps_L3
      simp only [nlt_len, Bool.false_eq_true, if_false]
      refine wp_some.2 fun b hb h2 => ?_
      obtain ⟨j, hj, rfl⟩ := mem_gt hb
      exact k1 j hj h2
  refine hL3.bind fun m3 hm3 => ?_
  rw [W_succ (by omega)]
  exact wp_some.2 ⟨rfl, v2.later (by omega), hs7, hm3⟩

theorem law_AlarmKeeps (t : List Int) : dynposlaw35_AlarmKeeps t = some true := by
  refine Wp.true' ?_
  unfold dynposlaw35_AlarmKeeps
  simp only [sane_T, Option.bind_some]
  refine Wp.ite (fun _ => wp_some.2 rfl) fun _ => ?_
  refine (wpNew t).bind fun s hs => ?_
  have hloop : Wp (loopO dynposlaw35_AlarmKeeps_L1 (0, [], s.1, s.2, [])) fun r => ∃ y, r = .inl y := by
    refine wp_upto 16 (fun i s => s.1 = (i : Int) ∧ Va 5 i s.2.1 ∧ Sr s.2.2.1 s.2.2.2.1 ∧ ∀ a ∈ s.2.1, a.State = 2 → mgB s.2.2.2.2 a.Number = true) ⟨rfl, Va.nil _ _, hs, fun a ha => by cases ha⟩ (fun i s hi hv => ?_) (fun s hv => ?_) (by omega)
    · obtain ⟨z, l, sl, sa, m⟩ := s
      simp only at hv
      obtain ⟨rfl, h1, h2, h3⟩ := hv
      exact (round_ok hi h1 h2 h3).mono fun x hx => by cases x <;> exact hx
    · obtain ⟨z, l, sl, sa, m⟩ := s
      simp only at hv
      obtain ⟨rfl, h1, h2, h3⟩ := hv
      unfold dynposlaw35_AlarmKeeps_L1
      simp only [dF (c := ((16 : Nat) : Int) < 16) (by omega), Bool.false_eq_true, if_false]
      exact wp_some.2 ⟨_, rfl⟩
  refine hloop.bind fun r hr => ?_
  obtain ⟨y, rfl⟩ := hr
  exact wp_some.2 rfl
end Rx
end Go.Proofs.Ytdfokgnmemlmgaa
