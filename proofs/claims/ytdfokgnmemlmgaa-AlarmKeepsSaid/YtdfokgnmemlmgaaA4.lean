/- Lists of alarms: causes, what Raise and Clear of the inner list do, what Update leaves. Plain laws. -/
import Derived.Test.YtdfokgnmemlmgaaA3
set_option linter.unusedVariables false
set_option linter.unusedSimpArgs false
namespace Go.Proofs.Ytdfokgnmemlmgaa
open Go Go.RowKit Dp
namespace Rx

/-- possible causes -/
def Cs (cs : List Alarm) : Prop := cs.length ≤ 6 ∧ ∀ c ∈ cs, 0 ≤ c.Number ∧ c.Number ≤ 5 ∧ 1 ≤ c.Urgency ∧ c.Urgency ≤ 9
theorem wpSome6 {sl : List Int} {sa : Int} (hs : Sr sl sa) : Wp (Src_Some ⟨sl, sa⟩ 6 2) fun r => Sr r.1 r.2.1 ∧ r.2.2.length ≤ 6 ∧ ∀ x ∈ r.2.2, 0 ≤ x ∧ x ≤ 5 := by
  unfold Src_Some
  have hloop : Wp (loopO (Src_Some_L1 6 2) (0, [], sl, sa)) fun r => Sr r.2.1 r.2.2 ∧ r.1.length ≤ 6 ∧ ∀ x ∈ r.1, 0 ≤ x ∧ x ≤ 5 := by
    refine wp_upto 6 (fun i s => s.1 = (i : Int) ∧ Sr s.2.2.1 s.2.2.2 ∧ s.2.1.length ≤ i ∧ ∀ x ∈ s.2.1, 0 ≤ x ∧ x ≤ 5) ⟨rfl, hs, Nat.le_refl _, fun x hx => by simp at hx⟩ (fun i s hi hv => ?_) (fun s hv => ?_) (by omega)
    · obtain ⟨z, o, l, a⟩ := s
      simp only at hv
      obtain ⟨rfl, h1, h2, h3⟩ := hv
      unfold Src_Some_L1
      simp only [dT (c := (i : Int) < 6) (by omega), if_true]
      refine (wpN h1 (n := 2) (by omega) (by omega)).bind fun y hy => ?_
      obtain ⟨y, l', a'⟩ := y
      simp only at hy ⊢
      by_cases hc : (y == W (2 - 1)) = true
      · rw [if_pos hc, app_sm (by simp; omega)]
        simp only [Option.bind_some]
        rw [W_succ (by omega)]
        refine wp_some.2 ⟨rfl, hy.2, by simp; omega, fun x hx => ?_⟩
        rcases List.mem_append.1 hx with hx | hx
        · exact h3 x hx
        · have : x = (i : Int) := by simpa using hx
          omega
      · rw [if_neg hc]
        simp only [Option.bind_some]
        rw [W_succ (by omega)]
        exact wp_some.2 ⟨rfl, hy.2, by simp only; omega, h3⟩
    · obtain ⟨z, o, l, a⟩ := s
      simp only at hv
      obtain ⟨rfl, h1, h2, h3⟩ := hv
      unfold Src_Some_L1
      simp only [dF (c := ((6 : Nat) : Int) < 6) (by omega), Bool.false_eq_true, if_false]
      exact wp_some.2 ⟨h1, h2, h3⟩
  exact hloop.bind fun r hr => wp_some.2 ⟨hr.1, hr.2.1, hr.2.2⟩
theorem wpCauses {sl : List Int} {sa : Int} (hs : Sr sl sa) : Wp (dynposlaw35_causes ⟨sl, sa⟩) fun r => Cs r.2.2 ∧ Sr r.1 r.2.1 := by
  unfold dynposlaw35_causes
  refine (wpSome6 hs).bind fun x hx => ?_
  obtain ⟨l', a', xs⟩ := x
  obtain ⟨h1, h2, h3⟩ := hx
  simp only at h1 h2 h3
  have hloop : Wp (loopO (dynposlaw35_causes_L1 (l', a', xs)) (0, [])) fun r => Cs r := by
    refine wp_upto xs.length (fun i s => s.1 = (i : Int) ∧ s.2.length = i ∧ ∀ c ∈ s.2, 0 ≤ c.Number ∧ c.Number ≤ 5 ∧ 1 ≤ c.Urgency ∧ c.Urgency ≤ 9) ⟨rfl, rfl, fun x hx => by simp at hx⟩ (fun i s hi hv => ?_) (fun s hv => ?_) (by omega)
    · obtain ⟨z, o⟩ := s
      simp only at hv
      obtain ⟨rfl, k1, k2⟩ := hv
      have hx := h3 _ (gt_mem hi)
      unfold dynposlaw35_causes_L1
      simp only [lt_len hi, if_true, idx_gt hi, Option.bind_some]
      rw [remO_nn hx.1 (by omega)]
      simp only [Option.bind_some]
      rw [app_sm (by simp; omega)]
      simp only [Option.bind_some]
      rw [W_succ (by omega), W_sm (x := 1 + gt xs i % 3) (by omega) (by omega)]
      refine wp_some.2 ⟨rfl, by simp; omega, fun c hc => ?_⟩
      rcases List.mem_append.1 hc with hc | hc
      · exact k2 c hc
      · have : c = Alarm.mk (gt xs i) (1 + gt xs i % 3) 0 0 := by simpa using hc
        subst this
        simp only
        omega
    · obtain ⟨z, o⟩ := s
      simp only at hv
      obtain ⟨rfl, k1, k2⟩ := hv
      unfold dynposlaw35_causes_L1
      simp only [nlt_len, Bool.false_eq_true, if_false]
      exact wp_some.2 ⟨by omega, k2⟩
  exact hloop.bind fun r hr => wp_some.2 ⟨hr, h1⟩

theorem contains_eq {cs : List Alarm} (hc : cs.length ≤ 1000000) (a : Alarm) : slices_ContainsFunc_Alarm_Alarm cs a = some (dB (∃ c ∈ cs, c.Number = a.Number)) := by
  unfold slices_ContainsFunc_Alarm_Alarm slices_IndexFunc_Alarm_Alarm
  have h := wp_upto (step := slices_IndexFunc_Alarm_Alarm_L1 cs a) (s := (0 : Int)) cs.length (fun k s => s = (k : Int) ∧ ∀ j, j < k → (gt cs j).Number ≠ a.Number) (Q := fun r => (r = .inl () ∧ ∀ j, j < cs.length → (gt cs j).Number ≠ a.Number) ∨ ∃ k : Nat, k < cs.length ∧ r = .inr (k : Int) ∧ (gt cs k).Number = a.Number) ⟨rfl, fun j hj => by omega⟩ (fun k s hk hi => by
    obtain ⟨rfl, hi⟩ := hi
    unfold slices_IndexFunc_Alarm_Alarm_L1 alarm_Update_1
    simp only [lt_len hk, if_true, idx_gt hk, Option.bind_some]
    by_cases he : (gt cs k).Number = a.Number
    · simp only [beqT he, if_true]
      exact wp_some.2 (.inr ⟨k, hk, rfl, he⟩)
    · simp only [beqF he, Bool.false_eq_true, if_false]
      rw [W_succ (by omega)]
      exact wp_some.2 ⟨rfl, fun j hj => by
        by_cases hjk : j = k
        · rw [hjk]; exact he
        · exact hi j (by omega)⟩) (fun s hi => by
    obtain ⟨rfl, hi⟩ := hi
    unfold slices_IndexFunc_Alarm_Alarm_L1
    simp only [nlt_len, Bool.false_eq_true, if_false]
    exact wp_some.2 (.inl ⟨rfl, hi⟩)) (by omega)
  obtain ⟨r, h1, h2⟩ := h
  rw [h1]
  rcases h2 with ⟨rfl, h2⟩ | ⟨k, hk, rfl, h3⟩
  · rw [dB_F (fun ⟨c, hc, he⟩ => by
      obtain ⟨j, hj, rfl⟩ := mem_gt hc
      exact h2 j hj he)]
    rfl
  · rw [dB_T ⟨_, gt_mem hk, h3⟩]
    simp only [Option.bind_some, Sum.elim_inr, dT (c := (k : Int) ≥ 0) (by omega)]

/-- what is raised -/
theorem lraise2 {t n u : Int} {l : List Alarm} (h : Va 5 t l) (ht : 0 ≤ t) (n0 : 0 ≤ n) (n1 : n ≤ 5) (u0 : 1 ≤ u) (u1 : u ≤ 9) : ∃ l', list_raise ⟨l, t⟩ n u = some (0, t, l') ∧ Va 5 t l' ∧
    (∃ a ∈ l', a.Number = n ∧ a.State ≠ 3) ∧ (∀ a ∈ l, a.Number ≠ n → a ∈ l') ∧ ((∃ a ∈ l, a.Number = n ∧ a.State ≠ 3) → l' = l) ∧ ∀ a ∈ l', a ∈ l ∨ a.State = 1 := by
  have hlen := h.few (by omega)
  have hx : Ar 5 t (Alarm.mk n u 1 t) := ⟨n0, n1, u0, u1, by simp, by simp, ht, Int.le_refl _⟩
  obtain ⟨r, hr, hrt, hc⟩ := lraise (x := t) h n0 (by omega) u0 u1
  obtain ⟨e, x', l'⟩ := r
  simp only at hrt hc
  subst hrt
  rcases hc with ⟨k, a1, a2, rfl, rfl⟩ | ⟨_, a2, _⟩ | ⟨k, a1, a2, a3, a4, rfl, rfl⟩
  · refine ⟨_, hr, ?_⟩
    by_cases hs : (gt l k).State = 3
    · rw [if_pos hs]
      refine ⟨h.set a1 hx a2.symm, ⟨Alarm.mk n u 1 x', ?_, rfl, by simp⟩, fun a ha hne => ?_, fun ⟨a, ha, hn, h3⟩ => ?_, fun a ha => ?_⟩
      · have : gt (l.set k (Alarm.mk n u 1 x')) k = Alarm.mk n u 1 x' := by rw [gt_set a1, if_pos rfl]
        have hm := gt_mem (l := l.set k (Alarm.mk n u 1 x')) (k := k) (by simpa using a1)
        rw [this] at hm
        exact hm
      · obtain ⟨j, hj, rfl⟩ := mem_gt ha
        have hjk : j ≠ k := fun he => hne (he ▸ a2)
        have : gt (l.set k (Alarm.mk n u 1 x')) j = gt l j := by rw [gt_set a1, if_neg hjk]
        rw [← this]
        exact gt_mem (by simpa using hj)
      · obtain ⟨j, hj, rfl⟩ := mem_gt ha
        have := h.inj hj a1 (hn.trans a2.symm)
        subst this
        exact (h3 hs).elim
      · obtain ⟨j, hj, rfl⟩ := mem_gt ha
        rw [gt_set a1]
        by_cases hjk : j = k
        · rw [if_pos hjk]; exact .inr rfl
        · rw [if_neg hjk]; exact .inl (gt_mem (by simpa using hj))
    · rw [if_neg hs]
      exact ⟨h, ⟨_, gt_mem a1, a2, hs⟩, fun a ha _ => ha, fun _ => rfl, fun a ha => .inl ha⟩
  · omega
  · refine ⟨_, hr, h.ins a1 hx a2 a3 a4, ⟨Alarm.mk n u 1 x', by simp, rfl, by simp⟩, fun a ha _ => ?_, fun ⟨a, ha, hn, _⟩ => ?_, fun a ha => ?_⟩
    · have : a ∈ l.take k ++ l.drop k := by rw [List.take_append_drop]; exact ha
      rcases List.mem_append.1 this with h1 | h1
      · exact List.mem_append_left _ (List.mem_append_left _ h1)
      · exact List.mem_append_right _ h1
    · obtain ⟨j, hj, rfl⟩ := mem_gt ha
      rcases Nat.lt_or_ge j k with hjk | hjk
      · have := a3 j hjk; omega
      · have := a4 j hjk hj; omega
    · rcases List.mem_append.1 ha with ha | ha
      · rcases List.mem_append.1 ha with ha | ha
        · exact .inl (List.mem_of_mem_take ha)
        · have : a = Alarm.mk n u 1 x' := by simpa using ha
          subst this
          exact .inr rfl
      · exact .inl (List.mem_of_mem_drop ha)
/-- what is cleared -/
theorem lclear2 {m t x n : Int} {l : List Alarm} (h : Va m t l) : ∃ l', list_clear ⟨l, x⟩ n = some (x, l') ∧ Va m t l' ∧
    (∀ a ∈ l', (a ∈ l ∧ a.Number ≠ n) ∨ (a.Number = n ∧ a.State = 3)) ∧ (∀ a ∈ l, a.Number ≠ n → a ∈ l') ∧ ((∀ a ∈ l, a.Number = n → a.State = 3) → l' = l) ∧ ∀ a ∈ l, a.Number = n → a.State = 2 ∨ ∃ b ∈ l', b.Number = n := by
  have hl := h.len
  obtain ⟨k, hk, h1, h2, hf⟩ := wpLFind h x n
  unfold list_clear
  simp only [hf, Option.bind_some]
  by_cases hb : k < l.length ∧ (gt l k).Number = n
  · obtain ⟨hkl, he⟩ := hb
    rw [dB_T ⟨hkl, he⟩]
    simp only [Bool.not_true, Bool.false_eq_true, if_false, idx_gt hkl, Option.bind_some]
    have hra := h.rng k hkl
    by_cases hs1 : (gt l k).State = 1
    · simp only [beqT hs1, if_true, setO_nat hkl, Option.bind_some]
      refine ⟨_, rfl, h.set hkl { hra with s0 := by simp, s1 := by simp } rfl, fun a ha => ?_, fun a ha hne => ?_, fun hall => ?_, fun a ha hn => .inr ⟨Alarm.mk (gt l k).Number (gt l k).Urgency 3 (gt l k).Since, ?_, he⟩⟩
      · obtain ⟨j, hj, rfl⟩ := mem_gt ha
        have hj : j < l.length := by simpa using hj
        rw [gt_set hkl]
        by_cases hjk : j = k
        · rw [if_pos hjk]; exact .inr ⟨he, rfl⟩
        · rw [if_neg hjk]; exact .inl ⟨gt_mem hj, fun hn => hjk (h.inj hj hkl (hn.trans he.symm))⟩
      · obtain ⟨j, hj, rfl⟩ := mem_gt ha
        have hjk : j ≠ k := fun hh => hne (hh ▸ he)
        have : gt (l.set k (Alarm.mk (gt l k).Number (gt l k).Urgency 3 (gt l k).Since)) j = gt l j := by rw [gt_set hkl, if_neg hjk]
        rw [← this]
        exact gt_mem (by simpa using hj)
      · have := hall _ (gt_mem hkl) he
        omega
      · have hm := gt_mem (l := l.set k (Alarm.mk (gt l k).Number (gt l k).Urgency 3 (gt l k).Since)) (k := k) (by simpa using hkl)
        rw [gt_set hkl, if_pos rfl] at hm
        exact hm
    · simp only [beqF hs1, Bool.false_eq_true, if_false]
      by_cases hs2 : (gt l k).State = 2
      · have hd : slices_Delete_Alarm_Alarm l (k : Int) (W ((k : Int) + 1)) = some (l.take k ++ l.drop (k + 1)) := by
          rw [W_succ (by omega)]
          unfold slices_Delete_Alarm_Alarm delO
          have e1 : decide ((0 : Int) ≤ (k : Int)) = true := dT (by omega)
          have e2 : decide ((k : Int) ≤ ((k + 1 : Nat) : Int)) = true := dT (by omega)
          have e3 : decide (((k + 1 : Nat) : Int) ≤ len l) = true := dT (by unfold len; omega)
          rw [e1, e2, e3]
          rfl
        simp only [beqT hs2, if_true, hd, Option.bind_some]
        have hmem : ∀ a, a ∈ l.take k ++ l.drop (k + 1) ↔ ∃ j, j < l.length ∧ j ≠ k ∧ gt l j = a := fun a => by
          have hll : (l.take k ++ l.drop (k + 1)).length = l.length - 1 := by simp; omega
          constructor
          · intro ha
            obtain ⟨j, hj, rfl⟩ := mem_gt ha
            rw [hll] at hj
            rw [gt_del hkl hj]
            exact ⟨_, by split <;> omega, by split <;> omega, rfl⟩
          · rintro ⟨j, hj, hjk, rfl⟩
            rcases Nat.lt_or_ge j k with hlt | hge
            · have := gt_del (i := j) hkl (by omega)
              rw [if_pos hlt] at this
              rw [← this]
              exact gt_mem (by omega)
            · have := gt_del (i := j - 1) hkl (by omega)
              rw [if_neg (by omega), show j - 1 + 1 = j by omega] at this
              rw [← this]
              exact gt_mem (by omega)
        refine ⟨_, rfl, h.del hkl, fun a ha => ?_, fun a ha hne => ?_, fun hall => ?_, fun a ha hn => ?_⟩
        · obtain ⟨j, hj, hjk, rfl⟩ := (hmem a).1 ha
          exact .inl ⟨gt_mem hj, fun hn => hjk (h.inj hj hkl (hn.trans he.symm))⟩
        · obtain ⟨j, hj, rfl⟩ := mem_gt ha
          exact (hmem _).2 ⟨j, hj, fun hh => hne (hh ▸ he), rfl⟩
        · have := hall _ (gt_mem hkl) he
          omega
        · obtain ⟨j, hj, rfl⟩ := mem_gt ha
          have := h.inj hj hkl (hn.trans he.symm)
          subst this
          exact .inl hs2
      · simp only [beqF hs2, Bool.false_eq_true, if_false, Option.bind_some]
        have hs3 : (gt l k).State = 3 := by have := hra.s0; have := hra.s1; omega
        refine ⟨l, rfl, h, fun a ha => ?_, fun a ha _ => ha, fun _ => rfl, fun a ha hn => .inr ⟨a, ha, hn⟩⟩
        obtain ⟨j, hj, rfl⟩ := mem_gt ha
        by_cases hn : (gt l j).Number = n
        · have := h.inj hj hkl (hn.trans he.symm)
          subst this
          exact .inr ⟨hn, hs3⟩
        · exact .inl ⟨ha, hn⟩
  · rw [dB_F hb]
    simp only [Bool.not_false, if_true, Option.bind_some]
    refine ⟨l, rfl, h, fun a ha => .inl ⟨ha, fun hn => ?_⟩, fun a ha _ => ha, fun _ => rfl, fun a ha hn => .inr ⟨a, ha, hn⟩⟩
    obtain ⟨j, hj, rfl⟩ := mem_gt ha
    rcases Nat.lt_trichotomy j k with hjk | hjk | hjk
    · have := h1 j hjk; omega
    · exact hb ⟨hjk ▸ hj, hjk ▸ hn⟩
    · have := h2 k (Nat.le_refl _) (by omega)
      have := h.srt k j hjk hj
      omega

/-- alarms leave only if they were seen, and none is seen newly -/
structure Kp (l l' : List Alarm) : Prop where
  there : ∀ a ∈ l, a.State = 2 ∨ ∃ b ∈ l', b.Number = a.Number
  seen : ∀ b ∈ l', b.State = 2 → ∃ a ∈ l, a.Number = b.Number ∧ a.State = 2
theorem Kp.refl (l : List Alarm) : Kp l l := ⟨fun a ha => .inr ⟨a, ha, rfl⟩, fun b hb h => ⟨b, hb, rfl, h⟩⟩
theorem Kp.trans {t : Int} {l l1 l2 : List Alarm} (h : Kp l l1) (k : Kp l1 l2) (hv : Va 5 t l) : Kp l l2 := by
  refine ⟨fun a ha => ?_, fun c hc h2 => ?_⟩
  · rcases h.there a ha with h1 | ⟨b, hb, hn⟩
    · exact .inl h1
    · rcases k.there b hb with h2 | ⟨c, hc, hn2⟩
      · obtain ⟨a', ha', h3, h4⟩ := h.seen b hb h2
        obtain ⟨i, hi, rfl⟩ := mem_gt ha
        obtain ⟨j, hj, rfl⟩ := mem_gt ha'
        have := hv.inj hj hi (h3.trans hn)
        subst this
        exact .inl h4
      · exact .inr ⟨c, hc, hn2.trans hn⟩
  · obtain ⟨b, hb, h3, h4⟩ := k.seen c hc h2
    obtain ⟨a, ha, h5, h6⟩ := h.seen b hb h4
    exact ⟨a, ha, h5.trans h3, h6⟩
/-- what Update leaves -/
structure Up (t : Int) (cs l : List Alarm) : Prop where
  va : Va 5 t l
  there : ∀ c ∈ cs, ∃ a ∈ l, a.Number = c.Number ∧ a.State ≠ 3
  gone : ∀ a ∈ l, (∃ c ∈ cs, c.Number = a.Number) ∨ a.State = 3
theorem upd {t : Int} {cs l : List Alarm} (h : Va 5 t l) (hc : Cs cs) (h0 : 0 ≤ t) (h1 : t ≤ 2147483648) : ∃ l', alarm_Update l cs t = some (0, l') ∧ Up t cs l' ∧ (Up t cs l → l' = l) ∧ Kp l l' := by
  have hcl := hc.1
  unfold alarm_Update
  simp only [open_ok h (Int.le_refl _) (by omega) h0 h1, Option.bind_some, bne_self_eq_false, Bool.false_eq_true, if_false]
  have hloop : Wp (loopO (alarm_Update_L1 cs) (0, t, l)) fun r => ∃ l1, r = .inl (t, l1) ∧ Va 5 t l1 ∧ (∀ c ∈ cs, ∃ a ∈ l1, a.Number = c.Number ∧ a.State ≠ 3) ∧ (Up t cs l → l1 = l) ∧ Kp l l1 := by
    refine wp_upto cs.length (fun i s => s.1 = (i : Int) ∧ s.2.1 = t ∧ Va 5 t s.2.2 ∧ (∀ j, j < i → ∃ a ∈ s.2.2, a.Number = (gt cs j).Number ∧ a.State ≠ 3) ∧ (Up t cs l → s.2.2 = l) ∧ Kp l s.2.2) ⟨rfl, rfl, h, fun j hj => by omega, fun _ => rfl, .refl l⟩ (fun i s hi hv => ?_) (fun s hv => ?_) (by omega)
    · obtain ⟨z, tt, d⟩ := s
      simp only at hv
      obtain ⟨rfl, rfl, k1, k2, k3, kK⟩ := hv
      have hci := hc.2 _ (gt_mem hi)
      obtain ⟨d', e1, e2, e3, e4, e5, e6⟩ := lraise2 (n := (gt cs i).Number) (u := (gt cs i).Urgency) k1 h0 hci.1 hci.2.1 hci.2.2.1 hci.2.2.2
      unfold alarm_Update_L1
      simp only [lt_len hi, if_true, idx_gt hi, Option.bind_some, e1, bne_self_eq_false, Bool.false_eq_true, if_false]
      rw [W_succ (by omega)]
      refine wp_some.2 ⟨rfl, rfl, e2, fun j hj => ?_, fun hu => ?_, kK.trans ⟨fun a ha => ?_, fun b hb h2 => ?_⟩ h⟩
      · by_cases hjn : (gt cs j).Number = (gt cs i).Number
        · rw [hjn]; exact e3
        · have hji : j ≠ i := fun hh => hjn (by rw [hh])
          obtain ⟨a, ha, ha1, ha2⟩ := k2 j (by omega)
          exact ⟨a, e4 a ha (by rw [ha1]; exact hjn), ha1, ha2⟩
      · have hd := k3 hu
        subst hd
        exact e5 (hu.there _ (gt_mem hi))
      · by_cases hn : a.Number = (gt cs i).Number
        · obtain ⟨b, hb, hb1, _⟩ := e3
          exact .inr ⟨b, hb, hb1.trans hn.symm⟩
        · exact .inr ⟨a, e4 a ha hn, rfl⟩
      · rcases e6 b hb with g | g
        · exact ⟨b, g, rfl, h2⟩
        · omega
    · obtain ⟨z, tt, d⟩ := s
      simp only at hv
      obtain ⟨rfl, rfl, k1, k2, k3, kK⟩ := hv
      unfold alarm_Update_L1
      simp only [nlt_len, Bool.false_eq_true, if_false]
      exact wp_some.2 ⟨d, rfl, k1, fun c hcm => by
        obtain ⟨j, hj, rfl⟩ := mem_gt hcm
        exact k2 j hj, k3, kK⟩
  obtain ⟨r, hr, l1, rfl, v1, v2, v3, v4⟩ := hloop
  have hll := v1.len
  rw [hr]
  simp only [Option.bind_some, Sum.elim_inl]
  unfold slices_Clone_Alarm_Alarm
  rw [show app ([] : List Alarm) l1 = some l1 from app_sm (by simp; omega)]
  simp only [Option.bind_some]
  have hloop2 : Wp (loopO (alarm_Update_L2 cs l1) (0, t, l1)) fun r => Up t cs r.2 ∧ (Up t cs l → r.2 = l) ∧ Kp l r.2 := by
    refine wp_upto l1.length (fun i s => s.1 = (i : Int) ∧ Va 5 t s.2.2 ∧ (∀ c ∈ cs, ∃ a ∈ s.2.2, a.Number = c.Number ∧ a.State ≠ 3) ∧ (∀ a ∈ s.2.2, (∃ c ∈ cs, c.Number = a.Number) ∨ a.State = 3 ∨ ∃ j, i ≤ j ∧ j < l1.length ∧ (gt l1 j).Number = a.Number) ∧ (Up t cs l → s.2.2 = l) ∧ Kp l s.2.2) ⟨rfl, v1, v2, fun a ha => ?_, v3, v4⟩ (fun i s hi hv => ?_) (fun s hv => ?_) (by omega)
    · obtain ⟨j, hj, rfl⟩ := mem_gt ha
      exact .inr (.inr ⟨j, Nat.zero_le _, hj, rfl⟩)
    · obtain ⟨z, tt, d⟩ := s
      simp only at hv
      obtain ⟨rfl, k1, k2, k3, k4, kK⟩ := hv
      unfold alarm_Update_L2
      simp only [lt_len hi, if_true, idx_gt hi, Option.bind_some, contains_eq (show cs.length ≤ 1000000 by omega)]
      by_cases hin : ∃ c ∈ cs, c.Number = (gt l1 i).Number
      · rw [dB_T hin]
        simp only [Bool.not_true, Bool.false_eq_true, if_false, Option.bind_some]
        rw [W_succ (by omega)]
        refine wp_some.2 ⟨rfl, k1, k2, fun a ha => ?_, k4, kK⟩
        rcases k3 a ha with g | g | ⟨j, j1, j2, j3⟩
        · exact .inl g
        · exact .inr (.inl g)
        · by_cases hji : j = i
          · subst hji
            obtain ⟨c, hc1, hc2⟩ := hin
            exact .inl ⟨c, hc1, hc2.trans j3⟩
          · exact .inr (.inr ⟨j, by omega, j2, j3⟩)
      · rw [dB_F hin]
        obtain ⟨d', e1, e2, e3, e4, e5, e6⟩ := lclear2 (x := tt) (n := (gt l1 i).Number) k1
        simp only [Bool.not_false, if_true, e1, Option.bind_some]
        rw [W_succ (by omega)]
        refine wp_some.2 ⟨rfl, e2, fun c hcm => ?_, fun a ha => ?_, fun hu => ?_, kK.trans ⟨fun a ha => ?_, fun b hb h2 => ?_⟩ h⟩
        · obtain ⟨a, ha, ha1, ha2⟩ := k2 c hcm
          exact ⟨a, e4 a ha (fun hh => hin ⟨c, hcm, ha1.symm.trans hh⟩), ha1, ha2⟩
        · rcases e3 a ha with ⟨g1, g2⟩ | ⟨_, g2⟩
          · rcases k3 a g1 with g | g | ⟨j, j1, j2, j3⟩
            · exact .inl g
            · exact .inr (.inl g)
            · by_cases hji : j = i
              · subst hji; exact (g2 j3.symm).elim
              · exact .inr (.inr ⟨j, by omega, j2, j3⟩)
          · exact .inr (.inl g2)
        · have hd := k4 hu
          subst hd
          refine e5 fun a ha hn => ?_
          rcases hu.gone a ha with ⟨c, hc1, hc2⟩ | g
          · exact (hin ⟨c, hc1, hc2.trans hn⟩).elim
          · exact g
        · by_cases hn : a.Number = (gt l1 i).Number
          · rcases e6 a ha hn with g | ⟨b, hb, hb1⟩
            · exact .inl g
            · exact .inr ⟨b, hb, hb1.trans hn.symm⟩
          · exact .inr ⟨a, e4 a ha hn, rfl⟩
        · rcases e3 b hb with ⟨g, _⟩ | ⟨_, g⟩
          · exact ⟨b, g, rfl, h2⟩
          · omega
    · obtain ⟨z, tt, d⟩ := s
      simp only at hv
      obtain ⟨rfl, k1, k2, k3, k4, kK⟩ := hv
      unfold alarm_Update_L2
      simp only [nlt_len, Bool.false_eq_true, if_false]
      refine wp_some.2 ⟨⟨k1, k2, fun a ha => ?_⟩, k4, kK⟩
      rcases k3 a ha with g | g | ⟨j, j1, j2, _⟩
      · exact .inl g
      · exact .inr g
      · omega
  obtain ⟨r, hr2, hu, hid, hk⟩ := hloop2
  rw [hr2]
  exact ⟨r.2, rfl, hu, hid, hk⟩

end Rx
end Go.Proofs.Ytdfokgnmemlmgaa
