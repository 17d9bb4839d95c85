/- Protecting: clear, then shed; what was protected is left as it is. The program's check. -/
import Derived.Test.YtfnphdhcgkondaaGreatH9
set_option linter.unusedVariables false
set_option linter.unusedSimpArgs false
namespace Go.Proofs.YtfnphdhcgkondaaGreat
open Go Go.RowKit Dp
namespace Rx
section
variable {b : Board} {p q : Power} {L T : List Int} {x : Island}
/-! clean states -/
/-- there is nothing to clear -/
structure Clean (b : Board) (p : Power) : Prop where
  dng : ∀ i, i < b.Breakers.length → gt p.Closed i = true → dng p (gt b.Breakers i) = false
  dead : ∀ i, i < b.Breakers.length → gt p.Closed i = true → dead b p (gt b.Breakers i) = false
  fol : folL b p = p.Sources
theorem clean_clrP (h : stt b p = 0) : Clean b (clrP b p) := by
  obtain ⟨s1, s2, _⟩ := brk_lens h
  refine ⟨fun i hi hc => ?_, fun i hi hc => ?_, fol_fol (stt_clr2 h)⟩
  · rw [clrP_at h hi] at hc
    rw [dng_same (q := clrP b p) (p := p) rfl (fun j hj => (same_clrP h).st j hj) (src_at h hi)]
    cases hdd : Rx.dng p (gt b.Breakers i) with
    | false => rfl
    | true => rw [hdd] at hc; simp at hc
  · rw [clrP_at h hi] at hc
    unfold Rx.dead at hc ⊢
    rw [(same_clrP h).liv (stt_clr1 h) (stt_clrP h)]
    cases hdd : ((gt b.Breakers i).Kind == 3 && !liv b (clr1 b p) (gt b.Breakers i).A) with
    | false => rfl
    | true => rw [hdd] at hc; simp at hc
theorem clean_clr (h : stt b p = 0) (hC : Clean b p) : clrP b p = p ∧ clrA b p = [] := by
  obtain ⟨s1, _⟩ := brk_lens h
  have e1 : clr1 b p = p := by
    unfold clr1
    rw [opn_id fun i hi hc => hC.dng i (by omega) hc]
  have e2 : clr2 b p = p := by
    unfold clr2
    rw [e1, opn_id fun i hi hc => hC.dead i (by omega) hc]
  refine ⟨?_, ?_⟩
  · show folP b (clr2 b p) = p
    rw [e2]
    unfold folP
    rw [hC.fol]
  · unfold clrA
    rw [fnd_nil (fun i hi hc => hC.dng i (by omega) hc), e1, fnd_nil fun i hi hc => hC.dead i (by omega) hc]
    rfl
theorem fol_sameT (hS : SameT b p q) (hs : q.Sources = p.Sources) : folL b q = folL b p := by
  unfold folL
  rw [hs]
  refine List.map_congr_left fun j _ => ?_
  unfold Rx.fol ldr isleOf
  rw [hS.conn, hS.grp, (hS.srcs _).1, hs]
theorem clean_stq (h : stt b p = 0) (hC : Clean b p) (hL : LimOk p L) (T : List Int) : Clean b (stq b p L T) := by
  have hS := same_q h L T
  refine ⟨fun i hi hc => ?_, fun i hi hc => ?_, ?_⟩
  · rw [dng_same (q := stq b p L T) (p := p) rfl (fun _ _ => rfl) (src_at h hi)]
    exact hC.dng i hi (opn_le hc)
  · have := hC.dead i hi (opn_le hc)
    unfold Rx.dead at this ⊢
    rw [hS.liv h (stt_q h hL T)]
    exact this
  · rw [fol_sameT hS rfl]
    exact hC.fol
/-- in a clean state islands without sources have no consumers -/
theorem clean_con (h : stt b p = 0) (hC : Clean b p) (hx : x ∈ isl b p) (hs : x.Sources = []) : x.Consumers = [] := by
  cases hcs : x.Consumers with
  | nil => rfl
  | cons c cs =>
    have hc : c ∈ x.Consumers := by rw [hcs]; simp
    obtain ⟨f, hf, e, _⟩ := mem_isl.1 hx
    rw [e] at hc
    obtain ⟨j, hj, hld, hgr, rfl⟩ := mem_con.1 hc
    have hbd := led_bd (stt_zero.1 h).1.2.1 hld
    obtain ⟨k, hk, hat, hA⟩ : ∃ k, k < b.Breakers.length ∧ ledAt b p 3 (j : Int) k = true ∧ (led b p 3 (j : Int)).1 = (gt b.Breakers k).A := by
      unfold led at hld ⊢
      cases hfi : (List.range b.Breakers.length).find? (ledAt b p 3 (j : Int)) with
      | none => rw [hfi] at hld; simp at hld
      | some k => exact ⟨k, List.mem_range.1 (List.mem_of_find?_eq_some hfi), List.find?_some hfi, rfl⟩
    unfold ledAt at hat
    simp only [Bool.and_eq_true, beq_iff_eq] at hat
    have hd := hC.dead k hk hat.2
    unfold Rx.dead at hd
    rw [beqT hat.1.1] at hd
    have hl : liv b p (gt b.Breakers k).A = true := by simpa using hd
    unfold liv ofB at hl
    rw [hA] at hbd hgr
    rw [if_pos ⟨h, hbd.1, hbd.2⟩] at hl
    unfold isleOf at hl
    rw [hgr, Int.toNat_natCast, ← e, hs] at hl
    simp at hl
/-! protecting -/
noncomputable def protP (b : Board) (p : Power) : Power := shdP b (clrP b p)
noncomputable def protA (b : Board) (p : Power) : List Act := clrA b p ++ (shAll b (clrP b p)).2.2
theorem clrA_len (h : stt b p = 0) : (clrA b p).length ≤ 48 := by
  obtain ⟨s1, _, s3, _⟩ := brk_lens h
  have h1 := fnd_len p.Closed fun i => Rx.dng p (gt b.Breakers i)
  have h2 := fnd_len (clr1 b p).Closed fun i => Rx.dead b (clr1 b p) (gt b.Breakers i)
  have h3 : (clr1 b p).Closed.length = p.Closed.length := opn_len _ _
  unfold clrA
  simp only [List.length_append, List.length_map]
  omega
theorem stt_prot (h : stt b p = 0) : stt b (protP b p) = 0 := stt_shd (stt_clrP h)
theorem sm_prot (hp : SmP p) (h : stt b p = 0) : SmP (protP b p) := sm_shd (sm_clrP hp) (stt_clrP h)
theorem protect_eq (hb : SmB b) (hp : SmP p) (h : stt b p = 0) : shed_Protect b p = some (0, (protP b p).Closed, (protP b p).Sources, (protP b p).Limits, (protP b p).Broken, protA b p) := by
  unfold shed_Protect shed_relieve_v2 shed_Protect_1_v1
  rw [state_eq hb hp, h]
  simp only [Option.bind_some, bne_self_eq_false, Bool.false_eq_true, if_false, clone_eq hp]
  rw [show (⟨b, ⟨p.Closed, p.Sources, p.Limits, p.Broken⟩, []⟩ : relief) = ⟨b, p, []⟩ from rfl, clear_run hb hp h]
  simp only [Option.bind_some]
  have e := shed_run hb (sm_clrP (b := b) hp) (stt_clrP h) (a := clrA b p) (by have := clrA_len h; omega)
  rw [show (⟨⟨b.Buses, b.Breakers, b.Sources, b.Consumers, b.Phase, b.Frequency⟩, ⟨(clrP b p).Closed, (clrP b p).Sources, (clrP b p).Limits, (clrP b p).Broken⟩, clrA b p⟩ : relief) = ⟨b, clrP b p, clrA b p⟩ from rfl, e]
  rfl
theorem isl_q (h : stt b p = 0) (L T : List Int) {y : Island} (hy : y ∈ isl b (stq b p L T)) : ∃ x, x ∈ isl b p ∧ y = ⟨x.Buses, x.Sources, left T x.Consumers⟩ := by
  obtain ⟨f, hf, e, hne⟩ := mem_isl.1 hy
  rw [isle_q h] at e hne
  exact ⟨isle b p f, mem_isl.2 ⟨f, hf, rfl, hne⟩, e⟩
theorem sum_fin (h : stt b p = 0) (hx : x ∈ isl b p) (hs : x.Sources ≠ []) : sumT x (shAll b p).2.1 (shAll b p).1 ≤ rateI b x := ((shAll_one h hx).2 hs).fin
theorem prot_again (h : stt b p = 0) : protP b (protP b p) = protP b p ∧ protA b (protP b p) = [] := by
  have h1 := stt_clrP h
  have hC : Clean b (protP b p) := clean_stq h1 (clean_clrP h) (shAll_ok h1) _
  obtain ⟨e1, e2⟩ := clean_clr (stt_prot h) hC
  have hq : shAll b (protP b p) = ((protP b p).Limits, [], []) := quiet (stt_prot h) fun y hy hs => by
    obtain ⟨x, hx, rfl⟩ := isl_q h1 _ _ hy
    have := sum_fin h1 hx hs
    have e : sumT ⟨x.Buses, x.Sources, left (shAll b (clrP b p)).2.1 x.Consumers⟩ [] (protP b p).Limits = sumT x (shAll b (clrP b p)).2.1 (shAll b (clrP b p)).1 := by
      unfold sumT
      rw [left_nil]
      rfl
    rw [e]
    exact this
  have e3 : shdP b (protP b p) = protP b p := by
    unfold shdP
    rw [hq]
    exact stq_nil _
  refine ⟨?_, ?_⟩
  · show shdP b (clrP b (protP b p)) = _
    rw [e1, e3]
  · show clrA b (protP b p) ++ (shAll b (clrP b (protP b p))).2.2 = []
    rw [e1, e2, hq]
    rfl
/-- nothing is overloaded behind shedding -/
theorem not_over (h : stt b p = 0) (k : Int) : loadI (shdP b p) (ofB b (shdP b p) k).1 ≤ rateI b (ofB b (shdP b p) k).1 := by
  unfold shdP
  rw [ofB_q h (shAll_ok h)]
  by_cases hk : 0 ≤ k ∧ k < b.Buses
  · have hx := (isleOf_in (p := p) (stt_zero.1 h).1.2.1 hk.1 hk.2).1
    have e : (ofB b p k).1 = isleOf b p k := by unfold ofB; rw [if_pos ⟨h, hk⟩]
    rw [e]
    by_cases hs : (isleOf b p k).Sources = []
    · have e1 : loadI (stq b p (shAll b p).1 (shAll b p).2.1) ⟨(isleOf b p k).Buses, (isleOf b p k).Sources, left (shAll b p).2.1 (isleOf b p k).Consumers⟩ = 0 := loadI_nil hs
      have e2 : rateI b ⟨(isleOf b p k).Buses, (isleOf b p k).Sources, left (shAll b p).2.1 (isleOf b p k).Consumers⟩ = 0 := rateI_nil hs
      rw [e1, e2]
      exact Int.le_refl _
    · have := sum_fin h hx hs
      have e2 : loadI (stq b p (shAll b p).1 (shAll b p).2.1) ⟨(isleOf b p k).Buses, (isleOf b p k).Sources, left (shAll b p).2.1 (isleOf b p k).Consumers⟩ = sumT (isleOf b p k) (shAll b p).2.1 (shAll b p).1 := by
        unfold loadI
        rw [if_neg hs]
        rfl
      rw [e2]
      exact this
  · have e : (ofB b p k).1 = ⟨[], [], []⟩ := by unfold ofB; rw [if_neg fun hh => hk hh.2]
    rw [e]
    exact Int.le_refl _
/-! acts -/
theorem acts_kind (b : Board) (p : Power) (l : List Island) : ∀ a ∈ (shA b p l).2.2, a.Kind = 2 ∨ a.Kind = 5 := by
  have low : ∀ (x : Island) (T : List Int) (o : List Int) (s : List Int × List Act), (∀ a ∈ s.2, a.Kind = 2 ∨ a.Kind = 5) → ∀ a ∈ (lowL b x T o s).2, a.Kind = 2 ∨ a.Kind = 5 := fun x T o => by
    induction o with
    | nil => exact fun s hs => hs
    | cons c o ih =>
      intro s hs
      refine ih (lowS b x T s c) ?_
      unfold lowS
      split
      · intro a ha
        rcases List.mem_append.1 ha with ha | ha
        · exact hs a ha
        · rw [List.mem_singleton.1 ha]; exact .inr rfl
      · exact hs
  have trip : ∀ (x : Island) (L : List Int) (o : List Int) (s : List Int × List Act), (∀ a ∈ s.2, a.Kind = 2 ∨ a.Kind = 5) → ∀ a ∈ (tripL b p x L o s).2, a.Kind = 2 ∨ a.Kind = 5 := fun x L o => by
    induction o with
    | nil => exact fun s hs => hs
    | cons c o ih =>
      intro s hs
      refine ih (tripS b p x L s c) ?_
      unfold tripS
      split
      · intro a ha
        rcases List.mem_append.1 ha with ha | ha
        · exact hs a ha
        · obtain ⟨k, _, rfl⟩ := List.mem_map.1 ha
          exact .inl rfl
      · exact hs
  have all : ∀ (s : List Int × List Int × List Act), (∀ a ∈ s.2.2, a.Kind = 2 ∨ a.Kind = 5) → ∀ a ∈ (l.foldl (shS b p) s).2.2, a.Kind = 2 ∨ a.Kind = 5 := by
    induction l with
    | nil => exact fun s hs => hs
    | cons x l ih =>
      intro s hs
      refine ih (shS b p s x) ?_
      unfold shS
      split
      · exact hs
      · exact trip x _ _ _ (low x _ _ _ hs)
  exact all _ fun a ha => by cases ha
theorem clrA_kind : ∀ a ∈ clrA b p, a.Kind = 2 ∨ a.Kind = 5 := fun a ha => by
  unfold clrA at ha
  rcases List.mem_append.1 ha with ha | ha
  · obtain ⟨k, _, rfl⟩ := List.mem_map.1 ha
    exact .inl rfl
  · obtain ⟨k, _, rfl⟩ := List.mem_map.1 ha
    exact .inl rfl
end
end Rx
end Go.Proofs.YtfnphdhcgkondaaGreat
