/- ShedProtects. -/
import Derived.Test.YtfnphdhcgkondaaGreatH11
set_option linter.unusedVariables false
set_option linter.unusedSimpArgs false
namespace Go.Proofs.YtfnphdhcgkondaaGreat
open Go Go.RowKit Dp
namespace Rx
section
variable {b : Board} {p : Power} {x : Island} {l : List Int} {a e : Int} {A : List Act}
theorem prot_row (h : stt b p = 0) (hx : x ∈ isl b p) {i : Nat} (hi : i < (ownL b x).length) : badO b p (shdP b p) (ownL b x) i = false := by
  have hr := row_own h hx
  have hO := shAll_one h hx
  have hok := shAll_ok h
  obtain ⟨hm, _⟩ := hr.at hi
  have hf : ∀ c ∈ x.Consumers, (fedB b (shdP b p) c).2 = !decide (c ∈ (shAll b p).2.1) := fun c hc => fed_shd h hok hx hc
  have hbe : ∀ c ∈ (ownL b x).take i, c ∈ x.Consumers ∧ bef b c (gt (ownL b x) i) := fun c hc => by
    obtain ⟨j, hj, rfl⟩ := (mem_take_idx (by omega)).1 hc
    exact ⟨(hr.at (i := j) (by omega)).1, own_bef hj hi⟩
  have hL : (shdP b p).Limits = (shAll b p).1 := rfl
  unfold badO
  rw [hL, hf _ hm]
  by_cases hs : x.Sources = []
  · obtain ⟨k1, k2⟩ := hO.1 hs _ hm
    rw [k1, dF (by omega), decide_eq_false k2]
    rfl
  have hS := hO.2 hs
  have hful : (gt (shAll b p).1 (gt (ownL b x) i).toNat < gt p.Limits (gt (ownL b x) i).toNat ∨ gt (ownL b x) i ∈ (shAll b p).2.1) → ((ownL b x).take i).any (fulB b (shdP b p)) = false := fun hh => List.any_eq_false.2 fun c hc hfu => by
    obtain ⟨c1, c2⟩ := hbe c hc
    unfold fulB at hfu
    simp only [Bool.and_eq_true, decide_eq_true_eq, hL] at hfu
    have := hfu.2
    rcases hh with g | g
    · have := hS.lordB hr c1 hm c2 g
      omega
    · have := hS.low hm g c1
      omega
  by_cases hT : gt (ownL b x) i ∈ (shAll b p).2.1
  · have h2 : ((ownL b x).take i).any (havB b (shdP b p)) = false := List.any_eq_false.2 fun c hc hha => by
      obtain ⟨c1, c2⟩ := hbe c hc
      unfold havB at hha
      simp only [Bool.and_eq_true, decide_eq_true_eq, hL, hf c c1, Bool.not_eq_true', decide_eq_false_iff_not] at hha
      rcases hS.ordB hr c1 hm c2 hT with g | g
      · exact hha.1 g
      · omega
    rw [hful (.inr hT), h2, Bool.and_false, Bool.and_false]
    rfl
  · rw [decide_eq_false hT]
    simp only [Bool.not_false, Bool.not_true, Bool.or_false, Bool.false_and]
    by_cases hl : gt (shAll b p).1 (gt (ownL b x) i).toNat < gt p.Limits (gt (ownL b x) i).toNat
    · rw [hful (.inl hl), Bool.and_false]
    · rw [dF hl, Bool.false_and]
theorem prot_chk (hp : SmP p) (h : stt b p = 0) : ChkOk b (clrP b p) (protP b p) := by
  have h1 := stt_clrP h
  have hok := shAll_ok h1
  refine ⟨⟨⟨⟨fun k _ hc => opn_le hc, fun k hk => (hok.le k hk).2⟩, rfl, rfl⟩, fun k _ => not_over h1 _⟩, fun x hx i hi => prot_row h1 hx hi⟩
theorem protects_L1 (hb : SmB b) (hp : SmP p) (h : stt b p = 0) {r : Power} :
    loopO (dynposlaw18_ShedProtects_L1 (b.Buses, b.Phase, b.Frequency, l, a, b.Breakers, b.Sources, b.Consumers, r.Closed, r.Sources, r.Limits, r.Broken) (e, (protP b p).Closed, (protP b p).Sources, (protP b p).Limits, (protP b p).Broken, A) (isl b (protP b p))) 0 = some (.inl ()) := by
  obtain ⟨⟨hl, hg⟩, _⟩ := stt_zero.1 h
  have hil := isl_len (b := b) (p := protP b p)
  have hbus := hl.bus
  have h1 := stt_clrP h
  have hq := stt_prot h
  have hsq := sm_prot (b := b) hp h
  have hC : Clean b (protP b p) := clean_stq h1 (clean_clrP h) (shAll_ok h1) _
  have hbe : (⟨b.Buses, b.Breakers, b.Sources, b.Consumers, b.Phase, b.Frequency⟩ : Board) = b := rfl
  have hqe : (⟨(protP b p).Closed, (protP b p).Sources, (protP b p).Limits, (protP b p).Broken⟩ : Power) = protP b p := rfl
  refine loop_run (r := Sum.inl ()) (fun k => (k : Int)) (isl b (protP b p)).length (fun k hk => ?_) ?_ (by omega)
  · have hx := gt_mem hk
    obtain ⟨p1, p2, p3, p4, p5⟩ := isl_parts hg.1 hx
    have ho := not_over h1 (gt (gt (isl b (protP b p)) k).Buses 0)
    have ho' : loadI (protP b p) (ofB b (protP b p) (gt (gt (isl b (protP b p)) k).Buses 0)).1 ≤ rateI b (ofB b (protP b p) (gt (gt (isl b (protP b p)) k).Buses 0)).1 := ho
    unfold dynposlaw18_ShedProtects_L1 dynposref17_Overloaded
    simp only [lt_len hk, if_true, idx_gt hk, Option.bind_some, show idx (gt (isl b (protP b p)) k).Buses 0 = some (gt (gt (isl b (protP b p)) k).Buses 0) from idx_gt p5, hbe, hqe, refload_eq hb hsq, refrating_eq hb hsq]
    rw [dF (by omega), W_succ (by omega)]
    simp only [Bool.false_eq_true, if_false]
    by_cases hs : (gt (isl b (protP b p)) k).Sources = []
    · rw [hs, clean_con hq hC hx hs]
      rfl
    · have := List.length_pos_iff.2 hs
      rw [beqF (a := len (gt (isl b (protP b p)) k).Sources) (by unfold len; omega)]
      simp only [Bool.false_eq_true, if_false, Option.bind_some]
  · unfold dynposlaw18_ShedProtects_L1
    simp only [nlt_len, Bool.false_eq_true, if_false]
theorem protects_L2 (h : stt b p = 0) : loopO (dynposlaw18_ShedProtects_L2 (b.Buses, b.Phase, b.Frequency, l, a, b.Breakers, b.Sources, b.Consumers, p.Closed, p.Sources, p.Limits, p.Broken) (e, (protP b p).Closed, (protP b p).Sources, (protP b p).Limits, (protP b p).Broken, A)) 0 = some (.inl ()) := by
  obtain ⟨s1, _, s3, _⟩ := brk_lens h
  have hln : (protP b p).Closed.length = b.Breakers.length := by
    show (opn (opn (opn p.Closed _) _) _).length = _
    rw [opn_len, opn_len, opn_len, s1]
  refine loop_run (r := Sum.inl ()) (fun k => (k : Int)) (protP b p).Closed.length (fun k hk => ?_) ?_ (by omega)
  · unfold dynposlaw18_ShedProtects_L2
    simp only [lt_len hk, if_true, idx_gt hk, Option.bind_some]
    rw [W_succ (by omega), idx_gt (l := p.Closed) (k := k) (by omega)]
    cases hc : gt (protP b p).Closed k with
    | false => simp
    | true =>
      have h1 : gt (clrP b p).Closed k = true := opn_le hc
      rw [clrP_at h (by omega)] at h1
      cases hpc : gt p.Closed k with
      | true => simp
      | false => rw [hpc] at h1; simp at h1
  · unfold dynposlaw18_ShedProtects_L2
    simp only [nlt_len, Bool.false_eq_true, if_false]
theorem protects_L3 (h : stt b p = 0) : loopO (dynposlaw18_ShedProtects_L3 (b.Buses, b.Phase, b.Frequency, l, a, b.Breakers, b.Sources, b.Consumers, p.Closed, p.Sources, p.Limits, p.Broken) (e, (protP b p).Closed, (protP b p).Sources, (protP b p).Limits, (protP b p).Broken, A)) 0 = some (.inl ()) := by
  obtain ⟨_, _, _, _, s5, s6⟩ := brk_lens h
  have hok := shAll_ok (stt_clrP h)
  have hln : (protP b p).Limits.length = p.Limits.length := hok.len
  refine loop_run (r := Sum.inl ()) (fun k => (k : Int)) (protP b p).Limits.length (fun k hk => ?_) ?_ (by omega)
  · have h1 : 0 ≤ gt (protP b p).Limits k ∧ gt (protP b p).Limits k ≤ gt p.Limits k := hok.le k hk
    unfold dynposlaw18_ShedProtects_L3
    simp only [lt_len hk, if_true, idx_gt hk, Option.bind_some]
    rw [W_succ (by omega), idx_gt (l := p.Limits) (k := k) (by omega)]
    simp only [Option.bind_some]
    rw [dF (by omega)]
    simp only [Bool.false_eq_true, if_false]
  · unfold dynposlaw18_ShedProtects_L3
    simp only [nlt_len, Bool.false_eq_true, if_false]
theorem protA_len (h : stt b p = 0) : (protA b p).length ≤ 1000000 := by
  have h1 := clrA_len h
  have h2 := (shA_ok (stt_clrP h) (isl b (clrP b p)).length (Nat.le_refl _)).2
  rw [List.take_length] at h2
  have hil := isl_len (b := b) (p := clrP b p)
  have hbus := (stt_zero.1 h).1.1.bus
  unfold protA
  rw [List.length_append]
  have : (shAll b (clrP b p)).2.2.length ≤ 20000 * (isl b (clrP b p)).length := h2
  omega
theorem protects_L4 (h : stt b p = 0) {C : List Bool} {S : List Running} {L : List Int} {B : List Part} : loopO (dynposlaw18_ShedProtects_L4 (e, C, S, L, B, protA b p)) 0 = some (.inl ()) := by
  have hln := protA_len h
  refine loop_run (r := Sum.inl ()) (fun k => (k : Int)) (protA b p).length (fun k hk => ?_) ?_ (by omega)
  · have hk2 : (gt (protA b p) k).Kind = 2 ∨ (gt (protA b p) k).Kind = 5 := by
      have hm := gt_mem hk
      unfold protA at hm
      rcases List.mem_append.1 hm with g | g
      · exact clrA_kind _ g
      · exact acts_kind b _ _ _ g
    unfold dynposlaw18_ShedProtects_L4
    simp only [lt_len hk, if_true, idx_gt hk, Option.bind_some]
    rw [W_succ (by omega)]
    rcases hk2 with g | g
    · rw [g]; rfl
    · rw [g]; rfl
  · unfold dynposlaw18_ShedProtects_L4
    simp only [nlt_len, Bool.false_eq_true, if_false]
end
theorem law_ShedProtects (t : List Int) : dynposlaw18_ShedProtects t = some true := by
  unfold dynposlaw18_ShedProtects
  refine wp_eq.1 ((wpNew t).bind fun r hr => ?_)
  refine (wpWorld hr).bind fun w hw => ?_
  obtain ⟨b, p, l, a, rfl, hg, hgp, hs, hb, hp, h⟩ := hw
  simp only
  have hbe : (⟨b.Buses, b.Breakers, b.Sources, b.Consumers, b.Phase, b.Frequency⟩ : Board) = b := rfl
  have hpe : (⟨p.Closed, p.Sources, p.Limits, p.Broken⟩ : Power) = p := rfl
  have hqe : (⟨(protP b p).Closed, (protP b p).Sources, (protP b p).Limits, (protP b p).Broken⟩ : Power) = protP b p := rfl
  have hsq := sm_prot (b := b) hp h
  have hq := stt_prot h
  obtain ⟨a1, a2⟩ := prot_again h
  obtain ⟨s1, _, _, _, s5, s6⟩ := brk_lens h
  have hl1 : (protP b p).Closed.length = p.Closed.length := by
    show (opn (opn (opn p.Closed _) _) _).length = _
    rw [opn_len, opn_len, opn_len]
  have hl2 : (protP b p).Limits.length = p.Limits.length := (shAll_ok (stt_clrP h)).len
  simp only [hbe, hpe, protect_eq hb hp h, Option.bind_some, hqe, protect_eq hb hsq hq, a1, a2, show ((0 : Int) != 0) = false from rfl, Bool.false_eq_true, if_false, check18_eq hb hp hsq h hq, dB_T (prot_chk hp h), Bool.not_true, same_refl hsq, show decide (len ([] : List Act) > 0) = false from rfl]
  rw [bneF (a := len (protP b p).Closed) (by unfold len; omega), bneF (a := len (protP b p).Limits) (by unfold len; omega)]
  simp only [Bool.false_eq_true, if_false, Option.bind_some, refislands_eq hb hsq hq, protects_L1 (l := l) (a := a) (e := 0) (A := protA b p) (r := p) hb hp h, Sum.elim_inl, protects_L2 (l := l) (a := a) (e := 0) (A := protA b p) h, protects_L3 (l := l) (a := a) (e := 0) (A := protA b p) h, protects_L4 h, sane_T]
  exact wp_some.2 rfl
end Rx
end Go.Proofs.YtfnphdhcgkondaaGreat
