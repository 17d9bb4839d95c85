/- Shedding, walked: lowering, tripping, island by island. Plain laws. -/
import Derived.Test.YtfnphdhcgkondaaGreatH3
set_option linter.unusedVariables false
set_option linter.unusedSimpArgs false
namespace Go.Proofs.YtfnphdhcgkondaaGreat
open Go Go.RowKit Dp
namespace Rx
section
variable {b : Board} {p : Power} {L T : List Int}
theorem cut_W (h : stt b p = 0) (hL : LimOk p L) (T : List Int) {x : Island} (hx : x ∈ isl b p) {c : Int} (hc : 0 ≤ c ∧ c < (b.Consumers.length : Int)) : imin (exc b x T L) (W (gt L c.toNat - (gt b.Consumers c.toNat).Least)) = cutL b x T L c := by
  have h1 := limq_bd h hL (k := c.toNat) (by omega)
  have h2 := least_bd h (k := c.toNat) (by omega)
  rw [W_sm (by omega) (by omega)]
  rfl
theorem lower_run (hb : SmB b) (hp : SmP p) (h : stt b p = 0) (hL : LimOk p L) (T : List Int) {x : Island} (hx : x ∈ isl b p) (hs : x.Sources ≠ []) {o : List Int} (ho : ∀ c ∈ o, 0 ≤ c ∧ c < (b.Consumers.length : Int)) (hol : o.length ≤ 1000) {a : List Act} (ha : a.length ≤ 10000000) :
    relief_lower_v3 ⟨b, stq b p L T, a⟩ o (gt x.Buses 0) = some (b.Buses, b.Breakers, b.Sources, b.Consumers, b.Phase, b.Frequency, (stq b p L T).Closed, (stq b p L T).Sources, (lowL b x T o (L, a)).1, (stq b p L T).Broken, o, (lowL b x T o (L, a)).2) := by
  have hok : ∀ k, LimOk p (lowL b x T (o.take k) (L, a)).1 ∧ (lowL b x T (o.take k) (L, a)).2.length ≤ a.length + (o.take k).length := fun k => lowL_ok h (s := (L, a)) hL fun c hc => ho c (List.mem_of_mem_take hc)
  obtain ⟨_, _, _, _, _, h6⟩ := brk_lens h
  have hrun := loop_run (step := relief_lower_v3_L1 ⟨b, stq b p L T, a⟩ o (gt x.Buses 0)) (r := (b.Buses, b.Breakers, b.Sources, b.Consumers, b.Phase, b.Frequency, (lowL b x T o (L, a)).1, (lowL b x T o (L, a)).2)) (fun k => ((k : Int), b.Buses, b.Breakers, b.Sources, b.Consumers, b.Phase, b.Frequency, (lowL b x T (o.take k) (L, a)).1, (lowL b x T (o.take k) (L, a)).2)) o.length (fun k hk => by
    obtain ⟨hk1, hk2⟩ := hok k
    have hc := ho _ (gt_mem hk)
    rw [List.length_take] at hk2
    rw [take_gt hk, lowL_snoc]
    generalize lowL b x T (o.take k) (L, a) = s at hk1 hk2 ⊢
    obtain ⟨L1, a1⟩ := s
    simp only at hk1 hk2 ⊢
    have hlen := hk1.len
    unfold relief_lower_v3_L1
    have hex := excess_eq hb hp h hk1 T hx hs a1
    have hbe : (⟨b.Buses, b.Breakers, b.Sources, b.Consumers, b.Phase, b.Frequency⟩ : Board) = b := rfl
    have hpe : (⟨(stq b p L T).Closed, (stq b p L T).Sources, L1, (stq b p L T).Broken⟩ : Power) = stq b p L1 T := rfl
    simp only [lt_len hk, if_true, idx_gt hk, Option.bind_some, hbe, hpe, hex]
    rw [idx_gtZ (l := L1) hc.1 (by omega), idx_gtZ (l := b.Consumers) hc.1 hc.2]
    simp only [Option.bind_some, cut_W h hk1 T hx hc]
    rw [W_succ (by omega)]
    have h1 := limq_bd h hk1 (k := (gt o k).toNat) (by omega)
    have h2 := least_bd h (k := (gt o k).toNat) (by omega)
    have h3 := cut_le (b := b) (x := x) (T := T) (L := L1) (c := gt o k)
    unfold lowS
    by_cases h0 : 0 < cutL b x T L1 (gt o k)
    · rw [dT (c := cutL b x T L1 (gt o k) > 0) h0, if_pos h0, W_sm (by omega) (by omega), setO_gt hc.1 (by omega)]
      simp only [if_true, Option.bind_some]
      rw [idx_gtZ (l := L1.set (gt o k).toNat _) hc.1 (by rw [List.length_set]; omega)]
      simp only [Option.bind_some]
      rw [gt_set (by omega), if_pos rfl, app_sm (by simp; omega)]
      rfl
    · rw [dF (c := cutL b x T L1 (gt o k) > 0) h0, if_neg h0]
      simp only [Bool.false_eq_true, if_false, Option.bind_some]) (by
    unfold relief_lower_v3_L1
    simp only [nlt_len, Bool.false_eq_true, if_false, List.take_length]) (by omega)
  unfold relief_lower_v3
  have hrun' : loopO (relief_lower_v3_L1 ⟨b, stq b p L T, a⟩ o (gt x.Buses 0)) (0, b.Buses, b.Breakers, b.Sources, b.Consumers, b.Phase, b.Frequency, L, a) = _ := hrun
  simp only
  rw [show (stq b p L T).Limits = L from rfl, hrun']
  rfl
theorem opn_trip (hl : p.Closed.length ≤ b.Breakers.length) (T : List Int) (c : Int) : opn (stq b p L T).Closed (fun i => (gt b.Breakers i).Kind == 3 && (gt b.Breakers i).B == c) = (stq b p L (T ++ [c])).Closed := by
  show opn (opn p.Closed (trp b T)) _ = opn p.Closed (trp b (T ++ [c]))
  rw [opn_opn]
  exact opn_congr fun i _ => (trp_snoc T c i).symm
theorem sweep3_eq (hp : SmP p) (h : stt b p = 0) (hL : LimOk p L) (T : List Int) {a : List Act} (ha : a.length ≤ 1000000) (c : Int) :
    relief_sweep_v16 ⟨b, stq b p L T, a⟩ c = some (b.Buses, b.Breakers, b.Sources, b.Consumers, b.Phase, b.Frequency, (stq b p L (T ++ [c])).Closed, p.Sources, L, p.Broken, c, a ++ (fnd (stq b p L T).Closed fun i => (gt b.Breakers i).Kind == 3 && (gt b.Breakers i).B == c).map actO) := by
  obtain ⟨s1, s2, s3, _⟩ := brk_lens h
  have hcl : (stq b p L T).Closed.length = p.Closed.length := opn_len _ _
  unfold relief_sweep_v16
  have e1 : loopO (relief_sweep_v16_L1 ⟨b, stq b p L T, a⟩ c) (0, []) = some (fnd (stq b p L T).Closed fun i => (gt b.Breakers i).Kind == 3 && (gt b.Breakers i).B == c) := by
    have := loop_run (step := relief_sweep_v16_L1 ⟨b, stq b p L T, a⟩ c) (r := fnd (stq b p L T).Closed fun i => (gt b.Breakers i).Kind == 3 && (gt b.Breakers i).B == c) (fun k => ((k : Int), rangeF (fun i => gt (stq b p L T).Closed i && ((gt b.Breakers i).Kind == 3 && (gt b.Breakers i).B == c)) k)) b.Breakers.length (fun k hk => by
      have hrl := rangeF_len (fun i => gt (stq b p L T).Closed i && ((gt b.Breakers i).Kind == 3 && (gt b.Breakers i).B == c)) k
      unfold relief_sweep_v16_L1 shed_relief__trip_1
      simp only [lt_len hk, if_true, idx_gt hk, Option.bind_some, idx_gt (l := (stq b p L T).Closed) (k := k) (by omega)]
      rw [W_succ (by omega), rangeF_succ]
      generalize rangeF (fun i => gt (stq b p L T).Closed i && ((gt b.Breakers i).Kind == 3 && (gt b.Breakers i).B == c)) k = R at hrl ⊢
      cases gt (stq b p L T).Closed k with
      | false => simp
      | true =>
        cases (gt b.Breakers k).Kind == 3 with
        | false => simp
        | true =>
          cases (gt b.Breakers k).B == c with
          | false => simp
          | true =>
            simp only [if_true, Option.bind_some, Bool.and_self]
            rw [app_sm (by simp; omega)]
            rfl) (by
      unfold relief_sweep_v16_L1
      simp only [nlt_len, Bool.false_eq_true, if_false]
      unfold fnd
      rw [hcl, s1]) (by omega)
    simpa [rangeF] using this
  rw [e1]
  have hfl := fnd_len (stq b p L T).Closed fun i => (gt b.Breakers i).Kind == 3 && (gt b.Breakers i).B == c
  have e2 := open_run (b := b) (p := stq b p L T) (a := a) (l := fnd (stq b p L T).Closed fun i => (gt b.Breakers i).Kind == 3 && (gt b.Breakers i).B == c) (by omega) (by omega) (by omega) fnd_mem
  rw [fnd_opn, opn_trip (by omega)] at e2
  simp only [Option.bind_some]
  rw [show loopO (relief_sweep_v16_L2 (fnd (stq b p L T).Closed fun i => (gt b.Breakers i).Kind == 3 && (gt b.Breakers i).B == c)) (0, b.Buses, b.Breakers, b.Sources, b.Consumers, b.Phase, b.Frequency, (stq b p L T).Closed, (stq b p L T).Sources, (stq b p L T).Limits, (stq b p L T).Broken, a) = _ from e2]
  rfl
theorem trip_run (hb : SmB b) (hp : SmP p) (h : stt b p = 0) (hL : LimOk p L) (T : List Int) {x : Island} (hx : x ∈ isl b p) (hs : x.Sources ≠ []) {o : List Int} (ho : ∀ c ∈ o, 0 ≤ c ∧ c < (b.Consumers.length : Int)) (hol : o.length ≤ 100) {a : List Act} (ha : a.length ≤ 500000) :
    relief_trip_v2 ⟨b, stq b p L T, a⟩ o (gt x.Buses 0) = some (b.Buses, b.Breakers, b.Sources, b.Consumers, b.Phase, b.Frequency, (stq b p L (tripL b p x L o (T, a)).1).Closed, p.Sources, L, p.Broken, o, (tripL b p x L o (T, a)).2) := by
  obtain ⟨s1, _, s3, _, _, h6⟩ := brk_lens h
  have hlen := hL.len
  have hok : ∀ k, (tripL b p x L (o.take k) (T, a)).2.length ≤ a.length + 1000 * (o.take k).length := fun k => tripL_len (by omega)
  have hrun := loop_run (step := relief_trip_v2_L1 o (gt x.Buses 0)) (r := tup b (stq b p L (tripL b p x L o (T, a)).1) (tripL b p x L o (T, a)).2) (fun k => ((k : Int), tup b (stq b p L (tripL b p x L (o.take k) (T, a)).1) (tripL b p x L (o.take k) (T, a)).2)) o.length (fun k hk => by
    have hk2 := hok k
    have hc := ho _ (gt_mem hk)
    rw [List.length_take] at hk2
    rw [take_gt hk, tripL_snoc]
    generalize tripL b p x L (o.take k) (T, a) = s at hk2 ⊢
    obtain ⟨T1, a1⟩ := s
    simp only at hk2 ⊢
    have hex := excess_eq hb hp h hL T1 hx hs a1
    have hbe : (⟨b.Buses, b.Breakers, b.Sources, b.Consumers, b.Phase, b.Frequency⟩ : Board) = b := rfl
    have hpe : (⟨(stq b p L T1).Closed, (stq b p L T1).Sources, (stq b p L T1).Limits, (stq b p L T1).Broken⟩ : Power) = stq b p L T1 := rfl
    unfold relief_trip_v2_L1
    simp only [tup, lt_len hk, if_true, idx_gt hk, Option.bind_some, hbe, hpe, hex]
    rw [idx_gtZ (l := (stq b p L T1).Limits) hc.1 (by show _ < (L.length : Int); omega)]
    simp only [Option.bind_some]
    rw [W_succ (by omega)]
    have hT : tripS b p x L (T1, a1) (gt o k) = if 0 < gt L (gt o k).toNat ∧ 0 < exc b x T1 L then (T1 ++ [gt o k], a1 ++ (fnd (stq b p L T1).Closed fun i => (gt b.Breakers i).Kind == 3 && (gt b.Breakers i).B == gt o k).map actO) else (T1, a1) := rfl
    by_cases h1 : 0 < gt L (gt o k).toNat
    · rw [dT (c := gt (stq b p L T1).Limits (gt o k).toNat > 0) h1]
      by_cases h2 : 0 < exc b x T1 L
      · rw [if_pos ⟨h1, h2⟩] at hT
        rw [hT, dT (c := exc b x T1 L > 0) h2]
        simp only [if_true, Option.bind_some, sweep3_eq hp h hL T1 (a := a1) (by omega) (gt o k)]
        rfl
      · rw [if_neg fun c => h2 c.2] at hT
        rw [hT, dF (c := exc b x T1 L > 0) h2]
        simp only [if_true, Bool.false_eq_true, if_false, Option.bind_some]
    · rw [if_neg fun c => h1 c.1] at hT
      rw [hT, dF (c := gt (stq b p L T1).Limits (gt o k).toNat > 0) h1]
      simp only [Bool.false_eq_true, if_false, Option.bind_some]) (by
    unfold relief_trip_v2_L1
    simp only [tup, nlt_len, Bool.false_eq_true, if_false, List.take_length]) (by omega)
  unfold relief_trip_v2
  have hrun' : loopO (relief_trip_v2_L1 o (gt x.Buses 0)) (0, b.Buses, b.Breakers, b.Sources, b.Consumers, b.Phase, b.Frequency, (stq b p L T).Closed, (stq b p L T).Sources, (stq b p L T).Limits, (stq b p L T).Broken, a) = _ := hrun
  simp only
  rw [hrun']
  rfl
theorem lowS_app {a0 a : List Act} {x : Island} {c : Int} : lowS b x T (L, a0 ++ a) c = ((lowS b x T (L, a) c).1, a0 ++ (lowS b x T (L, a) c).2) := by
  unfold lowS
  by_cases h : 0 < cutL b x T L c
  · rw [if_pos h, if_pos h]; simp
  · rw [if_neg h, if_neg h]
theorem lowL_app {a0 : List Act} {x : Island} : ∀ {o : List Int} {L : List Int} {a : List Act}, lowL b x T o (L, a0 ++ a) = ((lowL b x T o (L, a)).1, a0 ++ (lowL b x T o (L, a)).2)
  | [], L, a => rfl
  | c :: o, L, a => by
    have e : ∀ s, lowL b x T (c :: o) s = lowL b x T o (lowS b x T s c) := fun _ => rfl
    rw [e, e, lowS_app, lowL_app]
theorem tripS_app {a0 a : List Act} {x : Island} {c : Int} : tripS b p x L (T, a0 ++ a) c = ((tripS b p x L (T, a) c).1, a0 ++ (tripS b p x L (T, a) c).2) := by
  unfold tripS
  by_cases h : 0 < gt L c.toNat ∧ 0 < exc b x T L
  · rw [if_pos h, if_pos h]; simp
  · rw [if_neg h, if_neg h]
theorem tripL_app {a0 : List Act} {x : Island} : ∀ {o : List Int} {T : List Int} {a : List Act}, tripL b p x L o (T, a0 ++ a) = ((tripL b p x L o (T, a)).1, a0 ++ (tripL b p x L o (T, a)).2)
  | [], T, a => rfl
  | c :: o, T, a => by
    have e : ∀ s, tripL b p x L (c :: o) s = tripL b p x L o (tripS b p x L s c) := fun _ => rfl
    rw [e, e, tripS_app, tripL_app]
theorem iclone_eq {l : List Int} (h : l.length ≤ 1000000) : slices_Clone_int_int l = some l := by
  unfold slices_Clone_int_int
  rw [app_sm (by simp; omega)]
  simp
/-- all that is shed -/
noncomputable def shAll (b : Board) (p : Power) : List Int × List Int × List Act := shA b p (isl b p)
noncomputable def shdP (b : Board) (p : Power) : Power := stq b p (shAll b p).1 (shAll b p).2.1
theorem shed_run (hb : SmB b) (hp : SmP p) (h : stt b p = 0) {a : List Act} (ha : a.length ≤ 1000) : relief_shed_v1 ⟨b, p, a⟩ = some (tup b (shdP b p) (a ++ (shAll b p).2.2)) := by
  obtain ⟨⟨hl, hg⟩, _⟩ := stt_zero.1 h
  have hchk : chk b = 0 := chk_zero.2 ⟨hl, hg⟩
  have hil := isl_len (b := b) (p := p)
  have hbus := hl.bus
  have hcon := hl.con
  have hol : (ordL b).length ≤ 16 := by rw [ord_len]; exact hcon
  unfold relief_shed_v1
  simp only [order_eq hb hchk, islands_eq hb hp h, Option.bind_some]
  have hrun := loop_run (step := relief_shed_v1_L1 (ordL b) (isl b p)) (r := tup b (shdP b p) (a ++ (shAll b p).2.2)) (fun k => ((k : Int), tup b (stq b p (shA b p ((isl b p).take k)).1 (shA b p ((isl b p).take k)).2.1) (a ++ (shA b p ((isl b p).take k)).2.2))) (isl b p).length (fun k hk => by
    obtain ⟨hk1, hk2⟩ := shA_ok h k (by omega)
    have hx := gt_mem hk
    obtain ⟨p1, p2, p3, p4, p5⟩ := isl_parts hg.1 hx
    obtain ⟨_, o1, o2⟩ := own_bd h hx
    rw [take_gt hk, shA_snoc]
    generalize shA b p ((isl b p).take k) = s at hk1 hk2 ⊢
    obtain ⟨L1, T1, a1⟩ := s
    simp only at hk1 hk2 ⊢
    have hsm : Sm (gt (isl b p) k).Consumers := by unfold Sm; omega
    unfold relief_shed_v1_L1
    simp only [tup, lt_len hk, if_true, idx_gt hk, Option.bind_some, iclone_eq (l := ordL b) (by omega), delete_own hsm (l := ordL b) (by omega)]
    have hdel : (ordL b).filter (fun c => decide (c ∈ (gt (isl b p) k).Consumers)) = ownL b (gt (isl b p) k) := rfl
    rw [hdel, W_succ (by omega)]
    unfold shS
    by_cases hs : (gt (isl b p) k).Sources = []
    · rw [if_pos hs, dF (c := len (gt (isl b p) k).Sources > 0) (by rw [hs]; decide)]
      simp only [Bool.false_eq_true, if_false, Option.bind_some]
    · have hpos : len (gt (isl b p) k).Sources > 0 := by have := List.length_pos_iff.2 hs; unfold len; omega
      have hbe : (⟨b.Buses, b.Breakers, b.Sources, b.Consumers, b.Phase, b.Frequency⟩ : Board) = b := rfl
      have hpe : (⟨(stq b p L1 T1).Closed, (stq b p L1 T1).Sources, (stq b p L1 T1).Limits, (stq b p L1 T1).Broken⟩ : Power) = stq b p L1 T1 := rfl
      rw [if_neg hs, dT hpos]
      simp only [if_true, Option.bind_some, hbe, hpe, show idx (gt (isl b p) k).Buses 0 = some (gt (gt (isl b p) k).Buses 0) from idx_gt p5, lower_run hb hp h hk1 T1 hx hs o1 (by omega) (a := a ++ a1) (by rw [List.length_append]; omega), lowL_app]
      obtain ⟨l1, l2⟩ := lowL_ok (x := gt (isl b p) k) (T := T1) (s := (L1, a1)) h hk1 o1
      generalize lowL b (gt (isl b p) k) T1 (ownL b (gt (isl b p) k)) (L1, a1) = s at l1 l2 ⊢
      obtain ⟨L2, a2⟩ := s
      simp only at l1 l2 ⊢
      have hpe2 : (⟨(stq b p L1 T1).Closed, (stq b p L1 T1).Sources, L2, (stq b p L1 T1).Broken⟩ : Power) = stq b p L2 T1 := rfl
      rw [hpe2, trip_run hb hp h l1 T1 hx hs o1 (by omega) (a := a ++ a2) (by rw [List.length_append]; omega), tripL_app]
      rfl) (by
    unfold relief_shed_v1_L1
    simp only [tup, nlt_len, Bool.false_eq_true, if_false, List.take_length]
    rfl) (by omega)
  have hrun' : loopO (relief_shed_v1_L1 (ordL b) (isl b p)) (0, tup b (stq b p p.Limits []) (a ++ [])) = _ := hrun
  rw [stq_nil, List.append_nil] at hrun'
  rw [show loopO (relief_shed_v1_L1 (ordL b) (isl b p)) (0, b.Buses, b.Breakers, b.Sources, b.Consumers, b.Phase, b.Frequency, p.Closed, p.Sources, p.Limits, p.Broken, a) = _ from hrun']
  rfl
end
end Rx
end Go.Proofs.YtfnphdhcgkondaaGreat
