/- ShedOrder. -/
import Derived.Test.YtfnphdhcgkondaaGreatH9
set_option linter.unusedVariables false
set_option linter.unusedSimpArgs false
namespace Go.Proofs.YtfnphdhcgkondaaGreat
open Go Go.RowKit Dp
namespace Rx
section
variable {b : Board} {p r : Power} {x : Island} {l : List Int} {a e : Int} {A : List Act}
theorem order_L2 (hb : SmB b) (hp : SmP p) (h : stt b p = 0) (hx : x ∈ isl b p) :
    Wp (loopO (dynposlaw18_ShedOrder_L2 (b.Buses, b.Phase, b.Frequency, l, a, b.Breakers, b.Sources, b.Consumers, r.Closed, r.Sources, r.Limits, r.Broken) (e, (shdP b p).Closed, (shdP b p).Sources, (shdP b p).Limits, (shdP b p).Broken, A) (ordL b) x) (-1, false, 0)) fun r => ∃ last, r = .inl last ∧ (last = -1 ∨ 0 ≤ last ∧ last ∈ x.Consumers ∧ last ∈ (shAll b p).2.1 ∧ ∀ d ∈ x.Consumers, bef b last d → d ∉ (shAll b p).2.1) := by
  obtain ⟨⟨hl, hg⟩, _⟩ := stt_zero.1 h
  obtain ⟨p1, _, p3, _⟩ := isl_parts hg.1 hx
  have hcon := hl.con
  obtain ⟨_, _, _, _, _, h6⟩ := brk_lens h
  have hok := shAll_ok h
  have hlen := hok.len
  have hO := shAll_one h hx
  have hr := row_own h hx
  have hol : (ordL b).length = b.Consumers.length := ord_len b
  have hq := sm_shd (b := b) hp h
  have hbe : (⟨b.Buses, b.Breakers, b.Sources, b.Consumers, b.Phase, b.Frequency⟩ : Board) = b := rfl
  have hqe : (⟨(shdP b p).Closed, (shdP b p).Sources, (shdP b p).Limits, (shdP b p).Broken⟩ : Power) = shdP b p := rfl
  have hbd : ∀ i, i < (ordL b).length → 0 ≤ gt (ordL b) i ∧ gt (ordL b) i < (b.Consumers.length : Int) := fun i hi => ord_mem.1 (gt_mem hi)
  refine wp_upto (ordL b).length (fun k s => ∃ last kept, s = (last, kept, (k : Int)) ∧ (kept = true → ∃ i, i < k ∧ gt (ordL b) i ∈ x.Consumers ∧ gt (shAll b p).1 (gt (ordL b) i).toNat ≠ 0 ∧ gt (ordL b) i ∉ (shAll b p).2.1) ∧ (last = -1 ∧ (∀ i, i < k → gt (ordL b) i ∈ x.Consumers → gt (ordL b) i ∉ (shAll b p).2.1) ∨ ∃ j, j < k ∧ gt (ordL b) j = last ∧ last ∈ x.Consumers ∧ last ∈ (shAll b p).2.1 ∧ ∀ i, j < i → i < k → gt (ordL b) i ∈ x.Consumers → gt (ordL b) i ∉ (shAll b p).2.1)) ⟨-1, false, rfl, fun hh => Bool.noConfusion hh, .inl ⟨rfl, fun i hi => absurd hi (by omega)⟩⟩ (fun k s hk hv => ?_) (fun s hv => ?_) (by omega)
  · obtain ⟨last, kept, rfl, v1, v2⟩ := hv
    have hc := hbd k hk
    have skip : gt (ordL b) k ∉ x.Consumers ∨ gt (ordL b) k ∉ (shAll b p).2.1 → ∀ kept', (kept' = true → kept = true ∨ gt (ordL b) k ∈ x.Consumers ∧ gt (shAll b p).1 (gt (ordL b) k).toNat ≠ 0 ∧ gt (ordL b) k ∉ (shAll b p).2.1) → ∃ last' kept'', ((last, kept', ((k + 1 : Nat) : Int)) : Int × Bool × Int) = (last', kept'', ((k + 1 : Nat) : Int)) ∧ (kept'' = true → ∃ i, i < k + 1 ∧ gt (ordL b) i ∈ x.Consumers ∧ gt (shAll b p).1 (gt (ordL b) i).toNat ≠ 0 ∧ gt (ordL b) i ∉ (shAll b p).2.1) ∧ (last' = -1 ∧ (∀ i, i < k + 1 → gt (ordL b) i ∈ x.Consumers → gt (ordL b) i ∉ (shAll b p).2.1) ∨ ∃ j, j < k + 1 ∧ gt (ordL b) j = last' ∧ last' ∈ x.Consumers ∧ last' ∈ (shAll b p).2.1 ∧ ∀ i, j < i → i < k + 1 → gt (ordL b) i ∈ x.Consumers → gt (ordL b) i ∉ (shAll b p).2.1) := fun hs kept' hk' => by
      refine ⟨last, kept', rfl, fun hh => ?_, ?_⟩
      · rcases hk' hh with g | g
        · obtain ⟨i, hi, g⟩ := v1 g
          exact ⟨i, by omega, g⟩
        · exact ⟨k, by omega, g⟩
      · have hlastk : ∀ i, i = k → gt (ordL b) i ∈ x.Consumers → gt (ordL b) i ∉ (shAll b p).2.1 := fun i hi hm => by
          subst hi
          rcases hs with g | g
          · exact (g hm).elim
          · exact g
        rcases v2 with ⟨g1, g2⟩ | ⟨j, g1, g2, g3, g4, g5⟩
        · refine .inl ⟨g1, fun i hi => ?_⟩
          by_cases ei : i = k
          · exact hlastk i ei
          · exact g2 i (by omega)
        · refine .inr ⟨j, by omega, g2, g3, g4, fun i h1 h2 => ?_⟩
          by_cases ei : i = k
          · exact hlastk i ei
          · exact g5 i h1 (by omega)
    unfold dynposlaw18_ShedOrder_L2
    simp only [lt_len hk, if_true, idx_gt hk, Option.bind_some, refhas_eq x.Consumers _ (by omega), hbe, hqe]
    rw [W_succ (by omega)]
    by_cases hm : gt (ordL b) k ∈ x.Consumers
    · rw [decide_eq_true hm]
      have hLi : (shdP b p).Limits = (shAll b p).1 := rfl
      simp only [Bool.not_true, Bool.false_eq_true, if_false, hLi]
      rw [idx_gtZ (l := (shAll b p).1) hc.1 (by omega)]
      simp only [Option.bind_some]
      by_cases h0 : gt (shAll b p).1 (gt (ordL b) k).toNat = 0
      · rw [beqT h0]
        simp only [if_true, Option.bind_some, Sum.elim_inl]
        refine wp_some.2 (skip (.inr fun hT => ?_) kept fun hh => .inl hh)
        have := (trip_src hO hm hT).tpos _ hm hT
        omega
      · rw [beqF h0]
        have hqe' : (⟨(shdP b p).Closed, (shdP b p).Sources, (shAll b p).1, (shdP b p).Broken⟩ : Power) = shdP b p := rfl
        simp only [Bool.false_eq_true, if_false, hqe', reffed_eq hb hq hc, Option.bind_some]
        have hf : (fedB b (shdP b p) (gt (ordL b) k)).2 = !decide (gt (ordL b) k ∈ (shAll b p).2.1) := fed_shd h hok hx hm
        rw [hf]
        by_cases hT : gt (ordL b) k ∈ (shAll b p).2.1
        · rw [decide_eq_true hT]
          simp only [Bool.not_true, Bool.false_eq_true, if_false]
          have hkept : kept = false := by
            cases hkk : kept with
            | false => rfl
            | true =>
              obtain ⟨i, hi, g1, g2, g3⟩ := v1 hkk
              rcases (trip_src hO hm hT).ordB hr g1 hm (ord_bef hi hk) hT with g | g
              · exact (g3 g).elim
              · exact (g2 g).elim
          subst hkept
          simp only [Bool.false_eq_true, if_false, Option.bind_some, Sum.elim_inl]
          exact wp_some.2 ⟨_, _, rfl, fun hh => Bool.noConfusion hh, .inr ⟨k, by omega, rfl, hm, hT, fun i h1 h2 => absurd h1 (by omega)⟩⟩
        · rw [decide_eq_false hT]
          simp only [Bool.not_false, if_true, Option.bind_some, Sum.elim_inl]
          exact wp_some.2 (skip (.inr hT) true fun _ => .inr ⟨hm, h0, hT⟩)
    · rw [decide_eq_false hm]
      simp only [Bool.not_false, if_true, Option.bind_some, Sum.elim_inl]
      exact wp_some.2 (skip (.inl hm) kept fun hh => .inl hh)
  · obtain ⟨last, kept, rfl, v1, v2⟩ := hv
    unfold dynposlaw18_ShedOrder_L2
    simp only [nlt_len, Bool.false_eq_true, if_false]
    refine wp_some.2 ⟨last, rfl, ?_⟩
    rcases v2 with ⟨g1, g2⟩ | ⟨j, g1, g2, g3, g4, g5⟩
    · exact .inl g1
    · refine .inr ⟨(hr.bd _ g3).1, g3, g4, fun d hd hbf => ?_⟩
      have hd' := hr.bd d hd
      obtain ⟨i, hi, rfl⟩ := mem_gt (ord_mem.2 hd')
      rw [← g2] at hbf
      exact g5 i (ord_lt g1 hbf) hi hd
theorem order_L3 (hp : SmP p) (h : stt b p = 0) (hx : x ∈ isl b p) (hlow : ∀ c ∈ x.Consumers, gt (shAll b p).1 c.toNat ≤ (gt b.Consumers c.toNat).Least) :
    loopO (dynposlaw18_ShedOrder_L3 (b.Buses, b.Phase, b.Frequency, l, a, b.Breakers, b.Sources, b.Consumers, r.Closed, r.Sources, r.Limits, r.Broken) (e, (shdP b p).Closed, (shdP b p).Sources, (shdP b p).Limits, (shdP b p).Broken, A) x) 0 = some (.inl ()) := by
  obtain ⟨⟨hl, hg⟩, _⟩ := stt_zero.1 h
  obtain ⟨p1, _, p3, _⟩ := isl_parts hg.1 hx
  have hcon := hl.con
  obtain ⟨_, _, _, _, _, h6⟩ := brk_lens h
  have hlen := (shAll_ok h).len
  refine loop_run (r := Sum.inl ()) (fun k => (k : Int)) x.Consumers.length (fun k hk => ?_) ?_ (by omega)
  · have hc := p1 _ (gt_mem hk)
    have hlo := hlow _ (gt_mem hk)
    have hLi : (shdP b p).Limits = (shAll b p).1 := rfl
    unfold dynposlaw18_ShedOrder_L3
    simp only [lt_len hk, if_true, idx_gt hk, Option.bind_some, hLi]
    rw [idx_gtZ (l := (shAll b p).1) hc.1 (by omega), idx_gtZ (l := b.Consumers) hc.1 (by omega)]
    simp only [Option.bind_some]
    rw [dF (by omega), W_succ (by omega)]
    simp only [Bool.false_eq_true, if_false]
  · unfold dynposlaw18_ShedOrder_L3
    simp only [nlt_len, Bool.false_eq_true, if_false]
theorem order_L4 (hb : SmB b) (hp : SmP p) (h : stt b p = 0) (hx : x ∈ isl b p) {v : Int} (hv : 0 ≤ v ∧ v ≤ 50000) :
    loopO (dynposlaw18_ShedOrder_L4 (b.Buses, b.Phase, b.Frequency, l, a, b.Breakers, b.Sources, b.Consumers, r.Closed, r.Sources, r.Limits, r.Broken) (e, (shdP b p).Closed, (shdP b p).Sources, (shdP b p).Limits, (shdP b p).Broken, A) x) (v, 0) = some (v + sumT x (shAll b p).2.1 (shAll b p).1) := by
  obtain ⟨⟨hl, hg⟩, _⟩ := stt_zero.1 h
  obtain ⟨p1, _, p3, _⟩ := isl_parts hg.1 hx
  have hcon := hl.con
  obtain ⟨_, _, _, _, _, h6⟩ := brk_lens h
  have hok := shAll_ok h
  have hlen := hok.len
  have hq := sm_shd (b := b) hp h
  have hbe : (⟨b.Buses, b.Breakers, b.Sources, b.Consumers, b.Phase, b.Frequency⟩ : Board) = b := rfl
  have hqe : (⟨(shdP b p).Closed, (shdP b p).Sources, (shAll b p).1, (shdP b p).Broken⟩ : Power) = shdP b p := rfl
  have hrun := loop_run (step := dynposlaw18_ShedOrder_L4 (b.Buses, b.Phase, b.Frequency, l, a, b.Breakers, b.Sources, b.Consumers, r.Closed, r.Sources, r.Limits, r.Broken) (e, (shdP b p).Closed, (shdP b p).Sources, (shdP b p).Limits, (shdP b p).Broken, A) x) (r := v + sumT x (shAll b p).2.1 (shAll b p).1) (fun k => (v + sumF (gt (shAll b p).1) (left (shAll b p).2.1 (x.Consumers.take k)), (k : Int))) x.Consumers.length (fun k hk => by
    have hc := p1 _ (gt_mem hk)
    have hll := left_len (shAll b p).2.1 (x.Consumers.take k)
    have hs := sumF_bd (f := gt (shAll b p).1) (l := left (shAll b p).2.1 (x.Consumers.take k)) (B := 50000) (fun c hc => by
      have := p1 c (List.mem_of_mem_take (left_sub hc).1)
      exact limq_bd h hok (by omega))
    rw [List.length_take] at hll
    have hlb := limq_bd h hok (k := (gt x.Consumers k).toNat) (by omega)
    have hf : (fedB b (shdP b p) (gt x.Consumers k)).2 = !decide (gt x.Consumers k ∈ (shAll b p).2.1) := fed_shd h hok hx (gt_mem hk)
    have hLi : (shdP b p).Limits = (shAll b p).1 := rfl
    unfold dynposlaw18_ShedOrder_L4
    simp only [lt_len hk, if_true, idx_gt hk, Option.bind_some, hbe, hLi, hqe, reffed_eq hb hq (j := gt x.Consumers k) ⟨hc.1, by omega⟩, hf]
    rw [W_succ (by omega), take_gt hk, left_snoc1]
    by_cases hT : gt x.Consumers k ∈ (shAll b p).2.1
    · rw [decide_eq_true hT, if_pos hT, List.append_nil]
      simp only [Bool.not_true, Bool.false_eq_true, if_false, Option.bind_some]
    · rw [decide_eq_false hT, if_neg hT, sumF_snoc]
      simp only [Bool.not_false, if_true]
      rw [idx_gtZ (l := (shAll b p).1) hc.1 (by omega)]
      simp only [Option.bind_some]
      rw [W_sm (by omega) (by omega), Int.add_assoc]) (by
    unfold dynposlaw18_ShedOrder_L4
    simp only [nlt_len, Bool.false_eq_true, if_false, List.take_length]
    rfl) (by omega)
  have e0 : v + sumF (gt (shAll b p).1) (left (shAll b p).2.1 (x.Consumers.take 0)) = v := by
    have : sumF (gt (shAll b p).1) (left (shAll b p).2.1 (x.Consumers.take 0)) = 0 := rfl
    omega
  have hrun' : loopO (dynposlaw18_ShedOrder_L4 (b.Buses, b.Phase, b.Frequency, l, a, b.Breakers, b.Sources, b.Consumers, r.Closed, r.Sources, r.Limits, r.Broken) (e, (shdP b p).Closed, (shdP b p).Sources, (shdP b p).Limits, (shdP b p).Broken, A) x) (v + sumF (gt (shAll b p).1) (left (shAll b p).2.1 (x.Consumers.take 0)), 0) = _ := hrun
  rw [e0] at hrun'
  exact hrun'
theorem order_L1 (hb : SmB b) (hp : SmP p) (h : stt b p = 0) (e' : Int) (A' : List Act) :
    loopO (dynposlaw18_ShedOrder_L1 (b.Buses, b.Phase, b.Frequency, l, a, b.Breakers, b.Sources, b.Consumers, r.Closed, r.Sources, r.Limits, r.Broken) (e', p.Closed, p.Sources, p.Limits, p.Broken, A') (e, (shdP b p).Closed, (shdP b p).Sources, (shdP b p).Limits, (shdP b p).Broken, A) (ordL b) (isl b p)) 0 = some (.inl ()) := by
  obtain ⟨⟨hl, hg⟩, _⟩ := stt_zero.1 h
  have hil := isl_len (b := b) (p := p)
  have hbus := hl.bus
  have hbe : (⟨b.Buses, b.Breakers, b.Sources, b.Consumers, b.Phase, b.Frequency⟩ : Board) = b := rfl
  have hpe : (⟨p.Closed, p.Sources, p.Limits, p.Broken⟩ : Power) = p := rfl
  refine loop_run (r := Sum.inl ()) (fun k => (k : Int)) (isl b p).length (fun k hk => ?_) ?_ (by omega)
  · have hx := gt_mem hk
    obtain ⟨p1, p2, p3, p4, p5⟩ := isl_parts hg.1 hx
    obtain ⟨_, _, _, _, _, h6⟩ := brk_lens h
    have hok := shAll_ok h
    have hlen := hok.len
    obtain ⟨res, hres, last, rfl, hlast⟩ := order_L2 (l := l) (a := a) (e := e) (A := A) (r := r) hb hp h hx
    unfold dynposlaw18_ShedOrder_L1
    simp only [lt_len hk, if_true, idx_gt hk, Option.bind_some, hres, Sum.elim_inl]
    rw [W_succ (by omega)]
    rcases hlast with rfl | ⟨h0, hm, hT, hall⟩
    · simp only [show decide ((-1 : Int) < 0) = true from rfl, if_true, Option.bind_some, Sum.elim_inl]
    · have hS := trip_src (shAll_one h hx) hm hT
      have hr := row_own h hx
      have hc := p1 _ hm
      have hlb := limq_bd h hok (k := last.toNat) (by omega)
      have hLi : (shdP b p).Limits = (shAll b p).1 := rfl
      have hlt := hS.lastB hr hm hT hall
      have h4 := order_L4 (l := l) (a := a) (e := e) (A := A) (r := r) hb hp h hx hlb
      have h3 := order_L3 (l := l) (a := a) (e := e) (A := A) (r := r) hp h hx fun c hc => hS.low hm hT hc
      rw [hLi] at h4 h3
      rw [dF (by omega)]
      simp only [Bool.false_eq_true, if_false, Option.bind_some, hLi, h3, Sum.elim_inl]
      rw [idx_gtZ (l := (shAll b p).1) hc.1 (by omega)]
      simp only [Option.bind_some, h4, show idx (gt (isl b p) k).Buses 0 = some (gt (gt (isl b p) k).Buses 0) from idx_gt p5, hbe, hpe, refrating_eq hb hp, isl_of h hx]
      rw [dF (by omega)]
      simp only [Bool.false_eq_true, if_false, Option.bind_some, Sum.elim_inl]
  · unfold dynposlaw18_ShedOrder_L1
    simp only [nlt_len, Bool.false_eq_true, if_false]
end
theorem law_ShedOrder (t : List Int) : dynposlaw18_ShedOrder t = some true := by
  unfold dynposlaw18_ShedOrder
  refine wp_eq.1 ((wpNew t).bind fun r hr => ?_)
  refine (wpWorld hr).bind fun w hw => ?_
  obtain ⟨b, p0, l, a, rfl, hg, hgp, hs, hb, hp0, h0⟩ := hw
  simp only
  have hbe : (⟨b.Buses, b.Breakers, b.Sources, b.Consumers, b.Phase, b.Frequency⟩ : Board) = b := rfl
  have hpe : (⟨p0.Closed, p0.Sources, p0.Limits, p0.Broken⟩ : Power) = p0 := rfl
  have hce : (⟨(clrP b p0).Closed, (clrP b p0).Sources, (clrP b p0).Limits, (clrP b p0).Broken⟩ : Power) = clrP b p0 := rfl
  have hp := sm_clrP (b := b) hp0
  have h := stt_clrP h0
  simp only [hbe, hpe, refclear_eq hb hp0 h0, Option.bind_some, hce]
  generalize clrP b p0 = p at hp h ⊢
  have hqe : (⟨(shdP b p).Closed, (shdP b p).Sources, (shdP b p).Limits, (shdP b p).Broken⟩ : Power) = shdP b p := rfl
  have hchk : chk b = 0 := by
    obtain ⟨⟨hl, hg⟩, _⟩ := stt_zero.1 h
    exact chk_zero.2 ⟨hl, hg⟩
  simp only [shed_eq hb hp h, Option.bind_some, hqe, show ((0 : Int) != 0) = false from rfl, Bool.false_eq_true, if_false, refstate_eq hb (sm_shd hp h), stt_shd h, order_eq hb hchk, refislands_eq hb hp h, order_L1 (l := l) (a := a) (e := 0) (A := (shAll b p).2.2) (r := p0) hb hp h 0 (clrA b p0), Sum.elim_inl, sane_T]
  exact wp_some.2 rfl
end Rx
end Go.Proofs.YtfnphdhcgkondaaGreat
