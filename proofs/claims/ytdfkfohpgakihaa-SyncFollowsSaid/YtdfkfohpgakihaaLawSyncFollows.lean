/- The law SyncFollows, plainly. -/
import Derived.Test.YtdfkfohpgakihaaS4
import Derived.KernelRfl
set_option linter.unusedVariables false
set_option linter.unusedSimpArgs false
namespace Go.Proofs.Ytdfkfohpgakihaa
open Go Go.RowKit Dp
namespace Rx
theorem sane16 : dynposlaw16_sane = some true := by kernel_rfl

section
variable {b : Board} {p : Power}
/-- a tick keeps those together that follow -/
theorem tick_run {x : Running} (h : RunOk x) : RunOk (tick x) := by
  obtain ⟨h1, h2, h3, h4⟩ := h
  unfold tick
  split
  · exact ⟨h1, h2, h3, by simp only; omega, by simp only; omega⟩
  · exact ⟨h1, h2, h3, h4⟩
theorem tick_state (x : Running) : (tick x).State = x.State := by unfold tick; split <;> rfl
theorem turned_gt {k : Nat} (hk : k < p.Sources.length) : gt (turned p).Sources k = tick (gt p.Sources k) := by
  show gt (p.Sources.map tick) k = _
  rw [gt_get (by simpa using hk), List.getElem_map, gt_get hk]
theorem turned_len : (turned p).Sources.length = p.Sources.length := by show (p.Sources.map tick).length = _; simp
theorem stt_turned (h : stt b p = 0) : stt b (turned p) = 0 := by
  obtain ⟨_, _, _, g2, _⟩ := stt_zero.1 h
  refine stt_same h rfl turned_len rfl rfl fun k hk => ?_
  rw [turned_len] at hk
  rw [turned_gt hk]
  exact tick_run (g2 k hk)
theorem conn_state {j : Nat} (hc : (conn b p (j : Int)).2 = true) : (gt p.Sources j).State = 2 := by
  unfold conn at hc
  by_cases h1 : 0 ≤ (j : Int) ∧ (j : Int) ≤ (p.Sources.length : Int) - 1
  · rw [if_pos h1] at hc
    by_cases h2 : (gt p.Sources ((j : Int)).toNat).State = 2
    · rw [Int.toNat_natCast] at h2; exact h2
    · rw [if_neg h2] at hc; cases hc
  · rw [if_neg h1] at hc; cases hc
/-- they follow: told by frequency and phase -/
theorem foll_of (hfol : ∀ k, k < p.Sources.length → (conn b p (k : Int)).2 = true → (gt p.Sources k).Frequency = (gt p.Sources (ldr b p k)).Frequency ∧ (gt p.Sources k).Phase = (gt p.Sources (ldr b p k)).Phase) : folL b p = p.Sources := by
  apply ext_gt
  · exact folL_len
  · intro k hk
    rw [folL_len] at hk
    rw [folL_gt hk]
    unfold fol
    split
    · rename_i hc
      obtain ⟨h1, h2⟩ := hfol k hk hc
      unfold like
      rw [← h1, ← h2]
    · rfl
theorem foll_at (h : folL b p = p.Sources) {k : Nat} (hk : k < p.Sources.length) (hc : (conn b p (k : Int)).2 = true) : (gt p.Sources k).Frequency = (gt p.Sources (ldr b p k)).Frequency ∧ (gt p.Sources k).Phase = (gt p.Sources (ldr b p k)).Phase := by
  have e : gt (folL b p) k = gt p.Sources k := by rw [h]
  rw [folL_gt hk] at e
  unfold fol at e
  rw [if_pos hc] at e
  rw [← e]
  exact ⟨rfl, rfl⟩
theorem foll_turned (h : stt b p = 0) (hf : folL b p = p.Sources) : folL b (turned p) = (turned p).Sources := by
  obtain ⟨⟨hl, hg⟩, ⟨s1, s2, s3⟩, g1, g2, g3⟩ := stt_zero.1 h
  have hst : ∀ j, j < p.Sources.length → (gt (turned p).Sources j).State = (gt p.Sources j).State := fun j hj => by rw [turned_gt hj, tick_state]
  refine foll_of fun k hk hc => ?_
  rw [turned_len] at hk
  rw [conn_same (p := p) (q := turned p) rfl turned_len hst] at hc
  rw [ldr_same (p := p) (q := turned p) rfl turned_len hst]
  obtain ⟨_, e2, e3, _, _⟩ := ldr_spec hg.1 (show k < b.Sources.length by omega) hc
  obtain ⟨f1, f2⟩ := foll_at hf hk hc
  rw [turned_gt hk, turned_gt (show ldr b p k < p.Sources.length by omega)]
  unfold tick
  rw [if_pos (conn_state hc), if_pos (conn_state e3)]
  simp only [f1, f2]
  exact ⟨trivial, trivial⟩
end
theorem sm_fol {b : Board} {p : Power} (h : SmP p) : SmP (folP b p) := ⟨h.1, by show Sm (folL b p); unfold Sm; rw [folL_len]; exact h.2.1, h.2.2.1, h.2.2.2⟩
theorem sm_turned {p : Power} (h : SmP p) : SmP (turned p) := ⟨h.1, by unfold Sm; rw [turned_len]; exact h.2.1, h.2.2.1, h.2.2.2⟩
theorem lead_isle {b : Board} {q : Power} (hb : SmB b) (hq : SmP q) (h : stt b q = 0) {x : Island} (hx : x ∈ isl b q) (hs : 0 < x.Sources.length) : 0 < x.Buses.length ∧ sync_Leader b q (gt x.Buses 0) = some (gt x.Sources 0, true) := by
  obtain ⟨⟨hl, hg⟩, _⟩ := stt_zero.1 h
  obtain ⟨f, hf, hxf, hne⟩ := mem_isl.1 hx
  have hlen : 0 < x.Buses.length := by rw [hxf]; exact List.length_pos_iff.2 hne
  obtain ⟨k0, k1, e⟩ := isleOf_uniq hx (gt_mem hlen)
  refine ⟨hlen, ?_⟩
  rw [lead_eq hb hq]
  unfold lead
  rw [ofB_in' h k0 (by omega), ← e, if_neg (fun h0 => by rw [h0] at hs; cases hs)]
theorem look_loop {b : Board} {q : Power} {x2 : Int × Int × Int × List Int × Int × List Breaker × List Source × List Consumer × List Bool × List Running × List Int × List Part} {x3 : Int × List Bool × List Running × List Int × List Part}
    (hx2 : Board.mk x2.1 x2.2.2.2.2.2.1 x2.2.2.2.2.2.2.1 x2.2.2.2.2.2.2.2.1 x2.2.1 x2.2.2.1 = b) (hx3 : Power.mk x3.2.1 x3.2.2.1 x3.2.2.2.1 x3.2.2.2.2 = q)
    (hb : SmB b) (hq : SmP q) (h : stt b q = 0) (hf : folL b q = q.Sources) : loopO (dynposlaw16_SyncFollows_L1 x2 x3 (isl b q)) 0 = some (.inl ()) := by
  obtain ⟨⟨hl, hg⟩, ⟨s1, s2, s3⟩, g1, g2, g3⟩ := stt_zero.1 h
  have hbus := hl.bus
  have hsr := hl.src
  have hil := isl_len (b := b) (p := q)
  have hx3s : x3.2.2.1 = q.Sources := congrArg Power.Sources hx3
  have hx3' : Power.mk x3.2.1 q.Sources x3.2.2.2.1 x3.2.2.2.2 = q := by rw [← hx3s]; exact hx3
  have hin : ∀ x ∈ isl b q, loopO (dynposlaw16_SyncFollows_L2 x2 x3 x) 0 = some (.inl ()) := fun x hx => by
    have hsl : x.Sources.length ≤ b.Sources.length := by
      obtain ⟨f, _, e, _⟩ := mem_isl.1 hx
      rw [e]
      exact (isle_len (b := b) (p := q) f).2.1
    refine loop_run (step := dynposlaw16_SyncFollows_L2 x2 x3 x) (fun k => (k : Int)) x.Sources.length (fun k hk => ?_) (by simp only [dynposlaw16_SyncFollows_L2, nlt_len, Bool.false_eq_true, if_false])
    obtain ⟨hlb, hld⟩ := lead_isle hb hq h hx (by omega)
    obtain ⟨j, e1, e2, e3, e4⟩ := isl_src hx (gt_mem hk)
    obtain ⟨d1, d2, d3, _, _⟩ := ldr_spec hg.1 e2 e3
    rw [← e4] at d1
    have hj : j < q.Sources.length := by omega
    have hd : ldr b q j < q.Sources.length := by omega
    obtain ⟨f1, f2⟩ := foll_at hf hj e3
    have hag := agree_eq (b := b) (SmR.of (g2 j hj)) (SmR.of (g2 _ hd))
    rw [dT (agr_self hg (g2 j hj) f1 f2)] at hag
    have i0 : idx x.Sources 0 = some (ldr b q j : Int) := by
      have := idx_gt (show 0 < x.Sources.length by omega)
      rw [d1] at this
      exact this
    have i1 : idx x.Buses 0 = some (gt x.Buses 0) := idx_gt hlb
    have n1 : ((ldr b q j : Int) != (ldr b q j : Int)) = false := bneF rfl
    simp only [dynposlaw16_SyncFollows_L2, hx2, hx3s, hx3', lt_len hk, if_true, idx_gt hk, e1, i0, i1, hld, d1, n1, idx_gt hj, idx_gt hd, bneF f1, bneF f2, hag, Option.bind_some, Bool.not_true, Bool.false_eq_true, if_false, W_succ (show k < 1000000000000000000 by omega)]
  refine loop_run (step := dynposlaw16_SyncFollows_L1 x2 x3 (isl b q)) (fun k => (k : Int)) (isl b q).length (fun k hk => ?_) (by simp only [dynposlaw16_SyncFollows_L1, nlt_len, Bool.false_eq_true, if_false])
  simp only [dynposlaw16_SyncFollows_L1, lt_len hk, if_true, idx_gt hk, hin _ (gt_mem hk), Option.bind_some, Sum.elim_inl, W_succ (show k < 1000000000000000000 by omega)]
theorem law_SyncFollows (t : List Int) : dynposlaw16_SyncFollows t = some true := by
  unfold dynposlaw16_SyncFollows dynposlaw16_world
  obtain ⟨⟨l, a⟩, e0, hs⟩ := wpNew t
  obtain ⟨⟨nb, ph, fr, l1, a1, br, S, C⟩, e1, hs1, hb⟩ := wpBoard hs
  simp only at hs1 hb
  obtain ⟨r, e2, l2, a2, cl, run, lim, brk, rfl, hs2, hp⟩ := wpPower hs1 hb
  simp only [e0, e1, e2, Option.bind_some]
  generalize hB : (⟨nb, br, S, C, ph, fr⟩ : Board) = b at hb hp
  generalize hP : (⟨cl, run, lim, brk⟩ : Power) = p at hp
  have hbs := hb.sm
  have hps := hp.sm hb
  have h0 := hp.stt hb
  have hq : (⟨p.Closed, folL b p, p.Limits, p.Broken⟩ : Power) = folP b p := rfl
  have hqs : SmP (folP b p) := sm_fol hps
  have hq0 : stt b (folP b p) = 0 := stt_fol h0
  have hqf : folL b (folP b p) = (folP b p).Sources := fol_fol h0
  have hu : (⟨(folP b p).Closed, (folP b p).Sources.map tick, (folP b p).Limits, (folP b p).Broken⟩ : Power) = turned (folP b p) := rfl
  have hus : SmP (turned (folP b p)) := sm_turned hqs
  have hu0 : stt b (turned (folP b p)) = 0 := stt_turned hq0
  have huf := foll_turned hq0 hqf
  have hqq : (⟨(folP b p).Closed, (folP b p).Sources, (folP b p).Limits, (folP b p).Broken⟩ : Power) = folP b p := rfl
  have huu : (⟨(turned (folP b p)).Closed, (turned (folP b p)).Sources, (turned (folP b p)).Limits, (turned (folP b p)).Broken⟩ : Power) = turned (folP b p) := rfl
  have hbr : Board.mk b.Buses b.Breakers b.Sources b.Consumers b.Phase b.Frequency = b := rfl
  subst hB hP
  simp only at hbr
  simp only [follow_eq hbs hps h0, hq, follow_eq hbs hqs hq0, turn_eq hbs hqs hq0, hu, follow_eq hbs hus hu0, hqf, huf, hqq, huu, same_refl hqs, same_refl hus, refislands_eq hbs hqs hq0, Option.bind_some, bne_self_eq_false, Bool.not_true, Bool.false_eq_true, if_false]
  rw [look_loop (b := ⟨nb, br, S, C, ph, fr⟩) (q := folP ⟨nb, br, S, C, ph, fr⟩ ⟨cl, run, lim, brk⟩) rfl rfl hbs hqs hq0 hqf]
  simp only [Option.bind_some, Sum.elim_inl, sane16]
end Rx
end Go.Proofs.Ytdfkfohpgakihaa
