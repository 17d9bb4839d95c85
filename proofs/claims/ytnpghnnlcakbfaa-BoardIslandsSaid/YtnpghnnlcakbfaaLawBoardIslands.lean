/- The law BoardIslands, plainly. -/
import Derived.Test.YtnpghnnlcakbfaaLb8
namespace Go.Proofs.Ytnpghnnlcakbfaa
open Go Go.RowKit Dp

section
variable {b : Board} {p : Power}
theorem isle_sm (hb : SmB b) (hl : Lim b) (f : Nat) : Sm (isle b p f).Buses ∧ Sm (isle b p f).Sources ∧ Sm (isle b p f).Consumers := by
  obtain ⟨h1, h2, h3⟩ := isle_len (b := b) (p := p) f
  have := hl.bus
  have := hl.src
  have := hl.con
  exact ⟨by unfold Sm; omega, by unfold Sm; omega, by unfold Sm; omega⟩
/-- different islands of the list share no bus -/
theorem isl_apart {q q' : Nat} (hq : q < (isl b p).length) (hq' : q' < (isl b p).length) {k : Int} (h : k ∈ (gt (isl b p) q).Buses) (h' : k ∈ (gt (isl b p) q').Buses) : gt (isl b p) q = gt (isl b p) q' := by
  rw [(isleOf_uniq (gt_mem hq) h).2.2, (isleOf_uniq (gt_mem hq') h').2.2]
theorem isl_nodup : (isl b p).Pairwise fun x y => ∀ k, k ∈ x.Buses → k ∉ y.Buses := by
  unfold isl
  refine List.Pairwise.filter _ ?_
  unfold islAt
  refine List.Pairwise.map _ (R := fun f g => f ≠ g) (fun f g hfg k h h' => hfg ?_) (List.nodup_iff_pairwise_ne.1 List.nodup_range)
  obtain ⟨i, h1, h2, rfl⟩ := mem_bus.1 (show k ∈ (isle b p f).Buses from h)
  obtain ⟨j, h3, h4, h5⟩ := mem_bus.1 (show (i : Int) ∈ (isle b p g).Buses from h')
  have : i = j := by omega
  subst this
  omega
theorem isl_lt {q q' : Nat} (hqq : q < q') (hq' : q' < (isl b p).length) {k : Int} (h : k ∈ (gt (isl b p) q).Buses) : k ∉ (gt (isl b p) q').Buses := by
  have := List.pairwise_iff_getElem.1 (isl_nodup (b := b) (p := p)) q q' (by omega) hq' hqq k
  rw [gt_get (by omega)] at h
  rw [gt_get hq']
  exact this h

/-- how often bus k has been seen: in the islands before q -/
def SeenTo (b : Board) (p : Power) (q : Nat) (k : Int) : Prop := ∃ i, i < q ∧ k ∈ (gt (isl b p) i).Buses
open Classical in
noncomputable def seenAt (b : Board) (p : Power) (q m : Nat) (x : Island) : List Int := (List.range b.Buses.toNat).map fun k : Nat => ((if SeenTo b p q (k : Int) then 1 else 0) + (if (k : Int) ∈ x.Buses.take m then 1 else 0) : Int)
theorem buses_loop (hb : SmB b) (hp : SmP p) (h : stt b p = 0) {q : Nat} (hq : q < (isl b p).length) :
    loopR (dynposlaw15_BoardIslands_L3 b p (gt (isl b p) q)) (seenAt b p q 0 (gt (isl b p) q), (0 : Int)) = some (.inl (seenAt b p q (gt (isl b p) q).Buses.length (gt (isl b p) q))) := by
  obtain ⟨⟨hl, hg⟩, _⟩ := stt_zero.1 h
  have hbus := hl.bus
  have hmem := gt_mem hq
  obtain ⟨f, hf, ex, _⟩ := mem_isl.1 hmem
  have hsm := isle_sm (p := p) hb hl f
  have hlen := (isle_len (b := b) (p := p) f).1
  have hnd : (gt (isl b p) q).Buses.Nodup := by rw [ex]; exact rangeF_nodup _ _
  have hun : ∀ k ∈ (gt (isl b p) q).Buses, 0 ≤ k ∧ k < b.Buses ∧ gt (isl b p) q = isleOf b p k := fun k hk => by
    have := isleOf_uniq hmem hk
    exact ⟨this.1, by omega, this.2.2⟩
  generalize hx : gt (isl b p) q = x at *
  rw [← ex] at hsm hlen
  refine loop_run (step := dynposlaw15_BoardIslands_L3 b p x) (fun m => (seenAt b p q m x, (m : Int))) x.Buses.length (fun m hm => ?_) (by simp only [dynposlaw15_BoardIslands_L3, nlt_len, Bool.false_eq_true, if_false])
  have hkm := gt_mem hm
  obtain ⟨k0, k1, k2⟩ := hun _ hkm
  have hsl : (seenAt b p q m x).length = b.Buses.toNat := by simp [seenAt]
  obtain ⟨j, hj⟩ := Int.eq_ofNat_of_zero_le k0
  have hjn : j < b.Buses.toNat := by omega
  have e0 : (gt x.Buses m) ∉ x.Buses.take m := by
    intro hh
    obtain ⟨i, hi, he⟩ := (mem_take_gt (Nat.le_of_lt hm)).1 hh
    rw [gt_get (by omega), gt_get hm] at he
    have := (List.getElem_inj hnd).1 he
    omega
  have e1 : ¬ SeenTo b p q (gt x.Buses m) := by
    rintro ⟨i, hi, hk⟩
    exact isl_lt hi hq hk (hx ▸ hkm)
  have hgs : gt (seenAt b p q m x) j = 0 := by
    unfold seenAt
    rw [gt_map_range _ hjn]
    rw [← hj, if_neg e1, if_neg e0]
    rfl
  have e2 : (seenAt b p q m x).set j 1 = seenAt b p q (m + 1) x := by
    apply ext_gt
    · simp [seenAt]
    · intro i hi
      have hi' : i < b.Buses.toNat := by simpa [seenAt] using hi
      rw [gt_set (by omega)]
      unfold seenAt
      rw [gt_map_range _ hi', gt_map_range _ hi', take_gt hm]
      by_cases hij : i = j
      · subst hij
        rw [if_pos rfl]
        have hi2 : (i : Int) = gt x.Buses m := hj.symm
        rw [hi2, if_neg e1, if_pos (List.mem_append_right _ (List.mem_singleton.2 rfl))]
        rfl
      · rw [if_neg hij]
        congr 1
        have : (i : Int) ∈ x.Buses.take m ++ [gt x.Buses m] ↔ (i : Int) ∈ x.Buses.take m := by
          rw [List.mem_append, List.mem_singleton, hj]
          constructor
          · rintro (h | h)
            · exact h
            · have : i = j := by exact Int.ofNat.inj h
              contradiction
          · exact .inl
        simp only [this]
  have e3 : decide (gt x.Buses m < 0) = false := dF (by omega)
  have e4 : decide (gt x.Buses m ≥ len (seenAt b p q m x)) = false := dF (by unfold len; omega)
  simp only [dynposlaw15_BoardIslands_L3, lt_len hm, if_true, idx_gt hm, of_eq hb hp, ofB_in h k0 k1, Option.bind_some, Bool.not_true, Bool.false_eq_true, if_false, ← k2, island_eq hsm.1 hsm.2.1 hsm.2.2, decide_true, Bool.not_true, Bool.false_eq_true, if_false, Option.bind_some, e3, e4]
  rw [hj]
  simp only [Int.ofNat_eq_natCast, idx_gt (show j < (seenAt b p q m x).length by omega), Option.bind_some, hgs, show W (0 + 1) = 1 from W_sm (by omega) (by omega), setO_nat (show j < (seenAt b p q m x).length by omega), e2, W_succ (show m < 1000000000000000000 by unfold Sm at hsm; omega)]
theorem srcs_in (hb : SmB b) (hp : SmP p) (h : stt b p = 0) {x : Island} (hx : x ∈ isl b p) : loopR (dynposlaw15_BoardIslands_L4 b p x) 0 = some (.inl ()) := by
  obtain ⟨⟨hl, hg⟩, _⟩ := stt_zero.1 h
  obtain ⟨f, hf, rfl, _⟩ := mem_isl.1 hx
  have hsm := isle_sm (p := p) hb hl f
  refine loop_run (step := dynposlaw15_BoardIslands_L4 b p (isle b p f)) (fun k => (k : Int)) (isle b p f).Sources.length (fun k hk => ?_) (by simp only [dynposlaw15_BoardIslands_L4, nlt_len, Bool.false_eq_true, if_false])
  obtain ⟨j, h1, h2, h3, h4⟩ := mem_src.1 (gt_mem hk)
  have hbd := conn_bd (p := p) hg.1 h2
  have hc : connB b p (j : Int) = ((conn b p (j : Int)).1, true) := by
    unfold connB; rw [if_pos h]; rw [← h2]
  have hm : (conn b p (j : Int)).1 ∈ (isle b p f).Buses := mem_bus.2 ⟨_, by omega, h3, by omega⟩
  simp only [dynposlaw15_BoardIslands_L4, lt_len hk, if_true, idx_gt hk, h4, connB_eq hb hp, hc, Option.bind_some, Bool.not_true, Bool.false_eq_true, if_false, has_eq hsm.1, dT hm, W_succ (sm_lt hsm.2.1 hk)]
theorem cons_in (hb : SmB b) (hp : SmP p) (h : stt b p = 0) {x : Island} (hx : x ∈ isl b p) : loopR (dynposlaw15_BoardIslands_L5 b p x) 0 = some (.inl ()) := by
  obtain ⟨⟨hl, hg⟩, _⟩ := stt_zero.1 h
  obtain ⟨f, hf, rfl, _⟩ := mem_isl.1 hx
  have hsm := isle_sm (p := p) hb hl f
  refine loop_run (step := dynposlaw15_BoardIslands_L5 b p (isle b p f)) (fun k => (k : Int)) (isle b p f).Consumers.length (fun k hk => ?_) (by simp only [dynposlaw15_BoardIslands_L5, nlt_len, Bool.false_eq_true, if_false])
  obtain ⟨j, h1, h2, h3, h4⟩ := mem_con.1 (gt_mem hk)
  have hbd := led_bd (p := p) hg.1 h2
  have hc : fedB b p (j : Int) = ((led b p 3 (j : Int)).1, true) := by
    unfold fedB; rw [if_pos h]; rw [← h2]
  have hm : (led b p 3 (j : Int)).1 ∈ (isle b p f).Buses := mem_bus.2 ⟨_, by omega, h3, by omega⟩
  simp only [dynposlaw15_BoardIslands_L5, lt_len hk, if_true, idx_gt hk, h4, fedB_eq hb hp, hc, Option.bind_some, Bool.not_true, Bool.false_eq_true, if_false, has_eq hsm.1, dT hm, W_succ (sm_lt hsm.2.2 hk)]
theorem islands_loop (hb : SmB b) (hp : SmP p) (h : stt b p = 0) : loopR (dynposlaw15_BoardIslands_L1 b p (isl b p)) (List.replicate b.Buses.toNat (Rep.zero : Int), (0 : Int)) = some (.inl (List.replicate b.Buses.toNat 1)) := by
  obtain ⟨⟨hl, hg⟩, _⟩ := stt_zero.1 h
  have hbus := hl.bus
  have hil := isl_len (b := b) (p := p)
  have hrun := loop_run (step := dynposlaw15_BoardIslands_L1 b p (isl b p)) (fun q => (seenAt b p q 0 ⟨[], [], []⟩, (q : Int))) (isl b p).length (r := .inl (seenAt b p (isl b p).length 0 ⟨[], [], []⟩)) (fun q hq => ?nx) (by simp only [dynposlaw15_BoardIslands_L1, nlt_len, Bool.false_eq_true, if_false])
  case nx =>
    have hmem := gt_mem hq
    obtain ⟨f, hf, ex, hne⟩ := mem_isl.1 hmem
    have e1 : seenAt b p q 0 ⟨[], [], []⟩ = seenAt b p q 0 (gt (isl b p) q) := by
      unfold seenAt
      refine List.map_congr_left fun k _ => ?_
      simp
    have e2 : seenAt b p q (gt (isl b p) q).Buses.length (gt (isl b p) q) = seenAt b p (q + 1) 0 ⟨[], [], []⟩ := by
      unfold seenAt
      refine List.map_congr_left fun k _ => ?_
      rw [List.take_length]
      by_cases h1 : SeenTo b p q (k : Int)
      · have h2 : (k : Int) ∉ (gt (isl b p) q).Buses := by
          obtain ⟨i, hi, hk⟩ := h1
          exact isl_lt hi hq hk
        have h3 : SeenTo b p (q + 1) (k : Int) := by
          obtain ⟨i, hi, hk⟩ := h1
          exact ⟨i, by omega, hk⟩
        rw [if_pos h1, if_neg h2, if_pos h3]
        simp
      · by_cases h2 : (k : Int) ∈ (gt (isl b p) q).Buses
        · have h3 : SeenTo b p (q + 1) (k : Int) := ⟨q, by omega, h2⟩
          rw [if_neg h1, if_pos h2, if_pos h3]
          simp
        · have h3 : ¬ SeenTo b p (q + 1) (k : Int) := by
            rintro ⟨i, hi, hk⟩
            by_cases hiq : i = q
            · subst hiq; exact h2 hk
            · exact h1 ⟨i, by omega, hk⟩
          rw [if_neg h1, if_neg h2, if_neg h3]
          simp
    have hne' : (gt (isl b p) q).Buses ≠ [] := by rw [ex]; exact hne
    have hpos : 0 < (gt (isl b p) q).Buses.length := List.length_pos_iff.2 hne'
    have hz : (len (gt (isl b p) q).Buses == 0) = false := by
      unfold len
      exact beqF (by omega)
    obtain ⟨k0, k1, k2⟩ := isleOf_uniq hmem (gt_mem hpos)
    have hi0 : idx (gt (isl b p) q).Buses 0 = some (gt (gt (isl b p) q).Buses 0) := idx_gt hpos
    have hlive : board_Live b p (gt (gt (isl b p) q).Buses 0) = some (decide (0 < (gt (isl b p) q).Sources.length)) := by
      rw [live_eq hb hp, ofB_in h k0 (by omega)]
      rw [← k2]
    have hd : decide (len (gt (isl b p) q).Sources > 0) = decide (0 < (gt (isl b p) q).Sources.length) := by rw [decide_eq_decide]; unfold len; omega
    simp only [dynposlaw15_BoardIslands_L1, lt_len hq, if_true, idx_gt hq, Option.bind_some, e1, buses_loop hb hp h hq, Sum.elim_inl, srcs_in hb hp h hmem, cons_in hb hp h hmem, hz, Bool.false_eq_true, if_false, hi0, hlive, hd, decide_true, Bool.not_true, e2, W_succ (show q < 1000000000000000000 by omega)]
  have e0 : seenAt b p 0 0 ⟨[], [], []⟩ = List.replicate b.Buses.toNat (Rep.zero : Int) := by
    apply ext_gt
    · simp [seenAt]
    · intro k hk
      have hk' : k < b.Buses.toNat := by simpa [seenAt] using hk
      rw [gt_replicate hk']
      unfold seenAt
      rw [gt_map_range _ hk', if_neg (by rintro ⟨i, hi, _⟩; omega)]
      rfl
  have e1 : seenAt b p (isl b p).length 0 ⟨[], [], []⟩ = List.replicate b.Buses.toNat 1 := by
    apply ext_gt
    · simp [seenAt]
    · intro k hk
      have hk' : k < b.Buses.toNat := by simpa [seenAt] using hk
      unfold seenAt
      obtain ⟨h1, h2⟩ := isleOf_in (p := p) hg.1 (k := (k : Int)) (by omega) (by omega)
      obtain ⟨q, hq, e⟩ := mem_gt h1
      rw [gt_map_range _ hk', if_pos ⟨q, hq, by rw [e]; exact h2⟩, gt_get (by simpa using hk')]
      simp
  rw [e0, e1] at hrun
  exact hrun
theorem ones_loop (n : Nat) (hn : n ≤ 1000) : loopR (dynposlaw15_BoardIslands_L2 (List.replicate n 1)) 0 = some (.inl ()) := by
  refine loop_run (step := dynposlaw15_BoardIslands_L2 (List.replicate n 1)) (fun k => (k : Int)) n (fun k hk => ?_) ?_
  · have e1 : decide ((k : Int) < len (List.replicate n (1 : Int))) = true := dT (by unfold len; simp; omega)
    have e2 : idx (List.replicate n (1 : Int)) (k : Int) = some 1 := by rw [idx_nat]; simp [hk]
    simp only [dynposlaw15_BoardIslands_L2, e1, if_true, e2, Option.bind_some, bne_self_eq_false, Bool.false_eq_true, if_false, W_succ (show k < 1000000000000000000 by omega)]
  · have e1 : decide ((n : Int) < len (List.replicate n (1 : Int))) = false := dF (by unfold len; simp)
    simp only [dynposlaw15_BoardIslands_L2, e1, Bool.false_eq_true, if_false]
end

theorem dynposlaw15_BoardIslands_law (t : List Int) : dynposlaw15_BoardIslands t = some true := by
  obtain ⟨st, h0⟩ := new_run' t
  obtain ⟨⟨b, st1⟩, h1, hb⟩ := wpBoard st
  simp only at hb
  obtain ⟨⟨p, st2⟩, h2, hp⟩ := wpPower st1 hb
  simp only at hp
  have hst := hp.stt hb
  have hsb := hb.sm
  have hsp := hp.sm hb
  have hbus := hb.bus
  unfold dynposlaw15_BoardIslands
  simp only [h0, h1, h2, Option.bind_some, mkL_Z (α := Int) (show 0 ≤ b.Buses by omega) (by omega), islands_eq hsb hsp hst, islands_loop hsb hsp hst, Sum.elim_inl, ones_loop b.Buses.toNat (by omega), sane15_run]

end Go.Proofs.Ytnpghnnlcakbfaa
