/- What follows a leader: plain laws of chapter 16. -/
import Derived.Test.YtfnphdhcgkondaaGreatS2s
set_option linter.unusedVariables false
set_option linter.unusedSimpArgs false
namespace Go.Proofs.YtfnphdhcgkondaaGreat
open Go Go.RowKit Dp
namespace Rx

theorem setAll_gt (y : Running) : ∀ (l : List Int) (S : List Running) (j : Nat), (∀ k ∈ l, 0 ≤ k ∧ k < S.length) → gt (setAll S y l) j = if (j : Int) ∈ l then like (gt S j) y else gt S j
  | [], S, j, _ => by simp [setAll]
  | k :: l, S, j, h => by
    obtain ⟨k0, k1⟩ := h k List.mem_cons_self
    have ih := setAll_gt y l (S.set k.toNat (like (gt S k.toNat) y)) j (fun q hq => by rw [List.length_set]; exact h q (List.mem_cons_of_mem _ hq))
    show gt (setAll (S.set k.toNat (like (gt S k.toNat) y)) y l) j = _
    rw [ih, gt_set (by omega)]
    by_cases hjk : j = k.toNat
    · have e : (j : Int) = k := by omega
      rw [if_pos hjk, if_pos (show (j : Int) ∈ k :: l by rw [e]; exact List.mem_cons_self)]
      by_cases hl : (j : Int) ∈ l
      · rw [if_pos hl, ← hjk]; rfl
      · rw [if_neg hl, ← hjk]
    · have e : (j : Int) ≠ k := by omega
      rw [if_neg hjk]
      by_cases hl : (j : Int) ∈ l
      · rw [if_pos hl, if_pos (List.mem_cons_of_mem _ hl)]
      · rw [if_neg hl, if_neg (fun hh => by rcases List.mem_cons.1 hh with h | h; exact e h; exact hl h)]
section
variable {b : Board} {p : Power}
/-- the leader of a generator -/
def ldr (b : Board) (p : Power) (k : Nat) : Nat := (gt (isleOf b p (conn b p (k : Int)).1).Sources 0).toNat
def fol (b : Board) (p : Power) (k : Nat) : Running := if (conn b p (k : Int)).2 = true then like (gt p.Sources k) (gt p.Sources (ldr b p k)) else gt p.Sources k
def folL (b : Board) (p : Power) : List Running := (List.range p.Sources.length).map (fol b p)
def folP (b : Board) (p : Power) : Power := ⟨p.Closed, folL b p, p.Limits, p.Broken⟩
theorem folL_len : (folL b p).length = p.Sources.length := by simp [folL]
theorem folL_gt {k : Nat} (h : k < p.Sources.length) : gt (folL b p) k = fol b p k := by unfold folL; rw [gt_map_range _ h]
theorem isl_src {x : Island} (hx : x ∈ isl b p) {s : Int} (hs : s ∈ x.Sources) : ∃ j : Nat, s = (j : Int) ∧ j < b.Sources.length ∧ (conn b p (j : Int)).2 = true ∧ x = isleOf b p (conn b p (j : Int)).1 := by
  obtain ⟨f, hf, rfl, _⟩ := mem_isl.1 hx
  obtain ⟨j, h1, h2, h3, h4⟩ := mem_src.1 hs
  refine ⟨j, h4, h1, h2, ?_⟩
  unfold isleOf
  rw [h3, Int.toNat_natCast]
theorem src_isl (hb : BrkOk b) {j : Nat} (hj : j < b.Sources.length) (hc : (conn b p (j : Int)).2 = true) : isleOf b p (conn b p (j : Int)).1 ∈ isl b p ∧ (j : Int) ∈ (isleOf b p (conn b p (j : Int)).1).Sources := by
  have hbd := conn_bd hb hc
  refine ⟨(isleOf_in hb hbd.1 hbd.2).1, ?_⟩
  unfold isleOf
  have := (grp_bd (p := p) hb (show (conn b p (j : Int)).1.toNat < b.Buses.toNat by omega)).1
  exact mem_src.2 ⟨j, hj, hc, by omega, rfl⟩
theorem ldr_spec (hb : BrkOk b) {j : Nat} (hj : j < b.Sources.length) (hc : (conn b p (j : Int)).2 = true) :
    gt (isleOf b p (conn b p (j : Int)).1).Sources 0 = (ldr b p j : Int) ∧ ldr b p j < b.Sources.length ∧ (conn b p (ldr b p j : Int)).2 = true ∧ isleOf b p (conn b p (ldr b p j : Int)).1 = isleOf b p (conn b p (j : Int)).1 ∧ ldr b p (ldr b p j) = ldr b p j := by
  obtain ⟨h1, h2⟩ := src_isl hb hj hc
  have hlen : 0 < (isleOf b p (conn b p (j : Int)).1).Sources.length := List.length_pos_of_mem h2
  obtain ⟨i, e1, e2, e3, e4⟩ := isl_src h1 (gt_mem hlen)
  have e5 : ldr b p j = i := by unfold ldr; rw [e1, Int.toNat_natCast]
  rw [e5]
  refine ⟨e1, e2, e3, e4.symm, ?_⟩
  unfold ldr
  rw [← e4, e1, Int.toNat_natCast]
theorem follow_loop (hb : BrkOk b) (hl : Lim b) (hsl : p.Sources.length = b.Sources.length) : loopO (sync_Follow_L1 p (p.Closed, p.Sources, p.Limits, p.Broken) (isl b p)) ((0 : Int), p.Sources) = some (folL b p) := by
  have hbus := hl.bus
  have hsr := hl.src
  have hil := isl_len (b := b) (p := p)
  refine wp_eq.1 ?_
  refine wp_upto (isl b p).length (fun k s => ∃ out, s = ((k : Int), out) ∧ out.length = p.Sources.length ∧ ∀ j, j < p.Sources.length → gt out j = if ∃ q, q < k ∧ (j : Int) ∈ (gt (isl b p) q).Sources then fol b p j else gt p.Sources j) ⟨_, rfl, rfl, fun j hj => by rw [if_neg (by rintro ⟨q, hq, _⟩; omega)]⟩ ?_ ?_
  · rintro k s hk ⟨out, rfl, h1, h2⟩
    have hx := gt_mem hk
    have hsrc : ∀ s ∈ (gt (isl b p) k).Sources, 0 ≤ s ∧ s < (p.Sources.length : Int) := fun s hs => by
      obtain ⟨j, rfl, h, _⟩ := isl_src hx hs
      omega
    unfold sync_Follow_L1
    simp only [lt_len hk, if_true, idx_gt hk, Option.bind_some]
    have hsplit : ∀ j : Nat, (∃ q, q < k + 1 ∧ (j : Int) ∈ (gt (isl b p) q).Sources) ↔ (∃ q, q < k ∧ (j : Int) ∈ (gt (isl b p) q).Sources) ∨ (j : Int) ∈ (gt (isl b p) k).Sources := fun j => by
      constructor
      · rintro ⟨q, hq, h⟩
        by_cases hqk : q = k
        · subst hqk; exact .inr h
        · exact .inl ⟨q, by omega, h⟩
      · rintro (⟨q, hq, h⟩ | h)
        · exact ⟨q, by omega, h⟩
        · exact ⟨k, by omega, h⟩
    by_cases h0 : (gt (isl b p) k).Sources.length = 0
    · have e1 : decide (len (gt (isl b p) k).Sources > 0) = false := dF (by unfold len; omega)
      simp only [e1, Bool.false_eq_true, if_false, Option.bind_some]
      refine wp_some.2 ⟨out, by rw [W_succ (by omega)], h1, fun j hj => ?_⟩
      rw [h2 j hj]
      have e2 : (gt (isl b p) k).Sources = [] := List.length_eq_zero_iff.1 h0
      have hi : (∃ q, q < k + 1 ∧ (j : Int) ∈ (gt (isl b p) q).Sources) ↔ (∃ q, q < k ∧ (j : Int) ∈ (gt (isl b p) q).Sources) := by
        rw [hsplit, e2]; simp
      by_cases hh : ∃ q, q < k ∧ (j : Int) ∈ (gt (isl b p) q).Sources
      · rw [if_pos hh, if_pos (hi.2 hh)]
      · rw [if_neg hh, if_neg (fun h => hh (hi.1 h))]
    · have hlen : 0 < (gt (isl b p) k).Sources.length := by omega
      have e1 : decide (len (gt (isl b p) k).Sources > 0) = true := dT (by unfold len; omega)
      obtain ⟨i, f1, f2, f3, f4⟩ := isl_src hx (gt_mem hlen)
      have e0 : idx (gt (isl b p) k).Sources 0 = some (i : Int) := by
        have := idx_gt hlen
        rw [f1] at this
        exact this
      have hsm : Sm (gt (isl b p) k).Sources := by
        obtain ⟨f, _, e, _⟩ := mem_isl.1 hx
        rw [e]
        have := (isle_len (b := b) (p := p) f).2.1
        unfold Sm; omega
      have hset := set_eq (p := ⟨p.Closed, out, p.Limits, p.Broken⟩) (y := gt p.Sources i) hsm (fun s hs => by have := hsrc s hs; simp only; omega)
      simp only [e1, if_true, e0, idx_gt (show i < p.Sources.length by omega), Option.bind_some, hset]
      refine wp_some.2 ⟨_, by rw [W_succ (by omega)], by rw [setAll_len]; exact h1, fun j hj => ?_⟩
      rw [setAll_gt _ _ _ _ (fun s hs => by have := hsrc s hs; omega), h2 j hj]
      by_cases hjx : (j : Int) ∈ (gt (isl b p) k).Sources
      · rw [if_pos hjx, if_pos ((hsplit j).2 (.inr hjx))]
        obtain ⟨j', g1, g2, g3, g4⟩ := isl_src hx hjx
        have : j' = j := by omega
        subst this
        have hld : ldr b p j' = i := by unfold ldr; rw [← g4, f1, Int.toNat_natCast]
        have hf : fol b p j' = like (gt p.Sources j') (gt p.Sources i) := by unfold fol; rw [if_pos g3, hld]
        rw [hf]
        split <;> rfl
      · rw [if_neg hjx]
        by_cases hh : ∃ q, q < k ∧ (j : Int) ∈ (gt (isl b p) q).Sources
        · rw [if_pos hh, if_pos ((hsplit j).2 (.inl hh))]
        · rw [if_neg hh, if_neg (fun h => ((hsplit j).1 h).elim hh hjx)]
  · rintro s ⟨out, rfl, h1, h2⟩
    unfold sync_Follow_L1
    simp only [nlt_len, Bool.false_eq_true, if_false]
    refine wp_some.2 ?_
    have : out = folL b p := by
      apply ext_gt
      · rw [folL_len, h1]
      · intro j hj
        rw [h2 j (by omega), folL_gt (by omega)]
        by_cases hc : (conn b p (j : Int)).2 = true
        · obtain ⟨g1, g2⟩ := src_isl hb (show j < b.Sources.length by omega) hc
          obtain ⟨q, hq, e⟩ := mem_gt g1
          rw [if_pos ⟨q, hq, by rw [e]; exact g2⟩]
        · have hf : fol b p j = gt p.Sources j := by unfold fol; rw [if_neg hc]
          rw [hf]
          split <;> rfl
    rw [this]
theorem follow_eq (hb : SmB b) (hp : SmP p) (h : stt b p = 0) : sync_Follow b p = some (0, p.Closed, folL b p, p.Limits, p.Broken) := by
  obtain ⟨⟨hl, hg⟩, ⟨s1, s2, s3⟩, _⟩ := stt_zero.1 h
  unfold sync_Follow
  have e : (stt b p != 0) = false := by rw [h]; rfl
  simp only [state_eq hb hp, Option.bind_some, e, Bool.false_eq_true, if_false, clone_eq hp, islands_eq hb hp h, follow_loop hg.1 hl s2]

/-! what does not change who is connected -/
/-- a state with other frequencies and phases is valid as well -/
theorem stt_same {q : Power} (h : stt b p = 0) (hc : q.Closed = p.Closed) (hl : q.Sources.length = p.Sources.length) (hli : q.Limits = p.Limits) (hbr : q.Broken = p.Broken) (hr : ∀ k, k < q.Sources.length → RunOk (gt q.Sources k)) : stt b q = 0 := by
  obtain ⟨h1, ⟨s1, s2, s3⟩, g1, g2, g3⟩ := stt_zero.1 h
  have hclo : ∀ j n, clo b q j n = clo b p j n := fun j n => clo_congr fun i _ _ _ => by rw [hc]
  refine stt_zero.2 ⟨h1, ⟨by rw [hc]; exact s1, by rw [hl]; exact s2, by rw [hli]; exact s3⟩, by rw [hbr]; exact g1, hr, fun k hk => ?_⟩
  have := g3 k (by rw [← hli]; exact hk)
  unfold LimAt at this ⊢
  rw [hli, hclo]
  exact this
theorem fol_state (j : Nat) : (fol b p j).State = (gt p.Sources j).State := by unfold fol; split <;> rfl
theorem folP_state {j : Nat} (hj : j < p.Sources.length) : (gt (folP b p).Sources j).State = (gt p.Sources j).State := by
  show (gt (folL b p) j).State = _
  rw [folL_gt hj, fol_state]
theorem run_like {x y : Running} (hx : RunOk x) (hy : RunOk y) : RunOk (like x y) := ⟨hx.1, hx.2.1, hy.2.2.1, hy.2.2.2⟩
theorem stt_fol (h : stt b p = 0) : stt b (folP b p) = 0 := by
  obtain ⟨⟨hl, hg⟩, ⟨s1, s2, s3⟩, g1, g2, g3⟩ := stt_zero.1 h
  refine stt_same h rfl folL_len rfl rfl fun k hk => ?_
  have hk' : k < p.Sources.length := by rw [← folL_len (b := b)]; exact hk
  show RunOk (gt (folL b p) k)
  rw [folL_gt hk']
  unfold fol
  split
  · rename_i hc
    obtain ⟨_, e, _⟩ := ldr_spec hg.1 (show k < b.Sources.length by omega) hc
    exact run_like (g2 k hk') (g2 _ (by omega))
  · exact g2 k hk'
end
end Rx
end Go.Proofs.YtfnphdhcgkondaaGreat
