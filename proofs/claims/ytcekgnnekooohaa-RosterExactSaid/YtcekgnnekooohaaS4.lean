/- States compared; generators that agree with themselves. Plain laws. -/
import Derived.Test.YtcekgnnekooohaaS3
set_option linter.unusedVariables false
set_option linter.unusedSimpArgs false
namespace Go.Proofs.Ytcekgnnekooohaa
open Go Go.RowKit Dp
namespace Rx
open Classical

theorem runB (x y : Running) : (x.State == y.State && (x.Since == y.Since && (x.Frequency == y.Frequency && x.Phase == y.Phase))) = true ↔ x = y := by
  obtain ⟨a, b, c, d⟩ := x
  obtain ⟨a', b', c', d'⟩ := y
  simp
theorem partB (x y : Part) : (x.Kind == y.Kind && x.Number == y.Number) = true ↔ x = y := by
  obtain ⟨a, b⟩ := x
  obtain ⟨a', b'⟩ := y
  simp
theorem dif_self (a : Int) : dif a a = 0 := by unfold dif; simp
theorem agr_self {b : Board} (hg : BGood b) {x y : Running} (hx : RunOk x) (h1 : x.Frequency = y.Frequency) (h2 : x.Phase = y.Phase) : agr b x y := by
  have h3 := hg.2.1
  have h4 := hg.2.2.1
  have h5 := hx.2.2.1
  have hd := dif_self x.Phase
  unfold agr
  rw [← h1, ← h2, hd]
  omega
section
variable {b : Board} {p : Power}
/-- a tick keeps those together that follow -/
theorem tick_run {x : Running} (h : RunOk x) : RunOk (tick x) := by
  obtain ⟨h1, h2, h3, h4⟩ := h
  unfold tick
  split
  · exact ⟨h1, h2, h3, by simp only; omega, by simp only; omega⟩
  · exact ⟨h1, h2, h3, h4⟩
theorem tick_state (x : Running) : (tick x).State = x.State := by unfold tick; split <;> rfl
theorem turned_gt {k : Nat} (hk : k < p.Sources.length) : gt (turned p).Sources k = tick (gt p.Sources k) := by
  show gt (p.Sources.map tick) k = _
  rw [gt_get (by simpa using hk), List.getElem_map, gt_get hk]
theorem turned_len : (turned p).Sources.length = p.Sources.length := by show (p.Sources.map tick).length = _; simp
theorem stt_turned (h : stt b p = 0) : stt b (turned p) = 0 := by
  obtain ⟨_, _, _, g2, _⟩ := stt_zero.1 h
  refine stt_same h rfl turned_len rfl rfl fun k hk => ?_
  rw [turned_len] at hk
  rw [turned_gt hk]
  exact tick_run (g2 k hk)
theorem conn_state {j : Nat} (hc : (conn b p (j : Int)).2 = true) : (gt p.Sources j).State = 2 := by
  unfold conn at hc
  by_cases h1 : 0 ≤ (j : Int) ∧ (j : Int) ≤ (p.Sources.length : Int) - 1
  · rw [if_pos h1] at hc
    by_cases h2 : (gt p.Sources ((j : Int)).toNat).State = 2
    · rw [Int.toNat_natCast] at h2; exact h2
    · rw [if_neg h2] at hc; cases hc
  · rw [if_neg h1] at hc; cases hc
/-- they follow: told by frequency and phase -/
theorem foll_of (hfol : ∀ k, k < p.Sources.length → (conn b p (k : Int)).2 = true → (gt p.Sources k).Frequency = (gt p.Sources (ldr b p k)).Frequency ∧ (gt p.Sources k).Phase = (gt p.Sources (ldr b p k)).Phase) : folL b p = p.Sources := by
  apply ext_gt
  · exact folL_len
  · intro k hk
    rw [folL_len] at hk
    rw [folL_gt hk]
    unfold fol
    split
    · rename_i hc
      obtain ⟨h1, h2⟩ := hfol k hk hc
      unfold like
      rw [← h1, ← h2]
    · rfl
theorem foll_at (h : folL b p = p.Sources) {k : Nat} (hk : k < p.Sources.length) (hc : (conn b p (k : Int)).2 = true) : (gt p.Sources k).Frequency = (gt p.Sources (ldr b p k)).Frequency ∧ (gt p.Sources k).Phase = (gt p.Sources (ldr b p k)).Phase := by
  have e : gt (folL b p) k = gt p.Sources k := by rw [h]
  rw [folL_gt hk] at e
  unfold fol at e
  rw [if_pos hc] at e
  rw [← e]
  exact ⟨rfl, rfl⟩
theorem foll_turned (h : stt b p = 0) (hf : folL b p = p.Sources) : folL b (turned p) = (turned p).Sources := by
  obtain ⟨⟨hl, hg⟩, ⟨s1, s2, s3⟩, g1, g2, g3⟩ := stt_zero.1 h
  have hst : ∀ j, j < p.Sources.length → (gt (turned p).Sources j).State = (gt p.Sources j).State := fun j hj => by rw [turned_gt hj, tick_state]
  refine foll_of fun k hk hc => ?_
  rw [turned_len] at hk
  rw [conn_same (p := p) (q := turned p) rfl turned_len hst] at hc
  rw [ldr_same (p := p) (q := turned p) rfl turned_len hst]
  obtain ⟨_, e2, e3, _, _⟩ := ldr_spec hg.1 (show k < b.Sources.length by omega) hc
  obtain ⟨f1, f2⟩ := foll_at hf hk hc
  rw [turned_gt hk, turned_gt (show ldr b p k < p.Sources.length by omega)]
  unfold tick
  rw [if_pos (conn_state hc), if_pos (conn_state e3)]
  simp only [f1, f2]
  exact ⟨trivial, trivial⟩
end
theorem sm_fol {b : Board} {p : Power} (h : SmP p) : SmP (folP b p) := ⟨h.1, by show Sm (folL b p); unfold Sm; rw [folL_len]; exact h.2.1, h.2.2.1, h.2.2.2⟩
theorem sm_turned {p : Power} (h : SmP p) : SmP (turned p) := ⟨h.1, by unfold Sm; rw [turned_len]; exact h.2.1, h.2.2.1, h.2.2.2⟩
theorem lead_isle {b : Board} {q : Power} (hb : SmB b) (hq : SmP q) (h : stt b q = 0) {x : Island} (hx : x ∈ isl b q) (hs : 0 < x.Sources.length) : 0 < x.Buses.length ∧ sync_Leader b q (gt x.Buses 0) = some (gt x.Sources 0, true) := by
  obtain ⟨⟨hl, hg⟩, _⟩ := stt_zero.1 h
  obtain ⟨f, hf, hxf, hne⟩ := mem_isl.1 hx
  have hlen : 0 < x.Buses.length := by rw [hxf]; exact List.length_pos_iff.2 hne
  obtain ⟨k0, k1, e⟩ := isleOf_uniq hx (gt_mem hlen)
  refine ⟨hlen, ?_⟩
  rw [lead_eq hb hq]
  unfold lead
  rw [ofB_in' h k0 (by omega), ← e, if_neg (fun h0 => by rw [h0] at hs; cases hs)]
end Rx
end Go.Proofs.Ytcekgnnekooohaa
