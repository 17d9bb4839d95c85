/- Roster: its small functions. Plain laws. -/
import Derived.Test.YtcekgnnekooohaaS5
import Derived.Test.YtcekgnnekooohaaB2
import Derived.Test.YtcekgnnekooohaaM7
set_option linter.unusedVariables false
set_option linter.unusedSimpArgs false
namespace Go.Proofs.Ytcekgnnekooohaa
open Go Go.RowKit Dp
namespace Rx
open Classical

section
variable {b : Board} {p : Power}
theorem brk1 (hb : BrkOk b) {j : Nat} (hj : j < b.Sources.length) : ∃ k, k < b.Breakers.length ∧ isS (gt b.Breakers k) j ∧ ∀ i, i < b.Breakers.length → isS (gt b.Breakers i) j → i = k := by
  have h := (refBrk_iff.1 hb).2.1 j hj
  obtain ⟨⟨k, hk, hp⟩, hu⟩ := rangeF_len1.1 h
  refine ⟨k, hk, findP2.1 hp, fun i hi hs => ?_⟩
  have hpi := findP2.2 hs
  rcases Nat.lt_trichotomy i k with h1 | h1 | h1
  · exact (hu i k h1 hk hpi hp).elim
  · exact h1
  · exact (hu k i h1 hi hp hpi).elim
/-- a generator's breaker -/
noncomputable def bk (b : Board) (j : Nat) : Nat := if h : ∃ k, k < b.Breakers.length ∧ isS (gt b.Breakers k) j ∧ ∀ i, i < b.Breakers.length → isS (gt b.Breakers i) j → i = k then h.choose else 0
theorem bk_spec (hb : BrkOk b) {j : Nat} (hj : j < b.Sources.length) : bk b j < b.Breakers.length ∧ isS (gt b.Breakers (bk b j)) j ∧ ∀ i, i < b.Breakers.length → isS (gt b.Breakers i) j → i = bk b j := by
  unfold bk
  rw [dif_pos (brk1 hb hj)]
  exact (brk1 hb hj).choose_spec
theorem find_one {n k : Nat} {q : Nat → Bool} (hk : k < n) (hq : q k = true) (hu : ∀ i, i < n → q i = true → i = k) : (List.range n).find? q = some k := by
  cases hf : (List.range n).find? q with
  | none =>
    have := List.find?_eq_none.1 hf k (List.mem_range.2 hk)
    exact (this hq).elim
  | some i =>
    have h1 := List.mem_range.1 (List.mem_of_find?_eq_some hf)
    have h2 : q i = true := List.find?_some (p := q) hf
    rw [hu i h1 h2]
theorem breaker_eq (hs : Sm b.Breakers) (hb : BrkOk b) {j : Nat} (hj : j < b.Sources.length) : roster_breaker b (j : Int) = some (bk b j : Int) := by
  obtain ⟨h1, h2, h3⟩ := bk_spec hb hj
  have h := loop_find (step := slices_IndexFunc_Breaker_Breaker_L1 b.Breakers (j : Int)) (fun i => (i : Int)) b.Breakers.length (fun i => decide (isS (gt b.Breakers i) j)) (R := fun i => .inr (i : Int)) (e := .inl ())
    (fun i hi hq => by
      have hq : ¬ isS (gt b.Breakers i) j := by simpa using hq
      have e : roster_breaker_1 (gt b.Breakers i) (j : Int) = some false := by
        unfold roster_breaker_1
        unfold isS at hq
        by_cases hk : (gt b.Breakers i).Kind = 2
        · have hB : ¬ (gt b.Breakers i).B = (j : Int) := fun h => hq ⟨hk, h⟩
          simp [hk, hB]
        · simp [hk]
      simp only [slices_IndexFunc_Breaker_Breaker_L1, lt_len hi, if_true, idx_gt hi, Option.bind_some, e, Bool.false_eq_true, if_false, W_succ (sm_lt hs hi)])
    (fun i hi hq => by
      have hq : isS (gt b.Breakers i) j := by simpa using hq
      have e : roster_breaker_1 (gt b.Breakers i) (j : Int) = some true := by
        unfold roster_breaker_1
        simp [hq.1, hq.2]
      simp only [slices_IndexFunc_Breaker_Breaker_L1, lt_len hi, if_true, idx_gt hi, Option.bind_some, e])
    (by simp only [slices_IndexFunc_Breaker_Breaker_L1, nlt_len, Bool.false_eq_true, if_false])
  rw [find_one h1 (by simpa using h2) fun i hi hq => h3 i hi (by simpa using hq)] at h
  have h' : loopO (slices_IndexFunc_Breaker_Breaker_L1 b.Breakers (j : Int)) 0 = _ := h
  unfold roster_breaker slices_IndexFunc_Breaker_Breaker
  rw [h']
  rfl
theorem refBroken_eq (hp : SmP p) (k n : Int) : dynposref15_Broken p k n = some (decide ((⟨k, n⟩ : Part) ∈ p.Broken)) := by
  have hsm := hp.2.2.2
  have hz : ∀ i, (gt p.Broken i = (⟨k, n⟩ : Part)) ↔ ((gt p.Broken i).Kind = k ∧ (gt p.Broken i).Number = n) := fun i => by
    cases h : gt p.Broken i
    simp
  have h := loop_anyB (step := dynposref15_Broken_L1 p k n) (fun i => (i : Int)) p.Broken.length (fun i => gt p.Broken i = (⟨k, n⟩ : Part)) (r := .inr true) (e := .inl ())
    (fun i hi hq => by
      have hq := fun h => hq ((hz i).2 h)
      by_cases h1 : (gt p.Broken i).Kind = k
      · have h2 : ¬ (gt p.Broken i).Number = n := fun h => hq ⟨h1, h⟩
        simp only [dynposref15_Broken_L1, lt_len hi, if_true, idx_gt hi, Option.bind_some, h1, beq_self_eq_true, beq_eq_false_iff_ne.2 h2, Bool.false_eq_true, if_false, W_succ (sm_lt hsm hi)]
      · simp only [dynposref15_Broken_L1, lt_len hi, if_true, idx_gt hi, Option.bind_some, beq_eq_false_iff_ne.2 h1, Bool.false_eq_true, if_false, W_succ (sm_lt hsm hi)])
    (fun i hi hq => by
      obtain ⟨h1, h2⟩ := (hz i).1 hq
      simp only [dynposref15_Broken_L1, lt_len hi, if_true, idx_gt hi, Option.bind_some, h1, h2, beq_self_eq_true])
    (by simp only [dynposref15_Broken_L1, nlt_len, Bool.false_eq_true, if_false])
  have h' : loopO (dynposref15_Broken_L1 p k n) 0 = _ := h
  unfold dynposref15_Broken
  rw [h']
  by_cases hm : (⟨k, n⟩ : Part) ∈ p.Broken
  · obtain ⟨i, hi, e⟩ := mem_gt hm
    rw [dB_T ⟨i, hi, e⟩, dT hm]
    rfl
  · rw [dB_F (fun ⟨i, hi, e⟩ => hm (e ▸ gt_mem hi)), dF hm]
    rfl
theorem refFind_eq (hb : SmB b) (h : chk b = 0) {j : Nat} (hj : j < b.Sources.length) : dynposref15_Find b 2 (j : Int) = some [(bk b j : Int)] := by
  obtain ⟨hl, hg⟩ := chk_zero.1 h
  obtain ⟨h1, h2, h3⟩ := bk_spec hg.1 hj
  unfold dynposref15_Find
  rw [refcheck_eq hb, h]
  have e : rangeF (findP b 2 (j : Int)) b.Breakers.length = [(bk b j : Int)] := by
    have h4 : (rangeF (findP b 2 (j : Int)) b.Breakers.length).length = 1 := (refBrk_iff.1 hg.1).2.1 j hj
    have h5 : (bk b j : Int) ∈ rangeF (findP b 2 (j : Int)) b.Breakers.length := mem_rangeF.2 ⟨_, h1, findP2.2 h2, rfl⟩
    match hr : rangeF (findP b 2 (j : Int)) b.Breakers.length, h4, h5 with
    | [x], _, h5 => simp at h5; rw [h5]
  simp only [Option.bind_some, bne_self_eq_false, Bool.false_eq_true, if_false, refof_eq hb.1, e]

/-! tables -/
def vT (t : Table) : Prop := (1 ≤ t.Stop ∧ t.Stop ≤ 99) ∧ (t.Stop < t.Start ∧ t.Start ≤ 100) ∧ 0 ≤ t.Delay ∧ t.Delay ≤ 600
theorem valid_eq (t : Table) : roster_Valid t = some (decide (vT t)) := by
  unfold roster_Valid
  by_cases h : vT t
  · obtain ⟨⟨h1, h2⟩, ⟨h3, h4⟩, h5, h6⟩ := h
    rw [dT (show vT t from ⟨⟨h1, h2⟩, ⟨h3, h4⟩, h5, h6⟩)]
    simp [h1, h2, h3, h4, h5, h6]
  · rw [dF h]
    by_cases h1 : t.Stop ≥ 1
    case neg => simp [h1]
    by_cases h2 : t.Stop ≤ 99
    case neg => simp [h1, h2]
    by_cases h3 : t.Start > t.Stop
    case neg => simp [h1, h2, h3]
    by_cases h4 : t.Start ≤ 100
    case neg => simp [h1, h2, h3, h4]
    by_cases h5 : t.Delay ≥ 0
    case neg => simp [h1, h2, h3, h4, h5]
    by_cases h6 : t.Delay ≤ 600
    case neg => simp [h1, h2, h3, h4, h5, h6]
    exact absurd ⟨⟨h1, h2⟩, ⟨h3, h4⟩, h5, h6⟩ h
theorem wpTable {l : List Int} {a : Int} (hs : Sr l a) : Wp (Src_Table ⟨l, a⟩) fun r => vT ⟨r.1, r.2.1, r.2.2.1⟩ ∧ Sr r.2.2.2.1 r.2.2.2.2 := by
  unfold Src_Table
  refine (wpPick hs (w := [60, 80, 100]) (by simp) (by simp)).bind fun r hr => ?_
  refine (wpPick hr.2 (w := [1, 30, 50]) (by simp) (by simp)).bind fun r2 hr2 => ?_
  refine (wpPick hr2.2 (w := [0, 1, 3]) (by simp) (by simp)).bind fun r3 hr3 => ?_
  refine wp_some.2 ⟨?_, hr3.2⟩
  have h1 := hr.1
  have h2 := hr2.1
  have h3 := hr3.1
  simp only [List.mem_cons, List.not_mem_nil, or_false] at h1 h2 h3
  unfold vT
  dsimp only
  omega
theorem wpWorld {l : List Int} {a : Int} (hs : Sr l a) : Wp (dynposlaw19_world ⟨l, a⟩) fun r => ∃ (b : Board) (t : Table) (p : Power) (l : List Int) (a : Int), r = (b.Buses, b.Phase, b.Frequency, t.Start, t.Stop, t.Delay, l, a, b.Breakers, b.Sources, b.Consumers, p.Closed, p.Sources, p.Limits, p.Broken) ∧ Gen b ∧ vT t ∧ Sr l a ∧ SmP p ∧ stt b p = 0 ∧ folL b p = p.Sources := by
  unfold dynposlaw19_world
  refine (wpBoard hs).bind fun x1 h1 => ?_
  refine (wpTable h1.1).bind fun x2 h2 => ?_
  refine (wpFollowed' h2.2 h1.2).bind fun x3 h3 => ?_
  obtain ⟨l, a, q, rfl, g1, g2, g3, g4⟩ := h3
  exact wp_some.2 ⟨⟨x1.1, x1.2.2.2.2.2.1, x1.2.2.2.2.2.2.1, x1.2.2.2.2.2.2.2, x1.2.1, x1.2.2.1⟩, ⟨x2.1, x2.2.1, x2.2.2.1⟩, q, l, a, rfl, h1.2, h2.1, g1, g2, g3, g4⟩
end
end Rx
end Go.Proofs.Ytcekgnnekooohaa
