/- Board: what the source of states gives is valid. Plain laws. -/
import Derived.Test.YtnpghnnlcakbfaaLb3
set_option linter.unusedVariables false
set_option linter.unusedSimpArgs false
namespace Go.Proofs.Ytnpghnnlcakbfaa
open Go Go.RowKit Dp
open Classical

theorem clo_congr {b : Board} {p q : Power} {j : Int} {n : Nat} (h : ∀ i, i < n → (gt b.Breakers i).Kind = 3 → (gt b.Breakers i).B = j → gt p.Closed i = gt q.Closed i) : clo b p j n = clo b q j n := by
  induction n with
  | zero => rfl
  | succ n ih =>
    unfold clo
    rw [ih fun i hi => h i (by omega)]
    congr 1
    by_cases h1 : (gt b.Breakers n).Kind = 3
    · by_cases h2 : (gt b.Breakers n).B = j
      · rw [h n (by omega) h1 h2]
      · simp [h2]
    · simp [h1]
abbrev pc (cl : List Bool) : Power := ⟨cl, [], [], []⟩

theorem within_eq (a b c : Int) : dynposref15_within a b c = some (decide (b ≤ a ∧ a ≤ c)) := by
  unfold dynposref15_within
  by_cases h : b ≤ a <;> simp [h]
theorem exists_eq {b : Board} (hb : Lim b) (x : Part) : dynposref15_Exists b x = some (decide (0 ≤ x.Number ∧ x.Number ≤ bsize b x.Kind - 1)) := by
  have h1 := hb.bus
  have h2 := hb.brk
  have h3 := hb.src
  have h4 := hb.con
  have e1 : W (len b.Sources - 1) = (b.Sources.length : Int) - 1 := by unfold len; exact W_sm (by omega) (by omega)
  have e2 : W (len b.Breakers - 1) = (b.Breakers.length : Int) - 1 := by unfold len; exact W_sm (by omega) (by omega)
  have e3 : W (b.Buses - 1) = b.Buses - 1 := W_sm (by omega) (by omega)
  have e4 : W (len b.Consumers - 1) = (b.Consumers.length : Int) - 1 := by unfold len; exact W_sm (by omega) (by omega)
  unfold dynposref15_Exists bsize
  simp only [within_eq, e1, e2, e3, e4]
  by_cases k1 : x.Kind = 1
  · simp [k1]
  by_cases k2 : x.Kind = 2
  · simp [k2]
  by_cases k3 : x.Kind = 3
  · simp [k3]
  by_cases k4 : x.Kind = 4
  · simp [k4]
  have : ¬ (0 ≤ x.Number ∧ x.Number ≤ (0 : Int) - 1) := by omega
  simp [k1, k2, k3, k4]
  omega

/-- one consumer's breakers: all but the first closed one are opened -/
theorem open_loop {b : Board} (hb : Sm b.Breakers) (i : Nat) {cl : List Bool} (hl : cl.length = b.Breakers.length) :
    Wp (loopR (Src_Power_L6 b (i : Int)) (true, 0, cl)) fun r => r.length = b.Breakers.length ∧ clo b (pc r) (i : Int) b.Breakers.length ≤ 1 ∧ ∀ k, ¬ isC (gt b.Breakers k) i → gt r k = gt cl k := by
  refine wp_upto b.Breakers.length (fun k s => s.2.1 = (k : Int) ∧ s.2.2.length = b.Breakers.length ∧ clo b (pc s.2.2) (i : Int) k = (if s.1 = true then 0 else 1) ∧ ∀ j, (k ≤ j ∨ ¬ isC (gt b.Breakers j) i) → gt s.2.2 j = gt cl j) ⟨rfl, hl, rfl, fun _ _ => rfl⟩ ?_ ?_
  · rintro k ⟨f, q, c⟩ hk ⟨rfl, h1, h2, h3⟩
    simp only at h1 h2 h3 ⊢
    have hs := sm_lt hb hk
    unfold Src_Power_L6
    simp only [lt_len hk, if_true, idx_gt hk, idx_gt (show k < c.length by omega), Option.bind_some, W_succ hs, setO_nat (show k < c.length by omega)]
    by_cases hc : isC (gt b.Breakers k) i
    · rw [beqT hc.1, beqT hc.2]
      simp only [if_true, Option.bind_some]
      cases hv : gt c k with
      | true =>
        simp only [if_true, Option.bind_some]
        refine wp_some.2 (.inl ⟨_, rfl, rfl, by simpa using h1, ?_, fun j hj => ?_⟩)
        · simp only [Bool.false_eq_true, if_false]
          unfold clo
          have e1 : clo b (pc (c.set k f)) (i : Int) k = clo b (pc c) (i : Int) k := clo_congr fun j hj _ _ => by
            show gt (c.set k f) j = gt c j
            rw [gt_set (by omega), if_neg (by omega)]
          have e2 : gt (c.set k f) k = f := by rw [gt_set (by omega), if_pos rfl]
          rw [e1, h2]
          cases f with
          | true => simp [hc.1, hc.2, e2]
          | false => simp [e2]
        · simp only
          rw [gt_set (by omega)]
          by_cases hjk : j = k
          · subst hjk
            rcases hj with hj | hj
            · omega
            · exact (hj hc).elim
          · rw [if_neg hjk]
            exact h3 j (hj.imp (fun h => by omega) id)
      | false =>
        simp only [Bool.false_eq_true, if_false, Option.bind_some]
        refine wp_some.2 (.inl ⟨_, rfl, rfl, h1, ?_, fun j hj => h3 j (hj.imp (fun h => by omega) id)⟩)
        show clo b (pc c) (i : Int) k + _ = _
        rw [h2]
        simp [hv]
    · have : (if ((gt b.Breakers k).Kind == 3) = true then (if ((gt b.Breakers k).B == (i : Int)) = true then some (gt c k) else some false).bind fun x => some x else some false : Option Bool) = some false := by
        by_cases h4 : (gt b.Breakers k).Kind = 3
        · have h5 : (gt b.Breakers k).B ≠ (i : Int) := fun h => hc ⟨h4, h⟩
          rw [beqT h4, beqF h5]; rfl
        · rw [beqF h4]; rfl
      rw [this]
      simp only [Option.bind_some, Bool.false_eq_true, if_false]
      refine wp_some.2 (.inl ⟨_, rfl, rfl, h1, ?_, fun j hj => h3 j (hj.imp (fun h => by omega) id)⟩)
      have hz : ¬ ((gt b.Breakers k).Kind = 3 ∧ (gt b.Breakers k).B = (i : Int) ∧ gt c k = true) := fun h => hc ⟨h.1, h.2.1⟩
      show clo b (pc c) (i : Int) k + (if (gt b.Breakers k).Kind = 3 ∧ (gt b.Breakers k).B = (i : Int) ∧ gt c k = true then 1 else 0) = _
      rw [h2, if_neg hz, Nat.add_zero]
  · rintro ⟨f, q, c⟩ ⟨rfl, h1, h2, h3⟩
    simp only at h1 h2 h3 ⊢
    unfold Src_Power_L6
    simp only [nlt_len, Bool.false_eq_true, if_false]
    refine wp_some.2 ⟨_, rfl, h1, ?_, fun k hk => h3 k (.inr hk)⟩
    rw [h2]
    split <;> omega

/-- what is known of a state that was drawn -/
structure GenP (b : Board) (p : Power) : Prop where
  shape : Shape b p
  good : PGood b p
  brok : p.Broken.length ≤ 4
  freq : ∀ x ∈ p.Sources, 4950 ≤ x.Frequency ∧ x.Frequency ≤ 5005
theorem GenP.sm {b : Board} {p : Power} (hb : Gen b) (h : GenP b p) : SmP p := by
  obtain ⟨h1, h2, h3⟩ := h.shape
  have := hb.brk
  have := hb.src
  have := hb.con
  have := h.brok
  exact ⟨by unfold Sm; omega, by unfold Sm; omega, by unfold Sm; omega, by unfold Sm; omega⟩
theorem GenP.stt {b : Board} {p : Power} (hb : Gen b) (h : GenP b p) : stt b p = 0 := by
  unfold Go.Proofs.Ytnpghnnlcakbfaa.stt
  rw [if_pos hb.chk, if_pos h.shape, if_pos h.good]

theorem wpPower (st : List Int) {b : Board} (hb : Gen b) : Wp (Src_Power st b) fun r => GenP b r.1 := by
  have hbr := hb.brk
  have hsr := hb.src
  have hco := hb.con
  have hsm := hb.sm
  unfold Src_Power
  -- closed or open, by chance
  refine Wp.bind (Q := fun x : List Bool × List Int => x.1.length = b.Breakers.length) ?_ fun x hx => ?_
  · refine wp_upto b.Breakers.length (fun k s => s.1 = (k : Int) ∧ s.2.1.length = k) ⟨rfl, rfl⟩ ?_ ?_
    · rintro k ⟨i, cl, st⟩ hk ⟨rfl, h1⟩
      simp only at h1 ⊢
      unfold Src_Power_L1
      simp only [lt_len hk, if_true]
      refine (wpN st (n := 2) (by omega) (by omega)).bind fun y _ => ?_
      obtain ⟨y, st⟩ := y
      simp only
      rw [app_sm (by simp; omega)]
      exact wp_some.2 (.inl ⟨_, rfl, by simp only; rw [W_succ (by omega)], by simp; omega⟩)
    · rintro ⟨i, cl, st⟩ ⟨rfl, h1⟩
      simp only at h1 ⊢
      unfold Src_Power_L1
      simp only [nlt_len, Bool.false_eq_true, if_false]
      exact wp_some.2 ⟨_, rfl, h1⟩
  obtain ⟨cl0, st1⟩ := x
  simp only at hx ⊢
  -- one of each consumer's at most
  refine Wp.bind (Q := fun c : List Bool => c.length = b.Breakers.length ∧ ∀ j, j < b.Consumers.length → clo b (pc c) (j : Int) b.Breakers.length ≤ 1) ?_ fun cl hcl => ?_
  · refine wp_upto b.Consumers.length (fun k s => s.1 = (k : Int) ∧ s.2.length = b.Breakers.length ∧ ∀ j, j < k → clo b (pc s.2) (j : Int) b.Breakers.length ≤ 1) ⟨rfl, hx, fun j hj => by omega⟩ ?_ ?_
    · rintro k ⟨i, c⟩ hk ⟨rfl, h1, h2⟩
      simp only at h1 h2 ⊢
      unfold Src_Power_L2
      simp only [lt_len hk, if_true]
      refine (open_loop hsm.1 k h1).bind fun r hr => ?_
      refine wp_some.2 (.inl ⟨_, rfl, by simp only; rw [W_succ (by omega)], hr.1, fun j hj => ?_⟩)
      simp only
      by_cases hjk : j = k
      · subst hjk; exact hr.2.1
      · rw [clo_congr (q := pc c) fun i hi h3 h4 => hr.2.2 i fun hh => by have := hh.2; omega]
        exact h2 j (by omega)
    · rintro ⟨i, c⟩ ⟨rfl, h1, h2⟩
      simp only at h1 h2 ⊢
      unfold Src_Power_L2
      simp only [nlt_len, Bool.false_eq_true, if_false]
      exact wp_some.2 ⟨_, rfl, h1, h2⟩
  -- generators
  refine Wp.bind (Q := fun x : List Running × List Int => x.1.length = b.Sources.length ∧ ∀ r ∈ x.1, RunOk r ∧ 4950 ≤ r.Frequency ∧ r.Frequency ≤ 5005) ?_ fun x hx2 => ?_
  · refine wp_upto b.Sources.length (fun k s => s.1 = (k : Int) ∧ s.2.1.length = k ∧ ∀ r ∈ s.2.1, RunOk r ∧ 4950 ≤ r.Frequency ∧ r.Frequency ≤ 5005) ⟨rfl, rfl, by simp⟩ ?_ ?_
    · rintro k ⟨i, l, st⟩ hk ⟨rfl, h1, h2⟩
      simp only at h1 h2 ⊢
      unfold Src_Power_L3
      simp only [lt_len hk, if_true]
      refine (wpPick st (by simp) (by simp)).bind fun y e1 => ?_
      obtain ⟨y1, st⟩ := y
      simp only [List.mem_cons, List.not_mem_nil, or_false] at e1 ⊢
      refine (wpN st (n := 5) (by omega) (by omega)).bind fun y e2 => ?_
      obtain ⟨y2, st⟩ := y
      simp only at e2 ⊢
      refine (wpPick st (by simp) (by simp)).bind fun y e3 => ?_
      obtain ⟨y3, st⟩ := y
      simp only [List.mem_cons, List.not_mem_nil, or_false] at e3 ⊢
      refine (wpPick st (by simp) (by simp)).bind fun y e4 => ?_
      obtain ⟨y4, st⟩ := y
      simp only [List.mem_cons, List.not_mem_nil, or_false] at e4 ⊢
      rw [app_sm (by simp; omega)]
      simp only [Option.bind_some]
      refine wp_some.2 (.inl ⟨_, rfl, by simp only; rw [W_succ (by omega)], by simp; omega, fun r hr => ?_⟩)
      rcases List.mem_append.1 hr with hr | hr
      · exact h2 r hr
      · simp only [List.mem_singleton] at hr
        subst hr
        unfold RunOk
        simp only
        omega
    · rintro ⟨i, l, st⟩ ⟨rfl, h1, h2⟩
      simp only at h1 h2 ⊢
      unfold Src_Power_L3
      simp only [nlt_len, Bool.false_eq_true, if_false]
      exact wp_some.2 ⟨_, rfl, h1, h2⟩
  obtain ⟨run, st2⟩ := x
  simp only at hx2 ⊢
  -- limits
  refine Wp.bind (Q := fun x : List Int × List Int => x.1.length = b.Consumers.length ∧ ∀ k, k < b.Consumers.length → 0 ≤ gt x.1 k ∧ gt x.1 k ≤ (gt b.Consumers k).Load) ?_ fun x hx3 => ?_
  · refine wp_upto b.Consumers.length (fun k s => s.1 = (k : Int) ∧ s.2.1.length = k ∧ ∀ j, j < k → 0 ≤ gt s.2.1 j ∧ gt s.2.1 j ≤ (gt b.Consumers j).Load) ⟨rfl, rfl, fun j hj => by omega⟩ ?_ ?_
    · rintro k ⟨i, l, st⟩ hk ⟨rfl, h1, h2⟩
      simp only at h1 h2 ⊢
      have hcon := hb.good.2.2.2.2 k hk
      unfold Src_Power_L4
      have hld := hcon.2.1
      have hls := hcon.2.2.1
      simp only [lt_len hk, if_true, idx_gt hk, Option.bind_some]
      rw [quoO_nn hld.1 (by omega) (by omega)]
      simp only [Option.bind_some]
      refine (wpPick st (by simp) (by simp)).bind fun y e1 => ?_
      obtain ⟨y1, st⟩ := y
      simp only [List.mem_cons, List.not_mem_nil, or_false] at e1 ⊢
      rw [app_sm (by simp; omega)]
      simp only [Option.bind_some]
      refine wp_some.2 (.inl ⟨_, rfl, by simp only; rw [W_succ (by omega)], by simp; omega, fun j hj => ?_⟩)
      simp only
      rw [gt_snoc (by omega)]
      by_cases hjl : j < l.length
      · rw [if_pos hjl]; exact h2 j (by omega)
      · rw [if_neg hjl]
        have : j = k := by omega
        subst this
        omega
    · rintro ⟨i, l, st⟩ ⟨rfl, h1, h2⟩
      simp only at h1 h2 ⊢
      unfold Src_Power_L4
      simp only [nlt_len, Bool.false_eq_true, if_false]
      exact wp_some.2 ⟨_, rfl, h1, h2⟩
  obtain ⟨lim, st3⟩ := x
  simp only at hx3 ⊢
  -- broken parts
  refine Wp.bind (Q := fun x : List Part × List Int => x.1.length ≤ 4 ∧ ∀ k, k < x.1.length → BrokenAt b x.1 k) ?_ fun x hx4 => ?_
  · refine wp_upto 4 (fun k s => s.1 = (k : Int) + 1 ∧ s.2.1.length ≤ k ∧ (∀ x ∈ s.2.1, x.Kind ≤ (k : Int)) ∧ ∀ j, j < s.2.1.length → BrokenAt b s.2.1 j) ⟨rfl, Nat.le_refl _, by simp, fun j hj => absurd hj (by simp)⟩ ?_ ?_
    · rintro k ⟨i, l, st⟩ hk ⟨rfl, h1, h2, h3⟩
      simp only at h1 h2 h3 ⊢
      unfold Src_Power_L5
      simp only [dT (c := (k : Int) + 1 ≤ 4) (by omega), if_true]
      refine (wpN st (n := 5) (by omega) (by omega)).bind fun y _ => ?_
      obtain ⟨y1, st⟩ := y
      simp only
      refine Wp.bind (Q := fun x : List Part × List Int => x.1.length ≤ k + 1 ∧ (∀ q ∈ x.1, q.Kind ≤ (k : Int) + 1) ∧ ∀ j, j < x.1.length → BrokenAt b x.1 j) ?_ fun x hx5 => ?_
      · refine Wp.ite (fun _ => ?_) (fun _ => wp_some.2 ⟨by simp only; omega, fun q hq => by have := h2 q hq; omega, h3⟩)
        refine (wpN st (n := 4) (by omega) (by omega)).bind fun y e1 => ?_
        obtain ⟨y2, st⟩ := y
        simp only at e1 ⊢
        rw [exists_eq hb.lim]
        simp only [Option.bind_some]
        refine Wp.bind (Q := fun x : List Part => x.length ≤ k + 1 ∧ (∀ q ∈ x, q.Kind ≤ (k : Int) + 1) ∧ ∀ j, j < x.length → BrokenAt b x j) ?_ fun x hx6 => wp_some.2 hx6
        refine Wp.ite (fun he => ?_) (fun _ => wp_some.2 ⟨by omega, fun q hq => by have := h2 q hq; omega, h3⟩)
        have he' := of_decide_eq_true he
        rw [app_sm (by simp; omega)]
        refine wp_some.2 ⟨by simp; omega, fun q hq => ?_, fun j hj => ?_⟩
        · rcases List.mem_append.1 hq with hq | hq
          · have := h2 q hq; omega
          · simp only [List.mem_singleton] at hq
            subst hq
            exact Int.le_refl _
        · have hj' : j < l.length + 1 := by simpa using hj
          unfold BrokenAt
          rw [gt_snoc hj']
          by_cases hjl : j < l.length
          · rw [if_pos hjl, gt_snoc (by omega), if_pos (by omega)]
            exact h3 j hjl
          · rw [if_neg hjl]
            refine ⟨he', fun h0 => .inl ?_⟩
            rw [gt_snoc (by omega), if_pos (by omega)]
            have := h2 _ (gt_mem (show j - 1 < l.length by omega))
            simp only
            omega
      · obtain ⟨l', st'⟩ := x
        refine wp_some.2 (.inl ⟨_, rfl, ?_, hx5.1, fun q hq => by have := hx5.2.1 q hq; omega, hx5.2.2⟩)
        simp only
        rw [W_sm (by omega) (by omega)]
        omega
    · rintro ⟨i, l, st⟩ ⟨rfl, h1, h2, h3⟩
      simp only at h1 h2 h3 ⊢
      unfold Src_Power_L5
      simp only [dF (c := ((4 : Nat) : Int) + 1 ≤ 4) (by omega), Bool.false_eq_true, if_false]
      exact wp_some.2 ⟨_, rfl, h1, h3⟩
  obtain ⟨brk, st4⟩ := x
  simp only at hx4 ⊢
  refine wp_some.2 ⟨⟨hcl.1, hx2.1, hx3.1⟩, ⟨⟨hx4.2, by have := hx4.1; simp only; omega⟩, fun k hk => (hx2.2 _ (gt_mem hk)).1, fun k hk => ?_⟩, hx4.1, fun r hr => (hx2.2 r hr).2⟩
  simp only at hk
  have hk' : k < b.Consumers.length := by have := hx3.1; omega
  refine ⟨hx3.2 k hk', ?_⟩
  exact Nat.le_trans (Nat.le_of_eq (clo_congr (b := b) (p := ⟨cl, run, lim, brk⟩) (q := pc cl) (fun _ _ _ _ => rfl))) (hcl.2 k hk')

end Go.Proofs.Ytnpghnnlcakbfaa
