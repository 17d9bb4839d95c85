/- Board: what the source of states gives is valid. Plain laws. -/
import Derived.Test.YtfnphdhcgkondaaGreatM3
set_option linter.unusedVariables false
set_option linter.unusedSimpArgs false
namespace Go.Proofs.YtfnphdhcgkondaaGreat
open Go Go.RowKit Dp
namespace Rx
open Classical

theorem clo_congr {b : Board} {p q : Power} {j : Int} {n : Nat} (h : ∀ i, i < n → (gt b.Breakers i).Kind = 3 → (gt b.Breakers i).B = j → gt p.Closed i = gt q.Closed i) : clo b p j n = clo b q j n := by
  induction n with
  | zero => rfl
  | succ n ih =>
    unfold clo
    rw [ih fun i hi => h i (by omega)]
    congr 1
    by_cases h1 : (gt b.Breakers n).Kind = 3
    · by_cases h2 : (gt b.Breakers n).B = j
      · rw [h n (by omega) h1 h2]
      · simp [h2]
    · simp [h1]
abbrev pc (cl : List Bool) : Power := ⟨cl, [], [], []⟩

theorem within_eq (a b c : Int) : dynposref15_within a b c = some (decide (b ≤ a ∧ a ≤ c)) := by
  unfold dynposref15_within
  by_cases h : b ≤ a <;> simp [h]
theorem exists_eq {b : Board} (hb : Lim b) (x : Part) : dynposref15_Exists b x = some (decide (0 ≤ x.Number ∧ x.Number ≤ bsize b x.Kind - 1)) := by
  have h1 := hb.bus
  have h2 := hb.brk
  have h3 := hb.src
  have h4 := hb.con
  have e1 : W (len b.Sources - 1) = (b.Sources.length : Int) - 1 := by unfold len; exact W_sm (by omega) (by omega)
  have e2 : W (len b.Breakers - 1) = (b.Breakers.length : Int) - 1 := by unfold len; exact W_sm (by omega) (by omega)
  have e3 : W (b.Buses - 1) = b.Buses - 1 := W_sm (by omega) (by omega)
  have e4 : W (len b.Consumers - 1) = (b.Consumers.length : Int) - 1 := by unfold len; exact W_sm (by omega) (by omega)
  unfold dynposref15_Exists bsize
  simp only [within_eq, e1, e2, e3, e4]
  by_cases k1 : x.Kind = 1
  · simp [k1]
  by_cases k2 : x.Kind = 2
  · simp [k2]
  by_cases k3 : x.Kind = 3
  · simp [k3]
  by_cases k4 : x.Kind = 4
  · simp [k4]
  have : ¬ (0 ≤ x.Number ∧ x.Number ≤ (0 : Int) - 1) := by omega
  simp [k1, k2, k3, k4]
  omega

/-- one consumer's breakers: all but the first closed one are opened -/
theorem open_loop {b : Board} (hb : Sm b.Breakers) (i : Nat) (w : List Bool) {cl : List Bool} (hl : cl.length = b.Breakers.length) :
    Wp (loopO (Src_Power_L3 b ((i : Int), w)) (true, 0, cl)) fun r => r.length = b.Breakers.length ∧ clo b (pc r) (i : Int) b.Breakers.length ≤ 1 ∧ ∀ k, ¬ isC (gt b.Breakers k) i → gt r k = gt cl k := by
  refine wp_upto b.Breakers.length (fun k s => ∃ f c, s = (f, (k : Int), c) ∧ c.length = b.Breakers.length ∧ clo b (pc c) (i : Int) k = (if f = true then 0 else 1) ∧ ∀ j, (k ≤ j ∨ ¬ isC (gt b.Breakers j) i) → gt c j = gt cl j) ⟨_, _, rfl, hl, rfl, fun _ _ => rfl⟩ ?_ ?_
  · rintro k s hk ⟨f, c, rfl, h1, h2, h3⟩
    have hs := sm_lt hb hk
    unfold Src_Power_L3
    simp only [lt_len hk, if_true, idx_gt hk, idx_gt (show k < c.length by omega), Option.bind_some, W_succ hs, setO_nat (show k < c.length by omega)]
    by_cases hc : isC (gt b.Breakers k) i
    · rw [beqT hc.1, beqT hc.2]
      simp only [if_true, Option.bind_some]
      cases hv : gt c k with
      | true =>
        simp only [if_true, Option.bind_some]
        refine wp_some.2 ⟨_, _, rfl, by simpa using h1, ?_, fun j hj => ?_⟩
        · simp only [Bool.false_eq_true, if_false]
          unfold clo
          have e1 : clo b (pc (c.set k f)) (i : Int) k = clo b (pc c) (i : Int) k := clo_congr fun j hj _ _ => by
            show gt (c.set k f) j = gt c j
            rw [gt_set (by omega), if_neg (by omega)]
          have e2 : gt (c.set k f) k = f := by rw [gt_set (by omega), if_pos rfl]
          rw [e1, h2]
          cases f with
          | true => simp [hc.1, hc.2, e2]
          | false => simp [e2]
        · rw [gt_set (by omega)]
          by_cases hjk : j = k
          · subst hjk
            rcases hj with hj | hj
            · omega
            · exact (hj hc).elim
          · rw [if_neg hjk]
            exact h3 j (hj.imp (fun h => by omega) id)
      | false =>
        simp only [Bool.false_eq_true, if_false, Option.bind_some]
        refine wp_some.2 ⟨_, _, rfl, h1, ?_, fun j hj => h3 j (hj.imp (fun h => by omega) id)⟩
        show clo b (pc c) (i : Int) k + _ = _
        rw [h2]
        simp [hv]
    · have : (if ((gt b.Breakers k).Kind == 3) = true then (if ((gt b.Breakers k).B == (i : Int)) = true then some (gt c k) else some false) else some false : Option Bool) = some false := by
        by_cases h4 : (gt b.Breakers k).Kind = 3
        · have h5 : (gt b.Breakers k).B ≠ (i : Int) := fun h => hc ⟨h4, h⟩
          rw [beqT h4, beqF h5]; rfl
        · rw [beqF h4]; rfl
      rw [this]
      simp only [Option.bind_some, Bool.false_eq_true, if_false]
      refine wp_some.2 ⟨_, _, rfl, h1, ?_, fun j hj => h3 j (hj.imp (fun h => by omega) id)⟩
      have hz : ¬ ((gt b.Breakers k).Kind = 3 ∧ (gt b.Breakers k).B = (i : Int) ∧ gt c k = true) := fun h => hc ⟨h.1, h.2.1⟩
      show clo b (pc c) (i : Int) k + (if (gt b.Breakers k).Kind = 3 ∧ (gt b.Breakers k).B = (i : Int) ∧ gt c k = true then 1 else 0) = _
      rw [h2, if_neg hz, Nat.add_zero]
  · rintro s ⟨f, c, rfl, h1, h2, h3⟩
    unfold Src_Power_L3
    simp only [nlt_len, Bool.false_eq_true, if_false]
    refine wp_some.2 ⟨h1, ?_, fun k hk => h3 k (.inr hk)⟩
    rw [h2]
    split <;> omega

/-- what is known of a state that was drawn -/
structure GenP (b : Board) (p : Power) : Prop where
  shape : Shape b p
  good : PGood b p
  brok : p.Broken.length ≤ 4
  freq : ∀ x ∈ p.Sources, 4950 ≤ x.Frequency ∧ x.Frequency ≤ 5005
theorem GenP.sm {b : Board} {p : Power} (hb : Gen b) (h : GenP b p) : SmP p := by
  obtain ⟨h1, h2, h3⟩ := h.shape
  have := hb.brk
  have := hb.src
  have := hb.con
  have := h.brok
  exact ⟨by unfold Sm; omega, by unfold Sm; omega, by unfold Sm; omega, by unfold Sm; omega⟩
theorem GenP.stt {b : Board} {p : Power} (hb : Gen b) (h : GenP b p) : stt b p = 0 := by
  unfold Go.Proofs.YtfnphdhcgkondaaGreat.Rx.stt
  rw [if_pos hb.chk, if_pos h.shape, if_pos h.good]

/-- a drawn state, told by its parts -/
def GenQ (b : Board) (l : List Int) (a : Int) (cl : List Bool) (run : List Running) (lim : List Int) (brk : List Part) : Prop := Sr l a ∧ GenP b ⟨cl, run, lim, brk⟩
theorem wpPower {l : List Int} {a : Int} (hs : Sr l a) {b : Board} (hb : Gen b) : Wp (Src_Power ⟨l, a⟩ b) fun r => ∃ l a cl run lim brk, r = (l, a, b.Breakers, b.Sources, b.Consumers, cl, run, lim, brk) ∧ GenQ b l a cl run lim brk := by
  have hbr := hb.brk
  have hsr := hb.src
  have hco := hb.con
  have hsm := hb.sm
  unfold Src_Power
  -- closed or open, by chance
  refine Wp.bind (Q := fun x => ∃ l a cl, x = (l, a, cl) ∧ Sr l a ∧ cl.length = b.Breakers.length) ?_ fun x hx => ?_
  · refine wp_upto b.Breakers.length (fun k s => ∃ l a cl, s = ((k : Int), l, a, cl) ∧ Sr l a ∧ cl.length = k) ⟨_, _, _, rfl, hs, rfl⟩ ?_ ?_
    · rintro k s hk ⟨l, a, cl, rfl, hs, h1⟩
      unfold Src_Power_L1
      simp only [lt_len hk, if_true]
      refine (wpN hs (n := 2) (by omega) (by omega)).bind fun y hy => ?_
      obtain ⟨y, l, a⟩ := y
      simp only
      rw [app_sm (by simp; omega)]
      exact wp_some.2 ⟨_, _, _, by rw [W_succ (by omega)], hy.2, by simp; omega⟩
    · rintro s ⟨l, a, cl, rfl, hs, h1⟩
      unfold Src_Power_L1
      simp only [nlt_len, Bool.false_eq_true, if_false]
      exact wp_some.2 ⟨_, _, _, rfl, hs, h1⟩
  obtain ⟨l, a, cl0, rfl, hs, hx⟩ := hx
  simp only
  -- one of each consumer's at most
  refine Wp.bind (Q := fun c : List Bool => c.length = b.Breakers.length ∧ ∀ j, j < b.Consumers.length → clo b (pc c) (j : Int) b.Breakers.length ≤ 1) ?_ fun cl hcl => ?_
  · refine wp_upto b.Consumers.length (fun k s => ∃ c, s = ((k : Int), c) ∧ c.length = b.Breakers.length ∧ ∀ j, j < k → clo b (pc c) (j : Int) b.Breakers.length ≤ 1) ⟨_, rfl, hx, fun j hj => by omega⟩ ?_ ?_
    · rintro k s hk ⟨c, rfl, h1, h2⟩
      unfold Src_Power_L2
      simp only [lt_len hk, if_true]
      refine (open_loop hsm.1 k c h1).bind fun r hr => ?_
      refine wp_some.2 ⟨_, by rw [W_succ (by omega)], hr.1, fun j hj => ?_⟩
      by_cases hjk : j = k
      · subst hjk; exact hr.2.1
      · rw [clo_congr (q := pc c) fun i hi h3 h4 => hr.2.2 i fun hh => by have := hh.2; omega]
        exact h2 j (by omega)
    · rintro s ⟨c, rfl, h1, h2⟩
      unfold Src_Power_L2
      simp only [nlt_len, Bool.false_eq_true, if_false]
      exact wp_some.2 ⟨h1, h2⟩
  -- generators
  refine Wp.bind (Q := fun x => ∃ l a run, x = (l, a, run) ∧ Sr l a ∧ run.length = b.Sources.length ∧ ∀ r ∈ run, RunOk r ∧ 4950 ≤ r.Frequency ∧ r.Frequency ≤ 5005) ?_ fun x hx2 => ?_
  · refine wp_upto b.Sources.length (fun k s => ∃ l a run, s = ((k : Int), l, a, run) ∧ Sr l a ∧ run.length = k ∧ ∀ r ∈ run, RunOk r ∧ 4950 ≤ r.Frequency ∧ r.Frequency ≤ 5005) ⟨_, _, _, rfl, hs, rfl, by simp⟩ ?_ ?_
    · rintro k s hk ⟨l, a, run, rfl, hs, h1, h2⟩
      unfold Src_Power_L4
      simp only [lt_len hk, if_true]
      refine (wpPick hs (by simp) (by simp)).bind fun y e1 => ?_
      obtain ⟨y1, l, a, z⟩ := y
      obtain ⟨e1, hs⟩ := e1
      simp only [List.mem_cons, List.not_mem_nil, or_false] at e1 hs ⊢
      refine (wpN hs (n := 5) (by omega) (by omega)).bind fun y e2 => ?_
      obtain ⟨y2, l, a⟩ := y
      obtain ⟨e2, hs⟩ := e2
      simp only at e2 hs ⊢
      refine (wpPick hs (by simp) (by simp)).bind fun y e3 => ?_
      obtain ⟨y3, l, a, z⟩ := y
      obtain ⟨e3, hs⟩ := e3
      simp only [List.mem_cons, List.not_mem_nil, or_false] at e3 hs ⊢
      refine (wpPick hs (by simp) (by simp)).bind fun y e4 => ?_
      obtain ⟨y4, l, a, z⟩ := y
      obtain ⟨e4, hs⟩ := e4
      simp only [List.mem_cons, List.not_mem_nil, or_false] at e4 hs ⊢
      rw [app_sm (by simp; omega)]
      simp only [Option.bind_some]
      refine wp_some.2 ⟨_, _, _, by rw [W_succ (by omega)], hs, by simp; omega, fun r hr => ?_⟩
      rcases List.mem_append.1 hr with hr | hr
      · exact h2 r hr
      · simp only [List.mem_singleton] at hr
        subst hr
        unfold RunOk
        simp only
        omega
    · rintro s ⟨l, a, run, rfl, hs, h1, h2⟩
      unfold Src_Power_L4
      simp only [nlt_len, Bool.false_eq_true, if_false]
      exact wp_some.2 ⟨_, _, _, rfl, hs, h1, h2⟩
  obtain ⟨l, a, run, rfl, hs, hx2, hx2'⟩ := hx2
  simp only
  -- limits
  refine Wp.bind (Q := fun x => ∃ l a lim, x = (l, a, lim) ∧ Sr l a ∧ lim.length = b.Consumers.length ∧ ∀ k, k < b.Consumers.length → 0 ≤ gt lim k ∧ gt lim k ≤ (gt b.Consumers k).Load) ?_ fun x hx3 => ?_
  · refine wp_upto b.Consumers.length (fun k s => ∃ l a lim, s = ((k : Int), l, a, lim) ∧ Sr l a ∧ lim.length = k ∧ ∀ j, j < k → 0 ≤ gt lim j ∧ gt lim j ≤ (gt b.Consumers j).Load) ⟨_, _, _, rfl, hs, rfl, fun j hj => by omega⟩ ?_ ?_
    · rintro k s hk ⟨l, a, lim, rfl, hs, h1, h2⟩
      have hcon := hb.good.2.2.2.2 k hk
      unfold Src_Power_L5
      have hld := hcon.2.1
      have hls := hcon.2.2.1
      simp only [lt_len hk, if_true, idx_gt hk, Option.bind_some]
      rw [quoO_nn hld.1 (by omega) (by omega)]
      simp only [Option.bind_some]
      refine (wpPick hs (by simp) (by simp)).bind fun y e1 => ?_
      obtain ⟨y1, l, a, z⟩ := y
      obtain ⟨e1, hs⟩ := e1
      simp only [List.mem_cons, List.not_mem_nil, or_false] at e1 hs ⊢
      rw [app_sm (by simp; omega)]
      simp only [Option.bind_some]
      refine wp_some.2 ⟨_, _, _, by rw [W_succ (by omega)], hs, by simp; omega, fun j hj => ?_⟩
      rw [gt_snoc (by omega)]
      by_cases hjl : j < lim.length
      · rw [if_pos hjl]; exact h2 j (by omega)
      · rw [if_neg hjl]
        have : j = k := by omega
        subst this
        omega
    · rintro s ⟨l, a, lim, rfl, hs, h1, h2⟩
      unfold Src_Power_L5
      simp only [nlt_len, Bool.false_eq_true, if_false]
      exact wp_some.2 ⟨_, _, _, rfl, hs, h1, h2⟩
  obtain ⟨l, a, lim, rfl, hs, hx3, hx3'⟩ := hx3
  simp only
  -- broken parts
  refine Wp.bind (Q := fun x => ∃ l a brk, x = (l, a, brk) ∧ Sr l a ∧ brk.length ≤ 4 ∧ ∀ k, k < brk.length → BrokenAt b brk k) ?_ fun x hx4 => ?_
  · refine wp_upto 4 (fun k s => ∃ l a brk, s = ((k : Int) + 1, l, a, brk) ∧ Sr l a ∧ brk.length ≤ k ∧ (∀ x ∈ brk, x.Kind ≤ (k : Int)) ∧ ∀ j, j < brk.length → BrokenAt b brk j) ⟨_, _, _, rfl, hs, Nat.le_refl _, by simp, fun j hj => absurd hj (by simp)⟩ ?_ ?_
    · rintro k s hk ⟨l, a, brk, rfl, hs, h1, h2, h3⟩
      unfold Src_Power_L6
      simp only [dT (c := (k : Int) + 1 ≤ 4) (by omega), if_true]
      refine (wpN hs (n := 5) (by omega) (by omega)).bind fun y hy => ?_
      obtain ⟨y1, l, a⟩ := y
      obtain ⟨hy, hs⟩ := hy
      simp only at hy hs ⊢
      refine Wp.bind (Q := fun x => ∃ l a brk, x = (l, a, brk) ∧ Sr l a ∧ brk.length ≤ k + 1 ∧ (∀ q ∈ brk, q.Kind ≤ (k : Int) + 1) ∧ ∀ j, j < brk.length → BrokenAt b brk j) ?_ fun x hx5 => ?_
      · refine Wp.ite (fun _ => ?_) (fun _ => wp_some.2 ⟨_, _, _, rfl, hs, by omega, fun q hq => by have := h2 q hq; omega, h3⟩)
        refine (wpN hs (n := 4) (by omega) (by omega)).bind fun y e1 => ?_
        obtain ⟨y2, l, a⟩ := y
        obtain ⟨e1, hs⟩ := e1
        simp only at e1 hs ⊢
        rw [exists_eq hb.lim]
        simp only [Option.bind_some, Option.bind_fun_some]
        refine Wp.bind (Q := fun x : List Part => x.length ≤ k + 1 ∧ (∀ q ∈ x, q.Kind ≤ (k : Int) + 1) ∧ ∀ j, j < x.length → BrokenAt b x j) ?_ fun x hx6 => wp_some.2 ⟨_, _, _, rfl, hs, hx6⟩
        refine Wp.ite (fun he => ?_) (fun _ => wp_some.2 ⟨by omega, fun q hq => by have := h2 q hq; omega, h3⟩)
        have he' := of_decide_eq_true he
        rw [app_sm (by simp; omega)]
        refine wp_some.2 ⟨by simp; omega, fun q hq => ?_, fun j hj => ?_⟩
        · rcases List.mem_append.1 hq with hq | hq
          · have := h2 q hq; omega
          · simp only [List.mem_singleton] at hq
            subst hq
            exact Int.le_refl _
        · have hj' : j < brk.length + 1 := by simpa using hj
          unfold BrokenAt
          rw [gt_snoc hj']
          by_cases hjl : j < brk.length
          · rw [if_pos hjl, gt_snoc (by omega), if_pos (by omega)]
            exact h3 j hjl
          · rw [if_neg hjl]
            refine ⟨he', fun h0 => .inl ?_⟩
            rw [gt_snoc (by omega), if_pos (by omega)]
            have := h2 _ (gt_mem (show j - 1 < brk.length by omega))
            simp only
            omega
      · obtain ⟨l, a, brk', rfl, hs, q1, q2, q3⟩ := hx5
        refine wp_some.2 ⟨l, a, brk', ?_, hs, q1, fun q hq => by have := q2 q hq; omega, q3⟩
        rw [W_sm (by omega) (by omega), show (k : Int) + 1 + 1 = ((k + 1 : Nat) : Int) + 1 from by omega]
    · rintro s ⟨l, a, brk, rfl, hs, h1, h2, h3⟩
      unfold Src_Power_L6
      simp only [dF (c := ((4 : Nat) : Int) + 1 ≤ 4) (by omega), Bool.false_eq_true, if_false]
      exact wp_some.2 ⟨_, _, _, rfl, hs, h1, h3⟩
  obtain ⟨l, a, brk, rfl, hs, hx4, hx4'⟩ := hx4
  simp only
  refine wp_some.2 ⟨_, _, _, _, _, _, rfl, hs, ⟨hcl.1, hx2, hx3⟩, ⟨⟨hx4', by simp only; omega⟩, fun k hk => (hx2' _ (gt_mem hk)).1, fun k hk => ?_⟩, hx4, fun r hr => (hx2' r hr).2⟩
  simp only at hk
  have hk' : k < b.Consumers.length := by omega
  refine ⟨hx3' k hk', ?_⟩
  exact Nat.le_trans (Nat.le_of_eq (clo_congr (b := b) (p := ⟨cl, run, lim, brk⟩) (q := pc cl) (fun _ _ _ _ => rfl))) (hcl.2 k hk')
end Rx
end Go.Proofs.YtfnphdhcgkondaaGreat
