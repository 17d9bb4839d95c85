/- Who is served. -/
import Derived.Test.YtfnphdhcgkondaaGreatH10
set_option linter.unusedVariables false
set_option linter.unusedSimpArgs false
namespace Go.Proofs.YtfnphdhcgkondaaGreat
open Go Go.RowKit Dp
namespace Rx
section
variable {b : Board} {p q : Power}
/-- fed on a live bus, not broken, with what it needs at least -/
noncomputable def basS (b : Board) (p : Power) (c : Int) : Bool := (fedB b p c).2 && (liv b p (fedB b p c).1 && (!brk p 4 c && !decide (gt p.Limits c.toNat < (gt b.Consumers c.toNat).Least)))
noncomputable def srv (b : Board) (p : Power) : Nat → Int → Bool
  | 0, _ => false
  | n + 1, c => basS b p c && (gt b.Consumers c.toNat).Needs.all (srv b p n)
theorem needs_bd (hg : BGood b) {c : Int} (hc : 0 ≤ c ∧ c < (b.Consumers.length : Int)) : (gt b.Consumers c.toNat).Needs.length ≤ 4 ∧ ∀ d ∈ (gt b.Consumers c.toNat).Needs, 0 ≤ d ∧ d < c := by
  have h := hg.2.2.2.2 c.toNat (by omega)
  refine ⟨h.2.2.2.2.2, fun d hd => ?_⟩
  obtain ⟨i, hi, rfl⟩ := mem_gt hd
  have := (h.1 i hi).1
  omega
theorem find_all {P : Int → Bool} {l : List Int} : l.all P = match (List.range l.length).find? (fun k => !P (gt l k)) with
    | some _ => false
    | none => true := by
  cases hf : (List.range l.length).find? (fun k => !P (gt l k)) with
  | some k =>
    have hk := List.mem_range.1 (List.mem_of_find?_eq_some hf)
    have hp := List.find?_some hf
    refine List.all_eq_false.2 ⟨_, gt_mem hk, ?_⟩
    simpa using hp
  | none =>
    refine List.all_eq_true.2 fun c hc => ?_
    obtain ⟨k, hk, rfl⟩ := mem_gt hc
    have := List.find?_eq_none.1 hf k (List.mem_range.2 hk)
    simpa using this
theorem served_run (hb : SmB b) (hp : SmP p) (h : stt b p = 0) : ∀ (n : Nat) (c : Int), 0 ≤ c → c < (b.Consumers.length : Int) → c < (n : Int) → shed_Served_R n b p c = some (srv b p n c)
  | 0, c, h0, h1, h2 => by omega
  | n + 1, c, h0, h1, h2 => by
    obtain ⟨⟨hl, hg⟩, ⟨s1, s2, s3⟩, _⟩ := stt_zero.1 h
    obtain ⟨n1, n2⟩ := needs_bd hg ⟨h0, h1⟩
    have ih := served_run hb hp h n
    show shed_Served_S (shed_Served_R n) b p c = _
    unfold shed_Served_S srv basS
    rw [fedB_eq hb hp]
    simp only [Option.bind_some]
    cases hf : (fedB b p c).2 with
    | false => simp only [Bool.not_false, if_true, Option.bind_some, Bool.false_and]
    | true =>
      simp only [Bool.not_true, Bool.false_eq_true, if_false, liv_eq hb hp, Option.bind_some, Bool.true_and]
      cases hv : liv b p (fedB b p c).1 with
      | false => simp only [Bool.not_false, if_true, Option.bind_some, Bool.false_and]
      | true =>
        simp only [Bool.not_true, Bool.false_eq_true, if_false, brk_has hp, Option.bind_some, Bool.true_and]
        cases hk : brk p 4 c with
        | true => simp only [if_true, Option.bind_some, Bool.not_true, Bool.false_and]
        | false =>
          simp only [Bool.false_eq_true, if_false, Bool.not_false, Bool.true_and]
          rw [idx_gtZ (l := p.Limits) h0 (by omega), idx_gtZ (l := b.Consumers) h0 h1]
          simp only [Option.bind_some]
          cases hle : decide (gt p.Limits c.toNat < (gt b.Consumers c.toNat).Least) with
          | true => simp only [if_true, Bool.not_true, Bool.false_and]
          | false =>
            simp only [Bool.false_eq_true, if_false, Bool.not_false, Bool.true_and]
            generalize (gt b.Consumers c.toNat).Needs = l at n1 n2 ⊢
            unfold slices_ContainsFunc_int_int_flat slices_IndexFunc_int_int_flat_v1
            have hl1 := loop_find (step := slices_IndexFunc_int_int_flat_v1_L1 (shed_Served_R n) l b p) (fun k => (k : Int)) l.length (fun k => !srv b p n (gt l k)) (R := fun k => .inr (k : Int)) (e := .inl ()) (fun k hk hp => by
              have hd := n2 _ (gt_mem hk)
              unfold slices_IndexFunc_int_int_flat_v1_L1 shed_Served_1
              simp only [lt_len hk, if_true, idx_gt hk, Option.bind_some, ih (gt l k) hd.1 (by omega) (by omega), hp, Bool.false_eq_true, if_false]
              rw [W_succ (by omega)]) (fun k hk hp => by
              have hd := n2 _ (gt_mem hk)
              unfold slices_IndexFunc_int_int_flat_v1_L1 shed_Served_1
              simp only [lt_len hk, if_true, idx_gt hk, Option.bind_some, ih (gt l k) hd.1 (by omega) (by omega), hp]) (by
              unfold slices_IndexFunc_int_int_flat_v1_L1
              simp only [nlt_len, Bool.false_eq_true, if_false]) (by omega)
            have hl1' : loopO (slices_IndexFunc_int_int_flat_v1_L1 (shed_Served_R n) l b p) 0 = _ := hl1
            rw [hl1', find_all]
            cases (List.range l.length).find? (fun k => !srv b p n (gt l k)) with
            | none => rfl
            | some k =>
              simp only [Option.bind_some, Sum.elim_inr]
              rw [dT (by omega)]
              rfl
theorem srv_stable (hg : BGood b) : ∀ (n m : Nat) (c : Int), 0 ≤ c → c < (b.Consumers.length : Int) → c < (n : Int) → c < (m : Int) → srv b p n c = srv b p m c
  | 0, m, c, h0, h1, h2, h3 => by omega
  | n + 1, 0, c, h0, h1, h2, h3 => by omega
  | n + 1, m + 1, c, h0, h1, h2, h3 => by
    obtain ⟨n1, n2⟩ := needs_bd hg ⟨h0, h1⟩
    unfold srv
    congr 1
    rw [Bool.eq_iff_iff, List.all_eq_true, List.all_eq_true]
    have he : ∀ d ∈ (gt b.Consumers c.toNat).Needs, srv b p n d = srv b p m d := fun d hd => by
      have := n2 d hd
      exact srv_stable hg n m d this.1 (by omega) (by omega) (by omega)
    exact ⟨fun hh d hd => by rw [← he d hd]; exact hh d hd, fun hh d hd => by rw [he d hd]; exact hh d hd⟩
theorem served_eq (hb : SmB b) (hp : SmP p) (h : stt b p = 0) {c : Int} (hc : 0 ≤ c ∧ c < (b.Consumers.length : Int)) : shed_Served b p c = some (srv b p 64 c) := by
  have hcon := (stt_zero.1 h).1.1.con
  exact served_run hb hp h 64 c hc.1 hc.2 (by omega)
theorem srv_mono (hg : BGood b) (hbs : ∀ c : Int, 0 ≤ c → c < (b.Consumers.length : Int) → basS b q c = true → basS b p c = true) : ∀ (n : Nat) (c : Int), 0 ≤ c → c < (b.Consumers.length : Int) → srv b q n c = true → srv b p n c = true
  | 0, c, h0, h1, h2 => by unfold srv at h2; cases h2
  | n + 1, c, h0, h1, h2 => by
    obtain ⟨n1, n2⟩ := needs_bd hg ⟨h0, h1⟩
    unfold srv at h2 ⊢
    rw [Bool.and_eq_true, List.all_eq_true] at h2 ⊢
    exact ⟨hbs c h0 h1 h2.1, fun d hd => by
      have := n2 d hd
      exact srv_mono hg hbs n d this.1 (by omega) (h2.2 d hd)⟩
/-! fewer closed breakers: who is fed and alive was so before -/
theorem clo_step (j : Int) (n : Nat) : clo b p j n ≤ clo b p j (n + 1) := by
  rw [show clo b p j (n + 1) = clo b p j n + if (gt b.Breakers n).Kind = 3 ∧ (gt b.Breakers n).B = j ∧ gt p.Closed n = true then 1 else 0 from rfl]
  omega
theorem clo_one {j : Int} {i : Nat} (hi : (gt b.Breakers i).Kind = 3 ∧ (gt b.Breakers i).B = j ∧ gt p.Closed i = true) : ∀ n, i < n → 1 ≤ clo b p j n
  | 0, h => by omega
  | n + 1, h => by
    by_cases e : i = n
    · subst e
      rw [show clo b p j (i + 1) = clo b p j i + if (gt b.Breakers i).Kind = 3 ∧ (gt b.Breakers i).B = j ∧ gt p.Closed i = true then 1 else 0 from rfl, if_pos hi]
      omega
    · have := clo_one hi n (by omega)
      have := clo_step (b := b) (p := p) j n
      omega
theorem clo_two {j : Int} {i k : Nat} (hik : i < k) (hi : (gt b.Breakers i).Kind = 3 ∧ (gt b.Breakers i).B = j ∧ gt p.Closed i = true) (hk : (gt b.Breakers k).Kind = 3 ∧ (gt b.Breakers k).B = j ∧ gt p.Closed k = true) : ∀ n, k < n → 2 ≤ clo b p j n
  | 0, h => by omega
  | n + 1, h => by
    by_cases e : k = n
    · subst e
      have := clo_one hi k hik
      rw [show clo b p j (k + 1) = clo b p j k + if (gt b.Breakers k).Kind = 3 ∧ (gt b.Breakers k).B = j ∧ gt p.Closed k = true then 1 else 0 from rfl, if_pos hk]
      omega
    · have := clo_two hik hi hk n (by omega)
      have := clo_step (b := b) (p := p) j n
      omega
theorem led_found {kind j : Int} (hf : (led b p kind j).2 = true) : ∃ k, k < b.Breakers.length ∧ ledAt b p kind j k = true ∧ (led b p kind j).1 = (gt b.Breakers k).A := by
  unfold led at hf ⊢
  cases hfi : (List.range b.Breakers.length).find? (ledAt b p kind j) with
  | none => rw [hfi] at hf; simp at hf
  | some k => exact ⟨k, List.mem_range.1 (List.mem_of_find?_eq_some hfi), List.find?_some hfi, rfl⟩
theorem led_some {kind j : Int} {k : Nat} (hk : k < b.Breakers.length) (ha : ledAt b p kind j k = true) (hu : ∀ i, i < b.Breakers.length → ledAt b p kind j i = true → i = k) : led b p kind j = ((gt b.Breakers k).A, true) := by
  unfold led
  cases hfi : (List.range b.Breakers.length).find? (ledAt b p kind j) with
  | none => exact (List.find?_eq_none.1 hfi k (List.mem_range.2 hk) ha).elim
  | some i =>
    have := hu i (List.mem_range.1 (List.mem_of_find?_eq_some hfi)) (List.find?_some hfi)
    subst this
    rfl
theorem ledAt_iff {kind j : Int} {k : Nat} : ledAt b p kind j k = true ↔ (gt b.Breakers k).Kind = kind ∧ (gt b.Breakers k).B = j ∧ gt p.Closed k = true := by
  unfold ledAt
  simp only [Bool.and_eq_true, beq_iff_eq, and_assoc]
theorem led_mono3 (h : stt b p = 0) (hc : ∀ k, gt q.Closed k = true → gt p.Closed k = true) {c : Int} (hc0 : 0 ≤ c ∧ c < (b.Consumers.length : Int)) (hf : (led b q 3 c).2 = true) : led b p 3 c = led b q 3 c := by
  obtain ⟨k, hk, ha, he⟩ := led_found hf
  have h1 := ledAt_iff.1 ha
  have ha' : ledAt b p 3 c k = true := ledAt_iff.2 ⟨h1.1, h1.2.1, hc k h1.2.2⟩
  obtain ⟨_, ⟨s1, s2, s3⟩, _, _, g3⟩ := stt_zero.1 h
  have hcl := (g3 c.toNat (by omega)).2
  rw [show ((c.toNat : Nat) : Int) = c by omega] at hcl
  rw [led_some hk ha' fun i hi hai => by
    rcases Nat.lt_trichotomy i k with e | e | e
    · have := clo_two e (ledAt_iff.1 hai) (ledAt_iff.1 ha') b.Breakers.length hk
      omega
    · exact e
    · have := clo_two e (ledAt_iff.1 ha') (ledAt_iff.1 hai) b.Breakers.length hi
      omega]
  rw [← he, ← hf]
theorem led_mono2 (hg : BrkOk b) (hc : ∀ k, gt q.Closed k = true → gt p.Closed k = true) {j : Nat} (hj : j < b.Sources.length) (hf : (led b q 2 (j : Int)).2 = true) : led b p 2 (j : Int) = led b q 2 (j : Int) := by
  obtain ⟨k, hk, ha, he⟩ := led_found hf
  have h1 := ledAt_iff.1 ha
  have ha' : ledAt b p 2 (j : Int) k = true := ledAt_iff.2 ⟨h1.1, h1.2.1, hc k h1.2.2⟩
  obtain ⟨_, hu⟩ := rangeF_len1.1 ((refBrk_iff.1 hg).2.1 j hj)
  have hF : ∀ i, ledAt b p 2 (j : Int) i = true → findP b 2 (j : Int) i = true := fun i hi => by
    have := ledAt_iff.1 hi
    unfold findP
    rw [beqT this.1, beqT this.2.1]
    rfl
  rw [led_some hk ha' fun i hi hai => by
    rcases Nat.lt_trichotomy i k with e | e | e
    · exact (hu i k e hk (hF i hai) (hF k ha')).elim
    · exact e
    · exact (hu k i e hi (hF k ha') (hF i hai)).elim]
  rw [← he, ← hf]
theorem liv_mono (h : stt b p = 0) (h' : stt b q = 0) (hln : q.Sources.length = p.Sources.length) (hs : ∀ j, j < p.Sources.length → (gt q.Sources j).State = (gt p.Sources j).State) (hc : ∀ k, gt q.Closed k = true → gt p.Closed k = true) {k : Int} (hl : liv b q k = true) : liv b p k = true := by
  obtain ⟨⟨hlm, hg⟩, ⟨_, t2, _⟩, _⟩ := stt_zero.1 h
  unfold liv ofB at hl ⊢
  by_cases c : 0 ≤ k ∧ k < b.Buses
  case neg =>
    rw [if_neg fun hh => c hh.2] at hl
    simp at hl
  rw [if_pos ⟨h', c⟩] at hl
  rw [if_pos ⟨h, c⟩]
  have hl := of_decide_eq_true hl
  refine decide_eq_true ?_
  obtain ⟨s, hs1⟩ : ∃ s, s ∈ (isleOf b q k).Sources := ⟨_, gt_mem hl⟩
  unfold isleOf at hs1
  obtain ⟨j, hj, hcn, hgr, rfl⟩ := mem_src.1 hs1
  have hcb := conn_bd hg.1 hcn
  have hce : conn b p (j : Int) = conn b q (j : Int) := by
    unfold conn at hcn ⊢
    rw [hln] at hcn ⊢
    by_cases c1 : 0 ≤ (j : Int) ∧ (j : Int) ≤ (p.Sources.length : Int) - 1
    · rw [if_pos c1] at hcn
      rw [if_pos c1, if_pos c1, hs _ (by omega)]
      rw [hs _ (by omega)] at hcn
      by_cases c2 : (gt p.Sources (j : Int).toNat).State = 2
      · rw [if_pos c2] at hcn
        rw [if_pos c2, if_pos c2]
        exact led_mono2 hg.1 hc hj hcn
      · rw [if_neg c2] at hcn
        cases hcn
    · rw [if_neg c1] at hcn
      cases hcn
  have hgq := grp_bd (p := q) hg.1 (show k.toNat < b.Buses.toNat by omega)
  have hconn : Conn (Tied b q) (conn b q (j : Int)).1.toNat k.toNat := (grp_iff hg.1 (by omega) (by omega)).1 (by omega)
  have hconn' : Conn (Tied b p) (conn b q (j : Int)).1.toNat k.toNat := hconn.mono fun u v ⟨w, w1, w2, w3, w4⟩ => ⟨w, w1, w2, hc w w3, w4⟩
  have hgp := (grp_iff (p := p) hg.1 (show (conn b q (j : Int)).1.toNat < b.Buses.toNat by omega) (show k.toNat < b.Buses.toNat by omega)).2 hconn'
  have hgpb := grp_bd (p := p) hg.1 (show k.toNat < b.Buses.toNat by omega)
  have hm : (j : Int) ∈ (isleOf b p k).Sources := by
    unfold isleOf
    refine mem_src.2 ⟨j, hj, by rw [hce]; exact hcn, ?_, rfl⟩
    rw [hce, hgp]
    omega
  exact List.length_pos_of_mem hm
theorem prot_le (k : Nat) (hc : gt (protP b p).Closed k = true) : gt p.Closed k = true := by
  have h1 : gt (clrP b p).Closed k = true := opn_le hc
  have h2 : gt (clr1 b p).Closed k = true := opn_le h1
  exact opn_le h2
theorem bas_prot (h : stt b p = 0) {c : Int} (h0 : 0 ≤ c) (h1 : c < (b.Consumers.length : Int)) (hq : basS b (protP b p) c = true) : basS b p c = true := by
  have hs := stt_prot h
  have hst : ∀ j, j < p.Sources.length → (gt (protP b p).Sources j).State = (gt p.Sources j).State := fun j hj => (same_clrP h).st j hj
  have hln : (protP b p).Sources.length = p.Sources.length := (same_clrP h).len
  unfold basS at hq ⊢
  simp only [Bool.and_eq_true] at hq ⊢
  obtain ⟨q1, q2, q3, q4⟩ := hq
  have hfe : fedB b p c = fedB b (protP b p) c := by
    unfold fedB at q1 ⊢
    rw [if_pos hs] at q1
    rw [if_pos h, if_pos hs]
    exact led_mono3 h prot_le ⟨h0, h1⟩ q1
  rw [hfe]
  refine ⟨q1, liv_mono h hs hln hst prot_le q2, q3, ?_⟩
  have hok := shAll_ok (stt_clrP h)
  obtain ⟨_, _, _, _, _, s6⟩ := brk_lens h
  have hll : (shAll b (clrP b p)).1.length = p.Limits.length := hok.len
  have hle : gt (protP b p).Limits c.toNat ≤ gt p.Limits c.toNat := (hok.le c.toNat (by omega)).2
  have q4' : ¬ gt (protP b p).Limits c.toNat < (gt b.Consumers c.toNat).Least := by simpa using q4
  have : ¬ gt p.Limits c.toNat < (gt b.Consumers c.toNat).Least := by omega
  simp [this]
end
end Rx
end Go.Proofs.YtfnphdhcgkondaaGreat
