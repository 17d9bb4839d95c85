/- Scripts of faults: normal and merged scripts: the reference's functions and the program's are equal, for all lists. Plain laws. -/
import Derived.Test.YtkgfdplcjdidhaaFx7
set_option linter.unusedVariables false
set_option linter.unusedSimpArgs false
namespace Go.Proofs.Ytkgfdplcjdidhaa
open Go Go.RowKit Dp
namespace Rx

theorem times_mem {x : List Fault} (hx : x.length ≤ 1000) : ∃ T, dynposref34_times x = some T ∧ Asc id T ∧ T.length ≤ x.length ∧ ∀ t, t ∈ T ↔ ∃ f ∈ x, f.Time = t := by
  have hloop : Wp (loopO (dynposref34_times_L1 x) (0, [])) fun T => Asc id T ∧ T.length ≤ x.length ∧ ∀ t, t ∈ T ↔ ∃ f ∈ x, f.Time = t := by
    refine wp_upto x.length (fun k s => s.1 = (k : Int) ∧ Asc id s.2 ∧ s.2.length ≤ k ∧ ∀ t, t ∈ s.2 ↔ ∃ f ∈ x.take k, f.Time = t) ⟨rfl, (show Asc id ([] : List Int) from List.Pairwise.nil), Nat.le_refl _, fun t => by simp⟩ (fun k s hk hv => ?_) (fun s hv => ?_) (by omega)
    · obtain ⟨z, T⟩ := s
      obtain ⟨h1, h2, h3, h4⟩ := hv
      simp only at h1 h2 h3 h4
      subst h1
      have old : (gt x k).Time ∈ T → ∀ t, t ∈ T ↔ ∃ f ∈ x.take (k + 1), f.Time = t := fun hin t => by
        rw [take_gt hk, h4]
        constructor
        · rintro ⟨f, hf, e⟩; exact ⟨f, List.mem_append_left _ hf, e⟩
        · rintro ⟨f, hf, e⟩
          rcases List.mem_append.1 hf with hf | hf
          · exact ⟨f, hf, e⟩
          · rw [List.mem_singleton.1 hf] at e; subst e; exact (h4 _).1 hin
      have hin : Wp (loopO (dynposref34_times_L2 ((k : Int), T) (gt x k)) 0) fun r => ∃ k' : Nat, r = (k' : Int) ∧ k' ≤ T.length ∧ (∀ i, i < k' → gt T i < (gt x k).Time) ∧ (k' < T.length → ¬ gt T k' < (gt x k).Time) := by
        refine wp_upto (s := (0 : Int)) T.length (fun k' s => s = (k' : Int) ∧ ∀ i, i < k' → gt T i < (gt x k).Time) ⟨rfl, fun j hj => by omega⟩ (fun k' s hkl hi => ?_) (fun s hi => ?_) (by omega)
        · obtain ⟨rfl, hi⟩ := hi
          unfold dynposref34_times_L2
          simp only [lt_len hkl, if_true, idx_gt hkl, Option.bind_some]
          by_cases he : gt T k' < (gt x k).Time
          · simp only [dT he, if_true]
            rw [W_succ (by omega)]
            exact wp_some.2 ⟨rfl, fun j hj => by
              by_cases hjk : j = k'
              · rw [hjk]; exact he
              · exact hi j (by omega)⟩
          · simp only [dF he, Bool.false_eq_true, if_false]
            exact wp_some.2 ⟨k', rfl, by omega, hi, fun _ => he⟩
        · obtain ⟨rfl, hi⟩ := hi
          unfold dynposref34_times_L2
          simp only [nlt_len, Bool.false_eq_true, if_false, Option.bind_some]
          exact wp_some.2 ⟨T.length, rfl, Nat.le_refl _, hi, fun h => by omega⟩
      obtain ⟨r, hr, q, rfl, q1, q2, q3⟩ := hin
      unfold dynposref34_times_L1
      simp only [lt_len hk, if_true, idx_gt hk, Option.bind_some, hr]
      have new : (q < T.length → gt T q ≠ (gt x k).Time) → ∃ T', (Option.bind (slc T 0 (q : Int)) fun x9 => Option.bind (slc T (q : Int) (len T)) fun x10 => Option.bind (app [(gt x k).Time] (drpI T (q : Int))) fun x11 => Option.bind (app (takI T (q : Int)) x11) fun x12 => some x12) = some T' ∧ Asc id T' ∧ T'.length ≤ k + 1 ∧ ∀ t, t ∈ T' ↔ ∃ f ∈ x.take (k + 1), f.Time = t := fun hne => by
        rw [slc_take q1, slc_drop q1, drop_Z, take_Z]
        simp only [Option.bind_some]
        rw [app_sm (by simp; omega)]
        simp only [Option.bind_some]
        rw [app_sm (by simp; omega)]
        refine ⟨_, rfl, ins_at h2 q1 q2 (fun hkl => ?_), by simp; omega, fun t => ?_⟩
        rotate_left
        · rw [take_gt hk]
          have e : t ∈ T.take q ++ ([(gt x k).Time] ++ T.drop q) ↔ t ∈ T ∨ t = (gt x k).Time := by
            have e0 : t ∈ T ↔ t ∈ T.take q ∨ t ∈ T.drop q := by rw [← List.mem_append, List.take_append_drop]
            rw [e0]
            simp only [List.mem_append, List.mem_singleton]
            constructor
            · rintro (h | h | h)
              · exact .inl (.inl h)
              · exact .inr h
              · exact .inl (.inr h)
            · rintro ((h | h) | h)
              · exact .inl h
              · exact .inr (.inr h)
              · exact .inr (.inl h)
          rw [e, h4]
          constructor
          · rintro (⟨f, hf, e⟩ | e)
            · exact ⟨f, List.mem_append_left _ hf, e⟩
            · exact ⟨gt x k, by simp, e.symm⟩
          · rintro ⟨f, hf, e⟩
            rcases List.mem_append.1 hf with hf | hf
            · exact .inl ⟨f, hf, e⟩
            · rw [List.mem_singleton.1 hf] at e; exact .inr e.symm
        have := q3 hkl
        have := hne hkl
        simp only [id]
        omega
      by_cases hq : q < T.length
      · rw [beqF (a := (q : Int)) (b := len T) (by unfold len; omega)]
        simp only [Bool.false_eq_true, if_false, idx_gt hq, Option.bind_some]
        by_cases he : gt T q = (gt x k).Time
        · simp only [bneF he, Bool.false_eq_true, if_false, Option.bind_some]
          rw [W_succ (by omega)]
          exact wp_some.2 ⟨rfl, h2, by simp only; omega, old (he ▸ gt_mem hq)⟩
        · obtain ⟨T', n1, n2, n3, n4⟩ := new fun _ => he
          simp only [bneT he, if_true, n1, Option.bind_some]
          rw [W_succ (by omega)]
          exact wp_some.2 ⟨rfl, n2, n3, n4⟩
      · obtain ⟨T', n1, n2, n3, n4⟩ := new fun h => (hq h).elim
        rw [beqT (a := (q : Int)) (b := len T) (by unfold len; omega)]
        simp only [if_true, Option.bind_some, n1]
        rw [W_succ (by omega)]
        exact wp_some.2 ⟨rfl, n2, n3, n4⟩
    · obtain ⟨z, T⟩ := s
      obtain ⟨h1, h2, h3, h4⟩ := hv
      simp only at h1 h2 h3 h4
      subst h1
      rw [List.take_length] at h4
      unfold dynposref34_times_L1
      simp only [nlt_len, Bool.false_eq_true, if_false]
      exact wp_some.2 ⟨h2, h3, h4⟩
  obtain ⟨T, hT, h1, h2⟩ := hloop
  unfold dynposref34_times
  rw [hT]
  exact ⟨T, rfl, h1, h2⟩
theorem Merge_eq {a b : List Fault} (ha : Vl a) (hb : Vl b) (hla : a.length ≤ 24) (hlb : b.length ≤ 24) : ∃ C, Col fk (mAll a b) C ∧ C.length ≤ a.length + b.length ∧ faults_Merge a b = some (if (trn C).length > 24 then (2, []) else (0, trn C)) := by
  have hC := col_srt (key := fk) (mAll a b)
  have hvf := mAll_vf ha.vf hb.vf
  have hml : (mAll a b).length = a.length + b.length := by unfold mAll; simp
  refine ⟨_, hC, by have := hC.len; omega, ?_⟩
  have hcl := hC.len
  unfold faults_Merge
  rw [check_ok ha (by omega), check_ok hb (by omega)]
  simp only [Option.bind_some, or0_eq, bne_self_eq_false, Bool.false_eq_true, if_false]
  rw [concat_eq (by omega) (by omega)]
  simp only [Option.bind_some]
  have e := loop_each (l := a ++ b) (step := faults_Merge_L1 a b ([a, b], a ++ b)) (fun pre => pre.map fun f => (⟨f.Time, mK a b f.Time f.Part, f.Part⟩ : Fault)) (fun k hk => by
    obtain ⟨d1, h1, p1⟩ := active_eq ha.toVs (by omega) (gt (a ++ b) k).Time
    obtain ⟨d2, h2, p2⟩ := active_eq hb.toVs (by omega) (gt (a ++ b) k).Time
    have l1 : d1.length ≤ 1000000 := by
      have := p1.len (l := a.map Fault.Part) fun p hp => by
        rcases lst_char (Up a (gt (a ++ b) k).Time) p with ⟨h2, _⟩ | ⟨x, f, y, he, h2, _, _⟩
        · omega
        · exact List.mem_map.2 ⟨f, (Up_mem.1 (show f ∈ Up a _ by rw [he]; simp)).1, h2⟩
      simp at this; omega
    have l2 : d2.length ≤ 1000000 := by
      have := p2.len (l := b.map Fault.Part) fun p hp => by
        rcases lst_char (Up b (gt (a ++ b) k).Time) p with ⟨h2, _⟩ | ⟨x, f, y, he, h2, _, _⟩
        · omega
        · exact List.mem_map.2 ⟨f, (Up_mem.1 (show f ∈ Up b _ by rw [he]; simp)).1, h2⟩
      simp at this; omega
    unfold faults_Merge_L1
    simp only [lt_len hk, if_true, idx_gt hk, Option.bind_some, h1, h2, has_eq l1, has_eq l2]
    have hk' : (if dB ((gt (a ++ b) k).Part ∈ d1) = true then some true else some (dB ((gt (a ++ b) k).Part ∈ d2))) = some (dB (mK a b (gt (a ++ b) k).Time (gt (a ++ b) k).Part = 1)) := by
      rw [dB_congr mK_one]
      by_cases q1 : (gt (a ++ b) k).Part ∈ d1
      · rw [dB_T q1, if_pos rfl, dB_T (.inl ((p1.mem _).1 q1))]
      · rw [dB_F q1]
        simp only [Bool.false_eq_true, if_false]
        congr 1
        refine dB_congr ?_
        rw [p2.mem]
        exact ⟨.inr, fun h => h.resolve_left fun h => q1 ((p1.mem _).2 h)⟩
    rw [hk']
    simp only [Option.bind_some]
    have hk2 : (if dB (mK a b (gt (a ++ b) k).Time (gt (a ++ b) k).Part = 1) = true then some (1 : Int) else some 2) = some (mK a b (gt (a ++ b) k).Time (gt (a ++ b) k).Part) := by
      by_cases q : mK a b (gt (a ++ b) k).Time (gt (a ++ b) k).Part = 1
      · rw [dB_T q, q]; rfl
      · rw [dB_F q]
        simp only [Bool.false_eq_true, if_false]
        unfold mK at q ⊢
        split at q
        · exact (q rfl).elim
        · rename_i hh; rw [if_neg hh]
    rw [hk2]
    simp only [Option.bind_some]
    rw [app_sm (by simp at hk ⊢; omega)]
    simp) (by
    unfold faults_Merge_L1
    simp only [nlt_len, Bool.false_eq_true, if_false]
    all_goals rfl) (by simp; omega)
  simp only [List.map_nil] at e
  rw [e]
  simp only [Option.bind_some]
  rw [show (a ++ b).map (fun f => (⟨f.Time, mK a b f.Time f.Part, f.Part⟩ : Fault)) = mAll a b from rfl, collect_eq (by omega) hvf]
  simp only [Option.bind_some]
  rw [turns_eq (by omega) fun f hf => hvf f (hC.sub f hf)]
  simp only [Option.bind_some]
  have := (trn_sub (dd fk (srt fk (mAll a b)))).length_le
  by_cases h24 : (trn (dd fk (srt fk (mAll a b)))).length > 24
  · rw [dT (c := len (trn (dd fk (srt fk (mAll a b)))) > 24) (by unfold len; omega), if_pos h24]; rfl
  · rw [dF (c := len (trn (dd fk (srt fk (mAll a b)))) > 24) (by unfold len; omega), if_neg h24]; rfl
theorem or2E_eq (x y : Int) : cmp_Or_Errno [x, y] = some (if x = 0 then y else x) := by
  unfold cmp_Or_Errno
  by_cases hx : x = 0
  · by_cases hy : y = 0
    · have e := loop_run (step := cmp_Or_Errno_L1 [x, y]) (r := .inl ()) (fun k => (k : Int)) 2 (fun k hk => by
        unfold cmp_Or_Errno_L1
        rcases k with _ | _ | k
        · simp [len, idx, hx, W_sm]
        · simp [len, idx, hy, W_sm]
        · omega) (by unfold cmp_Or_Errno_L1; simp [len])
      simp only [show ((0 : Nat) : Int) = 0 from rfl] at e
      rw [e, if_pos hx, hy]
      rfl
    · have e := loop_find (step := cmp_Or_Errno_L1 [x, y]) (fun k => (k : Int)) 2 (fun k => k == 1) (R := fun k => .inr y) (e := .inl ()) (fun k hk hp => by
        unfold cmp_Or_Errno_L1
        rcases k with _ | _ | k
        · simp [len, idx, hx, W_sm]
        · simp at hp
        · omega) (fun k hk hp => by
        have hk1 : k = 1 := by simpa using hp
        subst hk1
        unfold cmp_Or_Errno_L1
        simp [len, idx, hy]) (by unfold cmp_Or_Errno_L1; simp [len])
      simp only [show ((0 : Nat) : Int) = 0 from rfl] at e
      rw [e, if_pos hx]
      rfl
  · have e := loop_find (step := cmp_Or_Errno_L1 [x, y]) (fun k => if k = 0 then 0 else 2) 1 (fun k => true) (R := fun k => .inr x) (e := .inl ()) (fun k hk hp => by simp at hp) (fun k hk hp => by
      have hk1 : k = 0 := by omega
      subst hk1
      unfold cmp_Or_Errno_L1
      simp [len, idx, hx]) (by unfold cmp_Or_Errno_L1; simp [len])
    simp only [if_true] at e
    rw [e, if_neg hx]
    rfl
theorem Normal_eq {x : List Fault} (hx : x.length ≤ 60) (hv : ∀ f ∈ x, VF f) : ∃ C, Col fk x.reverse C ∧ C.length ≤ x.length ∧ faults_Normal x = some (if (trn C).length > 24 then (2, []) else (0, trn C)) := by
  have hC := col_srt (key := fk) x.reverse
  have hv' : ∀ f ∈ x.reverse, VF f := fun f hf => hv f (List.mem_reverse.1 hf)
  have hcl := hC.len
  rw [List.length_reverse] at hcl
  refine ⟨_, hC, hcl, ?_⟩
  unfold faults_Normal slices_Clone_Fault_Fault
  rw [wrong_F (by omega) hv]
  simp only [Option.bind_some, Bool.false_eq_true, if_false]
  rw [dF (c := len x > 60) (by unfold len; omega), app_sm (by simp; omega)]
  simp only [Bool.false_eq_true, if_false, List.nil_append, Option.bind_some]
  rw [reverse_eq (by omega)]
  simp only [Option.bind_some]
  rw [collect1_eq (by simp; omega) hv']
  simp only [Option.bind_some]
  rw [turns_eq (by omega) fun f hf => hv' f (hC.sub f hf)]
  simp only [Option.bind_some]
  have := (trn_sub (dd fk (srt fk x.reverse))).length_le
  by_cases h24 : (trn (dd fk (srt fk x.reverse))).length > 24
  · rw [dT (c := len (trn (dd fk (srt fk x.reverse))) > 24) (by unfold len; omega), if_pos h24]; rfl
  · rw [dF (c := len (trn (dd fk (srt fk x.reverse))) > 24) (by unfold len; omega), if_neg h24]; rfl
instance decPart : DecidableEq Part := fun a b => if h : eqP a b = true then .isTrue (eqP_iff.1 h) else .isFalse fun e => h (eqP_iff.2 e)
/-! the part of a list that was gone through -/
theorem filter_add {C : List Fault} (hC : Asc fk C) {c : Fault} (hc : c ∈ C) (P Q : Fault → Bool) (h1 : ∀ f ∈ C, P f = true → fk f < fk c) (h2 : ∀ f ∈ C, Q f = true ↔ (P f = true ∨ f = c)) : C.filter Q = C.filter P ++ [c] := by
  refine asc_ext (hC.filter Q) ?_ fun f => ?_
  · refine List.pairwise_append.2 ⟨hC.filter P, List.pairwise_singleton _ _, fun a ha b hb => ?_⟩
    rw [List.mem_singleton.1 hb]
    exact h1 a (List.mem_filter.1 ha).1 (List.mem_filter.1 ha).2
  · rw [List.mem_filter, List.mem_append, List.mem_filter, List.mem_singleton]
    constructor
    · rintro ⟨h, hq⟩
      rcases (h2 f h).1 hq with hp | e
      · exact .inl ⟨h, hp⟩
      · exact .inr e
    · rintro (⟨h, hp⟩ | e)
      · exact ⟨h, (h2 f h).2 (.inl hp)⟩
      · subst e; exact ⟨hc, (h2 f hc).2 (.inr rfl)⟩
/-- ahead of a part of a time -/
noncomputable def bef (t : Int) (d : List Part) (f : Fault) : Bool := dB (f.Time < t ∨ f.Time = t ∧ f.Part ∈ d)
theorem bef_iff {t : Int} {d : List Part} {f : Fault} : bef t d f = true ↔ f.Time < t ∨ f.Time = t ∧ f.Part ∈ d := dB_iff
theorem bef_nil (C : List Fault) (t : Int) : C.filter (bef t []) = C.filter fun f => decide (f.Time < t) := List.filter_congr fun f _ => by
  by_cases h : f.Time < t
  · rw [dT h, bef_iff.2 (.inl h)]
  · rw [dF h]
    cases hb : bef t [] f with
    | false => rfl
    | true =>
      rcases bef_iff.1 hb with g | g
      · exact (h g).elim
      · exact (List.not_mem_nil g.2).elim
/-- one more part -/
theorem bef_step {C : List Fault} (hC : Vs C) {ps : List Part} (hps : Asc pk ps) (hvp : ∀ p ∈ ps, VP p) (t : Int) {k : Nat} (hk : k < ps.length) :
    (∃ c ∈ C, c.Time = t ∧ c.Part = gt ps k ∧ C.filter (bef t (ps.take (k + 1))) = C.filter (bef t (ps.take k)) ++ [c]) ∨ ((∀ c ∈ C, ¬ (c.Time = t ∧ c.Part = gt ps k)) ∧ C.filter (bef t (ps.take (k + 1))) = C.filter (bef t (ps.take k))) := by
  by_cases h : ∃ c ∈ C, c.Time = t ∧ c.Part = gt ps k
  · obtain ⟨c, hc, h1, h2⟩ := h
    refine .inl ⟨c, hc, h1, h2, filter_add hC.asc hc _ _ (fun f hf hb => ?_) (fun f hf => ?_)⟩
    · have b1 := (hC.vf f hf).p.bd
      have b2 := (hC.vf c hc).p.bd
      unfold fk
      rcases bef_iff.1 hb with g | ⟨g1, g2⟩
      · omega
      · obtain ⟨j, hj, e⟩ := mem_gt g2
        have hj' : j < k := by simp at hj; omega
        have e2 : gt (ps.take k) j = gt ps j := by rw [gt_get hj, gt_get (by omega)]; simp
        have := asc_gt hps hj' hk
        rw [h2, ← e, e2]
        omega
    · rw [bef_iff, bef_iff, take_gt hk]
      simp only [List.mem_append, List.mem_singleton]
      constructor
      · rintro (g | ⟨g1, g2 | g2⟩)
        · exact .inl (.inl g)
        · exact .inl (.inr ⟨g1, g2⟩)
        · exact .inr (hC.inj hf hc (g1.trans h1.symm) (g2.trans h2.symm))
      · rintro ((g | ⟨g1, g2⟩) | e)
        · exact .inl g
        · exact .inr ⟨g1, .inl g2⟩
        · subst e; exact .inr ⟨h1, .inr h2⟩
  · refine .inr ⟨fun c hc hh => h ⟨c, hc, hh⟩, List.filter_congr fun f hf => ?_⟩
    have e : bef t (ps.take (k + 1)) f = true ↔ bef t (ps.take k) f = true := by
      rw [bef_iff, bef_iff, take_gt hk]
      simp only [List.mem_append, List.mem_singleton]
      constructor
      · rintro (g | ⟨g1, g2 | g2⟩)
        · exact .inl g
        · exact .inr ⟨g1, g2⟩
        · exact (h ⟨f, hf, g1, g2⟩).elim
      · rintro (g | ⟨g1, g2⟩)
        · exact .inl g
        · exact .inr ⟨g1, .inl g2⟩
    cases h1 : bef t (ps.take (k + 1)) f <;> cases h2 : bef t (ps.take k) f <;> first | rfl | (rw [h1, h2] at e; simp at e)
theorem bef_all {C : List Fault} {ps : List Part} (hm : ∀ f ∈ C, f.Part ∈ ps) (t : Int) : C.filter (bef t ps) = Up C t := List.filter_congr fun f hf => by
  by_cases h : f.Time ≤ t
  · rw [dT h]
    by_cases h2 : f.Time < t
    · exact bef_iff.2 (.inl h2)
    · exact bef_iff.2 (.inr ⟨by omega, hm f hf⟩)
  · rw [dF h]
    cases hb : bef t ps f with
    | false => rfl
    | true => rcases bef_iff.1 hb with g | g <;> omega
/-- the last kind of a part ahead of it -/
theorem bef_lst {C : List Fault} (hC : Vs C) {ps : List Part} (hps : Asc pk ps) (t : Int) {k : Nat} (hk : k < ps.length) : lst (C.filter (bef t (ps.take k))) (gt ps k) = lst (C.filter fun f => decide (f.Time < t)) (gt ps k) := by
  apply lst_congr
  rw [List.filter_filter, List.filter_filter]
  apply List.filter_congr
  intro f hf
  cases hp : eqP f.Part (gt ps k) with
  | false => simp
  | true =>
    have hp := eqP_iff.1 hp
    simp only [Bool.true_and]
    by_cases h : f.Time < t
    · rw [dT h, bef_iff.2 (.inl h)]
    · rw [dF h]
      cases hb : bef t (ps.take k) f with
      | false => rfl
      | true =>
        rcases bef_iff.1 hb with g | ⟨_, g⟩
        · exact (h g).elim
        · exfalso
          rw [hp] at g
          obtain ⟨j, hj, e⟩ := mem_gt g
          have hj' : j < k := by simp at hj; omega
          have e2 : gt (ps.take k) j = gt ps j := by rw [gt_get hj, gt_get (by omega)]; simp
          have := asc_gt hps hj' hk
          rw [e2] at e
          rw [e] at this
          omega
theorem lt_up {C : List Fault} {t : Int} {p : Part} (h : ∀ c ∈ C, ¬ (c.Time = t ∧ c.Part = p)) : lst (C.filter fun f => decide (f.Time < t)) p = lst (Up C t) p := by
  apply lst_congr
  unfold Up
  rw [List.filter_filter, List.filter_filter]
  apply List.filter_congr
  intro f hf
  cases hp : eqP f.Part p with
  | false => simp
  | true =>
    have hp := eqP_iff.1 hp
    have := h f hf
    simp only [Bool.true_and]
    by_cases h2 : f.Time < t
    · rw [dT h2, dT (by omega)]
    · have : f.Time ≠ t := fun e => this ⟨e, hp⟩
      rw [dF h2, dF (by omega)]

/-! normal scripts -/
def kd (x : List Fault) (t : Int) (p : Part) : Int := x.foldl (fun k f => if f.Time = t ∧ f.Part = p then f.Kind else k) 0
theorem kd_snoc (l : List Fault) (y : Fault) (t : Int) (p : Part) : kd (l ++ [y]) t p = if y.Time = t ∧ y.Part = p then y.Kind else kd l t p := by
  unfold kd
  rw [List.foldl_append]
  rfl
theorem n4_eq {x : List Fault} (hx : x.length ≤ 1000) (t : Int) (p : Part) : loopO (dynposref34_Normal_L4 x t p) (0, 0) = some (kd x t p) := by
  have h : Wp (loopO (dynposref34_Normal_L4 x t p) (0, 0)) fun r => r = kd x t p := by
    refine wp_upto x.length (fun k s => s.2 = (k : Int) ∧ s.1 = kd (x.take k) t p) ⟨rfl, rfl⟩ (fun k s hk hv => ?_) (fun s hv => ?_) (by omega)
    · obtain ⟨c, z⟩ := s
      simp only at hv
      obtain ⟨rfl, rfl⟩ := hv
      unfold dynposref34_Normal_L4
      simp only [lt_len hk, if_true, idx_gt hk, Option.bind_some]
      rw [show ((gt x k).Part.Kind == p.Kind && (gt x k).Part.Number == p.Number) = eqP (gt x k).Part p from rfl, ifand]
      simp only [Option.bind_some, ifb]
      rw [W_succ (by omega), take_gt hk, kd_snoc]
      have e : ((gt x k).Time == t && eqP (gt x k).Part p) = true ↔ ((gt x k).Time = t ∧ (gt x k).Part = p) := by rw [Bool.and_eq_true, beq_iff_eq, eqP_iff]
      by_cases h : (gt x k).Time = t ∧ (gt x k).Part = p
      · rw [if_pos h, if_pos (e.2 h)]; exact wp_some.2 ⟨rfl, rfl⟩
      · rw [if_neg h, if_neg (fun hh => h (e.1 hh))]; exact wp_some.2 ⟨rfl, rfl⟩
    · obtain ⟨c, z⟩ := s
      simp only at hv
      obtain ⟨rfl, rfl⟩ := hv
      unfold dynposref34_Normal_L4
      simp only [nlt_len, Bool.false_eq_true, if_false]
      rw [List.take_length]
      exact wp_some.2 rfl
  exact wp_eq.1 h
theorem kd_head {x : List Fault} (hv : ∀ f ∈ x, VF f) {p : Part} (hp : VP p) (t : Int) : kd x t p = match (x.reverse.filter fun z => decide (fk z = t * 1024 + pk p)).head? with | some y => y.Kind | none => 0 := by
  induction x using snoc_ind with
  | h0 => rfl
  | h1 l y ih =>
    have ih := ih fun f hf => hv f (List.mem_append_left _ hf)
    have hy := (hv y (by simp)).p
    rw [kd_snoc, List.reverse_append, List.reverse_singleton, List.singleton_append, List.filter_cons]
    have hiff : fk y = t * 1024 + pk p ↔ y.Time = t ∧ y.Part = p := by
      constructor
      · intro h
        exact fk_inj (g := ⟨t, 0, p⟩) hy hp h
      · rintro ⟨h1, h2⟩
        unfold fk
        rw [h1, h2]
    by_cases h : y.Time = t ∧ y.Part = p
    · rw [if_pos h, dT (hiff.2 h), if_pos rfl]
      rfl
    · rw [if_neg h, dF fun e => h (hiff.1 e), if_neg (by simp)]
      exact ih
theorem kd_at {x C : List Fault} (hv : ∀ f ∈ x, VF f) (hC : Col fk x.reverse C) {c : Fault} (hc : c ∈ C) : kd x c.Time c.Part = c.Kind := by
  have vC := col_vs hC (fun f hf => hv f (List.mem_reverse.1 hf))
  rw [kd_head hv (vC.vf c hc).p]
  have := hC.head c hc
  rw [show fk c = c.Time * 1024 + pk c.Part from rfl] at this
  rw [this]
theorem kd_no {x C : List Fault} (hv : ∀ f ∈ x, VF f) (hC : Col fk x.reverse C) {t : Int} {p : Part} (hp : VP p) (h : ∀ c ∈ C, ¬ (c.Time = t ∧ c.Part = p)) : kd x t p = 0 := by
  have hv' : ∀ f ∈ x.reverse, VF f := fun f hf => hv f (List.mem_reverse.1 hf)
  have vC := col_vs hC hv'
  rw [kd_head hv hp]
  have hn : x.reverse.filter (fun z => decide (fk z = t * 1024 + pk p)) = [] := List.filter_eq_nil_iff.2 fun z hz he => by
    have he := of_decide_eq_true he
    obtain ⟨y, hy, e⟩ := hC.all z hz
    have := fk_inj (f := y) (g := ⟨t, 0, p⟩) (vC.vf y hy).p hp (by rw [e, he]; rfl)
    exact h y hy this
  rw [hn]
  rfl
theorem pl_len {br : List Part} {out : List Fault} (h : PL br fun p => lst out p = 1) : br.length ≤ out.length := by
  have := h.len (l := out.map Fault.Part) fun p hp => by
    rcases lst_char out p with ⟨h2, _⟩ | ⟨a, f, b, he, h2, _, _⟩
    · omega
    · exact List.mem_map.2 ⟨f, by rw [he]; simp, h2⟩
  simpa using this
theorem n3_eq {x C : List Fault} (hx : x.length ≤ 1000) (hv : ∀ f ∈ x, VF f) (hC : Col fk x.reverse C) {ps br : List Part} (hps : Asc pk ps) (hpl : ps.length ≤ 1000) (hvp : ∀ p ∈ ps, VP p) (hmem : ∀ f ∈ C, f.Part ∈ ps) (t : Int) (hbr : PL br fun p => lst (trn (C.filter (bef t []))) p = 1) :
    Wp (loopO (dynposref34_Normal_L3 x t ps) (0, trn (C.filter (bef t [])), br)) fun r => r.1 = trn (Up C t) ∧ PL r.2 fun p => lst (trn (Up C t)) p = 1 := by
  have vC := col_vs hC (fun f hf => hv f (List.mem_reverse.1 hf))
  have hCl : C.length ≤ 1000 := by have := hC.len; simp at this; omega
  have hDl : ∀ q : Fault → Bool, (trn (C.filter q)).length ≤ 1000 := fun q => by
    have h1 := (trn_sub (C.filter q)).length_le
    have h2 := List.length_filter_le q C
    omega
  refine wp_upto ps.length (fun k s => s.1 = (k : Int) ∧ s.2.1 = trn (C.filter (bef t (ps.take k))) ∧ PL s.2.2 fun p => lst (trn (C.filter (bef t (ps.take k)))) p = 1) ⟨rfl, rfl, hbr⟩ (fun k s hk hi => ?_) (fun s hi => ?_) (by omega)
  · obtain ⟨z, o, br⟩ := s
    obtain ⟨h1, h2, h3⟩ := hi
    simp only at h1 h2 h3
    subst h1 h2
    have hol := hDl (bef t (ps.take k))
    have hbl := pl_len h3
    have hpv := hvp _ (gt_mem hk)
    unfold dynposref34_Normal_L3
    simp only [lt_len hk, if_true, idx_gt hk, Option.bind_some, n4_eq hx]
    rcases bef_step vC hps hvp t hk with ⟨c, hc, c1, c2, c3⟩ | ⟨c1, c3⟩
    · have hkd : kd x t (gt ps k) = c.Kind := by rw [← c1, ← c2]; exact kd_at hv hC hc
      have hck := (vC.vf c hc).k
      have hce : Fault.mk t c.Kind (gt ps k) = c := fault_ext c1.symm rfl c2.symm
      rw [hkd, beqF (show c.Kind ≠ 0 by omega)]
      simp only [Bool.false_eq_true, if_false, rhas_eq (show br.length ≤ 1000000 by omega), Option.bind_some]
      rw [c3, trn_snoc, c2]
      have hr := lst_rng (l := trn (C.filter (bef t (ps.take k)))) (fun f hf => vC.vf f (List.mem_filter.1 ((trn_sub _).subset hf)).1) (gt ps k)
      have hneg : lst (trn (C.filter (bef t (ps.take k)))) (gt ps k) = c.Kind → ¬ c.Kind = 3 - lst (trn (C.filter (bef t (ps.take k)))) (gt ps k) := by omega
      have hpos : lst (trn (C.filter (bef t (ps.take k)))) (gt ps k) ≠ c.Kind → c.Kind = 3 - lst (trn (C.filter (bef t (ps.take k)))) (gt ps k) := by omega
      by_cases hb : gt ps k ∈ br
      · have hl1 := (h3.mem _).1 hb
        rw [dB_T hb]
        by_cases hc1 : c.Kind = 1
        · rw [beqT hc1, if_neg (hneg (by omega))]
          simp only [beq_self_eq_true, if_true, Option.bind_some]
          rw [W_succ (by omega)]
          exact wp_some.2 ⟨rfl, rfl, h3⟩
        · rw [beqF hc1, if_pos (hpos (by omega))]
          simp only [show (false == true) = false from rfl, Bool.false_eq_true, if_false]
          rw [app_sm (by simp; omega)]
          simp only [Option.bind_some]
          rw [without_eq h3 (by omega)]
          simp only [Option.bind_some]
          rw [W_succ (by omega), hce]
          refine wp_some.2 ⟨rfl, rfl, (pl_without h3 (gt ps k)).congr fun q => ?_⟩
          rw [lst_snoc, c2]
          by_cases hq : gt ps k = q
          · rw [if_pos (eqP_iff.2 hq)]
            constructor
            · rintro ⟨_, h⟩; exact (h hq.symm).elim
            · intro h; omega
          · rw [if_neg (by rw [eqP_F hq]; simp)]
            exact ⟨fun h => h.1, fun h => ⟨h, fun e => hq e.symm⟩⟩
      · have hl2 : lst (trn (C.filter (bef t (ps.take k)))) (gt ps k) = 2 := hr.resolve_left fun h => hb ((h3.mem _).2 h)
        rw [dB_F hb]
        by_cases hc1 : c.Kind = 1
        · obtain ⟨d', w1, w2, w3⟩ := wpWith h3 hpv (show br.length ≤ 1000000 by omega)
          rw [beqT hc1, if_pos (hpos (by omega))]
          simp only [show (true == false) = false from rfl, Bool.false_eq_true, if_false]
          rw [app_sm (by simp; omega)]
          simp only [Option.bind_some, if_true, w1]
          rw [W_succ (by omega), hce]
          refine wp_some.2 ⟨rfl, rfl, w2.congr fun q => ?_⟩
          rw [lst_snoc, c2]
          by_cases hq : gt ps k = q
          · rw [if_pos (eqP_iff.2 hq)]
            exact ⟨fun _ => hc1, fun _ => .inr hq.symm⟩
          · rw [if_neg (by rw [eqP_F hq]; simp)]
            exact ⟨fun h => h.resolve_right fun e => hq e.symm, .inl⟩
        · rw [beqF hc1, if_neg (hneg (by omega))]
          simp only [beq_self_eq_true, if_true, Option.bind_some]
          rw [W_succ (by omega)]
          exact wp_some.2 ⟨rfl, rfl, h3⟩
    · have hkd : kd x t (gt ps k) = 0 := kd_no hv hC hpv c1
      rw [hkd, c3]
      simp only [beq_self_eq_true, if_true, Option.bind_some]
      rw [W_succ (by omega)]
      exact wp_some.2 ⟨rfl, rfl, h3⟩
  · obtain ⟨z, o, br⟩ := s
    obtain ⟨h1, h2, h3⟩ := hi
    simp only at h1 h2 h3
    subst h1 h2
    unfold dynposref34_Normal_L3
    simp only [nlt_len, Bool.false_eq_true, if_false]
    rw [List.take_length, bef_all hmem] at h3 ⊢
    exact wp_some.2 ⟨rfl, h3⟩
/-- the times gone through -/
noncomputable def inT (d : List Int) (f : Fault) : Bool := dB (f.Time ∈ d)
theorem inT_lt {C : List Fault} {T : List Int} (hT : Asc id T) (hm : ∀ f ∈ C, f.Time ∈ T) {k : Nat} (hk : k < T.length) : C.filter (inT (T.take k)) = C.filter (bef (gt T k) []) ∧ C.filter (inT (T.take (k + 1))) = Up C (gt T k) := by
  have key : ∀ f ∈ C, ∃ j, j < T.length ∧ gt T j = f.Time := fun f hf => mem_gt (hm f hf)
  have mem : ∀ n, n ≤ T.length → ∀ j, j < T.length → (gt T j ∈ T.take n ↔ j < n) := fun n hn j hj => by
    constructor
    · intro h
      obtain ⟨i, hi, e⟩ := mem_gt h
      have hi' : i < n := by simp at hi; omega
      have e2 : gt (T.take n) i = gt T i := by rw [gt_get hi, gt_get (by omega)]; simp
      rw [e2] at e
      rcases Nat.lt_trichotomy i j with h1 | h1 | h1
      · have := asc_gt hT h1 hj; simp only [id] at this; omega
      · omega
      · omega
    · intro h
      have hj' : j < (T.take n).length := by simp; omega
      have e2 : gt (T.take n) j = gt T j := by rw [gt_get hj', gt_get hj]; simp
      rw [← e2]; exact gt_mem hj'
  have cmp : ∀ j, j < T.length → (j < k ↔ gt T j < gt T k) := fun j hj => by
    rcases Nat.lt_trichotomy j k with h1 | h1 | h1
    · have := asc_gt hT h1 hk; simp only [id] at this; omega
    · subst h1; omega
    · have := asc_gt hT h1 hj; simp only [id] at this; omega
  have cmp2 : ∀ j, j < T.length → (j < k + 1 ↔ gt T j ≤ gt T k) := fun j hj => by
    rcases Nat.lt_trichotomy j k with h1 | h1 | h1
    · have := asc_gt hT h1 hk; simp only [id] at this; omega
    · subst h1; omega
    · have := asc_gt hT h1 hj; simp only [id] at this; omega
  rw [bef_nil]
  constructor
  · apply List.filter_congr
    intro f hf
    obtain ⟨j, hj, e⟩ := key f hf
    unfold inT
    rw [← e, dB_congr ((mem k (by omega) j hj).trans (cmp j hj))]
    by_cases h : gt T j < gt T k
    · rw [dB_T h, dT h]
    · rw [dB_F h, dF h]
  · apply List.filter_congr
    intro f hf
    obtain ⟨j, hj, e⟩ := key f hf
    unfold inT
    rw [← e, dB_congr ((mem (k + 1) (by omega) j hj).trans (cmp2 j hj))]
    by_cases h : gt T j ≤ gt T k
    · rw [dB_T h, dT h]
    · rw [dB_F h, dF h]
theorem inT_nil (C : List Fault) : C.filter (inT []) = [] := List.filter_eq_nil_iff.2 fun f _ h => List.not_mem_nil (dB_iff.1 h)
theorem inT_all {C : List Fault} {T : List Int} (hm : ∀ f ∈ C, f.Time ∈ T) : C.filter (inT T) = C := List.filter_eq_self.2 fun f hf => dB_T (hm f hf)
theorem normal_both {x : List Fault} (hx : x.length ≤ 1000) : ∃ r, faults_Normal x = some r ∧ dynposref34_Normal x = some r ∧ r.2.length ≤ 24 := by
  have hbad : faults_wrong x = some (dB (Bad1 x)) := wrong_eq (by omega)
  by_cases h1 : Bad1 x
  · refine ⟨(1, []), ?_, ?_, by simp⟩
    · unfold faults_Normal
      rw [hbad, dB_T h1]; rfl
    · unfold dynposref34_Normal
      rw [nwrong_eq (by omega), dB_T h1]; rfl
  have hv := bad1_F h1
  by_cases h60 : x.length > 60
  · refine ⟨(2, []), ?_, ?_, by simp⟩
    · unfold faults_Normal
      rw [hbad, dB_F h1, dT (c := len x > 60) (by unfold len; omega)]; rfl
    · unfold dynposref34_Normal
      rw [nwrong_eq (by omega), dB_F h1, dT (c := len x > 60) (by unfold len; omega)]; rfl
  obtain ⟨C, hC, hCl, hp⟩ := Normal_eq (x := x) (by omega) hv
  refine ⟨_, hp, ?_, by split <;> simp; omega⟩
  have hsub : ∀ f ∈ C, f ∈ x := fun f hf => List.mem_reverse.1 (hC.sub f hf)
  obtain ⟨T, hT, t1, t2, t3⟩ := times_mem (x := x) (by omega)
  obtain ⟨ps, hps, p1, p2⟩ := rparts_eq (x := x) (by omega) hv
  have hmT : ∀ f ∈ C, f.Time ∈ T := fun f hf => (t3 _).2 ⟨f, hsub f hf, rfl⟩
  have hmP : ∀ f ∈ C, f.Part ∈ ps := fun f hf => (p1.mem _).2 ⟨f, hsub f hf, rfl⟩
  have hloop : Wp (loopO (dynposref34_Normal_L2 x T) (0, [], [])) fun r => r = trn C := by
    refine wp_upto T.length (fun k s => s.1 = (k : Int) ∧ s.2.1 = trn (C.filter (inT (T.take k))) ∧ PL s.2.2 fun p => lst (trn (C.filter (inT (T.take k)))) p = 1) ⟨rfl, by rw [List.take_zero, inT_nil]; rfl, by rw [List.take_zero, inT_nil]; exact PL.nil.congr fun p => by simp [trn, lst_nil]⟩ (fun k s hk hi => ?_) (fun s hi => ?_) (by omega)
    · obtain ⟨z, o, br⟩ := s
      obtain ⟨g1, g2, g3⟩ := hi
      simp only at g1 g2 g3
      subst g1 g2
      obtain ⟨f1, f2⟩ := inT_lt t1 hmT hk
      rw [f1] at g3 ⊢
      unfold dynposref34_Normal_L2
      simp only [lt_len hk, if_true, idx_gt hk, Option.bind_some, hps]
      refine (n3_eq (by omega) hv hC p1.asc (by omega) p1.vp hmP (gt T k) g3).bind fun r hr => ?_
      rw [W_succ (by omega), f2]
      exact wp_some.2 ⟨rfl, hr.1, hr.2⟩
    · obtain ⟨z, o, br⟩ := s
      obtain ⟨g1, g2, g3⟩ := hi
      simp only at g1 g2 g3
      subst g1 g2
      unfold dynposref34_Normal_L2
      simp only [nlt_len, Bool.false_eq_true, if_false]
      rw [List.take_length, inT_all hmT]
      exact wp_some.2 rfl
  unfold dynposref34_Normal
  rw [nwrong_eq (by omega), dB_F h1, dF (c := len x > 60) (by unfold len; omega)]
  simp only [Option.bind_some, cond_false, Sum.elim_inl, Bool.false_eq_true, if_false, hT, wp_eq.1 hloop]
  by_cases h24 : (trn C).length > 24
  · rw [dT (c := len (trn C) > 24) (by unfold len; omega), if_pos h24]; rfl
  · rw [dF (c := len (trn C) > 24) (by unfold len; omega), if_neg h24]; rfl

/-! merged scripts -/
theorem m2_eq {C : List Fault} (vC : Vs C) (hCl : C.length ≤ 1000) {ps br now : List Part} (x6 : Int × List Fault × List Part) (hx6 : x6.2.2 = br) (hps : Asc pk ps) (hpl : ps.length ≤ 1000) (hvp : ∀ p ∈ ps, VP p) (hmem : ∀ f ∈ C, f.Part ∈ ps) (t : Int)
    (hbr : PL br fun p => lst (C.filter fun f => decide (f.Time < t)) p = 1) (hnow : PL now fun p => lst (Up C t) p = 1) : Wp (loopO (dynposref34_Merge_L2 x6 t now ps) (0, trn (C.filter (bef t [])))) fun r => r = trn (Up C t) := by
  have hDl : ∀ q : Fault → Bool, (trn (C.filter q)).length ≤ 1000 := fun q => by
    have h1 := (trn_sub (C.filter q)).length_le
    have h2 := List.length_filter_le q C
    omega
  have hbl : br.length ≤ 1000 := by have := pl_len hbr; have := List.length_filter_le (fun f : Fault => decide (f.Time < t)) C; omega
  have hnl : now.length ≤ 1000 := by have := pl_len hnow; have : (Up C t).length ≤ C.length := List.length_filter_le _ _; omega
  refine wp_upto ps.length (fun k s => s.1 = (k : Int) ∧ s.2 = trn (C.filter (bef t (ps.take k)))) ⟨rfl, rfl⟩ (fun k s hk hi => ?_) (fun s hi => ?_) (by omega)
  · obtain ⟨z, o⟩ := s
    obtain ⟨h1, h2⟩ := hi
    simp only at h1 h2
    subst h1 h2
    have hol := hDl (bef t (ps.take k))
    have hvD : ∀ f ∈ C.filter (bef t (ps.take k)), VF f := fun f hf => vC.vf f (List.mem_filter.1 hf).1
    have hlb : lst (trn (C.filter (bef t (ps.take k)))) (gt ps k) = lst (C.filter fun f => decide (f.Time < t)) (gt ps k) := by rw [trn_lst hvD, bef_lst vC hps t hk]
    have hr := lst_rng (l := C.filter fun f => decide (f.Time < t)) (fun f hf => vC.vf f (List.mem_filter.1 hf).1) (gt ps k)
    unfold dynposref34_Merge_L2
    simp only [lt_len hk, if_true, idx_gt hk, Option.bind_some, hx6, rhas_eq (show br.length ≤ 1000000 by omega), rhas_eq (show now.length ≤ 1000000 by omega)]
    rw [dB_congr (hbr.mem (gt ps k)), dB_congr (hnow.mem (gt ps k))]
    rcases bef_step vC hps hvp t hk with ⟨c, hc, c1, c2, c3⟩ | ⟨c1, c3⟩
    · have hat := lst_at vC hc
      rw [c1, c2] at hat
      have hck := (vC.vf c hc).k
      obtain ⟨L, hL⟩ : ∃ L, L = lst (C.filter fun f => decide (f.Time < t)) (gt ps k) := ⟨_, rfl⟩
      rw [c3, trn_snoc, c2, hlb, hat]
      rw [← hL] at hr ⊢
      rcases hck with hk1 | hk1 <;> rcases hr with hr1 | hr1
      · rw [if_neg (show ¬ c.Kind = 3 - L by omega), dB_T hk1, dB_T hr1]
        simp only [show (!true == true) = false from rfl, Bool.false_eq_true, if_false, Option.bind_some]
        rw [W_succ (by omega)]
        exact wp_some.2 ⟨rfl, rfl⟩
      · rw [if_pos (show c.Kind = 3 - L by omega), dB_T hk1, dB_F (show ¬ L = 1 by omega)]
        simp only [show (!true == false) = true from rfl, if_true, Option.bind_some]
        rw [app_sm (by simp; omega)]
        simp only [Option.bind_some]
        rw [W_succ (by omega)]
        have hce : Fault.mk t 1 (Part.mk (gt ps k).Kind (gt ps k).Number) = c := fault_ext c1.symm hk1.symm c2.symm
        rw [hce]
        exact wp_some.2 ⟨rfl, rfl⟩
      · rw [if_pos (show c.Kind = 3 - L by omega), dB_F (show ¬ c.Kind = 1 by omega), dB_T hr1]
        simp only [show (!false == true) = true from rfl, if_true, Bool.false_eq_true, if_false, Option.bind_some]
        rw [app_sm (by simp; omega)]
        simp only [Option.bind_some]
        rw [W_succ (by omega)]
        have hce : Fault.mk t 2 (Part.mk (gt ps k).Kind (gt ps k).Number) = c := fault_ext c1.symm hk1.symm c2.symm
        rw [hce]
        exact wp_some.2 ⟨rfl, rfl⟩
      · rw [if_neg (show ¬ c.Kind = 3 - L by omega), dB_F (show ¬ c.Kind = 1 by omega), dB_F (show ¬ L = 1 by omega)]
        simp only [show (!false == false) = false from rfl, Bool.false_eq_true, if_false, Option.bind_some]
        rw [W_succ (by omega)]
        exact wp_some.2 ⟨rfl, rfl⟩
    · rw [lt_up c1, c3]
      have : ∀ b : Bool, (!b == b) = false := fun b => by cases b <;> rfl
      simp only [this, Bool.false_eq_true, if_false, Option.bind_some]
      rw [W_succ (by omega)]
      exact wp_some.2 ⟨rfl, rfl⟩
  · obtain ⟨z, o⟩ := s
    obtain ⟨h1, h2⟩ := hi
    simp only at h1 h2
    subst h1 h2
    unfold dynposref34_Merge_L2
    simp only [nlt_len, Bool.false_eq_true, if_false]
    rw [List.take_length, bef_all hmem]
    exact wp_some.2 rfl
theorem merge_both (a b : List Fault) : ∃ r, faults_Merge a b = some r ∧ dynposref34_Merge a b = some r ∧ r.2.length ≤ 24 := by
  by_cases ha : chk a = 0
  · by_cases hb : chk b = 0
    · obtain ⟨la, va⟩ := chk_vl ha
      obtain ⟨lb, vb⟩ := chk_vl hb
      obtain ⟨C, hC, hCl, hp⟩ := Merge_eq va vb la lb
      have hvf := mAll_vf va.vf vb.vf
      have vC := col_vs hC hvf
      refine ⟨_, hp, ?_, by split <;> simp; omega⟩
      have hsub : ∀ f ∈ C, ∃ g ∈ a ++ b, g.Time = f.Time ∧ g.Part = f.Part := fun f hf => by
        obtain ⟨g, hg, e⟩ := mAll_mem.1 (hC.sub f hf)
        exact ⟨g, List.mem_append.2 hg, by rw [e], by rw [e]⟩
      have hvab : ∀ f ∈ a ++ b, VF f := fun f hf => (List.mem_append.1 hf).elim (va.vf f) (vb.vf f)
      obtain ⟨T, hT, t1, t2, t3⟩ := times_mem (x := a ++ b) (by simp; omega)
      obtain ⟨ps, hps, p1, p2⟩ := rparts_eq (x := a ++ b) (by simp; omega) hvab
      simp only [List.length_append] at t2 p2
      have hmT : ∀ f ∈ C, f.Time ∈ T := fun f hf => by obtain ⟨g, hg, e, _⟩ := hsub f hf; exact (t3 _).2 ⟨g, hg, e⟩
      have hmP : ∀ f ∈ C, f.Part ∈ ps := fun f hf => by obtain ⟨g, hg, _, e⟩ := hsub f hf; exact (p1.mem _).2 ⟨g, hg, e⟩
      have hloop : Wp (loopO (dynposref34_Merge_L1 a b (a ++ b) T) (0, [], [])) fun r => r = trn C := by
        refine wp_upto T.length (fun k s => s.1 = (k : Int) ∧ s.2.1 = trn (C.filter (inT (T.take k))) ∧ PL s.2.2 fun p => lst (C.filter (inT (T.take k))) p = 1) ⟨rfl, by rw [List.take_zero, inT_nil]; rfl, by rw [List.take_zero, inT_nil]; exact PL.nil.congr fun p => by simp [lst_nil]⟩ (fun k s hk hi => ?_) (fun s hi => ?_) (by omega)
        · obtain ⟨z, o, br⟩ := s
          obtain ⟨g1, g2, g3⟩ := hi
          simp only at g1 g2 g3
          subst g1 g2
          obtain ⟨f1, f2⟩ := inT_lt t1 hmT hk
          rw [f1] at g3 ⊢
          rw [bef_nil] at g3
          obtain ⟨d1, _, e1, l1, q1⟩ := act_both a (gt T k)
          obtain ⟨d2, _, e2, l2, q2⟩ := act_both b (gt T k)
          have q1 := q1 ha
          have q2 := q2 hb
          obtain ⟨d, u1, u2, u3⟩ := union_eq (a := d1) (b := d2) (by omega) (by omega) q1.vp q2.vp
          have hnow : PL d fun p => lst (Up C (gt T k)) p = 1 := u2.congr fun p => by rw [q1.mem, q2.mem, merge_br va.toVs vb.toVs hC]
          unfold dynposref34_Merge_L1
          simp only [lt_len hk, if_true, idx_gt hk, Option.bind_some, e1, e2, u1, hps]
          refine (m2_eq vC (by omega) ((k : Int), trn (C.filter (bef (gt T k) [])), br) rfl p1.asc (by omega) p1.vp hmP (gt T k) g3 hnow).bind fun r hr => ?_
          rw [W_succ (by omega), f2]
          exact wp_some.2 ⟨rfl, hr, hnow⟩
        · obtain ⟨z, o, br⟩ := s
          obtain ⟨g1, g2, g3⟩ := hi
          simp only at g1 g2 g3
          subst g1 g2
          unfold dynposref34_Merge_L1
          simp only [nlt_len, Bool.false_eq_true, if_false]
          rw [List.take_length, inT_all hmT]
          exact wp_some.2 rfl
      unfold dynposref34_Merge
      rw [rcheck_eq, rcheck_eq, ha, hb, show app ([] : List Fault) a = some a from app_sm (by simp; omega)]
      simp only [Option.bind_some, bne_self_eq_false, Bool.false_eq_true, if_false]
      rw [app_sm (by omega)]
      simp only [Option.bind_some, hT, wp_eq.1 hloop]
      by_cases h24 : (trn C).length > 24
      · rw [dT (c := len (trn C) > 24) (by unfold len; omega), if_pos h24]; rfl
      · rw [dF (c := len (trn C) > 24) (by unfold len; omega), if_neg h24]; rfl
    · refine ⟨(chk b, []), ?_, ?_, by simp⟩
      · unfold faults_Merge
        rw [check_eq, check_eq]
        simp only [Option.bind_some, or2E_eq, ha, if_true, bneT hb]
      · unfold dynposref34_Merge
        rw [rcheck_eq, rcheck_eq, ha]
        simp only [Option.bind_some, bne_self_eq_false, Bool.false_eq_true, if_false, bneT hb, if_true]
  · refine ⟨(chk a, []), ?_, ?_, by simp⟩
    · unfold faults_Merge
      rw [check_eq, check_eq]
      simp only [Option.bind_some, or2E_eq, if_neg ha, bneT ha, if_true]
    · unfold dynposref34_Merge
      rw [rcheck_eq]
      simp only [Option.bind_some, bneT ha, if_true]

end Rx
end Go.Proofs.Ytkgfdplcjdidhaa
