/- FaultsNow: what breaks and mends up to a time leads to what is active, step by step. Plain law. -/
import Derived.Test.YtmjcndmphjdjgaaLawFaultsMerge
set_option linter.unusedVariables false
set_option linter.unusedSimpArgs false
namespace Go.Proofs.Ytmjcndmphjdjgaa
open Go Go.RowKit Dp
namespace Rx

theorem filter_split {α : Type} (p : α → Bool) (l : List α) : (l.filter p).length + (l.filter fun x => !p x).length = l.length := by
  induction l with
  | nil => rfl
  | cons a l ih => cases h : p a <;> simp [List.filter_cons, h] <;> omega
theorem law_FaultsNow (t : List Int) : dynposlaw34_FaultsNow t = some true := by
  refine Wp.true' ?_
  unfold dynposlaw34_FaultsNow
  simp only [sane_T, Option.bind_some]
  refine Wp.ite (fun _ => wp_some.2 rfl) fun _ => ?_
  refine (wpNew t).bind fun s hs => ?_
  obtain ⟨l0, a0⟩ := s
  refine (wpFaults hs (c := 12) (by omega) (by omega)).bind fun x2 h2 => ?_
  obtain ⟨l1, a1, l⟩ := x2
  simp only at h2 ⊢
  obtain ⟨_, vl, ll, _⟩ := h2
  have hloop : Wp (loopO (dynposlaw34_FaultsNow_L1 (l1, a1, l)) (0, [])) fun r => r = .inl () := by
    refine wp_upto 10 (fun k s => s.1 = (k : Int) ∧ PL s.2 fun p => lst (Up l ((k : Int) - 1)) p = 1) ⟨rfl, PL.nil.congr fun p => ?_⟩ (fun k s hk hi => ?_) (fun s hi => ?_) (by omega)
    · rw [Up_none (l := l) fun f hf => by have := (vl.vf f hf).t0; omega]
      simp [lst_nil]
    · obtain ⟨z, br⟩ := s
      obtain ⟨h1, hb⟩ := hi
      simp only at h1 hb
      subst h1
      have hbl := act_len hb
      obtain ⟨A, B, hN, pA, pB⟩ := Now_eq vl (by omega) (k : Int)
      have hAl : A.length ≤ l.length := by
        have := pA.len (l := l.map Fault.Part) fun p ⟨f, hf, _, _, e⟩ => List.mem_map.2 ⟨f, hf, e⟩
        simpa using this
      have hBl : B.length ≤ l.length := by
        have := pB.len (l := l.map Fault.Part) fun p ⟨f, hf, _, _, e⟩ => List.mem_map.2 ⟨f, hf, e⟩
        simpa using this
      -- what is at this time
      have hat : ∀ f ∈ l, f.Time = (k : Int) → lst (Up l ((k : Int) - 1)) f.Part = 3 - f.Kind ∧ lst (Up l (k : Int)) f.Part = f.Kind := fun f hf ht => by
        have h1 := vl.alt f hf
        have h2 := lst_at vl.toVs hf
        rw [ht] at h1 h2
        exact ⟨by omega, h2⟩
      have hno : ∀ p, (∀ f ∈ l, f.Time = (k : Int) → f.Part ≠ p) → lst (Up l (k : Int)) p = lst (Up l ((k : Int) - 1)) p := fun p h => Up_congr (m := l) fun f hf hp => by
        have : f.Time ≠ (k : Int) := fun e => h f hf e hp
        omega
      unfold dynposlaw34_FaultsNow_L1
      simp only [dT (c := (k : Int) < 10) (by omega), if_true, hN, Option.bind_some]
      have hin : Wp (loopO (dynposlaw34_FaultsNow_L2 (A, B)) (0, br)) fun r => ∃ d, r = .inl d ∧ (PL d fun p => lst (Up l ((k : Int) - 1)) p = 1 ∨ p ∈ A) := by
        refine wp_upto A.length (fun i s => s.1 = (i : Int) ∧ (PL s.2 fun p => lst (Up l ((k : Int) - 1)) p = 1 ∨ p ∈ A.take i) ∧ s.2.length ≤ br.length + i) ⟨rfl, hb.congr fun p => by simp, by simp⟩ (fun i s hi hv => ?_) (fun s hv => ?_) (by omega)
        · obtain ⟨z, d⟩ := s
          obtain ⟨h1, h2, h3⟩ := hv
          simp only at h1 h2 h3
          subst h1
          unfold dynposlaw34_FaultsNow_L2
          have hn : gt A i ∉ d := fun hmem => by
            rcases (h2.mem _).1 hmem with h4 | h4
            · obtain ⟨f, hf, f1, f2, f3⟩ := (pA.mem _).1 (gt_mem hi)
              have := (hat f hf f1).1
              rw [f3, f2, h4] at this
              omega
            · obtain ⟨j, hj, he⟩ := mem_gt h4
              simp only [List.length_take] at hj
              have e2 : gt (A.take i) j = gt A j := by rw [gt_get (by simp; omega), gt_get (by omega), List.getElem_take]
              have := asc_gt pA.asc (show j < i by omega) hi
              rw [← e2, he] at this
              omega
          simp only [lt_len hi, if_true, idx_gt hi, Option.bind_some, rhas_eq (l := d) (by omega), dB_F hn, Bool.false_eq_true, if_false]
          obtain ⟨d', w1, w2, w3⟩ := wpWith h2 (pA.vp _ (gt_mem hi)) (by omega)
          rw [w1]
          simp only [Option.bind_some]
          rw [W_succ (by omega)]
          refine wp_some.2 ⟨rfl, w2.congr fun p => ?_, by simp only; omega⟩
          rw [take_gt hi, List.mem_append, List.mem_singleton, or_assoc]
        · obtain ⟨z, d⟩ := s
          obtain ⟨h1, h2, h3⟩ := hv
          simp only at h1 h2 h3
          subst h1
          unfold dynposlaw34_FaultsNow_L2
          simp only [nlt_len, Bool.false_eq_true, if_false]
          rw [List.take_length] at h2
          exact wp_some.2 ⟨d, rfl, h2⟩
      obtain ⟨r, hr, d, rfl, pd⟩ := hin
      rw [hr]
      simp only [Option.bind_some, Sum.elim_inl]
      have hdl : d.length ≤ 10000 := by
        have := pd.len (l := br ++ A) fun p hp => by
          rw [List.mem_append]
          exact hp.imp (fun h => (hb.mem p).2 h) id
        simp at this
        omega
      have e3 := loop_each (l := d) (step := dynposlaw34_FaultsNow_L3 (A, B) d) (fun pre => pre.filter fun q => !dB (q ∈ B)) (fun i hi => by
        have hle := List.length_filter_le (fun q => !dB (q ∈ B)) (d.take i)
        unfold dynposlaw34_FaultsNow_L3
        simp only [lt_len hi, if_true, idx_gt hi, Option.bind_some, rhas_eq (l := B) (by omega)]
        rw [List.filter_append]
        cases hq : dB (gt d i ∈ B) with
        | true => simp [hq]
        | false =>
          simp only [Bool.not_false, if_true]
          rw [app_sm (by simp at hle ⊢; omega)]
          simp [hq]) (by
        unfold dynposlaw34_FaultsNow_L3
        simp only [nlt_len, Bool.false_eq_true, if_false]
        all_goals rfl) (by omega)
      simp only [List.filter_nil] at e3
      rw [e3]
      simp only [Option.bind_some]
      have hlen : (d.filter fun q => !dB (q ∈ B)).length + B.length = d.length := by
        have h1 := filter_split (fun q => dB (q ∈ B)) d
        have h2 : (d.filter fun q => dB (q ∈ B)).length = B.length := by
          apply Nat.le_antisymm
          · refine nodup_le (List.Pairwise.filter _ pd.asc.nodup) fun q hq => dB_iff.1 (List.mem_filter.1 hq).2
          · refine nodup_le pB.asc.nodup fun q hq => List.mem_filter.2 ⟨(pd.mem q).2 (.inl ?_), dB_T hq⟩
            obtain ⟨f, hf, f1, f2, f3⟩ := (pB.mem q).1 hq
            have := (hat f hf f1).1
            rw [f3, f2] at this
            omega
        omega
      rw [bneF (a := len (d.filter fun q => !dB (q ∈ B))) (by rw [W_sm (by unfold len; omega) (by unfold len; omega)]; unfold len; omega)]
      simp only [Bool.false_eq_true, if_false]
      obtain ⟨x, hx, px⟩ := Active_eq vl (by omega) (k : Int)
      have pf : PL (d.filter fun q => !dB (q ∈ B)) fun p => lst (Up l (k : Int)) p = 1 := ⟨pd.asc.filter _, fun p hp => pd.vp p (List.mem_filter.1 hp).1, fun p => by
        rw [List.mem_filter, pd.mem]
        simp only [Bool.not_eq_true', pA.mem]
        have hdB : (dB (p ∈ B) = false) ↔ p ∉ B := ⟨(fun h hm => by rw [dB_T hm] at h; cases h), dB_F⟩
        rw [hdB, pB.mem]
        by_cases hex : ∃ f ∈ l, f.Time = (k : Int) ∧ f.Part = p
        · obtain ⟨f, hf, f1, f2⟩ := hex
          have h1 := hat f hf f1
          rw [f2] at h1
          have hk' := (vl.vf f hf).k
          constructor
          · rintro ⟨_, h4⟩
            rcases hk' with h5 | h5
            · omega
            · exact (h4 ⟨f, hf, f1, h5, f2⟩).elim
          · intro h3
            refine ⟨.inr ⟨f, hf, f1, by omega, f2⟩, ?_⟩
            rintro ⟨g, hg, g1, g2, g3⟩
            have := vl.toVs.inj hf hg (by omega) (by rw [f2, g3])
            rw [← this] at g2
            omega
        · rw [hno p fun f hf f1 f2 => hex ⟨f, hf, f1, f2⟩]
          constructor
          · rintro ⟨h3 | ⟨f, hf, f1, _, f2⟩, _⟩
            · exact h3
            · exact (hex ⟨f, hf, f1, f2⟩).elim
          · intro h3
            exact ⟨.inl h3, fun ⟨f, hf, f1, _, f2⟩ => hex ⟨f, hf, f1, f2⟩⟩⟩
      have he : x = d.filter fun q => !dB (q ∈ B) := px.eq pf fun p => Iff.rfl
      rw [hx]
      simp only [Option.bind_some]
      rw [← he, same26_T (by have := act_len px; omega)]
      simp only [Option.bind_some, Bool.not_true, Bool.false_eq_true, if_false]
      rw [W_succ (by omega)]
      refine wp_some.2 ⟨rfl, px.congr fun p => ?_⟩
      rw [show (((k + 1 : Nat) : Int) - 1) = (k : Int) by omega]
    · obtain ⟨z, br⟩ := s
      obtain ⟨h1, hb⟩ := hi
      simp only at h1 hb
      subst h1
      unfold dynposlaw34_FaultsNow_L1
      simp only [dF (c := ((10 : Nat) : Int) < 10) (by omega), Bool.false_eq_true, if_false]
      exact wp_some.2 rfl
  obtain ⟨r, hr, rfl⟩ := hloop
  rw [hr]
  exact wp_some.2 rfl
end Rx
end Go.Proofs.Ytmjcndmphjdjgaa
