/- NetworkWindow: a port accepts each number once, in any order, within its window. Plain law. -/
import Derived.Test.YthgnnjdjdmdfoaaNt4
set_option linter.unusedVariables false
set_option linter.unusedSimpArgs false
namespace Go.Proofs.Ythgnnjdjdmdfoaa
open Go Go.RowKit Dp
namespace Rx

theorem psame_self {p : Port} (hl : p.Below.length ≤ 1000000) : dynposref32_Same p p = some true := by
  unfold dynposref32_Same
  have e := loop_run (step := dynposref32_Same_L1 p p) (r := .inl ()) (fun k => (k : Int)) p.Below.length (fun k hk => by
    unfold dynposref32_Same_L1
    simp only [lt_len hk, if_true, idx_gt hk, Option.bind_some, bne_self_eq_false, Bool.false_eq_true, if_false]
    rw [W_succ (by omega)]) (by
    unfold dynposref32_Same_L1
    simp only [nlt_len, Bool.false_eq_true, if_false])
  simp only [show ((0 : Nat) : Int) = 0 from rfl] at e
  simp only [bne_self_eq_false, Bool.false_eq_true, if_false, e, Option.bind_some, Sum.elim_inl]
theorem window_round {i : Nat} (hi : i < 40) {sl : List Int} {sa : Int} {p : Port} {tk : List (Int × Bool)} (hs : Sr sl sa) (hp : Pv p) (hh : p.High ≤ 60) (hv : ∀ x, 1 ≤ x → (Na p x ↔ mgB tk x = true ∨ x ≤ p.High - 32)) :
    Wp (dynposlaw32_NetworkWindow_L1 ((i : Int), sl, sa, p.High, tk, p.Below)) fun x => ∃ sl' sa' p' tk', x = .inl (((i + 1 : Nat) : Int), sl', sa', Port.High p', tk', p'.Below) ∧ Sr sl' sa' ∧ Pv p' ∧ p'.High ≤ 60 ∧ ∀ x, 1 ≤ x → (Na p' x ↔ mgB tk' x = true ∨ x ≤ p'.High - 32) := by
  have hp0 := hp.h0
  have hpl := hp.len
  unfold dynposlaw32_NetworkWindow_L1
  simp only [dT (c := (i : Int) < 40) (by omega), if_true]
  refine (wpN hs (n := 60) (by omega) (by omega)).bind fun x3 hx3 => ?_
  obtain ⟨y, sl', sa'⟩ := x3
  simp only at hx3 ⊢
  obtain ⟨⟨y0, y1⟩, hs'⟩ := hx3
  obtain ⟨n, hn⟩ : ∃ n, n = W (1 + y) := ⟨_, rfl⟩
  have hn' : n = 1 + y := by rw [hn, W_sm (by omega) (by omega)]
  simp only [← hn]
  have hW : W (p.High - 32) = p.High - 32 := W_sm (by omega) (by omega)
  simp only [hW]
  have hmg : mget (fun x11 : Int × Bool => x11.1 == n) (fun x12 => x12.2) false tk = mgB tk n := rfl
  rw [hmg]
  have hpp : (⟨p.High, p.Below⟩ : Port) = p := rfl
  by_cases hna : Na p n
  · rw [hpp, accept_no hp (by omega) (by omega) hna]
    simp only [Option.bind_some, hpp, port_ok hp, psame_self (show p.Below.length ≤ 1000000 by omega), Bool.not_true, Bool.not_false, Bool.false_eq_true, if_false, if_true, BEq.rfl]
    have hcond : ∀ a : Option Bool, (if (!mgB tk n) = true then (if (!(false == decide (n > p.High - 32))) = true then some true else a) else a) = a := fun a => by
      cases ht : mgB tk n with
      | true => rfl
      | false =>
        have hle : n ≤ p.High - 32 := by
          rcases (hv n (by omega)).1 hna with g | g
          · rw [ht] at g; cases g
          · exact g
        rw [dF (c := n > p.High - 32) (by omega)]
        rfl
    rw [hcond]
    simp only [Option.bind_some, Bool.false_eq_true, if_false]
    rw [W_succ (by omega)]
    exact wp_some.2 ⟨sl', sa', p, tk, rfl, hs', hp, hh, hv⟩
  · obtain ⟨B, hB, hPB, hNa⟩ := accept_yes hp (by omega) (by omega) hna
    have ht : mgB tk n = false := by
      cases ht : mgB tk n with
      | false => rfl
      | true => exact (hna ((hv n (by omega)).2 (.inl ht))).elim
    have hgt : n > p.High - 32 := by
      by_cases g : p.High - 32 < n
      · exact g
      · exact (hna ((hv n (by omega)).2 (.inr (by omega)))).elim
    have him : imax p.High n = hi2 p.High n := rfl
    rw [hpp, hB]
    simp only [Option.bind_some, ht, Bool.not_false, if_true, dT hgt, BEq.rfl, Bool.not_true, Bool.false_eq_true, if_false, port_ok hPB, him, bne_self_eq_false]
    rw [W_succ (by omega)]
    refine wp_some.2 ⟨sl', sa', ⟨hi2 p.High n, B⟩, _, rfl, hs', hPB, ?_, fun x hx => ?_⟩
    · show hi2 p.High n ≤ 60
      unfold hi2
      split <;> omega
    · rw [hNa x hx, hv x hx, mgB_put]
      have hhi : p.High ≤ hi2 p.High n := by unfold hi2; split <;> omega
      show _ ↔ _ ∨ x ≤ hi2 p.High n - 32
      by_cases hxn : x = n
      · simp [hxn]
      · simp only [hxn, if_false, false_or]
        constructor
        · rintro ((g | g) | g)
          · exact .inl g
          · exact .inr (by omega)
          · exact .inr g
        · rintro (g | g)
          · exact .inl (.inl g)
          · exact .inr g
theorem law_NetworkWindow (t : List Int) : dynposlaw32_NetworkWindow t = some true := by
  refine Wp.true' ?_
  unfold dynposlaw32_NetworkWindow
  simp only [sane_T, Option.bind_some]
  refine Wp.ite (fun _ => wp_some.2 rfl) fun _ => ?_
  refine (wpNew t).bind fun s hs => ?_
  have hloop : Wp (loopO dynposlaw32_NetworkWindow_L1 (0, s.1, s.2, 0, [], [])) fun r => ∃ y, r = .inl y := by
    refine wp_upto 40 (fun i s => ∃ sl sa p tk, s = ((i : Int), sl, sa, Port.High p, tk, p.Below) ∧ Sr sl sa ∧ Pv p ∧ p.High ≤ 60 ∧ ∀ x, 1 ≤ x → (Na p x ↔ mgB tk x = true ∨ x ≤ p.High - 32)) ⟨s.1, s.2, ⟨0, []⟩, [], rfl, hs, pv_zero, by simp, fun x hx => ?_⟩ (fun i s hi hv => ?_) (fun s hv => ?_) (by omega)
    · unfold Na
      simp only [mgB_nil, Bool.false_eq_true, List.not_mem_nil, or_false, false_or]
      omega
    · obtain ⟨sl, sa, p, tk, rfl, h1, h2, h3, h4⟩ := hv
      refine (window_round hi h1 h2 h3 h4).mono fun x hx => ?_
      obtain ⟨sl', sa', p', tk', rfl, g⟩ := hx
      exact ⟨sl', sa', p', tk', rfl, g⟩
    · obtain ⟨sl, sa, p, tk, rfl, _⟩ := hv
      unfold dynposlaw32_NetworkWindow_L1
      simp only [dF (c := ((40 : Nat) : Int) < 40) (by omega), Bool.false_eq_true, if_false]
      exact wp_some.2 ⟨_, rfl⟩
  refine hloop.bind fun r hr => ?_
  obtain ⟨y, rfl⟩ := hr
  exact wp_some.2 rfl
end Rx
end Go.Proofs.Ythgnnjdjdmdfoaa
