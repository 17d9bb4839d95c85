/- NetworkBreaks: a broken cable never lets nodes reach each other that did not before; a whole one lets its ends. Plain law. -/
import Derived.Test.YthgnnjdjdmdfoaaNt2
set_option linter.unusedVariables false
set_option linter.unusedSimpArgs false
namespace Go.Proofs.Ythgnnjdjdmdfoaa
open Go Go.RowKit Dp
namespace Rx

theorem Ed.less {n : Net} {few more : List Part} (h : ∀ p ∈ few, p ∈ more) {net i j : Int} (he : Ed n more net i j) : Ed n few net i j := by
  obtain ⟨c, ⟨k, h1, h2, h3, h4⟩, h5⟩ := he
  exact ⟨c, ⟨k, h1, h2, h3, fun ⟨p, hp, hh⟩ => h4 ⟨p, h p hp, hh⟩⟩, h5⟩
theorem dB_le {p q : Prop} (h : p → q) : (if dB p = true then (1 : Int) else 0) ≤ (if dB q = true then (1 : Int) else 0) := by
  by_cases hp : p
  · rw [dB_T hp, dB_T (h hp)]
    exact Int.le_refl _
  · rw [dB_F hp, if_neg (by simp)]
    split <;> omega
theorem law_NetworkBreaks (t : List Int) : dynposlaw32_NetworkBreaks t = some true := by
  refine Wp.true' ?_
  unfold dynposlaw32_NetworkBreaks
  simp only [sane_T, Option.bind_some]
  refine Wp.ite (fun _ => wp_some.2 rfl) fun _ => ?_
  refine (wpNew t).bind fun s hs => ?_
  refine (wpNet hs).bind fun x2 hx2 => ?_
  obtain ⟨nn, l2, a2, cs⟩ := x2
  simp only at hx2 ⊢
  obtain ⟨hv, hs2⟩ := hx2
  have hcl := hv.len
  have hn1 := hv.n1
  have hn0 := hv.n0
  simp only at hcl hn1 hn0
  refine (wpCables hs2 (n := ⟨nn, cs⟩) hcl).bind fun x3 hx3 => ?_
  obtain ⟨l3, a3, cs3, few⟩ := x3
  simp only at hx3 ⊢
  obtain ⟨hs3, rfl, hfew⟩ := hx3
  rw [show app ([] : List Part) few = some few from app_sm (by simp; omega)]
  simp only [Option.bind_some]
  refine (wpCables hs3 (n := ⟨nn, cs3⟩) hcl).bind fun x5 hx5 => ?_
  obtain ⟨l5, a5, cs5, fw⟩ := x5
  simp only at hx5 ⊢
  obtain ⟨hs5, rfl, hfw⟩ := hx5
  rw [app_sm (by omega)]
  simp only [Option.bind_some]
  obtain ⟨N, rfl⟩ : ∃ N : Nat, nn = N := ⟨nn.toNat, by omega⟩
  have e1 := loop_run (step := dynposlaw32_NetworkBreaks_L1 ((N : Int), l2, a2, cs5) (l3, a3, cs5, few) (l5, a5, cs5, fw) (few ++ fw)) (r := .inl ()) (fun k => (k : Int)) N (fun i hi => by
    have e2 := loop_run (step := dynposlaw32_NetworkBreaks_L2 ((N : Int), l2, a2, cs5) (l3, a3, cs5, few) (l5, a5, cs5, fw) (few ++ fw) (i : Int)) (r := .inl ()) (fun k => (k : Int)) N (fun j hj => by
      unfold dynposlaw32_NetworkBreaks_L2
      simp only [dT (c := (j : Int) < (N : Int)) (by omega), if_true]
      rw [copies_eq hv (broken := few ++ fw) (by simp; omega) (by omega) (by simp only; omega) (by omega) (by simp only; omega), copies_eq hv (broken := few) (by omega) (by omega) (by simp only; omega) (by omega) (by simp only; omega)]
      have m0 := dB_le (p := Joined (Ed ⟨(N : Int), cs5⟩ (few ++ fw) 0) (i : Int) (j : Int)) (q := Joined (Ed ⟨(N : Int), cs5⟩ few 0) (i : Int) (j : Int)) (Joined.mono (fun a b h => Ed.less (fun p hp => List.mem_append_left _ hp) h))
      have m1 := dB_le (p := Joined (Ed ⟨(N : Int), cs5⟩ (few ++ fw) 1) (i : Int) (j : Int)) (q := Joined (Ed ⟨(N : Int), cs5⟩ few 1) (i : Int) (j : Int)) (Joined.mono (fun a b h => Ed.less (fun p hp => List.mem_append_left _ hp) h))
      simp only [Option.bind_some]
      rw [dF (by omega)]
      simp only [Bool.false_eq_true, if_false]
      rw [W_succ (by omega)]) (by
      unfold dynposlaw32_NetworkBreaks_L2
      simp only [dF (c := (N : Int) < (N : Int)) (by omega), Bool.false_eq_true, if_false])
    simp only [show ((0 : Nat) : Int) = 0 from rfl] at e2
    unfold dynposlaw32_NetworkBreaks_L1
    simp only [dT (c := (i : Int) < (N : Int)) (by omega), if_true, e2, Option.bind_some, Sum.elim_inl]
    rw [W_succ (by omega)]) (by
    unfold dynposlaw32_NetworkBreaks_L1
    simp only [dF (c := (N : Int) < (N : Int)) (by omega), Bool.false_eq_true, if_false])
  have e3 := loop_run (step := dynposlaw32_NetworkBreaks_L3 ((N : Int), l2, a2, cs5) (l5, a5, cs5, fw)) (r := .inl ()) (fun k => (k : Int)) cs5.length (fun i hi => by
    obtain ⟨r1, r2, r3, r4, r5⟩ := hv.rng i hi
    simp only at r1 r2 r3 r4 r5
    unfold dynposlaw32_NetworkBreaks_L3
    simp only [lt_len hi, if_true, idx_gt hi, Option.bind_some]
    rw [reach_eq hv (broken := []) (by simp) r1 r2 r3 (by simp only; omega) (by omega) (by simp only; omega), dB_T (Joined.one ⟨gt cs5 i, ⟨i, hi, rfl, rfl, fun ⟨p, hp, _⟩ => by simp at hp⟩, .inl ⟨rfl, rfl⟩⟩)]
    simp only [Option.bind_some, Bool.not_true, Bool.false_eq_true, if_false]
    rw [W_succ (by omega)]) (by
    unfold dynposlaw32_NetworkBreaks_L3
    simp only [nlt_len, Bool.false_eq_true, if_false])
  simp only [show ((0 : Nat) : Int) = 0 from rfl] at e1 e3
  simp only [e1, e3, Option.bind_some, Sum.elim_inl]
  exact wp_some.2 rfl
end Rx
end Go.Proofs.Ythgnnjdjdmdfoaa
