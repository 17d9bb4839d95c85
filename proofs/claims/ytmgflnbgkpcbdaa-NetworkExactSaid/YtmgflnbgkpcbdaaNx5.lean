/- Nets: drawn nets and broken cables. Plain laws. -/
import Derived.Test.YtmgflnbgkpcbdaaNx4
set_option linter.unusedVariables false
set_option linter.unusedSimpArgs false
namespace Go.Proofs.Ytmgflnbgkpcbdaa
open Go Go.RowKit Dp
namespace Rx

/-- a cable comes before a place -/
def Bd (k a b : Int) (c : Cable) : Prop := c.Net < k ∨ c.Net = k ∧ (c.A < a ∨ c.A = a ∧ c.B < b)
/-- how many cables there may be from nodes below a -/
def Sf : Nat → Nat
  | 0 => 0
  | 1 => 4
  | 2 => 7
  | 3 => 9
  | _ => 10
theorem Sf_succ {a : Nat} (h : a ≤ 4) : Sf a + (4 - a) ≤ Sf (a + 1) := by
  rcases a with _ | _ | _ | _ | _ | a <;> first | decide | omega
theorem Sf_le (a : Nat) : Sf a ≤ 10 := by
  rcases a with _ | _ | _ | _ | a <;> first | decide | exact Nat.le_refl _
structure Gn (N : Int) (m : Nat) (k a b : Int) (cs : List Cable) : Prop where
  len : cs.length ≤ m
  rng : ∀ i, i < cs.length → 0 ≤ (gt cs i).Net ∧ (gt cs i).Net < 2 ∧ 0 ≤ (gt cs i).A ∧ (gt cs i).A < (gt cs i).B ∧ (gt cs i).B < N
  srt : ∀ i, 0 < i → i < cs.length → cltP (gt cs (i - 1)) (gt cs i)
  bd : ∀ i, i < cs.length → Bd k a b (gt cs i)
theorem Gn.up {N : Int} {m m' : Nat} {k a b k' a' b' : Int} {cs : List Cable} (h : Gn N m k a b cs) (hm : m ≤ m') (hb : ∀ c : Cable, 0 ≤ c.A → c.B < N → c.A < c.B → Bd k a b c → Bd k' a' b' c) : Gn N m' k' a' b' cs :=
  ⟨Nat.le_trans h.len hm, h.rng, h.srt, fun i hi => by
    obtain ⟨r1, r2, r3, r4, r5⟩ := h.rng i hi
    exact hb _ r3 r5 r4 (h.bd i hi)⟩
theorem Gn.add {N : Int} {m : Nat} {k a b : Int} {cs : List Cable} (h : Gn N m k a b cs) (k0 : 0 ≤ k) (k1 : k < 2) (a0 : 0 ≤ a) (ab : a < b) (b1 : b < N) : Gn N (m + 1) k a (b + 1) (cs ++ [Cable.mk k a b]) := by
  have hl := h.len
  refine ⟨by simp; omega, fun i hi => ?_, fun i h0 hi => ?_, fun i hi => ?_⟩
  · rw [gt_snoc (by simpa using hi)]
    split
    · exact h.rng i (by omega)
    · exact ⟨k0, k1, a0, ab, b1⟩
  · have hi' : i < cs.length + 1 := by simpa using hi
    rw [gt_snoc hi', gt_snoc (by omega)]
    rw [if_pos (by omega)]
    split
    · exact h.srt i h0 (by omega)
    · have := h.bd (i - 1) (by omega)
      unfold Bd at this
      unfold cltP
      simp only
      omega
  · rw [gt_snoc (by simpa using hi)]
    split
    · rename_i hlt
      have := h.bd i hlt
      unfold Bd at this ⊢
      omega
    · unfold Bd
      simp only [true_and]
      right; right
      omega
theorem wpNet {sl : List Int} {sa : Int} (hs : Sr sl sa) : Wp (Src_Net ⟨sl, sa⟩) fun r => Vn ⟨r.1, r.2.2.2⟩ ∧ Sr r.2.1 r.2.2.1 := by
  unfold Src_Net
  refine (wpRange hs (lo := 1) (hi := 5) (by omega) (by omega) (by omega) (by omega)).bind fun x hx => ?_
  obtain ⟨nz, l0, a0⟩ := x
  simp only at hx ⊢
  obtain ⟨⟨n0, n1⟩, hs0⟩ := hx
  obtain ⟨N, rfl⟩ : ∃ N : Nat, nz = N := ⟨nz.toNat, by omega⟩
  have hloop : Wp (loopO Src_Net_L1 (0, l0, a0, (N : Int), [])) fun r => Sr r.1 r.2.1 ∧ r.2.2.1 = (N : Int) ∧ Gn N 20 2 0 0 r.2.2.2 := by
    refine wp_upto 2 (fun k s => s.1 = (k : Int) ∧ Sr s.2.1 s.2.2.1 ∧ s.2.2.2.1 = (N : Int) ∧ Gn N (10 * k) k 0 0 s.2.2.2.2) ⟨rfl, hs0, rfl, by simp, fun i hi => by simp at hi, fun i _ hi => by simp at hi, fun i hi => by simp at hi⟩ (fun k s hk hv => ?_) (fun s hv => ?_) (by omega)
    · obtain ⟨z, l, a, nn, cs⟩ := s
      simp only at hv
      obtain ⟨rfl, hsr, rfl, hg⟩ := hv
      unfold Src_Net_L1
      simp only [dT (c := (k : Int) < 2) (by omega), if_true]
      have inner : Wp (loopO (Src_Net_L2 ((k : Int), l, a, (N : Int), cs)) (0, l, a, (N : Int), cs)) fun r => Sr r.1 r.2.1 ∧ r.2.2.1 = (N : Int) ∧ Gn N (10 * k + 10) ((k + 1 : Nat) : Int) 0 0 r.2.2.2 := by
        refine wp_upto N (fun q s => s.1 = (q : Int) ∧ Sr s.2.1 s.2.2.1 ∧ s.2.2.2.1 = (N : Int) ∧ Gn N (10 * k + Sf q) k q 0 s.2.2.2.2) ⟨rfl, hsr, rfl, hg.up (by simp [Sf]) (fun c _ _ _ h => h)⟩ (fun q s hq hv => ?_) (fun s hv => ?_) (by omega)
        · obtain ⟨z, l1, a1, nn, cs1⟩ := s
          simp only at hv
          obtain ⟨rfl, hsr1, rfl, hg1⟩ := hv
          unfold Src_Net_L2
          simp only [dT (c := (q : Int) < (N : Int)) (by omega), if_true]
          have inn : Wp (loopO (Src_Net_L3 ((k : Int), l, a, (N : Int), cs) ((q : Int), l1, a1, (N : Int), cs1)) (W ((q : Int) + 1), l1, a1, (N : Int), cs1)) fun r => Sr r.1 r.2.1 ∧ r.2.2.1 = (N : Int) ∧ Gn N (10 * k + Sf (q + 1)) k ((q + 1 : Nat) : Int) 0 r.2.2.2 := by
            rw [W_succ (by omega)]
            refine wp_upto (N - (q + 1)) (fun p s => s.1 = ((q + 1 + p : Nat) : Int) ∧ Sr s.2.1 s.2.2.1 ∧ s.2.2.2.1 = (N : Int) ∧ Gn N (10 * k + Sf q + p) k q ((q + 1 + p : Nat) : Int) s.2.2.2.2) ⟨rfl, hsr1, rfl, hg1.up (by omega) (fun c h1 h2 h3 h => by unfold Bd at *; omega)⟩ (fun p s hp hv => ?_) (fun s hv => ?_) (by omega)
            · obtain ⟨z, l2, a2, nn, cs2⟩ := s
              simp only at hv
              obtain ⟨rfl, hsr2, rfl, hg2⟩ := hv
              have hl2 := hg2.len
              have hsq := Sf_le q
              unfold Src_Net_L3
              simp only [dT (c := ((q + 1 + p : Nat) : Int) < (N : Int)) (by omega), if_true]
              refine (wpN hsr2 (n := 2) (by omega) (by omega)).bind fun y hy => ?_
              obtain ⟨y, l3, a3⟩ := y
              simp only at hy ⊢
              by_cases hc : y = 1
              · rw [if_pos (beqT hc), app_sm (by simp; omega)]
                simp only [Option.bind_some]
                rw [W_succ (by omega)]
                have := hg2.add (by omega) (by omega) (by omega) (by omega) (by omega)
                refine wp_some.2 ⟨by simp only; omega, hy.2, rfl, ?_⟩
                rw [show (((q + 1 + (p + 1) : Nat)) : Int) = ((q + 1 + p : Nat) : Int) + 1 by omega]
                exact this
              · rw [if_neg (by rw [beqF hc]; simp)]
                simp only [Option.bind_some]
                rw [W_succ (by omega)]
                exact wp_some.2 ⟨by simp only; omega, hy.2, rfl, hg2.up (by omega) (fun c h1 h2 h3 h => by unfold Bd at *; omega)⟩
            · obtain ⟨z, l2, a2, nn, cs2⟩ := s
              simp only at hv
              obtain ⟨rfl, hsr2, rfl, hg2⟩ := hv
              unfold Src_Net_L3
              simp only [dF (c := ((q + 1 + (N - (q + 1)) : Nat) : Int) < (N : Int)) (by omega), Bool.false_eq_true, if_false]
              have hsf := Sf_succ (a := q) (by omega)
              exact wp_some.2 ⟨hsr2, rfl, hg2.up (by omega) (fun c h1 h2 h3 h => by unfold Bd at *; omega)⟩
          refine inn.bind fun r hr => ?_
          rw [W_succ (by omega)]
          exact wp_some.2 ⟨rfl, hr.1, hr.2.1, hr.2.2⟩
        · obtain ⟨z, l1, a1, nn, cs1⟩ := s
          simp only at hv
          obtain ⟨rfl, hsr1, rfl, hg1⟩ := hv
          unfold Src_Net_L2
          simp only [dF (c := (N : Int) < (N : Int)) (by omega), Bool.false_eq_true, if_false]
          have hsf := Sf_le N
          exact wp_some.2 ⟨hsr1, rfl, hg1.up (by omega) (fun c h1 h2 h3 h => by unfold Bd at *; omega)⟩
      refine inner.bind fun r hr => ?_
      rw [W_succ (by omega)]
      exact wp_some.2 ⟨rfl, hr.1, hr.2.1, hr.2.2.up (by omega) (fun c _ _ _ h => h)⟩
    · obtain ⟨z, l, a, nn, cs⟩ := s
      simp only at hv
      obtain ⟨rfl, hsr, rfl, hg⟩ := hv
      unfold Src_Net_L1
      simp only [dF (c := ((2 : Nat) : Int) < 2) (by omega), Bool.false_eq_true, if_false]
      exact wp_some.2 ⟨hsr, rfl, hg⟩
  refine hloop.bind fun r hr => ?_
  obtain ⟨l, a, nn, cs⟩ := r
  obtain ⟨h1, rfl, h2⟩ := hr
  exact wp_some.2 ⟨⟨by simp only; omega, by simp only; omega, by have := h2.len; simp only at this ⊢; omega, h2.rng, h2.srt⟩, h1⟩

theorem wpSome {sl : List Int} {sa : Int} (hs : Sr sl sa) {n : Nat} (hn : n ≤ 1000) {k : Int} (k0 : 1 ≤ k) (k1 : k ≤ 1000) : Wp (Src_Some ⟨sl, sa⟩ n k) fun r => Sr r.1 r.2.1 ∧ r.2.2.length ≤ n ∧ ∀ x ∈ r.2.2, 0 ≤ x ∧ x < (n : Int) := by
  unfold Src_Some
  have hloop : Wp (loopO (Src_Some_L1 n k) (0, [], sl, sa)) fun r => Sr r.2.1 r.2.2 ∧ r.1.length ≤ n ∧ ∀ x ∈ r.1, 0 ≤ x ∧ x < (n : Int) := by
    refine wp_upto n (fun i s => s.1 = (i : Int) ∧ Sr s.2.2.1 s.2.2.2 ∧ s.2.1.length ≤ i ∧ ∀ x ∈ s.2.1, 0 ≤ x ∧ x < (n : Int)) ⟨rfl, hs, Nat.le_refl _, fun x hx => by simp at hx⟩ (fun i s hi hv => ?_) (fun s hv => ?_) (by omega)
    · obtain ⟨z, o, l, a⟩ := s
      simp only at hv
      obtain ⟨rfl, h1, h2, h3⟩ := hv
      unfold Src_Some_L1
      simp only [dT (c := (i : Int) < (n : Int)) (by omega), if_true]
      refine (wpN h1 (n := k) (by omega) (by omega)).bind fun y hy => ?_
      obtain ⟨y, l', a'⟩ := y
      simp only at hy ⊢
      by_cases hc : (y == W (k - 1)) = true
      · rw [if_pos hc, app_sm (by simp; omega)]
        simp only [Option.bind_some]
        rw [W_succ (by omega)]
        refine wp_some.2 ⟨rfl, hy.2, by simp; omega, fun x hx => ?_⟩
        rcases List.mem_append.1 hx with hx | hx
        · exact h3 x hx
        · have : x = (i : Int) := by simpa using hx
          omega
      · rw [if_neg hc]
        simp only [Option.bind_some]
        rw [W_succ (by omega)]
        exact wp_some.2 ⟨rfl, hy.2, by simp only; omega, h3⟩
    · obtain ⟨z, o, l, a⟩ := s
      simp only at hv
      obtain ⟨rfl, h1, h2, h3⟩ := hv
      unfold Src_Some_L1
      simp only [dF (c := (n : Int) < (n : Int)) (by omega), Bool.false_eq_true, if_false]
      exact wp_some.2 ⟨h1, h2, h3⟩
  exact hloop.bind fun r hr => wp_some.2 ⟨hr.1, hr.2.1, hr.2.2⟩
theorem wpCables {sl : List Int} {sa : Int} (hs : Sr sl sa) {n : Net} (hn : n.Cables.length ≤ 24) : Wp (Src_Cables ⟨sl, sa⟩ n) fun r => Sr r.1 r.2.1 ∧ r.2.2.1 = n.Cables ∧ r.2.2.2.length ≤ 24 := by
  unfold Src_Cables
  refine (wpSome hs (n := n.Cables.length) (by omega) (k := 3) (by omega) (by omega)).bind fun x hx => ?_
  obtain ⟨l', a', xs⟩ := x
  obtain ⟨h1, h2, h3⟩ := hx
  simp only at h1 h2 h3
  have hloop : Wp (loopO (Src_Cables_L1 (l', a', xs)) (0, [])) fun r => r.length ≤ 24 := by
    refine wp_upto xs.length (fun i s => s.1 = (i : Int) ∧ s.2.length = i) ⟨rfl, rfl⟩ (fun i s hi hv => ?_) (fun s hv => ?_) (by omega)
    · obtain ⟨z, o⟩ := s
      simp only at hv
      obtain ⟨rfl, k1⟩ := hv
      unfold Src_Cables_L1
      simp only [lt_len hi, if_true, idx_gt hi, Option.bind_some]
      rw [app_sm (by simp; omega)]
      simp only [Option.bind_some]
      rw [W_succ (by omega)]
      exact wp_some.2 ⟨rfl, by simp; omega⟩
    · obtain ⟨z, o⟩ := s
      simp only at hv
      obtain ⟨rfl, k1⟩ := hv
      unfold Src_Cables_L1
      simp only [nlt_len, Bool.false_eq_true, if_false]
      exact wp_some.2 (by omega)
  exact hloop.bind fun r hr => wp_some.2 ⟨h1, rfl, hr⟩
theorem sane_T : dynposlaw32_sane = some true := by kernel_rfl
end Rx
end Go.Proofs.Ytmgflnbgkpcbdaa
