/- FaultsExact: the given function answers true, whatever it is given; its arguments read as they did. No condition. -/
import Derived.Test.YtkgfdplcjdidhaaRows
import Derived.Test.YtkgfdplcjdidhaaRr
import Derived.Test.YtkgfdplcjdidhaaLawFaultsExact
import Derived.ProofKit
import Derived.OpenShut
set_option linter.unusedVariables false
set_option linter.unusedSimpArgs false
namespace Go.Proofs.Ytkgfdplcjdidhaa
open Go Go.ChangeShapes Go.WideShapes Go.ChangeAt Go.RowKit Dp
namespace Rx
theorem opnFaultsExact_3 : Opn D Try.prog 3 [.int .i64] := opn_int Try.underlying3 (of_decide_eq_true (by kernel_rfl))
theorem opnFaultsExact_22 : Opn D Try.prog 22 [.sl 0] := opn_slice repOk Try.underlying22 (of_decide_eq_true (by kernel_rfl)) opnFaultsExact_3
theorem opnFaultsExact_25 : Opn D Try.prog 25 [.int .i64, .int .i64] := opn_struct Try.underlying25 (of_decide_eq_true (by kernel_rfl)) ⟨[.int .i64], [.int .i64], rfl, rfl, opnFaultsExact_3, ⟨[.int .i64], [], rfl, rfl, opnFaultsExact_3, rfl⟩⟩
theorem opnFaultsExact_32 : Opn D Try.prog 32 [.int .i64, .int .i64, .int .i64, .int .i64] := opn_struct Try.underlying32 (of_decide_eq_true (by kernel_rfl)) ⟨[.int .i64], [.int .i64, .int .i64, .int .i64], rfl, rfl, opnFaultsExact_3, ⟨[.int .i64], [.int .i64, .int .i64], rfl, rfl, opnFaultsExact_3, ⟨[.int .i64, .int .i64], [], rfl, rfl, opnFaultsExact_25, rfl⟩⟩⟩
theorem opnFaultsExact_23 : Opn D Try.prog 23 [.sl 3] := opn_slice repOk Try.underlying23 (of_decide_eq_true (by kernel_rfl)) opnFaultsExact_32
end Rx

theorem FaultsExact_own : ownKnob Try.prog.godebug = none := by kernel_rfl
theorem FaultsExact_laid : laidOutB Try.prog = true := by kernel_rfl

set_option maxHeartbeats 1600000 in
set_option maxRecDepth 100000 in
theorem FaultsExact_lifted (os : Os) (started : os.Started) (H : Type) (enc : TypeId × Value → H) :
    ReturnsInHanded {} Try.checked os 3 .any (Rows.faultsExactSpec.pre6 enc Try.prog Try.f3 Rows.faultsExactRow.domain false) (Rows.faultsExactSpec.post enc Try.prog Try.f3 false true false false) := by
  refine returnsInHanded_of_change (C := Try.checked) FaultsExact_own started (by kernel_rfl) Try.func3
    (ChangeSpec.witness6 (enc := enc) (C := Try.checked) false ⟨#[], #[.slice none 0 0, .slice none 0 0, .slice none 0 0, .int .i64 0, .int .i64 0, .agg #[.int .i64 0, .int .i64 0]], []⟩ 8 (by kernel_rfl) (by kernel_rfl) (by kernel_rfl) (by kernel_rfl)) ?_
  intro W base args ds gs before hval0 hW _ _
  have hval : ∀ (j : Nat) t v, Try.f3.params[j]? = some t → args[j]? = some v → Value.okWide Try.prog W .any base t v := hval0
  have hW' := hW
  obtain ⟨p, q, hA0, hV, rfl, _, _⟩ := hW
  have hA : DataW.TrodAll enc Try.prog W 0 (fun _ => true) true Try.f3.params.toList args.toList ds p := hA0
  rw [Try.params3] at hA hval
  obtain ⟨v0, vs0, d0, ds0, p0, q0, ea, rfl, rfl, h0, hA⟩ := trodAll_cons hA
  obtain ⟨v1, vs1, d1, ds1, p1, q1, rfl, rfl, rfl, h1, hA⟩ := trodAll_cons hA
  obtain ⟨v2, vs2, d2, ds2, p2, q2, rfl, rfl, rfl, h2, hA⟩ := trodAll_cons hA
  obtain ⟨v3, vs3, d3, ds3, p3, q3, rfl, rfl, rfl, h3, hA⟩ := trodAll_cons hA
  obtain ⟨v4, vs4, d4, ds4, p4, q4, rfl, rfl, rfl, h4, hA⟩ := trodAll_cons hA
  obtain ⟨v5, vs5, d5, ds5, p5, q5, rfl, rfl, rfl, h5, hA⟩ := trodAll_cons hA
  obtain ⟨ev, rfl, rfl⟩ := trodAll_nil hA
  subst ev
  have ea : args = #[v0, v1, v2, v3, v4, v5] := by cases args; simp_all
  subst ea
  obtain ⟨rfl, rfl⟩ := trodVars_none hV
  obtain ⟨sa0, sl0, sc0, rfl⟩ := okWide_slice Try.underlying22 (hval 0 22 v0 rfl rfl)
  have k0 := h0
  obtain ⟨fu0, hf0⟩ := h0
  obtain ⟨e0, m0, l0, w0⟩ := Rx.opnFaultsExact_22.2 enc W 0 _ true fu0 _ _ hf0
  obtain ⟨x0_0, e0_0, rfl, m0_0⟩ := Rx.dv_cons m0
  obtain rfl := Rx.dv_nil m0_0
  obtain ⟨sa1, sl1, sc1, rfl⟩ := okWide_slice Try.underlying23 (hval 1 23 v1 rfl rfl)
  have k1 := h1
  obtain ⟨fu1, hf1⟩ := h1
  obtain ⟨e1, m1, l1, w1⟩ := Rx.opnFaultsExact_23.2 enc W 0 _ true fu1 _ _ hf1
  obtain ⟨x1_0, e1_0, rfl, m1_0⟩ := Rx.dv_cons m1
  obtain rfl := Rx.dv_nil m1_0
  obtain ⟨sa2, sl2, sc2, rfl⟩ := okWide_slice Try.underlying23 (hval 2 23 v2 rfl rfl)
  have k2 := h2
  obtain ⟨fu2, hf2⟩ := h2
  obtain ⟨e2, m2, l2, w2⟩ := Rx.opnFaultsExact_23.2 enc W 0 _ true fu2 _ _ hf2
  obtain ⟨x2_0, e2_0, rfl, m2_0⟩ := Rx.dv_cons m2
  obtain rfl := Rx.dv_nil m2_0
  obtain ⟨z3, rfl⟩ := okWide_int Try.underlying3 (hval 3 3 v3 rfl rfl)
  have k3 := h3
  obtain ⟨fu3, hf3⟩ := h3
  obtain ⟨e3, m3, l3, w3⟩ := Rx.opnFaultsExact_3.2 enc W 0 _ true fu3 _ _ hf3
  obtain ⟨x3_0, e3_0, rfl, m3_0⟩ := Rx.dv_cons m3
  obtain rfl := Rx.dv_nil m3_0
  obtain ⟨z4, rfl⟩ := okWide_int Try.underlying3 (hval 4 3 v4 rfl rfl)
  have k4 := h4
  obtain ⟨fu4, hf4⟩ := h4
  obtain ⟨e4, m4, l4, w4⟩ := Rx.opnFaultsExact_3.2 enc W 0 _ true fu4 _ _ hf4
  obtain ⟨x4_0, e4_0, rfl, m4_0⟩ := Rx.dv_cons m4
  obtain rfl := Rx.dv_nil m4_0
  obtain ⟨c5, rfl, _⟩ := okWide_struct Try.underlying25 (hval 5 25 v5 rfl rfl)
  have k5 := h5
  obtain ⟨fu5, hf5⟩ := h5
  obtain ⟨e5, m5, l5, w5⟩ := Rx.opnFaultsExact_25.2 enc W 0 _ true fu5 _ _ hf5
  obtain ⟨x5_0, e5_0, rfl, m5_0⟩ := Rx.dv_cons m5
  obtain ⟨x5_1, e5_1, rfl, m5_1⟩ := Rx.dv_cons m5_0
  obtain rfl := Rx.dv_nil m5_1
  clear hval0
  simp only [List.append_nil] at hW'
  have hlt : ∀ y ∈ p0 ++ (p1 ++ (p2 ++ (p3 ++ (p4 ++ (p5))))), y.block < W.heap.size := fun y hy => hW'.lt y (by simpa using hy)
  have g0 : ∀ W' : World, Below W.heap.size W W' → DataW.Trod enc Try.prog W' 0 (fun b => decide (b < W.heap.size)) true 22 _ d0 p0 :=
    fun W' hn => Below.trod FaultsExact_laid (by kernel_rfl) (of_decide_eq_true (by kernel_rfl)) k0 hn (fun y hy => hlt y (by simp [hy]))
  have g1 : ∀ W' : World, Below W.heap.size W W' → DataW.Trod enc Try.prog W' 0 (fun b => decide (b < W.heap.size)) true 23 _ d1 p1 :=
    fun W' hn => Below.trod FaultsExact_laid (by kernel_rfl) (of_decide_eq_true (by kernel_rfl)) k1 hn (fun y hy => hlt y (by simp [hy]))
  have g2 : ∀ W' : World, Below W.heap.size W W' → DataW.Trod enc Try.prog W' 0 (fun b => decide (b < W.heap.size)) true 23 _ d2 p2 :=
    fun W' hn => Below.trod FaultsExact_laid (by kernel_rfl) (of_decide_eq_true (by kernel_rfl)) k2 hn (fun y hy => hlt y (by simp [hy]))
  have g3 : ∀ W' : World, Below W.heap.size W W' → DataW.Trod enc Try.prog W' 0 (fun b => decide (b < W.heap.size)) true 3 _ d3 p3 :=
    fun W' hn => Below.trod FaultsExact_laid (by kernel_rfl) (of_decide_eq_true (by kernel_rfl)) k3 hn (fun y hy => hlt y (by simp [hy]))
  have g4 : ∀ W' : World, Below W.heap.size W W' → DataW.Trod enc Try.prog W' 0 (fun b => decide (b < W.heap.size)) true 3 _ d4 p4 :=
    fun W' hn => Below.trod FaultsExact_laid (by kernel_rfl) (of_decide_eq_true (by kernel_rfl)) k4 hn (fun y hy => hlt y (by simp [hy]))
  have g5 : ∀ W' : World, Below W.heap.size W W' → DataW.Trod enc Try.prog W' 0 (fun b => decide (b < W.heap.size)) true 25 _ d5 p5 :=
    fun W' hn => Below.trod FaultsExact_laid (by kernel_rfl) (of_decide_eq_true (by kernel_rfl)) k5 hn (fun y hy => hlt y (by simp [hy]))
  refine (Rx.law_run Rx.c3_ok (h := (x0_0, x1_0, x2_0, x3_0, x4_0, x5_0, x5_1)) (r := true) (Rx.law_FaultsExact _ _ _ _ _ _) (w := W) (vs := [.slice sa0 sl0 sc0, .slice sa1 sl1 sc1, .slice sa2 sl2 sc2, .int .i64 z3, .int .i64 z4, .agg c5]) (ac := [.one (.v (.sl 0) x0_0 [0] 1100), .one (.v (.sl 3) x1_0 [0] 1101), .one (.v (.sl 3) x2_0 [0] 1102), .one (.v (.int .i64) x3_0 [] 1103), .one (.v (.int .i64) x4_0 [] 1104), .agg [.v (.int .i64) x5_0 [] 1105, .v (.int .i64) x5_1 [] 1106]]) rfl rfl ⟨Rx.vr_rd (ds := Rx.ofHH Rx.T Rx.c3.ins (x0_0, x1_0, x2_0, x3_0, x4_0, x5_0, x5_1)) (i := 0) (Nat.le_of_ble_eq_true rfl) rfl l0 rfl, Rx.vr_rd (ds := Rx.ofHH Rx.T Rx.c3.ins (x0_0, x1_0, x2_0, x3_0, x4_0, x5_0, x5_1)) (i := 1) (Nat.le_of_ble_eq_true rfl) rfl l1 rfl, Rx.vr_rd (ds := Rx.ofHH Rx.T Rx.c3.ins (x0_0, x1_0, x2_0, x3_0, x4_0, x5_0, x5_1)) (i := 2) (Nat.le_of_ble_eq_true rfl) rfl l2 rfl, Rx.vr_rd (ds := Rx.ofHH Rx.T Rx.c3.ins (x0_0, x1_0, x2_0, x3_0, x4_0, x5_0, x5_1)) (i := 3) (Nat.le_of_ble_eq_true rfl) rfl l3 rfl, Rx.vr_rd (ds := Rx.ofHH Rx.T Rx.c3.ins (x0_0, x1_0, x2_0, x3_0, x4_0, x5_0, x5_1)) (i := 4) (Nat.le_of_ble_eq_true rfl) rfl l4 rfl, Rx.vr_agg (ds := Rx.ofHH Rx.T Rx.c3.ins (x0_0, x1_0, x2_0, x3_0, x4_0, x5_0, x5_1)) (i := 5) (m := 2) (Nat.le_of_ble_eq_true rfl) rfl l5 rfl, trivial⟩).mono fun e W' he => ?_
  obtain ⟨v, rfl, ⟨U', γ', rs, hrs, hv⟩, hn⟩ := he
  obtain rfl := Option.some.inj hrs
  obtain ⟨rfl, _⟩ := hv
  exact ⟨_, rfl, _, _, _, [], _, [], hW', trodAll_mk1 (shut_bool Try.underlying4 true), trodAll_cons_mk (g0 _ hn) (trodAll_cons_mk (g1 _ hn) (trodAll_cons_mk (g2 _ hn) (trodAll_cons_mk (g3 _ hn) (trodAll_cons_mk (g4 _ hn) (trodAll_cons_mk (g5 _ hn) (rfl)))))), rfl, hn.frame _, fun h => by cases h⟩

theorem FaultsExact_holds : Rows.FaultsExactSaid :=
  OpenClaim.holds_of_wide 3 Try.f3 rfl rfl rfl rfl rfl rfl rfl ⟨rfl, rfl, rfl, rfl, rfl⟩ rfl rfl rfl rfl rfl (by kernel_rfl) Try.func3 (by kernel_rfl)
    (of_decide_eq_true (by kernel_rfl)) (by unfold Func.isWrapper; first | (rw [if_pos (by decide +kernel)]; kernel_rfl) | (rw [if_neg (by decide +kernel)]; exact ⟨rfl, rfl⟩))
    (fun os started H enc _ => FaultsExact_lifted os started H enc)

end Go.Proofs.Ytkgfdplcjdidhaa
