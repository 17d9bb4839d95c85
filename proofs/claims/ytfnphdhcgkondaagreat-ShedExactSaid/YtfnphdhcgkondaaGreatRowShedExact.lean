/- ShedExact: the given function answers true, whatever it is given; its arguments read as they did. No condition. -/
import Derived.Test.YtfnphdhcgkondaaGreatRows
import Derived.Test.YtfnphdhcgkondaaGreatRr
import Derived.Test.YtfnphdhcgkondaaGreatLawShedExact
import Derived.ProofKit
import Derived.OpenShut
set_option linter.unusedVariables false
set_option linter.unusedSimpArgs false
namespace Go.Proofs.YtfnphdhcgkondaaGreat
open Go Go.ChangeShapes Go.WideShapes Go.ChangeAt Go.RowKit Dp
namespace Rx
theorem opnShedExact_3 : Opn D Tryz.prog 3 [.int .i64] := opn_int Tryz.underlying3 (of_decide_eq_true (by kernel_rfl))
theorem opnShedExact_22 : Opn D Tryz.prog 22 [.sl 0] := opn_slice repOk Tryz.underlying22 (of_decide_eq_true (by kernel_rfl)) opnShedExact_3
theorem opnShedExact_44 : Opn D Tryz.prog 44 [.int .i64, .int .i64, .int .i64] := opn_struct Tryz.underlying44 (of_decide_eq_true (by kernel_rfl)) ⟨[.int .i64], [.int .i64, .int .i64], rfl, rfl, opnShedExact_3, ⟨[.int .i64], [.int .i64], rfl, rfl, opnShedExact_3, ⟨[.int .i64], [], rfl, rfl, opnShedExact_3, rfl⟩⟩⟩
theorem opnShedExact_25 : Opn D Tryz.prog 25 [.sl 4] := opn_slice repOk Tryz.underlying25 (of_decide_eq_true (by kernel_rfl)) opnShedExact_44
theorem opnShedExact_89 : Opn D Tryz.prog 89 [.int .i64, .int .i64, .int .i64] := opn_struct Tryz.underlying89 (of_decide_eq_true (by kernel_rfl)) ⟨[.int .i64], [.int .i64, .int .i64], rfl, rfl, opnShedExact_3, ⟨[.int .i64], [.int .i64], rfl, rfl, opnShedExact_3, ⟨[.int .i64], [], rfl, rfl, opnShedExact_3, rfl⟩⟩⟩
theorem opnShedExact_26 : Opn D Tryz.prog 26 [.sl 5] := opn_slice repOk Tryz.underlying26 (of_decide_eq_true (by kernel_rfl)) opnShedExact_89
theorem opnShedExact_57 : Opn D Tryz.prog 57 [.int .i64, .int .i64, .int .i64, .int .i64, .sl 0] := opn_struct Tryz.underlying57 (of_decide_eq_true (by kernel_rfl)) ⟨[.int .i64], [.int .i64, .int .i64, .int .i64, .sl 0], rfl, rfl, opnShedExact_3, ⟨[.int .i64], [.int .i64, .int .i64, .sl 0], rfl, rfl, opnShedExact_3, ⟨[.int .i64], [.int .i64, .sl 0], rfl, rfl, opnShedExact_3, ⟨[.int .i64], [.sl 0], rfl, rfl, opnShedExact_3, ⟨[.sl 0], [], rfl, rfl, opnShedExact_22, rfl⟩⟩⟩⟩⟩
theorem opnShedExact_27 : Opn D Tryz.prog 27 [.sl 6] := opn_slice repOk Tryz.underlying27 (of_decide_eq_true (by kernel_rfl)) opnShedExact_57
theorem opnShedExact_29 : Opn D Tryz.prog 29 [.int .i64, .sl 4, .sl 5, .sl 6, .int .i64, .int .i64] := opn_struct Tryz.underlying29 (of_decide_eq_true (by kernel_rfl)) ⟨[.int .i64], [.sl 4, .sl 5, .sl 6, .int .i64, .int .i64], rfl, rfl, opnShedExact_3, ⟨[.sl 4], [.sl 5, .sl 6, .int .i64, .int .i64], rfl, rfl, opnShedExact_25, ⟨[.sl 5], [.sl 6, .int .i64, .int .i64], rfl, rfl, opnShedExact_26, ⟨[.sl 6], [.int .i64, .int .i64], rfl, rfl, opnShedExact_27, ⟨[.int .i64], [.int .i64], rfl, rfl, opnShedExact_3, ⟨[.int .i64], [], rfl, rfl, opnShedExact_3, rfl⟩⟩⟩⟩⟩⟩
theorem opnShedExact_4 : Opn D Tryz.prog 4 [.bool] := opn_bool Tryz.underlying4 (of_decide_eq_true (by kernel_rfl))
theorem opnShedExact_30 : Opn D Tryz.prog 30 [.sl 1] := opn_slice repOk Tryz.underlying30 (of_decide_eq_true (by kernel_rfl)) opnShedExact_4
theorem opnShedExact_48 : Opn D Tryz.prog 48 [.int .i64, .int .i64, .int .i64, .int .i64] := opn_struct Tryz.underlying48 (of_decide_eq_true (by kernel_rfl)) ⟨[.int .i64], [.int .i64, .int .i64, .int .i64], rfl, rfl, opnShedExact_3, ⟨[.int .i64], [.int .i64, .int .i64], rfl, rfl, opnShedExact_3, ⟨[.int .i64], [.int .i64], rfl, rfl, opnShedExact_3, ⟨[.int .i64], [], rfl, rfl, opnShedExact_3, rfl⟩⟩⟩⟩
theorem opnShedExact_31 : Opn D Tryz.prog 31 [.sl 8] := opn_slice repOk Tryz.underlying31 (of_decide_eq_true (by kernel_rfl)) opnShedExact_48
theorem opnShedExact_84 : Opn D Tryz.prog 84 [.int .i64, .int .i64] := opn_struct Tryz.underlying84 (of_decide_eq_true (by kernel_rfl)) ⟨[.int .i64], [.int .i64], rfl, rfl, opnShedExact_3, ⟨[.int .i64], [], rfl, rfl, opnShedExact_3, rfl⟩⟩
theorem opnShedExact_32 : Opn D Tryz.prog 32 [.sl 9] := opn_slice repOk Tryz.underlying32 (of_decide_eq_true (by kernel_rfl)) opnShedExact_84
theorem opnShedExact_34 : Opn D Tryz.prog 34 [.sl 1, .sl 8, .sl 0, .sl 9] := opn_struct Tryz.underlying34 (of_decide_eq_true (by kernel_rfl)) ⟨[.sl 1], [.sl 8, .sl 0, .sl 9], rfl, rfl, opnShedExact_30, ⟨[.sl 8], [.sl 0, .sl 9], rfl, rfl, opnShedExact_31, ⟨[.sl 0], [.sl 9], rfl, rfl, opnShedExact_22, ⟨[.sl 9], [], rfl, rfl, opnShedExact_32, rfl⟩⟩⟩⟩
end Rx
theorem ShedExact_own : ownKnob Tryz.prog.godebug = none := by kernel_rfl
theorem ShedExact_laid : laidOutB Tryz.prog = true := by kernel_rfl
set_option maxHeartbeats 1600000 in
set_option maxRecDepth 100000 in
theorem ShedExact_lifted (os : Os) (started : os.Started) (H : Type) (enc : TypeId × Value → H) :
  ReturnsInHanded {} Tryz.checked os 6 .any (Rows.shedExactSpec.pre6 enc Tryz.prog Tryz.f6 Rows.shedExactRow.domain false) (Rows.shedExactSpec.post enc Tryz.prog Tryz.f6 false true false false) := by
 refine returnsInHanded_of_change (C := Tryz.checked) ShedExact_own started (by kernel_rfl) Tryz.func6
  (ChangeSpec.witness6 (enc := enc) (C := Tryz.checked) false ⟨#[], #[.slice none 0 0, .agg #[.int .i64 0, .slice none 0 0, .slice none 0 0, .slice none 0 0, .int .i64 0, .int .i64 0], .agg #[.slice none 0 0, .slice none 0 0, .slice none 0 0, .slice none 0 0], .int .i64 0], []⟩ 8 (by kernel_rfl) (by kernel_rfl) (by kernel_rfl) (by kernel_rfl)) ?_
 intro W base args ds gs before hval0 hW _ _
 have hval : ∀ (j : Nat) t v, Tryz.f6.params[j]? = some t → args[j]? = some v → Value.okWide Tryz.prog W .any base t v := hval0
 have hW' := hW
 obtain ⟨p, q, hA0, hV, rfl, _, _⟩ := hW
 have hA : DataW.TrodAll enc Tryz.prog W 0 (fun _ => true) true Tryz.f6.params.toList args.toList ds p := hA0
 rw [Tryz.params6] at hA hval
 obtain ⟨v0, vs0, d0, ds0, p0, q0, ea, rfl, rfl, h0, hA⟩ := trodAll_cons hA
 obtain ⟨v1, vs1, d1, ds1, p1, q1, rfl, rfl, rfl, h1, hA⟩ := trodAll_cons hA
 obtain ⟨v2, vs2, d2, ds2, p2, q2, rfl, rfl, rfl, h2, hA⟩ := trodAll_cons hA
 obtain ⟨v3, vs3, d3, ds3, p3, q3, rfl, rfl, rfl, h3, hA⟩ := trodAll_cons hA
 obtain ⟨ev, rfl, rfl⟩ := trodAll_nil hA
 subst ev
 have ea : args = #[v0, v1, v2, v3] := by cases args; simp_all
 subst ea
 obtain ⟨rfl, rfl⟩ := trodVars_none hV
 obtain ⟨sa0, sl0, sc0, rfl⟩ := okWide_slice Tryz.underlying22 (hval 0 22 v0 rfl rfl)
 have k0 := h0
 obtain ⟨fu0, hf0⟩ := h0
 obtain ⟨e0, m0, l0, w0⟩ := Rx.opnShedExact_22.2 enc W 0 _ true fu0 _ _ hf0
 obtain ⟨x0_0, e0_0, rfl, m0_0⟩ := Rx.dv_cons m0
 obtain rfl := Rx.dv_nil m0_0
 obtain ⟨c1, rfl, _⟩ := okWide_struct Tryz.underlying29 (hval 1 29 v1 rfl rfl)
 have k1 := h1
 obtain ⟨fu1, hf1⟩ := h1
 obtain ⟨e1, m1, l1, w1⟩ := Rx.opnShedExact_29.2 enc W 0 _ true fu1 _ _ hf1
 obtain ⟨x1_0, e1_0, rfl, m1_0⟩ := Rx.dv_cons m1
 obtain ⟨x1_1, e1_1, rfl, m1_1⟩ := Rx.dv_cons m1_0
 obtain ⟨x1_2, e1_2, rfl, m1_2⟩ := Rx.dv_cons m1_1
 obtain ⟨x1_3, e1_3, rfl, m1_3⟩ := Rx.dv_cons m1_2
 obtain ⟨x1_4, e1_4, rfl, m1_4⟩ := Rx.dv_cons m1_3
 obtain ⟨x1_5, e1_5, rfl, m1_5⟩ := Rx.dv_cons m1_4
 obtain rfl := Rx.dv_nil m1_5
 obtain ⟨c2, rfl, _⟩ := okWide_struct Tryz.underlying34 (hval 2 34 v2 rfl rfl)
 have k2 := h2
 obtain ⟨fu2, hf2⟩ := h2
 obtain ⟨e2, m2, l2, w2⟩ := Rx.opnShedExact_34.2 enc W 0 _ true fu2 _ _ hf2
 obtain ⟨x2_0, e2_0, rfl, m2_0⟩ := Rx.dv_cons m2
 obtain ⟨x2_1, e2_1, rfl, m2_1⟩ := Rx.dv_cons m2_0
 obtain ⟨x2_2, e2_2, rfl, m2_2⟩ := Rx.dv_cons m2_1
 obtain ⟨x2_3, e2_3, rfl, m2_3⟩ := Rx.dv_cons m2_2
 obtain rfl := Rx.dv_nil m2_3
 obtain ⟨z3, rfl⟩ := okWide_int Tryz.underlying3 (hval 3 3 v3 rfl rfl)
 have k3 := h3
 obtain ⟨fu3, hf3⟩ := h3
 obtain ⟨e3, m3, l3, w3⟩ := Rx.opnShedExact_3.2 enc W 0 _ true fu3 _ _ hf3
 obtain ⟨x3_0, e3_0, rfl, m3_0⟩ := Rx.dv_cons m3
 obtain rfl := Rx.dv_nil m3_0
 clear hval0
 simp only [List.append_nil] at hW'
 have hlt : ∀ y ∈ p0 ++ (p1 ++ (p2 ++ (p3))), y.block < W.heap.size := fun y hy => hW'.lt y (by simpa using hy)
 have g0 : ∀ W' : World, Below W.heap.size W W' → DataW.Trod enc Tryz.prog W' 0 (fun b => decide (b < W.heap.size)) true 22 _ d0 p0 :=
  fun W' hn => Below.trod ShedExact_laid (by kernel_rfl) (of_decide_eq_true (by kernel_rfl)) k0 hn (fun y hy => hlt y (by simp [hy]))
 have g1 : ∀ W' : World, Below W.heap.size W W' → DataW.Trod enc Tryz.prog W' 0 (fun b => decide (b < W.heap.size)) true 29 _ d1 p1 :=
  fun W' hn => Below.trod ShedExact_laid (by kernel_rfl) (of_decide_eq_true (by kernel_rfl)) k1 hn (fun y hy => hlt y (by simp [hy]))
 have g2 : ∀ W' : World, Below W.heap.size W W' → DataW.Trod enc Tryz.prog W' 0 (fun b => decide (b < W.heap.size)) true 34 _ d2 p2 :=
  fun W' hn => Below.trod ShedExact_laid (by kernel_rfl) (of_decide_eq_true (by kernel_rfl)) k2 hn (fun y hy => hlt y (by simp [hy]))
 have g3 : ∀ W' : World, Below W.heap.size W W' → DataW.Trod enc Tryz.prog W' 0 (fun b => decide (b < W.heap.size)) true 3 _ d3 p3 :=
  fun W' hn => Below.trod ShedExact_laid (by kernel_rfl) (of_decide_eq_true (by kernel_rfl)) k3 hn (fun y hy => hlt y (by simp [hy]))
 refine (Rx.law_run Rx.c6_ok (h := (x0_0, x1_0, x1_1, x1_2, x1_3, x1_4, x1_5, x2_0, x2_1, x2_2, x2_3, x3_0)) (r := true) (Rx.law_ShedExact _ _ _ _ (w1 ⟨.sl 6, x1_3⟩ (List.mem_of_getElem? (i := 3) rfl))) (w := W) (vs := [.slice sa0 sl0 sc0, .agg c1, .agg c2, .int .i64 z3]) (ac := [.one (.v (.sl 0) x0_0 [0] 1100), .agg [.v (.int .i64) x1_0 [] 1101, .v (.sl 4) x1_1 [0] 1102, .v (.sl 5) x1_2 [0] 1103, .v (.sl 6) x1_3 [0] 1104, .v (.int .i64) x1_4 [] 1105, .v (.int .i64) x1_5 [] 1106], .agg [.v (.sl 1) x2_0 [0] 1107, .v (.sl 8) x2_1 [0] 1108, .v (.sl 0) x2_2 [0] 1109, .v (.sl 9) x2_3 [0] 1110], .one (.v (.int .i64) x3_0 [] 1111)]) rfl rfl ⟨Rx.vr_rd (ds := Rx.ofHH Rx.T Rx.c6.ins (x0_0, x1_0, x1_1, x1_2, x1_3, x1_4, x1_5, x2_0, x2_1, x2_2, x2_3, x3_0)) (i := 0) (Nat.le_of_ble_eq_true rfl) rfl l0 rfl, Rx.vr_agg (ds := Rx.ofHH Rx.T Rx.c6.ins (x0_0, x1_0, x1_1, x1_2, x1_3, x1_4, x1_5, x2_0, x2_1, x2_2, x2_3, x3_0)) (i := 1) (m := 6) (Nat.le_of_ble_eq_true rfl) rfl l1 rfl, Rx.vr_agg (ds := Rx.ofHH Rx.T Rx.c6.ins (x0_0, x1_0, x1_1, x1_2, x1_3, x1_4, x1_5, x2_0, x2_1, x2_2, x2_3, x3_0)) (i := 7) (m := 4) (Nat.le_of_ble_eq_true rfl) rfl l2 rfl, Rx.vr_rd (ds := Rx.ofHH Rx.T Rx.c6.ins (x0_0, x1_0, x1_1, x1_2, x1_3, x1_4, x1_5, x2_0, x2_1, x2_2, x2_3, x3_0)) (i := 11) (Nat.le_of_ble_eq_true rfl) rfl l3 rfl, trivial⟩).mono fun e W' he => ?_
 obtain ⟨v, rfl, ⟨U', γ', rs, hrs, hv⟩, hn⟩ := he
 obtain rfl := Option.some.inj hrs
 obtain ⟨rfl, _⟩ := hv
 exact ⟨_, rfl, _, _, _, [], _, [], hW', trodAll_mk1 (shut_bool Tryz.underlying4 true), trodAll_cons_mk (g0 _ hn) (trodAll_cons_mk (g1 _ hn) (trodAll_cons_mk (g2 _ hn) (trodAll_cons_mk (g3 _ hn) (rfl)))), rfl, hn.frame _, fun h => by cases h⟩
theorem ShedExact_holds : Rows.ShedExactSaid :=
 OpenClaim.holds_of_wide 6 Tryz.f6 rfl rfl rfl rfl rfl rfl rfl ⟨rfl, rfl, rfl, rfl, rfl⟩ rfl rfl rfl rfl rfl (by kernel_rfl) Tryz.func6 (by kernel_rfl)
  (of_decide_eq_true (by kernel_rfl)) (by unfold Func.isWrapper; first | (rw [if_pos (by decide +kernel)]; kernel_rfl) | (rw [if_neg (by decide +kernel)]; exact ⟨rfl, rfl⟩))
  (fun os started H enc _ => ShedExact_lifted os started H enc)
end Go.Proofs.YtfnphdhcgkondaaGreat
