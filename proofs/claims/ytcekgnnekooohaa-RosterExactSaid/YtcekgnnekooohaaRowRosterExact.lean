/- RosterExact: the given function answers true, whatever it is given; its arguments read as they did. No condition. -/
import Derived.Test.YtcekgnnekooohaaRows
import Derived.Test.YtcekgnnekooohaaRr
import Derived.Test.YtcekgnnekooohaaLawRosterExact
import Derived.ProofKit
import Derived.OpenShut
set_option linter.unusedVariables false
set_option linter.unusedSimpArgs false
namespace Go.Proofs.Ytcekgnnekooohaa
open Go Go.ChangeShapes Go.WideShapes Go.ChangeAt Go.RowKit Dp
namespace Rx
theorem opnRosterExact_3 : Opn D Try.prog 3 [.int .i64] := opn_int Try.underlying3 (of_decide_eq_true (by kernel_rfl))
theorem opnRosterExact_22 : Opn D Try.prog 22 [.sl 0] := opn_slice repOk Try.underlying22 (of_decide_eq_true (by kernel_rfl)) opnRosterExact_3
theorem opnRosterExact_66 : Opn D Try.prog 66 [.int .i64, .int .i64, .int .i64] := opn_struct Try.underlying66 (of_decide_eq_true (by kernel_rfl)) ⟨[.int .i64], [.int .i64, .int .i64], rfl, rfl, opnRosterExact_3, ⟨[.int .i64], [.int .i64], rfl, rfl, opnRosterExact_3, ⟨[.int .i64], [], rfl, rfl, opnRosterExact_3, rfl⟩⟩⟩
theorem opnRosterExact_23 : Opn D Try.prog 23 [.sl 4] := opn_slice repOk Try.underlying23 (of_decide_eq_true (by kernel_rfl)) opnRosterExact_66
theorem opnRosterExact_68 : Opn D Try.prog 68 [.int .i64, .int .i64, .int .i64] := opn_struct Try.underlying68 (of_decide_eq_true (by kernel_rfl)) ⟨[.int .i64], [.int .i64, .int .i64], rfl, rfl, opnRosterExact_3, ⟨[.int .i64], [.int .i64], rfl, rfl, opnRosterExact_3, ⟨[.int .i64], [], rfl, rfl, opnRosterExact_3, rfl⟩⟩⟩
theorem opnRosterExact_24 : Opn D Try.prog 24 [.sl 5] := opn_slice repOk Try.underlying24 (of_decide_eq_true (by kernel_rfl)) opnRosterExact_68
theorem opnRosterExact_64 : Opn D Try.prog 64 [.int .i64, .int .i64, .int .i64, .int .i64, .sl 0] := opn_struct Try.underlying64 (of_decide_eq_true (by kernel_rfl)) ⟨[.int .i64], [.int .i64, .int .i64, .int .i64, .sl 0], rfl, rfl, opnRosterExact_3, ⟨[.int .i64], [.int .i64, .int .i64, .sl 0], rfl, rfl, opnRosterExact_3, ⟨[.int .i64], [.int .i64, .sl 0], rfl, rfl, opnRosterExact_3, ⟨[.int .i64], [.sl 0], rfl, rfl, opnRosterExact_3, ⟨[.sl 0], [], rfl, rfl, opnRosterExact_22, rfl⟩⟩⟩⟩⟩
theorem opnRosterExact_25 : Opn D Try.prog 25 [.sl 6] := opn_slice repOk Try.underlying25 (of_decide_eq_true (by kernel_rfl)) opnRosterExact_64
theorem opnRosterExact_27 : Opn D Try.prog 27 [.int .i64, .sl 4, .sl 5, .sl 6, .int .i64, .int .i64] := opn_struct Try.underlying27 (of_decide_eq_true (by kernel_rfl)) ⟨[.int .i64], [.sl 4, .sl 5, .sl 6, .int .i64, .int .i64], rfl, rfl, opnRosterExact_3, ⟨[.sl 4], [.sl 5, .sl 6, .int .i64, .int .i64], rfl, rfl, opnRosterExact_23, ⟨[.sl 5], [.sl 6, .int .i64, .int .i64], rfl, rfl, opnRosterExact_24, ⟨[.sl 6], [.int .i64, .int .i64], rfl, rfl, opnRosterExact_25, ⟨[.int .i64], [.int .i64], rfl, rfl, opnRosterExact_3, ⟨[.int .i64], [], rfl, rfl, opnRosterExact_3, rfl⟩⟩⟩⟩⟩⟩
theorem opnRosterExact_4 : Opn D Try.prog 4 [.bool] := opn_bool Try.underlying4 (of_decide_eq_true (by kernel_rfl))
theorem opnRosterExact_28 : Opn D Try.prog 28 [.sl 1] := opn_slice repOk Try.underlying28 (of_decide_eq_true (by kernel_rfl)) opnRosterExact_4
theorem opnRosterExact_70 : Opn D Try.prog 70 [.int .i64, .int .i64, .int .i64, .int .i64] := opn_struct Try.underlying70 (of_decide_eq_true (by kernel_rfl)) ⟨[.int .i64], [.int .i64, .int .i64, .int .i64], rfl, rfl, opnRosterExact_3, ⟨[.int .i64], [.int .i64, .int .i64], rfl, rfl, opnRosterExact_3, ⟨[.int .i64], [.int .i64], rfl, rfl, opnRosterExact_3, ⟨[.int .i64], [], rfl, rfl, opnRosterExact_3, rfl⟩⟩⟩⟩
theorem opnRosterExact_29 : Opn D Try.prog 29 [.sl 8] := opn_slice repOk Try.underlying29 (of_decide_eq_true (by kernel_rfl)) opnRosterExact_70
theorem opnRosterExact_80 : Opn D Try.prog 80 [.int .i64, .int .i64] := opn_struct Try.underlying80 (of_decide_eq_true (by kernel_rfl)) ⟨[.int .i64], [.int .i64], rfl, rfl, opnRosterExact_3, ⟨[.int .i64], [], rfl, rfl, opnRosterExact_3, rfl⟩⟩
theorem opnRosterExact_30 : Opn D Try.prog 30 [.sl 9] := opn_slice repOk Try.underlying30 (of_decide_eq_true (by kernel_rfl)) opnRosterExact_80
theorem opnRosterExact_32 : Opn D Try.prog 32 [.sl 1, .sl 8, .sl 0, .sl 9] := opn_struct Try.underlying32 (of_decide_eq_true (by kernel_rfl)) ⟨[.sl 1], [.sl 8, .sl 0, .sl 9], rfl, rfl, opnRosterExact_28, ⟨[.sl 8], [.sl 0, .sl 9], rfl, rfl, opnRosterExact_29, ⟨[.sl 0], [.sl 9], rfl, rfl, opnRosterExact_22, ⟨[.sl 9], [], rfl, rfl, opnRosterExact_30, rfl⟩⟩⟩⟩
theorem opnRosterExact_34 : Opn D Try.prog 34 [.int .i64, .int .i64, .int .i64] := opn_struct Try.underlying34 (of_decide_eq_true (by kernel_rfl)) ⟨[.int .i64], [.int .i64, .int .i64], rfl, rfl, opnRosterExact_3, ⟨[.int .i64], [.int .i64], rfl, rfl, opnRosterExact_3, ⟨[.int .i64], [], rfl, rfl, opnRosterExact_3, rfl⟩⟩⟩
theorem opnRosterExact_36 : Opn D Try.prog 36 [.int .i64, .int .i64] := opn_struct Try.underlying36 (of_decide_eq_true (by kernel_rfl)) ⟨[.int .i64], [.int .i64], rfl, rfl, opnRosterExact_3, ⟨[.int .i64], [], rfl, rfl, opnRosterExact_3, rfl⟩⟩
end Rx

theorem RosterExact_own : ownKnob Try.prog.godebug = none := by kernel_rfl
theorem RosterExact_laid : laidOutB Try.prog = true := by kernel_rfl

set_option maxHeartbeats 1600000 in
set_option maxRecDepth 100000 in
theorem RosterExact_lifted (os : Os) (started : os.Started) (H : Type) (enc : TypeId × Value → H) :
    ReturnsInHanded {} Try.checked os 3 .any (Rows.rosterExactSpec.pre6 enc Try.prog Try.f3 Rows.rosterExactRow.domain false) (Rows.rosterExactSpec.post enc Try.prog Try.f3 false true false false) := by
  refine returnsInHanded_of_change (C := Try.checked) RosterExact_own started (by kernel_rfl) Try.func3
    (ChangeSpec.witness6 (enc := enc) (C := Try.checked) false ⟨#[], #[.slice none 0 0, .agg #[.int .i64 0, .slice none 0 0, .slice none 0 0, .slice none 0 0, .int .i64 0, .int .i64 0], .agg #[.slice none 0 0, .slice none 0 0, .slice none 0 0, .slice none 0 0], .agg #[.int .i64 0, .int .i64 0, .int .i64 0], .agg #[.int .i64 0, .int .i64 0], .int .i64 0, .int .i64 0], []⟩ 8 (by kernel_rfl) (by kernel_rfl) (by kernel_rfl) (by kernel_rfl)) ?_
  intro W base args ds gs before hval0 hW _ _
  have hval : ∀ (j : Nat) t v, Try.f3.params[j]? = some t → args[j]? = some v → Value.okWide Try.prog W .any base t v := hval0
  have hW' := hW
  obtain ⟨p, q, hA0, hV, rfl, _, _⟩ := hW
  have hA : DataW.TrodAll enc Try.prog W 0 (fun _ => true) true Try.f3.params.toList args.toList ds p := hA0
  rw [Try.params3] at hA hval
  obtain ⟨v0, vs0, d0, ds0, p0, q0, ea, rfl, rfl, h0, hA⟩ := trodAll_cons hA
  obtain ⟨v1, vs1, d1, ds1, p1, q1, rfl, rfl, rfl, h1, hA⟩ := trodAll_cons hA
  obtain ⟨v2, vs2, d2, ds2, p2, q2, rfl, rfl, rfl, h2, hA⟩ := trodAll_cons hA
  obtain ⟨v3, vs3, d3, ds3, p3, q3, rfl, rfl, rfl, h3, hA⟩ := trodAll_cons hA
  obtain ⟨v4, vs4, d4, ds4, p4, q4, rfl, rfl, rfl, h4, hA⟩ := trodAll_cons hA
  obtain ⟨v5, vs5, d5, ds5, p5, q5, rfl, rfl, rfl, h5, hA⟩ := trodAll_cons hA
  obtain ⟨v6, vs6, d6, ds6, p6, q6, rfl, rfl, rfl, h6, hA⟩ := trodAll_cons hA
  obtain ⟨ev, rfl, rfl⟩ := trodAll_nil hA
  subst ev
  have ea : args = #[v0, v1, v2, v3, v4, v5, v6] := by cases args; simp_all
  subst ea
  obtain ⟨rfl, rfl⟩ := trodVars_none hV
  obtain ⟨sa0, sl0, sc0, rfl⟩ := okWide_slice Try.underlying22 (hval 0 22 v0 rfl rfl)
  have k0 := h0
  obtain ⟨fu0, hf0⟩ := h0
  obtain ⟨e0, m0, l0, w0⟩ := Rx.opnRosterExact_22.2 enc W 0 _ true fu0 _ _ hf0
  obtain ⟨x0_0, e0_0, rfl, m0_0⟩ := Rx.dv_cons m0
  obtain rfl := Rx.dv_nil m0_0
  obtain ⟨c1, rfl, _⟩ := okWide_struct Try.underlying27 (hval 1 27 v1 rfl rfl)
  have k1 := h1
  obtain ⟨fu1, hf1⟩ := h1
  obtain ⟨e1, m1, l1, w1⟩ := Rx.opnRosterExact_27.2 enc W 0 _ true fu1 _ _ hf1
  obtain ⟨x1_0, e1_0, rfl, m1_0⟩ := Rx.dv_cons m1
  obtain ⟨x1_1, e1_1, rfl, m1_1⟩ := Rx.dv_cons m1_0
  obtain ⟨x1_2, e1_2, rfl, m1_2⟩ := Rx.dv_cons m1_1
  obtain ⟨x1_3, e1_3, rfl, m1_3⟩ := Rx.dv_cons m1_2
  obtain ⟨x1_4, e1_4, rfl, m1_4⟩ := Rx.dv_cons m1_3
  obtain ⟨x1_5, e1_5, rfl, m1_5⟩ := Rx.dv_cons m1_4
  obtain rfl := Rx.dv_nil m1_5
  obtain ⟨c2, rfl, _⟩ := okWide_struct Try.underlying32 (hval 2 32 v2 rfl rfl)
  have k2 := h2
  obtain ⟨fu2, hf2⟩ := h2
  obtain ⟨e2, m2, l2, w2⟩ := Rx.opnRosterExact_32.2 enc W 0 _ true fu2 _ _ hf2
  obtain ⟨x2_0, e2_0, rfl, m2_0⟩ := Rx.dv_cons m2
  obtain ⟨x2_1, e2_1, rfl, m2_1⟩ := Rx.dv_cons m2_0
  obtain ⟨x2_2, e2_2, rfl, m2_2⟩ := Rx.dv_cons m2_1
  obtain ⟨x2_3, e2_3, rfl, m2_3⟩ := Rx.dv_cons m2_2
  obtain rfl := Rx.dv_nil m2_3
  obtain ⟨c3, rfl, _⟩ := okWide_struct Try.underlying34 (hval 3 34 v3 rfl rfl)
  have k3 := h3
  obtain ⟨fu3, hf3⟩ := h3
  obtain ⟨e3, m3, l3, w3⟩ := Rx.opnRosterExact_34.2 enc W 0 _ true fu3 _ _ hf3
  obtain ⟨x3_0, e3_0, rfl, m3_0⟩ := Rx.dv_cons m3
  obtain ⟨x3_1, e3_1, rfl, m3_1⟩ := Rx.dv_cons m3_0
  obtain ⟨x3_2, e3_2, rfl, m3_2⟩ := Rx.dv_cons m3_1
  obtain rfl := Rx.dv_nil m3_2
  obtain ⟨c4, rfl, _⟩ := okWide_struct Try.underlying36 (hval 4 36 v4 rfl rfl)
  have k4 := h4
  obtain ⟨fu4, hf4⟩ := h4
  obtain ⟨e4, m4, l4, w4⟩ := Rx.opnRosterExact_36.2 enc W 0 _ true fu4 _ _ hf4
  obtain ⟨x4_0, e4_0, rfl, m4_0⟩ := Rx.dv_cons m4
  obtain ⟨x4_1, e4_1, rfl, m4_1⟩ := Rx.dv_cons m4_0
  obtain rfl := Rx.dv_nil m4_1
  obtain ⟨z5, rfl⟩ := okWide_int Try.underlying3 (hval 5 3 v5 rfl rfl)
  have k5 := h5
  obtain ⟨fu5, hf5⟩ := h5
  obtain ⟨e5, m5, l5, w5⟩ := Rx.opnRosterExact_3.2 enc W 0 _ true fu5 _ _ hf5
  obtain ⟨x5_0, e5_0, rfl, m5_0⟩ := Rx.dv_cons m5
  obtain rfl := Rx.dv_nil m5_0
  obtain ⟨z6, rfl⟩ := okWide_int Try.underlying3 (hval 6 3 v6 rfl rfl)
  have k6 := h6
  obtain ⟨fu6, hf6⟩ := h6
  obtain ⟨e6, m6, l6, w6⟩ := Rx.opnRosterExact_3.2 enc W 0 _ true fu6 _ _ hf6
  obtain ⟨x6_0, e6_0, rfl, m6_0⟩ := Rx.dv_cons m6
  obtain rfl := Rx.dv_nil m6_0
  clear hval0
  simp only [List.append_nil] at hW'
  have hlt : ∀ y ∈ p0 ++ (p1 ++ (p2 ++ (p3 ++ (p4 ++ (p5 ++ (p6)))))), y.block < W.heap.size := fun y hy => hW'.lt y (by simpa using hy)
  have g0 : ∀ W' : World, Below W.heap.size W W' → DataW.Trod enc Try.prog W' 0 (fun b => decide (b < W.heap.size)) true 22 _ d0 p0 :=
    fun W' hn => Below.trod RosterExact_laid (by kernel_rfl) (of_decide_eq_true (by kernel_rfl)) k0 hn (fun y hy => hlt y (by simp [hy]))
  have g1 : ∀ W' : World, Below W.heap.size W W' → DataW.Trod enc Try.prog W' 0 (fun b => decide (b < W.heap.size)) true 27 _ d1 p1 :=
    fun W' hn => Below.trod RosterExact_laid (by kernel_rfl) (of_decide_eq_true (by kernel_rfl)) k1 hn (fun y hy => hlt y (by simp [hy]))
  have g2 : ∀ W' : World, Below W.heap.size W W' → DataW.Trod enc Try.prog W' 0 (fun b => decide (b < W.heap.size)) true 32 _ d2 p2 :=
    fun W' hn => Below.trod RosterExact_laid (by kernel_rfl) (of_decide_eq_true (by kernel_rfl)) k2 hn (fun y hy => hlt y (by simp [hy]))
  have g3 : ∀ W' : World, Below W.heap.size W W' → DataW.Trod enc Try.prog W' 0 (fun b => decide (b < W.heap.size)) true 34 _ d3 p3 :=
    fun W' hn => Below.trod RosterExact_laid (by kernel_rfl) (of_decide_eq_true (by kernel_rfl)) k3 hn (fun y hy => hlt y (by simp [hy]))
  have g4 : ∀ W' : World, Below W.heap.size W W' → DataW.Trod enc Try.prog W' 0 (fun b => decide (b < W.heap.size)) true 36 _ d4 p4 :=
    fun W' hn => Below.trod RosterExact_laid (by kernel_rfl) (of_decide_eq_true (by kernel_rfl)) k4 hn (fun y hy => hlt y (by simp [hy]))
  have g5 : ∀ W' : World, Below W.heap.size W W' → DataW.Trod enc Try.prog W' 0 (fun b => decide (b < W.heap.size)) true 3 _ d5 p5 :=
    fun W' hn => Below.trod RosterExact_laid (by kernel_rfl) (of_decide_eq_true (by kernel_rfl)) k5 hn (fun y hy => hlt y (by simp [hy]))
  have g6 : ∀ W' : World, Below W.heap.size W W' → DataW.Trod enc Try.prog W' 0 (fun b => decide (b < W.heap.size)) true 3 _ d6 p6 :=
    fun W' hn => Below.trod RosterExact_laid (by kernel_rfl) (of_decide_eq_true (by kernel_rfl)) k6 hn (fun y hy => hlt y (by simp [hy]))
  refine (Rx.law_run Rx.c3_ok (h := (x0_0, x1_0, x1_1, x1_2, x1_3, x1_4, x1_5, x2_0, x2_1, x2_2, x2_3, x3_0, x3_1, x3_2, x4_0, x4_1, x5_0, x6_0)) (r := true) (Rx.law_RosterExact _ _ _ _ _ _ _ (w1 ⟨.sl 6, x1_3⟩ (List.mem_of_getElem? (i := 3) rfl))) (w := W) (vs := [.slice sa0 sl0 sc0, .agg c1, .agg c2, .agg c3, .agg c4, .int .i64 z5, .int .i64 z6]) (ac := [.one (.v (.sl 0) x0_0 [0] 1100), .agg [.v (.int .i64) x1_0 [] 1101, .v (.sl 4) x1_1 [0] 1102, .v (.sl 5) x1_2 [0] 1103, .v (.sl 6) x1_3 [0] 1104, .v (.int .i64) x1_4 [] 1105, .v (.int .i64) x1_5 [] 1106], .agg [.v (.sl 1) x2_0 [0] 1107, .v (.sl 8) x2_1 [0] 1108, .v (.sl 0) x2_2 [0] 1109, .v (.sl 9) x2_3 [0] 1110], .agg [.v (.int .i64) x3_0 [] 1111, .v (.int .i64) x3_1 [] 1112, .v (.int .i64) x3_2 [] 1113], .agg [.v (.int .i64) x4_0 [] 1114, .v (.int .i64) x4_1 [] 1115], .one (.v (.int .i64) x5_0 [] 1116), .one (.v (.int .i64) x6_0 [] 1117)]) rfl rfl ⟨Rx.vr_rd (ds := Rx.ofHH Rx.T Rx.c3.ins (x0_0, x1_0, x1_1, x1_2, x1_3, x1_4, x1_5, x2_0, x2_1, x2_2, x2_3, x3_0, x3_1, x3_2, x4_0, x4_1, x5_0, x6_0)) (i := 0) (Nat.le_of_ble_eq_true rfl) rfl l0 rfl, Rx.vr_agg (ds := Rx.ofHH Rx.T Rx.c3.ins (x0_0, x1_0, x1_1, x1_2, x1_3, x1_4, x1_5, x2_0, x2_1, x2_2, x2_3, x3_0, x3_1, x3_2, x4_0, x4_1, x5_0, x6_0)) (i := 1) (m := 6) (Nat.le_of_ble_eq_true rfl) rfl l1 rfl, Rx.vr_agg (ds := Rx.ofHH Rx.T Rx.c3.ins (x0_0, x1_0, x1_1, x1_2, x1_3, x1_4, x1_5, x2_0, x2_1, x2_2, x2_3, x3_0, x3_1, x3_2, x4_0, x4_1, x5_0, x6_0)) (i := 7) (m := 4) (Nat.le_of_ble_eq_true rfl) rfl l2 rfl, Rx.vr_agg (ds := Rx.ofHH Rx.T Rx.c3.ins (x0_0, x1_0, x1_1, x1_2, x1_3, x1_4, x1_5, x2_0, x2_1, x2_2, x2_3, x3_0, x3_1, x3_2, x4_0, x4_1, x5_0, x6_0)) (i := 11) (m := 3) (Nat.le_of_ble_eq_true rfl) rfl l3 rfl, Rx.vr_agg (ds := Rx.ofHH Rx.T Rx.c3.ins (x0_0, x1_0, x1_1, x1_2, x1_3, x1_4, x1_5, x2_0, x2_1, x2_2, x2_3, x3_0, x3_1, x3_2, x4_0, x4_1, x5_0, x6_0)) (i := 14) (m := 2) (Nat.le_of_ble_eq_true rfl) rfl l4 rfl, Rx.vr_rd (ds := Rx.ofHH Rx.T Rx.c3.ins (x0_0, x1_0, x1_1, x1_2, x1_3, x1_4, x1_5, x2_0, x2_1, x2_2, x2_3, x3_0, x3_1, x3_2, x4_0, x4_1, x5_0, x6_0)) (i := 16) (Nat.le_of_ble_eq_true rfl) rfl l5 rfl, Rx.vr_rd (ds := Rx.ofHH Rx.T Rx.c3.ins (x0_0, x1_0, x1_1, x1_2, x1_3, x1_4, x1_5, x2_0, x2_1, x2_2, x2_3, x3_0, x3_1, x3_2, x4_0, x4_1, x5_0, x6_0)) (i := 17) (Nat.le_of_ble_eq_true rfl) rfl l6 rfl, trivial⟩).mono fun e W' he => ?_
  obtain ⟨v, rfl, ⟨U', γ', rs, hrs, hv⟩, hn⟩ := he
  obtain rfl := Option.some.inj hrs
  obtain ⟨rfl, _⟩ := hv
  exact ⟨_, rfl, _, _, _, [], _, [], hW', trodAll_mk1 (shut_bool Try.underlying4 true), trodAll_cons_mk (g0 _ hn) (trodAll_cons_mk (g1 _ hn) (trodAll_cons_mk (g2 _ hn) (trodAll_cons_mk (g3 _ hn) (trodAll_cons_mk (g4 _ hn) (trodAll_cons_mk (g5 _ hn) (trodAll_cons_mk (g6 _ hn) (rfl))))))), rfl, hn.frame _, fun h => by cases h⟩

theorem RosterExact_holds : Rows.RosterExactSaid :=
  OpenClaim.holds_of_wide 3 Try.f3 rfl rfl rfl rfl rfl rfl rfl ⟨rfl, rfl, rfl, rfl, rfl⟩ rfl rfl rfl rfl rfl (by kernel_rfl) Try.func3 (by kernel_rfl)
    (of_decide_eq_true (by kernel_rfl)) (by unfold Func.isWrapper; first | (rw [if_pos (by decide +kernel)]; kernel_rfl) | (rw [if_neg (by decide +kernel)]; exact ⟨rfl, rfl⟩))
    (fun os started H enc _ => RosterExact_lifted os started H enc)

end Go.Proofs.Ytcekgnnekooohaa
