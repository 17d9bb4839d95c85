/- DisconnectExact: the given function answers true, whatever it is given; its arguments read as they did. No condition. -/
import Derived.Test.YtnpnaopnhgkapaaRows
import Derived.Test.YtnpnaopnhgkapaaRr
import Derived.Test.YtnpnaopnhgkapaaLawDisconnectExact
import Derived.ProofKit
import Derived.OpenShut
set_option linter.unusedVariables false
set_option linter.unusedSimpArgs false
namespace Go.Proofs.Ytnpnaopnhgkapaa
open Go Go.ChangeShapes Go.WideShapes Go.ChangeAt Go.RowKit Dp
namespace Rx
theorem opnDisconnectExact_3 : Opn D Try.prog 3 [.int .i64] := opn_int Try.underlying3 (of_decide_eq_true (by kernel_rfl))
theorem opnDisconnectExact_22 : Opn D Try.prog 22 [.sl 0] := opn_slice repOk Try.underlying22 (of_decide_eq_true (by kernel_rfl)) opnDisconnectExact_3
theorem opnDisconnectExact_9 : Opn D Try.prog 9 [.str] := opn_str Try.underlying9 (of_decide_eq_true (by kernel_rfl))
theorem opnDisconnectExact_34 : Opn D Try.prog 34 [.str, .int .i64, .int .i64, .sl 0] := opn_struct Try.underlying34 (of_decide_eq_true (by kernel_rfl)) ⟨[.str], [.int .i64, .int .i64, .sl 0], rfl, rfl, opnDisconnectExact_9, ⟨[.int .i64], [.int .i64, .sl 0], rfl, rfl, opnDisconnectExact_3, ⟨[.int .i64], [.sl 0], rfl, rfl, opnDisconnectExact_3, ⟨[.sl 0], [], rfl, rfl, opnDisconnectExact_22, rfl⟩⟩⟩⟩
theorem opnDisconnectExact_26 : Opn D Try.prog 26 [.sl 4] := opn_slice repOk Try.underlying26 (of_decide_eq_true (by kernel_rfl)) opnDisconnectExact_34
theorem opnDisconnectExact_28 : Opn D Try.prog 28 [.sl 4] := opn_struct Try.underlying28 (of_decide_eq_true (by kernel_rfl)) ⟨[.sl 4], [], rfl, rfl, opnDisconnectExact_26, rfl⟩
theorem opnDisconnectExact_62 : Opn D Try.prog 62 [.int .i64, .int .i64, .int .i64] := opn_struct Try.underlying62 (of_decide_eq_true (by kernel_rfl)) ⟨[.int .i64], [.int .i64, .int .i64], rfl, rfl, opnDisconnectExact_3, ⟨[.int .i64], [.int .i64], rfl, rfl, opnDisconnectExact_3, ⟨[.int .i64], [], rfl, rfl, opnDisconnectExact_3, rfl⟩⟩⟩
theorem opnDisconnectExact_37 : Opn D Try.prog 37 [.sl 6] := opn_slice repOk Try.underlying37 (of_decide_eq_true (by kernel_rfl)) opnDisconnectExact_62
theorem opnDisconnectExact_39 : Opn D Try.prog 39 [.int .i64, .sl 6] := opn_struct Try.underlying39 (of_decide_eq_true (by kernel_rfl)) ⟨[.int .i64], [.sl 6], rfl, rfl, opnDisconnectExact_3, ⟨[.sl 6], [], rfl, rfl, opnDisconnectExact_37, rfl⟩⟩
end Rx

theorem DisconnectExact_own : ownKnob Try.prog.godebug = none := by kernel_rfl
theorem DisconnectExact_laid : laidOutB Try.prog = true := by kernel_rfl

set_option maxHeartbeats 1600000 in
set_option maxRecDepth 100000 in
theorem DisconnectExact_lifted (os : Os) (started : os.Started) (H : Type) (enc : TypeId × Value → H) :
    ReturnsInHanded {} Try.checked os 4 .any (Rows.disconnectExactSpec.pre6 enc Try.prog Try.f4 Rows.disconnectExactRow.domain false) (Rows.disconnectExactSpec.post enc Try.prog Try.f4 false true false false) := by
  refine returnsInHanded_of_change (C := Try.checked) DisconnectExact_own started (by kernel_rfl) Try.func4
    (ChangeSpec.witness6 (enc := enc) (C := Try.checked) false ⟨#[], #[.slice none 0 0, .agg #[.slice none 0 0], .agg #[.int .i64 0, .slice none 0 0], .slice none 0 0, .int .i64 0], []⟩ 8 (by kernel_rfl) (by kernel_rfl) (by kernel_rfl) (by kernel_rfl)) ?_
  intro W base args ds gs before hval0 hW _ _
  have hval : ∀ (j : Nat) t v, Try.f4.params[j]? = some t → args[j]? = some v → Value.okWide Try.prog W .any base t v := hval0
  have hW' := hW
  obtain ⟨p, q, hA0, hV, rfl, _, _⟩ := hW
  have hA : DataW.TrodAll enc Try.prog W 0 (fun _ => true) true Try.f4.params.toList args.toList ds p := hA0
  rw [Try.params4] at hA hval
  obtain ⟨v0, vs0, d0, ds0, p0, q0, ea, rfl, rfl, h0, hA⟩ := trodAll_cons hA
  obtain ⟨v1, vs1, d1, ds1, p1, q1, rfl, rfl, rfl, h1, hA⟩ := trodAll_cons hA
  obtain ⟨v2, vs2, d2, ds2, p2, q2, rfl, rfl, rfl, h2, hA⟩ := trodAll_cons hA
  obtain ⟨v3, vs3, d3, ds3, p3, q3, rfl, rfl, rfl, h3, hA⟩ := trodAll_cons hA
  obtain ⟨v4, vs4, d4, ds4, p4, q4, rfl, rfl, rfl, h4, hA⟩ := trodAll_cons hA
  obtain ⟨ev, rfl, rfl⟩ := trodAll_nil hA
  subst ev
  have ea : args = #[v0, v1, v2, v3, v4] := by cases args; simp_all
  subst ea
  obtain ⟨rfl, rfl⟩ := trodVars_none hV
  obtain ⟨sa0, sl0, sc0, rfl⟩ := okWide_slice Try.underlying22 (hval 0 22 v0 rfl rfl)
  have k0 := h0
  obtain ⟨fu0, hf0⟩ := h0
  obtain ⟨e0, m0, l0, w0⟩ := Rx.opnDisconnectExact_22.2 enc W 0 _ true fu0 _ _ hf0
  obtain ⟨x0_0, e0_0, rfl, m0_0⟩ := Rx.dv_cons m0
  obtain rfl := Rx.dv_nil m0_0
  obtain ⟨c1, rfl, _⟩ := okWide_struct Try.underlying28 (hval 1 28 v1 rfl rfl)
  have k1 := h1
  obtain ⟨fu1, hf1⟩ := h1
  obtain ⟨e1, m1, l1, w1⟩ := Rx.opnDisconnectExact_28.2 enc W 0 _ true fu1 _ _ hf1
  obtain ⟨x1_0, e1_0, rfl, m1_0⟩ := Rx.dv_cons m1
  obtain rfl := Rx.dv_nil m1_0
  obtain ⟨c2, rfl, _⟩ := okWide_struct Try.underlying39 (hval 2 39 v2 rfl rfl)
  have k2 := h2
  obtain ⟨fu2, hf2⟩ := h2
  obtain ⟨e2, m2, l2, w2⟩ := Rx.opnDisconnectExact_39.2 enc W 0 _ true fu2 _ _ hf2
  obtain ⟨x2_0, e2_0, rfl, m2_0⟩ := Rx.dv_cons m2
  obtain ⟨x2_1, e2_1, rfl, m2_1⟩ := Rx.dv_cons m2_0
  obtain rfl := Rx.dv_nil m2_1
  obtain ⟨sa3, sl3, sc3, rfl⟩ := okWide_slice Try.underlying22 (hval 3 22 v3 rfl rfl)
  have k3 := h3
  obtain ⟨fu3, hf3⟩ := h3
  obtain ⟨e3, m3, l3, w3⟩ := Rx.opnDisconnectExact_22.2 enc W 0 _ true fu3 _ _ hf3
  obtain ⟨x3_0, e3_0, rfl, m3_0⟩ := Rx.dv_cons m3
  obtain rfl := Rx.dv_nil m3_0
  obtain ⟨z4, rfl⟩ := okWide_int Try.underlying3 (hval 4 3 v4 rfl rfl)
  have k4 := h4
  obtain ⟨fu4, hf4⟩ := h4
  obtain ⟨e4, m4, l4, w4⟩ := Rx.opnDisconnectExact_3.2 enc W 0 _ true fu4 _ _ hf4
  obtain ⟨x4_0, e4_0, rfl, m4_0⟩ := Rx.dv_cons m4
  obtain rfl := Rx.dv_nil m4_0
  clear hval0
  simp only [List.append_nil] at hW'
  have hlt : ∀ y ∈ p0 ++ (p1 ++ (p2 ++ (p3 ++ (p4)))), y.block < W.heap.size := fun y hy => hW'.lt y (by simpa using hy)
  have g0 : ∀ W' : World, Below W.heap.size W W' → DataW.Trod enc Try.prog W' 0 (fun b => decide (b < W.heap.size)) true 22 _ d0 p0 :=
    fun W' hn => Below.trod DisconnectExact_laid (by kernel_rfl) (of_decide_eq_true (by kernel_rfl)) k0 hn (fun y hy => hlt y (by simp [hy]))
  have g1 : ∀ W' : World, Below W.heap.size W W' → DataW.Trod enc Try.prog W' 0 (fun b => decide (b < W.heap.size)) true 28 _ d1 p1 :=
    fun W' hn => Below.trod DisconnectExact_laid (by kernel_rfl) (of_decide_eq_true (by kernel_rfl)) k1 hn (fun y hy => hlt y (by simp [hy]))
  have g2 : ∀ W' : World, Below W.heap.size W W' → DataW.Trod enc Try.prog W' 0 (fun b => decide (b < W.heap.size)) true 39 _ d2 p2 :=
    fun W' hn => Below.trod DisconnectExact_laid (by kernel_rfl) (of_decide_eq_true (by kernel_rfl)) k2 hn (fun y hy => hlt y (by simp [hy]))
  have g3 : ∀ W' : World, Below W.heap.size W W' → DataW.Trod enc Try.prog W' 0 (fun b => decide (b < W.heap.size)) true 22 _ d3 p3 :=
    fun W' hn => Below.trod DisconnectExact_laid (by kernel_rfl) (of_decide_eq_true (by kernel_rfl)) k3 hn (fun y hy => hlt y (by simp [hy]))
  have g4 : ∀ W' : World, Below W.heap.size W W' → DataW.Trod enc Try.prog W' 0 (fun b => decide (b < W.heap.size)) true 3 _ d4 p4 :=
    fun W' hn => Below.trod DisconnectExact_laid (by kernel_rfl) (of_decide_eq_true (by kernel_rfl)) k4 hn (fun y hy => hlt y (by simp [hy]))
  refine (Rx.law_run Rx.c4_ok (h := (x0_0, x1_0, x2_0, x2_1, x3_0, x4_0)) (r := true) (Rx.law_DisconnectExact _ _ _ _ _) (w := W) (vs := [.slice sa0 sl0 sc0, .agg c1, .agg c2, .slice sa3 sl3 sc3, .int .i64 z4]) (ac := [.one (.v (.sl 0) x0_0 [0] 1100), .agg [.v (.sl 4) x1_0 [0] 1101], .agg [.v (.int .i64) x2_0 [] 1102, .v (.sl 6) x2_1 [0] 1103], .one (.v (.sl 0) x3_0 [0] 1104), .one (.v (.int .i64) x4_0 [] 1105)]) rfl rfl ⟨Rx.vr_rd (ds := Rx.ofHH Rx.T Rx.c4.ins (x0_0, x1_0, x2_0, x2_1, x3_0, x4_0)) (i := 0) (Nat.le_of_ble_eq_true rfl) rfl l0 rfl, Rx.vr_agg (ds := Rx.ofHH Rx.T Rx.c4.ins (x0_0, x1_0, x2_0, x2_1, x3_0, x4_0)) (i := 1) (m := 1) (Nat.le_of_ble_eq_true rfl) rfl l1 rfl, Rx.vr_agg (ds := Rx.ofHH Rx.T Rx.c4.ins (x0_0, x1_0, x2_0, x2_1, x3_0, x4_0)) (i := 2) (m := 2) (Nat.le_of_ble_eq_true rfl) rfl l2 rfl, Rx.vr_rd (ds := Rx.ofHH Rx.T Rx.c4.ins (x0_0, x1_0, x2_0, x2_1, x3_0, x4_0)) (i := 4) (Nat.le_of_ble_eq_true rfl) rfl l3 rfl, Rx.vr_rd (ds := Rx.ofHH Rx.T Rx.c4.ins (x0_0, x1_0, x2_0, x2_1, x3_0, x4_0)) (i := 5) (Nat.le_of_ble_eq_true rfl) rfl l4 rfl, trivial⟩).mono fun e W' he => ?_
  obtain ⟨v, rfl, ⟨U', γ', rs, hrs, hv⟩, hn⟩ := he
  obtain rfl := Option.some.inj hrs
  obtain ⟨rfl, _⟩ := hv
  exact ⟨_, rfl, _, _, _, [], _, [], hW', trodAll_mk1 (shut_bool Try.underlying4 true), trodAll_cons_mk (g0 _ hn) (trodAll_cons_mk (g1 _ hn) (trodAll_cons_mk (g2 _ hn) (trodAll_cons_mk (g3 _ hn) (trodAll_cons_mk (g4 _ hn) (rfl))))), rfl, hn.frame _, fun h => by cases h⟩

theorem DisconnectExact_holds : Rows.DisconnectExactSaid :=
  OpenClaim.holds_of_wide 4 Try.f4 rfl rfl rfl rfl rfl rfl rfl ⟨rfl, rfl, rfl, rfl, rfl⟩ rfl rfl rfl rfl rfl (by kernel_rfl) Try.func4 (by kernel_rfl)
    (of_decide_eq_true (by kernel_rfl)) (by unfold Func.isWrapper; first | (rw [if_pos (by decide +kernel)]; kernel_rfl) | (rw [if_neg (by decide +kernel)]; exact ⟨rfl, rfl⟩))
    (fun os started H enc _ => DisconnectExact_lifted os started H enc)

end Go.Proofs.Ytnpnaopnhgkapaa
