/- AlarmLimits: the given function answers true, whatever the numbers are that it is given, nil too; its argument reads as it did. No condition. -/
import Derived.Test.YtdfokgnmemlmgaaRows
import Derived.Test.YtdfokgnmemlmgaaRp
import Derived.Test.YtdfokgnmemlmgaaLawAlarmLimits
import Derived.ProofKit
set_option linter.unusedVariables false
set_option linter.unusedSimpArgs false
namespace Go.Proofs.Ytdfokgnmemlmgaa
open Go Go.ChangeShapes Go.WideShapes Go.ChangeAt Go.RowKit Dp

theorem AlarmLimits_own : ownKnob Try.prog.godebug = none := by kernel_rfl
theorem AlarmLimits_laid : laidOutB Try.prog = true := by kernel_rfl

set_option maxHeartbeats 800000 in
set_option maxRecDepth 100000 in
theorem AlarmLimits_lifted (os : Os) (started : os.Started) (H : Type) (enc : TypeId × Value → H) :
    ReturnsInHanded {} Try.checked os 4 .any (Rows.alarmLimitsSpec.pre6 enc Try.prog Try.f4 Rows.alarmLimitsRow.domain false) (Rows.alarmLimitsSpec.post enc Try.prog Try.f4 false true false false) := by
  refine returnsInHanded_of_change (C := Try.checked) AlarmLimits_own started (by kernel_rfl) Try.func4
    (ChangeSpec.witness6 (enc := enc) (C := Try.checked) false ⟨#[], #[.int .u8 0], []⟩ 8 (by kernel_rfl) (by kernel_rfl) (by kernel_rfl) (by kernel_rfl)) ?_
  intro W base args ds gs before hval0 hW _ _
  have hval : ∀ (j : Nat) t v, Try.f4.params[j]? = some t → args[j]? = some v → Value.okWide Try.prog W .any base t v := hval0
  have hW' := hW
  obtain ⟨p, q, hA0, hV, rfl, _, _⟩ := hW
  have hA : DataW.TrodAll enc Try.prog W 0 (fun _ => true) true Try.f4.params.toList args.toList ds p := hA0
  rw [Try.params4] at hA hval
  obtain ⟨v1, d1, rfl, rfl, h1⟩ := trodAll_one hA
  obtain ⟨n1, rfl, rfl, rfl, hw1⟩ := open_int Try.underlying5 (hval 0 5 v1 rfl rfl) h1
  have hw1x := hw1
  simp only [Lit.wf, Bool.and_eq_true, decide_eq_true_eq] at hw1
  obtain ⟨rfl, rfl⟩ := trodVars_none hV
  simp only [List.append_nil] at hW'
  refine (Rx.law_run Rx.c4_ok (h := n1) (r := true) (Rx.law_AlarmLimits n1 hw1.1 (Int.lt_of_le_of_lt hw1.2 (by decide))) (w := W) (vs := [.int .u8 n1]) (ac := [.one (.v (.int .u8) n1 [] 1100)]) rfl rfl ⟨Rx.vr_int (ds := Rx.ofHH Rx.T Rx.c4.ins n1) (i := 0) (Nat.le_of_ble_eq_true rfl) rfl, trivial⟩).mono fun e W' he => ?_
  obtain ⟨v, rfl, ⟨U', γ', rs, hrs, hv⟩, hn⟩ := he
  obtain rfl := Option.some.inj hrs
  obtain ⟨rfl, _⟩ := hv
  exact ⟨_, rfl, _, _, _, [], _, [], hW', trodAll_mk1 (shut_bool Try.underlying4 true), trodAll_mk1 (shut_int Try.underlying5 hw1x), rfl, hn.frame _, fun h => by cases h⟩

theorem AlarmLimits_holds : Rows.AlarmLimitsSaid :=
  OpenClaim.holds_of_wide 4 Try.f4 rfl rfl rfl rfl rfl rfl rfl ⟨rfl, rfl, rfl, rfl, rfl⟩ rfl rfl rfl rfl rfl (by kernel_rfl) Try.func4 (by kernel_rfl)
    (of_decide_eq_true (by kernel_rfl)) (by unfold Func.isWrapper; first | (rw [if_pos (by decide +kernel)]; kernel_rfl) | (rw [if_neg (by decide +kernel)]; exact ⟨rfl, rfl⟩))
    (fun os started H enc _ => AlarmLimits_lifted os started H enc)

end Go.Proofs.Ytdfokgnmemlmgaa
