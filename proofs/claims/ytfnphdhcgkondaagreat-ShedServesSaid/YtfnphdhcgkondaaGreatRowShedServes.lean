/- ShedServes: the given function answers true, whatever the numbers are that it is given, nil too; its argument reads as it did. No condition. -/
import Derived.Test.YtfnphdhcgkondaaGreatRows
import Derived.Test.YtfnphdhcgkondaaGreatRp
import Derived.Test.YtfnphdhcgkondaaGreatLawShedServes
import Derived.ProofKit
set_option linter.unusedVariables false
set_option linter.unusedSimpArgs false
namespace Go.Proofs.YtfnphdhcgkondaaGreat
open Go Go.ChangeShapes Go.WideShapes Go.ChangeAt Go.RowKit Dp

theorem ShedServes_own : ownKnob Tryz.prog.godebug = none := by kernel_rfl
theorem ShedServes_laid : laidOutB Tryz.prog = true := by kernel_rfl
theorem ShedServes_cells : Tryz.prog.cellsOf 3 = 1 := by kernel_rfl

set_option maxHeartbeats 800000 in
set_option maxRecDepth 100000 in
theorem ShedServes_lifted (os : Os) (started : os.Started) (H : Type) (enc : TypeId × Value → H) :
    ReturnsInHanded {} Tryz.checked os 8 .any (Rows.shedServesSpec.pre6 enc Tryz.prog Tryz.f8 Rows.shedServesRow.domain false) (Rows.shedServesSpec.post enc Tryz.prog Tryz.f8 false true false false) := by
  refine returnsInHanded_of_change (C := Tryz.checked) ShedServes_own started (by kernel_rfl) Tryz.func8
    (ChangeSpec.witness6 (enc := enc) (C := Tryz.checked) false ⟨#[], #[.slice none 0 0], []⟩ 8 (by kernel_rfl) (by kernel_rfl) (by kernel_rfl) (by kernel_rfl)) ?_
  intro W base args ds gs before hval0 hW _ _
  have hval : ∀ (j : Nat) t v, Tryz.f8.params[j]? = some t → args[j]? = some v → Value.okWide Tryz.prog W .any base t v := hval0
  have hW' := hW
  obtain ⟨p, q, hA0, hV, rfl, _, _⟩ := hW
  have hA : DataW.TrodAll enc Tryz.prog W 0 (fun _ => true) true Tryz.f8.params.toList args.toList ds p := hA0
  rw [Tryz.params8] at hA hval
  obtain ⟨v0, d0, rfl, rfl, h0⟩ := trodAll_one hA
  obtain ⟨rfl, rfl⟩ := trodVars_none hV
  obtain ⟨a0, len, cap, rfl⟩ := okWide_slice Tryz.underlying22 (hval 0 22 v0 rfl rfl)
  have h0k := h0
  obtain ⟨fuel, hf⟩ := h0
  clear hA0 hval0
  simp only [List.append_nil] at hW'
  have hlt : ∀ y ∈ p, y.block < W.heap.size := fun y hy => by simpa using hW'.lt y (by simp [hy])
  have harg0 : ∀ W' : World, Below W.heap.size W W' → DataW.Trod enc Tryz.prog W' 0 (fun b => decide (b < W.heap.size)) true 22 (.slice a0 len cap) d0 p :=
    fun W' hn => Below.trod ShedServes_laid (by kernel_rfl) (of_decide_eq_true (by kernel_rfl)) h0k hn hlt
  obtain ⟨zs, hzs⟩ : ∃ zs : List Int, Rv (fun _ => True) W (.slice a0 len cap) zs := by
    rcases open_ints Tryz.underlying22 Tryz.underlying3 ShedServes_cells hf with ⟨hcs, hx⟩ | ⟨a, len', cap', zs, hcs, _, hl, hmx, hz, hx, hcell, hwz⟩
    · simp [Value.cells] at hcs
      obtain ⟨rfl, rfl, rfl⟩ := hcs
      exact ⟨[], rv_nil _ _⟩
    · simp [Value.cells] at hcs
      obtain ⟨rfl, rfl, rfl⟩ := hcs
      simp only [if_true] at hz
      exact ⟨_, rv_ints hl hmx (by omega) hcell⟩
  refine (Rx.law_run Rx.c8_ok (h := zs) (r := true) (Rx.law_ShedServes zs) (w := W) (vs := [.slice a0 len cap]) (ac := [.one (.v (.sl 0) zs [0] 1100)]) rfl rfl ⟨Rx.vr_sl (ds := Rx.ofHH Rx.T Rx.c8.ins zs) (i := 0) (Nat.le_of_ble_eq_true rfl) rfl hzs, trivial⟩).mono fun e W' he => ?_
  obtain ⟨v, rfl, ⟨U', γ', rs, hrs, hv⟩, hn⟩ := he
  obtain rfl := Option.some.inj hrs
  obtain ⟨rfl, _⟩ := hv
  exact ⟨_, rfl, _, _, _, [], _, [], hW', trodAll_mk1 (shut_bool Tryz.underlying4 true), trodAll_mk1 (harg0 _ hn), rfl, hn.frame _, fun h => by cases h⟩

theorem ShedServes_holds : Rows.ShedServesSaid :=
  OpenClaim.holds_of_wide 8 Tryz.f8 rfl rfl rfl rfl rfl rfl rfl ⟨rfl, rfl, rfl, rfl, rfl⟩ rfl rfl rfl rfl rfl (by kernel_rfl) Tryz.func8 (by kernel_rfl)
    (of_decide_eq_true (by kernel_rfl)) (by unfold Func.isWrapper; first | (rw [if_pos (by decide +kernel)]; kernel_rfl) | (rw [if_neg (by decide +kernel)]; exact ⟨rfl, rfl⟩))
    (fun os started H enc _ => ShedServes_lifted os started H enc)

end Go.Proofs.YtfnphdhcgkondaaGreat
