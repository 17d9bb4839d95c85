/- slices.Clone: what its test of nil answers. -/
import Derived.Test.YtdfkfohpgakihaaDg
set_option linter.unusedVariables false
set_option linter.unusedSimpArgs false
namespace Go.Proofs.Ytdfkfohpgakihaa
open Go Go.RowKit
namespace Dp

section
variable {P : Program} {Q : Exit → Act → World → Prop} {L : List (Nat × Value)} {w : World}
variable {d : Option Nat} {ty : TypeId} {pos : String} {af : Array Edge} {g : Option (Nat × Bool)} {t e t2 : TypeId}
theorem OW.isNil {u : Operand} {a : Option Addr} {n c : Nat} (hu : P.underlying t = some (.slice e)) (hx : ev L u = some (.slice a n c)) :
    OW P Q L ⟨d, .binOp .eql t u (.const (.slice none 0 0)) t2, ty, pos, af, g⟩ w (fun v' w' => v' = .bool a.isNone ∧ w' = w) := by
  refine OW.run fun b hb => ⟨_, w, ?_, rfl, rfl⟩
  have h1 := hb _ _ hx
  have h2 : b.eval (.const (.slice none 0 0)) = .slice none 0 0 := rfl
  have h3 : (binOp .eql t (.slice a n c) (.slice none 0 0)).run P w = .ok (.bool a.isNone) w := by
    have h4 : ∀ d : Nat, (Op.equalIn (d + 1) t (.slice a n c) (.slice none 0 0)).run P w = .ok a.isNone w := fun d => by
      cases a <;> simp [Op.equalIn, run_underlying hu]
    simp only [binOp]
    simp [Op.equal, Op.maxDepth, h4 9999]
  simp [execOp, h1, h2, eqGuard, h3]
theorem rvSlice {α : Type} [Rep α] {S : Nat → Prop} {v : Value} {xs : List α} (h : Rv S w v xs) : ∃ a n c, v = .slice a n c ∧ (a = none → xs = []) := by
  obtain ⟨p, cap, h1, _, _, h2⟩ := rv_list h
  refine ⟨p, _, cap, h1, fun hp => ?_⟩
  rcases h2 with h2 | ⟨a, css, h2, _⟩
  · exact h2
  · rw [hp] at h2; cases h2
theorem app_nil {α : Type} {r : List α} (h : app ([] : List α) [] = some r) : r = [] := by
  have h2 : app ([] : List α) [] = some [] := rfl
  rw [h2] at h
  exact (Option.some.inj h).symm
end
end Dp
end Go.Proofs.Ytdfkfohpgakihaa
