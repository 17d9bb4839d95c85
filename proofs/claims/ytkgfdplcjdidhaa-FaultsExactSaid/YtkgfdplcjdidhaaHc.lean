/- Contracts by hand: what is wanted for their walks and their ends. Nothing here names a program. -/
import Derived.Test.YtkgfdplcjdidhaaRp
set_option linter.unusedVariables false
set_option linter.unusedSimpArgs false
set_option linter.unusedSectionVars false
namespace Go.Proofs.Ytkgfdplcjdidhaa
open Go Go.RowKit Dp

namespace Rx

section
variable {P : Program} {n : Nat} {Q : Exit → Act → World → Prop} {L : List (Nat × Value)} {w : World} {ops : Array Oper} {rest : List Oper}
theorem CW.sr [Rd] {id : Nat} {l : List Oper} {y : Code} (h : ∀ K : Act → World → Prop, (∀ L' w', CW P n y Q L' w' → NK n K L' w') → WL P n l.toArray (Exit.then K Q) l L w) : CW P n (.seq (.region id l.toArray false) y) Q L w :=
  CW.seq fun K hK => CW.region (h K hK)
theorem WL.nx [Rd] {y : Code} {K : Act → World → Prop} {Q' : Exit → Act → World → Prop} (hK : ∀ L' w', CW P n y Q' L' w' → NK n K L' w') (h : CW P n y Q' L w) : WL P n ops (Exit.then K Q) [] L w := WL.nil (hK _ _ h)
theorem WL.p [I : Rd] {d : Nat} {op : Op} {ty : TypeId} {pos : String} {af : Array Edge} (v : Value) (h : Dp.pv L op = some v) (hd : I.okt n d = true) (k : WL P n ops Q rest ((d, v) :: L) w) : WL P n ops Q (⟨some d, op, ty, pos, af, none⟩ :: rest) L w := WL.v h hd k
variable {d : Option Nat} {ty : TypeId} {pos : String} {af : Array Edge} {g : Option (Nat × Bool)} {t e t2 : TypeId}
theorem OW.isNil [Rd] {u : Operand} {a : Option Addr} {n c : Nat} (hu : P.underlying t = some (.slice e)) (hx : ev L u = some (.slice a n c)) :
    OW P Q L ⟨d, .binOp .eql t u (.const (.slice none 0 0)) t2, ty, pos, af, g⟩ w (fun v' w' => v' = .bool a.isNone ∧ w' = w) := by
  refine OW.run fun b hb => ⟨_, w, ?_, rfl, rfl⟩
  have h1 := hb _ _ hx
  have h2 : b.eval (.const (.slice none 0 0)) = .slice none 0 0 := rfl
  have h3 : (binOp .eql t (.slice a n c) (.slice none 0 0)).run P w = .ok (.bool a.isNone) w := by
    have h4 : ∀ d : Nat, (Op.equalIn (d + 1) t (.slice a n c) (.slice none 0 0)).run P w = .ok a.isNone w := fun d => by
      cases a <;> simp [Op.equalIn, run_underlying hu]
    simp only [binOp]
    simp [Op.equal, Op.maxDepth, h4 9999]
  simp [execOp, h1, h2, eqGuard, h3]
theorem rvSlice {α : Type} [Rep α] {S : Nat → Prop} {v : Value} {xs : List α} (h : Rv S w v xs) : ∃ a n c, v = .slice a n c ∧ (a = none → xs = []) := by
  obtain ⟨p, cap, h1, _, _, h2⟩ := rv_list h
  refine ⟨p, _, cap, h1, fun hp => ?_⟩
  rcases h2 with h2 | ⟨a, css, h2, _⟩
  · exact h2
  · rw [hp] at h2; cases h2
theorem app_nil {α : Type} {r : List α} (h : app ([] : List α) [] = some r) : r = [] := by
  have h2 : app ([] : List α) [] = some [] := rfl
  rw [h2] at h
  exact (Option.some.inj h).symm
end

section
variable {D : Nat → Type} [∀ n, Rep (D n)]
variable {T : Tab D}
/-- the result is one slice of the call's own -/
def EndOwn (T : Tab D) (c : Con D) (γ : Gh D) (w : World) (r : HH D c.outs) (v : Value) (w' : World) : Prop :=
  ∃ U' γ' rs obs', inCs T (ofHH T c.outs r) some id 3000 c.res = some rs ∧ inOs T (ofHH T c.outs r) some id 3000 c.ob' = some obs' ∧
    VRR U' γ' w' rs v ∧ (∀ p x, lookO obs' p = some x → OR U' γ' w' p x) ∧ (∀ p, (p, p) ∈ stay c → γ'.g p = γ.g p) ∧ Frame0 γ w γ' w'
theorem end_own {c : Con D} {γ : Gh D} {w w' : World} {rr : HH D c.outs} {v : Value} {n e q : Nat} {K M N : List Nat} {o' : Cls} {r : List (D n)}
    (h1 : inCs T (ofHH T c.outs rr) some id 3000 c.res = some [.one (.own q)]) (h2 : inOs T (ofHH T c.outs rr) some id 3000 c.ob' = some [(q, some (.sl n e r K 3000))]) (h3 : stay c = [])
    (hM : ∀ x ∈ M, 1000 ≤ x) (hN : ∀ x ∈ N, 1000 ≤ x) (ev : Evo M N γ.o w o' w') (how : Ow e o' q K w' v r) (hK : roK K) : EndOwn T c γ w rr v w' := by
  refine ⟨fun _ => True, ⟨o', fun _ => v, fun _ => ⟨.sl n, r⟩⟩, _, _, h1, h2, ⟨trivial, rfl, how.one⟩, fun p x hx => ?_, (fun p hp => by rw [h3] at hp; cases hp), ev.os, ev.tape, ev.output, ev.size, fun b hb hc => ⟨ev.old b hb, ev.blk b hb fun hm => ?_⟩, fun b hb hc => ?_⟩
  · have hb : lookN [(q, some (AO.sl n e r K 3000))] p = some (some x) := by
      unfold lookO at hx
      split at hx
      · rename_i y hy; rw [hy]; cases hx; rfl
      · cases hx
    obtain ⟨rfl, hy⟩ := look1 hb
    cases hy
    exact ⟨how, hK, .inr ⟨trivial, rfl⟩⟩
  · have := hM _ hm
    omega
  · have hc : o' b = 0 ∨ o' b = 3 := hc
    by_cases hlt : b < w.heap.size
    · exact ⟨hlt, (ev.old b hlt).symm⟩
    · have := hN _ (ev.new b (by omega) hb)
      omega
end
end Rx
end Go.Proofs.Ytkgfdplcjdidhaa
