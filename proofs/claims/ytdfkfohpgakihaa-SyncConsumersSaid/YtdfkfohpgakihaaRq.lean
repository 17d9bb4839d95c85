/- From a contract of a given function, and what its plain form gives, to the call from the row. Nothing here names a program. -/
import Derived.Test.YtdfkfohpgakihaaRp
import Derived.Test.YtdfkfohpgakihaaDz
set_option linter.unusedVariables false
set_option linter.unusedSimpArgs false
set_option linter.unusedSectionVars false
namespace Go.Proofs.Ytdfkfohpgakihaa
open Go Go.RowKit Dp

namespace Rx

section
variable {D : Nat → Type} [∀ n, Rep (D n)]
variable {P : Program} {T : Tab D}
/-- ghosts at the row: all memory is only read; the names of the arguments' data -/
def rowV (ds : List (DV D)) : Nat → DV D := nms (fun _ => ⟨.bool, false⟩) 1100 ds
def rowG (ds : List (DV D)) : Gh D := ⟨fun _ => 0, fun _ => .pointer none, rowV ds⟩
theorem rowG_named {ds : List (DV D)} (hl : ds.length ≤ 800) {i : Nat} {d : DV D} (h : ds[i]? = some d) : named U0 (rowG ds) (1100 + i) d := by
  have hlt := (List.getElem?_eq_some_iff.1 h).1
  refine .inr ⟨show 1100 + i < 2000 by omega, ?_⟩
  exact nms_at (f := fun _ => ⟨.bool, false⟩) (g := 1100) h
theorem rowG_In {ds : List (DV D)} {K : List Nat} (h : memN K 0 = true) (b : Nat) : In (rowG ds).o K b := memN_iff.1 h
theorem law_run {c : Con D} (hc : ConOk P T c) {h : HH D c.ins} {r : HH D c.outs} (hf : c.fn h = some r) {ac : List (AC D)} {w : World} {vs : List Value}
    (ha : inCs T (ofHH T c.ins h) some id 1100 c.args = some ac) (ho : c.ob = []) (hv : VRCs U0 (rowG (ofHH T c.ins h)) w ac vs) :
    Calls P c.f vs.toArray w (Ret fun v w' => (∃ U' γ' rs, inCs T (ofHH T c.outs r) some id 3000 c.res = some rs ∧ VRR U' γ' w' rs v) ∧ Below w.heap.size w w') := by
  have hob : inOs T (ofHH T c.ins h) some id 1100 c.ob = some [] := by rw [ho]; rfl
  refine (hc.run h r hf ac [] ha hob (rowG (ofHH T c.ins h)) w vs hv ⟨fun i x hx => by simp [lookO, lookN] at hx, fun b _ => show (0 : Nat) < 2000 by omega, fun x hx => hx⟩).mono ?_
  rintro e w' ⟨v, rfl, U', γ', rs, obs', h1, h2, h3, h4, h5, h6⟩
  exact ⟨v, rfl, ⟨U', γ', rs, h1, h3⟩, ⟨h6.os, h6.tape, h6.output, h6.size, fun k hk => (h6.ro k hk (.inl rfl)).2⟩⟩
theorem vr_sl {ds : List (DV D)} {w : World} {v : Value} {n i : Nat} {xs : List (D n)} (hl : ds.length ≤ 800) (hd : ds[i]? = some ⟨.sl n, xs⟩) (h : Rv (fun _ => True) w v xs) : VRC U0 (rowG ds) w (.one (.v (.sl n) xs [0] (1100 + i))) v :=
  ⟨h.mono fun b _ _ => ⟨List.mem_singleton.2 rfl, rfl⟩, rowG_named hl hd, fun x hx => by rw [List.mem_singleton.1 hx]; omega⟩
theorem vr_int {ds : List (DV D)} {w : World} {k : IntKind} {i : Nat} {n : Int} (hl : ds.length ≤ 800) (hd : ds[i]? = some ⟨.int k, n⟩) : VRC U0 (rowG ds) w (.one (.v (.int k) n [] (1100 + i))) (.int k n) :=
  ⟨rfl, rowG_named hl hd, fun x hx => by cases hx⟩
end
end Rx
end Go.Proofs.Ytdfkfohpgakihaa
