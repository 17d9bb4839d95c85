/- From the memory that a row's argument reads to a reading of the engine. Nothing here names a program. -/
import Derived.Test.YtdfkfohpgakihaaDy
import Derived.ProofKit
import Derived.Carry
set_option linter.unusedVariables false
set_option linter.unusedSimpArgs false
namespace Go.Proofs.Ytdfkfohpgakihaa
open Go Go.RowKit

namespace Dp

theorem all2_ints {w : World} {S : Nat → Prop} : ∀ xs : List Int, All2 (Rep.rd S w) (xs.map fun x => [Value.int .i64 x]) xs
  | [] => trivial
  | _ :: xs => ⟨rfl, all2_ints xs⟩
theorem rv_ints {w : World} {a : Addr} {len cap : Nat} {zs : List Int} (hl : len ≤ cap) (hm : cap ≤ maxLen) (hz : len ≤ zs.length) (hc : ∀ i, i < zs.length → w.cell? (a.add i) = some (.int .i64 (zs.getD i 0))) :
    Rv (fun _ => True) w (.slice (some a) len cap) (zs.take len) := by
  have e : (zs.take len).length = len := by simp; omega
  refine ⟨[.slice (some a) len cap], rfl, some a, cap, by rw [e], by rw [e]; exact hl, hm, .inr ⟨a, (zs.take len).map fun x => [Value.int .i64 x], rfl, trivial, all2_ints _, fun j u hj => ?_⟩⟩
  have hf : ((zs.take len).map fun x => [Value.int .i64 x]).flatten = (zs.take len).map (Value.int .i64) := by
    induction (zs.take len) with
    | nil => rfl
    | cons x xs ih => simp [ih]
  rw [hf, List.getElem?_map] at hj
  cases hx : (zs.take len)[j]? with
  | none => simp [hx] at hj
  | some x =>
    rw [hx] at hj
    have hjl : j < (zs.take len).length := (List.getElem?_eq_some_iff.1 hx).1
    rw [e] at hjl
    rw [hc j (by omega)]
    rw [List.getElem?_take_of_lt hjl] at hx
    simp only [Option.map_some, Option.some.injEq] at hj
    rw [← hj, List.getD_eq_getElem?_getD, hx]
    rfl
end Dp
end Go.Proofs.Ytdfkfohpgakihaa
