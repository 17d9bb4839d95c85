/- A region that draws its order: what each operation needs and leaves, whatever order is drawn. Nothing here names a program. Functions handed as values, and slices that a call turns in place. Nothing here names a program. From the memory that a row's argument reads to a reading of the engine. Nothing here names a program. -/
import Derived.Test.YtkgfdplcjdidhaaDv
import Derived.Orders
import Derived.ProofKit
import Derived.Carry
set_option linter.unusedVariables false
set_option linter.unusedSimpArgs false
namespace Go.Proofs.Ytkgfdplcjdidhaa
open Go Go.RowKit

namespace Dp

theorem OW.imp [Rd] {P : Program} {Q : Exit → Act → World → Prop} {L : List (Nat × Value)} {o : Oper} {w : World} {R R' : Value → World → Prop} (h : OW P Q L o w R) (hr : ∀ v w', R v w' → R' v w') : OW P Q L o w R' :=
  fun a K ha hK => h a K ha fun v w' h' => hK v w' (hr v w' h')
/-- a fact: from operation s on (none: from the start), till operation e (none: to the end); it looks at the values of operations 'dep' and at blocks of owners K -/
structure AFact where
  s : Option Nat
  e : Option Nat
  K : List Nat
  dep : List Nat
  G : List Value → Cls → World → Prop
/-- an operation: whose blocks it may write, the facts that it needs, the operations that are surely done ahead of it, what its slot holds; is it passed over? -/
structure AOp where
  M : List Nat
  pre : List Nat
  anc : List Nat
  vdep : List Nat
  vg : List Value → Value
  skip : Bool
section
variable (P : Program) (Q : Exit → Act → World → Prop) (inv : Cls → World → Prop) (N : List Nat) (fs : List AFact) (L0 : List (Nat × Value))

end

theorem look_append {A B : List (Nat × Value)} {t : Nat} {v : Value} (h : look (A ++ B) t = some v) : look A t = some v ∨ (look A t = none ∧ look B t = some v) := by
  induction A with
  | nil => exact .inr ⟨rfl, h⟩
  | cons p A ih =>
    obtain ⟨d, u⟩ := p
    by_cases hd : d = t
    · subst hd
      rw [List.cons_append, look_cons_eq] at h
      rw [look_cons_eq]
      exact .inl h
    · rw [List.cons_append, look_cons_ne _ _ hd] at h
      rw [look_cons_ne _ _ hd]
      exact ih h
theorem look_filter {L : List (Nat × Value)} {p : Nat → Bool} {t : Nat} {v : Value} (h : look (L.filter fun x => p x.1) t = some v) : look L t = some v ∧ p t = true := by
  induction L with
  | nil => simp [look] at h
  | cons q L ih =>
    obtain ⟨d, u⟩ := q
    by_cases hp : p d = true
    · rw [List.filter_cons_of_pos (by simpa using hp)] at h
      by_cases hd : d = t
      · subst hd
        rw [look_cons_eq] at h ⊢
        exact ⟨h, hp⟩
      · rw [look_cons_ne _ _ hd] at h ⊢
        exact ih h
    · rw [List.filter_cons_of_neg (by simpa using hp)] at h
      by_cases hd : d = t
      · subst hd
        exact (hp (ih h).2).elim
      · rw [look_cons_ne _ _ hd]
        exact ih h
section
variable {P : Program} {Q : Exit → Act → World → Prop} {inv : Cls → World → Prop} {N Mx : List Nat} {fs : List AFact} {L0 : List (Nat × Value)} {l : List Oper} {as : List AOp} {n : Nat}

theorem filter_lt {p q : Nat → Bool} (h : ∀ x, q x = true → p x = true) {i : Nat} (hp : p i = true) (hq : q i = false) : ∀ {l : List Nat}, i ∈ l → (l.filter q).length < (l.filter p).length
  | [], hi => by cases hi
  | x :: l, hi => by
    have hle : (l.filter q).length ≤ (l.filter p).length := by
      clear hi
      induction l with
      | nil => simp
      | cons y l ih =>
        by_cases hy : q y = true
        · rw [List.filter_cons_of_pos hy, List.filter_cons_of_pos (h y hy)]
          simpa using ih
        · rw [List.filter_cons_of_neg hy]
          by_cases hy' : p y = true
          · rw [List.filter_cons_of_pos hy']
            simp
            omega
          · rw [List.filter_cons_of_neg hy']
            exact ih
    by_cases hx : x = i
    · subst hx
      rw [List.filter_cons_of_neg (by simp [hq]), List.filter_cons_of_pos hp]
      simp
      omega
    · have hil : i ∈ l := by
        rcases List.mem_cons.1 hi with e | hh
        · exact (hx e.symm).elim
        · exact hh
      have ih := filter_lt h hp hq hil
      by_cases hy : q x = true
      · rw [List.filter_cons_of_pos hy, List.filter_cons_of_pos (h x hy)]
        simpa using ih
      · rw [List.filter_cons_of_neg hy]
        by_cases hy' : p x = true
        · rw [List.filter_cons_of_pos hy']
          simp
          omega
        · rw [List.filter_cons_of_neg hy']
          exact ih
end
end Dp
end Go.Proofs.Ytkgfdplcjdidhaa
namespace Go.Proofs.Ytkgfdplcjdidhaa
open Go Go.RowKit

namespace Dp

section
variable {P : Program} {α β γ : Type} [Rep α] [Rep β] [Rep γ] {W W' : World → Prop} {g : FuncId} {caps : Array Value}

end

section
variable {α : Type} [Rep α] {T : TypeId} {o o' : Cls} {k : Nat} {K M N : List Nat} {w w' : World} {v : Value} {xs : List α}
end

/-! a function's end without a return -/
section
variable {P : Program} {n : Nat} {L : List (Nat × Value)} {w : World}
end
section
variable {P : Program} {n : Nat} {L : List (Nat × Value)} {w : World} {Q : Exit → Act → World → Prop} {c : Code}
end
section
variable {α : Type} [Rep α] {P : Program} {n : Nat} {Q : Exit → Act → World → Prop} {L : List (Nat × Value)} {w : World} {d : Option Tmp} {ty : TypeId} {pos : String} {af : Array Edge} {g : Option (Nat × Bool)} {t : TypeId}
end
end Dp
end Go.Proofs.Ytkgfdplcjdidhaa
namespace Go.Proofs.Ytkgfdplcjdidhaa
open Go Go.RowKit

namespace Dp

theorem all2_ints {w : World} {S : Nat → Prop} : ∀ xs : List Int, All2 (Rep.rd S w) (xs.map fun x => [Value.int .i64 x]) xs
  | [] => trivial
  | _ :: xs => ⟨rfl, all2_ints xs⟩
theorem rv_ints {w : World} {a : Addr} {len cap : Nat} {zs : List Int} (hl : len ≤ cap) (hm : cap ≤ maxLen) (hz : len ≤ zs.length) (hc : ∀ i, i < zs.length → w.cell? (a.add i) = some (.int .i64 (zs.getD i 0))) :
    Rv (fun _ => True) w (.slice (some a) len cap) (zs.take len) := by
  have e : (zs.take len).length = len := by simp; omega
  refine ⟨[.slice (some a) len cap], rfl, some a, cap, by rw [e], by rw [e]; exact hl, hm, .inr ⟨a, (zs.take len).map fun x => [Value.int .i64 x], rfl, trivial, all2_ints _, fun j u hj => ?_⟩⟩
  have hf : ((zs.take len).map fun x => [Value.int .i64 x]).flatten = (zs.take len).map (Value.int .i64) := by
    induction (zs.take len) with
    | nil => rfl
    | cons x xs ih => simp [ih]
  rw [hf, List.getElem?_map] at hj
  cases hx : (zs.take len)[j]? with
  | none => simp [hx] at hj
  | some x =>
    rw [hx] at hj
    have hjl : j < (zs.take len).length := (List.getElem?_eq_some_iff.1 hx).1
    rw [e] at hjl
    rw [hc j (by omega)]
    rw [List.getElem?_take_of_lt hjl] at hx
    simp only [Option.map_some, Option.some.injEq] at hj
    rw [← hj, List.getD_eq_getElem?_getD, hx]
    rfl
end Dp
end Go.Proofs.Ytkgfdplcjdidhaa
