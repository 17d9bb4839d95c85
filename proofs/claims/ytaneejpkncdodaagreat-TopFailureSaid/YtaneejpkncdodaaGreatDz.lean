import Derived.Test.YtaneejpkncdodaaGreatDv
import Derived.Orders
import Derived.ProofKit
import Derived.Carry
set_option linter.unusedVariables false
set_option linter.unusedSimpArgs false
namespace Go.Proofs.YtaneejpkncdodaaGreat
open Go Go.RowKit
namespace Dp
theorem OW.imp [Rd]{P:Program}{Q:Exit→Act→World→Prop}{L:List (Nat×Value)}{o:Oper}{w:World}{R R':Value→World→Prop}(h:OW P Q L o w R)(hr:∀v w',R v w'→R' v w'):OW P Q L o w R':=
 fun a K ha hK=>h a K ha fun v w' h'=>hK v w' (hr v w' h')
structure X5 where
 s:Option Nat
 e:Option Nat
 K:List Nat
 dep:List Nat
 G:List Value→bF→World→Prop
structure AOp where
 M:List Nat
 pre:List Nat
 anc:List Nat
 alN:List Nat
 vg:List Value→Value
 skip:Bool
section
variable (P:Program) (Q:Exit→Act→World→Prop) (inv:bF→World→Prop) (N:List Nat) (fs:List X5) (L0:List (Nat×Value))
end
theorem Rk{A B:List (Nat×Value)}{t:Nat}{v:Value}(h:look (A++B) t=some v):look A t=some v∨(look A t=none∧look B t=some v):=by
 induction A with
 |nil=>exact .inr ⟨rfl,h⟩
 |cons p A ih=>
  obtain⟨d,u⟩:=p
  by_cases hd:d=t
  · subst hd
    rw[List.cons_append,mD] at h
    rw[mD]
    exact .inl h
  · rw[List.cons_append,kX _ _ hd] at h
    rw[kX _ _ hd]
    exact ih h
theorem Ri{L:List (Nat×Value)}{p:Nat→Bool}{t:Nat}{v:Value}(h:look (L.filter fun x=>p x.1) t=some v):look L t=some v∧p t=true:=by
 induction L with
 |nil=>simp[look] at h
 |cons q L ih=>
  obtain⟨d,u⟩:=q
  by_cases hp:p d=true
  · rw[List.filter_cons_of_pos (by simpa using hp)] at h
    by_cases hd:d=t
    · subst hd
      rw[mD] at h⊢
      exact⟨h,hp⟩
    · rw[kX _ _ hd] at h⊢
      exact ih h
  · rw[List.filter_cons_of_neg (by simpa using hp)] at h
    by_cases hd:d=t
    · subst hd
      exact(hp (ih h).2).elim
    · rw[kX _ _ hd]
      exact ih h
section
variable {P:Program} {Q:Exit→Act→World→Prop} {inv:bF→World→Prop} {N Mx:List Nat} {fs:List X5} {L0:List (Nat×Value)} {l:List Oper} {as:List AOp} {n:Nat}
theorem filter_lt{p q:Nat→Bool}(h:∀x,q x=true→p x=true){i:Nat}(hp:p i=true)(hq:q i=false):∀{l:List Nat},i∈l→(l.filter q).length<(l.filter p).length
 |[],hi=>by cases hi
 |x::l,hi=>by
  have hle:(l.filter q).length≤(l.filter p).length:=by
   clear hi
   induction l with
   |nil=>simp
   |cons y l ih=>
    by_cases hy:q y=true
    · rw[List.filter_cons_of_pos hy,List.filter_cons_of_pos (h y hy)]
      simpa using ih
    · rw[List.filter_cons_of_neg hy]
      by_cases en:p y=true
      · rw[List.filter_cons_of_pos en]
        simp
        omega
      · rw[List.filter_cons_of_neg en]
        exact ih
  by_cases hx:x=i
  · subst hx
    rw[List.filter_cons_of_neg (by simp[hq]),List.filter_cons_of_pos hp]
    simp
    omega
  · have je:i∈l:=by
     rcases List.mem_cons.1 hi with e|hh
     · exact(hx e.symm).elim
     · exact hh
    have ih:=filter_lt h hp hq je
    by_cases hy:q x=true
    · rw[List.filter_cons_of_pos hy,List.filter_cons_of_pos (h x hy)]
      simpa using ih
    · rw[List.filter_cons_of_neg hy]
      by_cases en:p x=true
      · rw[List.filter_cons_of_pos en]
        simp
        omega
      · rw[List.filter_cons_of_neg en]
        exact ih
end
end Dp
end Go.Proofs.YtaneejpkncdodaaGreat
namespace Go.Proofs.YtaneejpkncdodaaGreat
open Go Go.RowKit
namespace Dp
section
variable {P:Program} {α β γ:Type} [ad α] [ad β] [ad γ] {W W':World→Prop} {g:FuncId} {fI:Array Value}
end
section
variable {α:Type} [ad α] {T:TypeId} {o o':bF} {k:Nat} {K M N:List Nat} {w w':World} {v:Value} {xs:List α}
end
section
variable {P:Program} {n:Nat} {L:List (Nat×Value)} {w:World}
end
section
variable {P:Program} {n:Nat} {L:List (Nat×Value)} {w:World} {Q:Exit→Act→World→Prop} {c:Code}
end
section
variable {α:Type} [ad α] {P:Program} {n:Nat} {Q:Exit→Act→World→Prop} {L:List (Nat×Value)} {w:World} {d:Option Tmp} {ty:TypeId} {pos:String} {af:Array Edge} {g:Option (Nat×Bool)} {t:TypeId}
end
end Dp
end Go.Proofs.YtaneejpkncdodaaGreat
namespace Go.Proofs.YtaneejpkncdodaaGreat
open Go Go.RowKit
namespace Dp
end Dp
end Go.Proofs.YtaneejpkncdodaaGreat
