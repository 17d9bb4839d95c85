import Derived.Test.YtncbfgppjfcijaaGreatDv
import Derived.Orders
import Derived.ProofKit
import Derived.Carry
set_option linter.unusedVariables false
set_option linter.unusedSimpArgs false
open List renaming filter_cons_of_neg→arA,filter_cons_of_pos→ari
namespace Go.Proofs.YtncbfgppjfcijaaGreat
open Go Go.RowKit
namespace Dp
theorem OW.imp [Rd]{P:Program}{Q:Exit→Act→World→Prop}{L:List (Nat×Value)}{o:Oper}{w:World}{R R':Value→World→Prop}(h:OW P Q L o w R)(hr:∀v w',R v w'→R' v w'):OW P Q L o w R':=
 fun a K ha hK=>h a K ha fun v w' h'=>hK v w' (hr v w' h')
structure aan where
 s:Option Nat
 e:Option Nat
 K:List Nat
 dep:List Nat
 G:List Value→bL→World→Prop
structure AOp where
 M:List Nat
 pre:List Nat
 anc:List Nat
 apG:List Nat
 vg:List Value→Value
 skip:Bool
section
variable (P:Program) (Q:Exit→Act→World→Prop) (inv:bL→World→Prop) (N:List Nat) (fs:List aan) (L0:List (Nat×Value))
end
theorem SS{A B:List (Nat×Value)}{t:Nat}{v:Value}(h:look (A++B) t=some v):look A t=some v∨(look A t=none∧look B t=some v):=by
 induction A with
 |nil=>exact .inr ⟨rfl,h⟩
 |cons p A ih=>
  obtain⟨d,u⟩:=p
  by_cases hd:d=t
  · subst hd
    rw[List.cons_append,mK] at h
    rw[mK]
    exact .inl h
  · rw[List.cons_append,k7 _ _ hd] at h
    rw[k7 _ _ hd]
    exact ih h
theorem SP{L:List (Nat×Value)}{p:Nat→Bool}{t:Nat}{v:Value}(h:look (L.filter fun x=>p x.1) t=some v):look L t=some v∧p t=true:=by
 induction L with
 |nil=>simp[look] at h
 |cons q L ih=>
  obtain⟨d,u⟩:=q
  by_cases hp:p d=true
  · rw[ari (by simpa using hp)] at h
    by_cases hd:d=t
    · subst hd
      rw[mK] at h⊢
      exact⟨h,hp⟩
    · rw[k7 _ _ hd] at h⊢
      exact ih h
  · rw[arA (by simpa using hp)] at h
    by_cases hd:d=t
    · subst hd
      exact(hp (ih h).2).elim
    · rw[k7 _ _ hd]
      exact ih h
section
variable {P:Program} {Q:Exit→Act→World→Prop} {inv:bL→World→Prop} {N Mx:List Nat} {fs:List aan} {L0:List (Nat×Value)} {l:List Oper} {as:List AOp} {n:Nat}
theorem filter_lt{p q:Nat→Bool}(h:∀x,q x=true→p x=true){i:Nat}(hp:p i=true)(hq:q i=false):∀{l:List Nat},i∈l→(l.filter q).length<(l.filter p).length
 |[],hi=>by cases hi
 |x::l,hi=>by
  have hle:(l.filter q).length≤(l.filter p).length:=by
   clear hi
   induction l with
   |nil=>simp
   |cons y l ih=>
    by_cases hy:q y=true
    · rw[ari hy,ari (h y hy)]
      simpa using ih
    · rw[arA hy]
      by_cases er:p y=true
      · rw[ari er]
        simp
        omega
      · rw[arA er]
        exact ih
  by_cases hx:x=i
  · subst hx
    rw[arA (by simp[hq]),ari hp]
    simp
    omega
  · have ke:i∈l:=by
     rcases List.mem_cons.1 hi with e|hh
     · exact(hx e.symm).elim
     · exact hh
    have ih:=filter_lt h hp hq ke
    by_cases hy:q x=true
    · rw[ari hy,ari (h x hy)]
      simpa using ih
    · rw[arA hy]
      by_cases er:p x=true
      · rw[ari er]
        simp
        omega
      · rw[arA er]
        exact ih
end
end Dp
end Go.Proofs.YtncbfgppjfcijaaGreat
namespace Go.Proofs.YtncbfgppjfcijaaGreat
open Go Go.RowKit
namespace Dp
section
variable {P:Program} {α β γ:Type} [ab α] [ab β] [ab γ] {W W':World→Prop} {g:FuncId} {fJ:Array Value}
end
section
variable {α:Type} [ab α] {T:TypeId} {o o':bL} {k:Nat} {K M N:List Nat} {w w':World} {v:Value} {xs:List α}
end
section
variable {P:Program} {n:Nat} {L:List (Nat×Value)} {w:World}
end
section
variable {P:Program} {n:Nat} {L:List (Nat×Value)} {w:World} {Q:Exit→Act→World→Prop} {c:Code}
end
section
variable {α:Type} [ab α] {P:Program} {n:Nat} {Q:Exit→Act→World→Prop} {L:List (Nat×Value)} {w:World} {d:Option Tmp} {ty:TypeId} {pos:String} {af:Array Edge} {g:Option (Nat×Bool)} {t:TypeId}
end
end Dp
end Go.Proofs.YtncbfgppjfcijaaGreat
namespace Go.Proofs.YtncbfgppjfcijaaGreat
open Go Go.RowKit
namespace Dp
end Dp
end Go.Proofs.YtncbfgppjfcijaaGreat
