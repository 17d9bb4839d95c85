import Derived.Test.YtmngjhagbjgmfaaGreatDv
import Derived.Orders
import Derived.ProofKit
import Derived.Carry
set_option linter.all false
open Bool renaming true->ab
open Go renaming Program->cP,Value->ah,World->ax
open List renaming filter_cons_of_neg->pQ,filter_cons_of_pos->lL
namespace Go.Proofs.YtmngjhagbjgmfaaGreat
open Go Go.RowKit
namespace Dp
def OW.imp [Rd]{P:cP}{Q:Exit->Act->ax->Prop}{L:List (Nat×ah)}{o:Oper}{w:ax}{R R':ah->ax->Prop}(h:OW P Q L o w R)(hr:∀v w',R v w'->R' v w'):OW P Q L o w R':=
 λa K ha hK=>h a K ha λv w' h'=>hK v w' (hr v w' h')
structure akz where
 s:Option Nat
 e:Option Nat
 K:List Nat
 dep:List Nat
 G:List ah->cA->ax->Prop
structure AOp where
 M:List Nat
 pre:List Nat
 anc:List Nat
 aCP:List Nat
 vg:List ah->ah
 skip:Bool
section
variable (P:cP) (Q:Exit->Act->ax->Prop) (inv:cA->ax->Prop) (N:List Nat) (fs:List akz) (L0:List (Nat×ah))
end
def abP{A B:List (Nat×ah)}{t:Nat}{v:ah}(h:look (A++B) t=some v):look A t=some v∨(look A t=none∧look B t=some v):=by
 induction A with
 |nil=>exact .inr ⟨rfl,h⟩
 |cons p A ih=>
  obtain⟨d,u⟩:=p;by_cases hd:d=t
  ·subst hd;rw[List.cons_append,iH]at h;rw[iH];exact .inl h
  ·rw[List.cons_append,gW _ _ hd]at h;rw[gW _ _ hd];exact ih h
def abN{L:List (Nat×ah)}{p:Nat->Bool}{t:Nat}{v:ah}(h:look (L.filter λx=>p x.1) t=some v):look L t=some v∧p t=ab:=by
 induction L with
 |nil=>simp[look]at h
 |cons q L ih=>
  obtain⟨d,u⟩:=q;by_cases hp:p d=ab
  ·rw[lL (by simpa using hp)]at h;by_cases hd:d=t
   ·subst hd;rw[iH]at h⊢;exact⟨h,hp⟩
   ·rw[gW _ _ hd]at h⊢;exact ih h
  ·rw[pQ (by simpa using hp)]at h;by_cases hd:d=t
   ·subst hd;exact(hp (ih h).2).elim
   ·rw[gW _ _ hd];exact ih h
section
variable {P:cP} {Q:Exit->Act->ax->Prop} {inv:cA->ax->Prop} {N Mx:List Nat} {fs:List akz} {L0:List (Nat×ah)} {l:List Oper} {as:List AOp} {n:Nat}
def filter_lt{p q:Nat->Bool}(h:∀x,q x=ab->p x=ab){i:Nat}(hp:p i=ab)(hq:q i=false):∀{l:List Nat},i∈l->(l.filter q).length<(l.filter p).length
 |[],hi=>by cases hi
 |x::l,hi=>by
  have hle:(l.filter q).length<=(l.filter p).length:=by
   clear hi;induction l with
   |nil=>simp
   |cons y l ih=>
    by_cases hy:q y=ab
    ·rw[lL hy,lL (h y hy)];simpa using ih
    ·rw[pQ hy];by_cases gC:p y=ab
     ·rw[lL gC];simp;omega
     ·rw[pQ gC];exact ih
  by_cases hx:x=i
  ·subst hx;rw[pQ (by simp[hq]),lL hp];simp;omega
  ·have lA:i∈l:=by
    rcases List.mem_cons.1 hi with e|hh
    ·exact(hx e.symm).elim
    ·exact hh
   have ih:=filter_lt h hp hq lA;by_cases hy:q x=ab
   ·rw[lL hy,lL (h x hy)];simpa using ih
   ·rw[pQ hy];by_cases gC:p x=ab
    ·rw[lL gC];simp;omega
    ·rw[pQ gC];exact ih
end
end Dp
end Go.Proofs.YtmngjhagbjgmfaaGreat
namespace Go.Proofs.YtmngjhagbjgmfaaGreat
open Go Go.RowKit
namespace Dp
section
variable {P:cP} {α β γ:Type} [ad α] [ad β] [ad γ] {W W':ax->Prop} {g:FuncId} {jc:Array ah}
end
section
variable {α:Type} [ad α] {T:TypeId} {o o':cA} {k:Nat} {K M N:List Nat} {w w':ax} {v:ah} {xs:List α}
end
section
variable {P:cP} {n:Nat} {L:List (Nat×ah)} {w:ax}
end
section
variable {P:cP} {n:Nat} {L:List (Nat×ah)} {w:ax} {Q:Exit->Act->ax->Prop} {c:Code}
end
section
variable {α:Type} [ad α] {P:cP} {n:Nat} {Q:Exit->Act->ax->Prop} {L:List (Nat×ah)} {w:ax} {d:Option Tmp} {ty:TypeId} {pos:String} {af:Array Edge} {g:Option (Nat×Bool)} {t:TypeId}
end
end Dp
end Go.Proofs.YtmngjhagbjgmfaaGreat
namespace Go.Proofs.YtmngjhagbjgmfaaGreat
open Go Go.RowKit
namespace Dp
