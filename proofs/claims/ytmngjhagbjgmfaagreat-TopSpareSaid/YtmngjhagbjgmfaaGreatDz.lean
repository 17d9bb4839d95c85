import Derived.Test.YtmngjhagbjgmfaaGreatDv
import Derived.Orders
import Derived.ProofKit
import Derived.Carry
set_option linter.all false
open Bool renaming true->ab
open Go renaming Program->cQ,Value->ah,World->ay
open List renaming filter_cons_of_neg->pT,filter_cons_of_pos->lO
namespace Go.Proofs.YtmngjhagbjgmfaaGreat
open Go Go.RowKit
namespace Dp
def OW.imp [Rd]{P:cQ}{Q:Exit->Act->ay->Prop}{L:List (Nat×ah)}{o:Oper}{w:ay}{R R':ah->ay->Prop}(h:OW P Q L o w R)(hr:∀v w',R v w'->R' v w'):OW P Q L o w R':=
 λa K ha hK=>h a K ha λv w' h'=>hK v w' (hr v w' h')
structure akD where
 s:Option Nat
 e:Option Nat
 K:List Nat
 dep:List Nat
 G:List ah->cB->ay->Prop
structure AOp where
 M:List Nat
 pre:List Nat
 anc:List Nat
 aCT:List Nat
 vg:List ah->ah
 skip:Bool
section
variable (P:cQ) (Q:Exit->Act->ay->Prop) (inv:cB->ay->Prop) (N:List Nat) (fs:List akD) (L0:List (Nat×ah))
end
def abT{A B:List (Nat×ah)}{t:Nat}{v:ah}(h:look (A++B) t=some v):look A t=some v∨(look A t=none∧look B t=some v):=by
 induction A with
 |nil=>exact .inr ⟨rfl,h⟩
 |cons p A ih=>
  obtain⟨d,u⟩:=p;by_cases hd:d=t
  ·subst hd;rw[List.cons_append,iK]at h;rw[iK];exact .inl h
  ·rw[List.cons_append,gZ _ _ hd]at h;rw[gZ _ _ hd];exact ih h
def abR{L:List (Nat×ah)}{p:Nat->Bool}{t:Nat}{v:ah}(h:look (L.filter λx=>p x.1) t=some v):look L t=some v∧p t=ab:=by
 induction L with
 |nil=>simp[look]at h
 |cons q L ih=>
  obtain⟨d,u⟩:=q;by_cases hp:p d=ab
  ·rw[lO (by simpa using hp)]at h;by_cases hd:d=t
   ·subst hd;rw[iK]at h⊢;exact⟨h,hp⟩
   ·rw[gZ _ _ hd]at h⊢;exact ih h
  ·rw[pT (by simpa using hp)]at h;by_cases hd:d=t
   ·subst hd;exact(hp (ih h).2).elim
   ·rw[gZ _ _ hd];exact ih h
section
variable {P:cQ} {Q:Exit->Act->ay->Prop} {inv:cB->ay->Prop} {N Mx:List Nat} {fs:List akD} {L0:List (Nat×ah)} {l:List Oper} {as:List AOp} {n:Nat}
def filter_lt{p q:Nat->Bool}(h:∀x,q x=ab->p x=ab){i:Nat}(hp:p i=ab)(hq:q i=false):∀{l:List Nat},i∈l->(l.filter q).length<(l.filter p).length
 |[],hi=>by cases hi
 |x::l,hi=>by
  have hle:(l.filter q).length<=(l.filter p).length:=by
   clear hi;induction l with
   |nil=>simp
   |cons y l ih=>
    by_cases hy:q y=ab
    ·rw[lO hy,lO (h y hy)];simpa using ih
    ·rw[pT hy];by_cases gF:p y=ab
     ·rw[lO gF];simp;omega
     ·rw[pT gF];exact ih
  by_cases hx:x=i
  ·subst hx;rw[pT (by simp[hq]),lO hp];simp;omega
  ·have lD:i∈l:=by
    rcases List.mem_cons.1 hi with e|hh
    ·exact(hx e.symm).elim
    ·exact hh
   have ih:=filter_lt h hp hq lD;by_cases hy:q x=ab
   ·rw[lO hy,lO (h x hy)];simpa using ih
   ·rw[pT hy];by_cases gF:p x=ab
    ·rw[lO gF];simp;omega
    ·rw[pT gF];exact ih
end
end Dp
end Go.Proofs.YtmngjhagbjgmfaaGreat
namespace Go.Proofs.YtmngjhagbjgmfaaGreat
open Go Go.RowKit
namespace Dp
section
variable {P:cQ} {α β γ:Type} [ad α] [ad β] [ad γ] {W W':ay->Prop} {g:FuncId} {jf:Array ah}
end
section
variable {α:Type} [ad α] {T:TypeId} {o o':cB} {k:Nat} {K M N:List Nat} {w w':ay} {v:ah} {xs:List α}
end
section
variable {P:cQ} {n:Nat} {L:List (Nat×ah)} {w:ay}
end
section
variable {P:cQ} {n:Nat} {L:List (Nat×ah)} {w:ay} {Q:Exit->Act->ay->Prop} {c:Code}
end
section
variable {α:Type} [ad α] {P:cQ} {n:Nat} {Q:Exit->Act->ay->Prop} {L:List (Nat×ah)} {w:ay} {d:Option Tmp} {ty:TypeId} {pos:String} {af:Array Edge} {g:Option (Nat×Bool)} {t:TypeId}
end
end Dp
end Go.Proofs.YtmngjhagbjgmfaaGreat
namespace Go.Proofs.YtmngjhagbjgmfaaGreat
open Go Go.RowKit
namespace Dp
