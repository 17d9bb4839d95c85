import Derived.Test.YtgaghlbepnjhiaaGreatDv
import Derived.Orders
import Derived.ProofKit
import Derived.Carry
set_option linter.all false
open Bool renaming true->ab
open Go renaming Program->cT,Value->ai,World->ax
open List renaming filter_cons_of_neg->p8,filter_cons_of_pos->lS
namespace Go.Proofs.YtgaghlbepnjhiaaGreat
open Go Go.RowKit
namespace Dp
def OW.imp [Rd]{P:cT}{Q:Exit->Act->ax->Prop}{L:List (Nat×ai)}{o:Oper}{w:ax}{R R':ai->ax->Prop}(h:OW P Q L o w R)(hr:∀v w',R v w'->R' v w'):OW P Q L o w R':=
 λa K ha hK=>h a K ha λv w' h'=>hK v w' (hr v w' h')
structure alL where
 s:Option Nat
 e:Option Nat
 K:List Nat
 dep:List Nat
 G:List ai->cE->ax->Prop
structure AOp where
 M:List Nat
 pre:List Nat
 anc:List Nat
 aEj:List Nat
 vg:List ai->ai
 skip:Bool
section
variable (P:cT) (Q:Exit->Act->ax->Prop) (inv:cE->ax->Prop) (N:List Nat) (fs:List alL) (L0:List (Nat×ai))
end
def acM{A B:List (Nat×ai)}{t:Nat}{v:ai}(h:look (A++B) t=some v):look A t=some v∨(look A t=none∧look B t=some v):=by
 induction A with
 |nil=>exact .inr ⟨rfl,h⟩
 |cons p A ih=>
  obtain⟨d,u⟩:=p;by_cases hd:d=t
  ·subst hd;rw[List.cons_append,iX]at h;rw[iX];exact .inl h
  ·rw[List.cons_append,il _ _ hd]at h;rw[il _ _ hd];exact ih h
def acK{L:List (Nat×ai)}{p:Nat->Bool}{t:Nat}{v:ai}(h:look (L.filter λx=>p x.1) t=some v):look L t=some v∧p t=ab:=by
 induction L with
 |nil=>simp[look]at h
 |cons q L ih=>
  obtain⟨d,u⟩:=q;by_cases hp:p d=ab
  ·rw[lS (by simpa using hp)]at h;by_cases hd:d=t
   ·subst hd;rw[iX]at h⊢;exact⟨h,hp⟩
   ·rw[il _ _ hd]at h⊢;exact ih h
  ·rw[p8 (by simpa using hp)]at h;by_cases hd:d=t
   ·subst hd;exact(hp (ih h).2).elim
   ·rw[il _ _ hd];exact ih h
section
variable {P:cT} {Q:Exit->Act->ax->Prop} {inv:cE->ax->Prop} {N Mx:List Nat} {fs:List alL} {L0:List (Nat×ai)} {l:List Oper} {as:List AOp} {n:Nat}
def filter_lt{p q:Nat->Bool}(h:∀x,q x=ab->p x=ab){i:Nat}(hp:p i=ab)(hq:q i=false):∀{l:List Nat},i∈l->(l.filter q).length<(l.filter p).length
 |[],hi=>by cases hi
 |x::l,hi=>by
  have hle:(l.filter q).length<=(l.filter p).length:=by
   clear hi;induction l with
   |nil=>simp
   |cons y l ih=>
    by_cases hy:q y=ab
    ·rw[lS hy,lS (h y hy)];simpa using ih
    ·rw[p8 hy];by_cases gp:p y=ab
     ·rw[lS gp];simp;omega
     ·rw[p8 gp];exact ih
  by_cases hx:x=i
  ·subst hx;rw[p8 (by simp[hq]),lS hp];simp;omega
  ·have lI:i∈l:=by
    rcases List.mem_cons.1 hi with e|hh
    ·exact(hx e.symm).elim
    ·exact hh
   have ih:=filter_lt h hp hq lI;by_cases hy:q x=ab
   ·rw[lS hy,lS (h x hy)];simpa using ih
   ·rw[p8 hy];by_cases gp:p x=ab
    ·rw[lS gp];simp;omega
    ·rw[p8 gp];exact ih
end
end Dp
end Go.Proofs.YtgaghlbepnjhiaaGreat
namespace Go.Proofs.YtgaghlbepnjhiaaGreat
open Go Go.RowKit
namespace Dp
section
variable {P:cT} {α β γ:Type} [ad α] [ad β] [ad γ] {W W':ax->Prop} {g:FuncId} {jo:Array ai}
end
section
variable {α:Type} [ad α] {T:TypeId} {o o':cE} {k:Nat} {K M N:List Nat} {w w':ax} {v:ai} {xs:List α}
end
section
variable {P:cT} {n:Nat} {L:List (Nat×ai)} {w:ax}
end
section
variable {P:cT} {n:Nat} {L:List (Nat×ai)} {w:ax} {Q:Exit->Act->ax->Prop} {c:Code}
end
section
variable {α:Type} [ad α] {P:cT} {n:Nat} {Q:Exit->Act->ax->Prop} {L:List (Nat×ai)} {w:ax} {d:Option Tmp} {ty:TypeId} {pos:String} {af:Array Edge} {g:Option (Nat×Bool)} {t:TypeId}
end
end Dp
end Go.Proofs.YtgaghlbepnjhiaaGreat
namespace Go.Proofs.YtgaghlbepnjhiaaGreat
open Go Go.RowKit
namespace Dp
