import Derived.Test.YtgaghlbepnjhiaaGreatRp
import Derived.ChangeArms
import Derived.DataReads
import Derived.DataElems
set_option linter.all false
open Go renaming TypeId->aX,Value->ai
open List renaming mem_singleton->cY
open Option renaming some->aa
namespace Go.Proofs.YtgaghlbepnjhiaaGreat
open Go Go.RowKit Dp
namespace Rx
section
variable {D:Nat->Type} [∀n,ad (D n)]
variable {P:Program} {T:bc D}
def WfD:DV D->Prop
 |⟨.int k,n⟩=>(Lit.int k n).wf=true
 |⟨.bool,_⟩=>True
 |⟨.str,_⟩=>True
 |⟨.sl _,xs⟩=>xs.length<=maxLen
def JR(D:Nat->Type)[∀n,ad (D n)](P:Program)(t:aX)(ls:List Lf):Prop:=
 P.cellsOf t=ls.length∧∀{H:Type} (enc:aX×ai->H) (w:World) (base:Nat) (spare:Nat->Bool) (held:Bool) (jP:Nat) (cs:List ai) (x:DataW H×List MemPlace),DataW.trod enc P w base spare held jP t cs=aa x->
   ∃ds:List (DV D),ds.map DV.l=ls∧cz (λ_=>True) w cs ds∧∀d∈ds,WfD d
def art{t:aX}{k:IntKind}(ht:P.underlying t=aa (.int k))(hc:P.cellsOf t=1):JR D P t [.int k]:=by refine⟨hc,λenc w base spare held jP cs x h=>?_⟩;obtain⟨n,rfl,_,hw⟩:=DataW.trod_int ht h;exact⟨[⟨.int k,n⟩],rfl,⟨rfl,trivial⟩,λd hd=>by rw[cY.1 hd];exact hw⟩
def aro{t e:aX}{n:Nat}(hR:cK T)(ht:P.underlying t=aa (.slice e))(hc:P.cellsOf t=1)(he:JR D P e (T.lv n)):JR D P t [.sl n]:=by
 refine⟨hc,λenc w base spare held jP cs x h=>?_⟩;rcases DataW.trod_slice ht h with⟨rfl,_⟩|⟨a,len,cap,aE2,rest,m,_,rfl,_,hb,hl,hm,hlen,xh,_,_⟩
 ·exact⟨[⟨.sl n,([]:List (D n))⟩],rfl,⟨Dt _ _,trivial⟩,λd hd=>by rw[cY.1 hd];exact Nat.zero_le _⟩
 have eQ:P.cellsOf e=ad.sz (D n):=by rw[he.1,hR.sz n]
 have each:∀i,i<len->∃(x:D n) (c:List ai),ad.rd (λ_=>True) w c x∧∀j u,c[j]? =aa u->w.cell? (a.add (i*ad.sz (D n)+j))=aa u:=λi hi=>by
  have h1:=xh i hi;rw[List.getElem?_eq_getElem (by omega),Option.bind_eq_some_iff]at h1;obtain⟨c,jD,kz⟩:=h1;obtain⟨_,dh,qJ⟩:=World.cells?_some jD;obtain⟨ds,d1,d2,_⟩:=he.2 enc w base spare held m c _ kz;obtain⟨hh,hhe⟩:=Ku d1;refine⟨T.AA n hh,c,?_,λj u hj=>?_⟩
  ·rw[hR.rd];show cz _ w c (tO (T.lv n) (T.DI n (T.AA n hh)));rw[hR.MI,Th hhe];exact d2
  ·have dt:=(List.getElem?_eq_some_iff.1 hj).1;have:=qJ j (by omega);rw[hj,eQ]at this;rw[<-Addr.add_add];exact this
 have all:∀k,k<=len->∃(xs:List (D n)) (aJ:List (List ai)),xs.length=k∧cA (ad.rd (λ_=>True) w) aJ xs∧j_ w a aJ.flatten:=by
  intro k;induction k with
  |zero=>intro _;exact⟨[],[],rfl,trivial,λj u hj=>by simp at hj⟩
  |succ k ih=>
   intro hk;obtain⟨xs,aJ,h1,h2,h3⟩:=ih (by omega);obtain⟨x,c,h4,h5⟩:=each k (by omega);refine⟨xs++[x],aJ++[c],by simp[h1],h2.append ⟨h4,trivial⟩,λj u hj=>?_⟩;have eL:=qN h2;rw[List.flatten_append,show [c].flatten=c by simp]at hj;by_cases dt:j<aJ.flatten.length
   ·rw[List.getElem?_append_left dt]at hj;exact h3 j u hj
   ·rw[List.getElem?_append_right (by omega)]at hj;have:=h5 _ u hj;rw[eL,h1]at this dt;rwa[show k*ad.sz (D n)+(j-k*ad.sz (D n))=j by omega]at this
 obtain⟨xs,aJ,h1,h2,h3⟩:=all len (Nat.le_refl _);refine⟨[⟨.sl n,xs⟩],rfl,⟨⟨[.slice (aa a) len cap],rfl,aa a,cap,by rw[h1],by omega,hm,.inr ⟨a,aJ,rfl,trivial,h2,h3⟩⟩,trivial⟩,λd hd=>by rw[cY.1 hd];show xs.length<=maxLen;omega⟩
def amS{ds:List (DV D)}{w:World}{i:Nat}{d:DV D}{v:ai}(hl:ds.length<=800)(hd:ds[i]? =aa d)(h:dI (λ_=>True) w v d):fY U0 (G4 ds) w (.v d.l d.d (AK [0] d.l) (1100+i)) v:=by
 obtain⟨l,d⟩:=d;refine⟨?_,ap9 hl hd,λx hx=>?_⟩
 ·cases l with
  |sl n=>exact Rv.mono (λb _ _=>⟨cY.2 rfl,rfl⟩) h
  |int k=>exact h
  |bool=>exact h
  |str=>exact h
 ·cases l with
  |sl n=>rw[cY.1 hx];omega
  |int k=>cases hx
  |bool=>cases hx
  |str=>cases hx
def amR{ds:List (DV D)}{w:World}{i:Nat}{d:DV D}{v:ai}{a:A1 D}(hl:ds.length<=800)(hd:ds[i]? =aa d)(h:cz (λ_=>True) w [v] [d])(e:a= .v d.l d.d (AK [0] d.l) (1100+i)):nA U0 (G4 ds) w (.one a) v:=by subst e;exact amS hl hd h.1
def ayT{l:Lf}{ls:List Lf}{ds:List (DV D)}(h:ds.map DV.l=l::ls):∃(d:l.den D) (r:List (DV D)),ds=⟨l,d⟩::r∧r.map DV.l=ls:=by
 cases ds with
 |nil=>simp at h
 |cons d r=>obtain⟨l',d⟩:=d;simp at h;obtain⟨rfl,h⟩:=h;exact⟨d,r,rfl,h⟩
def ayS{ds:List (DV D)}(h:ds.map DV.l=[]):ds=[]:=by simpa using h
