import Derived.Test.YtgaghlbepnjhiaaGreatRp
set_option linter.all false
open Go renaming Value->ai,World->ax
open Option renaming some->aa
open Option.some renaming inj->kb
namespace Go.Proofs.YtgaghlbepnjhiaaGreat
open Go Go.RowKit Dp
namespace Rx
section
variable {P:Program} {n:Nat} {Q:Exit->Act->ax->Prop} {L:List (Nat×ai)} {w:ax} {ops:Array Oper} {rest:List Oper}
def CW.sr [Rd]{id:Nat}{l:List Oper}{y:Code}(h:∀K:Act->ax->Prop,(∀L' w',CW P n y Q L' w'->NK n K L' w')->WL P n l.toArray (Exit.then K Q) l L w):CW P n (.seq (.region id l.toArray false) y) Q L w:=CW.seq λK hK=>CW.region (h K hK)
def WL.nx [Rd]{y:Code}{K:Act->ax->Prop}{Q':Exit->Act->ax->Prop}(hK:∀L' w',CW P n y Q' L' w'->NK n K L' w')(h:CW P n y Q' L w):WL P n ops (Exit.then K Q) [] L w:=WL.nil (hK _ _ h)
def WL.p [I:Rd]{d:Nat}{op:Op}{ty:TypeId}{pos:String}{af:Array Edge}(v:ai)(h:Dp.pv L op=aa v)(hd:I.fb n d=true)(k:WL P n ops Q rest ((d,v)::L) w):WL P n ops Q (⟨aa d,op,ty,pos,af,none⟩::rest) L w:=WL.v h hd k
variable {d:Option Nat} {ty:TypeId} {pos:String} {af:Array Edge} {g:Option (Nat×Bool)} {t e t2:TypeId}
def OW.isNil [Rd]{u:Operand}{a:Option Addr}{n c:Nat}(hu:P.underlying t=aa (.slice e))(hx:ev L u=aa (.slice a n c)):
  OW P Q L ⟨d,.binOp .eql t u (.const (.slice none 0 0)) t2,ty,pos,af,g⟩ w (λv' w'=>v'= .bool a.isNone∧w'=w):=by
 refine OW.run λb hb=>⟨_,w,?_,rfl,rfl⟩
 have h1:=hb _ _ hx
 have h2:b.eval (.const (.slice none 0 0))= .slice none 0 0:=rfl
 have h3:(binOp .eql t (.slice a n c) (.slice none 0 0)).run P w= .ok (.bool a.isNone) w:=by
  have h4:∀d:Nat,(Op.equalIn (d+1) t (.slice a n c) (.slice none 0 0)).run P w= .ok a.isNone w:=λd=>by cases a<;>simp[Op.equalIn,run_underlying hu]
  simp only[binOp];simp[Op.equal,Op.maxDepth,h4 9999]
 simp[execOp,h1,h2,eqGuard,h3]
def Ab{α:Type}[ad α]{S:Nat->Prop}{v:ai}{xs:List α}(h:Rv S w v xs):∃a n c,v= .slice a n c∧(a=none->xs=[]):=by
 obtain⟨p,cap,h1,_,_,h2⟩:=u9 h;refine⟨p,_,cap,h1,λhp=>?_⟩;rcases h2 with h2|⟨a,aJ,h2,_⟩
 ·exact h2
 ·rw[hp]at h2;cases h2
def B9{α:Type}{r:List α}(h:bD ([]:List α) []=aa r):r=[]:=by have h2:bD ([]:List α) []=aa []:=rfl;rw[h2]at h;exact(kb h).symm
end
section
variable {D:Nat->Type} [∀n,ad (D n)]
variable {T:bc D}
def alA(T:bc D)(c:az D)(γ:Gh D)(w:ax)(r:HH D c.outs)(v:ai)(w':ax):Prop:=
 ∃U' γ' rs ko,im T (dK T c.outs r) aa id 3000 c.kl=aa rs∧jN T (dK T c.outs r) aa id 3000 c.cn=aa ko∧
  v_ U' γ' w' rs v∧(∀p x,dC ko p=aa x->OR U' γ' w' p x)∧(∀p,(p,p)∈stay c->γ'.g p=γ.g p)∧Frame0 γ w γ' w'
def qQ{c:az D}{γ:Gh D}{w w':ax}{rr:HH D c.outs}{v:ai}{n e q:Nat}{K M N:List Nat}{o':cE}{r:List (D n)}
  (h1:im T (dK T c.outs rr) aa id 3000 c.kl=aa [.one (.own q)]) (h2:jN T (dK T c.outs rr) aa id 3000 c.cn=aa [(q,aa (.sl n e r K 3000))]) (h3:stay c=[])
  (hM:∀x∈M,1000<=x) (hN:∀x∈N,1000<=x) (ev:bJ M N γ.o w o' w') (kw:Ow e o' q K w' v r) (hK:eo K):alA T c γ w rr v w':=by
 refine⟨λ_=>True,⟨o',λ_=>v,λ_=>⟨.sl n,r⟩⟩,_,_,h1,h2,⟨trivial,rfl,kw.one⟩,λp x hx=>?_,(λp hp=>by rw[h3]at hp;cases hp),ev.os,ev.tape,ev.output,ev.size,λb hb hc=>⟨ev.fU b hb,ev.nu b hb λhm=>?_⟩,λb hb hc=>?_⟩
 ·have hb:aF [(q,aa (AO.sl n e r K 3000))] p=aa (aa x):=by
   unfold dC at hx;split at hx
   ·rename_i y hy;rw[hy];cases hx;rfl
   ·cases hx
  obtain⟨rfl,hy⟩:=nN hb;cases hy;exact⟨kw,hK,.inr ⟨trivial,rfl⟩⟩
 ·have:=hM _ hm;omega
 ·have hc:o' b=0∨o' b=3:=hc;by_cases aS:b<w.heap.size
  ·exact⟨aS,(ev.fU b aS).symm⟩
  ·have:=hN _ (ev.new b (by omega) hb);omega
