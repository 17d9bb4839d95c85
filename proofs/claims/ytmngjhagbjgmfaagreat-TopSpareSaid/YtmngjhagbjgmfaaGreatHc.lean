import Derived.Test.YtmngjhagbjgmfaaGreatRp
set_option linter.all false
open Go renaming Value->ah,World->ay
open Option renaming none->ak,some->aa
open Option.some renaming inj->jP
namespace Go.Proofs.YtmngjhagbjgmfaaGreat
open Go Go.RowKit Dp
namespace Rx
section
variable {P:Program} {n:Nat} {Q:Exit->Act->ay->Prop} {L:List (Nat×ah)} {w:ay} {ops:Array Oper} {rest:List Oper}
def CW.sr [Rd]{id:Nat}{l:List Oper}{y:Code}(h:∀K:Act->ay->Prop,(∀L' w',CW P n y Q L' w'->NK n K L' w')->WL P n l.toArray (Exit.then K Q) l L w):CW P n (.seq (.region id l.toArray false) y) Q L w:=CW.seq λK hK=>CW.region (h K hK)
def WL.nx [Rd]{y:Code}{K:Act->ay->Prop}{Q':Exit->Act->ay->Prop}(hK:∀L' w',CW P n y Q' L' w'->NK n K L' w')(h:CW P n y Q' L w):WL P n ops (Exit.then K Q) [] L w:=WL.nil (hK _ _ h)
def WL.p [I:Rd]{d:Nat}{op:Op}{ty:TypeId}{pos:String}{af:Array Edge}(v:ah)(h:Dp.pv L op=aa v)(hd:I.eZ n d=true)(k:WL P n ops Q rest ((d,v)::L) w):WL P n ops Q (⟨aa d,op,ty,pos,af,ak⟩::rest) L w:=WL.v h hd k
variable {d:Option Nat} {ty:TypeId} {pos:String} {af:Array Edge} {g:Option (Nat×Bool)} {t e t2:TypeId}
def OW.isNil [Rd]{u:Operand}{a:Option Addr}{n c:Nat}(hu:P.underlying t=aa (.slice e))(hx:ev L u=aa (.slice a n c)):
  OW P Q L ⟨d,.binOp .eql t u (.const (.slice ak 0 0)) t2,ty,pos,af,g⟩ w (λv' w'=>v'= .bool a.isNone∧w'=w):=by
 refine OW.run λb hb=>⟨_,w,?_,rfl,rfl⟩
 have h1:=hb _ _ hx
 have h2:b.eval (.const (.slice ak 0 0))= .slice ak 0 0:=rfl
 have h3:(binOp .eql t (.slice a n c) (.slice ak 0 0)).run P w= .ok (.bool a.isNone) w:=by
  have h4:∀d:Nat,(Op.equalIn (d+1) t (.slice a n c) (.slice ak 0 0)).run P w= .ok a.isNone w:=λd=>by cases a<;>simp[Op.equalIn,run_underlying hu]
  simp only[binOp];simp[Op.equal,Op.maxDepth,h4 9999]
 simp[execOp,h1,h2,eqGuard,h3]
def zM{α:Type}[ad α]{S:Nat->Prop}{v:ah}{xs:List α}(h:Rv S w v xs):∃a n c,v= .slice a n c∧(a=ak->xs=[]):=by
 obtain⟨p,cap,h1,_,_,h2⟩:=u0 h;refine⟨p,_,cap,h1,λhp=>?_⟩;rcases h2 with h2|⟨a,aK,h2,_⟩
 ·exact h2
 ·rw[hp]at h2;cases h2
def BP{α:Type}{r:List α}(h:bG ([]:List α) []=aa r):r=[]:=by have h2:bG ([]:List α) []=aa []:=rfl;rw[h2]at h;exact(jP h).symm
end
section
variable {D:Nat->Type} [∀n,ad (D n)]
variable {T:bc D}
def akq(T:bc D)(c:aA D)(γ:Gh D)(w:ay)(r:HH D c.outs)(v:ah)(w':ay):Prop:=
 ∃U' γ' rs kl,g9 T (dH T c.outs r) aa id 3000 c.jU=aa rs∧jF T (dH T c.outs r) aa id 3000 c.b8=aa kl∧
  vX U' γ' w' rs v∧(∀p x,dw kl p=aa x->OR U' γ' w' p x)∧(∀p,(p,p)∈stay c->γ'.g p=γ.g p)∧Frame0 γ w γ' w'
def qJ{c:aA D}{γ:Gh D}{w w':ay}{rr:HH D c.outs}{v:ah}{n e q:Nat}{K M N:List Nat}{o':cB}{r:List (D n)}
  (h1:g9 T (dH T c.outs rr) aa id 3000 c.jU=aa [.one (.own q)]) (h2:jF T (dH T c.outs rr) aa id 3000 c.b8=aa [(q,aa (.sl n e r K 3000))]) (h3:stay c=[])
  (hM:∀x∈M,1000<=x) (hN:∀x∈N,1000<=x) (ev:bP M N γ.o w o' w') (kn:Ow e o' q K w' v r) (hK:ek K):akq T c γ w rr v w':=by
 refine⟨λ_=>True,⟨o',λ_=>v,λ_=>⟨.sl n,r⟩⟩,_,_,h1,h2,⟨trivial,rfl,kn.one⟩,λp x hx=>?_,(λp hp=>by rw[h3]at hp;cases hp),ev.os,ev.tape,ev.output,ev.size,λb hb hc=>⟨ev.gY b hb,ev.rR b hb λhm=>?_⟩,λb hb hc=>?_⟩
 ·have hb:aF [(q,aa (AO.sl n e r K 3000))] p=aa (aa x):=by
   unfold dw at hx;split at hx
   ·rename_i y hy;rw[hy];cases hx;rfl
   ·cases hx
  obtain⟨rfl,hy⟩:=nF hb;cases hy;exact⟨kn,hK,.inr ⟨trivial,rfl⟩⟩
 ·have:=hM _ hm;omega
 ·have hc:o' b=0∨o' b=3:=hc;by_cases aV:b<w.heap.size
  ·exact⟨aV,(ev.gY b aV).symm⟩
  ·have:=hN _ (ev.new b (by omega) hb);omega
