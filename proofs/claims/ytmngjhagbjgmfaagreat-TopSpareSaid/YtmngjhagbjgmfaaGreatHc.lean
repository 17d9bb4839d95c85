import Derived.Test.YtmngjhagbjgmfaaGreatRp
set_option linter.all false
open Go renaming Value->ah,World->ax
open Option renaming some->aa
open Option.some renaming inj->jM
namespace Go.Proofs.YtmngjhagbjgmfaaGreat
open Go Go.RowKit Dp
namespace Rx
section
variable {P:Program} {n:Nat} {Q:Exit->Act->ax->Prop} {L:List (Nat×ah)} {w:ax} {ops:Array Oper} {rest:List Oper}
def CW.sr [Rd]{id:Nat}{l:List Oper}{y:Code}(h:∀K:Act->ax->Prop,(∀L' w',CW P n y Q L' w'->NK n K L' w')->WL P n l.toArray (Exit.then K Q) l L w):CW P n (.seq (.region id l.toArray false) y) Q L w:=CW.seq λK hK=>CW.region (h K hK)
def WL.nx [Rd]{y:Code}{K:Act->ax->Prop}{Q':Exit->Act->ax->Prop}(hK:∀L' w',CW P n y Q' L' w'->NK n K L' w')(h:CW P n y Q' L w):WL P n ops (Exit.then K Q) [] L w:=WL.nil (hK _ _ h)
def WL.p [I:Rd]{d:Nat}{op:Op}{ty:TypeId}{pos:String}{af:Array Edge}(v:ah)(h:Dp.pv L op=aa v)(hd:I.eX n d=true)(k:WL P n ops Q rest ((d,v)::L) w):WL P n ops Q (⟨aa d,op,ty,pos,af,none⟩::rest) L w:=WL.v h hd k
variable {d:Option Nat} {ty:TypeId} {pos:String} {af:Array Edge} {g:Option (Nat×Bool)} {t e t2:TypeId}
def OW.isNil [Rd]{u:Operand}{a:Option Addr}{n c:Nat}(hu:P.underlying t=aa (.slice e))(hx:ev L u=aa (.slice a n c)):
  OW P Q L ⟨d,.binOp .eql t u (.const (.slice none 0 0)) t2,ty,pos,af,g⟩ w (λv' w'=>v'= .bool a.isNone∧w'=w):=by
 refine OW.run λb hb=>⟨_,w,?_,rfl,rfl⟩
 have h1:=hb _ _ hx
 have h2:b.eval (.const (.slice none 0 0))= .slice none 0 0:=rfl
 have h3:(binOp .eql t (.slice a n c) (.slice none 0 0)).run P w= .ok (.bool a.isNone) w:=by
  have h4:∀d:Nat,(Op.equalIn (d+1) t (.slice a n c) (.slice none 0 0)).run P w= .ok a.isNone w:=λd=>by cases a<;>simp[Op.equalIn,run_underlying hu]
  simp only[binOp];simp[Op.equal,Op.maxDepth,h4 9999]
 simp[execOp,h1,h2,eqGuard,h3]
def zI{α:Type}[ad α]{S:Nat->Prop}{v:ah}{xs:List α}(h:Rv S w v xs):∃a n c,v= .slice a n c∧(a=none->xs=[]):=by
 obtain⟨p,cap,h1,_,_,h2⟩:=uW h;refine⟨p,_,cap,h1,λhp=>?_⟩;rcases h2 with h2|⟨a,aJ,h2,_⟩
 ·exact h2
 ·rw[hp]at h2;cases h2
def BL{α:Type}{r:List α}(h:bF ([]:List α) []=aa r):r=[]:=by have h2:bF ([]:List α) []=aa []:=rfl;rw[h2]at h;exact(jM h).symm
end
section
variable {D:Nat->Type} [∀n,ad (D n)]
variable {T:bb D}
def akm(T:bb D)(c:az D)(γ:Gh D)(w:ax)(r:HH D c.outs)(v:ah)(w':ax):Prop:=
 ∃U' γ' rs ke,gX T (dE T c.outs r) aa id 3000 c.jR=aa rs∧jC T (dE T c.outs r) aa id 3000 c.b7=aa ke∧
  vS U' γ' w' rs v∧(∀p x,dt ke p=aa x->OR U' γ' w' p x)∧(∀p,(p,p)∈stay c->γ'.g p=γ.g p)∧Frame0 γ w γ' w'
def qF{c:az D}{γ:Gh D}{w w':ax}{rr:HH D c.outs}{v:ah}{n e q:Nat}{K M N:List Nat}{o':cA}{r:List (D n)}
  (h1:gX T (dE T c.outs rr) aa id 3000 c.jR=aa [.one (.own q)]) (h2:jC T (dE T c.outs rr) aa id 3000 c.b7=aa [(q,aa (.sl n e r K 3000))]) (h3:stay c=[])
  (hM:∀x∈M,1000<=x) (hN:∀x∈N,1000<=x) (ev:bO M N γ.o w o' w') (kj:Ow e o' q K w' v r) (hK:eh K):akm T c γ w rr v w':=by
 refine⟨λ_=>True,⟨o',λ_=>v,λ_=>⟨.sl n,r⟩⟩,_,_,h1,h2,⟨trivial,rfl,kj.one⟩,λp x hx=>?_,(λp hp=>by rw[h3]at hp;cases hp),ev.os,ev.tape,ev.output,ev.size,λb hb hc=>⟨ev.gV b hb,ev.rO b hb λhm=>?_⟩,λb hb hc=>?_⟩
 ·have hb:aE [(q,aa (AO.sl n e r K 3000))] p=aa (aa x):=by
   unfold dt at hx;split at hx
   ·rename_i y hy;rw[hy];cases hx;rfl
   ·cases hx
  obtain⟨rfl,hy⟩:=nC hb;cases hy;exact⟨kj,hK,.inr ⟨trivial,rfl⟩⟩
 ·have:=hM _ hm;omega
 ·have hc:o' b=0∨o' b=3:=hc;by_cases aU:b<w.heap.size
  ·exact⟨aU,(ev.gV b aU).symm⟩
  ·have:=hN _ (ev.new b (by omega) hb);omega
