import Derived.Test.YtgaghlbepnjhiaaGreatRj
import Derived.Orders
set_option linter.all false
open Bool renaming and_eq_true->bt,false->ae,false_eq_true->aC,not_eq_true'->p9,or_eq_true->sj,true->ab
open Go renaming Oper->aV,Value->ai,World->ax
open List renaming all_eq_true->dX,mem_append->bg,mem_cons->cj,mem_cons_of_mem->eR,mem_filter->kH,mem_map->dk,mem_singleton->cY,take_append_drop->od
open Nat renaming beq->aW,eq_of_beq_eq_true->bA,le_of_ble_eq_true->dw,le_refl->bw
open Option renaming some->aa
open Option.some renaming injEq->fK
open Prod renaming fst->bV,snd->oY
open Sum renaming elim_inl->bx,elim_inr->bE
namespace Go.Proofs.YtgaghlbepnjhiaaGreat
open Go Go.RowKit Dp
namespace Rx
section
variable {D:Nat->Type} [∀n,ad (D n)]
variable {T:bc D} {U0 U1 U2:Nat->Prop} {fg γ aQ bf:Gh D} {w0 w w1:ax}
structure Kn(σ:S D)(γ:Gh D)(w:ax)(L:List (Nat×ai)):Prop where
 sr:SR (λi=>i<σ.nx) γ w σ.sl L
 ob:OB (λi=>i<σ.nx) γ w σ.ob
 cO:2000<=σ.nx
structure ck(wr:List Nat)(σ be:S D):Prop where
 sl:∀t,t∉wr->aF be.sl t=aF σ.sl t
 lk:be.lk=σ.lk
 ob:∀i∈σ.lk,aF be.ob i=aF σ.ob i
 nx:σ.nx<=be.nx
def ck.refl(wr:List Nat)(σ:S D):ck wr σ σ:=⟨λ_ _=>rfl,rfl,λ_ _=>rfl,bw _⟩
def ck.trans{wr:List Nat}{σ aO bL:S D}(h:ck wr σ aO)(k:ck wr aO bL):ck wr σ bL:=⟨λt ht=>(k.sl t ht).trans (h.sl t ht),k.lk.trans h.lk,λi hi=>(k.ob i (by rw[h.lk];exact hi)).trans (h.ob i hi),Nat.le_trans h.nx k.nx⟩
def ck.mono{wr ZR:List Nat}{σ aO:S D}(h:ck wr σ aO)(hs:∀t∈wr,t∈ZR):ck ZR σ aO:=⟨λt ht=>h.sl t λhm=>ht (hs t hm),h.lk,h.ob,h.nx⟩
structure Yk(U0 U1 U2:Nat->Prop)(aQ bf:Gh D):Prop where
 u:∀i,U0 i->U2 i∧bf.g i=aQ.g i∧bf.v i=aQ.v i
 ro:∀b,aQ.o b<2->bf.o b=aQ.o b
section
variable (t:Yk U0 U1 U2 aQ bf)
include t
theorem Yk.mem{K:List Nat}(hK:eo K):∀b,In aQ.o K b->b<w.heap.size->In bf.o K b∧w.heap[b]? =w.heap[b]? :=λb hb _=>by refine⟨?_,rfl⟩;unfold In at hb⊢;rw[t.ro b (hK _ hb)];exact hb
theorem named.two{g:Nat}{d:DV D}(h1:named U1 aQ g d)(h0:named U0 fg g d):named U2 bf g d:=by
 rcases h0 with h0|⟨h0,_⟩
 ·exact .inl h0
 ·rcases h1 with h1|⟨_,h1⟩
  ·exact .inl h1
  ·obtain⟨k1,_,k3⟩:=t.u _ h0;exact .inr ⟨k1,by rw[k3];exact h1⟩
theorem rW.two:∀{a:A0 D} {v v0:ai},rW U1 aQ w a v->rW U0 fg w0 a v0->rW U2 bf w a v
 | .ptr i off,v,v0,⟨_,b,h1,h2⟩,⟨h0,_⟩=>by obtain⟨k1,k2,_⟩:=t.u i h0;exact⟨k1,b,by rw[k2];exact h1,h2⟩
 | .rp n x off K,v,v0,⟨pa,h1,h2,h3⟩,_=>⟨pa,h1,h2.mono (t.mem h3),h3⟩
theorem nB.two:∀{as:List (A0 D)} {vs wD:List ai},nB U1 aQ w as vs->nB U0 fg w0 as wD->nB U2 bf w as vs
 |[],[],_,_,_=>trivial
 |a::as,v::vs,v0::wD,h,h0=>⟨rW.two t h.1 h0.1,nB.two h.2 h0.2⟩
 |a::as,v::vs,[],_,h0=>h0.elim
 |[],_::_,_,h,_=>h.elim
 |_::_,[],_,h,_=>h.elim
theorem fY.two:∀{a:A1 D} {v v0:ai},fY U1 aQ w a v->fY U0 fg w0 a v0->fY U2 bf w a v
 | .v l d K g,v,v0,⟨h1,h2,h3⟩,h0=>⟨h1.mono (t.mem h3),named.two t h2 h0.2.1,h3⟩
 | .ptr i off,v,v0,⟨_,b,h1,h2⟩,⟨h0,_⟩=>by obtain⟨k1,k2,_⟩:=t.u i h0;exact⟨k1,b,by rw[k2];exact h1,h2⟩
 | .el i n j y off tc tj,v,v0,⟨h1,h2,⟨xs,h3,h4⟩,h5,b,f,len,cap,h6,h7⟩,⟨k1,k2,_,k5,_⟩=>by obtain⟨m1,m2,_⟩:=t.u i k1;obtain⟨n1,_,n3⟩:=t.u tc k2.2;exact⟨m1,⟨h2.1,n1⟩,⟨xs,by rw[n3];exact h3,h4⟩,named.two t h5 k5,b,f,len,cap,by rw[m2];exact h6,h7⟩
 | .rp n x off K,v,v0,⟨pa,h1,h2,h3⟩,_=>⟨pa,h1,h2.mono (t.mem h3),h3⟩
 | .vb n xs K g b,v,v0,⟨⟨h1,h2,h3⟩,h4⟩,h0=>⟨⟨dI.mono (d:=⟨.sl n,xs⟩) (t.mem h3) h1,named.two t h2 h0.1.2.1,h3⟩,h4⟩
 | .own i,v,v0,⟨_,h1,h2⟩,⟨h0,_⟩=>by obtain⟨k1,k2,_⟩:=t.u i h0;exact⟨k1,by rw[k2];exact h1,h2⟩
 | .fn f jo,v,v0,⟨cs,h1,h2⟩,⟨cs0,_,h0⟩=>⟨cs,h1,nB.two t h2 h0⟩
 | .ch i n j off ct m d,v,v0,⟨h1,h2,⟨xs,y,h3,h4⟩,⟨b,len,cap,cells,h5,h6,h7⟩,h8⟩,⟨k1,k2,_⟩=>by obtain⟨m1,m2,_⟩:=t.u i k1;obtain⟨n1,n2,n3⟩:=t.u ct k2.2;exact⟨m1,⟨h2.1,n1⟩,⟨xs,y,by rw[n3];exact h3,h4⟩,⟨b,len,cap,cells,by rw[m2];exact h5,by rw[n2];exact h6,h7⟩,h8⟩
 | .zh i s,v,v0,⟨h1,h2,h3,h4⟩,⟨k1,k2,_⟩=>by obtain⟨m1,_,_⟩:=t.u i k1;obtain⟨n1,n2,_⟩:=t.u s k2;exact⟨m1,n1,by rw[n2];exact h3,h4⟩
 | .tail i n j,v,v0,⟨h1,h2⟩,⟨k1,_⟩=>by obtain⟨m1,m2,_⟩:=t.u i k1;exact⟨m1,by rw[m2];exact h2⟩
 | .pre i n j,v,v0,⟨h1,h2⟩,⟨k1,_⟩=>by obtain⟨m1,m2,_⟩:=t.u i k1;exact⟨m1,by rw[m2];exact h2⟩
 | .tt n xs K,v,v0,⟨⟨aJ,h1,h2⟩,h3⟩,_=>⟨⟨aJ,h1,h2.mono λ_ _=>ad.mono (t.mem h3)⟩,h3⟩
 | .bH,v,v0,h,_=>h
 | .sF,v,v0,h,_=>h
 | .DM,v,v0,h,_=>h
 | .undef,v,v0,h,_=>h
 | .zS,v,v0,h,_=>h
 | .wU,v,v0,h,_=>h
theorem dj.two:∀{as:List (A1 D)} {vs wD:List ai},dj U1 aQ w as vs->dj U0 fg w0 as wD->dj U2 bf w as vs
 |[],[],_,_,_=>trivial
 |a::as,v::vs,v0::wD,h,h0=>⟨fY.two t h.1 h0.1,dj.two h.2 h0.2⟩
 |a::as,v::vs,[],_,h0=>h0.elim
 |[],_::_,_,h,_=>h.elim
 |_::_,[],_,h,_=>h.elim
theorem nA.two:∀{a:AC D} {v v0:ai},nA U1 aQ w a v->nA U0 fg w0 a v0->nA U2 bf w a v
 | .one a,v,v0,h,h0=>fY.two t h h0
 | .agg l,v,v0,⟨us,h1,h2⟩,⟨Rp,_,h0⟩=>⟨us,h1,dj.two t h2 h0⟩
theorem jr.two:∀{as:List (AC D)} {vs wD:List ai},jr U1 aQ w as vs->jr U0 fg w0 as wD->jr U2 bf w as vs
 |[],[],_,_,_=>trivial
 |a::as,v::vs,v0::wD,h,h0=>⟨nA.two t h.1 h0.1,jr.two h.2 h0.2⟩
 |a::as,v::vs,[],_,h0=>h0.elim
 |[],_::_,_,h,_=>h.elim
 |_::_,[],_,h,_=>h.elim
theorem gW.two:∀{a:AV D} {v v0:ai},gW U1 aQ w a v->gW U0 fg w0 a v0->gW U2 bf w a v
 | .c x,v,v0,h,h0=>nA.two t h h0
 | .dY l,v,v0,⟨us,h1,h2⟩,⟨Rp,_,h0⟩=>⟨us,h1,jr.two t h2 h0⟩
theorem OR.two{i:Nat}(hi:U0 i)(hc:∀b,aQ.o b=i->bf.o b=i):∀{x:AO D},OR U1 aQ w i x->OR U0 fg w0 i x->OR U2 bf w i x
 | .box cs,⟨b,us,ty,h1,h2,h3,h4,h5⟩,⟨_,Rp,_,_,_,_,h0,_⟩=>by obtain⟨k1,k2,_⟩:=t.u i hi;exact⟨b,us,ty,by rw[k2];exact h1,hc b h2,h3,dj.two t h4 h0,h5⟩
 | .sl n ty xs K g,⟨h1,h2,h3⟩,⟨_,_,h0⟩=>by
   obtain⟨k1,k2,_⟩:=t.u i hi;refine⟨?_,h2,named.two t h3 h0⟩;rw[k2];rcases h1 with h1|⟨g,f,cap,aU,aJ,e1,e2,e3,e4,e5,e6,e7,e8⟩
   ·exact .inl h1
   ·exact .inr ⟨g,f,cap,aU,aJ,e1,hc g e2,e3,e4,e5,e6,e7.mono λ_ _=>ad.mono (t.mem h2),e8⟩
 | .df n ty tc q xs g h,⟨h1,h2,h3⟩,⟨_,VQ,IA⟩=>by
   obtain⟨k1,k2,_⟩:=t.u i hi;obtain⟨m0,m1⟩:=DS (v:=aQ.g i) (o:=aQ.o) (o':=bf.o) (i:=i) (i':=i) (w:=w) (w':=w) λb _ hb=>⟨hc b hb,rfl⟩;refine⟨by rw[k2];exact h1.mono m0 m1,named.two t h2 VQ,?_⟩;rcases IA with IA|⟨IA,_⟩
   ·exact .inl IA
   ·rcases h3 with h3|⟨_,h4,h5⟩
    ·exact .inl h3
    ·obtain⟨n1,n2,n3⟩:=t.u h IA;exact .inr ⟨n1,by rw[n3];exact h4,h5.mono k2 n2 λ_ _ _ _=>rfl⟩
 | .iH n ty tc q xs j off s g,⟨h1,h2,b,len,cap,h3,h4⟩,⟨h01,VQ,_⟩=>by obtain⟨k1,k2,_⟩:=t.u i hi;obtain⟨n1,n2,_⟩:=t.u s VQ;obtain⟨m0,m1⟩:=DS (v:=aQ.g i) (o:=aQ.o) (o':=bf.o) (i:=i) (i':=i) (w:=w) (w':=w) λb _ hb=>⟨hc b hb,rfl⟩;exact⟨named.two t h1 h01,n1,b,len,cap,by rw[k2];exact h3,by rw[k2,n2];exact h4.mono m0 m1⟩
 | .fz n xs K,⟨h1,h2⟩,_=>by obtain⟨k1,k2,_⟩:=t.u i hi;exact⟨by rw[k2];exact dI.mono (d:=⟨.sl n,xs⟩) (t.mem h2) h1,h2⟩
 | .mp n xs,h,_=>by obtain⟨k1,k2,_⟩:=t.u i hi;show rX bf.o i w (bf.g i) xs;rw[k2];exact rX.mono h λb _ hb=>⟨hc b hb,rfl⟩
end
def AE{α:Type}{f:Nat->Bool}:∀{l:List (Nat×α)} {t:Nat},aF (l.filter λp=>f p.1) t=if f t then aF l t else none
 |[],t=>by simp[aF]
 |p::r,t=>by
  have ih:=AE (f:=f) (l:=r) (t:=t);simp only[List.filter_cons,aF];cases hb:aW p.1 t with
  |true=>
   have:=bA hb;subst this;cases hf:f p.1 with
   |true=>simp[aF]
   |false=>simp[ih,hf]
  |false=>
   cases hf:f p.1 with
   |true=>simp[aF,hb,ih]
   |false=>simp[ih]
def akB{U:Nat->Prop}{sl:List (Nat×AV D)}{L:List (Nat×ai)}(hs:SR U γ w sl L):∀{js:List (Nat×PC)} {fp:List (AV D)},B6 sl js=aa fp->∃vs,nz U γ w fp vs∧js.length=vs.length∧∀(k t:Nat) (v:ai),(js.map bV)[k]? =aa t->vs[k]? =aa v->Dp.look L t=aa v
 |[],fp,h=>by cases h;exact⟨[],trivial,rfl,by simp⟩
 |(t,p)::js,fp,h=>by
  simp only[B6]at h;split at h
  case h_2=>cases h
  rename_i a b g1 g2;cases h;obtain⟨v,h1,h2⟩:=hs t a g1;obtain⟨vs,k1,k2,k3⟩:=akB hs g2;refine⟨v::vs,⟨h2,k1⟩,by simp[k2],λk t' v' ht hv=>?_⟩;cases k with
  |zero=>cases ht;cases hv;exact h1
  |succ k=>exact k3 k t' v' (by simpa using ht) (by simpa using hv)
def Y1{U:Nat->Prop}{L:List (Nat×ai)}:∀{ts:List Nat} {as:List (AC D)} {vs:List ai} {t:Nat} {a:AV D},jr U γ w as vs->(∀(k t:Nat) (v:ai),ts[k]? =aa t->vs[k]? =aa v->Dp.look L t=aa v)->aF (qy.sk ts as) t=aa a->∃v,Dp.look L t=aa v∧gW U γ w a v
 |[],as,vs,t,a,_,_,h=>by simp[qy.sk,aF]at h
 |t0::ts,[],vs,t,a,_,_,h=>by simp[qy.sk,aF]at h
 |t0::ts,a0::as,vs,t,a,hv,hl,h=>by
  cases vs with
  |nil=>exact hv.elim
  |cons v vs=>
   simp only[qy.sk,aF]at h;cases hb:aW t0 t with
   |true=>have:=bA hb;subst this;simp only[hb,wi,fK]at h;subst h;exact⟨v,hl 0 _ _ rfl rfl,hv.1⟩
   |false=>simp only[hb,sd]at h;exact Y1 hv.2 (λk t v ht hv=>hl (k+1) t v (by simpa using ht) (by simpa using hv)) h
def QK:∀{ts:List Nat} {as:List (AC D)} {t:Nat} {a:AV D},aF (qy.sk ts as) t=aa a->t∈ts
 |[],as,t,a,h=>by simp[qy.sk,aF]at h
 |t0::ts,[],t,a,h=>by simp[qy.sk,aF]at h
 |t0::ts,a0::as,t,a,h=>by
  simp only[qy.sk,aF]at h;cases hb:aW t0 t with
  |true=>have:=bA hb;subst this;simp
  |false=>simp only[hb,sd]at h;exact eR _ (QK h)
def vV{a b:List Nat}(h:qS a b=ab){x:Nat}(hx:x∈a):x∉b:=by have:=dX.1 h x hx;simp only[p9]at this;exact pC this
def kP(m:M D)(dn:List Nat)(N:Nat)(x:Nat):Nat:=match aF (swap m.ids) x with
 |some p=>p
 |none=>if bP m.ku x then 1 else if bP dn x&&Nat.blt x N then x else if x<4 then x else 2
structure zA(T:bc D)(j:J)(σ:S D)(h:HH D j.cP):Prop where
 ex:∃fp l m,B6 σ.sl j.sl=aa fp∧Q.R σ.ob (BI T ae j.nx j.cP (j.sl.map oY) j.ob j.fU σ.nx fp) l (h,m)∧qS (m.ids.map oY) σ.lk=ab∧qS m.ku σ.lk=ab
def sW{ρ:Type}{j:J}{σ:S D}{k:HH D j.cP->Option ρ}{r:ρ}(h:qO T j σ k=aa r):∃x,zA T j σ x∧k x=aa r:=by
 unfold qO at h;split at h
 case h_2=>cases h
 rename_i fp ha;obtain⟨l,x,h1,h2⟩:=Q.IC h;split at h2
 case isFalse=>cases h2
 rename_i hc;simp only[bt]at hc;obtain⟨h,m⟩:=x;exact⟨h,⟨fp,l,m,ha,h1,hc.1,hc.2⟩,h2⟩
def AL(hR:cK T){σ aO bL:S D}{L L1:List (Nat×ai)}{wr mv:List Nat}{j:J}{h:HH D j.cP}{lk:List Nat}(oK:lk=(kept σ mv).map bV++σ.lk)
  (hk:Kn σ γ w L) (eK:Kn aO aQ w1 L1) (he:ck wr {σ with lk:=lk} aO) (hx:zA T j aO h) (hi:lF T j wr mv σ h=aa bL):
  ∃bf,Kn bL bf w1 L1∧Frame aQ w1 bf w1∧ck wr {σ with lk:=lk} {bL with lk:=lk}∧bL.lk=σ.lk:=by
 obtain⟨fp,l,m,ha,hq,yV,uj⟩:=hx.ex
 obtain⟨vs,AX,hlen,Nu⟩:=akB eK.sr ha
 obtain⟨⟨hex,Eg⟩,vK⟩:=N7 hR eK.ob hq AX
 unfold lF at hi
 split at hi
 case isFalse=>cases hi
 rename_i hc
 simp only[bt,dX,p9]at hc
 obtain⟨⟨⟨ub,oJ⟩,vI⟩,Ed⟩:=hc
 have ub:=dw ub
 dsimp only at hi hex Eg vK
 split at hi
 case h_2=>cases hi
 rename_i sa sb rG Uu
 cases hi
 have au8:aO.lk=lk:=he.lk
 rw[au8]at yV uj
 have Np:∀p i,(p,i)∈m.ids->p<j.nx∧(σ.nx<=p∨p=i)∧p∉lk:=λp i hp=>by
  obtain⟨q,hq⟩:=sH (hex.key p i hp);obtain⟨⟨k1,k2⟩,k3⟩:=oJ _ hq;refine⟨dw k1,?_,by rw[oK];exact pC k3⟩;rw[sj]at k2;rcases k2 with k2|k2
  ·exact .inl (dw k2)
  ·exact .inr (hex.Ud p p i (hex.Uc _ (dk.2 ⟨_,kH.2 ⟨hq,k2⟩,rfl⟩)) hp)
 have Bk:∀i,i∈(kept σ mv).map bV->(∀p,(p,i)∉m.ids)∧i∉m.ku∧i∈lk:=λi hi=>by
  have lI:i∈lk:=by rw[oK];exact bg.2 (.inl hi)
  exact⟨λp hp=>vV yV (dk.2 ⟨_,hp,rfl⟩) lI,λhu=>vV uj hu lI,lI⟩
 obtain⟨bf,AS⟩:∃bf:Gh D,bf=⟨λb=>kP m ((kept σ mv).map bV) σ.nx (aQ.o b),qL aQ m,gm aQ.v j.nx (dK T j.cP h)⟩:=⟨_,rfl⟩
 have auz:∀p i,(p,i)∈m.ids->kP m ((kept σ mv).map bV) σ.nx i=p:=λp i hp=>by unfold kP;rw[MW hex.ids hp]
 have uc:∀x,(∀p,(p,x)∉m.ids)->aF (swap m.ids) x=none:=λx hn=>by
  cases hl:aF (swap m.ids) x with
  |none=>rfl
  |some p=>exact(hn p (wF.1 (dS hl))).elim
 have auy:∀i,i∈(kept σ mv).map bV->i<σ.nx->kP m ((kept σ mv).map bV) σ.nx i=i:=λi hi gI=>by
  obtain⟨k1,k2,_⟩:=Bk i hi;unfold kP;rw[uc i k1];have h1:bP m.ku i=ae:=by
   cases hm:bP m.ku i with
   |true=>exact(k2 (eA.1 hm)).elim
   |false=>rfl
  have h2:Nat.blt i σ.nx=ab:=Nat.ble_eq_true_of_le gI;simp only[h1,aC,aB,eA.2 hi,h2,Bool.and_self,aH]
 have yL:∀x,x<4->kP m ((kept σ mv).map bV) σ.nx x=x:=λx hx=>by
  unfold kP;rw[uc x λp hp=>by have:=hex.D1 p x hp;omega];have h1:bP m.ku x=ae:=by
   cases hm:bP m.ku x with
   |true=>have:=(hex.ku x (eA.1 hm)).1;omega
   |false=>rfl
  simp only[h1,aC,aB];split
  ·rfl
  ·first|rfl|rw[aI hx]
 have Uy:∀x,x∈m.ku->kP m ((kept σ mv).map bV) σ.nx x=1:=λx hx=>by unfold kP;rw[uc x (hex.ku x hx).2];simp only[eA.2 hx,aH]
 have adX:∀x,(∃p,(p,x)∈m.ids∧kP m ((kept σ mv).map bV) σ.nx x=p)∨kP m ((kept σ mv).map bV) σ.nx x=1∨(kP m ((kept σ mv).map bV) σ.nx x=x∧(x<σ.nx∨x<4))∨kP m ((kept σ mv).map bV) σ.nx x=2:=λx=>by
  unfold kP;cases hl:aF (swap m.ids) x with
  |some p=>exact .inl ⟨p,wF.1 (dS hl),rfl⟩
  |none=>
   right;dsimp only;split
   ·exact .inl rfl
   ·split
    ·rename_i hm;simp only[bt]at hm;exact .inr (.inl ⟨rfl,.inl (dw hm.2)⟩)
    ·split
     ·rename_i hm;exact .inr (.inl ⟨rfl,.inr hm⟩)
     ·exact .inr (.inr rfl)
 have Bz:Fin T (λi=>i<aO.nx) (λi=>i<j.nx+(dK T j.cP h).length) aQ bf w1 m (dK T j.cP h) j.nx:=by
  subst AS;refine⟨hex.dv,λp i hp=>⟨?_,ID hex hp⟩,λi x hx=>?_,λ_ p hp Uh hU=>⟨?_,?_⟩,λK Kp eE hK xg b hb=>?_,λq K Kp hq eE hK xg b hb=>?_,λi d hd=>?_⟩
  ·have:=Np p i hp;show p<j.nx+_;omega
  ·have:=(hex.new _ hx).1;simp only at this;show ¬i<aO.nx;omega
  ·rw[hex.ZQ]at Uh;show p<j.nx+_;omega
  ·show qL aQ m p=aQ.g p;unfold qL;cases hl:aF m.ids p with
   |none=>rfl
   |some i=>have:=hex.key p i (dS hl);rw[hex.po_]at hp;rw[hp]at this;cases this
  ·unfold M.may at eE;rw[hex.BV]at eE;simp only[aC,aB,Gt,dX]at eE;have hb:aQ.o b∈K:=hb;show kP m _ _ (aQ.o b)∈Kp;rw[yL _ (by have:=hK _ hb;omega)];exact eA.1 (eE _ hb)
  ·unfold M.may at eE;rw[hex.BV]at eE;simp only[aC,aB,Gt,dX]at eE;have hb:aQ.o b∈q::K:=hb;show kP m _ _ (aQ.o b)∈Kp;rcases cj.1 hb with hb|hb
   ·rw[hb,Uy q hq];exact eA.1 (eE 1 (by simp))
   ·rw[yL _ (by have:=hK _ hb;omega)];exact eA.1 (eE _ (by simp[hb]))
  ·refine .inr ⟨?_,Hl hd⟩;have:=(List.getElem?_eq_some_iff.1 hd).1;show j.nx+i<_;omega
 have By:FT aQ bf m:=⟨λp i hp b hb=>by subst AS;show kP m _ _ (aQ.o b)=p;rw[hb];exact auz p i hp⟩
 obtain⟨g1,g2⟩:=vK Bz By
 have Nh:Yk (λi=>i<σ.nx) (λi=>i<aO.nx) (λi=>i<j.nx+(dK T j.cP h).length) aQ bf:=by
  subst AS;refine⟨λi hi=>⟨?_,?_,?_⟩,λb hb=>yL _ (by omega)⟩
  ·show i<_;have hi:i<σ.nx:=hi;omega
  ·show qL aQ m i=aQ.g i;unfold qL;cases hl:aF m.ids i with
   |none=>rfl
   |some x=>
    have hi:i<σ.nx:=hi;rcases(Np i x (dS hl)).2.1 with h1|rfl
    ·omega
    ·have HV:aF m.new i=none:=by
      cases hn:aF m.new i with
      |none=>rfl
      |some y=>have:=(hex.new _ (dS hn)).1;have:=he.nx;simp only at*;omega
     simp only[HV]
  ·exact Tl (.inl (by have hi:i<σ.nx:=hi;omega))
 have auw:∀b,aQ.o b<4->bf.o b=aQ.o b:=λb hb=>by subst AS;exact yL _ hb
 refine⟨bf,⟨λt a t_=>?_,⟨λi x jC=>?_,λb hb=>?_,λx hx=>?_⟩,?_⟩,⟨⟨rfl,rfl,rfl,bw _,λb hb hc=>⟨auw b (by omega),rfl⟩,λb hb hc=>⟨hb,?_⟩⟩,λi hi=>(Nh.u i (by have:=hk.cO;show i<σ.nx;omega)).2.1⟩,⟨λt ht=>?_,rfl,λi hi=>?_,?_⟩,rfl⟩
 ·
  rw[kq]at t_
  unfold qy at rG
  split at rG
  case h_2=>cases rG
  rename_i j8 awl
  cases rG
  cases hl:aF (qy.sk (j.sl.map bV) j8) t with
  |some a'=>
   rw[hl]at t_
   cases t_
   exact Y1 (g1 j8 awl) Nu hl
  |none=>
   rw[hl]at t_
   dsimp only at t_
   rw[AE (f:=λt=> !(bP wr t))]at t_
   split at t_
   case isFalse=>cases t_
   rename_i rI
   have rI:t∉wr:=pC (by simpa using rI)
   have h1:aF aO.sl t=aa a:=(he.sl t rI).trans t_
   obtain⟨v,k1,k2⟩:=eK.sr t a h1
   obtain⟨v0,_,k3⟩:=hk.sr t a t_
   exact⟨v,k1,gW.two Nh k2 k3⟩
 ·
  unfold dC at jC
  rw[kq]at jC
  cases hl:aF sb i with
  |some y=>
   rw[hl]at jC
   cases y with
   |none=>cases jC
   |some y=>
    cases jC
    obtain⟨k1,k2,k3⟩:=g2 sb Uu i x (by unfold dC;rw[hl])
    obtain⟨q,hq⟩:=sH k1
    obtain⟨⟨_,k4⟩,_⟩:=oJ _ hq
    have:=hk.cO
    refine⟨?_,k2,k3⟩
    rw[sj]at k4
    rcases k4 with k4|k4
    ·have:=dw k4;simp only at*;omega
    ·exact hex.D1 i i (hex.Uc _ (dk.2 ⟨_,kH.2 ⟨hq,k4⟩,rfl⟩))
  |none=>
   rw[hl]at jC
   dsimp only at jC
   have sO:dC σ.ob i=aa x∧i∈(kept σ mv).map bV:=by
    unfold kept at jC⊢;rw[AE (f:=λt=> !(bP mv t))]at jC;by_cases hm:(!bP mv i)=ab
    ·rw[aI hm]at jC;refine⟨jC,?_⟩;cases ud:aF σ.ob i with
     |none=>rw[ud]at jC;cases jC
     |some y=>exact dk.2 ⟨(i,y),kH.2 ⟨dS ud,hm⟩,rfl⟩
    ·rw[aK hm]at jC;cases jC
   obtain⟨ni,H8⟩:=sO
   have h1:dC aO.ob i=aa x:=by have:=he.ob i (by show i∈lk;exact(Bk i H8).2.2);unfold dC at ni⊢;rw[this];exact ni
   obtain⟨k1,k2,k3⟩:=eK.ob.ob i x h1
   obtain⟨_,m2,m3⟩:=hk.ob.ob i x ni
   refine⟨k1,(Nh.u i m2).1,OR.two Nh m2 (λb hb=>?_) k3 m3⟩
   subst AS
   show kP m _ _ (aQ.o b)=i
   rw[hb]
   exact auy i H8 m2
 ·
  show bf.o b<j.nx+_
  subst AS
  show kP m _ _ (aQ.o b)<_
  have:=hk.cO
  rcases adX (aQ.o b)with⟨p,h1,h2⟩|h1|⟨h1,h2⟩|h1
  ·have:=Np p _ h1;omega
  ·omega
  ·rw[h1];omega
  ·omega
 ·show x<j.nx+_;have:=hk.cO;omega
 ·show 2000<=j.nx+_;have:=hk.cO;omega
 ·
  subst AS
  show aQ.o b=kP m _ _ (aQ.o b)
  have hc:kP m ((kept σ mv).map bV) σ.nx (aQ.o b)=0∨kP m ((kept σ mv).map bV) σ.nx (aQ.o b)=3:=hc
  have:=hk.cO
  rcases adX (aQ.o b)with⟨p,h1,h2⟩|h1|⟨h1,h2⟩|h1
  ·have:=Np p _ h1;omega
  ·omega
  ·exact h1.symm
  ·omega
 ·
  show aF (sa++_) t=_
  rw[kq]
  have:aF sa t=none:=by
   unfold qy at rG;split at rG
   case h_2=>cases rG
   cases rG;cases hl:aF (qy.sk (j.sl.map bV) _) t with
   |none=>rfl
   |some a=>have:=QK hl;simp only[dk]at this;obtain⟨q,hq,rfl⟩:=this;exact(ht (eA.1 (vI _ hq))).elim
  rw[this]
  dsimp only
  rw[AE (f:=λt=> !(bP wr t))]
  rw[aI]
  cases hm:bP wr t with
  |true=>exact(ht (eA.1 hm)).elim
  |false=>rfl
 ·
  show aF (sb++kept σ mv) i=_
  rw[kq]
  have:aF sb i=none:=by
   cases hl:aF sb i with
   |none=>rfl
   |some y=>obtain⟨p,q,y',k1,k2,_⟩:=T5 Uu hl;cases k2;obtain⟨⟨_,_⟩,k3⟩:=oJ _ k1;have et:i∈lk:=hi;rw[oK]at et;exact(pC k3 et).elim
  rw[this]
  unfold kept
  dsimp only
  rw[AE (f:=λt=> !(bP mv t)),aI]
  cases hm:bP mv i with
  |true=>
   have et:i∈lk:=hi
   rw[oK]at et
   rcases bg.1 et with et|et
   ·unfold kept at et;simp only[dk,kH]at et;obtain⟨q,⟨_,hq⟩,rfl⟩:=et;rw[hm]at hq;cases hq
   ·exact(vV Ed (eA.1 hm) et).elim
  |false=>rfl
 ·show σ.nx<=j.nx+_;omega
end
end Rx
end Go.Proofs.YtgaghlbepnjhiaaGreat
namespace Go.Proofs.YtgaghlbepnjhiaaGreat
open Go Go.RowKit Dp
namespace Rx
section
variable {D:Nat->Type} [∀n,ad (D n)]
variable {P:Program} {T:bc D} {Φ:List (az D)} {n:Nat} {γ:Gh D} {w:ax} {L:List (Nat×ai)} {Qx:Exit->Act->ax->Prop}
def nz.append{U:Nat->Prop}:∀{as:List (AV D)} {vs:List ai} {bs:List (AV D)} {us:List ai},nz U γ w as vs->nz U γ w bs us->nz U γ w (as++bs) (vs++us)
 |[],[],_,_,_,h=>h
 |a::as,v::vs,_,_,h,h'=>⟨h.1,nz.append h.2 h'⟩
 |[],_::_,_,_,h,_=>h.elim
 |_::_,[],_,_,h,_=>h.elim
def O_{U:Nat->Prop}:∀{cs:List (A0 D)} {vs:List ai},nB U γ w cs vs->nz U γ w (cs.map O') vs
 |[],[],_=>trivial
 |c::cs,v::vs,h=>by
  refine⟨?_,O_ h.2⟩;cases c with
  |ptr i off=>exact h.1
  |rp n x off K=>exact h.1
 |[],_::_,h=>h.elim
 |_::_,[],h=>h.elim
def ab8 [Rd](hP:ef P T)(hR:cK T)(cU:∀c∈Φ,gz P T c){U:Nat->Prop}{ar:Nat}{sl:List (Nat×AV D)}{ob:List (Nat×Option (AO D))}{d:Option Tmp}{ty:TypeId}{pos:String}{af:Array Edge}{gd:Option (Nat×Bool)}{e:de D}{l:List Nat}
  (hx:Cx U ar γ w sl L ob) {op:Op} {as:List (AV D)} (he:eX sl op.operands.toList=aa as) (h:Q.R ob (Av T Φ ar op as) l e):
  OW P Qx L ⟨d,op,ty,pos,af,gd⟩ w (λv w'=>∃γ',dW U ar γ w ob e γ' v w'):=by
 unfold Av at h
 split at h
 ·rename_i u O6 ts;have he:eX sl (u::O6.toList)=aa as:=by simpa[Op.operands,Call.operands]using he
  split at h
  case h_2=>cases h
  rename_i f jo j8 _;obtain⟨h1,h2⟩:=ux he;obtain⟨vu,k1,cs,rfl,k2⟩:=cG hx.sr h1;obtain⟨vs,k3,k4⟩:=afz hx.sr h2;split at h
  ·rename_i hf;have e0:xr f cs= .func (.func f) #[] cs.toArray:=aI hf;rw[e0]at k1;obtain⟨m1,m2⟩:=af_ hR cU hx (nz.append k4 (O_ k2)) h;have:=OW.azD (P:=P) (Q:=Qx) (L:=L) (w:=w) (d:=d) (ty:=ty) (pos:=pos) (af:=af) (g:=gd) (f:=f) (u:=u) (args:=O6.toList) (jo:=cs.toArray) (vs:=vs) (ats:=ts) m1 k1 k3 (by simpa using m2);simpa using this
  ·rename_i hf;have e0:xr f cs= .func (.func (f-1000000)) cs.toArray #[]:=aK (by rw[hf];decide);rw[e0]at k1;obtain⟨m1,m2⟩:=af_ hR cU hx (nz.append (O_ k2) k4) h;refine OW.abf λa hr=>⟨f-1000000,(cs++vs).toArray,?_,m2⟩;simp[execOp,resolve,invoke,Deferred.ofValue,hr _ _ k1,m1];exact EB hr _ k3
 ·exact ary hP hR hx he h
def rq(d:Option Tmp)(v:ai)(L:List (Nat×ai)):List (Nat×ai):=match d with
 |some d=>(d,v)::L
 |none=>L
def Fr.rq [I:Rd]{a:Act}(h:Fr n L a){d:Option Tmp}(hd:∀t,d=aa t->I.fb n t=ab)(v:ai):Fr n (rq d v L) (a.put d v):=by
 cases d with
 |none=>exact h
 |some t=>exact h.put (hd t rfl) v
def WL.take [I:Rd]{ops:Array aV}{rest:List aV}{o:aV}{R:ai->ax->Prop}(hd:∀t,o.dst=aa t->I.fb n t=ab)(hw:∀a,Fr n L a->Region.wanted o (yielded ops a.tmps)=ab)(h:OW P Qx L o w R)
  (k:∀v w',R v w'->WL P n ops Qx rest (rq o.dst v L) w'):WL P n ops Qx (o::rest) L w:=by
 intro a ha
 refine wpListIn_step λK hK=>?_
 rw[aI (hw a ha)]
 exact h a K (λx v hx=>ha.ev hx) λv w' hr=>hK _ _ (k v w' hr _ (Fr.rq ha hd v))
def WL.pass [I:Rd]{ops:Array aV}{rest:List aV}{o:aV}(hd:∀t,o.dst=aa t->I.fb n t=ab)(hw:∀a,Fr n L a->Region.wanted o (yielded ops a.tmps)=ae)
  (k:WL P n ops Qx rest (rq o.dst undef L) w):WL P n ops Qx (o::rest) L w:=by
 intro a ha
 refine wpListIn_step λK hK=>?_
 rw[aK (by rw[hw a ha];simp)]
 exact⟨λ_ _=>trivial,hK _ _ (k _ (Fr.rq ha hd _))⟩
def Q9 [Rd]{ops:List aV}{j d:Nat}{og:aV}{b:Bool}{a:Act}(ha:Fr n L a)(hj:ops[j]? =aa og)(hd:og.dst=aa d)(hl:Dp.look L d=aa (.bool b)):yielded ops.toArray a.tmps j=aa b:=by have:=ha.get d _ hl;simp[yielded,hj,hd,this]
def ZP [Rd]{ops:List aV}{j d:Nat}{og:aV}{a:Act}(ha:Fr n L a)(hj:ops[j]? =aa og)(hd:og.dst=aa d)(hl:Dp.look L d=aa undef):yielded ops.toArray a.tmps j=none:=by have:=ha.get d _ hl;simp[yielded,hj,hd,this,undef]
def aD0(N:Nat):jG (λi=>i<N) N=λi=>i<N+128:=by funext i;unfold jG;apply propext;omega
def Kn.cx{σ:S D}(h:Kn σ γ w L):Cx (λi=>i<σ.nx) σ.nx γ w σ.sl L σ.ob:=⟨h.sr,h.ob,λi h1 h2 h3=>by omega,by have:=h.cO;omega⟩
def Kn.ap{σ:S D}{γ':Gh D}{w':ax}{v:ai}{e:de D}(h:Kn σ γ w L)(hp:dW (λi=>i<σ.nx) σ.nx γ w σ.ob e γ' v w')(d:Option Tmp):Kn (zq σ d e) γ' w' (rq d v L):=by
 have fE:=hp.kp;have Br:=hp.dst;have bK:=hp.ob;rw[aD0]at fE Br bK;refine⟨?_,bK,by show 2000<=σ.nx+128;have:=h.cO;omega⟩;cases d with
 |none=>exact h.sr.dn fE
 |some t=>exact(h.sr.dn fE).cons Br
def Kn.skip{σ:S D}(h:Kn σ γ w L)(d:Option Tmp):Kn (u7 σ d) γ w (rq d undef L):=by
 have fE:iN (λi=>i<σ.nx) (λi=>i<σ.nx+128) γ w γ w:=⟨λi h=>by show i<_;have h:i<σ.nx:=h;omega,λ_ _=>rfl,λ_ _=>rfl,λ_ _ _=>⟨rfl,rfl⟩⟩;refine⟨?_,⟨λi x hx=>?_,λb hb=>fE.u _ (h.ob.cl b hb),λx hx=>fE.u _ (h.ob.ro x hx)⟩,by show 2000<=σ.nx+128;have:=h.cO;omega⟩
 ·cases d with
  |none=>exact h.sr.dn fE
  |some t=>exact(h.sr.dn fE).cons rfl
 ·obtain⟨h1,h2,h3⟩:=h.ob.ob i x hx;exact⟨h1,fE.u _ h2,h3.dn fE h2 λ_ _ _=>⟨rfl,rfl⟩⟩
def TG{α:Type}{l:List (Nat×α)}{d:Nat}{a:α}(h:aF l d=aa a)(t:Nat):aF ((d,a)::l) t=aF l t:=by
 simp only[aF];cases hb:aW d t with
 |true=>have:=bA hb;subst this;simp[h]
 |false=>rfl
def Kn.lu{σ:S D}{d:Nat}{c:Bool}{K:List Nat}{g:Nat}(h:Kn σ γ w L)(hd:aF σ.sl d=aa (.c (.one (.v .bool c K g)))):Kn (lu σ d c K g) γ w L:=⟨λt a ha=>h.sr t a (by rw[<-TG hd];exact ha),h.ob,h.cO⟩
def ck.lu{σ:S D}{d:Nat}{c:Bool}{K:List Nat}{g:Nat}(wr:List Nat)(hd:aF σ.sl d=aa (.c (.one (.v .bool c K g)))):ck wr σ (lu σ d c K g):=⟨λt _=>TG hd t,rfl,λ_ _=>rfl,bw _⟩
def ck.ap{σ:S D}{e:de D}{d:Option Tmp}{wr:List Nat}(hd:∀t,d=aa t->t∈wr)(he:ED σ.lk e=ab):ck wr σ (zq σ d e):=by
 unfold ED at he;simp only[bt]at he;refine⟨λt ht=>?_,rfl,λi hi=>?_,by show σ.nx<=σ.nx+128;omega⟩
 ·cases d with
  |none=>rfl
  |some d=>
   show aF ((d,e.dst)::σ.sl) t=_;simp only[aF];have:aW d t=ae:=by
    cases hb:aW d t with
    |true=>have:=bA hb;exact(ht (hd t (by rw[this]))).elim
    |false=>rfl
   rw[this];rfl
 ·show aF (e.fz.map (λi=>(i,none))++e.sv++σ.ob) i=_;have h1:aF (e.fz.map λi=>(i,(none:Option (AO D)))) i=none:=by rw[qx];intro hm;simp only[List.map_map,dk]at hm;obtain⟨x,hx,rfl⟩:=hm;exact vV he.2 hx hi
  have h2:aF e.sv i=none:=by rw[qx];exactλhm=>vV he.1 hm hi
  rw[List.append_assoc,kq,h1];dsimp only;rw[kq,h2]
def ck.skip{σ:S D}{d:Option Tmp}{wr:List Nat}(hd:∀t,d=aa t->t∈wr):ck wr σ (u7 σ d):=by
 refine⟨λt ht=>?_,rfl,λ_ _=>rfl,by show σ.nx<=σ.nx+128;omega⟩;cases d with
 |none=>rfl
 |some d=>
  show aF ((d,_)::σ.sl) t=_;simp only[aF];have:aW d t=ae:=by
   cases hb:aW d t with
   |true=>have:=bA hb;exact(ht (hd t (by rw[this]))).elim
   |false=>rfl
  rw[this];rfl
def aaH{ρ:Type}{p:Nat}{o:aV}{σ:S D}{lg:List Lg}{k:S D->List Lg->Option ρ}{r:ρ}(h:zV T Φ p o σ lg k=aa r):
  ∃as e l,eX σ.sl o.op.operands.toList=aa as∧Q.R σ.ob (Av T Φ σ.nx o.op as) l e∧ED σ.lk e=ab∧k (zq σ o.dst e) (⟨p,l.reverse,e.wr⟩::lg)=aa r:=by
 unfold zV at h
 split at h
 case h_2=>cases h
 rename_i as ha
 obtain⟨l,e,h1,h2⟩:=Q.IC h
 split at h2
 case h_2=>cases h2
 rename_i hc
 exact⟨as,e,l,ha,h1,hc,by simpa using h2⟩
def Wm{o:aV}{r:List aV}{t:Nat}(h:o.dst=aa t):t∈dstsOf (o::r):=by unfold dstsOf;simp[List.filterMap_cons,h]
def Wl{o:aV}{r:List aV}{t:Nat}(h:t∈dstsOf r):t∈dstsOf (o::r):=by
 unfold dstsOf at h⊢;rw[List.filterMap_cons];split
 ·exact h
 ·exact eR _ h
def VR{ops:List aV}{sl:List (Nat×AV D)}{j d:Nat}{a:AV D}(h:guardOf ops sl j=aa (d,a)):∃og,ops[j]? =aa og∧og.dst=aa d∧aF sl d=aa a:=by
 unfold guardOf at h;split at h
 case h_2=>cases h
 rename_i og ho;split at h
 case h_2=>cases h
 rename_i d' hd;split at h
 case h_2=>cases h
 rename_i a' ha;cases h;exact⟨og,ho,hd,ha⟩
def zf{ρ:Type}{c:Bool}{a b:Option ρ}{r:ρ}(h:EZ c a b=aa r):(c=ab∧a=aa r)∨(c=ae∧b=aa r):=by
 cases c with
 |true=>exact .inl ⟨rfl,h⟩
 |false=>exact .inr ⟨rfl,h⟩
section
variable (hP:ef P T) (hR:cK T) (cU:∀c∈Φ,gz P T c)
include hP hR cU
theorem aoU [Rd]{σ:S D}(hk:Kn σ γ w L){o:aV}{as:List (AV D)}{e:de D}{l:List Nat}(ha:eX σ.sl o.op.operands.toList=aa as)(hq:Q.R σ.ob (Av T Φ σ.nx o.op as) l e):
  OW P Qx L o w (λv w'=>∃γ',Frame γ w γ' w'∧Kn (zq σ o.dst e) γ' w' (rq o.dst v L)):=by
 obtain⟨d,op,ty,pos,af,gd⟩:=o
 refine OW.mono (ab8 hP hR cU hk.cx ha hq) ?_
 rintro v w' ⟨γ',hp⟩
 exact⟨γ',hp.fr,hk.ap hp d⟩
theorem tp [I:Rd]{ops:List aV}:∀{l:List aV} {p:Nat} {σ:S D} {lg:List Lg} {ρ:Type} {k:S D->List Lg->Option ρ} {r:ρ} {γ:Gh D} {w:ax} {L:List (Nat×ai)},jn T Φ ops l p σ lg k=aa r->(∀t∈dstsOf l,I.fb n t=ab)->Kn σ γ w L->
  (∀be Hu γ' w' L',Kn be γ' w' L'->Frame γ w γ' w'->ck (dstsOf l) σ be->k be Hu=aa r->NK n (Qx .normal) L' w')->WL P n ops.toArray Qx l L w
 |[],p,σ,lg,ρ,k,r,γ,w,L,h,hd,hk,hc=>WL.nil (hc σ lg γ w L hk (Frame.refl _ _) (ck.refl _ _) h)
 |o::l,p,σ,lg,ρ,k,r,γ,w,L,h,hd,hk,hc=>by
  have xj:∀t,o.dst=aa t->I.fb n t=ab:=λt ht=>hd t (Wm ht);have vN:∀t∈dstsOf l,I.fb n t=ab:=λt ht=>hd t (Wl ht);have run:∀{ff:S D},Kn ff γ w L->ck (dstsOf (o::l)) σ ff->(∀a,Fr n L a->Region.wanted o (yielded ops.toArray a.tmps)=ab)->zV T Φ p o ff lg (λσ lg=>jn T Φ ops l (p+1) σ lg k)=aa r->WL P n ops.toArray Qx (o::l) L w:=by intro ff mJ rL hw h;obtain⟨as,e,l',h1,h2,h3,h4⟩:=aaH h;refine WL.take xj hw (aoU hP hR cU mJ h1 h2) ?_;rintro v w' ⟨γ',hf,da⟩;have nk:ck (dstsOf (o::l)) ff (zq ff o.dst e):=ck.ap (λt ht=>Wm ht) h3;exact tp h4 vN da λbe Hu Cn uY FM U4 Vk Vo Vy=>hc be Hu Cn uY FM U4 (hf.trans Vk) ((rL.trans nk).trans (Vo.mono λt ht=>Wl ht)) Vy
  have pass:∀{ff:S D},Kn ff γ w L->ck (dstsOf (o::l)) σ ff->(∀a,Fr n L a->Region.wanted o (yielded ops.toArray a.tmps)=ae)->jn T Φ ops l (p+1) (u7 ff o.dst) lg k=aa r->WL P n ops.toArray Qx (o::l) L w:=by intro ff mJ rL hw h;refine WL.pass xj hw ?_;have nk:ck (dstsOf (o::l)) ff (u7 ff o.dst):=ck.skip λt ht=>Wm ht;exact tp h vN (mJ.skip o.dst) λbe Hu Cn uY FM U4 Vk Vo Vy=>hc be Hu Cn uY FM U4 Vk ((rL.trans nk).trans (Vo.mono λt ht=>Wl ht)) Vy
  simp only[jn]at h;split at h
  ·rename_i hg;exact run hk (ck.refl _ _) (λa _=>by simp[Region.wanted,hg]) h
  ·rename_i j b hg;split at h
   case h_1=>cases h
   rename_i d a vJ;obtain⟨og,ho,vO,hl⟩:=VR vJ;split at h
   ·rename_i c K g;obtain⟨v,vC,nc⟩:=hk.sr d _ hl;have nc:v= .bool c:=nc.1;subst nc;have hy:∀a,Fr n L a->Region.wanted o (yielded ops.toArray a.tmps)=(c==b):=λa ha=>by simp[Region.wanted,hg,Q9 ha ho vO vC]
    rcases zf h with⟨rfl,h⟩|⟨rfl,h⟩
    ·have ji:=hk.lu hl;have qG:=ck.lu (dstsOf (o::l)) hl;cases b with
     |true=>exact run ji qG (λa ha=>by rw[hy a ha];rfl) h
     |false=>exact pass ji qG (λa ha=>by rw[hy a ha];rfl) h
    ·have ji:=hk.lu hl;have qG:=ck.lu (dstsOf (o::l)) hl;cases b with
     |true=>exact pass ji qG (λa ha=>by rw[hy a ha];rfl) h
     |false=>exact run ji qG (λa ha=>by rw[hy a ha];rfl) h
   ·split at h
    case isFalse=>cases h
    rename_i hu;have ha:a= .c (.one .undef):=by
     unfold TZ at hu;split at hu
     ·rfl
     ·cases hu
    subst ha;obtain⟨v,vC,nc⟩:=hk.sr d _ hl;have nc:v=undef:=nc;subst nc;exact pass hk (ck.refl _ _) (λa ha=>by simp[Region.wanted,hg,ZP ha ho vO vC]) h
end
end
end Rx
end Go.Proofs.YtgaghlbepnjhiaaGreat
namespace Go.Proofs.YtgaghlbepnjhiaaGreat
open Go Go.RowKit Dp
namespace Rx
section
variable {D:Nat->Type} [∀n,ad (D n)]
variable {P:Program} {T:bc D} {Φ:List (az D)} {n:Nat} {γ:Gh D} {w:ax} {L:List (Nat×ai)} {Qx:Exit->Act->ax->Prop}
def Out.JB:∀{a b:Out},a.beq b=ab->a=b
 | .normal,.normal,_=>rfl
 | .exit a,.exit b,h=>by rw[bA h]
 | .goto a,.goto b,h=>by rw[bA h]
 | .ret,.ret,_=>rfl
 | .normal,.exit _,h=>by cases h
 | .normal,.goto _,h=>by cases h
 | .normal,.ret,h=>by cases h
 | .exit _,.normal,h=>by cases h
 | .exit _,.goto _,h=>by cases h
 | .exit _,.ret,h=>by cases h
 | .goto _,.normal,h=>by cases h
 | .goto _,.exit _,h=>by cases h
 | .goto _,.ret,h=>by cases h
 | .ret,.normal,h=>by cases h
 | .ret,.exit _,h=>by cases h
 | .ret,.goto _,h=>by cases h
def VV{ρ:Type}{j:J}{wr mv:List Nat}{σ:S D}{k:S D->Option ρ}{h:HH D j.cP}{r:ρ}(e:IE T j wr mv σ k h=aa r):∃bL,lF T j wr mv σ h=aa bL∧k bL=aa r:=by
 unfold IE at e;split at e
 ·rename_i be h1;exact⟨be,h1,e⟩
 ·cases e
def Gp{ρ:Type}{wr mv:List Nat}{σ aO:S D}{k:Out->S D->Option ρ}{kv:Option ρ}{o:Out}{r:ρ}:∀{E:List (Out×J)} {pr:Bool} {x:wc D pr ρ E},toE T pr E o aO kv=aa x->sU T pr wr mv σ k E x=aa r->
  (∃j h bL,zA T j aO h∧lF T j wr mv σ h=aa bL∧k o bL=aa r)∨kv=aa r
 |[],pr,x,h,hf=>by simp only[toE]at h;simp only[sU]at hf;exact .inr (h.trans hf)
 |(o',j)::E,pr,x,h,hf=>by
  cases pr with
  |true=>
   cases E with
   |nil=>
    simp only[toE]at h;split at h
    case isFalse=>cases h
    rename_i hb;obtain⟨y,h1,h2⟩:=sW h;cases h2;have:=Out.JB hb;subst this;simp only[sU]at hf;obtain⟨bL,h3,h4⟩:=VV hf;exact .inl ⟨j,x,bL,h1,h3,h4⟩
   |cons e E=>
    simp only[toE]at h;split at h
    ·rename_i hb;obtain⟨y,h1,h2⟩:=sW h;cases h2;have:=Out.JB hb;subst this;simp only[sU,DL,bx]at hf;obtain⟨bL,h3,h4⟩:=VV hf;exact .inl ⟨j,y,bL,h1,h3,h4⟩
    ·split at h
     case h_2=>cases h
     rename_i y hy;cases h;simp only[sU,DL,bE]at hf;exact Gp hy hf
  |false=>
   simp only[toE]at h;split at h
   ·rename_i hb;obtain⟨y,h1,h2⟩:=sW h;cases h2;have:=Out.JB hb;subst this;simp only[sU,DL,bx]at hf;obtain⟨bL,h3,h4⟩:=VV hf;exact .inl ⟨j,y,bL,h1,h3,h4⟩
   ·split at h
    case h_2=>cases h
    rename_i y hy;cases h;simp only[sU,DL,bE]at hf;exact Gp hy hf
def Kn.lk{σ:S D}(h:Kn σ γ w L)(l:List Nat):Kn {σ with lk:=l} γ w L:=⟨h.sr,h.ob,h.cO⟩
def ck.Ks{wr:List Nat}{σ aO:S D}{lk:List Nat}(hs:∀i∈σ.lk,i∈lk)(h:ck wr {σ with lk:=lk} aO):ck wr σ {aO with lk:=σ.lk}:=⟨h.sl,rfl,λi hi=>h.ob i (hs i hi),h.nx⟩
def zR(hR:cK T){cut:Option (Bool×List (Out×J))}{wr:List Nat}{ρ:Type}{body:∀{jv:Type},S D->(Out->S D->Option jv)->Option jv}{σ:S D}{k:Out->S D->Option ρ}{r:ρ}(h:wrap T wr cut body σ k=aa r)(hk:Kn σ γ w L){G:Prop}(X:Out->List (Nat×ai)->ax->Prop)
  (NI:∀{jv:Type} {be:S D} {k':Out->S D->Option jv} {r':jv},body be k'=aa r'->Kn be γ w L->(∀o aO aQ w1 L1,Kn aO aQ w1 L1->Frame γ w aQ w1->ck wr be aO->k' o aO=aa r'->X o L1 w1)->G)
  (hc:∀o aO aQ w1 L1,Kn aO aQ w1 L1->Frame γ w aQ w1->ck wr σ aO->k o aO=aa r->X o L1 w1):G:=by
 unfold wrap at h
 split at h
 ·exact NI h hk hc
 ·rename_i pr E;obtain⟨x,hx,hf⟩:=nZ h;refine NI hx (hk.lk _) λo aO aQ w1 L1 eK eF he hto=>?_;have hs:∀i∈σ.lk,i∈(kept σ (ru E)).map bV++σ.lk:=λi hi=>bg.2 (.inr hi);rcases Gp hto hf with⟨j,y,bL,h1,h2,h3⟩|h1
  ·obtain⟨bf,k1,k2,k3,k4⟩:=AL hR rfl hk eK he h1 h2;have:=k3.Ks (σ:=σ) hs;have e:({bL with lk:=σ.lk}:S D)=bL:=by rw[<-k4]
   rw[show({({bL with lk:=(kept σ (ru E)).map bV++σ.lk}:S D)with lk:=σ.lk}:S D)={bL with lk:=σ.lk}from rfl,e]at this;exact hc o bL bf w1 L1 k1 (eF.trans k2) this h3
  ·exact hc o _ aQ w1 L1 (eK.lk _) eF (he.Ks hs) h1
def al0 [I:Rd]{o:aV}{a:Act}{w:ax}{K:Act->ax->Prop}{K2:Act->ax->Prop}(hh:o.wpIn I.F 0 P a w K (Exit.then K2 Qx)):o.wpIn I.F 0 P a w K Qx:=by
 unfold aV.wpIn at*;refine⟨hh.1,?_⟩;have hh:=hh.2;generalize (o.semAt I.F.round a.eval).run P w=r at*;cases r with
 |ok n w'=>
  cases n<;>simp only[aV.uponIn]at hh⊢<;>
   first
    |exact hh
    |exact⟨hh.1,hh.2.mono (λe uY he=>by cases e<;>exact he)⟩
    |exact⟨hh.1,hh.2.mono (λ_ _ he=>he)⟩
 |halt x w'=>cases x<;>simp only[aV.uponIn]at hh⊢<;>exact hh
def TK [I:Rd]{ops:Array aV}{l2:List aV}:∀{l1:List aV} {a:Act} {w:ax},wpListIn I.F 0 P ops (Exit.then (wpListIn I.F 0 P ops Qx l2) Qx) l1 a w->wpListIn I.F 0 P ops Qx (l1++l2) a w
 |[],a,w,h=>h
 |o::l1,a,w,h=>by
  unfold wpListIn at h;show wpListIn I.F 0 P ops Qx (o::(l1++l2)) a w;unfold wpListIn;split
  ·rename_i hw;rw[aI hw]at h;exact aV.wpIn_mono (λa w h=>TK h) (al0 h)
  ·rename_i hw;rw[aK hw]at h;exact⟨h.1,TK h.2⟩
def WL.bD [Rd]{ops:Array aV}{l1 l2:List aV}(h:∀K:Act->ax->Prop,(∀L' w',WL P n ops Qx l2 L' w'->NK n K L' w')->WL P n ops (Exit.then K Qx) l1 L w):WL P n ops Qx (l1++l2) L w:=
 λa ha=>TK (h _ (λ_ _ hc a' jY=>hc a' jY) a ha)
def Wn(a b:List aV):dstsOf (a++b)=dstsOf a++dstsOf b:=by unfold dstsOf;simp
def aov{σ:S D}{γ:Gh D}{w:ax}{L:List (Nat×ai)}{i m t tc q g h:Nat}{xs:List (D m)}(hk:Kn σ γ w L)(ho:dC σ.ob i=aa (.df m t tc q xs g h))(hl:bP σ.lk i=ae):
  ∃bf,Kn {σ with ob:=(i,aa (.sl m t xs [1] g))::σ.ob} bf w L∧Frame γ w bf w∧ck [] σ {σ with ob:=(i,aa (.sl m t xs [1] g))::σ.ob}:=by
 obtain⟨hi,hU,h1,h2,_⟩:=hk.ob.ob i _ ho
 obtain⟨o',qD⟩:∃o':cE,o'=λb=>if γ.o b=i∧xi (γ.g i) b=ae then 1 else γ.o b:=⟨_,rfl⟩
 have bM:∀b,γ.o b≠i->o' b=γ.o b:=λb hb=>by rw[qD];exact aK λhc=>hb hc.1
 have hhd:∀b,xi (γ.g i) b=ab->o' b=γ.o b:=λb hb=>by rw[qD];exact aK λhc=>by rw[hb]at hc;cases hc.2
 have np:∀b,γ.o b=i->xi (γ.g i) b=ae->o' b=1:=λb e hb=>by rw[qD];exact aI ⟨e,hb⟩
 have w_:∀b,o' b=γ.o b∨o' b=1∧γ.o b=i:=λb=>by
  rw[qD];by_cases hc:γ.o b=i∧xi (γ.g i) b=ae
  ·exact .inr ⟨aI hc,hc.1⟩
  ·exact .inl (aK hc)
 have kp:iN (λi=>i<σ.nx) (λi=>i<σ.nx) γ w ⟨o',γ.g,γ.v⟩ w:=⟨λ_ h=>h,λ_ _=>rfl,λ_ _=>rfl,λb _ hc=>⟨bM b (by omega),rfl⟩⟩
 refine⟨⟨o',γ.g,γ.v⟩,⟨hk.sr.dn kp,⟨λj x hx=>?_,λb hb=>?_,hk.ob.ro⟩,hk.cO⟩,⟨⟨rfl,rfl,rfl,bw _,λb _ hc=>⟨bM b (by omega),rfl⟩,λb hb hc=>⟨hb,?_⟩⟩,λ_ _=>rfl⟩,⟨λ_ _=>rfl,rfl,λj hj=>?_,bw _⟩⟩
 ·by_cases eV:i=j
  ·subst eV;have e:dC ((i,aa (AO.sl m t xs [1] g))::σ.ob) i=aa (.sl m t xs [1] g):=by simp[dC,aF]
   rw[e]at hx;cases hx;refine⟨hi,hU,?_,λx hx=>by rw[cY.1 hx];omega,h2.dn kp⟩;refine Ow.tM (λb hb=>?_) (λb hb=>?_) h1.ow
   ·obtain⟨f1,f2⟩:=DU hb;show o' b=i;rw[hhd b f2,f1]
   ·have hb:lE γ.o i (γ.g i) b=1:=by simpa[In]using hb
    obtain⟨f1,f2⟩:=DT hb;show o' b∈[1];rw[np b f1 f2];exact cY.2 rfl
  ·have hb:aW i j=ae:=by
    cases hb:aW i j with
    |true=>exact(eV (bA hb)).elim
    |false=>rfl
   have e:dC ((i,aa (AO.sl m t xs [1] g))::σ.ob) j=dC σ.ob j:=by simp[dC,aF,hb]
   rw[e]at hx;obtain⟨k1,k2,k3⟩:=hk.ob.ob j x hx;exact⟨k1,k2,k3.dn kp k2 λb _ hb=>⟨bM b (by rw[hb];exactλe=>eV e.symm),rfl⟩⟩
 ·show o' b<σ.nx;rcases w_ b with e|⟨e,_⟩
  ·rw[e];exact hk.ob.cl b hb
  ·rw[e];have:=hk.cO;omega
 ·rcases w_ b with e|⟨e,_⟩
  ·exact e.symm
  ·have hc:o' b=0∨o' b=3:=hc;omega
 ·have bM:i≠j:=λe=>pC hl (e▸hj);have hb:aW i j=ae:=by
   cases hb:aW i j with
   |true=>exact(bM (bA hb)).elim
   |false=>rfl
  simp[aF,hb]
def aar{w:ax}{L:List (Nat×ai)}:∀{b:List Nat} {σ bL:S D} {γ:Gh D},xW σ b=aa bL->Kn σ γ w L->∃bf,Kn bL bf w L∧Frame γ w bf w∧ck [] σ bL
 |[],σ,bL,γ,h,hk=>by cases h;exact⟨γ,hk,Frame.refl _ _,ck.refl _ _⟩
 |i::r,σ,bL,γ,h,hk=>by
  simp only[xW]at h;split at h
  case h_2=>cases h
  rename_i m t tc q xs g ht ho;split at h
  case isTrue=>cases h
  rename_i hl;obtain⟨aQ,k1,k2,k3⟩:=aov hk ho (by simpa using hl);obtain⟨bf,j1,j2,j3⟩:=aar h k1;exact⟨bf,j1,k2.trans j2,k3.trans j3⟩
def axq{σ:S D}{γ:Gh D}{w:ax}{L:List (Nat×ai)}{i n:Nat}{xs:List (D n)}{K:List Nat}{o:AO D}(hk:Kn σ γ w L)(ho:dC σ.ob i=aa o)(hd:B7 o=aa (⟨.sl n,xs⟩,K))(hl:bP σ.lk i=ae):
  ∃bf,Kn {σ with ob:=(i,aa (.fz n xs (1::K)))::σ.ob} bf w L∧Frame γ w bf w∧ck [] σ {σ with ob:=(i,aa (.fz n xs (1::K)))::σ.ob}:=by
 obtain⟨hi,hU,h1⟩:=hk.ob.ob i _ ho
 obtain⟨h2,h3⟩:=X4 h1 hd
 obtain⟨o',qD⟩:∃o':cE,o'=λb=>if γ.o b=i then 1 else γ.o b:=⟨_,rfl⟩
 have bM:∀b,γ.o b≠i->o' b=γ.o b:=λb hb=>by rw[qD];exact aK hb
 have jj:∀b,γ.o b=i->o' b=1:=λb hb=>by rw[qD];exact aI hb
 have w_:∀b,o' b=γ.o b∨o' b=1∧γ.o b=i:=λb=>by
  by_cases hc:γ.o b=i
  ·exact .inr ⟨jj b hc,hc⟩
  ·exact .inl (bM b hc)
 have kp:iN (λi=>i<σ.nx) (λi=>i<σ.nx) γ w ⟨o',γ.g,γ.v⟩ w:=⟨λ_ h=>h,λ_ _=>rfl,λ_ _=>rfl,λb _ hc=>⟨bM b (by omega),rfl⟩⟩
 have aeO:∀j,i≠j->aW i j=ae:=λj eV=>by
  cases hb:aW i j with
  |true=>exact(eV (bA hb)).elim
  |false=>rfl
 refine⟨⟨o',γ.g,γ.v⟩,⟨hk.sr.dn kp,⟨λj x hx=>?_,λb hb=>?_,hk.ob.ro⟩,hk.cO⟩,⟨⟨rfl,rfl,rfl,bw _,λb _ hc=>⟨bM b (by omega),rfl⟩,λb hb hc=>⟨hb,?_⟩⟩,λ_ _=>rfl⟩,⟨λ_ _=>rfl,rfl,λj hj=>?_,bw _⟩⟩
 ·by_cases eV:i=j
  ·subst eV;have e:dC ((i,aa (AO.fz n xs (1::K)))::σ.ob) i=aa (.fz n xs (1::K)):=by simp[dC,aF]
   rw[e]at hx;cases hx;refine⟨hi,hU,?_,λx hx=>?_⟩
   ·show dI (In o' (1::K)) w (γ.g i) ⟨.sl n,xs⟩;refine dI.weaken (λb hb=>?_) h2;unfold In at hb⊢;rcases cj.1 hb with hb|hb
    ·rw[jj b hb];exact List.mem_cons_self ..
    ·rw[bM b (λe=>by have:=h3 _ hb;omega)];exact eR _ hb
   ·rcases cj.1 hx with rfl|hx
    ·omega
    ·exact h3 x hx
  ·have e:dC ((i,aa (AO.fz n xs (1::K)))::σ.ob) j=dC σ.ob j:=by simp[dC,aF,aeO j eV]
   rw[e]at hx;obtain⟨k1,k2,k3⟩:=hk.ob.ob j x hx;exact⟨k1,k2,k3.dn kp k2 λb _ hb=>⟨bM b (by rw[hb];exactλe=>eV e.symm),rfl⟩⟩
 ·show o' b<σ.nx;rcases w_ b with e|⟨e,_⟩
  ·rw[e];exact hk.ob.cl b hb
  ·rw[e];have:=hk.cO;omega
 ·rcases w_ b with e|⟨e,_⟩
  ·exact e.symm
  ·have hc:o' b=0∨o' b=3:=hc;omega
 ·have bM:i≠j:=λe=>pC hl (e▸hj);simp[aF,aeO j bM]
def pP{w:ax}{L:List (Nat×ai)}:∀{b:List Nat} {σ bL:S D} {γ:Gh D},qM σ b=aa bL->Kn σ γ w L->∃bf,Kn bL bf w L∧Frame γ w bf w∧ck [] σ bL
 |[],σ,bL,γ,h,hk=>by cases h;exact⟨γ,hk,Frame.refl _ _,ck.refl _ _⟩
 |i::r,σ,bL,γ,h,hk=>by
  simp only[qM]at h;split at h
  case h_2=>cases h
  rename_i o ho;split at h
  case h_2=>cases h
  rename_i n xs K hd;split at h
  case isTrue=>cases h
  rename_i hl;obtain⟨aQ,k1,k2,k3⟩:=axq hk ho hd (by simpa using hl);obtain⟨bf,j1,j2,j3⟩:=pP h k1;exact⟨bf,j1,k2.trans j2,k3.trans j3⟩
def pQ{l:List Nat}{σ:S D}{ρ:Type}{k:S D->Option ρ}{r:ρ}(h:oP l σ k=aa r):∃be,qM σ l=aa be∧k be=aa r:=by
 unfold oP at h;split at h
 case h_2=>cases h
 exact⟨_,by assumption,h⟩
def ck.qM{wr:List Nat}{σ be:S D}(h:ck [] σ be):ck wr σ be:=h.mono λt ht=>by cases ht
section
variable (hP:ef P T) (hR:cK T) (cU:∀c∈Φ,gz P T c)
include hP hR cU
theorem ay8 [I:Rd]{ops:List aV}:∀(sg:Sg) {ρ:Type} {l:List aV} {p:Nat} {σ:S D} {k:S D->Option ρ} {r:ρ} {γ:Gh D} {w:ax} {L:List (Nat×ai)} {Qx:Exit->Act->ax->Prop},vX T Φ ops sg l p σ k=aa r->(∀t∈dstsOf l,I.fb n t=ab)->Kn σ γ w L->
  (∀be γ' w' L',Kn be γ' w' L'->Frame γ w γ' w'->ck (dstsOf l) σ be->k be=aa r->NK n (Qx .normal) L' w')->WL P n ops.toArray Qx l L w:=by
 intro sg
 induction sg with
 |nil=>
  intro ρ l p σ k r γ w L Qx h hd hk hc
  simp only[vX]at h
  exact tp hP hR cU h hd hk λbe _ γ' w' L' h1 h2 h3 h4=>hc be γ' w' L' h1 h2 h3 h4
 |xW s b next T_=>
  intro ρ l p σ k r γ w L Qx h hd hk hc
  simp only[vX]at h
  have pG:l=l.take (s-p)++l.drop (s-p):=(od _ _).symm
  generalize ni:l.take (s-p)=l1 at*
  generalize Ef:l.drop (s-p)=l3 at*
  have vN:dstsOf l=dstsOf l1++dstsOf l3:=by rw[pG,Wn]
  rw[vN]at hd hc
  rw[pG]
  refine WL.bD λK1 ir=>?_
  refine tp hP hR cU h (λt ht=>hd t (bg.2 (.inl ht))) hk λaO _ aQ w1 L1 k1 k2 k3 k4=>?_
  refine ir _ _ ?_
  split at k4
  case h_2=>cases k4
  rename_i bL atN
  obtain⟨bf,m1,m2,m3⟩:=aar atN k1
  refine T_ k4 (λt ht=>hd t (bg.2 (.inr ht))) m1 λpd jU w3 L3 n1 n2 n3 n4=>?_
  refine hc pd jU w3 L3 n1 ((k2.trans m2).trans n2) ?_ n4
  exact((k3.mono λt ht=>bg.2 (.inl ht)).trans (m3.mono λt ht=>by cases ht)).trans (n3.mono λt ht=>bg.2 (.inr ht))
 |tL s m j inner next HB T_=>
  intro ρ l p σ k r γ w L Qx h hd hk hc
  simp only[vX]at h
  have pG:l=l.take (s-p)++((l.drop (s-p)).take m++l.drop (s-p+m)):=by rw[<-List.drop_drop,od,od]
  generalize ni:l.take (s-p)=l1 at*
  generalize ud:(l.drop (s-p)).take m=l2 at*
  generalize Ef:l.drop (s-p+m)=l3 at*
  have vN:dstsOf l=dstsOf l1++(dstsOf l2++dstsOf l3):=by rw[pG,Wn,Wn]
  rw[vN]at hd hc
  rw[pG]
  refine WL.bD λK1 ir=>?_
  refine tp hP hR cU h (λt ht=>hd t (bg.2 (.inl ht))) hk λaO _ aQ w1 L1 k1 k2 k3 k4=>?_
  refine ir _ _ ?_
  refine WL.bD λK2 iL=>?_
  have uj:∀t∈dstsOf l2,I.fb n t=ab:=λt ht=>hd t (bg.2 (.inr (bg.2 (.inl ht))))
  have hd3:∀t∈dstsOf l3,I.fb n t=ab:=λt ht=>hd t (bg.2 (.inr (bg.2 (.inr ht))))
  refine zR hR k4 k1 (X:=λ_ L1 w1=>NK n K2 L1 w1) ?_ ?_
  ·intro jv be k' r' hb da hx;have fin:∀{ff:S D},ck (dstsOf l2) be ff->∀F9 J6 Gn Qz,Kn F9 J6 Gn Qz->Frame aQ w1 J6 Gn->ck (dstsOf l2) ff F9->k' .normal F9=aa r'->NK n ((Exit.then K2 Qx) .normal) Qz Gn:=
    λrL F9 J6 Gn Qz m1 m2 m3 m4=>hx .normal F9 J6 Gn Qz m1 m2 (rL.trans m3) m4
   cases l2 with
   |nil=>cases hb
   |cons o l2=>
    dsimp only at hb;split at hb
    ·rename_i i b hg;split at hb
     ·rename_i d c K g vJ;obtain⟨_,_,_,hl⟩:=VR vJ;have qG:∀c',c=c'->ck (dstsOf (o::l2)) be (lu be d c' K g):=λc' e=>by subst e;exact ck.lu _ hl
      have ji:∀c',c=c'->Kn (lu be d c' K g) aQ w1 L1:=λc' e=>by subst e;exact da.lu hl
      rcases zf hb with⟨qJ,hb⟩|⟨qJ,hb⟩
      ·cases b with
       |true=>exact HB hb uj (ji _ qJ) (fin (qG _ qJ))
       |false=>exact tp hP hR cU hb uj (ji _ qJ) λbe _=>fin (qG _ qJ) be
      ·cases b with
       |true=>exact tp hP hR cU hb uj (ji _ qJ) λbe _=>fin (qG _ qJ) be
       |false=>exact HB hb uj (ji _ qJ) (fin (qG _ qJ))
     ·exact tp hP hR cU hb uj da λbe _=>fin (ck.refl _ _) be
    ·exact HB hb uj da (fin (ck.refl _ _))
  ·intro o bL bf w2 L2 m1 m2 m3 m4;refine iL _ _ ?_;refine T_ m4 hd3 m1 λpd jU w3 L3 n1 n2 n3 n4=>?_;refine hc pd jU w3 L3 n1 ((k2.trans m2).trans n2) ?_ n4;exact((k3.mono λt ht=>bg.2 (.inl ht)).trans (m3.mono λt ht=>bg.2 (.inr (bg.2 (.inl ht))))).trans (n3.mono λt ht=>bg.2 (.inr (bg.2 (.inr ht))))
