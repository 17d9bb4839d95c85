import Derived.Test.YtmngjhagbjgmfaaGreatRj
import Derived.Orders
set_option linter.all false
open Bool renaming and_eq_true->bt,false->ai,false_eq_true->aE,not_eq_true'->pV,or_eq_true->sd,true->ab
open Go renaming Frame->f_,Oper->aT,Value->ah,World->ay
open List renaming all_eq_true->dU,mem_append->bA,mem_cons->cu,mem_cons_of_mem->eY,mem_filter->lh,mem_map->dE,mem_singleton->eb,take_append_drop->pR
open Nat renaming beq->aU,eq_of_beq_eq_true->bB,le_of_ble_eq_true->dp,le_refl->bx
open Option renaming none->ak,some->aa
open Option.some renaming injEq->fE
open Prod renaming fst->bT,snd->oT
open Sum renaming elim_inl->bw,elim_inr->bC
namespace Go.Proofs.YtmngjhagbjgmfaaGreat
open Go Go.RowKit Dp
namespace Rx
section
variable {D:Nat->Type} [∀n,ad (D n)]
variable {T:bc D} {U0 U1 U2:Nat->Prop} {ff γ aQ bg:Gh D} {w0 w w1:ay}
structure Kn(σ:S D)(γ:Gh D)(w:ay)(L:List (Nat×ah)):Prop where
 sr:SR (λi=>i<σ.nx) γ w σ.sl L
 ob:OB (λi=>i<σ.nx) γ w σ.ob
 cJ:2000<=σ.nx
structure ci(wr:List Nat)(σ be:S D):Prop where
 sl:∀t,t∉wr->aF be.sl t=aF σ.sl t
 lk:be.lk=σ.lk
 ob:∀i∈σ.lk,aF be.ob i=aF σ.ob i
 nx:σ.nx<=be.nx
def ci.refl(wr:List Nat)(σ:S D):ci wr σ σ:=⟨λ_ _=>rfl,rfl,λ_ _=>rfl,bx _⟩
def ci.trans{wr:List Nat}{σ aN bI:S D}(h:ci wr σ aN)(k:ci wr aN bI):ci wr σ bI:=⟨λt ht=>(k.sl t ht).trans (h.sl t ht),k.lk.trans h.lk,λi hi=>(k.ob i (by rw[h.lk];exact hi)).trans (h.ob i hi),Nat.le_trans h.nx k.nx⟩
def ci.mono{wr Y1:List Nat}{σ aN:S D}(h:ci wr σ aN)(hs:∀t∈wr,t∈Y1):ci Y1 σ aN:=⟨λt ht=>h.sl t λhm=>ht (hs t hm),h.lk,h.ob,h.nx⟩
structure Xw(U0 U1 U2:Nat->Prop)(aQ bg:Gh D):Prop where
 u:∀i,U0 i->U2 i∧bg.g i=aQ.g i∧bg.v i=aQ.v i
 ro:∀b,aQ.o b<2->bg.o b=aQ.o b
section
variable (t:Xw U0 U1 U2 aQ bg)
include t
def Xw.mem{K:List Nat}(hK:ek K):∀b,In aQ.o K b->b<w.heap.size->In bg.o K b∧w.heap[b]? =w.heap[b]? :=λb hb _=>by refine⟨?_,rfl⟩;unfold In at hb⊢;rw[t.ro b (hK _ hb)];exact hb
def named.two{g:Nat}{d:DV D}(h1:named U1 aQ g d)(h0:named U0 ff g d):named U2 bg g d:=by
 rcases h0 with h0|⟨h0,_⟩
 ·exact .inl h0
 ·rcases h1 with h1|⟨_,h1⟩
  ·exact .inl h1
  ·obtain⟨k1,_,k3⟩:=t.u _ h0;exact .inr ⟨k1,by rw[k3];exact h1⟩
def rT.two:∀{a:A0 D} {v v0:ah},rT U1 aQ w a v->rT U0 ff w0 a v0->rT U2 bg w a v
 | .ptr i off,v,v0,⟨_,b,h1,h2⟩,⟨h0,_⟩=>by obtain⟨k1,k2,_⟩:=t.u i h0;exact⟨k1,b,by rw[k2];exact h1,h2⟩
 | .rp n x off K,v,v0,⟨pa,h1,h2,h3⟩,_=>⟨pa,h1,h2.mono (t.mem h3),h3⟩
def nr.two:∀{as:List (A0 D)} {vs wx:List ah},nr U1 aQ w as vs->nr U0 ff w0 as wx->nr U2 bg w as vs
 |[],[],_,_,_=>trivial
 |a::as,v::vs,v0::wx,h,h0=>⟨rT.two t h.1 h0.1,nr.two h.2 h0.2⟩
 |a::as,v::vs,[],_,h0=>h0.elim
 |[],_::_,_,h,_=>h.elim
 |_::_,[],_,h,_=>h.elim
def fT.two:∀{a:A1 D} {v v0:ah},fT U1 aQ w a v->fT U0 ff w0 a v0->fT U2 bg w a v
 | .v l d K g,v,v0,⟨h1,h2,h3⟩,h0=>⟨h1.mono (t.mem h3),named.two t h2 h0.2.1,h3⟩
 | .ptr i off,v,v0,⟨_,b,h1,h2⟩,⟨h0,_⟩=>by obtain⟨k1,k2,_⟩:=t.u i h0;exact⟨k1,b,by rw[k2];exact h1,h2⟩
 | .el i n j y off tc tj,v,v0,⟨h1,h2,⟨xs,h3,h4⟩,h5,b,f,len,cap,h6,h7⟩,⟨k1,k2,_,k5,_⟩=>by obtain⟨m1,m2,_⟩:=t.u i k1;obtain⟨n1,_,n3⟩:=t.u tc k2.2;exact⟨m1,⟨h2.1,n1⟩,⟨xs,by rw[n3];exact h3,h4⟩,named.two t h5 k5,b,f,len,cap,by rw[m2];exact h6,h7⟩
 | .rp n x off K,v,v0,⟨pa,h1,h2,h3⟩,_=>⟨pa,h1,h2.mono (t.mem h3),h3⟩
 | .vb n xs K g b,v,v0,⟨⟨h1,h2,h3⟩,h4⟩,h0=>⟨⟨dD.mono (d:=⟨.sl n,xs⟩) (t.mem h3) h1,named.two t h2 h0.1.2.1,h3⟩,h4⟩
 | .own i,v,v0,⟨_,h1,h2⟩,⟨h0,_⟩=>by obtain⟨k1,k2,_⟩:=t.u i h0;exact⟨k1,by rw[k2];exact h1,h2⟩
 | .fn f jf,v,v0,⟨cs,h1,h2⟩,⟨cs0,_,h0⟩=>⟨cs,h1,nr.two t h2 h0⟩
 | .ch i n j off ct m d,v,v0,⟨h1,h2,⟨xs,y,h3,h4⟩,⟨b,len,cap,cells,h5,h6,h7⟩,h8⟩,⟨k1,k2,_⟩=>by obtain⟨m1,m2,_⟩:=t.u i k1;obtain⟨n1,n2,n3⟩:=t.u ct k2.2;exact⟨m1,⟨h2.1,n1⟩,⟨xs,y,by rw[n3];exact h3,h4⟩,⟨b,len,cap,cells,by rw[m2];exact h5,by rw[n2];exact h6,h7⟩,h8⟩
 | .yX i s,v,v0,⟨h1,h2,h3,h4⟩,⟨k1,k2,_⟩=>by obtain⟨m1,_,_⟩:=t.u i k1;obtain⟨n1,n2,_⟩:=t.u s k2;exact⟨m1,n1,by rw[n2];exact h3,h4⟩
 | .tail i n j,v,v0,⟨h1,h2⟩,⟨k1,_⟩=>by obtain⟨m1,m2,_⟩:=t.u i k1;exact⟨m1,by rw[m2];exact h2⟩
 | .pre i n j,v,v0,⟨h1,h2⟩,⟨k1,_⟩=>by obtain⟨m1,m2,_⟩:=t.u i k1;exact⟨m1,by rw[m2];exact h2⟩
 | .uC n xs K,v,v0,⟨⟨aK,h1,h2⟩,h3⟩,_=>⟨⟨aK,h1,h2.mono λ_ _=>ad.mono (t.mem h3)⟩,h3⟩
 | .bF,v,v0,h,_=>h
 | .sx,v,v0,h,_=>h
 | .Dh,v,v0,h,_=>h
 | .undef,v,v0,h,_=>h
 | .zD,v,v0,h,_=>h
 | .wP,v,v0,h,_=>h
def db.two:∀{as:List (A1 D)} {vs wx:List ah},db U1 aQ w as vs->db U0 ff w0 as wx->db U2 bg w as vs
 |[],[],_,_,_=>trivial
 |a::as,v::vs,v0::wx,h,h0=>⟨fT.two t h.1 h0.1,db.two h.2 h0.2⟩
 |a::as,v::vs,[],_,h0=>h0.elim
 |[],_::_,_,h,_=>h.elim
 |_::_,[],_,h,_=>h.elim
def nq.two:∀{a:AC D} {v v0:ah},nq U1 aQ w a v->nq U0 ff w0 a v0->nq U2 bg w a v
 | .one a,v,v0,h,h0=>fT.two t h h0
 | .agg l,v,v0,⟨us,h1,h2⟩,⟨QE,_,h0⟩=>⟨us,h1,db.two t h2 h0⟩
def ji.two:∀{as:List (AC D)} {vs wx:List ah},ji U1 aQ w as vs->ji U0 ff w0 as wx->ji U2 bg w as vs
 |[],[],_,_,_=>trivial
 |a::as,v::vs,v0::wx,h,h0=>⟨nq.two t h.1 h0.1,ji.two h.2 h0.2⟩
 |a::as,v::vs,[],_,h0=>h0.elim
 |[],_::_,_,h,_=>h.elim
 |_::_,[],_,h,_=>h.elim
def gI.two:∀{a:AV D} {v v0:ah},gI U1 aQ w a v->gI U0 ff w0 a v0->gI U2 bg w a v
 | .c x,v,v0,h,h0=>nq.two t h h0
 | .dX l,v,v0,⟨us,h1,h2⟩,⟨QE,_,h0⟩=>⟨us,h1,ji.two t h2 h0⟩
def OR.two{i:Nat}(hi:U0 i)(hc:∀b,aQ.o b=i->bg.o b=i):∀{x:AO D},OR U1 aQ w i x->OR U0 ff w0 i x->OR U2 bg w i x
 | .box cs,⟨b,us,ty,h1,h2,h3,h4,h5⟩,⟨_,QE,_,_,_,_,h0,_⟩=>by obtain⟨k1,k2,_⟩:=t.u i hi;exact⟨b,us,ty,by rw[k2];exact h1,hc b h2,h3,db.two t h4 h0,h5⟩
 | .sl n ty xs K g,⟨h1,h2,h3⟩,⟨_,_,h0⟩=>by
   obtain⟨k1,k2,_⟩:=t.u i hi;refine⟨?_,h2,named.two t h3 h0⟩;rw[k2];rcases h1 with h1|⟨g,f,cap,aW,aK,e1,e2,e3,e4,e5,e6,e7,e8⟩
   ·exact .inl h1
   ·exact .inr ⟨g,f,cap,aW,aK,e1,hc g e2,e3,e4,e5,e6,e7.mono λ_ _=>ad.mono (t.mem h2),e8⟩
 | .cZ n ty tc q xs g h,⟨h1,h2,h3⟩,⟨_,UZ,H5⟩=>by
   obtain⟨k1,k2,_⟩:=t.u i hi;obtain⟨m0,m1⟩:=Ds (v:=aQ.g i) (o:=aQ.o) (o':=bg.o) (i:=i) (i':=i) (w:=w) (w':=w) λb _ hb=>⟨hc b hb,rfl⟩;refine⟨by rw[k2];exact h1.mono m0 m1,named.two t h2 UZ,?_⟩;rcases H5 with H5|⟨H5,_⟩
   ·exact .inl H5
   ·rcases h3 with h3|⟨_,h4,h5⟩
    ·exact .inl h3
    ·obtain⟨n1,n2,n3⟩:=t.u h H5;exact .inr ⟨n1,by rw[n3];exact h4,h5.mono k2 n2 λ_ _ _ _=>rfl⟩
 | .iu n ty tc q xs j off s g,⟨h1,h2,b,len,cap,h3,h4⟩,⟨h01,UZ,_⟩=>by obtain⟨k1,k2,_⟩:=t.u i hi;obtain⟨n1,n2,_⟩:=t.u s UZ;obtain⟨m0,m1⟩:=Ds (v:=aQ.g i) (o:=aQ.o) (o':=bg.o) (i:=i) (i':=i) (w:=w) (w':=w) λb _ hb=>⟨hc b hb,rfl⟩;exact⟨named.two t h1 h01,n1,b,len,cap,by rw[k2];exact h3,by rw[k2,n2];exact h4.mono m0 m1⟩
 | .fz n xs K,⟨h1,h2⟩,_=>by obtain⟨k1,k2,_⟩:=t.u i hi;exact⟨by rw[k2];exact dD.mono (d:=⟨.sl n,xs⟩) (t.mem h2) h1,h2⟩
 | .mp n xs,h,_=>by obtain⟨k1,k2,_⟩:=t.u i hi;show rU bg.o i w (bg.g i) xs;rw[k2];exact rU.mono h λb _ hb=>⟨hc b hb,rfl⟩
end
def Al{α:Type}{f:Nat->Bool}:∀{l:List (Nat×α)} {t:Nat},aF (l.filter λp=>f p.1) t=if f t then aF l t else ak
 |[],t=>by simp[aF]
 |p::r,t=>by
  have ih:=Al (f:=f) (l:=r) (t:=t);simp only[List.filter_cons,aF];cases hb:aU p.1 t with
  |true=>
   have:=bB hb;subst this;cases hf:f p.1 with
   |true=>simp[aF]
   |false=>simp[ih,hf]
  |false=>
   cases hf:f p.1 with
   |true=>simp[aF,hb,ih]
   |false=>simp[ih]
def ajv{U:Nat->Prop}{sl:List (Nat×AV D)}{L:List (Nat×ah)}(hs:SR U γ w sl L):∀{js:List (Nat×PC)} {fm:List (AV D)},BM sl js=aa fm->∃vs,np U γ w fm vs∧js.length=vs.length∧∀(k t:Nat) (v:ah),(js.map bT)[k]? =aa t->vs[k]? =aa v->Dp.look L t=aa v
 |[],fm,h=>by cases h;exact⟨[],trivial,rfl,by simp⟩
 |(t,p)::js,fm,h=>by
  simp only[BM]at h;split at h
  case h_2=>cases h
  rename_i a b g1 g2;cases h;obtain⟨v,h1,h2⟩:=hs t a g1;obtain⟨vs,k1,k2,k3⟩:=ajv hs g2;refine⟨v::vs,⟨h2,k1⟩,by simp[k2],λk t' v' ht hv=>?_⟩;cases k with
  |zero=>cases ht;cases hv;exact h1
  |succ k=>exact k3 k t' v' (by simpa using ht) (by simpa using hv)
def Yd{U:Nat->Prop}{L:List (Nat×ah)}:∀{ts:List Nat} {as:List (AC D)} {vs:List ah} {t:Nat} {a:AV D},ji U γ w as vs->(∀(k t:Nat) (v:ah),ts[k]? =aa t->vs[k]? =aa v->Dp.look L t=aa v)->aF (qj.sf ts as) t=aa a->∃v,Dp.look L t=aa v∧gI U γ w a v
 |[],as,vs,t,a,_,_,h=>by simp[qj.sf,aF]at h
 |t0::ts,[],vs,t,a,_,_,h=>by simp[qj.sf,aF]at h
 |t0::ts,a0::as,vs,t,a,hv,hl,h=>by
  cases vs with
  |nil=>exact hv.elim
  |cons v vs=>
   simp only[qj.sf,aF]at h;cases hb:aU t0 t with
   |true=>have:=bB hb;subst this;simp only[hb,v_,fE]at h;subst h;exact⟨v,hl 0 _ _ rfl rfl,hv.1⟩
   |false=>simp only[hb,rZ]at h;exact Yd hv.2 (λk t v ht hv=>hl (k+1) t v (by simpa using ht) (by simpa using hv)) h
def PW:∀{ts:List Nat} {as:List (AC D)} {t:Nat} {a:AV D},aF (qj.sf ts as) t=aa a->t∈ts
 |[],as,t,a,h=>by simp[qj.sf,aF]at h
 |t0::ts,[],t,a,h=>by simp[qj.sf,aF]at h
 |t0::ts,a0::as,t,a,h=>by
  simp only[qj.sf,aF]at h;cases hb:aU t0 t with
  |true=>have:=bB hb;subst this;simp
  |false=>simp only[hb,rZ]at h;exact eY _ (PW h)
def vP{a b:List Nat}(h:qK a b=ab){x:Nat}(hx:x∈a):x∉b:=by have:=dU.1 h x hx;simp only[pV]at this;exact pu this
def kN(m:M D)(df:List Nat)(N:Nat)(x:Nat):Nat:=match aF (swap m.ids) x with
 |some p=>p
 |none=>if bN m.ku x then 1 else if bN df x&&Nat.blt x N then x else if x<4 then x else 2
structure zl(T:bc D)(j:J)(σ:S D)(h:HH D j.cM):Prop where
 ex:∃fm l m,BM σ.sl j.sl=aa fm∧Q.R σ.ob (Bp T ai j.nx j.cM (j.sl.map oT) j.ob j.gY σ.nx fm) l (h,m)∧qK (m.ids.map oT) σ.lk=ab∧qK m.ku σ.lk=ab
def sU{ρ:Type}{j:J}{σ:S D}{k:HH D j.cM->Option ρ}{r:ρ}(h:qH T j σ k=aa r):∃x,zl T j σ x∧k x=aa r:=by
 unfold qH at h;split at h
 case h_2=>cases h
 rename_i fm ha;obtain⟨l,x,h1,h2⟩:=Q.H7 h;split at h2
 case isFalse=>cases h2
 rename_i hc;simp only[bt]at hc;obtain⟨h,m⟩:=x;exact⟨h,⟨fm,l,m,ha,h1,hc.1,hc.2⟩,h2⟩
def Au(hR:cF T){σ aN bI:S D}{L L1:List (Nat×ah)}{wr mv:List Nat}{j:J}{h:HH D j.cM}{lk:List Nat}(oF:lk=(kept σ mv).map bT++σ.lk)
  (hk:Kn σ γ w L) (eI:Kn aN aQ w1 L1) (he:ci wr {σ with lk:=lk} aN) (hx:zl T j aN h) (hi:lB T j wr mv σ h=aa bI):
  ∃bg,Kn bI bg w1 L1∧f_ aQ w1 bg w1∧ci wr {σ with lk:=lk} {bI with lk:=lk}∧bI.lk=σ.lk:=by
 obtain⟨fm,l,m,ha,hq,yG,uk⟩:=hx.ex
 obtain⟨vs,AF,hlen,MO⟩:=ajv eI.sr ha
 obtain⟨⟨hex,DR⟩,vF⟩:=Nq hR eI.ob hq AF
 unfold lB at hi
 split at hi
 case isFalse=>cases hi
 rename_i hc
 simp only[bt,dU,pV]at hc
 obtain⟨⟨⟨ud,oE⟩,vD⟩,DN⟩:=hc
 have ud:=dp ud
 dsimp only at hi hex DR vF
 split at hi
 case h_2=>cases hi
 rename_i sa sb rC TI
 cases hi
 have atT:aN.lk=lk:=he.lk
 rw[atT]at yG uk
 have MJ:∀p i,(p,i)∈m.ids->p<j.nx∧(σ.nx<=p∨p=i)∧p∉lk:=λp i hp=>by
  obtain⟨q,hq⟩:=sy (hex.key p i hp);obtain⟨⟨k1,k2⟩,k3⟩:=oE _ hq;refine⟨dp k1,?_,by rw[oF];exact pu k3⟩;rw[sd]at k2;rcases k2 with k2|k2
  ·exact .inl (dp k2)
  ·exact .inr (hex.Tq p p i (hex.Tp _ (dE.2 ⟨_,lh.2 ⟨hq,k2⟩,rfl⟩)) hp)
 have A6:∀i,i∈(kept σ mv).map bT->(∀p,(p,i)∉m.ids)∧i∉m.ku∧i∈lk:=λi hi=>by
  have lD:i∈lk:=by rw[oF];exact bA.2 (.inl hi)
  exact⟨λp hp=>vP yG (dE.2 ⟨_,hp,rfl⟩) lD,λhu=>vP uk hu lD,lD⟩
 obtain⟨bg,AA⟩:∃bg:Gh D,bg=⟨λb=>kN m ((kept σ mv).map bT) σ.nx (aQ.o b),qE aQ m,gh aQ.v j.nx (dH T j.cM h)⟩:=⟨_,rfl⟩
 have atj:∀p i,(p,i)∈m.ids->kN m ((kept σ mv).map bT) σ.nx i=p:=λp i hp=>by unfold kN;rw[Mf hex.ids hp]
 have ue:∀x,(∀p,(p,x)∉m.ids)->aF (swap m.ids) x=ak:=λx hn=>by
  cases hl:aF (swap m.ids) x with
  |none=>rfl
  |some p=>exact(hn p (wA.1 (dO hl))).elim
 have ati:∀i,i∈(kept σ mv).map bT->i<σ.nx->kN m ((kept σ mv).map bT) σ.nx i=i:=λi hi ix=>by
  obtain⟨k1,k2,_⟩:=A6 i hi;unfold kN;rw[ue i k1];have h1:bN m.ku i=ai:=by
   cases hm:bN m.ku i with
   |true=>exact(k2 (ew.1 hm)).elim
   |false=>rfl
  have h2:Nat.blt i σ.nx=ab:=Nat.ble_eq_true_of_le ix;simp only[h1,aE,aD,ew.2 hi,h2,Bool.and_self,aI]
 have yv:∀x,x<4->kN m ((kept σ mv).map bT) σ.nx x=x:=λx hx=>by
  unfold kN;rw[ue x λp hp=>by have:=hex.DA p x hp;omega];have h1:bN m.ku x=ai:=by
   cases hm:bN m.ku x with
   |true=>have:=(hex.ku x (ew.1 hm)).1;omega
   |false=>rfl
  simp only[h1,aE,aD];split
  ·rfl
  ·first|rfl|rw[aH hx]
 have TM:∀x,x∈m.ku->kN m ((kept σ mv).map bT) σ.nx x=1:=λx hx=>by unfold kN;rw[ue x (hex.ku x hx).2];simp only[ew.2 hx,aI]
 have ac3:∀x,(∃p,(p,x)∈m.ids∧kN m ((kept σ mv).map bT) σ.nx x=p)∨kN m ((kept σ mv).map bT) σ.nx x=1∨(kN m ((kept σ mv).map bT) σ.nx x=x∧(x<σ.nx∨x<4))∨kN m ((kept σ mv).map bT) σ.nx x=2:=λx=>by
  unfold kN;cases hl:aF (swap m.ids) x with
  |some p=>exact .inl ⟨p,wA.1 (dO hl),rfl⟩
  |none=>
   right;dsimp only;split
   ·exact .inl rfl
   ·split
    ·rename_i hm;simp only[bt]at hm;exact .inr (.inl ⟨rfl,.inl (dp hm.2)⟩)
    ·split
     ·rename_i hm;exact .inr (.inl ⟨rfl,.inr hm⟩)
     ·exact .inr (.inr rfl)
 have Bg:Fin T (λi=>i<aN.nx) (λi=>i<j.nx+(dH T j.cM h).length) aQ bg w1 m (dH T j.cM h) j.nx:=by
  subst AA;refine⟨hex.dv,λp i hp=>⟨?_,H8 hex hp⟩,λi x hx=>?_,λ_ p hp Tv hU=>⟨?_,?_⟩,λK Kp eD hK w9 b hb=>?_,λq K Kp hq eD hK w9 b hb=>?_,λi d hd=>?_⟩
  ·have:=MJ p i hp;show p<j.nx+_;omega
  ·have:=(hex.new _ hx).1;simp only at this;show ¬i<aN.nx;omega
  ·rw[hex.Y0]at Tv;show p<j.nx+_;omega
  ·show qE aQ m p=aQ.g p;unfold qE;cases hl:aF m.ids p with
   |none=>rfl
   |some i=>have:=hex.key p i (dO hl);rw[hex.po_]at hp;rw[hp]at this;cases this
  ·unfold M.may at eD;rw[hex.BE]at eD;simp only[aE,aD,FX,dU]at eD;have hb:aQ.o b∈K:=hb;show kN m _ _ (aQ.o b)∈Kp;rw[yv _ (by have:=hK _ hb;omega)];exact ew.1 (eD _ hb)
  ·unfold M.may at eD;rw[hex.BE]at eD;simp only[aE,aD,FX,dU]at eD;have hb:aQ.o b∈q::K:=hb;show kN m _ _ (aQ.o b)∈Kp;rcases cu.1 hb with hb|hb
   ·rw[hb,TM q hq];exact ew.1 (eD 1 (by simp))
   ·rw[yv _ (by have:=hK _ hb;omega)];exact ew.1 (eD _ (by simp[hb]))
  ·refine .inr ⟨?_,GS hd⟩;have:=(List.getElem?_eq_some_iff.1 hd).1;show j.nx+i<_;omega
 have Bf:Fp aQ bg m:=⟨λp i hp b hb=>by subst AA;show kN m _ _ (aQ.o b)=p;rw[hb];exact atj p i hp⟩
 obtain⟨g1,g2⟩:=vF Bg Bf
 have MB:Xw (λi=>i<σ.nx) (λi=>i<aN.nx) (λi=>i<j.nx+(dH T j.cM h).length) aQ bg:=by
  subst AA;refine⟨λi hi=>⟨?_,?_,?_⟩,λb hb=>yv _ (by omega)⟩
  ·show i<_;have hi:i<σ.nx:=hi;omega
  ·show qE aQ m i=aQ.g i;unfold qE;cases hl:aF m.ids i with
   |none=>rfl
   |some x=>
    have hi:i<σ.nx:=hi;rcases(MJ i x (dO hl)).2.1 with h1|rfl
    ·omega
    ·have Hp:aF m.new i=ak:=by
      cases hn:aF m.new i with
      |none=>rfl
      |some y=>have:=(hex.new _ (dO hn)).1;have:=he.nx;simp only at*;omega
     simp only[Hp]
  ·exact Sw (.inl (by have hi:i<σ.nx:=hi;omega))
 have ath:∀b,aQ.o b<4->bg.o b=aQ.o b:=λb hb=>by subst AA;exact yv _ hb
 refine⟨bg,⟨λt a ub=>?_,⟨λi x ju=>?_,λb hb=>?_,λx hx=>?_⟩,?_⟩,⟨⟨rfl,rfl,rfl,bx _,λb hb hc=>⟨ath b (by omega),rfl⟩,λb hb hc=>⟨hb,?_⟩⟩,λi hi=>(MB.u i (by have:=hk.cJ;show i<σ.nx;omega)).2.1⟩,⟨λt ht=>?_,rfl,λi hi=>?_,?_⟩,rfl⟩
 ·
  rw[km]at ub
  unfold qj at rC
  split at rC
  case h_2=>cases rC
  rename_i j7 au9
  cases rC
  cases hl:aF (qj.sf (j.sl.map bT) j7) t with
  |some a'=>
   rw[hl]at ub
   cases ub
   exact Yd (g1 j7 au9) MO hl
  |none=>
   rw[hl]at ub
   dsimp only at ub
   rw[Al (f:=λt=> !(bN wr t))]at ub
   split at ub
   case isFalse=>cases ub
   rename_i rE
   have rE:t∉wr:=pu (by simpa using rE)
   have h1:aF aN.sl t=aa a:=(he.sl t rE).trans ub
   obtain⟨v,k1,k2⟩:=eI.sr t a h1
   obtain⟨v0,_,k3⟩:=hk.sr t a ub
   exact⟨v,k1,gI.two MB k2 k3⟩
 ·
  unfold dw at ju
  rw[km]at ju
  cases hl:aF sb i with
  |some y=>
   rw[hl]at ju
   cases y with
   |none=>cases ju
   |some y=>
    cases ju
    obtain⟨k1,k2,k3⟩:=g2 sb TI i x (by unfold dw;rw[hl])
    obtain⟨q,hq⟩:=sy k1
    obtain⟨⟨_,k4⟩,_⟩:=oE _ hq
    have:=hk.cJ
    refine⟨?_,k2,k3⟩
    rw[sd]at k4
    rcases k4 with k4|k4
    ·have:=dp k4;simp only at*;omega
    ·exact hex.DA i i (hex.Tp _ (dE.2 ⟨_,lh.2 ⟨hq,k4⟩,rfl⟩))
  |none=>
   rw[hl]at ju
   dsimp only at ju
   have sK:dw σ.ob i=aa x∧i∈(kept σ mv).map bT:=by
    unfold kept at ju⊢;rw[Al (f:=λt=> !(bN mv t))]at ju;by_cases hm:(!bN mv i)=ab
    ·rw[aH hm]at ju;refine⟨ju,?_⟩;cases vB:aF σ.ob i with
     |none=>rw[vB]at ju;cases ju
     |some y=>exact dE.2 ⟨(i,y),lh.2 ⟨dO vB,hm⟩,rfl⟩
    ·rw[aL hm]at ju;cases ju
   obtain⟨nM,hkm⟩:=sK
   have h1:dw aN.ob i=aa x:=by have:=he.ob i (by show i∈lk;exact(A6 i hkm).2.2);unfold dw at nM⊢;rw[this];exact nM
   obtain⟨k1,k2,k3⟩:=eI.ob.ob i x h1
   obtain⟨_,m2,m3⟩:=hk.ob.ob i x nM
   refine⟨k1,(MB.u i m2).1,OR.two MB m2 (λb hb=>?_) k3 m3⟩
   subst AA
   show kN m _ _ (aQ.o b)=i
   rw[hb]
   exact ati i hkm m2
 ·
  show bg.o b<j.nx+_
  subst AA
  show kN m _ _ (aQ.o b)<_
  have:=hk.cJ
  rcases ac3 (aQ.o b)with⟨p,h1,h2⟩|h1|⟨h1,h2⟩|h1
  ·have:=MJ p _ h1;omega
  ·omega
  ·rw[h1];omega
  ·omega
 ·show x<j.nx+_;have:=hk.cJ;omega
 ·show 2000<=j.nx+_;have:=hk.cJ;omega
 ·
  subst AA
  show aQ.o b=kN m _ _ (aQ.o b)
  have hc:kN m ((kept σ mv).map bT) σ.nx (aQ.o b)=0∨kN m ((kept σ mv).map bT) σ.nx (aQ.o b)=3:=hc
  have:=hk.cJ
  rcases ac3 (aQ.o b)with⟨p,h1,h2⟩|h1|⟨h1,h2⟩|h1
  ·have:=MJ p _ h1;omega
  ·omega
  ·exact h1.symm
  ·omega
 ·
  show aF (sa++_) t=_
  rw[km]
  have:aF sa t=ak:=by
   unfold qj at rC;split at rC
   case h_2=>cases rC
   cases rC;cases hl:aF (qj.sf (j.sl.map bT) _) t with
   |none=>rfl
   |some a=>have:=PW hl;simp only[dE]at this;obtain⟨q,hq,rfl⟩:=this;exact(ht (ew.1 (vD _ hq))).elim
  rw[this]
  dsimp only
  rw[Al (f:=λt=> !(bN wr t))]
  rw[aH]
  cases hm:bN wr t with
  |true=>exact(ht (ew.1 hm)).elim
  |false=>rfl
 ·
  show aF (sb++kept σ mv) i=_
  rw[km]
  have:aF sb i=ak:=by
   cases hl:aF sb i with
   |none=>rfl
   |some y=>obtain⟨p,q,y',k1,k2,_⟩:=Tg TI hl;cases k2;obtain⟨⟨_,_⟩,k3⟩:=oE _ k1;have er:i∈lk:=hi;rw[oF]at er;exact(pu k3 er).elim
  rw[this]
  unfold kept
  dsimp only
  rw[Al (f:=λt=> !(bN mv t)),aH]
  cases hm:bN mv i with
  |true=>
   have er:i∈lk:=hi
   rw[oF]at er
   rcases bA.1 er with er|er
   ·unfold kept at er;simp only[dE,lh]at er;obtain⟨q,⟨_,hq⟩,rfl⟩:=er;rw[hm]at hq;cases hq
   ·exact(vP DN (ew.1 hm) er).elim
  |false=>rfl
 ·show σ.nx<=j.nx+_;omega
end
end Rx
end Go.Proofs.YtmngjhagbjgmfaaGreat
namespace Go.Proofs.YtmngjhagbjgmfaaGreat
open Go Go.RowKit Dp
namespace Rx
section
variable {D:Nat->Type} [∀n,ad (D n)]
variable {P:Program} {T:bc D} {Φ:List (aA D)} {n:Nat} {γ:Gh D} {w:ay} {L:List (Nat×ah)} {Qx:Exit->Act->ay->Prop}
def np.append{U:Nat->Prop}:∀{as:List (AV D)} {vs:List ah} {bs:List (AV D)} {us:List ah},np U γ w as vs->np U γ w bs us->np U γ w (as++bs) (vs++us)
 |[],[],_,_,_,h=>h
 |a::as,v::vs,_,_,h,h'=>⟨h.1,np.append h.2 h'⟩
 |[],_::_,_,_,h,_=>h.elim
 |_::_,[],_,_,h,_=>h.elim
def Oc{U:Nat->Prop}:∀{cs:List (A0 D)} {vs:List ah},nr U γ w cs vs->np U γ w (cs.map Od) vs
 |[],[],_=>trivial
 |c::cs,v::vs,h=>by
  refine⟨?_,Oc h.2⟩;cases c with
  |ptr i off=>exact h.1
  |rp n x off K=>exact h.1
 |[],_::_,h=>h.elim
 |_::_,[],h=>h.elim
def abh [Rd](hP:dS P T)(hR:cF T)(cL:∀c∈Φ,fM P T c){U:Nat->Prop}{ar:Nat}{sl:List (Nat×AV D)}{ob:List (Nat×Option (AO D))}{d:Option Tmp}{ty:TypeId}{pos:String}{af:Array Edge}{gd:Option (Nat×Bool)}{e:cY D}{l:List Nat}
  (hx:Cx U ar γ w sl L ob) {op:Op} {as:List (AV D)} (he:eR sl op.operands.toList=aa as) (h:Q.R ob (Ad T Φ ar op as) l e):
  OW P Qx L ⟨d,op,ty,pos,af,gd⟩ w (λv w'=>∃γ',dR U ar γ w ob e γ' v w'):=by
 unfold Ad at h
 split at h
 ·rename_i u N9 ts;have he:eR sl (u::N9.toList)=aa as:=by simpa[Op.operands,Call.operands]using he
  split at h
  case h_2=>cases h
  rename_i f jf j7 _;obtain⟨h1,h2⟩:=ux he;obtain⟨vu,k1,cs,rfl,k2⟩:=cA hx.sr h1;obtain⟨vs,k3,k4⟩:=aeI hx.sr h2;split at h
  ·rename_i hf;have e0:xk f cs= .func (.func f) #[] cs.toArray:=aH hf;rw[e0]at k1;obtain⟨m1,m2⟩:=afh hR cL hx (np.append k4 (Oc k2)) h;have:=OW.ayk (P:=P) (Q:=Qx) (L:=L) (w:=w) (d:=d) (ty:=ty) (pos:=pos) (af:=af) (g:=gd) (f:=f) (u:=u) (args:=N9.toList) (jf:=cs.toArray) (vs:=vs) (ats:=ts) m1 k1 k3 (by simpa using m2);simpa using this
  ·rename_i hf;have e0:xk f cs= .func (.func (f-1000000)) cs.toArray #[]:=aL (by rw[hf];decide);rw[e0]at k1;obtain⟨m1,m2⟩:=afh hR cL hx (np.append (Oc k2) k4) h;refine OW.aas λa hr=>⟨f-1000000,(cs++vs).toArray,?_,m2⟩;simp[execOp,resolve,invoke,Deferred.ofValue,hr _ _ k1,m1];exact Eb hr _ k3
 ·exact aqm hP hR hx he h
def rm(d:Option Tmp)(v:ah)(L:List (Nat×ah)):List (Nat×ah):=match d with
 |some d=>(d,v)::L
 |none=>L
def Fr.rm [I:Rd]{a:Act}(h:Fr n L a){d:Option Tmp}(hd:∀t,d=aa t->I.eZ n t=ab)(v:ah):Fr n (rm d v L) (a.put d v):=by
 cases d with
 |none=>exact h
 |some t=>exact h.put (hd t rfl) v
def WL.take [I:Rd]{ops:Array aT}{rest:List aT}{o:aT}{R:ah->ay->Prop}(hd:∀t,o.dst=aa t->I.eZ n t=ab)(hw:∀a,Fr n L a->Region.wanted o (yielded ops a.tmps)=ab)(h:OW P Qx L o w R)
  (k:∀v w',R v w'->WL P n ops Qx rest (rm o.dst v L) w'):WL P n ops Qx (o::rest) L w:=by
 intro a ha
 refine wpListIn_step λK hK=>?_
 rw[aH (hw a ha)]
 exact h a K (λx v hx=>ha.ev hx) λv w' hr=>hK _ _ (k v w' hr _ (Fr.rm ha hd v))
def WL.pass [I:Rd]{ops:Array aT}{rest:List aT}{o:aT}(hd:∀t,o.dst=aa t->I.eZ n t=ab)(hw:∀a,Fr n L a->Region.wanted o (yielded ops a.tmps)=ai)
  (k:WL P n ops Qx rest (rm o.dst undef L) w):WL P n ops Qx (o::rest) L w:=by
 intro a ha
 refine wpListIn_step λK hK=>?_
 rw[aL (by rw[hw a ha];simp)]
 exact⟨λ_ _=>trivial,hK _ _ (k _ (Fr.rm ha hd _))⟩
def Qm [Rd]{ops:List aT}{j d:Nat}{og:aT}{b:Bool}{a:Act}(ha:Fr n L a)(hj:ops[j]? =aa og)(hd:og.dst=aa d)(hl:Dp.look L d=aa (.bool b)):yielded ops.toArray a.tmps j=aa b:=by have:=ha.get d _ hl;simp[yielded,hj,hd,this]
def YZ [Rd]{ops:List aT}{j d:Nat}{og:aT}{a:Act}(ha:Fr n L a)(hj:ops[j]? =aa og)(hd:og.dst=aa d)(hl:Dp.look L d=aa undef):yielded ops.toArray a.tmps j=ak:=by have:=ha.get d _ hl;simp[yielded,hj,hd,this,undef]
def aCy(N:Nat):jw (λi=>i<N) N=λi=>i<N+128:=by rY i;unfold jw;apply propext;omega
def Kn.cx{σ:S D}(h:Kn σ γ w L):Cx (λi=>i<σ.nx) σ.nx γ w σ.sl L σ.ob:=⟨h.sr,h.ob,λi h1 h2 h3=>by omega,by have:=h.cJ;omega⟩
def Kn.ap{σ:S D}{γ':Gh D}{w':ay}{v:ah}{e:cY D}(h:Kn σ γ w L)(hp:dR (λi=>i<σ.nx) σ.nx γ w σ.ob e γ' v w')(d:Option Tmp):Kn (zb σ d e) γ' w' (rm d v L):=by
 have fA:=hp.kp;have Bb:=hp.dst;have bH:=hp.ob;rw[aCy]at fA Bb bH;refine⟨?_,bH,by show 2000<=σ.nx+128;have:=h.cJ;omega⟩;cases d with
 |none=>exact h.sr.df fA
 |some t=>exact(h.sr.df fA).cons Bb
def Kn.skip{σ:S D}(h:Kn σ γ w L)(d:Option Tmp):Kn (uZ σ d) γ w (rm d undef L):=by
 have fA:jj (λi=>i<σ.nx) (λi=>i<σ.nx+128) γ w γ w:=⟨λi h=>by show i<_;have h:i<σ.nx:=h;omega,λ_ _=>rfl,λ_ _=>rfl,λ_ _ _=>⟨rfl,rfl⟩⟩;refine⟨?_,⟨λi x hx=>?_,λb hb=>fA.u _ (h.ob.cl b hb),λx hx=>fA.u _ (h.ob.ro x hx)⟩,by show 2000<=σ.nx+128;have:=h.cJ;omega⟩
 ·cases d with
  |none=>exact h.sr.df fA
  |some t=>exact(h.sr.df fA).cons rfl
 ·obtain⟨h1,h2,h3⟩:=h.ob.ob i x hx;exact⟨h1,fA.u _ h2,h3.df fA h2 λ_ _ _=>⟨rfl,rfl⟩⟩
def SP{α:Type}{l:List (Nat×α)}{d:Nat}{a:α}(h:aF l d=aa a)(t:Nat):aF ((d,a)::l) t=aF l t:=by
 simp only[aF];cases hb:aU d t with
 |true=>have:=bB hb;subst this;simp[h]
 |false=>rfl
def Kn.lp{σ:S D}{d:Nat}{c:Bool}{K:List Nat}{g:Nat}(h:Kn σ γ w L)(hd:aF σ.sl d=aa (.c (.one (.v .bool c K g)))):Kn (lp σ d c K g) γ w L:=⟨λt a ha=>h.sr t a (by rw[<-SP hd];exact ha),h.ob,h.cJ⟩
def ci.lp{σ:S D}{d:Nat}{c:Bool}{K:List Nat}{g:Nat}(wr:List Nat)(hd:aF σ.sl d=aa (.c (.one (.v .bool c K g)))):ci wr σ (lp σ d c K g):=⟨λt _=>SP hd t,rfl,λ_ _=>rfl,bx _⟩
def ci.ap{σ:S D}{e:cY D}{d:Option Tmp}{wr:List Nat}(hd:∀t,d=aa t->t∈wr)(he:Ed σ.lk e=ab):ci wr σ (zb σ d e):=by
 unfold Ed at he;simp only[bt]at he;refine⟨λt ht=>?_,rfl,λi hi=>?_,by show σ.nx<=σ.nx+128;omega⟩
 ·cases d with
  |none=>rfl
  |some d=>
   show aF ((d,e.dst)::σ.sl) t=_;simp only[aF];have:aU d t=ai:=by
    cases hb:aU d t with
    |true=>have:=bB hb;exact(ht (hd t (by rw[this]))).elim
    |false=>rfl
   rw[this];rfl
 ·show aF (e.fz.map (λi=>(i,ak))++e.sq++σ.ob) i=_;have h1:aF (e.fz.map λi=>(i,(none:Option (AO D)))) i=ak:=by rw[qh];intro hm;simp only[List.map_map,dE]at hm;obtain⟨x,hx,rfl⟩:=hm;exact vP he.2 hx hi
  have h2:aF e.sq i=ak:=by rw[qh];exactλhm=>vP he.1 hm hi
  rw[List.append_assoc,km,h1];dsimp only;rw[km,h2]
def ci.skip{σ:S D}{d:Option Tmp}{wr:List Nat}(hd:∀t,d=aa t->t∈wr):ci wr σ (uZ σ d):=by
 refine⟨λt ht=>?_,rfl,λ_ _=>rfl,by show σ.nx<=σ.nx+128;omega⟩;cases d with
 |none=>rfl
 |some d=>
  show aF ((d,_)::σ.sl) t=_;simp only[aF];have:aU d t=ai:=by
   cases hb:aU d t with
   |true=>have:=bB hb;exact(ht (hd t (by rw[this]))).elim
   |false=>rfl
  rw[this];rfl
def ZR{ρ:Type}{p:Nat}{o:aT}{σ:S D}{lg:List Lg}{k:S D->List Lg->Option ρ}{r:ρ}(h:zG T Φ p o σ lg k=aa r):
  ∃as e l,eR σ.sl o.op.operands.toList=aa as∧Q.R σ.ob (Ad T Φ σ.nx o.op as) l e∧Ed σ.lk e=ab∧k (zb σ o.dst e) (⟨p,l.reverse,e.wr⟩::lg)=aa r:=by
 unfold zG at h
 split at h
 case h_2=>cases h
 rename_i as ha
 obtain⟨l,e,h1,h2⟩:=Q.H7 h
 split at h2
 case h_2=>cases h2
 rename_i hc
 exact⟨as,e,l,ha,h1,hc,by simpa using h2⟩
def Vz{o:aT}{r:List aT}{t:Nat}(h:o.dst=aa t):t∈dstsOf (o::r):=by unfold dstsOf;simp[List.filterMap_cons,h]
def Vy{o:aT}{r:List aT}{t:Nat}(h:t∈dstsOf r):t∈dstsOf (o::r):=by
 unfold dstsOf at h⊢;rw[List.filterMap_cons];split
 ·exact h
 ·exact eY _ h
def U3{ops:List aT}{sl:List (Nat×AV D)}{j d:Nat}{a:AV D}(h:guardOf ops sl j=aa (d,a)):∃og,ops[j]? =aa og∧og.dst=aa d∧aF sl d=aa a:=by
 unfold guardOf at h;split at h
 case h_2=>cases h
 rename_i og ho;split at h
 case h_2=>cases h
 rename_i d' hd;split at h
 case h_2=>cases h
 rename_i a' ha;cases h;exact⟨og,ho,hd,ha⟩
def yV{ρ:Type}{c:Bool}{a b:Option ρ}{r:ρ}(h:Ez c a b=aa r):(c=ab∧a=aa r)∨(c=ai∧b=aa r):=by
 cases c with
 |true=>exact .inl ⟨rfl,h⟩
 |false=>exact .inr ⟨rfl,h⟩
section
variable (hP:dS P T) (hR:cF T) (cL:∀c∈Φ,fM P T c)
include hP hR cL
def anK [Rd]{σ:S D}(hk:Kn σ γ w L){o:aT}{as:List (AV D)}{e:cY D}{l:List Nat}(ha:eR σ.sl o.op.operands.toList=aa as)(hq:Q.R σ.ob (Ad T Φ σ.nx o.op as) l e):
  OW P Qx L o w (λv w'=>∃γ',f_ γ w γ' w'∧Kn (zb σ o.dst e) γ' w' (rm o.dst v L)):=by
 obtain⟨d,op,ty,pos,af,gd⟩:=o
 refine OW.mono (abh hP hR cL hk.cx ha hq) ?_
 rintro v w' ⟨γ',hp⟩
 exact⟨γ',hp.fr,hk.ap hp d⟩
def s_ [I:Rd]{ops:List aT}:∀{l:List aT} {p:Nat} {σ:S D} {lg:List Lg} {ρ:Type} {k:S D->List Lg->Option ρ} {r:ρ} {γ:Gh D} {w:ay} {L:List (Nat×ah)},je T Φ ops l p σ lg k=aa r->(∀t∈dstsOf l,I.eZ n t=ab)->Kn σ γ w L->
  (∀be G1 γ' w' L',Kn be γ' w' L'->f_ γ w γ' w'->ci (dstsOf l) σ be->k be G1=aa r->NK n (Qx .normal) L' w')->WL P n ops.toArray Qx l L w
 |[],p,σ,lg,ρ,k,r,γ,w,L,h,hd,hk,hc=>WL.nil (hc σ lg γ w L hk (f_.refl _ _) (ci.refl _ _) h)
 |o::l,p,σ,lg,ρ,k,r,γ,w,L,h,hd,hk,hc=>by
  have xc:∀t,o.dst=aa t->I.eZ n t=ab:=λt ht=>hd t (Vz ht);have vI:∀t∈dstsOf l,I.eZ n t=ab:=λt ht=>hd t (Vy ht);have run:∀{fe:S D},Kn fe γ w L->ci (dstsOf (o::l)) σ fe->(∀a,Fr n L a->Region.wanted o (yielded ops.toArray a.tmps)=ab)->zG T Φ p o fe lg (λσ lg=>je T Φ ops l (p+1) σ lg k)=aa r->WL P n ops.toArray Qx (o::l) L w:=by intro fe mG rH hw h;obtain⟨as,e,l',h1,h2,h3,h4⟩:=ZR h;refine WL.take xc hw (anK hP hR cL mG h1 h2) ?_;rintro v w' ⟨γ',hf,cV⟩;have na:ci (dstsOf (o::l)) fe (zb fe o.dst e):=ci.ap (λt ht=>Vz ht) h3;exact s_ h4 vI cV λbe G1 B_ uU Fj Uc Us Uw UH=>hc be G1 B_ uU Fj Uc (hf.trans Us) ((rH.trans na).trans (Uw.mono λt ht=>Vy ht)) UH
  have pass:∀{fe:S D},Kn fe γ w L->ci (dstsOf (o::l)) σ fe->(∀a,Fr n L a->Region.wanted o (yielded ops.toArray a.tmps)=ai)->je T Φ ops l (p+1) (uZ fe o.dst) lg k=aa r->WL P n ops.toArray Qx (o::l) L w:=by intro fe mG rH hw h;refine WL.pass xc hw ?_;have na:ci (dstsOf (o::l)) fe (uZ fe o.dst):=ci.skip λt ht=>Vz ht;exact s_ h vI (mG.skip o.dst) λbe G1 B_ uU Fj Uc Us Uw UH=>hc be G1 B_ uU Fj Uc Us ((rH.trans na).trans (Uw.mono λt ht=>Vy ht)) UH
  simp only[je]at h;split at h
  ·rename_i hg;exact run hk (ci.refl _ _) (λa _=>by simp[Region.wanted,hg]) h
  ·rename_i j b hg;split at h
   case h_1=>cases h
   rename_i d a vE;obtain⟨og,ho,vJ,hl⟩:=U3 vE;split at h
   ·rename_i c K g;obtain⟨v,vr,mY⟩:=hk.sr d _ hl;have mY:v= .bool c:=mY.1;subst mY;have hy:∀a,Fr n L a->Region.wanted o (yielded ops.toArray a.tmps)=(c==b):=λa ha=>by simp[Region.wanted,hg,Qm ha ho vJ vr]
    rcases yV h with⟨rfl,h⟩|⟨rfl,h⟩
    ·have jG:=hk.lp hl;have sM:=ci.lp (dstsOf (o::l)) hl;cases b with
     |true=>exact run jG sM (λa ha=>by rw[hy a ha];rfl) h
     |false=>exact pass jG sM (λa ha=>by rw[hy a ha];rfl) h
    ·have jG:=hk.lp hl;have sM:=ci.lp (dstsOf (o::l)) hl;cases b with
     |true=>exact pass jG sM (λa ha=>by rw[hy a ha];rfl) h
     |false=>exact run jG sM (λa ha=>by rw[hy a ha];rfl) h
   ·split at h
    case isFalse=>cases h
    rename_i hu;have ha:a= .c (.one .undef):=by
     unfold Ta at hu;split at hu
     ·rfl
     ·cases hu
    subst ha;obtain⟨v,vr,mY⟩:=hk.sr d _ hl;have mY:v=undef:=mY;subst mY;exact pass hk (ci.refl _ _) (λa ha=>by simp[Region.wanted,hg,YZ ha ho vJ vr]) h
end
end
end Rx
end Go.Proofs.YtmngjhagbjgmfaaGreat
namespace Go.Proofs.YtmngjhagbjgmfaaGreat
open Go Go.RowKit Dp
namespace Rx
section
variable {D:Nat->Type} [∀n,ad (D n)]
variable {P:Program} {T:bc D} {Φ:List (aA D)} {n:Nat} {γ:Gh D} {w:ay} {L:List (Nat×ah)} {Qx:Exit->Act->ay->Prop}
def Out.I2:∀{a b:Out},a.beq b=ab->a=b
 | .normal,.normal,_=>rfl
 | .exit a,.exit b,h=>by rw[bB h]
 | .goto a,.goto b,h=>by rw[bB h]
 | .ret,.ret,_=>rfl
 | .normal,.exit _,h=>by cases h
 | .normal,.goto _,h=>by cases h
 | .normal,.ret,h=>by cases h
 | .exit _,.normal,h=>by cases h
 | .exit _,.goto _,h=>by cases h
 | .exit _,.ret,h=>by cases h
 | .goto _,.normal,h=>by cases h
 | .goto _,.exit _,h=>by cases h
 | .goto _,.ret,h=>by cases h
 | .ret,.normal,h=>by cases h
 | .ret,.exit _,h=>by cases h
 | .ret,.goto _,h=>by cases h
def U6{ρ:Type}{j:J}{wr mv:List Nat}{σ:S D}{k:S D->Option ρ}{h:HH D j.cM}{r:ρ}(e:H9 T j wr mv σ k h=aa r):∃bI,lB T j wr mv σ h=aa bI∧k bI=aa r:=by
 unfold H9 at e;split at e
 ·rename_i be h1;exact⟨be,h1,e⟩
 ·cases e
def FT{ρ:Type}{wr mv:List Nat}{σ aN:S D}{k:Out->S D->Option ρ}{kv:Option ρ}{o:Out}{r:ρ}:∀{E:List (Out×J)} {pr:Bool} {x:v7 D pr ρ E},toE T pr E o aN kv=aa x->sS T pr wr mv σ k E x=aa r->
  (∃j h bI,zl T j aN h∧lB T j wr mv σ h=aa bI∧k o bI=aa r)∨kv=aa r
 |[],pr,x,h,hf=>by simp only[toE]at h;simp only[sS]at hf;exact .inr (h.trans hf)
 |(o',j)::E,pr,x,h,hf=>by
  cases pr with
  |true=>
   cases E with
   |nil=>
    simp only[toE]at h;split at h
    case isFalse=>cases h
    rename_i hb;obtain⟨y,h1,h2⟩:=sU h;cases h2;have:=Out.I2 hb;subst this;simp only[sS]at hf;obtain⟨bI,h3,h4⟩:=U6 hf;exact .inl ⟨j,x,bI,h1,h3,h4⟩
   |cons e E=>
    simp only[toE]at h;split at h
    ·rename_i hb;obtain⟨y,h1,h2⟩:=sU h;cases h2;have:=Out.I2 hb;subst this;simp only[sS,Dg,bw]at hf;obtain⟨bI,h3,h4⟩:=U6 hf;exact .inl ⟨j,y,bI,h1,h3,h4⟩
    ·split at h
     case h_2=>cases h
     rename_i y hy;cases h;simp only[sS,Dg,bC]at hf;exact FT hy hf
  |false=>
   simp only[toE]at h;split at h
   ·rename_i hb;obtain⟨y,h1,h2⟩:=sU h;cases h2;have:=Out.I2 hb;subst this;simp only[sS,Dg,bw]at hf;obtain⟨bI,h3,h4⟩:=U6 hf;exact .inl ⟨j,y,bI,h1,h3,h4⟩
   ·split at h
    case h_2=>cases h
    rename_i y hy;cases h;simp only[sS,Dg,bC]at hf;exact FT hy hf
def Kn.lk{σ:S D}(h:Kn σ γ w L)(l:List Nat):Kn {σ with lk:=l} γ w L:=⟨h.sr,h.ob,h.cJ⟩
def ci.JP{wr:List Nat}{σ aN:S D}{lk:List Nat}(hs:∀i∈σ.lk,i∈lk)(h:ci wr {σ with lk:=lk} aN):ci wr σ {aN with lk:=σ.lk}:=⟨h.sl,rfl,λi hi=>h.ob i (hs i hi),h.nx⟩
def zC(hR:cF T){cut:Option (Bool×List (Out×J))}{wr:List Nat}{ρ:Type}{body:∀{jl:Type},S D->(Out->S D->Option jl)->Option jl}{σ:S D}{k:Out->S D->Option ρ}{r:ρ}(h:wrap T wr cut body σ k=aa r)(hk:Kn σ γ w L){G:Prop}(X:Out->List (Nat×ah)->ay->Prop)
  (M2:∀{jl:Type} {be:S D} {k':Out->S D->Option jl} {r':jl},body be k'=aa r'->Kn be γ w L->(∀o aN aQ w1 L1,Kn aN aQ w1 L1->f_ γ w aQ w1->ci wr be aN->k' o aN=aa r'->X o L1 w1)->G)
  (hc:∀o aN aQ w1 L1,Kn aN aQ w1 L1->f_ γ w aQ w1->ci wr σ aN->k o aN=aa r->X o L1 w1):G:=by
 unfold wrap at h
 split at h
 ·exact M2 h hk hc
 ·rename_i pr E;obtain⟨x,hx,hf⟩:=pM h;refine M2 hx (hk.lk _) λo aN aQ w1 L1 eI eE he hto=>?_;have hs:∀i∈σ.lk,i∈(kept σ (rn E)).map bT++σ.lk:=λi hi=>bA.2 (.inr hi);rcases FT hto hf with⟨j,y,bI,h1,h2,h3⟩|h1
  ·obtain⟨bg,k1,k2,k3,k4⟩:=Au hR rfl hk eI he h1 h2;have:=k3.JP (σ:=σ) hs;have e:({bI with lk:=σ.lk}:S D)=bI:=by rw[<-k4]
   rw[show({({bI with lk:=(kept σ (rn E)).map bT++σ.lk}:S D)with lk:=σ.lk}:S D)={bI with lk:=σ.lk}from rfl,e]at this;exact hc o bI bg w1 L1 k1 (eE.trans k2) this h3
  ·exact hc o _ aQ w1 L1 (eI.lk _) eE (he.JP hs) h1
def akT [I:Rd]{o:aT}{a:Act}{w:ay}{K:Act->ay->Prop}{K2:Act->ay->Prop}(hh:o.wpIn I.F 0 P a w K (Exit.then K2 Qx)):o.wpIn I.F 0 P a w K Qx:=by
 unfold aT.wpIn at*;refine⟨hh.1,?_⟩;have hh:=hh.2;generalize (o.semAt I.F.round a.eval).run P w=r at*;cases r with
 |ok n w'=>
  cases n<;>simp only[aT.uponIn]at hh⊢<;>
   first
    |exact hh
    |exact⟨hh.1,hh.2.mono (λe uU he=>by cases e<;>exact he)⟩
    |exact⟨hh.1,hh.2.mono (λ_ _ he=>he)⟩
 |halt x w'=>cases x<;>simp only[aT.uponIn]at hh⊢<;>exact hh
def SU [I:Rd]{ops:Array aT}{l2:List aT}:∀{l1:List aT} {a:Act} {w:ay},wpListIn I.F 0 P ops (Exit.then (wpListIn I.F 0 P ops Qx l2) Qx) l1 a w->wpListIn I.F 0 P ops Qx (l1++l2) a w
 |[],a,w,h=>h
 |o::l1,a,w,h=>by
  unfold wpListIn at h;show wpListIn I.F 0 P ops Qx (o::(l1++l2)) a w;unfold wpListIn;split
  ·rename_i hw;rw[aH hw]at h;exact aT.wpIn_mono (λa w h=>SU h) (akT h)
  ·rename_i hw;rw[aL hw]at h;exact⟨h.1,SU h.2⟩
def WL.bG [Rd]{ops:Array aT}{l1 l2:List aT}(h:∀K:Act->ay->Prop,(∀L' w',WL P n ops Qx l2 L' w'->NK n K L' w')->WL P n ops (Exit.then K Qx) l1 L w):WL P n ops Qx (l1++l2) L w:=
 λa ha=>SU (h _ (λ_ _ hc a' jY=>hc a' jY) a ha)
def VA(a b:List aT):dstsOf (a++b)=dstsOf a++dstsOf b:=by unfold dstsOf;simp
def ank{σ:S D}{γ:Gh D}{w:ay}{L:List (Nat×ah)}{i m t tc q g h:Nat}{xs:List (D m)}(hk:Kn σ γ w L)(ho:dw σ.ob i=aa (.cZ m t tc q xs g h))(hl:bN σ.lk i=ai):
  ∃bg,Kn {σ with ob:=(i,aa (.sl m t xs [1] g))::σ.ob} bg w L∧f_ γ w bg w∧ci [] σ {σ with ob:=(i,aa (.sl m t xs [1] g))::σ.ob}:=by
 obtain⟨hi,hU,h1,h2,_⟩:=hk.ob.ob i _ ho
 obtain⟨o',qq⟩:∃o':cB,o'=λb=>if γ.o b=i∧xa (γ.g i) b=ai then 1 else γ.o b:=⟨_,rfl⟩
 have bR:∀b,γ.o b≠i->o' b=γ.o b:=λb hb=>by rw[qq];exact aL λhc=>hb hc.1
 have hhd:∀b,xa (γ.g i) b=ab->o' b=γ.o b:=λb hb=>by rw[qq];exact aL λhc=>by rw[hb]at hc;cases hc.2
 have ng:∀b,γ.o b=i->xa (γ.g i) b=ai->o' b=1:=λb e hb=>by rw[qq];exact aH ⟨e,hb⟩
 have wZ:∀b,o' b=γ.o b∨o' b=1∧γ.o b=i:=λb=>by
  rw[qq];by_cases hc:γ.o b=i∧xa (γ.g i) b=ai
  ·exact .inr ⟨aH hc,hc.1⟩
  ·exact .inl (aL hc)
 have kp:jj (λi=>i<σ.nx) (λi=>i<σ.nx) γ w ⟨o',γ.g,γ.v⟩ w:=⟨λ_ h=>h,λ_ _=>rfl,λ_ _=>rfl,λb _ hc=>⟨bR b (by omega),rfl⟩⟩
 refine⟨⟨o',γ.g,γ.v⟩,⟨hk.sr.df kp,⟨λj x hx=>?_,λb hb=>?_,hk.ob.ro⟩,hk.cJ⟩,⟨⟨rfl,rfl,rfl,bx _,λb _ hc=>⟨bR b (by omega),rfl⟩,λb hb hc=>⟨hb,?_⟩⟩,λ_ _=>rfl⟩,⟨λ_ _=>rfl,rfl,λj hj=>?_,bx _⟩⟩
 ·by_cases fI:i=j
  ·subst fI;have e:dw ((i,aa (AO.sl m t xs [1] g))::σ.ob) i=aa (.sl m t xs [1] g):=by simp[dw,aF]
   rw[e]at hx;cases hx;refine⟨hi,hU,?_,λx hx=>by rw[eb.1 hx];omega,h2.df kp⟩;refine Ow.tO (λb hb=>?_) (λb hb=>?_) h1.ow
   ·obtain⟨f1,f2⟩:=Du hb;show o' b=i;rw[hhd b f2,f1]
   ·have hb:lA γ.o i (γ.g i) b=1:=by simpa[In]using hb
    obtain⟨f1,f2⟩:=Dt hb;show o' b∈[1];rw[ng b f1 f2];exact eb.2 rfl
  ·have hb:aU i j=ai:=by
    cases hb:aU i j with
    |true=>exact(fI (bB hb)).elim
    |false=>rfl
   have e:dw ((i,aa (AO.sl m t xs [1] g))::σ.ob) j=dw σ.ob j:=by simp[dw,aF,hb]
   rw[e]at hx;obtain⟨k1,k2,k3⟩:=hk.ob.ob j x hx;exact⟨k1,k2,k3.df kp k2 λb _ hb=>⟨bR b (by rw[hb];exactλe=>fI e.symm),rfl⟩⟩
 ·show o' b<σ.nx;rcases wZ b with e|⟨e,_⟩
  ·rw[e];exact hk.ob.cl b hb
  ·rw[e];have:=hk.cJ;omega
 ·rcases wZ b with e|⟨e,_⟩
  ·exact e.symm
  ·have hc:o' b=0∨o' b=3:=hc;omega
 ·have bR:i≠j:=λe=>pu hl (e▸hj);have hb:aU i j=ai:=by
   cases hb:aU i j with
   |true=>exact(bR (bB hb)).elim
   |false=>rfl
  simp[aF,hb]
def ZB{w:ay}{L:List (Nat×ah)}:∀{b:List Nat} {σ bI:S D} {γ:Gh D},xG σ b=aa bI->Kn σ γ w L->∃bg,Kn bI bg w L∧f_ γ w bg w∧ci [] σ bI
 |[],σ,bI,γ,h,hk=>by cases h;exact⟨γ,hk,f_.refl _ _,ci.refl _ _⟩
 |i::r,σ,bI,γ,h,hk=>by
  simp only[xG]at h;split at h
  case h_2=>cases h
  rename_i m t tc q xs g ht ho;split at h
  case isTrue=>cases h
  rename_i hl;obtain⟨aQ,k1,k2,k3⟩:=ank hk ho (by simpa using hl);obtain⟨bg,j1,j2,j3⟩:=ZB h k1;exact⟨bg,j1,k2.trans j2,k3.trans j3⟩
def awe{σ:S D}{γ:Gh D}{w:ay}{L:List (Nat×ah)}{i n:Nat}{xs:List (D n)}{K:List Nat}{o:AO D}(hk:Kn σ γ w L)(ho:dw σ.ob i=aa o)(hd:BN o=aa (⟨.sl n,xs⟩,K))(hl:bN σ.lk i=ai):
  ∃bg,Kn {σ with ob:=(i,aa (.fz n xs (1::K)))::σ.ob} bg w L∧f_ γ w bg w∧ci [] σ {σ with ob:=(i,aa (.fz n xs (1::K)))::σ.ob}:=by
 obtain⟨hi,hU,h1⟩:=hk.ob.ob i _ ho
 obtain⟨h2,h3⟩:=Xf h1 hd
 obtain⟨o',qq⟩:∃o':cB,o'=λb=>if γ.o b=i then 1 else γ.o b:=⟨_,rfl⟩
 have bR:∀b,γ.o b≠i->o' b=γ.o b:=λb hb=>by rw[qq];exact aL hb
 have i_:∀b,γ.o b=i->o' b=1:=λb hb=>by rw[qq];exact aH hb
 have wZ:∀b,o' b=γ.o b∨o' b=1∧γ.o b=i:=λb=>by
  by_cases hc:γ.o b=i
  ·exact .inr ⟨i_ b hc,hc⟩
  ·exact .inl (bR b hc)
 have kp:jj (λi=>i<σ.nx) (λi=>i<σ.nx) γ w ⟨o',γ.g,γ.v⟩ w:=⟨λ_ h=>h,λ_ _=>rfl,λ_ _=>rfl,λb _ hc=>⟨bR b (by omega),rfl⟩⟩
 have adX:∀j,i≠j->aU i j=ai:=λj fI=>by
  cases hb:aU i j with
  |true=>exact(fI (bB hb)).elim
  |false=>rfl
 refine⟨⟨o',γ.g,γ.v⟩,⟨hk.sr.df kp,⟨λj x hx=>?_,λb hb=>?_,hk.ob.ro⟩,hk.cJ⟩,⟨⟨rfl,rfl,rfl,bx _,λb _ hc=>⟨bR b (by omega),rfl⟩,λb hb hc=>⟨hb,?_⟩⟩,λ_ _=>rfl⟩,⟨λ_ _=>rfl,rfl,λj hj=>?_,bx _⟩⟩
 ·by_cases fI:i=j
  ·subst fI;have e:dw ((i,aa (AO.fz n xs (1::K)))::σ.ob) i=aa (.fz n xs (1::K)):=by simp[dw,aF]
   rw[e]at hx;cases hx;refine⟨hi,hU,?_,λx hx=>?_⟩
   ·show dD (In o' (1::K)) w (γ.g i) ⟨.sl n,xs⟩;refine dD.weaken (λb hb=>?_) h2;unfold In at hb⊢;rcases cu.1 hb with hb|hb
    ·rw[i_ b hb];exact List.mem_cons_self ..
    ·rw[bR b (λe=>by have:=h3 _ hb;omega)];exact eY _ hb
   ·rcases cu.1 hx with rfl|hx
    ·omega
    ·exact h3 x hx
  ·have e:dw ((i,aa (AO.fz n xs (1::K)))::σ.ob) j=dw σ.ob j:=by simp[dw,aF,adX j fI]
   rw[e]at hx;obtain⟨k1,k2,k3⟩:=hk.ob.ob j x hx;exact⟨k1,k2,k3.df kp k2 λb _ hb=>⟨bR b (by rw[hb];exactλe=>fI e.symm),rfl⟩⟩
 ·show o' b<σ.nx;rcases wZ b with e|⟨e,_⟩
  ·rw[e];exact hk.ob.cl b hb
  ·rw[e];have:=hk.cJ;omega
 ·rcases wZ b with e|⟨e,_⟩
  ·exact e.symm
  ·have hc:o' b=0∨o' b=3:=hc;omega
 ·have bR:i≠j:=λe=>pu hl (e▸hj);simp[aF,adX j bR]
def pI{w:ay}{L:List (Nat×ah)}:∀{b:List Nat} {σ bI:S D} {γ:Gh D},qF σ b=aa bI->Kn σ γ w L->∃bg,Kn bI bg w L∧f_ γ w bg w∧ci [] σ bI
 |[],σ,bI,γ,h,hk=>by cases h;exact⟨γ,hk,f_.refl _ _,ci.refl _ _⟩
 |i::r,σ,bI,γ,h,hk=>by
  simp only[qF]at h;split at h
  case h_2=>cases h
  rename_i o ho;split at h
  case h_2=>cases h
  rename_i n xs K hd;split at h
  case isTrue=>cases h
  rename_i hl;obtain⟨aQ,k1,k2,k3⟩:=awe hk ho hd (by simpa using hl);obtain⟨bg,j1,j2,j3⟩:=pI h k1;exact⟨bg,j1,k2.trans j2,k3.trans j3⟩
def pJ{l:List Nat}{σ:S D}{ρ:Type}{k:S D->Option ρ}{r:ρ}(h:oJ l σ k=aa r):∃be,qF σ l=aa be∧k be=aa r:=by
 unfold oJ at h;split at h
 case h_2=>cases h
 exact⟨_,by assumption,h⟩
def ci.qF{wr:List Nat}{σ be:S D}(h:ci [] σ be):ci wr σ be:=h.mono λt ht=>by cases ht
section
variable (hP:dS P T) (hR:cF T) (cL:∀c∈Φ,fM P T c)
include hP hR cL
def axU [I:Rd]{ops:List aT}:∀(sg:Sg) {ρ:Type} {l:List aT} {p:Nat} {σ:S D} {k:S D->Option ρ} {r:ρ} {γ:Gh D} {w:ay} {L:List (Nat×ah)} {Qx:Exit->Act->ay->Prop},vQ T Φ ops sg l p σ k=aa r->(∀t∈dstsOf l,I.eZ n t=ab)->Kn σ γ w L->
  (∀be γ' w' L',Kn be γ' w' L'->f_ γ w γ' w'->ci (dstsOf l) σ be->k be=aa r->NK n (Qx .normal) L' w')->WL P n ops.toArray Qx l L w:=by
 intro sg
 induction sg with
 |nil=>
  intro ρ l p σ k r γ w L Qx h hd hk hc
  simp only[vQ]at h
  exact s_ hP hR cL h hd hk λbe _ γ' w' L' h1 h2 h3 h4=>hc be γ' w' L' h1 h2 h3 h4
 |xG s b next Tl=>
  intro ρ l p σ k r γ w L Qx h hd hk hc
  simp only[vQ]at h
  have pA:l=l.take (s-p)++l.drop (s-p):=(pR _ _).symm
  generalize nM:l.take (s-p)=l1 at*
  generalize DQ:l.drop (s-p)=l3 at*
  have vI:dstsOf l=dstsOf l1++dstsOf l3:=by rw[pA,VA]
  rw[vI]at hd hc
  rw[pA]
  refine WL.bG λK1 g_=>?_
  refine s_ hP hR cL h (λt ht=>hd t (bA.2 (.inl ht))) hk λaN _ aQ w1 L1 k1 k2 k3 k4=>?_
  refine g_ _ _ ?_
  split at k4
  case h_2=>cases k4
  rename_i bI asz
  obtain⟨bg,m1,m2,m3⟩:=ZB asz k1
  refine Tl k4 (λt ht=>hd t (bA.2 (.inr ht))) m1 λo7 jS w3 L3 n1 n2 n3 n4=>?_
  refine hc o7 jS w3 L3 n1 ((k2.trans m2).trans n2) ?_ n4
  exact((k3.mono λt ht=>bA.2 (.inl ht)).trans (m3.mono λt ht=>by cases ht)).trans (n3.mono λt ht=>bA.2 (.inr ht))
 |tN s m j inner next G8 Tl=>
  intro ρ l p σ k r γ w L Qx h hd hk hc
  simp only[vQ]at h
  have pA:l=l.take (s-p)++((l.drop (s-p)).take m++l.drop (s-p+m)):=by rw[<-List.drop_drop,pR,pR]
  generalize nM:l.take (s-p)=l1 at*
  generalize vB:(l.drop (s-p)).take m=l2 at*
  generalize DQ:l.drop (s-p+m)=l3 at*
  have vI:dstsOf l=dstsOf l1++(dstsOf l2++dstsOf l3):=by rw[pA,VA,VA]
  rw[vI]at hd hc
  rw[pA]
  refine WL.bG λK1 g_=>?_
  refine s_ hP hR cL h (λt ht=>hd t (bA.2 (.inl ht))) hk λaN _ aQ w1 L1 k1 k2 k3 k4=>?_
  refine g_ _ _ ?_
  refine WL.bG λK2 iD=>?_
  have uk:∀t∈dstsOf l2,I.eZ n t=ab:=λt ht=>hd t (bA.2 (.inr (bA.2 (.inl ht))))
  have hd3:∀t∈dstsOf l3,I.eZ n t=ab:=λt ht=>hd t (bA.2 (.inr (bA.2 (.inr ht))))
  refine zC hR k4 k1 (X:=λ_ L1 w1=>NK n K2 L1 w1) ?_ ?_
  ·intro jl be k' r' hb cV hx;have fin:∀{fe:S D},ci (dstsOf l2) be fe->∀FD Jw FR PM,Kn FD Jw FR PM->f_ aQ w1 Jw FR->ci (dstsOf l2) fe FD->k' .normal FD=aa r'->NK n ((Exit.then K2 Qx) .normal) PM FR:=
    λrH FD Jw FR PM m1 m2 m3 m4=>hx .normal FD Jw FR PM m1 m2 (rH.trans m3) m4
   cases l2 with
   |nil=>cases hb
   |cons o l2=>
    dsimp only at hb;split at hb
    ·rename_i i b hg;split at hb
     ·rename_i d c K g vE;obtain⟨_,_,_,hl⟩:=U3 vE;have sM:∀c',c=c'->ci (dstsOf (o::l2)) be (lp be d c' K g):=λc' e=>by subst e;exact ci.lp _ hl
      have jG:∀c',c=c'->Kn (lp be d c' K g) aQ w1 L1:=λc' e=>by subst e;exact cV.lp hl
      rcases yV hb with⟨qC,hb⟩|⟨qC,hb⟩
      ·cases b with
       |true=>exact G8 hb uk (jG _ qC) (fin (sM _ qC))
       |false=>exact s_ hP hR cL hb uk (jG _ qC) λbe _=>fin (sM _ qC) be
      ·cases b with
       |true=>exact s_ hP hR cL hb uk (jG _ qC) λbe _=>fin (sM _ qC) be
       |false=>exact G8 hb uk (jG _ qC) (fin (sM _ qC))
     ·exact s_ hP hR cL hb uk cV λbe _=>fin (ci.refl _ _) be
    ·exact G8 hb uk cV (fin (ci.refl _ _))
  ·intro o bI bg w2 L2 m1 m2 m3 m4;refine iD _ _ ?_;refine Tl m4 hd3 m1 λo7 jS w3 L3 n1 n2 n3 n4=>?_;refine hc o7 jS w3 L3 n1 ((k2.trans m2).trans n2) ?_ n4;exact((k3.mono λt ht=>bA.2 (.inl ht)).trans (m3.mono λt ht=>bA.2 (.inr (bA.2 (.inl ht))))).trans (n3.mono λt ht=>bA.2 (.inr (bA.2 (.inr ht))))
