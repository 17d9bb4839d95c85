import Derived.Test.YtmngjhagbjgmfaaGreatRj
import Derived.Orders
set_option linter.all false
open Bool renaming and_eq_true->bq,false->ai,false_eq_true->aD,not_eq_true'->pS,or_eq_true->rX,true->ab
open Go renaming Oper->aS,Value->ah,World->ax
open List renaming all_eq_true->dR,mem_append->bz,mem_cons->cr,mem_cons_of_mem->eV,mem_filter->k_,mem_map->dC,mem_singleton->dZ,take_append_drop->pO
open Nat renaming beq->aT,eq_of_beq_eq_true->bA,le_of_ble_eq_true->dm,le_refl->bw
open Option renaming some->aa
open Option.some renaming injEq->fC
open Prod renaming fst->bS,snd->oQ
open Sum renaming elim_inl->bu,elim_inr->bB
namespace Go.Proofs.YtmngjhagbjgmfaaGreat
open Go Go.RowKit Dp
namespace Rx
section
variable {D:Nat->Type} [∀n,ad (D n)]
variable {T:bb D} {U0 U1 U2:Nat->Prop} {fc γ aP bf:Gh D} {w0 w w1:ax}
structure Kn(σ:S D)(γ:Gh D)(w:ax)(L:List (Nat×ah)):Prop where
 sr:SR (λi=>i<σ.nx) γ w σ.sl L
 ob:OB (λi=>i<σ.nx) γ w σ.ob
 cI:2000<=σ.nx
structure cg(wr:List Nat)(σ bc:S D):Prop where
 sl:∀t,t∉wr->aE bc.sl t=aE σ.sl t
 lk:bc.lk=σ.lk
 ob:∀i∈σ.lk,aE bc.ob i=aE σ.ob i
 nx:σ.nx<=bc.nx
def cg.refl(wr:List Nat)(σ:S D):cg wr σ σ:=⟨λ_ _=>rfl,rfl,λ_ _=>rfl,bw _⟩
def cg.trans{wr:List Nat}{σ aM bH:S D}(h:cg wr σ aM)(k:cg wr aM bH):cg wr σ bH:=⟨λt ht=>(k.sl t ht).trans (h.sl t ht),k.lk.trans h.lk,λi hi=>(k.ob i (by rw[h.lk];exact hi)).trans (h.ob i hi),Nat.le_trans h.nx k.nx⟩
def cg.mono{wr YX:List Nat}{σ aM:S D}(h:cg wr σ aM)(hs:∀t∈wr,t∈YX):cg YX σ aM:=⟨λt ht=>h.sl t λhm=>ht (hs t hm),h.lk,h.ob,h.nx⟩
structure Xs(U0 U1 U2:Nat->Prop)(aP bf:Gh D):Prop where
 u:∀i,U0 i->U2 i∧bf.g i=aP.g i∧bf.v i=aP.v i
 ro:∀b,aP.o b<2->bf.o b=aP.o b
section
variable (t:Xs U0 U1 U2 aP bf)
include t
theorem Xs.mem{K:List Nat}(hK:eh K):∀b,In aP.o K b->b<w.heap.size->In bf.o K b∧w.heap[b]? =w.heap[b]? :=λb hb _=>by refine⟨?_,rfl⟩;unfold In at hb⊢;rw[t.ro b (hK _ hb)];exact hb
theorem named.two{g:Nat}{d:DV D}(h1:named U1 aP g d)(h0:named U0 fc g d):named U2 bf g d:=by
 rcases h0 with h0|⟨h0,_⟩
 ·exact .inl h0
 ·rcases h1 with h1|⟨_,h1⟩
  ·exact .inl h1
  ·obtain⟨k1,_,k3⟩:=t.u _ h0;exact .inr ⟨k1,by rw[k3];exact h1⟩
theorem rQ.two:∀{a:A0 D} {v v0:ah},rQ U1 aP w a v->rQ U0 fc w0 a v0->rQ U2 bf w a v
 | .ptr i off,v,v0,⟨_,b,h1,h2⟩,⟨h0,_⟩=>by obtain⟨k1,k2,_⟩:=t.u i h0;exact⟨k1,b,by rw[k2];exact h1,h2⟩
 | .rp n x off K,v,v0,⟨pa,h1,h2,h3⟩,_=>⟨pa,h1,h2.mono (t.mem h3),h3⟩
theorem nl.two:∀{as:List (A0 D)} {vs wq:List ah},nl U1 aP w as vs->nl U0 fc w0 as wq->nl U2 bf w as vs
 |[],[],_,_,_=>trivial
 |a::as,v::vs,v0::wq,h,h0=>⟨rQ.two t h.1 h0.1,nl.two h.2 h0.2⟩
 |a::as,v::vs,[],_,h0=>h0.elim
 |[],_::_,_,h,_=>h.elim
 |_::_,[],_,h,_=>h.elim
theorem fR.two:∀{a:A1 D} {v v0:ah},fR U1 aP w a v->fR U0 fc w0 a v0->fR U2 bf w a v
 | .v l d K g,v,v0,⟨h1,h2,h3⟩,h0=>⟨h1.mono (t.mem h3),named.two t h2 h0.2.1,h3⟩
 | .ptr i off,v,v0,⟨_,b,h1,h2⟩,⟨h0,_⟩=>by obtain⟨k1,k2,_⟩:=t.u i h0;exact⟨k1,b,by rw[k2];exact h1,h2⟩
 | .el i n j y off tc tj,v,v0,⟨h1,h2,⟨xs,h3,h4⟩,h5,b,f,len,cap,h6,h7⟩,⟨k1,k2,_,k5,_⟩=>by obtain⟨m1,m2,_⟩:=t.u i k1;obtain⟨n1,_,n3⟩:=t.u tc k2.2;exact⟨m1,⟨h2.1,n1⟩,⟨xs,by rw[n3];exact h3,h4⟩,named.two t h5 k5,b,f,len,cap,by rw[m2];exact h6,h7⟩
 | .rp n x off K,v,v0,⟨pa,h1,h2,h3⟩,_=>⟨pa,h1,h2.mono (t.mem h3),h3⟩
 | .vb n xs K g b,v,v0,⟨⟨h1,h2,h3⟩,h4⟩,h0=>⟨⟨dA.mono (d:=⟨.sl n,xs⟩) (t.mem h3) h1,named.two t h2 h0.1.2.1,h3⟩,h4⟩
 | .own i,v,v0,⟨_,h1,h2⟩,⟨h0,_⟩=>by obtain⟨k1,k2,_⟩:=t.u i h0;exact⟨k1,by rw[k2];exact h1,h2⟩
 | .fn f jc,v,v0,⟨cs,h1,h2⟩,⟨cs0,_,h0⟩=>⟨cs,h1,nl.two t h2 h0⟩
 | .ch i n j off ct m d,v,v0,⟨h1,h2,⟨xs,y,h3,h4⟩,⟨b,len,cap,cells,h5,h6,h7⟩,h8⟩,⟨k1,k2,_⟩=>by obtain⟨m1,m2,_⟩:=t.u i k1;obtain⟨n1,n2,n3⟩:=t.u ct k2.2;exact⟨m1,⟨h2.1,n1⟩,⟨xs,y,by rw[n3];exact h3,h4⟩,⟨b,len,cap,cells,by rw[m2];exact h5,by rw[n2];exact h6,h7⟩,h8⟩
 | .yT i s,v,v0,⟨h1,h2,h3,h4⟩,⟨k1,k2,_⟩=>by obtain⟨m1,_,_⟩:=t.u i k1;obtain⟨n1,n2,_⟩:=t.u s k2;exact⟨m1,n1,by rw[n2];exact h3,h4⟩
 | .tail i n j,v,v0,⟨h1,h2⟩,⟨k1,_⟩=>by obtain⟨m1,m2,_⟩:=t.u i k1;exact⟨m1,by rw[m2];exact h2⟩
 | .pre i n j,v,v0,⟨h1,h2⟩,⟨k1,_⟩=>by obtain⟨m1,m2,_⟩:=t.u i k1;exact⟨m1,by rw[m2];exact h2⟩
 | .uy n xs K,v,v0,⟨⟨aJ,h1,h2⟩,h3⟩,_=>⟨⟨aJ,h1,h2.mono λ_ _=>ad.mono (t.mem h3)⟩,h3⟩
 | .bE,v,v0,h,_=>h
 | .ss,v,v0,h,_=>h
 | .Dd,v,v0,h,_=>h
 | .undef,v,v0,h,_=>h
 | .zz,v,v0,h,_=>h
 | .wL,v,v0,h,_=>h
theorem c_.two:∀{as:List (A1 D)} {vs wq:List ah},c_ U1 aP w as vs->c_ U0 fc w0 as wq->c_ U2 bf w as vs
 |[],[],_,_,_=>trivial
 |a::as,v::vs,v0::wq,h,h0=>⟨fR.two t h.1 h0.1,c_.two h.2 h0.2⟩
 |a::as,v::vs,[],_,h0=>h0.elim
 |[],_::_,_,h,_=>h.elim
 |_::_,[],_,h,_=>h.elim
theorem nk.two:∀{a:AC D} {v v0:ah},nk U1 aP w a v->nk U0 fc w0 a v0->nk U2 bf w a v
 | .one a,v,v0,h,h0=>fR.two t h h0
 | .agg l,v,v0,⟨us,h1,h2⟩,⟨QA,_,h0⟩=>⟨us,h1,c_.two t h2 h0⟩
theorem jf.two:∀{as:List (AC D)} {vs wq:List ah},jf U1 aP w as vs->jf U0 fc w0 as wq->jf U2 bf w as vs
 |[],[],_,_,_=>trivial
 |a::as,v::vs,v0::wq,h,h0=>⟨nk.two t h.1 h0.1,jf.two h.2 h0.2⟩
 |a::as,v::vs,[],_,h0=>h0.elim
 |[],_::_,_,h,_=>h.elim
 |_::_,[],_,h,_=>h.elim
theorem gF.two:∀{a:AV D} {v v0:ah},gF U1 aP w a v->gF U0 fc w0 a v0->gF U2 bf w a v
 | .c x,v,v0,h,h0=>nk.two t h h0
 | .dV l,v,v0,⟨us,h1,h2⟩,⟨QA,_,h0⟩=>⟨us,h1,jf.two t h2 h0⟩
theorem OR.two{i:Nat}(hi:U0 i)(hc:∀b,aP.o b=i->bf.o b=i):∀{x:AO D},OR U1 aP w i x->OR U0 fc w0 i x->OR U2 bf w i x
 | .box cs,⟨b,us,ty,h1,h2,h3,h4,h5⟩,⟨_,QA,_,_,_,_,h0,_⟩=>by obtain⟨k1,k2,_⟩:=t.u i hi;exact⟨b,us,ty,by rw[k2];exact h1,hc b h2,h3,c_.two t h4 h0,h5⟩
 | .sl n ty xs K g,⟨h1,h2,h3⟩,⟨_,_,h0⟩=>by
   obtain⟨k1,k2,_⟩:=t.u i hi;refine⟨?_,h2,named.two t h3 h0⟩;rw[k2];rcases h1 with h1|⟨g,f,cap,aV,aJ,e1,e2,e3,e4,e5,e6,e7,e8⟩
   ·exact .inl h1
   ·exact .inr ⟨g,f,cap,aV,aJ,e1,hc g e2,e3,e4,e5,e6,e7.mono λ_ _=>ad.mono (t.mem h2),e8⟩
 | .cX n ty tc q xs g h,⟨h1,h2,h3⟩,⟨_,UU,H0⟩=>by
   obtain⟨k1,k2,_⟩:=t.u i hi;obtain⟨m0,m1⟩:=Dk (v:=aP.g i) (o:=aP.o) (o':=bf.o) (i:=i) (i':=i) (w:=w) (w':=w) λb _ hb=>⟨hc b hb,rfl⟩;refine⟨by rw[k2];exact h1.mono m0 m1,named.two t h2 UU,?_⟩;rcases H0 with H0|⟨H0,_⟩
   ·exact .inl H0
   ·rcases h3 with h3|⟨_,h4,h5⟩
    ·exact .inl h3
    ·obtain⟨n1,n2,n3⟩:=t.u h H0;exact .inr ⟨n1,by rw[n3];exact h4,h5.mono k2 n2 λ_ _ _ _=>rfl⟩
 | .im n ty tc q xs j off s g,⟨h1,h2,b,len,cap,h3,h4⟩,⟨h01,UU,_⟩=>by obtain⟨k1,k2,_⟩:=t.u i hi;obtain⟨n1,n2,_⟩:=t.u s UU;obtain⟨m0,m1⟩:=Dk (v:=aP.g i) (o:=aP.o) (o':=bf.o) (i:=i) (i':=i) (w:=w) (w':=w) λb _ hb=>⟨hc b hb,rfl⟩;exact⟨named.two t h1 h01,n1,b,len,cap,by rw[k2];exact h3,by rw[k2,n2];exact h4.mono m0 m1⟩
 | .fz n xs K,⟨h1,h2⟩,_=>by obtain⟨k1,k2,_⟩:=t.u i hi;exact⟨by rw[k2];exact dA.mono (d:=⟨.sl n,xs⟩) (t.mem h2) h1,h2⟩
 | .mp n xs,h,_=>by obtain⟨k1,k2,_⟩:=t.u i hi;show rR bf.o i w (bf.g i) xs;rw[k2];exact rR.mono h λb _ hb=>⟨hc b hb,rfl⟩
end
def Ah{α:Type}{f:Nat->Bool}:∀{l:List (Nat×α)} {t:Nat},aE (l.filter λp=>f p.1) t=if f t then aE l t else none
 |[],t=>by simp[aE]
 |p::r,t=>by
  have ih:=Ah (f:=f) (l:=r) (t:=t);simp only[List.filter_cons,aE];cases hb:aT p.1 t with
  |true=>
   have:=bA hb;subst this;cases hf:f p.1 with
   |true=>simp[aE]
   |false=>simp[ih,hf]
  |false=>
   cases hf:f p.1 with
   |true=>simp[aE,hb,ih]
   |false=>simp[ih]
def ajr{U:Nat->Prop}{sl:List (Nat×AV D)}{L:List (Nat×ah)}(hs:SR U γ w sl L):∀{js:List (Nat×PC)} {fj:List (AV D)},BI sl js=aa fj->∃vs,nj U γ w fj vs∧js.length=vs.length∧∀(k t:Nat) (v:ah),(js.map bS)[k]? =aa t->vs[k]? =aa v->Dp.look L t=aa v
 |[],fj,h=>by cases h;exact⟨[],trivial,rfl,by simp⟩
 |(t,p)::js,fj,h=>by
  simp only[BI]at h;split at h
  case h_2=>cases h
  rename_i a b g1 g2;cases h;obtain⟨v,h1,h2⟩:=hs t a g1;obtain⟨vs,k1,k2,k3⟩:=ajr hs g2;refine⟨v::vs,⟨h2,k1⟩,by simp[k2],λk t' v' ht hv=>?_⟩;cases k with
  |zero=>cases ht;cases hv;exact h1
  |succ k=>exact k3 k t' v' (by simpa using ht) (by simpa using hv)
def X'{U:Nat->Prop}{L:List (Nat×ah)}:∀{ts:List Nat} {as:List (AC D)} {vs:List ah} {t:Nat} {a:AV D},jf U γ w as vs->(∀(k t:Nat) (v:ah),ts[k]? =aa t->vs[k]? =aa v->Dp.look L t=aa v)->aE (qf.rY ts as) t=aa a->∃v,Dp.look L t=aa v∧gF U γ w a v
 |[],as,vs,t,a,_,_,h=>by simp[qf.rY,aE]at h
 |t0::ts,[],vs,t,a,_,_,h=>by simp[qf.rY,aE]at h
 |t0::ts,a0::as,vs,t,a,hv,hl,h=>by
  cases vs with
  |nil=>exact hv.elim
  |cons v vs=>
   simp only[qf.rY,aE]at h;cases hb:aT t0 t with
   |true=>have:=bA hb;subst this;simp only[hb,v5,fC]at h;subst h;exact⟨v,hl 0 _ _ rfl rfl,hv.1⟩
   |false=>simp only[hb,rV]at h;exact X' hv.2 (λk t v ht hv=>hl (k+1) t v (by simpa using ht) (by simpa using hv)) h
def PS:∀{ts:List Nat} {as:List (AC D)} {t:Nat} {a:AV D},aE (qf.rY ts as) t=aa a->t∈ts
 |[],as,t,a,h=>by simp[qf.rY,aE]at h
 |t0::ts,[],t,a,h=>by simp[qf.rY,aE]at h
 |t0::ts,a0::as,t,a,h=>by
  simp only[qf.rY,aE]at h;cases hb:aT t0 t with
  |true=>have:=bA hb;subst this;simp
  |false=>simp only[hb,rV]at h;exact eV _ (PS h)
def vL{a b:List Nat}(h:qG a b=ab){x:Nat}(hx:x∈a):x∉b:=by have:=dR.1 h x hx;simp only[pS]at this;exact pj this
def kK(m:M D)(db:List Nat)(N:Nat)(x:Nat):Nat:=match aE (swap m.ids) x with
 |some p=>p
 |none=>if bM m.ku x then 1 else if bM db x&&Nat.blt x N then x else if x<4 then x else 2
structure zh(T:bb D)(j:J)(σ:S D)(h:HH D j.cL):Prop where
 ex:∃fj l m,BI σ.sl j.sl=aa fj∧Q.R σ.ob (Bl T ai j.nx j.cL (j.sl.map oQ) j.ob j.gV σ.nx fj) l (h,m)∧qG (m.ids.map oQ) σ.lk=ab∧qG m.ku σ.lk=ab
def sQ{ρ:Type}{j:J}{σ:S D}{k:HH D j.cL->Option ρ}{r:ρ}(h:qE T j σ k=aa r):∃x,zh T j σ x∧k x=aa r:=by
 unfold qE at h;split at h
 case h_2=>cases h
 rename_i fj ha;obtain⟨l,x,h1,h2⟩:=Q.H3 h;split at h2
 case isFalse=>cases h2
 rename_i hc;simp only[bq]at hc;obtain⟨h,m⟩:=x;exact⟨h,⟨fj,l,m,ha,h1,hc.1,hc.2⟩,h2⟩
def Ap(hR:cE T){σ aM bH:S D}{L L1:List (Nat×ah)}{wr mv:List Nat}{j:J}{h:HH D j.cL}{lk:List Nat}(oC:lk=(kept σ mv).map bS++σ.lk)
  (hk:Kn σ γ w L) (eG:Kn aM aP w1 L1) (he:cg wr {σ with lk:=lk} aM) (hx:zh T j aM h) (hi:lu T j wr mv σ h=aa bH):
  ∃bf,Kn bH bf w1 L1∧Frame aP w1 bf w1∧cg wr {σ with lk:=lk} {bH with lk:=lk}∧bH.lk=σ.lk:=by
 obtain⟨fj,l,m,ha,hq,yC,ug⟩:=hx.ex
 obtain⟨vs,AA,hlen,MK⟩:=ajr eG.sr ha
 obtain⟨⟨hex,DN⟩,vB⟩:=Nm hR eG.ob hq AA
 unfold lu at hi
 split at hi
 case isFalse=>cases hi
 rename_i hc
 simp only[bq,dR,pS]at hc
 obtain⟨⟨⟨t_,oB⟩,vz⟩,DJ⟩:=hc
 have t_:=dm t_
 dsimp only at hi hex DN vB
 split at hi
 case h_2=>cases hi
 rename_i sa sb rz TE
 cases hi
 have atO:aM.lk=lk:=he.lk
 rw[atO]at yC ug
 have MF:∀p i,(p,i)∈m.ids->p<j.nx∧(σ.nx<=p∨p=i)∧p∉lk:=λp i hp=>by
  obtain⟨q,hq⟩:=su (hex.key p i hp);obtain⟨⟨k1,k2⟩,k3⟩:=oB _ hq;refine⟨dm k1,?_,by rw[oC];exact pj k3⟩;rw[rX]at k2;rcases k2 with k2|k2
  ·exact .inl (dm k2)
  ·exact .inr (hex.Tl p p i (hex.Tk _ (dC.2 ⟨_,k_.2 ⟨hq,k2⟩,rfl⟩)) hp)
 have A2:∀i,i∈(kept σ mv).map bS->(∀p,(p,i)∉m.ids)∧i∉m.ku∧i∈lk:=λi hi=>by
  have lA:i∈lk:=by rw[oC];exact bz.2 (.inl hi)
  exact⟨λp hp=>vL yC (dC.2 ⟨_,hp,rfl⟩) lA,λhu=>vL ug hu lA,lA⟩
 obtain⟨bf,Aw⟩:∃bf:Gh D,bf=⟨λb=>kK m ((kept σ mv).map bS) σ.nx (aP.o b),qA aP m,ga aP.v j.nx (dE T j.cL h)⟩:=⟨_,rfl⟩
 have atf:∀p i,(p,i)∈m.ids->kK m ((kept σ mv).map bS) σ.nx i=p:=λp i hp=>by unfold kK;rw[Mb hex.ids hp]
 have ua:∀x,(∀p,(p,x)∉m.ids)->aE (swap m.ids) x=none:=λx hn=>by
  cases hl:aE (swap m.ids) x with
  |none=>rfl
  |some p=>exact(hn p (wv.1 (dM hl))).elim
 have ate:∀i,i∈(kept σ mv).map bS->i<σ.nx->kK m ((kept σ mv).map bS) σ.nx i=i:=λi hi ir=>by
  obtain⟨k1,k2,_⟩:=A2 i hi;unfold kK;rw[ua i k1];have h1:bM m.ku i=ai:=by
   cases hm:bM m.ku i with
   |true=>exact(k2 (et.1 hm)).elim
   |false=>rfl
  have h2:Nat.blt i σ.nx=ab:=Nat.ble_eq_true_of_le ir;simp only[h1,aD,aC,et.2 hi,h2,Bool.and_self,aH]
 have yq:∀x,x<4->kK m ((kept σ mv).map bS) σ.nx x=x:=λx hx=>by
  unfold kK;rw[ua x λp hp=>by have:=hex.Dw p x hp;omega];have h1:bM m.ku x=ai:=by
   cases hm:bM m.ku x with
   |true=>have:=(hex.ku x (et.1 hm)).1;omega
   |false=>rfl
  simp only[h1,aD,aC];split
  ·rfl
  ·first|rfl|rw[aG hx]
 have TI:∀x,x∈m.ku->kK m ((kept σ mv).map bS) σ.nx x=1:=λx hx=>by unfold kK;rw[ua x (hex.ku x hx).2];simp only[et.2 hx,aH]
 have acZ:∀x,(∃p,(p,x)∈m.ids∧kK m ((kept σ mv).map bS) σ.nx x=p)∨kK m ((kept σ mv).map bS) σ.nx x=1∨(kK m ((kept σ mv).map bS) σ.nx x=x∧(x<σ.nx∨x<4))∨kK m ((kept σ mv).map bS) σ.nx x=2:=λx=>by
  unfold kK;cases hl:aE (swap m.ids) x with
  |some p=>exact .inl ⟨p,wv.1 (dM hl),rfl⟩
  |none=>
   right;dsimp only;split
   ·exact .inl rfl
   ·split
    ·rename_i hm;simp only[bq]at hm;exact .inr (.inl ⟨rfl,.inl (dm hm.2)⟩)
    ·split
     ·rename_i hm;exact .inr (.inl ⟨rfl,.inr hm⟩)
     ·exact .inr (.inr rfl)
 have Bc:Fin T (λi=>i<aM.nx) (λi=>i<j.nx+(dE T j.cL h).length) aP bf w1 m (dE T j.cL h) j.nx:=by
  subst Aw;refine⟨hex.dv,λp i hp=>⟨?_,H4 hex hp⟩,λi x hx=>?_,λ_ p hp Tq hU=>⟨?_,?_⟩,λK Kp ew hK wZ b hb=>?_,λq K Kp hq ew hK wZ b hb=>?_,λi d hd=>?_⟩
  ·have:=MF p i hp;show p<j.nx+_;omega
  ·have:=(hex.new _ hx).1;simp only at this;show ¬i<aM.nx;omega
  ·rw[hex.YW]at Tq;show p<j.nx+_;omega
  ·show qA aP m p=aP.g p;unfold qA;cases hl:aE m.ids p with
   |none=>rfl
   |some i=>have:=hex.key p i (dM hl);rw[hex.po_]at hp;rw[hp]at this;cases this
  ·unfold M.may at ew;rw[hex.BA]at ew;simp only[aD,aC,FT,dR]at ew;have hb:aP.o b∈K:=hb;show kK m _ _ (aP.o b)∈Kp;rw[yq _ (by have:=hK _ hb;omega)];exact et.1 (ew _ hb)
  ·unfold M.may at ew;rw[hex.BA]at ew;simp only[aD,aC,FT,dR]at ew;have hb:aP.o b∈q::K:=hb;show kK m _ _ (aP.o b)∈Kp;rcases cr.1 hb with hb|hb
   ·rw[hb,TI q hq];exact et.1 (ew 1 (by simp))
   ·rw[yq _ (by have:=hK _ hb;omega)];exact et.1 (ew _ (by simp[hb]))
  ·refine .inr ⟨?_,GO hd⟩;have:=(List.getElem?_eq_some_iff.1 hd).1;show j.nx+i<_;omega
 have Bb:Fk aP bf m:=⟨λp i hp b hb=>by subst Aw;show kK m _ _ (aP.o b)=p;rw[hb];exact atf p i hp⟩
 obtain⟨g1,g2⟩:=vB Bc Bb
 have Mw:Xs (λi=>i<σ.nx) (λi=>i<aM.nx) (λi=>i<j.nx+(dE T j.cL h).length) aP bf:=by
  subst Aw;refine⟨λi hi=>⟨?_,?_,?_⟩,λb hb=>yq _ (by omega)⟩
  ·show i<_;have hi:i<σ.nx:=hi;omega
  ·show qA aP m i=aP.g i;unfold qA;cases hl:aE m.ids i with
   |none=>rfl
   |some x=>
    have hi:i<σ.nx:=hi;rcases(MF i x (dM hl)).2.1 with h1|rfl
    ·omega
    ·have Hl:aE m.new i=none:=by
      cases hn:aE m.new i with
      |none=>rfl
      |some y=>have:=(hex.new _ (dM hn)).1;have:=he.nx;simp only at*;omega
     simp only[Hl]
  ·exact Sq (.inl (by have hi:i<σ.nx:=hi;omega))
 have atd:∀b,aP.o b<4->bf.o b=aP.o b:=λb hb=>by subst Aw;exact yq _ hb
 refine⟨bf,⟨λt a tY=>?_,⟨λi x jq=>?_,λb hb=>?_,λx hx=>?_⟩,?_⟩,⟨⟨rfl,rfl,rfl,bw _,λb hb hc=>⟨atd b (by omega),rfl⟩,λb hb hc=>⟨hb,?_⟩⟩,λi hi=>(Mw.u i (by have:=hk.cI;show i<σ.nx;omega)).2.1⟩,⟨λt ht=>?_,rfl,λi hi=>?_,?_⟩,rfl⟩
 ·
  rw[kh]at tY
  unfold qf at rz
  split at rz
  case h_2=>cases rz
  rename_i jY au5
  cases rz
  cases hl:aE (qf.rY (j.sl.map bS) jY) t with
  |some a'=>
   rw[hl]at tY
   cases tY
   exact X' (g1 jY au5) MK hl
  |none=>
   rw[hl]at tY
   dsimp only at tY
   rw[Ah (f:=λt=> !(bM wr t))]at tY
   split at tY
   case isFalse=>cases tY
   rename_i rB
   have rB:t∉wr:=pj (by simpa using rB)
   have h1:aE aM.sl t=aa a:=(he.sl t rB).trans tY
   obtain⟨v,k1,k2⟩:=eG.sr t a h1
   obtain⟨v0,_,k3⟩:=hk.sr t a tY
   exact⟨v,k1,gF.two Mw k2 k3⟩
 ·
  unfold dt at jq
  rw[kh]at jq
  cases hl:aE sb i with
  |some y=>
   rw[hl]at jq
   cases y with
   |none=>cases jq
   |some y=>
    cases jq
    obtain⟨k1,k2,k3⟩:=g2 sb TE i x (by unfold dt;rw[hl])
    obtain⟨q,hq⟩:=su k1
    obtain⟨⟨_,k4⟩,_⟩:=oB _ hq
    have:=hk.cI
    refine⟨?_,k2,k3⟩
    rw[rX]at k4
    rcases k4 with k4|k4
    ·have:=dm k4;simp only at*;omega
    ·exact hex.Dw i i (hex.Tk _ (dC.2 ⟨_,k_.2 ⟨hq,k4⟩,rfl⟩))
  |none=>
   rw[hl]at jq
   dsimp only at jq
   have sG:dt σ.ob i=aa x∧i∈(kept σ mv).map bS:=by
    unfold kept at jq⊢;rw[Ah (f:=λt=> !(bM mv t))]at jq;by_cases hm:(!bM mv i)=ab
    ·rw[aG hm]at jq;refine⟨jq,?_⟩;cases vv:aE σ.ob i with
     |none=>rw[vv]at jq;cases jq
     |some y=>exact dC.2 ⟨(i,y),k_.2 ⟨dM vv,hm⟩,rfl⟩
    ·rw[aK hm]at jq;cases jq
   obtain⟨nJ,hkm⟩:=sG
   have h1:dt aM.ob i=aa x:=by have:=he.ob i (by show i∈lk;exact(A2 i hkm).2.2);unfold dt at nJ⊢;rw[this];exact nJ
   obtain⟨k1,k2,k3⟩:=eG.ob.ob i x h1
   obtain⟨_,m2,m3⟩:=hk.ob.ob i x nJ
   refine⟨k1,(Mw.u i m2).1,OR.two Mw m2 (λb hb=>?_) k3 m3⟩
   subst Aw
   show kK m _ _ (aP.o b)=i
   rw[hb]
   exact ate i hkm m2
 ·
  show bf.o b<j.nx+_
  subst Aw
  show kK m _ _ (aP.o b)<_
  have:=hk.cI
  rcases acZ (aP.o b)with⟨p,h1,h2⟩|h1|⟨h1,h2⟩|h1
  ·have:=MF p _ h1;omega
  ·omega
  ·rw[h1];omega
  ·omega
 ·show x<j.nx+_;have:=hk.cI;omega
 ·show 2000<=j.nx+_;have:=hk.cI;omega
 ·
  subst Aw
  show aP.o b=kK m _ _ (aP.o b)
  have hc:kK m ((kept σ mv).map bS) σ.nx (aP.o b)=0∨kK m ((kept σ mv).map bS) σ.nx (aP.o b)=3:=hc
  have:=hk.cI
  rcases acZ (aP.o b)with⟨p,h1,h2⟩|h1|⟨h1,h2⟩|h1
  ·have:=MF p _ h1;omega
  ·omega
  ·exact h1.symm
  ·omega
 ·
  show aE (sa++_) t=_
  rw[kh]
  have:aE sa t=none:=by
   unfold qf at rz;split at rz
   case h_2=>cases rz
   cases rz;cases hl:aE (qf.rY (j.sl.map bS) _) t with
   |none=>rfl
   |some a=>have:=PS hl;simp only[dC]at this;obtain⟨q,hq,rfl⟩:=this;exact(ht (et.1 (vz _ hq))).elim
  rw[this]
  dsimp only
  rw[Ah (f:=λt=> !(bM wr t))]
  rw[aG]
  cases hm:bM wr t with
  |true=>exact(ht (et.1 hm)).elim
  |false=>rfl
 ·
  show aE (sb++kept σ mv) i=_
  rw[kh]
  have:aE sb i=none:=by
   cases hl:aE sb i with
   |none=>rfl
   |some y=>obtain⟨p,q,y',k1,k2,_⟩:=Tb TE hl;cases k2;obtain⟨⟨_,_⟩,k3⟩:=oB _ k1;have eo:i∈lk:=hi;rw[oC]at eo;exact(pj k3 eo).elim
  rw[this]
  unfold kept
  dsimp only
  rw[Ah (f:=λt=> !(bM mv t)),aG]
  cases hm:bM mv i with
  |true=>
   have eo:i∈lk:=hi
   rw[oC]at eo
   rcases bz.1 eo with eo|eo
   ·unfold kept at eo;simp only[dC,k_]at eo;obtain⟨q,⟨_,hq⟩,rfl⟩:=eo;rw[hm]at hq;cases hq
   ·exact(vL DJ (et.1 hm) eo).elim
  |false=>rfl
 ·show σ.nx<=j.nx+_;omega
end
end Rx
end Go.Proofs.YtmngjhagbjgmfaaGreat
namespace Go.Proofs.YtmngjhagbjgmfaaGreat
open Go Go.RowKit Dp
namespace Rx
section
variable {D:Nat->Type} [∀n,ad (D n)]
variable {P:Program} {T:bb D} {Φ:List (az D)} {n:Nat} {γ:Gh D} {w:ax} {L:List (Nat×ah)} {Qx:Exit->Act->ax->Prop}
def nj.append{U:Nat->Prop}:∀{as:List (AV D)} {vs:List ah} {bs:List (AV D)} {us:List ah},nj U γ w as vs->nj U γ w bs us->nj U γ w (as++bs) (vs++us)
 |[],[],_,_,_,h=>h
 |a::as,v::vs,_,_,h,h'=>⟨h.1,nj.append h.2 h'⟩
 |[],_::_,_,_,h,_=>h.elim
 |_::_,[],_,_,h,_=>h.elim
def N9{U:Nat->Prop}:∀{cs:List (A0 D)} {vs:List ah},nl U γ w cs vs->nj U γ w (cs.map N_) vs
 |[],[],_=>trivial
 |c::cs,v::vs,h=>by
  refine⟨?_,N9 h.2⟩;cases c with
  |ptr i off=>exact h.1
  |rp n x off K=>exact h.1
 |[],_::_,h=>h.elim
 |_::_,[],h=>h.elim
def abd [Rd](hP:dQ P T)(hR:cE T)(cK:∀c∈Φ,fK P T c){U:Nat->Prop}{aq:Nat}{sl:List (Nat×AV D)}{ob:List (Nat×Option (AO D))}{d:Option Tmp}{ty:TypeId}{pos:String}{af:Array Edge}{gd:Option (Nat×Bool)}{e:cW D}{l:List Nat}
  (hx:Cx U aq γ w sl L ob) {op:Op} {as:List (AV D)} (he:eP sl op.operands.toList=aa as) (h:Q.R ob (z_ T Φ aq op as) l e):
  OW P Qx L ⟨d,op,ty,pos,af,gd⟩ w (λv w'=>∃γ',dP U aq γ w ob e γ' v w'):=by
 unfold z_ at h
 split at h
 ·rename_i u N5 ts;have he:eP sl (u::N5.toList)=aa as:=by simpa[Op.operands,Call.operands]using he
  split at h
  case h_2=>cases h
  rename_i f jc jY _;obtain⟨h1,h2⟩:=ur he;obtain⟨vu,k1,cs,rfl,k2⟩:=cz hx.sr h1;obtain⟨vs,k3,k4⟩:=aeE hx.sr h2;split at h
  ·rename_i hf;have e0:xg f cs= .func (.func f) #[] cs.toArray:=aG hf;rw[e0]at k1;obtain⟨m1,m2⟩:=afd hR cK hx (nj.append k4 (N9 k2)) h;have:=OW.ayg (P:=P) (Q:=Qx) (L:=L) (w:=w) (d:=d) (ty:=ty) (pos:=pos) (af:=af) (g:=gd) (f:=f) (u:=u) (args:=N5.toList) (jc:=cs.toArray) (vs:=vs) (ats:=ts) m1 k1 k3 (by simpa using m2);simpa using this
  ·rename_i hf;have e0:xg f cs= .func (.func (f-1000000)) cs.toArray #[]:=aK (by rw[hf];decide);rw[e0]at k1;obtain⟨m1,m2⟩:=afd hR cK hx (nj.append (N9 k2) k4) h;refine OW.aao λa hr=>⟨f-1000000,(cs++vs).toArray,?_,m2⟩;simp[execOp,resolve,invoke,Deferred.ofValue,hr _ _ k1,m1];exact D8 hr _ k3
 ·exact aqi hP hR hx he h
def rj(d:Option Tmp)(v:ah)(L:List (Nat×ah)):List (Nat×ah):=match d with
 |some d=>(d,v)::L
 |none=>L
def Fr.rj [I:Rd]{a:Act}(h:Fr n L a){d:Option Tmp}(hd:∀t,d=aa t->I.eX n t=ab)(v:ah):Fr n (rj d v L) (a.put d v):=by
 cases d with
 |none=>exact h
 |some t=>exact h.put (hd t rfl) v
def WL.take [I:Rd]{ops:Array aS}{rest:List aS}{o:aS}{R:ah->ax->Prop}(hd:∀t,o.dst=aa t->I.eX n t=ab)(hw:∀a,Fr n L a->Region.wanted o (yielded ops a.tmps)=ab)(h:OW P Qx L o w R)
  (k:∀v w',R v w'->WL P n ops Qx rest (rj o.dst v L) w'):WL P n ops Qx (o::rest) L w:=by
 intro a ha
 refine wpListIn_step λK hK=>?_
 rw[aG (hw a ha)]
 exact h a K (λx v hx=>ha.ev hx) λv w' hr=>hK _ _ (k v w' hr _ (Fr.rj ha hd v))
def WL.pass [I:Rd]{ops:Array aS}{rest:List aS}{o:aS}(hd:∀t,o.dst=aa t->I.eX n t=ab)(hw:∀a,Fr n L a->Region.wanted o (yielded ops a.tmps)=ai)
  (k:WL P n ops Qx rest (rj o.dst undef L) w):WL P n ops Qx (o::rest) L w:=by
 intro a ha
 refine wpListIn_step λK hK=>?_
 rw[aK (by rw[hw a ha];simp)]
 exact⟨λ_ _=>trivial,hK _ _ (k _ (Fr.rj ha hd _))⟩
def Qi [Rd]{ops:List aS}{j d:Nat}{og:aS}{b:Bool}{a:Act}(ha:Fr n L a)(hj:ops[j]? =aa og)(hd:og.dst=aa d)(hl:Dp.look L d=aa (.bool b)):yielded ops.toArray a.tmps j=aa b:=by have:=ha.get d _ hl;simp[yielded,hj,hd,this]
def YV [Rd]{ops:List aS}{j d:Nat}{og:aS}{a:Act}(ha:Fr n L a)(hj:ops[j]? =aa og)(hd:og.dst=aa d)(hl:Dp.look L d=aa undef):yielded ops.toArray a.tmps j=none:=by have:=ha.get d _ hl;simp[yielded,hj,hd,this,undef]
def aCu(N:Nat):jt (λi=>i<N) N=λi=>i<N+128:=by funext i;unfold jt;apply propext;omega
def Kn.cx{σ:S D}(h:Kn σ γ w L):Cx (λi=>i<σ.nx) σ.nx γ w σ.sl L σ.ob:=⟨h.sr,h.ob,λi h1 h2 h3=>by omega,by have:=h.cI;omega⟩
def Kn.ap{σ:S D}{γ':Gh D}{w':ax}{v:ah}{e:cW D}(h:Kn σ γ w L)(hp:dP (λi=>i<σ.nx) σ.nx γ w σ.ob e γ' v w')(d:Option Tmp):Kn (y8 σ d e) γ' w' (rj d v L):=by
 have fx:=hp.kp;have A9:=hp.dst;have bG:=hp.ob;rw[aCu]at fx A9 bG;refine⟨?_,bG,by show 2000<=σ.nx+128;have:=h.cI;omega⟩;cases d with
 |none=>exact h.sr.db fx
 |some t=>exact(h.sr.db fx).cons A9
def Kn.skip{σ:S D}(h:Kn σ γ w L)(d:Option Tmp):Kn (uV σ d) γ w (rj d undef L):=by
 have fx:jg (λi=>i<σ.nx) (λi=>i<σ.nx+128) γ w γ w:=⟨λi h=>by show i<_;have h:i<σ.nx:=h;omega,λ_ _=>rfl,λ_ _=>rfl,λ_ _ _=>⟨rfl,rfl⟩⟩;refine⟨?_,⟨λi x hx=>?_,λb hb=>fx.u _ (h.ob.cl b hb),λx hx=>fx.u _ (h.ob.ro x hx)⟩,by show 2000<=σ.nx+128;have:=h.cI;omega⟩
 ·cases d with
  |none=>exact h.sr.db fx
  |some t=>exact(h.sr.db fx).cons rfl
 ·obtain⟨h1,h2,h3⟩:=h.ob.ob i x hx;exact⟨h1,fx.u _ h2,h3.db fx h2 λ_ _ _=>⟨rfl,rfl⟩⟩
def SL{α:Type}{l:List (Nat×α)}{d:Nat}{a:α}(h:aE l d=aa a)(t:Nat):aE ((d,a)::l) t=aE l t:=by
 simp only[aE];cases hb:aT d t with
 |true=>have:=bA hb;subst this;simp[h]
 |false=>rfl
def Kn.li{σ:S D}{d:Nat}{c:Bool}{K:List Nat}{g:Nat}(h:Kn σ γ w L)(hd:aE σ.sl d=aa (.c (.one (.v .bool c K g)))):Kn (li σ d c K g) γ w L:=⟨λt a ha=>h.sr t a (by rw[<-SL hd];exact ha),h.ob,h.cI⟩
def cg.li{σ:S D}{d:Nat}{c:Bool}{K:List Nat}{g:Nat}(wr:List Nat)(hd:aE σ.sl d=aa (.c (.one (.v .bool c K g)))):cg wr σ (li σ d c K g):=⟨λt _=>SL hd t,rfl,λ_ _=>rfl,bw _⟩
def cg.ap{σ:S D}{e:cW D}{d:Option Tmp}{wr:List Nat}(hd:∀t,d=aa t->t∈wr)(he:D_ σ.lk e=ab):cg wr σ (y8 σ d e):=by
 unfold D_ at he;simp only[bq]at he;refine⟨λt ht=>?_,rfl,λi hi=>?_,by show σ.nx<=σ.nx+128;omega⟩
 ·cases d with
  |none=>rfl
  |some d=>
   show aE ((d,e.dst)::σ.sl) t=_;simp only[aE];have:aT d t=ai:=by
    cases hb:aT d t with
    |true=>have:=bA hb;exact(ht (hd t (by rw[this]))).elim
    |false=>rfl
   rw[this];rfl
 ·show aE (e.fz.map (λi=>(i,none))++e.sj++σ.ob) i=_;have h1:aE (e.fz.map λi=>(i,(none:Option (AO D)))) i=none:=by rw[qe];intro hm;simp only[List.map_map,dC]at hm;obtain⟨x,hx,rfl⟩:=hm;exact vL he.2 hx hi
  have h2:aE e.sj i=none:=by rw[qe];exactλhm=>vL he.1 hm hi
  rw[List.append_assoc,kh,h1];dsimp only;rw[kh,h2]
def cg.skip{σ:S D}{d:Option Tmp}{wr:List Nat}(hd:∀t,d=aa t->t∈wr):cg wr σ (uV σ d):=by
 refine⟨λt ht=>?_,rfl,λ_ _=>rfl,by show σ.nx<=σ.nx+128;omega⟩;cases d with
 |none=>rfl
 |some d=>
  show aE ((d,_)::σ.sl) t=_;simp only[aE];have:aT d t=ai:=by
   cases hb:aT d t with
   |true=>have:=bA hb;exact(ht (hd t (by rw[this]))).elim
   |false=>rfl
  rw[this];rfl
def ZN{ρ:Type}{p:Nat}{o:aS}{σ:S D}{lg:List Lg}{k:S D->List Lg->Option ρ}{r:ρ}(h:zC T Φ p o σ lg k=aa r):
  ∃as e l,eP σ.sl o.op.operands.toList=aa as∧Q.R σ.ob (z_ T Φ σ.nx o.op as) l e∧D_ σ.lk e=ab∧k (y8 σ o.dst e) (⟨p,l.reverse,e.wr⟩::lg)=aa r:=by
 unfold zC at h
 split at h
 case h_2=>cases h
 rename_i as ha
 obtain⟨l,e,h1,h2⟩:=Q.H3 h
 split at h2
 case h_2=>cases h2
 rename_i hc
 exact⟨as,e,l,ha,h1,hc,by simpa using h2⟩
def Vv{o:aS}{r:List aS}{t:Nat}(h:o.dst=aa t):t∈dstsOf (o::r):=by unfold dstsOf;simp[List.filterMap_cons,h]
def Vu{o:aS}{r:List aS}{t:Nat}(h:t∈dstsOf r):t∈dstsOf (o::r):=by
 unfold dstsOf at h⊢;rw[List.filterMap_cons];split
 ·exact h
 ·exact eV _ h
def UW{ops:List aS}{sl:List (Nat×AV D)}{j d:Nat}{a:AV D}(h:guardOf ops sl j=aa (d,a)):∃og,ops[j]? =aa og∧og.dst=aa d∧aE sl d=aa a:=by
 unfold guardOf at h;split at h
 case h_2=>cases h
 rename_i og ho;split at h
 case h_2=>cases h
 rename_i d' hd;split at h
 case h_2=>cases h
 rename_i a' ha;cases h;exact⟨og,ho,hd,ha⟩
def yR{ρ:Type}{c:Bool}{a b:Option ρ}{r:ρ}(h:Ev c a b=aa r):(c=ab∧a=aa r)∨(c=ai∧b=aa r):=by
 cases c with
 |true=>exact .inl ⟨rfl,h⟩
 |false=>exact .inr ⟨rfl,h⟩
section
variable (hP:dQ P T) (hR:cE T) (cK:∀c∈Φ,fK P T c)
include hP hR cK
theorem anG [Rd]{σ:S D}(hk:Kn σ γ w L){o:aS}{as:List (AV D)}{e:cW D}{l:List Nat}(ha:eP σ.sl o.op.operands.toList=aa as)(hq:Q.R σ.ob (z_ T Φ σ.nx o.op as) l e):
  OW P Qx L o w (λv w'=>∃γ',Frame γ w γ' w'∧Kn (y8 σ o.dst e) γ' w' (rj o.dst v L)):=by
 obtain⟨d,op,ty,pos,af,gd⟩:=o
 refine OW.mono (abd hP hR cK hk.cx ha hq) ?_
 rintro v w' ⟨γ',hp⟩
 exact⟨γ',hp.fr,hk.ap hp d⟩
theorem sW [I:Rd]{ops:List aS}:∀{l:List aS} {p:Nat} {σ:S D} {lg:List Lg} {ρ:Type} {k:S D->List Lg->Option ρ} {r:ρ} {γ:Gh D} {w:ax} {L:List (Nat×ah)},ja T Φ ops l p σ lg k=aa r->(∀t∈dstsOf l,I.eX n t=ab)->Kn σ γ w L->
  (∀bc GX γ' w' L',Kn bc γ' w' L'->Frame γ w γ' w'->cg (dstsOf l) σ bc->k bc GX=aa r->NK n (Qx .normal) L' w')->WL P n ops.toArray Qx l L w
 |[],p,σ,lg,ρ,k,r,γ,w,L,h,hd,hk,hc=>WL.nil (hc σ lg γ w L hk (Frame.refl _ _) (cg.refl _ _) h)
 |o::l,p,σ,lg,ρ,k,r,γ,w,L,h,hd,hk,hc=>by
  have w8:∀t,o.dst=aa t->I.eX n t=ab:=λt ht=>hd t (Vv ht);have vE:∀t∈dstsOf l,I.eX n t=ab:=λt ht=>hd t (Vu ht);have run:∀{fb:S D},Kn fb γ w L->cg (dstsOf (o::l)) σ fb->(∀a,Fr n L a->Region.wanted o (yielded ops.toArray a.tmps)=ab)->zC T Φ p o fb lg (λσ lg=>ja T Φ ops l (p+1) σ lg k)=aa r->WL P n ops.toArray Qx (o::l) L w:=by intro fb mD rE hw h;obtain⟨as,e,l',h1,h2,h3,h4⟩:=ZN h;refine WL.take w8 hw (anG hP hR cK mD h1 h2) ?_;rintro v w' ⟨γ',hf,cT⟩;have mZ:cg (dstsOf (o::l)) fb (y8 fb o.dst e):=cg.ap (λt ht=>Vv ht) h3;exact sW h4 vE cT λbc GX B6 uQ Ff T9 Uo Us UC=>hc bc GX B6 uQ Ff T9 (hf.trans Uo) ((rE.trans mZ).trans (Us.mono λt ht=>Vu ht)) UC
  have pass:∀{fb:S D},Kn fb γ w L->cg (dstsOf (o::l)) σ fb->(∀a,Fr n L a->Region.wanted o (yielded ops.toArray a.tmps)=ai)->ja T Φ ops l (p+1) (uV fb o.dst) lg k=aa r->WL P n ops.toArray Qx (o::l) L w:=by intro fb mD rE hw h;refine WL.pass w8 hw ?_;have mZ:cg (dstsOf (o::l)) fb (uV fb o.dst):=cg.skip λt ht=>Vv ht;exact sW h vE (mD.skip o.dst) λbc GX B6 uQ Ff T9 Uo Us UC=>hc bc GX B6 uQ Ff T9 Uo ((rE.trans mZ).trans (Us.mono λt ht=>Vu ht)) UC
  simp only[ja]at h;split at h
  ·rename_i hg;exact run hk (cg.refl _ _) (λa _=>by simp[Region.wanted,hg]) h
  ·rename_i j b hg;split at h
   case h_1=>cases h
   rename_i d a vA;obtain⟨og,ho,vF,hl⟩:=UW vA;split at h
   ·rename_i c K g;obtain⟨v,vm,mV⟩:=hk.sr d _ hl;have mV:v= .bool c:=mV.1;subst mV;have hy:∀a,Fr n L a->Region.wanted o (yielded ops.toArray a.tmps)=(c==b):=λa ha=>by simp[Region.wanted,hg,Qi ha ho vF vm]
    rcases yR h with⟨rfl,h⟩|⟨rfl,h⟩
    ·have jD:=hk.li hl;have sI:=cg.li (dstsOf (o::l)) hl;cases b with
     |true=>exact run jD sI (λa ha=>by rw[hy a ha];rfl) h
     |false=>exact pass jD sI (λa ha=>by rw[hy a ha];rfl) h
    ·have jD:=hk.li hl;have sI:=cg.li (dstsOf (o::l)) hl;cases b with
     |true=>exact pass jD sI (λa ha=>by rw[hy a ha];rfl) h
     |false=>exact run jD sI (λa ha=>by rw[hy a ha];rfl) h
   ·split at h
    case isFalse=>cases h
    rename_i hu;have ha:a= .c (.one .undef):=by
     unfold S7 at hu;split at hu
     ·rfl
     ·cases hu
    subst ha;obtain⟨v,vm,mV⟩:=hk.sr d _ hl;have mV:v=undef:=mV;subst mV;exact pass hk (cg.refl _ _) (λa ha=>by simp[Region.wanted,hg,YV ha ho vF vm]) h
end
end
end Rx
end Go.Proofs.YtmngjhagbjgmfaaGreat
namespace Go.Proofs.YtmngjhagbjgmfaaGreat
open Go Go.RowKit Dp
namespace Rx
section
variable {D:Nat->Type} [∀n,ad (D n)]
variable {P:Program} {T:bb D} {Φ:List (az D)} {n:Nat} {γ:Gh D} {w:ax} {L:List (Nat×ah)} {Qx:Exit->Act->ax->Prop}
def Out.IY:∀{a b:Out},a.beq b=ab->a=b
 | .normal,.normal,_=>rfl
 | .exit a,.exit b,h=>by rw[bA h]
 | .goto a,.goto b,h=>by rw[bA h]
 | .ret,.ret,_=>rfl
 | .normal,.exit _,h=>by cases h
 | .normal,.goto _,h=>by cases h
 | .normal,.ret,h=>by cases h
 | .exit _,.normal,h=>by cases h
 | .exit _,.goto _,h=>by cases h
 | .exit _,.ret,h=>by cases h
 | .goto _,.normal,h=>by cases h
 | .goto _,.exit _,h=>by cases h
 | .goto _,.ret,h=>by cases h
 | .ret,.normal,h=>by cases h
 | .ret,.exit _,h=>by cases h
 | .ret,.goto _,h=>by cases h
def UZ{ρ:Type}{j:J}{wr mv:List Nat}{σ:S D}{k:S D->Option ρ}{h:HH D j.cL}{r:ρ}(e:H5 T j wr mv σ k h=aa r):∃bH,lu T j wr mv σ h=aa bH∧k bH=aa r:=by
 unfold H5 at e;split at e
 ·rename_i bc h1;exact⟨bc,h1,e⟩
 ·cases e
def FO{ρ:Type}{wr mv:List Nat}{σ aM:S D}{k:Out->S D->Option ρ}{kv:Option ρ}{o:Out}{r:ρ}:∀{E:List (Out×J)} {pr:Bool} {x:vX D pr ρ E},toE T pr E o aM kv=aa x->sO T pr wr mv σ k E x=aa r->
  (∃j h bH,zh T j aM h∧lu T j wr mv σ h=aa bH∧k o bH=aa r)∨kv=aa r
 |[],pr,x,h,hf=>by simp only[toE]at h;simp only[sO]at hf;exact .inr (h.trans hf)
 |(o',j)::E,pr,x,h,hf=>by
  cases pr with
  |true=>
   cases E with
   |nil=>
    simp only[toE]at h;split at h
    case isFalse=>cases h
    rename_i hb;obtain⟨y,h1,h2⟩:=sQ h;cases h2;have:=Out.IY hb;subst this;simp only[sO]at hf;obtain⟨bH,h3,h4⟩:=UZ hf;exact .inl ⟨j,x,bH,h1,h3,h4⟩
   |cons e E=>
    simp only[toE]at h;split at h
    ·rename_i hb;obtain⟨y,h1,h2⟩:=sQ h;cases h2;have:=Out.IY hb;subst this;simp only[sO,Dc,bu]at hf;obtain⟨bH,h3,h4⟩:=UZ hf;exact .inl ⟨j,y,bH,h1,h3,h4⟩
    ·split at h
     case h_2=>cases h
     rename_i y hy;cases h;simp only[sO,Dc,bB]at hf;exact FO hy hf
  |false=>
   simp only[toE]at h;split at h
   ·rename_i hb;obtain⟨y,h1,h2⟩:=sQ h;cases h2;have:=Out.IY hb;subst this;simp only[sO,Dc,bu]at hf;obtain⟨bH,h3,h4⟩:=UZ hf;exact .inl ⟨j,y,bH,h1,h3,h4⟩
   ·split at h
    case h_2=>cases h
    rename_i y hy;cases h;simp only[sO,Dc,bB]at hf;exact FO hy hf
def Kn.lk{σ:S D}(h:Kn σ γ w L)(l:List Nat):Kn {σ with lk:=l} γ w L:=⟨h.sr,h.ob,h.cI⟩
def cg.JL{wr:List Nat}{σ aM:S D}{lk:List Nat}(hs:∀i∈σ.lk,i∈lk)(h:cg wr {σ with lk:=lk} aM):cg wr σ {aM with lk:=σ.lk}:=⟨h.sl,rfl,λi hi=>h.ob i (hs i hi),h.nx⟩
def zy(hR:cE T){cut:Option (Bool×List (Out×J))}{wr:List Nat}{ρ:Type}{body:∀{ji:Type},S D->(Out->S D->Option ji)->Option ji}{σ:S D}{k:Out->S D->Option ρ}{r:ρ}(h:wrap T wr cut body σ k=aa r)(hk:Kn σ γ w L){G:Prop}(X:Out->List (Nat×ah)->ax->Prop)
  (MY:∀{ji:Type} {bc:S D} {k':Out->S D->Option ji} {r':ji},body bc k'=aa r'->Kn bc γ w L->(∀o aM aP w1 L1,Kn aM aP w1 L1->Frame γ w aP w1->cg wr bc aM->k' o aM=aa r'->X o L1 w1)->G)
  (hc:∀o aM aP w1 L1,Kn aM aP w1 L1->Frame γ w aP w1->cg wr σ aM->k o aM=aa r->X o L1 w1):G:=by
 unfold wrap at h
 split at h
 ·exact MY h hk hc
 ·rename_i pr E;obtain⟨x,hx,hf⟩:=pJ h;refine MY hx (hk.lk _) λo aM aP w1 L1 eG eA he hto=>?_;have hs:∀i∈σ.lk,i∈(kept σ (rk E)).map bS++σ.lk:=λi hi=>bz.2 (.inr hi);rcases FO hto hf with⟨j,y,bH,h1,h2,h3⟩|h1
  ·obtain⟨bf,k1,k2,k3,k4⟩:=Ap hR rfl hk eG he h1 h2;have:=k3.JL (σ:=σ) hs;have e:({bH with lk:=σ.lk}:S D)=bH:=by rw[<-k4]
   rw[show({({bH with lk:=(kept σ (rk E)).map bS++σ.lk}:S D)with lk:=σ.lk}:S D)={bH with lk:=σ.lk}from rfl,e]at this;exact hc o bH bf w1 L1 k1 (eA.trans k2) this h3
  ·exact hc o _ aP w1 L1 (eG.lk _) eA (he.JL hs) h1
def akP [I:Rd]{o:aS}{a:Act}{w:ax}{K:Act->ax->Prop}{K2:Act->ax->Prop}(hh:o.wpIn I.F 0 P a w K (Exit.then K2 Qx)):o.wpIn I.F 0 P a w K Qx:=by
 unfold aS.wpIn at*;refine⟨hh.1,?_⟩;have hh:=hh.2;generalize (o.semAt I.F.round a.eval).run P w=r at*;cases r with
 |ok n w'=>
  cases n<;>simp only[aS.uponIn]at hh⊢<;>
   first
    |exact hh
    |exact⟨hh.1,hh.2.mono (λe uQ he=>by cases e<;>exact he)⟩
    |exact⟨hh.1,hh.2.mono (λ_ _ he=>he)⟩
 |halt x w'=>cases x<;>simp only[aS.uponIn]at hh⊢<;>exact hh
def SO [I:Rd]{ops:Array aS}{l2:List aS}:∀{l1:List aS} {a:Act} {w:ax},wpListIn I.F 0 P ops (Exit.then (wpListIn I.F 0 P ops Qx l2) Qx) l1 a w->wpListIn I.F 0 P ops Qx (l1++l2) a w
 |[],a,w,h=>h
 |o::l1,a,w,h=>by
  unfold wpListIn at h;show wpListIn I.F 0 P ops Qx (o::(l1++l2)) a w;unfold wpListIn;split
  ·rename_i hw;rw[aG hw]at h;exact aS.wpIn_mono (λa w h=>SO h) (akP h)
  ·rename_i hw;rw[aK hw]at h;exact⟨h.1,SO h.2⟩
def WL.bF [Rd]{ops:Array aS}{l1 l2:List aS}(h:∀K:Act->ax->Prop,(∀L' w',WL P n ops Qx l2 L' w'->NK n K L' w')->WL P n ops (Exit.then K Qx) l1 L w):WL P n ops Qx (l1++l2) L w:=
 λa ha=>SO (h _ (λ_ _ hc a' jV=>hc a' jV) a ha)
def Vw(a b:List aS):dstsOf (a++b)=dstsOf a++dstsOf b:=by unfold dstsOf;simp
def ang{σ:S D}{γ:Gh D}{w:ax}{L:List (Nat×ah)}{i m t tc q g h:Nat}{xs:List (D m)}(hk:Kn σ γ w L)(ho:dt σ.ob i=aa (.cX m t tc q xs g h))(hl:bM σ.lk i=ai):
  ∃bf,Kn {σ with ob:=(i,aa (.sl m t xs [1] g))::σ.ob} bf w L∧Frame γ w bf w∧cg [] σ {σ with ob:=(i,aa (.sl m t xs [1] g))::σ.ob}:=by
 obtain⟨hi,hU,h1,h2,_⟩:=hk.ob.ob i _ ho
 obtain⟨o',qk⟩:∃o':cA,o'=λb=>if γ.o b=i∧w7 (γ.g i) b=ai then 1 else γ.o b:=⟨_,rfl⟩
 have bQ:∀b,γ.o b≠i->o' b=γ.o b:=λb hb=>by rw[qk];exact aK λhc=>hb hc.1
 have hhd:∀b,w7 (γ.g i) b=ab->o' b=γ.o b:=λb hb=>by rw[qk];exact aK λhc=>by rw[hb]at hc;cases hc.2
 have m_:∀b,γ.o b=i->w7 (γ.g i) b=ai->o' b=1:=λb e hb=>by rw[qk];exact aG ⟨e,hb⟩
 have wV:∀b,o' b=γ.o b∨o' b=1∧γ.o b=i:=λb=>by
  rw[qk];by_cases hc:γ.o b=i∧w7 (γ.g i) b=ai
  ·exact .inr ⟨aG hc,hc.1⟩
  ·exact .inl (aK hc)
 have kp:jg (λi=>i<σ.nx) (λi=>i<σ.nx) γ w ⟨o',γ.g,γ.v⟩ w:=⟨λ_ h=>h,λ_ _=>rfl,λ_ _=>rfl,λb _ hc=>⟨bQ b (by omega),rfl⟩⟩
 refine⟨⟨o',γ.g,γ.v⟩,⟨hk.sr.db kp,⟨λj x hx=>?_,λb hb=>?_,hk.ob.ro⟩,hk.cI⟩,⟨⟨rfl,rfl,rfl,bw _,λb _ hc=>⟨bQ b (by omega),rfl⟩,λb hb hc=>⟨hb,?_⟩⟩,λ_ _=>rfl⟩,⟨λ_ _=>rfl,rfl,λj hj=>?_,bw _⟩⟩
 ·by_cases fG:i=j
  ·subst fG;have e:dt ((i,aa (AO.sl m t xs [1] g))::σ.ob) i=aa (.sl m t xs [1] g):=by simp[dt,aE]
   rw[e]at hx;cases hx;refine⟨hi,hU,?_,λx hx=>by rw[dZ.1 hx];omega,h2.db kp⟩;refine Ow.tK (λb hb=>?_) (λb hb=>?_) h1.ow
   ·obtain⟨f1,f2⟩:=Dm hb;show o' b=i;rw[hhd b f2,f1]
   ·have hb:lr γ.o i (γ.g i) b=1:=by simpa[In]using hb
    obtain⟨f1,f2⟩:=Dl hb;show o' b∈[1];rw[m_ b f1 f2];exact dZ.2 rfl
  ·have hb:aT i j=ai:=by
    cases hb:aT i j with
    |true=>exact(fG (bA hb)).elim
    |false=>rfl
   have e:dt ((i,aa (AO.sl m t xs [1] g))::σ.ob) j=dt σ.ob j:=by simp[dt,aE,hb]
   rw[e]at hx;obtain⟨k1,k2,k3⟩:=hk.ob.ob j x hx;exact⟨k1,k2,k3.db kp k2 λb _ hb=>⟨bQ b (by rw[hb];exactλe=>fG e.symm),rfl⟩⟩
 ·show o' b<σ.nx;rcases wV b with e|⟨e,_⟩
  ·rw[e];exact hk.ob.cl b hb
  ·rw[e];have:=hk.cI;omega
 ·rcases wV b with e|⟨e,_⟩
  ·exact e.symm
  ·have hc:o' b=0∨o' b=3:=hc;omega
 ·have bQ:i≠j:=λe=>pj hl (e▸hj);have hb:aT i j=ai:=by
   cases hb:aT i j with
   |true=>exact(bQ (bA hb)).elim
   |false=>rfl
  simp[aE,hb]
def Zw{w:ax}{L:List (Nat×ah)}:∀{b:List Nat} {σ bH:S D} {γ:Gh D},xC σ b=aa bH->Kn σ γ w L->∃bf,Kn bH bf w L∧Frame γ w bf w∧cg [] σ bH
 |[],σ,bH,γ,h,hk=>by cases h;exact⟨γ,hk,Frame.refl _ _,cg.refl _ _⟩
 |i::r,σ,bH,γ,h,hk=>by
  simp only[xC]at h;split at h
  case h_2=>cases h
  rename_i m t tc q xs g ht ho;split at h
  case isTrue=>cases h
  rename_i hl;obtain⟨aP,k1,k2,k3⟩:=ang hk ho (by simpa using hl);obtain⟨bf,j1,j2,j3⟩:=Zw h k1;exact⟨bf,j1,k2.trans j2,k3.trans j3⟩
def awa{σ:S D}{γ:Gh D}{w:ax}{L:List (Nat×ah)}{i n:Nat}{xs:List (D n)}{K:List Nat}{o:AO D}(hk:Kn σ γ w L)(ho:dt σ.ob i=aa o)(hd:BJ o=aa (⟨.sl n,xs⟩,K))(hl:bM σ.lk i=ai):
  ∃bf,Kn {σ with ob:=(i,aa (.fz n xs (1::K)))::σ.ob} bf w L∧Frame γ w bf w∧cg [] σ {σ with ob:=(i,aa (.fz n xs (1::K)))::σ.ob}:=by
 obtain⟨hi,hU,h1⟩:=hk.ob.ob i _ ho
 obtain⟨h2,h3⟩:=Xb h1 hd
 obtain⟨o',qk⟩:∃o':cA,o'=λb=>if γ.o b=i then 1 else γ.o b:=⟨_,rfl⟩
 have bQ:∀b,γ.o b≠i->o' b=γ.o b:=λb hb=>by rw[qk];exact aK hb
 have iX:∀b,γ.o b=i->o' b=1:=λb hb=>by rw[qk];exact aG hb
 have wV:∀b,o' b=γ.o b∨o' b=1∧γ.o b=i:=λb=>by
  by_cases hc:γ.o b=i
  ·exact .inr ⟨iX b hc,hc⟩
  ·exact .inl (bQ b hc)
 have kp:jg (λi=>i<σ.nx) (λi=>i<σ.nx) γ w ⟨o',γ.g,γ.v⟩ w:=⟨λ_ h=>h,λ_ _=>rfl,λ_ _=>rfl,λb _ hc=>⟨bQ b (by omega),rfl⟩⟩
 have adT:∀j,i≠j->aT i j=ai:=λj fG=>by
  cases hb:aT i j with
  |true=>exact(fG (bA hb)).elim
  |false=>rfl
 refine⟨⟨o',γ.g,γ.v⟩,⟨hk.sr.db kp,⟨λj x hx=>?_,λb hb=>?_,hk.ob.ro⟩,hk.cI⟩,⟨⟨rfl,rfl,rfl,bw _,λb _ hc=>⟨bQ b (by omega),rfl⟩,λb hb hc=>⟨hb,?_⟩⟩,λ_ _=>rfl⟩,⟨λ_ _=>rfl,rfl,λj hj=>?_,bw _⟩⟩
 ·by_cases fG:i=j
  ·subst fG;have e:dt ((i,aa (AO.fz n xs (1::K)))::σ.ob) i=aa (.fz n xs (1::K)):=by simp[dt,aE]
   rw[e]at hx;cases hx;refine⟨hi,hU,?_,λx hx=>?_⟩
   ·show dA (In o' (1::K)) w (γ.g i) ⟨.sl n,xs⟩;refine dA.weaken (λb hb=>?_) h2;unfold In at hb⊢;rcases cr.1 hb with hb|hb
    ·rw[iX b hb];exact List.mem_cons_self ..
    ·rw[bQ b (λe=>by have:=h3 _ hb;omega)];exact eV _ hb
   ·rcases cr.1 hx with rfl|hx
    ·omega
    ·exact h3 x hx
  ·have e:dt ((i,aa (AO.fz n xs (1::K)))::σ.ob) j=dt σ.ob j:=by simp[dt,aE,adT j fG]
   rw[e]at hx;obtain⟨k1,k2,k3⟩:=hk.ob.ob j x hx;exact⟨k1,k2,k3.db kp k2 λb _ hb=>⟨bQ b (by rw[hb];exactλe=>fG e.symm),rfl⟩⟩
 ·show o' b<σ.nx;rcases wV b with e|⟨e,_⟩
  ·rw[e];exact hk.ob.cl b hb
  ·rw[e];have:=hk.cI;omega
 ·rcases wV b with e|⟨e,_⟩
  ·exact e.symm
  ·have hc:o' b=0∨o' b=3:=hc;omega
 ·have bQ:i≠j:=λe=>pj hl (e▸hj);simp[aE,adT j bQ]
def pF{w:ax}{L:List (Nat×ah)}:∀{b:List Nat} {σ bH:S D} {γ:Gh D},qC σ b=aa bH->Kn σ γ w L->∃bf,Kn bH bf w L∧Frame γ w bf w∧cg [] σ bH
 |[],σ,bH,γ,h,hk=>by cases h;exact⟨γ,hk,Frame.refl _ _,cg.refl _ _⟩
 |i::r,σ,bH,γ,h,hk=>by
  simp only[qC]at h;split at h
  case h_2=>cases h
  rename_i o ho;split at h
  case h_2=>cases h
  rename_i n xs K hd;split at h
  case isTrue=>cases h
  rename_i hl;obtain⟨aP,k1,k2,k3⟩:=awa hk ho hd (by simpa using hl);obtain⟨bf,j1,j2,j3⟩:=pF h k1;exact⟨bf,j1,k2.trans j2,k3.trans j3⟩
def pG{l:List Nat}{σ:S D}{ρ:Type}{k:S D->Option ρ}{r:ρ}(h:oG l σ k=aa r):∃bc,qC σ l=aa bc∧k bc=aa r:=by
 unfold oG at h;split at h
 case h_2=>cases h
 exact⟨_,by assumption,h⟩
def cg.qC{wr:List Nat}{σ bc:S D}(h:cg [] σ bc):cg wr σ bc:=h.mono λt ht=>by cases ht
section
variable (hP:dQ P T) (hR:cE T) (cK:∀c∈Φ,fK P T c)
include hP hR cK
theorem axQ [I:Rd]{ops:List aS}:∀(sg:Sg) {ρ:Type} {l:List aS} {p:Nat} {σ:S D} {k:S D->Option ρ} {r:ρ} {γ:Gh D} {w:ax} {L:List (Nat×ah)} {Qx:Exit->Act->ax->Prop},vM T Φ ops sg l p σ k=aa r->(∀t∈dstsOf l,I.eX n t=ab)->Kn σ γ w L->
  (∀bc γ' w' L',Kn bc γ' w' L'->Frame γ w γ' w'->cg (dstsOf l) σ bc->k bc=aa r->NK n (Qx .normal) L' w')->WL P n ops.toArray Qx l L w:=by
 intro sg
 induction sg with
 |nil=>
  intro ρ l p σ k r γ w L Qx h hd hk hc
  simp only[vM]at h
  exact sW hP hR cK h hd hk λbc _ γ' w' L' h1 h2 h3 h4=>hc bc γ' w' L' h1 h2 h3 h4
 |xC s b next Th=>
  intro ρ l p σ k r γ w L Qx h hd hk hc
  simp only[vM]at h
  have px:l=l.take (s-p)++l.drop (s-p):=(pO _ _).symm
  generalize nJ:l.take (s-p)=l1 at*
  generalize DM:l.drop (s-p)=l3 at*
  have vE:dstsOf l=dstsOf l1++dstsOf l3:=by rw[px,Vw]
  rw[vE]at hd hc
  rw[px]
  refine WL.bF λK1 gY=>?_
  refine sW hP hR cK h (λt ht=>hd t (bz.2 (.inl ht))) hk λaM _ aP w1 L1 k1 k2 k3 k4=>?_
  refine gY _ _ ?_
  split at k4
  case h_2=>cases k4
  rename_i bH asv
  obtain⟨bf,m1,m2,m3⟩:=Zw asv k1
  refine Th k4 (λt ht=>hd t (bz.2 (.inr ht))) m1 λoX jP w3 L3 n1 n2 n3 n4=>?_
  refine hc oX jP w3 L3 n1 ((k2.trans m2).trans n2) ?_ n4
  exact((k3.mono λt ht=>bz.2 (.inl ht)).trans (m3.mono λt ht=>by cases ht)).trans (n3.mono λt ht=>bz.2 (.inr ht))
 |tJ s m j inner next G4 Th=>
  intro ρ l p σ k r γ w L Qx h hd hk hc
  simp only[vM]at h
  have px:l=l.take (s-p)++((l.drop (s-p)).take m++l.drop (s-p+m)):=by rw[<-List.drop_drop,pO,pO]
  generalize nJ:l.take (s-p)=l1 at*
  generalize vv:(l.drop (s-p)).take m=l2 at*
  generalize DM:l.drop (s-p+m)=l3 at*
  have vE:dstsOf l=dstsOf l1++(dstsOf l2++dstsOf l3):=by rw[px,Vw,Vw]
  rw[vE]at hd hc
  rw[px]
  refine WL.bF λK1 gY=>?_
  refine sW hP hR cK h (λt ht=>hd t (bz.2 (.inl ht))) hk λaM _ aP w1 L1 k1 k2 k3 k4=>?_
  refine gY _ _ ?_
  refine WL.bF λK2 ix=>?_
  have ug:∀t∈dstsOf l2,I.eX n t=ab:=λt ht=>hd t (bz.2 (.inr (bz.2 (.inl ht))))
  have hd3:∀t∈dstsOf l3,I.eX n t=ab:=λt ht=>hd t (bz.2 (.inr (bz.2 (.inr ht))))
  refine zy hR k4 k1 (X:=λ_ L1 w1=>NK n K2 L1 w1) ?_ ?_
  ·intro ji bc k' r' hb cT hx;have fin:∀{fb:S D},cg (dstsOf l2) bc fb->∀Fz Jr FN PI,Kn Fz Jr FN PI->Frame aP w1 Jr FN->cg (dstsOf l2) fb Fz->k' .normal Fz=aa r'->NK n ((Exit.then K2 Qx) .normal) PI FN:=
    λrE Fz Jr FN PI m1 m2 m3 m4=>hx .normal Fz Jr FN PI m1 m2 (rE.trans m3) m4
   cases l2 with
   |nil=>cases hb
   |cons o l2=>
    dsimp only at hb;split at hb
    ·rename_i i b hg;split at hb
     ·rename_i d c K g vA;obtain⟨_,_,_,hl⟩:=UW vA;have sI:∀c',c=c'->cg (dstsOf (o::l2)) bc (li bc d c' K g):=λc' e=>by subst e;exact cg.li _ hl
      have jD:∀c',c=c'->Kn (li bc d c' K g) aP w1 L1:=λc' e=>by subst e;exact cT.li hl
      rcases yR hb with⟨qy,hb⟩|⟨qy,hb⟩
      ·cases b with
       |true=>exact G4 hb ug (jD _ qy) (fin (sI _ qy))
       |false=>exact sW hP hR cK hb ug (jD _ qy) λbc _=>fin (sI _ qy) bc
      ·cases b with
       |true=>exact sW hP hR cK hb ug (jD _ qy) λbc _=>fin (sI _ qy) bc
       |false=>exact G4 hb ug (jD _ qy) (fin (sI _ qy))
     ·exact sW hP hR cK hb ug cT λbc _=>fin (cg.refl _ _) bc
    ·exact G4 hb ug cT (fin (cg.refl _ _))
  ·intro o bH bf w2 L2 m1 m2 m3 m4;refine ix _ _ ?_;refine Th m4 hd3 m1 λoX jP w3 L3 n1 n2 n3 n4=>?_;refine hc oX jP w3 L3 n1 ((k2.trans m2).trans n2) ?_ n4;exact((k3.mono λt ht=>bz.2 (.inl ht)).trans (m3.mono λt ht=>bz.2 (.inr (bz.2 (.inl ht))))).trans (n3.mono λt ht=>bz.2 (.inr (bz.2 (.inr ht))))
