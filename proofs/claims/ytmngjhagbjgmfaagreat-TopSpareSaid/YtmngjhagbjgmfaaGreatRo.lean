import Derived.ScopeJumps
import Derived.Test.YtmngjhagbjgmfaaGreatRm
set_option linter.all false
open Array renaming getD->uM
open Bool renaming and_eq_true->bt,false->ai,false_eq_true->aE,not_eq_true'->pV,or_eq_true->sd,true->ab
open Classical renaming byContradiction->gC
open Go renaming Code->bM,Frame->f_,Oper->aT,Program->cQ,ResultVar->li,Value->ah,World->ay
open List renaming all_eq_true->dU,filter_cons_of_neg->pT,filter_cons_of_pos->lO,getD_eq_getElem?_getD->uJ,getElem?_append_left->mn,getElem?_eq_getElem->nZ,getElem?_eq_some_iff->gK,length_cons->jR,mem_append->bA,mem_cons->cu,mem_filter->lh,mem_map->dE,mem_of_getElem?->oW,mem_range->eu,range->bW
open Nat renaming beq->aU,ble->eh,ble_eq_true_of_le->Jr,blt->dz,eq_of_beq_eq_true->bB,le_of_ble_eq_true->dp,le_refl->bx,zero_add->kG
open Option renaming none->ak,some->aa
open Option.some renaming inj->jP
open Prod renaming fst->bT
noncomputable section
namespace Go.Proofs.YtmngjhagbjgmfaaGreat
open Go Go.RowKit Dp
namespace Rx
section
variable {α:Type} {g:Nat->List (Nat×α)} {l0:List (Nat×α)} {D D':Nat->Bool} {i p:Nat}
def acc(g:Nat->List (Nat×α))(l0:List (Nat×α))(D:Nat->Bool):Nat->List (Nat×α)
 |0=>l0
 |n+1=>cond (D n) (g n++acc g l0 D n) (acc g l0 D n)
def E6:∀{n:Nat},(∀q,q<n->i∈(g q).map bT->D q=D' q)->aF (acc g l0 D n) i=aF (acc g l0 D' n) i
 |0,_=>rfl
 |n+1,h=>by
  have ih:=E6 (n:=n) λq hq=>h q (by omega);simp only[acc];by_cases hi:i∈(g n).map bT
  ·rw[h n (by omega) hi];cases D' n with
   |true=>simp only[v_,km,ih]
   |false=>exact ih
  ·have hn:=qh.2 hi;have e:∀l,aF (g n++l) i=aF l i:=λl=>by rw[km,hn]
   cases D n<;>cases D' n<;>simp only[v_,rZ,e,ih]
def ajO(hp:D p=ab)(hi:i∈(g p).map bT):∀{n:Nat},p<n->(∀q,p<q->q<n->D q=ab->i∉(g q).map bT)->aF (acc g l0 D n) i=aF (g p) i
 |0,h,_=>by omega
 |n+1,h,hq=>by
  simp only[acc];by_cases hpn:p=n
  ·subst hpn;rw[hp];simp only[v_,km];cases hl:aF (g p) i with
   |none=>exact(qh.1 hl hi).elim
   |some a=>rfl
  ·have ih:=ajO hp hi (n:=n) (by omega) λq h1 h2=>hq q h1 (by omega);cases hD:D n with
   |false=>exact ih
   |true=>simp only[v_,km,qh.2 (hq n (by omega) (by omega) hD)];exact ih
def Xt:∀{n:Nat},(∀q,q<n->D q=D' q)->acc g l0 D n=acc g l0 D' n
 |0,_=>rfl
 |n+1,h=>by simp only[acc];rw[Xt (n:=n) λq hq=>h q (by omega),h n (by omega)]
def I':∀{n k:Nat},(∀q,n<=q->D q=ai)->acc g l0 D (n+k)=acc g l0 D n
 |n,0,_=>rfl
 |n,k+1,h=>by rw[Nat.add_succ];simp only[acc];rw[h (n+k) (by omega)];exact I' h
def ajN{n N:Nat}(h:n<=N):acc g l0 (λ_=>ab) n=acc g l0 (λq=>dz q n) N:=by
 obtain⟨k,rfl⟩:∃k,N=n+k:=⟨N-n,by omega⟩;rw[I' λq hq=>by
  cases hb:dz q n with
  |true=>have:=dp hb;omega
  |false=>rfl]
 refine Xt λq hq=>?_;exact(Jr hq).symm
def Ja:∀{n:Nat},acc g l0 (λ_=>ab) (n+1)=acc (λq=>g (q+1)) (g 0++l0) (λ_=>ab) n
 |0=>rfl
 |n+1=>by have:=Ja (n:=n);simp only[acc,v_]at this⊢;rw[this]
def ins(D:Nat->Bool)(p:Nat):Nat->Bool:=λj=>D j||aU j p
def acg(D:Nat->Bool)(p:Nat):ins D p p=ab:=by simp[ins]
def G6{q:Nat}(h:q≠p):ins D p q=D q:=by
 have:aU q p=ai:=by
  cases hb:aU q p with
  |true=>exact(h (bB hb)).elim
  |false=>rfl
 simp[ins,this]
def ajP{n:Nat}(hp:p<n)(hD:D p=ai)(h:∀i∈(g p).map bT,∀q,p<q->q<n->D q=ab->i∉(g q).map bT)(i:Nat):aF (acc g l0 (ins D p) n) i=aF (g p++acc g l0 D n) i:=by
 by_cases hi:i∈(g p).map bT
 ·rw[ajO (acg D p) hi hp λq h1 h2 h3=>h i hi q h1 h2 (by rw[G6 (by omega)]at h3;exact h3),km];cases hl:aF (g p) i with
  |none=>exact(qh.1 hl hi).elim
  |some a=>rfl
 ·rw[km,qh.2 hi];refine E6 λq hq hm=>?_;by_cases pB:q=p
  ·subst pB;exact(hi hm).elim
  ·exact G6 pB
end
section
variable {D:Nat->Type} [∀n,ad (D n)]
variable {P:cQ} {T:bc D} {Φ:List (aA D)} {n:Nat}
inductive RS(D:Nat->Type)|run (e:cY D) (l:List Nat)|skip
def dl(d:Option Nat)(a:AV D):List (Nat×AV D):=match d with
 |some d=>[(d,a)]
 |none=>[]
def gS(o:aT):RS D->List (Nat×AV D)
 | .run e _=>dl o.dst e.dst
 | .skip=>dl o.dst (.c (.one .undef))
def gO:RS D->List (Nat×Option (AO D))
 | .run e _=>e.fz.map (λi=>(i,ak))++e.sq
 | .skip=>[]
def xK(σ:S D)(o:aT)(x:RS D):S D:=⟨gS o x++σ.sl,gO x++σ.ob,σ.nx+128,σ.lk⟩
def anO{σ:S D}{o:aT}{e:cY D}{l:List Nat}:xK σ o (.run e l)=zb σ o.dst e:=by cases h:o.dst<;>simp[xK,zb,gS,gO,dl,h]
def anN{σ:S D}{o:aT}:xK σ o .skip=uZ σ o.dst:=by cases h:o.dst<;>simp[xK,uZ,gS,gO,dl,h]
def av'{o:aT}{x:RS D}{t:Nat}:t∈(gS o x).map bT↔o.dst=aa t:=by cases x<;>cases h:o.dst<;>simp[gS,dl,h,eq_comm]
def awa{e:cY D}{l:List Nat}{i:Nat}(h:i∈(gO (.run e l)).map bT):i∈e.wr:=by
 unfold cY.wr;simp only[gO,List.map_append,List.map_map,bA,dE]at h⊢;rcases h with⟨x,h,rfl⟩|h
 ·exact .inr h
 ·exact .inl h
def akc(T:bc D)(Φ:List (aA D))(ops:List aT)(σ:S D)(o:aT):RS D->Prop
 | .run e l=>(∀j b,o.guard=aa (j,b)->∃og d K g,ops[j]? =aa og∧og.dst=aa d∧aF σ.sl d=aa (.c (.one (.v .bool b K g))))∧
     ∃as,eR σ.sl o.op.operands.toList=aa as∧Q.R σ.ob (Ad T Φ σ.nx o.op as) l e∧Ed σ.lk e=ab
 | .skip=>∃j b og d a,o.guard=aa (j,b)∧ops[j]? =aa og∧og.dst=aa d∧aF σ.sl d=aa a∧((∃K g,a= .c (.one (.v .bool (!b) K g)))∨a= .c (.one .undef))
def Tr(T:bc D)(Φ:List (aA D))(ops:List aT):List aT->List (RS D)->S D->Prop
 |[],[],_=>True
 |o::r,x::xs,σ=>akc T Φ ops σ o x∧Tr T Φ ops r xs (xK σ o x)
 |_,_,_=>False
def runT:List aT->List (RS D)->S D->S D
 |o::r,x::xs,σ=>runT r xs (xK σ o x)
 |_,_,σ=>σ
def Ao:List (RS D)->Nat->List Lg->List Lg
 |[],_,lg=>lg
 | .run e l::xs,p,lg=>Ao xs (p+1) (⟨p,l.reverse,e.wr⟩::lg)
 | .skip::xs,p,lg=>Ao xs (p+1) lg
structure pP(σ be:S D):Prop where
 sl:∀t,aF σ.sl t=aF be.sl t
 ob:σ.ob=be.ob
 nx:σ.nx=be.nx
 lk:σ.lk=be.lk
def Vk{sl CT:List (Nat×AV D)}:∀{l:List Operand},(∀t,.tmp t∈l->aF sl t=aF CT t)->eR sl l=eR CT l
 |[],_=>rfl
 |x::l,h=>by
  simp only[eR];rw[Vk (l:=l) λt ht=>h t (by simp[ht])];have:eT sl x=eT CT x:=by
   cases x with
   |tmp t=>exact h t (by simp)
   |_=>rfl
  rw[this]
def pP.st{σ be:S D}(h:pP σ be)(o:aT)(x:RS D):pP (xK σ o x) (xK be o x):=by
 refine⟨λt=>?_,?_,?_,h.lk⟩
 ·show aF (gS o x++σ.sl) t=aF (gS o x++be.sl) t;rw[km,km,h.sl]
 ·show gO x++σ.ob=gO x++be.ob;rw[h.ob]
 ·show σ.nx+128=be.nx+128;rw[h.nx]
def trace{ops:List aT}:∀{l:List aT} {p:Nat} {σ be:S D} {lg:List Lg} {ρ:Type} {k:S D->List Lg->Option ρ} {r:ρ},je T Φ ops l p be lg k=aa r->pP σ be->∃rs kH,Tr T Φ ops l rs σ∧pP (runT l rs σ) kH∧k kH (Ao rs p lg)=aa r
 |[],p,σ,be,lg,ρ,k,r,h,he=>⟨[],be,trivial,he,h⟩
 |o::l,p,σ,be,lg,ρ,k,r,h,he=>by
  have run:∀{fe:S D},pP σ fe->(∀j b,o.guard=aa (j,b)->∃og d K g,ops[j]? =aa og∧og.dst=aa d∧aF σ.sl d=aa (.c (.one (.v .bool b K g))))->zG T Φ p o fe lg (λσ lg=>je T Φ ops l (p+1) σ lg k)=aa r->
    ∃rs kH,Tr T Φ ops (o::l) rs σ∧pP (runT (o::l) rs σ) kH∧k kH (Ao rs p lg)=aa r:=by
   intro fe rH hg h
   obtain⟨as,e,l',h1,h2,h3,h4⟩:=ZR h
   rw[<-anO (l:=l')]at h4
   obtain⟨rs,kH,t1,t2,t3⟩:=trace h4 (rH.st o (.run e l'))
   refine⟨.run e l'::rs,kH,⟨⟨hg,as,?_,?_,?_⟩,t1⟩,t2,t3⟩
   ·rw[Vk λt _=>rH.sl t];exact h1
   ·rw[rH.ob,rH.nx];exact h2
   ·rw[rH.lk];exact h3
  have pass:∀{fe:S D},pP σ fe->(∃j b og d a,o.guard=aa (j,b)∧ops[j]? =aa og∧og.dst=aa d∧aF σ.sl d=aa a∧((∃K g,a= .c (.one (.v .bool (!b) K g)))∨a= .c (.one .undef)))->je T Φ ops l (p+1) (uZ fe o.dst) lg k=aa r->
    ∃rs kH,Tr T Φ ops (o::l) rs σ∧pP (runT (o::l) rs σ) kH∧k kH (Ao rs p lg)=aa r:=by
   intro fe rH hg h
   rw[<-anN]at h
   obtain⟨rs,kH,t1,t2,t3⟩:=trace h (rH.st o .skip)
   exact⟨.skip::rs,kH,⟨hg,t1⟩,t2,t3⟩
  simp only[je]at h;split at h
  ·rename_i hg;exact run he (λj b hb=>by rw[hg]at hb;cases hb) h
  ·rename_i j b hg;split at h
   case h_1=>cases h
   rename_i d a vE;obtain⟨og,ho,vJ,hl⟩:=U3 vE;rw[<-he.sl]at hl;split at h
   ·rename_i c K g;have yu:∀c',c=c'->pP σ (lp be d c' K g):=λc' hc=>by
     subst hc;exact⟨λt=>by show _=aF ((d,_)::be.sl) t;rw[SP (by rw[<-he.sl];exact hl)];exact he.sl t,he.ob,he.nx,he.lk⟩
    have fy:c=b->∀j' b',o.guard=aa (j',b')->∃og d K g,ops[j']? =aa og∧og.dst=aa d∧aF σ.sl d=aa (.c (.one (.v .bool b' K g))):=λHR j' b' hb=>by rw[hg]at hb;cases hb;exact⟨og,d,K,g,ho,vJ,by rw[hl,HR]⟩
    have ada:c=(!b)->∃j b og d a,o.guard=aa (j,b)∧ops[j]? =aa og∧og.dst=aa d∧aF σ.sl d=aa a∧((∃K g,a= .c (.one (.v .bool (!b) K g)))∨a= .c (.one .undef)):=λHR=>
     ⟨j,b,og,d,_,hg,ho,vJ,hl,.inl ⟨K,g,by rw[HR]⟩⟩
    rcases yV h with⟨hc,h⟩|⟨hc,h⟩
    ·cases b with
     |true=>exact run (yu ab hc) (fy hc) h
     |false=>exact pass (yu ab hc) (ada hc) h
    ·cases b with
     |true=>exact pass (yu ai hc) (ada hc) h
     |false=>exact run (yu ai hc) (fy hc) h
   ·split at h
    case isFalse=>cases h
    rename_i hu;have ha:a= .c (.one .undef):=by
     unfold Ta at hu;split at hu
     ·rfl
     ·cases hu
    exact pass he ⟨j,b,og,d,a,hg,ho,vJ,hl,.inr ha⟩ h
def gA(l:List aT)(rs:List (RS D))(q:Nat):List (Nat×AV D):=match l[q]?,rs[q]? with
 |some o,aa x=>gS o x
 |_,_=>[]
def gB(rs:List (RS D))(q:Nat):List (Nat×Option (AO D)):=match rs[q]? with
 |some x=>gO x
 |none=>[]
def awc{l:List aT}{rs:List (RS D)}{q:Nat}{o:aT}{x:RS D}(h:l[q]? =aa o)(hx:rs[q]? =aa x):gA l rs q=gS o x:=by simp[gA,h,hx]
def awb{rs:List (RS D)}{q:Nat}{x:RS D}(hx:rs[q]? =aa x):gB rs q=gO x:=by simp[gB,hx]
def Nk{l:List aT}{rs:List (RS D)}{q t:Nat}(h:t∈(gA l rs q).map bT):∃o,l[q]? =aa o∧o.dst=aa t:=by
 unfold gA at h;split at h
 ·rename_i o x ho hx;exact⟨o,ho,av'.1 h⟩
 ·simp at h
def Nj{rs:List (RS D)}{q i:Nat}(h:i∈(gB rs q).map bT):∃e l,rs[q]? =aa (.run e l)∧i∈e.wr:=by
 unfold gB at h;split at h
 ·rename_i x hx;cases x with
  |run e l=>exact⟨e,l,hx,awa h⟩
  |skip=>simp[gO]at h
 ·simp at h
def ajS{ops:List aT}:∀{l:List aT} {rs:List (RS D)} {σ:S D},Tr T Φ ops l rs σ->rs.length=l.length
 |[],[],_,_=>rfl
 |_::_,_::_,_,h=>by simp[ajS h.2]
 |[],_::_,_,h=>h.elim
 |_::_,[],_,h=>h.elim
def Ph{ops:List aT}:∀{l:List aT} {rs:List (RS D)} {σ:S D},Tr T Φ ops l rs σ->∀{i:Nat} {o:aT} {x:RS D},l[i]? =aa o->rs[i]? =aa x->
  akc T Φ ops ⟨acc (gA l rs) σ.sl (λ_=>ab) i,acc (gB rs) σ.ob (λ_=>ab) i,σ.nx+128*i,σ.lk⟩ o x
 |[],[],_,_,i,o,x,hi,_=>by simp at hi
 |o'::l,x'::rs,σ,h,0,o,x,hi,hx=>by
  have e1:o'=o:=by simpa using hi
  have e2:x'=x:=by simpa using hx
  subst e1 e2;exact h.1
 |o'::l,x'::rs,σ,h,i+1,o,x,hi,hx=>by have:=Ph h.2 (i:=i) (o:=o) (x:=x) (by simpa using hi) (by simpa using hx);rw[Ja,Ja,show σ.nx+128*(i+1)=σ.nx+128+128*i from by omega];exact this
 |[],_::_,_,h,_,_,_,_,_=>h.elim
 |_::_,[],_,h,_,_,_,_,_=>h.elim
def aar{ops:List aT}:∀{l:List aT} {rs:List (RS D)} {σ:S D},Tr T Φ ops l rs σ->runT l rs σ=⟨acc (gA l rs) σ.sl (λ_=>ab) l.length,acc (gB rs) σ.ob (λ_=>ab) l.length,σ.nx+128*l.length,σ.lk⟩
 |[],[],_,_=>rfl
 |o::l,x::rs,σ,h=>by simp only[runT,jR];rw[aar h.2,Ja,Ja,show σ.nx+128*(l.length+1)=σ.nx+128+128*l.length from by omega];rfl
 |[],_::_,_,h=>h.elim
 |_::_,[],_,h=>h.elim
def SX{an:List Nat}:∀{rs:List (RS D)} {p:Nat} {lg:List Lg},yj an (Ao rs p lg)=ab->
  yj an lg=ab∧(∀j e l,rs[j]? =aa (.run e l)->∀b∈lg,bit (an.getD (p+j) 0) b.i=ab∨Dm ⟨p+j,l.reverse,e.wr⟩ b=ab)∧
  ∀i j e l e' l',i<j->rs[i]? =aa (.run e l)->rs[j]? =aa (.run e' l')->bit (an.getD (p+j) 0) (p+i)=ab∨Dm ⟨p+j,l'.reverse,e'.wr⟩ ⟨p+i,l.reverse,e.wr⟩=ab
 |[],p,lg,h=>⟨h,λj e l hj=>by simp at hj,λi j e l e' l' _ hi=>by simp at hi⟩
 | .skip::rs,p,lg,h=>by
   obtain⟨h1,h2,h3⟩:=SX (rs:=rs) (p:=p+1) (lg:=lg) h;refine⟨h1,λj e l hj b hb=>?_,λi j e l e' l' iM hi hj=>?_⟩
   ·cases j with
    |zero=>simp at hj
    |succ j=>have:=h2 j e l (by simpa using hj) b hb;rw[show p+(j+1)=p+1+j from by omega];exact this
   ·cases i with
    |zero=>simp at hi
    |succ i=>
     cases j with
     |zero=>omega
     |succ j=>have:=h3 i j e l e' l' (by omega) (by simpa using hi) (by simpa using hj);rw[show p+(j+1)=p+1+j from by omega,show p+(i+1)=p+1+i from by omega];exact this
 | .run e0 l0::rs,p,lg,h=>by
   obtain⟨h1,h2,h3⟩:=SX (rs:=rs) (p:=p+1) (lg:=⟨p,l0.reverse,e0.wr⟩::lg) h;simp only[yj,bt,dU,sd]at h1;refine⟨h1.2,λj e l hj b hb=>?_,λi j e l e' l' iM hi hj=>?_⟩
   ·cases j with
    |zero=>
     have:RS.run e0 l0= .run e l:=by simpa using hj
     cases this;exact h1.1 b hb
    |succ j=>have:=h2 j e l (by simpa using hj) b (by simp[hb]);rw[show p+(j+1)=p+1+j from by omega];exact this
   ·cases j with
    |zero=>omega
    |succ j=>
     rw[show p+(j+1)=p+1+j from by omega];cases i with
     |zero=>
      have:RS.run e0 l0= .run e l:=by simpa using hi
      cases this;exact h2 j e' l' (by simpa using hj) ⟨p,l0.reverse,e0.wr⟩ (by simp)
     |succ i=>have:=h3 i j e l e' l' (by omega) (by simpa using hi) (by simpa using hj);rw[show p+(i+1)=p+1+i from by omega];exact this
def QW{ops:List aT}{an:List Nat}:∀{r:List aT} {j:Nat} {seen:List (Nat×aT)},xM ops an j r seen=ab->
  (∀q b,r[q]? =aa b->(∀s∈seen,bit (an.getD (j+q) 0) s.1=ab∨apart ops s.2 b=ab)∧∀e∈b.after.toList,Region.binds .any e=ab->e.on<j+q)∧
  ∀p q a b,p<q->r[p]? =aa a->r[q]? =aa b->bit (an.getD (j+q) 0) (j+p)=ab∨apart ops a b=ab
 |[],j,seen,h=>⟨λq b hq=>by simp at hq,λp q a b _ hp=>by simp at hp⟩
 |o::r,j,seen,h=>by
  simp only[xM,bt,dU,sd]at h;obtain⟨⟨h1,h2⟩,h3⟩:=h;obtain⟨k1,k2⟩:=QW (r:=r) (j:=j+1) (seen:=(j,o)::seen) h3;refine⟨λq b hq=>?_,λp q a b l_ hp hq=>?_⟩
  ·cases q with
   |zero=>
    have e:o=b:=by simpa using hq
    subst e;refine⟨h1,λe he hb=>?_⟩;rcases h2 e he with h4|h4
    ·rw[hb]at h4;cases h4
    ·exact dp h4
   |succ q=>obtain⟨m1,m2⟩:=k1 q b (by simpa using hq);rw[show j+(q+1)=j+1+q from by omega];exact⟨λs hs=>m1 s (by simp[hs]),m2⟩
  ·cases q with
   |zero=>omega
   |succ q=>
    rw[show j+(q+1)=j+1+q from by omega];cases p with
    |zero=>
     have e:o=a:=by simpa using hp
     subst e;exact(k1 q b (by simpa using hq)).1 (j,o) (by simp)
    |succ p=>have:=k2 p q a b (by omega) (by simpa using hp) (by simpa using hq);rw[show j+(p+1)=j+1+p from by omega];exact this
def W_(m i:Nat):bit m i=m.testBit i:=by
 unfold bit;rw[Nat.testBit_eq_decide_div_mod_eq,Nat.shiftRight_eq_div_pow];cases h:aU (m/2^i% 2) 1 with
 |true=>rw[bB h];rfl
 |false=>
  have:¬m/2^i% 2=1:=λe=>by rw[e]at h;cases h
  simp[this]
def ajJ{f:Nat->Nat}{i:Nat}:∀{es:List Edge} {s:Nat},bit (es.foldl (λs e=>if Region.binds .any e then s|||(1<<<e.on)|||(f e.on)else s) s) i=ab->
  bit s i=ab∨∃e∈es,Region.binds .any e=ab∧(i=e.on∨bit (f e.on) i=ab)
 |[],s,h=> .inl h
 |e::es,s,h=>by
  rw[List.foldl_cons]at h;rcases ajJ h with h|⟨e',h1,h2⟩
  ·split at h
   ·rename_i hb;rw[W_,Nat.testBit_or,Nat.testBit_or,sd,sd]at h;rcases h with(h|h)|h
    ·exact .inl (by rw[W_];exact h)
    ·refine .inr ⟨e,by simp,hb,.inl ?_⟩;rw[Nat.one_shiftLeft,Nat.testBit_two_pow]at h;exact(jA h).symm
    ·exact .inr ⟨e,by simp,hb,.inr (by rw[W_];exact h)⟩
   ·exact .inl h
  ·exact .inr ⟨e',by simp[h1],h2⟩
def ajG:∀{l:List aT} {acc:List Nat},∃s,jh l acc=acc.reverse++s
 |[],acc=>⟨[],by simp[jh]⟩
 |o::r,acc=>by obtain⟨s,h⟩:=ajG (l:=r) (acc:=BR acc o::acc);exact⟨BR acc o::s,by simp only[jh];rw[h];simp⟩
def ajH:∀{l:List aT} {acc:List Nat} {q:Nat} {o:aT},l[q]? =aa o->∃m,jh l acc=m++(jh l acc).drop (acc.length+q)∧m.length=acc.length+q∧(jh l acc)[acc.length+q]? =aa (BR m.reverse o)
 |[],acc,q,o,h=>by simp at h
 |o'::r,acc,0,o,h=>by
  have e:o'=o:=by simpa using h
  subst e;obtain⟨s,h⟩:=ajG (l:=r) (acc:=BR acc o'::acc);refine⟨acc.reverse,?_,by simp,?_⟩
  ·simp only[jh];rw[h];simp
  ·simp only[jh];rw[h];simp
 |o'::r,acc,q+1,o,h=>by obtain⟨m,h1,h2,h3⟩:=ajH (l:=r) (acc:=BR acc o'::acc) (q:=q) (o:=o) (by simpa using h);simp only[jR]at h1 h2 h3;rw[show acc.length+1+q=acc.length+(q+1)from by omega]at h1 h2 h3;exact⟨m,h1,h2,h3⟩
def ajI{l:List aT}{q i:Nat}{o:aT}(h:l[q]? =aa o)(hb:bit ((jh l []).getD q 0) i=ab):∃e∈o.after.toList,Region.binds .any e=ab∧(i=e.on∨bit ((jh l []).getD e.on 0) i=ab):=by
 obtain⟨m,h1,h2,h3⟩:=ajH (acc:=[]) h;simp only[List.length_nil,kG]at h1 h2 h3;rw[uJ,h3]at hb;simp only[Option.getD_some]at hb;unfold BR at hb;rcases ajJ (f:=λx=>m.reverse.reverse.getD x 0) hb with hb|⟨e,k1,k2,k3⟩
 ·simp[bit]at hb
 ·refine⟨e,k1,k2,?_⟩;rcases k3 with k3|k3
  ·exact .inl k3
  ·right;rw[List.reverse_reverse]at k3;rw[h1];by_cases aV:e.on<m.length
   ·rw[uJ,mn aV,<-uJ];exact k3
   ·rw[uJ,List.getElem?_eq_none (by omega)]at k3;simp[bit]at k3
def Q.aCG{α:Type}{ob b8:List (Nat×Option (AO D))}:∀{q:Q D α} {l:List Nat} {a:α},(∀i∈l,aF ob i=aF b8 i)->Q.R ob q l a->Q.R b8 q l a:=by
 intro q;induction q with
 |ret b=>intro l a _ h;exact h
 |fail=>intro l a _ h;exact h
 |obj i f ih=>intro l a he h;obtain⟨x,l',h1,rfl,h2⟩:=h;refine⟨x,l',?_,rfl,ih x (λi hi=>he i (by simp[hi])) h2⟩;unfold dw at h1⊢;rw[<-he i (by simp)];exact h1
 |part o f ih=>intro l a he h;obtain⟨y,h1,h2⟩:=h;exact⟨y,h1,ih y he h2⟩
def UD(D:Nat->Bool)(nx N:Nat):Nat->Prop:=λi=>i<nx∨∃q,q<N∧D q=ab∧nx+128*q<=i∧i<nx+128*q+128
def ajR{Dn:Nat->Bool}{nx N p:Nat}(hp:p<N):jw (UD Dn nx N) (nx+128*p)=UD (ins Dn p) nx N:=by
 rY i;apply propext;unfold jw UD;constructor
 ·rintro((h|⟨q,h1,h2,h3⟩)|h)
  ·exact .inl h
  ·exact .inr ⟨q,h1,by simp[ins,h2],h3⟩
  ·exact .inr ⟨p,hp,acg _ _,h⟩
 ·rintro(h|⟨q,h1,h2,h3⟩)
  ·exact .inl (.inl h)
  ·by_cases hq:q=p
   ·subst hq;exact .inr h3
   ·rw[G6 hq]at h2;exact .inl (.inr ⟨q,h1,h2,h3⟩)
structure Dr(l:List aT)(rs:List (RS D))(σ:S D)(ff:Gh D)(w0:ay)(Dn:Nat->Bool)(γ:Gh D)(w:ay)(L:List (Nat×ah)):Prop where
 sr:SR (UD Dn σ.nx l.length) γ w (acc (gA l rs) σ.sl Dn l.length) L
 ob:OB (UD Dn σ.nx l.length) γ w (acc (gB rs) σ.ob Dn l.length)
 fr:f_ ff w0 γ w
 cl:∀q o,Dn q=ab->l[q]? =aa o->∀e∈o.after.toList,Region.binds .any e=ab->Dn e.on=ab
 cJ:2000<=σ.nx
def SR.eqv{U:Nat->Prop}{γ:Gh D}{w:ay}{sl CT:List (Nat×AV D)}{L:List (Nat×ah)}(h:SR U γ w sl L)(he:∀t,aF CT t=aF sl t):SR U γ w CT L:=λt a ha=>h t a (by rw[<-he];exact ha)
def OB.eqv{U:Nat->Prop}{γ:Gh D}{w:ay}{ob b8:List (Nat×Option (AO D))}(h:OB U γ w ob)(he:∀t,aF b8 t=aF ob t):OB U γ w b8:=⟨λi x hx=>h.ob i x (by unfold dw at hx⊢;rw[<-he];exact hx),h.cl,h.ro⟩
def ci.of{wr:List Nat}{σ be:S D}(h1:∀t,t∉wr->aF be.sl t=aF σ.sl t)(h2:be.lk=σ.lk)(h3:∀i∈σ.lk,aF be.ob i=aF σ.ob i)(h4:σ.nx<=be.nx):ci wr σ be:=⟨h1,h2,h3,h4⟩
def ajD{ops:List aT}{a b:aT}{d:Nat}(h:apart ops a b=ab)(hd:a.dst=aa d):d∉tmpsOf ops b∧b.dst≠aa d:=by unfold apart at h;rw[hd]at h;simp only[bt,pV]at h;refine⟨pu h.1,λhb=>?_⟩;rw[hb]at h;simp at h
def aCp{ops:List aT}{a b:aT}{d:Nat}(h:apart ops a b=ab)(hd:b.dst=aa d):d∉tmpsOf ops a:=by
 unfold apart at h;rw[hd]at h;split at h
 ·simp only[pV]at h;exact pu h
 ·simp only[bt,pV]at h;exact pu h.2.2
def am'{ops:List aT}{o:aT}{t:Nat}(h:Operand.tmp t∈o.op.operands.toList):t∈tmpsOf ops o:=by unfold tmpsOf;exact bA.2 (.inl (List.mem_filterMap.2 ⟨.tmp t,h,rfl⟩))
def ane{ops:List aT}{o og:aT}{j d:Nat}{b:Bool}(h:o.guard=aa (j,b))(ho:ops[j]? =aa og)(hd:og.dst=aa d):d∈tmpsOf ops o:=by unfold tmpsOf;refine bA.2 (.inr ?_);simp[h,ho,hd]
section
variable (hP:dS P T) (hR:cF T) (cL:∀c∈Φ,fM P T c)
include hP hR cL
def Dr.step [Rd]{l:List aT}{rs:List (RS D)}{σ:S D}{ff γ:Gh D}{w0 w:ay}{Dn:Nat->Bool}{L:List (Nat×ah)}{Qx:Exit->Act->ay->Prop}(h:Dr l rs σ ff w0 Dn γ w L)(hT:Tr T Φ l l rs σ)(hs:xM l (jh l []) 0 l []=ab)(hl:yj (jh l []) (Ao rs 0 [])=ab)
  {p:Nat} {o:aT} {x:RS D} (hp:l[p]? =aa o) (hx:rs[p]? =aa x) (hD:Dn p=ai) (hr:∀e∈o.after.toList,Region.binds .any e=ab->Dn e.on=ab):
  match x with
  | .run e l'=>(∀a,Fr n L a->Region.wanted o (yielded l.toArray a.tmps)=ab)∧OW P Qx L o w (λv w'=>∃γ',Dr l rs σ ff w0 (ins Dn p) γ' w' (rm o.dst v L))
  | .skip=>(∀a,Fr n L a->Region.wanted o (yielded l.toArray a.tmps)=ai)∧Dr l rs σ ff w0 (ins Dn p) γ w (rm o.dst undef L):=by
 have ql:p<l.length:=(gK.1 hp).1
 obtain⟨s1,s2⟩:=QW hs
 obtain⟨_,_,g3⟩:=SX hl
 simp only[kG]at s1 s2 g3
 have down:∀q,Dn q=ab->∀i,bit ((jh l []).getD q 0) i=ab->Dn i=ab:=by
  intro q;induction q using Nat.strongRecOn with
  |_ q ih=>
   intro hq i hi;by_cases AM:q<l.length
   ·obtain⟨e,k1,k2,k3⟩:=ajI (nZ AM) hi;have AQ:=h.cl q _ hq (nZ AM) e k1 k2;rcases k3 with rfl|k3
    ·exact AQ
    ·exact ih e.on ((s1 q _ (nZ AM)).2 e k1 k2) AQ i k3
   ·exfalso;have hlen:(jh l []).length<=q:=by
     have:∀{l:List aT} {acc:List Nat},(jh l acc).length=acc.length+l.length:=by
      intro l;induction l with
      |nil=>intro acc;simp[jh]
      |cons o r ih=>intro acc;simp only[jh];rw[ih];simp;omega
     rw[this];simp;omega
    rw[uJ,List.getElem?_eq_none hlen]at hi;simp[bit]at hi
 have Zt:∀i,bit ((jh l []).getD p 0) i=ab->Dn i=ab:=λi hi=>by
  obtain⟨e,k1,k2,k3⟩:=ajI hp hi;rcases k3 with rfl|k3
  ·exact hr e k1 k2
  ·exact down e.on (hr e k1 k2) i k3
 have Mz:∀q,Dn q=ab->¬bit ((jh l []).getD q 0) p=ab:=λq hq hb=>by rw[down q hq p hb]at hD;cases hD
 have bR:∀q,Dn q=ab->q≠p:=λq hq e=>by subst e;rw[hq]at hD;cases hD
 have MO:∀t∈tmpsOf l o,aF (acc (gA l rs) σ.sl Dn l.length) t=aF (acc (gA l rs) σ.sl (λ_=>ab) p) t:=by
  intro t ht;rw[ajN (Nat.le_of_lt ql)];refine E6 λq hq hm=>?_;obtain⟨oq,MM,MX⟩:=Nk hm;rcases Nat.lt_trichotomy q p with pB|rfl|pB
  ·have:dz q p=ab:=Jr pB;rw[this];rcases s2 q p oq o pB MM hp with hb|hb
   ·exact Zt q hb
   ·exact((ajD hb MX).1 ht).elim
  ·rw[hD];cases hb:dz q q with
   |true=>have:=dp hb;omega
   |false=>rfl
  ·have:dz q p=ai:=by
    cases hb:dz q p with
    |true=>have:=dp hb;omega
    |false=>rfl
   rw[this];cases UW:Dn q with
   |false=>rfl
   |true=>
    rcases s2 p q o oq pB hp MM with hb|hb
    ·exact(Mz q UW hb).elim
    ·exact(aCp hb MX ht).elim
 have adw:∀t,aF (acc (gA l rs) σ.sl (ins Dn p) l.length) t=aF (gS o x++acc (gA l rs) σ.sl Dn l.length) t:=by
  rw[<-awc hp hx];refine ajP ql hD λt ht q h1 h2 h3 hm=>?_;obtain⟨oq,MM,MX⟩:=Nk hm;obtain⟨o',qq,xc⟩:=Nk ht;rw[hp]at qq;cases qq;rcases s2 p q o oq h1 hp MM with hb|hb
  ·exact Mz q h3 hb
  ·exact(ajD hb xc).2 MX
 have adx:∀t,aF (acc (gB rs) σ.ob (ins Dn p) l.length) t=aF (gO x++acc (gB rs) σ.ob Dn l.length) t:=by
  rw[<-awb hx];refine ajP ql hD λt ht q h1 h2 h3 hm=>?_;obtain⟨e',l2,MI,fR⟩:=Nj hm;obtain⟨e1,l1,hq1,wV⟩:=Nj ht;rcases g3 p q _ _ _ _ h1 hq1 MI with hb|hb
  ·exact Mz q h3 hb
  ·simp only[Dm,bt]at hb;exact vP hb.2 fR wV
 have c_:∀q o',ins Dn p q=ab->l[q]? =aa o'->∀e∈o'.after.toList,Region.binds .any e=ab->ins Dn p e.on=ab:=by
  intro q o' hq qq e he hb;have:Dn e.on=ab:=by
   by_cases pB:q=p
   ·subst pB;rw[hp]at qq;cases qq;exact hr e he hb
   ·rw[G6 pB]at hq;exact h.cl q o' hq qq e he hb
  simp[ins,this]
 have HZ:=Ph hT hp hx
 have adC:∀(j d:Nat) (b:Bool) (og:aT) (av:AV D),o.guard=aa (j,b)->l[j]? =aa og->og.dst=aa d->aF (acc (gA l rs) σ.sl (λ_=>ab) p) d=aa av->∃v,Dp.look L d=aa v∧gI (UD Dn σ.nx l.length) γ w av v:=by intro j d b og av hg ho hd hl;exact h.sr d av (by rw[MO d (ane hg ho hd)];exact hl)
 cases x with
 |run e l'=>
  obtain⟨hg,as,he,hq,DW⟩:=HZ
  dsimp only at hg he hq DW
  refine⟨λa ha=>?_,?_⟩
  ·cases vE:o.guard with
   |none=>simp[Region.wanted,vE]
   |some jb=>obtain⟨j,b⟩:=jb;obtain⟨og,d,K,g,h1,h2,h3⟩:=hg j b vE;obtain⟨v,vr,mY⟩:=adC j d b og _ vE h1 h2 h3;have mY:v= .bool b:=mY.1;subst mY;simp[Region.wanted,vE,Qm ha h1 h2 vr]
  ·have na:eR (acc (gA l rs) σ.sl Dn l.length) o.op.operands.toList=aa as:=by
    rw[Vk λt ht=>MO t (am' ht)];exact he
   have uc:Q.R (acc (gB rs) σ.ob Dn l.length) (Ad T Φ (σ.nx+128*p) o.op as) l' e:=by
    refine Q.aCG (λi hi=>?_) hq;rw[ajN (Nat.le_of_lt ql)];refine E6 λq hq hm=>?_;obtain⟨e',l2,MI,fR⟩:=Nj hm;rcases Nat.lt_trichotomy q p with pB|rfl|pB
    ·have:dz q p=ab:=Jr pB;rw[this];rcases g3 q p _ _ _ _ pB MI hx with hb|hb
     ·exact(Zt q hb).symm
     ·simp only[Dm,bt]at hb;exact(vP hb.1.2 fR (by simpa using hi)).elim
    ·rw[hD];cases hb:dz q q with
     |true=>have:=dp hb;omega
     |false=>rfl
    ·have:dz q p=ai:=by
      cases hb:dz q p with
      |true=>have:=dp hb;omega
      |false=>rfl
     rw[this];cases UW:Dn q with
     |false=>rfl
     |true=>
      rcases g3 p q _ _ _ _ pB hx MI with hb|hb
      ·exact(Mz q UW hb).elim
      ·simp only[Dm,bt]at hb;exact(vP hb.1.1 fR (by simpa using hi)).elim
   have hcx:Cx (UD Dn σ.nx l.length) (σ.nx+128*p) γ w (acc (gA l rs) σ.sl Dn l.length) L (acc (gB rs) σ.ob Dn l.length):=by
    refine⟨h.sr,h.ob,λi h1 h2 h3=>?_,by have:=h.cJ;omega⟩;rcases h3 with h3|⟨q,k1,k2,k3,k4⟩
    ·omega
    ·have:=bR q k2;omega
   have:=abh (Qx:=Qx) (d:=o.dst) (ty:=o.type) (pos:=o.pos) (af:=o.after) (gd:=o.guard) hP hR cL hcx na uc;refine OW.mono this ?_;rintro v w' ⟨γ',oE⟩;have fA:=oE.kp;have Bb:=oE.dst;have bH:=oE.ob;rw[ajR ql]at fA Bb bH;refine⟨γ',⟨SR.eqv ?_ adw,OB.eqv bH λt=>by rw[adx];rfl,h.fr.trans oE.fr,c_,h.cJ⟩⟩;show SR _ γ' w' (dl o.dst e.dst++_) _;cases hd:o.dst with
   |none=>exact h.sr.df fA
   |some t=>exact(h.sr.df fA).cons Bb
 |skip=>
  obtain⟨j,b,og,d,av,hg,h1,h2,h3,h4⟩:=HZ
  obtain⟨v,vr,mY⟩:=adC j d b og _ hg h1 h2 h3
  refine⟨λa ha=>?_,?_⟩
  ·rcases h4 with⟨K,g,rfl⟩|rfl
   ·have mY:v= .bool (!b):=mY.1;subst mY;cases b<;>simp[Region.wanted,hg,Qm ha h1 h2 vr]
   ·have mY:v=undef:=mY;subst mY;simp[Region.wanted,hg,YZ ha h1 h2 vr]
  ·have fA:jj (UD Dn σ.nx l.length) (UD (ins Dn p) σ.nx l.length) γ w γ w:=⟨λi hi=>by
    rw[<-ajR ql];exact .inl hi,λ_ _=>rfl,λ_ _=>rfl,λ_ _ _=>⟨rfl,rfl⟩⟩
   refine⟨SR.eqv ?_ adw,OB.eqv ⟨λi x hx=>?_,λb hb=>fA.u _ (h.ob.cl b hb),λx hx=>fA.u _ (h.ob.ro x hx)⟩ adx,h.fr,c_,h.cJ⟩
   ·show SR _ γ w (dl o.dst _++_) _;cases hd:o.dst with
    |none=>exact h.sr.df fA
    |some t=>exact(h.sr.df fA).cons rfl
   ·obtain⟨h1,h2,h3⟩:=h.ob.ob i x hx;exact⟨h1,fA.u _ h2,h3.df fA h2 λ_ _ _=>⟨rfl,rfl⟩⟩
end
def gl(l:List aT)(i:Nat):List Nat:=match l[i]? with
 |some o=>(o.after.toList.filter (Region.binds .any)).map Edge.on
 |none=>[]
section
variable {P:cQ} {Q:Exit->Act->ay->Prop} {l:List aT}
def abD{i:Nat}{o:aT}(h:l[i]? =aa o){e:Edge}(he:e∈o.after.toList)(hb:Region.binds .any e=ab):e.on∈gl l i:=by simp only[gl,h];exact dE.2 ⟨e,lh.2 ⟨he,hb⟩,rfl⟩
def LK{i j:Nat}(hj:j∈gl l i):∃o,l[i]? =aa o∧∃e∈o.after.toList,Region.binds .any e=ab∧e.on=j:=by
 unfold gl at hj;split at hj
 ·rename_i o ho;obtain⟨e,he,rfl⟩:=dE.1 hj;obtain⟨h1,h2⟩:=lh.1 he;exact⟨o,ho,e,h1,h2,rfl⟩
 ·cases hj
def xV{cz:Array Bool}(eM:cz.size=l.length){i:Nat}:i∈Region.ready .any l.toArray cz↔i<l.length∧cz.getD i ai=ai∧∀j∈gl l i,cz.getD j ai=ab:=by
 simp only[Region.ready,lh,eu,List.size_toArray];constructor
 ·rintro⟨hi,h⟩;have A8:l[i]? =aa l[i]:=nZ hi;have Uf:l.toArray[i]? =aa l[i]:=by simp[hi]
  have m_:i<cz.size:=by omega
  simp only[bt]at h;refine⟨hi,?_,λj hj=>?_⟩
  ·have:=h.1;simp[uM,m_]at this⊢;exact this
  ·obtain⟨o,ho,e,he,hb,rfl⟩:=LK hj;rw[A8]at ho;cases ho;have h2:=h.2;rw[Uf]at h2;simp only[Option.map_some,Option.getD_some]at h2;have:=Array.all_eq_true'.1 h2 e (by simpa using he);simpa[hb]using this
 ·rintro⟨hi,h1,h2⟩;have Uf:l.toArray[i]? =aa l[i]:=by simp[hi]
  have m_:i<cz.size:=by omega
  refine⟨hi,?_⟩;rw[Uf];simp only[bt,Option.map_some,Option.getD_some];refine⟨?_,Array.all_eq_true'.2 λe he=>?_⟩
  ·simp[uM,m_]at h1⊢;exact h1
  ·cases hb:Region.binds .any e with
   |false=>simp
   |true=>have:=h2 e.on (abD (nZ hi) (by simpa using he) hb);simpa using this
def Am{cz:Array Bool}{i j:Nat}(hi:i<cz.size):(cz.setIfInBounds i ab).getD j ai=(if j=i then ab else cz.getD j ai):=by
 by_cases fI:j=i
 ·subst fI;simp[uM,hi]
 ·rw[aL fI];exact getD_set_ne ai (Ne.symm fI)
def V1 [I:Rd]{k:Nat}(yI:∀q,k<q->q<l.length->(q-1)∈gl l q∧∀j∈gl l q,j<q)(hk:∀j∈gl l k,j<k):∀(jI p:Nat) (cz:Array Bool) (a:Act) (w:ay),cz.size=l.length->k<=p->p<=l.length->l.length-p<=jI->
  (∀j,j<l.length->cz.getD j ai=decide (j<p))->wpListIn I.F 0 P l.toArray Q (l.drop p) a w->wpAnyIn I.F 0 P .any l.toArray Q jI cz a w:=by
 intro jI
 induction jI with
 |zero=>
  intro p cz a w eM fA hp hf hl h
  have rD:p=l.length:=by omega
  subst rD
  refine⟨List.eq_nil_iff_forall_not_mem.2 λi hi=>?_,?_⟩
  ·obtain⟨h1,h2,_⟩:=(xV eM).1 hi;rw[hl i h1]at h2;simp[h1]at h2
  ·rw[List.drop_length]at h;exact h
 |succ jI ih=>
  intro p cz a w eM fA hp hf hl h
  refine⟨λhr=>?_,λi hi=>?_⟩
  ·by_cases rD:p=l.length
   ·subst rD;rw[List.drop_length]at h;exact h
   ·exfalso;have TS:p<l.length:=by omega
    have:p∈Region.ready .any l.toArray cz:=(xV eM).2 ⟨TS,by rw[hl p TS];simp,λj hj=>by
     have hjp:j<p:=by
      by_cases pD:p=k
      ·subst pD;exact hk j hj
      ·exact(yI p (by omega) TS).2 j hj
     rw[hl j (by omega)];simp[hjp]⟩
    rw[hr]at this;cases this
  ·obtain⟨h1,h2,h3⟩:=(xV eM).1 hi;rw[hl i h1]at h2;have hip:¬i<p:=by simpa using h2
   have HG:i=p:=by
    by_cases bR:i=p
    ·exact bR
    ·exfalso;have h4:=h3 (i-1) (yI i (by omega) h1).1;rw[hl (i-1) (by omega)]at h4;have:i-1<p:=by simpa using h4
     omega
   subst HG;have hd:l.drop i=l[i]::l.drop (i+1):=by rw[List.drop_eq_getElem_cons h1]
   rw[hd]at h;have Ui:l.toArray[i]? =aa l[i]:=by simp[h1]
   unfold wpOpIn;rw[Ui];simp only;have DK:∀a' w',wpListIn I.F 0 P l.toArray Q (l.drop (i+1)) a' w'->wpAnyIn I.F 0 P .any l.toArray Q jI (cz.setIfInBounds i ab) a' w':=λa' w' h'=>
    ih (i+1) _ a' w' (by simp[eM]) (by omega) (by omega) (by omega) (λj hj=>by
     rw[Am (by omega),hl j hj];by_cases fI:j=i
     ·subst fI;simp
     ·rw[aL fI];have:(j<i)↔(j<i+1):=by omega
      simp[this]) h'
   simp only[wpListIn]at h;split
   ·rename_i hw;rw[aH hw]at h;exact aT.wpIn_mono DK h
   ·rename_i hw;rw[aL hw]at h;exact⟨h.1,DK _ _ h.2⟩
end
def ED(ops post:List aT):Bool:=post.isEmpty||
 ((bW (ops.length+1)).all (λi=>(gl (ops++post) i).all λj=>dz j i)&&
 (bW ops.length).all (λi=>(bW (ops.length+1)).any λj=>dz i j&&(gl (ops++post) j).contains i)&&
 (bW (ops++post).length).all (λq=>eh q ops.length||((gl (ops++post) q).contains (q-1)&&(gl (ops++post) q).all λj=>dz j q)))
def filter_lt{p q:Nat->Bool}(h:∀x,q x=ab->p x=ab){i:Nat}(hp:p i=ab)(hq:q i=ai):∀{l:List Nat},i∈l->(l.filter q).length<(l.filter p).length
 |[],hi=>by cases hi
 |x::l,hi=>by
  have hle:(l.filter q).length<=(l.filter p).length:=by
   clear hi;induction l with
   |nil=>simp
   |cons y l ih=>
    by_cases hy:q y=ab
    ·rw[lO hy,lO (h y hy)];simpa using ih
    ·rw[pT hy];by_cases gF:p y=ab
     ·rw[lO gF];simp;omega
     ·rw[pT gF];exact ih
  by_cases hx:x=i
  ·subst hx;rw[pT (by simp[hq]),lO hp];simp;omega
  ·have lD:i∈l:=by
    rcases cu.1 hi with e|hh
    ·exact(hx e.symm).elim
    ·exact hh
   have ih:=filter_lt h hp hq lD;by_cases hy:q x=ab
   ·rw[lO hy,lO (h x hy)];simpa using ih
   ·rw[pT hy];by_cases gF:p x=ab
    ·rw[lO gF];simp;omega
    ·rw[pT gF];exact ih
section
variable (hP:dS P T) (hR:cF T) (cL:∀c∈Φ,fM P T c) (hm:P.follows .mixedOrders=ab)
include hP hR cL hm
def ajE [I:Rd]{id:Nat}{ops post:List aT}{ρ:Type}{σ:S D}{k:S D->Option ρ}{r:ρ}{γ:Gh D}{w:ay}{L:List (Nat×ah)}{Qx:Exit->Act->ay->Prop}(sG:ED ops post=ab)(hs:xM ops (jh ops []) 0 ops []=ab)
  (h:je T Φ ops ops 0 σ [] (λbe lg=>match yj (jh ops []) lg with
    |true=>k be
    |false=>ak)=aa r) (hd:∀t∈dstsOf ops,I.eZ n t=ab) (hk:Kn σ γ w L)
  (hc:∀be γ' w' L',Kn be γ' w' L'->f_ γ w γ' w'->ci (dstsOf ops) σ be->k be=aa r->WL P n (ops++post).toArray Qx post L' w'):CW P n (.region id (ops++post).toArray ab) Qx L w:=by
 obtain⟨rs,kH,hT,i_,jH⟩:=trace h (pP.mk (λ_=>rfl) rfl rfl rfl)
 split at jH
 case h_2=>cases jH
 rename_i hl
 have hlen:=ajS hT
 rw[aar hT]at i_
 intro a ha
 refine wpIn_region_any hm ?_
 have fin:∀(Dn:Nat->Bool) (γ':Gh D) (w':ay) (L':List (Nat×ah)) (a':Act),Dr ops rs σ γ w Dn γ' w' L'->Fr n L' a'->(∀i,i<ops.length->Dn i=ab)->wpListIn I.F 0 P (ops++post).toArray Qx post a' w':=by
  intro Dn γ' w' L' a' uh eE gG;have hU:UD Dn σ.nx ops.length=λi=>i<kH.nx:=by
   rw[<-i_.nx];rY i;apply propext;show UD Dn σ.nx ops.length i↔i<σ.nx+128*ops.length;unfold UD;constructor
   ·rintro(h|⟨q,h1,h2,h3,h4⟩)<;>omega
   ·intro h;by_cases h0:i<σ.nx
    ·exact .inl h0
    ·exact .inr ⟨(i-σ.nx)/128,by omega,gG _ (by omega),by omega,by omega⟩
  have mB:=uh.sr;have bH:=uh.ob;rw[hU]at mB bH;rw[Xt (D':=λ_=>ab) λq hq=>gG q hq]at mB bH;have qD:=uh.cJ;have ud:=i_.nx;dsimp only at ud;refine hc kH γ' w' L' ⟨mB.eqv λt=>(i_.sl t).symm,?_,by omega⟩ uh.fr (ci.of (λt ht=>?_) i_.lk.symm (λi hi=>?_) (by omega)) jH a' eE
  ·rw[<-i_.ob];exact bH
  ·rw[<-i_.sl];show aF (acc (gA ops rs) σ.sl (λ_=>ab) ops.length) t=_;have:aF (acc (gA ops rs) σ.sl (λ_=>ab) ops.length) t=aF (acc (gA ops rs) σ.sl (λ_=>ai) ops.length) t:=E6 λq hq hm=>by obtain⟨o,ho,xc⟩:=Nk hm;exact(ht (List.mem_filterMap.2 ⟨o,oW ho,xc⟩)).elim
   rw[this];have:=I' (g:=gA ops rs) (l0:=σ.sl) (D:=λ_=>ai) (n:=0) (k:=ops.length) λ_ _=>rfl;rw[kG]at this;rw[this];rfl
  ·rw[<-i_.ob];show aF (acc (gB rs) σ.ob (λ_=>ab) ops.length) i=_;have:aF (acc (gB rs) σ.ob (λ_=>ab) ops.length) i=aF (acc (gB rs) σ.ob (λ_=>ai) ops.length) i:=E6 λq hq hm=>by
    obtain⟨e,l,hx,hw⟩:=Nj hm;obtain⟨_,as,_,_,DW⟩:=Ph hT (nZ hq) hx;unfold Ed at DW;simp only[bt]at DW;unfold cY.wr at hw;rcases bA.1 hw with hw|hw
    ·exact(vP DW.1 hw hi).elim
    ·exact(vP DW.2 hw hi).elim
   rw[this];have:=I' (g:=gB rs) (l0:=σ.ob) (D:=λ_=>ai) (n:=0) (k:=ops.length) λ_ _=>rfl;rw[kG]at this;rw[this];rfl
 have axC:∀q (hq:q<ops.length),∀e∈(ops[q]).after.toList,Region.binds .any e=ab->e.on<q:=λq hq e he hb=>by have:=(QW hs).1 q _ (nZ hq);simp only[kG]at this;exact this.2 e he hb
 obtain⟨l,pE⟩:∃l,l=ops++post:=⟨_,rfl⟩
 have MP:l.length=ops.length+post.length:=by rw[pE,List.length_append]
 have HI:∀i,i<ops.length->l[i]? =ops[i]? :=λi hi=>by rw[pE,mn hi]
 have uf:∀j∈gl l ops.length,j<ops.length:=λj hj=>by
  unfold ED at sG;rw[<-pE]at sG;simp only[sd,bt]at sG;rcases sG with h1|h1
  ·obtain⟨o,ho,_⟩:=LK hj;have:=(gK.1 ho).1;have:=List.isEmpty_iff.1 h1;subst this;simp at MP;omega
  ·have h2:=dU.1 h1.1.1 ops.length (eu.2 (by omega));exact dp (dU.1 h2 j hj)
 have TO:post≠[]->∀i,i<ops.length->∃j,j<=ops.length∧i<j∧i∈gl l j:=λbR i hi=>by
  unfold ED at sG;rw[<-pE]at sG;simp only[sd,bt]at sG;rcases sG with h1|h1
  ·exact(bR (List.isEmpty_iff.1 h1)).elim
  ·obtain⟨j,hj,h2⟩:=List.any_eq_true.1 (dU.1 h1.1.2 i (eu.2 hi));simp only[bt]at h2;have:=eu.1 hj;exact⟨j,by omega,dp h2.1,by simpa using h2.2⟩
 have D0:∀q,ops.length<q->q<l.length->(q-1)∈gl l q∧∀j∈gl l q,j<q:=λq hq AM=>by
  unfold ED at sG;rw[<-pE]at sG;simp only[sd,bt]at sG;rcases sG with h1|h1
  ·have:=List.isEmpty_iff.1 h1;subst this;simp at MP;omega
  ·have h2:=dU.1 h1.2 q (eu.2 AM);simp only[sd,bt]at h2;rcases h2 with h2|h2
   ·have:=dp h2;omega
   ·exact⟨by simpa using h2.1,λj hj=>dp (dU.1 h2.2 j hj)⟩
 rw[<-pE]at fin⊢
 have main:∀(jI:Nat) (cz:Array Bool) (a:Act) (w':ay) (γ':Gh D) (L':List (Nat×ah)),cz.size=l.length->(∀i,ops.length<=i->cz.getD i ai=ai)->((bW ops.length).filter λi=> !cz.getD i ab).length+post.length<=jI->
   Dr ops rs σ γ w (λj=>cz.getD j ai) γ' w' L'->Fr n L' a->wpAnyIn I.F 0 P .any l.toArray Qx jI cz a w':=by
  intro jI
  induction jI with
  |zero=>
   intro cz a w' γ' L' eM Hz auO hJ hf
   have gG:∀i,i<ops.length->cz.getD i ai=ab:=λi hi=>by
    cases sJ:cz.getD i ai with
    |true=>rfl
    |false=>
     have hb:i<cz.size:=by omega
     have iw:i∈(bW ops.length).filter λi=> !cz.getD i ab:=lh.2 ⟨eu.2 hi,by simp[uM,hb]at sJ⊢;exact sJ⟩
     have:=List.length_pos_of_mem iw;omega
   refine V1 D0 uf 0 ops.length cz a w' eM (bx _) (by omega) (by omega) (λj hj=>?_) ?_
   ·by_cases ma:j<ops.length
    ·rw[gG j ma];simp[ma]
    ·rw[Hz j (by omega)];simp[ma]
   ·rw[show l.drop ops.length=post by rw[pE];simp];exact fin _ _ _ _ _ hJ hf gG
  |succ jI ih=>
   intro cz a w' γ' L' eM Hz auO hJ hf
   by_cases gG:∀i,i<ops.length->cz.getD i ai=ab
   ·refine V1 D0 uf (jI+1) ops.length cz a w' eM (bx _) (by omega) (by omega) (λj hj=>?_) ?_
    ·by_cases ma:j<ops.length
     ·rw[gG j ma];simp[ma]
     ·rw[Hz j (by omega)];simp[ma]
    ·rw[show l.drop ops.length=post by rw[pE];simp];exact fin _ _ _ _ _ hJ hf gG
   have ix:∀i,i∈Region.ready .any l.toArray cz->i<ops.length:=λi hi=>by
    obtain⟨h1,h2,h3⟩:=(xV eM).1 hi;by_cases eN:i<ops.length
    ·exact eN
    exfalso;by_cases HG:i=ops.length
    ·subst HG;have bR:post≠[]:=λe=>by subst e;simp at MP;omega
     refine gG ?_;have key:∀m i,ops.length-i<=m->i<ops.length->cz.getD i ai=ab:=by
      intro m;induction m with
      |zero=>intro i h1 h2;omega
      |succ m ihm=>
       intro i k1 k2;obtain⟨j,m1,m2,m3⟩:=TO bR i k2;by_cases hj:j=ops.length
       ·subst hj;exact h3 i m3
       ·obtain⟨o,ho,e,he,hb,i_⟩:=LK m3;rw[HI j (by omega)]at ho;have:=hJ.cl j o (ihm j (by omega) (by omega)) ho e he hb;rw[i_]at this;exact this
     exactλi hi=>key _ i (bx _) hi
    ·have:=h3 (i-1) (D0 i (by omega) h1).1;rw[Hz (i-1) (by omega)]at this;cases this
   refine⟨λhr=>(gG λi=>?_).elim,λi hi=>?_⟩
   ·induction i using Nat.strongRecOn with
    |_ i ih2=>
     intro A8;cases sJ:cz.getD i ai with
     |true=>rfl
     |false=>
      exfalso;have iw:i∈Region.ready .any l.toArray cz:=(xV eM).2 ⟨by omega,sJ,λj hj=>by obtain⟨o,ho,e,he,hb,i_⟩:=LK hj;rw[HI i A8,nZ A8]at ho;cases ho;have h3:=axC i A8 e he hb;rw[<-i_];exact ih2 e.on h3 (by omega)⟩
      rw[hr]at iw;cases iw
   have lD:=ix i hi
   obtain⟨gw,A2,iy⟩:=(xV eM).1 hi
   have m_:i<cz.size:=by omega
   have sJ:cz.getD i ab=ai:=by simp[uM,m_]at A2⊢;exact A2
   obtain⟨o,HF⟩:∃o,ops[i]? =aa o:=⟨_,nZ lD⟩
   have A8:l.toArray[i]? =aa o:=by have:=HI i lD;rw[HF]at this;simpa using this
   have haf:∀e∈o.after.toList,Region.binds .any e=ab->cz.getD e.on ai=ab:=λe he hb=>iy e.on (abD ((HI i lD).trans HF) he hb)
   have Hc:i<rs.length:=by omega
   have next:∀{bg:Gh D} {w2:ay} {L2:List (Nat×ah)} {a2:Act},Dr ops rs σ γ w (ins (λj=>cz.getD j ai) i) bg w2 L2->Fr n L2 a2->wpAnyIn I.F 0 P .any l.toArray Qx jI (cz.setIfInBounds i ab) a2 w2:=by
    intro bg w2 L2 a2 uh eE;refine ih (cz.setIfInBounds i ab) a2 w2 bg L2 (by simp[eM]) (λj hj=>?_) ?_ ?_ eE
    ·rw[Am m_,aL (by omega)];exact Hz j hj
    ·have aV:=filter_lt (p:=λi=> !cz.getD i ab) (q:=λj=> !(cz.setIfInBounds i ab).getD j ab) (i:=i) (λx hx=>by
      by_cases Hd:x=i
      ·subst Hd;simp[uM,m_]at hx
      ·rw[getD_set_ne ab (Ne.symm Hd)]at hx;exact hx) (by simp only[sJ];rfl) (by simp[uM,m_]) (eu.2 lD)
     omega
    ·have e:(λj=>(cz.setIfInBounds i ab).getD j ai)=ins (λj=>cz.getD j ai) i:=by
      rY j;by_cases fI:j=i
      ·subst fI;simp[uM,m_,ins]
      ·rw[G6 fI];exact getD_set_ne ai (Ne.symm fI)
     rw[e];exact uh
   have xc:∀t,o.dst=aa t->I.eZ n t=ab:=λt ht=>hd t (List.mem_filterMap.2 ⟨o,oW HF,ht⟩)
   obtain⟨x,hx⟩:∃x,rs[i]? =aa x:=⟨_,nZ Hc⟩
   have hstep:=Dr.step (n:=n) (Qx:=Qx) hP hR cL hJ hT hs hl HF hx A2 haf
   have HZ:=Ph hT HF hx
   have acN:∀tmps:Array ah,Region.wanted o (yielded l.toArray tmps)=Region.wanted o (yielded ops.toArray tmps):=λtmps=>by
    unfold Region.wanted;cases hg:o.guard with
    |none=>rfl
    |some jb=>
     obtain⟨j,b⟩:=jb;have hj:∃og,ops[j]? =aa og:=by
      cases x with
      |run e l'=>obtain⟨h1,_⟩:=HZ;obtain⟨og,d,K,g,h2,_⟩:=h1 j b hg;exact⟨og,h2⟩
      |skip=>obtain⟨j',b',og,d,av,h1,h2,_⟩:=HZ;rw[hg]at h1;cases h1;exact⟨og,h2⟩
     obtain⟨og,hj⟩:=hj;have dj:=(gK.1 hj).1;have e1:l.toArray[j]? =aa og:=by simpa using(HI j dj).trans hj
     have e2:ops.toArray[j]? =aa og:=by simpa using hj
     simp only[yielded,e1,e2]
   unfold wpOpIn
   rw[A8]
   simp only
   cases x with
   |run e l'=>
    rw[aH (by rw[acN];exact hstep.1 a hf)]
    refine hstep.2 a _ (λx v hx=>hf.ev hx) ?_
    rintro v w2 ⟨bg,uh⟩
    exact next uh (Fr.rm hf xc v)
   |skip=>
    rw[aL (by rw[acN,hstep.1 a hf];simp)]
    exact⟨λ_ _=>trivial,next hstep.2 (Fr.rm hf xc undef)⟩
 have ii:∀j,(Array.replicate l.toArray.size ai).getD j ai=ai:=by intro j;simp[uM]
 have hD0:(λj=>(Array.replicate l.toArray.size ai).getD j ai)=λ_=>ai:=rY ii
 refine main _ _ a _ γ L (by simp) (λi _=>ii i) ?_ ?_ ha
 ·have:=List.length_filter_le (λi=> !(Array.replicate l.toArray.size ai).getD i ab) (bW ops.length);rw[List.length_range]at this;have h2:l.toArray.size=l.length:=by simp
  omega
 ·rw[hD0];have hU:UD (λ_=>ai) σ.nx ops.length=λi=>i<σ.nx:=by
   rY i;apply propext;unfold UD;constructor
   ·rintro(h|⟨q,h1,h2,h3⟩)
    ·exact h
    ·cases h2
   ·exact .inl
  have hz:∀{α:Type} {g:Nat->List (Nat×α)} {l0:List (Nat×α)},acc g l0 (λ_=>ai) ops.length=l0:=by intro α g l0;have:=I' (g:=g) (l0:=l0) (D:=λ_=>ai) (n:=0) (k:=ops.length) λ_ _=>rfl;rw[kG]at this;exact this
  have fA:jj (λi=>i<σ.nx) (λi=>i<σ.nx) γ w γ {w with drawn:=w.drawn+1}:=⟨λ_ h=>h,λ_ _=>rfl,λ_ _=>rfl,λ_ _ _=>⟨rfl,rfl⟩⟩;refine⟨?_,?_,⟨⟨rfl,rfl,rfl,bx _,λ_ _ _=>⟨rfl,rfl⟩,λb hb _=>⟨hb,rfl⟩⟩,λ_ _=>rfl⟩,λq o hq=>(by cases hq),hk.cJ⟩
  ·rw[hU,hz];exact hk.sr.df fA
  ·rw[hU,hz];exact⟨λi x hx=>by obtain⟨h1,h2,h3⟩:=hk.ob.ob i x hx;exact⟨h1,h2,h3.df fA h2 λ_ _ _=>⟨rfl,rfl⟩⟩,hk.ob.cl,hk.ob.ro⟩
end
end
end Rx
end Go.Proofs.YtmngjhagbjgmfaaGreat
namespace Go.Proofs.YtmngjhagbjgmfaaGreat
open Go Go.RowKit Dp
namespace Rx
section
variable {D:Nat->Type} [∀n,ad (D n)]
variable {P:cQ} {T:bc D} {Φ:List (aA D)} {n:Nat}
def toX:Out->Exit
 | .normal=> .normal
 | .exit id=> .exit id
 | .goto l=> .goto l
 | .ret=> .ret
def arV(l:Nat)(J:Act->ay->Prop)(Q:Exit->Act->ay->Prop):Exit->Act->ay->Prop
 | .goto l',a,w=>if l'=l then J a w else Q (.goto l') a w
 |e,a,w=>Q e a w
def Lb [I:Rd](P:cQ)(c:bM)(Qx:Exit->Act->ay->Prop):Prop:=∀l b,xL c=aa (l,b)->∃Jm:Nat->Act->ay->Prop,
 (∀m a w,b.wpIn I.F 0 P (arV l (Jm m) Qx) a w->Jm (m+1) a w)∧∀m a w,Jm m a w->Qx (.goto l) a w
def Lb.none [Rd]{c:bM}{Qx:Exit->Act->ay->Prop}(h:iW c=ab):Lb P c Qx:=by intro l b hs;unfold iW at h;rw[hs]at h;cases h
def ace{c:bM}{l:Nat}(h:Ax c=aa l):c= .label l:=by
 unfold Ax at h;split at h
 ·cases h;rfl
 ·cases h
def aqu(l:Nat):∀(c:bM),iW c=ab->gE c=ab->findLabel c l=ak:=by
 intro c;induction c with
 |seq x y ihx Tk=>
  intro h1 h2;unfold iW at h1;unfold xL at h1;unfold gE at h2;cases hl:Ax x with
  |some q=>rw[hl]at h1;cases h1
  |none=>rw[hl]at h1 h2;simp only[bt]at h2;unfold findLabel;rw[ihx h2.1.1 h2.1.2];exact Tk h1 h2.2
 |label q=>intro h1 _;cases h1
 |_=>intros;rfl
def an2 [I:Rd]:∀(c:bM) {l:Nat} {b:bM},xL c=aa (l,b)->gE c=ab->∃rest,findLabel c l=aa rest∧∀(Q:Exit->Act->ay->Prop) a w,b.wpIn I.F 0 P Q a w->rest.wpIn I.F 0 P Q a w:=by
 intro c;induction c with
 |seq x y ihx Tk=>
  intro l b h1 h2;unfold xL at h1;unfold gE at h2;cases hl:Ax x with
  |some q=>rw[hl]at h1;cases h1;obtain rfl:=ace hl;refine⟨.seq .skip y,by simp[findLabel],λQ a w h=>wpIn_seq (wpIn_skip h)⟩
  |none=>rw[hl]at h1 h2;simp only[bt]at h2;obtain⟨rest,h3,h4⟩:=Tk h1 h2.2;refine⟨rest,?_,h4⟩;unfold findLabel;rw[aqu l x h2.1.1 h2.1.2];exact h3
 |label q=>intro l b h1 _;cases h1;exact⟨.skip,by simp[findLabel],λQ a w h=>h⟩
 |_=>intro l b h1;cases h1
def tW [I:Rd](P:cQ)(rest:bM)(l:Nat)(Q:Exit->Act->ay->Prop):Nat->Act->ay->Prop
 |0=>λ_ _=>False
 |m+1=>λa w=>rest.wpIn I.F 0 P (Exit.jump l (tW P rest l Q m) Q) a w
def Me{σ ρ:Type}(step:σ->Option (σ⊕ρ))(n:Nat)(s:σ):nE step (n+1) s=(match step s with
 |some (.inl s')=>nE step n s'
 |some (.inr r)=>aa r
 |none=>ak):=rfl
def Mk{p:Nat->Prop}(h:∃m,p m):∃m,p m∧∀k,k<m->¬p k:=by
 apply gC;intro hn;have key:∀m,¬p m:=by
  intro m;induction m using Nat.strongRecOn with
  |_ m ih=>exactλhp=>hn ⟨m,hp,λk hk=>ih k hk⟩
 obtain⟨m,hm⟩:=h;exact key m hm
open Classical in
def Dq(p:Nat->Prop):Nat:=if h:∃m,p m then(Mk h).choose else 0
def arK{p:Nat->Prop}(h:∃m,p m):p (Dq p):=by unfold Dq;rw[dif_pos h];exact(Mk h).choose_spec.1
def arL{p:Nat->Prop}{m:Nat}(h:p m):Dq p<=m:=by
 have hx:∃m,p m:=⟨m,h⟩;unfold Dq;rw[dif_pos hx];rcases Nat.lt_or_ge m (Mk hx).choose with aV|sL
 ·exact((Mk hx).choose_spec.2 m aV h).elim
 ·exact sL
def Rd.wide{I:Rd}(h:I.ro=ak):I.F=Fence.wide:=by unfold Rd.F;rw[h];rfl
def aoF [I:Rd](hI:I.ro=ak){c rest:bM}{l:Nat}{Q:Exit->Act->ay->Prop}{a:Act}{w:ay}(hf:findLabel c l=aa rest)(first:c.wpIn I.F 0 P (Exit.jump l (λa w=>∃m,tW P rest l Q m a w) Q) a w):(bM.scope c).wpIn I.F 0 P Q a w:=by
 rw[Rd.wide hI]at first⊢
 rw[wpIn_wide]at first⊢
 refine wp_scope_jumps l (λa w=>∃m,tW P rest l Q m a w) (λa w=>Dq λm=>tW P rest l Q m a w) hf first ?_
 intro a w h;have h1:=arK (p:=λm=>tW P rest l Q m a w) h;generalize Dq (λm=>tW P rest l Q m a w)=m at*;cases m with
 |zero=>exact h1.elim
 |succ m=>
  have h1:rest.wpIn I.F 0 P (Exit.jump l (tW P rest l Q m) Q) a w:=h1;rw[Rd.wide hI,wpIn_wide]at h1;refine bM.wp_mono (λe a' w' he=>?_) h1;cases e with
  |goto l'=>exact⟨he.1,⟨m,he.2⟩,Nat.lt_succ_of_le (arL (p:=λm=>tW P rest l Q m a' w') he.2)⟩
  |_=>exact he
def aoE [I:Rd](hI:I.ro=ak){c:bM}{Q:Exit->Act->ay->Prop}{a:Act}{w:ay}(h:c.wpIn I.F 0 P (Exit.noGoto Q) a w):(bM.scope c).wpIn I.F 0 P Q a w:=by rw[Rd.wide hI]at h⊢;rw[wpIn_wide]at h⊢;exact wp_scope_straight h
def SL{σ ρ:Type}{step:σ->Option (σ⊕ρ)}:∀{n:Nat} {s:σ} {r:ρ},nE step n s=aa r->Ak step s=aa r
 |0,s,r,h=>by cases h
 |n+1,s,r,h=>by
  have h:(match step s with
   |some (.inl s')=>nE step n s'
   |some (.inr r)=>aa r
   |none=>ak)=aa r:=h
  rw[arj];cases hs:step s with
  |none=>rw[hs]at h;cases h
  |some x=>
   rw[hs]at h;cases x with
   |inl s'=>exact SL h
   |inr r'=>exact h
def abO{σ ρ:Type}{step:σ->Option (σ⊕ρ)}{s:σ}{r:ρ}(h:aJ step s=aa r):Ak step s=aa r:=SL h
section
variable (hP:dS P T) (hR:cF T) (cL:∀c∈Φ,fM P T c) (hm:P.follows .mixedOrders=ab)
include hP hR cL hm
def ao3 [I:Rd]{id:Nat}{ops:Array aT}{draw:Bool}{sg:Sg}{ρ:Type}{σ:S D}{k:S D->Option ρ}{r:ρ}{γ:Gh D}{w:ay}{L:List (Nat×ah)}{Qx:Exit->Act->ay->Prop}(h:VN T Φ ops.toList draw sg σ k=aa r)(hd:∀t∈dstsOf ops.toList,I.eZ n t=ab)(hk:Kn σ γ w L)
  (hc:∀be γ' w' L',Kn be γ' w' L'->f_ γ w γ' w'->ci (dstsOf ops.toList) σ be->k be=aa r->NK n (Qx .normal) L' w'):CW P n (.region id ops draw) Qx L w:=by
 unfold VN at h
 have e:ops=ops.toList.toArray:=by simp
 cases draw with
 |true=>
  dsimp only at h
  split at h
  case h_2=>cases h
  rename_i hs
  rw[e]
  have:=ajE (id:=id) (ops:=ops.toList) (post:=[]) (Qx:=Qx) hP hR cL hm rfl hs h hd hk (λbe γ' w' L' k1 k2 k3 k4=>WL.nil (hc be γ' w' L' k1 k2 k3 k4))
  rwa[List.append_nil]at this
 |false=>
  dsimp only at h
  rw[e]
  exact CW.region (axU hP hR cL sg h hd hk hc)
def ari [Rd]{c:bM}{wr:List Nat}{j:J}{pr:Bool}{E:List (Out×J)}{ρ:Type}{body:∀{jl:Type},S D->(Out->S D->Option jl)->Option jl}{σ:S D}{k:Out->S D->Option ρ}{r:ρ}{γ:Gh D}{w:ay}{L:List (Nat×ah)}{Qx:Exit->Act->ay->Prop}
  (h:SM T wr j pr E body σ k=aa r) (hk:Kn σ γ w L)
  (M2:∀{jl:Type} {be:S D} {k':Out->S D->Option jl} {r':jl} {γ':Gh D} {w':ay} {L':List (Nat×ah)} {Q':Exit->Act->ay->Prop},body be k'=aa r'->Kn be γ' w' L'->(∀o aN aQ w1 L1,Kn aN aQ w1 L1->f_ γ' w' aQ w1->ci wr be aN->k' o aN=aa r'->NK n (Q' (toX o)) L1 w1)->CW P n c Q' L' w')
  (hc:∀o aN aQ w1 L1,Kn aN aQ w1 L1->f_ γ w aQ w1->ci wr σ aN->k o aN=aa r->NK n (Qx (toX o)) L1 w1):CW P n (.loop c) Qx L w:=by
 unfold SM at h
 obtain⟨h0,pz,h⟩:=sU h
 obtain⟨x,hx,hf⟩:=pM h
 generalize DN:j.mv++rn E=mv at*
 have hs:∀i∈σ.lk,i∈(kept σ mv).map bT++σ.lk:=λi hi=>bA.2 (.inr hi)
 have head:∀{h':HH D j.cM} {aN:S D} {aQ:Gh D} {w1:ay} {L1:List (Nat×ah)},Kn aN aQ w1 L1->ci wr {σ with lk:=(kept σ mv).map bT++σ.lk} aN->zl T j aN h'->f_ γ w aQ w1->∀{cj:S D},lB T j wr mv σ h'=aa cj->
   ∃γ',Kn cj γ' w1 L1∧f_ γ w γ' w1∧ci wr {σ with lk:=(kept σ mv).map bT++σ.lk} {cj with lk:=(kept σ mv).map bT++σ.lk}:=by
  intro h' aN aQ w1 L1 eI he hx eE cj hi
  obtain⟨bg,k1,k2,k3,_⟩:=Au hR rfl hk eI he hx hi
  exact⟨bg,k1,eE.trans k2,k3⟩
 refine CW.loop _ (λh' L' w'=>∀cj,lB T j wr mv σ h'=aa cj->∃γ',Kn cj γ' w' L'∧f_ γ w γ' w'∧ci wr {σ with lk:=(kept σ mv).map bT++σ.lk} {cj with lk:=(kept σ mv).map bT++σ.lk}) (abO hx) ?_ ?_
 ·intro cj hi;exact head (hk.lk _) (ci.refl _ _) pz (f_.refl _ _) hi
 ·intro K s L' w' hinv y hy DG yx;dsimp only at hy;split at hy
  case h_2=>cases hy
  rename_i cj mX;obtain⟨γ',cV,Uq,na⟩:=hinv cj mX;refine M2 hy (cV.lk _) λo aN aQ w1 L1 eI Uo HP ho=>?_;have Uv:=na.trans HP;have out:∀{z:Option (v7 D pr ρ E)} {o:Out},o≠.normal->z=toE T pr E o aN (k o {aN with lk:=σ.lk})->(match z with|some x=>aa (Sum.inr x)|none=>ak)=aa y->NK n (Exit.then K Qx (toX o)) L1 w1:=by
   intro z o AQ hz Mt;subst hz;split at Mt
   case h_2=>cases Mt
   rename_i x' dZ;cases Mt;have:=DG x' rfl;subst this;have fin:∀o aN aQ w1 L1,o≠.normal->Kn aN aQ w1 L1->f_ γ w aQ w1->ci wr σ aN->k o aN=aa r->NK n (Exit.then K Qx (toX o)) L1 w1:=by
    intro o aN aQ w1 L1 AQ k1 k2 k3 k4;have:=hc o aN aQ w1 L1 k1 k2 k3 k4;cases o with
    |normal=>exact(AQ rfl).elim
    |exit id=>exact this
    |goto l=>exact this
    |ret=>exact this
   rcases FT dZ hf with⟨j',y,bI,h1,h2,h3⟩|h1
   ·obtain⟨bg,k1,k2,k3,k4⟩:=Au hR rfl hk eI Uv h1 h2;have e3:=k3.JP (σ:=σ) hs;have e:({bI with lk:=σ.lk}:S D)=bI:=by rw[<-k4]
    rw[show({({bI with lk:=(kept σ mv).map bT++σ.lk}:S D)with lk:=σ.lk}:S D)={bI with lk:=σ.lk}from rfl,e]at e3;exact fin o bI bg w1 L1 AQ k1 ((Uq.trans Uo).trans k2) e3 h3
   ·exact fin o _ aQ w1 L1 AQ (eI.lk _) (Uq.trans Uo) (Uv.JP hs) h1
  cases o with
  |normal=>obtain⟨h',dZ,e⟩:=sU ho;cases e;exact yx h' L1 w1 rfl λaCQ ep=>head eI Uv dZ (Uq.trans Uo) ep
  |exit id=>exact out (by simp) rfl ho
  |goto l=>exact out (by simp) rfl ho
  |ret=>exact out (by simp) rfl ho
def sZ [I:Rd]:∀(c:bM) (an:An) {ρ:Type} {σ:S D} {k:Out->S D->Option ρ} {r:ρ} {γ:Gh D} {w:ay} {L:List (Nat×ah)} {Qx:Exit->Act->ay->Prop},gE c=ab->(I.ro=ak∨kS c=ab)->Lb P c Qx->fS T Φ c an σ k=aa r->(∀t∈writes c,I.eZ n t=ab)->Kn σ γ w L->
  (∀o be γ' w' L',Kn be γ' w' L'->f_ γ w γ' w'->ci (writes c) σ be->k o be=aa r->NK n (Qx (toX o)) L' w')->CW P n c Qx L w:=by
 intro c
 induction c with
 |skip=>
  intro an ρ σ k r γ w L Qx hN hI hL h hd hk hc
  simp only[fS]at h
  exact CW.skip (hc .normal σ γ w L hk (f_.refl _ _) (ci.refl _ _) h)
 |region id ops draw=>
  intro an ρ σ k r γ w L Qx hN hI hL h hd hk hc
  simp only[fS]at h
  refine zC hR h hk (X:=λo L' w'=>NK n (Qx (toX o)) L' w') ?_ hc
  intro jl be k' r' hb cV hx
  exact ao3 hP hR cL hm hb hd cV λaN aQ w1 L1 m1 m2 m3 m4=>hx .normal aN aQ w1 L1 m1 m2 m3 m4
 |seq a b tX G9=>
  intro an ρ σ k r γ w L Qx hN hI hL h hd hk hc
  have rJ:I.ro=ak∨kS a=ab:=hI.imp (λh=>h) λh=>by simp only[kS,bt]at h;exact h.1
  have H4:I.ro=ak∨kS b=ab:=hI.imp (λh=>h) λh=>by simp only[kS,bt]at h;exact h.2
  simp only[fS]at h
  unfold gE at hN
  have uj:∀t∈writes a,t∈writes (.seq a b):=λt ht=>by simp only[writes];exact bA.2 (.inl ht)
  have xd:∀t∈writes b,t∈writes (.seq a b):=λt ht=>by simp only[writes];exact bA.2 (.inr ht)
  cases hl:Ax a with
  |some l=>
   exfalso
   obtain rfl:=ace hl
   refine zC hR h hk (X:=λ_ _ _=>True) (λhb _ _=>?_) (λ_ _ _ _ _ _ _ _ _=>trivial)
   obtain⟨fe,_,hb⟩:=pJ hb
   simp[fS]at hb
  |none=>
  rw[hl]at hN
  simp only[bt]at hN
  have hLb:Lb P b Qx:=λl b' hs=>hL l b' (by unfold xL;rw[hl];exact hs)
  refine zC hR h hk (X:=λo L' w'=>NK n (Qx (toX o)) L' w') ?_ hc
  intro jl be k' r' hb cV hx
  have aDm:∀t∈writes a,t∈writes (.seq a b):=λt ht=>by simp only[writes];exact bA.2 (.inl ht)
  refine CW.seq λK hK=>?_
  obtain⟨fe,ii,hb⟩:=pJ hb
  obtain⟨ff,z1,z2,z3⟩:=pI ii cV
  refine tX _ hN.1.2 rJ (Lb.none hN.1.1) hb (λt ht=>hd t (uj t ht)) z1 λo aN aQ w1 L1 m1 m2 m3 m4=>?_
  have m3:=(z3.qF).trans (m3.mono uj)
  have m2:=z2.trans m2
  cases o with
  |normal=>
   refine hK _ _ ?_
   obtain⟨q_,hf5,m4⟩:=pJ m4
   obtain⟨jm,y1,y2,y3⟩:=pI hf5 m1
   refine G9 _ hN.2 H4 hLb m4 (λt ht=>hd t (xd t ht)) y1 λo bI bg w2 L2 n1 n2 n3 n4=>?_
   exact hx o bI bg w2 L2 n1 (m2.trans (y2.trans n2)) (m3.trans (y3.qF.trans (n3.mono xd))) n4
  |exit id=>exact hx (.exit id) aN aQ w1 L1 m1 m2 m3 m4
  |goto l=>exact hx (.goto l) aN aQ w1 L1 m1 m2 m3 m4
  |ret=>exact hx .ret aN aQ w1 L1 m1 m2 m3 m4
 |cond x a b tX G9=>
  intro an ρ σ k r γ w L Qx hN hI hL h hd hk hc
  have rJ:I.ro=ak∨kS a=ab:=hI.imp (λh=>h) λh=>by simp only[kS,bt]at h;exact h.1
  have H4:I.ro=ak∨kS b=ab:=hI.imp (λh=>h) λh=>by simp only[kS,bt]at h;exact h.2
  simp only[fS]at h
  refine zC hR h hk (X:=λo L' w'=>NK n (Qx (toX o)) L' w') ?_ hc
  intro jl be k' r' hb cV hx
  have uj:∀t∈writes a,t∈writes (.cond x a b):=λt ht=>by simp only[writes];exact bA.2 (.inl ht)
  have xd:∀t∈writes b,t∈writes (.cond x a b):=λt ht=>by simp only[writes];exact bA.2 (.inr ht)
  unfold gE at hN
  simp only[bt]at hN
  split at hb
  case h_2=>cases hb
  rename_i d K g b7
  obtain⟨v,h1,h2⟩:=cA cV.sr b7
  have h2:v= .bool d:=h2.1
  subst h2
  intro a' jY
  refine wpIn_cond_split (jY.ev h1) (λvH=>?_) (λhdf=>?_)
  ·subst vH;obtain⟨fe,ii,hb⟩:=pJ hb;obtain⟨ff,z1,z2,z3⟩:=pI ii cV;refine tX _ hN.1.2 rJ (Lb.none hN.1.1.1) hb (λt ht=>hd t (uj t ht)) z1 (λo aN aQ w1 L1 m1 m2 m3 m4=>hx o aN aQ w1 L1 m1 (z2.trans m2) (z3.qF.trans (m3.mono uj)) m4) a' jY
  ·subst hdf;obtain⟨fe,ii,hb⟩:=pJ hb;obtain⟨ff,z1,z2,z3⟩:=pI ii cV;refine G9 _ hN.2 H4 (Lb.none hN.1.1.2) hb (λt ht=>hd t (xd t ht)) z1 (λo aN aQ w1 L1 m1 m2 m3 m4=>hx o aN aQ w1 L1 m1 (z2.trans m2) (z3.qF.trans (m3.mono xd)) m4) a' jY
 |block id a tX=>
  intro an ρ σ k r γ w L Qx hN hI hL h hd hk hc
  have rJ:I.ro=ak∨kS a=ab:=hI.imp (λh=>h) λh=>by simp only[kS]at h;exact h
  simp only[fS]at h
  refine zC hR h hk (X:=λo L' w'=>NK n (Qx (toX o)) L' w') ?_ hc
  intro jl be k' r' hb cV hx
  refine CW.block ?_
  unfold gE at hN
  simp only[bt]at hN
  obtain⟨fe,ii,hb⟩:=pJ hb
  obtain⟨ff,z1,z2,z3⟩:=pI ii cV
  refine tX _ hN.2 rJ (Lb.none hN.1) hb hd z1 λo aN aQ w1 L1 m1 m2 m3 m4=>?_
  have m2:=z2.trans m2
  have m3:=z3.qF.trans m3
  cases o with
  |normal=>exact hx .normal aN aQ w1 L1 m1 m2 m3 m4
  |exit Ay=>
   dsimp only at m4
   intro a' jY
   show(if Ay=id then Qx .normal a' w1 else Qx (.exit Ay) a' w1)
   cases hb:aU Ay id with
   |true=>
    rw[hb]at m4
    rw[aH (bB hb)]
    exact hx .normal aN aQ w1 L1 m1 m2 m3 m4 a' jY
   |false=>
    rw[hb]at m4
    have bR:¬Ay=id:=λe=>by subst e;simp at hb
    rw[aL bR]
    exact hx (.exit Ay) aN aQ w1 L1 m1 m2 m3 m4 a' jY
  |goto l=>exact hx (.goto l) aN aQ w1 L1 m1 m2 m3 m4
  |ret=>exact hx .ret aN aQ w1 L1 m1 m2 m3 m4
 |loop a tX=>
  intro an ρ σ k r γ w L Qx hN hI hL h hd hk hc
  have rJ:I.ro=ak∨kS a=ab:=hI.imp (λh=>h) λh=>by simp only[kS]at h;exact h
  cases an with
  |loop j pr E x=>
   simp only[fS]at h
   unfold gE at hN
   simp only[bt]at hN
   refine ari hP hR cL hm h hk ?_ hc
   intro jl be k' r' γ' w' L' Q' hb cV hx
   obtain⟨fe,ii,hb⟩:=pJ hb
   obtain⟨ff,z1,z2,z3⟩:=pI ii cV
   exact tX x.un hN.2 rJ (Lb.none hN.1) hb hd z1 λo aN aQ w1 L1 m1 m2 m3 m4=>hx o aN aQ w1 L1 m1 (z2.trans m2) (z3.qF.trans m3) m4
  |_=>simp[fS]at h
 |exit id=>
  intro an ρ σ k r γ w L Qx hN hI hL h hd hk hc
  simp only[fS]at h
  exact CW.exit (hc (.exit id) σ γ w L hk (f_.refl _ _) (ci.refl _ _) h)
 |ret=>
  intro an ρ σ k r γ w L Qx hN hI hL h hd hk hc
  simp only[fS]at h
  have:=hc .ret σ γ w L hk (f_.refl _ _) (ci.refl _ _) h
  exactλa ha=>wpIn_ret (this a ha)
 |rangeFunc=>intro an ρ σ k r γ w L Qx hN hI hL h;simp[fS]at h
 |scope a tX=>
  intro an ρ σ k r γ w L Qx hN hI hL h hd hk hc
  have D5:I.ro=ak:=hI.resolve_right λh=>by simp[kS]at h
  have rJ:I.ro=ak∨kS a=ab:= .inl D5
  simp only[fS]at h
  unfold gE at hN
  refine zC hR h hk (X:=λo L' w'=>NK n (Qx (toX o)) L' w') ?_ hc
  intro jl be k' r' hb cV hx
  obtain⟨fe,ii,hb⟩:=pJ hb
  obtain⟨ff,z1,z2,z3⟩:=pI ii cV
  cases hs:xL a with
  |none=>
   intro a' jY
   refine aoE D5 (tX _ hN rJ (Lb.none (by unfold iW;rw[hs];rfl)) hb hd z1 (λo aN aQ w1 L1 m1 m2 m3 m4=>?_) a' jY)
   have m2:=z2.trans m2
   have m3:=z3.qF.trans m3
   cases o with
   |normal=>exact hx .normal aN aQ w1 L1 m1 m2 m3 m4
   |exit id=>exact hx (.exit id) aN aQ w1 L1 m1 m2 m3 m4
   |goto l=>cases m4
   |ret=>exact hx .ret aN aQ w1 L1 m1 m2 m3 m4
  |some q=>
   obtain⟨l,b⟩:=q
   obtain⟨rest,hf,AJ⟩:=an2 (P:=P) a hs hN
   intro a' jY
   refine aoF D5 hf (tX _ hN rJ (λl' b' wX=>?_) hb hd z1 (λo aN aQ w1 L1 m1 m2 m3 m4=>?_) a' jY)
   ·rw[hs]at wX;cases wX;refine⟨tW P rest l Qx,λm a w h=>AJ _ _ _ (wpIn_mono h (λe a' w' he=>?_)),λm a w h=>⟨rfl,m,h⟩⟩;cases e with
    |goto q=>
     have he:(if q=l then tW P rest l Qx m a' w' else(q=l∧∃m,tW P rest l Qx m a' w')):=he;split at he
     ·rename_i hq;exact⟨hq,he⟩
     ·rename_i hq;exact(hq he.1).elim
    |_=>exact he
   ·have m2:=z2.trans m2;have m3:=z3.qF.trans m3;cases o with
    |normal=>exact hx .normal aN aQ w1 L1 m1 m2 m3 m4
    |exit id=>exact hx (.exit id) aN aQ w1 L1 m1 m2 m3 m4
    |goto l=>cases m4
    |ret=>exact hx .ret aN aQ w1 L1 m1 m2 m3 m4
 |label=>intro an ρ σ k r γ w L Qx hN hI hL h;simp[fS]at h
 |goto l=>
  intro an ρ σ k r γ w L Qx hN hI hL h hd hk hc
  simp only[fS]at h
  have:=hc (.goto l) σ γ w L hk (f_.refl _ _) (ci.refl _ _) h
  exactλa ha=>wpIn_goto (this a ha)
 |refuse=>intro an ρ σ k r γ w L Qx hN hI hL h;simp[fS]at h
end
def aoT{t:TypeId}{a:Bool}{z:List ah}{pa:Addr}{cs:List ah}{w:ay}(hT:bq P t a z)(hz:a=ai->z.length=1)(hc:kb w pa cs)(hl:cs.length=z.length):(loadVar t pa).run P w= .ok (pack a cs) w:=by
 simp only[loadVar,Sem.run_bind,hT.isAgg,Result.andThen_ok];cases a with
 |true=>have:=run_loadCells_list (P:=P) w pa cs hc;rw[hl]at this;simp[hT.sizeOf,this,pack]
 |false=>
  rw[hz rfl]at hl;match cs,hl,hc with
  |[u],_,hc=>
   have:=hc 0 u rfl;have hu:w.cell? pa=aa u:=by simpa[Addr.add]using this
   simp[pack,hu]
def RV(hP:dS P T){σ:S D}{γ:Gh D}{w:ay}{L:List (Nat×ah)}(hk:Kn σ γ w L):∀{rs:List li} {l:List Nat} {fm:List (AV D)},Q.R σ.ob (C5 T σ.sl rs) l fm->∃vs,zg P L w rs vs∧np (λi=>i<σ.nx) γ w fm vs
 |[],l,fm,h=>by obtain⟨_,rfl⟩:=h;exact⟨[],trivial,trivial⟩
 | .tmp t::rs,l,fm,h=>by
   simp only[C5]at h;split at h
   case h_2=>cases h
   rename_i a ha;obtain⟨l1,l2,bs,_,h1,h2⟩:=Q.fW h;obtain⟨_,rfl⟩:=h2;obtain⟨v,k1,k2⟩:=hk.sr t a ha;obtain⟨vs,k3,k4⟩:=RV hP hk h1;exact⟨v::vs,⟨k1,k3⟩,k2,k4⟩
 | .cell t ty::rs,l,fm,h=>by
   simp only[C5]at h;split at h
   case h_2=>cases h
   rename_i i off ee ha ht;obtain⟨ao,l',ho,rfl,h⟩:=h;cases ao with
   |sl=>cases h
   |cZ=>cases h
   |iu=>cases h
   |fz=>cases h
   |mp=>cases h
   |box cs=>
    dsimp only at h;split at h
    case h_2=>cases h
    rename_i a MZ;obtain⟨l1,l2,bs,_,h1,h2⟩:=Q.fW h;obtain⟨_,rfl⟩:=h2;obtain⟨v,k1,_,b,hg,rfl⟩:=hk.sr t _ ha;obtain⟨_,_,b',us,t',m1,m2,m3,m4,m5⟩:=hk.ob.ob i _ ho;rw[hg]at m1;obtain⟨rfl,_⟩:=Lt m1;obtain⟨n1,n2⟩:=NU m4 MZ;obtain⟨vs,k3,k4⟩:=RV hP hk h1;have hT:=(hP.ty ty ee ht).1;have fy:=aoT (w:=w) hT (PY T ee) (V3 m3 off (ee.n T)) (by rw[FE];simp;omega);exact⟨_::vs,⟨⟨_,k1,fy⟩,k3⟩,n2,k4⟩
def O8{U:Nat->Prop}{γ:Gh D}{w:ay}:∀{as:List (AC D)} {vs:List ah} {k:Nat},ji U γ w as vs->SR U γ w (E0 k as) (tp k vs)
 |[],[],k,_=>λt a h=>by simp[E0,aF]at h
 |a::as,v::vs,k,h=>SR.cons (O8 h.2) h.1
 |[],_::_,k,h=>h.elim
 |_::_,[],k,h=>h.elim
def pf(m:M D)(x:Nat):Nat:=match aF (swap m.ids) x with
 |some p=>p
 |none=>if bN m.ku x then 1 else if x<4 then x else 2
def aaA(hP:dS P T)(hR:cF T){σ:S D}{γ:Gh D}{w:ay}{L:List (Nat×ah)}{c:aA D}{rs:List li}{r:HH D c.outs}(hk:Kn σ γ w L)(UJ:∀q∈c.b8,1000<=q.1)(hs:∀q∈c.ob,q.1<2000)(h:u6.fin T c rs σ=aa r):
  ∃vs,zg P L w rs vs∧∃γ' u5 kl,g9 T (dH T c.outs r) aa id 3000 c.jU=aa u5∧jF T (dH T c.outs r) aa id 3000 c.b8=aa kl∧vX (λ_=>True) γ' w u5 (xT vs)∧(∀p x,dw kl p=aa x->OR (λ_=>True) γ' w p x)∧
   (∀p,(p,p)∈stay c->γ'.g p=γ.g p)∧Frame0 γ w γ' w:=by
 unfold u6.fin at h
 obtain⟨l,fm,h1,h2⟩:=Q.H7 h
 obtain⟨l',x,h3,h4⟩:=Q.H7 h2
 obtain⟨hh,m⟩:=x
 dsimp only at h4
 split at h4
 case h_2=>cases h4
 rename_i u5 kl kU nI
 have h4:=jP h4
 subst h4
 obtain⟨vs,k1,k2⟩:=RV hP hk h1
 obtain⟨⟨hex,DR⟩,vF⟩:=Nq hR hk.ob h3 k2
 dsimp only at hex DR vF
 have ue:∀x,(∀p,(p,x)∉m.ids)->aF (swap m.ids) x=ak:=λx hn=>by
  cases hl:aF (swap m.ids) x with
  |none=>rfl
  |some p=>exact(hn p (wA.1 (dO hl))).elim
 have yv:∀x,x<4->pf m x=x:=λx hx=>by
  unfold pf;rw[ue x λp hp=>by have:=hex.DA p x hp;omega];have h1:bN m.ku x=ai:=by
   cases hm:bN m.ku x with
   |true=>have:=(hex.ku x (ew.1 hm)).1;omega
   |false=>rfl
  simp only[h1,aE,aD];rw[aH hx]
 have TM:∀x,x∈m.ku->pf m x=1:=λx hx=>by unfold pf;rw[ue x (hex.ku x hx).2];simp only[ew.2 hx,aI]
 have au3:∀p i,(p,i)∈m.ids->pf m i=p:=λp i hp=>by unfold pf;rw[Mf hex.ids hp]
 have Bg:Fin T (λi=>i<σ.nx) (λ_=>True) γ ⟨λb=>pf m (γ.o b),qE γ m,gh γ.v 3000 (dH T c.outs hh)⟩ w m (dH T c.outs hh) 3000:=by
  refine⟨hex.dv,λp i hp=>⟨trivial,H8 hex hp⟩,λi x hx=>?_,λ_ p _ Tv _=>?_,λK Kp eD hK w9 b hb=>?_,λq K Kp hq eD hK w9 b hb=>?_,λi d hd=> .inr ⟨trivial,GS hd⟩⟩
  ·have:=(hex.new _ hx).1;simp only at this;show ¬i<σ.nx;omega
  ·rw[hex.Y0]at Tv;omega
  ·unfold M.may at eD;rw[hex.BE]at eD;simp only[aE,aD,FX,dU]at eD;have hb:γ.o b∈K:=hb;show pf m (γ.o b)∈Kp;rw[yv _ (by have:=hK _ hb;omega)];exact ew.1 (eD _ hb)
  ·unfold M.may at eD;rw[hex.BE]at eD;simp only[aE,aD,FX,dU]at eD;have hb:γ.o b∈q::K:=hb;show pf m (γ.o b)∈Kp;rcases cu.1 hb with hb|hb
   ·rw[hb,TM q hq];exact ew.1 (eD 1 (by simp))
   ·rw[yv _ (by have:=hK _ hb;omega)];exact ew.1 (eD _ (by simp[hb]))
 have Bf:Fp γ ⟨λb=>pf m (γ.o b),qE γ m,gh γ.v 3000 (dH T c.outs hh)⟩ m:=⟨λp i hp b hb=>by show pf m (γ.o b)=p;rw[hb];exact au3 p i hp⟩
 obtain⟨g1,g2⟩:=vF Bg Bf
 have rA:=g1 u5 kU
 refine⟨vs,k1,_,u5,kl,kU,nI,?_,λp x hx=>(g2 kl nI p x hx).2.2,λp hp=>?_,⟨rfl,rfl,rfl,bx _,λb hb hc=>⟨yv _ (by omega),rfl⟩,λb hb hc=>⟨hb,?_⟩⟩⟩
 ·unfold vX;match u5,vs,rA with
  |[],[],_=>exact⟨[],rfl,trivial⟩
  |[a],[v],rA=>exact rA.1
  |a::a'::as,v::v'::vs,rA=>exact⟨v::v'::vs,rfl,rA⟩
  |[],_::_,rA=>exact rA.elim
  |_::_,[],rA=>exact rA.elim
  |[a],v::v'::vs,rA=>exact rA.2.elim
  |a::a'::as,[v],rA=>exact rA.2.elim
 ·have iw:=hex.Tp _ hp;refine(H8 hex iw).2 λx hx=>?_;have h5:=(hex.new _ hx).1;simp only at h5;have hpb:p<2000:=by unfold stay at hp;obtain⟨q,hq,e⟩:=dE.1 hp;cases e;obtain⟨q',uc⟩:=sy (lh.1 hq).2;exact hs (q.1,q') uc
  have:=hk.cJ;omega
 ·show γ.o b=pf m (γ.o b);have hc:pf m (γ.o b)=0∨pf m (γ.o b)=3:=hc;have vA:∀p i,(p,i)∈m.ids->1000<=p:=λp i hp=>by obtain⟨q,hq⟩:=sy (hex.key p i hp);exact UJ (p,q) hq
  unfold pf at hc⊢;cases hl:aF (swap m.ids) (γ.o b)with
  |some p=>rw[hl]at hc;have:=vA p _ (wA.1 (dO hl));dsimp only at hc;omega
  |none=>
   rw[hl]at hc;dsimp only at hc⊢;split at hc
   ·omega
   ·split at hc
    ·rename_i h5 h6;simp only[h5,h6,aI,aD];simp
    ·omega
def ji.len{U:Nat->Prop}{γ:Gh D}{w:ay}:∀{as:List (AC D)} {vs:List ah},ji U γ w as vs->vs.length=as.length
 |[],[],_=>rfl
 |_::as,_::vs,h=>by simp[ji.len h.2]
 |[],_::_,h=>h.elim
 |_::_,[],h=>h.elim
def aew(hP:dS P T)(hR:cF T){c:aA D}{fn:Func}{code:bM}{rs:List li}
  (jW:∀(args:Array ah) (w:ay),(callFunc c.f args).run P w= .ok (.enter c.f args) w)
  (hf:P.funcs[c.f]? =aa fn) (hb:fn.body=aa code) (kU:fn.results=rs.toArray)
  (bV:((writes code).all (λt=>dz t fn.ntmps)&&eh c.args.length fn.ntmps&&sD c.jU c.b8&&mw (c.b8.map bT)&&c.b8.all (λp=>eh 1000 p.1)&&eh c.b8.length 40)=ab)
  (asS:∀h r,c.fn h=aa r->∃σ,yO T c h=aa σ∧∀{γ:Gh D} {w:ay} {L:List (Nat×ah)} {Qx:Exit->Act->ay->Prop},Kn σ γ w L->
    (∀o be γ' w' L',Kn be γ' w' L'->f_ γ w γ' w'->u6 T c rs o be=aa r->NK fn.ntmps (Qx (toX o)) L' w')->CW P fn.ntmps code Qx L w):fM P T c:=by
 simp only[bt]at bV
 obtain⟨⟨⟨⟨⟨hw,hl⟩,jG⟩,A5⟩,qD⟩,yF⟩:=bV
 refine⟨jW,jG,A5,qD,yF,λh r hr as eQ has nI γ w vs hv bH=>?_⟩
 obtain⟨σ,lC,hwk⟩:=asS h r hr
 unfold yO at lC
 dsimp only at lC
 split at lC
 case isFalse=>cases lC
 rename_i hc
 rw[has,nI]at lC
 have lC:=jP lC
 subst lC
 simp only[bt,dU]at hc qD hw
 have mB:=O8 (k:=0) hv
 have hlen:=hv.len
 have A3:=Dz has
 refine enter hf hb rfl (by rw[hlen,A3];exact hl) ?_
 refine hwk (γ:=γ) ⟨mB,bH,bx _⟩ λo be γ' w' L' cV eE ho=>?_
 have fin:∀{be},Kn be γ' w' L'->u6.fin T c rs be=aa r->∃vs,zg P L' w' rs vs∧mg (λv w'=>∃U' γ' rs kl,g9 T (dH T c.outs r) aa id 3000 c.jU=aa rs∧jF T (dH T c.outs r) aa id 3000 c.b8=aa kl∧
   vX U' γ' w' rs v∧(∀p x,dw kl p=aa x->OR U' γ' w' p x)∧(∀p,(p,p)∈stay c->γ'.g p=γ.g p)∧Frame0 γ w γ' w') (.returned (xT vs)) w':=by
  intro be cV ho
  obtain⟨vs,h1,bg,u5,kl,h2,h3,h4,h5,h6,h7⟩:=aaA hP hR cV (λq hq=>dp (qD q hq)) (λq hq=>by have:=dp (hc.2 q hq).2;omega) ho
  refine⟨vs,h1,_,rfl,_,bg,u5,kl,h2,h3,h4,h5,λp hp=>?_,eE.toFrame0.trans h7⟩
  rw[h6 p hp]
  refine eE.gk p ?_
  unfold stay at hp
  obtain⟨q,hq,e⟩:=dE.1 hp
  cases e
  obtain⟨q',uc⟩:=sy (lh.1 hq).2
  have:=dp (hc.2 _ uc).2
  simp only at this
  omega
 cases o with
 |normal=>
  obtain⟨vs,h1,h2⟩:=fin cV ho
  exactλa ha=>bodyPost_end (zN (λ_ _ hx=>ha.ev hx) kU h1) ha.defers h2
 |ret=>
  obtain⟨vs,h1,h2⟩:=fin cV ho
  exactλa ha=>bodyPost_ret (zN (λ_ _ hx=>ha.ev hx) kU h1) ha.defers h2
 |exit id=>cases ho
 |goto l=>cases ho
def aeu(hP:dS P T)(hR:cF T)(cL:∀c∈Φ,fM P T c)(hm:P.follows .mixedOrders=ab){c:aA D}{fn:Func}{code:bM}{rs:List li}{an:An}
  (jW:∀(args:Array ah) (w:ay),(callFunc c.f args).run P w= .ok (.enter c.f args) w)
  (hf:P.funcs[c.f]? =aa fn) (hb:fn.body=aa code) (kU:fn.results=rs.toArray)
  (bV:((writes code).all (λt=>dz t fn.ntmps)&&eh c.args.length fn.ntmps&&sD c.jU c.b8&&mw (c.b8.map bT)&&c.b8.all (λp=>eh 1000 p.1)&&eh c.b8.length 40)=ab)
  (rG:∀h,KO T Φ c rs code an h=c.fn h):fM P T c:=by
 refine aew hP hR jW hf hb kU bV λh r hr=>?_
 simp only[bt]at bV
 obtain⟨⟨⟨⟨⟨hw,_⟩,_⟩,_⟩,_⟩,_⟩:=bV
 simp only[dU]at hw
 rw[<-rG]at hr
 unfold KO at hr
 split at hr
 case h_2=>cases hr
 rename_i jt
 simp only[bt]at jt
 split at hr
 case h_2=>cases hr
 rename_i σ lC
 refine⟨σ,lC,λhk hc=>?_⟩
 obtain⟨fe,ii,hr⟩:=pJ hr
 obtain⟨ff,z1,z2,z3⟩:=pI ii hk
 exact sZ hP hR cL hm code an.un jt.2 (.inl rfl) (Lb.none jt.1) hr (λt ht=>by unfold Rd.eZ;rw[hw t ht];rfl) z1 λo be γ' w' L' cV eE HO ho=>hc o be γ' w' L' cV (z2.trans eE) ho
abbrev tM(T:bc D)(Φ:List (aA D))(c:aA D)(rs:List li)(code:bM)(an:An):aA D:=⟨c.f,c.ins,c.outs,c.args,c.ob,c.jU,c.b8,KO T Φ c rs code an⟩
def wF(hP:dS P T)(hR:cF T)(cL:∀c∈Φ,fM P T c)(hm:P.follows .mixedOrders=ab){c:aA D}{fn:Func}{code:bM}{rs:List li}{an:An}
  (jW:∀(args:Array ah) (w:ay),(callFunc c.f args).run P w= .ok (.enter c.f args) w)
  (hf:P.funcs[c.f]? =aa fn) (hb:fn.body=aa code) (kU:fn.results=rs.toArray)
  (bV:((writes code).all (λt=>dz t fn.ntmps)&&eh c.args.length fn.ntmps&&sD c.jU c.b8&&mw (c.b8.map bT)&&c.b8.all (λp=>eh 1000 p.1)&&eh c.b8.length 40)=ab):fM P T (tM T Φ c rs code an):=
 aeu (c:=tM T Φ c rs code an) (an:=an) hP hR cL hm jW hf hb kU bV λ_=>rfl
