import Derived.ScopeJumps
import Derived.Test.YtmngjhagbjgmfaaGreatRm
set_option linter.all false
open Array renaming getD->uI
open Bool renaming and_eq_true->bq,false->ai,false_eq_true->aD,not_eq_true'->pS,or_eq_true->rX,true->ab
open Classical renaming byContradiction->gw
open Go renaming Code->bL,Oper->aS,Program->cP,ResultVar->lc,Value->ah,World->ax
open List renaming all_eq_true->dR,filter_cons_of_neg->pQ,filter_cons_of_pos->lL,getD_eq_getElem?_getD->uF,getElem?_append_left->mi,getElem?_eq_getElem->nW,getElem?_eq_some_iff->gH,length_cons->jO,mem_append->bz,mem_cons->cr,mem_filter->k_,mem_map->dC,mem_of_getElem?->oT,mem_range->er,range->bV
open Nat renaming beq->aT,ble->ef,ble_eq_true_of_le->Jn,blt->dx,eq_of_beq_eq_true->bA,le_of_ble_eq_true->dm,le_refl->bw,zero_add->kD
open Option renaming some->aa
open Option.some renaming inj->jM
open Prod renaming fst->bS
noncomputable section
namespace Go.Proofs.YtmngjhagbjgmfaaGreat
open Go Go.RowKit Dp
namespace Rx
section
variable {α:Type} {g:Nat->List (Nat×α)} {l0:List (Nat×α)} {D D':Nat->Bool} {i p:Nat}
def acc(g:Nat->List (Nat×α))(l0:List (Nat×α))(D:Nat->Bool):Nat->List (Nat×α)
 |0=>l0
 |n+1=>cond (D n) (g n++acc g l0 D n) (acc g l0 D n)
def E1:∀{n:Nat},(∀q,q<n->i∈(g q).map bS->D q=D' q)->aE (acc g l0 D n) i=aE (acc g l0 D' n) i
 |0,_=>rfl
 |n+1,h=>by
  have ih:=E1 (n:=n) λq hq=>h q (by omega);simp only[acc];by_cases hi:i∈(g n).map bS
  ·rw[h n (by omega) hi];cases D' n with
   |true=>simp only[v5,kh,ih]
   |false=>exact ih
  ·have hn:=qe.2 hi;have e:∀l,aE (g n++l) i=aE l i:=λl=>by rw[kh,hn]
   cases D n<;>cases D' n<;>simp only[v5,rV,e,ih]
def ajK(hp:D p=ab)(hi:i∈(g p).map bS):∀{n:Nat},p<n->(∀q,p<q->q<n->D q=ab->i∉(g q).map bS)->aE (acc g l0 D n) i=aE (g p) i
 |0,h,_=>by omega
 |n+1,h,hq=>by
  simp only[acc];by_cases hpn:p=n
  ·subst hpn;rw[hp];simp only[v5,kh];cases hl:aE (g p) i with
   |none=>exact(qe.1 hl hi).elim
   |some a=>rfl
  ·have ih:=ajK hp hi (n:=n) (by omega) λq h1 h2=>hq q h1 (by omega);cases hD:D n with
   |false=>exact ih
   |true=>simp only[v5,kh,qe.2 (hq n (by omega) (by omega) hD)];exact ih
def Xp:∀{n:Nat},(∀q,q<n->D q=D' q)->acc g l0 D n=acc g l0 D' n
 |0,_=>rfl
 |n+1,h=>by simp only[acc];rw[Xp (n:=n) λq hq=>h q (by omega),h n (by omega)]
def I7:∀{n k:Nat},(∀q,n<=q->D q=ai)->acc g l0 D (n+k)=acc g l0 D n
 |n,0,_=>rfl
 |n,k+1,h=>by rw[Nat.add_succ];simp only[acc];rw[h (n+k) (by omega)];exact I7 h
def ajJ{n N:Nat}(h:n<=N):acc g l0 (λ_=>ab) n=acc g l0 (λq=>dx q n) N:=by
 obtain⟨k,rfl⟩:∃k,N=n+k:=⟨N-n,by omega⟩;rw[I7 λq hq=>by
  cases hb:dx q n with
  |true=>have:=dm hb;omega
  |false=>rfl]
 refine Xp λq hq=>?_;exact(Jn hq).symm
def I8:∀{n:Nat},acc g l0 (λ_=>ab) (n+1)=acc (λq=>g (q+1)) (g 0++l0) (λ_=>ab) n
 |0=>rfl
 |n+1=>by have:=I8 (n:=n);simp only[acc,v5]at this⊢;rw[this]
def ins(D:Nat->Bool)(p:Nat):Nat->Bool:=λj=>D j||aT j p
def acb(D:Nat->Bool)(p:Nat):ins D p p=ab:=by simp[ins]
def G2{q:Nat}(h:q≠p):ins D p q=D q:=by
 have:aT q p=ai:=by
  cases hb:aT q p with
  |true=>exact(h (bA hb)).elim
  |false=>rfl
 simp[ins,this]
def ajL{n:Nat}(hp:p<n)(hD:D p=ai)(h:∀i∈(g p).map bS,∀q,p<q->q<n->D q=ab->i∉(g q).map bS)(i:Nat):aE (acc g l0 (ins D p) n) i=aE (g p++acc g l0 D n) i:=by
 by_cases hi:i∈(g p).map bS
 ·rw[ajK (acb D p) hi hp λq h1 h2 h3=>h i hi q h1 h2 (by rw[G2 (by omega)]at h3;exact h3),kh];cases hl:aE (g p) i with
  |none=>exact(qe.1 hl hi).elim
  |some a=>rfl
 ·rw[kh,qe.2 hi];refine E1 λq hq hm=>?_;by_cases py:q=p
  ·subst py;exact(hi hm).elim
  ·exact G2 py
end
section
variable {D:Nat->Type} [∀n,ad (D n)]
variable {P:cP} {T:bb D} {Φ:List (az D)} {n:Nat}
inductive RS(D:Nat->Type)|run (e:cW D) (l:List Nat)|skip
def dl(d:Option Nat)(a:AV D):List (Nat×AV D):=match d with
 |some d=>[(d,a)]
 |none=>[]
def gS(o:aS):RS D->List (Nat×AV D)
 | .run e _=>dl o.dst e.dst
 | .skip=>dl o.dst (.c (.one .undef))
def gO:RS D->List (Nat×Option (AO D))
 | .run e _=>e.fz.map (λi=>(i,none))++e.sj
 | .skip=>[]
def xG(σ:S D)(o:aS)(x:RS D):S D:=⟨gS o x++σ.sl,gO x++σ.ob,σ.nx+128,σ.lk⟩
def anK{σ:S D}{o:aS}{e:cW D}{l:List Nat}:xG σ o (.run e l)=y8 σ o.dst e:=by cases h:o.dst<;>simp[xG,y8,gS,gO,dl,h]
def anJ{σ:S D}{o:aS}:xG σ o .skip=uV σ o.dst:=by cases h:o.dst<;>simp[xG,uV,gS,gO,dl,h]
def av7{o:aS}{x:RS D}{t:Nat}:t∈(gS o x).map bS↔o.dst=aa t:=by cases x<;>cases h:o.dst<;>simp[gS,dl,h,eq_comm]
def av8{e:cW D}{l:List Nat}{i:Nat}(h:i∈(gO (.run e l)).map bS):i∈e.wr:=by
 unfold cW.wr;simp only[gO,List.map_append,List.map_map,bz,dC]at h⊢;rcases h with⟨x,h,rfl⟩|h
 ·exact .inr h
 ·exact .inl h
def aj_(T:bb D)(Φ:List (az D))(ops:List aS)(σ:S D)(o:aS):RS D->Prop
 | .run e l=>(∀j b,o.guard=aa (j,b)->∃og d K g,ops[j]? =aa og∧og.dst=aa d∧aE σ.sl d=aa (.c (.one (.v .bool b K g))))∧
     ∃as,eP σ.sl o.op.operands.toList=aa as∧Q.R σ.ob (z_ T Φ σ.nx o.op as) l e∧D_ σ.lk e=ab
 | .skip=>∃j b og d a,o.guard=aa (j,b)∧ops[j]? =aa og∧og.dst=aa d∧aE σ.sl d=aa a∧((∃K g,a= .c (.one (.v .bool (!b) K g)))∨a= .c (.one .undef))
def Tr(T:bb D)(Φ:List (az D))(ops:List aS):List aS->List (RS D)->S D->Prop
 |[],[],_=>True
 |o::r,x::xs,σ=>aj_ T Φ ops σ o x∧Tr T Φ ops r xs (xG σ o x)
 |_,_,_=>False
def runT:List aS->List (RS D)->S D->S D
 |o::r,x::xs,σ=>runT r xs (xG σ o x)
 |_,_,σ=>σ
def Aj:List (RS D)->Nat->List Lg->List Lg
 |[],_,lg=>lg
 | .run e l::xs,p,lg=>Aj xs (p+1) (⟨p,l.reverse,e.wr⟩::lg)
 | .skip::xs,p,lg=>Aj xs (p+1) lg
structure pM(σ bc:S D):Prop where
 sl:∀t,aE σ.sl t=aE bc.sl t
 ob:σ.ob=bc.ob
 nx:σ.nx=bc.nx
 lk:σ.lk=bc.lk
def Vg{sl CP:List (Nat×AV D)}:∀{l:List Operand},(∀t,.tmp t∈l->aE sl t=aE CP t)->eP sl l=eP CP l
 |[],_=>rfl
 |x::l,h=>by
  simp only[eP];rw[Vg (l:=l) λt ht=>h t (by simp[ht])];have:eQ sl x=eQ CP x:=by
   cases x with
   |tmp t=>exact h t (by simp)
   |_=>rfl
  rw[this]
def pM.st{σ bc:S D}(h:pM σ bc)(o:aS)(x:RS D):pM (xG σ o x) (xG bc o x):=by
 refine⟨λt=>?_,?_,?_,h.lk⟩
 ·show aE (gS o x++σ.sl) t=aE (gS o x++bc.sl) t;rw[kh,kh,h.sl]
 ·show gO x++σ.ob=gO x++bc.ob;rw[h.ob]
 ·show σ.nx+128=bc.nx+128;rw[h.nx]
def trace{ops:List aS}:∀{l:List aS} {p:Nat} {σ bc:S D} {lg:List Lg} {ρ:Type} {k:S D->List Lg->Option ρ} {r:ρ},ja T Φ ops l p bc lg k=aa r->pM σ bc->∃rs kE,Tr T Φ ops l rs σ∧pM (runT l rs σ) kE∧k kE (Aj rs p lg)=aa r
 |[],p,σ,bc,lg,ρ,k,r,h,he=>⟨[],bc,trivial,he,h⟩
 |o::l,p,σ,bc,lg,ρ,k,r,h,he=>by
  have run:∀{fb:S D},pM σ fb->(∀j b,o.guard=aa (j,b)->∃og d K g,ops[j]? =aa og∧og.dst=aa d∧aE σ.sl d=aa (.c (.one (.v .bool b K g))))->zC T Φ p o fb lg (λσ lg=>ja T Φ ops l (p+1) σ lg k)=aa r->
    ∃rs kE,Tr T Φ ops (o::l) rs σ∧pM (runT (o::l) rs σ) kE∧k kE (Aj rs p lg)=aa r:=by
   intro fb rE hg h
   obtain⟨as,e,l',h1,h2,h3,h4⟩:=ZN h
   rw[<-anK (l:=l')]at h4
   obtain⟨rs,kE,t1,t2,t3⟩:=trace h4 (rE.st o (.run e l'))
   refine⟨.run e l'::rs,kE,⟨⟨hg,as,?_,?_,?_⟩,t1⟩,t2,t3⟩
   ·rw[Vg λt _=>rE.sl t];exact h1
   ·rw[rE.ob,rE.nx];exact h2
   ·rw[rE.lk];exact h3
  have pass:∀{fb:S D},pM σ fb->(∃j b og d a,o.guard=aa (j,b)∧ops[j]? =aa og∧og.dst=aa d∧aE σ.sl d=aa a∧((∃K g,a= .c (.one (.v .bool (!b) K g)))∨a= .c (.one .undef)))->ja T Φ ops l (p+1) (uV fb o.dst) lg k=aa r->
    ∃rs kE,Tr T Φ ops (o::l) rs σ∧pM (runT (o::l) rs σ) kE∧k kE (Aj rs p lg)=aa r:=by
   intro fb rE hg h
   rw[<-anJ]at h
   obtain⟨rs,kE,t1,t2,t3⟩:=trace h (rE.st o .skip)
   exact⟨.skip::rs,kE,⟨hg,t1⟩,t2,t3⟩
  simp only[ja]at h;split at h
  ·rename_i hg;exact run he (λj b hb=>by rw[hg]at hb;cases hb) h
  ·rename_i j b hg;split at h
   case h_1=>cases h
   rename_i d a vA;obtain⟨og,ho,vF,hl⟩:=UW vA;rw[<-he.sl]at hl;split at h
   ·rename_i c K g;have yp:∀c',c=c'->pM σ (li bc d c' K g):=λc' hc=>by
     subst hc;exact⟨λt=>by show _=aE ((d,_)::bc.sl) t;rw[SL (by rw[<-he.sl];exact hl)];exact he.sl t,he.ob,he.nx,he.lk⟩
    have fw:c=b->∀j' b',o.guard=aa (j',b')->∃og d K g,ops[j']? =aa og∧og.dst=aa d∧aE σ.sl d=aa (.c (.one (.v .bool b' K g))):=λHN j' b' hb=>by rw[hg]at hb;cases hb;exact⟨og,d,K,g,ho,vF,by rw[hl,HN]⟩
    have ac8:c=(!b)->∃j b og d a,o.guard=aa (j,b)∧ops[j]? =aa og∧og.dst=aa d∧aE σ.sl d=aa a∧((∃K g,a= .c (.one (.v .bool (!b) K g)))∨a= .c (.one .undef)):=λHN=>
     ⟨j,b,og,d,_,hg,ho,vF,hl,.inl ⟨K,g,by rw[HN]⟩⟩
    rcases yR h with⟨hc,h⟩|⟨hc,h⟩
    ·cases b with
     |true=>exact run (yp ab hc) (fw hc) h
     |false=>exact pass (yp ab hc) (ac8 hc) h
    ·cases b with
     |true=>exact pass (yp ai hc) (ac8 hc) h
     |false=>exact run (yp ai hc) (fw hc) h
   ·split at h
    case isFalse=>cases h
    rename_i hu;have ha:a= .c (.one .undef):=by
     unfold S7 at hu;split at hu
     ·rfl
     ·cases hu
    exact pass he ⟨j,b,og,d,a,hg,ho,vF,hl,.inr ha⟩ h
def gA(l:List aS)(rs:List (RS D))(q:Nat):List (Nat×AV D):=match l[q]?,rs[q]? with
 |some o,aa x=>gS o x
 |_,_=>[]
def gB(rs:List (RS D))(q:Nat):List (Nat×Option (AO D)):=match rs[q]? with
 |some x=>gO x
 |none=>[]
def av_{l:List aS}{rs:List (RS D)}{q:Nat}{o:aS}{x:RS D}(h:l[q]? =aa o)(hx:rs[q]? =aa x):gA l rs q=gS o x:=by simp[gA,h,hx]
def av9{rs:List (RS D)}{q:Nat}{x:RS D}(hx:rs[q]? =aa x):gB rs q=gO x:=by simp[gB,hx]
def Ng{l:List aS}{rs:List (RS D)}{q t:Nat}(h:t∈(gA l rs q).map bS):∃o,l[q]? =aa o∧o.dst=aa t:=by
 unfold gA at h;split at h
 ·rename_i o x ho hx;exact⟨o,ho,av7.1 h⟩
 ·simp at h
def Nf{rs:List (RS D)}{q i:Nat}(h:i∈(gB rs q).map bS):∃e l,rs[q]? =aa (.run e l)∧i∈e.wr:=by
 unfold gB at h;split at h
 ·rename_i x hx;cases x with
  |run e l=>exact⟨e,l,hx,av8 h⟩
  |skip=>simp[gO]at h
 ·simp at h
def ajO{ops:List aS}:∀{l:List aS} {rs:List (RS D)} {σ:S D},Tr T Φ ops l rs σ->rs.length=l.length
 |[],[],_,_=>rfl
 |_::_,_::_,_,h=>by simp[ajO h.2]
 |[],_::_,_,h=>h.elim
 |_::_,[],_,h=>h.elim
def Pd{ops:List aS}:∀{l:List aS} {rs:List (RS D)} {σ:S D},Tr T Φ ops l rs σ->∀{i:Nat} {o:aS} {x:RS D},l[i]? =aa o->rs[i]? =aa x->
  aj_ T Φ ops ⟨acc (gA l rs) σ.sl (λ_=>ab) i,acc (gB rs) σ.ob (λ_=>ab) i,σ.nx+128*i,σ.lk⟩ o x
 |[],[],_,_,i,o,x,hi,_=>by simp at hi
 |o'::l,x'::rs,σ,h,0,o,x,hi,hx=>by
  have e1:o'=o:=by simpa using hi
  have e2:x'=x:=by simpa using hx
  subst e1 e2;exact h.1
 |o'::l,x'::rs,σ,h,i+1,o,x,hi,hx=>by have:=Pd h.2 (i:=i) (o:=o) (x:=x) (by simpa using hi) (by simpa using hx);rw[I8,I8,show σ.nx+128*(i+1)=σ.nx+128+128*i from by omega];exact this
 |[],_::_,_,h,_,_,_,_,_=>h.elim
 |_::_,[],_,h,_,_,_,_,_=>h.elim
def aan{ops:List aS}:∀{l:List aS} {rs:List (RS D)} {σ:S D},Tr T Φ ops l rs σ->runT l rs σ=⟨acc (gA l rs) σ.sl (λ_=>ab) l.length,acc (gB rs) σ.ob (λ_=>ab) l.length,σ.nx+128*l.length,σ.lk⟩
 |[],[],_,_=>rfl
 |o::l,x::rs,σ,h=>by simp only[runT,jO];rw[aan h.2,I8,I8,show σ.nx+128*(l.length+1)=σ.nx+128+128*l.length from by omega];rfl
 |[],_::_,_,h=>h.elim
 |_::_,[],_,h=>h.elim
def SS{an:List Nat}:∀{rs:List (RS D)} {p:Nat} {lg:List Lg},ye an (Aj rs p lg)=ab->
  ye an lg=ab∧(∀j e l,rs[j]? =aa (.run e l)->∀b∈lg,bit (an.getD (p+j) 0) b.i=ab∨Di ⟨p+j,l.reverse,e.wr⟩ b=ab)∧
  ∀i j e l e' l',i<j->rs[i]? =aa (.run e l)->rs[j]? =aa (.run e' l')->bit (an.getD (p+j) 0) (p+i)=ab∨Di ⟨p+j,l'.reverse,e'.wr⟩ ⟨p+i,l.reverse,e.wr⟩=ab
 |[],p,lg,h=>⟨h,λj e l hj=>by simp at hj,λi j e l e' l' _ hi=>by simp at hi⟩
 | .skip::rs,p,lg,h=>by
   obtain⟨h1,h2,h3⟩:=SS (rs:=rs) (p:=p+1) (lg:=lg) h;refine⟨h1,λj e l hj b hb=>?_,λi j e l e' l' iJ hi hj=>?_⟩
   ·cases j with
    |zero=>simp at hj
    |succ j=>have:=h2 j e l (by simpa using hj) b hb;rw[show p+(j+1)=p+1+j from by omega];exact this
   ·cases i with
    |zero=>simp at hi
    |succ i=>
     cases j with
     |zero=>omega
     |succ j=>have:=h3 i j e l e' l' (by omega) (by simpa using hi) (by simpa using hj);rw[show p+(j+1)=p+1+j from by omega,show p+(i+1)=p+1+i from by omega];exact this
 | .run e0 l0::rs,p,lg,h=>by
   obtain⟨h1,h2,h3⟩:=SS (rs:=rs) (p:=p+1) (lg:=⟨p,l0.reverse,e0.wr⟩::lg) h;simp only[ye,bq,dR,rX]at h1;refine⟨h1.2,λj e l hj b hb=>?_,λi j e l e' l' iJ hi hj=>?_⟩
   ·cases j with
    |zero=>
     have:RS.run e0 l0= .run e l:=by simpa using hj
     cases this;exact h1.1 b hb
    |succ j=>have:=h2 j e l (by simpa using hj) b (by simp[hb]);rw[show p+(j+1)=p+1+j from by omega];exact this
   ·cases j with
    |zero=>omega
    |succ j=>
     rw[show p+(j+1)=p+1+j from by omega];cases i with
     |zero=>
      have:RS.run e0 l0= .run e l:=by simpa using hi
      cases this;exact h2 j e' l' (by simpa using hj) ⟨p,l0.reverse,e0.wr⟩ (by simp)
     |succ i=>have:=h3 i j e l e' l' (by omega) (by simpa using hi) (by simpa using hj);rw[show p+(i+1)=p+1+i from by omega];exact this
def QS{ops:List aS}{an:List Nat}:∀{r:List aS} {j:Nat} {seen:List (Nat×aS)},xI ops an j r seen=ab->
  (∀q b,r[q]? =aa b->(∀s∈seen,bit (an.getD (j+q) 0) s.1=ab∨apart ops s.2 b=ab)∧∀e∈b.after.toList,Region.binds .any e=ab->e.on<j+q)∧
  ∀p q a b,p<q->r[p]? =aa a->r[q]? =aa b->bit (an.getD (j+q) 0) (j+p)=ab∨apart ops a b=ab
 |[],j,seen,h=>⟨λq b hq=>by simp at hq,λp q a b _ hp=>by simp at hp⟩
 |o::r,j,seen,h=>by
  simp only[xI,bq,dR,rX]at h;obtain⟨⟨h1,h2⟩,h3⟩:=h;obtain⟨k1,k2⟩:=QS (r:=r) (j:=j+1) (seen:=(j,o)::seen) h3;refine⟨λq b hq=>?_,λp q a b lZ hp hq=>?_⟩
  ·cases q with
   |zero=>
    have e:o=b:=by simpa using hq
    subst e;refine⟨h1,λe he hb=>?_⟩;rcases h2 e he with h4|h4
    ·rw[hb]at h4;cases h4
    ·exact dm h4
   |succ q=>obtain⟨m1,m2⟩:=k1 q b (by simpa using hq);rw[show j+(q+1)=j+1+q from by omega];exact⟨λs hs=>m1 s (by simp[hs]),m2⟩
  ·cases q with
   |zero=>omega
   |succ q=>
    rw[show j+(q+1)=j+1+q from by omega];cases p with
    |zero=>
     have e:o=a:=by simpa using hp
     subst e;exact(k1 q b (by simpa using hq)).1 (j,o) (by simp)
    |succ p=>have:=k2 p q a b (by omega) (by simpa using hp) (by simpa using hq);rw[show j+(p+1)=j+1+p from by omega];exact this
def W6(m i:Nat):bit m i=m.testBit i:=by
 unfold bit;rw[Nat.testBit_eq_decide_div_mod_eq,Nat.shiftRight_eq_div_pow];cases h:aT (m/2^i% 2) 1 with
 |true=>rw[bA h];rfl
 |false=>
  have:¬m/2^i% 2=1:=λe=>by rw[e]at h;cases h
  simp[this]
def ajF{f:Nat->Nat}{i:Nat}:∀{es:List Edge} {s:Nat},bit (es.foldl (λs e=>if Region.binds .any e then s|||(1<<<e.on)|||(f e.on)else s) s) i=ab->
  bit s i=ab∨∃e∈es,Region.binds .any e=ab∧(i=e.on∨bit (f e.on) i=ab)
 |[],s,h=> .inl h
 |e::es,s,h=>by
  rw[List.foldl_cons]at h;rcases ajF h with h|⟨e',h1,h2⟩
  ·split at h
   ·rename_i hb;rw[W6,Nat.testBit_or,Nat.testBit_or,rX,rX]at h;rcases h with(h|h)|h
    ·exact .inl (by rw[W6];exact h)
    ·refine .inr ⟨e,by simp,hb,.inl ?_⟩;rw[Nat.one_shiftLeft,Nat.testBit_two_pow]at h;exact(jw h).symm
    ·exact .inr ⟨e,by simp,hb,.inr (by rw[W6];exact h)⟩
   ·exact .inl h
  ·exact .inr ⟨e',by simp[h1],h2⟩
def ajC:∀{l:List aS} {acc:List Nat},∃s,je l acc=acc.reverse++s
 |[],acc=>⟨[],by simp[je]⟩
 |o::r,acc=>by obtain⟨s,h⟩:=ajC (l:=r) (acc:=BN acc o::acc);exact⟨BN acc o::s,by simp only[je];rw[h];simp⟩
def ajD:∀{l:List aS} {acc:List Nat} {q:Nat} {o:aS},l[q]? =aa o->∃m,je l acc=m++(je l acc).drop (acc.length+q)∧m.length=acc.length+q∧(je l acc)[acc.length+q]? =aa (BN m.reverse o)
 |[],acc,q,o,h=>by simp at h
 |o'::r,acc,0,o,h=>by
  have e:o'=o:=by simpa using h
  subst e;obtain⟨s,h⟩:=ajC (l:=r) (acc:=BN acc o'::acc);refine⟨acc.reverse,?_,by simp,?_⟩
  ·simp only[je];rw[h];simp
  ·simp only[je];rw[h];simp
 |o'::r,acc,q+1,o,h=>by obtain⟨m,h1,h2,h3⟩:=ajD (l:=r) (acc:=BN acc o'::acc) (q:=q) (o:=o) (by simpa using h);simp only[jO]at h1 h2 h3;rw[show acc.length+1+q=acc.length+(q+1)from by omega]at h1 h2 h3;exact⟨m,h1,h2,h3⟩
def ajE{l:List aS}{q i:Nat}{o:aS}(h:l[q]? =aa o)(hb:bit ((je l []).getD q 0) i=ab):∃e∈o.after.toList,Region.binds .any e=ab∧(i=e.on∨bit ((je l []).getD e.on 0) i=ab):=by
 obtain⟨m,h1,h2,h3⟩:=ajD (acc:=[]) h;simp only[List.length_nil,kD]at h1 h2 h3;rw[uF,h3]at hb;simp only[Option.getD_some]at hb;unfold BN at hb;rcases ajF (f:=λx=>m.reverse.reverse.getD x 0) hb with hb|⟨e,k1,k2,k3⟩
 ·simp[bit]at hb
 ·refine⟨e,k1,k2,?_⟩;rcases k3 with k3|k3
  ·exact .inl k3
  ·right;rw[List.reverse_reverse]at k3;rw[h1];by_cases aU:e.on<m.length
   ·rw[uF,mi aU,<-uF];exact k3
   ·rw[uF,List.getElem?_eq_none (by omega)]at k3;simp[bit]at k3
def Q.aCC{α:Type}{ob b7:List (Nat×Option (AO D))}:∀{q:Q D α} {l:List Nat} {a:α},(∀i∈l,aE ob i=aE b7 i)->Q.R ob q l a->Q.R b7 q l a:=by
 intro q;induction q with
 |ret b=>intro l a _ h;exact h
 |fail=>intro l a _ h;exact h
 |obj i f ih=>intro l a he h;obtain⟨x,l',h1,rfl,h2⟩:=h;refine⟨x,l',?_,rfl,ih x (λi hi=>he i (by simp[hi])) h2⟩;unfold dt at h1⊢;rw[<-he i (by simp)];exact h1
 |part o f ih=>intro l a he h;obtain⟨y,h1,h2⟩:=h;exact⟨y,h1,ih y he h2⟩
def UD(D:Nat->Bool)(nx N:Nat):Nat->Prop:=λi=>i<nx∨∃q,q<N∧D q=ab∧nx+128*q<=i∧i<nx+128*q+128
def ajN{Dn:Nat->Bool}{nx N p:Nat}(hp:p<N):jt (UD Dn nx N) (nx+128*p)=UD (ins Dn p) nx N:=by
 funext i;apply propext;unfold jt UD;constructor
 ·rintro((h|⟨q,h1,h2,h3⟩)|h)
  ·exact .inl h
  ·exact .inr ⟨q,h1,by simp[ins,h2],h3⟩
  ·exact .inr ⟨p,hp,acb _ _,h⟩
 ·rintro(h|⟨q,h1,h2,h3⟩)
  ·exact .inl (.inl h)
  ·by_cases hq:q=p
   ·subst hq;exact .inr h3
   ·rw[G2 hq]at h2;exact .inl (.inr ⟨q,h1,h2,h3⟩)
structure Dr(l:List aS)(rs:List (RS D))(σ:S D)(fc:Gh D)(w0:ax)(Dn:Nat->Bool)(γ:Gh D)(w:ax)(L:List (Nat×ah)):Prop where
 sr:SR (UD Dn σ.nx l.length) γ w (acc (gA l rs) σ.sl Dn l.length) L
 ob:OB (UD Dn σ.nx l.length) γ w (acc (gB rs) σ.ob Dn l.length)
 fr:Frame fc w0 γ w
 cl:∀q o,Dn q=ab->l[q]? =aa o->∀e∈o.after.toList,Region.binds .any e=ab->Dn e.on=ab
 cI:2000<=σ.nx
def SR.eqv{U:Nat->Prop}{γ:Gh D}{w:ax}{sl CP:List (Nat×AV D)}{L:List (Nat×ah)}(h:SR U γ w sl L)(he:∀t,aE CP t=aE sl t):SR U γ w CP L:=λt a ha=>h t a (by rw[<-he];exact ha)
def OB.eqv{U:Nat->Prop}{γ:Gh D}{w:ax}{ob b7:List (Nat×Option (AO D))}(h:OB U γ w ob)(he:∀t,aE b7 t=aE ob t):OB U γ w b7:=⟨λi x hx=>h.ob i x (by unfold dt at hx⊢;rw[<-he];exact hx),h.cl,h.ro⟩
def cg.of{wr:List Nat}{σ bc:S D}(h1:∀t,t∉wr->aE bc.sl t=aE σ.sl t)(h2:bc.lk=σ.lk)(h3:∀i∈σ.lk,aE bc.ob i=aE σ.ob i)(h4:σ.nx<=bc.nx):cg wr σ bc:=⟨h1,h2,h3,h4⟩
def ajz{ops:List aS}{a b:aS}{d:Nat}(h:apart ops a b=ab)(hd:a.dst=aa d):d∉tmpsOf ops b∧b.dst≠aa d:=by unfold apart at h;rw[hd]at h;simp only[bq,pS]at h;refine⟨pj h.1,λhb=>?_⟩;rw[hb]at h;simp at h
def aCl{ops:List aS}{a b:aS}{d:Nat}(h:apart ops a b=ab)(hd:b.dst=aa d):d∉tmpsOf ops a:=by
 unfold apart at h;rw[hd]at h;split at h
 ·simp only[pS]at h;exact pj h
 ·simp only[bq,pS]at h;exact pj h.2.2
def am7{ops:List aS}{o:aS}{t:Nat}(h:Operand.tmp t∈o.op.operands.toList):t∈tmpsOf ops o:=by unfold tmpsOf;exact bz.2 (.inl (List.mem_filterMap.2 ⟨.tmp t,h,rfl⟩))
def am8{ops:List aS}{o og:aS}{j d:Nat}{b:Bool}(h:o.guard=aa (j,b))(ho:ops[j]? =aa og)(hd:og.dst=aa d):d∈tmpsOf ops o:=by unfold tmpsOf;refine bz.2 (.inr ?_);simp[h,ho,hd]
section
variable (hP:dQ P T) (hR:cE T) (cK:∀c∈Φ,fK P T c)
include hP hR cK
theorem Dr.step [Rd]{l:List aS}{rs:List (RS D)}{σ:S D}{fc γ:Gh D}{w0 w:ax}{Dn:Nat->Bool}{L:List (Nat×ah)}{Qx:Exit->Act->ax->Prop}(h:Dr l rs σ fc w0 Dn γ w L)(hT:Tr T Φ l l rs σ)(hs:xI l (je l []) 0 l []=ab)(hl:ye (je l []) (Aj rs 0 [])=ab)
  {p:Nat} {o:aS} {x:RS D} (hp:l[p]? =aa o) (hx:rs[p]? =aa x) (hD:Dn p=ai) (hr:∀e∈o.after.toList,Region.binds .any e=ab->Dn e.on=ab):
  match x with
  | .run e l'=>(∀a,Fr n L a->Region.wanted o (yielded l.toArray a.tmps)=ab)∧OW P Qx L o w (λv w'=>∃γ',Dr l rs σ fc w0 (ins Dn p) γ' w' (rj o.dst v L))
  | .skip=>(∀a,Fr n L a->Region.wanted o (yielded l.toArray a.tmps)=ai)∧Dr l rs σ fc w0 (ins Dn p) γ w (rj o.dst undef L):=by
 have qh:p<l.length:=(gH.1 hp).1
 obtain⟨s1,s2⟩:=QS hs
 obtain⟨_,_,g3⟩:=SS hl
 simp only[kD]at s1 s2 g3
 have down:∀q,Dn q=ab->∀i,bit ((je l []).getD q 0) i=ab->Dn i=ab:=by
  intro q;induction q using Nat.strongRecOn with
  |_ q ih=>
   intro hq i hi;by_cases AI:q<l.length
   ·obtain⟨e,k1,k2,k3⟩:=ajE (nW AI) hi;have AL:=h.cl q _ hq (nW AI) e k1 k2;rcases k3 with rfl|k3
    ·exact AL
    ·exact ih e.on ((s1 q _ (nW AI)).2 e k1 k2) AL i k3
   ·exfalso;have hlen:(je l []).length<=q:=by
     have:∀{l:List aS} {acc:List Nat},(je l acc).length=acc.length+l.length:=by
      intro l;induction l with
      |nil=>intro acc;simp[je]
      |cons o r ih=>intro acc;simp only[je];rw[ih];simp;omega
     rw[this];simp;omega
    rw[uF,List.getElem?_eq_none hlen]at hi;simp[bit]at hi
 have Zp:∀i,bit ((je l []).getD p 0) i=ab->Dn i=ab:=λi hi=>by
  obtain⟨e,k1,k2,k3⟩:=ajE hp hi;rcases k3 with rfl|k3
  ·exact hr e k1 k2
  ·exact down e.on (hr e k1 k2) i k3
 have Mu:∀q,Dn q=ab->¬bit ((je l []).getD q 0) p=ab:=λq hq hb=>by rw[down q hq p hb]at hD;cases hD
 have bQ:∀q,Dn q=ab->q≠p:=λq hq e=>by subst e;rw[hq]at hD;cases hD
 have MK:∀t∈tmpsOf l o,aE (acc (gA l rs) σ.sl Dn l.length) t=aE (acc (gA l rs) σ.sl (λ_=>ab) p) t:=by
  intro t ht;rw[ajJ (Nat.le_of_lt qh)];refine E1 λq hq hm=>?_;obtain⟨oq,MI,MT⟩:=Ng hm;rcases Nat.lt_trichotomy q p with py|rfl|py
  ·have:dx q p=ab:=Jn py;rw[this];rcases s2 q p oq o py MI hp with hb|hb
   ·exact Zp q hb
   ·exact((ajz hb MT).1 ht).elim
  ·rw[hD];cases hb:dx q q with
   |true=>have:=dm hb;omega
   |false=>rfl
  ·have:dx q p=ai:=by
    cases hb:dx q p with
    |true=>have:=dm hb;omega
    |false=>rfl
   rw[this];cases UR:Dn q with
   |false=>rfl
   |true=>
    rcases s2 p q o oq py hp MI with hb|hb
    ·exact(Mu q UR hb).elim
    ·exact(aCl hb MT ht).elim
 have ads:∀t,aE (acc (gA l rs) σ.sl (ins Dn p) l.length) t=aE (gS o x++acc (gA l rs) σ.sl Dn l.length) t:=by
  rw[<-av_ hp hx];refine ajL qh hD λt ht q h1 h2 h3 hm=>?_;obtain⟨oq,MI,MT⟩:=Ng hm;obtain⟨o',qk,w8⟩:=Ng ht;rw[hp]at qk;cases qk;rcases s2 p q o oq h1 hp MI with hb|hb
  ·exact Mu q h3 hb
  ·exact(ajz hb w8).2 MT
 have adt:∀t,aE (acc (gB rs) σ.ob (ins Dn p) l.length) t=aE (gO x++acc (gB rs) σ.ob Dn l.length) t:=by
  rw[<-av9 hx];refine ajL qh hD λt ht q h1 h2 h3 hm=>?_;obtain⟨e',l2,ME,fP⟩:=Nf hm;obtain⟨e1,l1,hq1,wR⟩:=Nf ht;rcases g3 p q _ _ _ _ h1 hq1 ME with hb|hb
  ·exact Mu q h3 hb
  ·simp only[Di,bq]at hb;exact vL hb.2 fP wR
 have cY:∀q o',ins Dn p q=ab->l[q]? =aa o'->∀e∈o'.after.toList,Region.binds .any e=ab->ins Dn p e.on=ab:=by
  intro q o' hq qk e he hb;have:Dn e.on=ab:=by
   by_cases py:q=p
   ·subst py;rw[hp]at qk;cases qk;exact hr e he hb
   ·rw[G2 py]at hq;exact h.cl q o' hq qk e he hb
  simp[ins,this]
 have HV:=Pd hT hp hx
 have ady:∀(j d:Nat) (b:Bool) (og:aS) (av:AV D),o.guard=aa (j,b)->l[j]? =aa og->og.dst=aa d->aE (acc (gA l rs) σ.sl (λ_=>ab) p) d=aa av->∃v,Dp.look L d=aa v∧gF (UD Dn σ.nx l.length) γ w av v:=by intro j d b og av hg ho hd hl;exact h.sr d av (by rw[MK d (am8 hg ho hd)];exact hl)
 cases x with
 |run e l'=>
  obtain⟨hg,as,he,hq,DR⟩:=HV
  dsimp only at hg he hq DR
  refine⟨λa ha=>?_,?_⟩
  ·cases vA:o.guard with
   |none=>simp[Region.wanted,vA]
   |some jb=>obtain⟨j,b⟩:=jb;obtain⟨og,d,K,g,h1,h2,h3⟩:=hg j b vA;obtain⟨v,vm,mV⟩:=ady j d b og _ vA h1 h2 h3;have mV:v= .bool b:=mV.1;subst mV;simp[Region.wanted,vA,Qi ha h1 h2 vm]
  ·have mZ:eP (acc (gA l rs) σ.sl Dn l.length) o.op.operands.toList=aa as:=by
    rw[Vg λt ht=>MK t (am7 ht)];exact he
   have tZ:Q.R (acc (gB rs) σ.ob Dn l.length) (z_ T Φ (σ.nx+128*p) o.op as) l' e:=by
    refine Q.aCC (λi hi=>?_) hq;rw[ajJ (Nat.le_of_lt qh)];refine E1 λq hq hm=>?_;obtain⟨e',l2,ME,fP⟩:=Nf hm;rcases Nat.lt_trichotomy q p with py|rfl|py
    ·have:dx q p=ab:=Jn py;rw[this];rcases g3 q p _ _ _ _ py ME hx with hb|hb
     ·exact(Zp q hb).symm
     ·simp only[Di,bq]at hb;exact(vL hb.1.2 fP (by simpa using hi)).elim
    ·rw[hD];cases hb:dx q q with
     |true=>have:=dm hb;omega
     |false=>rfl
    ·have:dx q p=ai:=by
      cases hb:dx q p with
      |true=>have:=dm hb;omega
      |false=>rfl
     rw[this];cases UR:Dn q with
     |false=>rfl
     |true=>
      rcases g3 p q _ _ _ _ py hx ME with hb|hb
      ·exact(Mu q UR hb).elim
      ·simp only[Di,bq]at hb;exact(vL hb.1.1 fP (by simpa using hi)).elim
   have hcx:Cx (UD Dn σ.nx l.length) (σ.nx+128*p) γ w (acc (gA l rs) σ.sl Dn l.length) L (acc (gB rs) σ.ob Dn l.length):=by
    refine⟨h.sr,h.ob,λi h1 h2 h3=>?_,by have:=h.cI;omega⟩;rcases h3 with h3|⟨q,k1,k2,k3,k4⟩
    ·omega
    ·have:=bQ q k2;omega
   have:=abd (Qx:=Qx) (d:=o.dst) (ty:=o.type) (pos:=o.pos) (af:=o.after) (gd:=o.guard) hP hR cK hcx mZ tZ;refine OW.mono this ?_;rintro v w' ⟨γ',oB⟩;have fx:=oB.kp;have A9:=oB.dst;have bG:=oB.ob;rw[ajN qh]at fx A9 bG;refine⟨γ',⟨SR.eqv ?_ ads,OB.eqv bG λt=>by rw[adt];rfl,h.fr.trans oB.fr,cY,h.cI⟩⟩;show SR _ γ' w' (dl o.dst e.dst++_) _;cases hd:o.dst with
   |none=>exact h.sr.db fx
   |some t=>exact(h.sr.db fx).cons A9
 |skip=>
  obtain⟨j,b,og,d,av,hg,h1,h2,h3,h4⟩:=HV
  obtain⟨v,vm,mV⟩:=ady j d b og _ hg h1 h2 h3
  refine⟨λa ha=>?_,?_⟩
  ·rcases h4 with⟨K,g,rfl⟩|rfl
   ·have mV:v= .bool (!b):=mV.1;subst mV;cases b<;>simp[Region.wanted,hg,Qi ha h1 h2 vm]
   ·have mV:v=undef:=mV;subst mV;simp[Region.wanted,hg,YV ha h1 h2 vm]
  ·have fx:jg (UD Dn σ.nx l.length) (UD (ins Dn p) σ.nx l.length) γ w γ w:=⟨λi hi=>by
    rw[<-ajN qh];exact .inl hi,λ_ _=>rfl,λ_ _=>rfl,λ_ _ _=>⟨rfl,rfl⟩⟩
   refine⟨SR.eqv ?_ ads,OB.eqv ⟨λi x hx=>?_,λb hb=>fx.u _ (h.ob.cl b hb),λx hx=>fx.u _ (h.ob.ro x hx)⟩ adt,h.fr,cY,h.cI⟩
   ·show SR _ γ w (dl o.dst _++_) _;cases hd:o.dst with
    |none=>exact h.sr.db fx
    |some t=>exact(h.sr.db fx).cons rfl
   ·obtain⟨h1,h2,h3⟩:=h.ob.ob i x hx;exact⟨h1,fx.u _ h2,h3.db fx h2 λ_ _ _=>⟨rfl,rfl⟩⟩
end
def gf(l:List aS)(i:Nat):List Nat:=match l[i]? with
 |some o=>(o.after.toList.filter (Region.binds .any)).map Edge.on
 |none=>[]
section
variable {P:cP} {Q:Exit->Act->ax->Prop} {l:List aS}
def abz{i:Nat}{o:aS}(h:l[i]? =aa o){e:Edge}(he:e∈o.after.toList)(hb:Region.binds .any e=ab):e.on∈gf l i:=by simp only[gf,h];exact dC.2 ⟨e,k_.2 ⟨he,hb⟩,rfl⟩
def LG{i j:Nat}(hj:j∈gf l i):∃o,l[i]? =aa o∧∃e∈o.after.toList,Region.binds .any e=ab∧e.on=j:=by
 unfold gf at hj;split at hj
 ·rename_i o ho;obtain⟨e,he,rfl⟩:=dC.1 hj;obtain⟨h1,h2⟩:=k_.1 he;exact⟨o,ho,e,h1,h2,rfl⟩
 ·cases hj
def xR{cw:Array Bool}(eK:cw.size=l.length){i:Nat}:i∈Region.ready .any l.toArray cw↔i<l.length∧cw.getD i ai=ai∧∀j∈gf l i,cw.getD j ai=ab:=by
 simp only[Region.ready,k_,er,List.size_toArray];constructor
 ·rintro⟨hi,h⟩;have A4:l[i]? =aa l[i]:=nW hi;have Ub:l.toArray[i]? =aa l[i]:=by simp[hi]
  have mY:i<cw.size:=by omega
  simp only[bq]at h;refine⟨hi,?_,λj hj=>?_⟩
  ·have:=h.1;simp[uI,mY]at this⊢;exact this
  ·obtain⟨o,ho,e,he,hb,rfl⟩:=LG hj;rw[A4]at ho;cases ho;have h2:=h.2;rw[Ub]at h2;simp only[Option.map_some,Option.getD_some]at h2;have:=Array.all_eq_true'.1 h2 e (by simpa using he);simpa[hb]using this
 ·rintro⟨hi,h1,h2⟩;have Ub:l.toArray[i]? =aa l[i]:=by simp[hi]
  have mY:i<cw.size:=by omega
  refine⟨hi,?_⟩;rw[Ub];simp only[bq,Option.map_some,Option.getD_some];refine⟨?_,Array.all_eq_true'.2 λe he=>?_⟩
  ·simp[uI,mY]at h1⊢;exact h1
  ·cases hb:Region.binds .any e with
   |false=>simp
   |true=>have:=h2 e.on (abz (nW hi) (by simpa using he) hb);simpa using this
def Ai{cw:Array Bool}{i j:Nat}(hi:i<cw.size):(cw.setIfInBounds i ab).getD j ai=(if j=i then ab else cw.getD j ai):=by
 by_cases fG:j=i
 ·subst fG;simp[uI,hi]
 ·rw[aK fG];exact getD_set_ne ai (Ne.symm fG)
def VX [I:Rd]{k:Nat}(yE:∀q,k<q->q<l.length->(q-1)∈gf l q∧∀j∈gf l q,j<q)(hk:∀j∈gf l k,j<k):∀(jF p:Nat) (cw:Array Bool) (a:Act) (w:ax),cw.size=l.length->k<=p->p<=l.length->l.length-p<=jF->
  (∀j,j<l.length->cw.getD j ai=decide (j<p))->wpListIn I.F 0 P l.toArray Q (l.drop p) a w->wpAnyIn I.F 0 P .any l.toArray Q jF cw a w:=by
 intro jF
 induction jF with
 |zero=>
  intro p cw a w eK fx hp hf hl h
  have rA:p=l.length:=by omega
  subst rA
  refine⟨List.eq_nil_iff_forall_not_mem.2 λi hi=>?_,?_⟩
  ·obtain⟨h1,h2,_⟩:=(xR eK).1 hi;rw[hl i h1]at h2;simp[h1]at h2
  ·rw[List.drop_length]at h;exact h
 |succ jF ih=>
  intro p cw a w eK fx hp hf hl h
  refine⟨λhr=>?_,λi hi=>?_⟩
  ·by_cases rA:p=l.length
   ·subst rA;rw[List.drop_length]at h;exact h
   ·exfalso;have TO:p<l.length:=by omega
    have:p∈Region.ready .any l.toArray cw:=(xR eK).2 ⟨TO,by rw[hl p TO];simp,λj hj=>by
     have hjp:j<p:=by
      by_cases pA:p=k
      ·subst pA;exact hk j hj
      ·exact(yE p (by omega) TO).2 j hj
     rw[hl j (by omega)];simp[hjp]⟩
    rw[hr]at this;cases this
  ·obtain⟨h1,h2,h3⟩:=(xR eK).1 hi;rw[hl i h1]at h2;have hip:¬i<p:=by simpa using h2
   have HC:i=p:=by
    by_cases bQ:i=p
    ·exact bQ
    ·exfalso;have h4:=h3 (i-1) (yE i (by omega) h1).1;rw[hl (i-1) (by omega)]at h4;have:i-1<p:=by simpa using h4
     omega
   subst HC;have hd:l.drop i=l[i]::l.drop (i+1):=by rw[List.drop_eq_getElem_cons h1]
   rw[hd]at h;have Ue:l.toArray[i]? =aa l[i]:=by simp[h1]
   unfold wpOpIn;rw[Ue];simp only;have DG:∀a' w',wpListIn I.F 0 P l.toArray Q (l.drop (i+1)) a' w'->wpAnyIn I.F 0 P .any l.toArray Q jF (cw.setIfInBounds i ab) a' w':=λa' w' h'=>
    ih (i+1) _ a' w' (by simp[eK]) (by omega) (by omega) (by omega) (λj hj=>by
     rw[Ai (by omega),hl j hj];by_cases fG:j=i
     ·subst fG;simp
     ·rw[aK fG];have:(j<i)↔(j<i+1):=by omega
      simp[this]) h'
   simp only[wpListIn]at h;split
   ·rename_i hw;rw[aG hw]at h;exact aS.wpIn_mono DG h
   ·rename_i hw;rw[aK hw]at h;exact⟨h.1,DG _ _ h.2⟩
end
def Ez(ops post:List aS):Bool:=post.isEmpty||
 ((bV (ops.length+1)).all (λi=>(gf (ops++post) i).all λj=>dx j i)&&
 (bV ops.length).all (λi=>(bV (ops.length+1)).any λj=>dx i j&&(gf (ops++post) j).contains i)&&
 (bV (ops++post).length).all (λq=>ef q ops.length||((gf (ops++post) q).contains (q-1)&&(gf (ops++post) q).all λj=>dx j q)))
def filter_lt{p q:Nat->Bool}(h:∀x,q x=ab->p x=ab){i:Nat}(hp:p i=ab)(hq:q i=ai):∀{l:List Nat},i∈l->(l.filter q).length<(l.filter p).length
 |[],hi=>by cases hi
 |x::l,hi=>by
  have hle:(l.filter q).length<=(l.filter p).length:=by
   clear hi;induction l with
   |nil=>simp
   |cons y l ih=>
    by_cases hy:q y=ab
    ·rw[lL hy,lL (h y hy)];simpa using ih
    ·rw[pQ hy];by_cases gC:p y=ab
     ·rw[lL gC];simp;omega
     ·rw[pQ gC];exact ih
  by_cases hx:x=i
  ·subst hx;rw[pQ (by simp[hq]),lL hp];simp;omega
  ·have lA:i∈l:=by
    rcases cr.1 hi with e|hh
    ·exact(hx e.symm).elim
    ·exact hh
   have ih:=filter_lt h hp hq lA;by_cases hy:q x=ab
   ·rw[lL hy,lL (h x hy)];simpa using ih
   ·rw[pQ hy];by_cases gC:p x=ab
    ·rw[lL gC];simp;omega
    ·rw[pQ gC];exact ih
section
variable (hP:dQ P T) (hR:cE T) (cK:∀c∈Φ,fK P T c) (hm:P.follows .mixedOrders=ab)
include hP hR cK hm
theorem ajA [I:Rd]{id:Nat}{ops post:List aS}{ρ:Type}{σ:S D}{k:S D->Option ρ}{r:ρ}{γ:Gh D}{w:ax}{L:List (Nat×ah)}{Qx:Exit->Act->ax->Prop}(sC:Ez ops post=ab)(hs:xI ops (je ops []) 0 ops []=ab)
  (h:ja T Φ ops ops 0 σ [] (λbc lg=>match ye (je ops []) lg with
    |true=>k bc
    |false=>none)=aa r) (hd:∀t∈dstsOf ops,I.eX n t=ab) (hk:Kn σ γ w L)
  (hc:∀bc γ' w' L',Kn bc γ' w' L'->Frame γ w γ' w'->cg (dstsOf ops) σ bc->k bc=aa r->WL P n (ops++post).toArray Qx post L' w'):CW P n (.region id (ops++post).toArray ab) Qx L w:=by
 obtain⟨rs,kE,hT,iX,jE⟩:=trace h (pM.mk (λ_=>rfl) rfl rfl rfl)
 split at jE
 case h_2=>cases jE
 rename_i hl
 have hlen:=ajO hT
 rw[aan hT]at iX
 intro a ha
 refine wpIn_region_any hm ?_
 have fin:∀(Dn:Nat->Bool) (γ':Gh D) (w':ax) (L':List (Nat×ah)) (a':Act),Dr ops rs σ γ w Dn γ' w' L'->Fr n L' a'->(∀i,i<ops.length->Dn i=ab)->wpListIn I.F 0 P (ops++post).toArray Qx post a' w':=by
  intro Dn γ' w' L' a' ud eA gD;have hU:UD Dn σ.nx ops.length=λi=>i<kE.nx:=by
   rw[<-iX.nx];funext i;apply propext;show UD Dn σ.nx ops.length i↔i<σ.nx+128*ops.length;unfold UD;constructor
   ·rintro(h|⟨q,h1,h2,h3,h4⟩)<;>omega
   ·intro h;by_cases h0:i<σ.nx
    ·exact .inl h0
    ·exact .inr ⟨(i-σ.nx)/128,by omega,gD _ (by omega),by omega,by omega⟩
  have mx:=ud.sr;have bG:=ud.ob;rw[hU]at mx bG;rw[Xp (D':=λ_=>ab) λq hq=>gD q hq]at mx bG;have qz:=ud.cI;have t_:=iX.nx;dsimp only at t_;refine hc kE γ' w' L' ⟨mx.eqv λt=>(iX.sl t).symm,?_,by omega⟩ ud.fr (cg.of (λt ht=>?_) iX.lk.symm (λi hi=>?_) (by omega)) jE a' eA
  ·rw[<-iX.ob];exact bG
  ·rw[<-iX.sl];show aE (acc (gA ops rs) σ.sl (λ_=>ab) ops.length) t=_;have:aE (acc (gA ops rs) σ.sl (λ_=>ab) ops.length) t=aE (acc (gA ops rs) σ.sl (λ_=>ai) ops.length) t:=E1 λq hq hm=>by obtain⟨o,ho,w8⟩:=Ng hm;exact(ht (List.mem_filterMap.2 ⟨o,oT ho,w8⟩)).elim
   rw[this];have:=I7 (g:=gA ops rs) (l0:=σ.sl) (D:=λ_=>ai) (n:=0) (k:=ops.length) λ_ _=>rfl;rw[kD]at this;rw[this];rfl
  ·rw[<-iX.ob];show aE (acc (gB rs) σ.ob (λ_=>ab) ops.length) i=_;have:aE (acc (gB rs) σ.ob (λ_=>ab) ops.length) i=aE (acc (gB rs) σ.ob (λ_=>ai) ops.length) i:=E1 λq hq hm=>by
    obtain⟨e,l,hx,hw⟩:=Nf hm;obtain⟨_,as,_,_,DR⟩:=Pd hT (nW hq) hx;unfold D_ at DR;simp only[bq]at DR;unfold cW.wr at hw;rcases bz.1 hw with hw|hw
    ·exact(vL DR.1 hw hi).elim
    ·exact(vL DR.2 hw hi).elim
   rw[this];have:=I7 (g:=gB rs) (l0:=σ.ob) (D:=λ_=>ai) (n:=0) (k:=ops.length) λ_ _=>rfl;rw[kD]at this;rw[this];rfl
 have axy:∀q (hq:q<ops.length),∀e∈(ops[q]).after.toList,Region.binds .any e=ab->e.on<q:=λq hq e he hb=>by have:=(QS hs).1 q _ (nW hq);simp only[kD]at this;exact this.2 e he hb
 obtain⟨l,pB⟩:∃l,l=ops++post:=⟨_,rfl⟩
 have ML:l.length=ops.length+post.length:=by rw[pB,List.length_append]
 have HD:∀i,i<ops.length->l[i]? =ops[i]? :=λi hi=>by rw[pB,mi hi]
 have ub:∀j∈gf l ops.length,j<ops.length:=λj hj=>by
  unfold Ez at sC;rw[<-pB]at sC;simp only[rX,bq]at sC;rcases sC with h1|h1
  ·obtain⟨o,ho,_⟩:=LG hj;have:=(gH.1 ho).1;have:=List.isEmpty_iff.1 h1;subst this;simp at ML;omega
  ·have h2:=dR.1 h1.1.1 ops.length (er.2 (by omega));exact dm (dR.1 h2 j hj)
 have TK:post≠[]->∀i,i<ops.length->∃j,j<=ops.length∧i<j∧i∈gf l j:=λbQ i hi=>by
  unfold Ez at sC;rw[<-pB]at sC;simp only[rX,bq]at sC;rcases sC with h1|h1
  ·exact(bQ (List.isEmpty_iff.1 h1)).elim
  ·obtain⟨j,hj,h2⟩:=List.any_eq_true.1 (dR.1 h1.1.2 i (er.2 hi));simp only[bq]at h2;have:=er.1 hj;exact⟨j,by omega,dm h2.1,by simpa using h2.2⟩
 have DW:∀q,ops.length<q->q<l.length->(q-1)∈gf l q∧∀j∈gf l q,j<q:=λq hq AI=>by
  unfold Ez at sC;rw[<-pB]at sC;simp only[rX,bq]at sC;rcases sC with h1|h1
  ·have:=List.isEmpty_iff.1 h1;subst this;simp at ML;omega
  ·have h2:=dR.1 h1.2 q (er.2 AI);simp only[rX,bq]at h2;rcases h2 with h2|h2
   ·have:=dm h2;omega
   ·exact⟨by simpa using h2.1,λj hj=>dm (dR.1 h2.2 j hj)⟩
 rw[<-pB]at fin⊢
 have main:∀(jF:Nat) (cw:Array Bool) (a:Act) (w':ax) (γ':Gh D) (L':List (Nat×ah)),cw.size=l.length->(∀i,ops.length<=i->cw.getD i ai=ai)->((bV ops.length).filter λi=> !cw.getD i ab).length+post.length<=jF->
   Dr ops rs σ γ w (λj=>cw.getD j ai) γ' w' L'->Fr n L' a->wpAnyIn I.F 0 P .any l.toArray Qx jF cw a w':=by
  intro jF
  induction jF with
  |zero=>
   intro cw a w' γ' L' eK Hv auK hJ hf
   have gD:∀i,i<ops.length->cw.getD i ai=ab:=λi hi=>by
    cases sF:cw.getD i ai with
    |true=>rfl
    |false=>
     have hb:i<cw.size:=by omega
     have iq:i∈(bV ops.length).filter λi=> !cw.getD i ab:=k_.2 ⟨er.2 hi,by simp[uI,hb]at sF⊢;exact sF⟩
     have:=List.length_pos_of_mem iq;omega
   refine VX DW ub 0 ops.length cw a w' eK (bw _) (by omega) (by omega) (λj hj=>?_) ?_
   ·by_cases l7:j<ops.length
    ·rw[gD j l7];simp[l7]
    ·rw[Hv j (by omega)];simp[l7]
   ·rw[show l.drop ops.length=post by rw[pB];simp];exact fin _ _ _ _ _ hJ hf gD
  |succ jF ih=>
   intro cw a w' γ' L' eK Hv auK hJ hf
   by_cases gD:∀i,i<ops.length->cw.getD i ai=ab
   ·refine VX DW ub (jF+1) ops.length cw a w' eK (bw _) (by omega) (by omega) (λj hj=>?_) ?_
    ·by_cases l7:j<ops.length
     ·rw[gD j l7];simp[l7]
     ·rw[Hv j (by omega)];simp[l7]
    ·rw[show l.drop ops.length=post by rw[pB];simp];exact fin _ _ _ _ _ hJ hf gD
   have ir:∀i,i∈Region.ready .any l.toArray cw->i<ops.length:=λi hi=>by
    obtain⟨h1,h2,h3⟩:=(xR eK).1 hi;by_cases eL:i<ops.length
    ·exact eL
    exfalso;by_cases HC:i=ops.length
    ·subst HC;have bQ:post≠[]:=λe=>by subst e;simp at ML;omega
     refine gD ?_;have key:∀m i,ops.length-i<=m->i<ops.length->cw.getD i ai=ab:=by
      intro m;induction m with
      |zero=>intro i h1 h2;omega
      |succ m ihm=>
       intro i k1 k2;obtain⟨j,m1,m2,m3⟩:=TK bQ i k2;by_cases hj:j=ops.length
       ·subst hj;exact h3 i m3
       ·obtain⟨o,ho,e,he,hb,iX⟩:=LG m3;rw[HD j (by omega)]at ho;have:=hJ.cl j o (ihm j (by omega) (by omega)) ho e he hb;rw[iX]at this;exact this
     exactλi hi=>key _ i (bw _) hi
    ·have:=h3 (i-1) (DW i (by omega) h1).1;rw[Hv (i-1) (by omega)]at this;cases this
   refine⟨λhr=>(gD λi=>?_).elim,λi hi=>?_⟩
   ·induction i using Nat.strongRecOn with
    |_ i ih2=>
     intro A4;cases sF:cw.getD i ai with
     |true=>rfl
     |false=>
      exfalso;have iq:i∈Region.ready .any l.toArray cw:=(xR eK).2 ⟨by omega,sF,λj hj=>by obtain⟨o,ho,e,he,hb,iX⟩:=LG hj;rw[HD i A4,nW A4]at ho;cases ho;have h3:=axy i A4 e he hb;rw[<-iX];exact ih2 e.on h3 (by omega)⟩
      rw[hr]at iq;cases iq
   have lA:=ir i hi
   obtain⟨gp,AW,iu⟩:=(xR eK).1 hi
   have mY:i<cw.size:=by omega
   have sF:cw.getD i ab=ai:=by simp[uI,mY]at AW⊢;exact AW
   obtain⟨o,HB⟩:∃o,ops[i]? =aa o:=⟨_,nW lA⟩
   have A4:l.toArray[i]? =aa o:=by have:=HD i lA;rw[HB]at this;simpa using this
   have haf:∀e∈o.after.toList,Region.binds .any e=ab->cw.getD e.on ai=ab:=λe he hb=>iu e.on (abz ((HD i lA).trans HB) he hb)
   have G_:i<rs.length:=by omega
   have next:∀{bf:Gh D} {w2:ax} {L2:List (Nat×ah)} {a2:Act},Dr ops rs σ γ w (ins (λj=>cw.getD j ai) i) bf w2 L2->Fr n L2 a2->wpAnyIn I.F 0 P .any l.toArray Qx jF (cw.setIfInBounds i ab) a2 w2:=by
    intro bf w2 L2 a2 ud eA;refine ih (cw.setIfInBounds i ab) a2 w2 bf L2 (by simp[eK]) (λj hj=>?_) ?_ ?_ eA
    ·rw[Ai mY,aK (by omega)];exact Hv j hj
    ·have aU:=filter_lt (p:=λi=> !cw.getD i ab) (q:=λj=> !(cw.setIfInBounds i ab).getD j ab) (i:=i) (λx hx=>by
      by_cases G':x=i
      ·subst G';simp[uI,mY]at hx
      ·rw[getD_set_ne ab (Ne.symm G')]at hx;exact hx) (by simp only[sF];rfl) (by simp[uI,mY]) (er.2 lA)
     omega
    ·have e:(λj=>(cw.setIfInBounds i ab).getD j ai)=ins (λj=>cw.getD j ai) i:=by
      funext j;by_cases fG:j=i
      ·subst fG;simp[uI,mY,ins]
      ·rw[G2 fG];exact getD_set_ne ai (Ne.symm fG)
     rw[e];exact ud
   have w8:∀t,o.dst=aa t->I.eX n t=ab:=λt ht=>hd t (List.mem_filterMap.2 ⟨o,oT HB,ht⟩)
   obtain⟨x,hx⟩:∃x,rs[i]? =aa x:=⟨_,nW G_⟩
   have hstep:=Dr.step (n:=n) (Qx:=Qx) hP hR cK hJ hT hs hl HB hx AW haf
   have HV:=Pd hT HB hx
   have acJ:∀tmps:Array ah,Region.wanted o (yielded l.toArray tmps)=Region.wanted o (yielded ops.toArray tmps):=λtmps=>by
    unfold Region.wanted;cases hg:o.guard with
    |none=>rfl
    |some jb=>
     obtain⟨j,b⟩:=jb;have hj:∃og,ops[j]? =aa og:=by
      cases x with
      |run e l'=>obtain⟨h1,_⟩:=HV;obtain⟨og,d,K,g,h2,_⟩:=h1 j b hg;exact⟨og,h2⟩
      |skip=>obtain⟨j',b',og,d,av,h1,h2,_⟩:=HV;rw[hg]at h1;cases h1;exact⟨og,h2⟩
     obtain⟨og,hj⟩:=hj;have dh:=(gH.1 hj).1;have e1:l.toArray[j]? =aa og:=by simpa using(HD j dh).trans hj
     have e2:ops.toArray[j]? =aa og:=by simpa using hj
     simp only[yielded,e1,e2]
   unfold wpOpIn
   rw[A4]
   simp only
   cases x with
   |run e l'=>
    rw[aG (by rw[acJ];exact hstep.1 a hf)]
    refine hstep.2 a _ (λx v hx=>hf.ev hx) ?_
    rintro v w2 ⟨bf,ud⟩
    exact next ud (Fr.rj hf w8 v)
   |skip=>
    rw[aK (by rw[acJ,hstep.1 a hf];simp)]
    exact⟨λ_ _=>trivial,next hstep.2 (Fr.rj hf w8 undef)⟩
 have ic:∀j,(Array.replicate l.toArray.size ai).getD j ai=ai:=by intro j;simp[uI]
 have hD0:(λj=>(Array.replicate l.toArray.size ai).getD j ai)=λ_=>ai:=funext ic
 refine main _ _ a _ γ L (by simp) (λi _=>ic i) ?_ ?_ ha
 ·have:=List.length_filter_le (λi=> !(Array.replicate l.toArray.size ai).getD i ab) (bV ops.length);rw[List.length_range]at this;have h2:l.toArray.size=l.length:=by simp
  omega
 ·rw[hD0];have hU:UD (λ_=>ai) σ.nx ops.length=λi=>i<σ.nx:=by
   funext i;apply propext;unfold UD;constructor
   ·rintro(h|⟨q,h1,h2,h3⟩)
    ·exact h
    ·cases h2
   ·exact .inl
  have hz:∀{α:Type} {g:Nat->List (Nat×α)} {l0:List (Nat×α)},acc g l0 (λ_=>ai) ops.length=l0:=by intro α g l0;have:=I7 (g:=g) (l0:=l0) (D:=λ_=>ai) (n:=0) (k:=ops.length) λ_ _=>rfl;rw[kD]at this;exact this
  have fx:jg (λi=>i<σ.nx) (λi=>i<σ.nx) γ w γ {w with drawn:=w.drawn+1}:=⟨λ_ h=>h,λ_ _=>rfl,λ_ _=>rfl,λ_ _ _=>⟨rfl,rfl⟩⟩;refine⟨?_,?_,⟨⟨rfl,rfl,rfl,bw _,λ_ _ _=>⟨rfl,rfl⟩,λb hb _=>⟨hb,rfl⟩⟩,λ_ _=>rfl⟩,λq o hq=>(by cases hq),hk.cI⟩
  ·rw[hU,hz];exact hk.sr.db fx
  ·rw[hU,hz];exact⟨λi x hx=>by obtain⟨h1,h2,h3⟩:=hk.ob.ob i x hx;exact⟨h1,h2,h3.db fx h2 λ_ _ _=>⟨rfl,rfl⟩⟩,hk.ob.cl,hk.ob.ro⟩
end
end
end Rx
end Go.Proofs.YtmngjhagbjgmfaaGreat
namespace Go.Proofs.YtmngjhagbjgmfaaGreat
open Go Go.RowKit Dp
namespace Rx
section
variable {D:Nat->Type} [∀n,ad (D n)]
variable {P:cP} {T:bb D} {Φ:List (az D)} {n:Nat}
def toX:Out->Exit
 | .normal=> .normal
 | .exit id=> .exit id
 | .goto l=> .goto l
 | .ret=> .ret
def arR(l:Nat)(J:Act->ax->Prop)(Q:Exit->Act->ax->Prop):Exit->Act->ax->Prop
 | .goto l',a,w=>if l'=l then J a w else Q (.goto l') a w
 |e,a,w=>Q e a w
def Lb [I:Rd](P:cP)(c:bL)(Qx:Exit->Act->ax->Prop):Prop:=∀l b,xH c=aa (l,b)->∃Jm:Nat->Act->ax->Prop,
 (∀m a w,b.wpIn I.F 0 P (arR l (Jm m) Qx) a w->Jm (m+1) a w)∧∀m a w,Jm m a w->Qx (.goto l) a w
def Lb.none [Rd]{c:bL}{Qx:Exit->Act->ax->Prop}(h:iT c=ab):Lb P c Qx:=by intro l b hs;unfold iT at h;rw[hs]at h;cases h
def ab'{c:bL}{l:Nat}(h:As c=aa l):c= .label l:=by
 unfold As at h;split at h
 ·cases h;rfl
 ·cases h
def aqq(l:Nat):∀(c:bL),iT c=ab->gz c=ab->findLabel c l=none:=by
 intro c;induction c with
 |seq x y ihx Tg=>
  intro h1 h2;unfold iT at h1;unfold xH at h1;unfold gz at h2;cases hl:As x with
  |some q=>rw[hl]at h1;cases h1
  |none=>rw[hl]at h1 h2;simp only[bq]at h2;unfold findLabel;rw[ihx h2.1.1 h2.1.2];exact Tg h1 h2.2
 |label q=>intro h1 _;cases h1
 |_=>intros;rfl
def anY [I:Rd]:∀(c:bL) {l:Nat} {b:bL},xH c=aa (l,b)->gz c=ab->∃rest,findLabel c l=aa rest∧∀(Q:Exit->Act->ax->Prop) a w,b.wpIn I.F 0 P Q a w->rest.wpIn I.F 0 P Q a w:=by
 intro c;induction c with
 |seq x y ihx Tg=>
  intro l b h1 h2;unfold xH at h1;unfold gz at h2;cases hl:As x with
  |some q=>rw[hl]at h1;cases h1;obtain rfl:=ab' hl;refine⟨.seq .skip y,by simp[findLabel],λQ a w h=>wpIn_seq (wpIn_skip h)⟩
  |none=>rw[hl]at h1 h2;simp only[bq]at h2;obtain⟨rest,h3,h4⟩:=Tg h1 h2.2;refine⟨rest,?_,h4⟩;unfold findLabel;rw[aqq l x h2.1.1 h2.1.2];exact h3
 |label q=>intro l b h1 _;cases h1;exact⟨.skip,by simp[findLabel],λQ a w h=>h⟩
 |_=>intro l b h1;cases h1
def tS [I:Rd](P:cP)(rest:bL)(l:Nat)(Q:Exit->Act->ax->Prop):Nat->Act->ax->Prop
 |0=>λ_ _=>False
 |m+1=>λa w=>rest.wpIn I.F 0 P (Exit.jump l (tS P rest l Q m) Q) a w
def Ma{σ ρ:Type}(step:σ->Option (σ⊕ρ))(n:Nat)(s:σ):nB step (n+1) s=(match step s with
 |some (.inl s')=>nB step n s'
 |some (.inr r)=>aa r
 |none=>none):=rfl
def Mg{p:Nat->Prop}(h:∃m,p m):∃m,p m∧∀k,k<m->¬p k:=by
 apply gw;intro hn;have key:∀m,¬p m:=by
  intro m;induction m using Nat.strongRecOn with
  |_ m ih=>exactλhp=>hn ⟨m,hp,λk hk=>ih k hk⟩
 obtain⟨m,hm⟩:=h;exact key m hm
open Classical in
def Dj(p:Nat->Prop):Nat:=if h:∃m,p m then(Mg h).choose else 0
def arG{p:Nat->Prop}(h:∃m,p m):p (Dj p):=by unfold Dj;rw[dif_pos h];exact(Mg h).choose_spec.1
def arH{p:Nat->Prop}{m:Nat}(h:p m):Dj p<=m:=by
 have hx:∃m,p m:=⟨m,h⟩;unfold Dj;rw[dif_pos hx];rcases Nat.lt_or_ge m (Mg hx).choose with aU|sH
 ·exact((Mg hx).choose_spec.2 m aU h).elim
 ·exact sH
def Rd.wide{I:Rd}(h:I.ro=none):I.F=Fence.wide:=by unfold Rd.F;rw[h];rfl
def aoB [I:Rd](hI:I.ro=none){c rest:bL}{l:Nat}{Q:Exit->Act->ax->Prop}{a:Act}{w:ax}(hf:findLabel c l=aa rest)(first:c.wpIn I.F 0 P (Exit.jump l (λa w=>∃m,tS P rest l Q m a w) Q) a w):(bL.scope c).wpIn I.F 0 P Q a w:=by
 rw[Rd.wide hI]at first⊢
 rw[wpIn_wide]at first⊢
 refine wp_scope_jumps l (λa w=>∃m,tS P rest l Q m a w) (λa w=>Dj λm=>tS P rest l Q m a w) hf first ?_
 intro a w h;have h1:=arG (p:=λm=>tS P rest l Q m a w) h;generalize Dj (λm=>tS P rest l Q m a w)=m at*;cases m with
 |zero=>exact h1.elim
 |succ m=>
  have h1:rest.wpIn I.F 0 P (Exit.jump l (tS P rest l Q m) Q) a w:=h1;rw[Rd.wide hI,wpIn_wide]at h1;refine bL.wp_mono (λe a' w' he=>?_) h1;cases e with
  |goto l'=>exact⟨he.1,⟨m,he.2⟩,Nat.lt_succ_of_le (arH (p:=λm=>tS P rest l Q m a' w') he.2)⟩
  |_=>exact he
def aoA [I:Rd](hI:I.ro=none){c:bL}{Q:Exit->Act->ax->Prop}{a:Act}{w:ax}(h:c.wpIn I.F 0 P (Exit.noGoto Q) a w):(bL.scope c).wpIn I.F 0 P Q a w:=by rw[Rd.wide hI]at h⊢;rw[wpIn_wide]at h⊢;exact wp_scope_straight h
def SH{σ ρ:Type}{step:σ->Option (σ⊕ρ)}:∀{n:Nat} {s:σ} {r:ρ},nB step n s=aa r->Ag step s=aa r
 |0,s,r,h=>by cases h
 |n+1,s,r,h=>by
  have h:(match step s with
   |some (.inl s')=>nB step n s'
   |some (.inr r)=>aa r
   |none=>none)=aa r:=h
  rw[are];cases hs:step s with
  |none=>rw[hs]at h;cases h
  |some x=>
   rw[hs]at h;cases x with
   |inl s'=>exact SH h
   |inr r'=>exact h
def abK{σ ρ:Type}{step:σ->Option (σ⊕ρ)}{s:σ}{r:ρ}(h:aI step s=aa r):Ag step s=aa r:=SH h
section
variable (hP:dQ P T) (hR:cE T) (cK:∀c∈Φ,fK P T c) (hm:P.follows .mixedOrders=ab)
include hP hR cK hm
theorem aoZ [I:Rd]{id:Nat}{ops:Array aS}{draw:Bool}{sg:Sg}{ρ:Type}{σ:S D}{k:S D->Option ρ}{r:ρ}{γ:Gh D}{w:ax}{L:List (Nat×ah)}{Qx:Exit->Act->ax->Prop}(h:VJ T Φ ops.toList draw sg σ k=aa r)(hd:∀t∈dstsOf ops.toList,I.eX n t=ab)(hk:Kn σ γ w L)
  (hc:∀bc γ' w' L',Kn bc γ' w' L'->Frame γ w γ' w'->cg (dstsOf ops.toList) σ bc->k bc=aa r->NK n (Qx .normal) L' w'):CW P n (.region id ops draw) Qx L w:=by
 unfold VJ at h
 have e:ops=ops.toList.toArray:=by simp
 cases draw with
 |true=>
  dsimp only at h
  split at h
  case h_2=>cases h
  rename_i hs
  rw[e]
  have:=ajA (id:=id) (ops:=ops.toList) (post:=[]) (Qx:=Qx) hP hR cK hm rfl hs h hd hk (λbc γ' w' L' k1 k2 k3 k4=>WL.nil (hc bc γ' w' L' k1 k2 k3 k4))
  rwa[List.append_nil]at this
 |false=>
  dsimp only at h
  rw[e]
  exact CW.region (axQ hP hR cK sg h hd hk hc)
theorem ard [Rd]{c:bL}{wr:List Nat}{j:J}{pr:Bool}{E:List (Out×J)}{ρ:Type}{body:∀{ji:Type},S D->(Out->S D->Option ji)->Option ji}{σ:S D}{k:Out->S D->Option ρ}{r:ρ}{γ:Gh D}{w:ax}{L:List (Nat×ah)}{Qx:Exit->Act->ax->Prop}
  (h:SI T wr j pr E body σ k=aa r) (hk:Kn σ γ w L)
  (MY:∀{ji:Type} {bc:S D} {k':Out->S D->Option ji} {r':ji} {γ':Gh D} {w':ax} {L':List (Nat×ah)} {Q':Exit->Act->ax->Prop},body bc k'=aa r'->Kn bc γ' w' L'->(∀o aM aP w1 L1,Kn aM aP w1 L1->Frame γ' w' aP w1->cg wr bc aM->k' o aM=aa r'->NK n (Q' (toX o)) L1 w1)->CW P n c Q' L' w')
  (hc:∀o aM aP w1 L1,Kn aM aP w1 L1->Frame γ w aP w1->cg wr σ aM->k o aM=aa r->NK n (Qx (toX o)) L1 w1):CW P n (.loop c) Qx L w:=by
 unfold SI at h
 obtain⟨h0,pu,h⟩:=sQ h
 obtain⟨x,hx,hf⟩:=pJ h
 generalize DJ:j.mv++rk E=mv at*
 have hs:∀i∈σ.lk,i∈(kept σ mv).map bS++σ.lk:=λi hi=>bz.2 (.inr hi)
 have head:∀{h':HH D j.cL} {aM:S D} {aP:Gh D} {w1:ax} {L1:List (Nat×ah)},Kn aM aP w1 L1->cg wr {σ with lk:=(kept σ mv).map bS++σ.lk} aM->zh T j aM h'->Frame γ w aP w1->∀{ci:S D},lu T j wr mv σ h'=aa ci->
   ∃γ',Kn ci γ' w1 L1∧Frame γ w γ' w1∧cg wr {σ with lk:=(kept σ mv).map bS++σ.lk} {ci with lk:=(kept σ mv).map bS++σ.lk}:=by
  intro h' aM aP w1 L1 eG he hx eA ci hi
  obtain⟨bf,k1,k2,k3,_⟩:=Ap hR rfl hk eG he hx hi
  exact⟨bf,k1,eA.trans k2,k3⟩
 refine CW.loop _ (λh' L' w'=>∀ci,lu T j wr mv σ h'=aa ci->∃γ',Kn ci γ' w' L'∧Frame γ w γ' w'∧cg wr {σ with lk:=(kept σ mv).map bS++σ.lk} {ci with lk:=(kept σ mv).map bS++σ.lk}) (abK hx) ?_ ?_
 ·intro ci hi;exact head (hk.lk _) (cg.refl _ _) pu (Frame.refl _ _) hi
 ·intro K s L' w' hinv y hy DC yt;dsimp only at hy;split at hy
  case h_2=>cases hy
  rename_i ci mU;obtain⟨γ',cT,Um,mZ⟩:=hinv ci mU;refine MY hy (cT.lk _) λo aM aP w1 L1 eG Uk HK ho=>?_;have Ur:=mZ.trans HK;have out:∀{z:Option (vX D pr ρ E)} {o:Out},o≠.normal->z=toE T pr E o aM (k o {aM with lk:=σ.lk})->(match z with|some x=>aa (Sum.inr x)|none=>none)=aa y->NK n (Exit.then K Qx (toX o)) L1 w1:=by
   intro z o AL hz Mp;subst hz;split at Mp
   case h_2=>cases Mp
   rename_i x' dX;cases Mp;have:=DC x' rfl;subst this;have fin:∀o aM aP w1 L1,o≠.normal->Kn aM aP w1 L1->Frame γ w aP w1->cg wr σ aM->k o aM=aa r->NK n (Exit.then K Qx (toX o)) L1 w1:=by
    intro o aM aP w1 L1 AL k1 k2 k3 k4;have:=hc o aM aP w1 L1 k1 k2 k3 k4;cases o with
    |normal=>exact(AL rfl).elim
    |exit id=>exact this
    |goto l=>exact this
    |ret=>exact this
   rcases FO dX hf with⟨j',y,bH,h1,h2,h3⟩|h1
   ·obtain⟨bf,k1,k2,k3,k4⟩:=Ap hR rfl hk eG Ur h1 h2;have e3:=k3.JL (σ:=σ) hs;have e:({bH with lk:=σ.lk}:S D)=bH:=by rw[<-k4]
    rw[show({({bH with lk:=(kept σ mv).map bS++σ.lk}:S D)with lk:=σ.lk}:S D)={bH with lk:=σ.lk}from rfl,e]at e3;exact fin o bH bf w1 L1 AL k1 ((Um.trans Uk).trans k2) e3 h3
   ·exact fin o _ aP w1 L1 AL (eG.lk _) (Um.trans Uk) (Ur.JL hs) h1
  cases o with
  |normal=>obtain⟨h',dX,e⟩:=sQ ho;cases e;exact yt h' L1 w1 rfl λaCM ek=>head eG Ur dX (Um.trans Uk) ek
  |exit id=>exact out (by simp) rfl ho
  |goto l=>exact out (by simp) rfl ho
  |ret=>exact out (by simp) rfl ho
theorem sV [I:Rd]:∀(c:bL) (an:An) {ρ:Type} {σ:S D} {k:Out->S D->Option ρ} {r:ρ} {γ:Gh D} {w:ax} {L:List (Nat×ah)} {Qx:Exit->Act->ax->Prop},gz c=ab->(I.ro=none∨kP c=ab)->Lb P c Qx->fQ T Φ c an σ k=aa r->(∀t∈writes c,I.eX n t=ab)->Kn σ γ w L->
  (∀o bc γ' w' L',Kn bc γ' w' L'->Frame γ w γ' w'->cg (writes c) σ bc->k o bc=aa r->NK n (Qx (toX o)) L' w')->CW P n c Qx L w:=by
 intro c
 induction c with
 |skip=>
  intro an ρ σ k r γ w L Qx hN hI hL h hd hk hc
  simp only[fQ]at h
  exact CW.skip (hc .normal σ γ w L hk (Frame.refl _ _) (cg.refl _ _) h)
 |region id ops draw=>
  intro an ρ σ k r γ w L Qx hN hI hL h hd hk hc
  simp only[fQ]at h
  refine zy hR h hk (X:=λo L' w'=>NK n (Qx (toX o)) L' w') ?_ hc
  intro ji bc k' r' hb cT hx
  exact aoZ hP hR cK hm hb hd cT λaM aP w1 L1 m1 m2 m3 m4=>hx .normal aM aP w1 L1 m1 m2 m3 m4
 |seq a b tT G5=>
  intro an ρ σ k r γ w L Qx hN hI hL h hd hk hc
  have rG:I.ro=none∨kP a=ab:=hI.imp (λh=>h) λh=>by simp only[kP,bq]at h;exact h.1
  have HZ:I.ro=none∨kP b=ab:=hI.imp (λh=>h) λh=>by simp only[kP,bq]at h;exact h.2
  simp only[fQ]at h
  unfold gz at hN
  have uf:∀t∈writes a,t∈writes (.seq a b):=λt ht=>by simp only[writes];exact bz.2 (.inl ht)
  have w9:∀t∈writes b,t∈writes (.seq a b):=λt ht=>by simp only[writes];exact bz.2 (.inr ht)
  cases hl:As a with
  |some l=>
   exfalso
   obtain rfl:=ab' hl
   refine zy hR h hk (X:=λ_ _ _=>True) (λhb _ _=>?_) (λ_ _ _ _ _ _ _ _ _=>trivial)
   obtain⟨fb,_,hb⟩:=pG hb
   simp[fQ]at hb
  |none=>
  rw[hl]at hN
  simp only[bq]at hN
  have hLb:Lb P b Qx:=λl b' hs=>hL l b' (by unfold xH;rw[hl];exact hs)
  refine zy hR h hk (X:=λo L' w'=>NK n (Qx (toX o)) L' w') ?_ hc
  intro ji bc k' r' hb cT hx
  have aDi:∀t∈writes a,t∈writes (.seq a b):=λt ht=>by simp only[writes];exact bz.2 (.inl ht)
  refine CW.seq λK hK=>?_
  obtain⟨fb,ic,hb⟩:=pG hb
  obtain⟨fc,z1,z2,z3⟩:=pF ic cT
  refine tT _ hN.1.2 rG (Lb.none hN.1.1) hb (λt ht=>hd t (uf t ht)) z1 λo aM aP w1 L1 m1 m2 m3 m4=>?_
  have m3:=(z3.qC).trans (m3.mono uf)
  have m2:=z2.trans m2
  cases o with
  |normal=>
   refine hK _ _ ?_
   obtain⟨q7,hf5,m4⟩:=pG m4
   obtain⟨jj,y1,y2,y3⟩:=pF hf5 m1
   refine G5 _ hN.2 HZ hLb m4 (λt ht=>hd t (w9 t ht)) y1 λo bH bf w2 L2 n1 n2 n3 n4=>?_
   exact hx o bH bf w2 L2 n1 (m2.trans (y2.trans n2)) (m3.trans (y3.qC.trans (n3.mono w9))) n4
  |exit id=>exact hx (.exit id) aM aP w1 L1 m1 m2 m3 m4
  |goto l=>exact hx (.goto l) aM aP w1 L1 m1 m2 m3 m4
  |ret=>exact hx .ret aM aP w1 L1 m1 m2 m3 m4
 |cond x a b tT G5=>
  intro an ρ σ k r γ w L Qx hN hI hL h hd hk hc
  have rG:I.ro=none∨kP a=ab:=hI.imp (λh=>h) λh=>by simp only[kP,bq]at h;exact h.1
  have HZ:I.ro=none∨kP b=ab:=hI.imp (λh=>h) λh=>by simp only[kP,bq]at h;exact h.2
  simp only[fQ]at h
  refine zy hR h hk (X:=λo L' w'=>NK n (Qx (toX o)) L' w') ?_ hc
  intro ji bc k' r' hb cT hx
  have uf:∀t∈writes a,t∈writes (.cond x a b):=λt ht=>by simp only[writes];exact bz.2 (.inl ht)
  have w9:∀t∈writes b,t∈writes (.cond x a b):=λt ht=>by simp only[writes];exact bz.2 (.inr ht)
  unfold gz at hN
  simp only[bq]at hN
  split at hb
  case h_2=>cases hb
  rename_i d K g b6
  obtain⟨v,h1,h2⟩:=cz cT.sr b6
  have h2:v= .bool d:=h2.1
  subst h2
  intro a' jV
  refine wpIn_cond_split (jV.ev h1) (λvD=>?_) (λhdf=>?_)
  ·subst vD;obtain⟨fb,ic,hb⟩:=pG hb;obtain⟨fc,z1,z2,z3⟩:=pF ic cT;refine tT _ hN.1.2 rG (Lb.none hN.1.1.1) hb (λt ht=>hd t (uf t ht)) z1 (λo aM aP w1 L1 m1 m2 m3 m4=>hx o aM aP w1 L1 m1 (z2.trans m2) (z3.qC.trans (m3.mono uf)) m4) a' jV
  ·subst hdf;obtain⟨fb,ic,hb⟩:=pG hb;obtain⟨fc,z1,z2,z3⟩:=pF ic cT;refine G5 _ hN.2 HZ (Lb.none hN.1.1.2) hb (λt ht=>hd t (w9 t ht)) z1 (λo aM aP w1 L1 m1 m2 m3 m4=>hx o aM aP w1 L1 m1 (z2.trans m2) (z3.qC.trans (m3.mono w9)) m4) a' jV
 |block id a tT=>
  intro an ρ σ k r γ w L Qx hN hI hL h hd hk hc
  have rG:I.ro=none∨kP a=ab:=hI.imp (λh=>h) λh=>by simp only[kP]at h;exact h
  simp only[fQ]at h
  refine zy hR h hk (X:=λo L' w'=>NK n (Qx (toX o)) L' w') ?_ hc
  intro ji bc k' r' hb cT hx
  refine CW.block ?_
  unfold gz at hN
  simp only[bq]at hN
  obtain⟨fb,ic,hb⟩:=pG hb
  obtain⟨fc,z1,z2,z3⟩:=pF ic cT
  refine tT _ hN.2 rG (Lb.none hN.1) hb hd z1 λo aM aP w1 L1 m1 m2 m3 m4=>?_
  have m2:=z2.trans m2
  have m3:=z3.qC.trans m3
  cases o with
  |normal=>exact hx .normal aM aP w1 L1 m1 m2 m3 m4
  |exit Au=>
   dsimp only at m4
   intro a' jV
   show(if Au=id then Qx .normal a' w1 else Qx (.exit Au) a' w1)
   cases hb:aT Au id with
   |true=>
    rw[hb]at m4
    rw[aG (bA hb)]
    exact hx .normal aM aP w1 L1 m1 m2 m3 m4 a' jV
   |false=>
    rw[hb]at m4
    have bQ:¬Au=id:=λe=>by subst e;simp at hb
    rw[aK bQ]
    exact hx (.exit Au) aM aP w1 L1 m1 m2 m3 m4 a' jV
  |goto l=>exact hx (.goto l) aM aP w1 L1 m1 m2 m3 m4
  |ret=>exact hx .ret aM aP w1 L1 m1 m2 m3 m4
 |loop a tT=>
  intro an ρ σ k r γ w L Qx hN hI hL h hd hk hc
  have rG:I.ro=none∨kP a=ab:=hI.imp (λh=>h) λh=>by simp only[kP]at h;exact h
  cases an with
  |loop j pr E x=>
   simp only[fQ]at h
   unfold gz at hN
   simp only[bq]at hN
   refine ard hP hR cK hm h hk ?_ hc
   intro ji bc k' r' γ' w' L' Q' hb cT hx
   obtain⟨fb,ic,hb⟩:=pG hb
   obtain⟨fc,z1,z2,z3⟩:=pF ic cT
   exact tT x.un hN.2 rG (Lb.none hN.1) hb hd z1 λo aM aP w1 L1 m1 m2 m3 m4=>hx o aM aP w1 L1 m1 (z2.trans m2) (z3.qC.trans m3) m4
  |_=>simp[fQ]at h
 |exit id=>
  intro an ρ σ k r γ w L Qx hN hI hL h hd hk hc
  simp only[fQ]at h
  exact CW.exit (hc (.exit id) σ γ w L hk (Frame.refl _ _) (cg.refl _ _) h)
 |ret=>
  intro an ρ σ k r γ w L Qx hN hI hL h hd hk hc
  simp only[fQ]at h
  have:=hc .ret σ γ w L hk (Frame.refl _ _) (cg.refl _ _) h
  exactλa ha=>wpIn_ret (this a ha)
 |rangeFunc=>intro an ρ σ k r γ w L Qx hN hI hL h;simp[fQ]at h
 |scope a tT=>
  intro an ρ σ k r γ w L Qx hN hI hL h hd hk hc
  have D1:I.ro=none:=hI.resolve_right λh=>by simp[kP]at h
  have rG:I.ro=none∨kP a=ab:= .inl D1
  simp only[fQ]at h
  unfold gz at hN
  refine zy hR h hk (X:=λo L' w'=>NK n (Qx (toX o)) L' w') ?_ hc
  intro ji bc k' r' hb cT hx
  obtain⟨fb,ic,hb⟩:=pG hb
  obtain⟨fc,z1,z2,z3⟩:=pF ic cT
  cases hs:xH a with
  |none=>
   intro a' jV
   refine aoA D1 (tT _ hN rG (Lb.none (by unfold iT;rw[hs];rfl)) hb hd z1 (λo aM aP w1 L1 m1 m2 m3 m4=>?_) a' jV)
   have m2:=z2.trans m2
   have m3:=z3.qC.trans m3
   cases o with
   |normal=>exact hx .normal aM aP w1 L1 m1 m2 m3 m4
   |exit id=>exact hx (.exit id) aM aP w1 L1 m1 m2 m3 m4
   |goto l=>cases m4
   |ret=>exact hx .ret aM aP w1 L1 m1 m2 m3 m4
  |some q=>
   obtain⟨l,b⟩:=q
   obtain⟨rest,hf,AF⟩:=anY (P:=P) a hs hN
   intro a' jV
   refine aoB D1 hf (tT _ hN rG (λl' b' wT=>?_) hb hd z1 (λo aM aP w1 L1 m1 m2 m3 m4=>?_) a' jV)
   ·rw[hs]at wT;cases wT;refine⟨tS P rest l Qx,λm a w h=>AF _ _ _ (wpIn_mono h (λe a' w' he=>?_)),λm a w h=>⟨rfl,m,h⟩⟩;cases e with
    |goto q=>
     have he:(if q=l then tS P rest l Qx m a' w' else(q=l∧∃m,tS P rest l Qx m a' w')):=he;split at he
     ·rename_i hq;exact⟨hq,he⟩
     ·rename_i hq;exact(hq he.1).elim
    |_=>exact he
   ·have m2:=z2.trans m2;have m3:=z3.qC.trans m3;cases o with
    |normal=>exact hx .normal aM aP w1 L1 m1 m2 m3 m4
    |exit id=>exact hx (.exit id) aM aP w1 L1 m1 m2 m3 m4
    |goto l=>cases m4
    |ret=>exact hx .ret aM aP w1 L1 m1 m2 m3 m4
 |label=>intro an ρ σ k r γ w L Qx hN hI hL h;simp[fQ]at h
 |goto l=>
  intro an ρ σ k r γ w L Qx hN hI hL h hd hk hc
  simp only[fQ]at h
  have:=hc (.goto l) σ γ w L hk (Frame.refl _ _) (cg.refl _ _) h
  exactλa ha=>wpIn_goto (this a ha)
 |refuse=>intro an ρ σ k r γ w L Qx hN hI hL h;simp[fQ]at h
end
def aoP{t:TypeId}{a:Bool}{z:List ah}{pa:Addr}{cs:List ah}{w:ax}(hT:bp P t a z)(hz:a=ai->z.length=1)(hc:j8 w pa cs)(hl:cs.length=z.length):(loadVar t pa).run P w= .ok (pack a cs) w:=by
 simp only[loadVar,Sem.run_bind,hT.isAgg,Result.andThen_ok];cases a with
 |true=>have:=run_loadCells_list (P:=P) w pa cs hc;rw[hl]at this;simp[hT.sizeOf,this,pack]
 |false=>
  rw[hz rfl]at hl;match cs,hl,hc with
  |[u],_,hc=>
   have:=hc 0 u rfl;have hu:w.cell? pa=aa u:=by simpa[Addr.add]using this
   simp[pack,hu]
def RQ(hP:dQ P T){σ:S D}{γ:Gh D}{w:ax}{L:List (Nat×ah)}(hk:Kn σ γ w L):∀{rs:List lc} {l:List Nat} {fj:List (AV D)},Q.R σ.ob (C1 T σ.sl rs) l fj->∃vs,zb P L w rs vs∧nj (λi=>i<σ.nx) γ w fj vs
 |[],l,fj,h=>by obtain⟨_,rfl⟩:=h;exact⟨[],trivial,trivial⟩
 | .tmp t::rs,l,fj,h=>by
   simp only[C1]at h;split at h
   case h_2=>cases h
   rename_i a ha;obtain⟨l1,l2,bs,_,h1,h2⟩:=Q.fU h;obtain⟨_,rfl⟩:=h2;obtain⟨v,k1,k2⟩:=hk.sr t a ha;obtain⟨vs,k3,k4⟩:=RQ hP hk h1;exact⟨v::vs,⟨k1,k3⟩,k2,k4⟩
 | .cell t ty::rs,l,fj,h=>by
   simp only[C1]at h;split at h
   case h_2=>cases h
   rename_i i off eb ha ht;obtain⟨ao,l',ho,rfl,h⟩:=h;cases ao with
   |sl=>cases h
   |cX=>cases h
   |im=>cases h
   |fz=>cases h
   |mp=>cases h
   |box cs=>
    dsimp only at h;split at h
    case h_2=>cases h
    rename_i a MV;obtain⟨l1,l2,bs,_,h1,h2⟩:=Q.fU h;obtain⟨_,rfl⟩:=h2;obtain⟨v,k1,_,b,hg,rfl⟩:=hk.sr t _ ha;obtain⟨_,_,b',us,t',m1,m2,m3,m4,m5⟩:=hk.ob.ob i _ ho;rw[hg]at m1;obtain⟨rfl,_⟩:=Lp m1;obtain⟨n1,n2⟩:=NQ m4 MV;obtain⟨vs,k3,k4⟩:=RQ hP hk h1;have hT:=(hP.ty ty eb ht).1;have fw:=aoP (w:=w) hT (PU T eb) (VZ m3 off (eb.n T)) (by rw[FA];simp;omega);exact⟨_::vs,⟨⟨_,k1,fw⟩,k3⟩,n2,k4⟩
def O4{U:Nat->Prop}{γ:Gh D}{w:ax}:∀{as:List (AC D)} {vs:List ah} {k:Nat},jf U γ w as vs->SR U γ w (EW k as) (sZ k vs)
 |[],[],k,_=>λt a h=>by simp[EW,aE]at h
 |a::as,v::vs,k,h=>SR.cons (O4 h.2) h.1
 |[],_::_,k,h=>h.elim
 |_::_,[],k,h=>h.elim
def o_(m:M D)(x:Nat):Nat:=match aE (swap m.ids) x with
 |some p=>p
 |none=>if bM m.ku x then 1 else if x<4 then x else 2
def aaw(hP:dQ P T)(hR:cE T){σ:S D}{γ:Gh D}{w:ax}{L:List (Nat×ah)}{c:az D}{rs:List lc}{r:HH D c.outs}(hk:Kn σ γ w L)(UF:∀q∈c.b7,1000<=q.1)(hs:∀q∈c.ob,q.1<2000)(h:uY.fin T c rs σ=aa r):
  ∃vs,zb P L w rs vs∧∃γ' uX ke,gX T (dE T c.outs r) aa id 3000 c.jR=aa uX∧jC T (dE T c.outs r) aa id 3000 c.b7=aa ke∧vS (λ_=>True) γ' w uX (xP vs)∧(∀p x,dt ke p=aa x->OR (λ_=>True) γ' w p x)∧
   (∀p,(p,p)∈stay c->γ'.g p=γ.g p)∧Frame0 γ w γ' w:=by
 unfold uY.fin at h
 obtain⟨l,fj,h1,h2⟩:=Q.H3 h
 obtain⟨l',x,h3,h4⟩:=Q.H3 h2
 obtain⟨hh,m⟩:=x
 dsimp only at h4
 split at h4
 case h_2=>cases h4
 rename_i uX ke kR nF
 have h4:=jM h4
 subst h4
 obtain⟨vs,k1,k2⟩:=RQ hP hk h1
 obtain⟨⟨hex,DN⟩,vB⟩:=Nm hR hk.ob h3 k2
 dsimp only at hex DN vB
 have ua:∀x,(∀p,(p,x)∉m.ids)->aE (swap m.ids) x=none:=λx hn=>by
  cases hl:aE (swap m.ids) x with
  |none=>rfl
  |some p=>exact(hn p (wv.1 (dM hl))).elim
 have yq:∀x,x<4->o_ m x=x:=λx hx=>by
  unfold o_;rw[ua x λp hp=>by have:=hex.Dw p x hp;omega];have h1:bM m.ku x=ai:=by
   cases hm:bM m.ku x with
   |true=>have:=(hex.ku x (et.1 hm)).1;omega
   |false=>rfl
  simp only[h1,aD,aC];rw[aG hx]
 have TI:∀x,x∈m.ku->o_ m x=1:=λx hx=>by unfold o_;rw[ua x (hex.ku x hx).2];simp only[et.2 hx,aH]
 have auZ:∀p i,(p,i)∈m.ids->o_ m i=p:=λp i hp=>by unfold o_;rw[Mb hex.ids hp]
 have Bc:Fin T (λi=>i<σ.nx) (λ_=>True) γ ⟨λb=>o_ m (γ.o b),qA γ m,ga γ.v 3000 (dE T c.outs hh)⟩ w m (dE T c.outs hh) 3000:=by
  refine⟨hex.dv,λp i hp=>⟨trivial,H4 hex hp⟩,λi x hx=>?_,λ_ p _ Tq _=>?_,λK Kp ew hK wZ b hb=>?_,λq K Kp hq ew hK wZ b hb=>?_,λi d hd=> .inr ⟨trivial,GO hd⟩⟩
  ·have:=(hex.new _ hx).1;simp only at this;show ¬i<σ.nx;omega
  ·rw[hex.YW]at Tq;omega
  ·unfold M.may at ew;rw[hex.BA]at ew;simp only[aD,aC,FT,dR]at ew;have hb:γ.o b∈K:=hb;show o_ m (γ.o b)∈Kp;rw[yq _ (by have:=hK _ hb;omega)];exact et.1 (ew _ hb)
  ·unfold M.may at ew;rw[hex.BA]at ew;simp only[aD,aC,FT,dR]at ew;have hb:γ.o b∈q::K:=hb;show o_ m (γ.o b)∈Kp;rcases cr.1 hb with hb|hb
   ·rw[hb,TI q hq];exact et.1 (ew 1 (by simp))
   ·rw[yq _ (by have:=hK _ hb;omega)];exact et.1 (ew _ (by simp[hb]))
 have Bb:Fk γ ⟨λb=>o_ m (γ.o b),qA γ m,ga γ.v 3000 (dE T c.outs hh)⟩ m:=⟨λp i hp b hb=>by show o_ m (γ.o b)=p;rw[hb];exact auZ p i hp⟩
 obtain⟨g1,g2⟩:=vB Bc Bb
 have ru:=g1 uX kR
 refine⟨vs,k1,_,uX,ke,kR,nF,?_,λp x hx=>(g2 ke nF p x hx).2.2,λp hp=>?_,⟨rfl,rfl,rfl,bw _,λb hb hc=>⟨yq _ (by omega),rfl⟩,λb hb hc=>⟨hb,?_⟩⟩⟩
 ·unfold vS;match uX,vs,ru with
  |[],[],_=>exact⟨[],rfl,trivial⟩
  |[a],[v],ru=>exact ru.1
  |a::a'::as,v::v'::vs,ru=>exact⟨v::v'::vs,rfl,ru⟩
  |[],_::_,ru=>exact ru.elim
  |_::_,[],ru=>exact ru.elim
  |[a],v::v'::vs,ru=>exact ru.2.elim
  |a::a'::as,[v],ru=>exact ru.2.elim
 ·have iq:=hex.Tk _ hp;refine(H4 hex iq).2 λx hx=>?_;have h5:=(hex.new _ hx).1;simp only at h5;have hpb:p<2000:=by unfold stay at hp;obtain⟨q,hq,e⟩:=dC.1 hp;cases e;obtain⟨q',tZ⟩:=su (k_.1 hq).2;exact hs (q.1,q') tZ
  have:=hk.cI;omega
 ·show γ.o b=o_ m (γ.o b);have hc:o_ m (γ.o b)=0∨o_ m (γ.o b)=3:=hc;have vr:∀p i,(p,i)∈m.ids->1000<=p:=λp i hp=>by obtain⟨q,hq⟩:=su (hex.key p i hp);exact UF (p,q) hq
  unfold o_ at hc⊢;cases hl:aE (swap m.ids) (γ.o b)with
  |some p=>rw[hl]at hc;have:=vr p _ (wv.1 (dM hl));dsimp only at hc;omega
  |none=>
   rw[hl]at hc;dsimp only at hc⊢;split at hc
   ·omega
   ·split at hc
    ·rename_i h5 h6;simp only[h5,h6,aH,aC];simp
    ·omega
def jf.len{U:Nat->Prop}{γ:Gh D}{w:ax}:∀{as:List (AC D)} {vs:List ah},jf U γ w as vs->vs.length=as.length
 |[],[],_=>rfl
 |_::as,_::vs,h=>by simp[jf.len h.2]
 |[],_::_,h=>h.elim
 |_::_,[],h=>h.elim
def aes(hP:dQ P T)(hR:cE T){c:az D}{fn:Func}{code:bL}{rs:List lc}
  (jT:∀(args:Array ah) (w:ax),(callFunc c.f args).run P w= .ok (.enter c.f args) w)
  (hf:P.funcs[c.f]? =aa fn) (hb:fn.body=aa code) (kR:fn.results=rs.toArray)
  (bU:((writes code).all (λt=>dx t fn.ntmps)&&ef c.args.length fn.ntmps&&sw c.jR c.b7&&mq (c.b7.map bS)&&c.b7.all (λp=>ef 1000 p.1)&&ef c.b7.length 40)=ab)
  (asO:∀h r,c.fn h=aa r->∃σ,yK T c h=aa σ∧∀{γ:Gh D} {w:ax} {L:List (Nat×ah)} {Qx:Exit->Act->ax->Prop},Kn σ γ w L->
    (∀o bc γ' w' L',Kn bc γ' w' L'->Frame γ w γ' w'->uY T c rs o bc=aa r->NK fn.ntmps (Qx (toX o)) L' w')->CW P fn.ntmps code Qx L w):fK P T c:=by
 simp only[bq]at bU
 obtain⟨⟨⟨⟨⟨hw,hl⟩,jD⟩,AZ⟩,qz⟩,yB⟩:=bU
 refine⟨jT,jD,AZ,qz,yB,λh r hr as eO has nF γ w vs hv bG=>?_⟩
 obtain⟨σ,lz,hwk⟩:=asO h r hr
 unfold yK at lz
 dsimp only at lz
 split at lz
 case isFalse=>cases lz
 rename_i hc
 rw[has,nF]at lz
 have lz:=jM lz
 subst lz
 simp only[bq,dR]at hc qz hw
 have mx:=O4 (k:=0) hv
 have hlen:=hv.len
 have AX:=Dv has
 refine enter hf hb rfl (by rw[hlen,AX];exact hl) ?_
 refine hwk (γ:=γ) ⟨mx,bG,bw _⟩ λo bc γ' w' L' cT eA ho=>?_
 have fin:∀{bc},Kn bc γ' w' L'->uY.fin T c rs bc=aa r->∃vs,zb P L' w' rs vs∧mb (λv w'=>∃U' γ' rs ke,gX T (dE T c.outs r) aa id 3000 c.jR=aa rs∧jC T (dE T c.outs r) aa id 3000 c.b7=aa ke∧
   vS U' γ' w' rs v∧(∀p x,dt ke p=aa x->OR U' γ' w' p x)∧(∀p,(p,p)∈stay c->γ'.g p=γ.g p)∧Frame0 γ w γ' w') (.returned (xP vs)) w':=by
  intro bc cT ho
  obtain⟨vs,h1,bf,uX,ke,h2,h3,h4,h5,h6,h7⟩:=aaw hP hR cT (λq hq=>dm (qz q hq)) (λq hq=>by have:=dm (hc.2 q hq).2;omega) ho
  refine⟨vs,h1,_,rfl,_,bf,uX,ke,h2,h3,h4,h5,λp hp=>?_,eA.toFrame0.trans h7⟩
  rw[h6 p hp]
  refine eA.gk p ?_
  unfold stay at hp
  obtain⟨q,hq,e⟩:=dC.1 hp
  cases e
  obtain⟨q',tZ⟩:=su (k_.1 hq).2
  have:=dm (hc.2 _ tZ).2
  simp only at this
  omega
 cases o with
 |normal=>
  obtain⟨vs,h1,h2⟩:=fin cT ho
  exactλa ha=>bodyPost_end (zJ (λ_ _ hx=>ha.ev hx) kR h1) ha.defers h2
 |ret=>
  obtain⟨vs,h1,h2⟩:=fin cT ho
  exactλa ha=>bodyPost_ret (zJ (λ_ _ hx=>ha.ev hx) kR h1) ha.defers h2
 |exit id=>cases ho
 |goto l=>cases ho
def aeq(hP:dQ P T)(hR:cE T)(cK:∀c∈Φ,fK P T c)(hm:P.follows .mixedOrders=ab){c:az D}{fn:Func}{code:bL}{rs:List lc}{an:An}
  (jT:∀(args:Array ah) (w:ax),(callFunc c.f args).run P w= .ok (.enter c.f args) w)
  (hf:P.funcs[c.f]? =aa fn) (hb:fn.body=aa code) (kR:fn.results=rs.toArray)
  (bU:((writes code).all (λt=>dx t fn.ntmps)&&ef c.args.length fn.ntmps&&sw c.jR c.b7&&mq (c.b7.map bS)&&c.b7.all (λp=>ef 1000 p.1)&&ef c.b7.length 40)=ab)
  (rD:∀h,KK T Φ c rs code an h=c.fn h):fK P T c:=by
 refine aes hP hR jT hf hb kR bU λh r hr=>?_
 simp only[bq]at bU
 obtain⟨⟨⟨⟨⟨hw,_⟩,_⟩,_⟩,_⟩,_⟩:=bU
 simp only[dR]at hw
 rw[<-rD]at hr
 unfold KK at hr
 split at hr
 case h_2=>cases hr
 rename_i jp
 simp only[bq]at jp
 split at hr
 case h_2=>cases hr
 rename_i σ lz
 refine⟨σ,lz,λhk hc=>?_⟩
 obtain⟨fb,ic,hr⟩:=pG hr
 obtain⟨fc,z1,z2,z3⟩:=pF ic hk
 exact sV hP hR cK hm code an.un jp.2 (.inl rfl) (Lb.none jp.1) hr (λt ht=>by unfold Rd.eX;rw[hw t ht];rfl) z1 λo bc γ' w' L' cT eA HJ ho=>hc o bc γ' w' L' cT (z2.trans eA) ho
abbrev tI(T:bb D)(Φ:List (az D))(c:az D)(rs:List lc)(code:bL)(an:An):az D:=⟨c.f,c.ins,c.outs,c.args,c.ob,c.jR,c.b7,KK T Φ c rs code an⟩
def wB(hP:dQ P T)(hR:cE T)(cK:∀c∈Φ,fK P T c)(hm:P.follows .mixedOrders=ab){c:az D}{fn:Func}{code:bL}{rs:List lc}{an:An}
  (jT:∀(args:Array ah) (w:ax),(callFunc c.f args).run P w= .ok (.enter c.f args) w)
  (hf:P.funcs[c.f]? =aa fn) (hb:fn.body=aa code) (kR:fn.results=rs.toArray)
  (bU:((writes code).all (λt=>dx t fn.ntmps)&&ef c.args.length fn.ntmps&&sw c.jR c.b7&&mq (c.b7.map bS)&&c.b7.all (λp=>ef 1000 p.1)&&ef c.b7.length 40)=ab):fK P T (tI T Φ c rs code an):=
 aeq (c:=tI T Φ c rs code an) (an:=an) hP hR cK hm jT hf hb kR bU λ_=>rfl
