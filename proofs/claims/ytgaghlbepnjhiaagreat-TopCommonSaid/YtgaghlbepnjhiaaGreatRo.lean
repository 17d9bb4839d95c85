import Derived.ScopeJumps
import Derived.Test.YtgaghlbepnjhiaaGreatRm
set_option linter.all false
open Array renaming getD->uN
open Bool renaming and_eq_true->bt,false->ae,false_eq_true->aC,not_eq_true'->p9,or_eq_true->sj,true->ab
open Classical renaming byContradiction->gD
open Go renaming Code->bO,Oper->aV,Program->cT,ResultVar->lT,Value->ai,World->ax
open List renaming all_eq_true->dX,filter_cons_of_neg->p8,filter_cons_of_pos->lS,getD_eq_getElem?_getD->uK,getElem?_append_left->mr,getElem?_eq_getElem->oe,getElem?_eq_some_iff->g9,length_cons->jd,mem_append->bg,mem_cons->cj,mem_filter->kH,mem_map->dk,mem_of_getElem?->o8,mem_range->ew,range->bW
open Nat renaming beq->aW,ble->eN,ble_eq_true_of_le->J2,blt->dJ,eq_of_beq_eq_true->bA,le_of_ble_eq_true->dw,le_refl->bw,zero_add->ke
open Option renaming some->aa
open Option.some renaming inj->kb
open Prod renaming fst->bV
noncomputable section
namespace Go.Proofs.YtgaghlbepnjhiaaGreat
open Go Go.RowKit Dp
namespace Rx
section
variable {α:Type} {g:Nat->List (Nat×α)} {l0:List (Nat×α)} {D D':Nat->Bool} {i p:Nat}
def acc(g:Nat->List (Nat×α))(l0:List (Nat×α))(D:Nat->Bool):Nat->List (Nat×α)
 |0=>l0
 |n+1=>cond (D n) (g n++acc g l0 D n) (acc g l0 D n)
def Fx:∀{n:Nat},(∀q,q<n->i∈(g q).map bV->D q=D' q)->aF (acc g l0 D n) i=aF (acc g l0 D' n) i
 |0,_=>rfl
 |n+1,h=>by
  have ih:=Fx (n:=n) λq hq=>h q (by omega);simp only[acc];by_cases hi:i∈(g n).map bV
  ·rw[h n (by omega) hi];cases D' n with
   |true=>simp only[wi,kq,ih]
   |false=>exact ih
  ·have hn:=qx.2 hi;have e:∀l,aF (g n++l) i=aF l i:=λl=>by rw[kq,hn]
   cases D n<;>cases D' n<;>simp only[wi,sd,e,ih]
def akU(hp:D p=ab)(hi:i∈(g p).map bV):∀{n:Nat},p<n->(∀q,p<q->q<n->D q=ab->i∉(g q).map bV)->aF (acc g l0 D n) i=aF (g p) i
 |0,h,_=>by omega
 |n+1,h,hq=>by
  simp only[acc];by_cases hpn:p=n
  ·subst hpn;rw[hp];simp only[wi,kq];cases hl:aF (g p) i with
   |none=>exact(qx.1 hl hi).elim
   |some a=>rfl
  ·have ih:=akU hp hi (n:=n) (by omega) λq h1 h2=>hq q h1 (by omega);cases hD:D n with
   |false=>exact ih
   |true=>simp only[wi,kq,qx.2 (hq n (by omega) (by omega) hD)];exact ih
def Yg:∀{n:Nat},(∀q,q<n->D q=D' q)->acc g l0 D n=acc g l0 D' n
 |0,_=>rfl
 |n+1,h=>by simp only[acc];rw[Yg (n:=n) λq hq=>h q (by omega),h n (by omega)]
def JK:∀{n k:Nat},(∀q,n<=q->D q=ae)->acc g l0 D (n+k)=acc g l0 D n
 |n,0,_=>rfl
 |n,k+1,h=>by rw[Nat.add_succ];simp only[acc];rw[h (n+k) (by omega)];exact JK h
def akT{n N:Nat}(h:n<=N):acc g l0 (λ_=>ab) n=acc g l0 (λq=>dJ q n) N:=by
 obtain⟨k,rfl⟩:∃k,N=n+k:=⟨N-n,by omega⟩;rw[JK λq hq=>by
  cases hb:dJ q n with
  |true=>have:=dw hb;omega
  |false=>rfl]
 refine Yg λq hq=>?_;exact(J2 hq).symm
def JL:∀{n:Nat},acc g l0 (λ_=>ab) (n+1)=acc (λq=>g (q+1)) (g 0++l0) (λ_=>ab) n
 |0=>rfl
 |n+1=>by have:=JL (n:=n);simp only[acc,wi]at this⊢;rw[this]
def ins(D:Nat->Bool)(p:Nat):Nat->Bool:=λj=>D j||aW j p
def ac_(D:Nat->Bool)(p:Nat):ins D p p=ab:=by simp[ins]
def Hz{q:Nat}(h:q≠p):ins D p q=D q:=by
 have:aW q p=ae:=by
  cases hb:aW q p with
  |true=>exact(h (bA hb)).elim
  |false=>rfl
 simp[ins,this]
def akV{n:Nat}(hp:p<n)(hD:D p=ae)(h:∀i∈(g p).map bV,∀q,p<q->q<n->D q=ab->i∉(g q).map bV)(i:Nat):aF (acc g l0 (ins D p) n) i=aF (g p++acc g l0 D n) i:=by
 by_cases hi:i∈(g p).map bV
 ·rw[akU (ac_ D p) hi hp λq h1 h2 h3=>h i hi q h1 h2 (by rw[Hz (by omega)]at h3;exact h3),kq];cases hl:aF (g p) i with
  |none=>exact(qx.1 hl hi).elim
  |some a=>rfl
 ·rw[kq,qx.2 hi];refine Fx λq hq hm=>?_;by_cases pH:q=p
  ·subst pH;exact(hi hm).elim
  ·exact Hz pH
end
section
variable {D:Nat->Type} [∀n,ad (D n)]
variable {P:cT} {T:bc D} {Φ:List (az D)} {n:Nat}
inductive RS(D:Nat->Type)|run (e:de D) (l:List Nat)|skip
def dl(d:Option Nat)(a:AV D):List (Nat×AV D):=match d with
 |some d=>[(d,a)]
 |none=>[]
def gS(o:aV):RS D->List (Nat×AV D)
 | .run e _=>dl o.dst e.dst
 | .skip=>dl o.dst (.c (.one .undef))
def gO:RS D->List (Nat×Option (AO D))
 | .run e _=>e.fz.map (λi=>(i,none))++e.sv
 | .skip=>[]
def x_(σ:S D)(o:aV)(x:RS D):S D:=⟨gS o x++σ.sl,gO x++σ.ob,σ.nx+128,σ.lk⟩
def aoY{σ:S D}{o:aV}{e:de D}{l:List Nat}:x_ σ o (.run e l)=zq σ o.dst e:=by cases h:o.dst<;>simp[x_,zq,gS,gO,dl,h]
def aoX{σ:S D}{o:aV}:x_ σ o .skip=u7 σ o.dst:=by cases h:o.dst<;>simp[x_,u7,gS,gO,dl,h]
def axl{o:aV}{x:RS D}{t:Nat}:t∈(gS o x).map bV↔o.dst=aa t:=by cases x<;>cases h:o.dst<;>simp[gS,dl,h,eq_comm]
def axm{e:de D}{l:List Nat}{i:Nat}(h:i∈(gO (.run e l)).map bV):i∈e.wr:=by
 unfold de.wr;simp only[gO,List.map_append,List.map_map,bg,dk]at h⊢;rcases h with⟨x,h,rfl⟩|h
 ·exact .inr h
 ·exact .inl h
def alk(T:bc D)(Φ:List (az D))(ops:List aV)(σ:S D)(o:aV):RS D->Prop
 | .run e l=>(∀j b,o.guard=aa (j,b)->∃og d K g,ops[j]? =aa og∧og.dst=aa d∧aF σ.sl d=aa (.c (.one (.v .bool b K g))))∧
     ∃as,eX σ.sl o.op.operands.toList=aa as∧Q.R σ.ob (Av T Φ σ.nx o.op as) l e∧ED σ.lk e=ab
 | .skip=>∃j b og d a,o.guard=aa (j,b)∧ops[j]? =aa og∧og.dst=aa d∧aF σ.sl d=aa a∧((∃K g,a= .c (.one (.v .bool (!b) K g)))∨a= .c (.one .undef))
def Tr(T:bc D)(Φ:List (az D))(ops:List aV):List aV->List (RS D)->S D->Prop
 |[],[],_=>True
 |o::r,x::xs,σ=>alk T Φ ops σ o x∧Tr T Φ ops r xs (x_ σ o x)
 |_,_,_=>False
def runT:List aV->List (RS D)->S D->S D
 |o::r,x::xs,σ=>runT r xs (x_ σ o x)
 |_,_,σ=>σ
def AG:List (RS D)->Nat->List Lg->List Lg
 |[],_,lg=>lg
 | .run e l::xs,p,lg=>AG xs (p+1) (⟨p,l.reverse,e.wr⟩::lg)
 | .skip::xs,p,lg=>AG xs (p+1) lg
structure pV(σ be:S D):Prop where
 sl:∀t,aF σ.sl t=aF be.sl t
 ob:σ.ob=be.ob
 nx:σ.nx=be.nx
 lk:σ.lk=be.lk
def V9{sl Di:List (Nat×AV D)}:∀{l:List Operand},(∀t,.tmp t∈l->aF sl t=aF Di t)->eX sl l=eX Di l
 |[],_=>rfl
 |x::l,h=>by
  simp only[eX];rw[V9 (l:=l) λt ht=>h t (by simp[ht])];have:eY sl x=eY Di x:=by
   cases x with
   |tmp t=>exact h t (by simp)
   |_=>rfl
  rw[this]
def pV.st{σ be:S D}(h:pV σ be)(o:aV)(x:RS D):pV (x_ σ o x) (x_ be o x):=by
 refine⟨λt=>?_,?_,?_,h.lk⟩
 ·show aF (gS o x++σ.sl) t=aF (gS o x++be.sl) t;rw[kq,kq,h.sl]
 ·show gO x++σ.ob=gO x++be.ob;rw[h.ob]
 ·show σ.nx+128=be.nx+128;rw[h.nx]
def trace{ops:List aV}:∀{l:List aV} {p:Nat} {σ be:S D} {lg:List Lg} {ρ:Type} {k:S D->List Lg->Option ρ} {r:ρ},jn T Φ ops l p be lg k=aa r->pV σ be->∃rs kJ,Tr T Φ ops l rs σ∧pV (runT l rs σ) kJ∧k kJ (AG rs p lg)=aa r
 |[],p,σ,be,lg,ρ,k,r,h,he=>⟨[],be,trivial,he,h⟩
 |o::l,p,σ,be,lg,ρ,k,r,h,he=>by
  have run:∀{ff:S D},pV σ ff->(∀j b,o.guard=aa (j,b)->∃og d K g,ops[j]? =aa og∧og.dst=aa d∧aF σ.sl d=aa (.c (.one (.v .bool b K g))))->zV T Φ p o ff lg (λσ lg=>jn T Φ ops l (p+1) σ lg k)=aa r->
    ∃rs kJ,Tr T Φ ops (o::l) rs σ∧pV (runT (o::l) rs σ) kJ∧k kJ (AG rs p lg)=aa r:=by
   intro ff rL hg h
   obtain⟨as,e,l',h1,h2,h3,h4⟩:=aaH h
   rw[<-aoY (l:=l')]at h4
   obtain⟨rs,kJ,t1,t2,t3⟩:=trace h4 (rL.st o (.run e l'))
   refine⟨.run e l'::rs,kJ,⟨⟨hg,as,?_,?_,?_⟩,t1⟩,t2,t3⟩
   ·rw[V9 λt _=>rL.sl t];exact h1
   ·rw[rL.ob,rL.nx];exact h2
   ·rw[rL.lk];exact h3
  have pass:∀{ff:S D},pV σ ff->(∃j b og d a,o.guard=aa (j,b)∧ops[j]? =aa og∧og.dst=aa d∧aF σ.sl d=aa a∧((∃K g,a= .c (.one (.v .bool (!b) K g)))∨a= .c (.one .undef)))->jn T Φ ops l (p+1) (u7 ff o.dst) lg k=aa r->
    ∃rs kJ,Tr T Φ ops (o::l) rs σ∧pV (runT (o::l) rs σ) kJ∧k kJ (AG rs p lg)=aa r:=by
   intro ff rL hg h
   rw[<-aoX]at h
   obtain⟨rs,kJ,t1,t2,t3⟩:=trace h (rL.st o .skip)
   exact⟨.skip::rs,kJ,⟨hg,t1⟩,t2,t3⟩
  simp only[jn]at h;split at h
  ·rename_i hg;exact run he (λj b hb=>by rw[hg]at hb;cases hb) h
  ·rename_i j b hg;split at h
   case h_1=>cases h
   rename_i d a vJ;obtain⟨og,ho,vO,hl⟩:=VR vJ;rw[<-he.sl]at hl;split at h
   ·rename_i c K g;have yK:∀c',c=c'->pV σ (lu be d c' K g):=λc' hc=>by
     subst hc;exact⟨λt=>by show _=aF ((d,_)::be.sl) t;rw[TG (by rw[<-he.sl];exact hl)];exact he.sl t,he.ob,he.nx,he.lk⟩
    have fD:c=b->∀j' b',o.guard=aa (j',b')->∃og d K g,ops[j']? =aa og∧og.dst=aa d∧aF σ.sl d=aa (.c (.one (.v .bool b' K g))):=λIk j' b' hb=>by rw[hg]at hb;cases hb;exact⟨og,d,K,g,ho,vO,by rw[hl,Ik]⟩
    have ad6:c=(!b)->∃j b og d a,o.guard=aa (j,b)∧ops[j]? =aa og∧og.dst=aa d∧aF σ.sl d=aa a∧((∃K g,a= .c (.one (.v .bool (!b) K g)))∨a= .c (.one .undef)):=λIk=>
     ⟨j,b,og,d,_,hg,ho,vO,hl,.inl ⟨K,g,by rw[Ik]⟩⟩
    rcases zf h with⟨hc,h⟩|⟨hc,h⟩
    ·cases b with
     |true=>exact run (yK ab hc) (fD hc) h
     |false=>exact pass (yK ab hc) (ad6 hc) h
    ·cases b with
     |true=>exact pass (yK ae hc) (ad6 hc) h
     |false=>exact run (yK ae hc) (fD hc) h
   ·split at h
    case isFalse=>cases h
    rename_i hu;have ha:a= .c (.one .undef):=by
     unfold TZ at hu;split at hu
     ·rfl
     ·cases hu
    exact pass he ⟨j,b,og,d,a,hg,ho,vO,hl,.inr ha⟩ h
def gA(l:List aV)(rs:List (RS D))(q:Nat):List (Nat×AV D):=match l[q]?,rs[q]? with
 |some o,aa x=>gS o x
 |_,_=>[]
def gB(rs:List (RS D))(q:Nat):List (Nat×Option (AO D)):=match rs[q]? with
 |some x=>gO x
 |none=>[]
def axo{l:List aV}{rs:List (RS D)}{q:Nat}{o:aV}{x:RS D}(h:l[q]? =aa o)(hx:rs[q]? =aa x):gA l rs q=gS o x:=by simp[gA,h,hx]
def axn{rs:List (RS D)}{q:Nat}{x:RS D}(hx:rs[q]? =aa x):gB rs q=gO x:=by simp[gB,hx]
def N1{l:List aV}{rs:List (RS D)}{q t:Nat}(h:t∈(gA l rs q).map bV):∃o,l[q]? =aa o∧o.dst=aa t:=by
 unfold gA at h;split at h
 ·rename_i o x ho hx;exact⟨o,ho,axl.1 h⟩
 ·simp at h
def N0{rs:List (RS D)}{q i:Nat}(h:i∈(gB rs q).map bV):∃e l,rs[q]? =aa (.run e l)∧i∈e.wr:=by
 unfold gB at h;split at h
 ·rename_i x hx;cases x with
  |run e l=>exact⟨e,l,hx,axm h⟩
  |skip=>simp[gO]at h
 ·simp at h
def akY{ops:List aV}:∀{l:List aV} {rs:List (RS D)} {σ:S D},Tr T Φ ops l rs σ->rs.length=l.length
 |[],[],_,_=>rfl
 |_::_,_::_,_,h=>by simp[akY h.2]
 |[],_::_,_,h=>h.elim
 |_::_,[],_,h=>h.elim
def P8{ops:List aV}:∀{l:List aV} {rs:List (RS D)} {σ:S D},Tr T Φ ops l rs σ->∀{i:Nat} {o:aV} {x:RS D},l[i]? =aa o->rs[i]? =aa x->
  alk T Φ ops ⟨acc (gA l rs) σ.sl (λ_=>ab) i,acc (gB rs) σ.ob (λ_=>ab) i,σ.nx+128*i,σ.lk⟩ o x
 |[],[],_,_,i,o,x,hi,_=>by simp at hi
 |o'::l,x'::rs,σ,h,0,o,x,hi,hx=>by
  have e1:o'=o:=by simpa using hi
  have e2:x'=x:=by simpa using hx
  subst e1 e2;exact h.1
 |o'::l,x'::rs,σ,h,i+1,o,x,hi,hx=>by have:=P8 h.2 (i:=i) (o:=o) (x:=x) (by simpa using hi) (by simpa using hx);rw[JL,JL,show σ.nx+128*(i+1)=σ.nx+128+128*i from by omega];exact this
 |[],_::_,_,h,_,_,_,_,_=>h.elim
 |_::_,[],_,h,_,_,_,_,_=>h.elim
def abe{ops:List aV}:∀{l:List aV} {rs:List (RS D)} {σ:S D},Tr T Φ ops l rs σ->runT l rs σ=⟨acc (gA l rs) σ.sl (λ_=>ab) l.length,acc (gB rs) σ.ob (λ_=>ab) l.length,σ.nx+128*l.length,σ.lk⟩
 |[],[],_,_=>rfl
 |o::l,x::rs,σ,h=>by simp only[runT,jd];rw[abe h.2,JL,JL,show σ.nx+128*(l.length+1)=σ.nx+128+128*l.length from by omega];rfl
 |[],_::_,_,h=>h.elim
 |_::_,[],_,h=>h.elim
def TN{an:List Nat}:∀{rs:List (RS D)} {p:Nat} {lg:List Lg},yB an (AG rs p lg)=ab->
  yB an lg=ab∧(∀j e l,rs[j]? =aa (.run e l)->∀b∈lg,bit (an.getD (p+j) 0) b.i=ab∨DQ ⟨p+j,l.reverse,e.wr⟩ b=ab)∧
  ∀i j e l e' l',i<j->rs[i]? =aa (.run e l)->rs[j]? =aa (.run e' l')->bit (an.getD (p+j) 0) (p+i)=ab∨DQ ⟨p+j,l'.reverse,e'.wr⟩ ⟨p+i,l.reverse,e.wr⟩=ab
 |[],p,lg,h=>⟨h,λj e l hj=>by simp at hj,λi j e l e' l' _ hi=>by simp at hi⟩
 | .skip::rs,p,lg,h=>by
   obtain⟨h1,h2,h3⟩:=TN (rs:=rs) (p:=p+1) (lg:=lg) h;refine⟨h1,λj e l hj b hb=>?_,λi j e l e' l' iC hi hj=>?_⟩
   ·cases j with
    |zero=>simp at hj
    |succ j=>have:=h2 j e l (by simpa using hj) b hb;rw[show p+(j+1)=p+1+j from by omega];exact this
   ·cases i with
    |zero=>simp at hi
    |succ i=>
     cases j with
     |zero=>omega
     |succ j=>have:=h3 i j e l e' l' (by omega) (by simpa using hi) (by simpa using hj);rw[show p+(j+1)=p+1+j from by omega,show p+(i+1)=p+1+i from by omega];exact this
 | .run e0 l0::rs,p,lg,h=>by
   obtain⟨h1,h2,h3⟩:=TN (rs:=rs) (p:=p+1) (lg:=⟨p,l0.reverse,e0.wr⟩::lg) h;simp only[yB,bt,dX,sj]at h1;refine⟨h1.2,λj e l hj b hb=>?_,λi j e l e' l' iC hi hj=>?_⟩
   ·cases j with
    |zero=>
     have:RS.run e0 l0= .run e l:=by simpa using hj
     cases this;exact h1.1 b hb
    |succ j=>have:=h2 j e l (by simpa using hj) b (by simp[hb]);rw[show p+(j+1)=p+1+j from by omega];exact this
   ·cases j with
    |zero=>omega
    |succ j=>
     rw[show p+(j+1)=p+1+j from by omega];cases i with
     |zero=>
      have:RS.run e0 l0= .run e l:=by simpa using hi
      cases this;exact h2 j e' l' (by simpa using hj) ⟨p,l0.reverse,e0.wr⟩ (by simp)
     |succ i=>have:=h3 i j e l e' l' (by omega) (by simpa using hi) (by simpa using hj);rw[show p+(i+1)=p+1+i from by omega];exact this
def RJ{ops:List aV}{an:List Nat}:∀{r:List aV} {j:Nat} {seen:List (Nat×aV)},yb ops an j r seen=ab->
  (∀q b,r[q]? =aa b->(∀s∈seen,bit (an.getD (j+q) 0) s.1=ab∨apart ops s.2 b=ab)∧∀e∈b.after.toList,Region.binds .any e=ab->e.on<j+q)∧
  ∀p q a b,p<q->r[p]? =aa a->r[q]? =aa b->bit (an.getD (j+q) 0) (j+p)=ab∨apart ops a b=ab
 |[],j,seen,h=>⟨λq b hq=>by simp at hq,λp q a b _ hp=>by simp at hp⟩
 |o::r,j,seen,h=>by
  simp only[yb,bt,dX,sj]at h;obtain⟨⟨h1,h2⟩,h3⟩:=h;obtain⟨k1,k2⟩:=RJ (r:=r) (j:=j+1) (seen:=(j,o)::seen) h3;refine⟨λq b hq=>?_,λp q a b ma hp hq=>?_⟩
  ·cases q with
   |zero=>
    have e:o=b:=by simpa using hq
    subst e;refine⟨h1,λe he hb=>?_⟩;rcases h2 e he with h4|h4
    ·rw[hb]at h4;cases h4
    ·exact dw h4
   |succ q=>obtain⟨m1,m2⟩:=k1 q b (by simpa using hq);rw[show j+(q+1)=j+1+q from by omega];exact⟨λs hs=>m1 s (by simp[hs]),m2⟩
  ·cases q with
   |zero=>omega
   |succ q=>
    rw[show j+(q+1)=j+1+q from by omega];cases p with
    |zero=>
     have e:o=a:=by simpa using hp
     subst e;exact(k1 q b (by simpa using hq)).1 (j,o) (by simp)
    |succ p=>have:=k2 p q a b (by omega) (by simpa using hp) (by simpa using hq);rw[show j+(p+1)=j+1+p from by omega];exact this
def XY(m i:Nat):bit m i=m.testBit i:=by
 unfold bit;rw[Nat.testBit_eq_decide_div_mod_eq,Nat.shiftRight_eq_div_pow];cases h:aW (m/2^i% 2) 1 with
 |true=>rw[bA h];rfl
 |false=>
  have:¬m/2^i% 2=1:=λe=>by rw[e]at h;cases h
  simp[this]
def akP{f:Nat->Nat}{i:Nat}:∀{es:List Edge} {s:Nat},bit (es.foldl (λs e=>if Region.binds .any e then s|||(1<<<e.on)|||(f e.on)else s) s) i=ab->
  bit s i=ab∨∃e∈es,Region.binds .any e=ab∧(i=e.on∨bit (f e.on) i=ab)
 |[],s,h=> .inl h
 |e::es,s,h=>by
  rw[List.foldl_cons]at h;rcases akP h with h|⟨e',h1,h2⟩
  ·split at h
   ·rename_i hb;rw[XY,Nat.testBit_or,Nat.testBit_or,sj,sj]at h;rcases h with(h|h)|h
    ·exact .inl (by rw[XY];exact h)
    ·refine .inr ⟨e,by simp,hb,.inl ?_⟩;rw[Nat.one_shiftLeft,Nat.testBit_two_pow]at h;exact(jJ h).symm
    ·exact .inr ⟨e,by simp,hb,.inr (by rw[XY];exact h)⟩
   ·exact .inl h
  ·exact .inr ⟨e',by simp[h1],h2⟩
def akM:∀{l:List aV} {acc:List Nat},∃s,jq l acc=acc.reverse++s
 |[],acc=>⟨[],by simp[jq]⟩
 |o::r,acc=>by obtain⟨s,h⟩:=akM (l:=r) (acc:=B' acc o::acc);exact⟨B' acc o::s,by simp only[jq];rw[h];simp⟩
def akN:∀{l:List aV} {acc:List Nat} {q:Nat} {o:aV},l[q]? =aa o->∃m,jq l acc=m++(jq l acc).drop (acc.length+q)∧m.length=acc.length+q∧(jq l acc)[acc.length+q]? =aa (B' m.reverse o)
 |[],acc,q,o,h=>by simp at h
 |o'::r,acc,0,o,h=>by
  have e:o'=o:=by simpa using h
  subst e;obtain⟨s,h⟩:=akM (l:=r) (acc:=B' acc o'::acc);refine⟨acc.reverse,?_,by simp,?_⟩
  ·simp only[jq];rw[h];simp
  ·simp only[jq];rw[h];simp
 |o'::r,acc,q+1,o,h=>by obtain⟨m,h1,h2,h3⟩:=akN (l:=r) (acc:=B' acc o'::acc) (q:=q) (o:=o) (by simpa using h);simp only[jd]at h1 h2 h3;rw[show acc.length+1+q=acc.length+(q+1)from by omega]at h1 h2 h3;exact⟨m,h1,h2,h3⟩
def akO{l:List aV}{q i:Nat}{o:aV}(h:l[q]? =aa o)(hb:bit ((jq l []).getD q 0) i=ab):∃e∈o.after.toList,Region.binds .any e=ab∧(i=e.on∨bit ((jq l []).getD e.on 0) i=ab):=by
 obtain⟨m,h1,h2,h3⟩:=akN (acc:=[]) h;simp only[List.length_nil,ke]at h1 h2 h3;rw[uK,h3]at hb;simp only[Option.getD_some]at hb;unfold B' at hb;rcases akP (f:=λx=>m.reverse.reverse.getD x 0) hb with hb|⟨e,k1,k2,k3⟩
 ·simp[bit]at hb
 ·refine⟨e,k1,k2,?_⟩;rcases k3 with k3|k3
  ·exact .inl k3
  ·right;rw[List.reverse_reverse]at k3;rw[h1];by_cases aS:e.on<m.length
   ·rw[uK,mr aS,<-uK];exact k3
   ·rw[uK,List.getElem?_eq_none (by omega)]at k3;simp[bit]at k3
def Q.aD8{α:Type}{ob cn:List (Nat×Option (AO D))}:∀{q:Q D α} {l:List Nat} {a:α},(∀i∈l,aF ob i=aF cn i)->Q.R ob q l a->Q.R cn q l a:=by
 intro q;induction q with
 |ret b=>intro l a _ h;exact h
 |fail=>intro l a _ h;exact h
 |obj i f ih=>intro l a he h;obtain⟨x,l',h1,rfl,h2⟩:=h;refine⟨x,l',?_,rfl,ih x (λi hi=>he i (by simp[hi])) h2⟩;unfold dC at h1⊢;rw[<-he i (by simp)];exact h1
 |part o f ih=>intro l a he h;obtain⟨y,h1,h2⟩:=h;exact⟨y,h1,ih y he h2⟩
def UD(D:Nat->Bool)(nx N:Nat):Nat->Prop:=λi=>i<nx∨∃q,q<N∧D q=ab∧nx+128*q<=i∧i<nx+128*q+128
def akX{Dn:Nat->Bool}{nx N p:Nat}(hp:p<N):jG (UD Dn nx N) (nx+128*p)=UD (ins Dn p) nx N:=by
 funext i;apply propext;unfold jG UD;constructor
 ·rintro((h|⟨q,h1,h2,h3⟩)|h)
  ·exact .inl h
  ·exact .inr ⟨q,h1,by simp[ins,h2],h3⟩
  ·exact .inr ⟨p,hp,ac_ _ _,h⟩
 ·rintro(h|⟨q,h1,h2,h3⟩)
  ·exact .inl (.inl h)
  ·by_cases hq:q=p
   ·subst hq;exact .inr h3
   ·rw[Hz hq]at h2;exact .inl (.inr ⟨q,h1,h2,h3⟩)
structure Dr(l:List aV)(rs:List (RS D))(σ:S D)(fg:Gh D)(w0:ax)(Dn:Nat->Bool)(γ:Gh D)(w:ax)(L:List (Nat×ai)):Prop where
 sr:SR (UD Dn σ.nx l.length) γ w (acc (gA l rs) σ.sl Dn l.length) L
 ob:OB (UD Dn σ.nx l.length) γ w (acc (gB rs) σ.ob Dn l.length)
 fr:Frame fg w0 γ w
 cl:∀q o,Dn q=ab->l[q]? =aa o->∀e∈o.after.toList,Region.binds .any e=ab->Dn e.on=ab
 cO:2000<=σ.nx
def SR.eqv{U:Nat->Prop}{γ:Gh D}{w:ax}{sl Di:List (Nat×AV D)}{L:List (Nat×ai)}(h:SR U γ w sl L)(he:∀t,aF Di t=aF sl t):SR U γ w Di L:=λt a ha=>h t a (by rw[<-he];exact ha)
def OB.eqv{U:Nat->Prop}{γ:Gh D}{w:ax}{ob cn:List (Nat×Option (AO D))}(h:OB U γ w ob)(he:∀t,aF cn t=aF ob t):OB U γ w cn:=⟨λi x hx=>h.ob i x (by unfold dC at hx⊢;rw[<-he];exact hx),h.cl,h.ro⟩
def ck.of{wr:List Nat}{σ be:S D}(h1:∀t,t∉wr->aF be.sl t=aF σ.sl t)(h2:be.lk=σ.lk)(h3:∀i∈σ.lk,aF be.ob i=aF σ.ob i)(h4:σ.nx<=be.nx):ck wr σ be:=⟨h1,h2,h3,h4⟩
def akJ{ops:List aV}{a b:aV}{d:Nat}(h:apart ops a b=ab)(hd:a.dst=aa d):d∉tmpsOf ops b∧b.dst≠aa d:=by unfold apart at h;rw[hd]at h;simp only[bt,p9]at h;refine⟨pC h.1,λhb=>?_⟩;rw[hb]at h;simp at h
def aDR{ops:List aV}{a b:aV}{d:Nat}(h:apart ops a b=ab)(hd:b.dst=aa d):d∉tmpsOf ops a:=by
 unfold apart at h;rw[hd]at h;split at h
 ·simp only[p9]at h;exact pC h
 ·simp only[bt,p9]at h;exact pC h.2.2
def aoo{ops:List aV}{o:aV}{t:Nat}(h:Operand.tmp t∈o.op.operands.toList):t∈tmpsOf ops o:=by unfold tmpsOf;exact bg.2 (.inl (List.mem_filterMap.2 ⟨.tmp t,h,rfl⟩))
def aop{ops:List aV}{o og:aV}{j d:Nat}{b:Bool}(h:o.guard=aa (j,b))(ho:ops[j]? =aa og)(hd:og.dst=aa d):d∈tmpsOf ops o:=by unfold tmpsOf;refine bg.2 (.inr ?_);simp[h,ho,hd]
section
variable (hP:ef P T) (hR:cK T) (cU:∀c∈Φ,gz P T c)
include hP hR cU
theorem Dr.step [Rd]{l:List aV}{rs:List (RS D)}{σ:S D}{fg γ:Gh D}{w0 w:ax}{Dn:Nat->Bool}{L:List (Nat×ai)}{Qx:Exit->Act->ax->Prop}(h:Dr l rs σ fg w0 Dn γ w L)(hT:Tr T Φ l l rs σ)(hs:yb l (jq l []) 0 l []=ab)(hl:yB (jq l []) (AG rs 0 [])=ab)
  {p:Nat} {o:aV} {x:RS D} (hp:l[p]? =aa o) (hx:rs[p]? =aa x) (hD:Dn p=ae) (hr:∀e∈o.after.toList,Region.binds .any e=ab->Dn e.on=ab):
  match x with
  | .run e l'=>(∀a,Fr n L a->Region.wanted o (yielded l.toArray a.tmps)=ab)∧OW P Qx L o w (λv w'=>∃γ',Dr l rs σ fg w0 (ins Dn p) γ' w' (rq o.dst v L))
  | .skip=>(∀a,Fr n L a->Region.wanted o (yielded l.toArray a.tmps)=ae)∧Dr l rs σ fg w0 (ins Dn p) γ w (rq o.dst undef L):=by
 have qA:p<l.length:=(g9.1 hp).1
 obtain⟨s1,s2⟩:=RJ hs
 obtain⟨_,_,g3⟩:=TN hl
 simp only[ke]at s1 s2 g3
 have down:∀q,Dn q=ab->∀i,bit ((jq l []).getD q 0) i=ab->Dn i=ab:=by
  intro q;induction q using Nat.strongRecOn with
  |_ q ih=>
   intro hq i hi;by_cases A6:q<l.length
   ·obtain⟨e,k1,k2,k3⟩:=akO (oe A6) hi;have A9:=h.cl q _ hq (oe A6) e k1 k2;rcases k3 with rfl|k3
    ·exact A9
    ·exact ih e.on ((s1 q _ (oe A6)).2 e k1 k2) A9 i k3
   ·exfalso;have hlen:(jq l []).length<=q:=by
     have:∀{l:List aV} {acc:List Nat},(jq l acc).length=acc.length+l.length:=by
      intro l;induction l with
      |nil=>intro acc;simp[jq]
      |cons o r ih=>intro acc;simp only[jq];rw[ih];simp;omega
     rw[this];simp;omega
    rw[uK,List.getElem?_eq_none hlen]at hi;simp[bit]at hi
 have upp:∀i,bit ((jq l []).getD p 0) i=ab->Dn i=ab:=λi hi=>by
  obtain⟨e,k1,k2,k3⟩:=akO hp hi;rcases k3 with rfl|k3
  ·exact hr e k1 k2
  ·exact down e.on (hr e k1 k2) i k3
 have Nf:∀q,Dn q=ab->¬bit ((jq l []).getD q 0) p=ab:=λq hq hb=>by rw[down q hq p hb]at hD;cases hD
 have bM:∀q,Dn q=ab->q≠p:=λq hq e=>by subst e;rw[hq]at hD;cases hD
 have Nu:∀t∈tmpsOf l o,aF (acc (gA l rs) σ.sl Dn l.length) t=aF (acc (gA l rs) σ.sl (λ_=>ab) p) t:=by
  intro t ht;rw[akT (Nat.le_of_lt qA)];refine Fx λq hq hm=>?_;obtain⟨oq,Ns,ND⟩:=N1 hm;rcases Nat.lt_trichotomy q p with pH|rfl|pH
  ·have:dJ q p=ab:=J2 pH;rw[this];rcases s2 q p oq o pH Ns hp with hb|hb
   ·exact upp q hb
   ·exact((akJ hb ND).1 ht).elim
  ·rw[hD];cases hb:dJ q q with
   |true=>have:=dw hb;omega
   |false=>rfl
  ·have:dJ q p=ae:=by
    cases hb:dJ q p with
    |true=>have:=dw hb;omega
    |false=>rfl
   rw[this];cases VL:Dn q with
   |false=>rfl
   |true=>
    rcases s2 p q o oq pH hp Ns with hb|hb
    ·exact(Nf q VL hb).elim
    ·exact(aDR hb ND ht).elim
 have aem:∀t,aF (acc (gA l rs) σ.sl (ins Dn p) l.length) t=aF (gS o x++acc (gA l rs) σ.sl Dn l.length) t:=by
  rw[<-axo hp hx];refine akV qA hD λt ht q h1 h2 h3 hm=>?_;obtain⟨oq,Ns,ND⟩:=N1 hm;obtain⟨o',qD,xj⟩:=N1 ht;rw[hp]at qD;cases qD;rcases s2 p q o oq h1 hp Ns with hb|hb
  ·exact Nf q h3 hb
  ·exact(akJ hb xj).2 ND
 have aen:∀t,aF (acc (gB rs) σ.ob (ins Dn p) l.length) t=aF (gO x++acc (gB rs) σ.ob Dn l.length) t:=by
  rw[<-axn hx];refine akV qA hD λt ht q h1 h2 h3 hm=>?_;obtain⟨e',l2,No,fW⟩:=N0 hm;obtain⟨e1,l1,hq1,w5⟩:=N0 ht;rcases g3 p q _ _ _ _ h1 hq1 No with hb|hb
  ·exact Nf q h3 hb
  ·simp only[DQ,bt]at hb;exact vV hb.2 fW w5
 have dh:∀q o',ins Dn p q=ab->l[q]? =aa o'->∀e∈o'.after.toList,Region.binds .any e=ab->ins Dn p e.on=ab:=by
  intro q o' hq qD e he hb;have:Dn e.on=ab:=by
   by_cases pH:q=p
   ·subst pH;rw[hp]at qD;cases qD;exact hr e he hb
   ·rw[Hz pH]at hq;exact h.cl q o' hq qD e he hb
  simp[ins,this]
 have Iv:=P8 hT hp hx
 have aet:∀(j d:Nat) (b:Bool) (og:aV) (av:AV D),o.guard=aa (j,b)->l[j]? =aa og->og.dst=aa d->aF (acc (gA l rs) σ.sl (λ_=>ab) p) d=aa av->∃v,Dp.look L d=aa v∧gW (UD Dn σ.nx l.length) γ w av v:=by intro j d b og av hg ho hd hl;exact h.sr d av (by rw[Nu d (aop hg ho hd)];exact hl)
 cases x with
 |run e l'=>
  obtain⟨hg,as,he,hq,Ek⟩:=Iv
  dsimp only at hg he hq Ek
  refine⟨λa ha=>?_,?_⟩
  ·cases vJ:o.guard with
   |none=>simp[Region.wanted,vJ]
   |some jb=>obtain⟨j,b⟩:=jb;obtain⟨og,d,K,g,h1,h2,h3⟩:=hg j b vJ;obtain⟨v,vC,nc⟩:=aet j d b og _ vJ h1 h2 h3;have nc:v= .bool b:=nc.1;subst nc;simp[Region.wanted,vJ,Q9 ha h1 h2 vC]
  ·have nk:eX (acc (gA l rs) σ.sl Dn l.length) o.op.operands.toList=aa as:=by
    rw[V9 λt ht=>Nu t (aoo ht)];exact he
   have ua:Q.R (acc (gB rs) σ.ob Dn l.length) (Av T Φ (σ.nx+128*p) o.op as) l' e:=by
    refine Q.aD8 (λi hi=>?_) hq;rw[akT (Nat.le_of_lt qA)];refine Fx λq hq hm=>?_;obtain⟨e',l2,No,fW⟩:=N0 hm;rcases Nat.lt_trichotomy q p with pH|rfl|pH
    ·have:dJ q p=ab:=J2 pH;rw[this];rcases g3 q p _ _ _ _ pH No hx with hb|hb
     ·exact(upp q hb).symm
     ·simp only[DQ,bt]at hb;exact(vV hb.1.2 fW (by simpa using hi)).elim
    ·rw[hD];cases hb:dJ q q with
     |true=>have:=dw hb;omega
     |false=>rfl
    ·have:dJ q p=ae:=by
      cases hb:dJ q p with
      |true=>have:=dw hb;omega
      |false=>rfl
     rw[this];cases VL:Dn q with
     |false=>rfl
     |true=>
      rcases g3 p q _ _ _ _ pH hx No with hb|hb
      ·exact(Nf q VL hb).elim
      ·simp only[DQ,bt]at hb;exact(vV hb.1.1 fW (by simpa using hi)).elim
   have hcx:Cx (UD Dn σ.nx l.length) (σ.nx+128*p) γ w (acc (gA l rs) σ.sl Dn l.length) L (acc (gB rs) σ.ob Dn l.length):=by
    refine⟨h.sr,h.ob,λi h1 h2 h3=>?_,by have:=h.cO;omega⟩;rcases h3 with h3|⟨q,k1,k2,k3,k4⟩
    ·omega
    ·have:=bM q k2;omega
   have:=ab8 (Qx:=Qx) (d:=o.dst) (ty:=o.type) (pos:=o.pos) (af:=o.after) (gd:=o.guard) hP hR cU hcx nk ua;refine OW.mono this ?_;rintro v w' ⟨γ',oJ⟩;have fE:=oJ.kp;have Br:=oJ.dst;have bK:=oJ.ob;rw[akX qA]at fE Br bK;refine⟨γ',⟨SR.eqv ?_ aem,OB.eqv bK λt=>by rw[aen];rfl,h.fr.trans oJ.fr,dh,h.cO⟩⟩;show SR _ γ' w' (dl o.dst e.dst++_) _;cases hd:o.dst with
   |none=>exact h.sr.dn fE
   |some t=>exact(h.sr.dn fE).cons Br
 |skip=>
  obtain⟨j,b,og,d,av,hg,h1,h2,h3,h4⟩:=Iv
  obtain⟨v,vC,nc⟩:=aet j d b og _ hg h1 h2 h3
  refine⟨λa ha=>?_,?_⟩
  ·rcases h4 with⟨K,g,rfl⟩|rfl
   ·have nc:v= .bool (!b):=nc.1;subst nc;cases b<;>simp[Region.wanted,hg,Q9 ha h1 h2 vC]
   ·have nc:v=undef:=nc;subst nc;simp[Region.wanted,hg,ZP ha h1 h2 vC]
  ·have fE:iN (UD Dn σ.nx l.length) (UD (ins Dn p) σ.nx l.length) γ w γ w:=⟨λi hi=>by
    rw[<-akX qA];exact .inl hi,λ_ _=>rfl,λ_ _=>rfl,λ_ _ _=>⟨rfl,rfl⟩⟩
   refine⟨SR.eqv ?_ aem,OB.eqv ⟨λi x hx=>?_,λb hb=>fE.u _ (h.ob.cl b hb),λx hx=>fE.u _ (h.ob.ro x hx)⟩ aen,h.fr,dh,h.cO⟩
   ·show SR _ γ w (dl o.dst _++_) _;cases hd:o.dst with
    |none=>exact h.sr.dn fE
    |some t=>exact(h.sr.dn fE).cons rfl
   ·obtain⟨h1,h2,h3⟩:=h.ob.ob i x hx;exact⟨h1,fE.u _ h2,h3.dn fE h2 λ_ _ _=>⟨rfl,rfl⟩⟩
end
def gr(l:List aV)(i:Nat):List Nat:=match l[i]? with
 |some o=>(o.after.toList.filter (Region.binds .any)).map Edge.on
 |none=>[]
section
variable {P:cT} {Q:Exit->Act->ax->Prop} {l:List aV}
def acw{i:Nat}{o:aV}(h:l[i]? =aa o){e:Edge}(he:e∈o.after.toList)(hb:Region.binds .any e=ab):e.on∈gr l i:=by simp only[gr,h];exact dk.2 ⟨e,kH.2 ⟨he,hb⟩,rfl⟩
def Mw{i j:Nat}(hj:j∈gr l i):∃o,l[i]? =aa o∧∃e∈o.after.toList,Region.binds .any e=ab∧e.on=j:=by
 unfold gr at hj;split at hj
 ·rename_i o ho;obtain⟨e,he,rfl⟩:=dk.1 hj;obtain⟨h1,h2⟩:=kH.1 he;exact⟨o,ho,e,h1,h2,rfl⟩
 ·cases hj
def ym{cD:Array Bool}(eQ:cD.size=l.length){i:Nat}:i∈Region.ready .any l.toArray cD↔i<l.length∧cD.getD i ae=ae∧∀j∈gr l i,cD.getD j ae=ab:=by
 simp only[Region.ready,kH,ew,List.size_toArray];constructor
 ·rintro⟨hi,h⟩;have Bm:l[i]? =aa l[i]:=oe hi;have U7:l.toArray[i]? =aa l[i]:=by simp[hi]
  have nj:i<cD.size:=by omega
  simp only[bt]at h;refine⟨hi,?_,λj hj=>?_⟩
  ·have:=h.1;simp[uN,nj]at this⊢;exact this
  ·obtain⟨o,ho,e,he,hb,rfl⟩:=Mw hj;rw[Bm]at ho;cases ho;have h2:=h.2;rw[U7]at h2;simp only[Option.map_some,Option.getD_some]at h2;have:=Array.all_eq_true'.1 h2 e (by simpa using he);simpa[hb]using this
 ·rintro⟨hi,h1,h2⟩;have U7:l.toArray[i]? =aa l[i]:=by simp[hi]
  have nj:i<cD.size:=by omega
  refine⟨hi,?_⟩;rw[U7];simp only[bt,Option.map_some,Option.getD_some];refine⟨?_,Array.all_eq_true'.2 λe he=>?_⟩
  ·simp[uN,nj]at h1⊢;exact h1
  ·cases hb:Region.binds .any e with
   |false=>simp
   |true=>have:=h2 e.on (acw (oe hi) (by simpa using he) hb);simpa using this
def AF{cD:Array Bool}{i j:Nat}(hi:i<cD.size):(cD.setIfInBounds i ab).getD j ae=(if j=i then ab else cD.getD j ae):=by
 by_cases eV:j=i
 ·subst eV;simp[uN,hi]
 ·rw[aK eV];exact getD_set_ne ae (Ne.symm eV)
def WU [I:Rd]{k:Nat}(yX:∀q,k<q->q<l.length->(q-1)∈gr l q∧∀j∈gr l q,j<q)(hk:∀j∈gr l k,j<k):∀(jP p:Nat) (cD:Array Bool) (a:Act) (w:ax),cD.size=l.length->k<=p->p<=l.length->l.length-p<=jP->
  (∀j,j<l.length->cD.getD j ae=decide (j<p))->wpListIn I.F 0 P l.toArray Q (l.drop p) a w->wpAnyIn I.F 0 P .any l.toArray Q jP cD a w:=by
 intro jP
 induction jP with
 |zero=>
  intro p cD a w eQ fE hp hf hl h
  have rH:p=l.length:=by omega
  subst rH
  refine⟨List.eq_nil_iff_forall_not_mem.2 λi hi=>?_,?_⟩
  ·obtain⟨h1,h2,_⟩:=(ym eQ).1 hi;rw[hl i h1]at h2;simp[h1]at h2
  ·rw[List.drop_length]at h;exact h
 |succ jP ih=>
  intro p cD a w eQ fE hp hf hl h
  refine⟨λhr=>?_,λi hi=>?_⟩
  ·by_cases rH:p=l.length
   ·subst rH;rw[List.drop_length]at h;exact h
   ·exfalso;have UF:p<l.length:=by omega
    have:p∈Region.ready .any l.toArray cD:=(ym eQ).2 ⟨UF,by rw[hl p UF];simp,λj hj=>by
     have hjp:j<p:=by
      by_cases pJ:p=k
      ·subst pJ;exact hk j hj
      ·exact(yX p (by omega) UF).2 j hj
     rw[hl j (by omega)];simp[hjp]⟩
    rw[hr]at this;cases this
  ·obtain⟨h1,h2,h3⟩:=(ym eQ).1 hi;rw[hl i h1]at h2;have hip:¬i<p:=by simpa using h2
   have Ia:i=p:=by
    by_cases bM:i=p
    ·exact bM
    ·exfalso;have h4:=h3 (i-1) (yX i (by omega) h1).1;rw[hl (i-1) (by omega)]at h4;have:i-1<p:=by simpa using h4
     omega
   subst Ia;have hd:l.drop i=l[i]::l.drop (i+1):=by rw[List.drop_eq_getElem_cons h1]
   rw[hd]at h;have Va:l.toArray[i]? =aa l[i]:=by simp[h1]
   unfold wpOpIn;rw[Va];simp only;have Eb:∀a' w',wpListIn I.F 0 P l.toArray Q (l.drop (i+1)) a' w'->wpAnyIn I.F 0 P .any l.toArray Q jP (cD.setIfInBounds i ab) a' w':=λa' w' h'=>
    ih (i+1) _ a' w' (by simp[eQ]) (by omega) (by omega) (by omega) (λj hj=>by
     rw[AF (by omega),hl j hj];by_cases eV:j=i
     ·subst eV;simp
     ·rw[aK eV];have:(j<i)↔(j<i+1):=by omega
      simp[this]) h'
   simp only[wpListIn]at h;split
   ·rename_i hw;rw[aI hw]at h;exact aV.wpIn_mono Eb h
   ·rename_i hw;rw[aK hw]at h;exact⟨h.1,Eb _ _ h.2⟩
end
def E5(ops post:List aV):Bool:=post.isEmpty||
 ((bW (ops.length+1)).all (λi=>(gr (ops++post) i).all λj=>dJ j i)&&
 (bW ops.length).all (λi=>(bW (ops.length+1)).any λj=>dJ i j&&(gr (ops++post) j).contains i)&&
 (bW (ops++post).length).all (λq=>eN q ops.length||((gr (ops++post) q).contains (q-1)&&(gr (ops++post) q).all λj=>dJ j q)))
def filter_lt{p q:Nat->Bool}(h:∀x,q x=ab->p x=ab){i:Nat}(hp:p i=ab)(hq:q i=ae):∀{l:List Nat},i∈l->(l.filter q).length<(l.filter p).length
 |[],hi=>by cases hi
 |x::l,hi=>by
  have hle:(l.filter q).length<=(l.filter p).length:=by
   clear hi;induction l with
   |nil=>simp
   |cons y l ih=>
    by_cases hy:q y=ab
    ·rw[lS hy,lS (h y hy)];simpa using ih
    ·rw[p8 hy];by_cases gp:p y=ab
     ·rw[lS gp];simp;omega
     ·rw[p8 gp];exact ih
  by_cases hx:x=i
  ·subst hx;rw[p8 (by simp[hq]),lS hp];simp;omega
  ·have lI:i∈l:=by
    rcases cj.1 hi with e|hh
    ·exact(hx e.symm).elim
    ·exact hh
   have ih:=filter_lt h hp hq lI;by_cases hy:q x=ab
   ·rw[lS hy,lS (h x hy)];simpa using ih
   ·rw[p8 hy];by_cases gp:p x=ab
    ·rw[lS gp];simp;omega
    ·rw[p8 gp];exact ih
section
variable (hP:ef P T) (hR:cK T) (cU:∀c∈Φ,gz P T c) (hm:P.follows .mixedOrders=ab)
include hP hR cU hm
theorem akK [I:Rd]{id:Nat}{ops post:List aV}{ρ:Type}{σ:S D}{k:S D->Option ρ}{r:ρ}{γ:Gh D}{w:ax}{L:List (Nat×ai)}{Qx:Exit->Act->ax->Prop}(sL:E5 ops post=ab)(hs:yb ops (jq ops []) 0 ops []=ab)
  (h:jn T Φ ops ops 0 σ [] (λbe lg=>match yB (jq ops []) lg with
    |true=>k be
    |false=>none)=aa r) (hd:∀t∈dstsOf ops,I.fb n t=ab) (hk:Kn σ γ w L)
  (hc:∀be γ' w' L',Kn be γ' w' L'->Frame γ w γ' w'->ck (dstsOf ops) σ be->k be=aa r->WL P n (ops++post).toArray Qx post L' w'):CW P n (.region id (ops++post).toArray ab) Qx L w:=by
 obtain⟨rs,kJ,hT,jj,jO⟩:=trace h (pV.mk (λ_=>rfl) rfl rfl rfl)
 split at jO
 case h_2=>cases jO
 rename_i hl
 have hlen:=akY hT
 rw[abe hT]at jj
 intro a ha
 refine wpIn_region_any hm ?_
 have fin:∀(Dn:Nat->Bool) (γ':Gh D) (w':ax) (L':List (Nat×ai)) (a':Act),Dr ops rs σ γ w Dn γ' w' L'->Fr n L' a'->(∀i,i<ops.length->Dn i=ab)->wpListIn I.F 0 P (ops++post).toArray Qx post a' w':=by
  intro Dn γ' w' L' a' ug eF gU;have hU:UD Dn σ.nx ops.length=λi=>i<kJ.nx:=by
   rw[<-jj.nx];funext i;apply propext;show UD Dn σ.nx ops.length i↔i<σ.nx+128*ops.length;unfold UD;constructor
   ·rintro(h|⟨q,h1,h2,h3,h4⟩)<;>omega
   ·intro h;by_cases h0:i<σ.nx
    ·exact .inl h0
    ·exact .inr ⟨(i-σ.nx)/128,by omega,gU _ (by omega),by omega,by omega⟩
  have mG:=ug.sr;have bK:=ug.ob;rw[hU]at mG bK;rw[Yg (D':=λ_=>ab) λq hq=>gU q hq]at mG bK;have qK:=ug.cO;have ub:=jj.nx;dsimp only at ub;refine hc kJ γ' w' L' ⟨mG.eqv λt=>(jj.sl t).symm,?_,by omega⟩ ug.fr (ck.of (λt ht=>?_) jj.lk.symm (λi hi=>?_) (by omega)) jO a' eF
  ·rw[<-jj.ob];exact bK
  ·rw[<-jj.sl];show aF (acc (gA ops rs) σ.sl (λ_=>ab) ops.length) t=_;have:aF (acc (gA ops rs) σ.sl (λ_=>ab) ops.length) t=aF (acc (gA ops rs) σ.sl (λ_=>ae) ops.length) t:=Fx λq hq hm=>by obtain⟨o,ho,xj⟩:=N1 hm;exact(ht (List.mem_filterMap.2 ⟨o,o8 ho,xj⟩)).elim
   rw[this];have:=JK (g:=gA ops rs) (l0:=σ.sl) (D:=λ_=>ae) (n:=0) (k:=ops.length) λ_ _=>rfl;rw[ke]at this;rw[this];rfl
  ·rw[<-jj.ob];show aF (acc (gB rs) σ.ob (λ_=>ab) ops.length) i=_;have:aF (acc (gB rs) σ.ob (λ_=>ab) ops.length) i=aF (acc (gB rs) σ.ob (λ_=>ae) ops.length) i:=Fx λq hq hm=>by
    obtain⟨e,l,hx,hw⟩:=N0 hm;obtain⟨_,as,_,_,Ek⟩:=P8 hT (oe hq) hx;unfold ED at Ek;simp only[bt]at Ek;unfold de.wr at hw;rcases bg.1 hw with hw|hw
    ·exact(vV Ek.1 hw hi).elim
    ·exact(vV Ek.2 hw hi).elim
   rw[this];have:=JK (g:=gB rs) (l0:=σ.ob) (D:=λ_=>ae) (n:=0) (k:=ops.length) λ_ _=>rfl;rw[ke]at this;rw[this];rfl
 have ayQ:∀q (hq:q<ops.length),∀e∈(ops[q]).after.toList,Region.binds .any e=ab->e.on<q:=λq hq e he hb=>by have:=(RJ hs).1 q _ (oe hq);simp only[ke]at this;exact this.2 e he hb
 obtain⟨l,pL⟩:∃l,l=ops++post:=⟨_,rfl⟩
 have Nv:l.length=ops.length+post.length:=by rw[pL,List.length_append]
 have Ib:∀i,i<ops.length->l[i]? =ops[i]? :=λi hi=>by rw[pL,mr hi]
 have ue:∀j∈gr l ops.length,j<ops.length:=λj hj=>by
  unfold E5 at sL;rw[<-pL]at sL;simp only[sj,bt]at sL;rcases sL with h1|h1
  ·obtain⟨o,ho,_⟩:=Mw hj;have:=(g9.1 ho).1;have:=List.isEmpty_iff.1 h1;subst this;simp at Nv;omega
  ·have h2:=dX.1 h1.1.1 ops.length (ew.2 (by omega));exact dw (dX.1 h2 j hj)
 have UA:post≠[]->∀i,i<ops.length->∃j,j<=ops.length∧i<j∧i∈gr l j:=λbM i hi=>by
  unfold E5 at sL;rw[<-pL]at sL;simp only[sj,bt]at sL;rcases sL with h1|h1
  ·exact(bM (List.isEmpty_iff.1 h1)).elim
  ·obtain⟨j,hj,h2⟩:=List.any_eq_true.1 (dX.1 h1.1.2 i (ew.2 hi));simp only[bt]at h2;have:=ew.1 hj;exact⟨j,by omega,dw h2.1,by simpa using h2.2⟩
 have Eo:∀q,ops.length<q->q<l.length->(q-1)∈gr l q∧∀j∈gr l q,j<q:=λq hq A6=>by
  unfold E5 at sL;rw[<-pL]at sL;simp only[sj,bt]at sL;rcases sL with h1|h1
  ·have:=List.isEmpty_iff.1 h1;subst this;simp at Nv;omega
  ·have h2:=dX.1 h1.2 q (ew.2 A6);simp only[sj,bt]at h2;rcases h2 with h2|h2
   ·have:=dw h2;omega
   ·exact⟨by simpa using h2.1,λj hj=>dw (dX.1 h2.2 j hj)⟩
 rw[<-pL]at fin⊢
 have main:∀(jP:Nat) (cD:Array Bool) (a:Act) (w':ax) (γ':Gh D) (L':List (Nat×ai)),cD.size=l.length->(∀i,ops.length<=i->cD.getD i ae=ae)->((bW ops.length).filter λi=> !cD.getD i ab).length+post.length<=jP->
   Dr ops rs σ γ w (λj=>cD.getD j ae) γ' w' L'->Fr n L' a->wpAnyIn I.F 0 P .any l.toArray Qx jP cD a w':=by
  intro jP
  induction jP with
  |zero=>
   intro cD a w' γ' L' eQ H4 av0 hJ hf
   have gU:∀i,i<ops.length->cD.getD i ae=ab:=λi hi=>by
    cases sN:cD.getD i ae with
    |true=>rfl
    |false=>
     have hb:i<cD.size:=by omega
     have iJ:i∈(bW ops.length).filter λi=> !cD.getD i ab:=kH.2 ⟨ew.2 hi,by simp[uN,hb]at sN⊢;exact sN⟩
     have:=List.length_pos_of_mem iJ;omega
   refine WU Eo ue 0 ops.length cD a w' eQ (bw _) (by omega) (by omega) (λj hj=>?_) ?_
   ·by_cases mb:j<ops.length
    ·rw[gU j mb];simp[mb]
    ·rw[H4 j (by omega)];simp[mb]
   ·rw[show l.drop ops.length=post by rw[pL];simp];exact fin _ _ _ _ _ hJ hf gU
  |succ jP ih=>
   intro cD a w' γ' L' eQ H4 av0 hJ hf
   by_cases gU:∀i,i<ops.length->cD.getD i ae=ab
   ·refine WU Eo ue (jP+1) ops.length cD a w' eQ (bw _) (by omega) (by omega) (λj hj=>?_) ?_
    ·by_cases mb:j<ops.length
     ·rw[gU j mb];simp[mb]
     ·rw[H4 j (by omega)];simp[mb]
    ·rw[show l.drop ops.length=post by rw[pL];simp];exact fin _ _ _ _ _ hJ hf gU
   have gI:∀i,i∈Region.ready .any l.toArray cD->i<ops.length:=λi hi=>by
    obtain⟨h1,h2,h3⟩:=(ym eQ).1 hi;by_cases dV:i<ops.length
    ·exact dV
    exfalso;by_cases Ia:i=ops.length
    ·subst Ia;have bM:post≠[]:=λe=>by subst e;simp at Nv;omega
     refine gU ?_;have key:∀m i,ops.length-i<=m->i<ops.length->cD.getD i ae=ab:=by
      intro m;induction m with
      |zero=>intro i h1 h2;omega
      |succ m ihm=>
       intro i k1 k2;obtain⟨j,m1,m2,m3⟩:=UA bM i k2;by_cases hj:j=ops.length
       ·subst hj;exact h3 i m3
       ·obtain⟨o,ho,e,he,hb,jj⟩:=Mw m3;rw[Ib j (by omega)]at ho;have:=hJ.cl j o (ihm j (by omega) (by omega)) ho e he hb;rw[jj]at this;exact this
     exactλi hi=>key _ i (bw _) hi
    ·have:=h3 (i-1) (Eo i (by omega) h1).1;rw[H4 (i-1) (by omega)]at this;cases this
   refine⟨λhr=>(gU λi=>?_).elim,λi hi=>?_⟩
   ·induction i using Nat.strongRecOn with
    |_ i ih2=>
     intro Bm;cases sN:cD.getD i ae with
     |true=>rfl
     |false=>
      exfalso;have iJ:i∈Region.ready .any l.toArray cD:=(ym eQ).2 ⟨by omega,sN,λj hj=>by obtain⟨o,ho,e,he,hb,jj⟩:=Mw hj;rw[Ib i Bm,oe Bm]at ho;cases ho;have h3:=ayQ i Bm e he hb;rw[<-jj];exact ih2 e.on h3 (by omega)⟩
      rw[hr]at iJ;cases iJ
   have lI:=gI i hi
   obtain⟨fP,Bg,iK⟩:=(ym eQ).1 hi
   have nj:i<cD.size:=by omega
   have sN:cD.getD i ab=ae:=by simp[uN,nj]at Bg⊢;exact Bg
   obtain⟨o,H'⟩:∃o,ops[i]? =aa o:=⟨_,oe lI⟩
   have Bm:l.toArray[i]? =aa o:=by have:=Ib i lI;rw[H']at this;simpa using this
   have haf:∀e∈o.after.toList,Region.binds .any e=ab->cD.getD e.on ae=ab:=λe he hb=>iK e.on (acw ((Ib i lI).trans H') he hb)
   have D2:i<rs.length:=by omega
   have next:∀{bf:Gh D} {w2:ax} {L2:List (Nat×ai)} {a2:Act},Dr ops rs σ γ w (ins (λj=>cD.getD j ae) i) bf w2 L2->Fr n L2 a2->wpAnyIn I.F 0 P .any l.toArray Qx jP (cD.setIfInBounds i ab) a2 w2:=by
    intro bf w2 L2 a2 ug eF;refine ih (cD.setIfInBounds i ab) a2 w2 bf L2 (by simp[eQ]) (λj hj=>?_) ?_ ?_ eF
    ·rw[AF nj,aK (by omega)];exact H4 j hj
    ·have aS:=filter_lt (p:=λi=> !cD.getD i ab) (q:=λj=> !(cD.setIfInBounds i ab).getD j ab) (i:=i) (λx hx=>by
      by_cases HI:x=i
      ·subst HI;simp[uN,nj]at hx
      ·rw[getD_set_ne ab (Ne.symm HI)]at hx;exact hx) (by simp only[sN];rfl) (by simp[uN,nj]) (ew.2 lI)
     omega
    ·have e:(λj=>(cD.setIfInBounds i ab).getD j ae)=ins (λj=>cD.getD j ae) i:=by
      funext j;by_cases eV:j=i
      ·subst eV;simp[uN,nj,ins]
      ·rw[Hz eV];exact getD_set_ne ae (Ne.symm eV)
     rw[e];exact ug
   have xj:∀t,o.dst=aa t->I.fb n t=ab:=λt ht=>hd t (List.mem_filterMap.2 ⟨o,o8 H',ht⟩)
   obtain⟨x,hx⟩:∃x,rs[i]? =aa x:=⟨_,oe D2⟩
   have hstep:=Dr.step (n:=n) (Qx:=Qx) hP hR cU hJ hT hs hl H' hx Bg haf
   have Iv:=P8 hT H' hx
   have adH:∀tmps:Array ai,Region.wanted o (yielded l.toArray tmps)=Region.wanted o (yielded ops.toArray tmps):=λtmps=>by
    unfold Region.wanted;cases hg:o.guard with
    |none=>rfl
    |some jb=>
     obtain⟨j,b⟩:=jb;have hj:∃og,ops[j]? =aa og:=by
      cases x with
      |run e l'=>obtain⟨h1,_⟩:=Iv;obtain⟨og,d,K,g,h2,_⟩:=h1 j b hg;exact⟨og,h2⟩
      |skip=>obtain⟨j',b',og,d,av,h1,h2,_⟩:=Iv;rw[hg]at h1;cases h1;exact⟨og,h2⟩
     obtain⟨og,hj⟩:=hj;have dt:=(g9.1 hj).1;have e1:l.toArray[j]? =aa og:=by simpa using(Ib j dt).trans hj
     have e2:ops.toArray[j]? =aa og:=by simpa using hj
     simp only[yielded,e1,e2]
   unfold wpOpIn
   rw[Bm]
   simp only
   cases x with
   |run e l'=>
    rw[aI (by rw[adH];exact hstep.1 a hf)]
    refine hstep.2 a _ (λx v hx=>hf.ev hx) ?_
    rintro v w2 ⟨bf,ug⟩
    exact next ug (Fr.rq hf xj v)
   |skip=>
    rw[aK (by rw[adH,hstep.1 a hf];simp)]
    exact⟨λ_ _=>trivial,next hstep.2 (Fr.rq hf xj undef)⟩
 have iD:∀j,(Array.replicate l.toArray.size ae).getD j ae=ae:=by intro j;simp[uN]
 have hD0:(λj=>(Array.replicate l.toArray.size ae).getD j ae)=λ_=>ae:=funext iD
 refine main _ _ a _ γ L (by simp) (λi _=>iD i) ?_ ?_ ha
 ·have:=List.length_filter_le (λi=> !(Array.replicate l.toArray.size ae).getD i ab) (bW ops.length);rw[List.length_range]at this;have h2:l.toArray.size=l.length:=by simp
  omega
 ·rw[hD0];have hU:UD (λ_=>ae) σ.nx ops.length=λi=>i<σ.nx:=by
   funext i;apply propext;unfold UD;constructor
   ·rintro(h|⟨q,h1,h2,h3⟩)
    ·exact h
    ·cases h2
   ·exact .inl
  have hz:∀{α:Type} {g:Nat->List (Nat×α)} {l0:List (Nat×α)},acc g l0 (λ_=>ae) ops.length=l0:=by intro α g l0;have:=JK (g:=g) (l0:=l0) (D:=λ_=>ae) (n:=0) (k:=ops.length) λ_ _=>rfl;rw[ke]at this;exact this
  have fE:iN (λi=>i<σ.nx) (λi=>i<σ.nx) γ w γ {w with drawn:=w.drawn+1}:=⟨λ_ h=>h,λ_ _=>rfl,λ_ _=>rfl,λ_ _ _=>⟨rfl,rfl⟩⟩;refine⟨?_,?_,⟨⟨rfl,rfl,rfl,bw _,λ_ _ _=>⟨rfl,rfl⟩,λb hb _=>⟨hb,rfl⟩⟩,λ_ _=>rfl⟩,λq o hq=>(by cases hq),hk.cO⟩
  ·rw[hU,hz];exact hk.sr.dn fE
  ·rw[hU,hz];exact⟨λi x hx=>by obtain⟨h1,h2,h3⟩:=hk.ob.ob i x hx;exact⟨h1,h2,h3.dn fE h2 λ_ _ _=>⟨rfl,rfl⟩⟩,hk.ob.cl,hk.ob.ro⟩
end
end
end Rx
end Go.Proofs.YtgaghlbepnjhiaaGreat
namespace Go.Proofs.YtgaghlbepnjhiaaGreat
open Go Go.RowKit Dp
namespace Rx
section
variable {D:Nat->Type} [∀n,ad (D n)]
variable {P:cT} {T:bc D} {Φ:List (az D)} {n:Nat}
def toX:Out->Exit
 | .normal=> .normal
 | .exit id=> .exit id
 | .goto l=> .goto l
 | .ret=> .ret
def as9(l:Nat)(J:Act->ax->Prop)(Q:Exit->Act->ax->Prop):Exit->Act->ax->Prop
 | .goto l',a,w=>if l'=l then J a w else Q (.goto l') a w
 |e,a,w=>Q e a w
def Lb [I:Rd](P:cT)(c:bO)(Qx:Exit->Act->ax->Prop):Prop:=∀l b,ya c=aa (l,b)->∃Jm:Nat->Act->ax->Prop,
 (∀m a w,b.wpIn I.F 0 P (as9 l (Jm m) Qx) a w->Jm (m+1) a w)∧∀m a w,Jm m a w->Qx (.goto l) a w
def Lb.none [Rd]{c:bO}{Qx:Exit->Act->ax->Prop}(h:je c=ab):Lb P c Qx:=by intro l b hs;unfold je at h;rw[hs]at h;cases h
def ac8{c:bO}{l:Nat}(h:AP c=aa l):c= .label l:=by
 unfold AP at h;split at h
 ·cases h;rfl
 ·cases h
def arG(l:Nat):∀(c:bO),je c=ab->gT c=ab->findLabel c l=none:=by
 intro c;induction c with
 |seq x y ihx T9=>
  intro h1 h2;unfold je at h1;unfold ya at h1;unfold gT at h2;cases hl:AP x with
  |some q=>rw[hl]at h1;cases h1
  |none=>rw[hl]at h1 h2;simp only[bt]at h2;unfold findLabel;rw[ihx h2.1.1 h2.1.2];exact T9 h1 h2.2
 |label q=>intro h1 _;cases h1
 |_=>intros;rfl
def apa [I:Rd]:∀(c:bO) {l:Nat} {b:bO},ya c=aa (l,b)->gT c=ab->∃rest,findLabel c l=aa rest∧∀(Q:Exit->Act->ax->Prop) a w,b.wpIn I.F 0 P Q a w->rest.wpIn I.F 0 P Q a w:=by
 intro c;induction c with
 |seq x y ihx T9=>
  intro l b h1 h2;unfold ya at h1;unfold gT at h2;cases hl:AP x with
  |some q=>rw[hl]at h1;cases h1;obtain rfl:=ac8 hl;refine⟨.seq .skip y,by simp[findLabel],λQ a w h=>wpIn_seq (wpIn_skip h)⟩
  |none=>rw[hl]at h1 h2;simp only[bt]at h2;obtain⟨rest,h3,h4⟩:=T9 h1 h2.2;refine⟨rest,?_,h4⟩;unfold findLabel;rw[arG l x h2.1.1 h2.1.2];exact h3
 |label q=>intro l b h1 _;cases h1;exact⟨.skip,by simp[findLabel],λQ a w h=>h⟩
 |_=>intro l b h1;cases h1
def tV [I:Rd](P:cT)(rest:bO)(l:Nat)(Q:Exit->Act->ax->Prop):Nat->Act->ax->Prop
 |0=>λ_ _=>False
 |m+1=>λa w=>rest.wpIn I.F 0 P (Exit.jump l (tV P rest l Q m) Q) a w
def MV{σ ρ:Type}(step:σ->Option (σ⊕ρ))(n:Nat)(s:σ):nM step (n+1) s=(match step s with
 |some (.inl s')=>nM step n s'
 |some (.inr r)=>aa r
 |none=>none):=rfl
def M1{p:Nat->Prop}(h:∃m,p m):∃m,p m∧∀k,k<m->¬p k:=by
 apply gD;intro hn;have key:∀m,¬p m:=by
  intro m;induction m using Nat.strongRecOn with
  |_ m ih=>exactλhp=>hn ⟨m,hp,λk hk=>ih k hk⟩
 obtain⟨m,hm⟩:=h;exact key m hm
open Classical in
def DR(p:Nat->Prop):Nat:=if h:∃m,p m then(M1 h).choose else 0
def asW{p:Nat->Prop}(h:∃m,p m):p (DR p):=by unfold DR;rw[dif_pos h];exact(M1 h).choose_spec.1
def asX{p:Nat->Prop}{m:Nat}(h:p m):DR p<=m:=by
 have hx:∃m,p m:=⟨m,h⟩;unfold DR;rw[dif_pos hx];rcases Nat.lt_or_ge m (M1 hx).choose with aS|sP
 ·exact((M1 hx).choose_spec.2 m aS h).elim
 ·exact sP
def Rd.wide{I:Rd}(h:I.ro=none):I.F=Fence.wide:=by unfold Rd.F;rw[h];rfl
def apQ [I:Rd](hI:I.ro=none){c rest:bO}{l:Nat}{Q:Exit->Act->ax->Prop}{a:Act}{w:ax}(hf:findLabel c l=aa rest)(first:c.wpIn I.F 0 P (Exit.jump l (λa w=>∃m,tV P rest l Q m a w) Q) a w):(bO.scope c).wpIn I.F 0 P Q a w:=by
 rw[Rd.wide hI]at first⊢
 rw[wpIn_wide]at first⊢
 refine wp_scope_jumps l (λa w=>∃m,tV P rest l Q m a w) (λa w=>DR λm=>tV P rest l Q m a w) hf first ?_
 intro a w h;have h1:=asW (p:=λm=>tV P rest l Q m a w) h;generalize DR (λm=>tV P rest l Q m a w)=m at*;cases m with
 |zero=>exact h1.elim
 |succ m=>
  have h1:rest.wpIn I.F 0 P (Exit.jump l (tV P rest l Q m) Q) a w:=h1;rw[Rd.wide hI,wpIn_wide]at h1;refine bO.wp_mono (λe a' w' he=>?_) h1;cases e with
  |goto l'=>exact⟨he.1,⟨m,he.2⟩,Nat.lt_succ_of_le (asX (p:=λm=>tV P rest l Q m a' w') he.2)⟩
  |_=>exact he
def apP [I:Rd](hI:I.ro=none){c:bO}{Q:Exit->Act->ax->Prop}{a:Act}{w:ax}(h:c.wpIn I.F 0 P (Exit.noGoto Q) a w):(bO.scope c).wpIn I.F 0 P Q a w:=by rw[Rd.wide hI]at h⊢;rw[wpIn_wide]at h⊢;exact wp_scope_straight h
def TC{σ ρ:Type}{step:σ->Option (σ⊕ρ)}:∀{n:Nat} {s:σ} {r:ρ},nM step n s=aa r->AD step s=aa r
 |0,s,r,h=>by cases h
 |n+1,s,r,h=>by
  have h:(match step s with
   |some (.inl s')=>nM step n s'
   |some (.inr r)=>aa r
   |none=>none)=aa r:=h
  rw[asy];cases hs:step s with
  |none=>rw[hs]at h;cases h
  |some x=>
   rw[hs]at h;cases x with
   |inl s'=>exact TC h
   |inr r'=>exact h
def acH{σ ρ:Type}{step:σ->Option (σ⊕ρ)}{s:σ}{r:ρ}(h:aG step s=aa r):AD step s=aa r:=TC h
section
variable (hP:ef P T) (hR:cK T) (cU:∀c∈Φ,gz P T c) (hm:P.follows .mixedOrders=ab)
include hP hR cU hm
theorem aqc [I:Rd]{id:Nat}{ops:Array aV}{draw:Bool}{sg:Sg}{ρ:Type}{σ:S D}{k:S D->Option ρ}{r:ρ}{γ:Gh D}{w:ax}{L:List (Nat×ai)}{Qx:Exit->Act->ax->Prop}(h:WE T Φ ops.toList draw sg σ k=aa r)(hd:∀t∈dstsOf ops.toList,I.fb n t=ab)(hk:Kn σ γ w L)
  (hc:∀be γ' w' L',Kn be γ' w' L'->Frame γ w γ' w'->ck (dstsOf ops.toList) σ be->k be=aa r->NK n (Qx .normal) L' w'):CW P n (.region id ops draw) Qx L w:=by
 unfold WE at h
 have e:ops=ops.toList.toArray:=by simp
 cases draw with
 |true=>
  dsimp only at h
  split at h
  case h_2=>cases h
  rename_i hs
  rw[e]
  have:=akK (id:=id) (ops:=ops.toList) (post:=[]) (Qx:=Qx) hP hR cU hm rfl hs h hd hk (λbe γ' w' L' k1 k2 k3 k4=>WL.nil (hc be γ' w' L' k1 k2 k3 k4))
  rwa[List.append_nil]at this
 |false=>
  dsimp only at h
  rw[e]
  exact CW.region (ay8 hP hR cU sg h hd hk hc)
theorem asx [Rd]{c:bO}{wr:List Nat}{j:J}{pr:Bool}{E:List (Out×J)}{ρ:Type}{body:∀{jv:Type},S D->(Out->S D->Option jv)->Option jv}{σ:S D}{k:Out->S D->Option ρ}{r:ρ}{γ:Gh D}{w:ax}{L:List (Nat×ai)}{Qx:Exit->Act->ax->Prop}
  (h:TD T wr j pr E body σ k=aa r) (hk:Kn σ γ w L)
  (NI:∀{jv:Type} {be:S D} {k':Out->S D->Option jv} {r':jv} {γ':Gh D} {w':ax} {L':List (Nat×ai)} {Q':Exit->Act->ax->Prop},body be k'=aa r'->Kn be γ' w' L'->(∀o aO aQ w1 L1,Kn aO aQ w1 L1->Frame γ' w' aQ w1->ck wr be aO->k' o aO=aa r'->NK n (Q' (toX o)) L1 w1)->CW P n c Q' L' w')
  (hc:∀o aO aQ w1 L1,Kn aO aQ w1 L1->Frame γ w aQ w1->ck wr σ aO->k o aO=aa r->NK n (Qx (toX o)) L1 w1):CW P n (.loop c) Qx L w:=by
 unfold TD at h
 obtain⟨h0,pF,h⟩:=sW h
 obtain⟨x,hx,hf⟩:=nZ h
 generalize Ed:j.mv++ru E=mv at*
 have hs:∀i∈σ.lk,i∈(kept σ mv).map bV++σ.lk:=λi hi=>bg.2 (.inr hi)
 have head:∀{h':HH D j.cP} {aO:S D} {aQ:Gh D} {w1:ax} {L1:List (Nat×ai)},Kn aO aQ w1 L1->ck wr {σ with lk:=(kept σ mv).map bV++σ.lk} aO->zA T j aO h'->Frame γ w aQ w1->∀{cm:S D},lF T j wr mv σ h'=aa cm->
   ∃γ',Kn cm γ' w1 L1∧Frame γ w γ' w1∧ck wr {σ with lk:=(kept σ mv).map bV++σ.lk} {cm with lk:=(kept σ mv).map bV++σ.lk}:=by
  intro h' aO aQ w1 L1 eK he hx eF cm hi
  obtain⟨bf,k1,k2,k3,_⟩:=AL hR rfl hk eK he hx hi
  exact⟨bf,k1,eF.trans k2,k3⟩
 refine CW.loop _ (λh' L' w'=>∀cm,lF T j wr mv σ h'=aa cm->∃γ',Kn cm γ' w' L'∧Frame γ w γ' w'∧ck wr {σ with lk:=(kept σ mv).map bV++σ.lk} {cm with lk:=(kept σ mv).map bV++σ.lk}) (acH hx) ?_ ?_
 ·intro cm hi;exact head (hk.lk _) (ck.refl _ _) pF (Frame.refl _ _) hi
 ·intro K s L' w' hinv y hy D8 yN;dsimp only at hy;split at hy
  case h_2=>cases hy
  rename_i cm na;obtain⟨γ',da,Vi,nk⟩:=hinv cm na;refine NI hy (da.lk _) λo aO aQ w1 L1 eK Vg Ii ho=>?_;have Vn:=nk.trans Ii;have out:∀{z:Option (wc D pr ρ E)} {o:Out},o≠.normal->z=toE T pr E o aO (k o {aO with lk:=σ.lk})->(match z with|some x=>aa (Sum.inr x)|none=>none)=aa y->NK n (Exit.then K Qx (toX o)) L1 w1:=by
   intro z o A9 hz M_;subst hz;split at M_
   case h_2=>cases M_
   rename_i x' d_;cases M_;have:=D8 x' rfl;subst this;have fin:∀o aO aQ w1 L1,o≠.normal->Kn aO aQ w1 L1->Frame γ w aQ w1->ck wr σ aO->k o aO=aa r->NK n (Exit.then K Qx (toX o)) L1 w1:=by
    intro o aO aQ w1 L1 A9 k1 k2 k3 k4;have:=hc o aO aQ w1 L1 k1 k2 k3 k4;cases o with
    |normal=>exact(A9 rfl).elim
    |exit id=>exact this
    |goto l=>exact this
    |ret=>exact this
   rcases Gp d_ hf with⟨j',y,bL,h1,h2,h3⟩|h1
   ·obtain⟨bf,k1,k2,k3,k4⟩:=AL hR rfl hk eK Vn h1 h2;have e3:=k3.Ks (σ:=σ) hs;have e:({bL with lk:=σ.lk}:S D)=bL:=by rw[<-k4]
    rw[show({({bL with lk:=(kept σ mv).map bV++σ.lk}:S D)with lk:=σ.lk}:S D)={bL with lk:=σ.lk}from rfl,e]at e3;exact fin o bL bf w1 L1 A9 k1 ((Vi.trans Vg).trans k2) e3 h3
   ·exact fin o _ aQ w1 L1 A9 (eK.lk _) (Vi.trans Vg) (Vn.Ks hs) h1
  cases o with
  |normal=>obtain⟨h',d_,e⟩:=sW ho;cases e;exact yN h' L1 w1 rfl λaEg eb=>head eK Vn d_ (Vi.trans Vg) eb
  |exit id=>exact out (by simp) rfl ho
  |goto l=>exact out (by simp) rfl ho
  |ret=>exact out (by simp) rfl ho
theorem tf [I:Rd]:∀(c:bO) (an:An) {ρ:Type} {σ:S D} {k:Out->S D->Option ρ} {r:ρ} {γ:Gh D} {w:ax} {L:List (Nat×ai)} {Qx:Exit->Act->ax->Prop},gT c=ab->(I.ro=none∨kU c=ab)->Lb P c Qx->fX T Φ c an σ k=aa r->(∀t∈writes c,I.fb n t=ab)->Kn σ γ w L->
  (∀o be γ' w' L',Kn be γ' w' L'->Frame γ w γ' w'->ck (writes c) σ be->k o be=aa r->NK n (Qx (toX o)) L' w')->CW P n c Qx L w:=by
 intro c
 induction c with
 |skip=>
  intro an ρ σ k r γ w L Qx hN hI hL h hd hk hc
  simp only[fX]at h
  exact CW.skip (hc .normal σ γ w L hk (Frame.refl _ _) (ck.refl _ _) h)
 |region id ops draw=>
  intro an ρ σ k r γ w L Qx hN hI hL h hd hk hc
  simp only[fX]at h
  refine zR hR h hk (X:=λo L' w'=>NK n (Qx (toX o)) L' w') ?_ hc
  intro jv be k' r' hb da hx
  exact aqc hP hR cU hm hb hd da λaO aQ w1 L1 m1 m2 m3 m4=>hx .normal aO aQ w1 L1 m1 m2 m3 m4
 |seq a b tW HC=>
  intro an ρ σ k r γ w L Qx hN hI hL h hd hk hc
  have rN:I.ro=none∨kU a=ab:=hI.imp (λh=>h) λh=>by simp only[kU,bt]at h;exact h.1
  have Iz:I.ro=none∨kU b=ab:=hI.imp (λh=>h) λh=>by simp only[kU,bt]at h;exact h.2
  simp only[fX]at h
  unfold gT at hN
  have ui:∀t∈writes a,t∈writes (.seq a b):=λt ht=>by simp only[writes];exact bg.2 (.inl ht)
  have xk:∀t∈writes b,t∈writes (.seq a b):=λt ht=>by simp only[writes];exact bg.2 (.inr ht)
  cases hl:AP a with
  |some l=>
   exfalso
   obtain rfl:=ac8 hl
   refine zR hR h hk (X:=λ_ _ _=>True) (λhb _ _=>?_) (λ_ _ _ _ _ _ _ _ _=>trivial)
   obtain⟨ff,_,hb⟩:=pQ hb
   simp[fX]at hb
  |none=>
  rw[hl]at hN
  simp only[bt]at hN
  have hLb:Lb P b Qx:=λl b' hs=>hL l b' (by unfold ya;rw[hl];exact hs)
  refine zR hR h hk (X:=λo L' w'=>NK n (Qx (toX o)) L' w') ?_ hc
  intro jv be k' r' hb da hx
  have aER:∀t∈writes a,t∈writes (.seq a b):=λt ht=>by simp only[writes];exact bg.2 (.inl ht)
  refine CW.seq λK hK=>?_
  obtain⟨ff,iD,hb⟩:=pQ hb
  obtain⟨fg,z1,z2,z3⟩:=pP iD da
  refine tW _ hN.1.2 rN (Lb.none hN.1.1) hb (λt ht=>hd t (ui t ht)) z1 λo aO aQ w1 L1 m1 m2 m3 m4=>?_
  have m3:=(z3.qM).trans (m3.mono ui)
  have m2:=z2.trans m2
  cases o with
  |normal=>
   refine hK _ _ ?_
   obtain⟨q_,hf5,m4⟩:=pQ m4
   obtain⟨jw,y1,y2,y3⟩:=pP hf5 m1
   refine HC _ hN.2 Iz hLb m4 (λt ht=>hd t (xk t ht)) y1 λo bL bf w2 L2 n1 n2 n3 n4=>?_
   exact hx o bL bf w2 L2 n1 (m2.trans (y2.trans n2)) (m3.trans (y3.qM.trans (n3.mono xk))) n4
  |exit id=>exact hx (.exit id) aO aQ w1 L1 m1 m2 m3 m4
  |goto l=>exact hx (.goto l) aO aQ w1 L1 m1 m2 m3 m4
  |ret=>exact hx .ret aO aQ w1 L1 m1 m2 m3 m4
 |cond x a b tW HC=>
  intro an ρ σ k r γ w L Qx hN hI hL h hd hk hc
  have rN:I.ro=none∨kU a=ab:=hI.imp (λh=>h) λh=>by simp only[kU,bt]at h;exact h.1
  have Iz:I.ro=none∨kU b=ab:=hI.imp (λh=>h) λh=>by simp only[kU,bt]at h;exact h.2
  simp only[fX]at h
  refine zR hR h hk (X:=λo L' w'=>NK n (Qx (toX o)) L' w') ?_ hc
  intro jv be k' r' hb da hx
  have ui:∀t∈writes a,t∈writes (.cond x a b):=λt ht=>by simp only[writes];exact bg.2 (.inl ht)
  have xk:∀t∈writes b,t∈writes (.cond x a b):=λt ht=>by simp only[writes];exact bg.2 (.inr ht)
  unfold gT at hN
  simp only[bt]at hN
  split at hb
  case h_2=>cases hb
  rename_i d K g b8
  obtain⟨v,h1,h2⟩:=cG da.sr b8
  have h2:v= .bool d:=h2.1
  subst h2
  intro a' jY
  refine wpIn_cond_split (jY.ev h1) (λvM=>?_) (λhdf=>?_)
  ·subst vM;obtain⟨ff,iD,hb⟩:=pQ hb;obtain⟨fg,z1,z2,z3⟩:=pP iD da;refine tW _ hN.1.2 rN (Lb.none hN.1.1.1) hb (λt ht=>hd t (ui t ht)) z1 (λo aO aQ w1 L1 m1 m2 m3 m4=>hx o aO aQ w1 L1 m1 (z2.trans m2) (z3.qM.trans (m3.mono ui)) m4) a' jY
  ·subst hdf;obtain⟨ff,iD,hb⟩:=pQ hb;obtain⟨fg,z1,z2,z3⟩:=pP iD da;refine HC _ hN.2 Iz (Lb.none hN.1.1.2) hb (λt ht=>hd t (xk t ht)) z1 (λo aO aQ w1 L1 m1 m2 m3 m4=>hx o aO aQ w1 L1 m1 (z2.trans m2) (z3.qM.trans (m3.mono xk)) m4) a' jY
 |block id a tW=>
  intro an ρ σ k r γ w L Qx hN hI hL h hd hk hc
  have rN:I.ro=none∨kU a=ab:=hI.imp (λh=>h) λh=>by simp only[kU]at h;exact h
  simp only[fX]at h
  refine zR hR h hk (X:=λo L' w'=>NK n (Qx (toX o)) L' w') ?_ hc
  intro jv be k' r' hb da hx
  refine CW.block ?_
  unfold gT at hN
  simp only[bt]at hN
  obtain⟨ff,iD,hb⟩:=pQ hb
  obtain⟨fg,z1,z2,z3⟩:=pP iD da
  refine tW _ hN.2 rN (Lb.none hN.1) hb hd z1 λo aO aQ w1 L1 m1 m2 m3 m4=>?_
  have m2:=z2.trans m2
  have m3:=z3.qM.trans m3
  cases o with
  |normal=>exact hx .normal aO aQ w1 L1 m1 m2 m3 m4
  |exit AQ=>
   dsimp only at m4
   intro a' jY
   show(if AQ=id then Qx .normal a' w1 else Qx (.exit AQ) a' w1)
   cases hb:aW AQ id with
   |true=>
    rw[hb]at m4
    rw[aI (bA hb)]
    exact hx .normal aO aQ w1 L1 m1 m2 m3 m4 a' jY
   |false=>
    rw[hb]at m4
    have bM:¬AQ=id:=λe=>by subst e;simp at hb
    rw[aK bM]
    exact hx (.exit AQ) aO aQ w1 L1 m1 m2 m3 m4 a' jY
  |goto l=>exact hx (.goto l) aO aQ w1 L1 m1 m2 m3 m4
  |ret=>exact hx .ret aO aQ w1 L1 m1 m2 m3 m4
 |loop a tW=>
  intro an ρ σ k r γ w L Qx hN hI hL h hd hk hc
  have rN:I.ro=none∨kU a=ab:=hI.imp (λh=>h) λh=>by simp only[kU]at h;exact h
  cases an with
  |loop j pr E x=>
   simp only[fX]at h
   unfold gT at hN
   simp only[bt]at hN
   refine asx hP hR cU hm h hk ?_ hc
   intro jv be k' r' γ' w' L' Q' hb da hx
   obtain⟨ff,iD,hb⟩:=pQ hb
   obtain⟨fg,z1,z2,z3⟩:=pP iD da
   exact tW x.un hN.2 rN (Lb.none hN.1) hb hd z1 λo aO aQ w1 L1 m1 m2 m3 m4=>hx o aO aQ w1 L1 m1 (z2.trans m2) (z3.qM.trans m3) m4
  |_=>simp[fX]at h
 |exit id=>
  intro an ρ σ k r γ w L Qx hN hI hL h hd hk hc
  simp only[fX]at h
  exact CW.exit (hc (.exit id) σ γ w L hk (Frame.refl _ _) (ck.refl _ _) h)
 |ret=>
  intro an ρ σ k r γ w L Qx hN hI hL h hd hk hc
  simp only[fX]at h
  have:=hc .ret σ γ w L hk (Frame.refl _ _) (ck.refl _ _) h
  exactλa ha=>wpIn_ret (this a ha)
 |rangeFunc=>intro an ρ σ k r γ w L Qx hN hI hL h;simp[fX]at h
 |scope a tW=>
  intro an ρ σ k r γ w L Qx hN hI hL h hd hk hc
  have Eu:I.ro=none:=hI.resolve_right λh=>by simp[kU]at h
  have rN:I.ro=none∨kU a=ab:= .inl Eu
  simp only[fX]at h
  unfold gT at hN
  refine zR hR h hk (X:=λo L' w'=>NK n (Qx (toX o)) L' w') ?_ hc
  intro jv be k' r' hb da hx
  obtain⟨ff,iD,hb⟩:=pQ hb
  obtain⟨fg,z1,z2,z3⟩:=pP iD da
  cases hs:ya a with
  |none=>
   intro a' jY
   refine apP Eu (tW _ hN rN (Lb.none (by unfold je;rw[hs];rfl)) hb hd z1 (λo aO aQ w1 L1 m1 m2 m3 m4=>?_) a' jY)
   have m2:=z2.trans m2
   have m3:=z3.qM.trans m3
   cases o with
   |normal=>exact hx .normal aO aQ w1 L1 m1 m2 m3 m4
   |exit id=>exact hx (.exit id) aO aQ w1 L1 m1 m2 m3 m4
   |goto l=>cases m4
   |ret=>exact hx .ret aO aQ w1 L1 m1 m2 m3 m4
  |some q=>
   obtain⟨l,b⟩:=q
   obtain⟨rest,hf,A3⟩:=apa (P:=P) a hs hN
   intro a' jY
   refine apQ Eu hf (tW _ hN rN (λl' b' w8=>?_) hb hd z1 (λo aO aQ w1 L1 m1 m2 m3 m4=>?_) a' jY)
   ·rw[hs]at w8;cases w8;refine⟨tV P rest l Qx,λm a w h=>A3 _ _ _ (wpIn_mono h (λe a' w' he=>?_)),λm a w h=>⟨rfl,m,h⟩⟩;cases e with
    |goto q=>
     have he:(if q=l then tV P rest l Qx m a' w' else(q=l∧∃m,tV P rest l Qx m a' w')):=he;split at he
     ·rename_i hq;exact⟨hq,he⟩
     ·rename_i hq;exact(hq he.1).elim
    |_=>exact he
   ·have m2:=z2.trans m2;have m3:=z3.qM.trans m3;cases o with
    |normal=>exact hx .normal aO aQ w1 L1 m1 m2 m3 m4
    |exit id=>exact hx (.exit id) aO aQ w1 L1 m1 m2 m3 m4
    |goto l=>cases m4
    |ret=>exact hx .ret aO aQ w1 L1 m1 m2 m3 m4
 |label=>intro an ρ σ k r γ w L Qx hN hI hL h;simp[fX]at h
 |goto l=>
  intro an ρ σ k r γ w L Qx hN hI hL h hd hk hc
  simp only[fX]at h
  have:=hc (.goto l) σ γ w L hk (Frame.refl _ _) (ck.refl _ _) h
  exactλa ha=>wpIn_goto (this a ha)
 |refuse=>intro an ρ σ k r γ w L Qx hN hI hL h;simp[fX]at h
end
def ap4{t:TypeId}{a:Bool}{z:List ai}{pa:Addr}{cs:List ai}{w:ax}(hT:bj P t a z)(hz:a=ae->z.length=1)(hc:j_ w pa cs)(hl:cs.length=z.length):(loadVar t pa).run P w= .ok (pack a cs) w:=by
 simp only[loadVar,Sem.run_bind,hT.isAgg,Result.andThen_ok];cases a with
 |true=>have:=run_loadCells_list (P:=P) w pa cs hc;rw[hl]at this;simp[hT.sizeOf,this,pack]
 |false=>
  rw[hz rfl]at hl;match cs,hl,hc with
  |[u],_,hc=>
   have:=hc 0 u rfl;have hu:w.cell? pa=aa u:=by simpa[Addr.add]using this
   simp[pack,hu]
def SM(hP:ef P T){σ:S D}{γ:Gh D}{w:ax}{L:List (Nat×ai)}(hk:Kn σ γ w L):∀{rs:List lT} {l:List Nat} {fp:List (AV D)},Q.R σ.ob (Dx T σ.sl rs) l fp->∃vs,zv P L w rs vs∧nz (λi=>i<σ.nx) γ w fp vs
 |[],l,fp,h=>by obtain⟨_,rfl⟩:=h;exact⟨[],trivial,trivial⟩
 | .tmp t::rs,l,fp,h=>by
   simp only[Dx]at h;split at h
   case h_2=>cases h
   rename_i a ha;obtain⟨l1,l2,bs,_,h1,h2⟩:=Q.ga h;obtain⟨_,rfl⟩:=h2;obtain⟨v,k1,k2⟩:=hk.sr t a ha;obtain⟨vs,k3,k4⟩:=SM hP hk h1;exact⟨v::vs,⟨k1,k3⟩,k2,k4⟩
 | .cell t ty::rs,l,fp,h=>by
   simp only[Dx]at h;split at h
   case h_2=>cases h
   rename_i i off eh ha ht;obtain⟨ao,l',ho,rfl,h⟩:=h;cases ao with
   |sl=>cases h
   |df=>cases h
   |iH=>cases h
   |fz=>cases h
   |mp=>cases h
   |box cs=>
    dsimp only at h;split at h
    case h_2=>cases h
    rename_i a NF;obtain⟨l1,l2,bs,_,h1,h2⟩:=Q.ga h;obtain⟨_,rfl⟩:=h2;obtain⟨v,k1,_,b,hg,rfl⟩:=hk.sr t _ ha;obtain⟨_,_,b',us,t',m1,m2,m3,m4,m5⟩:=hk.ob.ob i _ ho;rw[hg]at m1;obtain⟨rfl,_⟩:=Mh m1;obtain⟨n1,n2⟩:=OQ m4 NF;obtain⟨vs,k3,k4⟩:=SM hP hk h1;have hT:=(hP.ty ty eh ht).1;have fD:=ap4 (w:=w) hT (QM T eh) (WW m3 off (eh.n T)) (by rw[F_];simp;omega);exact⟨_::vs,⟨⟨_,k1,fD⟩,k3⟩,n2,k4⟩
def PW{U:Nat->Prop}{γ:Gh D}{w:ax}:∀{as:List (AC D)} {vs:List ai} {k:Nat},jr U γ w as vs->SR U γ w (Fs k as) (tu k vs)
 |[],[],k,_=>λt a h=>by simp[Fs,aF]at h
 |a::as,v::vs,k,h=>SR.cons (PW h.2) h.1
 |[],_::_,k,h=>h.elim
 |_::_,[],k,h=>h.elim
def px(m:M D)(x:Nat):Nat:=match aF (swap m.ids) x with
 |some p=>p
 |none=>if bP m.ku x then 1 else if x<4 then x else 2
def abn(hP:ef P T)(hR:cK T){σ:S D}{γ:Gh D}{w:ax}{L:List (Nat×ai)}{c:az D}{rs:List lT}{r:HH D c.outs}(hk:Kn σ γ w L)(VA:∀q∈c.cn,1000<=q.1)(hs:∀q∈c.ob,q.1<2000)(h:vc.fin T c rs σ=aa r):
  ∃vs,zv P L w rs vs∧∃γ' u_ ko,im T (dK T c.outs r) aa id 3000 c.kl=aa u_∧jN T (dK T c.outs r) aa id 3000 c.cn=aa ko∧v_ (λ_=>True) γ' w u_ (yj vs)∧(∀p x,dC ko p=aa x->OR (λ_=>True) γ' w p x)∧
   (∀p,(p,p)∈stay c->γ'.g p=γ.g p)∧Frame0 γ w γ' w:=by
 unfold vc.fin at h
 obtain⟨l,fp,h1,h2⟩:=Q.IC h
 obtain⟨l',x,h3,h4⟩:=Q.IC h2
 obtain⟨hh,m⟩:=x
 dsimp only at h4
 split at h4
 case h_2=>cases h4
 rename_i u_ ko l8 nP
 have h4:=kb h4
 subst h4
 obtain⟨vs,k1,k2⟩:=SM hP hk h1
 obtain⟨⟨hex,Eg⟩,vK⟩:=N7 hR hk.ob h3 k2
 dsimp only at hex Eg vK
 have uc:∀x,(∀p,(p,x)∉m.ids)->aF (swap m.ids) x=none:=λx hn=>by
  cases hl:aF (swap m.ids) x with
  |none=>rfl
  |some p=>exact(hn p (wF.1 (dS hl))).elim
 have yL:∀x,x<4->px m x=x:=λx hx=>by
  unfold px;rw[uc x λp hp=>by have:=hex.D1 p x hp;omega];have h1:bP m.ku x=ae:=by
   cases hm:bP m.ku x with
   |true=>have:=(hex.ku x (eA.1 hm)).1;omega
   |false=>rfl
  simp only[h1,aC,aB];rw[aI hx]
 have Uy:∀x,x∈m.ku->px m x=1:=λx hx=>by unfold px;rw[uc x (hex.ku x hx).2];simp only[eA.2 hx,aH]
 have awd:∀p i,(p,i)∈m.ids->px m i=p:=λp i hp=>by unfold px;rw[MW hex.ids hp]
 have Bz:Fin T (λi=>i<σ.nx) (λ_=>True) γ ⟨λb=>px m (γ.o b),qL γ m,gm γ.v 3000 (dK T c.outs hh)⟩ w m (dK T c.outs hh) 3000:=by
  refine⟨hex.dv,λp i hp=>⟨trivial,ID hex hp⟩,λi x hx=>?_,λ_ p _ Uh _=>?_,λK Kp eE hK xg b hb=>?_,λq K Kp hq eE hK xg b hb=>?_,λi d hd=> .inr ⟨trivial,Hl hd⟩⟩
  ·have:=(hex.new _ hx).1;simp only at this;show ¬i<σ.nx;omega
  ·rw[hex.ZQ]at Uh;omega
  ·unfold M.may at eE;rw[hex.BV]at eE;simp only[aC,aB,Gt,dX]at eE;have hb:γ.o b∈K:=hb;show px m (γ.o b)∈Kp;rw[yL _ (by have:=hK _ hb;omega)];exact eA.1 (eE _ hb)
  ·unfold M.may at eE;rw[hex.BV]at eE;simp only[aC,aB,Gt,dX]at eE;have hb:γ.o b∈q::K:=hb;show px m (γ.o b)∈Kp;rcases cj.1 hb with hb|hb
   ·rw[hb,Uy q hq];exact eA.1 (eE 1 (by simp))
   ·rw[yL _ (by have:=hK _ hb;omega)];exact eA.1 (eE _ (by simp[hb]))
 have By:FT γ ⟨λb=>px m (γ.o b),qL γ m,gm γ.v 3000 (dK T c.outs hh)⟩ m:=⟨λp i hp b hb=>by show px m (γ.o b)=p;rw[hb];exact awd p i hp⟩
 obtain⟨g1,g2⟩:=vK Bz By
 have rE:=g1 u_ l8
 refine⟨vs,k1,_,u_,ko,l8,nP,?_,λp x hx=>(g2 ko nP p x hx).2.2,λp hp=>?_,⟨rfl,rfl,rfl,bw _,λb hb hc=>⟨yL _ (by omega),rfl⟩,λb hb hc=>⟨hb,?_⟩⟩⟩
 ·unfold v_;match u_,vs,rE with
  |[],[],_=>exact⟨[],rfl,trivial⟩
  |[a],[v],rE=>exact rE.1
  |a::a'::as,v::v'::vs,rE=>exact⟨v::v'::vs,rfl,rE⟩
  |[],_::_,rE=>exact rE.elim
  |_::_,[],rE=>exact rE.elim
  |[a],v::v'::vs,rE=>exact rE.2.elim
  |a::a'::as,[v],rE=>exact rE.2.elim
 ·have iJ:=hex.Uc _ hp;refine(ID hex iJ).2 λx hx=>?_;have h5:=(hex.new _ hx).1;simp only at h5;have hpb:p<2000:=by unfold stay at hp;obtain⟨q,hq,e⟩:=dk.1 hp;cases e;obtain⟨q',ua⟩:=sH (kH.1 hq).2;exact hs (q.1,q') ua
  have:=hk.cO;omega
 ·show γ.o b=px m (γ.o b);have hc:px m (γ.o b)=0∨px m (γ.o b)=3:=hc;have vG:∀p i,(p,i)∈m.ids->1000<=p:=λp i hp=>by obtain⟨q,hq⟩:=sH (hex.key p i hp);exact VA (p,q) hq
  unfold px at hc⊢;cases hl:aF (swap m.ids) (γ.o b)with
  |some p=>rw[hl]at hc;have:=vG p _ (wF.1 (dS hl));dsimp only at hc;omega
  |none=>
   rw[hl]at hc;dsimp only at hc⊢;split at hc
   ·omega
   ·split at hc
    ·rename_i h5 h6;simp only[h5,h6,aH,aB];simp
    ·omega
def jr.len{U:Nat->Prop}{γ:Gh D}{w:ax}:∀{as:List (AC D)} {vs:List ai},jr U γ w as vs->vs.length=as.length
 |[],[],_=>rfl
 |_::as,_::vs,h=>by simp[jr.len h.2]
 |[],_::_,h=>h.elim
 |_::_,[],h=>h.elim
def afm(hP:ef P T)(hR:cK T){c:az D}{fn:Func}{code:bO}{rs:List lT}
  (kW:∀(args:Array ai) (w:ax),(callFunc c.f args).run P w= .ok (.enter c.f args) w)
  (hf:P.funcs[c.f]? =aa fn) (hb:fn.body=aa code) (l8:fn.results=rs.toArray)
  (b6:((writes code).all (λt=>dJ t fn.ntmps)&&eN c.args.length fn.ntmps&&tU c.kl c.cn&&mZ (c.cn.map bV)&&c.cn.all (λp=>eN 1000 p.1)&&eN c.cn.length 40)=ab)
  (at9:∀h r,c.fn h=aa r->∃σ,y8 T c h=aa σ∧∀{γ:Gh D} {w:ax} {L:List (Nat×ai)} {Qx:Exit->Act->ax->Prop},Kn σ γ w L->
    (∀o be γ' w' L',Kn be γ' w' L'->Frame γ w γ' w'->vc T c rs o be=aa r->NK fn.ntmps (Qx (toX o)) L' w')->CW P fn.ntmps code Qx L w):gz P T c:=by
 simp only[bt]at b6
 obtain⟨⟨⟨⟨⟨hw,hl⟩,ji⟩,Bj⟩,qK⟩,yU⟩:=b6
 refine⟨kW,ji,Bj,qK,yU,λh r hr as eU has nP γ w vs hv bK=>?_⟩
 obtain⟨σ,lG,hwk⟩:=at9 h r hr
 unfold y8 at lG
 dsimp only at lG
 split at lG
 case isFalse=>cases lG
 rename_i hc
 rw[has,nP]at lG
 have lG:=kb lG
 subst lG
 simp only[bt,dX]at hc qK hw
 have mG:=PW (k:=0) hv
 have hlen:=hv.len
 have Bh:=D0 has
 refine enter hf hb rfl (by rw[hlen,Bh];exact hl) ?_
 refine hwk (γ:=γ) ⟨mG,bK,bw _⟩ λo be γ' w' L' da eF ho=>?_
 have fin:∀{be},Kn be γ' w' L'->vc.fin T c rs be=aa r->∃vs,zv P L' w' rs vs∧mi (λv w'=>∃U' γ' rs ko,im T (dK T c.outs r) aa id 3000 c.kl=aa rs∧jN T (dK T c.outs r) aa id 3000 c.cn=aa ko∧
   v_ U' γ' w' rs v∧(∀p x,dC ko p=aa x->OR U' γ' w' p x)∧(∀p,(p,p)∈stay c->γ'.g p=γ.g p)∧Frame0 γ w γ' w') (.returned (yj vs)) w':=by
  intro be da ho
  obtain⟨vs,h1,bf,u_,ko,h2,h3,h4,h5,h6,h7⟩:=abn hP hR da (λq hq=>dw (qK q hq)) (λq hq=>by have:=dw (hc.2 q hq).2;omega) ho
  refine⟨vs,h1,_,rfl,_,bf,u_,ko,h2,h3,h4,h5,λp hp=>?_,eF.toFrame0.trans h7⟩
  rw[h6 p hp]
  refine eF.gk p ?_
  unfold stay at hp
  obtain⟨q,hq,e⟩:=dk.1 hp
  cases e
  obtain⟨q',ua⟩:=sH (kH.1 hq).2
  have:=dw (hc.2 _ ua).2
  simp only at this
  omega
 cases o with
 |normal=>
  obtain⟨vs,h1,h2⟩:=fin da ho
  exactλa ha=>bodyPost_end (Ac (λ_ _ hx=>ha.ev hx) l8 h1) ha.defers h2
 |ret=>
  obtain⟨vs,h1,h2⟩:=fin da ho
  exactλa ha=>bodyPost_ret (Ac (λ_ _ hx=>ha.ev hx) l8 h1) ha.defers h2
 |exit id=>cases ho
 |goto l=>cases ho
def afk(hP:ef P T)(hR:cK T)(cU:∀c∈Φ,gz P T c)(hm:P.follows .mixedOrders=ab){c:az D}{fn:Func}{code:bO}{rs:List lT}{an:An}
  (kW:∀(args:Array ai) (w:ax),(callFunc c.f args).run P w= .ok (.enter c.f args) w)
  (hf:P.funcs[c.f]? =aa fn) (hb:fn.body=aa code) (l8:fn.results=rs.toArray)
  (b6:((writes code).all (λt=>dJ t fn.ntmps)&&eN c.args.length fn.ntmps&&tU c.kl c.cn&&mZ (c.cn.map bV)&&c.cn.all (λp=>eN 1000 p.1)&&eN c.cn.length 40)=ab)
  (rJ:∀h,LH T Φ c rs code an h=c.fn h):gz P T c:=by
 refine afm hP hR kW hf hb l8 b6 λh r hr=>?_
 simp only[bt]at b6
 obtain⟨⟨⟨⟨⟨hw,_⟩,_⟩,_⟩,_⟩,_⟩:=b6
 simp only[dX]at hw
 rw[<-rJ]at hr
 unfold LH at hr
 split at hr
 case h_2=>cases hr
 rename_i jB
 simp only[bt]at jB
 split at hr
 case h_2=>cases hr
 rename_i σ lG
 refine⟨σ,lG,λhk hc=>?_⟩
 obtain⟨ff,iD,hr⟩:=pQ hr
 obtain⟨fg,z1,z2,z3⟩:=pP iD hk
 exact tf hP hR cU hm code an.un jB.2 (.inl rfl) (Lb.none jB.1) hr (λt ht=>by unfold Rd.fb;rw[hw t ht];rfl) z1 λo be γ' w' L' da eF Ih ho=>hc o be γ' w' L' da (z2.trans eF) ho
abbrev wK(T:bc D)(Φ:List (az D))(c:az D)(rs:List lT)(code:bO)(an:An):az D:=⟨c.f,c.ins,c.outs,c.args,c.ob,c.kl,c.cn,LH T Φ c rs code an⟩
def z_(hP:ef P T)(hR:cK T)(cU:∀c∈Φ,gz P T c)(hm:P.follows .mixedOrders=ab){c:az D}{fn:Func}{code:bO}{rs:List lT}{an:An}
  (kW:∀(args:Array ai) (w:ax),(callFunc c.f args).run P w= .ok (.enter c.f args) w)
  (hf:P.funcs[c.f]? =aa fn) (hb:fn.body=aa code) (l8:fn.results=rs.toArray)
  (b6:((writes code).all (λt=>dJ t fn.ntmps)&&eN c.args.length fn.ntmps&&tU c.kl c.cn&&mZ (c.cn.map bV)&&c.cn.all (λp=>eN 1000 p.1)&&eN c.cn.length 40)=ab):gz P T (wK T Φ c rs code an):=
 afk (c:=wK T Φ c rs code an) (an:=an) hP hR cU hm kW hf hb l8 b6 λ_=>rfl
