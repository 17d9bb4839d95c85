import Derived.Test.YtmngjhagbjgmfaaGreatRh
set_option linter.all false
open Array renaming getElem?_eq_some_iff->jx
open Bool renaming and_eq_true->bq,false->ai,not_eq_true'->pS,or_eq_true->rX,true->ab
open Go renaming Value->ah,World->ax
open List renaming all_eq_true->dR,getElem?_eq_some_iff->gH,map_cons->gu,mem_append->bz,mem_cons->cr,mem_cons_of_mem->eV,mem_filter->k_,mem_flatMap->Ft,mem_map->dC
open Nat renaming beq->aT,ble->ef,eq_of_beq_eq_true->bA,le_of_ble_eq_true->dm,le_refl->bw,zero_add->kD
open Option renaming some->aa
open Option.some renaming inj->jM,injEq->fC
open Prod renaming fst->bS,snd->oQ
open Prod.mk renaming injEq->v7
namespace Go.Proofs.YtmngjhagbjgmfaaGreat
open Go Go.RowKit Dp
namespace Rx
section
variable {D:Nat->Type} [∀n,ad (D n)]
variable {T:bb D} {U U':Nat->Prop} {γ γ':Gh D} {w:ax} {ob:List (Nat×Option (AO D))} {l:List Nat}
structure ep(m m2:M D):Prop where
 call:m2.call=m.call
 xb:m2.xb=m.xb
 tl:m2.tl=m.tl
 po:m2.po=m.po
 ids:∀p∈m.ids,p∈m2.ids
 fm:∀p∈m.fm,p∈m2.fm
 ku:∀i∈m.ku,i∈m2.ku
 kr:∀i∈m.kr,i∈m2.kr
 new:∀p∈m.new,p∈m2.new
 nf:m.nf<=m2.nf
 nw:∀p∈m2.new,p∈m.new∨(m.nf<=p.1∧p.1<m2.nf∧∃n t,p.2= .sl n t [] [] 0)
def ep.same{m m2:M D}(h1:m2.call=m.call∧m2.xb=m.xb)(h2:m2.tl=m.tl)(h3:m2.po=m.po)(h4:∀p∈m.ids,p∈m2.ids)(h5:∀p∈m.fm,p∈m2.fm)(h6:∀i∈m.ku,i∈m2.ku)(h7:∀i∈m.kr,i∈m2.kr)(h8:m2.new=m.new)(h9:m2.nf=m.nf):ep m m2:=⟨h1.1,h1.2,h2,h3,h4,h5,h6,h7,λp hp=>by rw[h8];exact hp,by omega,λp hp=> .inl (by rw[h8]at hp;exact hp)⟩
def ep.refl(m:M D):ep m m:= .same ⟨rfl,rfl⟩ rfl rfl (λ_ h=>h) (λ_ h=>h) (λ_ h=>h) (λ_ h=>h) rfl rfl
def ep.trans{m m2 m3:M D}(h:ep m m2)(k:ep m2 m3):ep m m3:=
 ⟨k.call.trans h.call,k.xb.trans h.xb,k.tl.trans h.tl,k.po.trans h.po,λp hp=>k.ids p (h.ids p hp),λp hp=>k.fm p (h.fm p hp),λp hp=>k.ku p (h.ku p hp),λp hp=>k.kr p (h.kr p hp),λp hp=>k.new p (h.new p hp),Nat.le_trans h.nf k.nf,λp hp=>by
   have h1:=h.nf;have h2:=k.nf;rcases k.nw p hp with hp|hp
   ·rcases h.nw p hp with hp|hp
    ·exact .inl hp
    ·exact .inr ⟨hp.1,by omega,hp.2.2⟩
   ·exact .inr ⟨by omega,hp.2⟩⟩
structure Fin(T:bb D)(U U':Nat->Prop)(γ γ':Gh D)(w:ax)(m:M D)(fl:List (DV D))(tg:Nat):Prop where
 dv:∀i d,(i,d)∈m.fm->fl[i]? =aa d
 id:∀p i,(p,i)∈m.ids->U' p∧((∃x,(i,x)∈m.new)->γ'.g p= .slice none 0 0)∧((∀x,(i,x)∉m.new)->γ'.g p=γ.g i)
 fresh:∀i x,(i,x)∈m.new->¬U i
 ext:m.call=ai->∀p,bM (m.po.map bS) p=ai->p<m.xb->U p->U' p∧γ'.g p=γ.g p
 may:∀K Kp,m.may K Kp=ab->eh K->(∀x∈K,x∈m.kr)->∀b,In γ.o K b->In γ'.o Kp b
 own:∀j K Kp,j∈m.ku->m.may (1::K) Kp=ab->eh K->(∀x∈K,x∈m.kr)->∀b,In γ.o (j::K) b->In γ'.o Kp b
 nm:∀i d,fl[i]? =aa d->named U' γ' (tg+i) d
section
variable {m m' mf:M D} {fl:List (DV D)} {tg:Nat}
def asl{i:Nat}{K:List Nat}{lf:Lf}{x:lf.den D}(h:fl[i]? =aa ⟨lf,x⟩):iV T fl aa id tg (.h i K)=aa (.v lf x (Ao K lf) (tg+i)):=by simp only[iV,h,id]
def dA.Zt{i:Nat}{lf:Lf}{x:lf.den D}{v:ah}{K:List Nat}(h:dA (In γ'.o K) w v ⟨lf,x⟩)(hK:eh K)(hn:named U' γ' (tg+i) ⟨lf,x⟩):
  fR U' γ' w (.v lf x (Ao K lf) (tg+i)) v:=by
 cases lf with
 |sl n=>exact⟨h,hn,hK⟩
 |int k=>exact⟨h,hn,lj⟩
 |bool=>exact⟨h,hn,lj⟩
 |str=>exact⟨h,hn,lj⟩
def ayc(bG:OB U γ w ob){i n off ct q t tc g:Nat}{j:Int}{dd:List (D q)}{xs:List (D n)}{v:ah}(ho:dt ob i=aa (.cX n t tc q xs g ct))(hv:fR U γ w (.ch i n j off ct q dd) v):Rv (In γ.o [i]) w v dd:=by
 obtain⟨hU,⟨Ux,_⟩,⟨oc,y,e1,e2,sy⟩,⟨b,len,cap,cells,hg,HM,ui⟩,_⟩:=hv;obtain⟨_,_,m1,m2,m3⟩:=bG.ob _ _ ho;rcases m3 with m3|⟨_,m0,ayd,m4,m5⟩
 ·exact(Ux m3).elim
 rw[HM]at m4;cases m4;rw[m0]at e1;cases e1;obtain⟨cs,k1,k2⟩:=fB.at m1.ow.de hg e2;rw[kD]at k2;obtain⟨u,k3,k4⟩:=sy _ _ _ k1;have aU:=(gH.1 k3).1;have hu:u=v:=by have h1:=k2 off u k3;rw[jI]at h1;rw[m5 b len cap _ hg,ui]at h1;exact(jM h1).symm
 subst hu;refine k4.weaken λb hb=>?_;unfold In at hb⊢;simp only[cr,List.not_mem_nil,kB]at hb⊢;exact(Dl hb).1
def GH(bG:OB U γ w ob){i:Nat}{Kp:List Nat}{a:A1 D}{v:ah}(hK:eh Kp)(h:Q.R ob (wE m i Kp a) l m')(hv:fR U γ w a v):
  ep m m'∧m'.ids=m.ids∧m'.new=m.new∧m'.nf=m.nf∧(ep m' mf->Fin T U U' γ γ' w mf fl tg->∃d,fl[i]? =aa d∧dA (In γ'.o Kp) w v d):=by
 cases a with
 |v lf x K g=>
  simp only[wE]at h
  split at h
  case isFalse=>cases h
  rename_i ew
  obtain⟨_,rfl⟩:=h
  refine⟨.same ⟨rfl,rfl⟩ rfl rfl (λ_ h=>h) (λ_ h=>eV _ h) (λ_ h=>h) (λ_ h=>bz.2 (.inr h)) rfl rfl,rfl,rfl,rfl,λhle hF=>?_⟩
  have h1:=hF.dv i ⟨lf,x⟩ (hle.fm _ (by simp[M.dv,M.reads]))
  refine⟨_,h1,?_⟩
  refine hv.1.weaken (hF.may K Kp ?_ hv.2.2 λx hx=>hle.kr _ (by simp[M.dv,M.reads,hx]))
  unfold M.may at ew⊢
  rw[hle.call]
  exact ew
 |vb n xs K g b=>
  simp only[wE]at h
  split at h
  case isFalse=>cases h
  rename_i ew
  obtain⟨_,rfl⟩:=h
  refine⟨.same ⟨rfl,rfl⟩ rfl rfl (λ_ h=>h) (λ_ h=>eV _ h) (λ_ h=>h) (λ_ h=>bz.2 (.inr h)) rfl rfl,rfl,rfl,rfl,λhle hF=>?_⟩
  have h1:=hF.dv i ⟨.sl n,xs⟩ (hle.fm _ (by simp[M.dv,M.reads]))
  refine⟨_,h1,?_⟩
  refine dA.weaken (x:=⟨.sl n,xs⟩) (hF.may K Kp ?_ hv.1.2.2 λx hx=>hle.kr _ (by simp[M.dv,M.reads,hx])) hv.1.1
  unfold M.may at ew⊢
  rw[hle.call]
  exact ew
 |bE=>
  simp only[wE]at h
  split at h
  case h_2=>cases h
  rename_i n hn
  obtain⟨_,rfl⟩:=h
  refine⟨.same ⟨rfl,rfl⟩ rfl rfl (λ_ h=>h) (λ_ h=>eV _ h) (λ_ h=>h) (λ_ h=>h) rfl rfl,rfl,rfl,rfl,λhle hF=>?_⟩
  have h1:=hF.dv i ⟨.sl n,[]⟩ (hle.fm _ (by simp[M.dv]))
  have hv:v= .slice none 0 0:=hv
  subst hv
  exact⟨_,h1,CX _ _⟩
 |own j=>
  obtain⟨ao,l',ho,rfl,h⟩:=h
  dsimp only at h
  split at h
  ·rename_i dv K A8;split at h
   case isFalse=>cases h
   rename_i ew;obtain⟨_,rfl⟩:=h;refine⟨.same ⟨rfl,rfl⟩ rfl rfl (λ_ h=>h) (λ_ h=>eV _ h) (λ_ h=>h) (λ_ h=>bz.2 (.inr h)) rfl rfl,rfl,rfl,rfl,λhle hF=>?_⟩;have h1:=hF.dv i dv (hle.fm _ (by simp[M.dv,M.reads]));obtain⟨_,rfl,_⟩:=hv;obtain⟨_,_,k0⟩:=bG.ob _ _ ho;obtain⟨k1,k2⟩:=ajv k0 A8;refine⟨_,h1,?_⟩;refine dA.weaken (hF.may K Kp ?_ k2 λx hx=>hle.kr _ (by simp[M.dv,M.reads,hx])) k1;unfold M.may at ew⊢;rw[hle.call];exact ew
  split at h
  case h_2=>cases h
  rename_i dv K A8
  split at h
  case isFalse=>cases h
  rename_i ew
  obtain⟨_,rfl⟩:=h
  refine⟨.same ⟨rfl,rfl⟩ rfl rfl (λ_ h=>h) (λ_ h=>eV _ h) (λ_ h=>eV _ h) (λ_ h=>bz.2 (.inr h)) rfl rfl,rfl,rfl,rfl,λhle hF=>?_⟩
  have h1:=hF.dv i dv (hle.fm _ (by simp[M.dv,M.reads,M.uR]))
  obtain⟨_,rfl,_⟩:=hv
  obtain⟨_,_,k0⟩:=bG.ob _ _ ho
  obtain⟨k1,k2⟩:=Xb k0 A8
  refine⟨_,h1,?_⟩
  refine dA.weaken (hF.own j K Kp (hle.ku _ (by simp[M.uR])) ?_ k2 λx hx=>hle.kr _ (by simp[M.dv,M.reads,M.uR,hx])) k1
  unfold M.may at ew⊢
  rw[hle.call]
  exact ew
 |ch i' n j off ct q dd=>
  obtain⟨ao,l',ho,rfl,h⟩:=h
  cases ao with
  |box=>cases h
  |sl=>cases h
  |im=>cases h
  |fz=>cases h
  |mp=>cases h
  |cX n' t' tc q' xs g ht=>
   dsimp only at h
   split at h
   case isFalse=>cases h
   rename_i hc
   simp only[bq]at hc
   obtain⟨⟨⟨c1,c2⟩,c3⟩,ew⟩:=hc
   have c1:=bA c1
   have c2:=bA c2
   have c3:=bA c3
   subst c1 c2 c3
   obtain⟨_,rfl⟩:=h
   refine⟨.same ⟨rfl,rfl⟩ rfl rfl (λ_ h=>h) (λ_ h=>eV _ h) (λ_ h=>eV _ h) (λ_ h=>h) rfl rfl,rfl,rfl,rfl,λhle hF=>?_⟩
   have h1:=hF.dv i ⟨.sl q,dd⟩ (hle.fm _ (by simp[M.dv,M.uR]))
   refine⟨_,h1,?_⟩
   have ir:Rv (In γ.o [i']) w v (dd:List (D q)):=ayc bG ho hv
   refine dA.weaken (x:=⟨.sl q,dd⟩) (hF.own i' [] Kp (hle.ku _ (by simp[M.uR])) ?_ lj λx hx=>by cases hx) ir
   unfold M.may at ew⊢
   rw[hle.call]
   exact ew
 |_=>cases h
def aaJ(bG:OB U γ w ob){Kp:List Nat}(hK:eh Kp):∀{as:List (A1 D)} {vs:List ah} {m m':M D} {i:Nat} {l:List Nat},Q.R ob (Lh Kp m i as) l m'->c_ U γ w as vs->
  ep m m'∧m'.ids=m.ids∧m'.new=m.new∧m'.nf=m.nf∧(ep m' mf->Fin T U U' γ γ' w mf fl tg->∃ds,ds.length=as.length∧(∀k d,ds[k]? =aa d->fl[i+k]? =aa d)∧cm (In γ'.o Kp) w vs ds)
 |[],vs,m,m',i,l,h,hv=>by
  obtain⟨_,rfl⟩:=h;cases vs with
  |nil=>exact⟨.refl _,rfl,rfl,rfl,λ_ _=>⟨[],rfl,by simp,trivial⟩⟩
  |cons _ _=>exact hv.elim
 |a::as,vs,m,m',i,l,h,hv=>by
  cases vs with
  |nil=>exact hv.elim
  |cons v vs=>
   simp only[Lh]at h;obtain⟨l1,l2,m1,_,h1,h2⟩:=Q.fU h;obtain⟨e1,e2,e3,e4,e5⟩:=GH (T:=T) (U':=U') (γ':=γ') (mf:=mf) (fl:=fl) (tg:=tg) bG hK h1 hv.1;obtain⟨f1,f2,f3,f4,f5⟩:=aaJ bG hK h2 hv.2;refine⟨e1.trans f1,f2.trans e2,f3.trans e3,f4.trans e4,λhle hF=>?_⟩;obtain⟨d0,g1,g2⟩:=e5 (f1.trans hle) hF;obtain⟨ds,k1,k2,k3⟩:=f5 hle hF;refine⟨d0::ds,by simp[k1],λk d hk=>?_,g2,k3⟩;cases k with
   |zero=>cases hk;exact g1
   |succ k=>have:=k2 k d (by simpa using hk);rwa[show i+(k+1)=i+1+k from by omega]
def aaI:∀{ds:List (DV D)} {m:M D} {i:Nat},ep m (wD m i ds)∧(wD m i ds).ids=m.ids∧(wD m i ds).new=m.new∧(wD m i ds).nf=m.nf∧∀k d,ds[k]? =aa d->(i+k,d)∈(wD m i ds).fm
 |[],m,i=>⟨.refl _,rfl,rfl,rfl,by simp⟩
 |d::ds,m,i=>by
  obtain⟨h1,h2,h3,h4,h5⟩:=aaI (ds:=ds) (m:=m.dv i d) (i:=i+1);have h0:ep m (m.dv i d):= .same ⟨rfl,rfl⟩ rfl rfl (λ_ h=>h) (λ_ h=>eV _ h) (λ_ h=>h) (λ_ h=>h) rfl rfl;refine⟨h0.trans h1,h2,h3,h4,λk e hk=>?_⟩;cases k with
  |zero=>cases hk;exact h1.fm _ (by simp[M.dv])
  |succ k=>have:=h5 k e (by simpa using hk);rwa[show i+(k+1)=i+1+k from by omega]
def Zy{fl ds:List (DV D)}{i n:Nat}(hn:ds.length=n)(h:∀k d,ds[k]? =aa d->fl[i+k]? =aa d):(fl.drop i).take n=ds:=by
 subst hn;apply List.ext_getElem?;intro k;rw[List.getElem?_take];split
 ·rename_i hk;rw[List.getElem?_drop,h k ds[k] (by simp[hk])];simp[hk]
 ·rename_i hk;rw[List.getElem?_eq_none (by omega)]
def abE(hR:cE T){i n n' off:Nat}{Kp K:List Nat}{x:D n'}(hK:eh Kp)(h:Q.R ob (LX T m i n Kp n' x off K) l m'){v:ah}(hv:∃pa:Addr,v= .pointer (aa (pa.add off))∧xo (In γ.o K) w pa x∧eh K):
  ep m m'∧(ep m' mf->Fin T U U' γ γ' w mf fl tg->∀y:D n,T.iU n ((fl.drop i).take (T.lv n).length)=aa y->∃pa:Addr,v= .pointer (aa (pa.add 0))∧xo (In γ'.o Kp) w pa y∧eh Kp):=by
 unfold LX at h
 split at h
 case isFalse=>cases h
 rename_i hc
 simp only[bq]at hc
 obtain⟨⟨h1,h2⟩,h3⟩:=hc
 have h1:=bA h1
 have h2:=bA h2
 subst h1 h2
 obtain⟨_,rfl⟩:=h
 obtain⟨k1,k2,k3,k4,k5⟩:=aaI (ds:=T.out n x) (m:=m) (i:=i)
 have k0:ep (wD m i (T.out n x)) ((wD m i (T.out n x)).reads K):= .same ⟨rfl,rfl⟩ rfl rfl (λ_ h=>h) (λ_ h=>h) (λ_ h=>h) (λ_ h=>bz.2 (.inr h)) rfl rfl
 refine⟨k1.trans k0,λhle hF y hy=>?_⟩
 have e1:(fl.drop i).take (T.lv n).length=T.out n x:=Zy (Ly T n x) λk d hk=>hF.dv _ _ (hle.fm _ (k0.fm _ (k5 k d hk)))
 have e4:T.out n y=T.out n x:=(hR.iU hy).trans e1
 obtain⟨pa,rfl,⟨cs,f1,f2,f3⟩,f4⟩:=hv
 have hm:∀b,In γ.o K b->In γ'.o Kp b:=hF.may K Kp (by unfold M.may at h3⊢;rw[hle.call,k0.call,k1.call];exact h3) f4 λz hz=>hle.kr _ (by simp[M.reads,hz])
 refine⟨pa,rfl,⟨cs,?_,hm _ f2,f3⟩,hK⟩
 rw[hR.rd]at f1⊢
 rw[e4]
 exact f1.weaken hm
def abG(hR:cE T)(bG:OB U γ w ob){i n j:Nat}{Kp:List Nat}(hK:eh Kp)(h:Q.R ob (SB T m i n Kp j) l m'){v:ah}(hv:U j∧∃b,γ.g j=fN b 0∧v=fN b 0):
  ep m m'∧(ep m' mf->Fin T U U' γ γ' w mf fl tg->∀y:D n,T.iU n ((fl.drop i).take (T.lv n).length)=aa y->∃pa:Addr,v= .pointer (aa (pa.add 0))∧xo (In γ'.o Kp) w pa y∧eh Kp):=by
 obtain⟨ao,l',ho,rfl,h⟩:=h
 cases ao with
 |sl=>cases h
 |cX=>cases h
 |im=>cases h
 |fz=>cases h
 |mp=>cases h
 |box cs=>
  dsimp only at h
  split at h
  case isFalse=>cases h
  rename_i hc
  simp only[bq]at hc
  have hlen:=bA hc.1
  obtain⟨hU,b,hg,rfl⟩:=hv
  obtain⟨_,_,b',us,t',h1,h2,h3,h4,h5⟩:=bG.ob _ _ ho
  rw[hg]at h1
  obtain⟨rfl,_⟩:=Lp h1
  obtain⟨k1,k2,k3,k4,k5⟩:=aaJ (T:=T) (U':=U') (γ':=γ') (mf:=mf) (fl:=fl) (tg:=tg) bG hK h h4
  have k0:ep m (m.uR j):= .same ⟨rfl,rfl⟩ rfl rfl (λ_ h=>h) (λ_ h=>h) (λ_ h=>eV _ h) (λ_ h=>h) rfl rfl
  refine⟨k0.trans k1,λhle hF y hy=>?_⟩
  obtain⟨ds,e1,e2,e3⟩:=k5 hle hF
  have e4:(fl.drop i).take (T.lv n).length=ds:=Zy (by rw[e1,hlen]) e2
  have e5:=hR.iU hy
  rw[e4]at e5
  have hmb:In γ'.o Kp b:=hF.own j [] Kp (hle.ku _ (k1.ku _ (by simp[M.uR]))) (by have:=hc.2;unfold M.may at this⊢;rw[hle.call,k1.call];exact this) lj (by simp) b (by unfold In;simp[h2])
  refine⟨⟨b,0,none⟩,by rw[add_zero'];rfl,⟨us,?_,hmb,?_⟩,hK⟩
  ·rw[hR.rd,e5];exact e3
  ·have:=VZ h3 0 us.length;simpa using this
def OX{p i:Nat}(h:Q.R ob (m.bind p i) l m'):l=[]∧ep m m'∧((p,i)∈m'.ids∨(m.call=ai∧bM (m.po.map bS) p=ai∧p<m.xb∧p=i))∧m'.new=m.new:=by
 unfold M.bind at h;split at h
 ·rename_i i' hi;split at h
  case isFalse=>cases h
  rename_i hb;have hb:=bA hb;subst hb;obtain⟨rfl,rfl⟩:=h;exact⟨rfl,.refl _,.inl (dM hi),rfl⟩
 ·split at h
  ·split at h
   case isTrue=>cases h
   obtain⟨rfl,rfl⟩:=h;exact⟨rfl,.same ⟨rfl,rfl⟩ rfl rfl (λ_ h=>eV _ h) (λ_ h=>h) (λ_ h=>h) (λ_ h=>h) rfl rfl,.inl (by simp),rfl⟩
  ·rename_i hm;split at h
   case isFalse=>cases h
   rename_i hc;simp only[bq,pS]at hc;obtain⟨rfl,rfl⟩:=h;exact⟨rfl,.refl _,.inr ⟨hc.1.1,by simpa using hm,dm hc.2,bA hc.1.2⟩,rfl⟩
def W8{p i:Nat}(hU:U i)(h:(p,i)∈mf.ids∨(mf.call=ai∧bM (mf.po.map bS) p=ai∧p<mf.xb∧p=i))(hF:Fin T U U' γ γ' w mf fl tg):U' p∧γ'.g p=γ.g i:=by
 rcases h with h|⟨h1,h2,h3,rfl⟩
 ·obtain⟨k1,_,k3⟩:=hF.id p i h;exact⟨k1,k3 λx hx=>hF.fresh _ _ hx hU⟩
 ·exact hF.ext h1 p h2 h3 hU
def W7{p i:Nat}(hle:ep m' mf)(hm:ep m m')(h:(p,i)∈m'.ids∨(m.call=ai∧bM (m.po.map bS) p=ai∧p<m.xb∧p=i)):(p,i)∈mf.ids∨(mf.call=ai∧bM (mf.po.map bS) p=ai∧p<mf.xb∧p=i):=by
 rcases h with h|⟨h1,h2,h3,h4⟩
 ·exact .inl (hle.ids _ h)
 ·exact .inr ⟨by rw[hle.call,hm.call];exact h1,by rw[hle.po,hm.po];exact h2,by rw[hle.xb,hm.xb];exact h3,h4⟩
def aq7(hR:cE T)(bG:OB U γ w ob){p:P0}{a:A0 D}{v:ah}(hK:match p with| .rp _ _ K=>eh K|_=>True)(h:Q.R ob (m0 T m p a) l m')(hv:rQ U γ w a v):
  ep m m'∧(ep m' mf->Fin T U U' γ γ' w mf fl tg->∀a',wN T fl aa id p=aa a'->rQ U' γ' w a' v):=by
 unfold m0 at h
 split at h
 ·split at h
  case isFalse=>cases h
  rename_i hb;have hb:=bA hb;subst hb;obtain⟨_,h1,h2,_⟩:=OX h;refine⟨h1,λhle hF a' ha=>?_⟩;obtain⟨hU,b,hg,rfl⟩:=hv;obtain⟨k1,k2⟩:=W8 hU (W7 hle h1 h2) hF;simp only[wN,fC]at ha;subst ha;exact⟨k1,b,by rw[k2];exact hg,rfl⟩
 ·obtain⟨h1,h2⟩:=abE (T:=T) (U:=U) (U':=U') (γ':=γ') (mf:=mf) (fl:=fl) (tg:=tg) hR hK h hv;refine⟨h1,λhle hF a' ha=>?_⟩;simp only[wN,id]at ha;split at ha
  case h_2=>cases ha
  rename_i y hy;cases ha;exact h2 hle hF y hy
 ·split at h
  case isFalse=>cases h
  rename_i hb;have hb:=bA hb;subst hb;obtain⟨h1,h2⟩:=abG (T:=T) (U':=U') (γ':=γ') (mf:=mf) (fl:=fl) (tg:=tg) hR bG hK h hv;refine⟨h1,λhle hF a' ha=>?_⟩;simp only[wN,id]at ha;split at ha
  case h_2=>cases ha
  rename_i y hy;cases ha;exact h2 hle hF y hy
 ·exact(h:False).elim
def abI(hR:cE T)(bG:OB U γ w ob):∀{ps:List P0} {as:List (A0 D)} {vs:List ah} {m m':M D} {l:List Nat},(∀p∈ps,match p with| .rp _ _ K=>eh K|_=>True)->Q.R ob (L7 T m ps as) l m'->nl U γ w as vs->
  ep m m'∧(ep m' mf->Fin T U U' γ γ' w mf fl tg->∀jY,ym T fl aa id ps=aa jY->nl U' γ' w jY vs)
 |[],[],vs,m,m',l,_,h,hv=>by
  obtain⟨_,rfl⟩:=h;cases vs with
  |nil=>exact⟨.refl _,λ_ _ jY ha=>by simp only[ym,fC]at ha;subst ha;trivial⟩
  |cons _ _=>exact hv.elim
 |[],_::_,vs,m,m',l,_,h,hv=>(h:False).elim
 |_::_,[],vs,m,m',l,_,h,hv=>(h:False).elim
 |p::ps,a::as,vs,m,m',l,hK,h,hv=>by
  cases vs with
  |nil=>exact hv.elim
  |cons v vs=>
   simp only[L7]at h;obtain⟨l1,l2,m1,_,h1,h2⟩:=Q.fU h;obtain⟨e1,e2⟩:=aq7 (T:=T) (U':=U') (γ':=γ') (mf:=mf) (fl:=fl) (tg:=tg) hR bG (hK p (by simp)) h1 hv.1;obtain⟨f1,f2⟩:=abI hR bG (λp hp=>hK p (by simp[hp])) h2 hv.2;refine⟨e1.trans f1,λhle hF jY ha=>?_⟩;simp only[ym]at ha;split at ha
   case h_2=>cases ha
   rename_i a1 a2 g1 g2;cases ha;exact⟨e2 (f1.trans hle) hF _ g1,f2 hle hF _ g2⟩
def UI(hF:Fin T U U' γ γ' w mf fl tg){i j:Nat}{K:List Nat}(hK:eh K){b:Bool}{m1:M D}(hle:ep (m1.dv j ⟨.bool,b⟩) mf){d:DV D}{v:ah}(k1:fl[i]? =aa d)(k2:dA (In γ'.o K) w v d){a':A1 D}(ha:iV T fl aa id tg (.hb i j K)=aa a')(hb:b=S8 v):fR U' γ' w a' v:=by
 have k3:=hF.dv j ⟨.bool,b⟩ (hle.fm _ (by simp[M.dv]));obtain⟨lf,x⟩:=d;simp only[iV,k1,k3]at ha;cases lf with
 |sl n=>cases ha;exact⟨⟨k2,hF.nm _ _ k1,hK⟩,hb⟩
 |int k=>cases ha
 |bool=>cases ha
 |str=>cases ha
def KsP(p:P1):Prop:=∀x∈yi p,x<2
def abH(hR:cE T)(bG:OB U γ w ob){p:P1}{a:A1 D}{v:ah}(hK:KsP p)(h:Q.R ob (m1 T m p a) l m')(hv:fR U γ w a v):
  ep m m'∧(ep m' mf->Fin T U U' γ γ' w mf fl tg->∀a',iV T fl aa id tg p=aa a'->fR U' γ' w a' v):=by
 unfold m1 at h
 split at h
 ·
  rename_i i K a
  obtain⟨h1,_,_,_,h2⟩:=GH (T:=T) (U':=U') (γ':=γ') (mf:=mf) (fl:=fl) (tg:=tg) bG hK h hv
  refine⟨h1,λhle hF a' ha=>?_⟩
  obtain⟨⟨lf,x⟩,k1,k2⟩:=h2 hle hF
  rw[asl k1]at ha
  cases ha
  exact k2.Zt hK (hF.nm _ _ k1)
 ·
  rename_i i j K n xs K' g b
  obtain⟨l1,l2,m1,_,h1,h2⟩:=Q.fU h
  obtain⟨_,rfl⟩:=h2
  obtain⟨e1,_,_,_,e2⟩:=GH (T:=T) (U':=U') (γ':=γ') (mf:=mf) (fl:=fl) (tg:=tg) bG hK h1 (v:=v) ⟨hv.1.1,.inl rfl,hv.1.2.2⟩
  have e0:ep m1 (m1.dv j ⟨.bool,b⟩):= .same ⟨rfl,rfl⟩ rfl rfl (λ_ h=>h) (λ_ h=>eV _ h) (λ_ h=>h) (λ_ h=>h) rfl rfl
  refine⟨e1.trans e0,λhle hF a' ha=>?_⟩
  obtain⟨⟨lf,x⟩,k1,k2⟩:=e2 (e0.trans hle) hF
  exact UI hF hK hle k1 k2 ha hv.2
 ·rename_i i j K;obtain⟨l1,l2,m1,_,h1,h2⟩:=Q.fU h;obtain⟨_,rfl⟩:=h2;obtain⟨e1,_,_,_,e2⟩:=GH (T:=T) (U':=U') (γ':=γ') (mf:=mf) (fl:=fl) (tg:=tg) bG hK h1 hv;have e0:ep m1 (m1.dv j ⟨.bool,ab⟩):= .same ⟨rfl,rfl⟩ rfl rfl (λ_ h=>h) (λ_ h=>eV _ h) (λ_ h=>h) (λ_ h=>h) rfl rfl;refine⟨e1.trans e0,λhle hF a' ha=>?_⟩;obtain⟨⟨lf,x⟩,k1,k2⟩:=e2 (e0.trans hle) hF;have hv:v= .slice none 0 0:=hv;exact UI hF hK hle k1 k2 ha (by rw[hv];rfl)
 ·rename_i i j K q;obtain⟨ao,l',ho,rfl,h⟩:=h;cases ao with
  |box=>cases h
  |cX=>cases h
  |im=>cases h
  |fz=>cases h
  |mp=>cases h
  |sl n t xs K0 g0=>
   obtain⟨_,bQ,h⟩:=h;obtain⟨l1,l2,m1,_,h1,h2⟩:=Q.fU h;obtain⟨_,rfl⟩:=h2;obtain⟨e1,_,_,_,e2⟩:=GH (T:=T) (U':=U') (γ':=γ') (mf:=mf) (fl:=fl) (tg:=tg) bG hK h1 hv;have e0:ep m1 (m1.dv j ⟨.bool,ai⟩):= .same ⟨rfl,rfl⟩ rfl rfl (λ_ h=>h) (λ_ h=>eV _ h) (λ_ h=>h) (λ_ h=>h) rfl rfl;refine⟨e1.trans e0,λhle hF a' ha=>?_⟩;obtain⟨⟨lf,x⟩,k1,k2⟩:=e2 (e0.trans hle) hF;refine UI hF hK hle k1 k2 ha ?_;obtain⟨_,rfl,_⟩:=hv;obtain⟨_,_,k3,_⟩:=bG.ob _ _ ho;rcases k3 with⟨_,k3⟩|⟨g,f,cap,aV,aJ,k3,_⟩
   ·subst k3;cases bQ
   ·rw[k3];rfl
 ·
  split at h
  case isFalse=>cases h
  rename_i hb
  have hb:=bA hb
  subst hb
  obtain⟨_,h1,h2,_⟩:=OX h
  refine⟨h1,λhle hF a' ha=>?_⟩
  obtain⟨hU,b,hg,rfl⟩:=hv
  obtain⟨k1,k2⟩:=W8 hU (W7 hle h1 h2) hF
  simp only[iV,fC]at ha
  subst ha
  exact⟨k1,b,by rw[k2];exact hg,rfl⟩
 ·
  obtain⟨_,h1,h2,_⟩:=OX h
  refine⟨h1,λhle hF a' ha=>?_⟩
  obtain⟨hU,rfl,mA⟩:=hv
  obtain⟨k1,k2⟩:=W8 hU (W7 hle h1 h2) hF
  simp only[iV,fC]at ha
  subst ha
  exact⟨k1,k2.symm,mA⟩
 ·
  split at h
  case h_2=>cases h
  rename_i n t i K oB
  obtain⟨_,h1,h2,h3⟩:=OX h
  have h0:ep m {m with new:=(m.nf,.sl n t [] [] 0)::m.new,nf:=m.nf+1}:=⟨rfl,rfl,rfl,rfl,λ_ h=>h,λ_ h=>h,λ_ h=>h,λ_ h=>h,λ_ h=>eV _ h,by simp,λp hp=>by
   rcases cr.1 hp with rfl|hp
   ·exact .inr ⟨bw _,by simp,n,t,rfl⟩
   ·exact .inl hp⟩
  refine⟨h0.trans h1,λhle hF a' ha=>?_⟩
  have hv:v= .slice none 0 0:=hv
  subst hv
  simp only[iV,fC]at ha
  subst ha
  rcases h2 with h2|⟨_,h2,_⟩
  ·obtain⟨k1,k2,_⟩:=hF.id _ _ (hle.ids _ h2);exact⟨k1,(k2 ⟨_,hle.new _ (h1.new _ (by simp;exact .inl rfl))⟩).symm,rfl⟩
  ·exfalso;have:=dM oB;rw[show({m with new:=(m.nf,.sl n t [] [] 0)::m.new,nf:=m.nf+1}:M D).po=m.po from rfl]at h2;exact pj h2 (by simp only[dC];exact⟨_,this,rfl⟩)
 ·obtain⟨h1,h2⟩:=abE (T:=T) (U:=U) (U':=U') (γ':=γ') (mf:=mf) (fl:=fl) (tg:=tg) hR hK h hv;refine⟨h1,λhle hF a' ha=>?_⟩;simp only[iV,id]at ha;split at ha
  case h_2=>cases ha
  rename_i y hy;cases ha;exact h2 hle hF y hy
 ·split at h
  case isFalse=>cases h
  rename_i hb;have hb:=bA hb;subst hb;obtain⟨h1,h2⟩:=abG (T:=T) (U':=U') (γ':=γ') (mf:=mf) (fl:=fl) (tg:=tg) hR bG hK h hv;refine⟨h1,λhle hF a' ha=>?_⟩;simp only[iV,id]at ha;split at ha
  case h_2=>cases ha
  rename_i y hy;cases ha;exact h2 hle hF y hy
 ·
  split at h
  case isFalse=>cases h
  rename_i f ps f' as hb
  have hb:=bA hb
  subst hb
  obtain⟨cs,rfl,h3⟩:=hv
  have hK':∀p∈ps,match p with| .rp _ _ K=>eh K|_=>True:=λp hp=>by
   split
   ·rename_i i n K;intro x hx;refine hK x ?_;simp only[yi,Ft];exact⟨_,hp,hx⟩
   ·trivial
  obtain⟨h1,h2⟩:=abI (T:=T) (U':=U') (γ':=γ') (mf:=mf) (fl:=fl) (tg:=tg) hR bG hK' h h3
  refine⟨h1,λhle hF a' ha=>?_⟩
  simp only[iV]at ha
  split at ha
  case h_2=>cases ha
  rename_i i_ iY
  cases ha
  exact⟨cs,rfl,h2 hle hF _ iY⟩
 ·obtain⟨_,rfl⟩:=h;exact⟨.refl _,λ_ _ a' ha=>by simp only[iV,fC]at ha;subst ha;exact hv⟩
 ·obtain⟨_,rfl⟩:=h;exact⟨.refl _,λ_ _ a' ha=>by simp only[iV,fC]at ha;subst ha;exact hv⟩
 ·obtain⟨_,rfl⟩:=h;exact⟨.refl _,λ_ _ a' ha=>by simp only[iV,fC]at ha;subst ha;trivial⟩
 ·split at h
  case isFalse=>cases h
  rename_i bU;obtain⟨_,rfl⟩:=h;have h1:=fR.one hv bU;exact⟨.refl _,λ_ _ a' ha=>by simp only[iV,fC]at ha;subst ha;exact h1⟩
 ·exact(h:False).elim
def SF(hR:cE T)(bG:OB U γ w ob):∀{ps:List P1} {as:List (A1 D)} {vs:List ah} {m m':M D} {l:List Nat},(∀p∈ps,KsP p)->Q.R ob (GS T m ps as) l m'->c_ U γ w as vs->
  ep m m'∧(ep m' mf->Fin T U U' γ γ' w mf fl tg->∀jY,wM T fl aa id tg ps=aa jY->c_ U' γ' w jY vs)
 |[],[],vs,m,m',l,_,h,hv=>by
  obtain⟨_,rfl⟩:=h;cases vs with
  |nil=>exact⟨.refl _,λ_ _ jY ha=>by simp only[wM,fC]at ha;subst ha;trivial⟩
  |cons _ _=>exact hv.elim
 |[],_::_,vs,m,m',l,_,h,hv=>(h:False).elim
 |_::_,[],vs,m,m',l,_,h,hv=>(h:False).elim
 |p::ps,a::as,vs,m,m',l,hK,h,hv=>by
  cases vs with
  |nil=>exact hv.elim
  |cons v vs=>
   simp only[GS]at h;obtain⟨l1,l2,m1,_,h1,h2⟩:=Q.fU h;obtain⟨e1,e2⟩:=abH (T:=T) (U':=U') (γ':=γ') (mf:=mf) (fl:=fl) (tg:=tg) hR bG (hK p (by simp)) h1 hv.1;obtain⟨f1,f2⟩:=SF hR bG (λp hp=>hK p (by simp[hp])) h2 hv.2;refine⟨e1.trans f1,λhle hF jY ha=>?_⟩;simp only[wM]at ha;split at ha
   case h_2=>cases ha
   rename_i a1 a2 g1 g2;cases ha;exact⟨e2 (f1.trans hle) hF _ g1,f2 hle hF _ g2⟩
def aq6(hR:cE T)(bG:OB U γ w ob){p:PC}{a:AV D}{v:ah}(hK:∀x∈tQ p,x<2)(h:Q.R ob (mC T m p a) l m')(hv:gF U γ w a v):
  ep m m'∧(ep m' mf->Fin T U U' γ γ' w mf fl tg->∀a',vi T fl aa id tg p=aa a'->nk U' γ' w a' v):=by
 unfold mC at h
 split at h
 ·obtain⟨h1,h2⟩:=abH (T:=T) (U':=U') (γ':=γ') (mf:=mf) (fl:=fl) (tg:=tg) hR bG hK h hv;refine⟨h1,λhle hF a' ha=>?_⟩;simp only[vi]at ha;split at ha
  case h_2=>cases ha
  rename_i y hy;cases ha;exact h2 hle hF y hy
 ·rename_i ps ll;obtain⟨us,rfl,hv⟩:=hv;obtain⟨h1,h2⟩:=SF (T:=T) (U':=U') (γ':=γ') (mf:=mf) (fl:=fl) (tg:=tg) hR bG (λp hp x hx=>hK x (by simp only[tQ,Ft];exact⟨p,hp,hx⟩)) h hv;refine⟨h1,λhle hF a' ha=>?_⟩;simp only[vi]at ha;split at ha
  case h_2=>cases ha
  rename_i y hy;cases ha;exact⟨us,rfl,h2 hle hF y hy⟩
 ·obtain⟨_,rfl⟩:=h;refine⟨.refl _,λ_ _ a' ha=>?_⟩;simp only[vi,iV,fC]at ha;subst ha;trivial
 ·exact(h:False).elim
def SE(hR:cE T)(bG:OB U γ w ob):∀{ps:List PC} {as:List (AV D)} {vs:List ah} {m m':M D} {l:List Nat},(∀x∈ps.flatMap tQ,x<2)->Q.R ob (LZ T m ps as) l m'->nj U γ w as vs->
  ep m m'∧(ep m' mf->Fin T U U' γ γ' w mf fl tg->∀jY,gX T fl aa id tg ps=aa jY->jf U' γ' w jY vs)
 |[],[],vs,m,m',l,_,h,hv=>by
  obtain⟨_,rfl⟩:=h;cases vs with
  |nil=>exact⟨.refl _,λ_ _ jY ha=>by simp only[gX,fC]at ha;subst ha;trivial⟩
  |cons _ _=>exact hv.elim
 |[],_::_,vs,m,m',l,_,h,hv=>(h:False).elim
 |_::_,[],vs,m,m',l,_,h,hv=>(h:False).elim
 |p::ps,a::as,vs,m,m',l,hK,h,hv=>by
  cases vs with
  |nil=>exact hv.elim
  |cons v vs=>
   simp only[LZ]at h;obtain⟨l1,l2,m1,_,h1,h2⟩:=Q.fU h;obtain⟨e1,e2⟩:=aq6 (T:=T) (U':=U') (γ':=γ') (mf:=mf) (fl:=fl) (tg:=tg) hR bG (λx hx=>hK x (by simp[hx])) h1 hv.1;obtain⟨f1,f2⟩:=SE hR bG (λx hx=>hK x (by rw[List.flatMap_cons];exact bz.2 (.inr hx))) h2 hv.2;refine⟨e1.trans f1,λhle hF jY ha=>?_⟩;simp only[gX]at ha;split at ha
   case h_2=>cases ha
   rename_i a1 a2 g1 g2;cases ha;exact⟨e2 (f1.trans hle) hF _ g1,f2 hle hF _ g2⟩
def SD(hR:cE T)(bG:OB U γ w ob){p:PO}{x:AO D}{i q:Nat}(hK:∀x∈tP p,x<2)(h:Q.R ob (mO T m p x) l m')(hx:(OR U γ w i x∧γ'.g q=γ.g i∧∀b,γ.o b=i->γ'.o b=q)∨(∃n t,x= .sl n t [] [] 0∧γ'.g q= .slice none 0 0)):
  ep m m'∧(ep m' mf->Fin T U U' γ γ' w mf fl tg->∀x',qg T fl aa id tg p=aa x'->OR U' γ' w q x'):=by
 unfold mO at h
 split at h
 ·rename_i ps cs;rcases hx with⟨⟨b,us,t,h1,h2,h3,h4,h5⟩,hg,ho⟩|⟨n,t,hx,_⟩
  case inr=>cases hx
  obtain⟨k1,k2⟩:=SF (T:=T) (U':=U') (γ':=γ') (mf:=mf) (fl:=fl) (tg:=tg) hR bG (λp hp x hx=>hK x (by simp only[tP,Ft];exact⟨p,hp,hx⟩)) h h4;refine⟨k1,λhle hF x' dX=>?_⟩;simp only[qg]at dX;split at dX
  case h_2=>cases dX
  rename_i y hy;split at dX
  case isFalse=>cases dX
  rename_i bU;cases dX;exact⟨b,us,t,by rw[hg];exact h1,ho b h2,h3,k2 hle hF y hy,bU⟩
 ·rename_i n t i' Kp n' t' xs K g;split at h
  case isFalse=>cases h
  rename_i hc;simp only[bq]at hc;obtain⟨⟨c1,c2⟩,c3⟩:=hc;have c1:=bA c1;have c2:=bA c2;subst c1 c2;obtain⟨_,rfl⟩:=h;refine⟨.same ⟨rfl,rfl⟩ rfl rfl (λ_ h=>h) (λ_ h=>eV _ h) (λ_ h=>h) (λ_ h=>bz.2 (.inr h)) rfl rfl,λhle hF x' dX=>?_⟩;have hd:=hF.dv i' ⟨.sl n,xs⟩ (hle.fm _ (by simp[M.dv,M.reads]));simp only[qg,hd]at dX;rw[aG (Nat.beq_refl n)]at dX;cases dX;refine⟨?_,hK,hF.nm _ _ hd⟩;rcases hx with⟨⟨h1,h2,h3⟩,hg,ho⟩|⟨_,_,hx,hg⟩
  ·rw[hg];refine Ow.tK ho (hF.may K Kp ?_ h2 λx hx=>hle.kr _ (by simp[M.dv,M.reads,hx])) h1;unfold M.may at c3⊢;rw[hle.call];exact c3
  ·cases hx;rw[hg];exact Ow.nil _ _ _ _ _
 ·rename_i n t tc q' i' n' t' xD q2 xs g ht;split at h
  case isFalse=>cases h
  rename_i hc;simp only[bq]at hc;obtain⟨⟨⟨c1,c2⟩,c3⟩,c4⟩:=hc;have c1:=bA c1;have c2:=bA c2;have c3:=bA c3;have c4:=bA c4;subst c1 c2 c3 c4;obtain⟨_,rfl⟩:=h;refine⟨.same ⟨rfl,rfl⟩ rfl rfl (λ_ h=>h) (λ_ h=>eV _ h) (λ_ h=>h) (λ_ h=>h) rfl rfl,λhle hF x' dX=>?_⟩;have hd:=hF.dv i' ⟨.sl n,xs⟩ (hle.fm _ (by simp[M.dv]));simp only[qg,hd]at dX;rw[aG (Nat.beq_refl n)]at dX;cases dX;rcases hx with⟨⟨h1,h2,h3⟩,hg,ho⟩|⟨_,_,hx,_⟩
  case inr=>cases hx
  obtain⟨m0,m1⟩:=Dk (v:=γ.g i) (o:=γ.o) (o':=γ'.o) (i:=i) (i':=q) (w:=w) (w':=w) λb _ hb=>⟨ho b hb,rfl⟩;exact⟨by rw[hg];exact h1.mono m0 m1,hF.nm _ _ hd,.inl rfl⟩
 ·rename_i n i' n' xs;split at h
  case isFalse=>cases h
  rename_i c1;have c1:=bA c1;subst c1;obtain⟨_,rfl⟩:=h;refine⟨.same ⟨rfl,rfl⟩ rfl rfl (λ_ h=>h) (λ_ h=>eV _ h) (λ_ h=>h) (λ_ h=>h) rfl rfl,λhle hF x' dX=>?_⟩;have hd:=hF.dv i' ⟨.sl n,xs⟩ (hle.fm _ (by simp[M.dv]));simp only[qg,hd]at dX;rw[aG (Nat.beq_refl n)]at dX;cases dX;rcases hx with⟨h1,hg,ho⟩|⟨_,_,hx,_⟩
  case inr=>cases hx
  show rR γ'.o q w (γ'.g q) xs;rw[hg];exact rR.mono h1 λb _ hb=>⟨ho b hb,rfl⟩
 ·exact(h:False).elim
structure Fk(γ γ':Gh D)(m:M D):Prop where
 o:∀p i,(p,i)∈m.ids->∀b,γ.o b=i->γ'.o b=p
def SC(hR:cE T)(bG:OB U γ w ob):∀{po:List (Nat×PO)} {m m':M D} {l:List Nat},(∀x∈po.flatMap (λp=>tP p.2),x<2)->Q.R ob (Dh T m po) l m'->(∀i x,(i,x)∈m.new->∃n t,x= .sl n t [] [] 0)->
  ep m m'∧((∀i x,(i,x)∈m'.new->∃n t,x= .sl n t [] [] 0)∧∀p,bM (po.map bS) p=ab->∃i,(p,i)∈m'.ids∧(U i∨∃x,(i,x)∈m'.new))∧(ep m' mf->Fin T U U' γ γ' w mf fl tg->Fk γ γ' mf->∀eO,jC T fl aa id tg po=aa eO->∀p x,dt eO p=aa x->bM (po.map bS) p=ab∧U' p∧OR U' γ' w p x)
 |[],m,m',l,_,h,hn=>by
  obtain⟨_,rfl⟩:=h;exact⟨.refl _,⟨hn,λp hp=>by simp[bM]at hp⟩,λ_ _ _ eO ho p x hx=>by simp only[jC,fC]at ho;subst ho;simp[dt,aE]at hx⟩
 |(p,q)::po,m,m',l,hK,h,hn=>by
  simp only[Dh]at h;split at h
  case h_1=>cases h
  rename_i i hi;have iq:=dM hi;have UN:∀x∈tP q,x<2:=λx hx=>hK x (by simp[hx]);have hKr:∀x∈po.flatMap (λp=>tP p.2),x<2:=λx hx=>hK x (by rw[List.flatMap_cons];exact bz.2 (.inr hx));have main:∀{ao:AO D} {l0:List Nat},Q.R ob ((mO T m q ao).bind λm=>Dh T m po) l0 m'->(OR U γ w i ao∧U i∨((i,ao)∈m.new∧∃n t,ao= .sl n t [] [] 0))->
    ep m m'∧((∀i x,(i,x)∈m'.new->∃n t,x= .sl n t [] [] 0)∧∀p',bM (((p,q)::po).map bS) p'=ab->∃i,(p',i)∈m'.ids∧(U i∨∃x,(i,x)∈m'.new))∧(ep m' mf->Fin T U U' γ γ' w mf fl tg->Fk γ γ' mf->∀eO,jC T fl aa id tg ((p,q)::po)=aa eO->∀p' x,dt eO p'=aa x->bM (((p,q)::po).map bS) p'=ab∧U' p'∧OR U' γ' w p' x):=by
   intro ao l0 h DY
   obtain⟨l1,l2,m1,_,h1,h2⟩:=Q.fU h
   have AE:ep m m1:=by
    rcases DY with⟨ha,_⟩|⟨_,n,t,TV⟩
    ·exact(SD (T:=T) (U':=U') (γ':=γ) (mf:=mf) (fl:=fl) (tg:=tg) (q:=i) hR bG UN h1 (.inl ⟨ha,rfl,λ_ h=>h⟩)).1
    ·exact(SD (T:=T) (U':=U') (γ':=⟨γ.o,λ_=> .slice none 0 0,γ.v⟩) (mf:=mf) (fl:=fl) (tg:=tg) (i:=i) (q:=i) hR bG UN h1 (.inr ⟨n,t,TV,rfl⟩)).1
   obtain⟨f1,f2,f3⟩:=SC hR bG hKr h2 (λi x hx=>by
    rcases AE.nw _ hx with hx|hx
    ·exact hn i x hx
    ·exact hx.2.2)
   refine⟨AE.trans f1,⟨f2.1,λp' qj=>?_⟩,λhle hF hO eO ho p' x hx=>?_⟩
   ·simp only[gu,bM]at qj;cases hb:aT p p' with
    |true=>
     have:=bA hb;subst this;refine⟨i,(AE.trans f1).ids _ iq,?_⟩;rcases DY with⟨_,hU⟩|⟨ha,_⟩
     ·exact .inl hU
     ·exact .inr ⟨_,(AE.trans f1).new _ ha⟩
    |false=>rw[hb]at qj;exact f2.2 p' qj
   obtain⟨k1,k2,k3⟩:=hF.id p i (hle.ids _ ((AE.trans f1).ids _ iq))
   have wV:(OR U γ w i ao∧γ'.g p=γ.g i∧∀b,γ.o b=i->γ'.o b=p)∨(∃n t,ao= .sl n t [] [] 0∧γ'.g p= .slice none 0 0):=by
    rcases DY with⟨ha,hU⟩|⟨ha,n,t,TV⟩
    ·exact .inl ⟨ha,k3 λx hx=>hF.fresh _ _ hx hU,hO.o p i (hle.ids _ ((AE.trans f1).ids _ iq))⟩
    ·exact .inr ⟨n,t,TV,k2 ⟨ao,hle.new _ ((AE.trans f1).new _ ha)⟩⟩
   obtain⟨_,e2⟩:=SD (T:=T) (U':=U') (γ':=γ') (mf:=mf) (fl:=fl) (tg:=tg) hR bG UN h1 wV
   simp only[jC,id]at ho
   split at ho
   case h_2=>cases ho
   rename_i i' a b g0 g1 g2
   cases g0
   cases ho
   by_cases hp:p=p'
   ·subst hp;simp only[dt,aE,Nat.beq_refl,v5,fC]at hx;subst hx;exact⟨by simp[bM],k1,e2 (f1.trans hle) hF _ g1⟩
   ·have bQ:aT p p'=ai:=by
     cases hb:aT p p' with
     |true=>exact(hp (bA hb)).elim
     |false=>rfl
    have dX:dt b p'=aa x:=by unfold dt at hx⊢;simpa[aE,bQ]using hx
    obtain⟨j1,j2,j3⟩:=f3 hle hF hO b g2 p' x dX;exact⟨by simp[bM,bQ];exact j1,j2,j3⟩
  split at h
  ·rename_i ao DY;exact main h (.inr ⟨dM DY,hn _ _ (dM DY)⟩)
  ·obtain⟨ao,l',ho,rfl,h⟩:=h;obtain⟨_,hU,h1⟩:=bG.ob _ _ ho;exact main h (.inl ⟨h1,hU⟩)
def LM{α:Type}:∀{l:List (Nat×α)} {i:Nat} {a:α},mq (l.map bS)=ab->(i,a)∈l->aE l i=aa a
 |[],i,a,_,h=>by cases h
 |p::r,i,a,hn,h=>by
  simp only[gu,mq,bq,pS]at hn;rcases cr.1 h with rfl|h
  ·simp[aE]
  ·have bQ:aT p.1 i=ai:=by
    cases hb:aT p.1 i with
    |true=>have:=bA hb;exact(pj hn.1 (by rw[this];exact dC.2 ⟨_,h,rfl⟩)).elim
    |false=>rfl
   simp only[aE,bQ,rV];exact LM hn.2 h
def abQ{fm:List (Nat×DV D)}:∀{n i:Nat} {l:List (DV D)},Mc fm i n=aa l->∀k,k<n->l[k]? =aE fm (i+k)
 |0,i,l,_,k,hk=>by omega
 |n+1,i,l,h,k,hk=>by
  simp only[Mc]at h;split at h
  case h_2=>cases h
  rename_i d r h1 h2;cases h;cases k with
  |zero=>simp[h1]
  |succ k=>have:=abQ h2 k (by omega);simp only[List.getElem?_cons_succ,this];congr 1;omega
structure PM(T:bb D)(call:Bool)(xb:Nat)(po:List (Nat×PO))(vj:List (Nat×Nat))(nf0:Nat)(m:M D)(fl:List (DV D)):Prop where
 BA:m.call=call
 YW:m.xb=xb
 po_:m.po=po
 Tk:∀p∈vj,p∈m.ids
 nf:nf0<=m.nf
 new:∀p∈m.new,nf0<=p.1∧p.1<m.nf
 dv:∀i d,(i,d)∈m.fm->fl[i]? =aa d
 ku:∀i∈m.ku,1000<=i∧∀p,(p,i)∉m.ids
 Dw:∀p i,(p,i)∈m.ids->1000<=i
 Tl:∀p i i',(p,i)∈m.ids->(p,i')∈m.ids->i=i'
 ids:∀p p' i,(p,i)∈m.ids->(p',i)∈m.ids->p=p'
 key:∀p i,(p,i)∈m.ids->bM (po.map bS) p=ab
 kr:eh m.kr
def aqr{l:List (Nat×Nat)}{p p' i:Nat}(hn:mq (l.map oQ)=ab)(h:(p,i)∈l)(h':(p',i)∈l):p=p':=by
 induction l with
 |nil=>cases h
 |cons q r ih=>
  simp only[gu,mq,bq,pS]at hn;have nG:=pj hn.1;rcases cr.1 h with e1|h1
  ·rcases cr.1 h' with e2|h2
   ·rw[<-e1]at e2;cases e2;rfl
   ·exact(nG (dC.2 ⟨_,h2,by rw[<-e1]⟩)).elim
  ·rcases cr.1 h' with e2|h2
   ·exact(nG (dC.2 ⟨_,h1,by rw[<-e2]⟩)).elim
   ·exact ih hn.2 h1 h2
def Nm(hR:cE T)(bG:OB U γ w ob){call:Bool}{xb:Nat}{cL:List Ht}{xW:List PC}{po:List (Nat×PO)}{vj:List (Nat×Nat)}{nf:Nat}{fj:List (AV D)}{vs:List ah}{r:HH D cL×M D}{lg:List Nat}
  (h:Q.R ob (Bl T call xb cL xW po vj nf fj) lg r) (hv:nj U γ w fj vs):
  (PM T call xb po vj nf r.2 (dE T cL r.1)∧∀p i,(p,i)∈r.2.ids->U i∨∃x,(i,x)∈r.2.new)∧∀{U' γ' tg},Fin T U U' γ γ' w r.2 (dE T cL r.1) tg->Fk γ γ' r.2->
    (∀jY,gX T (dE T cL r.1) aa id tg xW=aa jY->jf U' γ' w jY vs)∧
    ∀eO,jC T (dE T cL r.1) aa id tg po=aa eO->∀p x,dt eO p=aa x->bM (po.map bS) p=ab∧U' p∧OR U' γ' w p x:=by
 unfold Bl at h
 obtain⟨l1,l2,m1,_,h1,h2⟩:=Q.fU h
 obtain⟨l3,l4,m2,_,h3,h4⟩:=Q.fU h2
 split at h4
 case isFalse=>exact(h4:False).elim
 rename_i hc
 split at h4
 case h_2=>exact(h4:False).elim
 rename_i l0 yx
 split at h4
 case h_2=>exact(h4:False).elim
 rename_i hh hhh
 obtain⟨_,rfl⟩:=h4
 simp only[bq,M.ok,sw,dR]at hc
 obtain⟨⟨⟨⟨⟨⟨⟨⟨⟨c1,c2⟩,c3⟩,c4⟩,c5⟩,c6⟩,c7⟩,BE⟩,OJ⟩,c8,c9⟩:=hc
 have gY:∀x∈xW.flatMap tQ,x<2:=λx hx=>dm (c8 x hx)
 have ix:∀x∈po.flatMap (λp=>tP p.2),x<2:=λx hx=>dm (c9 x hx)
 have eH:dE T cL hh=l0:=abh hR hhh
 have T4:=(SE (T:=T) (U':=U) (γ':=γ) (mf:=m1) (fl:=l0) (tg:=0) hR bG gY h1 hv).1
 have MM:=SC (T:=T) (U':=U) (γ':=γ) (mf:=m2) (fl:=l0) (tg:=0) hR bG ix h3 (λi x hx=>by
  rcases T4.nw _ hx with hx|hx
  ·cases hx
  ·exact hx.2.2)
 have hle:=T4.trans MM.1
 have huq:∀p i i',(p,i)∈m2.ids->(p,i')∈m2.ids->i=i':=λp i i' hp qj=>by have:=LM c4 hp;rw[LM c4 qj]at this;cases this;rfl
 refine⟨⟨⟨hle.call,hle.xb,hle.po,λp hp=>hle.ids _ hp,hle.nf,λp hp=>?_,λi d hd=>?_,λi hi=>⟨dm (c7 i hi),λp hp=>?_⟩,λp i hp=>dm (c6 _ hp),huq,λp p' i hp qj=>aqr c5 hp qj,λp i hp=>BE _ hp,λx hx=>dm (OJ x hx)⟩,λp i hp=>?_⟩,λ{U' γ' tg} hF hO=>⟨λjY ha=>?_,λeO ho p x hx=>?_⟩⟩
 ·rcases hle.nw _ hp with hp|hp
  ·cases hp
  ·exact⟨hp.1,hp.2.1⟩
 ·rw[eH];have h5:=LM c1 hd;have h6:i<m2.tl.length:=dm (c2 _ hd);have h7:=abQ yx i h6;rw[kD]at h7;rw[h7,h5]
 ·have:i∈m2.ids.map oQ:=dC.2 ⟨_,hp,rfl⟩;unfold qG at c3;have:=dR.1 c3 i this;simp only[pS]at this;exact pj this hi
 ·obtain⟨i',h5,h6⟩:=MM.2.1.2 p (BE _ hp);rw[huq p i i' hp h5];exact h6
 ·rw[eH]at hF ha;exact(SE (T:=T) (mf:=m2) (fl:=l0) hR bG gY h1 hv).2 MM.1 hF _ ha
 ·rw[eH]at hF ho;refine(SC (T:=T) (mf:=m2) (fl:=l0) hR bG ix h3 (λi x hx=>?_)).2.2 (.refl _) hF hO eO ho p x hx;rcases T4.nw _ hx with hx|hx
  ·cases hx
  ·exact hx.2.2
end
end
end Rx
end Go.Proofs.YtmngjhagbjgmfaaGreat
namespace Go.Proofs.YtmngjhagbjgmfaaGreat
open Go Go.RowKit Dp
namespace Rx
section
variable {D:Nat->Type} [∀n,ad (D n)]
variable {T:bb D} {U U':Nat->Prop} {γ γ':Gh D} {w w':ax} {ob:List (Nat×Option (AO D))} {l:List Nat}
def vS(U:Nat->Prop)(γ:Gh D)(w:ax)(rs:List (AC D))(v:ah):Prop:=gF U γ w (aaz rs) v
def U0:Nat->Prop:=λi=>i<2000
structure fK(P:Program)(T:bb D)(c:az D):Prop where
 Vl:∀(args:Array ah) (w:ax),(callFunc c.f args).run P w= .ok (.enter c.f args) w
 ks:sw c.jR c.b7=ab
 key:mq (c.b7.map bS)=ab
 cI:c.b7.all (λp=>ef 1000 p.1)=ab
 uo:ef c.b7.length 40=ab
 run:∀(h:HH D c.ins) (r:HH D c.outs),c.fn h=aa r->∀as eO,gX T (dE T c.ins h) aa id 1100 c.args=aa as->jC T (dE T c.ins h) aa id 1100 c.ob=aa eO->
  ∀(γ:Gh D) (w:ax) (vs:List ah),jf U0 γ w as vs->OB U0 γ w eO->Calls P c.f vs.toArray w (mb λv w'=>∃U' γ' rs ke,gX T (dE T c.outs r) aa id 3000 c.jR=aa rs∧jC T (dE T c.outs r) aa id 3000 c.b7=aa ke∧
   vS U' γ' w' rs v∧(∀p x,dt ke p=aa x->OR U' γ' w' p x)∧(∀p,(p,p)∈stay c->γ'.g p=γ.g p)∧Frame0 γ w γ' w')
structure Re(ok:Nat->Prop)(U' U:Nat->Prop)(γ' γ:Gh D)(w:ax)(fl:List (DV D))(ri:Nat->Option Nat)(rK:List Nat->List Nat)(tg:Nat):Prop where
 id:∀p i,ri p=aa i->U i∧γ.g i=γ'.g p
 K:∀K,(∀x∈K,ok x)->eh (rK K)∧∀b,b<w.heap.size->In γ'.o K b->In γ.o (rK K) b
 nm:∀i d,fl[i]? =aa d->i<112->named U γ (tg+i) d
 uo:fl.length<=112
section
variable {ok:Nat->Prop} {fl:List (DV D)} {ri:Nat->Option Nat} {rK:List Nat->List Nat} {tg t0:Nat}
def Re.mem(hr:Re ok U' U γ' γ w fl ri rK tg){K:List Nat}(hK:∀x∈K,ok x):∀b,In γ'.o K b->b<w.heap.size->In γ.o (rK K) b∧w.heap[b]? =w.heap[b]? :=λb hb aU=>⟨(hr.K K hK).2 b aU hb,rfl⟩
def asm(hr:Re ok U' U γ' γ w fl ri rK tg){p:P0}(hK:match p with| .rp _ _ K=>∀x∈K,ok x|_=>True){a b:A0 D}{v:ah}(ha:wN T fl aa id p=aa a)(hb:wN T fl ri rK p=aa b)(hv:rQ U' γ' w a v):rQ U γ w b v:=by
 cases p with
 |ptr q off=>
  simp only[wN]at ha hb;split at hb
  case h_2=>cases hb
  rename_i i hi;cases ha;cases hb;obtain⟨hU,c,h1,h2⟩:=hv;obtain⟨k1,k2⟩:=hr.id q i hi;exact⟨k1,c,by rw[k2];exact h1,h2⟩
 |rp i n K=>
  simp only[wN]at ha hb;split at ha
  case h_2=>cases ha
  rename_i x hx;rw[hx]at hb;cases ha;cases hb;obtain⟨pa,h1,h2,h3⟩:=hv;exact⟨pa,h1,h2.mono (hr.mem hK),(hr.K K hK).1⟩
def acn(hr:Re ok U' U γ' γ w fl ri rK tg):∀{ps:List P0} {as bs:List (A0 D)} {vs:List ah},(∀p∈ps,match p with| .rp _ _ K=>∀x∈K,ok x|_=>True)->ym T fl aa id ps=aa as->ym T fl ri rK ps=aa bs->nl U' γ' w as vs->nl U γ w bs vs
 |[],as,bs,vs,_,ha,hb,hv=>by
  cases ha;cases hb;cases vs with
  |nil=>trivial
  |cons _ _=>exact hv.elim
 |p::ps,as,bs,vs,hK,ha,hb,hv=>by
  simp only[ym]at ha hb;split at ha
  case h_2=>cases ha
  rename_i a1 a2 g1 g2;split at hb
  case h_2=>cases hb
  rename_i b1 b2 g3 g4;cases ha;cases hb;cases vs with
  |nil=>exact hv.elim
  |cons v vs=>exact⟨asm hr (hK p (by simp)) g1 g3 hv.1,acn hr (λp hp=>hK p (by simp[hp])) g2 g4 hv.2⟩
def acm(hr:Re ok U' U γ' γ w fl ri rK tg){p:P1}(hK:∀x∈yi p,ok x){a b:A1 D}{v:ah}(ha:iV T fl aa id t0 p=aa a)(hb:iV T fl ri rK tg p=aa b)(hv:fR U' γ' w a v):fR U γ w b v:=by
 cases p with
 |h i K=>
  simp only[iV]at ha hb;split at ha
  case h_2=>cases ha
  rename_i lf x hx;rw[hx]at hb;cases ha;cases hb;obtain⟨h1,h2,h3⟩:=hv;have hn:=hr.nm i _ hx (by have:=(gH.1 hx).1;have:=hr.uo;omega);refine dA.Zt ?_ (hr.K K hK).1 hn;cases lf with
  |sl n=>exact dA.mono (d:=⟨.sl n,x⟩) (hr.mem hK) h1
  |int k=>exact h1
  |bool=>exact h1
  |str=>exact h1
 |ptr q off=>
  simp only[iV]at ha hb;split at hb
  case h_2=>cases hb
  rename_i i hi;cases ha;cases hb;obtain⟨hU,c,h1,h2⟩:=hv;obtain⟨k1,k2⟩:=hr.id q i hi;exact⟨k1,c,by rw[k2];exact h1,h2⟩
 |own q=>
  simp only[iV]at ha hb;split at hb
  case h_2=>cases hb
  rename_i i hi;cases ha;cases hb;obtain⟨hU,h1,h2⟩:=hv;obtain⟨k1,k2⟩:=hr.id q i hi;exact⟨k1,by rw[k2];exact h1,h2⟩
 |rp i n K=>
  simp only[iV]at ha hb;split at ha
  case h_2=>cases ha
  rename_i x hx;rw[hx]at hb;cases ha;cases hb;obtain⟨pa,h1,h2,h3⟩:=hv;exact⟨pa,h1,h2.mono (hr.mem hK),(hr.K K hK).1⟩
 |fn f ps=>
  simp only[iV]at ha hb;split at ha
  case h_2=>cases ha
  rename_i a2 g1;split at hb
  case h_2=>cases hb
  rename_i b2 g2;cases ha;cases hb;obtain⟨cs,h1,h2⟩:=hv;refine⟨cs,h1,acn hr (λp hp=>?_) g1 g2 h2⟩;split
  ·rename_i i n K;intro x hx;refine hK x ?_;simp only[yi,Ft];exact⟨_,hp,hx⟩
  ·trivial
 |hb i j K=>
  simp only[iV]at ha hb;split at ha
  case h_2=>cases ha
  rename_i n xs b0 hx hy;rw[hx,hy]at hb;cases ha;cases hb;obtain⟨⟨h1,h2,h3⟩,h4⟩:=hv;have hn:=hr.nm i _ hx (by have:=(gH.1 hx).1;have:=hr.uo;omega);exact⟨⟨dA.mono (d:=⟨.sl n,xs⟩) (hr.mem hK) h1,hn,(hr.K K hK).1⟩,h4⟩
 |bE=>cases ha;cases hb;exact hv
 |ss=>cases ha;cases hb;exact hv
 |any=>cases hb;trivial
 |wL=>cases ha;cases hb;exact hv
def Tf(hr:Re ok U' U γ' γ w fl ri rK tg):∀{ps:List P1} {as bs:List (A1 D)} {vs:List ah},(∀p∈ps,∀x∈yi p,ok x)->wM T fl aa id t0 ps=aa as->wM T fl ri rK tg ps=aa bs->c_ U' γ' w as vs->c_ U γ w bs vs
 |[],as,bs,vs,_,ha,hb,hv=>by
  cases ha;cases hb;cases vs with
  |nil=>trivial
  |cons _ _=>exact hv.elim
 |p::ps,as,bs,vs,hK,ha,hb,hv=>by
  simp only[wM]at ha hb;split at ha
  case h_2=>cases ha
  rename_i a1 a2 g1 g2;split at hb
  case h_2=>cases hb
  rename_i b1 b2 g3 g4;cases ha;cases hb;cases vs with
  |nil=>exact hv.elim
  |cons v vs=>exact⟨acm hr (hK p (by simp)) g1 g3 hv.1,Tf hr (λp hp=>hK p (by simp[hp])) g2 g4 hv.2⟩
def asj(hr:Re ok U' U γ' γ w fl ri rK tg){p:PC}(hK:∀x∈tQ p,ok x){a b:AC D}{v:ah}(ha:vi T fl aa id t0 p=aa a)(hb:vi T fl ri rK tg p=aa b)(hv:nk U' γ' w a v):nk U γ w b v:=by
 cases p with
 |one p=>
  simp only[vi]at ha hb;split at ha
  case h_2=>cases ha
  rename_i a1 g1;split at hb
  case h_2=>cases hb
  rename_i b1 g2;cases ha;cases hb;exact acm hr hK g1 g2 hv
 |agg ps=>
  simp only[vi]at ha hb;split at ha
  case h_2=>cases ha
  rename_i a1 g1;split at hb
  case h_2=>cases hb
  rename_i b1 g2;cases ha;cases hb;obtain⟨us,h1,h2⟩:=hv;exact⟨us,h1,Tf hr (λp hp x hx=>hK x (by simp only[tQ,Ft];exact⟨p,hp,hx⟩)) g1 g2 h2⟩
def Te(hr:Re ok U' U γ' γ w fl ri rK tg):∀{ps:List PC} {as bs:List (AC D)} {vs:List ah},(∀x∈ps.flatMap tQ,ok x)->gX T fl aa id t0 ps=aa as->gX T fl ri rK tg ps=aa bs->jf U' γ' w as vs->jf U γ w bs vs
 |[],as,bs,vs,_,ha,hb,hv=>by
  cases ha;cases hb;cases vs with
  |nil=>trivial
  |cons _ _=>exact hv.elim
 |p::ps,as,bs,vs,hK,ha,hb,hv=>by
  simp only[gX]at ha hb;split at ha
  case h_2=>cases ha
  rename_i a1 a2 g1 g2;split at hb
  case h_2=>cases hb
  rename_i b1 b2 g3 g4;cases ha;cases hb;cases vs with
  |nil=>exact hv.elim
  |cons v vs=>exact⟨asj hr (λx hx=>hK x (by simp[hx])) g1 g3 hv.1,Te hr (λx hx=>hK x (by rw[List.flatMap_cons];exact bz.2 (.inr hx))) g2 g4 hv.2⟩
def Dv{fl:List (DV D)}{ri:Nat->Option Nat}{rK:List Nat->List Nat}{tg:Nat}:∀{ps:List PC} {as:List (AC D)},gX T fl ri rK tg ps=aa as->as.length=ps.length
 |[],as,h=>by cases h;rfl
 |p::ps,as,h=>by
  simp only[gX]at h;split at h
  case h_2=>cases h
  rename_i a1 a2 g1 g2;cases h;simp[Dv g2]
def aoX(hr:Re ok U' U γ' γ w fl ri rK tg){ps:List PC}(hK:∀x∈ps.flatMap tQ,ok x){as bs:List (AC D)}{v:ah}(ha:gX T fl aa id t0 ps=aa as)(hb:gX T fl ri rK tg ps=aa bs)(hv:vS U' γ' w as v):vS U γ w bs v:=by
 have hl:as.length=bs.length:=(Dv ha).trans (Dv hb).symm;unfold vS at hv⊢;match as,bs,hl with
 |[],[],_=>
  obtain⟨us,h1,h2⟩:=hv;cases us with
  |nil=>exact⟨[],h1,trivial⟩
  |cons _ _=>exact h2.elim
 |[a],[b],_=>have:=Te (vs:=[v]) hr hK ha hb ⟨hv,trivial⟩;exact this.1
 |a::a'::as,b::b'::bs,_=>obtain⟨us,h1,h2⟩:=hv;exact⟨us,h1,Te hr hK ha hb h2⟩
def asi(hr:Re ok U' U γ' γ w fl ri rK tg){p:PO}(hK:∀x∈tP p,ok x){a b:AO D}{q i:Nat}(hg:γ.g i=γ'.g q)(hq:∀b,b<w.heap.size->γ'.o b=q->γ.o b=i)(ha:qg T fl aa id t0 p=aa a)(hb:qg T fl ri rK tg p=aa b)(hv:OR U' γ' w q a):OR U γ w i b:=by
 cases p with
 |box ps=>
  simp only[qg]at ha hb;split at ha
  case h_2=>cases ha
  rename_i a1 g1;split at ha
  case isFalse=>cases ha
  split at hb
  case h_2=>cases hb
  rename_i b1 g2;split at hb
  case isFalse=>cases hb
  rename_i bU;cases ha;cases hb;obtain⟨c,us,t,h1,h2,h3,h4,h5⟩:=hv;exact⟨c,us,t,by rw[hg];exact h1,hq c (jx.1 h3).1 h2,h3,Tf hr (λp hp x hx=>hK x (by simp only[tP,Ft];exact⟨p,hp,hx⟩)) g1 g2 h4,bU⟩
 |sl n t j K=>
  simp only[qg]at ha hb;split at ha
  case h_2=>cases ha
  rename_i n' xs hx;rw[hx]at hb;dsimp only at hb;split at ha
  case isFalse=>cases ha
  rename_i hn;rw[aG hn]at hb;cases ha;cases hb;obtain⟨h1,h2,h3⟩:=hv;have hn:=hr.nm j _ hx (by have:=(gH.1 hx).1;have:=hr.uo;omega);refine⟨?_,(hr.K K hK).1,hn⟩;rw[hg];rcases h1 with h1|⟨g,f,cap,aV,aJ,e1,e2,e3,e4,e5,e6,e7,e8⟩
  ·exact .inl h1
  ·exact .inr ⟨g,f,cap,aV,aJ,e1,hq g (jx.1 e3).1 e2,e3,e4,e5,e6,e7.mono λ_ _=>ad.mono (hr.mem hK),e8⟩
 |cX n t tc q' j=>
  simp only[qg]at ha hb;split at ha
  case h_2=>cases ha
  rename_i n' xs hx;rw[hx]at hb;dsimp only at hb;split at ha
  case isFalse=>cases ha
  rename_i hn;rw[aG hn]at hb;cases ha;cases hb;obtain⟨h1,h2,h3⟩:=hv;have hn:=hr.nm j _ hx (by have:=(gH.1 hx).1;have:=hr.uo;omega);obtain⟨m0,m1⟩:=Dk (v:=γ'.g q) (o:=γ'.o) (o':=γ.o) (i:=q) (i':=i) (w:=w) (w':=w) λb hb ho=>⟨hq b hb ho,rfl⟩;exact⟨by rw[hg];exact h1.mono m0 m1,hn,.inl rfl⟩
 |mp n j=>
  simp only[qg]at ha hb;split at ha
  case h_2=>cases ha
  rename_i n' xs hx;rw[hx]at hb;dsimp only at hb;split at ha
  case isFalse=>cases ha
  rename_i hn;rw[aG hn]at hb;cases ha;cases hb;show rR γ.o i w (γ.g i) xs;rw[hg];exact rR.mono hv λb hb ho=>⟨hq b hb ho,rfl⟩
def ack{fl:List (DV D)}{ri:Nat->Option Nat}{rK:List Nat->List Nat}{tg:Nat}:∀{po:List (Nat×PO)} {eO:List (Nat×Option (AO D))} {p i:Nat} {q:PO},jC T fl ri rK tg po=aa eO->(p,q)∈po->ri p=aa i->i∈eO.map bS
 |[],eO,p,i,q,h,hm,_=>by cases hm
 |(p',q')::po,eO,p,i,q,h,hm,hi=>by
  simp only[jC]at h;split at h
  case h_2=>cases h
  rename_i i' a b g0 g1 g2;cases h;rcases cr.1 hm with e1|hm
  ·cases e1;rw[hi]at g0;cases g0;simp
  ·have:=ack g2 hm hi;rw[gu];exact eV _ this
def Tb{fl:List (DV D)}{ri:Nat->Option Nat}{rK:List Nat->List Nat}{tg:Nat}:∀{po:List (Nat×PO)} {eO:List (Nat×Option (AO D))} {i:Nat} {x:Option (AO D)},jC T fl ri rK tg po=aa eO->aE eO i=aa x->∃p q y,(p,q)∈po∧ri p=aa i∧qg T fl ri rK tg q=aa y∧x=aa y
 |[],eO,i,x,h,hx=>by cases h;cases hx
 |(p,q)::po,eO,i,x,h,hx=>by
  simp only[jC]at h;split at h
  case h_2=>cases h
  rename_i i' a b g0 g1 g2;cases h;unfold aE at hx;cases hb:aT i' i with
  |true=>have:=bA hb;subst this;simp only[hb,v5,fC]at hx;subst hx;exact⟨p,q,a,by simp,g0,g1,rfl⟩
  |false=>simp only[hb,rV]at hx;obtain⟨p',q',y,h1,h2,h3,h4⟩:=Tb g2 hx;exact⟨p',q',y,by simp[h1],h2,h3,h4⟩
def acj{fl:List (DV D)}{tg:Nat}:∀{po:List (Nat×PO)} {eO:List (Nat×Option (AO D))} {p:Nat} {q:PO},jC T fl aa id tg po=aa eO->mq (po.map bS)=ab->(p,q)∈po->∃y,qg T fl aa id tg q=aa y∧dt eO p=aa y
 |[],eO,p,q,h,_,hm=>by cases hm
 |(p',q')::po,eO,p,q,h,hn,hm=>by
  simp only[jC]at h;split at h
  case h_2=>cases h
  rename_i i' a b g0 g1 g2;cases g0;cases h;simp only[gu,mq,bq,pS]at hn;rcases cr.1 hm with e1|hm
  ·cases e1;exact⟨a,g1,by simp[dt,aE]⟩
  ·obtain⟨y,h1,h2⟩:=acj g2 hn.2 hm;refine⟨y,h1,?_⟩;have bQ:aT p' p=ai:=by
    cases hb:aT p' p with
    |true=>have:=bA hb;exact(pj hn.1 (by rw[this];exact dC.2 ⟨_,hm,rfl⟩)).elim
    |false=>rfl
   unfold dt at h2⊢;simpa[aE,bQ]using h2
end
def swap(l:List (Nat×Nat)):List (Nat×Nat):=l.map λp=>(p.2,p.1)
def wv{l:List (Nat×Nat)}{p i:Nat}:(i,p)∈swap l↔(p,i)∈l:=by
 simp only[swap,dC,v7,Prod.exists];constructor
 ·rintro⟨a,b,h,rfl,rfl⟩;exact h
 ·intro h;exact⟨p,i,h,rfl,rfl⟩
def Mb{l:List (Nat×Nat)}(hu:∀p p' i,(p,i)∈l->(p',i)∈l->p=p'){p i:Nat}(h:(p,i)∈l):aE (swap l) i=aa p:=by
 cases hl:aE (swap l) i with
 |none=>exact(yd hl p (wv.2 h)).elim
 |some p'=>have:=wv.1 (dM hl);rw[hu p p' i h this]
def abM{l:List (Nat×Nat)}(hu:∀p i i',(p,i)∈l->(p,i')∈l->i=i'){p i:Nat}(h:(p,i)∈l):aE l p=aa i:=by
 cases hl:aE l p with
 |none=>exact(yd hl i h).elim
 |some i'=>rw[hu p i i' h (dM hl)]
def u_{known:List (Nat×Nat)}:∀{k:Nat} {po:List (Nat×PO)} {p i:Nat},(p,i)∈il known k po->bM (po.map bS) p=ab∧(aE known p=aa i∨(aE known p=none∧k<=i∧i<k+po.length))
 |k,[],p,i,h=>by cases h
 |k,(q,x)::r,p,i,h=>by
  simp only[il]at h;split at h
  ·rename_i i' hi;rcases cr.1 h with e1|h
   ·cases e1;exact⟨by simp[bM],.inl hi⟩
   ·obtain⟨h1,h2⟩:=u_ h;refine⟨by simp only[gu,bM];cases aT q p<;>simp[h1],?_⟩;rcases h2 with h2|⟨h2,h3,h4⟩
    ·exact .inl h2
    ·exact .inr ⟨h2,h3,by simp;omega⟩
  ·rename_i hi;rcases cr.1 h with e1|h
   ·cases e1;exact⟨by simp[bM],.inr ⟨hi,bw _,by simp⟩⟩
   ·obtain⟨h1,h2⟩:=u_ h;refine⟨by simp only[gu,bM];cases aT q p<;>simp[h1],?_⟩;rcases h2 with h2|⟨h2,h3,h4⟩
    ·exact .inl h2
    ·exact .inr ⟨h2,by omega,by simp;omega⟩
def abl{known:List (Nat×Nat)}:∀{k:Nat} {po:List (Nat×PO)},(il known k po).map bS=po.map bS
 |k,[]=>rfl
 |k,(q,x)::r=>by simp only[il];split<;>simp[abl]
def Ss{known:List (Nat×Nat)}{B:Nat}(hk:∀p p' i,(p,i)∈known->(p',i)∈known->p=p'):∀{k:Nat} {po:List (Nat×PO)} {p p' i:Nat},k+po.length<=B->(∀q j,(q,j)∈known->j<k∨B<=j)->(p,i)∈il known k po->(p',i)∈il known k po->p=p'
 |k,[],p,p',i,_,_,h,_=>by cases h
 |k,(q,x)::r,p,p',i,hB,aU,h,h'=>by
  simp only[List.length_cons]at hB;simp only[il]at h h';split at h
  ·rename_i i' hi;rw[hi]at h';rcases cr.1 h with e1|g1<;>rcases cr.1 h' with e2|g2
   ·cases e1;cases e2;rfl
   ·cases e1;rcases(u_ g2).2 with h2|⟨_,h2,h3⟩
    ·exact hk _ _ _ (dM hi) (dM h2)
    ·have:=aU _ _ (dM hi);omega
   ·cases e2;rcases(u_ g1).2 with h2|⟨_,h2,h3⟩
    ·exact hk _ _ _ (dM h2) (dM hi)
    ·have:=aU _ _ (dM hi);omega
   ·exact Ss hk (by omega) aU g1 g2
  ·rename_i hi;rw[hi]at h';have AT:∀q j,(q,j)∈known->j<k+1∨B<=j:=λq j hq=>(aU q j hq).imp (λh=>by omega) id;rcases cr.1 h with e1|g1<;>rcases cr.1 h' with e2|g2
   ·cases e1;cases e2;rfl
   ·cases e1;rcases(u_ g2).2 with h2|⟨_,h2,_⟩
    ·have:=aU _ _ (dM h2);omega
    ·omega
   ·cases e2;rcases(u_ g1).2 with h2|⟨_,h2,_⟩
    ·have:=aU _ _ (dM h2);omega
    ·omega
   ·exact Ss hk (by omega) AT g1 g2
def jm(m:M D)(x:Nat):Nat:=match aE (swap m.ids) x with
 |some p=>p
 |none=>if bM m.kr x||bM m.ku x then 0 else 3
def qA(γ:Gh D)(m:M D):Nat->ah:=λp=>match aE m.ids p with
 |some i=>match aE m.new i with
  |some _=> .slice none 0 0
  |none=>γ.g i
 |none=>γ.g p
def VT{ob:List (Nat×Option (AO D))}:∀{Φ:List (az D)} {f:Nat} {as:List (AV D)} {l:List Nat} {c:az D},Q.R ob (Ip Φ f as) l c->c∈Φ∧c.f=f
 |[],f,as,l,c,h=>(h:False).elim
 |c0::r,f,as,l,c,h=>by
  simp only[Ip]at h;split at h
  ·rename_i hb;simp only[bq]at hb;obtain⟨l1,l2,x,_,_,h2⟩:=Q.fU h;split at h2
   ·obtain⟨_,rfl⟩:=h2;exact⟨by simp,bA hb.1⟩
   ·obtain⟨h3,h4⟩:=VT h2;exact⟨by simp[h3],h4⟩
  ·obtain⟨h1,h2⟩:=VT h;exact⟨by simp[h1],h2⟩
def aoV{call:Bool}{xb:Nat}{po:List (Nat×PO)}{vj:List (Nat×Nat)}{nf:Nat}{m:M D}{fl:List (DV D)}(hex:PM T call xb po vj nf m fl){p i:Nat}(h:(p,i)∈m.ids):jm m i=p:=by unfold jm;rw[Mb hex.ids h]
def C0(m:M D)(x:Nat):(∃p,(p,x)∈m.ids∧jm m x=p)∨((∀p,(p,x)∉m.ids)∧((jm m x=0∧(x∈m.kr∨x∈m.ku))∨(jm m x=3∧x∉m.kr∧x∉m.ku))):=by
 unfold jm;cases hl:aE (swap m.ids) x with
 |some p=>exact .inl ⟨p,wv.1 (dM hl),rfl⟩
 |none=>
  refine .inr ⟨λp hp=>yd hl p (wv.2 hp),?_⟩;by_cases h1:bM m.kr x=ab
  ·exact .inl ⟨by simp[h1],.inl (et.1 h1)⟩
  ·by_cases h2:bM m.ku x=ab
   ·exact .inl ⟨by simp[h2],.inr (et.1 h2)⟩
   ·exact .inr ⟨by simp[h1,h2],λh=>h1 (et.2 h),λh=>h2 (et.2 h)⟩
def H4{call:Bool}{xb:Nat}{po:List (Nat×PO)}{vj:List (Nat×Nat)}{nf:Nat}{m:M D}{fl:List (DV D)}(hex:PM T call xb po vj nf m fl){p i:Nat}(h:(p,i)∈m.ids):
  ((∃x,(i,x)∈m.new)->qA γ m p= .slice none 0 0)∧((∀x,(i,x)∉m.new)->qA γ m p=γ.g i):=by
 unfold qA
 rw[abM hex.Tl h]
 constructor
 ·rintro⟨x,hx⟩;cases hl:aE m.new i with
  |none=>exact(yd hl x hx).elim
  |some y=>dsimp only;rw[hl]
 ·intro hn;cases hl:aE m.new i with
  |none=>dsimp only;rw[hl]
  |some y=>exact(hn y (dM hl)).elim
def su{α:Type}{l:List (Nat×α)}{p:Nat}(h:bM (l.map bS) p=ab):∃q,(p,q)∈l:=by have:=et.1 h;simp only[dC]at this;obtain⟨⟨a,b⟩,h1,rfl⟩:=this;exact⟨b,h1⟩
def aeK{nf:Nat}{po:List (Nat×PO)}{m:M D}{fl:List (DV D)}(bG:OB U γ w ob)(hex:PM T ab 0 po [] nf m fl)(MR:∀i,nf<=i->i<m.nf->¬U i)(oB:po.all (λp=>ef 1000 p.1&&Nat.blt p.1 1100)=ab)(eH:fl.length<=900):
  Fin T U U0 γ ⟨λb=>jm m (γ.o b),qA γ m,ga γ.v 1100 fl⟩ w m fl 1100∧Fk γ ⟨λb=>jm m (γ.o b),qA γ m,ga γ.v 1100 fl⟩ m:=by
 have hp:∀p i,(p,i)∈m.ids->1000<=p∧p<1100:=λp i h=>by obtain⟨q,hq⟩:=su (hex.key p i h);have:=dR.1 oB _ hq;simp only[bq]at this;exact⟨dm this.1,dm this.2⟩
 have Hq:∀x∈m.kr,x<2->jm m x=0:=λx hx h2=>by
  rcases C0 m x with⟨p,h1,_⟩|⟨_,h1⟩
  ·have:=hex.Dw p x h1;omega
  ·rcases h1 with h1|h1
   ·exact h1.1
   ·exact(h1.2.1 hx).elim
 have wY:∀x∈m.ku,jm m x=0:=λx hx=>by
  rcases C0 m x with⟨p,h1,_⟩|⟨_,h1⟩
  ·exact((hex.ku x hx).2 p h1).elim
  ·rcases h1 with h1|h1
   ·exact h1.1
   ·exact(h1.2.2 hx).elim
 refine⟨⟨hex.dv,λp i h=>⟨?_,H4 hex h⟩,λi x h=>?_,λh=>?_,λK Kp ew hK wZ b hb=>?_,λj K Kp hj ew hK wZ b hb=>?_,λi d hd=>?_⟩,⟨λp i h b hb=>?_⟩⟩
 ·have:=hp p i h;show p<2000;omega
 ·have:=hex.new _ h;exact MR i this.1 this.2
 ·rw[hex.BA]at h;cases h
 ·unfold M.may at ew;rw[hex.BA]at ew;simp only[aH,rX]at ew;have iw:γ.o b∈K:=hb;have h1:=Hq _ (wZ _ iw) (hK _ iw);show jm m (γ.o b)∈Kp;rw[h1];rcases ew with h2|h2
  ·cases K with
   |nil=>cases iw
   |cons _ _=>cases h2
  ·exact et.1 h2
 ·unfold M.may at ew;rw[hex.BA]at ew;simp only[aH,rX,List.isEmpty_cons,Bool.false_eq_true,false_or]at ew;have h1:jm m (γ.o b)=0:=by
   have iw:γ.o b∈j::K:=hb;rcases cr.1 iw with h2|h2
   ·rw[h2];exact wY j hj
   ·exact Hq _ (wZ _ h2) (hK _ h2)
  show jm m (γ.o b)∈Kp;rw[h1];exact et.1 ew
 ·refine .inr ⟨?_,GO hd⟩;have:=(gH.1 hd).1;show 1100+i<2000;omega
 ·show jm m (γ.o b)=p;rw[hb];exact aoV hex h
def BH(ids:List (Nat×Nat))(x:Nat):Nat:=match aE ids x with
 |some i=>i
 |none=>if x=1 then 1 else 2
def afd{P:Program}{aq:Nat}{sl:List (Nat×AV D)}{L:List (Nat×ah)}{e:cW D}(hR:cE T){Φ:List (az D)}(cK:∀c∈Φ,fK P T c)(hx:Cx U aq γ w sl L ob){f:Nat}{args:List (AV D)}{vs:List ah}(hv:nj U γ w args vs)(h:Q.R ob (Oa T Φ aq f args) l e):
  (∀(a:Array ah) (w:ax),(callFunc f a).run P w= .ok (.enter f a) w)∧Calls P f vs.toArray w (mb λv w'=>∃γ',dP U aq γ w ob e γ' v w'):=by
 unfold Oa at h
 have hq:=Q.fU h
 clear h
 obtain⟨l0,l9,c,_,hc,h⟩:=hq
 obtain⟨w_,rfl⟩:=VT hc
 have qx:=cK c w_
 refine⟨qx.Vl,?_⟩
 obtain⟨l1,l2,x,_,h1,h2⟩:=Q.fU h
 split at h2
 case isTrue=>exact(h2:False).elim
 rename_i sJ
 simp only[rX,bq,not_or,not_and,Bool.not_eq_true,Bool.not_eq_false']at sJ
 obtain⟨⟨auX,DF⟩,jT⟩:=sJ
 have DF:x.2.nf<=aq+8:=dm (by simpa using DF)
 obtain⟨y,hy,h3⟩:=h2
 dsimp only at h3
 split at h3
 case h_2=>exact(h3:False).elim
 rename_i rs1 LK atb ada
 split at h3
 case isFalse=>exact(h3:False).elim
 rename_i yB
 have yB:=dm yB
 obtain⟨_,rfl⟩:=h3
 obtain⟨⟨hex,DN⟩,vB⟩:=Nm hR hx.ob h1 hv
 obtain⟨hh,m⟩:=x
 dsimp only at*
 unfold yK at jT
 dsimp only at jT
 split at jT
 case isFalse=>cases jT
 rename_i yE
 simp only[bq]at yE
 have eH:=dm yE.1
 have oB:=yE.2
 split at jT
 case h_2=>cases jT
 rename_i as0 So adU adb
 have MR:∀i,aq<=i->i<m.nf->¬U i:=λi h1 h2=>hx.fresh i h1 (by omega)
 obtain⟨Bc,Bb⟩:=aeK (γ:=γ) (w:=w) hx.ob hex MR oB eH
 obtain⟨g1,g2⟩:=vB Bc Bb
 have hp:∀p i,(p,i)∈m.ids->1000<=p∧p<1100:=λp i h=>by obtain⟨q,hq⟩:=su (hex.key p i h);have:=dR.1 oB _ hq;simp only[bq]at this;exact⟨dm this.1,dm this.2⟩
 have atC:OB U0 ⟨λb=>jm m (γ.o b),qA γ m,ga γ.v 1100 (dE T c.ins hh)⟩ w So:=by
  refine⟨λi x hx=>?_,λb hb=>?_,λx hx=>?_⟩
  ·obtain⟨k1,k2,k3⟩:=g2 So adb i x hx;obtain⟨q,hq⟩:=su k1;have:=dR.1 oB _ hq;simp only[bq]at this;exact⟨dm this.1,k2,k3⟩
  ·show jm m (γ.o b)<2000;rcases C0 m (γ.o b)with⟨p,h1,h2⟩|⟨_,h1⟩
   ·have:=hp p _ h1;omega
   ·rcases h1 with h1|h1<;>omega
  ·show x<2000;omega
 refine Calls.mono (qx.run hh y hy as0 So adU adb _ w vs (g1 as0 adU) atC) ?_
 rintro e' w' ⟨v,rfl,U',γ',rs,ke,kR,atA,sx,TU,as2,eA⟩
 have AZ:=qx.key
 have adw:∀p i,aE (il m.ids (aq+8) c.b7) p=aa i->(p,i)∈il m.ids (aq+8) c.b7:=λp i h=>dM h
 have atX:∀q j,(q,j)∈m.ids->j<aq+8∨aq+128<=j:=λq j hq=>by
  rcases DN q j hq with h|⟨x,h⟩
  ·rcases hx.gV h with h|h
   ·exact .inl (by omega)
   ·exact .inr h
  ·have:=hex.new _ h;exact .inl (by simp only at this;omega)
 have aDg:c.b7.length<=40:=dm qx.uo
 have Uc:∀p p' i,(p,i)∈il m.ids (aq+8) c.b7->(p',i)∈il m.ids (aq+8) c.b7->p=p':=λp p' i h h'=>Ss (B:=aq+128) hex.ids (by omega) atX h h'
 have qz:∀p i,(p,i)∈il m.ids (aq+8) c.b7->1000<=p∧1000<=i:=λp i h=>by
  obtain⟨k1,k2⟩:=u_ h;obtain⟨q,hq⟩:=su k1;refine⟨dm (dR.1 qx.cI _ hq),?_⟩;rcases k2 with k2|⟨_,k2,_⟩
  ·exact hex.Dw _ _ (dM k2)
  ·have:=hx.cI;omega
 have auM:∀b,b<w.heap.size->(∃p,(p,γ.o b)∈m.ids)∨((jm m (γ.o b)=0∨jm m (γ.o b)=3)∧∀p,(p,γ.o b)∉m.ids):=λb hb=>by
  rcases C0 m (γ.o b)with⟨p,h1,_⟩|⟨h0,h1⟩
  ·exact .inl ⟨p,h1⟩
  ·exact .inr ⟨h1.imp (λh=>h.1) (λh=>h.1),h0⟩
 obtain⟨iF,vo⟩:∃iF:cA,iF=λb=>if b<w.heap.size∧(jm m (γ.o b)=0∨jm m (γ.o b)=3)then γ.o b else BH (il m.ids (aq+8) c.b7) (γ'.o b):=⟨_,rfl⟩
 obtain⟨Bg,adC⟩:∃Bg:Nat->ah,Bg=λi=>match aE (swap (il m.ids (aq+8) c.b7)) i with
  |some p=>γ'.g p
  |none=>γ.g i:=⟨_,rfl⟩
 have adn:∀b,b<w.heap.size->(∀p,(p,γ.o b)∉m.ids)->iF b=γ.o b∧w'.heap[b]? =w.heap[b]? :=λb hb hn=>by
  rcases auM b hb with⟨p,h1⟩|⟨h1,_⟩
  ·exact(hn p h1).elim
  ·rw[vo];exact⟨aG ⟨hb,h1⟩,(eA.ro b hb h1).2⟩
 have Hq:∀b,b<w.heap.size->γ.o b<1000->iF b=γ.o b∧w'.heap[b]? =w.heap[b]? :=λb hb aU=>adn b hb λp hp=>by have:=hex.Dw p _ hp;omega
 have xc:∀x,(∃i,(x,i)∈il m.ids (aq+8) c.b7∧BH (il m.ids (aq+8) c.b7) x=i)∨BH (il m.ids (aq+8) c.b7) x=1∧x=1∨BH (il m.ids (aq+8) c.b7) x=2:=λx=>by
  unfold BH;cases hl:aE (il m.ids (aq+8) c.b7) x with
  |some i=>exact .inl ⟨i,dM hl,rfl⟩
  |none=>
   by_cases h1:x=1
   ·exact .inr (.inl ⟨by simp[h1],h1⟩)
   ·exact .inr (.inr (by simp[h1]))
 have hgU:∀i,U i->Bg i=γ.g i:=λi hi=>by
  rw[adC];dsimp only;cases hl:aE (swap (il m.ids (aq+8) c.b7)) i with
  |none=>rfl
  |some p=>
   have hm:=wv.1 (dM hl);obtain⟨k1,k2⟩:=u_ hm;rcases k2 with k2|⟨_,k2,k3⟩
   ·have iq:=dM k2;have bU:(p,p)∈stay c:=by obtain⟨q,hq⟩:=su k1;unfold stay;simp only[dC,k_];exact⟨(p,q),⟨hq,hex.key p i iq⟩,rfl⟩
    show γ'.g p=γ.g i;rw[as2 p bU];exact(H4 hex iq).2 λx hxn=>MR i (hex.new _ hxn).1 (hex.new _ hxn).2 hi
   ·exact(hx.fresh i (by omega) (by omega) hi).elim
 have aul:Frame γ w ⟨iF,Bg,ga γ.v (aq+16) (dE T c.outs y)⟩ w':=by
  refine⟨⟨eA.os,eA.tape,eA.output,eA.size,λb hb hc=>Hq b hb (by omega),λb hb hc=>?_⟩,λi hi=>hgU i (hx.ob.ro i hi)⟩;simp only at hc⊢;by_cases h1:b<w.heap.size∧(jm m (γ.o b)=0∨jm m (γ.o b)=3)
  ·refine⟨h1.1,?_⟩;rw[vo];exact(aG h1).symm
  ·exfalso;rw[vo]at hc;simp only[aK h1]at hc;rcases xc (γ'.o b)with⟨i,h2,h3⟩|⟨h2,_⟩|h2
   ·have:=(qz _ _ h2).2;omega
   ·omega
   ·omega
 have fx:jg U (jt U aq) γ w ⟨iF,Bg,ga γ.v (aq+16) (dE T c.outs y)⟩ w':=
  ⟨λi h=> .inl h,hgU,λi hi=>sq hx yB hi,λb hb hc=>Hq b hb (by omega)⟩
 have DZ:∀p i,(p,i)∈il m.ids (aq+8) c.b7->jt U aq i:=λp i h=>by
  rcases(u_ h).2 with k2|⟨_,k2,k3⟩
  ·rcases DN p i (dM k2)with h|⟨x,h⟩
   ·exact .inl h
   ·have:=hex.new _ h;simp only at this;exact .inr ⟨this.1,by omega⟩
  ·exact .inr ⟨by omega,by omega⟩
 have AH:Re (λx=>x<2∧(x=0->c.EM=ab)) U' (jt U aq) γ' ⟨iF,Bg,ga γ.v (aq+16) (dE T c.outs y)⟩ w' (dE T c.outs y) (aE (il m.ids (aq+8) c.b7)) (λK=>(if bM K 0 then m.kr else [])++(if bM K 1 then [1]else [])) (aq+16):=by
  refine⟨λp i wU=>⟨DZ p i (dM wU),?_⟩,λK hK=>⟨?_,λb hb yF=>?_⟩,λi d hd hi=>mr (γ:=γ) rfl hi hd,yB⟩
  ·show Bg i=γ'.g p;rw[adC];dsimp only;rw[Mb Uc (dM wU)]
  ·intro x hx;rcases bz.1 hx with hx|hx
   ·split at hx
    ·exact hex.kr x hx
    ·cases hx
   ·split at hx
    ·simp only[List.mem_singleton]at hx;omega
    ·cases hx
  ·have yF:γ'.o b∈K:=yF;show iF b∈_;have h01:=(hK _ yF).1;have hz:γ'.o b=0∨γ'.o b=1:=by omega
   rcases hz with hz|hz
   ·obtain⟨k1,k2⟩:=eA.back b hb (.inl hz);rw[hz]at k2;have k2:jm m (γ.o b)=0:=k2;have k3:iF b=γ.o b:=by rw[vo];exact aG ⟨k1,.inl k2⟩
    rw[k3];have nM:=(hK _ yF).2 hz;have wY:m.ku=[]:=by simpa using auX nM
    rcases C0 m (γ.o b)with⟨p,h1,h2⟩|⟨_,h1⟩
    ·have:=hp p _ h1;omega
    ·rcases h1 with h1|h1
     ·rcases h1.2 with h2|h2
      ·rw[hz]at yF;rw[aG (et.2 yF)];exact bz.2 (.inl h2)
      ·rw[wY]at h2;cases h2
     ·omega
   ·have k3:iF b=1:=by
     rw[vo];dsimp only;split
     ·rename_i hc;have:=(eA.ro b hc.1 hc.2).1;have k4:γ'.o b=jm m (γ.o b):=this;omega
     ·rw[hz];unfold BH;cases hl:aE (il m.ids (aq+8) c.b7) 1 with
      |none=>rfl
      |some i=>have:=(qz 1 i (dM hl)).1;omega
    rw[k3];rw[hz]at yF;rw[aG (et.2 yF)];simp
 have jD:=qx.ks
 unfold sw at jD
 simp only[bq,dR]at jD
 have gY:∀x∈c.jR.flatMap tQ,x<2∧(x=0->c.EM=ab):=λx hx=>⟨dm (jD.1 x hx),λe=>by subst e;unfold az.EM;exact et.2 (bz.2 (.inl hx))⟩
 have ix:∀x∈c.b7.flatMap (λp=>tP p.2),x<2∧(x=0->c.EM=ab):=λx hx=>⟨dm (jD.2 x hx),λe=>by subst e;unfold az.EM;exact et.2 (bz.2 (.inr hx))⟩
 refine⟨v,rfl,_,aul,fx,aoX AH gY kR atb sx,?_⟩
 refine aqm hx.ob fx (λi Ud hi rB b hb MZ=>?_) (λb hb=>?_) (λi x jq kl=>?_)
 ·refine adn b hb λp wU=>rB ?_;rw[MZ]at wU;show i∈(LK++Ik m.ids c.b7).map bS++[];rw[List.append_nil,List.map_append,bz];cases hm:bM (c.b7.map bS) p with
  |true=>
   obtain⟨q,hq⟩:=su hm;refine .inl (ack ada hq ?_);have h5:∃i',(p,i')∈il m.ids (aq+8) c.b7:=by
    have:p∈(il m.ids (aq+8) c.b7).map bS:=by rw[abl];exact et.1 hm
    simp only[dC]at this;obtain⟨⟨a,b⟩,h1,rfl⟩:=this;exact⟨b,h1⟩
   cases hl:aE (il m.ids (aq+8) c.b7) p with
   |none=>obtain⟨i',eo⟩:=h5;exact(yd hl i' eo).elim
   |some i'=>
    rcases(u_ (dM hl)).2 with k2|⟨k2,_⟩
    ·rw[abM hex.Tl wU]at k2;exact k2.symm▸rfl
    ·exact(yd k2 i wU).elim
  |false=>refine .inr ?_;unfold Ik;simp only[dC,k_,Prod.exists];exact⟨i,none,⟨p,i,⟨wU,by simp[hm]⟩,rfl⟩,rfl⟩
 ·show jt U aq (iF b);rw[vo];dsimp only;split
  ·rename_i h1;exact .inl (hx.ob.cl b h1.1)
  ·rcases xc (γ'.o b)with⟨i,h2,h3⟩|⟨h2,_⟩|h2
   ·rw[h3];exact DZ _ _ h2
   ·rw[h2];exact .inl (hx.ob.ro 1 (by omega))
   ·rw[h2];exact .inl (hx.ob.ro 2 (by omega))
 ·have jq:aE (LK++Ik m.ids c.b7) i=aa (aa x):=jq;rw[kh]at jq;have h5:aE LK i=aa (aa x):=by
   cases hl:aE LK i with
   |some y=>rw[hl]at jq;exact jq
   |none=>rw[hl]at jq;have:=dM jq;unfold Ik at this;simp only[dC,k_,Prod.exists,v7,reduceCtorEq,and_false,exists_false]at this
  obtain⟨p,q,y',k1,k2,k3,k4⟩:=Tb ada h5;cases k4;obtain⟨y0,m1,m2⟩:=acj atA AZ k1;have iq:=dM k2;refine⟨(qz _ _ iq).2,DZ _ _ iq,asi AH (λz hz=>ix z (Ft.2 ⟨_,k1,hz⟩)) (AH.id p i k2).2 (λb hb UF=>?_) m1 k3 (TU p y0 m2)⟩;show iF b=i;rw[vo];dsimp only;have yu:=(qz _ _ iq).1;split
  ·rename_i hc;have:=(eA.ro b hc.1 hc.2).1;have k4:γ'.o b=jm m (γ.o b):=this;omega
  ·rw[UF];unfold BH;rw[k2]
