import Derived.Test.YtmngjhagbjgmfaaGreatRh
set_option linter.all false
open Array renaming getElem?_eq_some_iff->jB
open Bool renaming and_eq_true->bt,false->ai,not_eq_true'->pV,or_eq_true->sd,true->ab
open Go renaming Value->ah,World->ay
open List renaming all_eq_true->dU,getElem?_eq_some_iff->gK,map_cons->gz,mem_append->bA,mem_cons->cu,mem_cons_of_mem->eY,mem_filter->lh,mem_flatMap->Fx,mem_map->dE
open Nat renaming beq->aU,ble->eh,eq_of_beq_eq_true->bB,le_of_ble_eq_true->dp,le_refl->bx,zero_add->kG
open Option renaming none->ak,some->aa
open Option.some renaming inj->jP,injEq->fE
open Prod renaming fst->bT,snd->oT
open Prod.mk renaming injEq->wa
namespace Go.Proofs.YtmngjhagbjgmfaaGreat
open Go Go.RowKit Dp
namespace Rx
section
variable {D:Nat->Type} [∀n,ad (D n)]
variable {T:bc D} {U U':Nat->Prop} {γ γ':Gh D} {w:ay} {ob:List (Nat×Option (AO D))} {l:List Nat}
structure et(m m2:M D):Prop where
 call:m2.call=m.call
 xb:m2.xb=m.xb
 tl:m2.tl=m.tl
 po:m2.po=m.po
 ids:∀p∈m.ids,p∈m2.ids
 ft:∀p∈m.ft,p∈m2.ft
 ku:∀i∈m.ku,i∈m2.ku
 kr:∀i∈m.kr,i∈m2.kr
 new:∀p∈m.new,p∈m2.new
 nf:m.nf<=m2.nf
 nw:∀p∈m2.new,p∈m.new∨(m.nf<=p.1∧p.1<m2.nf∧∃n t,p.2= .sl n t [] [] 0)
def et.same{m m2:M D}(h1:m2.call=m.call∧m2.xb=m.xb)(h2:m2.tl=m.tl)(h3:m2.po=m.po)(h4:∀p∈m.ids,p∈m2.ids)(h5:∀p∈m.ft,p∈m2.ft)(h6:∀i∈m.ku,i∈m2.ku)(h7:∀i∈m.kr,i∈m2.kr)(h8:m2.new=m.new)(h9:m2.nf=m.nf):et m m2:=⟨h1.1,h1.2,h2,h3,h4,h5,h6,h7,λp hp=>by rw[h8];exact hp,by omega,λp hp=> .inl (by rw[h8]at hp;exact hp)⟩
def et.refl(m:M D):et m m:= .same ⟨rfl,rfl⟩ rfl rfl (λ_ h=>h) (λ_ h=>h) (λ_ h=>h) (λ_ h=>h) rfl rfl
def et.trans{m m2 m3:M D}(h:et m m2)(k:et m2 m3):et m m3:=
 ⟨k.call.trans h.call,k.xb.trans h.xb,k.tl.trans h.tl,k.po.trans h.po,λp hp=>k.ids p (h.ids p hp),λp hp=>k.ft p (h.ft p hp),λp hp=>k.ku p (h.ku p hp),λp hp=>k.kr p (h.kr p hp),λp hp=>k.new p (h.new p hp),Nat.le_trans h.nf k.nf,λp hp=>by
   have h1:=h.nf;have h2:=k.nf;rcases k.nw p hp with hp|hp
   ·rcases h.nw p hp with hp|hp
    ·exact .inl hp
    ·exact .inr ⟨hp.1,by omega,hp.2.2⟩
   ·exact .inr ⟨by omega,hp.2⟩⟩
structure Fin(T:bc D)(U U':Nat->Prop)(γ γ':Gh D)(w:ay)(m:M D)(fl:List (DV D))(tg:Nat):Prop where
 dv:∀i d,(i,d)∈m.ft->fl[i]? =aa d
 id:∀p i,(p,i)∈m.ids->U' p∧((∃x,(i,x)∈m.new)->γ'.g p= .slice ak 0 0)∧((∀x,(i,x)∉m.new)->γ'.g p=γ.g i)
 fresh:∀i x,(i,x)∈m.new->¬U i
 ext:m.call=ai->∀p,bN (m.po.map bT) p=ai->p<m.xb->U p->U' p∧γ'.g p=γ.g p
 may:∀K Kp,m.may K Kp=ab->ek K->(∀x∈K,x∈m.kr)->∀b,In γ.o K b->In γ'.o Kp b
 own:∀j K Kp,j∈m.ku->m.may (1::K) Kp=ab->ek K->(∀x∈K,x∈m.kr)->∀b,In γ.o (j::K) b->In γ'.o Kp b
 nm:∀i d,fl[i]? =aa d->named U' γ' (tg+i) d
section
variable {m m' mf:M D} {fl:List (DV D)} {tg:Nat}
def asp{i:Nat}{K:List Nat}{lf:Lf}{x:lf.den D}(h:fl[i]? =aa ⟨lf,x⟩):iY T fl aa id tg (.h i K)=aa (.v lf x (As K lf) (tg+i)):=by simp only[iY,h,id]
def dD.Zx{i:Nat}{lf:Lf}{x:lf.den D}{v:ah}{K:List Nat}(h:dD (In γ'.o K) w v ⟨lf,x⟩)(hK:ek K)(hn:named U' γ' (tg+i) ⟨lf,x⟩):
  fT U' γ' w (.v lf x (As K lf) (tg+i)) v:=by
 cases lf with
 |sl n=>exact⟨h,hn,hK⟩
 |int k=>exact⟨h,hn,lr⟩
 |bool=>exact⟨h,hn,lr⟩
 |str=>exact⟨h,hn,lr⟩
def ayg(bH:OB U γ w ob){i n off ct q t tc g:Nat}{j:Int}{dd:List (D q)}{xs:List (D n)}{v:ah}(ho:dw ob i=aa (.cZ n t tc q xs g ct))(hv:fT U γ w (.ch i n j off ct q dd) v):Rv (In γ.o [i]) w v dd:=by
 obtain⟨hU,⟨UB,_⟩,⟨oh,y,e1,e2,sF⟩,⟨b,len,cap,cells,hg,HQ,um⟩,_⟩:=hv;obtain⟨_,_,m1,m2,m3⟩:=bH.ob _ _ ho;rcases m3 with m3|⟨_,m0,ayh,m4,m5⟩
 ·exact(UB m3).elim
 rw[HQ]at m4;cases m4;rw[m0]at e1;cases e1;obtain⟨cs,k1,k2⟩:=fD.at m1.ow.dh hg e2;rw[kG]at k2;obtain⟨u,k3,k4⟩:=sF _ _ _ k1;have aV:=(gK.1 k3).1;have hu:u=v:=by have h1:=k2 off u k3;rw[jL]at h1;rw[m5 b len cap _ hg,um]at h1;exact(jP h1).symm
 subst hu;refine k4.weaken λb hb=>?_;unfold In at hb⊢;simp only[cu,List.not_mem_nil,kE]at hb⊢;exact(Dt hb).1
def GL(bH:OB U γ w ob){i:Nat}{Kp:List Nat}{a:A1 D}{v:ah}(hK:ek Kp)(h:Q.R ob (wI m i Kp a) l m')(hv:fT U γ w a v):
  et m m'∧m'.ids=m.ids∧m'.new=m.new∧m'.nf=m.nf∧(et m' mf->Fin T U U' γ γ' w mf fl tg->∃d,fl[i]? =aa d∧dD (In γ'.o Kp) w v d):=by
 cases a with
 |v lf x K g=>
  simp only[wI]at h
  split at h
  case isFalse=>cases h
  rename_i eD
  obtain⟨_,rfl⟩:=h
  refine⟨.same ⟨rfl,rfl⟩ rfl rfl (λ_ h=>h) (λ_ h=>eY _ h) (λ_ h=>h) (λ_ h=>bA.2 (.inr h)) rfl rfl,rfl,rfl,rfl,λhle hF=>?_⟩
  have h1:=hF.dv i ⟨lf,x⟩ (hle.ft _ (by simp[M.dv,M.reads]))
  refine⟨_,h1,?_⟩
  refine hv.1.weaken (hF.may K Kp ?_ hv.2.2 λx hx=>hle.kr _ (by simp[M.dv,M.reads,hx]))
  unfold M.may at eD⊢
  rw[hle.call]
  exact eD
 |vb n xs K g b=>
  simp only[wI]at h
  split at h
  case isFalse=>cases h
  rename_i eD
  obtain⟨_,rfl⟩:=h
  refine⟨.same ⟨rfl,rfl⟩ rfl rfl (λ_ h=>h) (λ_ h=>eY _ h) (λ_ h=>h) (λ_ h=>bA.2 (.inr h)) rfl rfl,rfl,rfl,rfl,λhle hF=>?_⟩
  have h1:=hF.dv i ⟨.sl n,xs⟩ (hle.ft _ (by simp[M.dv,M.reads]))
  refine⟨_,h1,?_⟩
  refine dD.weaken (x:=⟨.sl n,xs⟩) (hF.may K Kp ?_ hv.1.2.2 λx hx=>hle.kr _ (by simp[M.dv,M.reads,hx])) hv.1.1
  unfold M.may at eD⊢
  rw[hle.call]
  exact eD
 |bF=>
  simp only[wI]at h
  split at h
  case h_2=>cases h
  rename_i n hn
  obtain⟨_,rfl⟩:=h
  refine⟨.same ⟨rfl,rfl⟩ rfl rfl (λ_ h=>h) (λ_ h=>eY _ h) (λ_ h=>h) (λ_ h=>h) rfl rfl,rfl,rfl,rfl,λhle hF=>?_⟩
  have h1:=hF.dv i ⟨.sl n,[]⟩ (hle.ft _ (by simp[M.dv]))
  have hv:v= .slice ak 0 0:=hv
  subst hv
  exact⟨_,h1,C1 _ _⟩
 |own j=>
  obtain⟨ao,l',ho,rfl,h⟩:=h
  dsimp only at h
  split at h
  ·rename_i dv K Ba;split at h
   case isFalse=>cases h
   rename_i eD;obtain⟨_,rfl⟩:=h;refine⟨.same ⟨rfl,rfl⟩ rfl rfl (λ_ h=>h) (λ_ h=>eY _ h) (λ_ h=>h) (λ_ h=>bA.2 (.inr h)) rfl rfl,rfl,rfl,rfl,λhle hF=>?_⟩;have h1:=hF.dv i dv (hle.ft _ (by simp[M.dv,M.reads]));obtain⟨_,rfl,_⟩:=hv;obtain⟨_,_,k0⟩:=bH.ob _ _ ho;obtain⟨k1,k2⟩:=ajz k0 Ba;refine⟨_,h1,?_⟩;refine dD.weaken (hF.may K Kp ?_ k2 λx hx=>hle.kr _ (by simp[M.dv,M.reads,hx])) k1;unfold M.may at eD⊢;rw[hle.call];exact eD
  split at h
  case h_2=>cases h
  rename_i dv K Ba
  split at h
  case isFalse=>cases h
  rename_i eD
  obtain⟨_,rfl⟩:=h
  refine⟨.same ⟨rfl,rfl⟩ rfl rfl (λ_ h=>h) (λ_ h=>eY _ h) (λ_ h=>eY _ h) (λ_ h=>bA.2 (.inr h)) rfl rfl,rfl,rfl,rfl,λhle hF=>?_⟩
  have h1:=hF.dv i dv (hle.ft _ (by simp[M.dv,M.reads,M.uV]))
  obtain⟨_,rfl,_⟩:=hv
  obtain⟨_,_,k0⟩:=bH.ob _ _ ho
  obtain⟨k1,k2⟩:=Xf k0 Ba
  refine⟨_,h1,?_⟩
  refine dD.weaken (hF.own j K Kp (hle.ku _ (by simp[M.uV])) ?_ k2 λx hx=>hle.kr _ (by simp[M.dv,M.reads,M.uV,hx])) k1
  unfold M.may at eD⊢
  rw[hle.call]
  exact eD
 |ch i' n j off ct q dd=>
  obtain⟨ao,l',ho,rfl,h⟩:=h
  cases ao with
  |box=>cases h
  |sl=>cases h
  |iu=>cases h
  |fz=>cases h
  |mp=>cases h
  |cZ n' t' tc q' xs g ht=>
   dsimp only at h
   split at h
   case isFalse=>cases h
   rename_i hc
   simp only[bt]at hc
   obtain⟨⟨⟨c1,c2⟩,c3⟩,eD⟩:=hc
   have c1:=bB c1
   have c2:=bB c2
   have c3:=bB c3
   subst c1 c2 c3
   obtain⟨_,rfl⟩:=h
   refine⟨.same ⟨rfl,rfl⟩ rfl rfl (λ_ h=>h) (λ_ h=>eY _ h) (λ_ h=>eY _ h) (λ_ h=>h) rfl rfl,rfl,rfl,rfl,λhle hF=>?_⟩
   have h1:=hF.dv i ⟨.sl q,dd⟩ (hle.ft _ (by simp[M.dv,M.uV]))
   refine⟨_,h1,?_⟩
   have ix:Rv (In γ.o [i']) w v (dd:List (D q)):=ayg bH ho hv
   refine dD.weaken (x:=⟨.sl q,dd⟩) (hF.own i' [] Kp (hle.ku _ (by simp[M.uV])) ?_ lr λx hx=>by cases hx) ix
   unfold M.may at eD⊢
   rw[hle.call]
   exact eD
 |_=>cases h
def aaN(bH:OB U γ w ob){Kp:List Nat}(hK:ek Kp):∀{as:List (A1 D)} {vs:List ah} {m m':M D} {i:Nat} {l:List Nat},Q.R ob (Ll Kp m i as) l m'->db U γ w as vs->
  et m m'∧m'.ids=m.ids∧m'.new=m.new∧m'.nf=m.nf∧(et m' mf->Fin T U U' γ γ' w mf fl tg->∃ds,ds.length=as.length∧(∀k d,ds[k]? =aa d->fl[i+k]? =aa d)∧cn (In γ'.o Kp) w vs ds)
 |[],vs,m,m',i,l,h,hv=>by
  obtain⟨_,rfl⟩:=h;cases vs with
  |nil=>exact⟨.refl _,rfl,rfl,rfl,λ_ _=>⟨[],rfl,by simp,trivial⟩⟩
  |cons _ _=>exact hv.elim
 |a::as,vs,m,m',i,l,h,hv=>by
  cases vs with
  |nil=>exact hv.elim
  |cons v vs=>
   simp only[Ll]at h;obtain⟨l1,l2,m1,_,h1,h2⟩:=Q.fW h;obtain⟨e1,e2,e3,e4,e5⟩:=GL (T:=T) (U':=U') (γ':=γ') (mf:=mf) (fl:=fl) (tg:=tg) bH hK h1 hv.1;obtain⟨f1,f2,f3,f4,f5⟩:=aaN bH hK h2 hv.2;refine⟨e1.trans f1,f2.trans e2,f3.trans e3,f4.trans e4,λhle hF=>?_⟩;obtain⟨d0,g1,g2⟩:=e5 (f1.trans hle) hF;obtain⟨ds,k1,k2,k3⟩:=f5 hle hF;refine⟨d0::ds,by simp[k1],λk d hk=>?_,g2,k3⟩;cases k with
   |zero=>cases hk;exact g1
   |succ k=>have:=k2 k d (by simpa using hk);rwa[show i+(k+1)=i+1+k from by omega]
def aaM:∀{ds:List (DV D)} {m:M D} {i:Nat},et m (wH m i ds)∧(wH m i ds).ids=m.ids∧(wH m i ds).new=m.new∧(wH m i ds).nf=m.nf∧∀k d,ds[k]? =aa d->(i+k,d)∈(wH m i ds).ft
 |[],m,i=>⟨.refl _,rfl,rfl,rfl,by simp⟩
 |d::ds,m,i=>by
  obtain⟨h1,h2,h3,h4,h5⟩:=aaM (ds:=ds) (m:=m.dv i d) (i:=i+1);have h0:et m (m.dv i d):= .same ⟨rfl,rfl⟩ rfl rfl (λ_ h=>h) (λ_ h=>eY _ h) (λ_ h=>h) (λ_ h=>h) rfl rfl;refine⟨h0.trans h1,h2,h3,h4,λk e hk=>?_⟩;cases k with
  |zero=>cases hk;exact h1.ft _ (by simp[M.dv])
  |succ k=>have:=h5 k e (by simpa using hk);rwa[show i+(k+1)=i+1+k from by omega]
def ZD{fl ds:List (DV D)}{i n:Nat}(hn:ds.length=n)(h:∀k d,ds[k]? =aa d->fl[i+k]? =aa d):(fl.drop i).take n=ds:=by
 subst hn;apply List.ext_getElem?;intro k;rw[List.getElem?_take];split
 ·rename_i hk;rw[List.getElem?_drop,h k ds[k] (by simp[hk])];simp[hk]
 ·rename_i hk;rw[List.getElem?_eq_none (by omega)]
def abI(hR:cF T){i n n' off:Nat}{Kp K:List Nat}{x:D n'}(hK:ek Kp)(h:Q.R ob (L8 T m i n Kp n' x off K) l m'){v:ah}(hv:∃pa:Addr,v= .pointer (aa (pa.add off))∧xt (In γ.o K) w pa x∧ek K):
  et m m'∧(et m' mf->Fin T U U' γ γ' w mf fl tg->∀y:D n,T.iX n ((fl.drop i).take (T.lv n).length)=aa y->∃pa:Addr,v= .pointer (aa (pa.add 0))∧xt (In γ'.o Kp) w pa y∧ek Kp):=by
 unfold L8 at h
 split at h
 case isFalse=>cases h
 rename_i hc
 simp only[bt]at hc
 obtain⟨⟨h1,h2⟩,h3⟩:=hc
 have h1:=bB h1
 have h2:=bB h2
 subst h1 h2
 obtain⟨_,rfl⟩:=h
 obtain⟨k1,k2,k3,k4,k5⟩:=aaM (ds:=T.out n x) (m:=m) (i:=i)
 have k0:et (wH m i (T.out n x)) ((wH m i (T.out n x)).reads K):= .same ⟨rfl,rfl⟩ rfl rfl (λ_ h=>h) (λ_ h=>h) (λ_ h=>h) (λ_ h=>bA.2 (.inr h)) rfl rfl
 refine⟨k1.trans k0,λhle hF y hy=>?_⟩
 have e1:(fl.drop i).take (T.lv n).length=T.out n x:=ZD (LC T n x) λk d hk=>hF.dv _ _ (hle.ft _ (k0.ft _ (k5 k d hk)))
 have e4:T.out n y=T.out n x:=(hR.iX hy).trans e1
 obtain⟨pa,rfl,⟨cs,f1,f2,f3⟩,f4⟩:=hv
 have hm:∀b,In γ.o K b->In γ'.o Kp b:=hF.may K Kp (by unfold M.may at h3⊢;rw[hle.call,k0.call,k1.call];exact h3) f4 λz hz=>hle.kr _ (by simp[M.reads,hz])
 refine⟨pa,rfl,⟨cs,?_,hm _ f2,f3⟩,hK⟩
 rw[hR.rd]at f1⊢
 rw[e4]
 exact f1.weaken hm
def abK(hR:cF T)(bH:OB U γ w ob){i n j:Nat}{Kp:List Nat}(hK:ek Kp)(h:Q.R ob (SF T m i n Kp j) l m'){v:ah}(hv:U j∧∃b,γ.g j=fP b 0∧v=fP b 0):
  et m m'∧(et m' mf->Fin T U U' γ γ' w mf fl tg->∀y:D n,T.iX n ((fl.drop i).take (T.lv n).length)=aa y->∃pa:Addr,v= .pointer (aa (pa.add 0))∧xt (In γ'.o Kp) w pa y∧ek Kp):=by
 obtain⟨ao,l',ho,rfl,h⟩:=h
 cases ao with
 |sl=>cases h
 |cZ=>cases h
 |iu=>cases h
 |fz=>cases h
 |mp=>cases h
 |box cs=>
  dsimp only at h
  split at h
  case isFalse=>cases h
  rename_i hc
  simp only[bt]at hc
  have hlen:=bB hc.1
  obtain⟨hU,b,hg,rfl⟩:=hv
  obtain⟨_,_,b',us,t',h1,h2,h3,h4,h5⟩:=bH.ob _ _ ho
  rw[hg]at h1
  obtain⟨rfl,_⟩:=Lt h1
  obtain⟨k1,k2,k3,k4,k5⟩:=aaN (T:=T) (U':=U') (γ':=γ') (mf:=mf) (fl:=fl) (tg:=tg) bH hK h h4
  have k0:et m (m.uV j):= .same ⟨rfl,rfl⟩ rfl rfl (λ_ h=>h) (λ_ h=>h) (λ_ h=>eY _ h) (λ_ h=>h) rfl rfl
  refine⟨k0.trans k1,λhle hF y hy=>?_⟩
  obtain⟨ds,e1,e2,e3⟩:=k5 hle hF
  have e4:(fl.drop i).take (T.lv n).length=ds:=ZD (by rw[e1,hlen]) e2
  have e5:=hR.iX hy
  rw[e4]at e5
  have hmb:In γ'.o Kp b:=hF.own j [] Kp (hle.ku _ (k1.ku _ (by simp[M.uV]))) (by have:=hc.2;unfold M.may at this⊢;rw[hle.call,k1.call];exact this) lr (by simp) b (by unfold In;simp[h2])
  refine⟨⟨b,0,ak⟩,by rw[add_zero'];rfl,⟨us,?_,hmb,?_⟩,hK⟩
  ·rw[hR.rd,e5];exact e3
  ·have:=V3 h3 0 us.length;simpa using this
def O1{p i:Nat}(h:Q.R ob (m.bind p i) l m'):l=[]∧et m m'∧((p,i)∈m'.ids∨(m.call=ai∧bN (m.po.map bT) p=ai∧p<m.xb∧p=i))∧m'.new=m.new:=by
 unfold M.bind at h;split at h
 ·rename_i i' hi;split at h
  case isFalse=>cases h
  rename_i hb;have hb:=bB hb;subst hb;obtain⟨rfl,rfl⟩:=h;exact⟨rfl,.refl _,.inl (dO hi),rfl⟩
 ·split at h
  ·split at h
   case isTrue=>cases h
   obtain⟨rfl,rfl⟩:=h;exact⟨rfl,.same ⟨rfl,rfl⟩ rfl rfl (λ_ h=>eY _ h) (λ_ h=>h) (λ_ h=>h) (λ_ h=>h) rfl rfl,.inl (by simp),rfl⟩
  ·rename_i hm;split at h
   case isFalse=>cases h
   rename_i hc;simp only[bt,pV]at hc;obtain⟨rfl,rfl⟩:=h;exact⟨rfl,.refl _,.inr ⟨hc.1.1,by simpa using hm,dp hc.2,bB hc.1.2⟩,rfl⟩
def Xb{p i:Nat}(hU:U i)(h:(p,i)∈mf.ids∨(mf.call=ai∧bN (mf.po.map bT) p=ai∧p<mf.xb∧p=i))(hF:Fin T U U' γ γ' w mf fl tg):U' p∧γ'.g p=γ.g i:=by
 rcases h with h|⟨h1,h2,h3,rfl⟩
 ·obtain⟨k1,_,k3⟩:=hF.id p i h;exact⟨k1,k3 λx hx=>hF.fresh _ _ hx hU⟩
 ·exact hF.ext h1 p h2 h3 hU
def Xa{p i:Nat}(hle:et m' mf)(hm:et m m')(h:(p,i)∈m'.ids∨(m.call=ai∧bN (m.po.map bT) p=ai∧p<m.xb∧p=i)):(p,i)∈mf.ids∨(mf.call=ai∧bN (mf.po.map bT) p=ai∧p<mf.xb∧p=i):=by
 rcases h with h|⟨h1,h2,h3,h4⟩
 ·exact .inl (hle.ids _ h)
 ·exact .inr ⟨by rw[hle.call,hm.call];exact h1,by rw[hle.po,hm.po];exact h2,by rw[hle.xb,hm.xb];exact h3,h4⟩
def aq'(hR:cF T)(bH:OB U γ w ob){p:P0}{a:A0 D}{v:ah}(hK:match p with| .rp _ _ K=>ek K|_=>True)(h:Q.R ob (m0 T m p a) l m')(hv:rT U γ w a v):
  et m m'∧(et m' mf->Fin T U U' γ γ' w mf fl tg->∀a',wR T fl aa id p=aa a'->rT U' γ' w a' v):=by
 unfold m0 at h
 split at h
 ·split at h
  case isFalse=>cases h
  rename_i hb;have hb:=bB hb;subst hb;obtain⟨_,h1,h2,_⟩:=O1 h;refine⟨h1,λhle hF a' ha=>?_⟩;obtain⟨hU,b,hg,rfl⟩:=hv;obtain⟨k1,k2⟩:=Xb hU (Xa hle h1 h2) hF;simp only[wR,fE]at ha;subst ha;exact⟨k1,b,by rw[k2];exact hg,rfl⟩
 ·obtain⟨h1,h2⟩:=abI (T:=T) (U:=U) (U':=U') (γ':=γ') (mf:=mf) (fl:=fl) (tg:=tg) hR hK h hv;refine⟨h1,λhle hF a' ha=>?_⟩;simp only[wR,id]at ha;split at ha
  case h_2=>cases ha
  rename_i y hy;cases ha;exact h2 hle hF y hy
 ·split at h
  case isFalse=>cases h
  rename_i hb;have hb:=bB hb;subst hb;obtain⟨h1,h2⟩:=abK (T:=T) (U':=U') (γ':=γ') (mf:=mf) (fl:=fl) (tg:=tg) hR bH hK h hv;refine⟨h1,λhle hF a' ha=>?_⟩;simp only[wR,id]at ha;split at ha
  case h_2=>cases ha
  rename_i y hy;cases ha;exact h2 hle hF y hy
 ·exact(h:False).elim
def abM(hR:cF T)(bH:OB U γ w ob):∀{ps:List P0} {as:List (A0 D)} {vs:List ah} {m m':M D} {l:List Nat},(∀p∈ps,match p with| .rp _ _ K=>ek K|_=>True)->Q.R ob (Ma T m ps as) l m'->nr U γ w as vs->
  et m m'∧(et m' mf->Fin T U U' γ γ' w mf fl tg->∀j7,yq T fl aa id ps=aa j7->nr U' γ' w j7 vs)
 |[],[],vs,m,m',l,_,h,hv=>by
  obtain⟨_,rfl⟩:=h;cases vs with
  |nil=>exact⟨.refl _,λ_ _ j7 ha=>by simp only[yq,fE]at ha;subst ha;trivial⟩
  |cons _ _=>exact hv.elim
 |[],_::_,vs,m,m',l,_,h,hv=>(h:False).elim
 |_::_,[],vs,m,m',l,_,h,hv=>(h:False).elim
 |p::ps,a::as,vs,m,m',l,hK,h,hv=>by
  cases vs with
  |nil=>exact hv.elim
  |cons v vs=>
   simp only[Ma]at h;obtain⟨l1,l2,m1,_,h1,h2⟩:=Q.fW h;obtain⟨e1,e2⟩:=aq' (T:=T) (U':=U') (γ':=γ') (mf:=mf) (fl:=fl) (tg:=tg) hR bH (hK p (by simp)) h1 hv.1;obtain⟨f1,f2⟩:=abM hR bH (λp hp=>hK p (by simp[hp])) h2 hv.2;refine⟨e1.trans f1,λhle hF j7 ha=>?_⟩;simp only[yq]at ha;split at ha
   case h_2=>cases ha
   rename_i a1 a2 g1 g2;cases ha;exact⟨e2 (f1.trans hle) hF _ g1,f2 hle hF _ g2⟩
def UM(hF:Fin T U U' γ γ' w mf fl tg){i j:Nat}{K:List Nat}(hK:ek K){b:Bool}{m1:M D}(hle:et (m1.dv j ⟨.bool,b⟩) mf){d:DV D}{v:ah}(k1:fl[i]? =aa d)(k2:dD (In γ'.o K) w v d){a':A1 D}(ha:iY T fl aa id tg (.hb i j K)=aa a')(hb:b=Tb v):fT U' γ' w a' v:=by
 have k3:=hF.dv j ⟨.bool,b⟩ (hle.ft _ (by simp[M.dv]));obtain⟨lf,x⟩:=d;simp only[iY,k1,k3]at ha;cases lf with
 |sl n=>cases ha;exact⟨⟨k2,hF.nm _ _ k1,hK⟩,hb⟩
 |int k=>cases ha
 |bool=>cases ha
 |str=>cases ha
def KsP(p:P1):Prop:=∀x∈yn p,x<2
def abL(hR:cF T)(bH:OB U γ w ob){p:P1}{a:A1 D}{v:ah}(hK:KsP p)(h:Q.R ob (m1 T m p a) l m')(hv:fT U γ w a v):
  et m m'∧(et m' mf->Fin T U U' γ γ' w mf fl tg->∀a',iY T fl aa id tg p=aa a'->fT U' γ' w a' v):=by
 unfold m1 at h
 split at h
 ·
  rename_i i K a
  obtain⟨h1,_,_,_,h2⟩:=GL (T:=T) (U':=U') (γ':=γ') (mf:=mf) (fl:=fl) (tg:=tg) bH hK h hv
  refine⟨h1,λhle hF a' ha=>?_⟩
  obtain⟨⟨lf,x⟩,k1,k2⟩:=h2 hle hF
  rw[asp k1]at ha
  cases ha
  exact k2.Zx hK (hF.nm _ _ k1)
 ·
  rename_i i j K n xs K' g b
  obtain⟨l1,l2,m1,_,h1,h2⟩:=Q.fW h
  obtain⟨_,rfl⟩:=h2
  obtain⟨e1,_,_,_,e2⟩:=GL (T:=T) (U':=U') (γ':=γ') (mf:=mf) (fl:=fl) (tg:=tg) bH hK h1 (v:=v) ⟨hv.1.1,.inl rfl,hv.1.2.2⟩
  have e0:et m1 (m1.dv j ⟨.bool,b⟩):= .same ⟨rfl,rfl⟩ rfl rfl (λ_ h=>h) (λ_ h=>eY _ h) (λ_ h=>h) (λ_ h=>h) rfl rfl
  refine⟨e1.trans e0,λhle hF a' ha=>?_⟩
  obtain⟨⟨lf,x⟩,k1,k2⟩:=e2 (e0.trans hle) hF
  exact UM hF hK hle k1 k2 ha hv.2
 ·rename_i i j K;obtain⟨l1,l2,m1,_,h1,h2⟩:=Q.fW h;obtain⟨_,rfl⟩:=h2;obtain⟨e1,_,_,_,e2⟩:=GL (T:=T) (U':=U') (γ':=γ') (mf:=mf) (fl:=fl) (tg:=tg) bH hK h1 hv;have e0:et m1 (m1.dv j ⟨.bool,ab⟩):= .same ⟨rfl,rfl⟩ rfl rfl (λ_ h=>h) (λ_ h=>eY _ h) (λ_ h=>h) (λ_ h=>h) rfl rfl;refine⟨e1.trans e0,λhle hF a' ha=>?_⟩;obtain⟨⟨lf,x⟩,k1,k2⟩:=e2 (e0.trans hle) hF;have hv:v= .slice ak 0 0:=hv;exact UM hF hK hle k1 k2 ha (by rw[hv];rfl)
 ·rename_i i j K q;obtain⟨ao,l',ho,rfl,h⟩:=h;cases ao with
  |box=>cases h
  |cZ=>cases h
  |iu=>cases h
  |fz=>cases h
  |mp=>cases h
  |sl n t xs K0 g0=>
   obtain⟨_,bR,h⟩:=h;obtain⟨l1,l2,m1,_,h1,h2⟩:=Q.fW h;obtain⟨_,rfl⟩:=h2;obtain⟨e1,_,_,_,e2⟩:=GL (T:=T) (U':=U') (γ':=γ') (mf:=mf) (fl:=fl) (tg:=tg) bH hK h1 hv;have e0:et m1 (m1.dv j ⟨.bool,ai⟩):= .same ⟨rfl,rfl⟩ rfl rfl (λ_ h=>h) (λ_ h=>eY _ h) (λ_ h=>h) (λ_ h=>h) rfl rfl;refine⟨e1.trans e0,λhle hF a' ha=>?_⟩;obtain⟨⟨lf,x⟩,k1,k2⟩:=e2 (e0.trans hle) hF;refine UM hF hK hle k1 k2 ha ?_;obtain⟨_,rfl,_⟩:=hv;obtain⟨_,_,k3,_⟩:=bH.ob _ _ ho;rcases k3 with⟨_,k3⟩|⟨g,f,cap,aW,aK,k3,_⟩
   ·subst k3;cases bR
   ·rw[k3];rfl
 ·
  split at h
  case isFalse=>cases h
  rename_i hb
  have hb:=bB hb
  subst hb
  obtain⟨_,h1,h2,_⟩:=O1 h
  refine⟨h1,λhle hF a' ha=>?_⟩
  obtain⟨hU,b,hg,rfl⟩:=hv
  obtain⟨k1,k2⟩:=Xb hU (Xa hle h1 h2) hF
  simp only[iY,fE]at ha
  subst ha
  exact⟨k1,b,by rw[k2];exact hg,rfl⟩
 ·
  obtain⟨_,h1,h2,_⟩:=O1 h
  refine⟨h1,λhle hF a' ha=>?_⟩
  obtain⟨hU,rfl,mE⟩:=hv
  obtain⟨k1,k2⟩:=Xb hU (Xa hle h1 h2) hF
  simp only[iY,fE]at ha
  subst ha
  exact⟨k1,k2.symm,mE⟩
 ·
  split at h
  case h_2=>cases h
  rename_i n t i K oE
  obtain⟨_,h1,h2,h3⟩:=O1 h
  have h0:et m {m with new:=(m.nf,.sl n t [] [] 0)::m.new,nf:=m.nf+1}:=⟨rfl,rfl,rfl,rfl,λ_ h=>h,λ_ h=>h,λ_ h=>h,λ_ h=>h,λ_ h=>eY _ h,by simp,λp hp=>by
   rcases cu.1 hp with rfl|hp
   ·exact .inr ⟨bx _,by simp,n,t,rfl⟩
   ·exact .inl hp⟩
  refine⟨h0.trans h1,λhle hF a' ha=>?_⟩
  have hv:v= .slice ak 0 0:=hv
  subst hv
  simp only[iY,fE]at ha
  subst ha
  rcases h2 with h2|⟨_,h2,_⟩
  ·obtain⟨k1,k2,_⟩:=hF.id _ _ (hle.ids _ h2);exact⟨k1,(k2 ⟨_,hle.new _ (h1.new _ (by simp;exact .inl rfl))⟩).symm,rfl⟩
  ·exfalso;have:=dO oE;rw[show({m with new:=(m.nf,.sl n t [] [] 0)::m.new,nf:=m.nf+1}:M D).po=m.po from rfl]at h2;exact pu h2 (by simp only[dE];exact⟨_,this,rfl⟩)
 ·obtain⟨h1,h2⟩:=abI (T:=T) (U:=U) (U':=U') (γ':=γ') (mf:=mf) (fl:=fl) (tg:=tg) hR hK h hv;refine⟨h1,λhle hF a' ha=>?_⟩;simp only[iY,id]at ha;split at ha
  case h_2=>cases ha
  rename_i y hy;cases ha;exact h2 hle hF y hy
 ·split at h
  case isFalse=>cases h
  rename_i hb;have hb:=bB hb;subst hb;obtain⟨h1,h2⟩:=abK (T:=T) (U':=U') (γ':=γ') (mf:=mf) (fl:=fl) (tg:=tg) hR bH hK h hv;refine⟨h1,λhle hF a' ha=>?_⟩;simp only[iY,id]at ha;split at ha
  case h_2=>cases ha
  rename_i y hy;cases ha;exact h2 hle hF y hy
 ·
  split at h
  case isFalse=>cases h
  rename_i f ps f' as hb
  have hb:=bB hb
  subst hb
  obtain⟨cs,rfl,h3⟩:=hv
  have hK':∀p∈ps,match p with| .rp _ _ K=>ek K|_=>True:=λp hp=>by
   split
   ·rename_i i n K;intro x hx;refine hK x ?_;simp only[yn,Fx];exact⟨_,hp,hx⟩
   ·trivial
  obtain⟨h1,h2⟩:=abM (T:=T) (U':=U') (γ':=γ') (mf:=mf) (fl:=fl) (tg:=tg) hR bH hK' h h3
  refine⟨h1,λhle hF a' ha=>?_⟩
  simp only[iY]at ha
  split at ha
  case h_2=>cases ha
  rename_i jd ja
  cases ha
  exact⟨cs,rfl,h2 hle hF _ ja⟩
 ·obtain⟨_,rfl⟩:=h;exact⟨.refl _,λ_ _ a' ha=>by simp only[iY,fE]at ha;subst ha;exact hv⟩
 ·obtain⟨_,rfl⟩:=h;exact⟨.refl _,λ_ _ a' ha=>by simp only[iY,fE]at ha;subst ha;exact hv⟩
 ·obtain⟨_,rfl⟩:=h;exact⟨.refl _,λ_ _ a' ha=>by simp only[iY,fE]at ha;subst ha;trivial⟩
 ·split at h
  case isFalse=>cases h
  rename_i bV;obtain⟨_,rfl⟩:=h;have h1:=fT.one hv bV;exact⟨.refl _,λ_ _ a' ha=>by simp only[iY,fE]at ha;subst ha;exact h1⟩
 ·exact(h:False).elim
def SJ(hR:cF T)(bH:OB U γ w ob):∀{ps:List P1} {as:List (A1 D)} {vs:List ah} {m m':M D} {l:List Nat},(∀p∈ps,KsP p)->Q.R ob (GX T m ps as) l m'->db U γ w as vs->
  et m m'∧(et m' mf->Fin T U U' γ γ' w mf fl tg->∀j7,wQ T fl aa id tg ps=aa j7->db U' γ' w j7 vs)
 |[],[],vs,m,m',l,_,h,hv=>by
  obtain⟨_,rfl⟩:=h;cases vs with
  |nil=>exact⟨.refl _,λ_ _ j7 ha=>by simp only[wQ,fE]at ha;subst ha;trivial⟩
  |cons _ _=>exact hv.elim
 |[],_::_,vs,m,m',l,_,h,hv=>(h:False).elim
 |_::_,[],vs,m,m',l,_,h,hv=>(h:False).elim
 |p::ps,a::as,vs,m,m',l,hK,h,hv=>by
  cases vs with
  |nil=>exact hv.elim
  |cons v vs=>
   simp only[GX]at h;obtain⟨l1,l2,m1,_,h1,h2⟩:=Q.fW h;obtain⟨e1,e2⟩:=abL (T:=T) (U':=U') (γ':=γ') (mf:=mf) (fl:=fl) (tg:=tg) hR bH (hK p (by simp)) h1 hv.1;obtain⟨f1,f2⟩:=SJ hR bH (λp hp=>hK p (by simp[hp])) h2 hv.2;refine⟨e1.trans f1,λhle hF j7 ha=>?_⟩;simp only[wQ]at ha;split at ha
   case h_2=>cases ha
   rename_i a1 a2 g1 g2;cases ha;exact⟨e2 (f1.trans hle) hF _ g1,f2 hle hF _ g2⟩
def aq_(hR:cF T)(bH:OB U γ w ob){p:PC}{a:AV D}{v:ah}(hK:∀x∈tV p,x<2)(h:Q.R ob (mC T m p a) l m')(hv:gI U γ w a v):
  et m m'∧(et m' mf->Fin T U U' γ γ' w mf fl tg->∀a',vo T fl aa id tg p=aa a'->nq U' γ' w a' v):=by
 unfold mC at h
 split at h
 ·obtain⟨h1,h2⟩:=abL (T:=T) (U':=U') (γ':=γ') (mf:=mf) (fl:=fl) (tg:=tg) hR bH hK h hv;refine⟨h1,λhle hF a' ha=>?_⟩;simp only[vo]at ha;split at ha
  case h_2=>cases ha
  rename_i y hy;cases ha;exact h2 hle hF y hy
 ·rename_i ps ll;obtain⟨us,rfl,hv⟩:=hv;obtain⟨h1,h2⟩:=SJ (T:=T) (U':=U') (γ':=γ') (mf:=mf) (fl:=fl) (tg:=tg) hR bH (λp hp x hx=>hK x (by simp only[tV,Fx];exact⟨p,hp,hx⟩)) h hv;refine⟨h1,λhle hF a' ha=>?_⟩;simp only[vo]at ha;split at ha
  case h_2=>cases ha
  rename_i y hy;cases ha;exact⟨us,rfl,h2 hle hF y hy⟩
 ·obtain⟨_,rfl⟩:=h;refine⟨.refl _,λ_ _ a' ha=>?_⟩;simp only[vo,iY,fE]at ha;subst ha;trivial
 ·exact(h:False).elim
def SI(hR:cF T)(bH:OB U γ w ob):∀{ps:List PC} {as:List (AV D)} {vs:List ah} {m m':M D} {l:List Nat},(∀x∈ps.flatMap tV,x<2)->Q.R ob (L_ T m ps as) l m'->np U γ w as vs->
  et m m'∧(et m' mf->Fin T U U' γ γ' w mf fl tg->∀j7,g9 T fl aa id tg ps=aa j7->ji U' γ' w j7 vs)
 |[],[],vs,m,m',l,_,h,hv=>by
  obtain⟨_,rfl⟩:=h;cases vs with
  |nil=>exact⟨.refl _,λ_ _ j7 ha=>by simp only[g9,fE]at ha;subst ha;trivial⟩
  |cons _ _=>exact hv.elim
 |[],_::_,vs,m,m',l,_,h,hv=>(h:False).elim
 |_::_,[],vs,m,m',l,_,h,hv=>(h:False).elim
 |p::ps,a::as,vs,m,m',l,hK,h,hv=>by
  cases vs with
  |nil=>exact hv.elim
  |cons v vs=>
   simp only[L_]at h;obtain⟨l1,l2,m1,_,h1,h2⟩:=Q.fW h;obtain⟨e1,e2⟩:=aq_ (T:=T) (U':=U') (γ':=γ') (mf:=mf) (fl:=fl) (tg:=tg) hR bH (λx hx=>hK x (by simp[hx])) h1 hv.1;obtain⟨f1,f2⟩:=SI hR bH (λx hx=>hK x (by rw[List.flatMap_cons];exact bA.2 (.inr hx))) h2 hv.2;refine⟨e1.trans f1,λhle hF j7 ha=>?_⟩;simp only[g9]at ha;split at ha
   case h_2=>cases ha
   rename_i a1 a2 g1 g2;cases ha;exact⟨e2 (f1.trans hle) hF _ g1,f2 hle hF _ g2⟩
def SH(hR:cF T)(bH:OB U γ w ob){p:PO}{x:AO D}{i q:Nat}(hK:∀x∈tU p,x<2)(h:Q.R ob (mO T m p x) l m')(hx:(OR U γ w i x∧γ'.g q=γ.g i∧∀b,γ.o b=i->γ'.o b=q)∨(∃n t,x= .sl n t [] [] 0∧γ'.g q= .slice ak 0 0)):
  et m m'∧(et m' mf->Fin T U U' γ γ' w mf fl tg->∀x',qk T fl aa id tg p=aa x'->OR U' γ' w q x'):=by
 unfold mO at h
 split at h
 ·rename_i ps cs;rcases hx with⟨⟨b,us,t,h1,h2,h3,h4,h5⟩,hg,ho⟩|⟨n,t,hx,_⟩
  case inr=>cases hx
  obtain⟨k1,k2⟩:=SJ (T:=T) (U':=U') (γ':=γ') (mf:=mf) (fl:=fl) (tg:=tg) hR bH (λp hp x hx=>hK x (by simp only[tU,Fx];exact⟨p,hp,hx⟩)) h h4;refine⟨k1,λhle hF x' dZ=>?_⟩;simp only[qk]at dZ;split at dZ
  case h_2=>cases dZ
  rename_i y hy;split at dZ
  case isFalse=>cases dZ
  rename_i bV;cases dZ;exact⟨b,us,t,by rw[hg];exact h1,ho b h2,h3,k2 hle hF y hy,bV⟩
 ·rename_i n t i' Kp n' t' xs K g;split at h
  case isFalse=>cases h
  rename_i hc;simp only[bt]at hc;obtain⟨⟨c1,c2⟩,c3⟩:=hc;have c1:=bB c1;have c2:=bB c2;subst c1 c2;obtain⟨_,rfl⟩:=h;refine⟨.same ⟨rfl,rfl⟩ rfl rfl (λ_ h=>h) (λ_ h=>eY _ h) (λ_ h=>h) (λ_ h=>bA.2 (.inr h)) rfl rfl,λhle hF x' dZ=>?_⟩;have hd:=hF.dv i' ⟨.sl n,xs⟩ (hle.ft _ (by simp[M.dv,M.reads]));simp only[qk,hd]at dZ;rw[aH (Nat.beq_refl n)]at dZ;cases dZ;refine⟨?_,hK,hF.nm _ _ hd⟩;rcases hx with⟨⟨h1,h2,h3⟩,hg,ho⟩|⟨_,_,hx,hg⟩
  ·rw[hg];refine Ow.tO ho (hF.may K Kp ?_ h2 λx hx=>hle.kr _ (by simp[M.dv,M.reads,hx])) h1;unfold M.may at c3⊢;rw[hle.call];exact c3
  ·cases hx;rw[hg];exact Ow.nil _ _ _ _ _
 ·rename_i n t tc q' i' n' t' xH q2 xs g ht;split at h
  case isFalse=>cases h
  rename_i hc;simp only[bt]at hc;obtain⟨⟨⟨c1,c2⟩,c3⟩,c4⟩:=hc;have c1:=bB c1;have c2:=bB c2;have c3:=bB c3;have c4:=bB c4;subst c1 c2 c3 c4;obtain⟨_,rfl⟩:=h;refine⟨.same ⟨rfl,rfl⟩ rfl rfl (λ_ h=>h) (λ_ h=>eY _ h) (λ_ h=>h) (λ_ h=>h) rfl rfl,λhle hF x' dZ=>?_⟩;have hd:=hF.dv i' ⟨.sl n,xs⟩ (hle.ft _ (by simp[M.dv]));simp only[qk,hd]at dZ;rw[aH (Nat.beq_refl n)]at dZ;cases dZ;rcases hx with⟨⟨h1,h2,h3⟩,hg,ho⟩|⟨_,_,hx,_⟩
  case inr=>cases hx
  obtain⟨m0,m1⟩:=Ds (v:=γ.g i) (o:=γ.o) (o':=γ'.o) (i:=i) (i':=q) (w:=w) (w':=w) λb _ hb=>⟨ho b hb,rfl⟩;exact⟨by rw[hg];exact h1.mono m0 m1,hF.nm _ _ hd,.inl rfl⟩
 ·rename_i n i' n' xs;split at h
  case isFalse=>cases h
  rename_i c1;have c1:=bB c1;subst c1;obtain⟨_,rfl⟩:=h;refine⟨.same ⟨rfl,rfl⟩ rfl rfl (λ_ h=>h) (λ_ h=>eY _ h) (λ_ h=>h) (λ_ h=>h) rfl rfl,λhle hF x' dZ=>?_⟩;have hd:=hF.dv i' ⟨.sl n,xs⟩ (hle.ft _ (by simp[M.dv]));simp only[qk,hd]at dZ;rw[aH (Nat.beq_refl n)]at dZ;cases dZ;rcases hx with⟨h1,hg,ho⟩|⟨_,_,hx,_⟩
  case inr=>cases hx
  show rU γ'.o q w (γ'.g q) xs;rw[hg];exact rU.mono h1 λb _ hb=>⟨ho b hb,rfl⟩
 ·exact(h:False).elim
structure Fp(γ γ':Gh D)(m:M D):Prop where
 o:∀p i,(p,i)∈m.ids->∀b,γ.o b=i->γ'.o b=p
def SG(hR:cF T)(bH:OB U γ w ob):∀{po:List (Nat×PO)} {m m':M D} {l:List Nat},(∀x∈po.flatMap (λp=>tU p.2),x<2)->Q.R ob (Dl T m po) l m'->(∀i x,(i,x)∈m.new->∃n t,x= .sl n t [] [] 0)->
  et m m'∧((∀i x,(i,x)∈m'.new->∃n t,x= .sl n t [] [] 0)∧∀p,bN (po.map bT) p=ab->∃i,(p,i)∈m'.ids∧(U i∨∃x,(i,x)∈m'.new))∧(et m' mf->Fin T U U' γ γ' w mf fl tg->Fp γ γ' mf->∀eQ,jF T fl aa id tg po=aa eQ->∀p x,dw eQ p=aa x->bN (po.map bT) p=ab∧U' p∧OR U' γ' w p x)
 |[],m,m',l,_,h,hn=>by
  obtain⟨_,rfl⟩:=h;exact⟨.refl _,⟨hn,λp hp=>by simp[bN]at hp⟩,λ_ _ _ eQ ho p x hx=>by simp only[jF,fE]at ho;subst ho;simp[dw,aF]at hx⟩
 |(p,q)::po,m,m',l,hK,h,hn=>by
  simp only[Dl]at h;split at h
  case h_1=>cases h
  rename_i i hi;have iw:=dO hi;have UR:∀x∈tU q,x<2:=λx hx=>hK x (by simp[hx]);have hKr:∀x∈po.flatMap (λp=>tU p.2),x<2:=λx hx=>hK x (by rw[List.flatMap_cons];exact bA.2 (.inr hx));have main:∀{ao:AO D} {l0:List Nat},Q.R ob ((mO T m q ao).bind λm=>Dl T m po) l0 m'->(OR U γ w i ao∧U i∨((i,ao)∈m.new∧∃n t,ao= .sl n t [] [] 0))->
    et m m'∧((∀i x,(i,x)∈m'.new->∃n t,x= .sl n t [] [] 0)∧∀p',bN (((p,q)::po).map bT) p'=ab->∃i,(p',i)∈m'.ids∧(U i∨∃x,(i,x)∈m'.new))∧(et m' mf->Fin T U U' γ γ' w mf fl tg->Fp γ γ' mf->∀eQ,jF T fl aa id tg ((p,q)::po)=aa eQ->∀p' x,dw eQ p'=aa x->bN (((p,q)::po).map bT) p'=ab∧U' p'∧OR U' γ' w p' x):=by
   intro ao l0 h D2
   obtain⟨l1,l2,m1,_,h1,h2⟩:=Q.fW h
   have AI:et m m1:=by
    rcases D2 with⟨ha,_⟩|⟨_,n,t,TZ⟩
    ·exact(SH (T:=T) (U':=U') (γ':=γ) (mf:=mf) (fl:=fl) (tg:=tg) (q:=i) hR bH UR h1 (.inl ⟨ha,rfl,λ_ h=>h⟩)).1
    ·exact(SH (T:=T) (U':=U') (γ':=⟨γ.o,λ_=> .slice ak 0 0,γ.v⟩) (mf:=mf) (fl:=fl) (tg:=tg) (i:=i) (q:=i) hR bH UR h1 (.inr ⟨n,t,TZ,rfl⟩)).1
   obtain⟨f1,f2,f3⟩:=SG hR bH hKr h2 (λi x hx=>by
    rcases AI.nw _ hx with hx|hx
    ·exact hn i x hx
    ·exact hx.2.2)
   refine⟨AI.trans f1,⟨f2.1,λp' qo=>?_⟩,λhle hF hO eQ ho p' x hx=>?_⟩
   ·simp only[gz,bN]at qo;cases hb:aU p p' with
    |true=>
     have:=bB hb;subst this;refine⟨i,(AI.trans f1).ids _ iw,?_⟩;rcases D2 with⟨_,hU⟩|⟨ha,_⟩
     ·exact .inl hU
     ·exact .inr ⟨_,(AI.trans f1).new _ ha⟩
    |false=>rw[hb]at qo;exact f2.2 p' qo
   obtain⟨k1,k2,k3⟩:=hF.id p i (hle.ids _ ((AI.trans f1).ids _ iw))
   have wZ:(OR U γ w i ao∧γ'.g p=γ.g i∧∀b,γ.o b=i->γ'.o b=p)∨(∃n t,ao= .sl n t [] [] 0∧γ'.g p= .slice ak 0 0):=by
    rcases D2 with⟨ha,hU⟩|⟨ha,n,t,TZ⟩
    ·exact .inl ⟨ha,k3 λx hx=>hF.fresh _ _ hx hU,hO.o p i (hle.ids _ ((AI.trans f1).ids _ iw))⟩
    ·exact .inr ⟨n,t,TZ,k2 ⟨ao,hle.new _ ((AI.trans f1).new _ ha)⟩⟩
   obtain⟨_,e2⟩:=SH (T:=T) (U':=U') (γ':=γ') (mf:=mf) (fl:=fl) (tg:=tg) hR bH UR h1 wZ
   simp only[jF,id]at ho
   split at ho
   case h_2=>cases ho
   rename_i i' a b g0 g1 g2
   cases g0
   cases ho
   by_cases hp:p=p'
   ·subst hp;simp only[dw,aF,Nat.beq_refl,v_,fE]at hx;subst hx;exact⟨by simp[bN],k1,e2 (f1.trans hle) hF _ g1⟩
   ·have bR:aU p p'=ai:=by
     cases hb:aU p p' with
     |true=>exact(hp (bB hb)).elim
     |false=>rfl
    have dZ:dw b p'=aa x:=by unfold dw at hx⊢;simpa[aF,bR]using hx
    obtain⟨j1,j2,j3⟩:=f3 hle hF hO b g2 p' x dZ;exact⟨by simp[bN,bR];exact j1,j2,j3⟩
  split at h
  ·rename_i ao D2;exact main h (.inr ⟨dO D2,hn _ _ (dO D2)⟩)
  ·obtain⟨ao,l',ho,rfl,h⟩:=h;obtain⟨_,hU,h1⟩:=bH.ob _ _ ho;exact main h (.inl ⟨h1,hU⟩)
def LQ{α:Type}:∀{l:List (Nat×α)} {i:Nat} {a:α},mw (l.map bT)=ab->(i,a)∈l->aF l i=aa a
 |[],i,a,_,h=>by cases h
 |p::r,i,a,hn,h=>by
  simp only[gz,mw,bt,pV]at hn;rcases cu.1 h with rfl|h
  ·simp[aF]
  ·have bR:aU p.1 i=ai:=by
    cases hb:aU p.1 i with
    |true=>have:=bB hb;exact(pu hn.1 (by rw[this];exact dE.2 ⟨_,h,rfl⟩)).elim
    |false=>rfl
   simp only[aF,bR,rZ];exact LQ hn.2 h
def abU{ft:List (Nat×DV D)}:∀{n i:Nat} {l:List (DV D)},Mg ft i n=aa l->∀k,k<n->l[k]? =aF ft (i+k)
 |0,i,l,_,k,hk=>by omega
 |n+1,i,l,h,k,hk=>by
  simp only[Mg]at h;split at h
  case h_2=>cases h
  rename_i d r h1 h2;cases h;cases k with
  |zero=>simp[h1]
  |succ k=>have:=abU h2 k (by omega);simp only[List.getElem?_cons_succ,this];cR 1;omega
structure PR(T:bc D)(call:Bool)(xb:Nat)(po:List (Nat×PO))(vq:List (Nat×Nat))(nf0:Nat)(m:M D)(fl:List (DV D)):Prop where
 BE:m.call=call
 Y0:m.xb=xb
 po_:m.po=po
 Tp:∀p∈vq,p∈m.ids
 nf:nf0<=m.nf
 new:∀p∈m.new,nf0<=p.1∧p.1<m.nf
 dv:∀i d,(i,d)∈m.ft->fl[i]? =aa d
 ku:∀i∈m.ku,1000<=i∧∀p,(p,i)∉m.ids
 DA:∀p i,(p,i)∈m.ids->1000<=i
 Tq:∀p i i',(p,i)∈m.ids->(p,i')∈m.ids->i=i'
 ids:∀p p' i,(p,i)∈m.ids->(p',i)∈m.ids->p=p'
 key:∀p i,(p,i)∈m.ids->bN (po.map bT) p=ab
 kr:ek m.kr
def aqv{l:List (Nat×Nat)}{p p' i:Nat}(hn:mw (l.map oT)=ab)(h:(p,i)∈l)(h':(p',i)∈l):p=p':=by
 induction l with
 |nil=>cases h
 |cons q r ih=>
  simp only[gz,mw,bt,pV]at hn;have nJ:=pu hn.1;rcases cu.1 h with e1|h1
  ·rcases cu.1 h' with e2|h2
   ·rw[<-e1]at e2;cases e2;rfl
   ·exact(nJ (dE.2 ⟨_,h2,by rw[<-e1]⟩)).elim
  ·rcases cu.1 h' with e2|h2
   ·exact(nJ (dE.2 ⟨_,h1,by rw[<-e2]⟩)).elim
   ·exact ih hn.2 h1 h2
def Nq(hR:cF T)(bH:OB U γ w ob){call:Bool}{xb:Nat}{cM:List Ht}{x_:List PC}{po:List (Nat×PO)}{vq:List (Nat×Nat)}{nf:Nat}{fm:List (AV D)}{vs:List ah}{r:HH D cM×M D}{lg:List Nat}
  (h:Q.R ob (Bp T call xb cM x_ po vq nf fm) lg r) (hv:np U γ w fm vs):
  (PR T call xb po vq nf r.2 (dH T cM r.1)∧∀p i,(p,i)∈r.2.ids->U i∨∃x,(i,x)∈r.2.new)∧∀{U' γ' tg},Fin T U U' γ γ' w r.2 (dH T cM r.1) tg->Fp γ γ' r.2->
    (∀j7,g9 T (dH T cM r.1) aa id tg x_=aa j7->ji U' γ' w j7 vs)∧
    ∀eQ,jF T (dH T cM r.1) aa id tg po=aa eQ->∀p x,dw eQ p=aa x->bN (po.map bT) p=ab∧U' p∧OR U' γ' w p x:=by
 unfold Bp at h
 obtain⟨l1,l2,m1,_,h1,h2⟩:=Q.fW h
 obtain⟨l3,l4,m2,_,h3,h4⟩:=Q.fW h2
 split at h4
 case isFalse=>exact(h4:False).elim
 rename_i hc
 split at h4
 case h_2=>exact(h4:False).elim
 rename_i l0 yC
 split at h4
 case h_2=>exact(h4:False).elim
 rename_i hh hhh
 obtain⟨_,rfl⟩:=h4
 simp only[bt,M.ok,sD,dU]at hc
 obtain⟨⟨⟨⟨⟨⟨⟨⟨⟨c1,c2⟩,c3⟩,c4⟩,c5⟩,c6⟩,c7⟩,BI⟩,ON⟩,c8,c9⟩:=hc
 have g_:∀x∈x_.flatMap tV,x<2:=λx hx=>dp (c8 x hx)
 have iD:∀x∈po.flatMap (λp=>tU p.2),x<2:=λx hx=>dp (c9 x hx)
 have eJ:dH T cM hh=l0:=abl hR hhh
 have T8:=(SI (T:=T) (U':=U) (γ':=γ) (mf:=m1) (fl:=l0) (tg:=0) hR bH g_ h1 hv).1
 have MQ:=SG (T:=T) (U':=U) (γ':=γ) (mf:=m2) (fl:=l0) (tg:=0) hR bH iD h3 (λi x hx=>by
  rcases T8.nw _ hx with hx|hx
  ·cases hx
  ·exact hx.2.2)
 have hle:=T8.trans MQ.1
 have huq:∀p i i',(p,i)∈m2.ids->(p,i')∈m2.ids->i=i':=λp i i' hp qo=>by have:=LQ c4 hp;rw[LQ c4 qo]at this;cases this;rfl
 refine⟨⟨⟨hle.call,hle.xb,hle.po,λp hp=>hle.ids _ hp,hle.nf,λp hp=>?_,λi d hd=>?_,λi hi=>⟨dp (c7 i hi),λp hp=>?_⟩,λp i hp=>dp (c6 _ hp),huq,λp p' i hp qo=>aqv c5 hp qo,λp i hp=>BI _ hp,λx hx=>dp (ON x hx)⟩,λp i hp=>?_⟩,λ{U' γ' tg} hF hO=>⟨λj7 ha=>?_,λeQ ho p x hx=>?_⟩⟩
 ·rcases hle.nw _ hp with hp|hp
  ·cases hp
  ·exact⟨hp.1,hp.2.1⟩
 ·rw[eJ];have h5:=LQ c1 hd;have h6:i<m2.tl.length:=dp (c2 _ hd);have h7:=abU yC i h6;rw[kG]at h7;rw[h7,h5]
 ·have:i∈m2.ids.map oT:=dE.2 ⟨_,hp,rfl⟩;unfold qK at c3;have:=dU.1 c3 i this;simp only[pV]at this;exact pu this hi
 ·obtain⟨i',h5,h6⟩:=MQ.2.1.2 p (BI _ hp);rw[huq p i i' hp h5];exact h6
 ·rw[eJ]at hF ha;exact(SI (T:=T) (mf:=m2) (fl:=l0) hR bH g_ h1 hv).2 MQ.1 hF _ ha
 ·rw[eJ]at hF ho;refine(SG (T:=T) (mf:=m2) (fl:=l0) hR bH iD h3 (λi x hx=>?_)).2.2 (.refl _) hF hO eQ ho p x hx;rcases T8.nw _ hx with hx|hx
  ·cases hx
  ·exact hx.2.2
end
end
end Rx
end Go.Proofs.YtmngjhagbjgmfaaGreat
namespace Go.Proofs.YtmngjhagbjgmfaaGreat
open Go Go.RowKit Dp
namespace Rx
section
variable {D:Nat->Type} [∀n,ad (D n)]
variable {T:bc D} {U U':Nat->Prop} {γ γ':Gh D} {w w':ay} {ob:List (Nat×Option (AO D))} {l:List Nat}
def vX(U:Nat->Prop)(γ:Gh D)(w:ay)(rs:List (AC D))(v:ah):Prop:=gI U γ w (aaD rs) v
def U0:Nat->Prop:=λi=>i<2000
structure fM(P:Program)(T:bc D)(c:aA D):Prop where
 Vp:∀(args:Array ah) (w:ay),(callFunc c.f args).run P w= .ok (.enter c.f args) w
 ks:sD c.jU c.b8=ab
 key:mw (c.b8.map bT)=ab
 cJ:c.b8.all (λp=>eh 1000 p.1)=ab
 uv:eh c.b8.length 40=ab
 run:∀(h:HH D c.ins) (r:HH D c.outs),c.fn h=aa r->∀as eQ,g9 T (dH T c.ins h) aa id 1100 c.args=aa as->jF T (dH T c.ins h) aa id 1100 c.ob=aa eQ->
  ∀(γ:Gh D) (w:ay) (vs:List ah),ji U0 γ w as vs->OB U0 γ w eQ->Calls P c.f vs.toArray w (mg λv w'=>∃U' γ' rs kl,g9 T (dH T c.outs r) aa id 3000 c.jU=aa rs∧jF T (dH T c.outs r) aa id 3000 c.b8=aa kl∧
   vX U' γ' w' rs v∧(∀p x,dw kl p=aa x->OR U' γ' w' p x)∧(∀p,(p,p)∈stay c->γ'.g p=γ.g p)∧Frame0 γ w γ' w')
structure Re(ok:Nat->Prop)(U' U:Nat->Prop)(γ' γ:Gh D)(w:ay)(fl:List (DV D))(ri:Nat->Option Nat)(rK:List Nat->List Nat)(tg:Nat):Prop where
 id:∀p i,ri p=aa i->U i∧γ.g i=γ'.g p
 K:∀K,(∀x∈K,ok x)->ek (rK K)∧∀b,b<w.heap.size->In γ'.o K b->In γ.o (rK K) b
 nm:∀i d,fl[i]? =aa d->i<112->named U γ (tg+i) d
 uv:fl.length<=112
section
variable {ok:Nat->Prop} {fl:List (DV D)} {ri:Nat->Option Nat} {rK:List Nat->List Nat} {tg t0:Nat}
def Re.mem(hr:Re ok U' U γ' γ w fl ri rK tg){K:List Nat}(hK:∀x∈K,ok x):∀b,In γ'.o K b->b<w.heap.size->In γ.o (rK K) b∧w.heap[b]? =w.heap[b]? :=λb hb aV=>⟨(hr.K K hK).2 b aV hb,rfl⟩
def asq(hr:Re ok U' U γ' γ w fl ri rK tg){p:P0}(hK:match p with| .rp _ _ K=>∀x∈K,ok x|_=>True){a b:A0 D}{v:ah}(ha:wR T fl aa id p=aa a)(hb:wR T fl ri rK p=aa b)(hv:rT U' γ' w a v):rT U γ w b v:=by
 cases p with
 |ptr q off=>
  simp only[wR]at ha hb;split at hb
  case h_2=>cases hb
  rename_i i hi;cases ha;cases hb;obtain⟨hU,c,h1,h2⟩:=hv;obtain⟨k1,k2⟩:=hr.id q i hi;exact⟨k1,c,by rw[k2];exact h1,h2⟩
 |rp i n K=>
  simp only[wR]at ha hb;split at ha
  case h_2=>cases ha
  rename_i x hx;rw[hx]at hb;cases ha;cases hb;obtain⟨pa,h1,h2,h3⟩:=hv;exact⟨pa,h1,h2.mono (hr.mem hK),(hr.K K hK).1⟩
def acr(hr:Re ok U' U γ' γ w fl ri rK tg):∀{ps:List P0} {as bs:List (A0 D)} {vs:List ah},(∀p∈ps,match p with| .rp _ _ K=>∀x∈K,ok x|_=>True)->yq T fl aa id ps=aa as->yq T fl ri rK ps=aa bs->nr U' γ' w as vs->nr U γ w bs vs
 |[],as,bs,vs,_,ha,hb,hv=>by
  cases ha;cases hb;cases vs with
  |nil=>trivial
  |cons _ _=>exact hv.elim
 |p::ps,as,bs,vs,hK,ha,hb,hv=>by
  simp only[yq]at ha hb;split at ha
  case h_2=>cases ha
  rename_i a1 a2 g1 g2;split at hb
  case h_2=>cases hb
  rename_i b1 b2 g3 g4;cases ha;cases hb;cases vs with
  |nil=>exact hv.elim
  |cons v vs=>exact⟨asq hr (hK p (by simp)) g1 g3 hv.1,acr hr (λp hp=>hK p (by simp[hp])) g2 g4 hv.2⟩
def acq(hr:Re ok U' U γ' γ w fl ri rK tg){p:P1}(hK:∀x∈yn p,ok x){a b:A1 D}{v:ah}(ha:iY T fl aa id t0 p=aa a)(hb:iY T fl ri rK tg p=aa b)(hv:fT U' γ' w a v):fT U γ w b v:=by
 cases p with
 |h i K=>
  simp only[iY]at ha hb;split at ha
  case h_2=>cases ha
  rename_i lf x hx;rw[hx]at hb;cases ha;cases hb;obtain⟨h1,h2,h3⟩:=hv;have hn:=hr.nm i _ hx (by have:=(gK.1 hx).1;have:=hr.uv;omega);refine dD.Zx ?_ (hr.K K hK).1 hn;cases lf with
  |sl n=>exact dD.mono (d:=⟨.sl n,x⟩) (hr.mem hK) h1
  |int k=>exact h1
  |bool=>exact h1
  |str=>exact h1
 |ptr q off=>
  simp only[iY]at ha hb;split at hb
  case h_2=>cases hb
  rename_i i hi;cases ha;cases hb;obtain⟨hU,c,h1,h2⟩:=hv;obtain⟨k1,k2⟩:=hr.id q i hi;exact⟨k1,c,by rw[k2];exact h1,h2⟩
 |own q=>
  simp only[iY]at ha hb;split at hb
  case h_2=>cases hb
  rename_i i hi;cases ha;cases hb;obtain⟨hU,h1,h2⟩:=hv;obtain⟨k1,k2⟩:=hr.id q i hi;exact⟨k1,by rw[k2];exact h1,h2⟩
 |rp i n K=>
  simp only[iY]at ha hb;split at ha
  case h_2=>cases ha
  rename_i x hx;rw[hx]at hb;cases ha;cases hb;obtain⟨pa,h1,h2,h3⟩:=hv;exact⟨pa,h1,h2.mono (hr.mem hK),(hr.K K hK).1⟩
 |fn f ps=>
  simp only[iY]at ha hb;split at ha
  case h_2=>cases ha
  rename_i a2 g1;split at hb
  case h_2=>cases hb
  rename_i b2 g2;cases ha;cases hb;obtain⟨cs,h1,h2⟩:=hv;refine⟨cs,h1,acr hr (λp hp=>?_) g1 g2 h2⟩;split
  ·rename_i i n K;intro x hx;refine hK x ?_;simp only[yn,Fx];exact⟨_,hp,hx⟩
  ·trivial
 |hb i j K=>
  simp only[iY]at ha hb;split at ha
  case h_2=>cases ha
  rename_i n xs b0 hx hy;rw[hx,hy]at hb;cases ha;cases hb;obtain⟨⟨h1,h2,h3⟩,h4⟩:=hv;have hn:=hr.nm i _ hx (by have:=(gK.1 hx).1;have:=hr.uv;omega);exact⟨⟨dD.mono (d:=⟨.sl n,xs⟩) (hr.mem hK) h1,hn,(hr.K K hK).1⟩,h4⟩
 |bF=>cases ha;cases hb;exact hv
 |sx=>cases ha;cases hb;exact hv
 |any=>cases hb;trivial
 |wP=>cases ha;cases hb;exact hv
def Tj(hr:Re ok U' U γ' γ w fl ri rK tg):∀{ps:List P1} {as bs:List (A1 D)} {vs:List ah},(∀p∈ps,∀x∈yn p,ok x)->wQ T fl aa id t0 ps=aa as->wQ T fl ri rK tg ps=aa bs->db U' γ' w as vs->db U γ w bs vs
 |[],as,bs,vs,_,ha,hb,hv=>by
  cases ha;cases hb;cases vs with
  |nil=>trivial
  |cons _ _=>exact hv.elim
 |p::ps,as,bs,vs,hK,ha,hb,hv=>by
  simp only[wQ]at ha hb;split at ha
  case h_2=>cases ha
  rename_i a1 a2 g1 g2;split at hb
  case h_2=>cases hb
  rename_i b1 b2 g3 g4;cases ha;cases hb;cases vs with
  |nil=>exact hv.elim
  |cons v vs=>exact⟨acq hr (hK p (by simp)) g1 g3 hv.1,Tj hr (λp hp=>hK p (by simp[hp])) g2 g4 hv.2⟩
def aso(hr:Re ok U' U γ' γ w fl ri rK tg){p:PC}(hK:∀x∈tV p,ok x){a b:AC D}{v:ah}(ha:vo T fl aa id t0 p=aa a)(hb:vo T fl ri rK tg p=aa b)(hv:nq U' γ' w a v):nq U γ w b v:=by
 cases p with
 |one p=>
  simp only[vo]at ha hb;split at ha
  case h_2=>cases ha
  rename_i a1 g1;split at hb
  case h_2=>cases hb
  rename_i b1 g2;cases ha;cases hb;exact acq hr hK g1 g2 hv
 |agg ps=>
  simp only[vo]at ha hb;split at ha
  case h_2=>cases ha
  rename_i a1 g1;split at hb
  case h_2=>cases hb
  rename_i b1 g2;cases ha;cases hb;obtain⟨us,h1,h2⟩:=hv;exact⟨us,h1,Tj hr (λp hp x hx=>hK x (by simp only[tV,Fx];exact⟨p,hp,hx⟩)) g1 g2 h2⟩
def Ti(hr:Re ok U' U γ' γ w fl ri rK tg):∀{ps:List PC} {as bs:List (AC D)} {vs:List ah},(∀x∈ps.flatMap tV,ok x)->g9 T fl aa id t0 ps=aa as->g9 T fl ri rK tg ps=aa bs->ji U' γ' w as vs->ji U γ w bs vs
 |[],as,bs,vs,_,ha,hb,hv=>by
  cases ha;cases hb;cases vs with
  |nil=>trivial
  |cons _ _=>exact hv.elim
 |p::ps,as,bs,vs,hK,ha,hb,hv=>by
  simp only[g9]at ha hb;split at ha
  case h_2=>cases ha
  rename_i a1 a2 g1 g2;split at hb
  case h_2=>cases hb
  rename_i b1 b2 g3 g4;cases ha;cases hb;cases vs with
  |nil=>exact hv.elim
  |cons v vs=>exact⟨aso hr (λx hx=>hK x (by simp[hx])) g1 g3 hv.1,Ti hr (λx hx=>hK x (by rw[List.flatMap_cons];exact bA.2 (.inr hx))) g2 g4 hv.2⟩
def Dz{fl:List (DV D)}{ri:Nat->Option Nat}{rK:List Nat->List Nat}{tg:Nat}:∀{ps:List PC} {as:List (AC D)},g9 T fl ri rK tg ps=aa as->as.length=ps.length
 |[],as,h=>by cases h;rfl
 |p::ps,as,h=>by
  simp only[g9]at h;split at h
  case h_2=>cases h
  rename_i a1 a2 g1 g2;cases h;simp[Dz g2]
def ao1(hr:Re ok U' U γ' γ w fl ri rK tg){ps:List PC}(hK:∀x∈ps.flatMap tV,ok x){as bs:List (AC D)}{v:ah}(ha:g9 T fl aa id t0 ps=aa as)(hb:g9 T fl ri rK tg ps=aa bs)(hv:vX U' γ' w as v):vX U γ w bs v:=by
 have hl:as.length=bs.length:=(Dz ha).trans (Dz hb).symm;unfold vX at hv⊢;match as,bs,hl with
 |[],[],_=>
  obtain⟨us,h1,h2⟩:=hv;cases us with
  |nil=>exact⟨[],h1,trivial⟩
  |cons _ _=>exact h2.elim
 |[a],[b],_=>have:=Ti (vs:=[v]) hr hK ha hb ⟨hv,trivial⟩;exact this.1
 |a::a'::as,b::b'::bs,_=>obtain⟨us,h1,h2⟩:=hv;exact⟨us,h1,Ti hr hK ha hb h2⟩
def asn(hr:Re ok U' U γ' γ w fl ri rK tg){p:PO}(hK:∀x∈tU p,ok x){a b:AO D}{q i:Nat}(hg:γ.g i=γ'.g q)(hq:∀b,b<w.heap.size->γ'.o b=q->γ.o b=i)(ha:qk T fl aa id t0 p=aa a)(hb:qk T fl ri rK tg p=aa b)(hv:OR U' γ' w q a):OR U γ w i b:=by
 cases p with
 |box ps=>
  simp only[qk]at ha hb;split at ha
  case h_2=>cases ha
  rename_i a1 g1;split at ha
  case isFalse=>cases ha
  split at hb
  case h_2=>cases hb
  rename_i b1 g2;split at hb
  case isFalse=>cases hb
  rename_i bV;cases ha;cases hb;obtain⟨c,us,t,h1,h2,h3,h4,h5⟩:=hv;exact⟨c,us,t,by rw[hg];exact h1,hq c (jB.1 h3).1 h2,h3,Tj hr (λp hp x hx=>hK x (by simp only[tU,Fx];exact⟨p,hp,hx⟩)) g1 g2 h4,bV⟩
 |sl n t j K=>
  simp only[qk]at ha hb;split at ha
  case h_2=>cases ha
  rename_i n' xs hx;rw[hx]at hb;dsimp only at hb;split at ha
  case isFalse=>cases ha
  rename_i hn;rw[aH hn]at hb;cases ha;cases hb;obtain⟨h1,h2,h3⟩:=hv;have hn:=hr.nm j _ hx (by have:=(gK.1 hx).1;have:=hr.uv;omega);refine⟨?_,(hr.K K hK).1,hn⟩;rw[hg];rcases h1 with h1|⟨g,f,cap,aW,aK,e1,e2,e3,e4,e5,e6,e7,e8⟩
  ·exact .inl h1
  ·exact .inr ⟨g,f,cap,aW,aK,e1,hq g (jB.1 e3).1 e2,e3,e4,e5,e6,e7.mono λ_ _=>ad.mono (hr.mem hK),e8⟩
 |cZ n t tc q' j=>
  simp only[qk]at ha hb;split at ha
  case h_2=>cases ha
  rename_i n' xs hx;rw[hx]at hb;dsimp only at hb;split at ha
  case isFalse=>cases ha
  rename_i hn;rw[aH hn]at hb;cases ha;cases hb;obtain⟨h1,h2,h3⟩:=hv;have hn:=hr.nm j _ hx (by have:=(gK.1 hx).1;have:=hr.uv;omega);obtain⟨m0,m1⟩:=Ds (v:=γ'.g q) (o:=γ'.o) (o':=γ.o) (i:=q) (i':=i) (w:=w) (w':=w) λb hb ho=>⟨hq b hb ho,rfl⟩;exact⟨by rw[hg];exact h1.mono m0 m1,hn,.inl rfl⟩
 |mp n j=>
  simp only[qk]at ha hb;split at ha
  case h_2=>cases ha
  rename_i n' xs hx;rw[hx]at hb;dsimp only at hb;split at ha
  case isFalse=>cases ha
  rename_i hn;rw[aH hn]at hb;cases ha;cases hb;show rU γ.o i w (γ.g i) xs;rw[hg];exact rU.mono hv λb hb ho=>⟨hq b hb ho,rfl⟩
def acp{fl:List (DV D)}{ri:Nat->Option Nat}{rK:List Nat->List Nat}{tg:Nat}:∀{po:List (Nat×PO)} {eQ:List (Nat×Option (AO D))} {p i:Nat} {q:PO},jF T fl ri rK tg po=aa eQ->(p,q)∈po->ri p=aa i->i∈eQ.map bT
 |[],eQ,p,i,q,h,hm,_=>by cases hm
 |(p',q')::po,eQ,p,i,q,h,hm,hi=>by
  simp only[jF]at h;split at h
  case h_2=>cases h
  rename_i i' a b g0 g1 g2;cases h;rcases cu.1 hm with e1|hm
  ·cases e1;rw[hi]at g0;cases g0;simp
  ·have:=acp g2 hm hi;rw[gz];exact eY _ this
def Tg{fl:List (DV D)}{ri:Nat->Option Nat}{rK:List Nat->List Nat}{tg:Nat}:∀{po:List (Nat×PO)} {eQ:List (Nat×Option (AO D))} {i:Nat} {x:Option (AO D)},jF T fl ri rK tg po=aa eQ->aF eQ i=aa x->∃p q y,(p,q)∈po∧ri p=aa i∧qk T fl ri rK tg q=aa y∧x=aa y
 |[],eQ,i,x,h,hx=>by cases h;cases hx
 |(p,q)::po,eQ,i,x,h,hx=>by
  simp only[jF]at h;split at h
  case h_2=>cases h
  rename_i i' a b g0 g1 g2;cases h;unfold aF at hx;cases hb:aU i' i with
  |true=>have:=bB hb;subst this;simp only[hb,v_,fE]at hx;subst hx;exact⟨p,q,a,by simp,g0,g1,rfl⟩
  |false=>simp only[hb,rZ]at hx;obtain⟨p',q',y,h1,h2,h3,h4⟩:=Tg g2 hx;exact⟨p',q',y,by simp[h1],h2,h3,h4⟩
def aco{fl:List (DV D)}{tg:Nat}:∀{po:List (Nat×PO)} {eQ:List (Nat×Option (AO D))} {p:Nat} {q:PO},jF T fl aa id tg po=aa eQ->mw (po.map bT)=ab->(p,q)∈po->∃y,qk T fl aa id tg q=aa y∧dw eQ p=aa y
 |[],eQ,p,q,h,_,hm=>by cases hm
 |(p',q')::po,eQ,p,q,h,hn,hm=>by
  simp only[jF]at h;split at h
  case h_2=>cases h
  rename_i i' a b g0 g1 g2;cases g0;cases h;simp only[gz,mw,bt,pV]at hn;rcases cu.1 hm with e1|hm
  ·cases e1;exact⟨a,g1,by simp[dw,aF]⟩
  ·obtain⟨y,h1,h2⟩:=aco g2 hn.2 hm;refine⟨y,h1,?_⟩;have bR:aU p' p=ai:=by
    cases hb:aU p' p with
    |true=>have:=bB hb;exact(pu hn.1 (by rw[this];exact dE.2 ⟨_,hm,rfl⟩)).elim
    |false=>rfl
   unfold dw at h2⊢;simpa[aF,bR]using h2
end
def swap(l:List (Nat×Nat)):List (Nat×Nat):=l.map λp=>(p.2,p.1)
def wA{l:List (Nat×Nat)}{p i:Nat}:(i,p)∈swap l↔(p,i)∈l:=by
 simp only[swap,dE,wa,Prod.exists];constructor
 ·rintro⟨a,b,h,rfl,rfl⟩;exact h
 ·intro h;exact⟨p,i,h,rfl,rfl⟩
def Mf{l:List (Nat×Nat)}(hu:∀p p' i,(p,i)∈l->(p',i)∈l->p=p'){p i:Nat}(h:(p,i)∈l):aF (swap l) i=aa p:=by
 cases hl:aF (swap l) i with
 |none=>exact(yi hl p (wA.2 h)).elim
 |some p'=>have:=wA.1 (dO hl);rw[hu p p' i h this]
def abQ{l:List (Nat×Nat)}(hu:∀p i i',(p,i)∈l->(p,i')∈l->i=i'){p i:Nat}(h:(p,i)∈l):aF l p=aa i:=by
 cases hl:aF l p with
 |none=>exact(yi hl i h).elim
 |some i'=>rw[hu p i i' h (dO hl)]
def vj{known:List (Nat×Nat)}:∀{k:Nat} {po:List (Nat×PO)} {p i:Nat},(p,i)∈ir known k po->bN (po.map bT) p=ab∧(aF known p=aa i∨(aF known p=ak∧k<=i∧i<k+po.length))
 |k,[],p,i,h=>by cases h
 |k,(q,x)::r,p,i,h=>by
  simp only[ir]at h;split at h
  ·rename_i i' hi;rcases cu.1 h with e1|h
   ·cases e1;exact⟨by simp[bN],.inl hi⟩
   ·obtain⟨h1,h2⟩:=vj h;refine⟨by simp only[gz,bN];cases aU q p<;>simp[h1],?_⟩;rcases h2 with h2|⟨h2,h3,h4⟩
    ·exact .inl h2
    ·exact .inr ⟨h2,h3,by simp;omega⟩
  ·rename_i hi;rcases cu.1 h with e1|h
   ·cases e1;exact⟨by simp[bN],.inr ⟨hi,bx _,by simp⟩⟩
   ·obtain⟨h1,h2⟩:=vj h;refine⟨by simp only[gz,bN];cases aU q p<;>simp[h1],?_⟩;rcases h2 with h2|⟨h2,h3,h4⟩
    ·exact .inl h2
    ·exact .inr ⟨h2,by omega,by simp;omega⟩
def abp{known:List (Nat×Nat)}:∀{k:Nat} {po:List (Nat×PO)},(ir known k po).map bT=po.map bT
 |k,[]=>rfl
 |k,(q,x)::r=>by simp only[ir];split<;>simp[abp]
def Sx{known:List (Nat×Nat)}{B:Nat}(hk:∀p p' i,(p,i)∈known->(p',i)∈known->p=p'):∀{k:Nat} {po:List (Nat×PO)} {p p' i:Nat},k+po.length<=B->(∀q j,(q,j)∈known->j<k∨B<=j)->(p,i)∈ir known k po->(p',i)∈ir known k po->p=p'
 |k,[],p,p',i,_,_,h,_=>by cases h
 |k,(q,x)::r,p,p',i,hB,aV,h,h'=>by
  simp only[List.length_cons]at hB;simp only[ir]at h h';split at h
  ·rename_i i' hi;rw[hi]at h';rcases cu.1 h with e1|g1<;>rcases cu.1 h' with e2|g2
   ·cases e1;cases e2;rfl
   ·cases e1;rcases(vj g2).2 with h2|⟨_,h2,h3⟩
    ·exact hk _ _ _ (dO hi) (dO h2)
    ·have:=aV _ _ (dO hi);omega
   ·cases e2;rcases(vj g1).2 with h2|⟨_,h2,h3⟩
    ·exact hk _ _ _ (dO h2) (dO hi)
    ·have:=aV _ _ (dO hi);omega
   ·exact Sx hk (by omega) aV g1 g2
  ·rename_i hi;rw[hi]at h';have AY:∀q j,(q,j)∈known->j<k+1∨B<=j:=λq j hq=>(aV q j hq).imp (λh=>by omega) id;rcases cu.1 h with e1|g1<;>rcases cu.1 h' with e2|g2
   ·cases e1;cases e2;rfl
   ·cases e1;rcases(vj g2).2 with h2|⟨_,h2,_⟩
    ·have:=aV _ _ (dO h2);omega
    ·omega
   ·cases e2;rcases(vj g1).2 with h2|⟨_,h2,_⟩
    ·have:=aV _ _ (dO h2);omega
    ·omega
   ·exact Sx hk (by omega) AY g1 g2
def jp(m:M D)(x:Nat):Nat:=match aF (swap m.ids) x with
 |some p=>p
 |none=>if bN m.kr x||bN m.ku x then 0 else 3
def qE(γ:Gh D)(m:M D):Nat->ah:=λp=>match aF m.ids p with
 |some i=>match aF m.new i with
  |some _=> .slice ak 0 0
  |none=>γ.g i
 |none=>γ.g p
def VX{ob:List (Nat×Option (AO D))}:∀{Φ:List (aA D)} {f:Nat} {as:List (AV D)} {l:List Nat} {c:aA D},Q.R ob (Iu Φ f as) l c->c∈Φ∧c.f=f
 |[],f,as,l,c,h=>(h:False).elim
 |c0::r,f,as,l,c,h=>by
  simp only[Iu]at h;split at h
  ·rename_i hb;simp only[bt]at hb;obtain⟨l1,l2,x,_,_,h2⟩:=Q.fW h;split at h2
   ·obtain⟨_,rfl⟩:=h2;exact⟨by simp,bB hb.1⟩
   ·obtain⟨h3,h4⟩:=VX h2;exact⟨by simp[h3],h4⟩
  ·obtain⟨h1,h2⟩:=VX h;exact⟨by simp[h1],h2⟩
def aoZ{call:Bool}{xb:Nat}{po:List (Nat×PO)}{vq:List (Nat×Nat)}{nf:Nat}{m:M D}{fl:List (DV D)}(hex:PR T call xb po vq nf m fl){p i:Nat}(h:(p,i)∈m.ids):jp m i=p:=by unfold jp;rw[Mf hex.ids h]
def C4(m:M D)(x:Nat):(∃p,(p,x)∈m.ids∧jp m x=p)∨((∀p,(p,x)∉m.ids)∧((jp m x=0∧(x∈m.kr∨x∈m.ku))∨(jp m x=3∧x∉m.kr∧x∉m.ku))):=by
 unfold jp;cases hl:aF (swap m.ids) x with
 |some p=>exact .inl ⟨p,wA.1 (dO hl),rfl⟩
 |none=>
  refine .inr ⟨λp hp=>yi hl p (wA.2 hp),?_⟩;by_cases h1:bN m.kr x=ab
  ·exact .inl ⟨by simp[h1],.inl (ew.1 h1)⟩
  ·by_cases h2:bN m.ku x=ab
   ·exact .inl ⟨by simp[h2],.inr (ew.1 h2)⟩
   ·exact .inr ⟨by simp[h1,h2],λh=>h1 (ew.2 h),λh=>h2 (ew.2 h)⟩
def H8{call:Bool}{xb:Nat}{po:List (Nat×PO)}{vq:List (Nat×Nat)}{nf:Nat}{m:M D}{fl:List (DV D)}(hex:PR T call xb po vq nf m fl){p i:Nat}(h:(p,i)∈m.ids):
  ((∃x,(i,x)∈m.new)->qE γ m p= .slice ak 0 0)∧((∀x,(i,x)∉m.new)->qE γ m p=γ.g i):=by
 unfold qE
 rw[abQ hex.Tq h]
 constructor
 ·rintro⟨x,hx⟩;cases hl:aF m.new i with
  |none=>exact(yi hl x hx).elim
  |some y=>dsimp only;rw[hl]
 ·intro hn;cases hl:aF m.new i with
  |none=>dsimp only;rw[hl]
  |some y=>exact(hn y (dO hl)).elim
def sy{α:Type}{l:List (Nat×α)}{p:Nat}(h:bN (l.map bT) p=ab):∃q,(p,q)∈l:=by have:=ew.1 h;simp only[dE]at this;obtain⟨⟨a,b⟩,h1,rfl⟩:=this;exact⟨b,h1⟩
def aeO{nf:Nat}{po:List (Nat×PO)}{m:M D}{fl:List (DV D)}(bH:OB U γ w ob)(hex:PR T ab 0 po [] nf m fl)(MV:∀i,nf<=i->i<m.nf->¬U i)(oE:po.all (λp=>eh 1000 p.1&&Nat.blt p.1 1100)=ab)(eJ:fl.length<=900):
  Fin T U U0 γ ⟨λb=>jp m (γ.o b),qE γ m,gh γ.v 1100 fl⟩ w m fl 1100∧Fp γ ⟨λb=>jp m (γ.o b),qE γ m,gh γ.v 1100 fl⟩ m:=by
 have hp:∀p i,(p,i)∈m.ids->1000<=p∧p<1100:=λp i h=>by obtain⟨q,hq⟩:=sy (hex.key p i h);have:=dU.1 oE _ hq;simp only[bt]at this;exact⟨dp this.1,dp this.2⟩
 have Hv:∀x∈m.kr,x<2->jp m x=0:=λx hx h2=>by
  rcases C4 m x with⟨p,h1,_⟩|⟨_,h1⟩
  ·have:=hex.DA p x h1;omega
  ·rcases h1 with h1|h1
   ·exact h1.1
   ·exact(h1.2.1 hx).elim
 have w8:∀x∈m.ku,jp m x=0:=λx hx=>by
  rcases C4 m x with⟨p,h1,_⟩|⟨_,h1⟩
  ·exact((hex.ku x hx).2 p h1).elim
  ·rcases h1 with h1|h1
   ·exact h1.1
   ·exact(h1.2.2 hx).elim
 refine⟨⟨hex.dv,λp i h=>⟨?_,H8 hex h⟩,λi x h=>?_,λh=>?_,λK Kp eD hK w9 b hb=>?_,λj K Kp hj eD hK w9 b hb=>?_,λi d hd=>?_⟩,⟨λp i h b hb=>?_⟩⟩
 ·have:=hp p i h;show p<2000;omega
 ·have:=hex.new _ h;exact MV i this.1 this.2
 ·rw[hex.BE]at h;cases h
 ·unfold M.may at eD;rw[hex.BE]at eD;simp only[aI,sd]at eD;have iC:γ.o b∈K:=hb;have h1:=Hv _ (w9 _ iC) (hK _ iC);show jp m (γ.o b)∈Kp;rw[h1];rcases eD with h2|h2
  ·cases K with
   |nil=>cases iC
   |cons _ _=>cases h2
  ·exact ew.1 h2
 ·unfold M.may at eD;rw[hex.BE]at eD;simp only[aI,sd,List.isEmpty_cons,Bool.false_eq_true,false_or]at eD;have h1:jp m (γ.o b)=0:=by
   have iC:γ.o b∈j::K:=hb;rcases cu.1 iC with h2|h2
   ·rw[h2];exact w8 j hj
   ·exact Hv _ (w9 _ h2) (hK _ h2)
  show jp m (γ.o b)∈Kp;rw[h1];exact ew.1 eD
 ·refine .inr ⟨?_,GS hd⟩;have:=(gK.1 hd).1;show 1100+i<2000;omega
 ·show jp m (γ.o b)=p;rw[hb];exact aoZ hex h
def BL(ids:List (Nat×Nat))(x:Nat):Nat:=match aF ids x with
 |some i=>i
 |none=>if x=1 then 1 else 2
def afh{P:Program}{ar:Nat}{sl:List (Nat×AV D)}{L:List (Nat×ah)}{e:cY D}(hR:cF T){Φ:List (aA D)}(cL:∀c∈Φ,fM P T c)(hx:Cx U ar γ w sl L ob){f:Nat}{args:List (AV D)}{vs:List ah}(hv:np U γ w args vs)(h:Q.R ob (Oe T Φ ar f args) l e):
  (∀(a:Array ah) (w:ay),(callFunc f a).run P w= .ok (.enter f a) w)∧Calls P f vs.toArray w (mg λv w'=>∃γ',dR U ar γ w ob e γ' v w'):=by
 unfold Oe at h
 have hq:=Q.fW h
 clear h
 obtain⟨l0,l9,c,_,hc,h⟩:=hq
 obtain⟨xe,rfl⟩:=VX hc
 have qA:=cL c xe
 refine⟨qA.Vp,?_⟩
 obtain⟨l1,l2,x,_,h1,h2⟩:=Q.fW h
 split at h2
 case isTrue=>exact(h2:False).elim
 rename_i sN
 simp only[sd,bt,not_or,not_and,Bool.not_eq_true,Bool.not_eq_false']at sN
 obtain⟨⟨au1,DJ⟩,jW⟩:=sN
 have DJ:x.2.nf<=ar+8:=dp (by simpa using DJ)
 obtain⟨y,hy,h3⟩:=h2
 dsimp only at h3
 split at h3
 case h_2=>exact(h3:False).elim
 rename_i rs1 LO atf adg
 split at h3
 case isFalse=>exact(h3:False).elim
 rename_i yF
 have yF:=dp yF
 obtain⟨_,rfl⟩:=h3
 obtain⟨⟨hex,DR⟩,vF⟩:=Nq hR hx.ob h1 hv
 obtain⟨hh,m⟩:=x
 dsimp only at*
 unfold yO at jW
 dsimp only at jW
 split at jW
 case isFalse=>cases jW
 rename_i yI
 simp only[bt]at yI
 have eJ:=dp yI.1
 have oE:=yI.2
 split at jW
 case h_2=>cases jW
 rename_i as0 St adY adh
 have MV:∀i,ar<=i->i<m.nf->¬U i:=λi h1 h2=>hx.fresh i h1 (by omega)
 obtain⟨Bg,Bf⟩:=aeO (γ:=γ) (w:=w) hx.ob hex MV oE eJ
 obtain⟨g1,g2⟩:=vF Bg Bf
 have hp:∀p i,(p,i)∈m.ids->1000<=p∧p<1100:=λp i h=>by obtain⟨q,hq⟩:=sy (hex.key p i h);have:=dU.1 oE _ hq;simp only[bt]at this;exact⟨dp this.1,dp this.2⟩
 have atG:OB U0 ⟨λb=>jp m (γ.o b),qE γ m,gh γ.v 1100 (dH T c.ins hh)⟩ w St:=by
  refine⟨λi x hx=>?_,λb hb=>?_,λx hx=>?_⟩
  ·obtain⟨k1,k2,k3⟩:=g2 St adh i x hx;obtain⟨q,hq⟩:=sy k1;have:=dU.1 oE _ hq;simp only[bt]at this;exact⟨dp this.1,k2,k3⟩
  ·show jp m (γ.o b)<2000;rcases C4 m (γ.o b)with⟨p,h1,h2⟩|⟨_,h1⟩
   ·have:=hp p _ h1;omega
   ·rcases h1 with h1|h1<;>omega
  ·show x<2000;omega
 refine Calls.mono (qA.run hh y hy as0 St adY adh _ w vs (g1 as0 adY) atG) ?_
 rintro e' w' ⟨v,rfl,U',γ',rs,kl,kU,atE,sE,TY,as6,eE⟩
 have A5:=qA.key
 have adA:∀p i,aF (ir m.ids (ar+8) c.b8) p=aa i->(p,i)∈ir m.ids (ar+8) c.b8:=λp i h=>dO h
 have at3:∀q j,(q,j)∈m.ids->j<ar+8∨ar+128<=j:=λq j hq=>by
  rcases DR q j hq with h|⟨x,h⟩
  ·rcases hx.gY h with h|h
   ·exact .inl (by omega)
   ·exact .inr h
  ·have:=hex.new _ h;exact .inl (by simp only at this;omega)
 have aDk:c.b8.length<=40:=dp qA.uv
 have Ug:∀p p' i,(p,i)∈ir m.ids (ar+8) c.b8->(p',i)∈ir m.ids (ar+8) c.b8->p=p':=λp p' i h h'=>Sx (B:=ar+128) hex.ids (by omega) at3 h h'
 have qD:∀p i,(p,i)∈ir m.ids (ar+8) c.b8->1000<=p∧1000<=i:=λp i h=>by
  obtain⟨k1,k2⟩:=vj h;obtain⟨q,hq⟩:=sy k1;refine⟨dp (dU.1 qA.cJ _ hq),?_⟩;rcases k2 with k2|⟨_,k2,_⟩
  ·exact hex.DA _ _ (dO k2)
  ·have:=hx.cJ;omega
 have auQ:∀b,b<w.heap.size->(∃p,(p,γ.o b)∈m.ids)∨((jp m (γ.o b)=0∨jp m (γ.o b)=3)∧∀p,(p,γ.o b)∉m.ids):=λb hb=>by
  rcases C4 m (γ.o b)with⟨p,h1,_⟩|⟨h0,h1⟩
  ·exact .inl ⟨p,h1⟩
  ·exact .inr ⟨h1.imp (λh=>h.1) (λh=>h.1),h0⟩
 obtain⟨iI,vw⟩:∃iI:cB,iI=λb=>if b<w.heap.size∧(jp m (γ.o b)=0∨jp m (γ.o b)=3)then γ.o b else BL (ir m.ids (ar+8) c.b8) (γ'.o b):=⟨_,rfl⟩
 obtain⟨Bk,adG⟩:∃Bk:Nat->ah,Bk=λi=>match aF (swap (ir m.ids (ar+8) c.b8)) i with
  |some p=>γ'.g p
  |none=>γ.g i:=⟨_,rfl⟩
 have adr:∀b,b<w.heap.size->(∀p,(p,γ.o b)∉m.ids)->iI b=γ.o b∧w'.heap[b]? =w.heap[b]? :=λb hb hn=>by
  rcases auQ b hb with⟨p,h1⟩|⟨h1,_⟩
  ·exact(hn p h1).elim
  ·rw[vw];exact⟨aH ⟨hb,h1⟩,(eE.ro b hb h1).2⟩
 have Hv:∀b,b<w.heap.size->γ.o b<1000->iI b=γ.o b∧w'.heap[b]? =w.heap[b]? :=λb hb aV=>adr b hb λp hp=>by have:=hex.DA p _ hp;omega
 have xg:∀x,(∃i,(x,i)∈ir m.ids (ar+8) c.b8∧BL (ir m.ids (ar+8) c.b8) x=i)∨BL (ir m.ids (ar+8) c.b8) x=1∧x=1∨BL (ir m.ids (ar+8) c.b8) x=2:=λx=>by
  unfold BL;cases hl:aF (ir m.ids (ar+8) c.b8) x with
  |some i=>exact .inl ⟨i,dO hl,rfl⟩
  |none=>
   by_cases h1:x=1
   ·exact .inr (.inl ⟨by simp[h1],h1⟩)
   ·exact .inr (.inr (by simp[h1]))
 have hgU:∀i,U i->Bk i=γ.g i:=λi hi=>by
  rw[adG];dsimp only;cases hl:aF (swap (ir m.ids (ar+8) c.b8)) i with
  |none=>rfl
  |some p=>
   have hm:=wA.1 (dO hl);obtain⟨k1,k2⟩:=vj hm;rcases k2 with k2|⟨_,k2,k3⟩
   ·have iw:=dO k2;have bV:(p,p)∈stay c:=by obtain⟨q,hq⟩:=sy k1;unfold stay;simp only[dE,lh];exact⟨(p,q),⟨hq,hex.key p i iw⟩,rfl⟩
    show γ'.g p=γ.g i;rw[as6 p bV];exact(H8 hex iw).2 λx hxn=>MV i (hex.new _ hxn).1 (hex.new _ hxn).2 hi
   ·exact(hx.fresh i (by omega) (by omega) hi).elim
 have aup:Frame γ w ⟨iI,Bk,gh γ.v (ar+16) (dH T c.outs y)⟩ w':=by
  refine⟨⟨eE.os,eE.tape,eE.output,eE.size,λb hb hc=>Hv b hb (by omega),λb hb hc=>?_⟩,λi hi=>hgU i (hx.ob.ro i hi)⟩;simp only at hc⊢;by_cases h1:b<w.heap.size∧(jp m (γ.o b)=0∨jp m (γ.o b)=3)
  ·refine⟨h1.1,?_⟩;rw[vw];exact(aH h1).symm
  ·exfalso;rw[vw]at hc;simp only[aL h1]at hc;rcases xg (γ'.o b)with⟨i,h2,h3⟩|⟨h2,_⟩|h2
   ·have:=(qD _ _ h2).2;omega
   ·omega
   ·omega
 have fA:jj U (jw U ar) γ w ⟨iI,Bk,gh γ.v (ar+16) (dH T c.outs y)⟩ w':=
  ⟨λi h=> .inl h,hgU,λi hi=>sw hx yF hi,λb hb hc=>Hv b hb (by omega)⟩
 have D3:∀p i,(p,i)∈ir m.ids (ar+8) c.b8->jw U ar i:=λp i h=>by
  rcases(vj h).2 with k2|⟨_,k2,k3⟩
  ·rcases DR p i (dO k2)with h|⟨x,h⟩
   ·exact .inl h
   ·have:=hex.new _ h;simp only at this;exact .inr ⟨this.1,by omega⟩
  ·exact .inr ⟨by omega,by omega⟩
 have AL:Re (λx=>x<2∧(x=0->c.EQ=ab)) U' (jw U ar) γ' ⟨iI,Bk,gh γ.v (ar+16) (dH T c.outs y)⟩ w' (dH T c.outs y) (aF (ir m.ids (ar+8) c.b8)) (λK=>(if bN K 0 then m.kr else [])++(if bN K 1 then [1]else [])) (ar+16):=by
  refine⟨λp i wY=>⟨D3 p i (dO wY),?_⟩,λK hK=>⟨?_,λb hb yJ=>?_⟩,λi d hd hi=>mx (γ:=γ) rfl hi hd,yF⟩
  ·show Bk i=γ'.g p;rw[adG];dsimp only;rw[Mf Ug (dO wY)]
  ·intro x hx;rcases bA.1 hx with hx|hx
   ·split at hx
    ·exact hex.kr x hx
    ·cases hx
   ·split at hx
    ·simp only[List.mem_singleton]at hx;omega
    ·cases hx
  ·have yJ:γ'.o b∈K:=yJ;show iI b∈_;have h01:=(hK _ yJ).1;have hz:γ'.o b=0∨γ'.o b=1:=by omega
   rcases hz with hz|hz
   ·obtain⟨k1,k2⟩:=eE.back b hb (.inl hz);rw[hz]at k2;have k2:jp m (γ.o b)=0:=k2;have k3:iI b=γ.o b:=by rw[vw];exact aH ⟨k1,.inl k2⟩
    rw[k3];have nP:=(hK _ yJ).2 hz;have w8:m.ku=[]:=by simpa using au1 nP
    rcases C4 m (γ.o b)with⟨p,h1,h2⟩|⟨_,h1⟩
    ·have:=hp p _ h1;omega
    ·rcases h1 with h1|h1
     ·rcases h1.2 with h2|h2
      ·rw[hz]at yJ;rw[aH (ew.2 yJ)];exact bA.2 (.inl h2)
      ·rw[w8]at h2;cases h2
     ·omega
   ·have k3:iI b=1:=by
     rw[vw];dsimp only;split
     ·rename_i hc;have:=(eE.ro b hc.1 hc.2).1;have k4:γ'.o b=jp m (γ.o b):=this;omega
     ·rw[hz];unfold BL;cases hl:aF (ir m.ids (ar+8) c.b8) 1 with
      |none=>rfl
      |some i=>have:=(qD 1 i (dO hl)).1;omega
    rw[k3];rw[hz]at yJ;rw[aH (ew.2 yJ)];simp
 have jG:=qA.ks
 unfold sD at jG
 simp only[bt,dU]at jG
 have g_:∀x∈c.jU.flatMap tV,x<2∧(x=0->c.EQ=ab):=λx hx=>⟨dp (jG.1 x hx),λe=>by subst e;unfold aA.EQ;exact ew.2 (bA.2 (.inl hx))⟩
 have iD:∀x∈c.b8.flatMap (λp=>tU p.2),x<2∧(x=0->c.EQ=ab):=λx hx=>⟨dp (jG.2 x hx),λe=>by subst e;unfold aA.EQ;exact ew.2 (bA.2 (.inr hx))⟩
 refine⟨v,rfl,_,aup,fA,ao1 AL g_ kU atf sE,?_⟩
 refine aqq hx.ob fA (λi Uh hi rE b hb M3=>?_) (λb hb=>?_) (λi x ju ko=>?_)
 ·refine adr b hb λp wY=>rE ?_;rw[M3]at wY;show i∈(LO++Ip m.ids c.b8).map bT++[];rw[List.append_nil,List.map_append,bA];cases hm:bN (c.b8.map bT) p with
  |true=>
   obtain⟨q,hq⟩:=sy hm;refine .inl (acp adg hq ?_);have h5:∃i',(p,i')∈ir m.ids (ar+8) c.b8:=by
    have:p∈(ir m.ids (ar+8) c.b8).map bT:=by rw[abp];exact ew.1 hm
    simp only[dE]at this;obtain⟨⟨a,b⟩,h1,rfl⟩:=this;exact⟨b,h1⟩
   cases hl:aF (ir m.ids (ar+8) c.b8) p with
   |none=>obtain⟨i',er⟩:=h5;exact(yi hl i' er).elim
   |some i'=>
    rcases(vj (dO hl)).2 with k2|⟨k2,_⟩
    ·rw[abQ hex.Tq wY]at k2;exact k2.symm▸rfl
    ·exact(yi k2 i wY).elim
  |false=>refine .inr ?_;unfold Ip;simp only[dE,lh,Prod.exists];exact⟨i,ak,⟨p,i,⟨wY,by simp[hm]⟩,rfl⟩,rfl⟩
 ·show jw U ar (iI b);rw[vw];dsimp only;split
  ·rename_i h1;exact .inl (hx.ob.cl b h1.1)
  ·rcases xg (γ'.o b)with⟨i,h2,h3⟩|⟨h2,_⟩|h2
   ·rw[h3];exact D3 _ _ h2
   ·rw[h2];exact .inl (hx.ob.ro 1 (by omega))
   ·rw[h2];exact .inl (hx.ob.ro 2 (by omega))
 ·have ju:aF (LO++Ip m.ids c.b8) i=aa (aa x):=ju;rw[km]at ju;have h5:aF LO i=aa (aa x):=by
   cases hl:aF LO i with
   |some y=>rw[hl]at ju;exact ju
   |none=>rw[hl]at ju;have:=dO ju;unfold Ip at this;simp only[dE,lh,Prod.exists,wa,reduceCtorEq,and_false,exists_false]at this
  obtain⟨p,q,y',k1,k2,k3,k4⟩:=Tg adg h5;cases k4;obtain⟨y0,m1,m2⟩:=aco atE A5 k1;have iw:=dO k2;refine⟨(qD _ _ iw).2,D3 _ _ iw,asn AL (λz hz=>iD z (Fx.2 ⟨_,k1,hz⟩)) (AL.id p i k2).2 (λb hb UJ=>?_) m1 k3 (TY p y0 m2)⟩;show iI b=i;rw[vw];dsimp only;have yz:=(qD _ _ iw).1;split
  ·rename_i hc;have:=(eE.ro b hc.1 hc.2).1;have k4:γ'.o b=jp m (γ.o b):=this;omega
  ·rw[UJ];unfold BL;rw[k2]
