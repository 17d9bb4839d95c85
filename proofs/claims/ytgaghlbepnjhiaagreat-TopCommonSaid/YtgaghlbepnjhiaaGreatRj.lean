import Derived.Test.YtgaghlbepnjhiaaGreatRh
set_option linter.all false
open Array renaming getElem?_eq_some_iff->iR
open Bool renaming and_eq_true->bt,false->ae,not_eq_true'->p9,or_eq_true->sj,true->ab
open Go renaming Value->ai,World->ax
open List renaming all_eq_true->dX,getElem?_eq_some_iff->g9,map_cons->gC,mem_append->bg,mem_cons->cj,mem_cons_of_mem->eR,mem_filter->kH,mem_flatMap->F3,mem_map->dk
open Nat renaming beq->aW,ble->eN,eq_of_beq_eq_true->bA,le_of_ble_eq_true->dw,le_refl->bw,zero_add->ke
open Option renaming some->aa
open Option.some renaming inj->kb,injEq->fK
open Prod renaming fst->bV,snd->oY
open Prod.mk renaming injEq->wj
namespace Go.Proofs.YtgaghlbepnjhiaaGreat
open Go Go.RowKit Dp
namespace Rx
section
variable {D:Nat->Type} [∀n,ad (D n)]
variable {T:bc D} {U U':Nat->Prop} {γ γ':Gh D} {w:ax} {ob:List (Nat×Option (AO D))} {l:List Nat}
structure eu(m m2:M D):Prop where
 call:m2.call=m.call
 xb:m2.xb=m.xb
 tl:m2.tl=m.tl
 po:m2.po=m.po
 ids:∀p∈m.ids,p∈m2.ids
 fu:∀p∈m.fu,p∈m2.fu
 ku:∀i∈m.ku,i∈m2.ku
 kr:∀i∈m.kr,i∈m2.kr
 new:∀p∈m.new,p∈m2.new
 nf:m.nf<=m2.nf
 nw:∀p∈m2.new,p∈m.new∨(m.nf<=p.1∧p.1<m2.nf∧∃n t,p.2= .sl n t [] [] 0)
def eu.same{m m2:M D}(h1:m2.call=m.call∧m2.xb=m.xb)(h2:m2.tl=m.tl)(h3:m2.po=m.po)(h4:∀p∈m.ids,p∈m2.ids)(h5:∀p∈m.fu,p∈m2.fu)(h6:∀i∈m.ku,i∈m2.ku)(h7:∀i∈m.kr,i∈m2.kr)(h8:m2.new=m.new)(h9:m2.nf=m.nf):eu m m2:=⟨h1.1,h1.2,h2,h3,h4,h5,h6,h7,λp hp=>by rw[h8];exact hp,by omega,λp hp=> .inl (by rw[h8]at hp;exact hp)⟩
def eu.refl(m:M D):eu m m:= .same ⟨rfl,rfl⟩ rfl rfl (λ_ h=>h) (λ_ h=>h) (λ_ h=>h) (λ_ h=>h) rfl rfl
def eu.trans{m m2 m3:M D}(h:eu m m2)(k:eu m2 m3):eu m m3:=
 ⟨k.call.trans h.call,k.xb.trans h.xb,k.tl.trans h.tl,k.po.trans h.po,λp hp=>k.ids p (h.ids p hp),λp hp=>k.fu p (h.fu p hp),λp hp=>k.ku p (h.ku p hp),λp hp=>k.kr p (h.kr p hp),λp hp=>k.new p (h.new p hp),Nat.le_trans h.nf k.nf,λp hp=>by
   have h1:=h.nf;have h2:=k.nf;rcases k.nw p hp with hp|hp
   ·rcases h.nw p hp with hp|hp
    ·exact .inl hp
    ·exact .inr ⟨hp.1,by omega,hp.2.2⟩
   ·exact .inr ⟨by omega,hp.2⟩⟩
structure Fin(T:bc D)(U U':Nat->Prop)(γ γ':Gh D)(w:ax)(m:M D)(fl:List (DV D))(tg:Nat):Prop where
 dv:∀i d,(i,d)∈m.fu->fl[i]? =aa d
 id:∀p i,(p,i)∈m.ids->U' p∧((∃x,(i,x)∈m.new)->γ'.g p= .slice none 0 0)∧((∀x,(i,x)∉m.new)->γ'.g p=γ.g i)
 fresh:∀i x,(i,x)∈m.new->¬U i
 ext:m.call=ae->∀p,bP (m.po.map bV) p=ae->p<m.xb->U p->U' p∧γ'.g p=γ.g p
 may:∀K Kp,m.may K Kp=ab->eo K->(∀x∈K,x∈m.kr)->∀b,In γ.o K b->In γ'.o Kp b
 own:∀j K Kp,j∈m.ku->m.may (1::K) Kp=ab->eo K->(∀x∈K,x∈m.kr)->∀b,In γ.o (j::K) b->In γ'.o Kp b
 nm:∀i d,fl[i]? =aa d->named U' γ' (tg+i) d
section
variable {m m' mf:M D} {fl:List (DV D)} {tg:Nat}
def atD{i:Nat}{K:List Nat}{lf:Lf}{x:lf.den D}(h:fl[i]? =aa ⟨lf,x⟩):jg T fl aa id tg (.h i K)=aa (.v lf x (AK K lf) (tg+i)):=by simp only[jg,h,id]
def dI.toV{i:Nat}{lf:Lf}{x:lf.den D}{v:ai}{K:List Nat}(h:dI (In γ'.o K) w v ⟨lf,x⟩)(hK:eo K)(hn:named U' γ' (tg+i) ⟨lf,x⟩):
  fY U' γ' w (.v lf x (AK K lf) (tg+i)) v:=by
 cases lf with
 |sl n=>exact⟨h,hn,hK⟩
 |int k=>exact⟨h,hn,lz⟩
 |bool=>exact⟨h,hn,lz⟩
 |str=>exact⟨h,hn,lz⟩
def azz(bK:OB U γ w ob){i n off ct q t tc g:Nat}{j:Int}{dd:List (D q)}{xs:List (D n)}{v:ai}(ho:dC ob i=aa (.df n t tc q xs g ct))(hv:fY U γ w (.ch i n j off ct q dd) v):Rv (In γ.o [i]) w v dd:=by
 obtain⟨hU,⟨Vt,_⟩,⟨oo,y,e1,e2,sK⟩,⟨b,len,cap,cells,hg,Ij,ul⟩,_⟩:=hv;obtain⟨_,_,m1,m2,m3⟩:=bK.ob _ _ ho;rcases m3 with m3|⟨_,m0,azA,m4,m5⟩
 ·exact(Vt m3).elim
 rw[Ij]at m4;cases m4;rw[m0]at e1;cases e1;obtain⟨cs,k1,k2⟩:=fJ.at m1.ow.dp hg e2;rw[ke]at k2;obtain⟨u,k3,k4⟩:=sK _ _ _ k1;have aS:=(g9.1 k3).1;have hu:u=v:=by have h1:=k2 off u k3;rw[jR]at h1;rw[m5 b len cap _ hg,ul]at h1;exact(kb h1).symm
 subst hu;refine k4.weaken λb hb=>?_;unfold In at hb⊢;simp only[cj,List.not_mem_nil,kF]at hb⊢;exact(DT hb).1
def Hf(bK:OB U γ w ob){i:Nat}{Kp:List Nat}{a:A1 D}{v:ai}(hK:eo Kp)(h:Q.R ob (wN m i Kp a) l m')(hv:fY U γ w a v):
  eu m m'∧m'.ids=m.ids∧m'.new=m.new∧m'.nf=m.nf∧(eu m' mf->Fin T U U' γ γ' w mf fl tg->∃d,fl[i]? =aa d∧dI (In γ'.o Kp) w v d):=by
 cases a with
 |v lf x K g=>
  simp only[wN]at h
  split at h
  case isFalse=>cases h
  rename_i eE
  obtain⟨_,rfl⟩:=h
  refine⟨.same ⟨rfl,rfl⟩ rfl rfl (λ_ h=>h) (λ_ h=>eR _ h) (λ_ h=>h) (λ_ h=>bg.2 (.inr h)) rfl rfl,rfl,rfl,rfl,λhle hF=>?_⟩
  have h1:=hF.dv i ⟨lf,x⟩ (hle.fu _ (by simp[M.dv,M.reads]))
  refine⟨_,h1,?_⟩
  refine hv.1.weaken (hF.may K Kp ?_ hv.2.2 λx hx=>hle.kr _ (by simp[M.dv,M.reads,hx]))
  unfold M.may at eE⊢
  rw[hle.call]
  exact eE
 |vb n xs K g b=>
  simp only[wN]at h
  split at h
  case isFalse=>cases h
  rename_i eE
  obtain⟨_,rfl⟩:=h
  refine⟨.same ⟨rfl,rfl⟩ rfl rfl (λ_ h=>h) (λ_ h=>eR _ h) (λ_ h=>h) (λ_ h=>bg.2 (.inr h)) rfl rfl,rfl,rfl,rfl,λhle hF=>?_⟩
  have h1:=hF.dv i ⟨.sl n,xs⟩ (hle.fu _ (by simp[M.dv,M.reads]))
  refine⟨_,h1,?_⟩
  refine dI.weaken (x:=⟨.sl n,xs⟩) (hF.may K Kp ?_ hv.1.2.2 λx hx=>hle.kr _ (by simp[M.dv,M.reads,hx])) hv.1.1
  unfold M.may at eE⊢
  rw[hle.call]
  exact eE
 |bH=>
  simp only[wN]at h
  split at h
  case h_2=>cases h
  rename_i n hn
  obtain⟨_,rfl⟩:=h
  refine⟨.same ⟨rfl,rfl⟩ rfl rfl (λ_ h=>h) (λ_ h=>eR _ h) (λ_ h=>h) (λ_ h=>h) rfl rfl,rfl,rfl,rfl,λhle hF=>?_⟩
  have h1:=hF.dv i ⟨.sl n,[]⟩ (hle.fu _ (by simp[M.dv]))
  have hv:v= .slice none 0 0:=hv
  subst hv
  exact⟨_,h1,Dt _ _⟩
 |own j=>
  obtain⟨ao,l',ho,rfl,h⟩:=h
  dsimp only at h
  split at h
  ·rename_i dv K Bq;split at h
   case isFalse=>cases h
   rename_i eE;obtain⟨_,rfl⟩:=h;refine⟨.same ⟨rfl,rfl⟩ rfl rfl (λ_ h=>h) (λ_ h=>eR _ h) (λ_ h=>h) (λ_ h=>bg.2 (.inr h)) rfl rfl,rfl,rfl,rfl,λhle hF=>?_⟩;have h1:=hF.dv i dv (hle.fu _ (by simp[M.dv,M.reads]));obtain⟨_,rfl,_⟩:=hv;obtain⟨_,_,k0⟩:=bK.ob _ _ ho;obtain⟨k1,k2⟩:=akF k0 Bq;refine⟨_,h1,?_⟩;refine dI.weaken (hF.may K Kp ?_ k2 λx hx=>hle.kr _ (by simp[M.dv,M.reads,hx])) k1;unfold M.may at eE⊢;rw[hle.call];exact eE
  split at h
  case h_2=>cases h
  rename_i dv K Bq
  split at h
  case isFalse=>cases h
  rename_i eE
  obtain⟨_,rfl⟩:=h
  refine⟨.same ⟨rfl,rfl⟩ rfl rfl (λ_ h=>h) (λ_ h=>eR _ h) (λ_ h=>eR _ h) (λ_ h=>bg.2 (.inr h)) rfl rfl,rfl,rfl,rfl,λhle hF=>?_⟩
  have h1:=hF.dv i dv (hle.fu _ (by simp[M.dv,M.reads,M.uZ]))
  obtain⟨_,rfl,_⟩:=hv
  obtain⟨_,_,k0⟩:=bK.ob _ _ ho
  obtain⟨k1,k2⟩:=X4 k0 Bq
  refine⟨_,h1,?_⟩
  refine dI.weaken (hF.own j K Kp (hle.ku _ (by simp[M.uZ])) ?_ k2 λx hx=>hle.kr _ (by simp[M.dv,M.reads,M.uZ,hx])) k1
  unfold M.may at eE⊢
  rw[hle.call]
  exact eE
 |ch i' n j off ct q dd=>
  obtain⟨ao,l',ho,rfl,h⟩:=h
  cases ao with
  |box=>cases h
  |sl=>cases h
  |iH=>cases h
  |fz=>cases h
  |mp=>cases h
  |df n' t' tc q' xs g ht=>
   dsimp only at h
   split at h
   case isFalse=>cases h
   rename_i hc
   simp only[bt]at hc
   obtain⟨⟨⟨c1,c2⟩,c3⟩,eE⟩:=hc
   have c1:=bA c1
   have c2:=bA c2
   have c3:=bA c3
   subst c1 c2 c3
   obtain⟨_,rfl⟩:=h
   refine⟨.same ⟨rfl,rfl⟩ rfl rfl (λ_ h=>h) (λ_ h=>eR _ h) (λ_ h=>eR _ h) (λ_ h=>h) rfl rfl,rfl,rfl,rfl,λhle hF=>?_⟩
   have h1:=hF.dv i ⟨.sl q,dd⟩ (hle.fu _ (by simp[M.dv,M.uZ]))
   refine⟨_,h1,?_⟩
   have gI:Rv (In γ.o [i']) w v (dd:List (D q)):=azz bK ho hv
   refine dI.weaken (x:=⟨.sl q,dd⟩) (hF.own i' [] Kp (hle.ku _ (by simp[M.uZ])) ?_ lz λx hx=>by cases hx) gI
   unfold M.may at eE⊢
   rw[hle.call]
   exact eE
 |_=>cases h
def abB(bK:OB U γ w ob){Kp:List Nat}(hK:eo Kp):∀{as:List (A1 D)} {vs:List ai} {m m':M D} {i:Nat} {l:List Nat},Q.R ob (L_ Kp m i as) l m'->dj U γ w as vs->
  eu m m'∧m'.ids=m.ids∧m'.new=m.new∧m'.nf=m.nf∧(eu m' mf->Fin T U U' γ γ' w mf fl tg->∃ds,ds.length=as.length∧(∀k d,ds[k]? =aa d->fl[i+k]? =aa d)∧cz (In γ'.o Kp) w vs ds)
 |[],vs,m,m',i,l,h,hv=>by
  obtain⟨_,rfl⟩:=h;cases vs with
  |nil=>exact⟨.refl _,rfl,rfl,rfl,λ_ _=>⟨[],rfl,by simp,trivial⟩⟩
  |cons _ _=>exact hv.elim
 |a::as,vs,m,m',i,l,h,hv=>by
  cases vs with
  |nil=>exact hv.elim
  |cons v vs=>
   simp only[L_]at h;obtain⟨l1,l2,m1,_,h1,h2⟩:=Q.ga h;obtain⟨e1,e2,e3,e4,e5⟩:=Hf (T:=T) (U':=U') (γ':=γ') (mf:=mf) (fl:=fl) (tg:=tg) bK hK h1 hv.1;obtain⟨f1,f2,f3,f4,f5⟩:=abB bK hK h2 hv.2;refine⟨e1.trans f1,f2.trans e2,f3.trans e3,f4.trans e4,λhle hF=>?_⟩;obtain⟨d0,g1,g2⟩:=e5 (f1.trans hle) hF;obtain⟨ds,k1,k2,k3⟩:=f5 hle hF;refine⟨d0::ds,by simp[k1],λk d hk=>?_,g2,k3⟩;cases k with
   |zero=>cases hk;exact g1
   |succ k=>have:=k2 k d (by simpa using hk);rwa[show i+(k+1)=i+1+k from by omega]
def abA:∀{ds:List (DV D)} {m:M D} {i:Nat},eu m (wM m i ds)∧(wM m i ds).ids=m.ids∧(wM m i ds).new=m.new∧(wM m i ds).nf=m.nf∧∀k d,ds[k]? =aa d->(i+k,d)∈(wM m i ds).fu
 |[],m,i=>⟨.refl _,rfl,rfl,rfl,by simp⟩
 |d::ds,m,i=>by
  obtain⟨h1,h2,h3,h4,h5⟩:=abA (ds:=ds) (m:=m.dv i d) (i:=i+1);have h0:eu m (m.dv i d):= .same ⟨rfl,rfl⟩ rfl rfl (λ_ h=>h) (λ_ h=>eR _ h) (λ_ h=>h) (λ_ h=>h) rfl rfl;refine⟨h0.trans h1,h2,h3,h4,λk e hk=>?_⟩;cases k with
  |zero=>cases hk;exact h1.fu _ (by simp[M.dv])
  |succ k=>have:=h5 k e (by simpa using hk);rwa[show i+(k+1)=i+1+k from by omega]
def aat{fl ds:List (DV D)}{i n:Nat}(hn:ds.length=n)(h:∀k d,ds[k]? =aa d->fl[i+k]? =aa d):(fl.drop i).take n=ds:=by
 subst hn;apply List.ext_getElem?;intro k;rw[List.getElem?_take];split
 ·rename_i hk;rw[List.getElem?_drop,h k ds[k] (by simp[hk])];simp[hk]
 ·rename_i hk;rw[List.getElem?_eq_none (by omega)]
def acB(hR:cK T){i n n' off:Nat}{Kp K:List Nat}{x:D n'}(hK:eo Kp)(h:Q.R ob (MO T m i n Kp n' x off K) l m'){v:ai}(hv:∃pa:Addr,v= .pointer (aa (pa.add off))∧xE (In γ.o K) w pa x∧eo K):
  eu m m'∧(eu m' mf->Fin T U U' γ γ' w mf fl tg->∀y:D n,T.jf n ((fl.drop i).take (T.lv n).length)=aa y->∃pa:Addr,v= .pointer (aa (pa.add 0))∧xE (In γ'.o Kp) w pa y∧eo Kp):=by
 unfold MO at h
 split at h
 case isFalse=>cases h
 rename_i hc
 simp only[bt]at hc
 obtain⟨⟨h1,h2⟩,h3⟩:=hc
 have h1:=bA h1
 have h2:=bA h2
 subst h1 h2
 obtain⟨_,rfl⟩:=h
 obtain⟨k1,k2,k3,k4,k5⟩:=abA (ds:=T.out n x) (m:=m) (i:=i)
 have k0:eu (wM m i (T.out n x)) ((wM m i (T.out n x)).reads K):= .same ⟨rfl,rfl⟩ rfl rfl (λ_ h=>h) (λ_ h=>h) (λ_ h=>h) (λ_ h=>bg.2 (.inr h)) rfl rfl
 refine⟨k1.trans k0,λhle hF y hy=>?_⟩
 have e1:(fl.drop i).take (T.lv n).length=T.out n x:=aat (Mp T n x) λk d hk=>hF.dv _ _ (hle.fu _ (k0.fu _ (k5 k d hk)))
 have e4:T.out n y=T.out n x:=(hR.jf hy).trans e1
 obtain⟨pa,rfl,⟨cs,f1,f2,f3⟩,f4⟩:=hv
 have hm:∀b,In γ.o K b->In γ'.o Kp b:=hF.may K Kp (by unfold M.may at h3⊢;rw[hle.call,k0.call,k1.call];exact h3) f4 λz hz=>hle.kr _ (by simp[M.reads,hz])
 refine⟨pa,rfl,⟨cs,?_,hm _ f2,f3⟩,hK⟩
 rw[hR.rd]at f1⊢
 rw[e4]
 exact f1.weaken hm
def acD(hR:cK T)(bK:OB U γ w ob){i n j:Nat}{Kp:List Nat}(hK:eo Kp)(h:Q.R ob (Tw T m i n Kp j) l m'){v:ai}(hv:U j∧∃b,γ.g j=fT b 0∧v=fT b 0):
  eu m m'∧(eu m' mf->Fin T U U' γ γ' w mf fl tg->∀y:D n,T.jf n ((fl.drop i).take (T.lv n).length)=aa y->∃pa:Addr,v= .pointer (aa (pa.add 0))∧xE (In γ'.o Kp) w pa y∧eo Kp):=by
 obtain⟨ao,l',ho,rfl,h⟩:=h
 cases ao with
 |sl=>cases h
 |df=>cases h
 |iH=>cases h
 |fz=>cases h
 |mp=>cases h
 |box cs=>
  dsimp only at h
  split at h
  case isFalse=>cases h
  rename_i hc
  simp only[bt]at hc
  have hlen:=bA hc.1
  obtain⟨hU,b,hg,rfl⟩:=hv
  obtain⟨_,_,b',us,t',h1,h2,h3,h4,h5⟩:=bK.ob _ _ ho
  rw[hg]at h1
  obtain⟨rfl,_⟩:=Mh h1
  obtain⟨k1,k2,k3,k4,k5⟩:=abB (T:=T) (U':=U') (γ':=γ') (mf:=mf) (fl:=fl) (tg:=tg) bK hK h h4
  have k0:eu m (m.uZ j):= .same ⟨rfl,rfl⟩ rfl rfl (λ_ h=>h) (λ_ h=>h) (λ_ h=>eR _ h) (λ_ h=>h) rfl rfl
  refine⟨k0.trans k1,λhle hF y hy=>?_⟩
  obtain⟨ds,e1,e2,e3⟩:=k5 hle hF
  have e4:(fl.drop i).take (T.lv n).length=ds:=aat (by rw[e1,hlen]) e2
  have e5:=hR.jf hy
  rw[e4]at e5
  have hmb:In γ'.o Kp b:=hF.own j [] Kp (hle.ku _ (k1.ku _ (by simp[M.uZ]))) (by have:=hc.2;unfold M.may at this⊢;rw[hle.call,k1.call];exact this) lz (by simp) b (by unfold In;simp[h2])
  refine⟨⟨b,0,none⟩,by rw[add_zero'];rfl,⟨us,?_,hmb,?_⟩,hK⟩
  ·rw[hR.rd,e5];exact e3
  ·have:=WW h3 0 us.length;simpa using this
def PP{p i:Nat}(h:Q.R ob (m.bind p i) l m'):l=[]∧eu m m'∧((p,i)∈m'.ids∨(m.call=ae∧bP (m.po.map bV) p=ae∧p<m.xb∧p=i))∧m'.new=m.new:=by
 unfold M.bind at h;split at h
 ·rename_i i' hi;split at h
  case isFalse=>cases h
  rename_i hb;have hb:=bA hb;subst hb;obtain⟨rfl,rfl⟩:=h;exact⟨rfl,.refl _,.inl (dS hi),rfl⟩
 ·split at h
  ·split at h
   case isTrue=>cases h
   obtain⟨rfl,rfl⟩:=h;exact⟨rfl,.same ⟨rfl,rfl⟩ rfl rfl (λ_ h=>eR _ h) (λ_ h=>h) (λ_ h=>h) (λ_ h=>h) rfl rfl,.inl (by simp),rfl⟩
  ·rename_i hm;split at h
   case isFalse=>cases h
   rename_i hc;simp only[bt,p9]at hc;obtain⟨rfl,rfl⟩:=h;exact⟨rfl,.refl _,.inr ⟨hc.1.1,by simpa using hm,dw hc.2,bA hc.1.2⟩,rfl⟩
def X0{p i:Nat}(hU:U i)(h:(p,i)∈mf.ids∨(mf.call=ae∧bP (mf.po.map bV) p=ae∧p<mf.xb∧p=i))(hF:Fin T U U' γ γ' w mf fl tg):U' p∧γ'.g p=γ.g i:=by
 rcases h with h|⟨h1,h2,h3,rfl⟩
 ·obtain⟨k1,_,k3⟩:=hF.id p i h;exact⟨k1,k3 λx hx=>hF.fresh _ _ hx hU⟩
 ·exact hF.ext h1 p h2 h3 hU
def XZ{p i:Nat}(hle:eu m' mf)(hm:eu m m')(h:(p,i)∈m'.ids∨(m.call=ae∧bP (m.po.map bV) p=ae∧p<m.xb∧p=i)):(p,i)∈mf.ids∨(mf.call=ae∧bP (mf.po.map bV) p=ae∧p<mf.xb∧p=i):=by
 rcases h with h|⟨h1,h2,h3,h4⟩
 ·exact .inl (hle.ids _ h)
 ·exact .inr ⟨by rw[hle.call,hm.call];exact h1,by rw[hle.po,hm.po];exact h2,by rw[hle.xb,hm.xb];exact h3,h4⟩
def asp(hR:cK T)(bK:OB U γ w ob){p:P0}{a:A0 D}{v:ai}(hK:match p with| .rp _ _ K=>eo K|_=>True)(h:Q.R ob (m0 T m p a) l m')(hv:rW U γ w a v):
  eu m m'∧(eu m' mf->Fin T U U' γ γ' w mf fl tg->∀a',wW T fl aa id p=aa a'->rW U' γ' w a' v):=by
 unfold m0 at h
 split at h
 ·split at h
  case isFalse=>cases h
  rename_i hb;have hb:=bA hb;subst hb;obtain⟨_,h1,h2,_⟩:=PP h;refine⟨h1,λhle hF a' ha=>?_⟩;obtain⟨hU,b,hg,rfl⟩:=hv;obtain⟨k1,k2⟩:=X0 hU (XZ hle h1 h2) hF;simp only[wW,fK]at ha;subst ha;exact⟨k1,b,by rw[k2];exact hg,rfl⟩
 ·obtain⟨h1,h2⟩:=acB (T:=T) (U:=U) (U':=U') (γ':=γ') (mf:=mf) (fl:=fl) (tg:=tg) hR hK h hv;refine⟨h1,λhle hF a' ha=>?_⟩;simp only[wW,id]at ha;split at ha
  case h_2=>cases ha
  rename_i y hy;cases ha;exact h2 hle hF y hy
 ·split at h
  case isFalse=>cases h
  rename_i hb;have hb:=bA hb;subst hb;obtain⟨h1,h2⟩:=acD (T:=T) (U':=U') (γ':=γ') (mf:=mf) (fl:=fl) (tg:=tg) hR bK hK h hv;refine⟨h1,λhle hF a' ha=>?_⟩;simp only[wW,id]at ha;split at ha
  case h_2=>cases ha
  rename_i y hy;cases ha;exact h2 hle hF y hy
 ·exact(h:False).elim
def acF(hR:cK T)(bK:OB U γ w ob):∀{ps:List P0} {as:List (A0 D)} {vs:List ai} {m m':M D} {l:List Nat},(∀p∈ps,match p with| .rp _ _ K=>eo K|_=>True)->Q.R ob (MR T m ps as) l m'->nB U γ w as vs->
  eu m m'∧(eu m' mf->Fin T U U' γ γ' w mf fl tg->∀j8,yH T fl aa id ps=aa j8->nB U' γ' w j8 vs)
 |[],[],vs,m,m',l,_,h,hv=>by
  obtain⟨_,rfl⟩:=h;cases vs with
  |nil=>exact⟨.refl _,λ_ _ j8 ha=>by simp only[yH,fK]at ha;subst ha;trivial⟩
  |cons _ _=>exact hv.elim
 |[],_::_,vs,m,m',l,_,h,hv=>(h:False).elim
 |_::_,[],vs,m,m',l,_,h,hv=>(h:False).elim
 |p::ps,a::as,vs,m,m',l,hK,h,hv=>by
  cases vs with
  |nil=>exact hv.elim
  |cons v vs=>
   simp only[MR]at h;obtain⟨l1,l2,m1,_,h1,h2⟩:=Q.ga h;obtain⟨e1,e2⟩:=asp (T:=T) (U':=U') (γ':=γ') (mf:=mf) (fl:=fl) (tg:=tg) hR bK (hK p (by simp)) h1 hv.1;obtain⟨f1,f2⟩:=acF hR bK (λp hp=>hK p (by simp[hp])) h2 hv.2;refine⟨e1.trans f1,λhle hF j8 ha=>?_⟩;simp only[yH]at ha;split at ha
   case h_2=>cases ha
   rename_i a1 a2 g1 g2;cases ha;exact⟨e2 (f1.trans hle) hF _ g1,f2 hle hF _ g2⟩
def VC(hF:Fin T U U' γ γ' w mf fl tg){i j:Nat}{K:List Nat}(hK:eo K){b:Bool}{m1:M D}(hle:eu (m1.dv j ⟨.bool,b⟩) mf){d:DV D}{v:ai}(k1:fl[i]? =aa d)(k2:dI (In γ'.o K) w v d){a':A1 D}(ha:jg T fl aa id tg (.hb i j K)=aa a')(hb:b=T0 v):fY U' γ' w a' v:=by
 have k3:=hF.dv j ⟨.bool,b⟩ (hle.fu _ (by simp[M.dv]));obtain⟨lf,x⟩:=d;simp only[jg,k1,k3]at ha;cases lf with
 |sl n=>cases ha;exact⟨⟨k2,hF.nm _ _ k1,hK⟩,hb⟩
 |int k=>cases ha
 |bool=>cases ha
 |str=>cases ha
def KsP(p:P1):Prop:=∀x∈yE p,x<2
def acE(hR:cK T)(bK:OB U γ w ob){p:P1}{a:A1 D}{v:ai}(hK:KsP p)(h:Q.R ob (m1 T m p a) l m')(hv:fY U γ w a v):
  eu m m'∧(eu m' mf->Fin T U U' γ γ' w mf fl tg->∀a',jg T fl aa id tg p=aa a'->fY U' γ' w a' v):=by
 unfold m1 at h
 split at h
 ·
  rename_i i K a
  obtain⟨h1,_,_,_,h2⟩:=Hf (T:=T) (U':=U') (γ':=γ') (mf:=mf) (fl:=fl) (tg:=tg) bK hK h hv
  refine⟨h1,λhle hF a' ha=>?_⟩
  obtain⟨⟨lf,x⟩,k1,k2⟩:=h2 hle hF
  rw[atD k1]at ha
  cases ha
  exact k2.toV hK (hF.nm _ _ k1)
 ·
  rename_i i j K n xs K' g b
  obtain⟨l1,l2,m1,_,h1,h2⟩:=Q.ga h
  obtain⟨_,rfl⟩:=h2
  obtain⟨e1,_,_,_,e2⟩:=Hf (T:=T) (U':=U') (γ':=γ') (mf:=mf) (fl:=fl) (tg:=tg) bK hK h1 (v:=v) ⟨hv.1.1,.inl rfl,hv.1.2.2⟩
  have e0:eu m1 (m1.dv j ⟨.bool,b⟩):= .same ⟨rfl,rfl⟩ rfl rfl (λ_ h=>h) (λ_ h=>eR _ h) (λ_ h=>h) (λ_ h=>h) rfl rfl
  refine⟨e1.trans e0,λhle hF a' ha=>?_⟩
  obtain⟨⟨lf,x⟩,k1,k2⟩:=e2 (e0.trans hle) hF
  exact VC hF hK hle k1 k2 ha hv.2
 ·rename_i i j K;obtain⟨l1,l2,m1,_,h1,h2⟩:=Q.ga h;obtain⟨_,rfl⟩:=h2;obtain⟨e1,_,_,_,e2⟩:=Hf (T:=T) (U':=U') (γ':=γ') (mf:=mf) (fl:=fl) (tg:=tg) bK hK h1 hv;have e0:eu m1 (m1.dv j ⟨.bool,ab⟩):= .same ⟨rfl,rfl⟩ rfl rfl (λ_ h=>h) (λ_ h=>eR _ h) (λ_ h=>h) (λ_ h=>h) rfl rfl;refine⟨e1.trans e0,λhle hF a' ha=>?_⟩;obtain⟨⟨lf,x⟩,k1,k2⟩:=e2 (e0.trans hle) hF;have hv:v= .slice none 0 0:=hv;exact VC hF hK hle k1 k2 ha (by rw[hv];rfl)
 ·rename_i i j K q;obtain⟨ao,l',ho,rfl,h⟩:=h;cases ao with
  |box=>cases h
  |df=>cases h
  |iH=>cases h
  |fz=>cases h
  |mp=>cases h
  |sl n t xs K0 g0=>
   obtain⟨_,bM,h⟩:=h;obtain⟨l1,l2,m1,_,h1,h2⟩:=Q.ga h;obtain⟨_,rfl⟩:=h2;obtain⟨e1,_,_,_,e2⟩:=Hf (T:=T) (U':=U') (γ':=γ') (mf:=mf) (fl:=fl) (tg:=tg) bK hK h1 hv;have e0:eu m1 (m1.dv j ⟨.bool,ae⟩):= .same ⟨rfl,rfl⟩ rfl rfl (λ_ h=>h) (λ_ h=>eR _ h) (λ_ h=>h) (λ_ h=>h) rfl rfl;refine⟨e1.trans e0,λhle hF a' ha=>?_⟩;obtain⟨⟨lf,x⟩,k1,k2⟩:=e2 (e0.trans hle) hF;refine VC hF hK hle k1 k2 ha ?_;obtain⟨_,rfl,_⟩:=hv;obtain⟨_,_,k3,_⟩:=bK.ob _ _ ho;rcases k3 with⟨_,k3⟩|⟨g,f,cap,aU,aJ,k3,_⟩
   ·subst k3;cases bM
   ·rw[k3];rfl
 ·
  split at h
  case isFalse=>cases h
  rename_i hb
  have hb:=bA hb
  subst hb
  obtain⟨_,h1,h2,_⟩:=PP h
  refine⟨h1,λhle hF a' ha=>?_⟩
  obtain⟨hU,b,hg,rfl⟩:=hv
  obtain⟨k1,k2⟩:=X0 hU (XZ hle h1 h2) hF
  simp only[jg,fK]at ha
  subst ha
  exact⟨k1,b,by rw[k2];exact hg,rfl⟩
 ·
  obtain⟨_,h1,h2,_⟩:=PP h
  refine⟨h1,λhle hF a' ha=>?_⟩
  obtain⟨hU,rfl,mI⟩:=hv
  obtain⟨k1,k2⟩:=X0 hU (XZ hle h1 h2) hF
  simp only[jg,fK]at ha
  subst ha
  exact⟨k1,k2.symm,mI⟩
 ·
  split at h
  case h_2=>cases h
  rename_i n t i K oJ
  obtain⟨_,h1,h2,h3⟩:=PP h
  have h0:eu m {m with new:=(m.nf,.sl n t [] [] 0)::m.new,nf:=m.nf+1}:=⟨rfl,rfl,rfl,rfl,λ_ h=>h,λ_ h=>h,λ_ h=>h,λ_ h=>h,λ_ h=>eR _ h,by simp,λp hp=>by
   rcases cj.1 hp with rfl|hp
   ·exact .inr ⟨bw _,by simp,n,t,rfl⟩
   ·exact .inl hp⟩
  refine⟨h0.trans h1,λhle hF a' ha=>?_⟩
  have hv:v= .slice none 0 0:=hv
  subst hv
  simp only[jg,fK]at ha
  subst ha
  rcases h2 with h2|⟨_,h2,_⟩
  ·obtain⟨k1,k2,_⟩:=hF.id _ _ (hle.ids _ h2);exact⟨k1,(k2 ⟨_,hle.new _ (h1.new _ (by simp;exact .inl rfl))⟩).symm,rfl⟩
  ·exfalso;have:=dS oJ;rw[show({m with new:=(m.nf,.sl n t [] [] 0)::m.new,nf:=m.nf+1}:M D).po=m.po from rfl]at h2;exact pC h2 (by simp only[dk];exact⟨_,this,rfl⟩)
 ·obtain⟨h1,h2⟩:=acB (T:=T) (U:=U) (U':=U') (γ':=γ') (mf:=mf) (fl:=fl) (tg:=tg) hR hK h hv;refine⟨h1,λhle hF a' ha=>?_⟩;simp only[jg,id]at ha;split at ha
  case h_2=>cases ha
  rename_i y hy;cases ha;exact h2 hle hF y hy
 ·split at h
  case isFalse=>cases h
  rename_i hb;have hb:=bA hb;subst hb;obtain⟨h1,h2⟩:=acD (T:=T) (U':=U') (γ':=γ') (mf:=mf) (fl:=fl) (tg:=tg) hR bK hK h hv;refine⟨h1,λhle hF a' ha=>?_⟩;simp only[jg,id]at ha;split at ha
  case h_2=>cases ha
  rename_i y hy;cases ha;exact h2 hle hF y hy
 ·
  split at h
  case isFalse=>cases h
  rename_i f ps f' as hb
  have hb:=bA hb
  subst hb
  obtain⟨cs,rfl,h3⟩:=hv
  have hK':∀p∈ps,match p with| .rp _ _ K=>eo K|_=>True:=λp hp=>by
   split
   ·rename_i i n K;intro x hx;refine hK x ?_;simp only[yE,F3];exact⟨_,hp,hx⟩
   ·trivial
  obtain⟨h1,h2⟩:=acF (T:=T) (U':=U') (γ':=γ') (mf:=mf) (fl:=fl) (tg:=tg) hR bK hK' h h3
  refine⟨h1,λhle hF a' ha=>?_⟩
  simp only[jg]at ha
  split at ha
  case h_2=>cases ha
  rename_i jm jk
  cases ha
  exact⟨cs,rfl,h2 hle hF _ jk⟩
 ·obtain⟨_,rfl⟩:=h;exact⟨.refl _,λ_ _ a' ha=>by simp only[jg,fK]at ha;subst ha;exact hv⟩
 ·obtain⟨_,rfl⟩:=h;exact⟨.refl _,λ_ _ a' ha=>by simp only[jg,fK]at ha;subst ha;exact hv⟩
 ·obtain⟨_,rfl⟩:=h;exact⟨.refl _,λ_ _ a' ha=>by simp only[jg,fK]at ha;subst ha;trivial⟩
 ·split at h
  case isFalse=>cases h
  rename_i b6;obtain⟨_,rfl⟩:=h;have h1:=fY.one hv b6;exact⟨.refl _,λ_ _ a' ha=>by simp only[jg,fK]at ha;subst ha;exact h1⟩
 ·exact(h:False).elim
def TA(hR:cK T)(bK:OB U γ w ob):∀{ps:List P1} {as:List (A1 D)} {vs:List ai} {m m':M D} {l:List Nat},(∀p∈ps,KsP p)->Q.R ob (Hp T m ps as) l m'->dj U γ w as vs->
  eu m m'∧(eu m' mf->Fin T U U' γ γ' w mf fl tg->∀j8,wV T fl aa id tg ps=aa j8->dj U' γ' w j8 vs)
 |[],[],vs,m,m',l,_,h,hv=>by
  obtain⟨_,rfl⟩:=h;cases vs with
  |nil=>exact⟨.refl _,λ_ _ j8 ha=>by simp only[wV,fK]at ha;subst ha;trivial⟩
  |cons _ _=>exact hv.elim
 |[],_::_,vs,m,m',l,_,h,hv=>(h:False).elim
 |_::_,[],vs,m,m',l,_,h,hv=>(h:False).elim
 |p::ps,a::as,vs,m,m',l,hK,h,hv=>by
  cases vs with
  |nil=>exact hv.elim
  |cons v vs=>
   simp only[Hp]at h;obtain⟨l1,l2,m1,_,h1,h2⟩:=Q.ga h;obtain⟨e1,e2⟩:=acE (T:=T) (U':=U') (γ':=γ') (mf:=mf) (fl:=fl) (tg:=tg) hR bK (hK p (by simp)) h1 hv.1;obtain⟨f1,f2⟩:=TA hR bK (λp hp=>hK p (by simp[hp])) h2 hv.2;refine⟨e1.trans f1,λhle hF j8 ha=>?_⟩;simp only[wV]at ha;split at ha
   case h_2=>cases ha
   rename_i a1 a2 g1 g2;cases ha;exact⟨e2 (f1.trans hle) hF _ g1,f2 hle hF _ g2⟩
def aso(hR:cK T)(bK:OB U γ w ob){p:PC}{a:AV D}{v:ai}(hK:∀x∈tT p,x<2)(h:Q.R ob (mC T m p a) l m')(hv:gW U γ w a v):
  eu m m'∧(eu m' mf->Fin T U U' γ γ' w mf fl tg->∀a',vA T fl aa id tg p=aa a'->nA U' γ' w a' v):=by
 unfold mC at h
 split at h
 ·obtain⟨h1,h2⟩:=acE (T:=T) (U':=U') (γ':=γ') (mf:=mf) (fl:=fl) (tg:=tg) hR bK hK h hv;refine⟨h1,λhle hF a' ha=>?_⟩;simp only[vA]at ha;split at ha
  case h_2=>cases ha
  rename_i y hy;cases ha;exact h2 hle hF y hy
 ·rename_i ps ll;obtain⟨us,rfl,hv⟩:=hv;obtain⟨h1,h2⟩:=TA (T:=T) (U':=U') (γ':=γ') (mf:=mf) (fl:=fl) (tg:=tg) hR bK (λp hp x hx=>hK x (by simp only[tT,F3];exact⟨p,hp,hx⟩)) h hv;refine⟨h1,λhle hF a' ha=>?_⟩;simp only[vA]at ha;split at ha
  case h_2=>cases ha
  rename_i y hy;cases ha;exact⟨us,rfl,h2 hle hF y hy⟩
 ·obtain⟨_,rfl⟩:=h;refine⟨.refl _,λ_ _ a' ha=>?_⟩;simp only[vA,jg,fK]at ha;subst ha;trivial
 ·exact(h:False).elim
def Tz(hR:cK T)(bK:OB U γ w ob):∀{ps:List PC} {as:List (AV D)} {vs:List ai} {m m':M D} {l:List Nat},(∀x∈ps.flatMap tT,x<2)->Q.R ob (MQ T m ps as) l m'->nz U γ w as vs->
  eu m m'∧(eu m' mf->Fin T U U' γ γ' w mf fl tg->∀j8,im T fl aa id tg ps=aa j8->jr U' γ' w j8 vs)
 |[],[],vs,m,m',l,_,h,hv=>by
  obtain⟨_,rfl⟩:=h;cases vs with
  |nil=>exact⟨.refl _,λ_ _ j8 ha=>by simp only[im,fK]at ha;subst ha;trivial⟩
  |cons _ _=>exact hv.elim
 |[],_::_,vs,m,m',l,_,h,hv=>(h:False).elim
 |_::_,[],vs,m,m',l,_,h,hv=>(h:False).elim
 |p::ps,a::as,vs,m,m',l,hK,h,hv=>by
  cases vs with
  |nil=>exact hv.elim
  |cons v vs=>
   simp only[MQ]at h;obtain⟨l1,l2,m1,_,h1,h2⟩:=Q.ga h;obtain⟨e1,e2⟩:=aso (T:=T) (U':=U') (γ':=γ') (mf:=mf) (fl:=fl) (tg:=tg) hR bK (λx hx=>hK x (by simp[hx])) h1 hv.1;obtain⟨f1,f2⟩:=Tz hR bK (λx hx=>hK x (by rw[List.flatMap_cons];exact bg.2 (.inr hx))) h2 hv.2;refine⟨e1.trans f1,λhle hF j8 ha=>?_⟩;simp only[im]at ha;split at ha
   case h_2=>cases ha
   rename_i a1 a2 g1 g2;cases ha;exact⟨e2 (f1.trans hle) hF _ g1,f2 hle hF _ g2⟩
def Ty(hR:cK T)(bK:OB U γ w ob){p:PO}{x:AO D}{i q:Nat}(hK:∀x∈tS p,x<2)(h:Q.R ob (mO T m p x) l m')(hx:(OR U γ w i x∧γ'.g q=γ.g i∧∀b,γ.o b=i->γ'.o b=q)∨(∃n t,x= .sl n t [] [] 0∧γ'.g q= .slice none 0 0)):
  eu m m'∧(eu m' mf->Fin T U U' γ γ' w mf fl tg->∀x',qz T fl aa id tg p=aa x'->OR U' γ' w q x'):=by
 unfold mO at h
 split at h
 ·rename_i ps cs;rcases hx with⟨⟨b,us,t,h1,h2,h3,h4,h5⟩,hg,ho⟩|⟨n,t,hx,_⟩
  case inr=>cases hx
  obtain⟨k1,k2⟩:=TA (T:=T) (U':=U') (γ':=γ') (mf:=mf) (fl:=fl) (tg:=tg) hR bK (λp hp x hx=>hK x (by simp only[tS,F3];exact⟨p,hp,hx⟩)) h h4;refine⟨k1,λhle hF x' d_=>?_⟩;simp only[qz]at d_;split at d_
  case h_2=>cases d_
  rename_i y hy;split at d_
  case isFalse=>cases d_
  rename_i b6;cases d_;exact⟨b,us,t,by rw[hg];exact h1,ho b h2,h3,k2 hle hF y hy,b6⟩
 ·rename_i n t i' Kp n' t' xs K g;split at h
  case isFalse=>cases h
  rename_i hc;simp only[bt]at hc;obtain⟨⟨c1,c2⟩,c3⟩:=hc;have c1:=bA c1;have c2:=bA c2;subst c1 c2;obtain⟨_,rfl⟩:=h;refine⟨.same ⟨rfl,rfl⟩ rfl rfl (λ_ h=>h) (λ_ h=>eR _ h) (λ_ h=>h) (λ_ h=>bg.2 (.inr h)) rfl rfl,λhle hF x' d_=>?_⟩;have hd:=hF.dv i' ⟨.sl n,xs⟩ (hle.fu _ (by simp[M.dv,M.reads]));simp only[qz,hd]at d_;rw[aI (Nat.beq_refl n)]at d_;cases d_;refine⟨?_,hK,hF.nm _ _ hd⟩;rcases hx with⟨⟨h1,h2,h3⟩,hg,ho⟩|⟨_,_,hx,hg⟩
  ·rw[hg];refine Ow.tM ho (hF.may K Kp ?_ h2 λx hx=>hle.kr _ (by simp[M.dv,M.reads,hx])) h1;unfold M.may at c3⊢;rw[hle.call];exact c3
  ·cases hx;rw[hg];exact Ow.nil _ _ _ _ _
 ·rename_i n t tc q' i' n' t' xX q2 xs g ht;split at h
  case isFalse=>cases h
  rename_i hc;simp only[bt]at hc;obtain⟨⟨⟨c1,c2⟩,c3⟩,c4⟩:=hc;have c1:=bA c1;have c2:=bA c2;have c3:=bA c3;have c4:=bA c4;subst c1 c2 c3 c4;obtain⟨_,rfl⟩:=h;refine⟨.same ⟨rfl,rfl⟩ rfl rfl (λ_ h=>h) (λ_ h=>eR _ h) (λ_ h=>h) (λ_ h=>h) rfl rfl,λhle hF x' d_=>?_⟩;have hd:=hF.dv i' ⟨.sl n,xs⟩ (hle.fu _ (by simp[M.dv]));simp only[qz,hd]at d_;rw[aI (Nat.beq_refl n)]at d_;cases d_;rcases hx with⟨⟨h1,h2,h3⟩,hg,ho⟩|⟨_,_,hx,_⟩
  case inr=>cases hx
  obtain⟨m0,m1⟩:=DS (v:=γ.g i) (o:=γ.o) (o':=γ'.o) (i:=i) (i':=q) (w:=w) (w':=w) λb _ hb=>⟨ho b hb,rfl⟩;exact⟨by rw[hg];exact h1.mono m0 m1,hF.nm _ _ hd,.inl rfl⟩
 ·rename_i n i' n' xs;split at h
  case isFalse=>cases h
  rename_i c1;have c1:=bA c1;subst c1;obtain⟨_,rfl⟩:=h;refine⟨.same ⟨rfl,rfl⟩ rfl rfl (λ_ h=>h) (λ_ h=>eR _ h) (λ_ h=>h) (λ_ h=>h) rfl rfl,λhle hF x' d_=>?_⟩;have hd:=hF.dv i' ⟨.sl n,xs⟩ (hle.fu _ (by simp[M.dv]));simp only[qz,hd]at d_;rw[aI (Nat.beq_refl n)]at d_;cases d_;rcases hx with⟨h1,hg,ho⟩|⟨_,_,hx,_⟩
  case inr=>cases hx
  show rX γ'.o q w (γ'.g q) xs;rw[hg];exact rX.mono h1 λb _ hb=>⟨ho b hb,rfl⟩
 ·exact(h:False).elim
structure FT(γ γ':Gh D)(m:M D):Prop where
 o:∀p i,(p,i)∈m.ids->∀b,γ.o b=i->γ'.o b=p
def Tx(hR:cK T)(bK:OB U γ w ob):∀{po:List (Nat×PO)} {m m':M D} {l:List Nat},(∀x∈po.flatMap (λp=>tS p.2),x<2)->Q.R ob (DP T m po) l m'->(∀i x,(i,x)∈m.new->∃n t,x= .sl n t [] [] 0)->
  eu m m'∧((∀i x,(i,x)∈m'.new->∃n t,x= .sl n t [] [] 0)∧∀p,bP (po.map bV) p=ab->∃i,(p,i)∈m'.ids∧(U i∨∃x,(i,x)∈m'.new))∧(eu m' mf->Fin T U U' γ γ' w mf fl tg->FT γ γ' mf->∀eU,jN T fl aa id tg po=aa eU->∀p x,dC eU p=aa x->bP (po.map bV) p=ab∧U' p∧OR U' γ' w p x)
 |[],m,m',l,_,h,hn=>by
  obtain⟨_,rfl⟩:=h;exact⟨.refl _,⟨hn,λp hp=>by simp[bP]at hp⟩,λ_ _ _ eU ho p x hx=>by simp only[jN,fK]at ho;subst ho;simp[dC,aF]at hx⟩
 |(p,q)::po,m,m',l,hK,h,hn=>by
  simp only[DP]at h;split at h
  case h_1=>cases h
  rename_i i hi;have iJ:=dS hi;have VH:∀x∈tS q,x<2:=λx hx=>hK x (by simp[hx]);have hKr:∀x∈po.flatMap (λp=>tS p.2),x<2:=λx hx=>hK x (by rw[List.flatMap_cons];exact bg.2 (.inr hx));have main:∀{ao:AO D} {l0:List Nat},Q.R ob ((mO T m q ao).bind λm=>DP T m po) l0 m'->(OR U γ w i ao∧U i∨((i,ao)∈m.new∧∃n t,ao= .sl n t [] [] 0))->
    eu m m'∧((∀i x,(i,x)∈m'.new->∃n t,x= .sl n t [] [] 0)∧∀p',bP (((p,q)::po).map bV) p'=ab->∃i,(p',i)∈m'.ids∧(U i∨∃x,(i,x)∈m'.new))∧(eu m' mf->Fin T U U' γ γ' w mf fl tg->FT γ γ' mf->∀eU,jN T fl aa id tg ((p,q)::po)=aa eU->∀p' x,dC eU p'=aa x->bP (((p,q)::po).map bV) p'=ab∧U' p'∧OR U' γ' w p' x):=by
   intro ao l0 h Er
   obtain⟨l1,l2,m1,_,h1,h2⟩:=Q.ga h
   have A2:eu m m1:=by
    rcases Er with⟨ha,_⟩|⟨_,n,t,UM⟩
    ·exact(Ty (T:=T) (U':=U') (γ':=γ) (mf:=mf) (fl:=fl) (tg:=tg) (q:=i) hR bK VH h1 (.inl ⟨ha,rfl,λ_ h=>h⟩)).1
    ·exact(Ty (T:=T) (U':=U') (γ':=⟨γ.o,λ_=> .slice none 0 0,γ.v⟩) (mf:=mf) (fl:=fl) (tg:=tg) (i:=i) (q:=i) hR bK VH h1 (.inr ⟨n,t,UM,rfl⟩)).1
   obtain⟨f1,f2,f3⟩:=Tx hR bK hKr h2 (λi x hx=>by
    rcases A2.nw _ hx with hx|hx
    ·exact hn i x hx
    ·exact hx.2.2)
   refine⟨A2.trans f1,⟨f2.1,λp' qC=>?_⟩,λhle hF hO eU ho p' x hx=>?_⟩
   ·simp only[gC,bP]at qC;cases hb:aW p p' with
    |true=>
     have:=bA hb;subst this;refine⟨i,(A2.trans f1).ids _ iJ,?_⟩;rcases Er with⟨_,hU⟩|⟨ha,_⟩
     ·exact .inl hU
     ·exact .inr ⟨_,(A2.trans f1).new _ ha⟩
    |false=>rw[hb]at qC;exact f2.2 p' qC
   obtain⟨k1,k2,k3⟩:=hF.id p i (hle.ids _ ((A2.trans f1).ids _ iJ))
   have w_:(OR U γ w i ao∧γ'.g p=γ.g i∧∀b,γ.o b=i->γ'.o b=p)∨(∃n t,ao= .sl n t [] [] 0∧γ'.g p= .slice none 0 0):=by
    rcases Er with⟨ha,hU⟩|⟨ha,n,t,UM⟩
    ·exact .inl ⟨ha,k3 λx hx=>hF.fresh _ _ hx hU,hO.o p i (hle.ids _ ((A2.trans f1).ids _ iJ))⟩
    ·exact .inr ⟨n,t,UM,k2 ⟨ao,hle.new _ ((A2.trans f1).new _ ha)⟩⟩
   obtain⟨_,e2⟩:=Ty (T:=T) (U':=U') (γ':=γ') (mf:=mf) (fl:=fl) (tg:=tg) hR bK VH h1 w_
   simp only[jN,id]at ho
   split at ho
   case h_2=>cases ho
   rename_i i' a b g0 g1 g2
   cases g0
   cases ho
   by_cases hp:p=p'
   ·subst hp;simp only[dC,aF,Nat.beq_refl,wi,fK]at hx;subst hx;exact⟨by simp[bP],k1,e2 (f1.trans hle) hF _ g1⟩
   ·have bM:aW p p'=ae:=by
     cases hb:aW p p' with
     |true=>exact(hp (bA hb)).elim
     |false=>rfl
    have d_:dC b p'=aa x:=by unfold dC at hx⊢;simpa[aF,bM]using hx
    obtain⟨j1,j2,j3⟩:=f3 hle hF hO b g2 p' x d_;exact⟨by simp[bP,bM];exact j1,j2,j3⟩
  split at h
  ·rename_i ao Er;exact main h (.inr ⟨dS Er,hn _ _ (dS Er)⟩)
  ·obtain⟨ao,l',ho,rfl,h⟩:=h;obtain⟨_,hU,h1⟩:=bK.ob _ _ ho;exact main h (.inl ⟨h1,hU⟩)
def MD{α:Type}:∀{l:List (Nat×α)} {i:Nat} {a:α},mZ (l.map bV)=ab->(i,a)∈l->aF l i=aa a
 |[],i,a,_,h=>by cases h
 |p::r,i,a,hn,h=>by
  simp only[gC,mZ,bt,p9]at hn;rcases cj.1 h with rfl|h
  ·simp[aF]
  ·have bM:aW p.1 i=ae:=by
    cases hb:aW p.1 i with
    |true=>have:=bA hb;exact(pC hn.1 (by rw[this];exact dk.2 ⟨_,h,rfl⟩)).elim
    |false=>rfl
   simp only[aF,bM,sd];exact MD hn.2 h
def acN{fu:List (Nat×DV D)}:∀{n i:Nat} {l:List (DV D)},MX fu i n=aa l->∀k,k<n->l[k]? =aF fu (i+k)
 |0,i,l,_,k,hk=>by omega
 |n+1,i,l,h,k,hk=>by
  simp only[MX]at h;split at h
  case h_2=>cases h
  rename_i d r h1 h2;cases h;cases k with
  |zero=>simp[h1]
  |succ k=>have:=acN h2 k (by omega);simp only[List.getElem?_cons_succ,this];congr 1;omega
structure QD(T:bc D)(call:Bool)(xb:Nat)(po:List (Nat×PO))(vB:List (Nat×Nat))(nf0:Nat)(m:M D)(fl:List (DV D)):Prop where
 BV:m.call=call
 ZQ:m.xb=xb
 po_:m.po=po
 Uc:∀p∈vB,p∈m.ids
 nf:nf0<=m.nf
 new:∀p∈m.new,nf0<=p.1∧p.1<m.nf
 dv:∀i d,(i,d)∈m.fu->fl[i]? =aa d
 ku:∀i∈m.ku,1000<=i∧∀p,(p,i)∉m.ids
 D1:∀p i,(p,i)∈m.ids->1000<=i
 Ud:∀p i i',(p,i)∈m.ids->(p,i')∈m.ids->i=i'
 ids:∀p p' i,(p,i)∈m.ids->(p',i)∈m.ids->p=p'
 key:∀p i,(p,i)∈m.ids->bP (po.map bV) p=ab
 kr:eo m.kr
def arH{l:List (Nat×Nat)}{p p' i:Nat}(hn:mZ (l.map oY)=ab)(h:(p,i)∈l)(h':(p',i)∈l):p=p':=by
 induction l with
 |nil=>cases h
 |cons q r ih=>
  simp only[gC,mZ,bt,p9]at hn;have nQ:=pC hn.1;rcases cj.1 h with e1|h1
  ·rcases cj.1 h' with e2|h2
   ·rw[<-e1]at e2;cases e2;rfl
   ·exact(nQ (dk.2 ⟨_,h2,by rw[<-e1]⟩)).elim
  ·rcases cj.1 h' with e2|h2
   ·exact(nQ (dk.2 ⟨_,h1,by rw[<-e2]⟩)).elim
   ·exact ih hn.2 h1 h2
def N7(hR:cK T)(bK:OB U γ w ob){call:Bool}{xb:Nat}{cP:List Ht}{yr:List PC}{po:List (Nat×PO)}{vB:List (Nat×Nat)}{nf:Nat}{fp:List (AV D)}{vs:List ai}{r:HH D cP×M D}{lg:List Nat}
  (h:Q.R ob (BI T call xb cP yr po vB nf fp) lg r) (hv:nz U γ w fp vs):
  (QD T call xb po vB nf r.2 (dK T cP r.1)∧∀p i,(p,i)∈r.2.ids->U i∨∃x,(i,x)∈r.2.new)∧∀{U' γ' tg},Fin T U U' γ γ' w r.2 (dK T cP r.1) tg->FT γ γ' r.2->
    (∀j8,im T (dK T cP r.1) aa id tg yr=aa j8->jr U' γ' w j8 vs)∧
    ∀eU,jN T (dK T cP r.1) aa id tg po=aa eU->∀p x,dC eU p=aa x->bP (po.map bV) p=ab∧U' p∧OR U' γ' w p x:=by
 unfold BI at h
 obtain⟨l1,l2,m1,_,h1,h2⟩:=Q.ga h
 obtain⟨l3,l4,m2,_,h3,h4⟩:=Q.ga h2
 split at h4
 case isFalse=>exact(h4:False).elim
 rename_i hc
 split at h4
 case h_2=>exact(h4:False).elim
 rename_i l0 yR
 split at h4
 case h_2=>exact(h4:False).elim
 rename_i hh hhh
 obtain⟨_,rfl⟩:=h4
 simp only[bt,M.ok,tU,dX]at hc
 obtain⟨⟨⟨⟨⟨⟨⟨⟨⟨c1,c2⟩,c3⟩,c4⟩,c5⟩,c6⟩,c7⟩,c10⟩,B1⟩,c8,c9⟩:=hc
 have ir:∀x∈yr.flatMap tT,x<2:=λx hx=>dw (c8 x hx)
 have iL:∀x∈po.flatMap (λp=>tS p.2),x<2:=λx hx=>dw (c9 x hx)
 have eL:dK T cP hh=l0:=aca hR hhh
 have UW:=(Tz (T:=T) (U':=U) (γ':=γ) (mf:=m1) (fl:=l0) (tg:=0) hR bK ir h1 hv).1
 have Nw:=Tx (T:=T) (U':=U) (γ':=γ) (mf:=m2) (fl:=l0) (tg:=0) hR bK iL h3 (λi x hx=>by
  rcases UW.nw _ hx with hx|hx
  ·cases hx
  ·exact hx.2.2)
 have hle:=UW.trans Nw.1
 have huq:∀p i i',(p,i)∈m2.ids->(p,i')∈m2.ids->i=i':=λp i i' hp qC=>by have:=MD c4 hp;rw[MD c4 qC]at this;cases this;rfl
 refine⟨⟨⟨hle.call,hle.xb,hle.po,λp hp=>hle.ids _ hp,hle.nf,λp hp=>?_,λi d hd=>?_,λi hi=>⟨dw (c7 i hi),λp hp=>?_⟩,λp i hp=>dw (c6 _ hp),huq,λp p' i hp qC=>arH c5 hp qC,λp i hp=>c10 _ hp,λx hx=>dw (B1 x hx)⟩,λp i hp=>?_⟩,λ{U' γ' tg} hF hO=>⟨λj8 ha=>?_,λeU ho p x hx=>?_⟩⟩
 ·rcases hle.nw _ hp with hp|hp
  ·cases hp
  ·exact⟨hp.1,hp.2.1⟩
 ·rw[eL];have h5:=MD c1 hd;have h6:i<m2.tl.length:=dw (c2 _ hd);have h7:=acN yR i h6;rw[ke]at h7;rw[h7,h5]
 ·have:i∈m2.ids.map oY:=dk.2 ⟨_,hp,rfl⟩;unfold qS at c3;have:=dX.1 c3 i this;simp only[p9]at this;exact pC this hi
 ·obtain⟨i',h5,h6⟩:=Nw.2.1.2 p (c10 _ hp);rw[huq p i i' hp h5];exact h6
 ·rw[eL]at hF ha;exact(Tz (T:=T) (mf:=m2) (fl:=l0) hR bK ir h1 hv).2 Nw.1 hF _ ha
 ·rw[eL]at hF ho;refine(Tx (T:=T) (mf:=m2) (fl:=l0) hR bK iL h3 (λi x hx=>?_)).2.2 (.refl _) hF hO eU ho p x hx;rcases UW.nw _ hx with hx|hx
  ·cases hx
  ·exact hx.2.2
end
end
end Rx
end Go.Proofs.YtgaghlbepnjhiaaGreat
namespace Go.Proofs.YtgaghlbepnjhiaaGreat
open Go Go.RowKit Dp
namespace Rx
section
variable {D:Nat->Type} [∀n,ad (D n)]
variable {T:bc D} {U U':Nat->Prop} {γ γ':Gh D} {w w':ax} {ob:List (Nat×Option (AO D))} {l:List Nat}
def v_(U:Nat->Prop)(γ:Gh D)(w:ax)(rs:List (AC D))(v:ai):Prop:=gW U γ w (abq rs) v
def U0:Nat->Prop:=λi=>i<2000
structure gz(P:Program)(T:bc D)(c:az D):Prop where
 Wb:∀(args:Array ai) (w:ax),(callFunc c.f args).run P w= .ok (.enter c.f args) w
 ks:tU c.kl c.cn=ab
 key:mZ (c.cn.map bV)=ab
 cO:c.cn.all (λp=>eN 1000 p.1)=ab
 uv:eN c.cn.length 40=ab
 run:∀(h:HH D c.ins) (r:HH D c.outs),c.fn h=aa r->∀as eU,im T (dK T c.ins h) aa id 1100 c.args=aa as->jN T (dK T c.ins h) aa id 1100 c.ob=aa eU->
  ∀(γ:Gh D) (w:ax) (vs:List ai),jr U0 γ w as vs->OB U0 γ w eU->Calls P c.f vs.toArray w (mi λv w'=>∃U' γ' rs ko,im T (dK T c.outs r) aa id 3000 c.kl=aa rs∧jN T (dK T c.outs r) aa id 3000 c.cn=aa ko∧
   v_ U' γ' w' rs v∧(∀p x,dC ko p=aa x->OR U' γ' w' p x)∧(∀p,(p,p)∈stay c->γ'.g p=γ.g p)∧Frame0 γ w γ' w')
structure Re(ok:Nat->Prop)(U' U:Nat->Prop)(γ' γ:Gh D)(w:ax)(fl:List (DV D))(ri:Nat->Option Nat)(rK:List Nat->List Nat)(tg:Nat):Prop where
 id:∀p i,ri p=aa i->U i∧γ.g i=γ'.g p
 K:∀K,(∀x∈K,ok x)->eo (rK K)∧∀b,b<w.heap.size->In γ'.o K b->In γ.o (rK K) b
 nm:∀i d,fl[i]? =aa d->i<112->named U γ (tg+i) d
 uv:fl.length<=112
section
variable {ok:Nat->Prop} {fl:List (DV D)} {ri:Nat->Option Nat} {rK:List Nat->List Nat} {tg t0:Nat}
def Re.mem(hr:Re ok U' U γ' γ w fl ri rK tg){K:List Nat}(hK:∀x∈K,ok x):∀b,In γ'.o K b->b<w.heap.size->In γ.o (rK K) b∧w.heap[b]? =w.heap[b]? :=λb hb aS=>⟨(hr.K K hK).2 b aS hb,rfl⟩
def atE(hr:Re ok U' U γ' γ w fl ri rK tg){p:P0}(hK:match p with| .rp _ _ K=>∀x∈K,ok x|_=>True){a b:A0 D}{v:ai}(ha:wW T fl aa id p=aa a)(hb:wW T fl ri rK p=aa b)(hv:rW U' γ' w a v):rW U γ w b v:=by
 cases p with
 |ptr q off=>
  simp only[wW]at ha hb;split at hb
  case h_2=>cases hb
  rename_i i hi;cases ha;cases hb;obtain⟨hU,c,h1,h2⟩:=hv;obtain⟨k1,k2⟩:=hr.id q i hi;exact⟨k1,c,by rw[k2];exact h1,h2⟩
 |rp i n K=>
  simp only[wW]at ha hb;split at ha
  case h_2=>cases ha
  rename_i x hx;rw[hx]at hb;cases ha;cases hb;obtain⟨pa,h1,h2,h3⟩:=hv;exact⟨pa,h1,h2.mono (hr.mem hK),(hr.K K hK).1⟩
def adk(hr:Re ok U' U γ' γ w fl ri rK tg):∀{ps:List P0} {as bs:List (A0 D)} {vs:List ai},(∀p∈ps,match p with| .rp _ _ K=>∀x∈K,ok x|_=>True)->yH T fl aa id ps=aa as->yH T fl ri rK ps=aa bs->nB U' γ' w as vs->nB U γ w bs vs
 |[],as,bs,vs,_,ha,hb,hv=>by
  cases ha;cases hb;cases vs with
  |nil=>trivial
  |cons _ _=>exact hv.elim
 |p::ps,as,bs,vs,hK,ha,hb,hv=>by
  simp only[yH]at ha hb;split at ha
  case h_2=>cases ha
  rename_i a1 a2 g1 g2;split at hb
  case h_2=>cases hb
  rename_i b1 b2 g3 g4;cases ha;cases hb;cases vs with
  |nil=>exact hv.elim
  |cons v vs=>exact⟨atE hr (hK p (by simp)) g1 g3 hv.1,adk hr (λp hp=>hK p (by simp[hp])) g2 g4 hv.2⟩
def adj(hr:Re ok U' U γ' γ w fl ri rK tg){p:P1}(hK:∀x∈yE p,ok x){a b:A1 D}{v:ai}(ha:jg T fl aa id t0 p=aa a)(hb:jg T fl ri rK tg p=aa b)(hv:fY U' γ' w a v):fY U γ w b v:=by
 cases p with
 |h i K=>
  simp only[jg]at ha hb;split at ha
  case h_2=>cases ha
  rename_i lf x hx;rw[hx]at hb;cases ha;cases hb;obtain⟨h1,h2,h3⟩:=hv;have hn:=hr.nm i _ hx (by have:=(g9.1 hx).1;have:=hr.uv;omega);refine dI.toV ?_ (hr.K K hK).1 hn;cases lf with
  |sl n=>exact dI.mono (d:=⟨.sl n,x⟩) (hr.mem hK) h1
  |int k=>exact h1
  |bool=>exact h1
  |str=>exact h1
 |ptr q off=>
  simp only[jg]at ha hb;split at hb
  case h_2=>cases hb
  rename_i i hi;cases ha;cases hb;obtain⟨hU,c,h1,h2⟩:=hv;obtain⟨k1,k2⟩:=hr.id q i hi;exact⟨k1,c,by rw[k2];exact h1,h2⟩
 |own q=>
  simp only[jg]at ha hb;split at hb
  case h_2=>cases hb
  rename_i i hi;cases ha;cases hb;obtain⟨hU,h1,h2⟩:=hv;obtain⟨k1,k2⟩:=hr.id q i hi;exact⟨k1,by rw[k2];exact h1,h2⟩
 |rp i n K=>
  simp only[jg]at ha hb;split at ha
  case h_2=>cases ha
  rename_i x hx;rw[hx]at hb;cases ha;cases hb;obtain⟨pa,h1,h2,h3⟩:=hv;exact⟨pa,h1,h2.mono (hr.mem hK),(hr.K K hK).1⟩
 |fn f ps=>
  simp only[jg]at ha hb;split at ha
  case h_2=>cases ha
  rename_i a2 g1;split at hb
  case h_2=>cases hb
  rename_i b2 g2;cases ha;cases hb;obtain⟨cs,h1,h2⟩:=hv;refine⟨cs,h1,adk hr (λp hp=>?_) g1 g2 h2⟩;split
  ·rename_i i n K;intro x hx;refine hK x ?_;simp only[yE,F3];exact⟨_,hp,hx⟩
  ·trivial
 |hb i j K=>
  simp only[jg]at ha hb;split at ha
  case h_2=>cases ha
  rename_i n xs b0 hx hy;rw[hx,hy]at hb;cases ha;cases hb;obtain⟨⟨h1,h2,h3⟩,h4⟩:=hv;have hn:=hr.nm i _ hx (by have:=(g9.1 hx).1;have:=hr.uv;omega);exact⟨⟨dI.mono (d:=⟨.sl n,xs⟩) (hr.mem hK) h1,hn,(hr.K K hK).1⟩,h4⟩
 |bH=>cases ha;cases hb;exact hv
 |sF=>cases ha;cases hb;exact hv
 |any=>cases hb;trivial
 |wU=>cases ha;cases hb;exact hv
def T8(hr:Re ok U' U γ' γ w fl ri rK tg):∀{ps:List P1} {as bs:List (A1 D)} {vs:List ai},(∀p∈ps,∀x∈yE p,ok x)->wV T fl aa id t0 ps=aa as->wV T fl ri rK tg ps=aa bs->dj U' γ' w as vs->dj U γ w bs vs
 |[],as,bs,vs,_,ha,hb,hv=>by
  cases ha;cases hb;cases vs with
  |nil=>trivial
  |cons _ _=>exact hv.elim
 |p::ps,as,bs,vs,hK,ha,hb,hv=>by
  simp only[wV]at ha hb;split at ha
  case h_2=>cases ha
  rename_i a1 a2 g1 g2;split at hb
  case h_2=>cases hb
  rename_i b1 b2 g3 g4;cases ha;cases hb;cases vs with
  |nil=>exact hv.elim
  |cons v vs=>exact⟨adj hr (hK p (by simp)) g1 g3 hv.1,T8 hr (λp hp=>hK p (by simp[hp])) g2 g4 hv.2⟩
def atC(hr:Re ok U' U γ' γ w fl ri rK tg){p:PC}(hK:∀x∈tT p,ok x){a b:AC D}{v:ai}(ha:vA T fl aa id t0 p=aa a)(hb:vA T fl ri rK tg p=aa b)(hv:nA U' γ' w a v):nA U γ w b v:=by
 cases p with
 |one p=>
  simp only[vA]at ha hb;split at ha
  case h_2=>cases ha
  rename_i a1 g1;split at hb
  case h_2=>cases hb
  rename_i b1 g2;cases ha;cases hb;exact adj hr hK g1 g2 hv
 |agg ps=>
  simp only[vA]at ha hb;split at ha
  case h_2=>cases ha
  rename_i a1 g1;split at hb
  case h_2=>cases hb
  rename_i b1 g2;cases ha;cases hb;obtain⟨us,h1,h2⟩:=hv;exact⟨us,h1,T8 hr (λp hp x hx=>hK x (by simp only[tT,F3];exact⟨p,hp,hx⟩)) g1 g2 h2⟩
def T7(hr:Re ok U' U γ' γ w fl ri rK tg):∀{ps:List PC} {as bs:List (AC D)} {vs:List ai},(∀x∈ps.flatMap tT,ok x)->im T fl aa id t0 ps=aa as->im T fl ri rK tg ps=aa bs->jr U' γ' w as vs->jr U γ w bs vs
 |[],as,bs,vs,_,ha,hb,hv=>by
  cases ha;cases hb;cases vs with
  |nil=>trivial
  |cons _ _=>exact hv.elim
 |p::ps,as,bs,vs,hK,ha,hb,hv=>by
  simp only[im]at ha hb;split at ha
  case h_2=>cases ha
  rename_i a1 a2 g1 g2;split at hb
  case h_2=>cases hb
  rename_i b1 b2 g3 g4;cases ha;cases hb;cases vs with
  |nil=>exact hv.elim
  |cons v vs=>exact⟨atC hr (λx hx=>hK x (by simp[hx])) g1 g3 hv.1,T7 hr (λx hx=>hK x (by rw[List.flatMap_cons];exact bg.2 (.inr hx))) g2 g4 hv.2⟩
def D0{fl:List (DV D)}{ri:Nat->Option Nat}{rK:List Nat->List Nat}{tg:Nat}:∀{ps:List PC} {as:List (AC D)},im T fl ri rK tg ps=aa as->as.length=ps.length
 |[],as,h=>by cases h;rfl
 |p::ps,as,h=>by
  simp only[im]at h;split at h
  case h_2=>cases h
  rename_i a1 a2 g1 g2;cases h;simp[D0 g2]
def aqa(hr:Re ok U' U γ' γ w fl ri rK tg){ps:List PC}(hK:∀x∈ps.flatMap tT,ok x){as bs:List (AC D)}{v:ai}(ha:im T fl aa id t0 ps=aa as)(hb:im T fl ri rK tg ps=aa bs)(hv:v_ U' γ' w as v):v_ U γ w bs v:=by
 have hl:as.length=bs.length:=(D0 ha).trans (D0 hb).symm;unfold v_ at hv⊢;match as,bs,hl with
 |[],[],_=>
  obtain⟨us,h1,h2⟩:=hv;cases us with
  |nil=>exact⟨[],h1,trivial⟩
  |cons _ _=>exact h2.elim
 |[a],[b],_=>have:=T7 (vs:=[v]) hr hK ha hb ⟨hv,trivial⟩;exact this.1
 |a::a'::as,b::b'::bs,_=>obtain⟨us,h1,h2⟩:=hv;exact⟨us,h1,T7 hr hK ha hb h2⟩
def atB(hr:Re ok U' U γ' γ w fl ri rK tg){p:PO}(hK:∀x∈tS p,ok x){a b:AO D}{q i:Nat}(hg:γ.g i=γ'.g q)(hq:∀b,b<w.heap.size->γ'.o b=q->γ.o b=i)(ha:qz T fl aa id t0 p=aa a)(hb:qz T fl ri rK tg p=aa b)(hv:OR U' γ' w q a):OR U γ w i b:=by
 cases p with
 |box ps=>
  simp only[qz]at ha hb;split at ha
  case h_2=>cases ha
  rename_i a1 g1;split at ha
  case isFalse=>cases ha
  split at hb
  case h_2=>cases hb
  rename_i b1 g2;split at hb
  case isFalse=>cases hb
  rename_i b6;cases ha;cases hb;obtain⟨c,us,t,h1,h2,h3,h4,h5⟩:=hv;exact⟨c,us,t,by rw[hg];exact h1,hq c (iR.1 h3).1 h2,h3,T8 hr (λp hp x hx=>hK x (by simp only[tS,F3];exact⟨p,hp,hx⟩)) g1 g2 h4,b6⟩
 |sl n t j K=>
  simp only[qz]at ha hb;split at ha
  case h_2=>cases ha
  rename_i n' xs hx;rw[hx]at hb;dsimp only at hb;split at ha
  case isFalse=>cases ha
  rename_i hn;rw[aI hn]at hb;cases ha;cases hb;obtain⟨h1,h2,h3⟩:=hv;have hn:=hr.nm j _ hx (by have:=(g9.1 hx).1;have:=hr.uv;omega);refine⟨?_,(hr.K K hK).1,hn⟩;rw[hg];rcases h1 with h1|⟨g,f,cap,aU,aJ,e1,e2,e3,e4,e5,e6,e7,e8⟩
  ·exact .inl h1
  ·exact .inr ⟨g,f,cap,aU,aJ,e1,hq g (iR.1 e3).1 e2,e3,e4,e5,e6,e7.mono λ_ _=>ad.mono (hr.mem hK),e8⟩
 |df n t tc q' j=>
  simp only[qz]at ha hb;split at ha
  case h_2=>cases ha
  rename_i n' xs hx;rw[hx]at hb;dsimp only at hb;split at ha
  case isFalse=>cases ha
  rename_i hn;rw[aI hn]at hb;cases ha;cases hb;obtain⟨h1,h2,h3⟩:=hv;have hn:=hr.nm j _ hx (by have:=(g9.1 hx).1;have:=hr.uv;omega);obtain⟨m0,m1⟩:=DS (v:=γ'.g q) (o:=γ'.o) (o':=γ.o) (i:=q) (i':=i) (w:=w) (w':=w) λb hb ho=>⟨hq b hb ho,rfl⟩;exact⟨by rw[hg];exact h1.mono m0 m1,hn,.inl rfl⟩
 |mp n j=>
  simp only[qz]at ha hb;split at ha
  case h_2=>cases ha
  rename_i n' xs hx;rw[hx]at hb;dsimp only at hb;split at ha
  case isFalse=>cases ha
  rename_i hn;rw[aI hn]at hb;cases ha;cases hb;show rX γ.o i w (γ.g i) xs;rw[hg];exact rX.mono hv λb hb ho=>⟨hq b hb ho,rfl⟩
def adi{fl:List (DV D)}{ri:Nat->Option Nat}{rK:List Nat->List Nat}{tg:Nat}:∀{po:List (Nat×PO)} {eU:List (Nat×Option (AO D))} {p i:Nat} {q:PO},jN T fl ri rK tg po=aa eU->(p,q)∈po->ri p=aa i->i∈eU.map bV
 |[],eU,p,i,q,h,hm,_=>by cases hm
 |(p',q')::po,eU,p,i,q,h,hm,hi=>by
  simp only[jN]at h;split at h
  case h_2=>cases h
  rename_i i' a b g0 g1 g2;cases h;rcases cj.1 hm with e1|hm
  ·cases e1;rw[hi]at g0;cases g0;simp
  ·have:=adi g2 hm hi;rw[gC];exact eR _ this
def T5{fl:List (DV D)}{ri:Nat->Option Nat}{rK:List Nat->List Nat}{tg:Nat}:∀{po:List (Nat×PO)} {eU:List (Nat×Option (AO D))} {i:Nat} {x:Option (AO D)},jN T fl ri rK tg po=aa eU->aF eU i=aa x->∃p q y,(p,q)∈po∧ri p=aa i∧qz T fl ri rK tg q=aa y∧x=aa y
 |[],eU,i,x,h,hx=>by cases h;cases hx
 |(p,q)::po,eU,i,x,h,hx=>by
  simp only[jN]at h;split at h
  case h_2=>cases h
  rename_i i' a b g0 g1 g2;cases h;unfold aF at hx;cases hb:aW i' i with
  |true=>have:=bA hb;subst this;simp only[hb,wi,fK]at hx;subst hx;exact⟨p,q,a,by simp,g0,g1,rfl⟩
  |false=>simp only[hb,sd]at hx;obtain⟨p',q',y,h1,h2,h3,h4⟩:=T5 g2 hx;exact⟨p',q',y,by simp[h1],h2,h3,h4⟩
def adh{fl:List (DV D)}{tg:Nat}:∀{po:List (Nat×PO)} {eU:List (Nat×Option (AO D))} {p:Nat} {q:PO},jN T fl aa id tg po=aa eU->mZ (po.map bV)=ab->(p,q)∈po->∃y,qz T fl aa id tg q=aa y∧dC eU p=aa y
 |[],eU,p,q,h,_,hm=>by cases hm
 |(p',q')::po,eU,p,q,h,hn,hm=>by
  simp only[jN]at h;split at h
  case h_2=>cases h
  rename_i i' a b g0 g1 g2;cases g0;cases h;simp only[gC,mZ,bt,p9]at hn;rcases cj.1 hm with e1|hm
  ·cases e1;exact⟨a,g1,by simp[dC,aF]⟩
  ·obtain⟨y,h1,h2⟩:=adh g2 hn.2 hm;refine⟨y,h1,?_⟩;have bM:aW p' p=ae:=by
    cases hb:aW p' p with
    |true=>have:=bA hb;exact(pC hn.1 (by rw[this];exact dk.2 ⟨_,hm,rfl⟩)).elim
    |false=>rfl
   unfold dC at h2⊢;simpa[aF,bM]using h2
end
def swap(l:List (Nat×Nat)):List (Nat×Nat):=l.map λp=>(p.2,p.1)
def wF{l:List (Nat×Nat)}{p i:Nat}:(i,p)∈swap l↔(p,i)∈l:=by
 simp only[swap,dk,wj,Prod.exists];constructor
 ·rintro⟨a,b,h,rfl,rfl⟩;exact h
 ·intro h;exact⟨p,i,h,rfl,rfl⟩
def MW{l:List (Nat×Nat)}(hu:∀p p' i,(p,i)∈l->(p',i)∈l->p=p'){p i:Nat}(h:(p,i)∈l):aF (swap l) i=aa p:=by
 cases hl:aF (swap l) i with
 |none=>exact(yA hl p (wF.2 h)).elim
 |some p'=>have:=wF.1 (dS hl);rw[hu p p' i h this]
def acJ{l:List (Nat×Nat)}(hu:∀p i i',(p,i)∈l->(p,i')∈l->i=i'){p i:Nat}(h:(p,i)∈l):aF l p=aa i:=by
 cases hl:aF l p with
 |none=>exact(yA hl i h).elim
 |some i'=>rw[hu p i i' h (dS hl)]
def vv{known:List (Nat×Nat)}:∀{k:Nat} {po:List (Nat×PO)} {p i:Nat},(p,i)∈iG known k po->bP (po.map bV) p=ab∧(aF known p=aa i∨(aF known p=none∧k<=i∧i<k+po.length))
 |k,[],p,i,h=>by cases h
 |k,(q,x)::r,p,i,h=>by
  simp only[iG]at h;split at h
  ·rename_i i' hi;rcases cj.1 h with e1|h
   ·cases e1;exact⟨by simp[bP],.inl hi⟩
   ·obtain⟨h1,h2⟩:=vv h;refine⟨by simp only[gC,bP];cases aW q p<;>simp[h1],?_⟩;rcases h2 with h2|⟨h2,h3,h4⟩
    ·exact .inl h2
    ·exact .inr ⟨h2,h3,by simp;omega⟩
  ·rename_i hi;rcases cj.1 h with e1|h
   ·cases e1;exact⟨by simp[bP],.inr ⟨hi,bw _,by simp⟩⟩
   ·obtain⟨h1,h2⟩:=vv h;refine⟨by simp only[gC,bP];cases aW q p<;>simp[h1],?_⟩;rcases h2 with h2|⟨h2,h3,h4⟩
    ·exact .inl h2
    ·exact .inr ⟨h2,by omega,by simp;omega⟩
def acg{known:List (Nat×Nat)}:∀{k:Nat} {po:List (Nat×PO)},(iG known k po).map bV=po.map bV
 |k,[]=>rfl
 |k,(q,x)::r=>by simp only[iG];split<;>simp[acg]
def Tm{known:List (Nat×Nat)}{B:Nat}(hk:∀p p' i,(p,i)∈known->(p',i)∈known->p=p'):∀{k:Nat} {po:List (Nat×PO)} {p p' i:Nat},k+po.length<=B->(∀q j,(q,j)∈known->j<k∨B<=j)->(p,i)∈iG known k po->(p',i)∈iG known k po->p=p'
 |k,[],p,p',i,_,_,h,_=>by cases h
 |k,(q,x)::r,p,p',i,hB,aS,h,h'=>by
  simp only[List.length_cons]at hB;simp only[iG]at h h';split at h
  ·rename_i i' hi;rw[hi]at h';rcases cj.1 h with e1|g1<;>rcases cj.1 h' with e2|g2
   ·cases e1;cases e2;rfl
   ·cases e1;rcases(vv g2).2 with h2|⟨_,h2,h3⟩
    ·exact hk _ _ _ (dS hi) (dS h2)
    ·have:=aS _ _ (dS hi);omega
   ·cases e2;rcases(vv g1).2 with h2|⟨_,h2,h3⟩
    ·exact hk _ _ _ (dS h2) (dS hi)
    ·have:=aS _ _ (dS hi);omega
   ·exact Tm hk (by omega) aS g1 g2
  ·rename_i hi;rw[hi]at h';have Be:∀q j,(q,j)∈known->j<k+1∨B<=j:=λq j hq=>(aS q j hq).imp (λh=>by omega) id;rcases cj.1 h with e1|g1<;>rcases cj.1 h' with e2|g2
   ·cases e1;cases e2;rfl
   ·cases e1;rcases(vv g2).2 with h2|⟨_,h2,_⟩
    ·have:=aS _ _ (dS h2);omega
    ·omega
   ·cases e2;rcases(vv g1).2 with h2|⟨_,h2,_⟩
    ·have:=aS _ _ (dS h2);omega
    ·omega
   ·exact Tm hk (by omega) Be g1 g2
def jx(m:M D)(x:Nat):Nat:=match aF (swap m.ids) x with
 |some p=>p
 |none=>if bP m.kr x||bP m.ku x then 0 else 3
def qL(γ:Gh D)(m:M D):Nat->ai:=λp=>match aF m.ids p with
 |some i=>match aF m.new i with
  |some _=> .slice none 0 0
  |none=>γ.g i
 |none=>γ.g p
def WQ{ob:List (Nat×Option (AO D))}:∀{Φ:List (az D)} {f:Nat} {as:List (AV D)} {l:List Nat} {c:az D},Q.R ob (I3 Φ f as) l c->c∈Φ∧c.f=f
 |[],f,as,l,c,h=>(h:False).elim
 |c0::r,f,as,l,c,h=>by
  simp only[I3]at h;split at h
  ·rename_i hb;simp only[bt]at hb;obtain⟨l1,l2,x,_,_,h2⟩:=Q.ga h;split at h2
   ·obtain⟨_,rfl⟩:=h2;exact⟨by simp,bA hb.1⟩
   ·obtain⟨h3,h4⟩:=WQ h2;exact⟨by simp[h3],h4⟩
  ·obtain⟨h1,h2⟩:=WQ h;exact⟨by simp[h1],h2⟩
def ap_{call:Bool}{xb:Nat}{po:List (Nat×PO)}{vB:List (Nat×Nat)}{nf:Nat}{m:M D}{fl:List (DV D)}(hex:QD T call xb po vB nf m fl){p i:Nat}(h:(p,i)∈m.ids):jx m i=p:=by unfold jx;rw[MW hex.ids h]
def Dw(m:M D)(x:Nat):(∃p,(p,x)∈m.ids∧jx m x=p)∨((∀p,(p,x)∉m.ids)∧((jx m x=0∧(x∈m.kr∨x∈m.ku))∨(jx m x=3∧x∉m.kr∧x∉m.ku))):=by
 unfold jx;cases hl:aF (swap m.ids) x with
 |some p=>exact .inl ⟨p,wF.1 (dS hl),rfl⟩
 |none=>
  refine .inr ⟨λp hp=>yA hl p (wF.2 hp),?_⟩;by_cases h1:bP m.kr x=ab
  ·exact .inl ⟨by simp[h1],.inl (eA.1 h1)⟩
  ·by_cases h2:bP m.ku x=ab
   ·exact .inl ⟨by simp[h2],.inr (eA.1 h2)⟩
   ·exact .inr ⟨by simp[h1,h2],λh=>h1 (eA.2 h),λh=>h2 (eA.2 h)⟩
def ID{call:Bool}{xb:Nat}{po:List (Nat×PO)}{vB:List (Nat×Nat)}{nf:Nat}{m:M D}{fl:List (DV D)}(hex:QD T call xb po vB nf m fl){p i:Nat}(h:(p,i)∈m.ids):
  ((∃x,(i,x)∈m.new)->qL γ m p= .slice none 0 0)∧((∀x,(i,x)∉m.new)->qL γ m p=γ.g i):=by
 unfold qL
 rw[acJ hex.Ud h]
 constructor
 ·rintro⟨x,hx⟩;cases hl:aF m.new i with
  |none=>exact(yA hl x hx).elim
  |some y=>dsimp only;rw[hl]
 ·intro hn;cases hl:aF m.new i with
  |none=>dsimp only;rw[hl]
  |some y=>exact(hn y (dS hl)).elim
def sH{α:Type}{l:List (Nat×α)}{p:Nat}(h:bP (l.map bV) p=ab):∃q,(p,q)∈l:=by have:=eA.1 h;simp only[dk]at this;obtain⟨⟨a,b⟩,h1,rfl⟩:=this;exact⟨b,h1⟩
def afE{nf:Nat}{po:List (Nat×PO)}{m:M D}{fl:List (DV D)}(bK:OB U γ w ob)(hex:QD T ab 0 po [] nf m fl)(NB:∀i,nf<=i->i<m.nf->¬U i)(oJ:po.all (λp=>eN 1000 p.1&&Nat.blt p.1 1100)=ab)(eL:fl.length<=900):
  Fin T U U0 γ ⟨λb=>jx m (γ.o b),qL γ m,gm γ.v 1100 fl⟩ w m fl 1100∧FT γ ⟨λb=>jx m (γ.o b),qL γ m,gm γ.v 1100 fl⟩ m:=by
 have hp:∀p i,(p,i)∈m.ids->1000<=p∧p<1100:=λp i h=>by obtain⟨q,hq⟩:=sH (hex.key p i h);have:=dX.1 oJ _ hq;simp only[bt]at this;exact⟨dw this.1,dw this.2⟩
 have HZ:∀x∈m.kr,x<2->jx m x=0:=λx hx h2=>by
  rcases Dw m x with⟨p,h1,_⟩|⟨_,h1⟩
  ·have:=hex.D1 p x h1;omega
  ·rcases h1 with h1|h1
   ·exact h1.1
   ·exact(h1.2.1 hx).elim
 have xf:∀x∈m.ku,jx m x=0:=λx hx=>by
  rcases Dw m x with⟨p,h1,_⟩|⟨_,h1⟩
  ·exact((hex.ku x hx).2 p h1).elim
  ·rcases h1 with h1|h1
   ·exact h1.1
   ·exact(h1.2.2 hx).elim
 refine⟨⟨hex.dv,λp i h=>⟨?_,ID hex h⟩,λi x h=>?_,λh=>?_,λK Kp eE hK xg b hb=>?_,λj K Kp hj eE hK xg b hb=>?_,λi d hd=>?_⟩,⟨λp i h b hb=>?_⟩⟩
 ·have:=hp p i h;show p<2000;omega
 ·have:=hex.new _ h;exact NB i this.1 this.2
 ·rw[hex.BV]at h;cases h
 ·unfold M.may at eE;rw[hex.BV]at eE;simp only[aH,sj]at eE;have iq:γ.o b∈K:=hb;have h1:=HZ _ (xg _ iq) (hK _ iq);show jx m (γ.o b)∈Kp;rw[h1];rcases eE with h2|h2
  ·cases K with
   |nil=>cases iq
   |cons _ _=>cases h2
  ·exact eA.1 h2
 ·unfold M.may at eE;rw[hex.BV]at eE;simp only[aH,sj,List.isEmpty_cons,Bool.false_eq_true,false_or]at eE;have h1:jx m (γ.o b)=0:=by
   have iq:γ.o b∈j::K:=hb;rcases cj.1 iq with h2|h2
   ·rw[h2];exact xf j hj
   ·exact HZ _ (xg _ h2) (hK _ h2)
  show jx m (γ.o b)∈Kp;rw[h1];exact eA.1 eE
 ·refine .inr ⟨?_,Hl hd⟩;have:=(g9.1 hd).1;show 1100+i<2000;omega
 ·show jx m (γ.o b)=p;rw[hb];exact ap_ hex h
def B5(ids:List (Nat×Nat))(x:Nat):Nat:=match aF ids x with
 |some i=>i
 |none=>if x=1 then 1 else 2
def af_{P:Program}{ar:Nat}{sl:List (Nat×AV D)}{L:List (Nat×ai)}{e:de D}(hR:cK T){Φ:List (az D)}(cU:∀c∈Φ,gz P T c)(hx:Cx U ar γ w sl L ob){f:Nat}{args:List (AV D)}{vs:List ai}(hv:nz U γ w args vs)(h:Q.R ob (Pa T Φ ar f args) l e):
  (∀(a:Array ai) (w:ax),(callFunc f a).run P w= .ok (.enter f a) w)∧Calls P f vs.toArray w (mi λv w'=>∃γ',dW U ar γ w ob e γ' v w'):=by
 unfold Pa at h
 have hq:=Q.ga h
 clear h
 obtain⟨l0,l9,c,_,hc,h⟩:=hq
 obtain⟨xl,rfl⟩:=WQ hc
 have qH:=cU c xl
 refine⟨qH.Wb,?_⟩
 obtain⟨l1,l2,x,_,h1,h2⟩:=Q.ga h
 split at h2
 case isTrue=>exact(h2:False).elim
 rename_i sQ
 simp only[sj,bt,not_or,not_and,Bool.not_eq_true,Bool.not_eq_false']at sQ
 obtain⟨⟨awb,Ea⟩,kW⟩:=sQ
 have Ea:x.2.nf<=ar+8:=dw (by simpa using Ea)
 obtain⟨y,hy,h3⟩:=h2
 dsimp only at h3
 split at h3
 case h_2=>exact(h3:False).elim
 rename_i rs1 MB auu ad_
 split at h3
 case isFalse=>exact(h3:False).elim
 rename_i yU
 have yU:=dw yU
 obtain⟨_,rfl⟩:=h3
 obtain⟨⟨hex,Eg⟩,vK⟩:=N7 hR hx.ob h1 hv
 obtain⟨hh,m⟩:=x
 dsimp only at*
 unfold y8 at kW
 dsimp only at kW
 split at kW
 case isFalse=>cases kW
 rename_i yX
 simp only[bt]at yX
 have eL:=dw yX.1
 have oJ:=yX.2
 split at kW
 case h_2=>cases kW
 rename_i as0 Tj aeP ad'
 have NB:∀i,ar<=i->i<m.nf->¬U i:=λi h1 h2=>hx.fresh i h1 (by omega)
 obtain⟨Bz,By⟩:=afE (γ:=γ) (w:=w) hx.ob hex NB oJ eL
 obtain⟨g1,g2⟩:=vK Bz By
 have hp:∀p i,(p,i)∈m.ids->1000<=p∧p<1100:=λp i h=>by obtain⟨q,hq⟩:=sH (hex.key p i h);have:=dX.1 oJ _ hq;simp only[bt]at this;exact⟨dw this.1,dw this.2⟩
 have auV:OB U0 ⟨λb=>jx m (γ.o b),qL γ m,gm γ.v 1100 (dK T c.ins hh)⟩ w Tj:=by
  refine⟨λi x hx=>?_,λb hb=>?_,λx hx=>?_⟩
  ·obtain⟨k1,k2,k3⟩:=g2 Tj ad' i x hx;obtain⟨q,hq⟩:=sH k1;have:=dX.1 oJ _ hq;simp only[bt]at this;exact⟨dw this.1,k2,k3⟩
  ·show jx m (γ.o b)<2000;rcases Dw m (γ.o b)with⟨p,h1,h2⟩|⟨_,h1⟩
   ·have:=hp p _ h1;omega
   ·rcases h1 with h1|h1<;>omega
  ·show x<2000;omega
 refine Calls.mono (qH.run hh y hy as0 Tj aeP ad' _ w vs (g1 as0 aeP) auV) ?_
 rintro e' w' ⟨v,rfl,U',γ',rs,ko,l8,auT,sJ,UL,auk,eF⟩
 have Bj:=qH.key
 have aeq:∀p i,aF (iG m.ids (ar+8) c.cn) p=aa i->(p,i)∈iG m.ids (ar+8) c.cn:=λp i h=>dS h
 have ave:∀q j,(q,j)∈m.ids->j<ar+8∨ar+128<=j:=λq j hq=>by
  rcases Eg q j hq with h|⟨x,h⟩
  ·rcases hx.fU h with h|h
   ·exact .inl (by omega)
   ·exact .inr h
  ·have:=hex.new _ h;exact .inl (by simp only at this;omega)
 have aEP:c.cn.length<=40:=dw qH.uv
 have U9:∀p p' i,(p,i)∈iG m.ids (ar+8) c.cn->(p',i)∈iG m.ids (ar+8) c.cn->p=p':=λp p' i h h'=>Tm (B:=ar+128) hex.ids (by omega) ave h h'
 have qK:∀p i,(p,i)∈iG m.ids (ar+8) c.cn->1000<=p∧1000<=i:=λp i h=>by
  obtain⟨k1,k2⟩:=vv h;obtain⟨q,hq⟩:=sH k1;refine⟨dw (dX.1 qH.cO _ hq),?_⟩;rcases k2 with k2|⟨_,k2,_⟩
  ·exact hex.D1 _ _ (dS k2)
  ·have:=hx.cO;omega
 have av2:∀b,b<w.heap.size->(∃p,(p,γ.o b)∈m.ids)∨((jx m (γ.o b)=0∨jx m (γ.o b)=3)∧∀p,(p,γ.o b)∉m.ids):=λb hb=>by
  rcases Dw m (γ.o b)with⟨p,h1,_⟩|⟨h0,h1⟩
  ·exact .inl ⟨p,h1⟩
  ·exact .inr ⟨h1.imp (λh=>h.1) (λh=>h.1),h0⟩
 obtain⟨iV,vE⟩:∃iV:cE,iV=λb=>if b<w.heap.size∧(jx m (γ.o b)=0∨jx m (γ.o b)=3)then γ.o b else B5 (iG m.ids (ar+8) c.cn) (γ'.o b):=⟨_,rfl⟩
 obtain⟨BD,aex⟩:∃BD:Nat->ai,BD=λi=>match aF (swap (iG m.ids (ar+8) c.cn)) i with
  |some p=>γ'.g p
  |none=>γ.g i:=⟨_,rfl⟩
 have aeh:∀b,b<w.heap.size->(∀p,(p,γ.o b)∉m.ids)->iV b=γ.o b∧w'.heap[b]? =w.heap[b]? :=λb hb hn=>by
  rcases av2 b hb with⟨p,h1⟩|⟨h1,_⟩
  ·exact(hn p h1).elim
  ·rw[vE];exact⟨aI ⟨hb,h1⟩,(eF.ro b hb h1).2⟩
 have HZ:∀b,b<w.heap.size->γ.o b<1000->iV b=γ.o b∧w'.heap[b]? =w.heap[b]? :=λb hb aS=>aeh b hb λp hp=>by have:=hex.D1 p _ hp;omega
 have xn:∀x,(∃i,(x,i)∈iG m.ids (ar+8) c.cn∧B5 (iG m.ids (ar+8) c.cn) x=i)∨B5 (iG m.ids (ar+8) c.cn) x=1∧x=1∨B5 (iG m.ids (ar+8) c.cn) x=2:=λx=>by
  unfold B5;cases hl:aF (iG m.ids (ar+8) c.cn) x with
  |some i=>exact .inl ⟨i,dS hl,rfl⟩
  |none=>
   by_cases h1:x=1
   ·exact .inr (.inl ⟨by simp[h1],h1⟩)
   ·exact .inr (.inr (by simp[h1]))
 have hgU:∀i,U i->BD i=γ.g i:=λi hi=>by
  rw[aex];dsimp only;cases hl:aF (swap (iG m.ids (ar+8) c.cn)) i with
  |none=>rfl
  |some p=>
   have hm:=wF.1 (dS hl);obtain⟨k1,k2⟩:=vv hm;rcases k2 with k2|⟨_,k2,k3⟩
   ·have iJ:=dS k2;have b6:(p,p)∈stay c:=by obtain⟨q,hq⟩:=sH k1;unfold stay;simp only[dk,kH];exact⟨(p,q),⟨hq,hex.key p i iJ⟩,rfl⟩
    show γ'.g p=γ.g i;rw[auk p b6];exact(ID hex iJ).2 λx hxn=>NB i (hex.new _ hxn).1 (hex.new _ hxn).2 hi
   ·exact(hx.fresh i (by omega) (by omega) hi).elim
 have avC:Frame γ w ⟨iV,BD,gm γ.v (ar+16) (dK T c.outs y)⟩ w':=by
  refine⟨⟨eF.os,eF.tape,eF.output,eF.size,λb hb hc=>HZ b hb (by omega),λb hb hc=>?_⟩,λi hi=>hgU i (hx.ob.ro i hi)⟩;simp only at hc⊢;by_cases h1:b<w.heap.size∧(jx m (γ.o b)=0∨jx m (γ.o b)=3)
  ·refine⟨h1.1,?_⟩;rw[vE];exact(aI h1).symm
  ·exfalso;rw[vE]at hc;simp only[aK h1]at hc;rcases xn (γ'.o b)with⟨i,h2,h3⟩|⟨h2,_⟩|h2
   ·have:=(qK _ _ h2).2;omega
   ·omega
   ·omega
 have fE:iN U (jG U ar) γ w ⟨iV,BD,gm γ.v (ar+16) (dK T c.outs y)⟩ w':=
  ⟨λi h=> .inl h,hgU,λi hi=>sE hx yU hi,λb hb hc=>HZ b hb (by omega)⟩
 have Es:∀p i,(p,i)∈iG m.ids (ar+8) c.cn->jG U ar i:=λp i h=>by
  rcases(vv h).2 with k2|⟨_,k2,k3⟩
  ·rcases Eg p i (dS k2)with h|⟨x,h⟩
   ·exact .inl h
   ·have:=hex.new _ h;simp only at this;exact .inr ⟨this.1,by omega⟩
  ·exact .inr ⟨by omega,by omega⟩
 have A5:Re (λx=>x<2∧(x=0->c.Fg=ab)) U' (jG U ar) γ' ⟨iV,BD,gm γ.v (ar+16) (dK T c.outs y)⟩ w' (dK T c.outs y) (aF (iG m.ids (ar+8) c.cn)) (λK=>(if bP K 0 then m.kr else [])++(if bP K 1 then [1]else [])) (ar+16):=by
  refine⟨λp i w9=>⟨Es p i (dS w9),?_⟩,λK hK=>⟨?_,λb hb yY=>?_⟩,λi d hd hi=>mD (γ:=γ) rfl hi hd,yU⟩
  ·show BD i=γ'.g p;rw[aex];dsimp only;rw[MW U9 (dS w9)]
  ·intro x hx;rcases bg.1 hx with hx|hx
   ·split at hx
    ·exact hex.kr x hx
    ·cases hx
   ·split at hx
    ·simp only[List.mem_singleton]at hx;omega
    ·cases hx
  ·have yY:γ'.o b∈K:=yY;show iV b∈_;have h01:=(hK _ yY).1;have hz:γ'.o b=0∨γ'.o b=1:=by omega
   rcases hz with hz|hz
   ·obtain⟨k1,k2⟩:=eF.back b hb (.inl hz);rw[hz]at k2;have k2:jx m (γ.o b)=0:=k2;have k3:iV b=γ.o b:=by rw[vE];exact aI ⟨k1,.inl k2⟩
    rw[k3];have nV:=(hK _ yY).2 hz;have xf:m.ku=[]:=by simpa using awb nV
    rcases Dw m (γ.o b)with⟨p,h1,h2⟩|⟨_,h1⟩
    ·have:=hp p _ h1;omega
    ·rcases h1 with h1|h1
     ·rcases h1.2 with h2|h2
      ·rw[hz]at yY;rw[aI (eA.2 yY)];exact bg.2 (.inl h2)
      ·rw[xf]at h2;cases h2
     ·omega
   ·have k3:iV b=1:=by
     rw[vE];dsimp only;split
     ·rename_i hc;have:=(eF.ro b hc.1 hc.2).1;have k4:γ'.o b=jx m (γ.o b):=this;omega
     ·rw[hz];unfold B5;cases hl:aF (iG m.ids (ar+8) c.cn) 1 with
      |none=>rfl
      |some i=>have:=(qK 1 i (dS hl)).1;omega
    rw[k3];rw[hz]at yY;rw[aI (eA.2 yY)];simp
 have ji:=qH.ks
 unfold tU at ji
 simp only[bt,dX]at ji
 have ir:∀x∈c.kl.flatMap tT,x<2∧(x=0->c.Fg=ab):=λx hx=>⟨dw (ji.1 x hx),λe=>by subst e;unfold az.Fg;exact eA.2 (bg.2 (.inl hx))⟩
 have iL:∀x∈c.cn.flatMap (λp=>tS p.2),x<2∧(x=0->c.Fg=ab):=λx hx=>⟨dw (ji.2 x hx),λe=>by subst e;unfold az.Fg;exact eA.2 (bg.2 (.inr hx))⟩
 refine⟨v,rfl,_,avC,fE,aqa A5 ir l8 auu sJ,?_⟩
 refine arC hx.ob fE (λi U_ hi rI b hb NJ=>?_) (λb hb=>?_) (λi x jC ky=>?_)
 ·refine aeh b hb λp w9=>rI ?_;rw[NJ]at w9;show i∈(MB++IX m.ids c.cn).map bV++[];rw[List.append_nil,List.map_append,bg];cases hm:bP (c.cn.map bV) p with
  |true=>
   obtain⟨q,hq⟩:=sH hm;refine .inl (adi ad_ hq ?_);have h5:∃i',(p,i')∈iG m.ids (ar+8) c.cn:=by
    have:p∈(iG m.ids (ar+8) c.cn).map bV:=by rw[acg];exact eA.1 hm
    simp only[dk]at this;obtain⟨⟨a,b⟩,h1,rfl⟩:=this;exact⟨b,h1⟩
   cases hl:aF (iG m.ids (ar+8) c.cn) p with
   |none=>obtain⟨i',et⟩:=h5;exact(yA hl i' et).elim
   |some i'=>
    rcases(vv (dS hl)).2 with k2|⟨k2,_⟩
    ·rw[acJ hex.Ud w9]at k2;exact k2.symm▸rfl
    ·exact(yA k2 i w9).elim
  |false=>refine .inr ?_;unfold IX;simp only[dk,kH,Prod.exists];exact⟨i,none,⟨p,i,⟨w9,by simp[hm]⟩,rfl⟩,rfl⟩
 ·show jG U ar (iV b);rw[vE];dsimp only;split
  ·rename_i h1;exact .inl (hx.ob.cl b h1.1)
  ·rcases xn (γ'.o b)with⟨i,h2,h3⟩|⟨h2,_⟩|h2
   ·rw[h3];exact Es _ _ h2
   ·rw[h2];exact .inl (hx.ob.ro 1 (by omega))
   ·rw[h2];exact .inl (hx.ob.ro 2 (by omega))
 ·have jC:aF (MB++IX m.ids c.cn) i=aa (aa x):=jC;rw[kq]at jC;have h5:aF MB i=aa (aa x):=by
   cases hl:aF MB i with
   |some y=>rw[hl]at jC;exact jC
   |none=>rw[hl]at jC;have:=dS jC;unfold IX at this;simp only[dk,kH,Prod.exists,wj,reduceCtorEq,and_false,exists_false]at this
  obtain⟨p,q,y',k1,k2,k3,k4⟩:=T5 ad_ h5;cases k4;obtain⟨y0,m1,m2⟩:=adh auT Bj k1;have iJ:=dS k2;refine⟨(qK _ _ iJ).2,Es _ _ iJ,atB A5 (λz hz=>iL z (F3.2 ⟨_,k1,hz⟩)) (A5.id p i k2).2 (λb hb VA=>?_) m1 k3 (UL p y0 m2)⟩;show iV b=i;rw[vE];dsimp only;have yO:=(qK _ _ iJ).1;split
  ·rename_i hc;have:=(eF.ro b hc.1 hc.2).1;have k4:γ'.o b=jx m (γ.o b):=this;omega
  ·rw[VA];unfold B5;rw[k2]
