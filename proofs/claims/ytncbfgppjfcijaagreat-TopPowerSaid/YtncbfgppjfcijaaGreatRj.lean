import Derived.Test.YtncbfgppjfcijaaGreatRh
set_option linter.unusedVariables false
set_option linter.unusedSimpArgs false
set_option linter.unusedSectionVars false
open Array renaming getElem?_eq_some_iff→aq5
open Bool renaming and_eq_true→aqL,not_eq_true'→arC,or_eq_true→arW
open List renaming all_eq_true→aq0,getElem?_eq_some_iff→aq9,map_cons→arb,mem_append→aqP,mem_cons→aqR,mem_cons_of_mem→aq7,mem_filter→arf,mem_flatMap→asa,mem_map→aqX
open Nat renaming beq→aqH,ble→aq2,eq_of_beq_eq_true→aqK,le_of_ble_eq_true→aqT,le_refl→aqM
open Option.some renaming inj→are,injEq→aq3
open Prod renaming fst→aqO
open Prod.mk renaming injEq→arP
namespace Go.Proofs.YtncbfgppjfcijaaGreat
open Go Go.RowKit Dp
namespace Rx
section
variable {D:Nat→Type} [∀n,ab (D n)]
variable {T:aV D} {U U':Nat→Prop} {γ γ':Gh D} {w:World} {ob:List (Nat×Option (AO D))} {l:List Nat}
structure cR(m m2:M D):Prop where
 call:m2.call=m.call
 xb:m2.xb=m.xb
 tl:m2.tl=m.tl
 po:m2.po=m.po
 ids:∀p∈m.ids,p∈m2.ids
 eg:∀p∈m.eg,p∈m2.eg
 ku:∀i∈m.ku,i∈m2.ku
 kr:∀i∈m.kr,i∈m2.kr
 new:∀p∈m.new,p∈m2.new
 nf:m.nf≤m2.nf
 nw:∀p∈m2.new,p∈m.new∨(m.nf≤p.1∧p.1<m2.nf∧∃n t,p.2= .sl n t [] [] 0)
theorem cR.same{m m2:M D}(h1:m2.call=m.call∧m2.xb=m.xb)(h2:m2.tl=m.tl)(h3:m2.po=m.po)(h4:∀p∈m.ids,p∈m2.ids)(h5:∀p∈m.eg,p∈m2.eg)(h6:∀i∈m.ku,i∈m2.ku)(h7:∀i∈m.kr,i∈m2.kr)(h8:m2.new=m.new)(h9:m2.nf=m.nf):cR m m2:=
 ⟨h1.1,h1.2,h2,h3,h4,h5,h6,h7,fun p hp=>by rw[h8];exact hp,by omega,fun p hp=> .inl (by rw[h8] at hp;exact hp)⟩
theorem cR.refl(m:M D):cR m m:= .same ⟨rfl,rfl⟩ rfl rfl (fun _ h=>h) (fun _ h=>h) (fun _ h=>h) (fun _ h=>h) rfl rfl
theorem cR.trans{m m2 m3:M D}(h:cR m m2)(k:cR m2 m3):cR m m3:=
 ⟨k.call.trans h.call,k.xb.trans h.xb,k.tl.trans h.tl,k.po.trans h.po,fun p hp=>k.ids p (h.ids p hp),fun p hp=>k.eg p (h.eg p hp),fun p hp=>k.ku p (h.ku p hp),fun p hp=>k.kr p (h.kr p hp),fun p hp=>k.new p (h.new p hp),Nat.le_trans h.nf k.nf,fun p hp=>by
   have h1:=h.nf
   have h2:=k.nf
   rcases k.nw p hp with hp|hp
   · rcases h.nw p hp with hp|hp
     · exact .inl hp
     · exact .inr ⟨hp.1,by omega,hp.2.2⟩
   · exact .inr ⟨by omega,hp.2⟩⟩
structure Fin(T:aV D)(U U':Nat→Prop)(γ γ':Gh D)(w:World)(m:M D)(fl:List (DV D))(tg:Nat):Prop where
 dv:∀i d,(i,d)∈m.eg→fl[i]? =some d
 id:∀p i,(p,i)∈m.ids→U' p∧((∃x,(i,x)∈m.new)→γ'.g p= .slice none 0 0)∧((∀x,(i,x)∉m.new)→γ'.g p=γ.g i)
 fresh:∀i x,(i,x)∈m.new→¬U i
 ext:m.call=false→∀p,bp (m.po.map aqO) p=false→p<m.xb→U p→U' p∧γ'.g p=γ.g p
 may:∀K Kp,m.may K Kp=true→cT K→(∀x∈K,x∈m.kr)→∀b,In γ.o K b→In γ'.o Kp b
 own:∀j K Kp,j∈m.ku→m.may (1::K) Kp=true→cT K→(∀x∈K,x∈m.kr)→∀b,In γ.o (j::K) b→In γ'.o Kp b
 nm:∀i d,fl[i]? =some d→named U' γ' (tg+i) d
section
variable {m m' mf:M D} {fl:List (DV D)} {tg:Nat}
theorem agA{i:Nat}{K:List Nat}{lf:Lf}{x:lf.den D}(h:fl[i]? =some ⟨lf,x⟩):fP T fl some id tg (.h i K)=some (.v lf x (uD K lf) (tg+i)):=by
 simp only[fP,h,id]
theorem cq.QS{i:Nat}{lf:Lf}{x:lf.den D}{v:Value}{K:List Nat}(h:cq (In γ'.o K) w v ⟨lf,x⟩)(hK:cT K)(hn:named U' γ' (tg+i) ⟨lf,x⟩):
  dR U' γ' w (.v lf x (uD K lf) (tg+i)) v:=by
 cases lf with
 |sl n=>exact⟨h,hn,hK⟩
 |int k=>exact⟨h,hn,jf⟩
 |bool=>exact⟨h,hn,jf⟩
 |str=>exact⟨h,hn,jf⟩
theorem alv(bb:OB U γ w ob){i n off ct q t tc g:Nat}{j:Int}{dd:List (D q)}{xs:List (D n)}{v:Value}(ho:cw ob i=some (.bU n t tc q xs g ct))(hv:dR U γ w (.ch i n j off ct q dd) v):Rv (In γ.o [i]) w v dd:=by
 obtain⟨hU,⟨MY,_⟩,⟨ko,y,e1,e2,sy⟩,⟨b,len,cap,cells,hg,BK,oO⟩,_⟩:=hv
 obtain⟨_,_,m1,m2,m3⟩:=bb.ob _ _ ho
 rcases m3 with m3|⟨_,m0,alw,m4,m5⟩
 · exact(MY m3).elim
 rw[BK] at m4
 cases m4
 rw[m0] at e1
 cases e1
 obtain⟨cs,k1,k2⟩:=dM.at m1.ow.bS hg e2
 obtain⟨u,k3,k4⟩:=sy _ _ _ k1
 have aK:=(aq9.1 k3).1
 have hu:u=v:=by
  have h1:=k2 off u k3
  rw[H_] at h1
  rw[m5 b len cap _ hg,oO] at h1
  exact(are h1).symm
 subst hu
 refine k4.weaken fun b hb=> ?_
 unfold In at hb⊢
 simp only[aqR,List.not_mem_nil,or_false] at hb⊢
 exact(xz hb).1
theorem AI(bb:OB U γ w ob){i:Nat}{Kp:List Nat}{a:A1 D}{v:Value}(hK:cT Kp)(h:Q.R ob (qD m i Kp a) l m')(hv:dR U γ w a v):
  cR m m'∧m'.ids=m.ids∧m'.new=m.new∧m'.nf=m.nf∧(cR m' mf→Fin T U U' γ γ' w mf fl tg→∃d,fl[i]? =some d∧cq (In γ'.o Kp) w v d):=by
 cases a with
 |v lf x K g=>
  simp only[qD] at h
  split at h
  case isFalse=>exact(h:False).elim
  rename_i cU
  obtain⟨_,rfl⟩:=h
  refine⟨.same ⟨rfl,rfl⟩ rfl rfl (fun _ h=>h) (fun _ h=>aq7 _ h) (fun _ h=>h) (fun _ h=>aqP.2 (.inr h)) rfl rfl,rfl,rfl,rfl,fun hle hF=> ?_⟩
  have h1:=hF.dv i ⟨lf,x⟩ (hle.eg _ (by simp[M.dv,M.reads]))
  refine⟨_,h1, ?_⟩
  refine hv.1.weaken (hF.may K Kp ?_ hv.2.2 fun x hx=>hle.kr _ (by simp[M.dv,M.reads,hx]))
  unfold M.may at cU⊢
  rw[hle.call]
  exact cU
 |vb n xs K g b=>
  simp only[qD] at h
  split at h
  case isFalse=>exact(h:False).elim
  rename_i cU
  obtain⟨_,rfl⟩:=h
  refine⟨.same ⟨rfl,rfl⟩ rfl rfl (fun _ h=>h) (fun _ h=>aq7 _ h) (fun _ h=>h) (fun _ h=>aqP.2 (.inr h)) rfl rfl,rfl,rfl,rfl,fun hle hF=> ?_⟩
  have h1:=hF.dv i ⟨.sl n,xs⟩ (hle.eg _ (by simp[M.dv,M.reads]))
  refine⟨_,h1, ?_⟩
  refine cq.weaken (x:=⟨.sl n,xs⟩) (hF.may K Kp ?_ hv.1.2.2 fun x hx=>hle.kr _ (by simp[M.dv,M.reads,hx])) hv.1.1
  unfold M.may at cU⊢
  rw[hle.call]
  exact cU
 |bi=>
  simp only[qD] at h
  split at h
  case h_2=>exact(h:False).elim
  rename_i n hn
  obtain⟨_,rfl⟩:=h
  refine⟨.same ⟨rfl,rfl⟩ rfl rfl (fun _ h=>h) (fun _ h=>aq7 _ h) (fun _ h=>h) (fun _ h=>h) rfl rfl,rfl,rfl,rfl,fun hle hF=> ?_⟩
  have h1:=hF.dv i ⟨.sl n,[]⟩ (hle.eg _ (by simp[M.dv]))
  have hv:v= .slice none 0 0:=hv
  subst hv
  exact⟨_,h1,wY _ _⟩
 |own j=>
  obtain⟨ao,l',ho,rfl,h⟩:=h
  dsimp only at h
  split at h
  · rename_i dv K vh
    split at h
    case isFalse=>exact(h:False).elim
    rename_i cU
    obtain⟨_,rfl⟩:=h
    refine⟨.same ⟨rfl,rfl⟩ rfl rfl (fun _ h=>h) (fun _ h=>aq7 _ h) (fun _ h=>h) (fun _ h=>aqP.2 (.inr h)) rfl rfl,rfl,rfl,rfl,fun hle hF=> ?_⟩
    have h1:=hF.dv i dv (hle.eg _ (by simp[M.dv,M.reads]))
    obtain⟨_,rfl,_⟩:=hv
    obtain⟨_,_,k0⟩:=bb.ob _ _ ho
    obtain⟨k1,k2⟩:=ZC k0 vh
    refine⟨_,h1, ?_⟩
    refine cq.weaken (hF.may K Kp ?_ k2 fun x hx=>hle.kr _ (by simp[M.dv,M.reads,hx])) k1
    unfold M.may at cU⊢
    rw[hle.call]
    exact cU
  split at h
  case h_2=>exact(h:False).elim
  rename_i dv K vh
  split at h
  case isFalse=>exact(h:False).elim
  rename_i cU
  obtain⟨_,rfl⟩:=h
  refine⟨.same ⟨rfl,rfl⟩ rfl rfl (fun _ h=>h) (fun _ h=>aq7 _ h) (fun _ h=>aq7 _ h) (fun _ h=>aqP.2 (.inr h)) rfl rfl,rfl,rfl,rfl,fun hle hF=> ?_⟩
  have h1:=hF.dv i dv (hle.eg _ (by simp[M.dv,M.reads,M.pj]))
  obtain⟨_,rfl,_⟩:=hv
  obtain⟨_,_,k0⟩:=bb.ob _ _ ho
  obtain⟨k1,k2⟩:=O7 k0 vh
  refine⟨_,h1, ?_⟩
  refine cq.weaken (hF.own j K Kp (hle.ku _ (by simp[M.pj])) ?_ k2 fun x hx=>hle.kr _ (by simp[M.dv,M.reads,M.pj,hx])) k1
  unfold M.may at cU⊢
  rw[hle.call]
  exact cU
 |ch i' n j off ct q dd=>
  obtain⟨ao,l',ho,rfl,h⟩:=h
  cases ao with
  |box=>exact(h:False).elim
  |sl=>exact(h:False).elim
  |fi=>exact(h:False).elim
  |fz=>exact(h:False).elim
  |mp=>exact(h:False).elim
  |bU n' t' tc q' xs g ht=>
   dsimp only at h
   split at h
   case isFalse=>exact(h:False).elim
   rename_i hc
   simp only[aqL] at hc
   obtain⟨⟨⟨c1,c2⟩,c3⟩,cU⟩:=hc
   have c1:=aqK c1
   have c2:=aqK c2
   have c3:=aqK c3
   subst c1 c2 c3
   obtain⟨_,rfl⟩:=h
   refine⟨.same ⟨rfl,rfl⟩ rfl rfl (fun _ h=>h) (fun _ h=>aq7 _ h) (fun _ h=>aq7 _ h) (fun _ h=>h) rfl rfl,rfl,rfl,rfl,fun hle hF=> ?_⟩
   have h1:=hF.dv i ⟨.sl q,dd⟩ (hle.eg _ (by simp[M.dv,M.pj]))
   refine⟨_,h1, ?_⟩
   have dQ:Rv (In γ.o [i']) w v (dd:List (D q)):=alv bb ho hv
   refine cq.weaken (x:=⟨.sl q,dd⟩) (hF.own i' [] Kp (hle.ku _ (by simp[M.pj])) ?_ jf fun x hx=>by cases hx) dQ
   unfold M.may at cU⊢
   rw[hle.call]
   exact cU
 |_=>exact(h:False).elim
theorem RX(bb:OB U γ w ob){Kp:List Nat}(hK:cT Kp):∀{as:List (A1 D)} {vs:List Value} {m m':M D} {i:Nat} {l:List Nat},Q.R ob (EK Kp m i as) l m'→bX U γ w as vs→
  cR m m'∧m'.ids=m.ids∧m'.new=m.new∧m'.nf=m.nf∧(cR m' mf→Fin T U U' γ γ' w mf fl tg→∃ds,ds.length=as.length∧(∀k d,ds[k]? =some d→fl[i+k]? =some d)∧bK (In γ'.o Kp) w vs ds)
 |[],vs,m,m',i,l,h,hv=>by
  obtain⟨_,rfl⟩:=h
  cases vs with
  |nil=>exact⟨.refl _,rfl,rfl,rfl,fun _ _=>⟨[],rfl,by simp,trivial⟩⟩
  |cons _ _=>exact hv.elim
 |a::as,vs,m,m',i,l,h,hv=>by
  cases vs with
  |nil=>exact hv.elim
  |cons v vs=>
   simp only[EK] at h
   obtain⟨l1,l2,m1,_,h1,h2⟩:=Q.dZ h
   obtain⟨e1,e2,e3,e4,e5⟩:=AI (T:=T) (U':=U') (γ':=γ') (mf:=mf) (fl:=fl) (tg:=tg) bb hK h1 hv.1
   obtain⟨f1,f2,f3,f4,f5⟩:=RX bb hK h2 hv.2
   refine⟨e1.trans f1,f2.trans e2,f3.trans e3,f4.trans e4,fun hle hF=> ?_⟩
   obtain⟨d0,g1,g2⟩:=e5 (f1.trans hle) hF
   obtain⟨ds,k1,k2,k3⟩:=f5 hle hF
   refine⟨d0::ds,by simp[k1],fun k d hk=> ?_,g2,k3⟩
   cases k with
   |zero=>cases hk;exact g1
   |succ k=>
    have:=k2 k d (by simpa using hk)
    rwa[show i+(k+1)=i+1+k from by omega]
theorem RW:∀{ds:List (DV D)} {m:M D} {i:Nat},cR m (qC m i ds)∧(qC m i ds).ids=m.ids∧(qC m i ds).new=m.new∧(qC m i ds).nf=m.nf∧∀k d,ds[k]? =some d→(i+k,d)∈(qC m i ds).eg
 |[],m,i=>⟨.refl _,rfl,rfl,rfl,by simp⟩
 |d::ds,m,i=>by
  obtain⟨h1,h2,h3,h4,h5⟩:=RW (ds:=ds) (m:=m.dv i d) (i:=i+1)
  have h0:cR m (m.dv i d):= .same ⟨rfl,rfl⟩ rfl rfl (fun _ h=>h) (fun _ h=>aq7 _ h) (fun _ h=>h) (fun _ h=>h) rfl rfl
  refine⟨h0.trans h1,h2,h3,h4,fun k e hk=> ?_⟩
  cases k with
  |zero=>
   cases hk
   exact h1.eg _ (by simp[M.dv])
  |succ k=>
   have:=h5 k e (by simpa using hk)
   rwa[show i+(k+1)=i+1+k from by omega]
theorem QZ{fl ds:List (DV D)}{i n:Nat}(hn:ds.length=n)(h:∀k d,ds[k]? =some d→fl[i+k]? =some d):(fl.drop i).take n=ds:=by
 subst hn
 apply List.ext_getElem?
 intro k
 rw[List.getElem?_take]
 split
 · rename_i hk
   rw[List.getElem?_drop,h k ds[k] (by simp[hk])]
   simp[hk]
 · rename_i hk
   rw[List.getElem?_eq_none (by omega)]
theorem SG(hR:bQ T){i n n' off:Nat}{Kp K:List Nat}{x:D n'}(hK:cT Kp)(h:Q.R ob (Fh T m i n Kp n' x off K) l m'){v:Value}(hv:∃pa:Addr,v= .pointer (some (pa.add off))∧ru (In γ.o K) w pa x∧cT K):
  cR m m'∧(cR m' mf→Fin T U U' γ γ' w mf fl tg→∀y:D n,T.gi n ((fl.drop i).take (T.lv n).length)=some y→∃pa:Addr,v= .pointer (some (pa.add 0))∧ru (In γ'.o Kp) w pa y∧cT Kp):=by
 unfold Fh at h
 split at h
 case isFalse=>exact(h:False).elim
 rename_i hc
 simp only[aqL] at hc
 obtain⟨⟨h1,h2⟩,h3⟩:=hc
 have h1:=aqK h1
 have h2:=aqK h2
 subst h1 h2
 obtain⟨_,rfl⟩:=h
 obtain⟨k1,k2,k3,k4,k5⟩:=RW (ds:=T.out n x) (m:=m) (i:=i)
 have k0:cR (qC m i (T.out n x)) ((qC m i (T.out n x)).reads K):= .same ⟨rfl,rfl⟩ rfl rfl (fun _ h=>h) (fun _ h=>h) (fun _ h=>h) (fun _ h=>aqP.2 (.inr h)) rfl rfl
 refine⟨k1.trans k0,fun hle hF y hy=> ?_⟩
 have e1:(fl.drop i).take (T.lv n).length=T.out n x:=QZ (EV T n x) fun k d hk=>hF.dv _ _ (hle.eg _ (k0.eg _ (k5 k d hk)))
 have e4:T.out n y=T.out n x:=(hR.gi hy).trans e1
 obtain⟨pa,rfl,⟨cs,f1,f2,f3⟩,f4⟩:=hv
 have hm:∀b,In γ.o K b→In γ'.o Kp b:=hF.may K Kp (by
  unfold M.may at h3⊢
  rw[hle.call,k0.call,k1.call]
  exact h3) f4 fun z hz=>hle.kr _ (by simp[M.reads,hz])
 refine⟨pa,rfl,⟨cs, ?_,hm _ f2,f3⟩,hK⟩
 rw[hR.rd] at f1⊢
 rw[e4]
 exact f1.weaken hm
theorem SI(hR:bQ T)(bb:OB U γ w ob){i n j:Nat}{Kp:List Nat}(hK:cT Kp)(h:Q.R ob (KZ T m i n Kp j) l m'){v:Value}(hv:U j∧∃b,γ.g j=dJ b 0∧v=dJ b 0):
  cR m m'∧(cR m' mf→Fin T U U' γ γ' w mf fl tg→∀y:D n,T.gi n ((fl.drop i).take (T.lv n).length)=some y→∃pa:Addr,v= .pointer (some (pa.add 0))∧ru (In γ'.o Kp) w pa y∧cT Kp):=by
 obtain⟨ao,l',ho,rfl,h⟩:=h
 cases ao with
 |sl=>exact(h:False).elim
 |bU=>exact(h:False).elim
 |fi=>exact(h:False).elim
 |fz=>exact(h:False).elim
 |mp=>exact(h:False).elim
 |box cs=>
  dsimp only at h
  split at h
  case isFalse=>exact(h:False).elim
  rename_i hc
  simp only[aqL] at hc
  have hlen:=aqK hc.1
  obtain⟨hU,b,hg,rfl⟩:=hv
  obtain⟨_,_,b',us,t',h1,h2,h3,h4,h5⟩:=bb.ob _ _ ho
  rw[hg] at h1
  obtain⟨rfl,_⟩:=xh h1
  obtain⟨k1,k2,k3,k4,k5⟩:=RX (T:=T) (U':=U') (γ':=γ') (mf:=mf) (fl:=fl) (tg:=tg) bb hK h h4
  have k0:cR m (m.pj j):= .same ⟨rfl,rfl⟩ rfl rfl (fun _ h=>h) (fun _ h=>h) (fun _ h=>aq7 _ h) (fun _ h=>h) rfl rfl
  refine⟨k0.trans k1,fun hle hF y hy=> ?_⟩
  obtain⟨ds,e1,e2,e3⟩:=k5 hle hF
  have e4:(fl.drop i).take (T.lv n).length=ds:=QZ (by rw[e1,hlen]) e2
  have e5:=hR.gi hy
  rw[e4] at e5
  have hmb:In γ'.o Kp b:=hF.own j [] Kp (hle.ku _ (k1.ku _ (by simp[M.pj]))) (by
   have:=hc.2
   unfold M.may at this⊢
   rw[hle.call,k1.call]
   exact this) jf (by simp) b (by unfold In;simp[h2])
  refine⟨⟨b,0,none⟩,by rw[add_zero'];rfl,⟨us, ?_,hmb, ?_⟩,hK⟩
  · rw[hR.rd,e5]
    exact e3
  · have:=G4 h3 0 us.length
    simpa using this
theorem HS{p i:Nat}(h:Q.R ob (m.bind p i) l m'):l=[]∧cR m m'∧((p,i)∈m'.ids∨(m.call=false∧bp (m.po.map aqO) p=false∧p<m.xb∧p=i))∧m'.new=m.new:=by
 unfold M.bind at h
 split at h
 · rename_i i' hi
   split at h
   case isFalse=>exact(h:False).elim
   rename_i hb
   have hb:=aqK hb
   subst hb
   obtain⟨rfl,rfl⟩:=h
   exact⟨rfl,.refl _,.inl (cz hi),rfl⟩
 · split at h
   · split at h
     case isTrue=>exact(h:False).elim
     obtain⟨rfl,rfl⟩:=h
     exact⟨rfl,.same ⟨rfl,rfl⟩ rfl rfl (fun _ h=>aq7 _ h) (fun _ h=>h) (fun _ h=>h) (fun _ h=>h) rfl rfl,.inl (by simp),rfl⟩
   · rename_i hm
     split at h
     case isFalse=>exact(h:False).elim
     rename_i hc
     simp only[aqL,arC] at hc
     obtain⟨rfl,rfl⟩:=h
     exact⟨rfl,.refl _,.inr ⟨hc.1.1,by simpa using hm,aqT hc.2,aqK hc.1.2⟩,rfl⟩
theorem O2{p i:Nat}(hU:U i)(h:(p,i)∈mf.ids∨(mf.call=false∧bp (mf.po.map aqO) p=false∧p<mf.xb∧p=i))(hF:Fin T U U' γ γ' w mf fl tg):U' p∧γ'.g p=γ.g i:=by
 rcases h with h|⟨h1,h2,h3,rfl⟩
 · obtain⟨k1,_,k3⟩:=hF.id p i h
   exact⟨k1,k3 fun x hx=>hF.fresh _ _ hx hU⟩
 · exact hF.ext h1 p h2 h3 hU
theorem O1{p i:Nat}(hle:cR m' mf)(hm:cR m m')(h:(p,i)∈m'.ids∨(m.call=false∧bp (m.po.map aqO) p=false∧p<m.xb∧p=i)):(p,i)∈mf.ids∨(mf.call=false∧bp (mf.po.map aqO) p=false∧p<mf.xb∧p=i):=by
 rcases h with h|⟨h1,h2,h3,h4⟩
 · exact .inl (hle.ids _ h)
 · exact .inr ⟨by rw[hle.call,hm.call];exact h1,by rw[hle.po,hm.po];exact h2,by rw[hle.xb,hm.xb];exact h3,h4⟩
theorem afz(hR:bQ T)(bb:OB U γ w ob){p:P0}{a:A0 D}{v:Value}(hK:match p with| .rp _ _ K=>cT K|_=>True)(h:Q.R ob (m0 T m p a) l m')(hv:ni U γ w a v):
  cR m m'∧(cR m' mf→Fin T U U' γ γ' w mf fl tg→∀a',qN T fl some id p=some a'→ni U' γ' w a' v):=by
 unfold m0 at h
 split at h
 · split at h
   case isFalse=>exact(h:False).elim
   rename_i hb
   have hb:=aqK hb
   subst hb
   obtain⟨_,h1,h2,_⟩:=HS h
   refine⟨h1,fun hle hF a' ha=> ?_⟩
   obtain⟨hU,b,hg,rfl⟩:=hv
   obtain⟨k1,k2⟩:=O2 hU (O1 hle h1 h2) hF
   simp only[qN,aq3] at ha
   subst ha
   exact⟨k1,b,by rw[k2];exact hg,rfl⟩
 · obtain⟨h1,h2⟩:=SG (T:=T) (U:=U) (U':=U') (γ':=γ') (mf:=mf) (fl:=fl) (tg:=tg) hR hK h hv
   refine⟨h1,fun hle hF a' ha=> ?_⟩
   simp only[qN,id] at ha
   split at ha
   case h_2=>cases ha
   rename_i y hy
   cases ha
   exact h2 hle hF y hy
 · split at h
   case isFalse=>exact(h:False).elim
   rename_i hb
   have hb:=aqK hb
   subst hb
   obtain⟨h1,h2⟩:=SI (T:=T) (U':=U') (γ':=γ') (mf:=mf) (fl:=fl) (tg:=tg) hR bb hK h hv
   refine⟨h1,fun hle hF a' ha=> ?_⟩
   simp only[qN,id] at ha
   split at ha
   case h_2=>cases ha
   rename_i y hy
   cases ha
   exact h2 hle hF y hy
 · exact(h:False).elim
theorem SK(hR:bQ T)(bb:OB U γ w ob):∀{ps:List P0} {as:List (A0 D)} {vs:List Value} {m m':M D} {l:List Nat},(∀p∈ps,match p with| .rp _ _ K=>cT K|_=>True)→Q.R ob (Fk T m ps as) l m'→jR U γ w as vs→
  cR m m'∧(cR m' mf→Fin T U U' γ γ' w mf fl tg→∀gM,so T fl some id ps=some gM→jR U' γ' w gM vs)
 |[],[],vs,m,m',l,_,h,hv=>by
  obtain⟨_,rfl⟩:=h
  cases vs with
  |nil=>exact⟨.refl _,fun _ _ gM ha=>by simp only[so,aq3] at ha;subst ha;trivial⟩
  |cons _ _=>exact hv.elim
 |[],_::_,vs,m,m',l,_,h,hv=>(h:False).elim
 |_::_,[],vs,m,m',l,_,h,hv=>(h:False).elim
 |p::ps,a::as,vs,m,m',l,hK,h,hv=>by
  cases vs with
  |nil=>exact hv.elim
  |cons v vs=>
   simp only[Fk] at h
   obtain⟨l1,l2,m1,_,h1,h2⟩:=Q.dZ h
   obtain⟨e1,e2⟩:=afz (T:=T) (U':=U') (γ':=γ') (mf:=mf) (fl:=fl) (tg:=tg) hR bb (hK p (by simp)) h1 hv.1
   obtain⟨f1,f2⟩:=SK hR bb (fun p hp=>hK p (by simp[hp])) h2 hv.2
   refine⟨e1.trans f1,fun hle hF gM ha=> ?_⟩
   simp only[so] at ha
   split at ha
   case h_2=>cases ha
   rename_i a1 a2 g1 g2
   cases ha
   exact⟨e2 (f1.trans hle) hF _ g1,f2 hle hF _ g2⟩
theorem M7(hF:Fin T U U' γ γ' w mf fl tg){i j:Nat}{K:List Nat}(hK:cT K){b:Bool}{m1:M D}(hle:cR (m1.dv j ⟨.bool,b⟩) mf){d:DV D}{v:Value}(k1:fl[i]? =some d)(k2:cq (In γ'.o K) w v d){a':A1 D}(ha:fP T fl some id tg (.hb i j K)=some a')(hb:b=LF v):dR U' γ' w a' v:=by
 have k3:=hF.dv j ⟨.bool,b⟩ (hle.eg _ (by simp[M.dv]))
 obtain⟨lf,x⟩:=d
 simp only[fP,k1,k3] at ha
 cases lf with
 |sl n=>
  cases ha
  exact⟨⟨k2,hF.nm _ _ k1,hK⟩,hb⟩
 |int k=>cases ha
 |bool=>cases ha
 |str=>cases ha
def KsP(p:P1):Prop:=∀x∈si p,x<2
theorem SJ(hR:bQ T)(bb:OB U γ w ob){p:P1}{a:A1 D}{v:Value}(hK:KsP p)(h:Q.R ob (m1 T m p a) l m')(hv:dR U γ w a v):
  cR m m'∧(cR m' mf→Fin T U U' γ γ' w mf fl tg→∀a',fP T fl some id tg p=some a'→dR U' γ' w a' v):=by
 unfold m1 at h
 split at h
 ·
  rename_i i K a
  obtain⟨h1,_,_,_,h2⟩:=AI (T:=T) (U':=U') (γ':=γ') (mf:=mf) (fl:=fl) (tg:=tg) bb hK h hv
  refine⟨h1,fun hle hF a' ha=> ?_⟩
  obtain⟨⟨lf,x⟩,k1,k2⟩:=h2 hle hF
  rw[agA k1] at ha
  cases ha
  exact k2.QS hK (hF.nm _ _ k1)
 ·
  rename_i i j K n xs K' g b
  obtain⟨l1,l2,m1,_,h1,h2⟩:=Q.dZ h
  obtain⟨_,rfl⟩:=h2
  obtain⟨e1,_,_,_,e2⟩:=AI (T:=T) (U':=U') (γ':=γ') (mf:=mf) (fl:=fl) (tg:=tg) bb hK h1 (v:=v) ⟨hv.1.1,.inl rfl,hv.1.2.2⟩
  have e0:cR m1 (m1.dv j ⟨.bool,b⟩):= .same ⟨rfl,rfl⟩ rfl rfl (fun _ h=>h) (fun _ h=>aq7 _ h) (fun _ h=>h) (fun _ h=>h) rfl rfl
  refine⟨e1.trans e0,fun hle hF a' ha=> ?_⟩
  obtain⟨⟨lf,x⟩,k1,k2⟩:=e2 (e0.trans hle) hF
  exact M7 hF hK hle k1 k2 ha hv.2
 · rename_i i j K
   obtain⟨l1,l2,m1,_,h1,h2⟩:=Q.dZ h
   obtain⟨_,rfl⟩:=h2
   obtain⟨e1,_,_,_,e2⟩:=AI (T:=T) (U':=U') (γ':=γ') (mf:=mf) (fl:=fl) (tg:=tg) bb hK h1 hv
   have e0:cR m1 (m1.dv j ⟨.bool,true⟩):= .same ⟨rfl,rfl⟩ rfl rfl (fun _ h=>h) (fun _ h=>aq7 _ h) (fun _ h=>h) (fun _ h=>h) rfl rfl
   refine⟨e1.trans e0,fun hle hF a' ha=> ?_⟩
   obtain⟨⟨lf,x⟩,k1,k2⟩:=e2 (e0.trans hle) hF
   have hv:v= .slice none 0 0:=hv
   exact M7 hF hK hle k1 k2 ha (by rw[hv];rfl)
 · rename_i i j K q
   obtain⟨ao,l',ho,rfl,h⟩:=h
   cases ao with
   |box=>exact(h:False).elim
   |bU=>exact(h:False).elim
   |fi=>exact(h:False).elim
   |fz=>exact(h:False).elim
   |mp=>exact(h:False).elim
   |sl n t xs K0 g0=>
    obtain⟨_,bg,h⟩:=h
    obtain⟨l1,l2,m1,_,h1,h2⟩:=Q.dZ h
    obtain⟨_,rfl⟩:=h2
    obtain⟨e1,_,_,_,e2⟩:=AI (T:=T) (U':=U') (γ':=γ') (mf:=mf) (fl:=fl) (tg:=tg) bb hK h1 hv
    have e0:cR m1 (m1.dv j ⟨.bool,false⟩):= .same ⟨rfl,rfl⟩ rfl rfl (fun _ h=>h) (fun _ h=>aq7 _ h) (fun _ h=>h) (fun _ h=>h) rfl rfl
    refine⟨e1.trans e0,fun hle hF a' ha=> ?_⟩
    obtain⟨⟨lf,x⟩,k1,k2⟩:=e2 (e0.trans hle) hF
    refine M7 hF hK hle k1 k2 ha ?_
    obtain⟨_,rfl,_⟩:=hv
    obtain⟨_,_,k3,_⟩:=bb.ob _ _ ho
    rcases k3 with⟨_,k3⟩|⟨g,cap,aL,aw,k3,_⟩
    · subst k3;cases bg
    · rw[k3];rfl
 ·
  split at h
  case isFalse=>exact(h:False).elim
  rename_i hb
  have hb:=aqK hb
  subst hb
  obtain⟨_,h1,h2,_⟩:=HS h
  refine⟨h1,fun hle hF a' ha=> ?_⟩
  obtain⟨hU,b,hg,rfl⟩:=hv
  obtain⟨k1,k2⟩:=O2 hU (O1 hle h1 h2) hF
  simp only[fP,aq3] at ha
  subst ha
  exact⟨k1,b,by rw[k2];exact hg,rfl⟩
 ·
  obtain⟨_,h1,h2,_⟩:=HS h
  refine⟨h1,fun hle hF a' ha=> ?_⟩
  obtain⟨hU,rfl,jn⟩:=hv
  obtain⟨k1,k2⟩:=O2 hU (O1 hle h1 h2) hF
  simp only[fP,aq3] at ha
  subst ha
  exact⟨k1,k2.symm,jn⟩
 ·
  split at h
  case h_2=>exact(h:False).elim
  rename_i n t i K kF
  obtain⟨_,h1,h2,h3⟩:=HS h
  have h0:cR m {m with new:=(m.nf,.sl n t [] [] 0)::m.new,nf:=m.nf+1}:=⟨rfl,rfl,rfl,rfl,fun _ h=>h,fun _ h=>h,fun _ h=>h,fun _ h=>h,fun _ h=>aq7 _ h,by simp,fun p hp=>by
   rcases aqR.1 hp with rfl|hp
   · exact .inr ⟨aqM _,by simp,n,t,rfl⟩
   · exact .inl hp⟩
  refine⟨h0.trans h1,fun hle hF a' ha=> ?_⟩
  have hv:v= .slice none 0 0:=hv
  subst hv
  simp only[fP,aq3] at ha
  subst ha
  rcases h2 with h2|⟨_,h2,_⟩
  · obtain⟨k1,k2,_⟩:=hF.id _ _ (hle.ids _ h2)
    exact⟨k1,(k2 ⟨_,hle.new _ (h1.new _ (by simp;exact .inl rfl))⟩).symm,rfl⟩
  · exfalso
    have:=cz kF
    rw[show({m with new:=(m.nf,.sl n t [] [] 0)::m.new,nf:=m.nf+1}:M D).po=m.po from rfl] at h2
    exact kz h2 (by simp only[aqX];exact⟨_,this,rfl⟩)
 · obtain⟨h1,h2⟩:=SG (T:=T) (U:=U) (U':=U') (γ':=γ') (mf:=mf) (fl:=fl) (tg:=tg) hR hK h hv
   refine⟨h1,fun hle hF a' ha=> ?_⟩
   simp only[fP,id] at ha
   split at ha
   case h_2=>cases ha
   rename_i y hy
   cases ha
   exact h2 hle hF y hy
 · split at h
   case isFalse=>exact(h:False).elim
   rename_i hb
   have hb:=aqK hb
   subst hb
   obtain⟨h1,h2⟩:=SI (T:=T) (U':=U') (γ':=γ') (mf:=mf) (fl:=fl) (tg:=tg) hR bb hK h hv
   refine⟨h1,fun hle hF a' ha=> ?_⟩
   simp only[fP,id] at ha
   split at ha
   case h_2=>cases ha
   rename_i y hy
   cases ha
   exact h2 hle hF y hy
 ·
  split at h
  case isFalse=>exact(h:False).elim
  rename_i f ps f' as hb
  have hb:=aqK hb
  subst hb
  obtain⟨cs,rfl,h3⟩:=hv
  have hK':∀p∈ps,match p with| .rp _ _ K=>cT K|_=>True:=fun p hp=>by
   split
   · rename_i i n K
     intro x hx
     refine hK x ?_
     simp only[si,asa]
     exact⟨_,hp,hx⟩
   · trivial
  obtain⟨h1,h2⟩:=SK (T:=T) (U':=U') (γ':=γ') (mf:=mf) (fl:=fl) (tg:=tg) hR bb hK' h h3
  refine⟨h1,fun hle hF a' ha=> ?_⟩
  simp only[fP] at ha
  split at ha
  case h_2=>cases ha
  rename_i fI fm
  cases ha
  exact⟨cs,rfl,h2 hle hF _ fm⟩
 · obtain⟨_,rfl⟩:=h
   exact⟨.refl _,fun _ _ a' ha=>by simp only[fP,aq3] at ha;subst ha;exact hv⟩
 · obtain⟨_,rfl⟩:=h
   exact⟨.refl _,fun _ _ a' ha=>by simp only[fP,aq3] at ha;subst ha;exact hv⟩
 · obtain⟨_,rfl⟩:=h
   exact⟨.refl _,fun _ _ a' ha=>by simp only[fP,aq3] at ha;subst ha;trivial⟩
 · split at h
   case isFalse=>exact(h:False).elim
   rename_i bD
   obtain⟨_,rfl⟩:=h
   have h1:=dR.one hv bD
   exact⟨.refl _,fun _ _ a' ha=>by simp only[fP,aq3] at ha;subst ha;exact h1⟩
 · exact(h:False).elim
theorem Ld(hR:bQ T)(bb:OB U γ w ob):∀{ps:List P1} {as:List (A1 D)} {vs:List Value} {m m':M D} {l:List Nat},(∀p∈ps,KsP p)→Q.R ob (AY T m ps as) l m'→bX U γ w as vs→
  cR m m'∧(cR m' mf→Fin T U U' γ γ' w mf fl tg→∀gM,qM T fl some id tg ps=some gM→bX U' γ' w gM vs)
 |[],[],vs,m,m',l,_,h,hv=>by
  obtain⟨_,rfl⟩:=h
  cases vs with
  |nil=>exact⟨.refl _,fun _ _ gM ha=>by simp only[qM,aq3] at ha;subst ha;trivial⟩
  |cons _ _=>exact hv.elim
 |[],_::_,vs,m,m',l,_,h,hv=>(h:False).elim
 |_::_,[],vs,m,m',l,_,h,hv=>(h:False).elim
 |p::ps,a::as,vs,m,m',l,hK,h,hv=>by
  cases vs with
  |nil=>exact hv.elim
  |cons v vs=>
   simp only[AY] at h
   obtain⟨l1,l2,m1,_,h1,h2⟩:=Q.dZ h
   obtain⟨e1,e2⟩:=SJ (T:=T) (U':=U') (γ':=γ') (mf:=mf) (fl:=fl) (tg:=tg) hR bb (hK p (by simp)) h1 hv.1
   obtain⟨f1,f2⟩:=Ld hR bb (fun p hp=>hK p (by simp[hp])) h2 hv.2
   refine⟨e1.trans f1,fun hle hF gM ha=> ?_⟩
   simp only[qM] at ha
   split at ha
   case h_2=>cases ha
   rename_i a1 a2 g1 g2
   cases ha
   exact⟨e2 (f1.trans hle) hF _ g1,f2 hle hF _ g2⟩
theorem afy(hR:bQ T)(bb:OB U γ w ob){p:PC}{a:AV D}{v:Value}(hK:∀x∈oA p,x<2)(h:Q.R ob (mC T m p a) l m')(hv:eM U γ w a v):
  cR m m'∧(cR m' mf→Fin T U U' γ γ' w mf fl tg→∀a',qL T fl some id tg p=some a'→kl U' γ' w a' v):=by
 unfold mC at h
 split at h
 · obtain⟨h1,h2⟩:=SJ (T:=T) (U':=U') (γ':=γ') (mf:=mf) (fl:=fl) (tg:=tg) hR bb hK h hv
   refine⟨h1,fun hle hF a' ha=> ?_⟩
   simp only[qL] at ha
   split at ha
   case h_2=>cases ha
   rename_i y hy
   cases ha
   exact h2 hle hF y hy
 · rename_i ps ll
   obtain⟨us,rfl,hv⟩:=hv
   obtain⟨h1,h2⟩:=Ld (T:=T) (U':=U') (γ':=γ') (mf:=mf) (fl:=fl) (tg:=tg) hR bb (fun p hp x hx=>hK x (by simp only[oA,asa];exact⟨p,hp,hx⟩)) h hv
   refine⟨h1,fun hle hF a' ha=> ?_⟩
   simp only[qL] at ha
   split at ha
   case h_2=>cases ha
   rename_i y hy
   cases ha
   exact⟨us,rfl,h2 hle hF y hy⟩
 · obtain⟨_,rfl⟩:=h
   refine⟨.refl _,fun _ _ a' ha=> ?_⟩
   simp only[qL,fP,aq3] at ha
   subst ha
   trivial
 · exact(h:False).elim
theorem Lc(hR:bQ T)(bb:OB U γ w ob):∀{ps:List PC} {as:List (AV D)} {vs:List Value} {m m':M D} {l:List Nat},(∀x∈ps.flatMap oA,x<2)→Q.R ob (Fj T m ps as) l m'→jQ U γ w as vs→
  cR m m'∧(cR m' mf→Fin T U U' γ γ' w mf fl tg→∀gM,fO T fl some id tg ps=some gM→gP U' γ' w gM vs)
 |[],[],vs,m,m',l,_,h,hv=>by
  obtain⟨_,rfl⟩:=h
  cases vs with
  |nil=>exact⟨.refl _,fun _ _ gM ha=>by simp only[fO,aq3] at ha;subst ha;trivial⟩
  |cons _ _=>exact hv.elim
 |[],_::_,vs,m,m',l,_,h,hv=>(h:False).elim
 |_::_,[],vs,m,m',l,_,h,hv=>(h:False).elim
 |p::ps,a::as,vs,m,m',l,hK,h,hv=>by
  cases vs with
  |nil=>exact hv.elim
  |cons v vs=>
   simp only[Fj] at h
   obtain⟨l1,l2,m1,_,h1,h2⟩:=Q.dZ h
   obtain⟨e1,e2⟩:=afy (T:=T) (U':=U') (γ':=γ') (mf:=mf) (fl:=fl) (tg:=tg) hR bb (fun x hx=>hK x (by simp[hx])) h1 hv.1
   obtain⟨f1,f2⟩:=Lc hR bb (fun x hx=>hK x (by rw[List.flatMap_cons];exact aqP.2 (.inr hx))) h2 hv.2
   refine⟨e1.trans f1,fun hle hF gM ha=> ?_⟩
   simp only[fO] at ha
   split at ha
   case h_2=>cases ha
   rename_i a1 a2 g1 g2
   cases ha
   exact⟨e2 (f1.trans hle) hF _ g1,f2 hle hF _ g2⟩
theorem La(hR:bQ T)(bb:OB U γ w ob){p:PO}{x:AO D}{i q:Nat}(hK:∀x∈oz p,x<2)(h:Q.R ob (mO T m p x) l m')(hx:(OR U γ w i x∧γ'.g q=γ.g i∧∀b,γ.o b=i→γ'.o b=q)∨(∃n t,x= .sl n t [] [] 0∧γ'.g q= .slice none 0 0)):
  cR m m'∧(cR m' mf→Fin T U U' γ γ' w mf fl tg→∀x',lR T fl some id tg p=some x'→OR U' γ' w q x'):=by
 unfold mO at h
 split at h
 · rename_i ps cs
   rcases hx with⟨⟨b,us,t,h1,h2,h3,h4,h5⟩,hg,ho⟩|⟨n,t,hx,_⟩
   case inr=>cases hx
   obtain⟨k1,k2⟩:=Ld (T:=T) (U':=U') (γ':=γ') (mf:=mf) (fl:=fl) (tg:=tg) hR bb (fun p hp x hx=>hK x (by simp only[oz,asa];exact⟨p,hp,hx⟩)) h h4
   refine⟨k1,fun hle hF x' cA=> ?_⟩
   simp only[lR] at cA
   split at cA
   case h_2=>cases cA
   rename_i y hy
   split at cA
   case isFalse=>cases cA
   rename_i bD
   cases cA
   exact⟨b,us,t,by rw[hg];exact h1,ho b h2,h3,k2 hle hF y hy,bD⟩
 · rename_i n t i' Kp n' t' xs K g
   split at h
   case isFalse=>exact(h:False).elim
   rename_i hc
   simp only[aqL] at hc
   obtain⟨⟨c1,c2⟩,c3⟩:=hc
   have c1:=aqK c1
   have c2:=aqK c2
   subst c1 c2
   obtain⟨_,rfl⟩:=h
   refine⟨.same ⟨rfl,rfl⟩ rfl rfl (fun _ h=>h) (fun _ h=>aq7 _ h) (fun _ h=>h) (fun _ h=>aqP.2 (.inr h)) rfl rfl,fun hle hF x' cA=> ?_⟩
   have hd:=hF.dv i' ⟨.sl n,xs⟩ (hle.eg _ (by simp[M.dv,M.reads]))
   simp only[lR,hd] at cA
   rw[if_pos (Nat.beq_refl n)] at cA
   cases cA
   refine⟨?_,hK,hF.nm _ _ hd⟩
   rcases hx with⟨⟨h1,h2,h3⟩,hg,ho⟩|⟨_,_,hx,hg⟩
   · rw[hg]
     refine Ow.oo ho (hF.may K Kp ?_ h2 fun x hx=>hle.kr _ (by simp[M.dv,M.reads,hx])) h1
     unfold M.may at c3⊢
     rw[hle.call]
     exact c3
   · cases hx
     rw[hg]
     exact Ow.nil _ _ _ _ _
 · rename_i n t tc q' i' n' t' rG q2 xs g ht
   split at h
   case isFalse=>exact(h:False).elim
   rename_i hc
   simp only[aqL] at hc
   obtain⟨⟨⟨c1,c2⟩,c3⟩,c4⟩:=hc
   have c1:=aqK c1
   have c2:=aqK c2
   have c3:=aqK c3
   have c4:=aqK c4
   subst c1 c2 c3 c4
   obtain⟨_,rfl⟩:=h
   refine⟨.same ⟨rfl,rfl⟩ rfl rfl (fun _ h=>h) (fun _ h=>aq7 _ h) (fun _ h=>h) (fun _ h=>h) rfl rfl,fun hle hF x' cA=> ?_⟩
   have hd:=hF.dv i' ⟨.sl n,xs⟩ (hle.eg _ (by simp[M.dv]))
   simp only[lR,hd] at cA
   rw[if_pos (Nat.beq_refl n)] at cA
   cases cA
   rcases hx with⟨⟨h1,h2,h3⟩,hg,ho⟩|⟨_,_,hx,_⟩
   case inr=>cases hx
   obtain⟨m0,m1⟩:=xy (v:=γ.g i) (o:=γ.o) (o':=γ'.o) (i:=i) (i':=q) (w:=w) (w':=w) fun b _ hb=>⟨ho b hb,rfl⟩
   exact⟨by rw[hg];exact h1.mono m0 m1,hF.nm _ _ hd,.inl rfl⟩
 · rename_i n i' n' xs
   split at h
   case isFalse=>exact(h:False).elim
   rename_i c1
   have c1:=aqK c1
   subst c1
   obtain⟨_,rfl⟩:=h
   refine⟨.same ⟨rfl,rfl⟩ rfl rfl (fun _ h=>h) (fun _ h=>aq7 _ h) (fun _ h=>h) (fun _ h=>h) rfl rfl,fun hle hF x' cA=> ?_⟩
   have hd:=hF.dv i' ⟨.sl n,xs⟩ (hle.eg _ (by simp[M.dv]))
   simp only[lR,hd] at cA
   rw[if_pos (Nat.beq_refl n)] at cA
   cases cA
   rcases hx with⟨h1,hg,ho⟩|⟨_,_,hx,_⟩
   case inr=>cases hx
   show nl γ'.o q w (γ'.g q) xs
   rw[hg]
   exact nl.mono h1 fun b _ hb=>⟨ho b hb,rfl⟩
 · exact(h:False).elim
structure zi(γ γ':Gh D)(m:M D):Prop where
 o:∀p i,(p,i)∈m.ids→∀b,γ.o b=i→γ'.o b=p
theorem K_(hR:bQ T)(bb:OB U γ w ob):∀{po:List (Nat×PO)} {m m':M D} {l:List Nat},(∀x∈po.flatMap (fun p=>oz p.2),x<2)→Q.R ob (xt T m po) l m'→(∀i x,(i,x)∈m.new→∃n t,x= .sl n t [] [] 0)→
  cR m m'∧((∀i x,(i,x)∈m'.new→∃n t,x= .sl n t [] [] 0)∧∀p,bp (po.map aqO) p=true→∃i,(p,i)∈m'.ids∧(U i∨∃x,(i,x)∈m'.new))∧(cR m' mf→Fin T U U' γ γ' w mf fl tg→zi γ γ' mf→∀di,gj T fl some id tg po=some di→∀p x,cw di p=some x→bp (po.map aqO) p=true∧U' p∧OR U' γ' w p x)
 |[],m,m',l,_,h,hn=>by
  obtain⟨_,rfl⟩:=h
  exact⟨.refl _,⟨hn,fun p hp=>by simp[bp] at hp⟩,fun _ _ _ di ho p x hx=>by
   simp only[gj,aq3] at ho
   subst ho
   simp[cw,au] at hx⟩
 |(p,q)::po,m,m',l,hK,h,hn=>by
  simp only[xt] at h
  split at h
  case h_1=>exact(h:False).elim
  rename_i i hi
  have fk:=cz hi
  have Nf:∀x∈oz q,x<2:=fun x hx=>hK x (by simp[hx])
  have UZ:∀x∈po.flatMap (fun p=>oz p.2),x<2:=fun x hx=>hK x (by rw[List.flatMap_cons];exact aqP.2 (.inr hx))
  have main:∀{ao:AO D} {l0:List Nat},Q.R ob ((mO T m q ao).bind fun m=>xt T m po) l0 m'→(OR U γ w i ao∧U i∨((i,ao)∈m.new∧∃n t,ao= .sl n t [] [] 0))→
    cR m m'∧((∀i x,(i,x)∈m'.new→∃n t,x= .sl n t [] [] 0)∧∀p',bp (((p,q)::po).map aqO) p'=true→∃i,(p',i)∈m'.ids∧(U i∨∃x,(i,x)∈m'.new))∧(cR m' mf→Fin T U U' γ γ' w mf fl tg→zi γ γ' mf→∀di,gj T fl some id tg ((p,q)::po)=some di→∀p' x,cw di p'=some x→bp (((p,q)::po).map aqO) p'=true∧U' p'∧OR U' γ' w p' x):=by
   intro ao l0 h ya
   obtain⟨l1,l2,m1,_,h1,h2⟩:=Q.dZ h
   have pK:cR m m1:=by
    rcases ya with⟨ha,_⟩|⟨_,n,t,Bq⟩
    · exact(La (T:=T) (U':=U') (γ':=γ) (mf:=mf) (fl:=fl) (tg:=tg) (q:=i) hR bb Nf h1 (.inl ⟨ha,rfl,fun _ h=>h⟩)).1
    · exact(La (T:=T) (U':=U') (γ':=⟨γ.o,fun _=> .slice none 0 0,γ.v⟩) (mf:=mf) (fl:=fl) (tg:=tg) (i:=i) (q:=i) hR bb Nf h1 (.inr ⟨n,t,Bq,rfl⟩)).1
   obtain⟨f1,f2,f3⟩:=K_ hR bb UZ h2 (fun i x hx=>by
    rcases pK.nw _ hx with hx|hx
    · exact hn i x hx
    · exact hx.2.2)
   refine⟨pK.trans f1,⟨f2.1,fun p' kG=> ?_⟩,fun hle hF hO di ho p' x hx=> ?_⟩
   · simp only[arb,bp] at kG
     cases hb:aqH p p' with
     |true=>
      have:=aqK hb
      subst this
      refine⟨i,(pK.trans f1).ids _ fk, ?_⟩
      rcases ya with⟨_,hU⟩|⟨ha,_⟩
      · exact .inl hU
      · exact .inr ⟨_,(pK.trans f1).new _ ha⟩
     |false=>
      rw[hb] at kG
      exact f2.2 p' kG
   obtain⟨k1,k2,k3⟩:=hF.id p i (hle.ids _ ((pK.trans f1).ids _ fk))
   have uS:(OR U γ w i ao∧γ'.g p=γ.g i∧∀b,γ.o b=i→γ'.o b=p)∨(∃n t,ao= .sl n t [] [] 0∧γ'.g p= .slice none 0 0):=by
    rcases ya with⟨ha,hU⟩|⟨ha,n,t,Bq⟩
    · exact .inl ⟨ha,k3 fun x hx=>hF.fresh _ _ hx hU,hO.o p i (hle.ids _ ((pK.trans f1).ids _ fk))⟩
    · exact .inr ⟨n,t,Bq,k2 ⟨ao,hle.new _ ((pK.trans f1).new _ ha)⟩⟩
   obtain⟨_,e2⟩:=La (T:=T) (U':=U') (γ':=γ') (mf:=mf) (fl:=fl) (tg:=tg) hR bb Nf h1 uS
   simp only[gj,id] at ho
   split at ho
   case h_2=>cases ho
   rename_i i' a b g0 g1 g2
   cases g0
   cases ho
   by_cases hp:p=p'
   · subst hp
     simp only[cw,au,Nat.beq_refl,cond_true,aq3] at hx
     subst hx
     exact⟨by simp[bp],k1,e2 (f1.trans hle) hF _ g1⟩
   · have bg:aqH p p'=false:=by
      cases hb:aqH p p' with
      |true=>exact(hp (aqK hb)).elim
      |false=>rfl
     have cA:cw b p'=some x:=by
      unfold cw at hx⊢
      simpa[au,bg] using hx
     obtain⟨j1,j2,j3⟩:=f3 hle hF hO b g2 p' x cA
     exact⟨by simp[bp,bg];exact j1,j2,j3⟩
  split at h
  · rename_i ao ya
    exact main h (.inr ⟨cz ya,hn _ _ (cz ya)⟩)
  · obtain⟨ao,l',ho,rfl,h⟩:=h
    obtain⟨_,hU,h1⟩:=bb.ob _ _ ho
    exact main h (.inl ⟨h1,hU⟩)
theorem E5{α:Type}:∀{l:List (Nat×α)} {i:Nat} {a:α},jX (l.map aqO)=true→(i,a)∈l→au l i=some a
 |[],i,a,_,h=>by cases h
 |p::r,i,a,hn,h=>by
  simp only[arb,jX,aqL,arC] at hn
  rcases aqR.1 h with rfl|h
  · simp[au]
  · have bg:aqH p.1 i=false:=by
     cases hb:aqH p.1 i with
     |true=>
      have:=aqK hb
      exact(kz hn.1 (by rw[this];exact aqX.2 ⟨_,h,rfl⟩)).elim
     |false=>rfl
    simp only[au,bg,cond_false]
    exact E5 hn.2 h
theorem SU{eg:List (Nat×DV D)}:∀{n i:Nat} {l:List (DV D)},Fs eg i n=some l→∀k,k<n→l[k]? =au eg (i+k)
 |0,i,l,_,k,hk=>by omega
 |n+1,i,l,h,k,hk=>by
  simp only[Fs] at h
  split at h
  case h_2=>cases h
  rename_i d r h1 h2
  cases h
  cases k with
  |zero=>simp[h1]
  |succ k=>
   have:=SU h2 k (by omega)
   simp only[List.getElem?_cons_succ,this]
   congr 1
   omega
structure IA(T:aV D)(call:Bool)(xb:Nat)(po:List (Nat×PO))(pH:List (Nat×Nat))(Sp:Nat)(m:M D)(fl:List (DV D)):Prop where
 vN:m.call=call
 Qw:m.xb=xb
 po_:m.po=po
 LQ:∀p∈pH,p∈m.ids
 nf:Sp≤m.nf
 new:∀p∈m.new,Sp≤p.1∧p.1<m.nf
 dv:∀i d,(i,d)∈m.eg→fl[i]? =some d
 ku:∀i∈m.ku,1000≤i∧∀p,(p,i)∉m.ids
 xH:∀p i,(p,i)∈m.ids→1000≤i
 LR:∀p i i',(p,i)∈m.ids→(p,i')∈m.ids→i=i'
 ids:∀p p' i,(p,i)∈m.ids→(p',i)∈m.ids→p=p'
 key:∀p i,(p,i)∈m.ids→bp (po.map aqO) p=true
 kr:cT m.kr
theorem afa{l:List (Nat×Nat)}{p p' i:Nat}(hn:jX (l.map Prod.snd)=true)(h:(p,i)∈l)(h':(p',i)∈l):p=p':=by
 induction l with
 |nil=>cases h
 |cons q r ih=>
  simp only[arb,jX,aqL,arC] at hn
  have iG:=kz hn.1
  rcases aqR.1 h with e1|h1
  · rcases aqR.1 h' with e2|h2
    · rw[←e1] at e2
      cases e2
      rfl
    · exact(iG (aqX.2 ⟨_,h2,by rw[←e1]⟩)).elim
  · rcases aqR.1 h' with e2|h2
    · exact(iG (aqX.2 ⟨_,h1,by rw[←e2]⟩)).elim
    · exact ih hn.2 h1 h2
theorem NH(hR:bQ T)(bb:OB U γ w ob){call:Bool}{xb:Nat}{bZ:List Ht}{rU:List PC}{po:List (Nat×PO)}{pH:List (Nat×Nat)}{nf:Nat}{dA:List (AV D)}{vs:List Value}{r:HH D bZ×M D}{lg:List Nat}
  (h:Q.R ob (ye T call xb bZ rU po pH nf dA) lg r) (hv:jQ U γ w dA vs):
  (IA T call xb po pH nf r.2 (cN T bZ r.1)∧∀p i,(p,i)∈r.2.ids→U i∨∃x,(i,x)∈r.2.new)∧∀{U' γ' tg},Fin T U U' γ γ' w r.2 (cN T bZ r.1) tg→zi γ γ' r.2→
    (∀gM,fO T (cN T bZ r.1) some id tg rU=some gM→gP U' γ' w gM vs)∧
    ∀di,gj T (cN T bZ r.1) some id tg po=some di→∀p x,cw di p=some x→bp (po.map aqO) p=true∧U' p∧OR U' γ' w p x:=by
 unfold ye at h
 obtain⟨l1,l2,m1,_,h1,h2⟩:=Q.dZ h
 obtain⟨l3,l4,m2,_,h3,h4⟩:=Q.dZ h2
 split at h4
 case isFalse=>exact(h4:False).elim
 rename_i hc
 split at h4
 case h_2=>exact(h4:False).elim
 rename_i l0 FV
 split at h4
 case h_2=>exact(h4:False).elim
 rename_i hh hhh
 obtain⟨_,rfl⟩:=h4
 simp only[aqL,M.ok,pE,aq0] at hc
 obtain⟨⟨⟨⟨⟨⟨⟨⟨⟨c1,c2⟩,c3⟩,c4⟩,c5⟩,c6⟩,c7⟩,Cv⟩,Hw⟩,c8,c9⟩:=hc
 have fc:∀x∈rU.flatMap oA,x<2:=fun x hx=>aqT (c8 x hx)
 have fU:∀x∈po.flatMap (fun p=>oz p.2),x<2:=fun x hx=>aqT (c9 x hx)
 have dG:cN T bZ hh=l0:=Sl hR hhh
 have My:=(Lc (T:=T) (U':=U) (γ':=γ) (mf:=m1) (fl:=l0) (tg:=0) hR bb fc h1 hv).1
 have FU:=K_ (T:=T) (U':=U) (γ':=γ) (mf:=m2) (fl:=l0) (tg:=0) hR bb fU h3 (fun i x hx=>by
  rcases My.nw _ hx with hx|hx
  · cases hx
  · exact hx.2.2)
 have hle:=My.trans FU.1
 have TP:∀p i i',(p,i)∈m2.ids→(p,i')∈m2.ids→i=i':=fun p i i' hp kG=>by
  have:=E5 c4 hp
  rw[E5 c4 kG] at this
  cases this
  rfl
 refine⟨⟨⟨hle.call,hle.xb,hle.po,fun p hp=>hle.ids _ hp,hle.nf,fun p hp=> ?_,fun i d hd=> ?_,fun i hi=>⟨aqT (c7 i hi),fun p hp=> ?_⟩,fun p i hp=>aqT (c6 _ hp),TP,fun p p' i hp kG=>afa c5 hp kG,fun p i hp=>Cv _ hp,fun x hx=>aqT (Hw x hx)⟩,fun p i hp=> ?_⟩,fun{U' γ' tg} hF hO=>⟨fun gM ha=> ?_,fun di ho p x hx=> ?_⟩⟩
 · rcases hle.nw _ hp with hp|hp
   · cases hp
   · exact⟨hp.1,hp.2.1⟩
 · rw[dG]
   have h5:=E5 c1 hd
   have h6:i<m2.tl.length:=aqT (c2 _ hd)
   have h7:=SU FV i h6
   rw[Nat.zero_add] at h7
   rw[h7,h5]
 · have:i∈m2.ids.map Prod.snd:=aqX.2 ⟨_,hp,rfl⟩
   unfold na at c3
   have:=aq0.1 c3 i this
   simp only[arC] at this
   exact kz this hi
 · obtain⟨i',h5,h6⟩:=FU.2.1.2 p (Cv _ hp)
   rw[TP p i i' hp h5]
   exact h6
 · rw[dG] at hF ha
   exact(Lc (T:=T) (mf:=m2) (fl:=l0) hR bb fc h1 hv).2 FU.1 hF _ ha
 · rw[dG] at hF ho
   refine(K_ (T:=T) (mf:=m2) (fl:=l0) hR bb fU h3 (fun i x hx=> ?_)).2.2 (.refl _) hF hO di ho p x hx
   rcases My.nw _ hx with hx|hx
   · cases hx
   · exact hx.2.2
end
end
end Rx
end Go.Proofs.YtncbfgppjfcijaaGreat
namespace Go.Proofs.YtncbfgppjfcijaaGreat
open Go Go.RowKit Dp
namespace Rx
section
variable {D:Nat→Type} [∀n,ab (D n)]
variable {T:aV D} {U U':Nat→Prop} {γ γ':Gh D} {w w':World} {ob:List (Nat×Option (AO D))} {l:List Nat}
def qf(U:Nat→Prop)(γ:Gh D)(w:World)(rs:List (AC D))(v:Value):Prop:=eM U γ w (RL rs) v
def U0:Nat→Prop:=fun i=>i<2000
structure ff(P:Program)(T:aV D)(c:ar D):Prop where
 ent:∀(args:Array Value) (w:World),(callFunc c.f args).run P w= .ok (.enter c.f args) w
 ks:pE c.ie c.bG=true
 key:jX (c.bG.map aqO)=true
 bR:c.bG.all (fun p=>aq2 1000 p.1)=true
 oS:aq2 c.bG.length 40=true
 run:∀(h:HH D c.ins) (r:HH D c.outs),c.fn h=some r→∀as di,fO T (cN T c.ins h) some id 1100 c.args=some as→gj T (cN T c.ins h) some id 1100 c.ob=some di→
  ∀(γ:Gh D) (w:World) (vs:List Value),gP U0 γ w as vs→OB U0 γ w di→Calls P c.f vs.toArray w (jT fun v w'=>∃U' γ' rs gW,fO T (cN T c.outs r) some id 3000 c.ie=some rs∧gj T (cN T c.outs r) some id 3000 c.bG=some gW∧
   qf U' γ' w' rs v∧(∀p x,cw gW p=some x→OR U' γ' w' p x)∧(∀p,(p,p)∈stay c→γ'.g p=γ.g p)∧Frame0 γ w γ' w')
structure Re(ok:Nat→Prop)(U' U:Nat→Prop)(γ' γ:Gh D)(w:World)(fl:List (DV D))(ri:Nat→Option Nat)(rK:List Nat→List Nat)(tg:Nat):Prop where
 id:∀p i,ri p=some i→U i∧γ.g i=γ'.g p
 K:∀K,(∀x∈K,ok x)→cT (rK K)∧∀b,b<w.heap.size→In γ'.o K b→In γ.o (rK K) b
 nm:∀i d,fl[i]? =some d→i<48→named U γ (tg+i) d
 oS:fl.length≤48
section
variable {ok:Nat→Prop} {fl:List (DV D)} {ri:Nat→Option Nat} {rK:List Nat→List Nat} {tg t0:Nat}
theorem Re.mem(hr:Re ok U' U γ' γ w fl ri rK tg){K:List Nat}(hK:∀x∈K,ok x):∀b,In γ'.o K b→b<w.heap.size→In γ.o (rK K) b∧w.heap[b]? =w.heap[b]? :=fun b hb aK=>⟨(hr.K K hK).2 b aK hb,rfl⟩
theorem agB(hr:Re ok U' U γ' γ w fl ri rK tg){p:P0}(hK:match p with| .rp _ _ K=>∀x∈K,ok x|_=>True){a b:A0 D}{v:Value}(ha:qN T fl some id p=some a)(hb:qN T fl ri rK p=some b)(hv:ni U' γ' w a v):ni U γ w b v:=by
 cases p with
 |ptr q off=>
  simp only[qN] at ha hb
  split at hb
  case h_2=>cases hb
  rename_i i hi
  cases ha
  cases hb
  obtain⟨hU,c,h1,h2⟩:=hv
  obtain⟨k1,k2⟩:=hr.id q i hi
  exact⟨k1,c,by rw[k2];exact h1,h2⟩
 |rp i n K=>
  simp only[qN] at ha hb
  split at ha
  case h_2=>cases ha
  rename_i x hx
  rw[hx] at hb
  cases ha
  cases hb
  obtain⟨pa,h1,h2,h3⟩:=hv
  exact⟨pa,h1,h2.mono (hr.mem hK),(hr.K K hK).1⟩
theorem Tt(hr:Re ok U' U γ' γ w fl ri rK tg):∀{ps:List P0} {as bs:List (A0 D)} {vs:List Value},(∀p∈ps,match p with| .rp _ _ K=>∀x∈K,ok x|_=>True)→so T fl some id ps=some as→so T fl ri rK ps=some bs→jR U' γ' w as vs→jR U γ w bs vs
 |[],as,bs,vs,_,ha,hb,hv=>by
  cases ha
  cases hb
  cases vs with
  |nil=>trivial
  |cons _ _=>exact hv.elim
 |p::ps,as,bs,vs,hK,ha,hb,hv=>by
  simp only[so] at ha hb
  split at ha
  case h_2=>cases ha
  rename_i a1 a2 g1 g2
  split at hb
  case h_2=>cases hb
  rename_i b1 b2 g3 g4
  cases ha
  cases hb
  cases vs with
  |nil=>exact hv.elim
  |cons v vs=>exact⟨agB hr (hK p (by simp)) g1 g3 hv.1,Tt hr (fun p hp=>hK p (by simp[hp])) g2 g4 hv.2⟩
theorem Ts(hr:Re ok U' U γ' γ w fl ri rK tg){p:P1}(hK:∀x∈si p,ok x){a b:A1 D}{v:Value}(ha:fP T fl some id t0 p=some a)(hb:fP T fl ri rK tg p=some b)(hv:dR U' γ' w a v):dR U γ w b v:=by
 cases p with
 |h i K=>
  simp only[fP] at ha hb
  split at ha
  case h_2=>cases ha
  rename_i lf x hx
  rw[hx] at hb
  cases ha
  cases hb
  obtain⟨h1,h2,h3⟩:=hv
  have hn:=hr.nm i _ hx (by have:=(aq9.1 hx).1;have:=hr.oS;omega)
  refine cq.QS ?_ (hr.K K hK).1 hn
  cases lf with
  |sl n=>exact cq.mono (d:=⟨.sl n,x⟩) (hr.mem hK) h1
  |int k=>exact h1
  |bool=>exact h1
  |str=>exact h1
 |ptr q off=>
  simp only[fP] at ha hb
  split at hb
  case h_2=>cases hb
  rename_i i hi
  cases ha
  cases hb
  obtain⟨hU,c,h1,h2⟩:=hv
  obtain⟨k1,k2⟩:=hr.id q i hi
  exact⟨k1,c,by rw[k2];exact h1,h2⟩
 |own q=>
  simp only[fP] at ha hb
  split at hb
  case h_2=>cases hb
  rename_i i hi
  cases ha
  cases hb
  obtain⟨hU,h1,h2⟩:=hv
  obtain⟨k1,k2⟩:=hr.id q i hi
  exact⟨k1,by rw[k2];exact h1,h2⟩
 |rp i n K=>
  simp only[fP] at ha hb
  split at ha
  case h_2=>cases ha
  rename_i x hx
  rw[hx] at hb
  cases ha
  cases hb
  obtain⟨pa,h1,h2,h3⟩:=hv
  exact⟨pa,h1,h2.mono (hr.mem hK),(hr.K K hK).1⟩
 |fn f ps=>
  simp only[fP] at ha hb
  split at ha
  case h_2=>cases ha
  rename_i a2 g1
  split at hb
  case h_2=>cases hb
  rename_i b2 g2
  cases ha
  cases hb
  obtain⟨cs,h1,h2⟩:=hv
  refine⟨cs,h1,Tt hr (fun p hp=> ?_) g1 g2 h2⟩
  split
  · rename_i i n K
    intro x hx
    refine hK x ?_
    simp only[si,asa]
    exact⟨_,hp,hx⟩
  · trivial
 |hb i j K=>
  simp only[fP] at ha hb
  split at ha
  case h_2=>cases ha
  rename_i n xs b0 hx hy
  rw[hx,hy] at hb
  cases ha
  cases hb
  obtain⟨⟨h1,h2,h3⟩,h4⟩:=hv
  have hn:=hr.nm i _ hx (by have:=(aq9.1 hx).1;have:=hr.oS;omega)
  exact⟨⟨cq.mono (d:=⟨.sl n,xs⟩) (hr.mem hK) h1,hn,(hr.K K hK).1⟩,h4⟩
 |bi=>cases ha;cases hb;exact hv
 |nA=>cases ha;cases hb;exact hv
 |any=>cases hb;trivial
 |qI=>cases ha;cases hb;exact hv
theorem LK(hr:Re ok U' U γ' γ w fl ri rK tg):∀{ps:List P1} {as bs:List (A1 D)} {vs:List Value},(∀p∈ps,∀x∈si p,ok x)→qM T fl some id t0 ps=some as→qM T fl ri rK tg ps=some bs→bX U' γ' w as vs→bX U γ w bs vs
 |[],as,bs,vs,_,ha,hb,hv=>by
  cases ha
  cases hb
  cases vs with
  |nil=>trivial
  |cons _ _=>exact hv.elim
 |p::ps,as,bs,vs,hK,ha,hb,hv=>by
  simp only[qM] at ha hb
  split at ha
  case h_2=>cases ha
  rename_i a1 a2 g1 g2
  split at hb
  case h_2=>cases hb
  rename_i b1 b2 g3 g4
  cases ha
  cases hb
  cases vs with
  |nil=>exact hv.elim
  |cons v vs=>exact⟨Ts hr (hK p (by simp)) g1 g3 hv.1,LK hr (fun p hp=>hK p (by simp[hp])) g2 g4 hv.2⟩
theorem agz(hr:Re ok U' U γ' γ w fl ri rK tg){p:PC}(hK:∀x∈oA p,ok x){a b:AC D}{v:Value}(ha:qL T fl some id t0 p=some a)(hb:qL T fl ri rK tg p=some b)(hv:kl U' γ' w a v):kl U γ w b v:=by
 cases p with
 |one p=>
  simp only[qL] at ha hb
  split at ha
  case h_2=>cases ha
  rename_i a1 g1
  split at hb
  case h_2=>cases hb
  rename_i b1 g2
  cases ha
  cases hb
  exact Ts hr hK g1 g2 hv
 |agg ps=>
  simp only[qL] at ha hb
  split at ha
  case h_2=>cases ha
  rename_i a1 g1
  split at hb
  case h_2=>cases hb
  rename_i b1 g2
  cases ha
  cases hb
  obtain⟨us,h1,h2⟩:=hv
  exact⟨us,h1,LK hr (fun p hp x hx=>hK x (by simp only[oA,asa];exact⟨p,hp,hx⟩)) g1 g2 h2⟩
theorem LJ(hr:Re ok U' U γ' γ w fl ri rK tg):∀{ps:List PC} {as bs:List (AC D)} {vs:List Value},(∀x∈ps.flatMap oA,ok x)→fO T fl some id t0 ps=some as→fO T fl ri rK tg ps=some bs→gP U' γ' w as vs→gP U γ w bs vs
 |[],as,bs,vs,_,ha,hb,hv=>by
  cases ha
  cases hb
  cases vs with
  |nil=>trivial
  |cons _ _=>exact hv.elim
 |p::ps,as,bs,vs,hK,ha,hb,hv=>by
  simp only[fO] at ha hb
  split at ha
  case h_2=>cases ha
  rename_i a1 a2 g1 g2
  split at hb
  case h_2=>cases hb
  rename_i b1 b2 g3 g4
  cases ha
  cases hb
  cases vs with
  |nil=>exact hv.elim
  |cons v vs=>exact⟨agz hr (fun x hx=>hK x (by simp[hx])) g1 g3 hv.1,LJ hr (fun x hx=>hK x (by rw[List.flatMap_cons];exact aqP.2 (.inr hx))) g2 g4 hv.2⟩
theorem A9{fl:List (DV D)}{ri:Nat→Option Nat}{rK:List Nat→List Nat}{tg:Nat}:∀{ps:List PC} {as:List (AC D)},fO T fl ri rK tg ps=some as→as.length=ps.length
 |[],as,h=>by cases h;rfl
 |p::ps,as,h=>by
  simp only[fO] at h
  split at h
  case h_2=>cases h
  rename_i a1 a2 g1 g2
  cases h
  simp[A9 g2]
theorem adN(hr:Re ok U' U γ' γ w fl ri rK tg){ps:List PC}(hK:∀x∈ps.flatMap oA,ok x){as bs:List (AC D)}{v:Value}(ha:fO T fl some id t0 ps=some as)(hb:fO T fl ri rK tg ps=some bs)(hv:qf U' γ' w as v):qf U γ w bs v:=by
 have hl:as.length=bs.length:=(A9 ha).trans (A9 hb).symm
 unfold qf at hv⊢
 match as,bs,hl with
 |[],[],_=>
  obtain⟨us,h1,h2⟩:=hv
  cases us with
  |nil=>exact⟨[],h1,trivial⟩
  |cons _ _=>exact h2.elim
 |[a],[b],_=>
  have:=LJ (vs:=[v]) hr hK ha hb ⟨hv,trivial⟩
  exact this.1
 |a::a'::as,b::b'::bs,_=>
  obtain⟨us,h1,h2⟩:=hv
  exact⟨us,h1,LJ hr hK ha hb h2⟩
theorem agy(hr:Re ok U' U γ' γ w fl ri rK tg){p:PO}(hK:∀x∈oz p,ok x){a b:AO D}{q i:Nat}(hg:γ.g i=γ'.g q)(hq:∀b,b<w.heap.size→γ'.o b=q→γ.o b=i)(ha:lR T fl some id t0 p=some a)(hb:lR T fl ri rK tg p=some b)(hv:OR U' γ' w q a):OR U γ w i b:=by
 cases p with
 |box ps=>
  simp only[lR] at ha hb
  split at ha
  case h_2=>cases ha
  rename_i a1 g1
  split at ha
  case isFalse=>cases ha
  split at hb
  case h_2=>cases hb
  rename_i b1 g2
  split at hb
  case isFalse=>cases hb
  rename_i bD
  cases ha
  cases hb
  obtain⟨c,us,t,h1,h2,h3,h4,h5⟩:=hv
  exact⟨c,us,t,by rw[hg];exact h1,hq c (aq5.1 h3).1 h2,h3,LK hr (fun p hp x hx=>hK x (by simp only[oz,asa];exact⟨p,hp,hx⟩)) g1 g2 h4,bD⟩
 |sl n t j K=>
  simp only[lR] at ha hb
  split at ha
  case h_2=>cases ha
  rename_i n' xs hx
  rw[hx] at hb
  dsimp only at hb
  split at ha
  case isFalse=>cases ha
  rename_i hn
  rw[if_pos hn] at hb
  cases ha
  cases hb
  obtain⟨h1,h2,h3⟩:=hv
  have hn:=hr.nm j _ hx (by have:=(aq9.1 hx).1;have:=hr.oS;omega)
  refine⟨?_,(hr.K K hK).1,hn⟩
  rw[hg]
  rcases h1 with h1|⟨g,cap,aL,aw,e1,e2,e3,e4,e5,e6,e7,e8⟩
  · exact .inl h1
  · exact .inr ⟨g,cap,aL,aw,e1,hq g (aq5.1 e3).1 e2,e3,e4,e5,e6,e7.mono fun _ _=>ab.mono (hr.mem hK),e8⟩
 |bU n t tc q' j=>
  simp only[lR] at ha hb
  split at ha
  case h_2=>cases ha
  rename_i n' xs hx
  rw[hx] at hb
  dsimp only at hb
  split at ha
  case isFalse=>cases ha
  rename_i hn
  rw[if_pos hn] at hb
  cases ha
  cases hb
  obtain⟨h1,h2,h3⟩:=hv
  have hn:=hr.nm j _ hx (by have:=(aq9.1 hx).1;have:=hr.oS;omega)
  obtain⟨m0,m1⟩:=xy (v:=γ'.g q) (o:=γ'.o) (o':=γ.o) (i:=q) (i':=i) (w:=w) (w':=w) fun b hb ho=>⟨hq b hb ho,rfl⟩
  exact⟨by rw[hg];exact h1.mono m0 m1,hn,.inl rfl⟩
 |mp n j=>
  simp only[lR] at ha hb
  split at ha
  case h_2=>cases ha
  rename_i n' xs hx
  rw[hx] at hb
  dsimp only at hb
  split at ha
  case isFalse=>cases ha
  rename_i hn
  rw[if_pos hn] at hb
  cases ha
  cases hb
  show nl γ.o i w (γ.g i) xs
  rw[hg]
  exact nl.mono hv fun b hb ho=>⟨hq b hb ho,rfl⟩
theorem Tp{fl:List (DV D)}{ri:Nat→Option Nat}{rK:List Nat→List Nat}{tg:Nat}:∀{po:List (Nat×PO)} {di:List (Nat×Option (AO D))} {p i:Nat} {q:PO},gj T fl ri rK tg po=some di→(p,q)∈po→ri p=some i→i∈di.map aqO
 |[],di,p,i,q,h,hm,_=>by cases hm
 |(p',q')::po,di,p,i,q,h,hm,hi=>by
  simp only[gj] at h
  split at h
  case h_2=>cases h
  rename_i i' a b g0 g1 g2
  cases h
  rcases aqR.1 hm with e1|hm
  · cases e1
    rw[hi] at g0
    cases g0
    simp
  · have:=Tp g2 hm hi
    rw[arb]
    exact aq7 _ this
theorem LI{fl:List (DV D)}{ri:Nat→Option Nat}{rK:List Nat→List Nat}{tg:Nat}:∀{po:List (Nat×PO)} {di:List (Nat×Option (AO D))} {i:Nat} {x:Option (AO D)},gj T fl ri rK tg po=some di→au di i=some x→∃p q y,(p,q)∈po∧ri p=some i∧lR T fl ri rK tg q=some y∧x=some y
 |[],di,i,x,h,hx=>by cases h;cases hx
 |(p,q)::po,di,i,x,h,hx=>by
  simp only[gj] at h
  split at h
  case h_2=>cases h
  rename_i i' a b g0 g1 g2
  cases h
  unfold au at hx
  cases hb:aqH i' i with
  |true=>
   have:=aqK hb
   subst this
   simp only[hb,cond_true,aq3] at hx
   subst hx
   exact⟨p,q,a,by simp,g0,g1,rfl⟩
  |false=>
   simp only[hb,cond_false] at hx
   obtain⟨p',q',y,h1,h2,h3,h4⟩:=LI g2 hx
   exact⟨p',q',y,by simp[h1],h2,h3,h4⟩
theorem Tn{fl:List (DV D)}{tg:Nat}:∀{po:List (Nat×PO)} {di:List (Nat×Option (AO D))} {p:Nat} {q:PO},gj T fl some id tg po=some di→jX (po.map aqO)=true→(p,q)∈po→∃y,lR T fl some id tg q=some y∧cw di p=some y
 |[],di,p,q,h,_,hm=>by cases hm
 |(p',q')::po,di,p,q,h,hn,hm=>by
  simp only[gj] at h
  split at h
  case h_2=>cases h
  rename_i i' a b g0 g1 g2
  cases g0
  cases h
  simp only[arb,jX,aqL,arC] at hn
  rcases aqR.1 hm with e1|hm
  · cases e1
    exact⟨a,g1,by simp[cw,au]⟩
  · obtain⟨y,h1,h2⟩:=Tn g2 hn.2 hm
    refine⟨y,h1, ?_⟩
    have bg:aqH p' p=false:=by
     cases hb:aqH p' p with
     |true=>
      have:=aqK hb
      exact(kz hn.1 (by rw[this];exact aqX.2 ⟨_,hm,rfl⟩)).elim
     |false=>rfl
    unfold cw at h2⊢
    simpa[au,bg] using h2
end
def swap(l:List (Nat×Nat)):List (Nat×Nat):=l.map fun p=>(p.2,p.1)
theorem qw{l:List (Nat×Nat)}{p i:Nat}:(i,p)∈swap l↔(p,i)∈l:=by
 simp only[swap,aqX,arP,Prod.exists]
 constructor
 · rintro⟨a,b,h,rfl,rfl⟩;exact h
 · intro h;exact⟨p,i,h,rfl,rfl⟩
theorem Fq{l:List (Nat×Nat)}(hu:∀p p' i,(p,i)∈l→(p',i)∈l→p=p'){p i:Nat}(h:(p,i)∈l):au (swap l) i=some p:=by
 cases hl:au (swap l) i with
 |none=>exact(sf hl p (qw.2 h)).elim
 |some p'=>
  have:=qw.1 (cz hl)
  rw[hu p p' i h this]
theorem SO{l:List (Nat×Nat)}(hu:∀p i i',(p,i)∈l→(p,i')∈l→i=i'){p i:Nat}(h:(p,i)∈l):au l p=some i:=by
 cases hl:au l p with
 |none=>exact(sf hl i h).elim
 |some i'=>rw[hu p i i' h (cz hl)]
theorem pB{known:List (Nat×Nat)}:∀{k:Nat} {po:List (Nat×PO)} {p i:Nat},(p,i)∈fh known k po→bp (po.map aqO) p=true∧(au known p=some i∨(au known p=none∧k≤i∧i<k+po.length))
 |k,[],p,i,h=>by cases h
 |k,(q,x)::r,p,i,h=>by
  simp only[fh] at h
  split at h
  · rename_i i' hi
    rcases aqR.1 h with e1|h
    · cases e1
      exact⟨by simp[bp],.inl hi⟩
    · obtain⟨h1,h2⟩:=pB h
      refine⟨by simp only[arb,bp];cases aqH q p<;>simp[h1], ?_⟩
      rcases h2 with h2|⟨h2,h3,h4⟩
      · exact .inl h2
      · exact .inr ⟨h2,h3,by simp;omega⟩
  · rename_i hi
    rcases aqR.1 h with e1|h
    · cases e1
      exact⟨by simp[bp],.inr ⟨hi,aqM _,by simp⟩⟩
    · obtain⟨h1,h2⟩:=pB h
      refine⟨by simp only[arb,bp];cases aqH q p<;>simp[h1], ?_⟩
      rcases h2 with h2|⟨h2,h3,h4⟩
      · exact .inl h2
      · exact .inr ⟨h2,by omega,by simp;omega⟩
theorem Sq{known:List (Nat×Nat)}:∀{k:Nat} {po:List (Nat×PO)},(fh known k po).map aqO=po.map aqO
 |k,[]=>rfl
 |k,(q,x)::r=>by
  simp only[fh]
  split<;>simp[Sq]
theorem KO{known:List (Nat×Nat)}{B:Nat}(hk:∀p p' i,(p,i)∈known→(p',i)∈known→p=p'):∀{k:Nat} {po:List (Nat×PO)} {p p' i:Nat},k+po.length≤B→(∀q j,(q,j)∈known→j<k∨B≤j)→(p,i)∈fh known k po→(p',i)∈fh known k po→p=p'
 |k,[],p,p',i,_,_,h,_=>by cases h
 |k,(q,x)::r,p,p',i,hB,aK,h,h'=>by
  simp only[List.length_cons] at hB
  simp only[fh] at h h'
  split at h
  · rename_i i' hi
    rw[hi] at h'
    rcases aqR.1 h with e1|g1<;>rcases aqR.1 h' with e2|g2
    · cases e1;cases e2;rfl
    · cases e1
      rcases(pB g2).2 with h2|⟨_,h2,h3⟩
      · exact hk _ _ _ (cz hi) (cz h2)
      · have:=aK _ _ (cz hi);omega
    · cases e2
      rcases(pB g1).2 with h2|⟨_,h2,h3⟩
      · exact hk _ _ _ (cz h2) (cz hi)
      · have:=aK _ _ (cz hi);omega
    · exact KO hk (by omega) aK g1 g2
  · rename_i hi
    rw[hi] at h'
    have uX:∀q j,(q,j)∈known→j<k+1∨B≤j:=fun q j hq=>(aK q j hq).imp (fun h=>by omega) id
    rcases aqR.1 h with e1|g1<;>rcases aqR.1 h' with e2|g2
    · cases e1;cases e2;rfl
    · cases e1
      rcases(pB g2).2 with h2|⟨_,h2,_⟩
      · have:=aK _ _ (cz h2);omega
      · omega
    · cases e2
      rcases(pB g1).2 with h2|⟨_,h2,_⟩
      · have:=aK _ _ (cz h2);omega
      · omega
    · exact KO hk (by omega) uX g1 g2
def gh(m:M D)(x:Nat):Nat:=match au (swap m.ids) x with
 |some p=>p
 |none=>if bp m.kr x||bp m.ku x then 0 else 3
def mZ(γ:Gh D)(m:M D):Nat→Value:=fun p=>match au m.ids p with
 |some i=>match au m.new i with
  |some _=> .slice none 0 0
  |none=>γ.g i
 |none=>γ.g p
theorem N4{ob:List (Nat×Option (AO D))}:∀{Φ:List (ar D)} {f:Nat} {as:List (AV D)} {l:List Nat} {c:ar D},Q.R ob (Cd Φ f as) l c→c∈Φ∧c.f=f
 |[],f,as,l,c,h=>(h:False).elim
 |c0::r,f,as,l,c,h=>by
  simp only[Cd] at h
  split at h
  · rename_i hb
    simp only[aqL] at hb
    obtain⟨l1,l2,x,_,_,h2⟩:=Q.dZ h
    split at h2
    · obtain⟨_,rfl⟩:=h2
      exact⟨by simp,aqK hb.1⟩
    · obtain⟨h3,h4⟩:=N4 h2
      exact⟨by simp[h3],h4⟩
  · obtain⟨h1,h2⟩:=N4 h
    exact⟨by simp[h1],h2⟩
theorem adM{call:Bool}{xb:Nat}{po:List (Nat×PO)}{pH:List (Nat×Nat)}{nf:Nat}{m:M D}{fl:List (DV D)}(hex:IA T call xb po pH nf m fl){p i:Nat}(h:(p,i)∈m.ids):gh m i=p:=by
 unfold gh
 rw[Fq hex.ids h]
theorem Ar(m:M D)(x:Nat):(∃p,(p,x)∈m.ids∧gh m x=p)∨((∀p,(p,x)∉m.ids)∧((gh m x=0∧(x∈m.kr∨x∈m.ku))∨(gh m x=3∧x∉m.kr∧x∉m.ku))):=by
 unfold gh
 cases hl:au (swap m.ids) x with
 |some p=>exact .inl ⟨p,qw.1 (cz hl),rfl⟩
 |none=>
  refine .inr ⟨fun p hp=>sf hl p (qw.2 hp), ?_⟩
  by_cases h1:bp m.kr x=true
  · exact .inl ⟨by simp[h1],.inl (dK.1 h1)⟩
  · by_cases h2:bp m.ku x=true
    · exact .inl ⟨by simp[h2],.inr (dK.1 h2)⟩
    · exact .inr ⟨by simp[h1,h2],fun h=>h1 (dK.2 h),fun h=>h2 (dK.2 h)⟩
theorem BU{call:Bool}{xb:Nat}{po:List (Nat×PO)}{pH:List (Nat×Nat)}{nf:Nat}{m:M D}{fl:List (DV D)}(hex:IA T call xb po pH nf m fl){p i:Nat}(h:(p,i)∈m.ids):
  ((∃x,(i,x)∈m.new)→mZ γ m p= .slice none 0 0)∧((∀x,(i,x)∉m.new)→mZ γ m p=γ.g i):=by
 unfold mZ
 rw[SO hex.LR h]
 constructor
 · rintro⟨x,hx⟩
   cases hl:au m.new i with
   |none=>exact(sf hl x hx).elim
   |some y=>dsimp only;rw[hl]
 · intro hn
   cases hl:au m.new i with
   |none=>dsimp only;rw[hl]
   |some y=>exact(hn y (cz hl)).elim
theorem nB{α:Type}{l:List (Nat×α)}{p:Nat}(h:bp (l.map aqO) p=true):∃q,(p,q)∈l:=by
 have:=dK.1 h
 simp only[aqX] at this
 obtain⟨⟨a,b⟩,h1,rfl⟩:=this
 exact⟨b,h1⟩
theorem akP{nf:Nat}{po:List (Nat×PO)}{m:M D}{fl:List (DV D)}(bb:OB U γ w ob)(hex:IA T true 0 po [] nf m fl)(F2:∀i,nf≤i→i<m.nf→¬U i)(kF:po.all (fun p=>aq2 1000 p.1&&Nat.blt p.1 1100)=true)(dG:fl.length≤900):
  Fin T U U0 γ ⟨fun b=>gh m (γ.o b),mZ γ m,ee γ.v 1100 fl⟩ w m fl 1100∧zi γ ⟨fun b=>gh m (γ.o b),mZ γ m,ee γ.v 1100 fl⟩ m:=by
 have hp:∀p i,(p,i)∈m.ids→1000≤p∧p<1100:=fun p i h=>by
  obtain⟨q,hq⟩:=nB (hex.key p i h)
  have:=aq0.1 kF _ hq
  simp only[aqL] at this
  exact⟨aqT this.1,aqT this.2⟩
 have Bw:∀x∈m.kr,x<2→gh m x=0:=fun x hx h2=>by
  rcases Ar m x with⟨p,h1,_⟩|⟨_,h1⟩
  · have:=hex.xH p x h1;omega
  · rcases h1 with h1|h1
    · exact h1.1
    · exact(h1.2.1 hx).elim
 have MA:∀x∈m.ku,gh m x=0:=fun x hx=>by
  rcases Ar m x with⟨p,h1,_⟩|⟨_,h1⟩
  · exact((hex.ku x hx).2 p h1).elim
  · rcases h1 with h1|h1
    · exact h1.1
    · exact(h1.2.2 hx).elim
 refine⟨⟨hex.dv,fun p i h=>⟨?_,BU hex h⟩,fun i x h=> ?_,fun h=> ?_,fun K Kp cU hK qU b hb=> ?_,fun j K Kp hj cU hK qU b hb=> ?_,fun i d hd=> ?_⟩,⟨fun p i h b hb=> ?_⟩⟩
 · have:=hp p i h
   show p<2000
   omega
 · have:=hex.new _ h
   exact F2 i this.1 this.2
 · rw[hex.vN] at h;cases h
 · unfold M.may at cU
   rw[hex.vN] at cU
   simp only[if_true,arW] at cU
   have dY:γ.o b∈K:=hb
   have h1:=Bw _ (qU _ dY) (hK _ dY)
   show gh m (γ.o b)∈Kp
   rw[h1]
   rcases cU with h2|h2
   · cases K with
     |nil=>cases dY
     |cons _ _=>cases h2
   · exact dK.1 h2
 · unfold M.may at cU
   rw[hex.vN] at cU
   simp only[if_true,arW,List.isEmpty_cons,Bool.false_eq_true,false_or] at cU
   have h1:gh m (γ.o b)=0:=by
    have dY:γ.o b∈j::K:=hb
    rcases aqR.1 dY with h2|h2
    · rw[h2];exact MA j hj
    · exact Bw _ (qU _ h2) (hK _ h2)
   show gh m (γ.o b)∈Kp
   rw[h1]
   exact dK.1 cU
 · refine .inr ⟨?_,AT hd⟩
   have:=(aq9.1 hd).1
   show 1100+i<2000
   omega
 · show gh m (γ.o b)=p
   rw[hb]
   exact adM hex h
def vS(ids:List (Nat×Nat))(x:Nat):Nat:=match au ids x with
 |some i=>i
 |none=>if x=1 then 1 else 2
theorem V5{P:Program}{ah:Nat}{sl:List (Nat×AV D)}{L:List (Nat×Value)}{e:bT D}(hR:bQ T){Φ:List (ar D)}(cE:∀c∈Φ,ff P T c)(hx:Cx U ah γ w sl L ob){f:Nat}{args:List (AV D)}{vs:List Value}(hv:jQ U γ w args vs)(h:Q.R ob (G7 T Φ ah f args) l e):
  (∀(a:Array Value) (w:World),(callFunc f a).run P w= .ok (.enter f a) w)∧Calls P f vs.toArray w (jT fun v w'=>∃γ',cJ U ah γ w ob e γ' v w'):=by
 unfold G7 at h
 have hq:=Q.dZ h
 clear h
 obtain⟨l0,l9,c,_,hc,h⟩:=hq
 obtain⟨vj,rfl⟩:=N4 hc
 have l7:=cE c vj
 refine⟨l7.ent, ?_⟩
 obtain⟨l1,l2,x,_,h1,h2⟩:=Q.dZ h
 split at h2
 case isTrue=>exact(h2:False).elim
 rename_i qZ
 simp only[arW,aqL,not_or,not_and,Bool.not_eq_true,Bool.not_eq_false'] at qZ
 obtain⟨⟨aiR,xS⟩,jG⟩:=qZ
 have xS:x.2.nf≤ah+8:=aqT (by simpa using xS)
 obtain⟨y,hy,h3⟩:=h2
 dsimp only at h3
 split at h3
 case h_2=>exact(h3:False).elim
 rename_i rs1 E4 ahk T9
 split at h3
 case isFalse=>exact(h3:False).elim
 rename_i sH
 have sH:=aqT sH
 obtain⟨_,rfl⟩:=h3
 obtain⟨⟨hex,xU⟩,nI⟩:=NH hR hx.ob h1 hv
 obtain⟨hh,m⟩:=x
 dsimp only at*
 unfold yi at jG
 dsimp only at jG
 split at jG
 case isFalse=>cases jG
 rename_i sK
 simp only[aqL] at sK
 have dG:=aqT sK.1
 have kF:=sK.2
 split at jG
 case h_2=>cases jG
 rename_i ZD KL UN T_
 have F2:∀i,ah≤i→i<m.nf→¬U i:=fun i h1 h2=>hx.fresh i h1 (by omega)
 obtain⟨BQ,BP⟩:=akP (γ:=γ) (w:=w) hx.ob hex F2 kF dG
 obtain⟨g1,g2⟩:=nI BQ BP
 have hp:∀p i,(p,i)∈m.ids→1000≤p∧p<1100:=fun p i h=>by
  obtain⟨q,hq⟩:=nB (hex.key p i h)
  have:=aq0.1 kF _ hq
  simp only[aqL] at this
  exact⟨aqT this.1,aqT this.2⟩
 have ahK:OB U0 ⟨fun b=>gh m (γ.o b),mZ γ m,ee γ.v 1100 (cN T c.ins hh)⟩ w KL:=by
  refine⟨fun i x hx=> ?_,fun b hb=> ?_,fun x hx=> ?_⟩
  · obtain⟨k1,k2,k3⟩:=g2 KL T_ i x hx
    obtain⟨q,hq⟩:=nB k1
    have:=aq0.1 kF _ hq
    simp only[aqL] at this
    exact⟨aqT this.1,k2,k3⟩
  · show gh m (γ.o b)<2000
    rcases Ar m (γ.o b) with⟨p,h1,h2⟩|⟨_,h1⟩
    · have:=hp p _ h1;omega
    · rcases h1 with h1|h1<;>omega
  · show x<2000
    omega
 refine Calls.mono (l7.run hh y hy ZD KL UN T_ _ w vs (g1 ZD UN) ahK) ?_
 rintro e' w' ⟨v,rfl,U',γ',rs,gW,jF,ahI,oF,xR,aha,cG⟩
 have BC:=l7.key
 have ap6:∀p i,au (fh m.ids (ah+8) c.bG) p=some i→(p,i)∈fh m.ids (ah+8) c.bG:=fun p i h=>cz h
 have ahT:∀q j,(q,j)∈m.ids→j<ah+8∨ah+64≤j:=fun q j hq=>by
  rcases xU q j hq with h|⟨x,h⟩
  · rcases hx.dW h with h|h
    · exact .inl (by omega)
    · exact .inr h
  · have:=hex.new _ h
    exact .inl (by simp only at this;omega)
 have ap9:c.bG.length≤40:=aqT l7.oS
 have ah5:∀p p' i,(p,i)∈fh m.ids (ah+8) c.bG→(p',i)∈fh m.ids (ah+8) c.bG→p=p':=fun p p' i h h'=>KO (B:=ah+64) hex.ids (by omega) ahT h h'
 have l8:∀p i,(p,i)∈fh m.ids (ah+8) c.bG→1000≤p∧1000≤i:=fun p i h=>by
  obtain⟨k1,k2⟩:=pB h
  obtain⟨q,hq⟩:=nB k1
  refine⟨aqT (aq0.1 l7.bR _ hq), ?_⟩
  rcases k2 with k2|⟨_,k2,_⟩
  · exact hex.xH _ _ (cz k2)
  · have:=hx.bR;omega
 have aiG:∀b,b<w.heap.size→(∃p,(p,γ.o b)∈m.ids)∨((gh m (γ.o b)=0∨gh m (γ.o b)=3)∧∀p,(p,γ.o b)∉m.ids):=fun b hb=>by
  rcases Ar m (γ.o b) with⟨p,h1,_⟩|⟨h0,h1⟩
  · exact .inl ⟨p,h1⟩
  · exact .inr ⟨h1.imp (fun h=>h.1) (fun h=>h.1),h0⟩
 obtain⟨fu,pN⟩:∃fu:bL,fu=fun b=>if b<w.heap.size∧(gh m (γ.o b)=0∨gh m (γ.o b)=3) then γ.o b else vS (fh m.ids (ah+8) c.bG) (γ'.o b):=⟨_,rfl⟩
 obtain⟨vv,Uv⟩:∃vv:Nat→Value,vv=fun i=>match au (swap (fh m.ids (ah+8) c.bG)) i with
  |some p=>γ'.g p
  |none=>γ.g i:=⟨_,rfl⟩
 have Uh:∀b,b<w.heap.size→(∀p,(p,γ.o b)∉m.ids)→fu b=γ.o b∧w'.heap[b]? =w.heap[b]? :=fun b hb hn=>by
  rcases aiG b hb with⟨p,h1⟩|⟨h1,_⟩
  · exact(hn p h1).elim
  · rw[pN]
    exact⟨if_pos ⟨hb,h1⟩,(cG.ro b hb h1).2⟩
 have Bw:∀b,b<w.heap.size→γ.o b<1000→fu b=γ.o b∧w'.heap[b]? =w.heap[b]? :=fun b hb aK=>Uh b hb fun p hp=>by
  have:=hex.xH p _ hp;omega
 have q8:∀x,(∃i,(x,i)∈fh m.ids (ah+8) c.bG∧vS (fh m.ids (ah+8) c.bG) x=i)∨vS (fh m.ids (ah+8) c.bG) x=1∧x=1∨vS (fh m.ids (ah+8) c.bG) x=2:=fun x=>by
  unfold vS
  cases hl:au (fh m.ids (ah+8) c.bG) x with
  |some i=>exact .inl ⟨i,cz hl,rfl⟩
  |none=>
   by_cases h1:x=1
   · exact .inr (.inl ⟨by simp[h1],h1⟩)
   · exact .inr (.inr (by simp[h1]))
 have Uu:∀i,U i→vv i=γ.g i:=fun i hi=>by
  rw[Uv]
  dsimp only
  cases hl:au (swap (fh m.ids (ah+8) c.bG)) i with
  |none=>rfl
  |some p=>
   have hm:=qw.1 (cz hl)
   obtain⟨k1,k2⟩:=pB hm
   rcases k2 with k2|⟨_,k2,k3⟩
   · have fk:=cz k2
     have bD:(p,p)∈stay c:=by
      obtain⟨q,hq⟩:=nB k1
      unfold stay
      simp only[aqX,arf]
      exact⟨(p,q),⟨hq,hex.key p i fk⟩,rfl⟩
     show γ'.g p=γ.g i
     rw[aha p bD]
     exact(BU hex fk).2 fun x TE=>F2 i (hex.new _ TE).1 (hex.new _ TE).2 hi
   · exact(hx.fresh i (by omega) (by omega) hi).elim
 have aik:Frame γ w ⟨fu,vv,ee γ.v (ah+16) (cN T c.outs y)⟩ w':=by
  refine⟨⟨cG.os,cG.tape,cG.output,cG.size,fun b hb hc=>Bw b hb (by omega),fun b hb hc=> ?_⟩,fun i hi=>Uu i (hx.ob.ro i hi)⟩
  simp only at hc⊢
  by_cases h1:b<w.heap.size∧(gh m (γ.o b)=0∨gh m (γ.o b)=3)
  · refine⟨h1.1, ?_⟩
    rw[pN]
    exact(if_pos h1).symm
  · exfalso
    rw[pN] at hc
    simp only[if_neg h1] at hc
    rcases q8 (γ'.o b) with⟨i,h2,h3⟩|⟨h2,_⟩|h2
    · have:=(l8 _ _ h2).2;omega
    · omega
    · omega
 have eb:fA U (fY U ah) γ w ⟨fu,vv,ee γ.v (ah+16) (cN T c.outs y)⟩ w':=
  ⟨fun i h=> .inl h,Uu,fun i hi=>nz hx sH hi,fun b hb hc=>Bw b hb (by omega)⟩
 have yb:∀p i,(p,i)∈fh m.ids (ah+8) c.bG→fY U ah i:=fun p i h=>by
  rcases(pB h).2 with k2|⟨_,k2,k3⟩
  · rcases xU p i (cz k2) with h|⟨x,h⟩
    · exact .inl h
    · have:=hex.new _ h
      simp only at this
      exact .inr ⟨this.1,by omega⟩
  · exact .inr ⟨by omega,by omega⟩
 have uP:Re (fun x=>x<2∧(x=0→c.yW=true)) U' (fY U ah) γ' ⟨fu,vv,ee γ.v (ah+16) (cN T c.outs y)⟩ w' (cN T c.outs y) (au (fh m.ids (ah+8) c.bG)) (fun K=>(if bp K 0 then m.kr else [])++(if bp K 1 then [1] else [])) (ah+16):=by
  refine⟨fun p i nF=>⟨yb p i (cz nF), ?_⟩,fun K hK=>⟨?_,fun b hb sM=> ?_⟩,fun i d hd hi=>jY (γ:=γ) rfl hi hd,sH⟩
  · show vv i=γ'.g p
    rw[Uv]
    dsimp only
    rw[Fq ah5 (cz nF)]
  · intro x hx
    rcases aqP.1 hx with hx|hx
    · split at hx
      · exact hex.kr x hx
      · cases hx
    · split at hx
      · simp only[List.mem_singleton] at hx
        omega
      · cases hx
  · have sM:γ'.o b∈K:=sM
    show fu b∈_
    have U_:=(hK _ sM).1
    have hz:γ'.o b=0∨γ'.o b=1:=by omega
    rcases hz with hz|hz
    · obtain⟨k1,k2⟩:=cG.back b hb (.inl hz)
      rw[hz] at k2
      have k2:gh m (γ.o b)=0:=k2
      have k3:fu b=γ.o b:=by rw[pN];exact if_pos ⟨k1,.inl k2⟩
      rw[k3]
      have jq:=(hK _ sM).2 hz
      have MA:m.ku=[]:=by simpa using aiR jq
      rcases Ar m (γ.o b) with⟨p,h1,h2⟩|⟨_,h1⟩
      · have:=hp p _ h1;omega
      · rcases h1 with h1|h1
        · rcases h1.2 with h2|h2
          · rw[hz] at sM
            rw[if_pos (dK.2 sM)]
            exact aqP.2 (.inl h2)
          · rw[MA] at h2;cases h2
        · omega
    · have k3:fu b=1:=by
       rw[pN]
       dsimp only
       split
       · rename_i hc
         have:=(cG.ro b hc.1 hc.2).1
         have k4:γ'.o b=gh m (γ.o b):=this
         omega
       · rw[hz]
         unfold vS
         cases hl:au (fh m.ids (ah+8) c.bG) 1 with
         |none=>rfl
         |some i=>have:=(l8 1 i (cz hl)).1;omega
      rw[k3]
      rw[hz] at sM
      rw[if_pos (dK.2 sM)]
      simp
 have fE:=l7.ks
 unfold pE at fE
 simp only[aqL,aq0] at fE
 have fc:∀x∈c.ie.flatMap oA,x<2∧(x=0→c.yW=true):=fun x hx=>⟨aqT (fE.1 x hx),fun e=>by
  subst e
  unfold ar.yW
  exact dK.2 (aqP.2 (.inl hx))⟩
 have fU:∀x∈c.bG.flatMap (fun p=>oz p.2),x<2∧(x=0→c.yW=true):=fun x hx=>⟨aqT (fE.2 x hx),fun e=>by
  subst e
  unfold ar.yW
  exact dK.2 (aqP.2 (.inr hx))⟩
 refine⟨v,rfl,_,aik,eb,adN uP fc jF ahk oF, ?_⟩
 refine ae9 hx.ob eb (fun i MI hi mT b hb F9=> ?_) (fun b hb=> ?_) (fun i x fT gY=> ?_)
 · refine Uh b hb fun p nF=>mT ?_
   rw[F9] at nF
   show i∈(E4++B' m.ids c.bG).map aqO++[]
   rw[List.append_nil,List.map_append,aqP]
   cases hm:bp (c.bG.map aqO) p with
   |true=>
    obtain⟨q,hq⟩:=nB hm
    refine .inl (Tp T9 hq ?_)
    have h5:∃i',(p,i')∈fh m.ids (ah+8) c.bG:=by
     have:p∈(fh m.ids (ah+8) c.bG).map aqO:=by rw[Sq];exact dK.1 hm
     simp only[aqX] at this
     obtain⟨⟨a,b⟩,h1,rfl⟩:=this
     exact⟨b,h1⟩
    cases hl:au (fh m.ids (ah+8) c.bG) p with
    |none=>obtain⟨i',ck⟩:=h5;exact(sf hl i' ck).elim
    |some i'=>
     rcases(pB (cz hl)).2 with k2|⟨k2,_⟩
     · rw[SO hex.LR nF] at k2
       exact k2.symm▸rfl
     · exact(sf k2 i nF).elim
   |false=>
    refine .inr ?_
    unfold B'
    simp only[aqX,arf,Prod.exists]
    exact⟨i,none,⟨p,i,⟨nF,by simp[hm]⟩,rfl⟩,rfl⟩
 · show fY U ah (fu b)
   rw[pN]
   dsimp only
   split
   · rename_i h1
     exact .inl (hx.ob.cl b h1.1)
   · rcases q8 (γ'.o b) with⟨i,h2,h3⟩|⟨h2,_⟩|h2
     · rw[h3];exact yb _ _ h2
     · rw[h2];exact .inl (hx.ob.ro 1 (by omega))
     · rw[h2];exact .inl (hx.ob.ro 2 (by omega))
 · have fT:au (E4++B' m.ids c.bG) i=some (some x):=fT
   rw[gX] at fT
   have h5:au E4 i=some (some x):=by
    cases hl:au E4 i with
    |some y=>rw[hl] at fT;exact fT
    |none=>
     rw[hl] at fT
     have:=cz fT
     unfold B' at this
     simp only[aqX,arf,Prod.exists,arP,reduceCtorEq,and_false,exists_false] at this
   obtain⟨p,q,y',k1,k2,k3,k4⟩:=LI T9 h5
   cases k4
   obtain⟨y0,m1,m2⟩:=Tn ahI BC k1
   have fk:=cz k2
   refine⟨(l8 _ _ fk).2,yb _ _ fk,agy uP (fun z hz=>fU z (asa.2 ⟨_,k1,hz⟩)) (uP.id p i k2).2 (fun b hb M5=> ?_) m1 k3 (xR p y0 m2)⟩
   show fu b=i
   rw[pN]
   dsimp only
   have FM:=(l8 _ _ fk).1
   split
   · rename_i hc
     have:=(cG.ro b hc.1 hc.2).1
     have k4:γ'.o b=gh m (γ.o b):=this
     omega
   · rw[M5]
     unfold vS
     rw[k2]
end
end Rx
end Go.Proofs.YtncbfgppjfcijaaGreat
