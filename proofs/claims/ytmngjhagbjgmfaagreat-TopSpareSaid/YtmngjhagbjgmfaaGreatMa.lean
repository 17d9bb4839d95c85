import Derived.Test.YtmngjhagbjgmfaaGreatPg
import Derived.Test.YtmngjhagbjgmfaaGreatRz
set_option linter.all false
open Bool renaming and_eq_true->bt,false->ai,false_eq_true->aE,not_false->lP,not_true->ei,true->ab
open Classical renaming byContradiction->gC,not_not->r_
open Decidable renaming decide->al
open Eq renaming trans->uL
open Int renaming eq_ofNat_of_zero_le->nu,le_refl->n_,ofNat_eq_natCast->PT,toNat_natCast->iH
open List renaming filter_append->uK,filter_cons_of_neg->pT,filter_cons_of_pos->lO,find?_eq_none->tu,find?_some->B7,getElem?_range->Jt,length_append->cW,length_filter_le->zm,length_map->q8,map_append->q7,map_congr_left->Fy,mem_append->bA,mem_cons->cu,mem_filter->lh,mem_map->dE,mem_of_find?_eq_some->wb,mem_range->eu,mem_singleton->eb,not_mem_nil->jQ,range->bW,replicate->cU,take_length->oU
open Nat renaming le_refl->bx,le_trans->lN,zero_add->kG
open Option renaming bind->uH,bind_fun_some->cP,bind_some->aq,some->aa
open Option.some renaming inj->jP,injEq->fE
open Sum renaming elim_inl->bw,elim_inr->bC
noncomputable section
namespace Go.Proofs.YtmngjhagbjgmfaaGreat
open Go Go.RowKit Dp
namespace Rx
open Classical
def has_eq{l:List Int}{x:Int}(hl:Sm l):Es l x=aa (al (x∈l)):=by
 unfold Es;have h:=oy (step:=Er l x) (λk=>(k:Int)) l.length (λk=>gt l k=x) (r:= .inr ab) (e:= .inl ())
  (λk hk hp=>by simp only[Er,bb hk,aI,aP hk,aq,bw,bC,bS,dI hp,aE,aD,ba (eP hl hk)])
  (λk hk hp=>by simp only[Er,bb hk,aI,aP hk,aq,bw,bC,bS,gm hp])
  (by simp only[Er,bJ,aE,aD])
 have h':aJ (Er l x) 0=_:=h;rw[h'];by_cases he:x∈l
 ·rw[aH (abB.1 he)];simp[he]
 ·rw[aL (λhh=>he (abB.2 hh))];simp[he]
def ash{l:List Int}{x:Int}(hl:Sm l):∃j:Int,J6 l x=aa j∧(0<=j↔x∈l):=by
 have h:=vm (step:=CI l x) (λk=>(k:Int)) l.length (λk=>x==gt l k) (R:=λk=> .inr (k:Int)) (e:= .inl ())
  (λk hk hp=>by simp only[CI,bb hk,aI,aP hk,aq,bw,bC,bS,hp,aE,aD,ba (eP hl hk)])
  (λk hk hp=>by simp only[CI,bb hk,aI,aP hk,aq,bw,bC,bS,hp])
  (by simp only[CI,bJ,aE,aD])
 have h':aJ (CI l x) 0=_:=h;unfold J6;rw[h'];cases hf:(bW l.length).find? (λk=>x==gt l k)with
 |none=>refine⟨-1,by simp,by omega,λhx=>?_⟩;obtain⟨k,hk,e⟩:=ou hx;have:=tu.1 hf k (eu.2 hk);simp[e]at this
 |some k=>
  have hk:=eu.1 (wb hf);have hp:=B7 hf;refine⟨k,by simp,λ_=>?_,λ_=>by omega⟩;have e:x=gt l k:=by simpa using hp
  rw[e];exact dx hk
def contains_eq{l:List Int}{x:Int}(hl:Sm l):xN l x=aa (al (x∈l)):=by obtain⟨j,h1,h2⟩:=ash (x:=x) hl;unfold xN;rw[h1];simp only[aq,fE,B3];exact h2
def ry(a b c:Int):jK a b c=aa (al (b<=a∧a<=c)):=by unfold jK;by_cases h:b<=a<;>simp[h]
def an4(x:Source):IN x=aa (al ((1<=x.ik∧x.ik<=50000)∧(0<=x.eX∧x.eX<=x.ik)∧0<=x.Start∧x.Start<=600)):=by unfold IN;simp only[ry,aq,bw,bC,bS];by_cases h1:1<=x.ik∧x.ik<=50000<;>by_cases h2:0<=x.eX∧x.eX<=x.ik<;>simp[h1,h2]
def aoQ(x:bo):OQ x=aa (al ((0<=x.State∧x.State<=3)∧(0<=x.gJ∧x.gJ<=2147483648)∧(0<=x.aZ∧x.aZ<=6000)∧0<=x.bi∧x.bi<=3599)):=by unfold OQ;simp only[ry,aq,bw,bC,bS];by_cases h1:0<=x.State∧x.State<=3<;>by_cases h2:0<=x.gJ∧x.gJ<=2147483648<;>by_cases h3:0<=x.aZ∧x.aZ<=6000<;>simp[h1,h2,h3]
def XZ(l:List Int)(k:Nat):Prop:=∀i,i<l.length->(0<=gt l i∧gt l i<=(k:Int)-1)∧(0<i->gt l (i-1)<gt l i)
def lM(x:Consumer)(k:Nat):Prop:=XZ x.cf k∧(0<=x.eV∧x.eV<=50000)∧(0<=x.eX∧x.eX<=x.eV)∧(0<=x.kB∧x.kB<=15)∧(-1<=x.b9∧x.b9<=7)∧x.cf.length<=4
def axZ{x:Consumer}{k:Nat}(hl:Sm x.cf)(hk:k<=1000000):OT x (k:Int)=aa (al (lM x k)):=by
 have e0:W ((k:Int)-1)=(k:Int)-1:=bZ (by omega) (by omega);have h:=oy (step:=ES x (k:Int)) (λi=>(i:Int)) x.cf.length (λi=>¬((0<=gt x.cf i∧gt x.cf i<=(k:Int)-1)∧(0<i->gt x.cf (i-1)<gt x.cf i))) (r:= .inr ai) (e:= .inl ())
  (λi hi hp=>by
    obtain⟨h1,h2⟩:=r_.1 hp;simp only[ES,bb hi,aI,aP hi,aq,bw,bC,bS,ry,e0,dT h1,ei,aE,aD];by_cases nO:0<i
    ·have h3:=h2 nO;rw[dT (c:=(i:Int)>0) (by omega)];simp only[aI,nT (eP hl hi) nO,aP (show i-1<x.cf.length by omega),aq,bw,bC,bS,dF (c:=gt x.cf (i-1)>=gt x.cf i) (by omega),aE,aD,ba (eP hl hi)]
    ·rw[dF (c:=(i:Int)>0) (by omega)];simp only[aE,aD,aq,bw,bC,bS,ba (eP hl hi)])
  (λi hi hp=>by
    simp only[ES,bb hi,aI,aP hi,aq,bw,bC,bS,ry,e0];by_cases h1:0<=gt x.cf i∧gt x.cf i<=(k:Int)-1
    ·have h2:0<i∧gt x.cf i<=gt x.cf (i-1):=by
      by_cases nO:0<i
      ·refine⟨nO,Int.not_lt.1 λh=>hp ⟨h1,λ_=>h⟩⟩
      ·exact(hp ⟨h1,λh=>(nO h).elim⟩).elim
     rw[dT h1,dT (c:=(i:Int)>0) (by omega)];simp only[ei,aE,aD,aI,nT (eP hl hi) h2.1,aP (show i-1<x.cf.length by omega),aq,bw,bC,bS,dT (c:=gt x.cf (i-1)>=gt x.cf i) (by omega)]
    ·rw[dF h1];simp only[lP,aI,aq,bw,bC,bS])
  (by simp only[ES,bJ,aE,aD])
 have h':aJ (ES x (k:Int)) 0=_:=h;unfold OT;rw[h'];by_cases hn:XZ x.cf k
 ·rw[aL (by rintro⟨i,hi,hp⟩;exact hp (hn i hi))];simp only[aq,bw,bC,bS,ry];have e5:al (len x.cf<=4)=al (x.cf.length<=4):=by rw[B3];unfold len;omega
  rw[e5];unfold lM;by_cases h1:0<=x.eV∧x.eV<=50000<;>by_cases h2:0<=x.eX∧x.eX<=x.eV<;>by_cases h3:0<=x.kB∧x.kB<=15<;>by_cases h4: -1<=x.b9∧x.b9<=7<;>simp[hn,h1,h2,h3,h4]
 ·have:∃i,i<x.cf.length∧¬((0<=gt x.cf i∧gt x.cf i<=(k:Int)-1)∧(0<i->gt x.cf (i-1)<gt x.cf i)):=by
   apply gC;intro hh;exact hn λi hi=>gC λh=>hh ⟨i,hi,h⟩
  rw[aH this];have hc:¬lM x k:=λh=>hn h.1;simp[hc]
def oB(x:cH)(j:Nat):Prop:=x.Kind=2∧x.B=(j:Int)
def px(x:cH)(j:Nat):Prop:=x.Kind=3∧x.B=(j:Int)
def BU(b:aw)(k:Nat):Prop:=
 (0<=(gt b.ae k).A∧(gt b.ae k).A<=b.aB-1)∧
 (((gt b.ae k).Kind=1∧(gt b.ae k).A+1<=(gt b.ae k).B∧(gt b.ae k).B<=b.aB-1)∨
  ((gt b.ae k).Kind=2∧(0<=(gt b.ae k).B∧(gt b.ae k).B<=(b.aj.length:Int)-1)∧∀i,i<k->¬((gt b.ae i).Kind=2∧(gt b.ae i).B=(gt b.ae k).B))∨
  ((gt b.ae k).Kind=3∧(0<=(gt b.ae k).B∧(gt b.ae k).B<=(b.az.length:Int)-1)∧∀i,i<k->¬((gt b.ae i).Kind=3∧(gt b.ae i).B=(gt b.ae k).B∧(gt b.ae i).A=(gt b.ae k).A)))
def cE(b:aw):Prop:=(∀k,k<b.ae.length->BU b k)∧(∀j,j<b.aj.length->∃k,k<b.ae.length∧oB (gt b.ae k) j)∧(∀j,j<b.az.length->∃k,k<b.ae.length∧px (gt b.ae k) j)
def xl(b:aw)(k j:Nat):Nat:=((b.ae.take k).filter λx=>decide (oB x j)).length
def nk(b:aw)(k j:Nat):List Int:=((b.ae.take k).filter λx=>decide (px x j)).map (·.A)
def fO(b:aw)(k:Nat):List Int:=(bW b.aj.length).map λj=>(xl b k j:Int)
def fa(b:aw)(k:Nat):List (List Int):=(bW b.az.length).map λj=>nk b k j
def VZ{b:aw}{k j:Nat}(hk:k<b.ae.length):xl b (k+1) j=xl b k j+if oB (gt b.ae k) j then 1 else 0:=by unfold xl;rw[lm hk,uK,cW];by_cases h:oB (gt b.ae k) j<;>simp[h]
def W7{b:aw}{k j:Nat}(hk:k<b.ae.length):nk b (k+1) j=nk b k j++if px (gt b.ae k) j then [(gt b.ae k).A]else []:=by unfold nk;rw[lm hk,uK,q7];by_cases h:px (gt b.ae k) j<;>simp[h]
def Dk{α:Type}[ad α]{l:List α}{k:Nat}(hk:k<=l.length){x:α}:x∈l.take k↔∃i,i<k∧gt l i=x:=by
 constructor
 ·intro h;obtain⟨i,hi,e⟩:=List.getElem_of_mem h;have er:i<k:=by simp at hi;omega
  refine⟨i,er,?_⟩;rw[fJ (by omega),<-e];simp
 ·rintro⟨i,hi,rfl⟩;rw[fJ (by omega)];exact List.mem_take_iff_getElem.2 ⟨i,by omega,rfl⟩
def N4{b:aw}{k j:Nat}(hk:k<=b.ae.length):xl b k j=0↔∀i,i<k->¬oB (gt b.ae i) j:=by
 unfold xl;rw[List.length_eq_zero_iff,List.filter_eq_nil_iff];constructor
 ·intro h i hi hs;exact h _ ((Dk hk).2 ⟨i,hi,rfl⟩) (by simpa using hs)
 ·intro h x hx hs;obtain⟨i,hi,rfl⟩:=(Dk hk).1 hx;exact h i hi (by simpa using hs)
def LZ{b:aw}{k j:Nat}(hk:k<=b.ae.length){a:Int}:a∈nk b k j↔∃i,i<k∧px (gt b.ae i) j∧(gt b.ae i).A=a:=by
 unfold nk;rw[dE];constructor
 ·rintro⟨x,hx,rfl⟩;rw[lh]at hx;obtain⟨i,hi,rfl⟩:=(Dk hk).1 hx.1;exact⟨i,hi,by simpa using hx.2,rfl⟩
 ·rintro⟨i,hi,hc,rfl⟩;exact⟨_,lh.2 ⟨(Dk hk).2 ⟨i,hi,rfl⟩,by simpa using hc⟩,rfl⟩
def ajk{b:aw}{k j:Nat}(hk:k<=b.ae.length):(nk b k j).length<=k:=by unfold nk;rw[q8];refine lN (zm _ _) ?_;simp;omega
structure gn(b:aw):Prop where
 jg:1<=b.aB∧b.aB<=6
 da:b.ae.length<=24
 src:b.aj.length<=8
 iO:b.az.length<=16
def aB8{b:aw}(hl:gn b):aJ (BJ b) ((0:Int),fO b 0,fa b 0)=aa (if ∃k,k<b.ae.length∧¬BU b k then .inr ai else .inl (fO b b.ae.length,fa b b.ae.length)):=by
 have hb:=hl.jg;have nP:=hl.da;have mB:=hl.src;have DY:=hl.iO;have eB:W (b.aB-1)=b.aB-1:=bZ (by omega) (by omega);have jH:=oy (step:=BJ b) (λk=>((k:Int),fO b k,fa b k)) b.ae.length (λk=>¬BU b k) (r:= .inr ai) (e:= .inl (fO b b.ae.length,fa b b.ae.length)) ?nx ?ht (by simp only[BJ,bJ,aE,aD]);exact jH.trans (by cR)
 case nx=>
  intro k hk hp;obtain⟨hA,hB⟩:=r_.1 hp;have hs:k<1000000000000000000:=by omega
  have eS:len (fO b k)=(b.aj.length:Int):=by simp[len,fO]
  have eC:len (fa b k)=(b.az.length:Int):=by simp[len,fa]
  have Vr:W ((b.aj.length:Int)-1)=(b.aj.length:Int)-1:=bZ (by omega) (by omega);have Vs:W ((b.az.length:Int)-1)=(b.az.length:Int)-1:=bZ (by omega) (by omega);have Bt:W ((gt b.ae k).A+1)=(gt b.ae k).A+1:=bZ (by omega) (by omega);simp only[BJ,bb hk,aI,aP hk,aq,bw,bC,bS,ry,eB,Bt,eS,eC,Vr,Vs,dT hA,ei,aE,aD];rcases hB with⟨h1,h2⟩|⟨h1,h2,h3⟩|⟨h1,h2,h3⟩
  ·have n1:∀j,¬oB (gt b.ae k) j:=λj h=>by have:=h.1;omega
   have n2:∀j,¬px (gt b.ae k) j:=λj h=>by have:=h.1;omega
   have f1:fO b (k+1)=fO b k:=Fy λj _=>by rw[VZ hk,aL (n1 j)];rfl
   have f2:fa b (k+1)=fa b k:=Fy λj _=>by rw[W7 hk,aL (n2 j)];simp
   simp only[gm h1,aI,dT h2,aq,bw,bC,bS,ba hs,f1,f2]
  ·have hj:(gt b.ae k).B=((gt b.ae k).B.toNat:Int):=by omega
   generalize (gt b.ae k).B.toNat=j at hj;rw[hj]at h2 h3;have dj:j<b.aj.length:=by omega
   have hz:xl b k j=0:=(N4 (by omega)).2 λi hi h=>h3 i hi h;have hg:gt (fO b k) j=0:=by unfold fO;rw[lF _ dj,hz];rfl
   have rF:(fO b k).length=b.aj.length:=by simp[fO]
   have n2:∀j,¬px (gt b.ae k) j:=λj h=>by have:=h.1;omega
   have f2:fa b (k+1)=fa b k:=Fy λj _=>by rw[W7 hk,aL (n2 j)];simp
   have f1:(fO b k).set j (W (0+1))=fO b (k+1):=by
    apply jZ
    ·simp[fO]
    ·intro i hi;have er:i<b.aj.length:=by simpa[fO]using hi
     rw[gH (by omega)];unfold fO;rw[lF _ er,lF _ er,VZ hk];by_cases iM:i=j
     ·subst iM;rw[aH rfl,aH ⟨h1,hj⟩,hz];rfl
     ·rw[aL iM,aL (λh=>iM (by have:=h.2;omega))];rfl
   have k1:((gt b.ae k).Kind==1)=ai:=dI (by omega);simp only[k1,gm h1,aI,aD,aE,aq,bw,bC,bS,hj,dT h2,aP (show j<(fO b k).length by omega),hg,X',jC (show j<(fO b k).length by omega),f1,f2,ba hs]
  ·have hj:(gt b.ae k).B=((gt b.ae k).B.toNat:Int):=by omega
   generalize (gt b.ae k).B.toNat=j at hj;rw[hj]at h2 h3;have dj:j<b.az.length:=by omega
   have AU:(gt b.ae k).A∉nk b k j:=λh=>by obtain⟨i,hi,hc,ha⟩:=(LZ (by omega)).1 h;exact h3 i hi ⟨hc.1,hc.2,ha⟩
   have hg:gt (fa b k) j=nk b k j:=by unfold fa;rw[lF _ dj]
   have rF:(fa b k).length=b.az.length:=by simp[fa]
   have aDg:(fa b (k+1)).length=b.az.length:=by simp[fa]
   have uo:=ajk (b:=b) (k:=k) (j:=j) (by omega);have n1:∀j,¬oB (gt b.ae k) j:=λj h=>by have:=h.1;omega
   have f1:fO b (k+1)=fO b k:=Fy λj _=>by rw[VZ hk,aL (n1 j)];rfl
   have f2:(fa b k).set j (nk b k j++[(gt b.ae k).A])=fa b (k+1):=by
    apply jZ
    ·simp[fa]
    ·intro i hi;have er:i<b.az.length:=by simpa[fa]using hi
     rw[gH (by omega)];unfold fa;rw[lF _ er,lF _ er,W7 hk];by_cases iM:i=j
     ·subst iM;rw[aH rfl,aH ⟨h1,hj⟩]
     ·rw[aL iM,aL (λh=>iM (by have:=h.2;omega))];simp
   have k1:((gt b.ae k).Kind==1)=ai:=dI (by omega);have k2:((gt b.ae k).Kind==2)=ai:=dI (by omega);have fH:Sm (nk b k j):=by unfold Sm;omega
   simp only[k1,k2,gm h1,aI,aD,aE,aq,bw,bC,bS,hj,dT h2,aP (show j<(fa b k).length by omega),hg,contains_eq fH,dF AU,aP (show j<(fa b (k+1)).length by omega),lP,cK (show(nk b k j).length+[(gt b.ae k).A].length<=1073741824 by simp;omega),jC (show j<(fa b k).length by omega),f1,f2,ba hs]
 case ht=>
  intro k hk hp;have hs:k<1000000000000000000:=by omega
  have eS:len (fO b k)=(b.aj.length:Int):=by simp[len,fO]
  have eC:len (fa b k)=(b.az.length:Int):=by simp[len,fa]
  have Vr:W ((b.aj.length:Int)-1)=(b.aj.length:Int)-1:=bZ (by omega) (by omega);have Vs:W ((b.az.length:Int)-1)=(b.az.length:Int)-1:=bZ (by omega) (by omega);by_cases hA:0<=(gt b.ae k).A∧(gt b.ae k).A<=b.aB-1
  ·have Bt:W ((gt b.ae k).A+1)=(gt b.ae k).A+1:=bZ (by omega) (by omega);simp only[BJ,bb hk,aI,aP hk,aq,bw,bC,bS,ry,eB,Bt,eS,eC,Vr,Vs,dT hA,ei,aE,aD];by_cases k1:(gt b.ae k).Kind=1
   ·have h2:¬((gt b.ae k).A+1<=(gt b.ae k).B∧(gt b.ae k).B<=b.aB-1):=λh=>hp ⟨hA,.inl ⟨k1,h⟩⟩;have k2:((gt b.ae k).Kind==2)=ai:=dI (by omega);have k3:((gt b.ae k).Kind==3)=ai:=dI (by omega);simp only[gm k1,k2,k3,aI,aD,aE,dF h2,aq,bw,bC,bS]
   ·by_cases k2:(gt b.ae k).Kind=2
    ·have k3:((gt b.ae k).Kind==3)=ai:=dI (by omega);by_cases h2:0<=(gt b.ae k).B∧(gt b.ae k).B<=(b.aj.length:Int)-1
     ·have hj:(gt b.ae k).B=((gt b.ae k).B.toNat:Int):=by omega
      have dj:(gt b.ae k).B.toNat<b.aj.length:=by omega
      have bR:gt (fO b k) (gt b.ae k).B.toNat≠0:=by
       unfold fO;rw[lF _ dj];intro h0;have hz:xl b k (gt b.ae k).B.toNat=0:=by omega
       refine hp ⟨hA,.inr (.inl ⟨k2,h2,λi hi h=>(N4 (by omega)).1 hz i hi ⟨h.1,by rw[h.2];exact hj⟩⟩)⟩
      have rF:(fO b k).length=b.aj.length:=by simp[fO]
      simp only[dI k1,gm k2,k3,aI,aD,aE,dT h2,aq,bw,bC,bS,iL h2.1 (show(gt b.ae k).B<((fO b k).length:Int) by omega),dI bR]
     ·simp only[dI k1,gm k2,k3,aI,aD,aE,dF h2,aq,bw,bC,bS]
    ·by_cases k3:(gt b.ae k).Kind=3
     ·by_cases h2:0<=(gt b.ae k).B∧(gt b.ae k).B<=(b.az.length:Int)-1
      ·have hj:(gt b.ae k).B=((gt b.ae k).B.toNat:Int):=by omega
       have dj:(gt b.ae k).B.toNat<b.az.length:=by omega
       have hg:gt (fa b k) (gt b.ae k).B.toNat=nk b k (gt b.ae k).B.toNat:=by unfold fa;rw[lF _ dj]
       have iw:(gt b.ae k).A∈nk b k (gt b.ae k).B.toNat:=by apply gC;intro hn;refine hp ⟨hA,.inr (.inr ⟨k3,h2,λi hi h=>hn ((LZ (by omega)).2 ⟨i,hi,⟨h.1,by rw[h.2.1];exact hj⟩,h.2.2⟩)⟩)⟩
       have rF:(fa b k).length=b.az.length:=by simp[fa]
       have uo:=ajk (b:=b) (k:=k) (j:=(gt b.ae k).B.toNat) (by omega);have fH:Sm (nk b k (gt b.ae k).B.toNat):=by unfold Sm;omega
       simp only[dI k1,dI k2,gm k3,aI,aD,aE,dT h2,aq,bw,bC,bS,iL h2.1 (show(gt b.ae k).B<((fa b k).length:Int) by omega),hg,contains_eq fH,dT iw,ei]
      ·simp only[dI k1,dI k2,gm k3,aI,aD,aE,dF h2,aq,bw,bC,bS]
     ·simp only[dI k1,dI k2,dI k3,aD,aE,aq,bw,bC,bS]
  ·simp only[BJ,bb hk,aI,aP hk,aq,bw,bC,bS,ry,eB,dF hA,lP]
end Rx
namespace Rx
open Classical
def Yg{b:aw}:(0:Int)∈fO b b.ae.length↔∃j,j<b.aj.length∧∀k,k<b.ae.length->¬oB (gt b.ae k) j:=by
 unfold fO;rw[dE];constructor
 ·rintro⟨j,hj,h⟩;exact⟨j,eu.1 hj,(N4 (bx _)).1 (by omega)⟩
 ·rintro⟨j,hj,h⟩;exact⟨j,eu.2 hj,by rw[(N4 (bx _)).2 h];rfl⟩
def axY{l:List (List Int)}(hl:Sm l):Kq l=aa (al (∃k,k<l.length∧gt l k=[])):=by
 have h:=vm (step:=CL l) (λk=>(k:Int)) l.length (λk=>(len (gt l k)==0)) (R:=λk=> .inr (k:Int)) (e:= .inl ())
  (λk hk hp=>by simp only[CL,OX,bb hk,aI,aP hk,aq,cP,bw,bC,bS,hp,aE,aD,ba (eP hl hk)])
  (λk hk hp=>by simp only[CL,OX,bb hk,aI,aP hk,aq,cP,bw,bC,bS,hp])
  (by simp only[CL,bJ,aE,aD])
 have h':aJ (CL l) 0=_:=h;unfold Kq Q4;rw[h'];have hz:∀k,(len (gt l k)==0)=ab↔gt l k=[]:=λk=>by simp[len]
 cases hf:(bW l.length).find? (λk=>(len (gt l k)==0))with
 |none=>
  have:¬∃k,k<l.length∧gt l k=[]:=λ⟨k,hk,e⟩=>by have:=tu.1 hf k (eu.2 hk);exact this ((hz k).2 e)
  simp[this]
 |some k=>have hk:=eu.1 (wb hf);have hp:=(hz k).1 (B7 (p:=λk=>(len (gt l k)==0)) hf);have:∃k,k<l.length∧gt l k=[]:=⟨k,hk,hp⟩;simp[this]
def aB9{b:aw}(hl:gn b):OY b=aa (al (cE b)):=by
 have nP:=hl.da;have mB:=hl.src;have DY:=hl.iO;have e1:mz (0:Int) (len b.aj)=aa (fO b 0):=by
  rw[abW,yd (by omega)];cR 1;apply jZ
  ·simp[fO]
  ·intro k hk;have cV:k<b.aj.length:=by simpa using hk
   rw[Bi cV];unfold fO;rw[lF _ cV];simp[xl]
 have e2:mz ([]:List Int) (len b.az)=aa (fa b 0):=by
  rw[abW,yd (by omega)];cR 1;apply jZ
  ·simp[fa]
  ·intro k hk;have cV:k<b.az.length:=by simpa using hk
   rw[Bi cV];unfold fa;rw[lF _ cV];simp[nk]
 have w7:=aB8 hl;unfold OY;simp only[e1,e2,aq,cP,bw,bC,bS,w7];by_cases gG:∀k,k<b.ae.length->BU b k
 ·rw[aL (by rintro⟨k,hk,h⟩;exact h (gG k hk))];have s1:Sm (fO b b.ae.length):=by unfold Sm;simp[fO];omega
  have s2:Sm (fa b b.ae.length):=by unfold Sm;simp[fa];omega
  have c_:(fa b b.ae.length).length=b.az.length:=by simp[fa]
  simp only[aq,cP,bw,bC,bS,bw,contains_eq s1,axY s2];by_cases h0:(0:Int)∈fO b b.ae.length
  ·have:¬cE b:=λh=>by
    obtain⟨j,hj,hn⟩:=Yg.1 h0;obtain⟨k,hk,hs⟩:=h.2.1 j hj;exact hn k hk hs
   simp[h0,this]
  ·have hS:∀j,j<b.aj.length->∃k,k<b.ae.length∧oB (gt b.ae k) j:=λj hj=>by
    apply gC;intro hn;exact h0 (Yg.2 ⟨j,hj,λk hk hs=>hn ⟨k,hk,hs⟩⟩)
   by_cases hE:∃k,k<(fa b b.ae.length).length∧gt (fa b b.ae.length) k=[]
   ·have:¬cE b:=λh=>by
     obtain⟨j,hj,he⟩:=hE;rw[c_]at hj;obtain⟨k,hk,hc⟩:=h.2.2 j hj;unfold fa at he;rw[lF _ hj]at he;have:(gt b.ae k).A∈nk b b.ae.length j:=(LZ (bx _)).2 ⟨k,hk,hc,rfl⟩;rw[he]at this;cases this
    simp[h0,hE,this]
   ·have:cE b:=⟨gG,hS,λj hj=>by
     apply gC;intro hn;refine hE ⟨j,by rw[c_];exact hj,?_⟩;unfold fa;rw[lF _ hj];apply List.eq_nil_iff_forall_not_mem.2;intro a ha;obtain⟨i,hi,hc,_⟩:=(LZ (bx _)).1 ha;exact hn ⟨i,hi,hc⟩⟩
    simp[h0,hE,this]
 ·have:∃k,k<b.ae.length∧¬BU b k:=by
   apply gC;intro hn;exact gG λk hk=>gC λh=>hn ⟨k,hk,h⟩
  rw[aH this];have:¬cE b:=λh=>gG h.1;simp[this]
def mJ(x:Source):Prop:=(1<=x.ik∧x.ik<=50000)∧(0<=x.eX∧x.eX<=x.ik)∧0<=x.Start∧x.Start<=600
def qU(b:aw):Prop:=cE b∧(0<=b.bi∧b.bi<=1800)∧(0<=b.aZ∧b.aZ<=6000)∧(∀k,k<b.aj.length->mJ (gt b.aj k))∧∀k,k<b.az.length->lM (gt b.az k) k
def nj(b:aw):Int:=if gn b then(if qU b then 0 else 14)else 2
def fu(b:aw):Prop:=Sm b.ae∧Sm b.aj∧Sm b.az∧∀x∈b.az,Sm x.cf
def an3(x:Source):IN x=aa (al (mJ x)):=by rw[an4];cR 1;rw[B3];exact Iff.rfl
def VI(p:Prop)[Decidable p]:al p=dB p:=by
 by_cases h:p
 ·rw[dT h,iN h]
 ·rw[dF h,gU h]
def VH(r:Bool){S:Prop}(h:S):r=dB (r=ab∧S):=by
 cases r
 ·rw[gU (λh=>by cases h.1)]
 ·rw[iN ⟨rfl,h⟩]
def Np{r:Bool}{S C G:Prop}(h:(r=ab∧S)∧C↔G):(if(!dB (dB (r=ab∧S)=ab∧C))=ab then aa (14:Int)else aa 0)=aa (if G then 0 else 14):=by
 by_cases hg:G
 ·obtain⟨h1,h2⟩:=h.2 hg;rw[iN h1,iN (p:=ab=ab∧C) ⟨rfl,h2⟩,aH hg];rfl
 ·by_cases h1:r=ab∧S
  ·rw[iN h1,gU (p:=ab=ab∧C) (λh2=>hg (h.1 ⟨h1,h2.2⟩)),aL hg];rfl
  ·rw[gU h1,gU (p:=ai=ab∧C) (λh2=>by cases h2.1),aL hg];rfl
def Vd{r:Bool}{S G:Prop}(h:(r=ab∧S)↔G):(if(!dB (r=ab∧S))=ab then aa (11:Int)else aa 0)=aa (if G then 0 else 11):=by
 by_cases hg:G
 ·rw[iN (h.2 hg),aH hg];rfl
 ·rw[gU (λh1=>hg (h.1 h1)),aL hg];rfl
def J0{b:aw}(hl:gn b)(r:Bool):aJ (EX b) (r,(0:Int))=aa (dB (r=ab∧∀k,k<b.aj.length->mJ (gt b.aj k))):=by
 have mB:=hl.src;have h:=dQ (step:=EX b) (λk=>(dB (r=ab∧∀i,i<k->mJ (gt b.aj i)),(k:Int))) b.aj.length (r:=dB (r=ab∧∀i,i<b.aj.length->mJ (gt b.aj i)))
  (λk hk=>by
    simp only[EX,bb hk,aI,aP hk,aq,cP,bw,bC,bS,an3,ba (show k<1000000000000000000 by omega)];by_cases h1:r=ab∧∀i,i<k->mJ (gt b.aj i)
    ·have e:dB (r=ab∧∀i,i<k+1->mJ (gt b.aj i))=al (mJ (gt b.aj k)):=by
      rw[VI];apply VJ;refine⟨λh=>h.2 k (by omega),λh=>⟨h1.1,λi hi=>?_⟩⟩;by_cases eN:i=k
      ·subst eN;exact h
      ·exact h1.2 i (by omega)
     rw[iN h1,e];rfl
    ·have h2:¬(r=ab∧∀i,i<k+1->mJ (gt b.aj i)):=λh=>h1 ⟨h.1,λi hi=>h.2 i (by omega)⟩;rw[gU h1,gU h2];rfl)
  (by simp only[EX,bJ,aE,aD])
 have e0:r=dB (r=ab∧∀i,i<0->mJ (gt b.aj i)):=VH r (λi hi=>by omega);exact(iq (λq=>aJ (EX b) (q,(0:Int))) e0).trans h
def N2{b:aw}(hl:gn b)(hs:fu b)(r:Bool):aJ (EW b) (r,(0:Int))=aa (dB (r=ab∧∀k,k<b.az.length->lM (gt b.az k) k)):=by
 have DY:=hl.iO;have h:=dQ (step:=EW b) (λk=>(dB (r=ab∧∀i,i<k->lM (gt b.az i) i),(k:Int))) b.az.length (r:=dB (r=ab∧∀i,i<b.az.length->lM (gt b.az i) i))
  (λk hk=>by
    simp only[EW,bb hk,aI,aP hk,aq,cP,bw,bC,bS,axZ (hs.2.2.2 _ (dx hk)) (show k<=1000000 by omega),ba (show k<1000000000000000000 by omega)];by_cases h1:r=ab∧∀i,i<k->lM (gt b.az i) i
    ·have e:dB (r=ab∧∀i,i<k+1->lM (gt b.az i) i)=al (lM (gt b.az k) k):=by
      rw[VI];apply VJ;refine⟨λh=>h.2 k (by omega),λh=>⟨h1.1,λi hi=>?_⟩⟩;by_cases eN:i=k
      ·subst eN;exact h
      ·exact h1.2 i (by omega)
     rw[iN h1,e];rfl
    ·have h2:¬(r=ab∧∀i,i<k+1->lM (gt b.az i) i):=λh=>h1 ⟨h.1,λi hi=>h.2 i (by omega)⟩;rw[gU h1,gU h2];rfl)
  (by simp only[EW,bJ,aE,aD])
 have e0:r=dB (r=ab∧∀i,i<0->lM (gt b.az i) i):=VH r (λi hi=>by omega);exact(iq (λq=>aJ (EW b) (q,(0:Int))) e0).trans h
def afd{b:aw}(hs:fu b):I1 b=aa (nj b):=by
 unfold I1 nj;simp only[ry,aq,cP,bw,bC,bS];by_cases h1:1<=b.aB∧b.aB<=6
 case neg=>have:¬gn b:=λh=>h1 h.jg;simp[h1,this]
 by_cases h2:b.ae.length<=24
 case neg=>have:¬gn b:=λh=>h2 h.da;have e:al (len b.ae>24)=ab:=dT (by unfold len;omega);simp[h1,this,e]
 by_cases h3:b.aj.length<=8
 case neg=>have:¬gn b:=λh=>h3 h.src;have e1:al (len b.ae>24)=ai:=dF (by unfold len;omega);have e:al (len b.aj>8)=ab:=dT (by unfold len;omega);simp[h1,this,e,e1]
 by_cases h4:b.az.length<=16
 case neg=>have:¬gn b:=λh=>h4 h.iO;have e1:al (len b.ae>24)=ai:=dF (by unfold len;omega);have e2:al (len b.aj>8)=ai:=dF (by unfold len;omega);have e:al (len b.az>16)=ab:=dT (by unfold len;omega);simp[h1,this,e,e1,e2]
 have hl:gn b:=⟨h1,h2,h3,h4⟩;have e1:al (len b.ae>24)=ai:=dF (by unfold len;omega);have e2:al (len b.aj>8)=ai:=dF (by unfold len;omega);have e3:al (len b.az>16)=ai:=dF (by unfold len;omega);simp only[dT h1,e1,e2,e3,ei,aE,aD,aq,cP,bw,bC,bS,aB9 hl,aH hl];by_cases g1:cE b
 case neg=>simp only[dF g1,aE,aD,aq,cP,bw,bC,bS];rw[J0 hl,aq,N2 hl hs,aq];exact Np (r:=ai) ⟨(λh=>by cases h.1.1),λh=>(g1 h.1).elim⟩
 by_cases g2:0<=b.bi∧b.bi<=1800
 case neg=>simp only[dT g1,dF g2,aE,aD,aI,aq,cP,bw,bC,bS];rw[J0 hl,aq,N2 hl hs,aq];exact Np (r:=ai) ⟨(λh=>by cases h.1.1),λh=>(g2 h.2.1).elim⟩
 by_cases g3:0<=b.aZ∧b.aZ<=6000
 case neg=>simp only[dT g1,dT g2,dF g3,aE,aD,aI,aq,cP,bw,bC,bS];rw[J0 hl,aq,N2 hl hs,aq];exact Np (r:=ai) ⟨(λh=>by cases h.1.1),λh=>(g3 h.2.2.1).elim⟩
 rw[dT g1,dT g2,dT g3];simp only[aI,aq,cP,bw,bC,bS];rw[J0 hl,aq,N2 hl hs,aq];exact Np (r:=ab) ⟨λh=>⟨g1,g2,g3,h.1.2,h.2⟩,λh=>⟨⟨rfl,h.2.2.2.1⟩,h.2.2.2.2⟩⟩
def VY(a b:Int):vR a b=aa (if a<b then-1 else if b<a then 1 else 0):=by unfold vR Iv;by_cases h1:a<b<;>by_cases h2:b<a<;>simp[h1,h2]
def LD(a b:Int):EA [a,b]=aa (if a≠0 then a else b):=by
 have hl:len [a,b]=2:=rfl;have i0:idx [a,b] 0=aa a:=rfl;have i1:idx [a,b] 1=aa b:=rfl;have w1:W 1=1:=bZ (by omega) (by omega);have w2:W 2=2:=bZ (by omega) (by omega);unfold EA;by_cases ha:a=0
 ·subst ha;have s0:uB [0,b] 0=aa (.inl 1):=by simp[uB,hl,i0,w1]
  by_cases hb:b=0
  ·subst hb;have s1:uB [0,0] 1=aa (.inl 2):=by simp[uB,hl,i1,w2]
   have s2:uB [0,0] 2=aa (.inr (.inl ())):=by simp[uB,hl]
   rw[oz (.more s0 (.more s1 (.done s2))) (by omega)];rfl
  ·have s1:uB [0,b] 1=aa (.inr (.inr b)):=by simp[uB,hl,i1,hb]
   rw[oz (.more s0 (.done s1)) (by omega)];simp
 ·have s0:uB [a,b] 0=aa (.inr (.inr a)):=by simp[uB,hl,i0,ha]
  rw[oz (.done s0) (by omega)];simp[ha]
def bsize(b:aw)(kind:Int):Int:=if kind=1 then b.aj.length else if kind=2 then b.ae.length else if kind=3 then b.aB else if kind=4 then b.az.length else 0
def size_eq(b:aw)(k:Int):OP b k=aa (bsize b k):=by unfold OP bsize;by_cases h1:k=1<;>by_cases h2:k=2<;>by_cases h3:k=3<;>by_cases h4:k=4<;>simp[h1,h2,h3,h4,len]
def before(x y:Part):Prop:=x.Kind<y.Kind∨x.Kind=y.Kind∧x.Number<y.Number
def oS(b:aw)(l:List Part)(k:Nat):Prop:=(0<=(gt l k).Number∧(gt l k).Number<=bsize b (gt l k).Kind-1)∧(0<k->before (gt l (k-1)) (gt l k))
def ae_(x y:Part):al ((if(if x.Kind<y.Kind then(-1:Int)else if y.Kind<x.Kind then 1 else 0)≠0 then(if x.Kind<y.Kind then(-1:Int)else if y.Kind<x.Kind then 1 else 0)else(if x.Number<y.Number then(-1:Int)else if y.Number<x.Number then 1 else 0))>=0)=al (¬before x y):=by
 rw[B3];unfold before;by_cases h1:x.Kind<y.Kind
 ·simp[h1]
 ·by_cases h2:y.Kind<x.Kind
  ·simp[h1,h2];omega
  ·by_cases h3:x.Number<y.Number
   ·simp[h1,h2,h3];omega
   ·by_cases h4:y.Number<x.Number
    ·simp[h1,h2,h3,h4]
    ·simp[h1,h2,h3,h4]
def aB4{b:aw}{l:List Part}(hb:gn b)(hl:Sm l):OV b l=aa (al ((∀k,k<l.length->oS b l k)∧l.length<=32)):=by
 have h1:=hb.jg;have h2:=hb.da;have h3:=hb.src;have h4:=hb.iO;have eW:∀k,W (bsize b k-1)=bsize b k-1:=λk=>by apply bZ<;>unfold bsize<;>(repeat' split)<;>omega
 have h:=oy (step:=ET b l) (λi=>(i:Int)) l.length (λi=>¬oS b l i) (r:= .inr ai) (e:= .inl ())
  (λi hi hp=>by
    obtain⟨p1,p2⟩:=r_.1 hp;simp only[ET,bb hi,aI,aP hi,aq,cP,bw,bC,bS,size_eq,ry,eW,dT p1,ei,aE,aD];by_cases nO:0<i
    ·have p3:=p2 nO;rw[dT (c:=(i:Int)>0) (by omega)];simp only[aI,nT (eP hl hi) nO,aP (show i-1<l.length by omega),aq,cP,bw,bC,bS,VY,LD,ae_,dF (c:=¬before (gt l (i-1)) (gt l i)) (λh=>h p3),aE,aD,ba (eP hl hi)]
    ·rw[dF (c:=(i:Int)>0) (by omega)];simp only[aE,aD,aq,cP,bw,bC,bS,ba (eP hl hi)])
  (λi hi hp=>by
    simp only[ET,bb hi,aI,aP hi,aq,cP,bw,bC,bS,size_eq,ry,eW];by_cases p1:0<=(gt l i).Number∧(gt l i).Number<=bsize b (gt l i).Kind-1
    ·have p2:0<i∧¬before (gt l (i-1)) (gt l i):=by
      by_cases nO:0<i
      ·exact⟨nO,λh=>hp ⟨p1,λ_=>h⟩⟩
      ·exact(hp ⟨p1,λh=>(nO h).elim⟩).elim
     rw[dT p1,dT (c:=(i:Int)>0) (by omega)];simp only[ei,aE,aD,aI,nT (eP hl hi) p2.1,aP (show i-1<l.length by omega),aq,cP,bw,bC,bS,VY,LD,ae_,dT p2.2]
    ·rw[dF p1];simp only[lP,aI,aq,cP,bw,bC,bS])
  (by simp only[ET,bJ,aE,aD])
 have h':aJ (ET b l) 0=_:=h;unfold OV;rw[h'];by_cases hn:∀k,k<l.length->oS b l k
 ·rw[aL (by rintro⟨i,hi,hp⟩;exact hp (hn i hi))];show aa (al (len l<=32))=_;cR 1;rw[B3];unfold len;exact⟨λh=>⟨hn,by omega⟩,λh=>by have:=h.2;omega⟩
 ·have:∃i,i<l.length∧¬oS b l i:=by
   apply gC;intro hh;exact hn λi hi=>gC λh=>hh ⟨i,hi,h⟩
  rw[aH this,dF (c:=(∀k,k<l.length->oS b l k)∧l.length<=32) (λh=>hn h.1)];rfl
def gV(x:bo):Prop:=(0<=x.State∧x.State<=3)∧(0<=x.gJ∧x.gJ<=2147483648)∧(0<=x.aZ∧x.aZ<=6000)∧0<=x.bi∧x.bi<=3599
def ae7{l:List bo}(hl:Sm l):Ks l=aa (al (∃k,k<l.length∧¬gV (gt l k))):=by
 have e1:∀x,OZ x=aa (al (¬gV x)):=λx=>by
  unfold OZ;rw[aoQ];have:gV x↔((0<=x.State∧x.State<=3)∧(0<=x.gJ∧x.gJ<=2147483648)∧(0<=x.aZ∧x.aZ<=6000)∧0<=x.bi∧x.bi<=3599):=Iff.rfl;by_cases h:gV x
  ·rw[dT (this.1 h),dF (c:=¬gV x) (λhh=>hh h)];rfl
  ·rw[dF (λhh=>h (this.2 hh)),dT h];rfl
 have h:=vm (step:=CM l) (λk=>(k:Int)) l.length (λk=>decide (¬gV (gt l k))) (R:=λk=> .inr (k:Int)) (e:= .inl ())
  (λk hk hp=>by simp only[CM,e1,bb hk,aI,aP hk,aq,cP,bw,bC,bS,hp,aE,aD,ba (eP hl hk)])
  (λk hk hp=>by simp only[CM,e1,bb hk,aI,aP hk,aq,cP,bw,bC,bS,hp])
  (by simp only[CM,bJ,aE,aD])
 have h':aJ (CM l) 0=_:=h;unfold Ks Q6;rw[h'];cases hf:(bW l.length).find? (λk=>decide (¬gV (gt l k)))with
 |none=>
  have:¬∃k,k<l.length∧¬gV (gt l k):=λ⟨k,hk,e⟩=>by have:=tu.1 hf k (eu.2 hk);exact this (dT e)
  rw[dF this];rfl
 |some k=>have hk:=eu.1 (wb hf);have hp:=jA (B7 (p:=λk=>decide (¬gV (gt l k))) hf);have:∃k,k<l.length∧¬gV (gt l k):=⟨k,hk,hp⟩;rw[dT this];simp
def eU(b:aw)(p:ax)(j:Int):Nat->Nat
 |0=>0
 |k+1=>eU b p j k+if(gt b.ae k).Kind=3∧(gt b.ae k).B=j∧gt p.aG k=ab then 1 else 0
def ax_(b:aw)(p:ax)(j:Int)(k:Nat):eU b p j k<=k:=by
 induction k with
 |zero=>exact bx _
 |succ k ih=>unfold eU;split<;>omega
def ax9{b:aw}{p:ax}(j:Int)(hl:Sm b.ae)(hc:p.aG.length=b.ae.length):OU b p j=aa (eU b p j b.ae.length:Int):=by
 have h:=dQ (step:=IV b p j) (λk=>((eU b p j k:Int),(k:Int))) b.ae.length (r:=(eU b p j b.ae.length:Int))
  (λk hk=>by
    have:=ax_ b p j k;have hs:=eP hl hk;simp only[IV,bb hk,aI,aP hk,aP (l:=p.aG) (show k<p.aG.length by omega),aq,cP,bw,bC,bS,ba hs,ba (show eU b p j k<1000000000000000000 by omega)];by_cases h1:(gt b.ae k).Kind=3
    ·by_cases h2:(gt b.ae k).B=j
     ·cases h3:gt p.aG k with
      |true=>simp[eU,h1,h2,h3]
      |false=>simp[eU,h1,h2,h3]
     ·simp[eU,h1,h2]
    ·simp[eU,h1])
  (by simp only[IV,bJ,aE,aD])
 have h':aJ (IV b p j) (0,0)=_:=h;unfold OU;rw[h'];rfl
def Shape(b:aw)(p:ax):Prop:=p.aG.length=b.ae.length∧p.aj.length=b.aj.length∧p.aX.length=b.az.length
def uE(b:aw)(p:ax)(k:Nat):Prop:=(0<=gt p.aX k∧gt p.aX k<=(gt b.az k).eV)∧eU b p (k:Int) b.ae.length<=1
def v5(b:aw)(p:ax):Prop:=((∀k,k<p.aS.length->oS b p.aS k)∧p.aS.length<=32)∧(∀k,k<p.aj.length->gV (gt p.aj k))∧∀k,k<p.aX.length->uE b p k
def bj(b:aw)(p:ax):Int:=if nj b=0 then(if Shape b p then(if v5 b p then 0 else 11)else 8)else nj b
def dt(p:ax):Prop:=Sm p.aG∧Sm p.aj∧Sm p.aX∧Sm p.aS
def BB{b:aw}:nj b=0↔gn b∧qU b:=by unfold nj;by_cases h1:gn b<;>by_cases h2:qU b<;>simp[h1,h2]
def SW{b:aw}{p:ax}(hb:fu b)(hp:dt p)(m9:Shape b p)(r:Bool):aJ (EU b p) (r,(0:Int))=aa (dB (r=ab∧∀k,k<p.aX.length->uE b p k)):=by
 obtain⟨s1,s2,s3⟩:=m9;have DD:Sm p.aX:=hp.2.2.1;have h:=dQ (step:=EU b p) (λk=>(dB (r=ab∧∀i,i<k->uE b p i),(k:Int))) p.aX.length (r:=dB (r=ab∧∀i,i<p.aX.length->uE b p i))
  (λk hk=>by
    have qy:k<b.az.length:=by omega
    simp only[EU,bb hk,aI,aP hk,aP qy,aq,cP,bw,bC,bS,ry,ax9 (k:Int) hb.1 s1,ba (eP hp.2.2.1 hk)];have e5:al ((eU b p (k:Int) b.ae.length:Int)<=1)=al (eU b p (k:Int) b.ae.length<=1):=by rw[B3];omega
    by_cases h1:r=ab∧∀i,i<k->uE b p i
    ·have e:dB (r=ab∧∀i,i<k+1->uE b p i)=al (uE b p k):=by
      rw[VI];apply VJ;refine⟨λh=>h.2 k (by omega),λh=>⟨h1.1,λi hi=>?_⟩⟩;by_cases eN:i=k
      ·subst eN;exact h
      ·exact h1.2 i (by omega)
     rw[iN h1,e,e5];unfold uE;by_cases h2:0<=gt p.aX k∧gt p.aX k<=(gt b.az k).eV<;>by_cases h3:eU b p (k:Int) b.ae.length<=1<;>simp[h2,h3]
    ·have h2:¬(r=ab∧∀i,i<k+1->uE b p i):=λh=>h1 ⟨h.1,λi hi=>h.2 i (by omega)⟩;rw[gU h1,gU h2];rfl)
  (by simp only[EU,bJ,aE,aD])
 have e0:r=dB (r=ab∧∀i,i<0->uE b p i):=VH r (λi hi=>by omega);exact(iq (λq=>aJ (EU b p) (q,(0:Int))) e0).trans h
def xJ{b:aw}{p:ax}(hb:fu b)(hp:dt p):pL b p=aa (bj b p):=by
 unfold pL bj;rw[afd hb];simp only[aq,cP,bw,bC,bS];by_cases h0:nj b=0
 case neg=>simp[h0]
 have hL:=(BB.1 h0).1;have e0:(nj b !=0)=ai:=by simp[h0]
 simp only[e0,aE,aD,aH h0];by_cases h1:p.aG.length=b.ae.length
 case neg=>
  have:¬Shape b p:=λh=>h1 h.1;have e:(len p.aG !=len b.ae)=ab:=by simp[len];omega
  simp[e,this]
 by_cases h2:p.aj.length=b.aj.length
 case neg=>
  have:¬Shape b p:=λh=>h2 h.2.1;have e1:(len p.aG !=len b.ae)=ai:=by simp[len,h1]
  have e:(len p.aj !=len b.aj)=ab:=by simp[len];omega
  simp[e,e1,this]
 by_cases h3:p.aX.length=b.az.length
 case neg=>
  have:¬Shape b p:=λh=>h3 h.2.2;have e1:(len p.aG !=len b.ae)=ai:=by simp[len,h1]
  have e2:(len p.aj !=len b.aj)=ai:=by simp[len,h2]
  have e:(len p.aX !=len b.az)=ab:=by simp[len];omega
  simp[e,e1,e2,this]
 have m9:Shape b p:=⟨h1,h2,h3⟩;have e1:(len p.aG !=len b.ae)=ai:=by simp[len,h1]
 have e2:(len p.aj !=len b.aj)=ai:=by simp[len,h2]
 have e3:(len p.aX !=len b.az)=ai:=by simp[len,h3]
 simp only[e1,e2,e3,aE,aD,aq,cP,bw,bC,bS,aB4 hL hp.2.2.2,aH m9];have hx:(∃k,k<p.aj.length∧¬gV (gt p.aj k))↔¬∀k,k<p.aj.length->gV (gt p.aj k):=by
  constructor
  ·rintro⟨k,hk,h⟩ hh;exact h (hh k hk)
  ·intro h;apply gC;intro hn;exact h λk hk=>gC λhr=>hn ⟨k,hk,hr⟩
 by_cases g1:(∀k,k<p.aS.length->oS b p.aS k)∧p.aS.length<=32
 case neg=>simp only[dF g1,aE,aD,aq,cP,bw,bC,bS];rw[SW hb hp m9,aq];exact Vd (r:=ai) ⟨(λh=>by cases h.1),λh=>(g1 h.1).elim⟩
 by_cases g2:∀k,k<p.aj.length->gV (gt p.aj k)
 case neg=>simp only[dT g1,aI,ae7 hp.2.1,dT (c:=∃k,k<p.aj.length∧¬gV (gt p.aj k)) (hx.2 g2),ei,aq,cP,bw,bC,bS];rw[SW hb hp m9,aq];exact Vd (r:=ai) ⟨(λh=>by cases h.1),λh=>(g2 h.2.1).elim⟩
 simp only[dT g1,aI,ae7 hp.2.1,dF (c:=∃k,k<p.aj.length∧¬gV (gt p.aj k)) (λh=>hx.1 h g2),lP,aq,cP,bw,bC,bS];rw[SW hb hp m9,aq];exact Vd (r:=ab) ⟨λh=>⟨g1,g2,h.2⟩,λh=>⟨rfl,h.2.2⟩⟩
end Rx
namespace Rx
def Wp.ite{α:Type}{c:Bool}{a b:Option α}{Q:α->Prop}(ha:c=ab->Wp a Q)(hb:c=ai->Wp b Q):Wp (if c=ab then a else b) Q:=by
 cases c with
 |true=>exact ha rfl
 |false=>exact hb rfl
def Sr(l:List Int)(a:Int):Prop:=0<=a∧l.length<=1000000∧a<=l.length
def mod_eq{x n:Int}(h1:1<=n)(h2:n<=1000000000000):Et x n=aa ((x.tmod n+n)% n):=by
 have hm1: -n<x.tmod n:=by have:=Int.lt_tmod_of_pos x (b:=n) (by omega);omega
 have T5:x.tmod n<n:=Int.tmod_lt_of_pos x (by omega);unfold Et;have e1:kO x n=aa (x.tmod n):=by unfold kO;rw[aL (by omega)]
 rw[dF (c:=n<1) (by omega)];simp only[aE,aD,e1,aq,cP];rw[bZ (by omega) (by omega),RW (by omega) (by omega)]
def gW{l:List Int}{a n:Int}(hs:Sr l a)(h1:1<=n)(h2:n<=1000000000000):Wp (fV ⟨l,a⟩ n) λr=>(0<=r.1∧r.1<n)∧Sr r.2.1 r.2.2:=by
 obtain⟨s1,s2,s3⟩:=hs;unfold fV;try simp only
 refine Wp.ite (λh=>au.2 ⟨⟨n_ _,by simp only;omega⟩,s1,s2,s3⟩) λh=>?_;have h':a<l.length:=by have:=pQ h;unfold len at this;omega
 have e1:W (W (a+1)-1)=a:=by rw[bZ (x:=a+1) (by omega) (by omega),bZ (by omega) (by omega)];omega
 rw[e1,iL s1 h'];simp only[aq,mod_eq h1 h2,bZ (x:=a+1) (by omega) (by omega)];exact au.2 ⟨⟨Int.emod_nonneg _ (by omega),Int.emod_lt_of_pos _ (by omega)⟩,by simp only;omega,s2,by simp only;omega⟩
def alf{l:List Int}{a n:Int}(hs:Sr l a)(h1:0<=n)(h2:n<=1000000000000):Wp (fV ⟨l,a⟩ n) λr=>(0<=r.1∧(r.1<n∨r.1=0))∧Sr r.2.1 r.2.2:=by
 by_cases h:1<=n
 ·exact(gW hs h h2).mono λr hr=>⟨⟨hr.1.1,.inl hr.1.2⟩,hr.2⟩
 ·obtain⟨s1,s2,s3⟩:=hs;unfold fV;try simp only
  refine Wp.ite (λh=>au.2 ⟨⟨n_ _,.inr rfl⟩,s1,s2,s3⟩) λh3=>?_;have h':a<l.length:=by have:=pQ h3;unfold len at this;omega
  have e1:W (W (a+1)-1)=a:=by rw[bZ (x:=a+1) (by omega) (by omega),bZ (by omega) (by omega)];omega
  have e2:Et (gt l a.toNat) n=aa 0:=by unfold Et;rw[dT (c:=n<1) (by omega)];rfl
  rw[e1,iL s1 h'];simp only[aq,e2,bZ (x:=a+1) (by omega) (by omega)];exact au.2 ⟨⟨n_ _,.inr rfl⟩,by simp only;omega,s2,by simp only;omega⟩
def pZ{l:List Int}{a lo hi:Int}(hs:Sr l a)(h:lo<=hi)(h1: -1000000000000<=lo)(h2:hi<=100000000000)(h3:hi-lo+1<=1000000000000):Wp (nU ⟨l,a⟩ lo hi) λr=>(lo<=r.1∧r.1<=hi)∧Sr r.2.1 r.2.2:=by unfold nU;have e1:W (hi-lo)=hi-lo:=bZ (by omega) (by omega);have e2:W (hi-lo+1)=hi-lo+1:=bZ (by omega) (by omega);simp only[e1,e2];refine(gW hs (n:=hi-lo+1) (by omega) (by omega)).bind λy hy=>?_;obtain⟨y,l',a'⟩:=y;simp only at hy⊢;rw[bZ (by omega) (by omega)];exact au.2 ⟨⟨by simp only;omega,by simp only;omega⟩,hy.2⟩
def dW{l:List Int}{a:Int}{w:List Int}(hs:Sr l a)(h0:w≠[])(hl:w.length<=1000000):Wp (dM ⟨l,a⟩ w) λr=>r.1∈w∧Sr r.2.1 r.2.2.1:=by unfold dM;have hp:0<w.length:=List.length_pos_iff.2 h0;refine(gW hs (n:=len w) (by unfold len;omega) (by unfold len;omega)).bind λy hy=>?_;obtain⟨y,l',a'⟩:=y;simp only at hy⊢;unfold len at hy;rw[iL hy.1.1 hy.1.2];exact au.2 ⟨dx (by omega),hy.2⟩
def ale(t:List Int):Wp (NH t) λr=>Sr r.1 r.2:=by
 unfold NH;have e:dK t 0 (eA (len t) 600)=aa (t.take (eA (len t) 600).toNat):=by unfold dK eA len;rw[aH (by split<;>omega)];simp
 rw[e];refine au.2 ⟨n_ _,?_,by simp only;omega⟩;simp only[List.length_take];unfold eA;split<;>omega
end Rx
end Go.Proofs.YtmngjhagbjgmfaaGreat
namespace Go.Proofs.YtmngjhagbjgmfaaGreat
open Go Go.RowKit
open Classical
namespace Dp
inductive kD(E:Nat->Nat->Prop):Nat->Nat->Prop
 |refl (i:Nat):kD E i i
 |step {i j k:Nat}:E i j->kD E j k->kD E i k
inductive iE(E:Nat->Nat->Prop):Nat->Nat->Nat->Prop
 |refl (r i:Nat):iE E r i i
 |step {r i j k:Nat}:E i j->iE E r j k->iE E (r+1) i k
section
variable {E E':Nat->Nat->Prop} {n:Nat}
def kD.trans{i j k:Nat}(h:kD E i j)(h':kD E j k):kD E i k:=by
 induction h with
 |refl=>exact h'
 |step e _ ih=>exact .step e (ih h')
def kD.one{i j:Nat}(h:E i j):kD E i j:= .step h (.refl _)
def kD.symm(hs:∀i j,E i j->E j i){i j:Nat}(h:kD E i j):kD E j i:=by
 induction h with
 |refl=>exact .refl _
 |step e _ ih=>exact ih.trans (.one (hs _ _ e))
def iE.more{r r' i j:Nat}(h:iE E r i j)(hr:r<=r'):iE E r' i j:=by
 induction h generalizing r' with
 |refl=>exact .refl _ _
 |step e _ ih=>
  cases r' with
  |zero=>omega
  |succ r'=>exact .step e (ih (by omega))
def iE.snoc{r i j k:Nat}(h:iE E r i j)(e:E j k):iE E (r+1) i k:=by
 induction h with
 |refl r i=>exact .step e (.refl _ _)
 |step e' _ ih=>exact .step e' (ih e)
def iE.zero{i j:Nat}(h:iE E 0 i j):i=j:=by cases h;rfl
def iE.last{r i k:Nat}(h:iE E (r+1) i k):iE E r i k∨∃j,iE E r i j∧E j k:=by
 generalize hm:r+1=m at h;induction h generalizing r with
 |refl=>exact .inl (.refl _ _)
 | @step r' i j k e w ih=>
   cases r' with
   |zero=>
    have:r=0:=by omega
    subst this;have:=w.zero;subst this;exact .inr ⟨i,.refl _ _,e⟩
   |succ r''=>
    have:r=r''+1:=by omega
    subst this;rcases ih rfl with h|⟨j',h1,h2⟩
    ·exact .inl (.step e h)
    ·exact .inr ⟨j',.step e h1,h2⟩
def su(E:Nat->Nat->Prop)(n r i:Nat):Nat:=((bW n).filter λj=>decide (iE E r i j)).length
def Ve{p q:Nat->Bool}(h:∀x,p x=ab->q x=ab):∀l:List Nat,(l.filter p).length<=(l.filter q).length
 |[]=>bx _
 |x::l=>by
  have ih:=Ve h l;by_cases hp:p x=ab
  ·rw[lO hp,lO (h x hp)];simpa using ih
  ·rw[pT hp];by_cases hq:q x=ab
   ·rw[lO hq];simp;omega
   ·rw[pT hq];exact ih
def Vf{p q:Nat->Bool}(h:∀x,p x=ab->q x=ab):∀l:List Nat,(l.filter p).length=(l.filter q).length->∀x∈l,q x=ab->p x=ab
 |[],_,x,hx,_=>by cases hx
 |y::l,he,x,hx,hq=>by
  have hle:=Ve h l;by_cases hp:p y=ab
  ·rw[lO hp,lO (h y hp)]at he;rcases cu.1 hx with rfl|hx
   ·exact hp
   ·exact Vf h l (by simpa using he) x hx hq
  ·rw[pT hp]at he;by_cases uc:q y=ab
   ·rw[lO uc]at he;simp at he;omega
   ·rw[pT uc]at he;rcases cu.1 hx with rfl|hx
    ·exact(uc hq).elim
    ·exact Vf h l he x hx hq
def apg(r i:Nat):su E n r i<=n:=by unfold su;refine lN (zm _ _) ?_;simp
def anM(hE:∀i j,E i j->j<n){r i:Nat}(hi:i<n)(h:su E n r i=su E n (r+1) i):∀m j,iE E (r+m) i j->iE E r i j:=by
 have h1:∀j,j<n->iE E (r+1) i j->iE E r i j:=by intro j hj hw;have:=Vf (p:=λj=>decide (iE E r i j)) (q:=λj=>decide (iE E (r+1) i j)) (λx hx=>v9 ((jA hx).more (by omega))) (bW n) h j (eu.2 hj) (v9 hw);exact jA this
 intro m;induction m with
 |zero=>intro j h;exact h
 |succ m ih=>
  intro j hw;rcases iE.last (r:=r+m) hw with h2|⟨k,h2,h3⟩
  ·exact ih j h2
  ·exact h1 j (hE _ _ h3) ((ih k h2).snoc h3)
def kD.walk(hE:∀i j,E i j->j<n){i j:Nat}(hi:i<n)(h:kD E i j):iE E (n-1) i j:=by
 have as8:∃m,iE E m i j:=by
  induction h with
  |refl=>exact⟨0,.refl _ _⟩
  |step e _ ih=>obtain⟨m,hm⟩:=ih (hE _ _ e);exact⟨m+1,.step e hm⟩
 obtain⟨m,hm⟩:=as8;have:∃r,r<=n-1∧su E n r i=su E n (r+1) i:=by
  apply gC;intro hn;have auj:∀r,r<=n->r+1<=su E n r i:=by
   intro r;induction r with
   |zero=>intro _;unfold su;have:i∈(bW n).filter λj=>decide (iE E 0 i j):=lh.2 ⟨eu.2 hi,v9 (.refl _ _)⟩;exact List.length_pos_of_mem this
   |succ r ih=>intro hr;have h1:=ih (by omega);have h2:su E n r i<=su E n (r+1) i:=Ve (λx hx=>v9 ((jA hx).more (by omega))) _;have h3:su E n r i≠su E n (r+1) i:=λe=>hn ⟨r,by omega,e⟩;omega
  have h4:=auj n (bx _);have h5:=apg (E:=E) (n:=n) n i;omega
 obtain⟨r,hr,he⟩:=this;have h6:iE E r i j:=anM hE hi he m j (hm.more (by omega));exact h6.more hr
end
end Dp
end Go.Proofs.YtmngjhagbjgmfaaGreat
namespace Go.Proofs.YtmngjhagbjgmfaaGreat
open Go Go.RowKit Dp
namespace Rx
open Classical
abbrev bd(nb:Int)(br:List cH)(S:List Source)(C:List Consumer):aw:=⟨nb,br,S,C,0,0⟩
def cE.snoc{nb:Int}{br:List cH}{S S':List Source}{C C':List Consumer}{x:cH}(h:cE (bd nb br S C))(hS:S.length<=S'.length)(hC:C.length<=C'.length)
  (hA:0<=x.A∧x.A<=nb-1)
  (hx:(x.Kind=1∧x.A+1<=x.B∧x.B<=nb-1)∨(x.Kind=2∧(0<=x.B∧x.B<=(S'.length:Int)-1)∧∀i,i<br.length->¬((gt br i).Kind=2∧(gt br i).B=x.B))∨(x.Kind=3∧(0<=x.B∧x.B<=(C'.length:Int)-1)∧∀i,i<br.length->¬((gt br i).Kind=3∧(gt br i).B=x.B∧(gt br i).A=x.A)))
  (cS:∀j,S.length<=j->j<S'.length->oB x j) (cC:∀j,C.length<=j->j<C'.length->px x j):cE (bd nb (br++[x]) S' C'):=by
 obtain⟨h1,h2,h3⟩:=h
 refine⟨λk hk=>?_,λj hj=>?_,λj hj=>?_⟩
 ·have cV:k<br.length+1:=by simpa using hk
  by_cases sK:k<br.length
  ·have h4:=h1 k sK;unfold BU at h4⊢;simp only at h4⊢;have e:∀i,i<=k->gt (br++[x]) i=gt br i:=λi hi=>by rw[sQ (by omega),aH (by omega)]
   rw[e k (bx _)];refine⟨h4.1,?_⟩;rcases h4.2 with h5|⟨h5,h6,h7⟩|⟨h5,h6,h7⟩
   ·exact .inl h5
   ·exact .inr (.inl ⟨h5,by omega,λi hi=>by rw[e i (by omega)];exact h7 i hi⟩)
   ·exact .inr (.inr ⟨h5,by omega,λi hi=>by rw[e i (by omega)];exact h7 i hi⟩)
  ·have:k=br.length:=by omega
   subst this;unfold BU;try simp only
   have e:∀i,i<br.length->gt (br++[x]) i=gt br i:=λi hi=>by rw[sQ (by omega),aH hi]
   rw[Ng];refine⟨hA,?_⟩;rcases hx with h5|⟨h5,h6,h7⟩|⟨h5,h6,h7⟩
   ·exact .inl h5
   ·exact .inr (.inl ⟨h5,h6,λi hi=>by rw[e i hi];exact h7 i hi⟩)
   ·exact .inr (.inr ⟨h5,h6,λi hi=>by rw[e i hi];exact h7 i hi⟩)
 ·by_cases dj:j<S.length
  ·obtain⟨k,hk,hs⟩:=h2 j dj;have cV:k<br.length:=hk;exact⟨k,by simp;omega,by show oB (gt (br++[x]) k) j;rw[Nf cV];exact hs⟩
  ·exact⟨br.length,by simp,by show oB (gt (br++[x]) br.length) j;rw[Ng];exact cS j (by omega) hj⟩
 ·by_cases dj:j<C.length
  ·obtain⟨k,hk,hs⟩:=h3 j dj;have cV:k<br.length:=hk;exact⟨k,by simp;omega,by show px (gt (br++[x]) k) j;rw[Nf cV];exact hs⟩
  ·exact⟨br.length,by simp,by show px (gt (br++[x]) br.length) j;rw[Ng];exact cC j (by omega) hj⟩
def cE.an0{nb:Int}{br:List cH}{S:List Source}{C:List Consumer}(h:cE (bd nb br S C)){i:Nat}(hi:i<br.length)(hk:(gt br i).Kind=2):(gt br i).B<=(S.length:Int)-1:=by have:=(h.1 i hi).2;simp only at this;rcases this with h5|⟨h5,h6,h7⟩|⟨h5,h6,h7⟩<;>omega
def cE.ax3{nb:Int}{br:List cH}{S:List Source}{C:List Consumer}(h:cE (bd nb br S C)){i:Nat}(hi:i<br.length)(hk:(gt br i).Kind=3):(gt br i).B<=(C.length:Int)-1:=by have:=(h.1 i hi).2;simp only at this;rcases this with h5|⟨h5,h6,h7⟩|⟨h5,h6,h7⟩<;>omega
def cE.tie{nb:Int}{br:List cH}{S:List Source}{C:List Consumer}(h:cE (bd nb br S C)){a c:Int}(h0:0<=a)(h1:a+1<=c)(h2:c<=nb-1):cE (bd nb (br++[⟨1,a,c⟩]) S C):=h.snoc (bx _) (bx _) ⟨h0,by simp only;omega⟩ (.inl ⟨rfl,h1,h2⟩) (λj _ _=>by omega) (λj _ _=>by omega)
def cE.src{nb:Int}{br:List cH}{S:List Source}{C:List Consumer}(h:cE (bd nb br S C)){a:Int}(h0:0<=a)(h1:a<=nb-1)(s:Source):cE (bd nb (br++[⟨2,a,len S⟩]) (S++[s]) C):=by refine h.snoc (by simp) (bx _) ⟨h0,h1⟩ (.inr (.inl ⟨rfl,by simp[len],λi hi hh=>?_⟩)) (λj h3 h4=>⟨rfl,by simp at h4;unfold len;simp only;omega⟩) (λj _ _=>by omega);have:=h.an0 hi hh.1;have e:=hh.2;simp only[len]at e;omega
def cE.iO{nb:Int}{br:List cH}{S:List Source}{C:List Consumer}(h:cE (bd nb br S C)){a:Int}(h0:0<=a)(h1:a<=nb-1)(c:Consumer):cE (bd nb (br++[⟨3,a,len C⟩]) S (C++[c])):=by refine h.snoc (bx _) (by simp) ⟨h0,h1⟩ (.inr (.inr ⟨rfl,by simp[len],λi hi hh=>?_⟩)) (λj _ _=>by omega) (λj h3 h4=>⟨rfl,by simp at h4;unfold len;simp only;omega⟩);have:=h.ax3 hi hh.1;have e:=hh.2.1;simp only[len]at e;omega
structure rV(b:aw):Prop where
 jg:1<=b.aB∧b.aB<=4
 da:b.ae.length<=18
 src:b.aj.length<=4
 iO:b.az.length<=5
 H6:qU b
 aCZ:∀x∈b.aj,10<=x.ik∧x.ik<=100
 load:∀x∈b.az,0<=x.eV∧x.eV<=40
def rV.gu{b:aw}(h:rV b):gn b:=⟨⟨h.jg.1,by have:=h.jg.2;omega⟩,by have:=h.da;omega,by have:=h.src;omega,by have:=h.iO;omega⟩
def rV.sm{b:aw}(h:rV b):fu b:=by refine⟨by have:=h.da;unfold Sm;omega,by have:=h.src;unfold Sm;omega,by have:=h.iO;unfold Sm;omega,λx hx=>?_⟩;obtain⟨k,hk,rfl⟩:=ou hx;have:=(h.H6.2.2.2.2 k hk).2.2.2.2.2;unfold Sm;omega
def rV.nj{b:aw}(h:rV b):nj b=0:=BB.2 ⟨h.gu,h.H6⟩
end Rx
namespace Rx
open Classical
def Iw{b:aw}{p q:ax}{j:Int}{n:Nat}(h:∀i,i<n->(gt b.ae i).Kind=3->(gt b.ae i).B=j->gt p.aG i=gt q.aG i):eU b p j n=eU b q j n:=by
 induction n with
 |zero=>rfl
 |succ n ih=>
  unfold eU;rw[ih λi hi=>h i (by omega)];cR 1;by_cases h1:(gt b.ae n).Kind=3
  ·by_cases h2:(gt b.ae n).B=j
   ·rw[h n (by omega) h1 h2]
   ·simp[h2]
  ·simp[h1]
abbrev pc(cl:List Bool):ax:=⟨cl,[],[],[]⟩
def p7(a b c:Int):j6 a b c=aa (al (b<=a∧a<=c)):=by unfold j6;by_cases h:b<=a<;>simp[h]
def exists_eq{b:aw}(hb:gn b)(x:Part):Ii b x=aa (al (0<=x.Number∧x.Number<=bsize b x.Kind-1)):=by
 have h1:=hb.jg;have h2:=hb.da;have h3:=hb.src;have h4:=hb.iO;have e1:W (len b.aj-1)=(b.aj.length:Int)-1:=by unfold len;exact bZ (by omega) (by omega)
 have e2:W (len b.ae-1)=(b.ae.length:Int)-1:=by unfold len;exact bZ (by omega) (by omega)
 have e3:W (b.aB-1)=b.aB-1:=bZ (by omega) (by omega);have e4:W (len b.az-1)=(b.az.length:Int)-1:=by unfold len;exact bZ (by omega) (by omega)
 unfold Ii bsize;simp only[p7,e1,e2,e3,e4];by_cases k1:x.Kind=1
 ·simp[k1]
 by_cases k2:x.Kind=2
 ·simp[k2]
 by_cases k3:x.Kind=3
 ·simp[k3]
 by_cases k4:x.Kind=4
 ·simp[k4]
 have:¬(0<=x.Number∧x.Number<=(0:Int)-1):=by omega
 simp[k1,k2,k3,k4];omega
def aql{b:aw}(hb:Sm b.ae)(i:Nat)(w:List Bool){cl:List Bool}(hl:cl.length=b.ae.length):
  Wp (aJ (Ps b ((i:Int),w)) (ab,0,cl)) λr=>r.length=b.ae.length∧eU b (pc r) (i:Int) b.ae.length<=1∧∀k,¬px (gt b.ae k) i->gt r k=gt cl k:=by
 refine dV b.ae.length (λk s=>∃f c,s=(f,(k:Int),c)∧c.length=b.ae.length∧eU b (pc c) (i:Int) k=(if f=ab then 0 else 1)∧∀j,(k<=j∨¬px (gt b.ae j) i)->gt c j=gt cl j) ⟨_,_,rfl,hl,rfl,λ_ _=>rfl⟩ ?_ ?_
 ·rintro k s hk ⟨f,c,rfl,h1,h2,h3⟩;have hs:=eP hb hk;unfold Ps;simp only[bb hk,aI,aP hk,aP (show k<c.length by omega),aq,ba hs,jC (show k<c.length by omega)];by_cases hc:px (gt b.ae k) i
  ·rw[gm hc.1,gm hc.2];simp only[aI,aq];cases hv:gt c k with
   |true=>
    simp only[aI,aq];refine au.2 ⟨_,_,rfl,by simpa using h1,?_,λj hj=>?_⟩
    ·simp only[aE,aD];unfold eU;have e1:eU b (pc (c.set k f)) (i:Int) k=eU b (pc c) (i:Int) k:=Iw λj hj _ _=>by show gt (c.set k f) j=gt c j;rw[gH (by omega),aL (by omega)]
     have e2:gt (c.set k f) k=f:=by rw[gH (by omega),aH rfl]
     rw[e1,h2];cases f with
     |true=>simp[hc.1,hc.2,e2]
     |false=>simp[e2]
    ·rw[gH (by omega)];by_cases ma:j=k
     ·subst ma;rcases hj with hj|hj
      ·omega
      ·exact(hj hc).elim
     ·rw[aL ma];exact h3 j (hj.imp (λh=>by omega) id)
   |false=>simp only[aE,aD,aq];refine au.2 ⟨_,_,rfl,h1,?_,λj hj=>h3 j (hj.imp (λh=>by omega) id)⟩;show eU b (pc c) (i:Int) k+_=_;rw[h2];simp[hv]
  ·have:(if((gt b.ae k).Kind==3)=ab then(if((gt b.ae k).B==(i:Int))=ab then aa (gt c k)else aa ai)else aa ai:Option Bool)=aa ai:=by
    by_cases h4:(gt b.ae k).Kind=3
    ·have h5:(gt b.ae k).B≠(i:Int):=λh=>hc ⟨h4,h⟩;rw[gm h4,dI h5];rfl
    ·rw[dI h4];rfl
   rw[this];simp only[aq,aE,aD];refine au.2 ⟨_,_,rfl,h1,?_,λj hj=>h3 j (hj.imp (λh=>by omega) id)⟩;have hz:¬((gt b.ae k).Kind=3∧(gt b.ae k).B=(i:Int)∧gt c k=ab):=λh=>hc ⟨h.1,h.2.1⟩;show eU b (pc c) (i:Int) k+(if(gt b.ae k).Kind=3∧(gt b.ae k).B=(i:Int)∧gt c k=ab then 1 else 0)=_;rw[h2,aL hz,Nat.add_zero]
 ·rintro s ⟨f,c,rfl,h1,h2,h3⟩;unfold Ps;simp only[bJ,aE,aD];refine au.2 ⟨h1,?_,λk hk=>h3 k (.inr hk)⟩;rw[h2];split<;>omega
structure Jl(b:aw)(p:ax):Prop where
 shape:Shape b p
 H6:v5 b p
 ajm:p.aS.length<=4
 aDx:∀x∈p.aj,4950<=x.aZ∧x.aZ<=5005
def Jl.sm{b:aw}{p:ax}(hb:rV b)(h:Jl b p):dt p:=by obtain⟨h1,h2,h3⟩:=h.shape;have:=hb.da;have:=hb.src;have:=hb.iO;have:=h.ajm;exact⟨by unfold Sm;omega,by unfold Sm;omega,by unfold Sm;omega,by unfold Sm;omega⟩
def Jl.bj{b:aw}{p:ax}(hb:rV b)(h:Jl b p):bj b p=0:=by unfold Go.Proofs.YtmngjhagbjgmfaaGreat.Rx.bj;rw[aH hb.nj,aH h.shape,aH h.H6]
def aCH(b:aw)(l:List Int)(a:Int)(cl:List Bool)(run:List bo)(gu:List Int)(da:List Part):Prop:=Sr l a∧Jl b ⟨cl,run,gu,da⟩
def ak'{l:List Int}{a:Int}(hs:Sr l a){b:aw}(hb:rV b):Wp (Pt ⟨l,a⟩ b) λr=>∃l a cl run gu da,r=(l,a,b.ae,b.aj,b.az,cl,run,gu,da)∧aCH b l a cl run gu da:=by
 have nP:=hb.da;have mB:=hb.src;have DY:=hb.iO;have fH:=hb.sm;unfold Pt;refine Wp.bind (Q:=λx=>∃l a cl,x=(l,a,cl)∧Sr l a∧cl.length=b.ae.length) ?_ λx hx=>?_
 ·refine dV b.ae.length (λk s=>∃l a cl,s=((k:Int),l,a,cl)∧Sr l a∧cl.length=k) ⟨_,_,_,rfl,hs,rfl⟩ ?_ ?_
  ·rintro k s hk ⟨l,a,cl,rfl,hs,h1⟩;unfold XT;simp only[bb hk,aI];refine(gW hs (n:=2) (by omega) (by omega)).bind λy hy=>?_;obtain⟨y,l,a⟩:=y;try simp only
   rw[cK (by simp;omega)];exact au.2 ⟨_,_,_,by rw[ba (by omega)],hy.2,by simp;omega⟩
  ·rintro s ⟨l,a,cl,rfl,hs,h1⟩;unfold XT;simp only[bJ,aE,aD];exact au.2 ⟨_,_,_,rfl,hs,h1⟩
 obtain⟨l,a,cl0,rfl,hs,hx⟩:=hx;try simp only
 refine Wp.bind (Q:=λc:List Bool=>c.length=b.ae.length∧∀j,j<b.az.length->eU b (pc c) (j:Int) b.ae.length<=1) ?_ λcl c_=>?_
 ·refine dV b.az.length (λk s=>∃c,s=((k:Int),c)∧c.length=b.ae.length∧∀j,j<k->eU b (pc c) (j:Int) b.ae.length<=1) ⟨_,rfl,hx,λj hj=>by omega⟩ ?_ ?_
  ·rintro k s hk ⟨c,rfl,h1,h2⟩;unfold XS;simp only[bb hk,aI];refine(aql fH.1 k c h1).bind λr hr=>?_;refine au.2 ⟨_,by rw[ba (by omega)],hr.1,λj hj=>?_⟩;by_cases ma:j=k
   ·subst ma;exact hr.2.1
   ·rw[Iw (q:=pc c) λi hi h3 h4=>hr.2.2 i λhh=>by have:=hh.2;omega];exact h2 j (by omega)
  ·rintro s ⟨c,rfl,h1,h2⟩;unfold XS;simp only[bJ,aE,aD];exact au.2 ⟨h1,h2⟩
 refine Wp.bind (Q:=λx=>∃l a run,x=(l,a,run)∧Sr l a∧run.length=b.aj.length∧∀r∈run,gV r∧4950<=r.aZ∧r.aZ<=5005) ?_ λx py=>?_
 ·refine dV b.aj.length (λk s=>∃l a run,s=((k:Int),l,a,run)∧Sr l a∧run.length=k∧∀r∈run,gV r∧4950<=r.aZ∧r.aZ<=5005) ⟨_,_,_,rfl,hs,rfl,by simp⟩ ?_ ?_
  ·rintro k s hk ⟨l,a,run,rfl,hs,h1,h2⟩;unfold XR;simp only[bb hk,aI];refine(dW hs (by simp) (by simp)).bind λy e1=>?_;obtain⟨y1,l,a,z⟩:=y;obtain⟨e1,hs⟩:=e1;simp only[cu,jQ,kE]at e1 hs⊢;refine(gW hs (n:=5) (by omega) (by omega)).bind λy e2=>?_;obtain⟨y2,l,a⟩:=y;obtain⟨e2,hs⟩:=e2;simp only at e2 hs⊢;refine(dW hs (by simp) (by simp)).bind λy e3=>?_;obtain⟨y3,l,a,z⟩:=y;obtain⟨e3,hs⟩:=e3;simp only[cu,jQ,kE]at e3 hs⊢;refine(dW hs (by simp) (by simp)).bind λy e4=>?_;obtain⟨y4,l,a,z⟩:=y;obtain⟨e4,hs⟩:=e4;simp only[cu,jQ,kE]at e4 hs⊢;rw[cK (by simp;omega)];simp only[aq];refine au.2 ⟨_,_,_,by rw[ba (by omega)],hs,by simp;omega,λr hr=>?_⟩;rcases bA.1 hr with hr|hr
   ·exact h2 r hr
   ·simp only[eb]at hr;subst hr;unfold gV;try simp only
    omega
  ·rintro s ⟨l,a,run,rfl,hs,h1,h2⟩;unfold XR;simp only[bJ,aE,aD];exact au.2 ⟨_,_,_,rfl,hs,h1,h2⟩
 obtain⟨l,a,run,rfl,hs,py,acK⟩:=py;try simp only
 refine Wp.bind (Q:=λx=>∃l a gu,x=(l,a,gu)∧Sr l a∧gu.length=b.az.length∧∀k,k<b.az.length->0<=gt gu k∧gt gu k<=(gt b.az k).eV) ?_ λx AD=>?_
 ·refine dV b.az.length (λk s=>∃l a gu,s=((k:Int),l,a,gu)∧Sr l a∧gu.length=k∧∀j,j<k->0<=gt gu j∧gt gu j<=(gt b.az j).eV) ⟨_,_,_,rfl,hs,rfl,λj hj=>by omega⟩ ?_ ?_
  ·rintro k s hk ⟨l,a,gu,rfl,hs,h1,h2⟩;have qA:=hb.H6.2.2.2.2 k hk;unfold XQ;have Hy:=qA.2.1;have T6:=qA.2.2.1;simp only[bb hk,aI,aP hk,aq];rw[zO Hy.1 (by omega) (by omega)];simp only[aq];refine(dW hs (by simp) (by simp)).bind λy e1=>?_;obtain⟨y1,l,a,z⟩:=y;obtain⟨e1,hs⟩:=e1;simp only[cu,jQ,kE]at e1 hs⊢;rw[cK (by simp;omega)];simp only[aq];refine au.2 ⟨_,_,_,by rw[ba (by omega)],hs,by simp;omega,λj hj=>?_⟩;rw[sQ (by omega)];by_cases dj:j<gu.length
   ·rw[aH dj];exact h2 j (by omega)
   ·rw[aL dj];have:j=k:=by omega
    subst this;omega
  ·rintro s ⟨l,a,gu,rfl,hs,h1,h2⟩;unfold XQ;simp only[bJ,aE,aD];exact au.2 ⟨_,_,_,rfl,hs,h1,h2⟩
 obtain⟨l,a,gu,rfl,hs,AD,asQ⟩:=AD;try simp only
 refine Wp.bind (Q:=λx=>∃l a da,x=(l,a,da)∧Sr l a∧da.length<=4∧∀k,k<da.length->oS b da k) ?_ λx Hf=>?_
 ·refine dV 4 (λk s=>∃l a da,s=((k:Int)+1,l,a,da)∧Sr l a∧da.length<=k∧(∀x∈da,x.Kind<=(k:Int))∧∀j,j<da.length->oS b da j) ⟨_,_,_,rfl,hs,bx _,by simp,λj hj=>absurd hj (by simp)⟩ ?_ ?_
  ·rintro k s hk ⟨l,a,da,rfl,hs,h1,h2,h3⟩;unfold XP;simp only[dT (c:=(k:Int)+1<=4) (by omega),aI];refine(gW hs (n:=5) (by omega) (by omega)).bind λy hy=>?_;obtain⟨y1,l,a⟩:=y;obtain⟨hy,hs⟩:=hy;simp only at hy hs⊢;refine Wp.bind (Q:=λx=>∃l a da,x=(l,a,da)∧Sr l a∧da.length<=k+1∧(∀q∈da,q.Kind<=(k:Int)+1)∧∀j,j<da.length->oS b da j) ?_ λx hx5=>?_
   ·refine Wp.ite (λ_=>?_) (λ_=>au.2 ⟨_,_,_,rfl,hs,by omega,λq hq=>by have:=h2 q hq;omega,h3⟩);refine(gW hs (n:=4) (by omega) (by omega)).bind λy e1=>?_;obtain⟨y2,l,a⟩:=y;obtain⟨e1,hs⟩:=e1;simp only at e1 hs⊢;rw[exists_eq hb.gu];simp only[aq,cP];refine Wp.bind (Q:=λx:List Part=>x.length<=k+1∧(∀q∈x,q.Kind<=(k:Int)+1)∧∀j,j<x.length->oS b x j) ?_ λx He=>au.2 ⟨_,_,_,rfl,hs,He⟩;refine Wp.ite (λhe=>?_) (λ_=>au.2 ⟨by omega,λq hq=>by have:=h2 q hq;omega,h3⟩);have na:=jA he;rw[cK (by simp;omega)];refine au.2 ⟨by simp;omega,λq hq=>?_,λj hj=>?_⟩
    ·rcases bA.1 hq with hq|hq
     ·have:=h2 q hq;omega
     ·simp only[eb]at hq;subst hq;exact n_ _
    ·have nN:j<da.length+1:=by simpa using hj
     unfold oS;rw[sQ nN];by_cases dj:j<da.length
     ·rw[aH dj,sQ (by omega),aH (by omega)];exact h3 j dj
     ·rw[aL dj];refine⟨na,λh0=> .inl ?_⟩;rw[sQ (by omega),aH (by omega)];have:=h2 _ (dx (show j-1<da.length by omega));try simp only
      omega
   ·obtain⟨l,a,aB7,rfl,hs,q1,q2,q3⟩:=hx5;refine au.2 ⟨l,a,aB7,?_,hs,q1,λq hq=>by have:=q2 q hq;omega,q3⟩;rw[bZ (by omega) (by omega),show(k:Int)+1+1=((k+1:Nat):Int)+1 from by omega]
  ·rintro s ⟨l,a,da,rfl,hs,h1,h2,h3⟩;unfold XP;simp only[dF (c:=((4:Nat):Int)+1<=4) (by omega),aE,aD];exact au.2 ⟨_,_,_,rfl,hs,h1,h3⟩
 obtain⟨l,a,da,rfl,hs,Hf,asP⟩:=Hf;try simp only
 refine au.2 ⟨_,_,_,_,_,_,rfl,hs,⟨c_.1,py,AD⟩,⟨⟨asP,by simp only;omega⟩,λk hk=>(acK _ (dx hk)).1,λk hk=>?_⟩,Hf,λr hr=>(acK r hr).2⟩;simp only at hk;have cV:k<b.az.length:=by omega
 refine⟨asQ k cV,?_⟩;exact lN (Nat.le_of_eq (Iw (b:=b) (p:=⟨cl,run,gu,da⟩) (q:=pc cl) (λ_ _ _ _=>rfl))) (c_.2 k cV)
end Rx
namespace Rx
def mW(b:aw)(p:ax)(kind j:Int)(k:Nat):Bool:=((gt b.ae k).Kind==kind&&(gt b.ae k).B==j)&&gt p.aG k
def gj(b:aw)(p:ax)(kind j:Int):Int×Bool:=match(bW b.ae.length).find? (mW b p kind j)with
 |some k=>((gt b.ae k).A,ab)
 |none=>(0,ai)
def abY{b:aw}{p:ax}(hs:Sm b.ae)(hc:p.aG.length=b.ae.length)(kind j:Int):IP b p kind j=aa (gj b p kind j):=by
 have h:=vm (step:=ER b p kind j) (λk=>(k:Int)) b.ae.length (mW b p kind j) (R:=λk=> .inr ((gt b.ae k).A,ab)) (e:= .inl ())
  (λk hk hp=>by
    simp only[ER,bb hk,aI,aP hk,aP (show k<p.aG.length by omega),aq,cP,bw,bC,bS,ba (eP hs hk)];unfold mW at hp;cases h1:(gt b.ae k).Kind==kind with
    |false=>simp
    |true=>
     cases h2:(gt b.ae k).B==j with
     |false=>simp
     |true=>rw[h1,h2]at hp;simp only[Bool.and_self,Bool.true_and]at hp;simp[hp])
  (λk hk hp=>by simp only[ER,bb hk,aI,aP hk,aP (show k<p.aG.length by omega),aq,cP,bw,bC,bS];unfold mW at hp;simp only[bt]at hp;simp[hp.1.1,hp.1.2,hp.2])
  (by simp only[ER,bJ,aE,aD])
 have h':aJ (ER b p kind j) 0=_:=h;unfold IP gj;rw[h'];cases(bW b.ae.length).find? (mW b p kind j)<;>rfl
def conn(b:aw)(p:ax)(j:Int):Int×Bool:=if 0<=j∧j<=(p.aj.length:Int)-1 then(if(gt p.aj j.toNat).State=2 then gj b p 2 j else(0,ai))else(0,ai)
def ax1{b:aw}{p:ax}(hs:Sm b.ae)(hp:Sm p.aj)(hc:p.aG.length=b.ae.length)(j:Int):IU b p j=aa (conn b p j):=by
 unfold Sm at hp;have e1:W (len p.aj-1)=(p.aj.length:Int)-1:=by unfold len;exact bZ (by omega) (by omega)
 unfold IU conn;simp only[e1,ry,aq,cP,bw,bC,bS];by_cases h:0<=j∧j<=(p.aj.length:Int)-1
 ·rw[dT h,aH h];simp only[ei,aE,aD,iL h.1 (show j<(p.aj.length:Int) by omega),aq,cP,bw,bC,bS,abY hs hc];by_cases h2:(gt p.aj j.toNat).State=2
  ·simp[h2]
  ·simp[h2]
 ·rw[dF h,aL h];rfl
def aeF{b:aw}{p:ax}(hs:Sm b.ae)(hc:p.aG.length=b.ae.length)(j:Int):IT b p j=aa (gj b p 3 j):=by unfold IT;rw[abY hs hc];rfl
def least(f:List Int)(x:cH):Int:=if gt f x.B.toNat<gt f x.A.toNat then gt f x.B.toNat else gt f x.A.toNat
def ol(b:aw)(p:ax)(f:List Int)(k:Nat):List Int:=
 if(gt b.ae k).Kind=1∧gt p.aG k=ab then(f.set (gt b.ae k).A.toNat (least f (gt b.ae k))).set (gt b.ae k).B.toNat (least f (gt b.ae k))else f
def gN(b:aw)(p:ax):Nat->List Int->List Int
 |0,f=>f
 |k+1,f=>ol b p (gN b p k f) k
def rounds(b:aw)(p:ax):Nat->List Int->List Int
 |0,f=>f
 |r+1,f=>gN b p b.ae.length (rounds b p r f)
def own(n:Nat):List Int:=(bW n).map Int.ofNat
def cr(b:aw)(p:ax):List Int:=rounds b p b.aB.toNat (own b.aB.toNat)
def Zy(b:aw)(p:ax)(f:List Int)(k:Nat):(ol b p f k).length=f.length:=by unfold ol;split<;>simp
def Zz(b:aw)(p:ax)(k:Nat)(f:List Int):(gN b p k f).length=f.length:=by
 induction k with
 |zero=>rfl
 |succ k ih=>unfold gN;rw[Zy,ih]
def aaw(b:aw)(p:ax)(r:Nat)(f:List Int):(rounds b p r f).length=f.length:=by
 induction r with
 |zero=>rfl
 |succ r ih=>unfold rounds;rw[Zz,ih]
def U4(b:aw)(p:ax):(cr b p).length=b.aB.toNat:=by unfold cr;rw[aaw];simp[own]
def Sf{n k:Nat}(h:k<n):gt (own n) k=(k:Int):=by unfold own;rw[lF _ h];rfl
def aoS{b:aw}{p:ax}(hb:cE b)(hs:Sm b.ae)(hc:p.aG.length=b.ae.length){f:List Int}(hf:(f.length:Int)=b.aB):aJ (IQ b p) ((0:Int),f)=aa (gN b p b.ae.length f):=by
 refine dQ (step:=IQ b p) (λk=>((k:Int),gN b p k f)) b.ae.length (λk hk=>?_) (by simp only[IQ,bJ,aE,aD]);have jt:=hb.1 k hk;have hl:=Zz b p k f;simp only[IQ,bb hk,aI,aP hk,aP (show k<p.aG.length by omega),aq,cP,bw,bC,bS,ba (eP hs hk)];by_cases h1:(gt b.ae k).Kind=1
 ·rw[gm h1];simp only[aI,aq,cP,bw,bC,bS];cases h2:gt p.aG k with
  |false=>
   simp only[aE,aD,aq,cP,bw,bC,bS];have e:gN b p (k+1) f=gN b p k f:=by show ol b p (gN b p k f) k=_;unfold ol;rw[aL (λh=>by rw[h2]at h;exact absurd h.2 (by simp))]
   rw[e]
  |true=>
   have hA:=jt.1;have hB:(gt b.ae k).A+1<=(gt b.ae k).B∧(gt b.ae k).B<=b.aB-1:=by
    rcases jt.2 with h|h|h
    ·exact h.2
    ·have:=h.1;omega
    ·have:=h.1;omega
   simp only[aI,iL hA.1 (show(gt b.ae k).A<((gN b p k f).length:Int) by omega),iL (show 0<=(gt b.ae k).B by omega) (show(gt b.ae k).B<((gN b p k f).length:Int) by omega),aq,cP,bw,bC,bS];have e:gN b p (k+1) f=((gN b p k f).set (gt b.ae k).A.toNat (least (gN b p k f) (gt b.ae k))).set (gt b.ae k).B.toNat (least (gN b p k f) (gt b.ae k)):=by show ol b p (gN b p k f) k=_;unfold ol;rw[aH ⟨h1,h2⟩]
   rw[CX hA.1 (by omega)];simp only[aq,cP,bw,bC,bS];rw[CX (by omega) (by simp;omega),e,iL (show 0<=(gt b.ae k).B by omega) (by simp;omega)];rfl
 ·rw[dI h1];simp only[aE,aD,aq,cP,bw,bC,bS];have e:gN b p (k+1) f=gN b p k f:=by show ol b p (gN b p k f) k=_;unfold ol;rw[aL (λh=>h1 h.1)]
  rw[e]
def av7{b:aw}{p:ax}(hl:gn b)(hb:cE b)(hs:Sm b.ae)(hc:p.aG.length=b.ae.length):OS b p=aa (cr b p):=by
 have pF:=hl.jg;obtain⟨n,hn⟩:=nu (show 0<=b.aB by omega);have hn6:n<=6:=by omega
 unfold OS;rw[hn,yd (by omega)];simp only[aq,cP,bw,bC,bS];have aud:aJ (IS (cU n (0:Int))) ((0:Int),cU n (0:Int))=aa (own n):=by
  have hlz:(cU n (0:Int)).length=n:=by simp
  have h:=dQ (step:=IS (cU n (0:Int))) (λk=>((k:Int),(bW n).map λi:Nat=>if i<k then(i:Int)else 0)) n (r:=own n)
   (λk hk=>by
     have hlen:((bW n).map λi:Nat=>if i<k then(i:Int)else 0).length=n:=by simp
     have e1:al ((k:Int)<len (cU n (0:Int)))=ab:=dT (by unfold len;omega);simp only[IS,e1,aI,aP (show k<((bW n).map λi:Nat=>if i<k then(i:Int)else 0).length by omega),aq,cP,bw,bC,bS,jC (show k<((bW n).map λi:Nat=>if i<k then(i:Int)else 0).length by omega),ba (show k<1000000000000000000 by omega)];cR 3;apply jZ
     ·simp
     ·intro i hi;have er:i<n:=by simpa using hi
      rw[gH (by omega),lF _ er,lF _ er];by_cases eN:i=k
      ·subst eN;rw[aH rfl,aH (by omega)]
      ·rw[aL eN];by_cases h1:i<k
       ·rw[aH h1,aH (by omega)]
       ·rw[aL h1,aL (by omega)])
   (by
     have e1:al ((n:Int)<len (cU n (0:Int)))=ai:=dF (by unfold len;omega);simp only[IS,e1,aE,aD];cR 2;apply jZ
     ·simp[own]
     ·intro i hi;have er:i<n:=by simpa using hi
      rw[lF _ er,aH er,Sf er])
  have e0:((bW n).map λi:Nat=>if i<0 then(i:Int)else 0)=cU n (0:Int):=by
   apply jZ
   ·simp
   ·intro i hi;have er:i<n:=by simpa using hi
    rw[lF _ er,Bi er];rfl
  rw[<-e0]at h⊢;exact h
 rw[aud];simp only[aq,cP,bw,bC,bS];have AR:(own n).length=n:=by simp[own]
 have vv:aJ (IR b p (own n)) ((0:Int),own n)=aa (rounds b p n (own n)):=by
  refine dQ (step:=IR b p (own n)) (λk=>((k:Int),rounds b p k (own n))) n (λk hk=>?_) ?_
  ·have e1:al ((k:Int)<len (own n))=ab:=dT (by unfold len;omega);have l8:=aaw b p k (own n);simp only[IR,e1,aI,aoS hb hs hc (f:=rounds b p k (own n)) (by omega),aq,cP,bw,bC,bS,ba (show k<1000000000000000000 by omega)];rfl
  ·have e1:al ((n:Int)<len (own n))=ai:=dF (by unfold len;omega);simp only[IR,e1,aE,aD]
 rw[vv];unfold cr;rw[hn];rfl
def j8(b:aw)(p:ax)(i j:Nat):Prop:=∃k,k<b.ae.length∧(gt b.ae k).Kind=1∧gt p.aG k=ab∧(((gt b.ae k).A=(i:Int)∧(gt b.ae k).B=(j:Int))∨((gt b.ae k).A=(j:Int)∧(gt b.ae k).B=(i:Int)))
def j8.symm{b:aw}{p:ax}{i j:Nat}(h:j8 b p i j):j8 b p j i:=by obtain⟨k,h1,h2,h3,h4⟩:=h;exact⟨k,h1,h2,h3,h4.symm⟩
def j8.lt{b:aw}{p:ax}(hb:cE b){i j:Nat}(h:j8 b p i j):i<b.aB.toNat∧j<b.aB.toNat:=by
 obtain⟨k,h1,h2,h3,h4⟩:=h;have jt:=hb.1 k h1;have hA:=jt.1;have hB:(gt b.ae k).A+1<=(gt b.ae k).B∧(gt b.ae k).B<=b.aB-1:=by
  rcases jt.2 with h|h|h
  ·exact h.2
  ·have:=h.1;omega
  ·have:=h.1;omega
 rcases h4 with h4|h4<;>omega
structure zk(b:aw)(p:ax)(f:List Int):Prop where
 len:f.length=b.aB.toNat
 sound:∀i,i<b.aB.toNat->∃m:Nat,gt f i=(m:Int)∧m<=i∧kD (j8 b p) i m
def arS(b:aw)(p:ax):zk b p (own b.aB.toNat):=⟨by simp[own],λi hi=>⟨i,Sf hi,bx _,.refl _⟩⟩
def zE{b:aw}(hb:cE b){k:Nat}(hk:k<b.ae.length)(h1:(gt b.ae k).Kind=1):(gt b.ae k).A.toNat<(gt b.ae k).B.toNat∧(gt b.ae k).B.toNat<b.aB.toNat∧(gt b.ae k).A=((gt b.ae k).A.toNat:Int)∧(gt b.ae k).B=((gt b.ae k).B.toNat:Int):=by
 have jt:=hb.1 k hk;have hA:=jt.1;have hB:(gt b.ae k).A+1<=(gt b.ae k).B∧(gt b.ae k).B<=b.aB-1:=by
  rcases jt.2 with h|h|h
  ·exact h.2
  ·have:=h.1;omega
  ·have:=h.1;omega
 omega
def QP{b:aw}{p:ax}(hb:cE b){f:List Int}(hf:f.length=b.aB.toNat){k:Nat}(hk:k<b.ae.length)(i:Nat):
  gt (ol b p f k) i=if(gt b.ae k).Kind=1∧gt p.aG k=ab∧(i=(gt b.ae k).A.toNat∨i=(gt b.ae k).B.toNat)then least f (gt b.ae k)else gt f i:=by
 unfold ol
 by_cases h1:(gt b.ae k).Kind=1∧gt p.aG k=ab
 ·have he:=zE hb hk h1.1;rw[aH h1,gH (by simp;omega),gH (by omega)];by_cases hB:i=(gt b.ae k).B.toNat
  ·rw[aH hB,aH ⟨h1.1,h1.2,.inr hB⟩]
  ·rw[aL hB];by_cases hA:i=(gt b.ae k).A.toNat
   ·rw[aH hA,aH ⟨h1.1,h1.2,.inl hA⟩]
   ·rw[aL hA,aL (λh=>by rcases h.2.2 with h|h<;>contradiction)]
 ·rw[aL h1,aL (λh=>h1 ⟨h.1,h.2.1⟩)]
def least_le(f:List Int)(x:cH):least f x<=gt f x.A.toNat∧least f x<=gt f x.B.toNat:=by unfold least;split<;>omega
def ZP{b:aw}{p:ax}(hb:cE b){f:List Int}(hf:zk b p f){k:Nat}(hk:k<b.ae.length):zk b p (ol b p f k)∧∀i,gt (ol b p f k) i<=gt f i:=by
 refine⟨⟨by rw[Zy,hf.len],λi hi=>?_⟩,λi=>?_⟩
 ·rw[QP hb hf.len hk];split
  ·rename_i h;obtain⟨h1,h2,h3⟩:=h;have he:=zE hb hk h1;have hT:j8 b p (gt b.ae k).A.toNat (gt b.ae k).B.toNat:=⟨k,hk,h1,h2,.inl ⟨he.2.2.1,he.2.2.2⟩⟩;obtain⟨m1,e1,l1,c1⟩:=hf.sound (gt b.ae k).A.toNat (by omega);obtain⟨m2,e2,l2,c2⟩:=hf.sound (gt b.ae k).B.toNat he.2.1;unfold least;rw[e1,e2];by_cases aV:(m2:Int)<(m1:Int)
   ·rw[aH aV];refine⟨m2,rfl,?_,?_⟩
    ·rcases h3 with rfl|rfl<;>omega
    ·rcases h3 with rfl|rfl
     ·exact .step hT c2
     ·exact c2
   ·rw[aL aV];refine⟨m1,rfl,?_,?_⟩
    ·rcases h3 with rfl|rfl<;>omega
    ·rcases h3 with rfl|rfl
     ·exact c1
     ·exact .step hT.symm c1
  ·exact hf.sound i hi
 ·rw[QP hb hf.len hk];split
  ·rename_i h;have:=least_le f (gt b.ae k);rcases h.2.2 with rfl|rfl
   ·exact this.1
   ·exact this.2
  ·exact n_ _
def KV{b:aw}{p:ax}(hb:cE b){f:List Int}(hf:zk b p f):∀k,k<=b.ae.length->zk b p (gN b p k f)∧∀i,gt (gN b p k f) i<=gt f i
 |0,_=>⟨hf,λ_=>n_ _⟩
 |k+1,hk=>by obtain⟨h1,h2⟩:=KV hb hf k (by omega);obtain⟨h3,h4⟩:=ZP hb h1 (k:=k) (by omega);exact⟨h3,λi=>Int.le_trans (h4 i) (h2 i)⟩
def aao{b:aw}{p:ax}(hb:cE b){f:List Int}(hf:zk b p f){k:Nat}:∀m,k+m<=b.ae.length->∀i,gt (gN b p (k+m) f) i<=gt (gN b p k f) i
 |0,_=>λ_=>n_ _
 |m+1,hm=>λi=>by have h1:=aao hb hf m (k:=k) (by omega) i;have h2:=(ZP hb (KV hb hf (k+m) (by omega)).1 (k:=k+m) (by omega)).2 i;exact Int.le_trans h2 h1
def aoV{b:aw}{p:ax}(hb:cE b){f:List Int}(hf:zk b p f){i j:Nat}(h:j8 b p i j):gt (gN b p b.ae.length f) i<=gt f j:=by
 obtain⟨k,hk,h1,h2,h3⟩:=h;have he:=zE hb hk h1;have hm:=aao hb hf (k:=k+1) (b.ae.length-(k+1)) (by omega) i;rw[show k+1+(b.ae.length-(k+1))=b.ae.length from by omega]at hm;refine Int.le_trans hm ?_;show gt (ol b p (gN b p k f) k) i<=gt f j;have uf:=KV hb hf k (by omega);rw[QP hb uf.1.len hk];have hl:=least_le (gN b p k f) (gt b.ae k);have hj:=uf.2 j;rw[aH ⟨h1,h2,by rcases h3 with h3|h3<;>omega⟩];rcases h3 with h3|h3
 ·have:(gt b.ae k).B.toNat=j:=by omega
  rw[this]at hl;omega
 ·have:(gt b.ae k).A.toNat=j:=by omega
  rw[this]at hl;omega
def RQ{b:aw}{p:ax}(hb:cE b)(r:Nat):zk b p (rounds b p r (own b.aB.toNat)):=by
 induction r with
 |zero=>exact arS b p
 |succ r ih=>exact(KV hb ih _ (bx _)).1
def aav{b:aw}{p:ax}(hb:cE b):∀(r:Nat) {i j:Nat},i<b.aB.toNat->iE (j8 b p) r i j->gt (rounds b p r (own b.aB.toNat)) i<=(j:Int)
 |0,i,j,hi,h=>by have:=h.zero;subst this;rw[show rounds b p 0 (own b.aB.toNat)=own b.aB.toNat from rfl,Sf hi];exact n_ _
 |r+1,i,j,hi,h=>by
  have hk:=RQ (p:=p) hb r;cases h with
  |refl=>obtain⟨m,h1,h2,_⟩:=(RQ (p:=p) hb (r+1)).sound i hi;rw[h1];omega
  |step e w=>exact Int.le_trans (aoV hb hk e) (aav hb r (e.lt hb).2 w)
def Nh{b:aw}{p:ax}(hb:cE b){i:Nat}(hi:i<b.aB.toNat):∃m:Nat,gt (cr b p) i=(m:Int)∧kD (j8 b p) i m∧∀j,kD (j8 b p) i j->m<=j:=by obtain⟨m,h1,h2,h3⟩:=(RQ (p:=p) hb b.aB.toNat).sound i hi;refine⟨m,h1,h3,λj hj=>?_⟩;have hw:=(hj.walk (n:=b.aB.toNat) (λi j h=>(h.lt hb).2) hi).more (r':=b.aB.toNat) (by omega);have:=aav hb b.aB.toNat hi hw;have ng:gt (rounds b p b.aB.toNat (own b.aB.toNat)) i=(m:Int):=h1;rw[ng]at this;omega
def aen{b:aw}{p:ax}(hb:cE b){i j:Nat}(hi:i<b.aB.toNat)(hj:j<b.aB.toNat):gt (cr b p) i=gt (cr b p) j↔kD (j8 b p) i j:=by
 obtain⟨m,h1,h2,h3⟩:=Nh (p:=p) hb hi;obtain⟨m',ng,Bh,D6⟩:=Nh (p:=p) hb hj;rw[h1,ng];have hs:∀i j,j8 b p i j->j8 b p j i:=λ_ _ h=>h.symm;constructor
 ·intro h;have:m=m':=by omega
  subst this;exact h2.trans (Bh.symm hs)
 ·intro h;have e1:=h3 m' (h.trans Bh);have e2:=D6 m ((h.symm hs).trans h2);omega
def Bj{b:aw}{p:ax}(hb:cE b){i:Nat}(hi:i<b.aB.toNat):0<=gt (cr b p) i∧gt (cr b p) i<=(i:Int):=by obtain⟨m,h1,h2,h3⟩:=Nh (p:=p) hb hi;have:=h3 i (.refl _);omega
end Rx
namespace Rx
def bD(P:Nat->Bool)(k:Nat):List Int:=((bW k).filter P).map Int.ofNat
def pi(P:Nat->Bool)(k:Nat):bD P (k+1)=bD P k++if P k=ab then [(k:Int)]else []:=by unfold bD;rw[List.range_succ,uK,q7];cases h:P k<;>simp[h]
def om(P:Nat->Bool)(k:Nat):(bD P k).length<=k:=by unfold bD;rw[q8];refine lN (zm _ _) ?_;simp
def yg{P:Nat->Bool}{k:Nat}{x:Int}:x∈bD P k↔∃i,i<k∧P i=ab∧x=(i:Int):=by
 unfold bD;rw[dE];constructor
 ·rintro⟨i,hi,rfl⟩;rw[lh,eu]at hi;exact⟨i,hi.1,hi.2,rfl⟩
 ·rintro⟨i,h1,h2,rfl⟩;exact⟨i,by rw[lh,eu];exact⟨h1,h2⟩,rfl⟩
def iP(b:aw)(p:ax)(f i:Nat):Bool:=gt (cr b p) i==(f:Int)
def gX(b:aw)(p:ax)(f j:Nat):Bool:=(conn b p (j:Int)).2&&gt (cr b p) (conn b p (j:Int)).1.toNat==(f:Int)
def h_(b:aw)(p:ax)(f j:Nat):Bool:=(gj b p 3 (j:Int)).2&&gt (cr b p) (gj b p 3 (j:Int)).1.toNat==(f:Int)
def eg(b:aw)(p:ax)(i j k:Nat):List bu:=(bW b.aB.toNat).map λf=>⟨bD (iP b p f) i,bD (gX b p f) j,bD (h_ b p f) k⟩
def dY(b:aw)(p:ax)(f:Nat):bu:=⟨bD (iP b p f) b.aB.toNat,bD (gX b p f) b.aj.length,bD (h_ b p f) b.az.length⟩
def bl(b:aw)(p:ax):List bu:=(eg b p b.aB.toNat b.aj.length b.az.length).filter λx=> !x.aB.isEmpty
def SZ{b:aw}{p:ax}(hb:cE b){kind j:Int}(h:(gj b p kind j).2=ab):0<=(gj b p kind j).1∧(gj b p kind j).1<b.aB:=by
 unfold gj at h⊢;cases hf:(bW b.ae.length).find? (mW b p kind j)with
 |none=>rw[hf]at h;simp at h
 |some k=>
  have hk:=eu.1 (wb hf);have:=(hb.1 k hk).1;try simp only
  omega
def VW{b:aw}{p:ax}(hb:cE b){j:Int}(h:(conn b p j).2=ab):0<=(conn b p j).1∧(conn b p j).1<b.aB:=by
 unfold conn at h⊢;by_cases h1:0<=j∧j<=(p.aj.length:Int)-1
 ·rw[aH h1]at h⊢;by_cases h2:(gt p.aj j.toNat).State=2
  ·rw[aH h2]at h⊢;exact SZ hb h
  ·rw[aL h2]at h;simp at h
 ·rw[aL h1]at h;simp at h
def yp(b:aw)(p:ax)(i j k:Nat):(eg b p i j k).length=b.aB.toNat:=by simp[eg]
def vn{b:aw}{p:ax}{i j k f:Nat}(h:f<b.aB.toNat):gt (eg b p i j k) f=⟨bD (iP b p f) i,bD (gX b p f) j,bD (h_ b p f) k⟩:=by unfold eg;rw[lF _ h]
section
variable {b:aw} {p:ax}
def axh(hl:gn b)(hb:cE b):aJ (IY (cr b p)) ((0:Int),eg b p 0 0 0)=aa (eg b p b.aB.toNat 0 0):=by
 have pF:=hl.jg;have DT:=U4 b p;refine dQ (step:=IY (cr b p)) (λk=>((k:Int),eg b p k 0 0)) b.aB.toNat (λk hk=>?_) ?_
 ·have e1:al ((k:Int)<len (cr b p))=ab:=dT (by unfold len;omega);obtain⟨g0,g1⟩:=Bj (p:=p) hb hk;have hlen:=yp b p k 0 0;obtain⟨m,hm⟩:=nu g0;have mF:m<b.aB.toNat:=by omega
  have l8:=om (iP b p m) k;have e2:(eg b p k 0 0).set m ⟨bD (iP b p m) k++[(k:Int)],bD (gX b p m) 0,bD (h_ b p m) 0⟩=eg b p (k+1) 0 0:=by
   apply jZ
   ·simp[eg]
   ·intro i hi;have er:i<b.aB.toNat:=by simpa[eg]using hi
    rw[gH (by omega),vn er,vn er,pi];by_cases yD:i=m
    ·subst yD;have:iP b p i k=ab:=by unfold iP;rw[hm];simp
     rw[aH rfl,aH this]
    ·have:iP b p i k=ai:=by unfold iP;rw[hm];exact dI (by omega)
     rw[aL yD,this];simp
  have e3:(eg b p (k+1) 0 0).length=b.aB.toNat:=yp _ _ _ _ _;simp only[IY,e1,aI,aP (show k<(cr b p).length by omega),aq,cP,bw,bC,bS,hm,PT,aP (show m<(eg b p k 0 0).length by omega),vn mF,cK (show(bD (iP b p m) k).length+[(k:Int)].length<=1073741824 by simp;omega),jC (show m<(eg b p k 0 0).length by omega),e2,aP (show m<(eg b p (k+1) 0 0).length by omega),ba (show k<1000000000000000000 by omega)]
 ·have e1:al ((b.aB.toNat:Int)<len (cr b p))=ai:=dF (by unfold len;omega);simp only[IY,e1,aE,aD]
def axg(hl:gn b)(hb:cE b)(hs:Sm b.ae)(hp:Sm p.aj)(hc:p.aG.length=b.ae.length):aJ (IX b p (cr b p)) ((0:Int),eg b p b.aB.toNat 0 0)=aa (eg b p b.aB.toNat b.aj.length 0):=by
 have pF:=hl.jg;have DT:=U4 b p;have mB:=hl.src;refine dQ (step:=IX b p (cr b p)) (λk=>((k:Int),eg b p b.aB.toNat k 0)) b.aj.length (λk hk=>?_) (by simp only[IX,bJ,aE,aD]);have hlen:=yp b p b.aB.toNat k 0;simp only[IX,bb hk,aI,ax1 hs hp hc,aq,cP,bw,bC,bS,ba (show k<1000000000000000000 by omega)];cases ul:(conn b p (k:Int)).2 with
 |false=>
  have e2:eg b p b.aB.toNat (k+1) 0=eg b p b.aB.toNat k 0:=by unfold eg;refine Fy λf _=>?_;rw[pi,show gX b p f k=ai by unfold gX;rw[ul];rfl];simp
  simp only[aE,aD,aq,cP,bw,bC,bS,e2]
 |true=>
  obtain⟨c0,c1⟩:=VW hb ul;have ht:(conn b p (k:Int)).1.toNat<b.aB.toNat:=by omega
  obtain⟨g0,g1⟩:=Bj (p:=p) hb ht;obtain⟨m,hm⟩:=nu g0;have mF:m<b.aB.toNat:=by omega
  have l8:=om (gX b p m) k;have e2:(eg b p b.aB.toNat k 0).set m ⟨bD (iP b p m) b.aB.toNat,bD (gX b p m) k++[(k:Int)],bD (h_ b p m) 0⟩=eg b p b.aB.toNat (k+1) 0:=by
   apply jZ
   ·simp[eg]
   ·intro i hi;have er:i<b.aB.toNat:=by simpa[eg]using hi
    rw[gH (by omega),vn er,vn er,pi];by_cases yD:i=m
    ·subst yD;have:gX b p i k=ab:=by unfold gX;rw[ul,hm];simp
     rw[aH rfl,aH this]
    ·have:gX b p i k=ai:=by unfold gX;rw[ul,hm];simp;omega
     rw[aL yD,this];simp
  have e3:(eg b p b.aB.toNat (k+1) 0).length=b.aB.toNat:=yp _ _ _ _ _;simp only[aI,iL c0 (show(conn b p (k:Int)).1<((cr b p).length:Int) by omega),aq,cP,bw,bC,bS,hm,PT,aP (show m<(eg b p b.aB.toNat k 0).length by omega),vn mF,cK (show(bD (gX b p m) k).length+[(k:Int)].length<=1073741824 by simp;omega),jC (show m<(eg b p b.aB.toNat k 0).length by omega),e2,aP (show m<(eg b p b.aB.toNat (k+1) 0).length by omega)]
def axf(hl:gn b)(hb:cE b)(hs:Sm b.ae)(hc:p.aG.length=b.ae.length):aJ (IW b p (cr b p)) ((0:Int),eg b p b.aB.toNat b.aj.length 0)=aa (eg b p b.aB.toNat b.aj.length b.az.length):=by
 have pF:=hl.jg;have DT:=U4 b p;have mB:=hl.iO;refine dQ (step:=IW b p (cr b p)) (λk=>((k:Int),eg b p b.aB.toNat b.aj.length k)) b.az.length (λk hk=>?_) (by simp only[IW,bJ,aE,aD]);have hlen:=yp b p b.aB.toNat b.aj.length k;simp only[IW,bb hk,aI,aeF hs hc,aq,cP,bw,bC,bS,ba (show k<1000000000000000000 by omega)];cases ul:(gj b p 3 (k:Int)).2 with
 |false=>
  have e2:eg b p b.aB.toNat b.aj.length (k+1)=eg b p b.aB.toNat b.aj.length k:=by unfold eg;refine Fy λf _=>?_;rw[pi,show h_ b p f k=ai by unfold h_;rw[ul];rfl];simp
  simp only[aE,aD,aq,cP,bw,bC,bS,e2]
 |true=>
  obtain⟨c0,c1⟩:=SZ hb ul;have ht:(gj b p 3 (k:Int)).1.toNat<b.aB.toNat:=by omega
  obtain⟨g0,g1⟩:=Bj (p:=p) hb ht;obtain⟨m,hm⟩:=nu g0;have mF:m<b.aB.toNat:=by omega
  have l8:=om (h_ b p m) k;have e2:(eg b p b.aB.toNat b.aj.length k).set m ⟨bD (iP b p m) b.aB.toNat,bD (gX b p m) b.aj.length,bD (h_ b p m) k++[(k:Int)]⟩=eg b p b.aB.toNat b.aj.length (k+1):=by
   apply jZ
   ·simp[eg]
   ·intro i hi;have er:i<b.aB.toNat:=by simpa[eg]using hi
    rw[gH (by omega),vn er,vn er,pi];by_cases yD:i=m
    ·subst yD;have:h_ b p i k=ab:=by unfold h_;rw[ul,hm];simp
     rw[aH rfl,aH this]
    ·have:h_ b p i k=ai:=by unfold h_;rw[ul,hm];simp;omega
     rw[aL yD,this];simp
  have e3:(eg b p b.aB.toNat b.aj.length (k+1)).length=b.aB.toNat:=yp _ _ _ _ _;simp only[aI,iL c0 (show(gj b p 3 (k:Int)).1<((cr b p).length:Int) by omega),aq,cP,bw,bC,bS,hm,PT,aP (show m<(eg b p b.aB.toNat b.aj.length k).length by omega),vn mF,cK (show(bD (h_ b p m) k).length+[(k:Int)].length<=1073741824 by simp;omega),jC (show m<(eg b p b.aB.toNat b.aj.length k).length by omega),e2,aP (show m<(eg b p b.aB.toNat b.aj.length (k+1)).length by omega)]
end
def axO{l:List bu}(hl:Sm l):Km l=aa (l.filter λx=> !x.aB.isEmpty):=by
 have hE:∀x:bu,IZ x=aa (x.aB.isEmpty):=λx=>by
  unfold IZ;cases h:x.aB with
  |nil=>rfl
  |cons a l=>simp[len];omega
 have h:=vm (step:=CN l) (λk=>(k:Int)) l.length (λk=>(gt l k).aB.isEmpty) (R:=λk=> .inr (k:Int)) (e:= .inl ())
  (λk hk hp=>by simp only[CN,hE,bb hk,aI,aP hk,aq,cP,bw,bC,bS,hp,aE,aD,ba (eP hl hk)])
  (λk hk hp=>by simp only[CN,hE,bb hk,aI,aP hk,aq,cP,bw,bC,bS,hp])
  (by simp only[CN,bJ,aE,aD])
 have h':aJ (CN l) 0=_:=h;have DI:∀m,m<=l.length->(∀k,k<m->(gt l k).aB.isEmpty=ai)->(l.take m).filter (λx=> !x.aB.isEmpty)=l.take m:=by intro m hm hk;rw[List.filter_eq_self];intro x hx;obtain⟨k,h1,rfl⟩:=(Dk hm).1 hx;rw[hk k h1];rfl
 unfold Km Q_;rw[h'];cases hf:(bW l.length).find? (λk=>(gt l k).aB.isEmpty)with
 |none=>
  have gG:∀k,k<l.length->(gt l k).aB.isEmpty=ai:=λk hk=>by have:=tu.1 hf k (eu.2 hk);simpa using this
  have:=DI l.length (bx _) gG;rw[oU]at this;rw[this];rfl
 |some k0=>
  have mG:=eu.1 (wb hf);have TV:(gt l k0).aB.isEmpty=ab:=B7 (p:=λk=>(gt l k).aB.isEmpty) hf;have au4:∀k,k<k0->(gt l k).aB.isEmpty=ai:=by
   obtain⟨_,la,lb,h2,h3⟩:=List.find?_eq_some_iff_append.1 hf;intro k hk;have hlen:la.length=k0:=by
    have h4:(bW l.length)[la.length]? =aa k0:=by rw[h2];simp
    rw[Jt (by have:=iq List.length h2;simp at this;omega)]at h4
    exact jP h4
   have iw:k∈la:=by have h4:(bW l.length)[k]? =aa k:=Jt (by omega);rw[h2,List.getElem?_append_left (by omega)]at h4;exact List.mem_of_getElem? h4
   simpa using h3 k iw
  have bR:((k0:Int)== -1)=ai:=dI (by omega);have DE:k0<1000000000000000000:=eP hl mG;simp only[aq,cP,bw,bC,bS,bC,bR,aE,aD,ba DE];have w7:Wp (aJ Kl ((k0:Int),((k0+1:Nat):Int),l)) λr=>∃(i:Nat) (x:List bu),r=((i:Int),x)∧i<=l.length∧x.length=l.length∧x.take i=l.filter λx=> !x.aB.isEmpty:=by
   refine dV (l.length-(k0+1)) (λm s=>∃(i:Nat) (x:List bu),s=((i:Int),((k0+1+m:Nat):Int),x)∧i<k0+1+m∧x.length=l.length∧x.take i=(l.take (k0+1+m)).filter (λx=> !x.aB.isEmpty)∧∀q,k0+1+m<=q->gt x q=gt l q) ⟨k0,l,rfl,by omega,rfl,?_,λ_ _=>rfl⟩ ?_ ?_
   ·rw[Nat.add_zero,lm mG,uK,DI k0 (by omega) au4];simp[TV]
   ·rintro m s hm ⟨i,x,rfl,h1,h2,h3,h4⟩;have hj:k0+1+m<l.length:=by omega
    have hs:k0+1+m<1000000000000000000:=eP hl hj;have hg:=h4 (k0+1+m) (bx _);unfold Kl;simp only[bb (show k0+1+m<x.length by omega),aI,aP (show k0+1+m<x.length by omega),aP (show i<x.length by omega),hg,hE,aq,cP,bw,bC,bS,jC (show i<x.length by omega),ba (show i<1000000000000000000 by omega),ba hs];cases he:(gt l (k0+1+m)).aB.isEmpty with
    |true=>simp only[ei,aE,aD,aq,cP,bw,bC,bS];refine au.2 ⟨i,x,rfl,by omega,h2,?_,λq hq=>h4 q (by omega)⟩;rw[show k0+1+(m+1)=k0+1+m+1 from rfl,lm hj,uK,h3];simp[he]
    |false=>
     simp only[lP,aI,aq,cP,bw,bC,bS];refine au.2 ⟨i+1,_,rfl,by omega,by simpa using h2,?_,λq hq=>?_⟩
     ·rw[show k0+1+(m+1)=k0+1+m+1 from rfl,lm hj,uK,<-h3,lm (show i<(x.set i (gt l (k0+1+m))).length by simp;omega),gH (by omega),aH rfl,List.take_set_of_le (bx _)];simp[he]
     ·rw[gH (by omega),aL (by omega)];exact h4 q (by omega)
   ·rintro s ⟨i,x,rfl,h1,h2,h3,h4⟩;have e:k0+1+(l.length-(k0+1))=l.length:=by omega
    rw[e]at h1 h3⊢;rw[oU]at h3;unfold Kl;have e1:al ((l.length:Int)<len x)=ai:=dF (by unfold len;omega);simp only[e1,aE,aD];exact au.2 ⟨i,x,rfl,by omega,h2,h3⟩
  obtain⟨r,hr,i,x,rfl,h2,h3,h4⟩:=w7;rw[hr];simp only[aq,cP,bw,bC,bS];have s1:dK x (i:Int) (len x)=aa ((x.take (len x).toNat).drop (i:Int).toNat):=by unfold dK len;rw[aH ⟨by omega,by omega,by omega⟩]
  rw[s1];simp only[aq,cP,bw,bC,bS,iH];have vB:(x.take i).length=i:=by simp;omega
  unfold rO;rw[iH,CS (xs:=x.take i++cU (x.length-i) (⟨[],[],[]⟩:bu)) (n:=i) (by simp;omega)];rw[List.take_append_of_le_length (by omega),List.take_of_length_le (by omega),h4]
section
variable {b:aw} {p:ax}
def fh:bj b p=0↔(gn b∧qU b)∧Shape b p∧v5 b p:=by
 unfold bj;by_cases h0:nj b=0
 ·rw[aH h0];have h1:=BB.1 h0;by_cases h2:Shape b p<;>by_cases h3:v5 b p<;>simp[h1,h2,h3]
 ·rw[aL h0];exact⟨λh=>(h0 h).elim,λh=>(h0 (BB.2 h.1)).elim⟩
def S_(hb:fu b)(hp:dt p)(h:bj b p=0):y9 b p=aa (bl b p):=by
 obtain⟨⟨hl,hg⟩,m9,_⟩:=fh.1 h;have pF:=hl.jg;obtain⟨n,hn⟩:=nu (show 0<=b.aB by omega);have vA:mz (⟨[],[],[]⟩:bu) b.aB=aa (eg b p 0 0 0):=by
  rw[hn,yd (by omega)];cR 1;apply jZ
  ·simp[eg,hn]
  ·intro k hk;have cV:k<n:=by simpa using hk
   rw[Bi cV,vn (by omega)];rfl
 unfold y9;rw[xJ hb hp,h];simp only[aq,cP,bw,bC,bS,mi,aE,aD,av7 hl hg.1 hb.1 m9.1,vA,axh hl hg.1,axg hl hg.1 hb.1 hp.2.1 m9.1,axf hl hg.1 hb.1 m9.1];rw[axO (by unfold Sm;rw[yp];omega)];rfl
def ar8(hb:fu b)(hp:dt p)(h:bj b p≠0):y9 b p=aa []:=by
 unfold y9;rw[xJ hb hp];have:(bj b p !=0)=ab:=by simpa using h
 simp only[aq,cP,bw,bC,bS,this,aI]
def Aj{x:bu}:x∈bl b p↔∃f,f<b.aB.toNat∧x=dY b p f∧(dY b p f).aB≠[]:=by
 unfold bl eg;rw[lh,dE];constructor
 ·rintro⟨⟨f,hf,rfl⟩,h⟩;refine⟨f,eu.1 hf,rfl,λe=>?_⟩;have e':bD (iP b p f) b.aB.toNat=[]:=e;rw[e']at h;cases h
 ·rintro⟨f,hf,rfl,h⟩;refine⟨⟨f,eu.2 hf,rfl⟩,?_⟩;cases he:(dY b p f).aB with
  |nil=>exact(h he).elim
  |cons _ _=>rfl
def GV{f:Nat}{x:Int}:x∈(dY b p f).aB↔∃i,i<b.aB.toNat∧gt (cr b p) i=(f:Int)∧x=(i:Int):=by
 show x∈bD (iP b p f) b.aB.toNat↔_;rw[yg];constructor
 ·rintro⟨i,h1,h2,h3⟩;exact⟨i,h1,by simpa[iP]using h2,h3⟩
 ·rintro⟨i,h1,h2,h3⟩;exact⟨i,h1,by simp[iP,h2],h3⟩
def LY{f:Nat}{x:Int}:x∈(dY b p f).aj↔∃j,j<b.aj.length∧(conn b p (j:Int)).2=ab∧gt (cr b p) (conn b p (j:Int)).1.toNat=(f:Int)∧x=(j:Int):=by
 show x∈bD (gX b p f) b.aj.length↔_;rw[yg];constructor
 ·rintro⟨i,h1,h2,h3⟩;unfold gX at h2;simp only[bt,xw]at h2;exact⟨i,h1,h2.1,h2.2,h3⟩
 ·rintro⟨i,h1,h2,h3,h4⟩;exact⟨i,h1,by unfold gX;rw[h2,h3];simp,h4⟩
def abC{f:Nat}{x:Int}:x∈(dY b p f).az↔∃j,j<b.az.length∧(gj b p 3 (j:Int)).2=ab∧gt (cr b p) (gj b p 3 (j:Int)).1.toNat=(f:Int)∧x=(j:Int):=by
 show x∈bD (h_ b p f) b.az.length↔_;rw[yg];constructor
 ·rintro⟨i,h1,h2,h3⟩;unfold h_ at h2;simp only[bt,xw]at h2;exact⟨i,h1,h2.1,h2.2,h3⟩
 ·rintro⟨i,h1,h2,h3,h4⟩;exact⟨i,h1,by unfold h_;rw[h2,h3];simp,h4⟩
def eL(b:aw)(p:ax)(k:Int):bu:=dY b p (gt (cr b p) k.toNat).toNat
def acd(hb:cE b){k:Int}(h0:0<=k)(h1:k<b.aB):eL b p k∈bl b p∧k∈(eL b p k).aB:=by obtain⟨g0,g1⟩:=Bj (p:=p) hb (show k.toNat<b.aB.toNat by omega);have hm:k∈(eL b p k).aB:=GV.2 ⟨k.toNat,by omega,by omega,by omega⟩;exact⟨Aj.2 ⟨_,by omega,rfl,λe=>by rw[show dY b p (gt (cr b p) k.toNat).toNat=eL b p k from rfl]at e;rw[e]at hm;cases hm⟩,hm⟩
def acb{x:bu}(hx:x∈bl b p){k:Int}(hk:k∈x.aB):0<=k∧k<b.aB.toNat∧x=eL b p k:=by obtain⟨f,hf,rfl,_⟩:=Aj.1 hx;obtain⟨i,hi,hg,rfl⟩:=GV.1 hk;refine⟨by omega,by omega,?_⟩;unfold eL;rw[iH,hg,iH]
def G5:(bl b p).length<=b.aB.toNat:=by unfold bl;refine lN (zm _ _) ?_;rw[yp];exact bx _
def Dy(f:Nat):(dY b p f).aB.length<=b.aB.toNat∧(dY b p f).aj.length<=b.aj.length∧(dY b p f).az.length<=b.az.length:=⟨om _ _,om _ _,om _ _⟩
def fQ(b:aw)(p:ax)(k:Int):bu×Bool:=if bj b p=0∧0<=k∧k<b.aB then(eL b p k,ab)else(⟨[],[],[]⟩,ai)
def pn(b:aw)(p:ax)(k:Int):List Int×List Int×List Int×Bool:=((fQ b p k).1.aB,(fQ b p k).1.aj,(fQ b p k).1.az,(fQ b p k).2)
def of_eq(hb:fu b)(hp:dt p)(k:Int):xq b p k=aa (pn b p k):=by
 unfold xq pn fQ;by_cases h:bj b p=0
 case neg=>rw[ar8 hb hp h,aL (λhh=>h hh.1)];have:aJ (y8 k []) 0=aa (.inl ()):=oz (.done (by simp[y8,len])) (by omega);simp only[aq,cP,bw,bC,bS,this,bw]
 obtain⟨⟨hl,hg⟩,m9,_⟩:=fh.1 h;have pF:=hl.jg;have lD:=G5 (b:=b) (p:=p);rw[S_ hb hp h];simp only[aq,cP,bw,bC,bS];have fH:∀q,q<(bl b p).length->Sm (gt (bl b p) q).aB:=λq hq=>by obtain⟨f,hf,e,_⟩:=Aj.1 (dx hq);rw[e];have:=(Dy (b:=b) (p:=p) f).1;unfold Sm;omega
 have h1:=vm (step:=y8 k (bl b p)) (λi=>(i:Int)) (bl b p).length (λi=>decide (k∈(gt (bl b p) i).aB)) (R:=λi=> .inr ((gt (bl b p) i).aB,(gt (bl b p) i).aj,(gt (bl b p) i).az,ab)) (e:= .inl ())
  (λi hi hq=>by simp only[y8,bb hi,aI,aP hi,aq,cP,bw,bC,bS,contains_eq (fH i hi),hq,aE,aD,ba (show i<1000000000000000000 by omega)])
  (λi hi hq=>by simp only[y8,bb hi,aI,aP hi,aq,cP,bw,bC,bS,contains_eq (fH i hi),hq])
  (by simp only[y8,bJ,aE,aD])
 have ng:aJ (y8 k (bl b p)) 0=_:=h1;rw[ng];cases hf:(bW (bl b p).length).find? (λi=>decide (k∈(gt (bl b p) i).aB))with
 |none=>
  have:¬(bj b p=0∧0<=k∧k<b.aB):=λhh=>by obtain⟨h2,h3⟩:=acd (p:=p) hg.1 hh.2.1 hh.2.2;obtain⟨q,hq,e⟩:=ou h2;have:=tu.1 hf q (eu.2 hq);rw[e]at this;simp[h3]at this
  rw[aL this];rfl
 |some q=>have hq:=eu.1 (wb hf);have hk:k∈(gt (bl b p) q).aB:=jA (B7 (p:=λi=>decide (k∈(gt (bl b p) i).aB)) hf);obtain⟨k0,k1,e⟩:=acb (dx hq) hk;rw[aH ⟨h,k0,by omega⟩,<-e];rfl
def N3(b:aw)(p:ax)(j:Int):Int×Bool:=if bj b p=0 then conn b p j else(0,ai)
def vN(b:aw)(p:ax)(j:Int):Int×Bool:=if bj b p=0 then gj b p 3 j else(0,ai)
end
def eF(b:aw)(kind j:Int)(k:Nat):Bool:=(gt b.ae k).Kind==kind&&((gt b.ae k).B==j||(kind==1&&(gt b.ae k).A==j))
end Rx
namespace Rx
section
variable {b:aw} {p:ax}
def arv(hb:fu b)(hp:dt p)(k:Int):EV b p k=aa (al (0<(fQ b p k).1.aj.length)):=by unfold EV;rw[of_eq hb hp];simp only[aq,cP,bw,bC,bS];cR 1;rw[B3];simp only[pn,len];omega
end
end Rx
namespace Rx
section
variable {b:aw} {p:ax}
def axi(hb:fu b)(hp:dt p)(j:Int):I0 b p j=aa (vN b p j):=by
 unfold I0 vN;rw[xJ hb hp];by_cases h:bj b p=0
 ·rw[aH h,h];simp only[aq,cP,bw,bC,bS,mi,aE,aD,aeF hb.1 (fh.1 h).2.1.1]
 ·have:(bj b p !=0)=ab:=by simpa using h
  simp only[aq,cP,bw,bC,bS,this,aI,aL h]
end
section
variable {b:aw} {p:ax}
end
end Rx
namespace Rx
open Classical
def xU{b:aw}(hs:Sm b.ae)(kind j:Int):yP b kind j=aa (bD (eF b kind j) b.ae.length):=by
 have h1:=dQ (step:=Ie b kind j) (λk=>((k:Int),bD (eF b kind j) k)) b.ae.length (r:=bD (eF b kind j) b.ae.length)
  (λk hk=>by have l8:=om (eF b kind j) k;have uf:=eP hs hk;have xh:bG (bD (eF b kind j) k) [(k:Int)]=aa (bD (eF b kind j) k++[(k:Int)]):=cK (by unfold Sm at hs;simp;omega);simp only[Ie,bb hk,aI,aP hk,aq,ba uf,pi,xh];unfold eF;cases e1:(gt b.ae k).Kind==kind<;>cases e2:(gt b.ae k).B==j<;>cases e3:kind==1<;>cases e4:(gt b.ae k).A==j<;>simp)
  (by simp only[Ie,bJ,aE,aD])
 have ng:aJ (Ie b kind j) (0,[])=_:=h1;unfold yP;rw[ng];rfl
def aa1(P:Nat->Bool)(k:Nat):(bD P (k+1)).length=(bD P k).length+if P k=ab then 1 else 0:=by rw[pi,cW];split<;>rfl
def GN{P:Nat->Bool}{n:Nat}:(bD P n).length=0↔∀k,k<n->P k=ai:=by
 induction n with
 |zero=>simp[bD]
 |succ n ih=>
  rw[aa1];constructor
  ·intro h k hk;by_cases hp:P n=ab
   ·rw[aH hp]at h;omega
   ·by_cases HC:k=n
    ·subst HC;simpa using hp
    ·exact ih.1 (by omega) k (by omega)
  ·intro h;rw[ih.2 λk hk=>h k (by omega),h n (by omega)];rfl
def Lq{P:Nat->Bool}{n:Nat}:(bD P n).length=1↔(∃k,k<n∧P k=ab)∧∀i j,i<j->j<n->P i=ab->P j=ab->False:=by
 induction n with
 |zero=>simp[bD]
 |succ n ih=>
  rw[aa1];constructor
  ·intro h;by_cases hp:P n=ab
   ·rw[aH hp]at h;have h0:=GN.1 (show(bD P n).length=0 by omega);refine⟨⟨n,by omega,hp⟩,λi j iM hj hi _=>?_⟩;rw[h0 i (by omega)]at hi;cases hi
   ·rw[aL hp]at h;obtain⟨⟨k,hk,pD⟩,hu⟩:=ih.1 (by omega);refine⟨⟨k,by omega,pD⟩,λi j iM hj hi hpj=>?_⟩;by_cases hjn:j=n
    ·subst hjn;exact hp hpj
    ·exact hu i j iM (by omega) hi hpj
  ·rintro⟨⟨k,hk,pD⟩,hu⟩;by_cases hp:P n=ab
   ·rw[aH hp,GN.2 λi hi=>by
     cases wY:P i with
     |false=>rfl
     |true=>exact(hu i n hi (by omega) wY hp).elim]
   ·rw[aL hp];have HC:k≠n:=λe=>hp (e▸pD);exact ih.2 ⟨⟨k,by omega,pD⟩,λi j iM hj=>hu i j iM (by omega)⟩
def Ea{b:aw}{j k:Nat}:eF b 2 (j:Int) k=ab↔oB (gt b.ae k) j:=by unfold eF oB;by_cases h1:(gt b.ae k).Kind=2<;>by_cases h2:(gt b.ae k).B=(j:Int)<;>simp[h1,h2]
def No{b:aw}{j k:Nat}:eF b 3 (j:Int) k=ab↔px (gt b.ae k) j:=by unfold eF px;by_cases h1:(gt b.ae k).Kind=3<;>by_cases h2:(gt b.ae k).B=(j:Int)<;>simp[h1,h2]
def PH(b:aw)(k:Nat):Prop:=
 (0<=(gt b.ae k).A∧(gt b.ae k).A<=b.aB-1)∧
 (((gt b.ae k).Kind=1∧(gt b.ae k).A+1<=(gt b.ae k).B∧(gt b.ae k).B<=b.aB-1)∨
  ((gt b.ae k).Kind=2∧(0<=(gt b.ae k).B∧(gt b.ae k).B<=(b.aj.length:Int)-1))∨
  ((gt b.ae k).Kind=3∧(0<=(gt b.ae k).B∧(gt b.ae k).B<=(b.az.length:Int)-1)∧∀i,i<k->¬((gt b.ae i).Kind=(gt b.ae k).Kind∧(gt b.ae i).A=(gt b.ae k).A∧(gt b.ae i).B=(gt b.ae k).B)))
def GI{b:aw}:cE b↔(∀k,k<b.ae.length->PH b k)∧(∀j,j<b.aj.length->(bD (eF b 2 (j:Int)) b.ae.length).length=1)∧∀j,j<b.az.length->(bD (eF b 3 (j:Int)) b.ae.length).length≠0:=by
 constructor
 ·rintro⟨h1,h2,h3⟩;refine⟨λk hk=>?_,λj hj=>Lq.2 ⟨?_,λi k eN hk hi hp=>?_⟩,λj hj h0=>?_⟩
  ·obtain⟨hA,hB⟩:=h1 k hk;refine⟨hA,?_⟩;rcases hB with h|⟨h4,h5,_⟩|⟨h4,h5,h6⟩
   ·exact .inl h
   ·exact .inr (.inl ⟨h4,h5⟩)
   ·exact .inr (.inr ⟨h4,h5,λi hi hh=>h6 i hi ⟨by rw[hh.1];exact h4,hh.2.2,hh.2.1⟩⟩)
  ·obtain⟨k,hk,hs⟩:=h2 j hj;exact⟨k,hk,Ea.2 hs⟩
  ·have er:=Ea.1 hi;have qo:=Ea.1 hp;rcases(h1 k hk).2 with h|⟨h4,h5,h6⟩|⟨h4,_⟩
   ·have:=h.1;have:=qo.1;omega
   ·exact h6 i eN ⟨er.1,by rw[er.2,qo.2]⟩
   ·have:=qo.1;omega
  ·obtain⟨k,hk,hs⟩:=h3 j hj;have:=GN.1 h0 k hk;rw[No.2 hs]at this;cases this
 ·rintro⟨h1,h2,h3⟩;refine⟨λk hk=>?_,λj hj=>?_,λj hj=>?_⟩
  ·obtain⟨hA,hB⟩:=h1 k hk;refine⟨hA,?_⟩;rcases hB with h|⟨h4,h5⟩|⟨h4,h5,h6⟩
   ·exact .inl h
   ·refine .inr (.inl ⟨h4,h5,λi hi hh=>?_⟩);have hj:(gt b.ae k).B=((gt b.ae k).B.toNat:Int):=by omega
    obtain⟨_,hu⟩:=Lq.1 (h2 (gt b.ae k).B.toNat (by omega));exact hu i k hi hk (Ea.2 ⟨hh.1,by rw[hh.2];exact hj⟩) (Ea.2 ⟨h4,hj⟩)
   ·exact .inr (.inr ⟨h4,h5,λi hi hh=>h6 i hi ⟨by rw[hh.1,h4],hh.2.2,hh.2.1⟩⟩)
  ·obtain⟨⟨k,hk,hp⟩,_⟩:=Lq.1 (h2 j hj);exact⟨k,hk,Ea.1 hp⟩
  ·apply gC;intro hn;refine h3 j hj (GN.2 λk hk=>?_);cases hp:eF b 3 (j:Int) k with
   |false=>rfl
   |true=>exact(hn ⟨k,hk,No.1 hp⟩).elim
def apd{b:aw}(hl:gn b):Nz b=aa (al (cE b)):=by
 have hb:=hl.jg;have nP:=hl.da;have mB:=hl.src;have DY:=hl.iO;have fH:Sm b.ae:=by unfold Sm;omega
 have eB:W (b.aB-1)=b.aB-1:=bZ (by omega) (by omega);have eS:W (len b.aj-1)=(b.aj.length:Int)-1:=by unfold len;exact bZ (by omega) (by omega)
 have eC:W (len b.az-1)=(b.az.length:Int)-1:=by unfold len;exact bZ (by omega) (by omega)
 have ix:∀k,k<b.ae.length->aJ (Ej (gt b.ae k) (b.ae.take k)) 0=aa (if ∃i,i<k∧((gt b.ae i).Kind=(gt b.ae k).Kind∧(gt b.ae i).A=(gt b.ae k).A∧(gt b.ae i).B=(gt b.ae k).B)then .inr (.inr (.inr (.inr (.inr ai))))else .inl ()):=by
  intro k hk;have hlen:(b.ae.take k).length=k:=by simp;omega
  have hg:∀i,i<k->gt (b.ae.take k) i=gt b.ae i:=λi hi=>by rw[fJ (by omega),fJ (by omega)];simp
  refine uL (oy (step:=Ej (gt b.ae k) (b.ae.take k)) (λi=>(i:Int)) k (λi=>(gt b.ae i).Kind=(gt b.ae k).Kind∧(gt b.ae i).A=(gt b.ae k).A∧(gt b.ae i).B=(gt b.ae k).B) (r:= .inr (.inr (.inr (.inr (.inr ai))))) (e:= .inl ())
   (λi hi hp=>by
     have e:((gt b.ae i).Kind==(gt b.ae k).Kind&&((gt b.ae i).A==(gt b.ae k).A&&(gt b.ae i).B==(gt b.ae k).B))=ai:=by
      by_cases h1:(gt b.ae i).Kind=(gt b.ae k).Kind
      ·by_cases h2:(gt b.ae i).A=(gt b.ae k).A
       ·rw[gm h1,gm h2,dI (λh3=>hp ⟨h1,h2,h3⟩)];rfl
       ·rw[gm h1,dI h2];rfl
      ·rw[dI h1];rfl
     simp only[Ej,bb (show i<(b.ae.take k).length by omega),aI,aP (show i<(b.ae.take k).length by omega),hg i hi,aq,e,aE,aD,ba (show i<1000000000000000000 by omega)])
   (λi hi hp=>by simp only[Ej,bb (show i<(b.ae.take k).length by omega),aI,aP (show i<(b.ae.take k).length by omega),hg i hi,aq,gm hp.1,gm hp.2.1,gm hp.2.2,Bool.and_self])
   (by have e1:al ((k:Int)<len (b.ae.take k))=ai:=dF (by unfold len;omega);simp only[Ej,e1,aE,aD])) (by cR)
 have l1:aJ (Bv b) 0=aa (if ∃k,k<b.ae.length∧¬PH b k then .inr ai else .inl ()):=by
  refine uL (oy (r:= .inr ai) (e:= .inl ()) (step:=Bv b) (λk=>(k:Int)) b.ae.length (λk=>¬PH b k) (λk hk hp=>?_) (λk hk hp=>?_) (by simp only[Bv,bJ,aE,aD])) (by cR)
  ·obtain⟨hA,hB⟩:=r_.1 hp;have Bt:W ((gt b.ae k).A+1)=(gt b.ae k).A+1:=bZ (by omega) (by omega);simp only[Bv,bb hk,aI,aP hk,aq,p7,eB,eS,eC,Bt,dT hA,ei,aE,aD];rcases hB with⟨h1,h2⟩|⟨h1,h2⟩|⟨h1,h2,h3⟩
   ·simp only[gm h1,aI,dT h2,ei,aE,aD,aq,bw,ba (show k<1000000000000000000 by omega)]
   ·simp only[dI (show(gt b.ae k).Kind≠1 by omega),gm h1,aI,dT h2,ei,aE,aD,aq,bw,ba (show k<1000000000000000000 by omega)]
   ·have nJ:¬∃i,i<k∧((gt b.ae i).Kind=(gt b.ae k).Kind∧(gt b.ae i).A=(gt b.ae k).A∧(gt b.ae i).B=(gt b.ae k).B):=λ⟨i,hi,hh⟩=>h3 i hi hh;simp only[dI (show(gt b.ae k).Kind≠1 by omega),dI (show(gt b.ae k).Kind≠2 by omega),gm h1,aI,dT h2,ei,aE,aD,CS (show k<=b.ae.length by omega),aq,ix k hk,aL nJ,bw,ba (show k<1000000000000000000 by omega)]
  ·by_cases hA:0<=(gt b.ae k).A∧(gt b.ae k).A<=b.aB-1
   case neg=>simp only[Bv,bb hk,aI,aP hk,aq,p7,eB,dF hA,lP]
   have Bt:W ((gt b.ae k).A+1)=(gt b.ae k).A+1:=bZ (by omega) (by omega);simp only[Bv,bb hk,aI,aP hk,aq,p7,eB,eS,eC,Bt,dT hA,ei,aE,aD];by_cases h1:(gt b.ae k).Kind=1
   ·have h2:¬((gt b.ae k).A+1<=(gt b.ae k).B∧(gt b.ae k).B<=b.aB-1):=λh=>hp ⟨hA,.inl ⟨h1,h⟩⟩;simp only[gm h1,aI,dF h2,lP,aq,bC]
   by_cases h2:(gt b.ae k).Kind=2
   ·have h3:¬(0<=(gt b.ae k).B∧(gt b.ae k).B<=(b.aj.length:Int)-1):=λh=>hp ⟨hA,.inr (.inl ⟨h2,h⟩)⟩;simp only[dI h1,gm h2,aI,dF h3,lP,aE,aD,aq,bC]
   by_cases h3:(gt b.ae k).Kind=3
   case neg=>simp only[dI h1,dI h2,dI h3,aE,aD,aq,bC]
   by_cases h4:0<=(gt b.ae k).B∧(gt b.ae k).B<=(b.az.length:Int)-1
   case neg=>simp only[dI h1,dI h2,gm h3,aI,dF h4,lP,aE,aD,aq,bC]
   have Ha:∃i,i<k∧((gt b.ae i).Kind=(gt b.ae k).Kind∧(gt b.ae i).A=(gt b.ae k).A∧(gt b.ae i).B=(gt b.ae k).B):=by apply gC;intro hn;exact hp ⟨hA,.inr (.inr ⟨h3,h4,λi hi hh=>hn ⟨i,hi,hh⟩⟩)⟩
   simp only[dI h1,dI h2,gm h3,aI,dT h4,ei,aE,aD,CS (show k<=b.ae.length by omega),aq,ix k hk,aH Ha,bC]
 have l3:aJ (Ei b) 0=aa (if ∃j,j<b.aj.length∧¬(bD (eF b 2 (j:Int)) b.ae.length).length=1 then .inr ai else .inl ()):=by
  refine uL (oy (r:= .inr ai) (e:= .inl ()) (step:=Ei b) (λk=>(k:Int)) b.aj.length (λj=>¬(bD (eF b 2 (j:Int)) b.ae.length).length=1) (λj hj hp=>?_) (λj hj hp=>?_) (by simp only[Ei,bJ,aE,aD])) (by cR)
  ·have e:(len (bD (eF b 2 (j:Int)) b.ae.length) !=1)=ai:=by have:=r_.1 hp;simp[len,this]
   simp only[Ei,bb hj,aI,xU fH,aq,e,aE,aD,ba (show j<1000000000000000000 by omega)]
  ·have e:(len (bD (eF b 2 (j:Int)) b.ae.length) !=1)=ab:=by simp[len];omega
   simp only[Ei,bb hj,aI,xU fH,aq,e]
 have l4:aJ (Eh b) 0=aa (if ∃j,j<b.az.length∧(bD (eF b 3 (j:Int)) b.ae.length).length=0 then .inr ai else .inl ()):=by
  refine uL (oy (r:= .inr ai) (e:= .inl ()) (step:=Eh b) (λk=>(k:Int)) b.az.length (λj=>(bD (eF b 3 (j:Int)) b.ae.length).length=0) (λj hj hp=>?_) (λj hj hp=>?_) (by simp only[Eh,bJ,aE,aD])) (by cR)
  ·have e:al (len (bD (eF b 3 (j:Int)) b.ae.length)<1)=ai:=dF (by unfold len;omega);simp only[Eh,bb hj,aI,xU fH,aq,e,aE,aD,ba (show j<1000000000000000000 by omega)]
  ·have e:al (len (bD (eF b 3 (j:Int)) b.ae.length)<1)=ab:=dT (by unfold len;omega);simp only[Eh,bb hj,aI,xU fH,aq,e]
 unfold Nz;rw[l1,aq];by_cases g1:∃k,k<b.ae.length∧¬PH b k
 ·rw[aH g1,dF (λh:cE b=>by obtain⟨k,hk,hn⟩:=g1;exact hn ((GI.1 h).1 k hk))];rfl
 rw[aL g1,bw,l3,aq];by_cases g2:∃j,j<b.aj.length∧¬(bD (eF b 2 (j:Int)) b.ae.length).length=1
 ·rw[aH g2,dF (λh:cE b=>by obtain⟨k,hk,hn⟩:=g2;exact hn ((GI.1 h).2.1 k hk))];rfl
 rw[aL g2,bw,l4,aq];by_cases g3:∃j,j<b.az.length∧(bD (eF b 3 (j:Int)) b.ae.length).length=0
 ·rw[aH g3,dF (λh:cE b=>by obtain⟨k,hk,hn⟩:=g3;exact(GI.1 h).2.2 k hk hn)];rfl
 rw[aL g3,dT (GI.2 ⟨λk hk=>gC λh=>g1 ⟨k,hk,h⟩,λk hk=>gC λh=>g2 ⟨k,hk,h⟩,λk hk h=>g3 ⟨k,hk,h⟩⟩)];rfl
end Rx
namespace Rx
open Classical
def ao4{b:aw}(hl:gn b):Nw b=aa (al (∀k,k<b.aj.length->mJ (gt b.aj k))):=by
 have mB:=hl.src;have h:aJ (Ee b) 0=aa (if ∃k,k<b.aj.length∧¬mJ (gt b.aj k)then .inr ai else .inl ()):=by
  refine uL (oy (r:= .inr ai) (e:= .inl ()) (step:=Ee b) (λk=>(k:Int)) b.aj.length (λk=>¬mJ (gt b.aj k)) (λk hk hp=>?_) (λk hk hp=>?_) (by simp only[Ee,bJ,aE,aD])) (by cR)
  ·obtain⟨h1,h2,h3⟩:=r_.1 hp;simp only[Ee,bb hk,aI,aP hk,aq,p7,dT h1,dT h2,dT h3,ei,aE,aD,ba (show k<1000000000000000000 by omega)]
  ·simp only[Ee,bb hk,aI,aP hk,aq,p7];by_cases h1:1<=(gt b.aj k).ik∧(gt b.aj k).ik<=50000
   case neg=>simp[h1]
   by_cases h2:0<=(gt b.aj k).eX∧(gt b.aj k).eX<=(gt b.aj k).ik
   case neg=>simp[h1,h2]
   have h3:¬(0<=(gt b.aj k).Start∧(gt b.aj k).Start<=600):=λh=>hp ⟨h1,h2,h⟩;simp[h1,h2,h3]
 unfold Nw;rw[h,aq];by_cases g:∃k,k<b.aj.length∧¬mJ (gt b.aj k)
 ·rw[aH g,dF (c:=∀k,k<b.aj.length->mJ (gt b.aj k)) (λh=>by obtain⟨k,hk,hn⟩:=g;exact hn (h k hk))];rfl
 ·rw[aL g,dT (c:=∀k,k<b.aj.length->mJ (gt b.aj k)) (λk hk=>gC λh=>g ⟨k,hk,h⟩)];rfl
def apb{b:aw}(hl:gn b)(hs:fu b):Ny b=aa (al (∀k,k<b.az.length->lM (gt b.az k) k)):=by
 have DY:=hl.iO;have ix:∀k,k<b.az.length->aJ (Ef (k:Int) (gt b.az k)) 0=aa (if ∃i,i<(gt b.az k).cf.length∧¬((0<=gt (gt b.az k).cf i∧gt (gt b.az k).cf i<=(k:Int)-1)∧(0<i->gt (gt b.az k).cf (i-1)<gt (gt b.az k).cf i))then .inr (.inr (.inr ai))else .inl ()):=by
  intro k hk;generalize hx:gt b.az k=x;have hl:Sm x.cf:=hx▸hs.2.2.2 _ (dx hk);have e0:W ((k:Int)-1)=(k:Int)-1:=bZ (by omega) (by omega);refine uL (oy (step:=Ef (k:Int) x) (λi=>(i:Int)) x.cf.length (λi=>¬((0<=gt x.cf i∧gt x.cf i<=(k:Int)-1)∧(0<i->gt x.cf (i-1)<gt x.cf i))) (r:= .inr (.inr (.inr ai))) (e:= .inl ()) (λi hi hp=>?_) (λi hi hp=>?_) (by simp only[Ef,bJ,aE,aD])) (by cR)
  ·obtain⟨h1,h2⟩:=r_.1 hp;simp only[Ef,bb hi,aI,aP hi,aq,p7,e0,dT h1,ei,aE,aD];by_cases nO:0<i
   ·have h3:=h2 nO;rw[dT (c:=(i:Int)>0) (by omega)];simp only[aI,nT (eP hl hi) nO,aP (show i-1<x.cf.length by omega),aq,dF (c:=gt x.cf (i-1)>=gt x.cf i) (by omega),aE,aD,ba (eP hl hi)]
   ·rw[dF (c:=(i:Int)>0) (by omega)];simp only[aE,aD,aq,ba (eP hl hi)]
  ·simp only[Ef,bb hi,aI,aP hi,aq,p7,e0];by_cases h1:0<=gt x.cf i∧gt x.cf i<=(k:Int)-1
   ·have h2:0<i∧gt x.cf i<=gt x.cf (i-1):=by
     by_cases nO:0<i
     ·refine⟨nO,Int.not_lt.1 λh=>hp ⟨h1,λ_=>h⟩⟩
     ·exact(hp ⟨h1,λh=>(nO h).elim⟩).elim
    rw[dT h1,dT (c:=(i:Int)>0) (by omega)];simp only[ei,aE,aD,aI,nT (eP hl hi) h2.1,aP (show i-1<x.cf.length by omega),aq,dT (c:=gt x.cf (i-1)>=gt x.cf i) (by omega)]
   ·rw[dF h1];simp only[lP,aI,aq]
 have bV:∀x:Consumer,(uH (aa (al (0<=x.eV∧x.eV<=50000))) λx3=>if(!x3)=ab then aa ab else uH (aa (al (0<=x.eX∧x.eX<=x.eV))) λx4=>if(!x4)=ab then aa ab else uH (aa (al (0<=x.kB∧x.kB<=15))) λx5=>if(!x5)=ab then aa ab else uH (aa (al (-1<=x.b9∧x.b9<=7))) λx6=>if(!x6)=ab then aa ab else aa (al (len x.cf>4)))=aa (al (¬((0<=x.eV∧x.eV<=50000)∧(0<=x.eX∧x.eX<=x.eV)∧(0<=x.kB∧x.kB<=15)∧(-1<=x.b9∧x.b9<=7)∧x.cf.length<=4))):=by
  intro x;have e5:al (len x.cf>4)=al (¬x.cf.length<=4):=by rw[B3];unfold len;omega
  rw[e5];simp only[aq];by_cases h1:0<=x.eV∧x.eV<=50000
  case neg=>rw[dF h1,dT (c:=¬(_∧_)) (λh=>h1 h.1)];rfl
  by_cases h2:0<=x.eX∧x.eX<=x.eV
  case neg=>rw[dT h1,dF h2,dT (c:=¬(_∧_)) (λh=>h2 h.2.1)];rfl
  by_cases h3:0<=x.kB∧x.kB<=15
  case neg=>rw[dT h1,dT h2,dF h3,dT (c:=¬(_∧_)) (λh=>h3 h.2.2.1)];rfl
  by_cases h4: -1<=x.b9∧x.b9<=7
  case neg=>rw[dT h1,dT h2,dT h3,dF h4,dT (c:=¬(_∧_)) (λh=>h4 h.2.2.2.1)];rfl
  rw[dT h1,dT h2,dT h3,dT h4];by_cases h5:x.cf.length<=4
  ·rw[dF (c:=¬x.cf.length<=4) (λh=>h h5),dF (c:=¬(_∧_)) (λh=>h ⟨h1,h2,h3,h4,h5⟩)];rfl
  ·rw[dT (c:=¬x.cf.length<=4) h5,dT (c:=¬(_∧_)) (λh=>h5 h.2.2.2.2)];rfl
 have adz:∀k,XZ (gt b.az k).cf k↔¬∃i,i<(gt b.az k).cf.length∧¬((0<=gt (gt b.az k).cf i∧gt (gt b.az k).cf i<=(k:Int)-1)∧(0<i->gt (gt b.az k).cf (i-1)<gt (gt b.az k).cf i)):=
  λk=>⟨λh ⟨i,hi,hn⟩=>hn (h i hi),λh i hi=>gC λhn=>h ⟨i,hi,hn⟩⟩
 have h:aJ (Eg b) 0=aa (if ∃k,k<b.az.length∧¬lM (gt b.az k) k then .inr ai else .inl ()):=by
  refine uL (oy (r:= .inr ai) (e:= .inl ()) (step:=Eg b) (λk=>(k:Int)) b.az.length (λk=>¬lM (gt b.az k) k) (λk hk hp=>?_) (λk hk hp=>?_) (by simp only[Eg,bJ,aE,aD])) (by cR)
  ·obtain⟨h1,h2⟩:=r_.1 hp;simp only[Eg,bb hk,aI,aP hk,aq,p7];have:=bV (gt b.az k);simp only[aq]at this;rw[this,dF (c:=¬(_∧_)) (λh=>h h2)];simp only[aq,aE,aD];rw[ix k hk,aL ((adz k).1 h1)];simp only[aq,bw,ba (show k<1000000000000000000 by omega)]
  ·simp only[Eg,bb hk,aI,aP hk,aq,p7];have:=bV (gt b.az k);simp only[aq]at this;rw[this];by_cases h2:(0<=(gt b.az k).eV∧(gt b.az k).eV<=50000)∧(0<=(gt b.az k).eX∧(gt b.az k).eX<=(gt b.az k).eV)∧(0<=(gt b.az k).kB∧(gt b.az k).kB<=15)∧(-1<=(gt b.az k).b9∧(gt b.az k).b9<=7)∧(gt b.az k).cf.length<=4
   ·rw[dF (c:=¬(_∧_)) (λh=>h h2)];simp only[aq,aE,aD];rw[ix k hk,aH (gC λhn=>hp ⟨(adz k).2 hn,h2⟩)];rfl
   ·rw[dT (c:=¬(_∧_)) h2];rfl
 unfold Ny;rw[h,aq];by_cases g:∃k,k<b.az.length∧¬lM (gt b.az k) k
 ·rw[aH g,dF (c:=∀k,k<b.az.length->lM (gt b.az k) k) (λh=>by obtain⟨k,hk,hn⟩:=g;exact hn (h k hk))];rfl
 ·rw[aL g,dT (c:=∀k,k<b.az.length->lM (gt b.az k) k) (λk hk=>gC λh=>g ⟨k,hk,h⟩)];rfl
def apc{b:aw}(hs:fu b):NF b=aa (nj b):=by
 unfold NF nj;by_cases h1:1<=b.aB∧b.aB<=6
 case neg=>
  have hn:¬gn b:=λh=>h1 h.jg;by_cases h1a:b.aB<1
  ·simp[h1a,hn]
  ·have h1b:b.aB>6:=by omega
   simp[h1a,h1b,hn]
 have a1:al (b.aB<1)=ai:=dF (by omega);have a2:al (b.aB>6)=ai:=dF (by omega);by_cases h2:b.ae.length<=24
 case neg=>have:¬gn b:=λh=>h2 h.da;have e:al (len b.ae>24)=ab:=dT (by unfold len;omega);simp[a1,a2,this,e]
 have a3:al (len b.ae>24)=ai:=dF (by unfold len;omega);by_cases h3:b.aj.length<=8
 case neg=>have:¬gn b:=λh=>h3 h.src;have e:al (len b.aj>8)=ab:=dT (by unfold len;omega);simp[a1,a2,a3,this,e]
 have a4:al (len b.aj>8)=ai:=dF (by unfold len;omega);by_cases h4:b.az.length<=16
 case neg=>have:¬gn b:=λh=>h4 h.iO;have e:al (len b.az>16)=ab:=dT (by unfold len;omega);simp[a1,a2,a3,a4,this,e]
 have a5:al (len b.az>16)=ai:=dF (by unfold len;omega);have hl:gn b:=⟨h1,h2,h3,h4⟩;simp only[a1,a2,a3,a4,a5,aE,aD,aq,apd hl,ao4 hl,apb hl hs,aH hl];by_cases g1:cE b
 case neg=>rw[dF g1,aL (λh:qU b=>g1 h.1)];rfl
 by_cases g2:∀k,k<b.aj.length->mJ (gt b.aj k)
 case neg=>rw[dT g1,dF g2,aL (λh:qU b=>g2 h.2.2.2.1)];rfl
 by_cases g3:∀k,k<b.az.length->lM (gt b.az k) k
 case neg=>rw[dT g1,dT g2,dF g3,aL (λh:qU b=>g3 h.2.2.2.2)];rfl
 rw[dT g1,dT g2,dT g3];simp only[ei,aE,aD];by_cases g4:b.bi<0
 ·rw[dT g4,aL (λh:qU b=>by have:=h.2.1;omega)];rfl
 by_cases g5:b.bi>1800
 ·rw[dF g4,dT g5,aL (λh:qU b=>by have:=h.2.1;omega)];rfl
 by_cases g6:b.aZ<0
 ·rw[dF g4,dF g5,dT g6,aL (λh:qU b=>by have:=h.2.2.1;omega)];rfl
 by_cases g7:b.aZ>6000
 ·rw[dF g4,dF g5,dF g6,dT g7,aL (λh:qU b=>by have:=h.2.2.1;omega)];rfl
 rw[dF g4,dF g5,dF g6,dF g7,aH (show qU b from⟨g1,by omega,by omega,g2,g3⟩)];rfl
end Rx
namespace Rx
open Classical
def aaK(x y:Part):NG x y=aa (al (before x y)):=by
 unfold NG before;by_cases h1:x.Kind<y.Kind
 ·simp[h1]
 ·by_cases h2:x.Kind=y.Kind
  ·by_cases h3:x.Number<y.Number<;>simp[h1,h2,h3]
  ·simp[h1,h2]
def qL(p:ax)(l:List Int):Nat:=(l.filter λk=>gt p.aG k.toNat).length
def ae9(p:ax)(l m:List Int):qL p (l++m)=qL p l+qL p m:=by unfold qL;rw[uK,cW]
def ax5(p:ax)(l:List Int):qL p l<=l.length:=zm _ _
def ax6(b:aw)(p:ax)(j:Nat)(n:Nat):qL p (bD (eF b 3 (j:Int)) n)=eU b p (j:Int) n:=by
 induction n with
 |zero=>rfl
 |succ n ih=>
  rw[pi,ae9,ih];show eU b p (j:Int) n+_=eU b p (j:Int) n+_;cR 1;by_cases h:eF b 3 (j:Int) n=ab
  ·obtain⟨h1,h2⟩:=No.1 h;rw[aH h];cases h3:gt p.aG n<;>simp[qL,h1,h2,h3]
  ·rw[aL h,aL (λhh=>h (No.2 ⟨hh.1,hh.2.1⟩))];rfl
def aaJ{b:aw}{p:ax}(hc:p.aG.length=b.ae.length)(hs:Sm b.ae)(j:Nat):aJ (Ek p (bD (eF b 3 (j:Int)) b.ae.length)) (0,0)=aa (eU b p (j:Int) b.ae.length:Int):=by
 generalize hl:bD (eF b 3 (j:Int)) b.ae.length=l;have MP:l.length<=b.ae.length:=hl▸om _ _;have iw:∀k,k<l.length->∃i:Nat,gt l k=(i:Int)∧i<p.aG.length:=λk hk=>by
  have h1:gt l k∈bD (eF b 3 (j:Int)) b.ae.length:=by rw[hl];exact dx hk
  obtain⟨i,hi,_,e⟩:=yg.1 h1;exact⟨i,e,by omega⟩
 have fH:Sm l:=by unfold Sm at hs⊢;omega
 have h:=dQ (step:=Ek p l) (λk=>((qL p (l.take k):Int),(k:Int))) l.length (r:=(qL p l:Int))
  (λk hk=>by
    obtain⟨i,e,hi⟩:=iw k hk;have hle:=ax5 p (l.take k);have MQ:(l.take k).length<=k:=by simp;omega
    simp only[Ek,bb hk,aI,aP hk,e,aP hi,aq,ba (eP fH hk),lm hk,ae9];cases h3:gt p.aG i with
    |true=>
     have:qL p [(i:Int)]=1:=by simp[qL,h3]
     simp only[aI,aq,this];rw[ba (show qL p (l.take k)<1000000000000000000 by have:=eP fH hk;omega)]
    |false=>
     have:qL p [(i:Int)]=0:=by simp[qL,h3]
     simp only[aE,aD,aq,this,Nat.add_zero])
  (by simp only[Ek,bJ,aE,aD,oU])
 have h':aJ (Ek p l) (0,0)=_:=h;rw[h',<-hl,ax6]
def GH{b:aw}{p:ax}(hb:fu b)(hp:dt p):yQ b p=aa (bj b p):=by
 unfold yQ bj;rw[apc hb];simp only[aq];by_cases h0:nj b=0
 case neg=>simp[h0]
 have hL:=(BB.1 h0).1;have h3:=hL.iO;have e0:(nj b !=0)=ai:=by simp[h0]
 simp only[e0,aE,aD,aH h0];by_cases h1:p.aG.length=b.ae.length
 case neg=>
  have:¬Shape b p:=λh=>h1 h.1;have e:(len p.aG !=len b.ae)=ab:=by simp[len];omega
  simp[e,this]
 by_cases h2:p.aj.length=b.aj.length
 case neg=>
  have:¬Shape b p:=λh=>h2 h.2.1;have e1:(len p.aG !=len b.ae)=ai:=by simp[len,h1]
  have e:(len p.aj !=len b.aj)=ab:=by simp[len];omega
  simp[e,e1,this]
 by_cases h4:p.aX.length=b.az.length
 case neg=>
  have:¬Shape b p:=λh=>h4 h.2.2;have e1:(len p.aG !=len b.ae)=ai:=by simp[len,h1]
  have e2:(len p.aj !=len b.aj)=ai:=by simp[len,h2]
  have e:(len p.aX !=len b.az)=ab:=by simp[len];omega
  simp[e,e1,e2,this]
 have m9:Shape b p:=⟨h1,h2,h4⟩;have e1:(len p.aG !=len b.ae)=ai:=by simp[len,h1]
 have e2:(len p.aj !=len b.aj)=ai:=by simp[len,h2]
 have e3:(len p.aX !=len b.az)=ai:=by simp[len,h4]
 have l1:aJ (Eo p) 0=aa (if ∃k,k<p.aj.length∧¬gV (gt p.aj k)then .inr 11 else .inl ()):=by
  have fH:=hp.2.1;refine uL (oy (r:= .inr 11) (e:= .inl ()) (step:=Eo p) (λk=>(k:Int)) p.aj.length (λk=>¬gV (gt p.aj k)) (λk hk hq=>?_) (λk hk hq=>?_) (by simp only[Eo,bJ,aE,aD])) (by cR)
  ·obtain⟨q1,q2,q3,q4⟩:=r_.1 hq;simp only[Eo,bb hk,aI,aP hk,aq,p7,dT q1,dT q2,dT q3,dT q4,ei,aE,aD,ba (eP fH hk)]
  ·simp only[Eo,bb hk,aI,aP hk,aq,p7];by_cases q1:0<=(gt p.aj k).State∧(gt p.aj k).State<=3
   case neg=>simp[q1]
   by_cases q2:0<=(gt p.aj k).gJ∧(gt p.aj k).gJ<=2147483648
   case neg=>simp[q1,q2]
   by_cases q3:0<=(gt p.aj k).aZ∧(gt p.aj k).aZ<=6000
   case neg=>simp[q1,q2,q3]
   have q4:¬(0<=(gt p.aj k).bi∧(gt p.aj k).bi<=3599):=λh=>hq ⟨q1,q2,q3,h⟩;simp[q1,q2,q3,q4]
 have l2:aJ (En b p) 0=aa (if ∃k,k<p.aX.length∧¬(0<=gt p.aX k∧gt p.aX k<=(gt b.az k).eV)then .inr 11 else .inl ()):=by
  have fH:=hp.2.2.1;refine uL (oy (r:= .inr 11) (e:= .inl ()) (step:=En b p) (λk=>(k:Int)) p.aX.length (λk=>¬(0<=gt p.aX k∧gt p.aX k<=(gt b.az k).eV)) (λk hk hq=>?_) (λk hk hq=>?_) (by simp only[En,bJ,aE,aD])) (by cR)
  ·simp only[En,bb hk,aI,aP hk,aP (show k<b.az.length by omega),aq,p7,dT (r_.1 hq),ei,aE,aD,ba (eP fH hk)]
  ·simp only[En,bb hk,aI,aP hk,aP (show k<b.az.length by omega),aq,p7,dF hq,lP]
 have l3:aJ (Em b p) 0=aa (if ∃k,k<p.aS.length∧¬oS b p.aS k then .inr 11 else .inl ()):=by
  have fH:=hp.2.2.2;refine uL (oy (r:= .inr 11) (e:= .inl ()) (step:=Em b p) (λk=>(k:Int)) p.aS.length (λk=>¬oS b p.aS k) (λk hk hq=>?_) (λk hk hq=>?_) (by simp only[Em,bJ,aE,aD])) (by cR)
  ·obtain⟨q1,q2⟩:=r_.1 hq;simp only[Em,bb hk,aI,aP hk,aq,exists_eq hL,dT q1,ei,aE,aD];by_cases mG:0<k
   ·rw[dT (c:=(k:Int)>0) (by omega)];simp only[aI,nT (eP fH hk) mG,aP (show k-1<p.aS.length by omega),aq,aaK,dT (q2 mG),ei,aE,aD,ba (eP fH hk)]
   ·rw[dF (c:=(k:Int)>0) (by omega)];simp only[aE,aD,aq,ba (eP fH hk)]
  ·simp only[Em,bb hk,aI,aP hk,aq,exists_eq hL];by_cases q1:0<=(gt p.aS k).Number∧(gt p.aS k).Number<=bsize b (gt p.aS k).Kind-1
   ·have q2:0<k∧¬before (gt p.aS (k-1)) (gt p.aS k):=by
     by_cases mG:0<k
     ·exact⟨mG,λh=>hq ⟨q1,λ_=>h⟩⟩
     ·exact(hq ⟨q1,λh=>(mG h).elim⟩).elim
    rw[dT q1,dT (c:=(k:Int)>0) (by omega)];simp only[ei,aE,aD,aI,nT (eP fH hk) q2.1,aP (show k-1<p.aS.length by omega),aq,aaK,dF q2.2,lP]
   ·rw[dF q1];simp only[lP,aI,aq]
 have l4:aJ (El b p) 0=aa (if ∃k,k<b.az.length∧¬eU b p (k:Int) b.ae.length<=1 then .inr 11 else .inl ()):=by
  refine uL (oy (r:= .inr 11) (e:= .inl ()) (step:=El b p) (λk=>(k:Int)) b.az.length (λk=>¬eU b p (k:Int) b.ae.length<=1) (λk hk hq=>?_) (λk hk hq=>?_) (by simp only[El,bJ,aE,aD])) (by cR)
  ·simp only[El,bb hk,aI,xU hb.1,aq,aaJ h1 hb.1,dF (c:=(eU b p (k:Int) b.ae.length:Int)>1) (by omega),aE,aD,ba (show k<1000000000000000000 by omega)]
  ·simp only[El,bb hk,aI,xU hb.1,aq,aaJ h1 hb.1,dT (c:=(eU b p (k:Int) b.ae.length:Int)>1) (by omega)]
 simp only[e1,e2,e3,aE,aD,aq,aH m9,l1,l2,l3,l4];by_cases g1:∃k,k<p.aj.length∧¬gV (gt p.aj k)
 ·rw[aH g1,aL (λh:v5 b p=>by obtain⟨k,hk,hn⟩:=g1;exact hn (h.2.1 k hk))];rfl
 rw[aL g1,bw];by_cases g2:∃k,k<p.aX.length∧¬(0<=gt p.aX k∧gt p.aX k<=(gt b.az k).eV)
 ·rw[aH g2,aL (λh:v5 b p=>by obtain⟨k,hk,hn⟩:=g2;exact hn (h.2.2 k hk).1)];rfl
 rw[aL g2,bw];by_cases g3:p.aS.length<=32
 case neg=>rw[dT (c:=len p.aS>32) (by unfold len;omega),aL (λh:v5 b p=>g3 h.1.2)];rfl
 rw[dF (c:=len p.aS>32) (by unfold len;omega)];simp only[aE,aD];by_cases g4:∃k,k<p.aS.length∧¬oS b p.aS k
 ·rw[aH g4,aL (λh:v5 b p=>by obtain⟨k,hk,hn⟩:=g4;exact hn (h.1.1 k hk))];rfl
 rw[aL g4,bw];by_cases g5:∃k,k<b.az.length∧¬eU b p (k:Int) b.ae.length<=1
 ·rw[aH g5,aL (λh:v5 b p=>by obtain⟨k,hk,hn⟩:=g5;exact hn (h.2.2 k (by omega)).2)];rfl
 rw[aL g5,bw,aH (show v5 b p from⟨⟨λk hk=>gC λh=>g4 ⟨k,hk,h⟩,g3⟩,λk hk=>gC λh=>g1 ⟨k,hk,h⟩,λk hk=>⟨gC λh=>g2 ⟨k,hk,h⟩,gC λh=>g5 ⟨k,by omega,h⟩⟩⟩)]
end Rx
namespace Rx
open Classical
def mA(b:aw)(p:ax)(m:List Bool)(k:Nat):List Bool:=
 if(gt b.ae k).Kind=1∧gt p.aG k=ab∧(gt m (gt b.ae k).A.toNat=ab∨gt m (gt b.ae k).B.toNat=ab)then(m.set (gt b.ae k).A.toNat ab).set (gt b.ae k).B.toNat ab else m
def ov(b:aw)(p:ax)(m:List Bool):Nat->List Bool
 |0=>m
 |k+1=>mA b p (ov b p m k) k
def tT(b:aw)(p:ax)(m:List Bool):Nat->List Bool
 |0=>m
 |r+1=>ov b p (tT b p m r) b.ae.length
def aq8(b:aw)(p:ax)(m:List Bool)(k:Nat):(mA b p m k).length=m.length:=by unfold mA;split<;>simp
def GW(b:aw)(p:ax)(m:List Bool)(k:Nat):(ov b p m k).length=m.length:=by
 induction k with
 |zero=>rfl
 |succ k ih=>unfold ov;rw[aq8,ih]
def L9(b:aw)(p:ax)(m:List Bool)(r:Nat):(tT b p m r).length=m.length:=by
 induction r with
 |zero=>rfl
 |succ r ih=>unfold tT;rw[GW,ih]
section
variable {b:aw} {p:ax}
def SD(hb:cE b){m:List Bool}(hm:m.length=b.aB.toNat){k:Nat}(hk:k<b.ae.length)(i:Nat):gt (mA b p m k) i=if(gt b.ae k).Kind=1∧gt p.aG k=ab∧(gt m (gt b.ae k).A.toNat=ab∨gt m (gt b.ae k).B.toNat=ab)∧(i=(gt b.ae k).A.toNat∨i=(gt b.ae k).B.toNat)then ab else gt m i:=by
 unfold mA;by_cases h:(gt b.ae k).Kind=1∧gt p.aG k=ab∧(gt m (gt b.ae k).A.toNat=ab∨gt m (gt b.ae k).B.toNat=ab)
 ·obtain⟨e1,e2,_,_⟩:=zE hb hk h.1;rw[aH h,gH (by simp;omega),gH (by omega)];by_cases hi:i=(gt b.ae k).B.toNat
  ·rw[aH hi,aH ⟨h.1,h.2.1,h.2.2,.inr hi⟩]
  ·rw[aL hi];by_cases ep:i=(gt b.ae k).A.toNat
   ·rw[aH ep,aH ⟨h.1,h.2.1,h.2.2,.inl ep⟩]
   ·rw[aL ep,aL (λhh=>hh.2.2.2.elim ep hi)]
 ·rw[aL h,aL (λhh=>h ⟨hh.1,hh.2.1,hh.2.2.1⟩)]
def aq7(hb:cE b){m:List Bool}(hm:m.length=b.aB.toNat){k:Nat}(hk:k<b.ae.length){i:Nat}(h:gt m i=ab):gt (mA b p m k) i=ab:=by
 rw[SD hb hm hk];split
 ·rfl
 ·exact h
def L7(hb:cE b){m:List Bool}(hm:m.length=b.aB.toNat){i:Nat}(k:Nat):∀d,k+d<=b.ae.length->gt (ov b p m k) i=ab->gt (ov b p m (k+d)) i=ab
 |0,_,h=>h
 |d+1,hd,h=>aq7 hb (by rw[GW,hm]) (show k+d<b.ae.length by omega) (L7 hb hm k d (by omega) h)
def aq9(hb:cE b){m:List Bool}(hm:m.length=b.aB.toNat){i j:Nat}(h:gt m i=ab)(ht:j8 b p i j):gt (ov b p m b.ae.length) j=ab:=by
 obtain⟨k,hk,h1,h2,h3⟩:=ht;have e:=zE hb hk h1;have hi:=L7 (p:=p) hb hm 0 k (by omega) h;rw[kG]at hi;have hj:gt (ov b p m (k+1)) j=ab:=by
  show gt (mA b p (ov b p m k) k) j=ab;rw[SD hb (by rw[GW,hm]) hk,aH];refine⟨h1,h2,?_,?_⟩
  ·rcases h3 with h3|h3
   ·exact .inl (by rw[show(gt b.ae k).A.toNat=i from by omega];exact hi)
   ·exact .inr (by rw[show(gt b.ae k).B.toNat=i from by omega];exact hi)
  ·omega
 have:=L7 hb hm (k+1) (b.ae.length-(k+1)) (by omega) hj;rwa[show k+1+(b.ae.length-(k+1))=b.ae.length from by omega]at this
def abH(hb:cE b){m:List Bool}(hm:m.length=b.aB.toNat){s:Nat}(h:∀i,gt m i=ab->kD (j8 b p) s i):∀k,k<=b.ae.length->∀i,gt (ov b p m k) i=ab->kD (j8 b p) s i
 |0,_,i,hi=>h i hi
 |k+1,hk,i,hi=>by
  have ih:=abH hb hm h k (by omega);have er:gt (mA b p (ov b p m k) k) i=ab:=hi;rw[SD hb (by rw[GW,hm]) (by omega)]at er;split at er
  ·rename_i hc;obtain⟨h1,h2,h3,h4⟩:=hc;have e:=zE hb (show k<b.ae.length by omega) h1;have ht:j8 b p (gt b.ae k).A.toNat (gt b.ae k).B.toNat:=⟨k,by omega,h1,h2,.inl ⟨e.2.2.1,e.2.2.2⟩⟩;rcases h3 with h3|h3
   ·have c:=ih _ h3;rcases h4 with rfl|rfl
    ·exact c
    ·exact c.trans (.one ht)
   ·have c:=ih _ h3;rcases h4 with rfl|rfl
    ·exact c.trans (.one ht.symm)
    ·exact c
  ·exact ih i er
def abJ(hb:cE b){m:List Bool}(hm:m.length=b.aB.toNat){s:Nat}(h:∀i,gt m i=ab->kD (j8 b p) s i):∀r i,gt (tT b p m r) i=ab->kD (j8 b p) s i
 |0,i,hi=>h i hi
 |r+1,i,hi=>abH hb (by rw[L9,hm]) (abJ hb hm h r) _ (bx _) i hi
def SE(hb:cE b){m:List Bool}(hm:m.length=b.aB.toNat){s:Nat}(h:gt m s=ab):∀r j,iE (j8 b p) r s j->gt (tT b p m r) j=ab
 |0,j,w=>by rw[<-w.zero];exact h
 |r+1,j,w=>by
  have hl:(tT b p m r).length=b.aB.toNat:=by rw[L9,hm]
  rcases w.last with h1|⟨i,h1,h2⟩
  ·have:=L7 (p:=p) hb hl 0 b.ae.length (by omega) (SE hb hm h r j h1);rw[kG]at this;exact this
  ·exact aq9 hb hl (SE hb hm h r i h1) h2
def lZ(n s:Nat):List Bool:=(cU n ai).set s ab
def aq2(hb:cE b){s:Nat}(hs:s<b.aB.toNat){j:Nat}:gt (tT b p (lZ b.aB.toNat s) b.aB.toNat) j=ab↔kD (j8 b p) s j:=by
 have hm:(lZ b.aB.toNat s).length=b.aB.toNat:=by simp[lZ]
 have h0:gt (lZ b.aB.toNat s) s=ab:=by unfold lZ;rw[gH (by simpa using hs),aH rfl]
 constructor
 ·refine abJ hb hm (λi hi=>?_) _ j;unfold lZ at hi;rw[gH (by simpa using hs)]at hi;by_cases his:i=s
  ·subst his;exact .refl _
  ·rw[aL his]at hi;by_cases m_:i<b.aB.toNat
   ·rw[Bi m_]at hi;cases hi
   ·unfold gt at hi;simp[List.getD_eq_getElem?_getD,m_]at hi
 ·intro h;have hw:=(h.walk (n:=b.aB.toNat) (λi j h=>(h.lt hb).2) hs).more (r':=b.aB.toNat) (by omega);exact SE hb hm h0 _ _ hw
def apP{P Q:Nat->Bool}{n:Nat}(h:∀i,i<n->P i=Q i):bD P n=bD Q n:=by unfold bD;rw[List.filter_congr λx hx=>h x (eu.1 hx)]
def ape(hb:cE b)(hs:Sm b.ae)(hc:p.aG.length=b.ae.length){m:List Bool}(hm:(m.length:Int)=b.aB):aJ (Ib b p) ((0:Int),m)=aa (ov b p m b.ae.length):=by
 refine dQ (step:=Ib b p) (λk=>((k:Int),ov b p m k)) b.ae.length (λk hk=>?_) (by simp only[Ib,bJ,aE,aD]);have jt:=hb.1 k hk;have hl:=GW b p m k;have as5:ov b p m (k+1)=mA b p (ov b p m k) k:=rfl;simp only[Ib,bb hk,aI,aP hk,aP (show k<p.aG.length by omega),aq,ba (eP hs hk),as5];generalize ov b p m k=q at hl⊢;by_cases h1:(gt b.ae k).Kind=1
 case neg=>
  have e0:mA b p q k=q:=by unfold mA;rw[aL (λh=>h1 h.1)]
  simp only[dI h1,e0,aE,aD,aq]
 cases h2:gt p.aG k with
 |false=>
  have e0:mA b p q k=q:=by unfold mA;rw[aL (λh=>by rw[h2]at h;exact absurd h.2.1 (by simp))]
  simp only[gm h1,e0,aI,aE,aD,aq]
 |true=>
  have e:=zE hb hk h1;have iA:∀x:List Bool,x.length=q.length->idx x (gt b.ae k).A=aa (gt x (gt b.ae k).A.toNat):=λx hx=>iL (by omega) (by omega);have iB:∀x:List Bool,x.length=q.length->idx x (gt b.ae k).B=aa (gt x (gt b.ae k).B.toNat):=λx hx=>iL (by omega) (by omega);have sA:∀x:List Bool,x.length=q.length->di x (gt b.ae k).A ab=aa (x.set (gt b.ae k).A.toNat ab):=λx hx=>CX (by omega) (by omega);have sB:∀x:List Bool,x.length=q.length->di x (gt b.ae k).B ab=aa (x.set (gt b.ae k).B.toNat ab):=λx hx=>CX (by omega) (by omega);simp only[gm h1,aI,aq,iA q rfl,iB q rfl,sA q rfl,iB (q.set (gt b.ae k).A.toNat ab) (by simp),sB (q.set (gt b.ae k).A.toNat ab) (by simp)];cases h3:gt q (gt b.ae k).A.toNat with
  |true=>
   have e0:mA b p q k=(q.set (gt b.ae k).A.toNat ab).set (gt b.ae k).B.toNat ab:=by unfold mA;rw[aH ⟨h1,h2,.inl h3⟩]
   simp only[aI,aq,e0]
  |false=>
   cases h4:gt q (gt b.ae k).B.toNat with
   |true=>
    have e0:mA b p q k=(q.set (gt b.ae k).A.toNat ab).set (gt b.ae k).B.toNat ab:=by unfold mA;rw[aH ⟨h1,h2,.inr h4⟩]
    simp only[aI,aE,aD,aq,e0]
   |false=>
    have e0:mA b p q k=q:=by unfold mA;rw[aL (λh=>by rcases h.2.2 with h|h<;>simp[h3,h4]at h)]
    simp only[aE,aD,aq,e0]
def apf(hl:gn b)(hb:cE b)(hs:Sm b.ae)(hc:p.aG.length=b.ae.length){k:Int}(h0:0<=k)(h1:k<b.aB):Nx b p k=aa (eL b p k).aB:=by
 have pF:=hl.jg;obtain⟨n,hn⟩:=nu (show 0<=b.aB by omega);obtain⟨s,hk⟩:=nu h0;subst hk;have TG:s<n:=by omega
 have AW:b.aB.toNat=n:=by omega
 have DO:(lZ n s).length=n:=by simp[lZ]
 have bV:(cU n ai).set s ab=lZ n s:=rfl;have l1:aJ (Ic b p (lZ n s)) ((0:Int),lZ n s)=aa (tT b p (lZ n s) n):=by
  refine dQ (step:=Ic b p (lZ n s)) (λk=>((k:Int),tT b p (lZ n s) k)) n (λk hk=>?_) ?_
  ·have e1:al ((k:Int)<len (lZ n s))=ab:=dT (by unfold len;omega);have l8:=L9 b p (lZ n s) k;simp only[Ic,e1,aI,ape hb hs hc (m:=tT b p (lZ n s) k) (by omega),aq,ba (show k<1000000000000000000 by omega)];rfl
  ·have e1:al ((n:Int)<len (lZ n s))=ai:=dF (by unfold len;omega);simp only[Ic,e1,aE,aD]
 have l3:∀m:List Bool,m.length=n->aJ (Ia m) ((0:Int),[])=aa (bD (λj=>gt m j) n):=by
  intro m hm;refine dQ (step:=Ia m) (λk=>((k:Int),bD (λj=>gt m j) k)) n (λk hk=>?_) ?_
  ·have l8:=om (λj=>gt m j) k;have xh:bG (bD (λj=>gt m j) k) [(k:Int)]=aa (bD (λj=>gt m j) k++[(k:Int)]):=cK (by simp;omega);simp only[Ia,bb (show k<m.length by omega),aI,aP (show k<m.length by omega),aq,pi,xh,ba (show k<1000000000000000000 by omega)];cases gt m k<;>simp
  ·have e1:al ((n:Int)<len m)=ai:=dF (by unfold len;omega);simp only[Ia,e1,aE,aD]
 unfold Nx;rw[hn,yd (by omega)];have l8:(cU n ai).length=n:=by simp
 have hmr:=L9 b p (lZ n s) n;rw[DO]at hmr;simp only[aq,PT,aP (show s<(cU n ai).length by omega),jC (show s<(cU n ai).length by omega),bV,l1,l3 _ hmr];have MT:=Bj (p:=p) hb (show s<b.aB.toNat by omega);show aa _=aa (bD (iP b p (gt (cr b p) ((s:Int)).toNat).toNat) b.aB.toNat);rw[AW,iH];cR 1;refine apP λi hi=>?_;have h4:=aq2 (p:=p) hb (s:=s) (j:=i) (by omega);have h5:=aen (p:=p) hb (i:=i) (j:=s) (by omega) (by omega);rw[AW]at h4;have hsy:∀i j,j8 b p i j->j8 b p j i:=λ_ _ h=>h.symm;have h6:gt (tT b p (lZ n s) n) i=ab↔iP b p (gt (cr b p) s).toNat i=ab:=by rw[h4];unfold iP;rw[xw,show(((gt (cr b p) s).toNat:Nat):Int)=gt (cr b p) s from by omega,h5];exact⟨λh=>h.symm hsy,λh=>h.symm hsy⟩
 exact Bool.eq_iff_iff.2 h6
end
end Rx
namespace Rx
open Classical
def arw{α:Type}[ad α](l:List α):(bW l.length).map (gt l)=l:=by
 apply jZ
 ·simp
 ·intro k hk;have cV:k<l.length:=by simpa using hk
  rw[lF _ cV]
def axd{α:Type}[ad α](l:List α)(P:α->Bool):l.find? P=((bW l.length).find? λq=>P (gt l q)).map (gt l):=by have h:=iq (List.find? P) (arw l);rw[List.find?_map]at h;exact h.symm
def axc(F:Nat->Bool)(P:Int->Bool)(n:Nat):(bD F n).find? P=((bW n).find? λk=>F k&&P (k:Int)).map Int.ofNat:=by unfold bD;rw[List.find?_map,List.find?_filter];cR 2;rY k;simp
def R6{P:Nat->Bool}{m:Nat}(hP:P m=ab)(yA:∀i,i<m->P i=ai):∀n,m<n->0<(bD P n).length∧gt (bD P n) 0=(m:Int)
 |0,h=>by omega
 |n+1,h=>by
  rw[pi];by_cases T4:m<n
  ·obtain⟨h1,h2⟩:=R6 hP yA n T4;exact⟨by simp;omega,by rw[Nf h1];exact h2⟩
  ·have:m=n:=by omega
   subst this;have h0:bD P m=[]:=List.length_eq_zero_iff.1 (GN.2 yA);rw[h0,aH hP];exact⟨by simp,rfl⟩
section
variable {b:aw} {p:ax}
def aem(hb:cE b){k:Nat}(hk:k<b.aB.toNat):∃m:Nat,gt (cr b p) k=(m:Int)∧m<=k∧gt (cr b p) m=(m:Int):=by obtain⟨m,h1,h2,h3⟩:=Nh (p:=p) hb hk;have vA:m<=k:=h3 k (.refl _);refine⟨m,h1,vA,?_⟩;rw[<-h1];exact((aen (p:=p) hb hk (by omega)).2 h2).symm
def ar6(hb:cE b){k:Nat}(hk:k<b.aB.toNat):0<(eL b p (k:Int)).aB.length∧gt (eL b p (k:Int)).aB 0=gt (cr b p) k:=by
 obtain⟨m,h1,h2,h3⟩:=aem (p:=p) hb hk;have he:eL b p (k:Int)=dY b p m:=by unfold eL;rw[iH,h1,iH]
 rw[he,h1];refine R6 (P:=iP b p m) (by unfold iP;rw[h3];simp) (λi hi=>?_) _ (by omega);unfold iP;have:=(Bj (p:=p) hb (show i<b.aB.toNat by omega)).2;exact dI (by omega)
def ar4(hb:cE b){k:Nat}(hk:k<b.aB.toNat):(dY b p k).aB.isEmpty=ai↔gt (cr b p) k=(k:Int):=by
 constructor
 ·intro h;cases hl:(dY b p k).aB with
  |nil=>rw[hl]at h;cases h
  |cons x l=>
   obtain⟨i,h1,h2,h3⟩:=GV.1 (show x∈(dY b p k).aB by rw[hl];exact List.mem_cons_self);obtain⟨m,e1,e2,e3⟩:=aem (p:=p) hb h1;have:m=k:=by omega
   subst this;exact e3
 ·intro h;cases hl:(dY b p k).aB with
  |nil=>have:=GV (f:=k) (x:=(k:Int))|>.2 ⟨k,hk,h,rfl⟩;rw[hl]at this;cases this
  |cons _ _=>rfl
def ar_:bl b p=((bW b.aB.toNat).filter λf=> !(dY b p f).aB.isEmpty).map (dY b p):=by unfold bl eg;rw[List.filter_map];rfl
def apa(hb:fu b)(hp:dt p)(j:Int):NE b p j=aa (N3 b p j):=by
 unfold NE N3;rw[GH hb hp];by_cases h:bj b p=0
 case neg=>
  have:(bj b p !=0)=ab:=by simpa using h
  simp only[aq,this,aI,aL h]
 obtain⟨⟨hl,hg⟩,⟨s1,s2,s3⟩,_⟩:=fh.1 h;have mB:=hl.src;have h0:(bj b p !=0)=ai:=by simp[h]
 simp only[aq,h0,aE,aD,aH h];unfold conn;by_cases h1:j<0
 ·have nJ:¬(0<=j∧j<=(p.aj.length:Int)-1):=by omega
  rw[dT h1,aL nJ];rfl
 rw[dF h1];by_cases h2:j>=(b.aj.length:Int)
 ·have nJ:¬(0<=j∧j<=(p.aj.length:Int)-1):=by omega
  rw[dT (c:=j>=len b.aj) h2,aL nJ];rfl
 have Ha:0<=j∧j<=(p.aj.length:Int)-1:=by omega
 rw[dF (c:=j>=len b.aj) h2,aH Ha];obtain⟨i,rfl⟩:=nu (show 0<=j by omega);simp only[PT,iH,aE,aD];rw[aP (show i<p.aj.length by omega)];simp only[aq];by_cases h3:(gt p.aj i).State=2
 case neg=>rw[aL h3,W9 h3];rfl
 rw[aH h3,BK h3];simp only[aE,aD,xU hb.1,aq];have hlen:=(GI.1 hg.1).2.1 i (by omega);obtain⟨⟨k,hk,pD⟩,hu⟩:=Lq.1 hlen;have TB:∀q,q<b.ae.length->eF b 2 (i:Int) q=ab->q=k:=λq hq l_=>by
  rcases Nat.lt_trichotomy q k with aV|he|aV
  ·exact(hu q k aV hk l_ pD).elim
  ·exact he
  ·exact(hu k q aV hq pD l_).elim
 have hd:=R6 (P:=eF b 2 (i:Int)) pD (λq hq=>by
  cases l_:eF b 2 (i:Int) q with
  |false=>rfl
  |true=>have:=TB q (by omega) l_;omega) b.ae.length hk
 have e0:idx (bD (eF b 2 (i:Int)) b.ae.length) 0=aa (k:Int):=by have:=aP hd.1;rw[hd.2]at this;exact this
 rw[e0];simp only[aq,aP (show k<p.aG.length by omega),aP hk];have A4:∀q,mW b p 2 (i:Int) q=(eF b 2 (i:Int) q&&gt p.aG q):=λq=>by unfold mW eF;simp
 unfold gj;cases hc:gt p.aG k with
 |false=>
  rw[aeD (λq hq=>by
   rw[A4];cases l_:eF b 2 (i:Int) q with
   |false=>rfl
   |true=>rw[TB q hq l_,hc];rfl)]
  rfl
 |true=>
  cases hf:(bW b.ae.length).find? (mW b p 2 (i:Int))with
  |none=>have:=tu.1 hf k (eu.2 hk);rw[A4,pD,hc]at this;simp at this
  |some q=>have hq:=eu.1 (wb hf);have l_:=B7 hf;rw[A4,bt]at l_;rw[TB q hq l_.1];rfl
def ao_(hb:fu b)(hp:dt p){j:Int}(hj:0<=j∧j<b.az.length):NC b p j=aa (vN b p j):=by
 unfold NC vN;rw[GH hb hp];by_cases h:bj b p=0
 case neg=>
  have:(bj b p !=0)=ab:=by simpa using h
  simp only[aq,this,aI,aL h]
 obtain⟨⟨hl,hg⟩,⟨s1,s2,s3⟩,_⟩:=fh.1 h;have nP:=hl.da;have h0:(bj b p !=0)=ai:=by simp[h]
 simp only[aq,h0,aE,aD,aH h];rw[dF (c:=j<0) (by omega),dF (c:=j>=len b.az) (by unfold len;omega)];simp only[aE,aD,xU hb.1,aq];have atU:(bD (eF b 3 j) b.ae.length).length<=b.ae.length:=om _ _;have w_:∀q,q<(bD (eF b 3 j) b.ae.length).length->∃i:Nat,gt (bD (eF b 3 j) b.ae.length) q=(i:Int)∧i<b.ae.length:=λq hq=>by obtain⟨i,hi,_,e⟩:=yg.1 (dx hq);exact⟨i,e,hi⟩
 have vG:=axd (bD (eF b 3 j) b.ae.length) (λx=>gt p.aG x.toNat);rw[axc]at vG;generalize bD (eF b 3 j) b.ae.length=l at atU w_ vG⊢;have h1:=vm (step:=Ep b p l) (λq=>(q:Int)) l.length (λq=>gt p.aG (gt l q).toNat) (R:=λq=> .inr ((gt b.ae (gt l q).toNat).A,ab)) (e:= .inl ())
  (λq hq l_=>by obtain⟨i,e,hi⟩:=w_ q hq;rw[e,iH]at l_;simp only[Ep,bb hq,aI,aP hq,e,aP (show i<p.aG.length by omega),aq,l_,aE,aD,ba (show q<1000000000000000000 by omega)])
  (λq hq l_=>by obtain⟨i,e,hi⟩:=w_ q hq;rw[e,iH]at l_;simp only[Ep,bb hq,aI,aP hq,e,iH,aP (show i<p.aG.length by omega),aP hi,aq,l_])
  (by simp only[Ep,bJ,aE,aD])
 have ng:aJ (Ep b p l) 0=_:=h1;rw[ng];have A4:mW b p 3 j=λk=>eF b 3 j k&&gt p.aG ((k:Int)).toNat:=by rY q;unfold mW eF;simp
 unfold gj;rw[A4];cases hf:(bW l.length).find? (λq=>gt p.aG (gt l q).toNat)with
 |none=>
  rw[hf]at vG;have:(bW b.ae.length).find? (λk=>eF b 3 j k&&gt p.aG ((k:Int)).toNat)=none:=by
   cases hx:(bW b.ae.length).find? (λk=>eF b 3 j k&&gt p.aG ((k:Int)).toNat)with
   |none=>rfl
   |some k=>rw[hx]at vG;cases vG
  rw[this];rfl
 |some q=>
  rw[hf]at vG;cases hx:(bW b.ae.length).find? (λk=>eF b 3 j k&&gt p.aG ((k:Int)).toNat)with
  |none=>rw[hx]at vG;cases vG
  |some k=>rw[hx]at vG;have e:(k:Int)=gt l q:=jP vG;simp only[aq,bC];rw[<-e,iH]
def aaI{k:Int}(hb:cE b)(hl:gn b)(h0:0<=k)(h1:k<b.aB){a:Int}(ha:0<=a∧a<b.aB):Es (eL b p k).aB a=aa (gt (cr b p) a.toNat==(((gt (cr b p) k.toNat).toNat:Nat):Int)):=by
 have pF:=hl.jg;have rF:=(Dy (b:=b) (p:=p) (gt (cr b p) k.toNat).toNat).1;rw[has_eq (show Sm (eL b p k).aB by unfold Sm;show(dY b p _).aB.length<=_;omega)];cR 1;rw[Bool.eq_iff_iff,X_,xw];show a∈(dY b p (gt (cr b p) k.toNat).toNat).aB↔_;rw[GV];constructor
 ·rintro⟨i,_,h,rfl⟩;rw[iH];exact h
 ·intro h;exact⟨a.toNat,by omega,h,by omega⟩
def LL(b:aw)(p:ax)(k:Int):Bool×List Int×List Int×List Int:=((fQ b p k).2,(fQ b p k).1.aB,(fQ b p k).1.aj,(fQ b p k).1.az)
def ao5(hb:fu b)(hp:dt p)(k:Int):NA b p k=aa (LL b p k):=by
 unfold NA LL fQ;rw[GH hb hp];by_cases h:bj b p=0
 case neg=>
  have:(bj b p !=0)=ab:=by simpa using h
  simp only[aq,this,aI,aL (λhh:bj b p=0∧_=>h hh.1)]
 obtain⟨⟨hl,hg⟩,⟨s1,s2,s3⟩,_⟩:=fh.1 h;have mB:=hl.src;have DY:=hl.iO;have h0:(bj b p !=0)=ai:=by simp[h]
 simp only[aq,h0,aE,aD];by_cases h1:k<0
 ·have nJ:¬(bj b p=0∧0<=k∧k<b.aB):=by omega
  rw[dT h1,aL nJ];rfl
 rw[dF h1];by_cases h2:k>=b.aB
 ·have nJ:¬(bj b p=0∧0<=k∧k<b.aB):=by omega
  rw[dT h2,aL nJ];rfl
 have Ha:bj b p=0∧0<=k∧k<b.aB:=⟨h,by omega,by omega⟩;rw[dF h2,aH Ha];simp only[aE,aD];rw[apf hl hg.1 hb.1 s1 (by omega) (by omega)];simp only[aq];have l1:aJ (Ig b p (eL b p k).aB) ((0:Int),[])=aa (eL b p k).aj:=by
  refine dQ (step:=Ig b p (eL b p k).aB) (λi=>((i:Int),bD (gX b p (gt (cr b p) k.toNat).toNat) i)) b.aj.length (λi hi=>?_) (by simp only[Ig,bJ,aE,aD];rfl);have l8:=om (gX b p (gt (cr b p) k.toNat).toNat) i;have xh:bG (bD (gX b p (gt (cr b p) k.toNat).toNat) i) [(i:Int)]=aa (bD (gX b p (gt (cr b p) k.toNat).toNat) i++[(i:Int)]):=cK (by simp;omega);have ec:N3 b p (i:Int)=conn b p (i:Int):=by unfold N3;rw[aH h]
  simp only[Ig,bb hi,aI,apa hb hp,ec,aq,pi,xh,ba (show i<1000000000000000000 by omega)];cases hc:(conn b p (i:Int)).2 with
  |false=>
   have:gX b p (gt (cr b p) k.toNat).toNat i=ai:=by unfold gX;rw[hc];rfl
   simp[this]
  |true=>
   have sP:=VW hg.1 hc;have:gX b p (gt (cr b p) k.toNat).toNat i=(gt (cr b p) (conn b p (i:Int)).1.toNat==(((gt (cr b p) k.toNat).toNat:Nat):Int)):=by unfold gX;rw[hc];rfl
   simp only[aI,aaI hg.1 hl (show 0<=k by omega) (show k<b.aB by omega) sP,aq,this];cases(gt (cr b p) (conn b p (i:Int)).1.toNat==(((gt (cr b p) k.toNat).toNat:Nat):Int))<;>simp
 have l2:aJ (If b p (eL b p k).aB) ((0:Int),[])=aa (eL b p k).az:=by
  refine dQ (step:=If b p (eL b p k).aB) (λi=>((i:Int),bD (h_ b p (gt (cr b p) k.toNat).toNat) i)) b.az.length (λi hi=>?_) (by simp only[If,bJ,aE,aD];rfl);have l8:=om (h_ b p (gt (cr b p) k.toNat).toNat) i;have xh:bG (bD (h_ b p (gt (cr b p) k.toNat).toNat) i) [(i:Int)]=aa (bD (h_ b p (gt (cr b p) k.toNat).toNat) i++[(i:Int)]):=cK (by simp;omega);have ec:vN b p (i:Int)=gj b p 3 (i:Int):=by unfold vN;rw[aH h]
  simp only[If,bb hi,aI,ao_ hb hp (j:=(i:Int)) ⟨by omega,by omega⟩,ec,aq,pi,xh,ba (show i<1000000000000000000 by omega)];cases hc:(gj b p 3 (i:Int)).2 with
  |false=>
   have:h_ b p (gt (cr b p) k.toNat).toNat i=ai:=by unfold h_;rw[hc];rfl
   simp[this]
  |true=>
   have sP:=SZ hg.1 hc;have:h_ b p (gt (cr b p) k.toNat).toNat i=(gt (cr b p) (gj b p 3 (i:Int)).1.toNat==(((gt (cr b p) k.toNat).toNat:Nat):Int)):=by unfold h_;rw[hc];rfl
   simp only[aI,aaI hg.1 hl (show 0<=k by omega) (show k<b.aB by omega) sP,aq,this];cases(gt (cr b p) (gj b p 3 (i:Int)).1.toNat==(((gt (cr b p) k.toNat).toNat:Nat):Int))<;>simp
 rw[l1,l2];rfl
def ao6(hb:fu b)(hp:dt p)(h:bj b p=0):NB b p=aa (bl b p):=by
 obtain⟨⟨hl,hg⟩,⟨s1,s2,s3⟩,_⟩:=fh.1 h;have pF:=hl.jg;obtain⟨n,hn⟩:=nu (show 0<=b.aB by omega);have AW:b.aB.toNat=n:=by omega
 unfold NB;rw[GH hb hp,h];simp only[aq,mi,aE,aD];have l1:aJ (Ih b p) ((0:Int),[])=aa (((bW n).filter λf=> !(dY b p f).aB.isEmpty).map (dY b p)):=by
  refine dQ (step:=Ih b p) (λk=>((k:Int),((bW k).filter λf=> !(dY b p f).aB.isEmpty).map (dY b p))) n (λk hk=>?_) ?_
  ·have e1:al ((k:Int)<b.aB)=ab:=dT (by omega);have hof:LL b p (k:Int)=(ab,(eL b p (k:Int)).aB,(eL b p (k:Int)).aj,(eL b p (k:Int)).az):=by unfold LL fQ;rw[aH ⟨h,by omega,by omega⟩]
   obtain⟨yG,uk⟩:=ar6 (p:=p) hg.1 (show k<b.aB.toNat by omega);have e2:idx (eL b p (k:Int)).aB 0=aa (gt (cr b p) k):=by have:=aP yG;rw[uk]at this;exact this
   have hlen:(((bW k).filter λf=> !(dY b p f).aB.isEmpty).map (dY b p)).length<=k:=by rw[q8];refine lN (zm _ _) ?_;simp
   have xh:∀x:bu,bG (((bW k).filter λf=> !(dY b p f).aB.isEmpty).map (dY b p)) [x]=aa ((((bW k).filter λf=> !(dY b p f).aB.isEmpty).map (dY b p))++[x]):=λx=>cK (by simp only[List.length_singleton];omega);simp only[Ih,e1,aI,ao5 hb hp,hof,aq,e2,xh,ba (show k<1000000000000000000 by omega),List.range_succ,uK,q7];have ac2:=ar4 (p:=p) hg.1 (show k<b.aB.toNat by omega);by_cases hr:gt (cr b p) k=(k:Int)
   ·have e3:eL b p (k:Int)=dY b p k:=by unfold eL;rw[iH,hr,iH]
    have e4:([k].filter λf=> !(dY b p f).aB.isEmpty)=[k]:=by simp[List.filter_cons,ac2.2 hr]
    rw[gm hr,e4,e3];rfl
   ·have e5:(dY b p k).aB.isEmpty=ab:=by
     cases hx:(dY b p k).aB.isEmpty with
     |true=>rfl
     |false=>exact(hr (ac2.1 hx)).elim
    have e4:([k].filter λf=> !(dY b p f).aB.isEmpty)=[]:=by simp[List.filter_cons,e5]
    rw[dI hr,e4];simp
  ·have e1:al ((n:Int)<b.aB)=ai:=dF (by omega);simp only[Ih,e1,aE,aD]
 rw[l1,ar_,AW];rfl
