import Derived.Test.YtmngjhagbjgmfaaGreatPg
import Derived.Test.YtmngjhagbjgmfaaGreatRz
set_option linter.all false
open Bool renaming and_eq_true->bq,false->ai,false_eq_true->aD,not_false->lM,not_true->eg,true->ab
open Classical renaming byContradiction->gw,not_not->rW
open Decidable renaming decide->ak
open Eq renaming trans->uH
open Int renaming eq_ofNat_of_zero_le->nr,le_refl->nY,ofNat_eq_natCast->PP,toNat_natCast->iE
open List renaming filter_append->uG,filter_cons_of_neg->pQ,filter_cons_of_pos->lL,find?_eq_none->tp,find?_some->B3,getElem?_range->Jp,length_append->cU,length_filter_le->zi,length_map->qX,map_append->qW,map_congr_left->Fu,mem_append->bz,mem_cons->cr,mem_filter->k_,mem_map->dC,mem_of_find?_eq_some->v8,mem_range->er,mem_singleton->dZ,not_mem_nil->jN,range->bV,replicate->cR,take_length->oR
open Nat renaming le_refl->bw,le_trans->lK,zero_add->kD
open Option renaming bind->uD,bind_fun_some->cO,bind_some->al,some->aa
open Option.some renaming inj->jM,injEq->fC
open Sum renaming elim_inl->bu,elim_inr->bB
noncomputable section
namespace Go.Proofs.YtmngjhagbjgmfaaGreat
open Go Go.RowKit Dp
namespace Rx
open Classical
def has_eq{l:List Int}{x:Int}(hl:Sm l):En l x=aa (ak (x∈l)):=by
 unfold En;have h:=ot (step:=Em l x) (λk=>(k:Int)) l.length (λk=>gt l k=x) (r:= .inr ab) (e:= .inl ())
  (λk hk hp=>by simp only[Em,ba hk,aH,aO hk,al,bu,bB,bR,dG hp,aD,aC,a_ (eN hl hk)])
  (λk hk hp=>by simp only[Em,ba hk,aH,aO hk,al,bu,bB,bR,gh hp])
  (by simp only[Em,bI,aD,aC])
 have h':aI (Em l x) 0=_:=h;rw[h'];by_cases he:x∈l
 ·rw[aG (abx.1 he)];simp[he]
 ·rw[aK (λhh=>he (abx.2 hh))];simp[he]
def asd{l:List Int}{x:Int}(hl:Sm l):∃j:Int,J2 l x=aa j∧(0<=j↔x∈l):=by
 have h:=vc (step:=CE l x) (λk=>(k:Int)) l.length (λk=>x==gt l k) (R:=λk=> .inr (k:Int)) (e:= .inl ())
  (λk hk hp=>by simp only[CE,ba hk,aH,aO hk,al,bu,bB,bR,hp,aD,aC,a_ (eN hl hk)])
  (λk hk hp=>by simp only[CE,ba hk,aH,aO hk,al,bu,bB,bR,hp])
  (by simp only[CE,bI,aD,aC])
 have h':aI (CE l x) 0=_:=h;unfold J2;rw[h'];cases hf:(bV l.length).find? (λk=>x==gt l k)with
 |none=>refine⟨-1,by simp,by omega,λhx=>?_⟩;obtain⟨k,hk,e⟩:=om hx;have:=tp.1 hf k (er.2 hk);simp[e]at this
 |some k=>
  have hk:=er.1 (v8 hf);have hp:=B3 hf;refine⟨k,by simp,λ_=>?_,λ_=>by omega⟩;have e:x=gt l k:=by simpa using hp
  rw[e];exact du hk
def contains_eq{l:List Int}{x:Int}(hl:Sm l):xJ l x=aa (ak (x∈l)):=by obtain⟨j,h1,h2⟩:=asd (x:=x) hl;unfold xJ;rw[h1];simp only[al,fC,BY];exact h2
def rn(a b c:Int):jH a b c=aa (ak (b<=a∧a<=c)):=by unfold jH;by_cases h:b<=a<;>simp[h]
def an0(x:Source):IJ x=aa (ak ((1<=x.ig∧x.ig<=50000)∧(0<=x.eU∧x.eU<=x.ig)∧0<=x.Start∧x.Start<=600)):=by unfold IJ;simp only[rn,al,bu,bB,bR];by_cases h1:1<=x.ig∧x.ig<=50000<;>by_cases h2:0<=x.eU∧x.eU<=x.ig<;>simp[h1,h2]
def aoM(x:bn):OM x=aa (ak ((0<=x.State∧x.State<=3)∧(0<=x.gG∧x.gG<=2147483648)∧(0<=x.aY∧x.aY<=6000)∧0<=x.bh∧x.bh<=3599)):=by unfold OM;simp only[rn,al,bu,bB,bR];by_cases h1:0<=x.State∧x.State<=3<;>by_cases h2:0<=x.gG∧x.gG<=2147483648<;>by_cases h3:0<=x.aY∧x.aY<=6000<;>simp[h1,h2,h3]
def XV(l:List Int)(k:Nat):Prop:=∀i,i<l.length->(0<=gt l i∧gt l i<=(k:Int)-1)∧(0<i->gt l (i-1)<gt l i)
def lJ(x:Consumer)(k:Nat):Prop:=XV x.b_ k∧(0<=x.eT∧x.eT<=50000)∧(0<=x.eU∧x.eU<=x.eT)∧(0<=x.ky∧x.ky<=15)∧(-1<=x.b8∧x.b8<=7)∧x.b_.length<=4
def axV{x:Consumer}{k:Nat}(hl:Sm x.b_)(hk:k<=1000000):OO x (k:Int)=aa (ak (lJ x k)):=by
 have e0:W ((k:Int)-1)=(k:Int)-1:=bY (by omega) (by omega);have h:=ot (step:=EO x (k:Int)) (λi=>(i:Int)) x.b_.length (λi=>¬((0<=gt x.b_ i∧gt x.b_ i<=(k:Int)-1)∧(0<i->gt x.b_ (i-1)<gt x.b_ i))) (r:= .inr ai) (e:= .inl ())
  (λi hi hp=>by
    obtain⟨h1,h2⟩:=rW.1 hp;simp only[EO,ba hi,aH,aO hi,al,bu,bB,bR,rn,e0,dT h1,eg,aD,aC];by_cases nL:0<i
    ·have h3:=h2 nL;rw[dT (c:=(i:Int)>0) (by omega)];simp only[aH,nQ (eN hl hi) nL,aO (show i-1<x.b_.length by omega),al,bu,bB,bR,dF (c:=gt x.b_ (i-1)>=gt x.b_ i) (by omega),aD,aC,a_ (eN hl hi)]
    ·rw[dF (c:=(i:Int)>0) (by omega)];simp only[aD,aC,al,bu,bB,bR,a_ (eN hl hi)])
  (λi hi hp=>by
    simp only[EO,ba hi,aH,aO hi,al,bu,bB,bR,rn,e0];by_cases h1:0<=gt x.b_ i∧gt x.b_ i<=(k:Int)-1
    ·have h2:0<i∧gt x.b_ i<=gt x.b_ (i-1):=by
      by_cases nL:0<i
      ·refine⟨nL,Int.not_lt.1 λh=>hp ⟨h1,λ_=>h⟩⟩
      ·exact(hp ⟨h1,λh=>(nL h).elim⟩).elim
     rw[dT h1,dT (c:=(i:Int)>0) (by omega)];simp only[eg,aD,aC,aH,nQ (eN hl hi) h2.1,aO (show i-1<x.b_.length by omega),al,bu,bB,bR,dT (c:=gt x.b_ (i-1)>=gt x.b_ i) (by omega)]
    ·rw[dF h1];simp only[lM,aH,al,bu,bB,bR])
  (by simp only[EO,bI,aD,aC])
 have h':aI (EO x (k:Int)) 0=_:=h;unfold OO;rw[h'];by_cases hn:XV x.b_ k
 ·rw[aK (by rintro⟨i,hi,hp⟩;exact hp (hn i hi))];simp only[al,bu,bB,bR,rn];have e5:ak (len x.b_<=4)=ak (x.b_.length<=4):=by rw[BY];unfold len;omega
  rw[e5];unfold lJ;by_cases h1:0<=x.eT∧x.eT<=50000<;>by_cases h2:0<=x.eU∧x.eU<=x.eT<;>by_cases h3:0<=x.ky∧x.ky<=15<;>by_cases h4: -1<=x.b8∧x.b8<=7<;>simp[hn,h1,h2,h3,h4]
 ·have:∃i,i<x.b_.length∧¬((0<=gt x.b_ i∧gt x.b_ i<=(k:Int)-1)∧(0<i->gt x.b_ (i-1)<gt x.b_ i)):=by
   apply gw;intro hh;exact hn λi hi=>gw λh=>hh ⟨i,hi,h⟩
  rw[aG this];have hc:¬lJ x k:=λh=>hn h.1;simp[hc]
def oy(x:cG)(j:Nat):Prop:=x.Kind=2∧x.B=(j:Int)
def pn(x:cG)(j:Nat):Prop:=x.Kind=3∧x.B=(j:Int)
def BQ(b:au)(k:Nat):Prop:=
 (0<=(gt b.ae k).A∧(gt b.ae k).A<=b.aA-1)∧
 (((gt b.ae k).Kind=1∧(gt b.ae k).A+1<=(gt b.ae k).B∧(gt b.ae k).B<=b.aA-1)∨
  ((gt b.ae k).Kind=2∧(0<=(gt b.ae k).B∧(gt b.ae k).B<=(b.aj.length:Int)-1)∧∀i,i<k->¬((gt b.ae i).Kind=2∧(gt b.ae i).B=(gt b.ae k).B))∨
  ((gt b.ae k).Kind=3∧(0<=(gt b.ae k).B∧(gt b.ae k).B<=(b.ay.length:Int)-1)∧∀i,i<k->¬((gt b.ae i).Kind=3∧(gt b.ae i).B=(gt b.ae k).B∧(gt b.ae i).A=(gt b.ae k).A)))
def cD(b:au):Prop:=(∀k,k<b.ae.length->BQ b k)∧(∀j,j<b.aj.length->∃k,k<b.ae.length∧oy (gt b.ae k) j)∧(∀j,j<b.ay.length->∃k,k<b.ae.length∧pn (gt b.ae k) j)
def xh(b:au)(k j:Nat):Nat:=((b.ae.take k).filter λx=>decide (oy x j)).length
def nh(b:au)(k j:Nat):List Int:=((b.ae.take k).filter λx=>decide (pn x j)).map (·.A)
def fM(b:au)(k:Nat):List Int:=(bV b.aj.length).map λj=>(xh b k j:Int)
def eZ(b:au)(k:Nat):List (List Int):=(bV b.ay.length).map λj=>nh b k j
def VV{b:au}{k j:Nat}(hk:k<b.ae.length):xh b (k+1) j=xh b k j+if oy (gt b.ae k) j then 1 else 0:=by unfold xh;rw[lh hk,uG,cU];by_cases h:oy (gt b.ae k) j<;>simp[h]
def WY{b:au}{k j:Nat}(hk:k<b.ae.length):nh b (k+1) j=nh b k j++if pn (gt b.ae k) j then [(gt b.ae k).A]else []:=by unfold nh;rw[lh hk,uG,qW];by_cases h:pn (gt b.ae k) j<;>simp[h]
def Dg{α:Type}[ad α]{l:List α}{k:Nat}(hk:k<=l.length){x:α}:x∈l.take k↔∃i,i<k∧gt l i=x:=by
 constructor
 ·intro h;obtain⟨i,hi,e⟩:=List.getElem_of_mem h;have eo:i<k:=by simp at hi;omega
  refine⟨i,eo,?_⟩;rw[fH (by omega),<-e];simp
 ·rintro⟨i,hi,rfl⟩;rw[fH (by omega)];exact List.mem_take_iff_getElem.2 ⟨i,by omega,rfl⟩
def N0{b:au}{k j:Nat}(hk:k<=b.ae.length):xh b k j=0↔∀i,i<k->¬oy (gt b.ae i) j:=by
 unfold xh;rw[List.length_eq_zero_iff,List.filter_eq_nil_iff];constructor
 ·intro h i hi hs;exact h _ ((Dg hk).2 ⟨i,hi,rfl⟩) (by simpa using hs)
 ·intro h x hx hs;obtain⟨i,hi,rfl⟩:=(Dg hk).1 hx;exact h i hi (by simpa using hs)
def LV{b:au}{k j:Nat}(hk:k<=b.ae.length){a:Int}:a∈nh b k j↔∃i,i<k∧pn (gt b.ae i) j∧(gt b.ae i).A=a:=by
 unfold nh;rw[dC];constructor
 ·rintro⟨x,hx,rfl⟩;rw[k_]at hx;obtain⟨i,hi,rfl⟩:=(Dg hk).1 hx.1;exact⟨i,hi,by simpa using hx.2,rfl⟩
 ·rintro⟨i,hi,hc,rfl⟩;exact⟨_,k_.2 ⟨(Dg hk).2 ⟨i,hi,rfl⟩,by simpa using hc⟩,rfl⟩
def ajg{b:au}{k j:Nat}(hk:k<=b.ae.length):(nh b k j).length<=k:=by unfold nh;rw[qX];refine lK (zi _ _) ?_;simp;omega
structure gj(b:au):Prop where
 jd:1<=b.aA∧b.aA<=6
 cZ:b.ae.length<=24
 src:b.aj.length<=8
 iL:b.ay.length<=16
def aB4{b:au}(hl:gj b):aI (BF b) ((0:Int),fM b 0,eZ b 0)=aa (if ∃k,k<b.ae.length∧¬BQ b k then .inr ai else .inl (fM b b.ae.length,eZ b b.ae.length)):=by
 have hb:=hl.jd;have nM:=hl.cZ;have mx:=hl.src;have DT:=hl.iL;have eB:W (b.aA-1)=b.aA-1:=bY (by omega) (by omega);have jE:=ot (step:=BF b) (λk=>((k:Int),fM b k,eZ b k)) b.ae.length (λk=>¬BQ b k) (r:= .inr ai) (e:= .inl (fM b b.ae.length,eZ b b.ae.length)) ?nx ?ht (by simp only[BF,bI,aD,aC]);exact jE.trans (by congr)
 case nx=>
  intro k hk hp;obtain⟨hA,hB⟩:=rW.1 hp;have hs:k<1000000000000000000:=by omega
  have eS:len (fM b k)=(b.aj.length:Int):=by simp[len,fM]
  have eC:len (eZ b k)=(b.ay.length:Int):=by simp[len,eZ]
  have Vn:W ((b.aj.length:Int)-1)=(b.aj.length:Int)-1:=bY (by omega) (by omega);have Vo:W ((b.ay.length:Int)-1)=(b.ay.length:Int)-1:=bY (by omega) (by omega);have Bp:W ((gt b.ae k).A+1)=(gt b.ae k).A+1:=bY (by omega) (by omega);simp only[BF,ba hk,aH,aO hk,al,bu,bB,bR,rn,eB,Bp,eS,eC,Vn,Vo,dT hA,eg,aD,aC];rcases hB with⟨h1,h2⟩|⟨h1,h2,h3⟩|⟨h1,h2,h3⟩
  ·have n1:∀j,¬oy (gt b.ae k) j:=λj h=>by have:=h.1;omega
   have n2:∀j,¬pn (gt b.ae k) j:=λj h=>by have:=h.1;omega
   have f1:fM b (k+1)=fM b k:=Fu λj _=>by rw[VV hk,aK (n1 j)];rfl
   have f2:eZ b (k+1)=eZ b k:=Fu λj _=>by rw[WY hk,aK (n2 j)];simp
   simp only[gh h1,aH,dT h2,al,bu,bB,bR,a_ hs,f1,f2]
  ·have hj:(gt b.ae k).B=((gt b.ae k).B.toNat:Int):=by omega
   generalize (gt b.ae k).B.toNat=j at hj;rw[hj]at h2 h3;have dh:j<b.aj.length:=by omega
   have hz:xh b k j=0:=(N0 (by omega)).2 λi hi h=>h3 i hi h;have hg:gt (fM b k) j=0:=by unfold fM;rw[lC _ dh,hz];rfl
   have rC:(fM b k).length=b.aj.length:=by simp[fM]
   have n2:∀j,¬pn (gt b.ae k) j:=λj h=>by have:=h.1;omega
   have f2:eZ b (k+1)=eZ b k:=Fu λj _=>by rw[WY hk,aK (n2 j)];simp
   have f1:(fM b k).set j (W (0+1))=fM b (k+1):=by
    apply jW
    ·simp[fM]
    ·intro i hi;have eo:i<b.aj.length:=by simpa[fM]using hi
     rw[gE (by omega)];unfold fM;rw[lC _ eo,lC _ eo,VV hk];by_cases iJ:i=j
     ·subst iJ;rw[aG rfl,aG ⟨h1,hj⟩,hz];rfl
     ·rw[aK iJ,aK (λh=>iJ (by have:=h.2;omega))];rfl
   have k1:((gt b.ae k).Kind==1)=ai:=dG (by omega);simp only[k1,gh h1,aH,aC,aD,al,bu,bB,bR,hj,dT h2,aO (show j<(fM b k).length by omega),hg,X7,jy (show j<(fM b k).length by omega),f1,f2,a_ hs]
  ·have hj:(gt b.ae k).B=((gt b.ae k).B.toNat:Int):=by omega
   generalize (gt b.ae k).B.toNat=j at hj;rw[hj]at h2 h3;have dh:j<b.ay.length:=by omega
   have AQ:(gt b.ae k).A∉nh b k j:=λh=>by obtain⟨i,hi,hc,ha⟩:=(LV (by omega)).1 h;exact h3 i hi ⟨hc.1,hc.2,ha⟩
   have hg:gt (eZ b k) j=nh b k j:=by unfold eZ;rw[lC _ dh]
   have rC:(eZ b k).length=b.ay.length:=by simp[eZ]
   have aDc:(eZ b (k+1)).length=b.ay.length:=by simp[eZ]
   have uj:=ajg (b:=b) (k:=k) (j:=j) (by omega);have n1:∀j,¬oy (gt b.ae k) j:=λj h=>by have:=h.1;omega
   have f1:fM b (k+1)=fM b k:=Fu λj _=>by rw[VV hk,aK (n1 j)];rfl
   have f2:(eZ b k).set j (nh b k j++[(gt b.ae k).A])=eZ b (k+1):=by
    apply jW
    ·simp[eZ]
    ·intro i hi;have eo:i<b.ay.length:=by simpa[eZ]using hi
     rw[gE (by omega)];unfold eZ;rw[lC _ eo,lC _ eo,WY hk];by_cases iJ:i=j
     ·subst iJ;rw[aG rfl,aG ⟨h1,hj⟩]
     ·rw[aK iJ,aK (λh=>iJ (by have:=h.2;omega))];simp
   have k1:((gt b.ae k).Kind==1)=ai:=dG (by omega);have k2:((gt b.ae k).Kind==2)=ai:=dG (by omega);have fF:Sm (nh b k j):=by unfold Sm;omega
   simp only[k1,k2,gh h1,aH,aC,aD,al,bu,bB,bR,hj,dT h2,aO (show j<(eZ b k).length by omega),hg,contains_eq fF,dF AQ,aO (show j<(eZ b (k+1)).length by omega),lM,cJ (show(nh b k j).length+[(gt b.ae k).A].length<=1073741824 by simp;omega),jy (show j<(eZ b k).length by omega),f1,f2,a_ hs]
 case ht=>
  intro k hk hp;have hs:k<1000000000000000000:=by omega
  have eS:len (fM b k)=(b.aj.length:Int):=by simp[len,fM]
  have eC:len (eZ b k)=(b.ay.length:Int):=by simp[len,eZ]
  have Vn:W ((b.aj.length:Int)-1)=(b.aj.length:Int)-1:=bY (by omega) (by omega);have Vo:W ((b.ay.length:Int)-1)=(b.ay.length:Int)-1:=bY (by omega) (by omega);by_cases hA:0<=(gt b.ae k).A∧(gt b.ae k).A<=b.aA-1
  ·have Bp:W ((gt b.ae k).A+1)=(gt b.ae k).A+1:=bY (by omega) (by omega);simp only[BF,ba hk,aH,aO hk,al,bu,bB,bR,rn,eB,Bp,eS,eC,Vn,Vo,dT hA,eg,aD,aC];by_cases k1:(gt b.ae k).Kind=1
   ·have h2:¬((gt b.ae k).A+1<=(gt b.ae k).B∧(gt b.ae k).B<=b.aA-1):=λh=>hp ⟨hA,.inl ⟨k1,h⟩⟩;have k2:((gt b.ae k).Kind==2)=ai:=dG (by omega);have k3:((gt b.ae k).Kind==3)=ai:=dG (by omega);simp only[gh k1,k2,k3,aH,aC,aD,dF h2,al,bu,bB,bR]
   ·by_cases k2:(gt b.ae k).Kind=2
    ·have k3:((gt b.ae k).Kind==3)=ai:=dG (by omega);by_cases h2:0<=(gt b.ae k).B∧(gt b.ae k).B<=(b.aj.length:Int)-1
     ·have hj:(gt b.ae k).B=((gt b.ae k).B.toNat:Int):=by omega
      have dh:(gt b.ae k).B.toNat<b.aj.length:=by omega
      have bQ:gt (fM b k) (gt b.ae k).B.toNat≠0:=by
       unfold fM;rw[lC _ dh];intro h0;have hz:xh b k (gt b.ae k).B.toNat=0:=by omega
       refine hp ⟨hA,.inr (.inl ⟨k2,h2,λi hi h=>(N0 (by omega)).1 hz i hi ⟨h.1,by rw[h.2];exact hj⟩⟩)⟩
      have rC:(fM b k).length=b.aj.length:=by simp[fM]
      simp only[dG k1,gh k2,k3,aH,aC,aD,dT h2,al,bu,bB,bR,iI h2.1 (show(gt b.ae k).B<((fM b k).length:Int) by omega),dG bQ]
     ·simp only[dG k1,gh k2,k3,aH,aC,aD,dF h2,al,bu,bB,bR]
    ·by_cases k3:(gt b.ae k).Kind=3
     ·by_cases h2:0<=(gt b.ae k).B∧(gt b.ae k).B<=(b.ay.length:Int)-1
      ·have hj:(gt b.ae k).B=((gt b.ae k).B.toNat:Int):=by omega
       have dh:(gt b.ae k).B.toNat<b.ay.length:=by omega
       have hg:gt (eZ b k) (gt b.ae k).B.toNat=nh b k (gt b.ae k).B.toNat:=by unfold eZ;rw[lC _ dh]
       have iq:(gt b.ae k).A∈nh b k (gt b.ae k).B.toNat:=by apply gw;intro hn;refine hp ⟨hA,.inr (.inr ⟨k3,h2,λi hi h=>hn ((LV (by omega)).2 ⟨i,hi,⟨h.1,by rw[h.2.1];exact hj⟩,h.2.2⟩)⟩)⟩
       have rC:(eZ b k).length=b.ay.length:=by simp[eZ]
       have uj:=ajg (b:=b) (k:=k) (j:=(gt b.ae k).B.toNat) (by omega);have fF:Sm (nh b k (gt b.ae k).B.toNat):=by unfold Sm;omega
       simp only[dG k1,dG k2,gh k3,aH,aC,aD,dT h2,al,bu,bB,bR,iI h2.1 (show(gt b.ae k).B<((eZ b k).length:Int) by omega),hg,contains_eq fF,dT iq,eg]
      ·simp only[dG k1,dG k2,gh k3,aH,aC,aD,dF h2,al,bu,bB,bR]
     ·simp only[dG k1,dG k2,dG k3,aC,aD,al,bu,bB,bR]
  ·simp only[BF,ba hk,aH,aO hk,al,bu,bB,bR,rn,eB,dF hA,lM]
end Rx
namespace Rx
open Classical
def Yc{b:au}:(0:Int)∈fM b b.ae.length↔∃j,j<b.aj.length∧∀k,k<b.ae.length->¬oy (gt b.ae k) j:=by
 unfold fM;rw[dC];constructor
 ·rintro⟨j,hj,h⟩;exact⟨j,er.1 hj,(N0 (bw _)).1 (by omega)⟩
 ·rintro⟨j,hj,h⟩;exact⟨j,er.2 hj,by rw[(N0 (bw _)).2 h];rfl⟩
def axU{l:List (List Int)}(hl:Sm l):Kk l=aa (ak (∃k,k<l.length∧gt l k=[])):=by
 have h:=vc (step:=CG l) (λk=>(k:Int)) l.length (λk=>(len (gt l k)==0)) (R:=λk=> .inr (k:Int)) (e:= .inl ())
  (λk hk hp=>by simp only[CG,OS,ba hk,aH,aO hk,al,cO,bu,bB,bR,hp,aD,aC,a_ (eN hl hk)])
  (λk hk hp=>by simp only[CG,OS,ba hk,aH,aO hk,al,cO,bu,bB,bR,hp])
  (by simp only[CG,bI,aD,aC])
 have h':aI (CG l) 0=_:=h;unfold Kk Q0;rw[h'];have hz:∀k,(len (gt l k)==0)=ab↔gt l k=[]:=λk=>by simp[len]
 cases hf:(bV l.length).find? (λk=>(len (gt l k)==0))with
 |none=>
  have:¬∃k,k<l.length∧gt l k=[]:=λ⟨k,hk,e⟩=>by have:=tp.1 hf k (er.2 hk);exact this ((hz k).2 e)
  simp[this]
 |some k=>have hk:=er.1 (v8 hf);have hp:=(hz k).1 (B3 (p:=λk=>(len (gt l k)==0)) hf);have:∃k,k<l.length∧gt l k=[]:=⟨k,hk,hp⟩;simp[this]
def aB5{b:au}(hl:gj b):OT b=aa (ak (cD b)):=by
 have nM:=hl.cZ;have mx:=hl.src;have DT:=hl.iL;have e1:mu (0:Int) (len b.aj)=aa (fM b 0):=by
  rw[abS,x_ (by omega)];congr 1;apply jW
  ·simp[fM]
  ·intro k hk;have cT:k<b.aj.length:=by simpa using hk
   rw[Be cT];unfold fM;rw[lC _ cT];simp[xh]
 have e2:mu ([]:List Int) (len b.ay)=aa (eZ b 0):=by
  rw[abS,x_ (by omega)];congr 1;apply jW
  ·simp[eZ]
  ·intro k hk;have cT:k<b.ay.length:=by simpa using hk
   rw[Be cT];unfold eZ;rw[lC _ cT];simp[nh]
 have wX:=aB4 hl;unfold OT;simp only[e1,e2,al,cO,bu,bB,bR,wX];by_cases gD:∀k,k<b.ae.length->BQ b k
 ·rw[aK (by rintro⟨k,hk,h⟩;exact h (gD k hk))];have s1:Sm (fM b b.ae.length):=by unfold Sm;simp[fM];omega
  have s2:Sm (eZ b b.ae.length):=by unfold Sm;simp[eZ];omega
  have cY:(eZ b b.ae.length).length=b.ay.length:=by simp[eZ]
  simp only[al,cO,bu,bB,bR,bu,contains_eq s1,axU s2];by_cases h0:(0:Int)∈fM b b.ae.length
  ·have:¬cD b:=λh=>by
    obtain⟨j,hj,hn⟩:=Yc.1 h0;obtain⟨k,hk,hs⟩:=h.2.1 j hj;exact hn k hk hs
   simp[h0,this]
  ·have hS:∀j,j<b.aj.length->∃k,k<b.ae.length∧oy (gt b.ae k) j:=λj hj=>by
    apply gw;intro hn;exact h0 (Yc.2 ⟨j,hj,λk hk hs=>hn ⟨k,hk,hs⟩⟩)
   by_cases hE:∃k,k<(eZ b b.ae.length).length∧gt (eZ b b.ae.length) k=[]
   ·have:¬cD b:=λh=>by
     obtain⟨j,hj,he⟩:=hE;rw[cY]at hj;obtain⟨k,hk,hc⟩:=h.2.2 j hj;unfold eZ at he;rw[lC _ hj]at he;have:(gt b.ae k).A∈nh b b.ae.length j:=(LV (bw _)).2 ⟨k,hk,hc,rfl⟩;rw[he]at this;cases this
    simp[h0,hE,this]
   ·have:cD b:=⟨gD,hS,λj hj=>by
     apply gw;intro hn;refine hE ⟨j,by rw[cY];exact hj,?_⟩;unfold eZ;rw[lC _ hj];apply List.eq_nil_iff_forall_not_mem.2;intro a ha;obtain⟨i,hi,hc,_⟩:=(LV (bw _)).1 ha;exact hn ⟨i,hi,hc⟩⟩
    simp[h0,hE,this]
 ·have:∃k,k<b.ae.length∧¬BQ b k:=by
   apply gw;intro hn;exact gD λk hk=>gw λh=>hn ⟨k,hk,h⟩
  rw[aG this];have:¬cD b:=λh=>gD h.1;simp[this]
def mG(x:Source):Prop:=(1<=x.ig∧x.ig<=50000)∧(0<=x.eU∧x.eU<=x.ig)∧0<=x.Start∧x.Start<=600
def qQ(b:au):Prop:=cD b∧(0<=b.bh∧b.bh<=1800)∧(0<=b.aY∧b.aY<=6000)∧(∀k,k<b.aj.length->mG (gt b.aj k))∧∀k,k<b.ay.length->lJ (gt b.ay k) k
def ng(b:au):Int:=if gj b then(if qQ b then 0 else 14)else 2
def fp(b:au):Prop:=Sm b.ae∧Sm b.aj∧Sm b.ay∧∀x∈b.ay,Sm x.b_
def anZ(x:Source):IJ x=aa (ak (mG x)):=by rw[an0];congr 1;rw[BY];exact Iff.rfl
def VE(p:Prop)[Decidable p]:ak p=dB p:=by
 by_cases h:p
 ·rw[dT h,iK h]
 ·rw[dF h,gQ h]
def VD(r:Bool){S:Prop}(h:S):r=dB (r=ab∧S):=by
 cases r
 ·rw[gQ (λh=>by cases h.1)]
 ·rw[iK ⟨rfl,h⟩]
def Nl{r:Bool}{S C G:Prop}(h:(r=ab∧S)∧C↔G):(if(!dB (dB (r=ab∧S)=ab∧C))=ab then aa (14:Int)else aa 0)=aa (if G then 0 else 14):=by
 by_cases hg:G
 ·obtain⟨h1,h2⟩:=h.2 hg;rw[iK h1,iK (p:=ab=ab∧C) ⟨rfl,h2⟩,aG hg];rfl
 ·by_cases h1:r=ab∧S
  ·rw[iK h1,gQ (p:=ab=ab∧C) (λh2=>hg (h.1 ⟨h1,h2.2⟩)),aK hg];rfl
  ·rw[gQ h1,gQ (p:=ai=ab∧C) (λh2=>by cases h2.1),aK hg];rfl
def U_{r:Bool}{S G:Prop}(h:(r=ab∧S)↔G):(if(!dB (r=ab∧S))=ab then aa (11:Int)else aa 0)=aa (if G then 0 else 11):=by
 by_cases hg:G
 ·rw[iK (h.2 hg),aG hg];rfl
 ·rw[gQ (λh1=>hg (h.1 h1)),aK hg];rfl
def JW{b:au}(hl:gj b)(r:Bool):aI (ET b) (r,(0:Int))=aa (dB (r=ab∧∀k,k<b.aj.length->mG (gt b.aj k))):=by
 have mx:=hl.src;have h:=dO (step:=ET b) (λk=>(dB (r=ab∧∀i,i<k->mG (gt b.aj i)),(k:Int))) b.aj.length (r:=dB (r=ab∧∀i,i<b.aj.length->mG (gt b.aj i)))
  (λk hk=>by
    simp only[ET,ba hk,aH,aO hk,al,cO,bu,bB,bR,anZ,a_ (show k<1000000000000000000 by omega)];by_cases h1:r=ab∧∀i,i<k->mG (gt b.aj i)
    ·have e:dB (r=ab∧∀i,i<k+1->mG (gt b.aj i))=ak (mG (gt b.aj k)):=by
      rw[VE];apply VF;refine⟨λh=>h.2 k (by omega),λh=>⟨h1.1,λi hi=>?_⟩⟩;by_cases eL:i=k
      ·subst eL;exact h
      ·exact h1.2 i (by omega)
     rw[iK h1,e];rfl
    ·have h2:¬(r=ab∧∀i,i<k+1->mG (gt b.aj i)):=λh=>h1 ⟨h.1,λi hi=>h.2 i (by omega)⟩;rw[gQ h1,gQ h2];rfl)
  (by simp only[ET,bI,aD,aC])
 have e0:r=dB (r=ab∧∀i,i<0->mG (gt b.aj i)):=VD r (λi hi=>by omega);exact(ik (λq=>aI (ET b) (q,(0:Int))) e0).trans h
def NY{b:au}(hl:gj b)(hs:fp b)(r:Bool):aI (ES b) (r,(0:Int))=aa (dB (r=ab∧∀k,k<b.ay.length->lJ (gt b.ay k) k)):=by
 have DT:=hl.iL;have h:=dO (step:=ES b) (λk=>(dB (r=ab∧∀i,i<k->lJ (gt b.ay i) i),(k:Int))) b.ay.length (r:=dB (r=ab∧∀i,i<b.ay.length->lJ (gt b.ay i) i))
  (λk hk=>by
    simp only[ES,ba hk,aH,aO hk,al,cO,bu,bB,bR,axV (hs.2.2.2 _ (du hk)) (show k<=1000000 by omega),a_ (show k<1000000000000000000 by omega)];by_cases h1:r=ab∧∀i,i<k->lJ (gt b.ay i) i
    ·have e:dB (r=ab∧∀i,i<k+1->lJ (gt b.ay i) i)=ak (lJ (gt b.ay k) k):=by
      rw[VE];apply VF;refine⟨λh=>h.2 k (by omega),λh=>⟨h1.1,λi hi=>?_⟩⟩;by_cases eL:i=k
      ·subst eL;exact h
      ·exact h1.2 i (by omega)
     rw[iK h1,e];rfl
    ·have h2:¬(r=ab∧∀i,i<k+1->lJ (gt b.ay i) i):=λh=>h1 ⟨h.1,λi hi=>h.2 i (by omega)⟩;rw[gQ h1,gQ h2];rfl)
  (by simp only[ES,bI,aD,aC])
 have e0:r=dB (r=ab∧∀i,i<0->lJ (gt b.ay i) i):=VD r (λi hi=>by omega);exact(ik (λq=>aI (ES b) (q,(0:Int))) e0).trans h
def ae'{b:au}(hs:fp b):IX b=aa (ng b):=by
 unfold IX ng;simp only[rn,al,cO,bu,bB,bR];by_cases h1:1<=b.aA∧b.aA<=6
 case neg=>have:¬gj b:=λh=>h1 h.jd;simp[h1,this]
 by_cases h2:b.ae.length<=24
 case neg=>have:¬gj b:=λh=>h2 h.cZ;have e:ak (len b.ae>24)=ab:=dT (by unfold len;omega);simp[h1,this,e]
 by_cases h3:b.aj.length<=8
 case neg=>have:¬gj b:=λh=>h3 h.src;have e1:ak (len b.ae>24)=ai:=dF (by unfold len;omega);have e:ak (len b.aj>8)=ab:=dT (by unfold len;omega);simp[h1,this,e,e1]
 by_cases h4:b.ay.length<=16
 case neg=>have:¬gj b:=λh=>h4 h.iL;have e1:ak (len b.ae>24)=ai:=dF (by unfold len;omega);have e2:ak (len b.aj>8)=ai:=dF (by unfold len;omega);have e:ak (len b.ay>16)=ab:=dT (by unfold len;omega);simp[h1,this,e,e1,e2]
 have hl:gj b:=⟨h1,h2,h3,h4⟩;have e1:ak (len b.ae>24)=ai:=dF (by unfold len;omega);have e2:ak (len b.aj>8)=ai:=dF (by unfold len;omega);have e3:ak (len b.ay>16)=ai:=dF (by unfold len;omega);simp only[dT h1,e1,e2,e3,eg,aD,aC,al,cO,bu,bB,bR,aB5 hl,aG hl];by_cases g1:cD b
 case neg=>simp only[dF g1,aD,aC,al,cO,bu,bB,bR];rw[JW hl,al,NY hl hs,al];exact Nl (r:=ai) ⟨(λh=>by cases h.1.1),λh=>(g1 h.1).elim⟩
 by_cases g2:0<=b.bh∧b.bh<=1800
 case neg=>simp only[dT g1,dF g2,aD,aC,aH,al,cO,bu,bB,bR];rw[JW hl,al,NY hl hs,al];exact Nl (r:=ai) ⟨(λh=>by cases h.1.1),λh=>(g2 h.2.1).elim⟩
 by_cases g3:0<=b.aY∧b.aY<=6000
 case neg=>simp only[dT g1,dT g2,dF g3,aD,aC,aH,al,cO,bu,bB,bR];rw[JW hl,al,NY hl hs,al];exact Nl (r:=ai) ⟨(λh=>by cases h.1.1),λh=>(g3 h.2.2.1).elim⟩
 rw[dT g1,dT g2,dT g3];simp only[aH,al,cO,bu,bB,bR];rw[JW hl,al,NY hl hs,al];exact Nl (r:=ab) ⟨λh=>⟨g1,g2,g3,h.1.2,h.2⟩,λh=>⟨⟨rfl,h.2.2.2.1⟩,h.2.2.2.2⟩⟩
def VU(a b:Int):vN a b=aa (if a<b then-1 else if b<a then 1 else 0):=by unfold vN Iq;by_cases h1:a<b<;>by_cases h2:b<a<;>simp[h1,h2]
def Lz(a b:Int):Ew [a,b]=aa (if a≠0 then a else b):=by
 have hl:len [a,b]=2:=rfl;have i0:idx [a,b] 0=aa a:=rfl;have i1:idx [a,b] 1=aa b:=rfl;have w1:W 1=1:=bY (by omega) (by omega);have w2:W 2=2:=bY (by omega) (by omega);unfold Ew;by_cases ha:a=0
 ·subst ha;have s0:ux [0,b] 0=aa (.inl 1):=by simp[ux,hl,i0,w1]
  by_cases hb:b=0
  ·subst hb;have s1:ux [0,0] 1=aa (.inl 2):=by simp[ux,hl,i1,w2]
   have s2:ux [0,0] 2=aa (.inr (.inl ())):=by simp[ux,hl]
   rw[ou (.more s0 (.more s1 (.done s2))) (by omega)];rfl
  ·have s1:ux [0,b] 1=aa (.inr (.inr b)):=by simp[ux,hl,i1,hb]
   rw[ou (.more s0 (.done s1)) (by omega)];simp
 ·have s0:ux [a,b] 0=aa (.inr (.inr a)):=by simp[ux,hl,i0,ha]
  rw[ou (.done s0) (by omega)];simp[ha]
def bsize(b:au)(kind:Int):Int:=if kind=1 then b.aj.length else if kind=2 then b.ae.length else if kind=3 then b.aA else if kind=4 then b.ay.length else 0
def size_eq(b:au)(k:Int):OL b k=aa (bsize b k):=by unfold OL bsize;by_cases h1:k=1<;>by_cases h2:k=2<;>by_cases h3:k=3<;>by_cases h4:k=4<;>simp[h1,h2,h3,h4,len]
def before(x y:Part):Prop:=x.Kind<y.Kind∨x.Kind=y.Kind∧x.Number<y.Number
def oP(b:au)(l:List Part)(k:Nat):Prop:=(0<=(gt l k).Number∧(gt l k).Number<=bsize b (gt l k).Kind-1)∧(0<k->before (gt l (k-1)) (gt l k))
def ae6(x y:Part):ak ((if(if x.Kind<y.Kind then(-1:Int)else if y.Kind<x.Kind then 1 else 0)≠0 then(if x.Kind<y.Kind then(-1:Int)else if y.Kind<x.Kind then 1 else 0)else(if x.Number<y.Number then(-1:Int)else if y.Number<x.Number then 1 else 0))>=0)=ak (¬before x y):=by
 rw[BY];unfold before;by_cases h1:x.Kind<y.Kind
 ·simp[h1]
 ·by_cases h2:y.Kind<x.Kind
  ·simp[h1,h2];omega
  ·by_cases h3:x.Number<y.Number
   ·simp[h1,h2,h3];omega
   ·by_cases h4:y.Number<x.Number
    ·simp[h1,h2,h3,h4]
    ·simp[h1,h2,h3,h4]
def aB0{b:au}{l:List Part}(hb:gj b)(hl:Sm l):OQ b l=aa (ak ((∀k,k<l.length->oP b l k)∧l.length<=32)):=by
 have h1:=hb.jd;have h2:=hb.cZ;have h3:=hb.src;have h4:=hb.iL;have eW:∀k,W (bsize b k-1)=bsize b k-1:=λk=>by apply bY<;>unfold bsize<;>(repeat' split)<;>omega
 have h:=ot (step:=EP b l) (λi=>(i:Int)) l.length (λi=>¬oP b l i) (r:= .inr ai) (e:= .inl ())
  (λi hi hp=>by
    obtain⟨p1,p2⟩:=rW.1 hp;simp only[EP,ba hi,aH,aO hi,al,cO,bu,bB,bR,size_eq,rn,eW,dT p1,eg,aD,aC];by_cases nL:0<i
    ·have p3:=p2 nL;rw[dT (c:=(i:Int)>0) (by omega)];simp only[aH,nQ (eN hl hi) nL,aO (show i-1<l.length by omega),al,cO,bu,bB,bR,VU,Lz,ae6,dF (c:=¬before (gt l (i-1)) (gt l i)) (λh=>h p3),aD,aC,a_ (eN hl hi)]
    ·rw[dF (c:=(i:Int)>0) (by omega)];simp only[aD,aC,al,cO,bu,bB,bR,a_ (eN hl hi)])
  (λi hi hp=>by
    simp only[EP,ba hi,aH,aO hi,al,cO,bu,bB,bR,size_eq,rn,eW];by_cases p1:0<=(gt l i).Number∧(gt l i).Number<=bsize b (gt l i).Kind-1
    ·have p2:0<i∧¬before (gt l (i-1)) (gt l i):=by
      by_cases nL:0<i
      ·exact⟨nL,λh=>hp ⟨p1,λ_=>h⟩⟩
      ·exact(hp ⟨p1,λh=>(nL h).elim⟩).elim
     rw[dT p1,dT (c:=(i:Int)>0) (by omega)];simp only[eg,aD,aC,aH,nQ (eN hl hi) p2.1,aO (show i-1<l.length by omega),al,cO,bu,bB,bR,VU,Lz,ae6,dT p2.2]
    ·rw[dF p1];simp only[lM,aH,al,cO,bu,bB,bR])
  (by simp only[EP,bI,aD,aC])
 have h':aI (EP b l) 0=_:=h;unfold OQ;rw[h'];by_cases hn:∀k,k<l.length->oP b l k
 ·rw[aK (by rintro⟨i,hi,hp⟩;exact hp (hn i hi))];show aa (ak (len l<=32))=_;congr 1;rw[BY];unfold len;exact⟨λh=>⟨hn,by omega⟩,λh=>by have:=h.2;omega⟩
 ·have:∃i,i<l.length∧¬oP b l i:=by
   apply gw;intro hh;exact hn λi hi=>gw λh=>hh ⟨i,hi,h⟩
  rw[aG this,dF (c:=(∀k,k<l.length->oP b l k)∧l.length<=32) (λh=>hn h.1)];rfl
def gR(x:bn):Prop:=(0<=x.State∧x.State<=3)∧(0<=x.gG∧x.gG<=2147483648)∧(0<=x.aY∧x.aY<=6000)∧0<=x.bh∧x.bh<=3599
def ae3{l:List bn}(hl:Sm l):Km l=aa (ak (∃k,k<l.length∧¬gR (gt l k))):=by
 have e1:∀x,OU x=aa (ak (¬gR x)):=λx=>by
  unfold OU;rw[aoM];have:gR x↔((0<=x.State∧x.State<=3)∧(0<=x.gG∧x.gG<=2147483648)∧(0<=x.aY∧x.aY<=6000)∧0<=x.bh∧x.bh<=3599):=Iff.rfl;by_cases h:gR x
  ·rw[dT (this.1 h),dF (c:=¬gR x) (λhh=>hh h)];rfl
  ·rw[dF (λhh=>h (this.2 hh)),dT h];rfl
 have h:=vc (step:=CH l) (λk=>(k:Int)) l.length (λk=>decide (¬gR (gt l k))) (R:=λk=> .inr (k:Int)) (e:= .inl ())
  (λk hk hp=>by simp only[CH,e1,ba hk,aH,aO hk,al,cO,bu,bB,bR,hp,aD,aC,a_ (eN hl hk)])
  (λk hk hp=>by simp only[CH,e1,ba hk,aH,aO hk,al,cO,bu,bB,bR,hp])
  (by simp only[CH,bI,aD,aC])
 have h':aI (CH l) 0=_:=h;unfold Km Q2;rw[h'];cases hf:(bV l.length).find? (λk=>decide (¬gR (gt l k)))with
 |none=>
  have:¬∃k,k<l.length∧¬gR (gt l k):=λ⟨k,hk,e⟩=>by have:=tp.1 hf k (er.2 hk);exact this (dT e)
  rw[dF this];rfl
 |some k=>have hk:=er.1 (v8 hf);have hp:=jw (B3 (p:=λk=>decide (¬gR (gt l k))) hf);have:∃k,k<l.length∧¬gR (gt l k):=⟨k,hk,hp⟩;rw[dT this];simp
def eR(b:au)(p:aw)(j:Int):Nat->Nat
 |0=>0
 |k+1=>eR b p j k+if(gt b.ae k).Kind=3∧(gt b.ae k).B=j∧gt p.aF k=ab then 1 else 0
def ax6(b:au)(p:aw)(j:Int)(k:Nat):eR b p j k<=k:=by
 induction k with
 |zero=>exact bw _
 |succ k ih=>unfold eR;split<;>omega
def ax5{b:au}{p:aw}(j:Int)(hl:Sm b.ae)(hc:p.aF.length=b.ae.length):OP b p j=aa (eR b p j b.ae.length:Int):=by
 have h:=dO (step:=IR b p j) (λk=>((eR b p j k:Int),(k:Int))) b.ae.length (r:=(eR b p j b.ae.length:Int))
  (λk hk=>by
    have:=ax6 b p j k;have hs:=eN hl hk;simp only[IR,ba hk,aH,aO hk,aO (l:=p.aF) (show k<p.aF.length by omega),al,cO,bu,bB,bR,a_ hs,a_ (show eR b p j k<1000000000000000000 by omega)];by_cases h1:(gt b.ae k).Kind=3
    ·by_cases h2:(gt b.ae k).B=j
     ·cases h3:gt p.aF k with
      |true=>simp[eR,h1,h2,h3]
      |false=>simp[eR,h1,h2,h3]
     ·simp[eR,h1,h2]
    ·simp[eR,h1])
  (by simp only[IR,bI,aD,aC])
 have h':aI (IR b p j) (0,0)=_:=h;unfold OP;rw[h'];rfl
def Shape(b:au)(p:aw):Prop:=p.aF.length=b.ae.length∧p.aj.length=b.aj.length∧p.aW.length=b.ay.length
def uA(b:au)(p:aw)(k:Nat):Prop:=(0<=gt p.aW k∧gt p.aW k<=(gt b.ay k).eT)∧eR b p (k:Int) b.ae.length<=1
def vW(b:au)(p:aw):Prop:=((∀k,k<p.aR.length->oP b p.aR k)∧p.aR.length<=32)∧(∀k,k<p.aj.length->gR (gt p.aj k))∧∀k,k<p.aW.length->uA b p k
def bi(b:au)(p:aw):Int:=if ng b=0 then(if Shape b p then(if vW b p then 0 else 11)else 8)else ng b
def dp(p:aw):Prop:=Sm p.aF∧Sm p.aj∧Sm p.aW∧Sm p.aR
def Bw{b:au}:ng b=0↔gj b∧qQ b:=by unfold ng;by_cases h1:gj b<;>by_cases h2:qQ b<;>simp[h1,h2]
def SQ{b:au}{p:aw}(hb:fp b)(hp:dp p)(mX:Shape b p)(r:Bool):aI (EQ b p) (r,(0:Int))=aa (dB (r=ab∧∀k,k<p.aW.length->uA b p k)):=by
 obtain⟨s1,s2,s3⟩:=mX;have Dz:Sm p.aW:=hp.2.2.1;have h:=dO (step:=EQ b p) (λk=>(dB (r=ab∧∀i,i<k->uA b p i),(k:Int))) p.aW.length (r:=dB (r=ab∧∀i,i<p.aW.length->uA b p i))
  (λk hk=>by
    have qo:k<b.ay.length:=by omega
    simp only[EQ,ba hk,aH,aO hk,aO qo,al,cO,bu,bB,bR,rn,ax5 (k:Int) hb.1 s1,a_ (eN hp.2.2.1 hk)];have e5:ak ((eR b p (k:Int) b.ae.length:Int)<=1)=ak (eR b p (k:Int) b.ae.length<=1):=by rw[BY];omega
    by_cases h1:r=ab∧∀i,i<k->uA b p i
    ·have e:dB (r=ab∧∀i,i<k+1->uA b p i)=ak (uA b p k):=by
      rw[VE];apply VF;refine⟨λh=>h.2 k (by omega),λh=>⟨h1.1,λi hi=>?_⟩⟩;by_cases eL:i=k
      ·subst eL;exact h
      ·exact h1.2 i (by omega)
     rw[iK h1,e,e5];unfold uA;by_cases h2:0<=gt p.aW k∧gt p.aW k<=(gt b.ay k).eT<;>by_cases h3:eR b p (k:Int) b.ae.length<=1<;>simp[h2,h3]
    ·have h2:¬(r=ab∧∀i,i<k+1->uA b p i):=λh=>h1 ⟨h.1,λi hi=>h.2 i (by omega)⟩;rw[gQ h1,gQ h2];rfl)
  (by simp only[EQ,bI,aD,aC])
 have e0:r=dB (r=ab∧∀i,i<0->uA b p i):=VD r (λi hi=>by omega);exact(ik (λq=>aI (EQ b p) (q,(0:Int))) e0).trans h
def xF{b:au}{p:aw}(hb:fp b)(hp:dp p):pI b p=aa (bi b p):=by
 unfold pI bi;rw[ae' hb];simp only[al,cO,bu,bB,bR];by_cases h0:ng b=0
 case neg=>simp[h0]
 have hL:=(Bw.1 h0).1;have e0:(ng b !=0)=ai:=by simp[h0]
 simp only[e0,aD,aC,aG h0];by_cases h1:p.aF.length=b.ae.length
 case neg=>
  have:¬Shape b p:=λh=>h1 h.1;have e:(len p.aF !=len b.ae)=ab:=by simp[len];omega
  simp[e,this]
 by_cases h2:p.aj.length=b.aj.length
 case neg=>
  have:¬Shape b p:=λh=>h2 h.2.1;have e1:(len p.aF !=len b.ae)=ai:=by simp[len,h1]
  have e:(len p.aj !=len b.aj)=ab:=by simp[len];omega
  simp[e,e1,this]
 by_cases h3:p.aW.length=b.ay.length
 case neg=>
  have:¬Shape b p:=λh=>h3 h.2.2;have e1:(len p.aF !=len b.ae)=ai:=by simp[len,h1]
  have e2:(len p.aj !=len b.aj)=ai:=by simp[len,h2]
  have e:(len p.aW !=len b.ay)=ab:=by simp[len];omega
  simp[e,e1,e2,this]
 have mX:Shape b p:=⟨h1,h2,h3⟩;have e1:(len p.aF !=len b.ae)=ai:=by simp[len,h1]
 have e2:(len p.aj !=len b.aj)=ai:=by simp[len,h2]
 have e3:(len p.aW !=len b.ay)=ai:=by simp[len,h3]
 simp only[e1,e2,e3,aD,aC,al,cO,bu,bB,bR,aB0 hL hp.2.2.2,aG mX];have hx:(∃k,k<p.aj.length∧¬gR (gt p.aj k))↔¬∀k,k<p.aj.length->gR (gt p.aj k):=by
  constructor
  ·rintro⟨k,hk,h⟩ hh;exact h (hh k hk)
  ·intro h;apply gw;intro hn;exact h λk hk=>gw λhr=>hn ⟨k,hk,hr⟩
 by_cases g1:(∀k,k<p.aR.length->oP b p.aR k)∧p.aR.length<=32
 case neg=>simp only[dF g1,aD,aC,al,cO,bu,bB,bR];rw[SQ hb hp mX,al];exact U_ (r:=ai) ⟨(λh=>by cases h.1),λh=>(g1 h.1).elim⟩
 by_cases g2:∀k,k<p.aj.length->gR (gt p.aj k)
 case neg=>simp only[dT g1,aH,ae3 hp.2.1,dT (c:=∃k,k<p.aj.length∧¬gR (gt p.aj k)) (hx.2 g2),eg,al,cO,bu,bB,bR];rw[SQ hb hp mX,al];exact U_ (r:=ai) ⟨(λh=>by cases h.1),λh=>(g2 h.2.1).elim⟩
 simp only[dT g1,aH,ae3 hp.2.1,dF (c:=∃k,k<p.aj.length∧¬gR (gt p.aj k)) (λh=>hx.1 h g2),lM,al,cO,bu,bB,bR];rw[SQ hb hp mX,al];exact U_ (r:=ab) ⟨λh=>⟨g1,g2,h.2⟩,λh=>⟨rfl,h.2.2⟩⟩
end Rx
namespace Rx
def Wp.ite{α:Type}{c:Bool}{a b:Option α}{Q:α->Prop}(ha:c=ab->Wp a Q)(hb:c=ai->Wp b Q):Wp (if c=ab then a else b) Q:=by
 cases c with
 |true=>exact ha rfl
 |false=>exact hb rfl
def Sr(l:List Int)(a:Int):Prop:=0<=a∧l.length<=1000000∧a<=l.length
def mod_eq{x n:Int}(h1:1<=n)(h2:n<=1000000000000):Eo x n=aa ((x.tmod n+n)% n):=by
 have hm1: -n<x.tmod n:=by have:=Int.lt_tmod_of_pos x (b:=n) (by omega);omega
 have T0:x.tmod n<n:=Int.tmod_lt_of_pos x (by omega);unfold Eo;have e1:kL x n=aa (x.tmod n):=by unfold kL;rw[aK (by omega)]
 rw[dF (c:=n<1) (by omega)];simp only[aD,aC,e1,al,cO];rw[bY (by omega) (by omega),RR (by omega) (by omega)]
def gT{l:List Int}{a n:Int}(hs:Sr l a)(h1:1<=n)(h2:n<=1000000000000):Wp (fT ⟨l,a⟩ n) λr=>(0<=r.1∧r.1<n)∧Sr r.2.1 r.2.2:=by
 obtain⟨s1,s2,s3⟩:=hs;unfold fT;try simp only
 refine Wp.ite (λh=>ar.2 ⟨⟨nY _,by simp only;omega⟩,s1,s2,s3⟩) λh=>?_;have h':a<l.length:=by have:=pN h;unfold len at this;omega
 have e1:W (W (a+1)-1)=a:=by rw[bY (x:=a+1) (by omega) (by omega),bY (by omega) (by omega)];omega
 rw[e1,iI s1 h'];simp only[al,mod_eq h1 h2,bY (x:=a+1) (by omega) (by omega)];exact ar.2 ⟨⟨Int.emod_nonneg _ (by omega),Int.emod_lt_of_pos _ (by omega)⟩,by simp only;omega,s2,by simp only;omega⟩
def alb{l:List Int}{a n:Int}(hs:Sr l a)(h1:0<=n)(h2:n<=1000000000000):Wp (fT ⟨l,a⟩ n) λr=>(0<=r.1∧(r.1<n∨r.1=0))∧Sr r.2.1 r.2.2:=by
 by_cases h:1<=n
 ·exact(gT hs h h2).mono λr hr=>⟨⟨hr.1.1,.inl hr.1.2⟩,hr.2⟩
 ·obtain⟨s1,s2,s3⟩:=hs;unfold fT;try simp only
  refine Wp.ite (λh=>ar.2 ⟨⟨nY _,.inr rfl⟩,s1,s2,s3⟩) λh3=>?_;have h':a<l.length:=by have:=pN h3;unfold len at this;omega
  have e1:W (W (a+1)-1)=a:=by rw[bY (x:=a+1) (by omega) (by omega),bY (by omega) (by omega)];omega
  have e2:Eo (gt l a.toNat) n=aa 0:=by unfold Eo;rw[dT (c:=n<1) (by omega)];rfl
  rw[e1,iI s1 h'];simp only[al,e2,bY (x:=a+1) (by omega) (by omega)];exact ar.2 ⟨⟨nY _,.inr rfl⟩,by simp only;omega,s2,by simp only;omega⟩
def pW{l:List Int}{a lo hi:Int}(hs:Sr l a)(h:lo<=hi)(h1: -1000000000000<=lo)(h2:hi<=100000000000)(h3:hi-lo+1<=1000000000000):Wp (nR ⟨l,a⟩ lo hi) λr=>(lo<=r.1∧r.1<=hi)∧Sr r.2.1 r.2.2:=by unfold nR;have e1:W (hi-lo)=hi-lo:=bY (by omega) (by omega);have e2:W (hi-lo+1)=hi-lo+1:=bY (by omega) (by omega);simp only[e1,e2];refine(gT hs (n:=hi-lo+1) (by omega) (by omega)).bind λy hy=>?_;obtain⟨y,l',a'⟩:=y;simp only at hy⊢;rw[bY (by omega) (by omega)];exact ar.2 ⟨⟨by simp only;omega,by simp only;omega⟩,hy.2⟩
def dU{l:List Int}{a:Int}{w:List Int}(hs:Sr l a)(h0:w≠[])(hl:w.length<=1000000):Wp (dK ⟨l,a⟩ w) λr=>r.1∈w∧Sr r.2.1 r.2.2.1:=by unfold dK;have hp:0<w.length:=List.length_pos_iff.2 h0;refine(gT hs (n:=len w) (by unfold len;omega) (by unfold len;omega)).bind λy hy=>?_;obtain⟨y,l',a'⟩:=y;simp only at hy⊢;unfold len at hy;rw[iI hy.1.1 hy.1.2];exact ar.2 ⟨du (by omega),hy.2⟩
def ala(t:List Int):Wp (ND t) λr=>Sr r.1 r.2:=by
 unfold ND;have e:dI t 0 (eu (len t) 600)=aa (t.take (eu (len t) 600).toNat):=by unfold dI eu len;rw[aG (by split<;>omega)];simp
 rw[e];refine ar.2 ⟨nY _,?_,by simp only;omega⟩;simp only[List.length_take];unfold eu;split<;>omega
end Rx
end Go.Proofs.YtmngjhagbjgmfaaGreat
namespace Go.Proofs.YtmngjhagbjgmfaaGreat
open Go Go.RowKit
open Classical
namespace Dp
inductive kA(E:Nat->Nat->Prop):Nat->Nat->Prop
 |refl (i:Nat):kA E i i
 |step {i j k:Nat}:E i j->kA E j k->kA E i k
inductive iy(E:Nat->Nat->Prop):Nat->Nat->Nat->Prop
 |refl (r i:Nat):iy E r i i
 |step {r i j k:Nat}:E i j->iy E r j k->iy E (r+1) i k
section
variable {E E':Nat->Nat->Prop} {n:Nat}
def kA.trans{i j k:Nat}(h:kA E i j)(h':kA E j k):kA E i k:=by
 induction h with
 |refl=>exact h'
 |step e _ ih=>exact .step e (ih h')
def kA.one{i j:Nat}(h:E i j):kA E i j:= .step h (.refl _)
def kA.symm(hs:∀i j,E i j->E j i){i j:Nat}(h:kA E i j):kA E j i:=by
 induction h with
 |refl=>exact .refl _
 |step e _ ih=>exact ih.trans (.one (hs _ _ e))
def iy.more{r r' i j:Nat}(h:iy E r i j)(hr:r<=r'):iy E r' i j:=by
 induction h generalizing r' with
 |refl=>exact .refl _ _
 |step e _ ih=>
  cases r' with
  |zero=>omega
  |succ r'=>exact .step e (ih (by omega))
def iy.snoc{r i j k:Nat}(h:iy E r i j)(e:E j k):iy E (r+1) i k:=by
 induction h with
 |refl r i=>exact .step e (.refl _ _)
 |step e' _ ih=>exact .step e' (ih e)
def iy.zero{i j:Nat}(h:iy E 0 i j):i=j:=by cases h;rfl
def iy.last{r i k:Nat}(h:iy E (r+1) i k):iy E r i k∨∃j,iy E r i j∧E j k:=by
 generalize hm:r+1=m at h;induction h generalizing r with
 |refl=>exact .inl (.refl _ _)
 | @step r' i j k e w ih=>
   cases r' with
   |zero=>
    have:r=0:=by omega
    subst this;have:=w.zero;subst this;exact .inr ⟨i,.refl _ _,e⟩
   |succ r''=>
    have:r=r''+1:=by omega
    subst this;rcases ih rfl with h|⟨j',h1,h2⟩
    ·exact .inl (.step e h)
    ·exact .inr ⟨j',.step e h1,h2⟩
def sn(E:Nat->Nat->Prop)(n r i:Nat):Nat:=((bV n).filter λj=>decide (iy E r i j)).length
def Va{p q:Nat->Bool}(h:∀x,p x=ab->q x=ab):∀l:List Nat,(l.filter p).length<=(l.filter q).length
 |[]=>bw _
 |x::l=>by
  have ih:=Va h l;by_cases hp:p x=ab
  ·rw[lL hp,lL (h x hp)];simpa using ih
  ·rw[pQ hp];by_cases hq:q x=ab
   ·rw[lL hq];simp;omega
   ·rw[pQ hq];exact ih
def Vb{p q:Nat->Bool}(h:∀x,p x=ab->q x=ab):∀l:List Nat,(l.filter p).length=(l.filter q).length->∀x∈l,q x=ab->p x=ab
 |[],_,x,hx,_=>by cases hx
 |y::l,he,x,hx,hq=>by
  have hle:=Va h l;by_cases hp:p y=ab
  ·rw[lL hp,lL (h y hp)]at he;rcases cr.1 hx with rfl|hx
   ·exact hp
   ·exact Vb h l (by simpa using he) x hx hq
  ·rw[pQ hp]at he;by_cases tZ:q y=ab
   ·rw[lL tZ]at he;simp at he;omega
   ·rw[pQ tZ]at he;rcases cr.1 hx with rfl|hx
    ·exact(tZ hq).elim
    ·exact Vb h l he x hx hq
def apc(r i:Nat):sn E n r i<=n:=by unfold sn;refine lK (zi _ _) ?_;simp
def anI(hE:∀i j,E i j->j<n){r i:Nat}(hi:i<n)(h:sn E n r i=sn E n (r+1) i):∀m j,iy E (r+m) i j->iy E r i j:=by
 have h1:∀j,j<n->iy E (r+1) i j->iy E r i j:=by intro j hj hw;have:=Vb (p:=λj=>decide (iy E r i j)) (q:=λj=>decide (iy E (r+1) i j)) (λx hx=>vZ ((jw hx).more (by omega))) (bV n) h j (er.2 hj) (vZ hw);exact jw this
 intro m;induction m with
 |zero=>intro j h;exact h
 |succ m ih=>
  intro j hw;rcases iy.last (r:=r+m) hw with h2|⟨k,h2,h3⟩
  ·exact ih j h2
  ·exact h1 j (hE _ _ h3) ((ih k h2).snoc h3)
def kA.walk(hE:∀i j,E i j->j<n){i j:Nat}(hi:i<n)(h:kA E i j):iy E (n-1) i j:=by
 have as4:∃m,iy E m i j:=by
  induction h with
  |refl=>exact⟨0,.refl _ _⟩
  |step e _ ih=>obtain⟨m,hm⟩:=ih (hE _ _ e);exact⟨m+1,.step e hm⟩
 obtain⟨m,hm⟩:=as4;have:∃r,r<=n-1∧sn E n r i=sn E n (r+1) i:=by
  apply gw;intro hn;have auf:∀r,r<=n->r+1<=sn E n r i:=by
   intro r;induction r with
   |zero=>intro _;unfold sn;have:i∈(bV n).filter λj=>decide (iy E 0 i j):=k_.2 ⟨er.2 hi,vZ (.refl _ _)⟩;exact List.length_pos_of_mem this
   |succ r ih=>intro hr;have h1:=ih (by omega);have h2:sn E n r i<=sn E n (r+1) i:=Va (λx hx=>vZ ((jw hx).more (by omega))) _;have h3:sn E n r i≠sn E n (r+1) i:=λe=>hn ⟨r,by omega,e⟩;omega
  have h4:=auf n (bw _);have h5:=apc (E:=E) (n:=n) n i;omega
 obtain⟨r,hr,he⟩:=this;have h6:iy E r i j:=anI hE hi he m j (hm.more (by omega));exact h6.more hr
end
end Dp
end Go.Proofs.YtmngjhagbjgmfaaGreat
namespace Go.Proofs.YtmngjhagbjgmfaaGreat
open Go Go.RowKit Dp
namespace Rx
open Classical
abbrev bd(nb:Int)(br:List cG)(S:List Source)(C:List Consumer):au:=⟨nb,br,S,C,0,0⟩
def cD.snoc{nb:Int}{br:List cG}{S S':List Source}{C C':List Consumer}{x:cG}(h:cD (bd nb br S C))(hS:S.length<=S'.length)(hC:C.length<=C'.length)
  (hA:0<=x.A∧x.A<=nb-1)
  (hx:(x.Kind=1∧x.A+1<=x.B∧x.B<=nb-1)∨(x.Kind=2∧(0<=x.B∧x.B<=(S'.length:Int)-1)∧∀i,i<br.length->¬((gt br i).Kind=2∧(gt br i).B=x.B))∨(x.Kind=3∧(0<=x.B∧x.B<=(C'.length:Int)-1)∧∀i,i<br.length->¬((gt br i).Kind=3∧(gt br i).B=x.B∧(gt br i).A=x.A)))
  (cS:∀j,S.length<=j->j<S'.length->oy x j) (cC:∀j,C.length<=j->j<C'.length->pn x j):cD (bd nb (br++[x]) S' C'):=by
 obtain⟨h1,h2,h3⟩:=h
 refine⟨λk hk=>?_,λj hj=>?_,λj hj=>?_⟩
 ·have cT:k<br.length+1:=by simpa using hk
  by_cases sG:k<br.length
  ·have h4:=h1 k sG;unfold BQ at h4⊢;simp only at h4⊢;have e:∀i,i<=k->gt (br++[x]) i=gt br i:=λi hi=>by rw[sM (by omega),aG (by omega)]
   rw[e k (bw _)];refine⟨h4.1,?_⟩;rcases h4.2 with h5|⟨h5,h6,h7⟩|⟨h5,h6,h7⟩
   ·exact .inl h5
   ·exact .inr (.inl ⟨h5,by omega,λi hi=>by rw[e i (by omega)];exact h7 i hi⟩)
   ·exact .inr (.inr ⟨h5,by omega,λi hi=>by rw[e i (by omega)];exact h7 i hi⟩)
  ·have:k=br.length:=by omega
   subst this;unfold BQ;try simp only
   have e:∀i,i<br.length->gt (br++[x]) i=gt br i:=λi hi=>by rw[sM (by omega),aG hi]
   rw[Nb];refine⟨hA,?_⟩;rcases hx with h5|⟨h5,h6,h7⟩|⟨h5,h6,h7⟩
   ·exact .inl h5
   ·exact .inr (.inl ⟨h5,h6,λi hi=>by rw[e i hi];exact h7 i hi⟩)
   ·exact .inr (.inr ⟨h5,h6,λi hi=>by rw[e i hi];exact h7 i hi⟩)
 ·by_cases dh:j<S.length
  ·obtain⟨k,hk,hs⟩:=h2 j dh;have cT:k<br.length:=hk;exact⟨k,by simp;omega,by show oy (gt (br++[x]) k) j;rw[Na cT];exact hs⟩
  ·exact⟨br.length,by simp,by show oy (gt (br++[x]) br.length) j;rw[Nb];exact cS j (by omega) hj⟩
 ·by_cases dh:j<C.length
  ·obtain⟨k,hk,hs⟩:=h3 j dh;have cT:k<br.length:=hk;exact⟨k,by simp;omega,by show pn (gt (br++[x]) k) j;rw[Na cT];exact hs⟩
  ·exact⟨br.length,by simp,by show pn (gt (br++[x]) br.length) j;rw[Nb];exact cC j (by omega) hj⟩
def cD.anW{nb:Int}{br:List cG}{S:List Source}{C:List Consumer}(h:cD (bd nb br S C)){i:Nat}(hi:i<br.length)(hk:(gt br i).Kind=2):(gt br i).B<=(S.length:Int)-1:=by have:=(h.1 i hi).2;simp only at this;rcases this with h5|⟨h5,h6,h7⟩|⟨h5,h6,h7⟩<;>omega
def cD.axZ{nb:Int}{br:List cG}{S:List Source}{C:List Consumer}(h:cD (bd nb br S C)){i:Nat}(hi:i<br.length)(hk:(gt br i).Kind=3):(gt br i).B<=(C.length:Int)-1:=by have:=(h.1 i hi).2;simp only at this;rcases this with h5|⟨h5,h6,h7⟩|⟨h5,h6,h7⟩<;>omega
def cD.tie{nb:Int}{br:List cG}{S:List Source}{C:List Consumer}(h:cD (bd nb br S C)){a c:Int}(h0:0<=a)(h1:a+1<=c)(h2:c<=nb-1):cD (bd nb (br++[⟨1,a,c⟩]) S C):=h.snoc (bw _) (bw _) ⟨h0,by simp only;omega⟩ (.inl ⟨rfl,h1,h2⟩) (λj _ _=>by omega) (λj _ _=>by omega)
def cD.src{nb:Int}{br:List cG}{S:List Source}{C:List Consumer}(h:cD (bd nb br S C)){a:Int}(h0:0<=a)(h1:a<=nb-1)(s:Source):cD (bd nb (br++[⟨2,a,len S⟩]) (S++[s]) C):=by refine h.snoc (by simp) (bw _) ⟨h0,h1⟩ (.inr (.inl ⟨rfl,by simp[len],λi hi hh=>?_⟩)) (λj h3 h4=>⟨rfl,by simp at h4;unfold len;simp only;omega⟩) (λj _ _=>by omega);have:=h.anW hi hh.1;have e:=hh.2;simp only[len]at e;omega
def cD.iL{nb:Int}{br:List cG}{S:List Source}{C:List Consumer}(h:cD (bd nb br S C)){a:Int}(h0:0<=a)(h1:a<=nb-1)(c:Consumer):cD (bd nb (br++[⟨3,a,len C⟩]) S (C++[c])):=by refine h.snoc (bw _) (by simp) ⟨h0,h1⟩ (.inr (.inr ⟨rfl,by simp[len],λi hi hh=>?_⟩)) (λj _ _=>by omega) (λj h3 h4=>⟨rfl,by simp at h4;unfold len;simp only;omega⟩);have:=h.axZ hi hh.1;have e:=hh.2.1;simp only[len]at e;omega
structure rS(b:au):Prop where
 jd:1<=b.aA∧b.aA<=4
 cZ:b.ae.length<=18
 src:b.aj.length<=4
 iL:b.ay.length<=5
 H2:qQ b
 aCV:∀x∈b.aj,10<=x.ig∧x.ig<=100
 load:∀x∈b.ay,0<=x.eT∧x.eT<=40
def rS.gn{b:au}(h:rS b):gj b:=⟨⟨h.jd.1,by have:=h.jd.2;omega⟩,by have:=h.cZ;omega,by have:=h.src;omega,by have:=h.iL;omega⟩
def rS.sm{b:au}(h:rS b):fp b:=by refine⟨by have:=h.cZ;unfold Sm;omega,by have:=h.src;unfold Sm;omega,by have:=h.iL;unfold Sm;omega,λx hx=>?_⟩;obtain⟨k,hk,rfl⟩:=om hx;have:=(h.H2.2.2.2.2 k hk).2.2.2.2.2;unfold Sm;omega
def rS.ng{b:au}(h:rS b):ng b=0:=Bw.2 ⟨h.gn,h.H2⟩
end Rx
namespace Rx
open Classical
def Ir{b:au}{p q:aw}{j:Int}{n:Nat}(h:∀i,i<n->(gt b.ae i).Kind=3->(gt b.ae i).B=j->gt p.aF i=gt q.aF i):eR b p j n=eR b q j n:=by
 induction n with
 |zero=>rfl
 |succ n ih=>
  unfold eR;rw[ih λi hi=>h i (by omega)];congr 1;by_cases h1:(gt b.ae n).Kind=3
  ·by_cases h2:(gt b.ae n).B=j
   ·rw[h n (by omega) h1 h2]
   ·simp[h2]
  ·simp[h1]
abbrev pc(cl:List Bool):aw:=⟨cl,[],[],[]⟩
def pX(a b c:Int):jX a b c=aa (ak (b<=a∧a<=c)):=by unfold jX;by_cases h:b<=a<;>simp[h]
def exists_eq{b:au}(hb:gj b)(x:Part):Ie b x=aa (ak (0<=x.Number∧x.Number<=bsize b x.Kind-1)):=by
 have h1:=hb.jd;have h2:=hb.cZ;have h3:=hb.src;have h4:=hb.iL;have e1:W (len b.aj-1)=(b.aj.length:Int)-1:=by unfold len;exact bY (by omega) (by omega)
 have e2:W (len b.ae-1)=(b.ae.length:Int)-1:=by unfold len;exact bY (by omega) (by omega)
 have e3:W (b.aA-1)=b.aA-1:=bY (by omega) (by omega);have e4:W (len b.ay-1)=(b.ay.length:Int)-1:=by unfold len;exact bY (by omega) (by omega)
 unfold Ie bsize;simp only[pX,e1,e2,e3,e4];by_cases k1:x.Kind=1
 ·simp[k1]
 by_cases k2:x.Kind=2
 ·simp[k2]
 by_cases k3:x.Kind=3
 ·simp[k3]
 by_cases k4:x.Kind=4
 ·simp[k4]
 have:¬(0<=x.Number∧x.Number<=(0:Int)-1):=by omega
 simp[k1,k2,k3,k4];omega
def aqh{b:au}(hb:Sm b.ae)(i:Nat)(w:List Bool){cl:List Bool}(hl:cl.length=b.ae.length):
  Wp (aI (Po b ((i:Int),w)) (ab,0,cl)) λr=>r.length=b.ae.length∧eR b (pc r) (i:Int) b.ae.length<=1∧∀k,¬pn (gt b.ae k) i->gt r k=gt cl k:=by
 refine dS b.ae.length (λk s=>∃f c,s=(f,(k:Int),c)∧c.length=b.ae.length∧eR b (pc c) (i:Int) k=(if f=ab then 0 else 1)∧∀j,(k<=j∨¬pn (gt b.ae j) i)->gt c j=gt cl j) ⟨_,_,rfl,hl,rfl,λ_ _=>rfl⟩ ?_ ?_
 ·rintro k s hk ⟨f,c,rfl,h1,h2,h3⟩;have hs:=eN hb hk;unfold Po;simp only[ba hk,aH,aO hk,aO (show k<c.length by omega),al,a_ hs,jy (show k<c.length by omega)];by_cases hc:pn (gt b.ae k) i
  ·rw[gh hc.1,gh hc.2];simp only[aH,al];cases hv:gt c k with
   |true=>
    simp only[aH,al];refine ar.2 ⟨_,_,rfl,by simpa using h1,?_,λj hj=>?_⟩
    ·simp only[aD,aC];unfold eR;have e1:eR b (pc (c.set k f)) (i:Int) k=eR b (pc c) (i:Int) k:=Ir λj hj _ _=>by show gt (c.set k f) j=gt c j;rw[gE (by omega),aK (by omega)]
     have e2:gt (c.set k f) k=f:=by rw[gE (by omega),aG rfl]
     rw[e1,h2];cases f with
     |true=>simp[hc.1,hc.2,e2]
     |false=>simp[e2]
    ·rw[gE (by omega)];by_cases l7:j=k
     ·subst l7;rcases hj with hj|hj
      ·omega
      ·exact(hj hc).elim
     ·rw[aK l7];exact h3 j (hj.imp (λh=>by omega) id)
   |false=>simp only[aD,aC,al];refine ar.2 ⟨_,_,rfl,h1,?_,λj hj=>h3 j (hj.imp (λh=>by omega) id)⟩;show eR b (pc c) (i:Int) k+_=_;rw[h2];simp[hv]
  ·have:(if((gt b.ae k).Kind==3)=ab then(if((gt b.ae k).B==(i:Int))=ab then aa (gt c k)else aa ai)else aa ai:Option Bool)=aa ai:=by
    by_cases h4:(gt b.ae k).Kind=3
    ·have h5:(gt b.ae k).B≠(i:Int):=λh=>hc ⟨h4,h⟩;rw[gh h4,dG h5];rfl
    ·rw[dG h4];rfl
   rw[this];simp only[al,aD,aC];refine ar.2 ⟨_,_,rfl,h1,?_,λj hj=>h3 j (hj.imp (λh=>by omega) id)⟩;have hz:¬((gt b.ae k).Kind=3∧(gt b.ae k).B=(i:Int)∧gt c k=ab):=λh=>hc ⟨h.1,h.2.1⟩;show eR b (pc c) (i:Int) k+(if(gt b.ae k).Kind=3∧(gt b.ae k).B=(i:Int)∧gt c k=ab then 1 else 0)=_;rw[h2,aK hz,Nat.add_zero]
 ·rintro s ⟨f,c,rfl,h1,h2,h3⟩;unfold Po;simp only[bI,aD,aC];refine ar.2 ⟨h1,?_,λk hk=>h3 k (.inr hk)⟩;rw[h2];split<;>omega
structure Jh(b:au)(p:aw):Prop where
 shape:Shape b p
 H2:vW b p
 aji:p.aR.length<=4
 aDt:∀x∈p.aj,4950<=x.aY∧x.aY<=5005
def Jh.sm{b:au}{p:aw}(hb:rS b)(h:Jh b p):dp p:=by obtain⟨h1,h2,h3⟩:=h.shape;have:=hb.cZ;have:=hb.src;have:=hb.iL;have:=h.aji;exact⟨by unfold Sm;omega,by unfold Sm;omega,by unfold Sm;omega,by unfold Sm;omega⟩
def Jh.bi{b:au}{p:aw}(hb:rS b)(h:Jh b p):bi b p=0:=by unfold Go.Proofs.YtmngjhagbjgmfaaGreat.Rx.bi;rw[aG hb.ng,aG h.shape,aG h.H2]
def aCD(b:au)(l:List Int)(a:Int)(cl:List Bool)(run:List bn)(gn:List Int)(cZ:List Part):Prop:=Sr l a∧Jh b ⟨cl,run,gn,cZ⟩
def ak7{l:List Int}{a:Int}(hs:Sr l a){b:au}(hb:rS b):Wp (Pp ⟨l,a⟩ b) λr=>∃l a cl run gn cZ,r=(l,a,b.ae,b.aj,b.ay,cl,run,gn,cZ)∧aCD b l a cl run gn cZ:=by
 have nM:=hb.cZ;have mx:=hb.src;have DT:=hb.iL;have fF:=hb.sm;unfold Pp;refine Wp.bind (Q:=λx=>∃l a cl,x=(l,a,cl)∧Sr l a∧cl.length=b.ae.length) ?_ λx hx=>?_
 ·refine dS b.ae.length (λk s=>∃l a cl,s=((k:Int),l,a,cl)∧Sr l a∧cl.length=k) ⟨_,_,_,rfl,hs,rfl⟩ ?_ ?_
  ·rintro k s hk ⟨l,a,cl,rfl,hs,h1⟩;unfold XP;simp only[ba hk,aH];refine(gT hs (n:=2) (by omega) (by omega)).bind λy hy=>?_;obtain⟨y,l,a⟩:=y;try simp only
   rw[cJ (by simp;omega)];exact ar.2 ⟨_,_,_,by rw[a_ (by omega)],hy.2,by simp;omega⟩
  ·rintro s ⟨l,a,cl,rfl,hs,h1⟩;unfold XP;simp only[bI,aD,aC];exact ar.2 ⟨_,_,_,rfl,hs,h1⟩
 obtain⟨l,a,cl0,rfl,hs,hx⟩:=hx;try simp only
 refine Wp.bind (Q:=λc:List Bool=>c.length=b.ae.length∧∀j,j<b.ay.length->eR b (pc c) (j:Int) b.ae.length<=1) ?_ λcl cY=>?_
 ·refine dS b.ay.length (λk s=>∃c,s=((k:Int),c)∧c.length=b.ae.length∧∀j,j<k->eR b (pc c) (j:Int) b.ae.length<=1) ⟨_,rfl,hx,λj hj=>by omega⟩ ?_ ?_
  ·rintro k s hk ⟨c,rfl,h1,h2⟩;unfold XO;simp only[ba hk,aH];refine(aqh fF.1 k c h1).bind λr hr=>?_;refine ar.2 ⟨_,by rw[a_ (by omega)],hr.1,λj hj=>?_⟩;by_cases l7:j=k
   ·subst l7;exact hr.2.1
   ·rw[Ir (q:=pc c) λi hi h3 h4=>hr.2.2 i λhh=>by have:=hh.2;omega];exact h2 j (by omega)
  ·rintro s ⟨c,rfl,h1,h2⟩;unfold XO;simp only[bI,aD,aC];exact ar.2 ⟨h1,h2⟩
 refine Wp.bind (Q:=λx=>∃l a run,x=(l,a,run)∧Sr l a∧run.length=b.aj.length∧∀r∈run,gR r∧4950<=r.aY∧r.aY<=5005) ?_ λx pt=>?_
 ·refine dS b.aj.length (λk s=>∃l a run,s=((k:Int),l,a,run)∧Sr l a∧run.length=k∧∀r∈run,gR r∧4950<=r.aY∧r.aY<=5005) ⟨_,_,_,rfl,hs,rfl,by simp⟩ ?_ ?_
  ·rintro k s hk ⟨l,a,run,rfl,hs,h1,h2⟩;unfold XN;simp only[ba hk,aH];refine(dU hs (by simp) (by simp)).bind λy e1=>?_;obtain⟨y1,l,a,z⟩:=y;obtain⟨e1,hs⟩:=e1;simp only[cr,jN,kB]at e1 hs⊢;refine(gT hs (n:=5) (by omega) (by omega)).bind λy e2=>?_;obtain⟨y2,l,a⟩:=y;obtain⟨e2,hs⟩:=e2;simp only at e2 hs⊢;refine(dU hs (by simp) (by simp)).bind λy e3=>?_;obtain⟨y3,l,a,z⟩:=y;obtain⟨e3,hs⟩:=e3;simp only[cr,jN,kB]at e3 hs⊢;refine(dU hs (by simp) (by simp)).bind λy e4=>?_;obtain⟨y4,l,a,z⟩:=y;obtain⟨e4,hs⟩:=e4;simp only[cr,jN,kB]at e4 hs⊢;rw[cJ (by simp;omega)];simp only[al];refine ar.2 ⟨_,_,_,by rw[a_ (by omega)],hs,by simp;omega,λr hr=>?_⟩;rcases bz.1 hr with hr|hr
   ·exact h2 r hr
   ·simp only[dZ]at hr;subst hr;unfold gR;try simp only
    omega
  ·rintro s ⟨l,a,run,rfl,hs,h1,h2⟩;unfold XN;simp only[bI,aD,aC];exact ar.2 ⟨_,_,_,rfl,hs,h1,h2⟩
 obtain⟨l,a,run,rfl,hs,pt,acG⟩:=pt;try simp only
 refine Wp.bind (Q:=λx=>∃l a gn,x=(l,a,gn)∧Sr l a∧gn.length=b.ay.length∧∀k,k<b.ay.length->0<=gt gn k∧gt gn k<=(gt b.ay k).eT) ?_ λx Ay=>?_
 ·refine dS b.ay.length (λk s=>∃l a gn,s=((k:Int),l,a,gn)∧Sr l a∧gn.length=k∧∀j,j<k->0<=gt gn j∧gt gn j<=(gt b.ay j).eT) ⟨_,_,_,rfl,hs,rfl,λj hj=>by omega⟩ ?_ ?_
  ·rintro k s hk ⟨l,a,gn,rfl,hs,h1,h2⟩;have qx:=hb.H2.2.2.2.2 k hk;unfold XM;have Hu:=qx.2.1;have T2:=qx.2.2.1;simp only[ba hk,aH,aO hk,al];rw[zK Hu.1 (by omega) (by omega)];simp only[al];refine(dU hs (by simp) (by simp)).bind λy e1=>?_;obtain⟨y1,l,a,z⟩:=y;obtain⟨e1,hs⟩:=e1;simp only[cr,jN,kB]at e1 hs⊢;rw[cJ (by simp;omega)];simp only[al];refine ar.2 ⟨_,_,_,by rw[a_ (by omega)],hs,by simp;omega,λj hj=>?_⟩;rw[sM (by omega)];by_cases dh:j<gn.length
   ·rw[aG dh];exact h2 j (by omega)
   ·rw[aK dh];have:j=k:=by omega
    subst this;omega
  ·rintro s ⟨l,a,gn,rfl,hs,h1,h2⟩;unfold XM;simp only[bI,aD,aC];exact ar.2 ⟨_,_,_,rfl,hs,h1,h2⟩
 obtain⟨l,a,gn,rfl,hs,Ay,asM⟩:=Ay;try simp only
 refine Wp.bind (Q:=λx=>∃l a cZ,x=(l,a,cZ)∧Sr l a∧cZ.length<=4∧∀k,k<cZ.length->oP b cZ k) ?_ λx Hb=>?_
 ·refine dS 4 (λk s=>∃l a cZ,s=((k:Int)+1,l,a,cZ)∧Sr l a∧cZ.length<=k∧(∀x∈cZ,x.Kind<=(k:Int))∧∀j,j<cZ.length->oP b cZ j) ⟨_,_,_,rfl,hs,bw _,by simp,λj hj=>absurd hj (by simp)⟩ ?_ ?_
  ·rintro k s hk ⟨l,a,cZ,rfl,hs,h1,h2,h3⟩;unfold XL;simp only[dT (c:=(k:Int)+1<=4) (by omega),aH];refine(gT hs (n:=5) (by omega) (by omega)).bind λy hy=>?_;obtain⟨y1,l,a⟩:=y;obtain⟨hy,hs⟩:=hy;simp only at hy hs⊢;refine Wp.bind (Q:=λx=>∃l a cZ,x=(l,a,cZ)∧Sr l a∧cZ.length<=k+1∧(∀q∈cZ,q.Kind<=(k:Int)+1)∧∀j,j<cZ.length->oP b cZ j) ?_ λx hx5=>?_
   ·refine Wp.ite (λ_=>?_) (λ_=>ar.2 ⟨_,_,_,rfl,hs,by omega,λq hq=>by have:=h2 q hq;omega,h3⟩);refine(gT hs (n:=4) (by omega) (by omega)).bind λy e1=>?_;obtain⟨y2,l,a⟩:=y;obtain⟨e1,hs⟩:=e1;simp only at e1 hs⊢;rw[exists_eq hb.gn];simp only[al,cO];refine Wp.bind (Q:=λx:List Part=>x.length<=k+1∧(∀q∈x,q.Kind<=(k:Int)+1)∧∀j,j<x.length->oP b x j) ?_ λx Ha=>ar.2 ⟨_,_,_,rfl,hs,Ha⟩;refine Wp.ite (λhe=>?_) (λ_=>ar.2 ⟨by omega,λq hq=>by have:=h2 q hq;omega,h3⟩);have mZ:=jw he;rw[cJ (by simp;omega)];refine ar.2 ⟨by simp;omega,λq hq=>?_,λj hj=>?_⟩
    ·rcases bz.1 hq with hq|hq
     ·have:=h2 q hq;omega
     ·simp only[dZ]at hq;subst hq;exact nY _
    ·have nK:j<cZ.length+1:=by simpa using hj
     unfold oP;rw[sM nK];by_cases dh:j<cZ.length
     ·rw[aG dh,sM (by omega),aG (by omega)];exact h3 j dh
     ·rw[aK dh];refine⟨mZ,λh0=> .inl ?_⟩;rw[sM (by omega),aG (by omega)];have:=h2 _ (du (show j-1<cZ.length by omega));try simp only
      omega
   ·obtain⟨l,a,aB3,rfl,hs,q1,q2,q3⟩:=hx5;refine ar.2 ⟨l,a,aB3,?_,hs,q1,λq hq=>by have:=q2 q hq;omega,q3⟩;rw[bY (by omega) (by omega),show(k:Int)+1+1=((k+1:Nat):Int)+1 from by omega]
  ·rintro s ⟨l,a,cZ,rfl,hs,h1,h2,h3⟩;unfold XL;simp only[dF (c:=((4:Nat):Int)+1<=4) (by omega),aD,aC];exact ar.2 ⟨_,_,_,rfl,hs,h1,h3⟩
 obtain⟨l,a,cZ,rfl,hs,Hb,asL⟩:=Hb;try simp only
 refine ar.2 ⟨_,_,_,_,_,_,rfl,hs,⟨cY.1,pt,Ay⟩,⟨⟨asL,by simp only;omega⟩,λk hk=>(acG _ (du hk)).1,λk hk=>?_⟩,Hb,λr hr=>(acG r hr).2⟩;simp only at hk;have cT:k<b.ay.length:=by omega
 refine⟨asM k cT,?_⟩;exact lK (Nat.le_of_eq (Ir (b:=b) (p:=⟨cl,run,gn,cZ⟩) (q:=pc cl) (λ_ _ _ _=>rfl))) (cY.2 k cT)
end Rx
namespace Rx
def mT(b:au)(p:aw)(kind j:Int)(k:Nat):Bool:=((gt b.ae k).Kind==kind&&(gt b.ae k).B==j)&&gt p.aF k
def gb(b:au)(p:aw)(kind j:Int):Int×Bool:=match(bV b.ae.length).find? (mT b p kind j)with
 |some k=>((gt b.ae k).A,ab)
 |none=>(0,ai)
def abU{b:au}{p:aw}(hs:Sm b.ae)(hc:p.aF.length=b.ae.length)(kind j:Int):IK b p kind j=aa (gb b p kind j):=by
 have h:=vc (step:=EN b p kind j) (λk=>(k:Int)) b.ae.length (mT b p kind j) (R:=λk=> .inr ((gt b.ae k).A,ab)) (e:= .inl ())
  (λk hk hp=>by
    simp only[EN,ba hk,aH,aO hk,aO (show k<p.aF.length by omega),al,cO,bu,bB,bR,a_ (eN hs hk)];unfold mT at hp;cases h1:(gt b.ae k).Kind==kind with
    |false=>simp
    |true=>
     cases h2:(gt b.ae k).B==j with
     |false=>simp
     |true=>rw[h1,h2]at hp;simp only[Bool.and_self,Bool.true_and]at hp;simp[hp])
  (λk hk hp=>by simp only[EN,ba hk,aH,aO hk,aO (show k<p.aF.length by omega),al,cO,bu,bB,bR];unfold mT at hp;simp only[bq]at hp;simp[hp.1.1,hp.1.2,hp.2])
  (by simp only[EN,bI,aD,aC])
 have h':aI (EN b p kind j) 0=_:=h;unfold IK gb;rw[h'];cases(bV b.ae.length).find? (mT b p kind j)<;>rfl
def conn(b:au)(p:aw)(j:Int):Int×Bool:=if 0<=j∧j<=(p.aj.length:Int)-1 then(if(gt p.aj j.toNat).State=2 then gb b p 2 j else(0,ai))else(0,ai)
def axX{b:au}{p:aw}(hs:Sm b.ae)(hp:Sm p.aj)(hc:p.aF.length=b.ae.length)(j:Int):IQ b p j=aa (conn b p j):=by
 unfold Sm at hp;have e1:W (len p.aj-1)=(p.aj.length:Int)-1:=by unfold len;exact bY (by omega) (by omega)
 unfold IQ conn;simp only[e1,rn,al,cO,bu,bB,bR];by_cases h:0<=j∧j<=(p.aj.length:Int)-1
 ·rw[dT h,aG h];simp only[eg,aD,aC,iI h.1 (show j<(p.aj.length:Int) by omega),al,cO,bu,bB,bR,abU hs hc];by_cases h2:(gt p.aj j.toNat).State=2
  ·simp[h2]
  ·simp[h2]
 ·rw[dF h,aK h];rfl
def aeB{b:au}{p:aw}(hs:Sm b.ae)(hc:p.aF.length=b.ae.length)(j:Int):IP b p j=aa (gb b p 3 j):=by unfold IP;rw[abU hs hc];rfl
def least(f:List Int)(x:cG):Int:=if gt f x.B.toNat<gt f x.A.toNat then gt f x.B.toNat else gt f x.A.toNat
def oh(b:au)(p:aw)(f:List Int)(k:Nat):List Int:=
 if(gt b.ae k).Kind=1∧gt p.aF k=ab then(f.set (gt b.ae k).A.toNat (least f (gt b.ae k))).set (gt b.ae k).B.toNat (least f (gt b.ae k))else f
def gK(b:au)(p:aw):Nat->List Int->List Int
 |0,f=>f
 |k+1,f=>oh b p (gK b p k f) k
def rounds(b:au)(p:aw):Nat->List Int->List Int
 |0,f=>f
 |r+1,f=>gK b p b.ae.length (rounds b p r f)
def own(n:Nat):List Int:=(bV n).map Int.ofNat
def cq(b:au)(p:aw):List Int:=rounds b p b.aA.toNat (own b.aA.toNat)
def Zu(b:au)(p:aw)(f:List Int)(k:Nat):(oh b p f k).length=f.length:=by unfold oh;split<;>simp
def Zv(b:au)(p:aw)(k:Nat)(f:List Int):(gK b p k f).length=f.length:=by
 induction k with
 |zero=>rfl
 |succ k ih=>unfold gK;rw[Zu,ih]
def aas(b:au)(p:aw)(r:Nat)(f:List Int):(rounds b p r f).length=f.length:=by
 induction r with
 |zero=>rfl
 |succ r ih=>unfold rounds;rw[Zv,ih]
def UX(b:au)(p:aw):(cq b p).length=b.aA.toNat:=by unfold cq;rw[aas];simp[own]
def Sb{n k:Nat}(h:k<n):gt (own n) k=(k:Int):=by unfold own;rw[lC _ h];rfl
def aoO{b:au}{p:aw}(hb:cD b)(hs:Sm b.ae)(hc:p.aF.length=b.ae.length){f:List Int}(hf:(f.length:Int)=b.aA):aI (IL b p) ((0:Int),f)=aa (gK b p b.ae.length f):=by
 refine dO (step:=IL b p) (λk=>((k:Int),gK b p k f)) b.ae.length (λk hk=>?_) (by simp only[IL,bI,aD,aC]);have jp:=hb.1 k hk;have hl:=Zv b p k f;simp only[IL,ba hk,aH,aO hk,aO (show k<p.aF.length by omega),al,cO,bu,bB,bR,a_ (eN hs hk)];by_cases h1:(gt b.ae k).Kind=1
 ·rw[gh h1];simp only[aH,al,cO,bu,bB,bR];cases h2:gt p.aF k with
  |false=>
   simp only[aD,aC,al,cO,bu,bB,bR];have e:gK b p (k+1) f=gK b p k f:=by show oh b p (gK b p k f) k=_;unfold oh;rw[aK (λh=>by rw[h2]at h;exact absurd h.2 (by simp))]
   rw[e]
  |true=>
   have hA:=jp.1;have hB:(gt b.ae k).A+1<=(gt b.ae k).B∧(gt b.ae k).B<=b.aA-1:=by
    rcases jp.2 with h|h|h
    ·exact h.2
    ·have:=h.1;omega
    ·have:=h.1;omega
   simp only[aH,iI hA.1 (show(gt b.ae k).A<((gK b p k f).length:Int) by omega),iI (show 0<=(gt b.ae k).B by omega) (show(gt b.ae k).B<((gK b p k f).length:Int) by omega),al,cO,bu,bB,bR];have e:gK b p (k+1) f=((gK b p k f).set (gt b.ae k).A.toNat (least (gK b p k f) (gt b.ae k))).set (gt b.ae k).B.toNat (least (gK b p k f) (gt b.ae k)):=by show oh b p (gK b p k f) k=_;unfold oh;rw[aG ⟨h1,h2⟩]
   rw[CS hA.1 (by omega)];simp only[al,cO,bu,bB,bR];rw[CS (by omega) (by simp;omega),e,iI (show 0<=(gt b.ae k).B by omega) (by simp;omega)];rfl
 ·rw[dG h1];simp only[aD,aC,al,cO,bu,bB,bR];have e:gK b p (k+1) f=gK b p k f:=by show oh b p (gK b p k f) k=_;unfold oh;rw[aK (λh=>h1 h.1)]
  rw[e]
def av3{b:au}{p:aw}(hl:gj b)(hb:cD b)(hs:Sm b.ae)(hc:p.aF.length=b.ae.length):ON b p=aa (cq b p):=by
 have pC:=hl.jd;obtain⟨n,hn⟩:=nr (show 0<=b.aA by omega);have hn6:n<=6:=by omega
 unfold ON;rw[hn,x_ (by omega)];simp only[al,cO,bu,bB,bR];have at':aI (IN (cR n (0:Int))) ((0:Int),cR n (0:Int))=aa (own n):=by
  have hlz:(cR n (0:Int)).length=n:=by simp
  have h:=dO (step:=IN (cR n (0:Int))) (λk=>((k:Int),(bV n).map λi:Nat=>if i<k then(i:Int)else 0)) n (r:=own n)
   (λk hk=>by
     have hlen:((bV n).map λi:Nat=>if i<k then(i:Int)else 0).length=n:=by simp
     have e1:ak ((k:Int)<len (cR n (0:Int)))=ab:=dT (by unfold len;omega);simp only[IN,e1,aH,aO (show k<((bV n).map λi:Nat=>if i<k then(i:Int)else 0).length by omega),al,cO,bu,bB,bR,jy (show k<((bV n).map λi:Nat=>if i<k then(i:Int)else 0).length by omega),a_ (show k<1000000000000000000 by omega)];congr 3;apply jW
     ·simp
     ·intro i hi;have eo:i<n:=by simpa using hi
      rw[gE (by omega),lC _ eo,lC _ eo];by_cases eL:i=k
      ·subst eL;rw[aG rfl,aG (by omega)]
      ·rw[aK eL];by_cases h1:i<k
       ·rw[aG h1,aG (by omega)]
       ·rw[aK h1,aK (by omega)])
   (by
     have e1:ak ((n:Int)<len (cR n (0:Int)))=ai:=dF (by unfold len;omega);simp only[IN,e1,aD,aC];congr 2;apply jW
     ·simp[own]
     ·intro i hi;have eo:i<n:=by simpa using hi
      rw[lC _ eo,aG eo,Sb eo])
  have e0:((bV n).map λi:Nat=>if i<0 then(i:Int)else 0)=cR n (0:Int):=by
   apply jW
   ·simp
   ·intro i hi;have eo:i<n:=by simpa using hi
    rw[lC _ eo,Be eo];rfl
  rw[<-e0]at h⊢;exact h
 rw[at'];simp only[al,cO,bu,bB,bR];have AM:(own n).length=n:=by simp[own]
 have vn:aI (IM b p (own n)) ((0:Int),own n)=aa (rounds b p n (own n)):=by
  refine dO (step:=IM b p (own n)) (λk=>((k:Int),rounds b p k (own n))) n (λk hk=>?_) ?_
  ·have e1:ak ((k:Int)<len (own n))=ab:=dT (by unfold len;omega);have lY:=aas b p k (own n);simp only[IM,e1,aH,aoO hb hs hc (f:=rounds b p k (own n)) (by omega),al,cO,bu,bB,bR,a_ (show k<1000000000000000000 by omega)];rfl
  ·have e1:ak ((n:Int)<len (own n))=ai:=dF (by unfold len;omega);simp only[IM,e1,aD,aC]
 rw[vn];unfold cq;rw[hn];rfl
def jZ(b:au)(p:aw)(i j:Nat):Prop:=∃k,k<b.ae.length∧(gt b.ae k).Kind=1∧gt p.aF k=ab∧(((gt b.ae k).A=(i:Int)∧(gt b.ae k).B=(j:Int))∨((gt b.ae k).A=(j:Int)∧(gt b.ae k).B=(i:Int)))
def jZ.symm{b:au}{p:aw}{i j:Nat}(h:jZ b p i j):jZ b p j i:=by obtain⟨k,h1,h2,h3,h4⟩:=h;exact⟨k,h1,h2,h3,h4.symm⟩
def jZ.lt{b:au}{p:aw}(hb:cD b){i j:Nat}(h:jZ b p i j):i<b.aA.toNat∧j<b.aA.toNat:=by
 obtain⟨k,h1,h2,h3,h4⟩:=h;have jp:=hb.1 k h1;have hA:=jp.1;have hB:(gt b.ae k).A+1<=(gt b.ae k).B∧(gt b.ae k).B<=b.aA-1:=by
  rcases jp.2 with h|h|h
  ·exact h.2
  ·have:=h.1;omega
  ·have:=h.1;omega
 rcases h4 with h4|h4<;>omega
structure zg(b:au)(p:aw)(f:List Int):Prop where
 len:f.length=b.aA.toNat
 sound:∀i,i<b.aA.toNat->∃m:Nat,gt f i=(m:Int)∧m<=i∧kA (jZ b p) i m
def arO(b:au)(p:aw):zg b p (own b.aA.toNat):=⟨by simp[own],λi hi=>⟨i,Sb hi,bw _,.refl _⟩⟩
def zA{b:au}(hb:cD b){k:Nat}(hk:k<b.ae.length)(h1:(gt b.ae k).Kind=1):(gt b.ae k).A.toNat<(gt b.ae k).B.toNat∧(gt b.ae k).B.toNat<b.aA.toNat∧(gt b.ae k).A=((gt b.ae k).A.toNat:Int)∧(gt b.ae k).B=((gt b.ae k).B.toNat:Int):=by
 have jp:=hb.1 k hk;have hA:=jp.1;have hB:(gt b.ae k).A+1<=(gt b.ae k).B∧(gt b.ae k).B<=b.aA-1:=by
  rcases jp.2 with h|h|h
  ·exact h.2
  ·have:=h.1;omega
  ·have:=h.1;omega
 omega
def QL{b:au}{p:aw}(hb:cD b){f:List Int}(hf:f.length=b.aA.toNat){k:Nat}(hk:k<b.ae.length)(i:Nat):
  gt (oh b p f k) i=if(gt b.ae k).Kind=1∧gt p.aF k=ab∧(i=(gt b.ae k).A.toNat∨i=(gt b.ae k).B.toNat)then least f (gt b.ae k)else gt f i:=by
 unfold oh
 by_cases h1:(gt b.ae k).Kind=1∧gt p.aF k=ab
 ·have he:=zA hb hk h1.1;rw[aG h1,gE (by simp;omega),gE (by omega)];by_cases hB:i=(gt b.ae k).B.toNat
  ·rw[aG hB,aG ⟨h1.1,h1.2,.inr hB⟩]
  ·rw[aK hB];by_cases hA:i=(gt b.ae k).A.toNat
   ·rw[aG hA,aG ⟨h1.1,h1.2,.inl hA⟩]
   ·rw[aK hA,aK (λh=>by rcases h.2.2 with h|h<;>contradiction)]
 ·rw[aK h1,aK (λh=>h1 ⟨h.1,h.2.1⟩)]
def least_le(f:List Int)(x:cG):least f x<=gt f x.A.toNat∧least f x<=gt f x.B.toNat:=by unfold least;split<;>omega
def ZL{b:au}{p:aw}(hb:cD b){f:List Int}(hf:zg b p f){k:Nat}(hk:k<b.ae.length):zg b p (oh b p f k)∧∀i,gt (oh b p f k) i<=gt f i:=by
 refine⟨⟨by rw[Zu,hf.len],λi hi=>?_⟩,λi=>?_⟩
 ·rw[QL hb hf.len hk];split
  ·rename_i h;obtain⟨h1,h2,h3⟩:=h;have he:=zA hb hk h1;have hT:jZ b p (gt b.ae k).A.toNat (gt b.ae k).B.toNat:=⟨k,hk,h1,h2,.inl ⟨he.2.2.1,he.2.2.2⟩⟩;obtain⟨m1,e1,l1,c1⟩:=hf.sound (gt b.ae k).A.toNat (by omega);obtain⟨m2,e2,l2,c2⟩:=hf.sound (gt b.ae k).B.toNat he.2.1;unfold least;rw[e1,e2];by_cases aU:(m2:Int)<(m1:Int)
   ·rw[aG aU];refine⟨m2,rfl,?_,?_⟩
    ·rcases h3 with rfl|rfl<;>omega
    ·rcases h3 with rfl|rfl
     ·exact .step hT c2
     ·exact c2
   ·rw[aK aU];refine⟨m1,rfl,?_,?_⟩
    ·rcases h3 with rfl|rfl<;>omega
    ·rcases h3 with rfl|rfl
     ·exact c1
     ·exact .step hT.symm c1
  ·exact hf.sound i hi
 ·rw[QL hb hf.len hk];split
  ·rename_i h;have:=least_le f (gt b.ae k);rcases h.2.2 with rfl|rfl
   ·exact this.1
   ·exact this.2
  ·exact nY _
def KR{b:au}{p:aw}(hb:cD b){f:List Int}(hf:zg b p f):∀k,k<=b.ae.length->zg b p (gK b p k f)∧∀i,gt (gK b p k f) i<=gt f i
 |0,_=>⟨hf,λ_=>nY _⟩
 |k+1,hk=>by obtain⟨h1,h2⟩:=KR hb hf k (by omega);obtain⟨h3,h4⟩:=ZL hb h1 (k:=k) (by omega);exact⟨h3,λi=>Int.le_trans (h4 i) (h2 i)⟩
def aak{b:au}{p:aw}(hb:cD b){f:List Int}(hf:zg b p f){k:Nat}:∀m,k+m<=b.ae.length->∀i,gt (gK b p (k+m) f) i<=gt (gK b p k f) i
 |0,_=>λ_=>nY _
 |m+1,hm=>λi=>by have h1:=aak hb hf m (k:=k) (by omega) i;have h2:=(ZL hb (KR hb hf (k+m) (by omega)).1 (k:=k+m) (by omega)).2 i;exact Int.le_trans h2 h1
def aoR{b:au}{p:aw}(hb:cD b){f:List Int}(hf:zg b p f){i j:Nat}(h:jZ b p i j):gt (gK b p b.ae.length f) i<=gt f j:=by
 obtain⟨k,hk,h1,h2,h3⟩:=h;have he:=zA hb hk h1;have hm:=aak hb hf (k:=k+1) (b.ae.length-(k+1)) (by omega) i;rw[show k+1+(b.ae.length-(k+1))=b.ae.length from by omega]at hm;refine Int.le_trans hm ?_;show gt (oh b p (gK b p k f) k) i<=gt f j;have ub:=KR hb hf k (by omega);rw[QL hb ub.1.len hk];have hl:=least_le (gK b p k f) (gt b.ae k);have hj:=ub.2 j;rw[aG ⟨h1,h2,by rcases h3 with h3|h3<;>omega⟩];rcases h3 with h3|h3
 ·have:(gt b.ae k).B.toNat=j:=by omega
  rw[this]at hl;omega
 ·have:(gt b.ae k).A.toNat=j:=by omega
  rw[this]at hl;omega
def RM{b:au}{p:aw}(hb:cD b)(r:Nat):zg b p (rounds b p r (own b.aA.toNat)):=by
 induction r with
 |zero=>exact arO b p
 |succ r ih=>exact(KR hb ih _ (bw _)).1
def aar{b:au}{p:aw}(hb:cD b):∀(r:Nat) {i j:Nat},i<b.aA.toNat->iy (jZ b p) r i j->gt (rounds b p r (own b.aA.toNat)) i<=(j:Int)
 |0,i,j,hi,h=>by have:=h.zero;subst this;rw[show rounds b p 0 (own b.aA.toNat)=own b.aA.toNat from rfl,Sb hi];exact nY _
 |r+1,i,j,hi,h=>by
  have hk:=RM (p:=p) hb r;cases h with
  |refl=>obtain⟨m,h1,h2,_⟩:=(RM (p:=p) hb (r+1)).sound i hi;rw[h1];omega
  |step e w=>exact Int.le_trans (aoR hb hk e) (aar hb r (e.lt hb).2 w)
def Nc{b:au}{p:aw}(hb:cD b){i:Nat}(hi:i<b.aA.toNat):∃m:Nat,gt (cq b p) i=(m:Int)∧kA (jZ b p) i m∧∀j,kA (jZ b p) i j->m<=j:=by obtain⟨m,h1,h2,h3⟩:=(RM (p:=p) hb b.aA.toNat).sound i hi;refine⟨m,h1,h3,λj hj=>?_⟩;have hw:=(hj.walk (n:=b.aA.toNat) (λi j h=>(h.lt hb).2) hi).more (r':=b.aA.toNat) (by omega);have:=aar hb b.aA.toNat hi hw;have m_:gt (rounds b p b.aA.toNat (own b.aA.toNat)) i=(m:Int):=h1;rw[m_]at this;omega
def aej{b:au}{p:aw}(hb:cD b){i j:Nat}(hi:i<b.aA.toNat)(hj:j<b.aA.toNat):gt (cq b p) i=gt (cq b p) j↔kA (jZ b p) i j:=by
 obtain⟨m,h1,h2,h3⟩:=Nc (p:=p) hb hi;obtain⟨m',m_,Bd,D2⟩:=Nc (p:=p) hb hj;rw[h1,m_];have hs:∀i j,jZ b p i j->jZ b p j i:=λ_ _ h=>h.symm;constructor
 ·intro h;have:m=m':=by omega
  subst this;exact h2.trans (Bd.symm hs)
 ·intro h;have e1:=h3 m' (h.trans Bd);have e2:=D2 m ((h.symm hs).trans h2);omega
def Bf{b:au}{p:aw}(hb:cD b){i:Nat}(hi:i<b.aA.toNat):0<=gt (cq b p) i∧gt (cq b p) i<=(i:Int):=by obtain⟨m,h1,h2,h3⟩:=Nc (p:=p) hb hi;have:=h3 i (.refl _);omega
end Rx
namespace Rx
def bC(P:Nat->Bool)(k:Nat):List Int:=((bV k).filter P).map Int.ofNat
def pd(P:Nat->Bool)(k:Nat):bC P (k+1)=bC P k++if P k=ab then [(k:Int)]else []:=by unfold bC;rw[List.range_succ,uG,qW];cases h:P k<;>simp[h]
def oi(P:Nat->Bool)(k:Nat):(bC P k).length<=k:=by unfold bC;rw[qX];refine lK (zi _ _) ?_;simp
def yc{P:Nat->Bool}{k:Nat}{x:Int}:x∈bC P k↔∃i,i<k∧P i=ab∧x=(i:Int):=by
 unfold bC;rw[dC];constructor
 ·rintro⟨i,hi,rfl⟩;rw[k_,er]at hi;exact⟨i,hi.1,hi.2,rfl⟩
 ·rintro⟨i,h1,h2,rfl⟩;exact⟨i,by rw[k_,er];exact⟨h1,h2⟩,rfl⟩
def iM(b:au)(p:aw)(f i:Nat):Bool:=gt (cq b p) i==(f:Int)
def gU(b:au)(p:aw)(f j:Nat):Bool:=(conn b p (j:Int)).2&&gt (cq b p) (conn b p (j:Int)).1.toNat==(f:Int)
def gZ(b:au)(p:aw)(f j:Nat):Bool:=(gb b p 3 (j:Int)).2&&gt (cq b p) (gb b p 3 (j:Int)).1.toNat==(f:Int)
def ee(b:au)(p:aw)(i j k:Nat):List bt:=(bV b.aA.toNat).map λf=>⟨bC (iM b p f) i,bC (gU b p f) j,bC (gZ b p f) k⟩
def dW(b:au)(p:aw)(f:Nat):bt:=⟨bC (iM b p f) b.aA.toNat,bC (gU b p f) b.aj.length,bC (gZ b p f) b.ay.length⟩
def bj(b:au)(p:aw):List bt:=(ee b p b.aA.toNat b.aj.length b.ay.length).filter λx=> !x.aA.isEmpty
def SV{b:au}{p:aw}(hb:cD b){kind j:Int}(h:(gb b p kind j).2=ab):0<=(gb b p kind j).1∧(gb b p kind j).1<b.aA:=by
 unfold gb at h⊢;cases hf:(bV b.ae.length).find? (mT b p kind j)with
 |none=>rw[hf]at h;simp at h
 |some k=>
  have hk:=er.1 (v8 hf);have:=(hb.1 k hk).1;try simp only
  omega
def VS{b:au}{p:aw}(hb:cD b){j:Int}(h:(conn b p j).2=ab):0<=(conn b p j).1∧(conn b p j).1<b.aA:=by
 unfold conn at h⊢;by_cases h1:0<=j∧j<=(p.aj.length:Int)-1
 ·rw[aG h1]at h⊢;by_cases h2:(gt p.aj j.toNat).State=2
  ·rw[aG h2]at h⊢;exact SV hb h
  ·rw[aK h2]at h;simp at h
 ·rw[aK h1]at h;simp at h
def yk(b:au)(p:aw)(i j k:Nat):(ee b p i j k).length=b.aA.toNat:=by simp[ee]
def vh{b:au}{p:aw}{i j k f:Nat}(h:f<b.aA.toNat):gt (ee b p i j k) f=⟨bC (iM b p f) i,bC (gU b p f) j,bC (gZ b p f) k⟩:=by unfold ee;rw[lC _ h]
section
variable {b:au} {p:aw}
def axd(hl:gj b)(hb:cD b):aI (IU (cq b p)) ((0:Int),ee b p 0 0 0)=aa (ee b p b.aA.toNat 0 0):=by
 have pC:=hl.jd;have DP:=UX b p;refine dO (step:=IU (cq b p)) (λk=>((k:Int),ee b p k 0 0)) b.aA.toNat (λk hk=>?_) ?_
 ·have e1:ak ((k:Int)<len (cq b p))=ab:=dT (by unfold len;omega);obtain⟨g0,g1⟩:=Bf (p:=p) hb hk;have hlen:=yk b p k 0 0;obtain⟨m,hm⟩:=nr g0;have mB:m<b.aA.toNat:=by omega
  have lY:=oi (iM b p m) k;have e2:(ee b p k 0 0).set m ⟨bC (iM b p m) k++[(k:Int)],bC (gU b p m) 0,bC (gZ b p m) 0⟩=ee b p (k+1) 0 0:=by
   apply jW
   ·simp[ee]
   ·intro i hi;have eo:i<b.aA.toNat:=by simpa[ee]using hi
    rw[gE (by omega),vh eo,vh eo,pd];by_cases yz:i=m
    ·subst yz;have:iM b p i k=ab:=by unfold iM;rw[hm];simp
     rw[aG rfl,aG this]
    ·have:iM b p i k=ai:=by unfold iM;rw[hm];exact dG (by omega)
     rw[aK yz,this];simp
  have e3:(ee b p (k+1) 0 0).length=b.aA.toNat:=yk _ _ _ _ _;simp only[IU,e1,aH,aO (show k<(cq b p).length by omega),al,cO,bu,bB,bR,hm,PP,aO (show m<(ee b p k 0 0).length by omega),vh mB,cJ (show(bC (iM b p m) k).length+[(k:Int)].length<=1073741824 by simp;omega),jy (show m<(ee b p k 0 0).length by omega),e2,aO (show m<(ee b p (k+1) 0 0).length by omega),a_ (show k<1000000000000000000 by omega)]
 ·have e1:ak ((b.aA.toNat:Int)<len (cq b p))=ai:=dF (by unfold len;omega);simp only[IU,e1,aD,aC]
def axc(hl:gj b)(hb:cD b)(hs:Sm b.ae)(hp:Sm p.aj)(hc:p.aF.length=b.ae.length):aI (IT b p (cq b p)) ((0:Int),ee b p b.aA.toNat 0 0)=aa (ee b p b.aA.toNat b.aj.length 0):=by
 have pC:=hl.jd;have DP:=UX b p;have mx:=hl.src;refine dO (step:=IT b p (cq b p)) (λk=>((k:Int),ee b p b.aA.toNat k 0)) b.aj.length (λk hk=>?_) (by simp only[IT,bI,aD,aC]);have hlen:=yk b p b.aA.toNat k 0;simp only[IT,ba hk,aH,axX hs hp hc,al,cO,bu,bB,bR,a_ (show k<1000000000000000000 by omega)];cases uh:(conn b p (k:Int)).2 with
 |false=>
  have e2:ee b p b.aA.toNat (k+1) 0=ee b p b.aA.toNat k 0:=by unfold ee;refine Fu λf _=>?_;rw[pd,show gU b p f k=ai by unfold gU;rw[uh];rfl];simp
  simp only[aD,aC,al,cO,bu,bB,bR,e2]
 |true=>
  obtain⟨c0,c1⟩:=VS hb uh;have ht:(conn b p (k:Int)).1.toNat<b.aA.toNat:=by omega
  obtain⟨g0,g1⟩:=Bf (p:=p) hb ht;obtain⟨m,hm⟩:=nr g0;have mB:m<b.aA.toNat:=by omega
  have lY:=oi (gU b p m) k;have e2:(ee b p b.aA.toNat k 0).set m ⟨bC (iM b p m) b.aA.toNat,bC (gU b p m) k++[(k:Int)],bC (gZ b p m) 0⟩=ee b p b.aA.toNat (k+1) 0:=by
   apply jW
   ·simp[ee]
   ·intro i hi;have eo:i<b.aA.toNat:=by simpa[ee]using hi
    rw[gE (by omega),vh eo,vh eo,pd];by_cases yz:i=m
    ·subst yz;have:gU b p i k=ab:=by unfold gU;rw[uh,hm];simp
     rw[aG rfl,aG this]
    ·have:gU b p i k=ai:=by unfold gU;rw[uh,hm];simp;omega
     rw[aK yz,this];simp
  have e3:(ee b p b.aA.toNat (k+1) 0).length=b.aA.toNat:=yk _ _ _ _ _;simp only[aH,iI c0 (show(conn b p (k:Int)).1<((cq b p).length:Int) by omega),al,cO,bu,bB,bR,hm,PP,aO (show m<(ee b p b.aA.toNat k 0).length by omega),vh mB,cJ (show(bC (gU b p m) k).length+[(k:Int)].length<=1073741824 by simp;omega),jy (show m<(ee b p b.aA.toNat k 0).length by omega),e2,aO (show m<(ee b p b.aA.toNat (k+1) 0).length by omega)]
def axb(hl:gj b)(hb:cD b)(hs:Sm b.ae)(hc:p.aF.length=b.ae.length):aI (IS b p (cq b p)) ((0:Int),ee b p b.aA.toNat b.aj.length 0)=aa (ee b p b.aA.toNat b.aj.length b.ay.length):=by
 have pC:=hl.jd;have DP:=UX b p;have mx:=hl.iL;refine dO (step:=IS b p (cq b p)) (λk=>((k:Int),ee b p b.aA.toNat b.aj.length k)) b.ay.length (λk hk=>?_) (by simp only[IS,bI,aD,aC]);have hlen:=yk b p b.aA.toNat b.aj.length k;simp only[IS,ba hk,aH,aeB hs hc,al,cO,bu,bB,bR,a_ (show k<1000000000000000000 by omega)];cases uh:(gb b p 3 (k:Int)).2 with
 |false=>
  have e2:ee b p b.aA.toNat b.aj.length (k+1)=ee b p b.aA.toNat b.aj.length k:=by unfold ee;refine Fu λf _=>?_;rw[pd,show gZ b p f k=ai by unfold gZ;rw[uh];rfl];simp
  simp only[aD,aC,al,cO,bu,bB,bR,e2]
 |true=>
  obtain⟨c0,c1⟩:=SV hb uh;have ht:(gb b p 3 (k:Int)).1.toNat<b.aA.toNat:=by omega
  obtain⟨g0,g1⟩:=Bf (p:=p) hb ht;obtain⟨m,hm⟩:=nr g0;have mB:m<b.aA.toNat:=by omega
  have lY:=oi (gZ b p m) k;have e2:(ee b p b.aA.toNat b.aj.length k).set m ⟨bC (iM b p m) b.aA.toNat,bC (gU b p m) b.aj.length,bC (gZ b p m) k++[(k:Int)]⟩=ee b p b.aA.toNat b.aj.length (k+1):=by
   apply jW
   ·simp[ee]
   ·intro i hi;have eo:i<b.aA.toNat:=by simpa[ee]using hi
    rw[gE (by omega),vh eo,vh eo,pd];by_cases yz:i=m
    ·subst yz;have:gZ b p i k=ab:=by unfold gZ;rw[uh,hm];simp
     rw[aG rfl,aG this]
    ·have:gZ b p i k=ai:=by unfold gZ;rw[uh,hm];simp;omega
     rw[aK yz,this];simp
  have e3:(ee b p b.aA.toNat b.aj.length (k+1)).length=b.aA.toNat:=yk _ _ _ _ _;simp only[aH,iI c0 (show(gb b p 3 (k:Int)).1<((cq b p).length:Int) by omega),al,cO,bu,bB,bR,hm,PP,aO (show m<(ee b p b.aA.toNat b.aj.length k).length by omega),vh mB,cJ (show(bC (gZ b p m) k).length+[(k:Int)].length<=1073741824 by simp;omega),jy (show m<(ee b p b.aA.toNat b.aj.length k).length by omega),e2,aO (show m<(ee b p b.aA.toNat b.aj.length (k+1)).length by omega)]
end
def axK{l:List bt}(hl:Sm l):Ki l=aa (l.filter λx=> !x.aA.isEmpty):=by
 have hE:∀x:bt,IV x=aa (x.aA.isEmpty):=λx=>by
  unfold IV;cases h:x.aA with
  |nil=>rfl
  |cons a l=>simp[len];omega
 have h:=vc (step:=CI l) (λk=>(k:Int)) l.length (λk=>(gt l k).aA.isEmpty) (R:=λk=> .inr (k:Int)) (e:= .inl ())
  (λk hk hp=>by simp only[CI,hE,ba hk,aH,aO hk,al,cO,bu,bB,bR,hp,aD,aC,a_ (eN hl hk)])
  (λk hk hp=>by simp only[CI,hE,ba hk,aH,aO hk,al,cO,bu,bB,bR,hp])
  (by simp only[CI,bI,aD,aC])
 have h':aI (CI l) 0=_:=h;have DE:∀m,m<=l.length->(∀k,k<m->(gt l k).aA.isEmpty=ai)->(l.take m).filter (λx=> !x.aA.isEmpty)=l.take m:=by intro m hm hk;rw[List.filter_eq_self];intro x hx;obtain⟨k,h1,rfl⟩:=(Dg hm).1 hx;rw[hk k h1];rfl
 unfold Ki Q6;rw[h'];cases hf:(bV l.length).find? (λk=>(gt l k).aA.isEmpty)with
 |none=>
  have gD:∀k,k<l.length->(gt l k).aA.isEmpty=ai:=λk hk=>by have:=tp.1 hf k (er.2 hk);simpa using this
  have:=DE l.length (bw _) gD;rw[oR]at this;rw[this];rfl
 |some k0=>
  have mD:=er.1 (v8 hf);have TR:(gt l k0).aA.isEmpty=ab:=B3 (p:=λk=>(gt l k).aA.isEmpty) hf;have au0:∀k,k<k0->(gt l k).aA.isEmpty=ai:=by
   obtain⟨_,la,lb,h2,h3⟩:=List.find?_eq_some_iff_append.1 hf;intro k hk;have hlen:la.length=k0:=by
    have h4:(bV l.length)[la.length]? =aa k0:=by rw[h2];simp
    rw[Jp (by have:=ik List.length h2;simp at this;omega)]at h4
    exact jM h4
   have iq:k∈la:=by have h4:(bV l.length)[k]? =aa k:=Jp (by omega);rw[h2,List.getElem?_append_left (by omega)]at h4;exact List.mem_of_getElem? h4
   simpa using h3 k iq
  have bQ:((k0:Int)== -1)=ai:=dG (by omega);have DA:k0<1000000000000000000:=eN hl mD;simp only[al,cO,bu,bB,bR,bB,bQ,aD,aC,a_ DA];have wX:Wp (aI Kh ((k0:Int),((k0+1:Nat):Int),l)) λr=>∃(i:Nat) (x:List bt),r=((i:Int),x)∧i<=l.length∧x.length=l.length∧x.take i=l.filter λx=> !x.aA.isEmpty:=by
   refine dS (l.length-(k0+1)) (λm s=>∃(i:Nat) (x:List bt),s=((i:Int),((k0+1+m:Nat):Int),x)∧i<k0+1+m∧x.length=l.length∧x.take i=(l.take (k0+1+m)).filter (λx=> !x.aA.isEmpty)∧∀q,k0+1+m<=q->gt x q=gt l q) ⟨k0,l,rfl,by omega,rfl,?_,λ_ _=>rfl⟩ ?_ ?_
   ·rw[Nat.add_zero,lh mD,uG,DE k0 (by omega) au0];simp[TR]
   ·rintro m s hm ⟨i,x,rfl,h1,h2,h3,h4⟩;have hj:k0+1+m<l.length:=by omega
    have hs:k0+1+m<1000000000000000000:=eN hl hj;have hg:=h4 (k0+1+m) (bw _);unfold Kh;simp only[ba (show k0+1+m<x.length by omega),aH,aO (show k0+1+m<x.length by omega),aO (show i<x.length by omega),hg,hE,al,cO,bu,bB,bR,jy (show i<x.length by omega),a_ (show i<1000000000000000000 by omega),a_ hs];cases he:(gt l (k0+1+m)).aA.isEmpty with
    |true=>simp only[eg,aD,aC,al,cO,bu,bB,bR];refine ar.2 ⟨i,x,rfl,by omega,h2,?_,λq hq=>h4 q (by omega)⟩;rw[show k0+1+(m+1)=k0+1+m+1 from rfl,lh hj,uG,h3];simp[he]
    |false=>
     simp only[lM,aH,al,cO,bu,bB,bR];refine ar.2 ⟨i+1,_,rfl,by omega,by simpa using h2,?_,λq hq=>?_⟩
     ·rw[show k0+1+(m+1)=k0+1+m+1 from rfl,lh hj,uG,<-h3,lh (show i<(x.set i (gt l (k0+1+m))).length by simp;omega),gE (by omega),aG rfl,List.take_set_of_le (bw _)];simp[he]
     ·rw[gE (by omega),aK (by omega)];exact h4 q (by omega)
   ·rintro s ⟨i,x,rfl,h1,h2,h3,h4⟩;have e:k0+1+(l.length-(k0+1))=l.length:=by omega
    rw[e]at h1 h3⊢;rw[oR]at h3;unfold Kh;have e1:ak ((l.length:Int)<len x)=ai:=dF (by unfold len;omega);simp only[e1,aD,aC];exact ar.2 ⟨i,x,rfl,by omega,h2,h3⟩
  obtain⟨r,hr,i,x,rfl,h2,h3,h4⟩:=wX;rw[hr];simp only[al,cO,bu,bB,bR];have s1:dI x (i:Int) (len x)=aa ((x.take (len x).toNat).drop (i:Int).toNat):=by unfold dI len;rw[aG ⟨by omega,by omega,by omega⟩]
  rw[s1];simp only[al,cO,bu,bB,bR,iE];have vv:(x.take i).length=i:=by simp;omega
  unfold rL;rw[iE,CO (xs:=x.take i++cR (x.length-i) (⟨[],[],[]⟩:bt)) (n:=i) (by simp;omega)];rw[List.take_append_of_le_length (by omega),List.take_of_length_le (by omega),h4]
section
variable {b:au} {p:aw}
def ff:bi b p=0↔(gj b∧qQ b)∧Shape b p∧vW b p:=by
 unfold bi;by_cases h0:ng b=0
 ·rw[aG h0];have h1:=Bw.1 h0;by_cases h2:Shape b p<;>by_cases h3:vW b p<;>simp[h1,h2,h3]
 ·rw[aK h0];exact⟨λh=>(h0 h).elim,λh=>(h0 (Bw.2 h.1)).elim⟩
def S6(hb:fp b)(hp:dp p)(h:bi b p=0):y5 b p=aa (bj b p):=by
 obtain⟨⟨hl,hg⟩,mX,_⟩:=ff.1 h;have pC:=hl.jd;obtain⟨n,hn⟩:=nr (show 0<=b.aA by omega);have vr:mu (⟨[],[],[]⟩:bt) b.aA=aa (ee b p 0 0 0):=by
  rw[hn,x_ (by omega)];congr 1;apply jW
  ·simp[ee,hn]
  ·intro k hk;have cT:k<n:=by simpa using hk
   rw[Be cT,vh (by omega)];rfl
 unfold y5;rw[xF hb hp,h];simp only[al,cO,bu,bB,bR,me,aD,aC,av3 hl hg.1 hb.1 mX.1,vr,axd hl hg.1,axc hl hg.1 hb.1 hp.2.1 mX.1,axb hl hg.1 hb.1 mX.1];rw[axK (by unfold Sm;rw[yk];omega)];rfl
def ar4(hb:fp b)(hp:dp p)(h:bi b p≠0):y5 b p=aa []:=by
 unfold y5;rw[xF hb hp];have:(bi b p !=0)=ab:=by simpa using h
 simp only[al,cO,bu,bB,bR,this,aH]
def Af{x:bt}:x∈bj b p↔∃f,f<b.aA.toNat∧x=dW b p f∧(dW b p f).aA≠[]:=by
 unfold bj ee;rw[k_,dC];constructor
 ·rintro⟨⟨f,hf,rfl⟩,h⟩;refine⟨f,er.1 hf,rfl,λe=>?_⟩;have e':bC (iM b p f) b.aA.toNat=[]:=e;rw[e']at h;cases h
 ·rintro⟨f,hf,rfl,h⟩;refine⟨⟨f,er.2 hf,rfl⟩,?_⟩;cases he:(dW b p f).aA with
  |nil=>exact(h he).elim
  |cons _ _=>rfl
def GQ{f:Nat}{x:Int}:x∈(dW b p f).aA↔∃i,i<b.aA.toNat∧gt (cq b p) i=(f:Int)∧x=(i:Int):=by
 show x∈bC (iM b p f) b.aA.toNat↔_;rw[yc];constructor
 ·rintro⟨i,h1,h2,h3⟩;exact⟨i,h1,by simpa[iM]using h2,h3⟩
 ·rintro⟨i,h1,h2,h3⟩;exact⟨i,h1,by simp[iM,h2],h3⟩
def LU{f:Nat}{x:Int}:x∈(dW b p f).aj↔∃j,j<b.aj.length∧(conn b p (j:Int)).2=ab∧gt (cq b p) (conn b p (j:Int)).1.toNat=(f:Int)∧x=(j:Int):=by
 show x∈bC (gU b p f) b.aj.length↔_;rw[yc];constructor
 ·rintro⟨i,h1,h2,h3⟩;unfold gU at h2;simp only[bq,xr]at h2;exact⟨i,h1,h2.1,h2.2,h3⟩
 ·rintro⟨i,h1,h2,h3,h4⟩;exact⟨i,h1,by unfold gU;rw[h2,h3];simp,h4⟩
def aby{f:Nat}{x:Int}:x∈(dW b p f).ay↔∃j,j<b.ay.length∧(gb b p 3 (j:Int)).2=ab∧gt (cq b p) (gb b p 3 (j:Int)).1.toNat=(f:Int)∧x=(j:Int):=by
 show x∈bC (gZ b p f) b.ay.length↔_;rw[yc];constructor
 ·rintro⟨i,h1,h2,h3⟩;unfold gZ at h2;simp only[bq,xr]at h2;exact⟨i,h1,h2.1,h2.2,h3⟩
 ·rintro⟨i,h1,h2,h3,h4⟩;exact⟨i,h1,by unfold gZ;rw[h2,h3];simp,h4⟩
def eJ(b:au)(p:aw)(k:Int):bt:=dW b p (gt (cq b p) k.toNat).toNat
def ab_(hb:cD b){k:Int}(h0:0<=k)(h1:k<b.aA):eJ b p k∈bj b p∧k∈(eJ b p k).aA:=by obtain⟨g0,g1⟩:=Bf (p:=p) hb (show k.toNat<b.aA.toNat by omega);have hm:k∈(eJ b p k).aA:=GQ.2 ⟨k.toNat,by omega,by omega,by omega⟩;exact⟨Af.2 ⟨_,by omega,rfl,λe=>by rw[show dW b p (gt (cq b p) k.toNat).toNat=eJ b p k from rfl]at e;rw[e]at hm;cases hm⟩,hm⟩
def ab9{x:bt}(hx:x∈bj b p){k:Int}(hk:k∈x.aA):0<=k∧k<b.aA.toNat∧x=eJ b p k:=by obtain⟨f,hf,rfl,_⟩:=Af.1 hx;obtain⟨i,hi,hg,rfl⟩:=GQ.1 hk;refine⟨by omega,by omega,?_⟩;unfold eJ;rw[iE,hg,iE]
def G1:(bj b p).length<=b.aA.toNat:=by unfold bj;refine lK (zi _ _) ?_;rw[yk];exact bw _
def Du(f:Nat):(dW b p f).aA.length<=b.aA.toNat∧(dW b p f).aj.length<=b.aj.length∧(dW b p f).ay.length<=b.ay.length:=⟨oi _ _,oi _ _,oi _ _⟩
def fO(b:au)(p:aw)(k:Int):bt×Bool:=if bi b p=0∧0<=k∧k<b.aA then(eJ b p k,ab)else(⟨[],[],[]⟩,ai)
def pg(b:au)(p:aw)(k:Int):List Int×List Int×List Int×Bool:=((fO b p k).1.aA,(fO b p k).1.aj,(fO b p k).1.ay,(fO b p k).2)
def of_eq(hb:fp b)(hp:dp p)(k:Int):xm b p k=aa (pg b p k):=by
 unfold xm pg fO;by_cases h:bi b p=0
 case neg=>rw[ar4 hb hp h,aK (λhh=>h hh.1)];have:aI (yZ k []) 0=aa (.inl ()):=ou (.done (by simp[yZ,len])) (by omega);simp only[al,cO,bu,bB,bR,this,bu]
 obtain⟨⟨hl,hg⟩,mX,_⟩:=ff.1 h;have pC:=hl.jd;have lA:=G1 (b:=b) (p:=p);rw[S6 hb hp h];simp only[al,cO,bu,bB,bR];have fF:∀q,q<(bj b p).length->Sm (gt (bj b p) q).aA:=λq hq=>by obtain⟨f,hf,e,_⟩:=Af.1 (du hq);rw[e];have:=(Du (b:=b) (p:=p) f).1;unfold Sm;omega
 have h1:=vc (step:=yZ k (bj b p)) (λi=>(i:Int)) (bj b p).length (λi=>decide (k∈(gt (bj b p) i).aA)) (R:=λi=> .inr ((gt (bj b p) i).aA,(gt (bj b p) i).aj,(gt (bj b p) i).ay,ab)) (e:= .inl ())
  (λi hi hq=>by simp only[yZ,ba hi,aH,aO hi,al,cO,bu,bB,bR,contains_eq (fF i hi),hq,aD,aC,a_ (show i<1000000000000000000 by omega)])
  (λi hi hq=>by simp only[yZ,ba hi,aH,aO hi,al,cO,bu,bB,bR,contains_eq (fF i hi),hq])
  (by simp only[yZ,bI,aD,aC])
 have m_:aI (yZ k (bj b p)) 0=_:=h1;rw[m_];cases hf:(bV (bj b p).length).find? (λi=>decide (k∈(gt (bj b p) i).aA))with
 |none=>
  have:¬(bi b p=0∧0<=k∧k<b.aA):=λhh=>by obtain⟨h2,h3⟩:=ab_ (p:=p) hg.1 hh.2.1 hh.2.2;obtain⟨q,hq,e⟩:=om h2;have:=tp.1 hf q (er.2 hq);rw[e]at this;simp[h3]at this
  rw[aK this];rfl
 |some q=>have hq:=er.1 (v8 hf);have hk:k∈(gt (bj b p) q).aA:=jw (B3 (p:=λi=>decide (k∈(gt (bj b p) i).aA)) hf);obtain⟨k0,k1,e⟩:=ab9 (du hq) hk;rw[aG ⟨h,k0,by omega⟩,<-e];rfl
def NZ(b:au)(p:aw)(j:Int):Int×Bool:=if bi b p=0 then conn b p j else(0,ai)
def vJ(b:au)(p:aw)(j:Int):Int×Bool:=if bi b p=0 then gb b p 3 j else(0,ai)
end
def eD(b:au)(kind j:Int)(k:Nat):Bool:=(gt b.ae k).Kind==kind&&((gt b.ae k).B==j||(kind==1&&(gt b.ae k).A==j))
end Rx
namespace Rx
section
variable {b:au} {p:aw}
def arp(hb:fp b)(hp:dp p)(k:Int):ER b p k=aa (ak (0<(fO b p k).1.aj.length)):=by unfold ER;rw[of_eq hb hp];simp only[al,cO,bu,bB,bR];congr 1;rw[BY];simp only[pg,len];omega
end
end Rx
namespace Rx
section
variable {b:au} {p:aw}
def axe(hb:fp b)(hp:dp p)(j:Int):IW b p j=aa (vJ b p j):=by
 unfold IW vJ;rw[xF hb hp];by_cases h:bi b p=0
 ·rw[aG h,h];simp only[al,cO,bu,bB,bR,me,aD,aC,aeB hb.1 (ff.1 h).2.1.1]
 ·have:(bi b p !=0)=ab:=by simpa using h
  simp only[al,cO,bu,bB,bR,this,aH,aK h]
end
section
variable {b:au} {p:aw}
end
end Rx
namespace Rx
open Classical
def xQ{b:au}(hs:Sm b.ae)(kind j:Int):yL b kind j=aa (bC (eD b kind j) b.ae.length):=by
 have h1:=dO (step:=H' b kind j) (λk=>((k:Int),bC (eD b kind j) k)) b.ae.length (r:=bC (eD b kind j) b.ae.length)
  (λk hk=>by have lY:=oi (eD b kind j) k;have ub:=eN hs hk;have xd:bF (bC (eD b kind j) k) [(k:Int)]=aa (bC (eD b kind j) k++[(k:Int)]):=cJ (by unfold Sm at hs;simp;omega);simp only[H',ba hk,aH,aO hk,al,a_ ub,pd,xd];unfold eD;cases e1:(gt b.ae k).Kind==kind<;>cases e2:(gt b.ae k).B==j<;>cases e3:kind==1<;>cases e4:(gt b.ae k).A==j<;>simp)
  (by simp only[H',bI,aD,aC])
 have m_:aI (H' b kind j) (0,[])=_:=h1;unfold yL;rw[m_];rfl
def aaX(P:Nat->Bool)(k:Nat):(bC P (k+1)).length=(bC P k).length+if P k=ab then 1 else 0:=by rw[pd,cU];split<;>rfl
def GJ{P:Nat->Bool}{n:Nat}:(bC P n).length=0↔∀k,k<n->P k=ai:=by
 induction n with
 |zero=>simp[bC]
 |succ n ih=>
  rw[aaX];constructor
  ·intro h k hk;by_cases hp:P n=ab
   ·rw[aG hp]at h;omega
   ·by_cases Hy:k=n
    ·subst Hy;simpa using hp
    ·exact ih.1 (by omega) k (by omega)
  ·intro h;rw[ih.2 λk hk=>h k (by omega),h n (by omega)];rfl
def Lm{P:Nat->Bool}{n:Nat}:(bC P n).length=1↔(∃k,k<n∧P k=ab)∧∀i j,i<j->j<n->P i=ab->P j=ab->False:=by
 induction n with
 |zero=>simp[bC]
 |succ n ih=>
  rw[aaX];constructor
  ·intro h;by_cases hp:P n=ab
   ·rw[aG hp]at h;have h0:=GJ.1 (show(bC P n).length=0 by omega);refine⟨⟨n,by omega,hp⟩,λi j iJ hj hi _=>?_⟩;rw[h0 i (by omega)]at hi;cases hi
   ·rw[aK hp]at h;obtain⟨⟨k,hk,pA⟩,hu⟩:=ih.1 (by omega);refine⟨⟨k,by omega,pA⟩,λi j iJ hj hi hpj=>?_⟩;by_cases hjn:j=n
    ·subst hjn;exact hp hpj
    ·exact hu i j iJ (by omega) hi hpj
  ·rintro⟨⟨k,hk,pA⟩,hu⟩;by_cases hp:P n=ab
   ·rw[aG hp,GJ.2 λi hi=>by
     cases wU:P i with
     |false=>rfl
     |true=>exact(hu i n hi (by omega) wU hp).elim]
   ·rw[aK hp];have Hy:k≠n:=λe=>hp (e▸pA);exact ih.2 ⟨⟨k,by omega,pA⟩,λi j iJ hj=>hu i j iJ (by omega)⟩
def D7{b:au}{j k:Nat}:eD b 2 (j:Int) k=ab↔oy (gt b.ae k) j:=by unfold eD oy;by_cases h1:(gt b.ae k).Kind=2<;>by_cases h2:(gt b.ae k).B=(j:Int)<;>simp[h1,h2]
def Nk{b:au}{j k:Nat}:eD b 3 (j:Int) k=ab↔pn (gt b.ae k) j:=by unfold eD pn;by_cases h1:(gt b.ae k).Kind=3<;>by_cases h2:(gt b.ae k).B=(j:Int)<;>simp[h1,h2]
def PD(b:au)(k:Nat):Prop:=
 (0<=(gt b.ae k).A∧(gt b.ae k).A<=b.aA-1)∧
 (((gt b.ae k).Kind=1∧(gt b.ae k).A+1<=(gt b.ae k).B∧(gt b.ae k).B<=b.aA-1)∨
  ((gt b.ae k).Kind=2∧(0<=(gt b.ae k).B∧(gt b.ae k).B<=(b.aj.length:Int)-1))∨
  ((gt b.ae k).Kind=3∧(0<=(gt b.ae k).B∧(gt b.ae k).B<=(b.ay.length:Int)-1)∧∀i,i<k->¬((gt b.ae i).Kind=(gt b.ae k).Kind∧(gt b.ae i).A=(gt b.ae k).A∧(gt b.ae i).B=(gt b.ae k).B)))
def GD{b:au}:cD b↔(∀k,k<b.ae.length->PD b k)∧(∀j,j<b.aj.length->(bC (eD b 2 (j:Int)) b.ae.length).length=1)∧∀j,j<b.ay.length->(bC (eD b 3 (j:Int)) b.ae.length).length≠0:=by
 constructor
 ·rintro⟨h1,h2,h3⟩;refine⟨λk hk=>?_,λj hj=>Lm.2 ⟨?_,λi k eL hk hi hp=>?_⟩,λj hj h0=>?_⟩
  ·obtain⟨hA,hB⟩:=h1 k hk;refine⟨hA,?_⟩;rcases hB with h|⟨h4,h5,_⟩|⟨h4,h5,h6⟩
   ·exact .inl h
   ·exact .inr (.inl ⟨h4,h5⟩)
   ·exact .inr (.inr ⟨h4,h5,λi hi hh=>h6 i hi ⟨by rw[hh.1];exact h4,hh.2.2,hh.2.1⟩⟩)
  ·obtain⟨k,hk,hs⟩:=h2 j hj;exact⟨k,hk,D7.2 hs⟩
  ·have eo:=D7.1 hi;have qj:=D7.1 hp;rcases(h1 k hk).2 with h|⟨h4,h5,h6⟩|⟨h4,_⟩
   ·have:=h.1;have:=qj.1;omega
   ·exact h6 i eL ⟨eo.1,by rw[eo.2,qj.2]⟩
   ·have:=qj.1;omega
  ·obtain⟨k,hk,hs⟩:=h3 j hj;have:=GJ.1 h0 k hk;rw[Nk.2 hs]at this;cases this
 ·rintro⟨h1,h2,h3⟩;refine⟨λk hk=>?_,λj hj=>?_,λj hj=>?_⟩
  ·obtain⟨hA,hB⟩:=h1 k hk;refine⟨hA,?_⟩;rcases hB with h|⟨h4,h5⟩|⟨h4,h5,h6⟩
   ·exact .inl h
   ·refine .inr (.inl ⟨h4,h5,λi hi hh=>?_⟩);have hj:(gt b.ae k).B=((gt b.ae k).B.toNat:Int):=by omega
    obtain⟨_,hu⟩:=Lm.1 (h2 (gt b.ae k).B.toNat (by omega));exact hu i k hi hk (D7.2 ⟨hh.1,by rw[hh.2];exact hj⟩) (D7.2 ⟨h4,hj⟩)
   ·exact .inr (.inr ⟨h4,h5,λi hi hh=>h6 i hi ⟨by rw[hh.1,h4],hh.2.2,hh.2.1⟩⟩)
  ·obtain⟨⟨k,hk,hp⟩,_⟩:=Lm.1 (h2 j hj);exact⟨k,hk,D7.1 hp⟩
  ·apply gw;intro hn;refine h3 j hj (GJ.2 λk hk=>?_);cases hp:eD b 3 (j:Int) k with
   |false=>rfl
   |true=>exact(hn ⟨k,hk,Nk.1 hp⟩).elim
def ao'{b:au}(hl:gj b):Nv b=aa (ak (cD b)):=by
 have hb:=hl.jd;have nM:=hl.cZ;have mx:=hl.src;have DT:=hl.iL;have fF:Sm b.ae:=by unfold Sm;omega
 have eB:W (b.aA-1)=b.aA-1:=bY (by omega) (by omega);have eS:W (len b.aj-1)=(b.aj.length:Int)-1:=by unfold len;exact bY (by omega) (by omega)
 have eC:W (len b.ay-1)=(b.ay.length:Int)-1:=by unfold len;exact bY (by omega) (by omega)
 have ir:∀k,k<b.ae.length->aI (Ef (gt b.ae k) (b.ae.take k)) 0=aa (if ∃i,i<k∧((gt b.ae i).Kind=(gt b.ae k).Kind∧(gt b.ae i).A=(gt b.ae k).A∧(gt b.ae i).B=(gt b.ae k).B)then .inr (.inr (.inr (.inr (.inr ai))))else .inl ()):=by
  intro k hk;have hlen:(b.ae.take k).length=k:=by simp;omega
  have hg:∀i,i<k->gt (b.ae.take k) i=gt b.ae i:=λi hi=>by rw[fH (by omega),fH (by omega)];simp
  refine uH (ot (step:=Ef (gt b.ae k) (b.ae.take k)) (λi=>(i:Int)) k (λi=>(gt b.ae i).Kind=(gt b.ae k).Kind∧(gt b.ae i).A=(gt b.ae k).A∧(gt b.ae i).B=(gt b.ae k).B) (r:= .inr (.inr (.inr (.inr (.inr ai))))) (e:= .inl ())
   (λi hi hp=>by
     have e:((gt b.ae i).Kind==(gt b.ae k).Kind&&((gt b.ae i).A==(gt b.ae k).A&&(gt b.ae i).B==(gt b.ae k).B))=ai:=by
      by_cases h1:(gt b.ae i).Kind=(gt b.ae k).Kind
      ·by_cases h2:(gt b.ae i).A=(gt b.ae k).A
       ·rw[gh h1,gh h2,dG (λh3=>hp ⟨h1,h2,h3⟩)];rfl
       ·rw[gh h1,dG h2];rfl
      ·rw[dG h1];rfl
     simp only[Ef,ba (show i<(b.ae.take k).length by omega),aH,aO (show i<(b.ae.take k).length by omega),hg i hi,al,e,aD,aC,a_ (show i<1000000000000000000 by omega)])
   (λi hi hp=>by simp only[Ef,ba (show i<(b.ae.take k).length by omega),aH,aO (show i<(b.ae.take k).length by omega),hg i hi,al,gh hp.1,gh hp.2.1,gh hp.2.2,Bool.and_self])
   (by have e1:ak ((k:Int)<len (b.ae.take k))=ai:=dF (by unfold len;omega);simp only[Ef,e1,aD,aC])) (by congr)
 have l1:aI (Br b) 0=aa (if ∃k,k<b.ae.length∧¬PD b k then .inr ai else .inl ()):=by
  refine uH (ot (r:= .inr ai) (e:= .inl ()) (step:=Br b) (λk=>(k:Int)) b.ae.length (λk=>¬PD b k) (λk hk hp=>?_) (λk hk hp=>?_) (by simp only[Br,bI,aD,aC])) (by congr)
  ·obtain⟨hA,hB⟩:=rW.1 hp;have Bp:W ((gt b.ae k).A+1)=(gt b.ae k).A+1:=bY (by omega) (by omega);simp only[Br,ba hk,aH,aO hk,al,pX,eB,eS,eC,Bp,dT hA,eg,aD,aC];rcases hB with⟨h1,h2⟩|⟨h1,h2⟩|⟨h1,h2,h3⟩
   ·simp only[gh h1,aH,dT h2,eg,aD,aC,al,bu,a_ (show k<1000000000000000000 by omega)]
   ·simp only[dG (show(gt b.ae k).Kind≠1 by omega),gh h1,aH,dT h2,eg,aD,aC,al,bu,a_ (show k<1000000000000000000 by omega)]
   ·have nG:¬∃i,i<k∧((gt b.ae i).Kind=(gt b.ae k).Kind∧(gt b.ae i).A=(gt b.ae k).A∧(gt b.ae i).B=(gt b.ae k).B):=λ⟨i,hi,hh⟩=>h3 i hi hh;simp only[dG (show(gt b.ae k).Kind≠1 by omega),dG (show(gt b.ae k).Kind≠2 by omega),gh h1,aH,dT h2,eg,aD,aC,CO (show k<=b.ae.length by omega),al,ir k hk,aK nG,bu,a_ (show k<1000000000000000000 by omega)]
  ·by_cases hA:0<=(gt b.ae k).A∧(gt b.ae k).A<=b.aA-1
   case neg=>simp only[Br,ba hk,aH,aO hk,al,pX,eB,dF hA,lM]
   have Bp:W ((gt b.ae k).A+1)=(gt b.ae k).A+1:=bY (by omega) (by omega);simp only[Br,ba hk,aH,aO hk,al,pX,eB,eS,eC,Bp,dT hA,eg,aD,aC];by_cases h1:(gt b.ae k).Kind=1
   ·have h2:¬((gt b.ae k).A+1<=(gt b.ae k).B∧(gt b.ae k).B<=b.aA-1):=λh=>hp ⟨hA,.inl ⟨h1,h⟩⟩;simp only[gh h1,aH,dF h2,lM,al,bB]
   by_cases h2:(gt b.ae k).Kind=2
   ·have h3:¬(0<=(gt b.ae k).B∧(gt b.ae k).B<=(b.aj.length:Int)-1):=λh=>hp ⟨hA,.inr (.inl ⟨h2,h⟩)⟩;simp only[dG h1,gh h2,aH,dF h3,lM,aD,aC,al,bB]
   by_cases h3:(gt b.ae k).Kind=3
   case neg=>simp only[dG h1,dG h2,dG h3,aD,aC,al,bB]
   by_cases h4:0<=(gt b.ae k).B∧(gt b.ae k).B<=(b.ay.length:Int)-1
   case neg=>simp only[dG h1,dG h2,gh h3,aH,dF h4,lM,aD,aC,al,bB]
   have G8:∃i,i<k∧((gt b.ae i).Kind=(gt b.ae k).Kind∧(gt b.ae i).A=(gt b.ae k).A∧(gt b.ae i).B=(gt b.ae k).B):=by apply gw;intro hn;exact hp ⟨hA,.inr (.inr ⟨h3,h4,λi hi hh=>hn ⟨i,hi,hh⟩⟩)⟩
   simp only[dG h1,dG h2,gh h3,aH,dT h4,eg,aD,aC,CO (show k<=b.ae.length by omega),al,ir k hk,aG G8,bB]
 have l3:aI (Ee b) 0=aa (if ∃j,j<b.aj.length∧¬(bC (eD b 2 (j:Int)) b.ae.length).length=1 then .inr ai else .inl ()):=by
  refine uH (ot (r:= .inr ai) (e:= .inl ()) (step:=Ee b) (λk=>(k:Int)) b.aj.length (λj=>¬(bC (eD b 2 (j:Int)) b.ae.length).length=1) (λj hj hp=>?_) (λj hj hp=>?_) (by simp only[Ee,bI,aD,aC])) (by congr)
  ·have e:(len (bC (eD b 2 (j:Int)) b.ae.length) !=1)=ai:=by have:=rW.1 hp;simp[len,this]
   simp only[Ee,ba hj,aH,xQ fF,al,e,aD,aC,a_ (show j<1000000000000000000 by omega)]
  ·have e:(len (bC (eD b 2 (j:Int)) b.ae.length) !=1)=ab:=by simp[len];omega
   simp only[Ee,ba hj,aH,xQ fF,al,e]
 have l4:aI (Ed b) 0=aa (if ∃j,j<b.ay.length∧(bC (eD b 3 (j:Int)) b.ae.length).length=0 then .inr ai else .inl ()):=by
  refine uH (ot (r:= .inr ai) (e:= .inl ()) (step:=Ed b) (λk=>(k:Int)) b.ay.length (λj=>(bC (eD b 3 (j:Int)) b.ae.length).length=0) (λj hj hp=>?_) (λj hj hp=>?_) (by simp only[Ed,bI,aD,aC])) (by congr)
  ·have e:ak (len (bC (eD b 3 (j:Int)) b.ae.length)<1)=ai:=dF (by unfold len;omega);simp only[Ed,ba hj,aH,xQ fF,al,e,aD,aC,a_ (show j<1000000000000000000 by omega)]
  ·have e:ak (len (bC (eD b 3 (j:Int)) b.ae.length)<1)=ab:=dT (by unfold len;omega);simp only[Ed,ba hj,aH,xQ fF,al,e]
 unfold Nv;rw[l1,al];by_cases g1:∃k,k<b.ae.length∧¬PD b k
 ·rw[aG g1,dF (λh:cD b=>by obtain⟨k,hk,hn⟩:=g1;exact hn ((GD.1 h).1 k hk))];rfl
 rw[aK g1,bu,l3,al];by_cases g2:∃j,j<b.aj.length∧¬(bC (eD b 2 (j:Int)) b.ae.length).length=1
 ·rw[aG g2,dF (λh:cD b=>by obtain⟨k,hk,hn⟩:=g2;exact hn ((GD.1 h).2.1 k hk))];rfl
 rw[aK g2,bu,l4,al];by_cases g3:∃j,j<b.ay.length∧(bC (eD b 3 (j:Int)) b.ae.length).length=0
 ·rw[aG g3,dF (λh:cD b=>by obtain⟨k,hk,hn⟩:=g3;exact(GD.1 h).2.2 k hk hn)];rfl
 rw[aK g3,dT (GD.2 ⟨λk hk=>gw λh=>g1 ⟨k,hk,h⟩,λk hk=>gw λh=>g2 ⟨k,hk,h⟩,λk hk h=>g3 ⟨k,hk,h⟩⟩)];rfl
end Rx
namespace Rx
open Classical
def ao0{b:au}(hl:gj b):Ns b=aa (ak (∀k,k<b.aj.length->mG (gt b.aj k))):=by
 have mx:=hl.src;have h:aI (Ea b) 0=aa (if ∃k,k<b.aj.length∧¬mG (gt b.aj k)then .inr ai else .inl ()):=by
  refine uH (ot (r:= .inr ai) (e:= .inl ()) (step:=Ea b) (λk=>(k:Int)) b.aj.length (λk=>¬mG (gt b.aj k)) (λk hk hp=>?_) (λk hk hp=>?_) (by simp only[Ea,bI,aD,aC])) (by congr)
  ·obtain⟨h1,h2,h3⟩:=rW.1 hp;simp only[Ea,ba hk,aH,aO hk,al,pX,dT h1,dT h2,dT h3,eg,aD,aC,a_ (show k<1000000000000000000 by omega)]
  ·simp only[Ea,ba hk,aH,aO hk,al,pX];by_cases h1:1<=(gt b.aj k).ig∧(gt b.aj k).ig<=50000
   case neg=>simp[h1]
   by_cases h2:0<=(gt b.aj k).eU∧(gt b.aj k).eU<=(gt b.aj k).ig
   case neg=>simp[h1,h2]
   have h3:¬(0<=(gt b.aj k).Start∧(gt b.aj k).Start<=600):=λh=>hp ⟨h1,h2,h⟩;simp[h1,h2,h3]
 unfold Ns;rw[h,al];by_cases g:∃k,k<b.aj.length∧¬mG (gt b.aj k)
 ·rw[aG g,dF (c:=∀k,k<b.aj.length->mG (gt b.aj k)) (λh=>by obtain⟨k,hk,hn⟩:=g;exact hn (h k hk))];rfl
 ·rw[aK g,dT (c:=∀k,k<b.aj.length->mG (gt b.aj k)) (λk hk=>gw λh=>g ⟨k,hk,h⟩)];rfl
def ao9{b:au}(hl:gj b)(hs:fp b):Nu b=aa (ak (∀k,k<b.ay.length->lJ (gt b.ay k) k)):=by
 have DT:=hl.iL;have ir:∀k,k<b.ay.length->aI (Eb (k:Int) (gt b.ay k)) 0=aa (if ∃i,i<(gt b.ay k).b_.length∧¬((0<=gt (gt b.ay k).b_ i∧gt (gt b.ay k).b_ i<=(k:Int)-1)∧(0<i->gt (gt b.ay k).b_ (i-1)<gt (gt b.ay k).b_ i))then .inr (.inr (.inr ai))else .inl ()):=by
  intro k hk;generalize hx:gt b.ay k=x;have hl:Sm x.b_:=hx▸hs.2.2.2 _ (du hk);have e0:W ((k:Int)-1)=(k:Int)-1:=bY (by omega) (by omega);refine uH (ot (step:=Eb (k:Int) x) (λi=>(i:Int)) x.b_.length (λi=>¬((0<=gt x.b_ i∧gt x.b_ i<=(k:Int)-1)∧(0<i->gt x.b_ (i-1)<gt x.b_ i))) (r:= .inr (.inr (.inr ai))) (e:= .inl ()) (λi hi hp=>?_) (λi hi hp=>?_) (by simp only[Eb,bI,aD,aC])) (by congr)
  ·obtain⟨h1,h2⟩:=rW.1 hp;simp only[Eb,ba hi,aH,aO hi,al,pX,e0,dT h1,eg,aD,aC];by_cases nL:0<i
   ·have h3:=h2 nL;rw[dT (c:=(i:Int)>0) (by omega)];simp only[aH,nQ (eN hl hi) nL,aO (show i-1<x.b_.length by omega),al,dF (c:=gt x.b_ (i-1)>=gt x.b_ i) (by omega),aD,aC,a_ (eN hl hi)]
   ·rw[dF (c:=(i:Int)>0) (by omega)];simp only[aD,aC,al,a_ (eN hl hi)]
  ·simp only[Eb,ba hi,aH,aO hi,al,pX,e0];by_cases h1:0<=gt x.b_ i∧gt x.b_ i<=(k:Int)-1
   ·have h2:0<i∧gt x.b_ i<=gt x.b_ (i-1):=by
     by_cases nL:0<i
     ·refine⟨nL,Int.not_lt.1 λh=>hp ⟨h1,λ_=>h⟩⟩
     ·exact(hp ⟨h1,λh=>(nL h).elim⟩).elim
    rw[dT h1,dT (c:=(i:Int)>0) (by omega)];simp only[eg,aD,aC,aH,nQ (eN hl hi) h2.1,aO (show i-1<x.b_.length by omega),al,dT (c:=gt x.b_ (i-1)>=gt x.b_ i) (by omega)]
   ·rw[dF h1];simp only[lM,aH,al]
 have bU:∀x:Consumer,(uD (aa (ak (0<=x.eT∧x.eT<=50000))) λx3=>if(!x3)=ab then aa ab else uD (aa (ak (0<=x.eU∧x.eU<=x.eT))) λx4=>if(!x4)=ab then aa ab else uD (aa (ak (0<=x.ky∧x.ky<=15))) λx5=>if(!x5)=ab then aa ab else uD (aa (ak (-1<=x.b8∧x.b8<=7))) λx6=>if(!x6)=ab then aa ab else aa (ak (len x.b_>4)))=aa (ak (¬((0<=x.eT∧x.eT<=50000)∧(0<=x.eU∧x.eU<=x.eT)∧(0<=x.ky∧x.ky<=15)∧(-1<=x.b8∧x.b8<=7)∧x.b_.length<=4))):=by
  intro x;have e5:ak (len x.b_>4)=ak (¬x.b_.length<=4):=by rw[BY];unfold len;omega
  rw[e5];simp only[al];by_cases h1:0<=x.eT∧x.eT<=50000
  case neg=>rw[dF h1,dT (c:=¬(_∧_)) (λh=>h1 h.1)];rfl
  by_cases h2:0<=x.eU∧x.eU<=x.eT
  case neg=>rw[dT h1,dF h2,dT (c:=¬(_∧_)) (λh=>h2 h.2.1)];rfl
  by_cases h3:0<=x.ky∧x.ky<=15
  case neg=>rw[dT h1,dT h2,dF h3,dT (c:=¬(_∧_)) (λh=>h3 h.2.2.1)];rfl
  by_cases h4: -1<=x.b8∧x.b8<=7
  case neg=>rw[dT h1,dT h2,dT h3,dF h4,dT (c:=¬(_∧_)) (λh=>h4 h.2.2.2.1)];rfl
  rw[dT h1,dT h2,dT h3,dT h4];by_cases h5:x.b_.length<=4
  ·rw[dF (c:=¬x.b_.length<=4) (λh=>h h5),dF (c:=¬(_∧_)) (λh=>h ⟨h1,h2,h3,h4,h5⟩)];rfl
  ·rw[dT (c:=¬x.b_.length<=4) h5,dT (c:=¬(_∧_)) (λh=>h5 h.2.2.2.2)];rfl
 have adv:∀k,XV (gt b.ay k).b_ k↔¬∃i,i<(gt b.ay k).b_.length∧¬((0<=gt (gt b.ay k).b_ i∧gt (gt b.ay k).b_ i<=(k:Int)-1)∧(0<i->gt (gt b.ay k).b_ (i-1)<gt (gt b.ay k).b_ i)):=
  λk=>⟨λh ⟨i,hi,hn⟩=>hn (h i hi),λh i hi=>gw λhn=>h ⟨i,hi,hn⟩⟩
 have h:aI (Ec b) 0=aa (if ∃k,k<b.ay.length∧¬lJ (gt b.ay k) k then .inr ai else .inl ()):=by
  refine uH (ot (r:= .inr ai) (e:= .inl ()) (step:=Ec b) (λk=>(k:Int)) b.ay.length (λk=>¬lJ (gt b.ay k) k) (λk hk hp=>?_) (λk hk hp=>?_) (by simp only[Ec,bI,aD,aC])) (by congr)
  ·obtain⟨h1,h2⟩:=rW.1 hp;simp only[Ec,ba hk,aH,aO hk,al,pX];have:=bU (gt b.ay k);simp only[al]at this;rw[this,dF (c:=¬(_∧_)) (λh=>h h2)];simp only[al,aD,aC];rw[ir k hk,aK ((adv k).1 h1)];simp only[al,bu,a_ (show k<1000000000000000000 by omega)]
  ·simp only[Ec,ba hk,aH,aO hk,al,pX];have:=bU (gt b.ay k);simp only[al]at this;rw[this];by_cases h2:(0<=(gt b.ay k).eT∧(gt b.ay k).eT<=50000)∧(0<=(gt b.ay k).eU∧(gt b.ay k).eU<=(gt b.ay k).eT)∧(0<=(gt b.ay k).ky∧(gt b.ay k).ky<=15)∧(-1<=(gt b.ay k).b8∧(gt b.ay k).b8<=7)∧(gt b.ay k).b_.length<=4
   ·rw[dF (c:=¬(_∧_)) (λh=>h h2)];simp only[al,aD,aC];rw[ir k hk,aG (gw λhn=>hp ⟨(adv k).2 hn,h2⟩)];rfl
   ·rw[dT (c:=¬(_∧_)) h2];rfl
 unfold Nu;rw[h,al];by_cases g:∃k,k<b.ay.length∧¬lJ (gt b.ay k) k
 ·rw[aG g,dF (c:=∀k,k<b.ay.length->lJ (gt b.ay k) k) (λh=>by obtain⟨k,hk,hn⟩:=g;exact hn (h k hk))];rfl
 ·rw[aK g,dT (c:=∀k,k<b.ay.length->lJ (gt b.ay k) k) (λk hk=>gw λh=>g ⟨k,hk,h⟩)];rfl
def ao_{b:au}(hs:fp b):NB b=aa (ng b):=by
 unfold NB ng;by_cases h1:1<=b.aA∧b.aA<=6
 case neg=>
  have hn:¬gj b:=λh=>h1 h.jd;by_cases h1a:b.aA<1
  ·simp[h1a,hn]
  ·have h1b:b.aA>6:=by omega
   simp[h1a,h1b,hn]
 have a1:ak (b.aA<1)=ai:=dF (by omega);have a2:ak (b.aA>6)=ai:=dF (by omega);by_cases h2:b.ae.length<=24
 case neg=>have:¬gj b:=λh=>h2 h.cZ;have e:ak (len b.ae>24)=ab:=dT (by unfold len;omega);simp[a1,a2,this,e]
 have a3:ak (len b.ae>24)=ai:=dF (by unfold len;omega);by_cases h3:b.aj.length<=8
 case neg=>have:¬gj b:=λh=>h3 h.src;have e:ak (len b.aj>8)=ab:=dT (by unfold len;omega);simp[a1,a2,a3,this,e]
 have a4:ak (len b.aj>8)=ai:=dF (by unfold len;omega);by_cases h4:b.ay.length<=16
 case neg=>have:¬gj b:=λh=>h4 h.iL;have e:ak (len b.ay>16)=ab:=dT (by unfold len;omega);simp[a1,a2,a3,a4,this,e]
 have a5:ak (len b.ay>16)=ai:=dF (by unfold len;omega);have hl:gj b:=⟨h1,h2,h3,h4⟩;simp only[a1,a2,a3,a4,a5,aD,aC,al,ao' hl,ao0 hl,ao9 hl hs,aG hl];by_cases g1:cD b
 case neg=>rw[dF g1,aK (λh:qQ b=>g1 h.1)];rfl
 by_cases g2:∀k,k<b.aj.length->mG (gt b.aj k)
 case neg=>rw[dT g1,dF g2,aK (λh:qQ b=>g2 h.2.2.2.1)];rfl
 by_cases g3:∀k,k<b.ay.length->lJ (gt b.ay k) k
 case neg=>rw[dT g1,dT g2,dF g3,aK (λh:qQ b=>g3 h.2.2.2.2)];rfl
 rw[dT g1,dT g2,dT g3];simp only[eg,aD,aC];by_cases g4:b.bh<0
 ·rw[dT g4,aK (λh:qQ b=>by have:=h.2.1;omega)];rfl
 by_cases g5:b.bh>1800
 ·rw[dF g4,dT g5,aK (λh:qQ b=>by have:=h.2.1;omega)];rfl
 by_cases g6:b.aY<0
 ·rw[dF g4,dF g5,dT g6,aK (λh:qQ b=>by have:=h.2.2.1;omega)];rfl
 by_cases g7:b.aY>6000
 ·rw[dF g4,dF g5,dF g6,dT g7,aK (λh:qQ b=>by have:=h.2.2.1;omega)];rfl
 rw[dF g4,dF g5,dF g6,dF g7,aG (show qQ b from⟨g1,by omega,by omega,g2,g3⟩)];rfl
end Rx
namespace Rx
open Classical
def aaG(x y:Part):NC x y=aa (ak (before x y)):=by
 unfold NC before;by_cases h1:x.Kind<y.Kind
 ·simp[h1]
 ·by_cases h2:x.Kind=y.Kind
  ·by_cases h3:x.Number<y.Number<;>simp[h1,h2,h3]
  ·simp[h1,h2]
def qH(p:aw)(l:List Int):Nat:=(l.filter λk=>gt p.aF k.toNat).length
def ae5(p:aw)(l m:List Int):qH p (l++m)=qH p l+qH p m:=by unfold qH;rw[uG,cU]
def ax1(p:aw)(l:List Int):qH p l<=l.length:=zi _ _
def ax2(b:au)(p:aw)(j:Nat)(n:Nat):qH p (bC (eD b 3 (j:Int)) n)=eR b p (j:Int) n:=by
 induction n with
 |zero=>rfl
 |succ n ih=>
  rw[pd,ae5,ih];show eR b p (j:Int) n+_=eR b p (j:Int) n+_;congr 1;by_cases h:eD b 3 (j:Int) n=ab
  ·obtain⟨h1,h2⟩:=Nk.1 h;rw[aG h];cases h3:gt p.aF n<;>simp[qH,h1,h2,h3]
  ·rw[aK h,aK (λhh=>h (Nk.2 ⟨hh.1,hh.2.1⟩))];rfl
def aaF{b:au}{p:aw}(hc:p.aF.length=b.ae.length)(hs:Sm b.ae)(j:Nat):aI (Eg p (bC (eD b 3 (j:Int)) b.ae.length)) (0,0)=aa (eR b p (j:Int) b.ae.length:Int):=by
 generalize hl:bC (eD b 3 (j:Int)) b.ae.length=l;have ML:l.length<=b.ae.length:=hl▸oi _ _;have iq:∀k,k<l.length->∃i:Nat,gt l k=(i:Int)∧i<p.aF.length:=λk hk=>by
  have h1:gt l k∈bC (eD b 3 (j:Int)) b.ae.length:=by rw[hl];exact du hk
  obtain⟨i,hi,_,e⟩:=yc.1 h1;exact⟨i,e,by omega⟩
 have fF:Sm l:=by unfold Sm at hs⊢;omega
 have h:=dO (step:=Eg p l) (λk=>((qH p (l.take k):Int),(k:Int))) l.length (r:=(qH p l:Int))
  (λk hk=>by
    obtain⟨i,e,hi⟩:=iq k hk;have hle:=ax1 p (l.take k);have MM:(l.take k).length<=k:=by simp;omega
    simp only[Eg,ba hk,aH,aO hk,e,aO hi,al,a_ (eN fF hk),lh hk,ae5];cases h3:gt p.aF i with
    |true=>
     have:qH p [(i:Int)]=1:=by simp[qH,h3]
     simp only[aH,al,this];rw[a_ (show qH p (l.take k)<1000000000000000000 by have:=eN fF hk;omega)]
    |false=>
     have:qH p [(i:Int)]=0:=by simp[qH,h3]
     simp only[aD,aC,al,this,Nat.add_zero])
  (by simp only[Eg,bI,aD,aC,oR])
 have h':aI (Eg p l) (0,0)=_:=h;rw[h',<-hl,ax2]
def GC{b:au}{p:aw}(hb:fp b)(hp:dp p):yM b p=aa (bi b p):=by
 unfold yM bi;rw[ao_ hb];simp only[al];by_cases h0:ng b=0
 case neg=>simp[h0]
 have hL:=(Bw.1 h0).1;have h3:=hL.iL;have e0:(ng b !=0)=ai:=by simp[h0]
 simp only[e0,aD,aC,aG h0];by_cases h1:p.aF.length=b.ae.length
 case neg=>
  have:¬Shape b p:=λh=>h1 h.1;have e:(len p.aF !=len b.ae)=ab:=by simp[len];omega
  simp[e,this]
 by_cases h2:p.aj.length=b.aj.length
 case neg=>
  have:¬Shape b p:=λh=>h2 h.2.1;have e1:(len p.aF !=len b.ae)=ai:=by simp[len,h1]
  have e:(len p.aj !=len b.aj)=ab:=by simp[len];omega
  simp[e,e1,this]
 by_cases h4:p.aW.length=b.ay.length
 case neg=>
  have:¬Shape b p:=λh=>h4 h.2.2;have e1:(len p.aF !=len b.ae)=ai:=by simp[len,h1]
  have e2:(len p.aj !=len b.aj)=ai:=by simp[len,h2]
  have e:(len p.aW !=len b.ay)=ab:=by simp[len];omega
  simp[e,e1,e2,this]
 have mX:Shape b p:=⟨h1,h2,h4⟩;have e1:(len p.aF !=len b.ae)=ai:=by simp[len,h1]
 have e2:(len p.aj !=len b.aj)=ai:=by simp[len,h2]
 have e3:(len p.aW !=len b.ay)=ai:=by simp[len,h4]
 have l1:aI (Ek p) 0=aa (if ∃k,k<p.aj.length∧¬gR (gt p.aj k)then .inr 11 else .inl ()):=by
  have fF:=hp.2.1;refine uH (ot (r:= .inr 11) (e:= .inl ()) (step:=Ek p) (λk=>(k:Int)) p.aj.length (λk=>¬gR (gt p.aj k)) (λk hk hq=>?_) (λk hk hq=>?_) (by simp only[Ek,bI,aD,aC])) (by congr)
  ·obtain⟨q1,q2,q3,q4⟩:=rW.1 hq;simp only[Ek,ba hk,aH,aO hk,al,pX,dT q1,dT q2,dT q3,dT q4,eg,aD,aC,a_ (eN fF hk)]
  ·simp only[Ek,ba hk,aH,aO hk,al,pX];by_cases q1:0<=(gt p.aj k).State∧(gt p.aj k).State<=3
   case neg=>simp[q1]
   by_cases q2:0<=(gt p.aj k).gG∧(gt p.aj k).gG<=2147483648
   case neg=>simp[q1,q2]
   by_cases q3:0<=(gt p.aj k).aY∧(gt p.aj k).aY<=6000
   case neg=>simp[q1,q2,q3]
   have q4:¬(0<=(gt p.aj k).bh∧(gt p.aj k).bh<=3599):=λh=>hq ⟨q1,q2,q3,h⟩;simp[q1,q2,q3,q4]
 have l2:aI (Ej b p) 0=aa (if ∃k,k<p.aW.length∧¬(0<=gt p.aW k∧gt p.aW k<=(gt b.ay k).eT)then .inr 11 else .inl ()):=by
  have fF:=hp.2.2.1;refine uH (ot (r:= .inr 11) (e:= .inl ()) (step:=Ej b p) (λk=>(k:Int)) p.aW.length (λk=>¬(0<=gt p.aW k∧gt p.aW k<=(gt b.ay k).eT)) (λk hk hq=>?_) (λk hk hq=>?_) (by simp only[Ej,bI,aD,aC])) (by congr)
  ·simp only[Ej,ba hk,aH,aO hk,aO (show k<b.ay.length by omega),al,pX,dT (rW.1 hq),eg,aD,aC,a_ (eN fF hk)]
  ·simp only[Ej,ba hk,aH,aO hk,aO (show k<b.ay.length by omega),al,pX,dF hq,lM]
 have l3:aI (Ei b p) 0=aa (if ∃k,k<p.aR.length∧¬oP b p.aR k then .inr 11 else .inl ()):=by
  have fF:=hp.2.2.2;refine uH (ot (r:= .inr 11) (e:= .inl ()) (step:=Ei b p) (λk=>(k:Int)) p.aR.length (λk=>¬oP b p.aR k) (λk hk hq=>?_) (λk hk hq=>?_) (by simp only[Ei,bI,aD,aC])) (by congr)
  ·obtain⟨q1,q2⟩:=rW.1 hq;simp only[Ei,ba hk,aH,aO hk,al,exists_eq hL,dT q1,eg,aD,aC];by_cases mD:0<k
   ·rw[dT (c:=(k:Int)>0) (by omega)];simp only[aH,nQ (eN fF hk) mD,aO (show k-1<p.aR.length by omega),al,aaG,dT (q2 mD),eg,aD,aC,a_ (eN fF hk)]
   ·rw[dF (c:=(k:Int)>0) (by omega)];simp only[aD,aC,al,a_ (eN fF hk)]
  ·simp only[Ei,ba hk,aH,aO hk,al,exists_eq hL];by_cases q1:0<=(gt p.aR k).Number∧(gt p.aR k).Number<=bsize b (gt p.aR k).Kind-1
   ·have q2:0<k∧¬before (gt p.aR (k-1)) (gt p.aR k):=by
     by_cases mD:0<k
     ·exact⟨mD,λh=>hq ⟨q1,λ_=>h⟩⟩
     ·exact(hq ⟨q1,λh=>(mD h).elim⟩).elim
    rw[dT q1,dT (c:=(k:Int)>0) (by omega)];simp only[eg,aD,aC,aH,nQ (eN fF hk) q2.1,aO (show k-1<p.aR.length by omega),al,aaG,dF q2.2,lM]
   ·rw[dF q1];simp only[lM,aH,al]
 have l4:aI (Eh b p) 0=aa (if ∃k,k<b.ay.length∧¬eR b p (k:Int) b.ae.length<=1 then .inr 11 else .inl ()):=by
  refine uH (ot (r:= .inr 11) (e:= .inl ()) (step:=Eh b p) (λk=>(k:Int)) b.ay.length (λk=>¬eR b p (k:Int) b.ae.length<=1) (λk hk hq=>?_) (λk hk hq=>?_) (by simp only[Eh,bI,aD,aC])) (by congr)
  ·simp only[Eh,ba hk,aH,xQ hb.1,al,aaF h1 hb.1,dF (c:=(eR b p (k:Int) b.ae.length:Int)>1) (by omega),aD,aC,a_ (show k<1000000000000000000 by omega)]
  ·simp only[Eh,ba hk,aH,xQ hb.1,al,aaF h1 hb.1,dT (c:=(eR b p (k:Int) b.ae.length:Int)>1) (by omega)]
 simp only[e1,e2,e3,aD,aC,al,aG mX,l1,l2,l3,l4];by_cases g1:∃k,k<p.aj.length∧¬gR (gt p.aj k)
 ·rw[aG g1,aK (λh:vW b p=>by obtain⟨k,hk,hn⟩:=g1;exact hn (h.2.1 k hk))];rfl
 rw[aK g1,bu];by_cases g2:∃k,k<p.aW.length∧¬(0<=gt p.aW k∧gt p.aW k<=(gt b.ay k).eT)
 ·rw[aG g2,aK (λh:vW b p=>by obtain⟨k,hk,hn⟩:=g2;exact hn (h.2.2 k hk).1)];rfl
 rw[aK g2,bu];by_cases g3:p.aR.length<=32
 case neg=>rw[dT (c:=len p.aR>32) (by unfold len;omega),aK (λh:vW b p=>g3 h.1.2)];rfl
 rw[dF (c:=len p.aR>32) (by unfold len;omega)];simp only[aD,aC];by_cases g4:∃k,k<p.aR.length∧¬oP b p.aR k
 ·rw[aG g4,aK (λh:vW b p=>by obtain⟨k,hk,hn⟩:=g4;exact hn (h.1.1 k hk))];rfl
 rw[aK g4,bu];by_cases g5:∃k,k<b.ay.length∧¬eR b p (k:Int) b.ae.length<=1
 ·rw[aG g5,aK (λh:vW b p=>by obtain⟨k,hk,hn⟩:=g5;exact hn (h.2.2 k (by omega)).2)];rfl
 rw[aK g5,bu,aG (show vW b p from⟨⟨λk hk=>gw λh=>g4 ⟨k,hk,h⟩,g3⟩,λk hk=>gw λh=>g1 ⟨k,hk,h⟩,λk hk=>⟨gw λh=>g2 ⟨k,hk,h⟩,gw λh=>g5 ⟨k,by omega,h⟩⟩⟩)]
end Rx
namespace Rx
open Classical
def mw(b:au)(p:aw)(m:List Bool)(k:Nat):List Bool:=
 if(gt b.ae k).Kind=1∧gt p.aF k=ab∧(gt m (gt b.ae k).A.toNat=ab∨gt m (gt b.ae k).B.toNat=ab)then(m.set (gt b.ae k).A.toNat ab).set (gt b.ae k).B.toNat ab else m
def oo(b:au)(p:aw)(m:List Bool):Nat->List Bool
 |0=>m
 |k+1=>mw b p (oo b p m k) k
def tO(b:au)(p:aw)(m:List Bool):Nat->List Bool
 |0=>m
 |r+1=>oo b p (tO b p m r) b.ae.length
def aq4(b:au)(p:aw)(m:List Bool)(k:Nat):(mw b p m k).length=m.length:=by unfold mw;split<;>simp
def GR(b:au)(p:aw)(m:List Bool)(k:Nat):(oo b p m k).length=m.length:=by
 induction k with
 |zero=>rfl
 |succ k ih=>unfold oo;rw[aq4,ih]
def LY(b:au)(p:aw)(m:List Bool)(r:Nat):(tO b p m r).length=m.length:=by
 induction r with
 |zero=>rfl
 |succ r ih=>unfold tO;rw[GR,ih]
section
variable {b:au} {p:aw}
def Sz(hb:cD b){m:List Bool}(hm:m.length=b.aA.toNat){k:Nat}(hk:k<b.ae.length)(i:Nat):gt (mw b p m k) i=if(gt b.ae k).Kind=1∧gt p.aF k=ab∧(gt m (gt b.ae k).A.toNat=ab∨gt m (gt b.ae k).B.toNat=ab)∧(i=(gt b.ae k).A.toNat∨i=(gt b.ae k).B.toNat)then ab else gt m i:=by
 unfold mw;by_cases h:(gt b.ae k).Kind=1∧gt p.aF k=ab∧(gt m (gt b.ae k).A.toNat=ab∨gt m (gt b.ae k).B.toNat=ab)
 ·obtain⟨e1,e2,_,_⟩:=zA hb hk h.1;rw[aG h,gE (by simp;omega),gE (by omega)];by_cases hi:i=(gt b.ae k).B.toNat
  ·rw[aG hi,aG ⟨h.1,h.2.1,h.2.2,.inr hi⟩]
  ·rw[aK hi];by_cases ek:i=(gt b.ae k).A.toNat
   ·rw[aG ek,aG ⟨h.1,h.2.1,h.2.2,.inl ek⟩]
   ·rw[aK ek,aK (λhh=>hh.2.2.2.elim ek hi)]
 ·rw[aK h,aK (λhh=>h ⟨hh.1,hh.2.1,hh.2.2.1⟩)]
def aq3(hb:cD b){m:List Bool}(hm:m.length=b.aA.toNat){k:Nat}(hk:k<b.ae.length){i:Nat}(h:gt m i=ab):gt (mw b p m k) i=ab:=by
 rw[Sz hb hm hk];split
 ·rfl
 ·exact h
def LW(hb:cD b){m:List Bool}(hm:m.length=b.aA.toNat){i:Nat}(k:Nat):∀d,k+d<=b.ae.length->gt (oo b p m k) i=ab->gt (oo b p m (k+d)) i=ab
 |0,_,h=>h
 |d+1,hd,h=>aq3 hb (by rw[GR,hm]) (show k+d<b.ae.length by omega) (LW hb hm k d (by omega) h)
def aq5(hb:cD b){m:List Bool}(hm:m.length=b.aA.toNat){i j:Nat}(h:gt m i=ab)(ht:jZ b p i j):gt (oo b p m b.ae.length) j=ab:=by
 obtain⟨k,hk,h1,h2,h3⟩:=ht;have e:=zA hb hk h1;have hi:=LW (p:=p) hb hm 0 k (by omega) h;rw[kD]at hi;have hj:gt (oo b p m (k+1)) j=ab:=by
  show gt (mw b p (oo b p m k) k) j=ab;rw[Sz hb (by rw[GR,hm]) hk,aG];refine⟨h1,h2,?_,?_⟩
  ·rcases h3 with h3|h3
   ·exact .inl (by rw[show(gt b.ae k).A.toNat=i from by omega];exact hi)
   ·exact .inr (by rw[show(gt b.ae k).B.toNat=i from by omega];exact hi)
  ·omega
 have:=LW hb hm (k+1) (b.ae.length-(k+1)) (by omega) hj;rwa[show k+1+(b.ae.length-(k+1))=b.ae.length from by omega]at this
def abD(hb:cD b){m:List Bool}(hm:m.length=b.aA.toNat){s:Nat}(h:∀i,gt m i=ab->kA (jZ b p) s i):∀k,k<=b.ae.length->∀i,gt (oo b p m k) i=ab->kA (jZ b p) s i
 |0,_,i,hi=>h i hi
 |k+1,hk,i,hi=>by
  have ih:=abD hb hm h k (by omega);have eo:gt (mw b p (oo b p m k) k) i=ab:=hi;rw[Sz hb (by rw[GR,hm]) (by omega)]at eo;split at eo
  ·rename_i hc;obtain⟨h1,h2,h3,h4⟩:=hc;have e:=zA hb (show k<b.ae.length by omega) h1;have ht:jZ b p (gt b.ae k).A.toNat (gt b.ae k).B.toNat:=⟨k,by omega,h1,h2,.inl ⟨e.2.2.1,e.2.2.2⟩⟩;rcases h3 with h3|h3
   ·have c:=ih _ h3;rcases h4 with rfl|rfl
    ·exact c
    ·exact c.trans (.one ht)
   ·have c:=ih _ h3;rcases h4 with rfl|rfl
    ·exact c.trans (.one ht.symm)
    ·exact c
  ·exact ih i eo
def abF(hb:cD b){m:List Bool}(hm:m.length=b.aA.toNat){s:Nat}(h:∀i,gt m i=ab->kA (jZ b p) s i):∀r i,gt (tO b p m r) i=ab->kA (jZ b p) s i
 |0,i,hi=>h i hi
 |r+1,i,hi=>abD hb (by rw[LY,hm]) (abF hb hm h r) _ (bw _) i hi
def SA(hb:cD b){m:List Bool}(hm:m.length=b.aA.toNat){s:Nat}(h:gt m s=ab):∀r j,iy (jZ b p) r s j->gt (tO b p m r) j=ab
 |0,j,w=>by rw[<-w.zero];exact h
 |r+1,j,w=>by
  have hl:(tO b p m r).length=b.aA.toNat:=by rw[LY,hm]
  rcases w.last with h1|⟨i,h1,h2⟩
  ·have:=LW (p:=p) hb hl 0 b.ae.length (by omega) (SA hb hm h r j h1);rw[kD]at this;exact this
  ·exact aq5 hb hl (SA hb hm h r i h1) h2
def lW(n s:Nat):List Bool:=(cR n ai).set s ab
def aqY(hb:cD b){s:Nat}(hs:s<b.aA.toNat){j:Nat}:gt (tO b p (lW b.aA.toNat s) b.aA.toNat) j=ab↔kA (jZ b p) s j:=by
 have hm:(lW b.aA.toNat s).length=b.aA.toNat:=by simp[lW]
 have h0:gt (lW b.aA.toNat s) s=ab:=by unfold lW;rw[gE (by simpa using hs),aG rfl]
 constructor
 ·refine abF hb hm (λi hi=>?_) _ j;unfold lW at hi;rw[gE (by simpa using hs)]at hi;by_cases his:i=s
  ·subst his;exact .refl _
  ·rw[aK his]at hi;by_cases mY:i<b.aA.toNat
   ·rw[Be mY]at hi;cases hi
   ·unfold gt at hi;simp[List.getD_eq_getElem?_getD,mY]at hi
 ·intro h;have hw:=(h.walk (n:=b.aA.toNat) (λi j h=>(h.lt hb).2) hs).more (r':=b.aA.toNat) (by omega);exact SA hb hm h0 _ _ hw
def apL{P Q:Nat->Bool}{n:Nat}(h:∀i,i<n->P i=Q i):bC P n=bC Q n:=by unfold bC;rw[List.filter_congr λx hx=>h x (er.1 hx)]
def apa(hb:cD b)(hs:Sm b.ae)(hc:p.aF.length=b.ae.length){m:List Bool}(hm:(m.length:Int)=b.aA):aI (H9 b p) ((0:Int),m)=aa (oo b p m b.ae.length):=by
 refine dO (step:=H9 b p) (λk=>((k:Int),oo b p m k)) b.ae.length (λk hk=>?_) (by simp only[H9,bI,aD,aC]);have jp:=hb.1 k hk;have hl:=GR b p m k;have asZ:oo b p m (k+1)=mw b p (oo b p m k) k:=rfl;simp only[H9,ba hk,aH,aO hk,aO (show k<p.aF.length by omega),al,a_ (eN hs hk),asZ];generalize oo b p m k=q at hl⊢;by_cases h1:(gt b.ae k).Kind=1
 case neg=>
  have e0:mw b p q k=q:=by unfold mw;rw[aK (λh=>h1 h.1)]
  simp only[dG h1,e0,aD,aC,al]
 cases h2:gt p.aF k with
 |false=>
  have e0:mw b p q k=q:=by unfold mw;rw[aK (λh=>by rw[h2]at h;exact absurd h.2.1 (by simp))]
  simp only[gh h1,e0,aH,aD,aC,al]
 |true=>
  have e:=zA hb hk h1;have iA:∀x:List Bool,x.length=q.length->idx x (gt b.ae k).A=aa (gt x (gt b.ae k).A.toNat):=λx hx=>iI (by omega) (by omega);have iB:∀x:List Bool,x.length=q.length->idx x (gt b.ae k).B=aa (gt x (gt b.ae k).B.toNat):=λx hx=>iI (by omega) (by omega);have sA:∀x:List Bool,x.length=q.length->df x (gt b.ae k).A ab=aa (x.set (gt b.ae k).A.toNat ab):=λx hx=>CS (by omega) (by omega);have sB:∀x:List Bool,x.length=q.length->df x (gt b.ae k).B ab=aa (x.set (gt b.ae k).B.toNat ab):=λx hx=>CS (by omega) (by omega);simp only[gh h1,aH,al,iA q rfl,iB q rfl,sA q rfl,iB (q.set (gt b.ae k).A.toNat ab) (by simp),sB (q.set (gt b.ae k).A.toNat ab) (by simp)];cases h3:gt q (gt b.ae k).A.toNat with
  |true=>
   have e0:mw b p q k=(q.set (gt b.ae k).A.toNat ab).set (gt b.ae k).B.toNat ab:=by unfold mw;rw[aG ⟨h1,h2,.inl h3⟩]
   simp only[aH,al,e0]
  |false=>
   cases h4:gt q (gt b.ae k).B.toNat with
   |true=>
    have e0:mw b p q k=(q.set (gt b.ae k).A.toNat ab).set (gt b.ae k).B.toNat ab:=by unfold mw;rw[aG ⟨h1,h2,.inr h4⟩]
    simp only[aH,aD,aC,al,e0]
   |false=>
    have e0:mw b p q k=q:=by unfold mw;rw[aK (λh=>by rcases h.2.2 with h|h<;>simp[h3,h4]at h)]
    simp only[aD,aC,al,e0]
def apb(hl:gj b)(hb:cD b)(hs:Sm b.ae)(hc:p.aF.length=b.ae.length){k:Int}(h0:0<=k)(h1:k<b.aA):Nt b p k=aa (eJ b p k).aA:=by
 have pC:=hl.jd;obtain⟨n,hn⟩:=nr (show 0<=b.aA by omega);obtain⟨s,hk⟩:=nr h0;subst hk;have TC:s<n:=by omega
 have AR:b.aA.toNat=n:=by omega
 have DK:(lW n s).length=n:=by simp[lW]
 have bU:(cR n ai).set s ab=lW n s:=rfl;have l1:aI (H_ b p (lW n s)) ((0:Int),lW n s)=aa (tO b p (lW n s) n):=by
  refine dO (step:=H_ b p (lW n s)) (λk=>((k:Int),tO b p (lW n s) k)) n (λk hk=>?_) ?_
  ·have e1:ak ((k:Int)<len (lW n s))=ab:=dT (by unfold len;omega);have lY:=LY b p (lW n s) k;simp only[H_,e1,aH,apa hb hs hc (m:=tO b p (lW n s) k) (by omega),al,a_ (show k<1000000000000000000 by omega)];rfl
  ·have e1:ak ((n:Int)<len (lW n s))=ai:=dF (by unfold len;omega);simp only[H_,e1,aD,aC]
 have l3:∀m:List Bool,m.length=n->aI (H8 m) ((0:Int),[])=aa (bC (λj=>gt m j) n):=by
  intro m hm;refine dO (step:=H8 m) (λk=>((k:Int),bC (λj=>gt m j) k)) n (λk hk=>?_) ?_
  ·have lY:=oi (λj=>gt m j) k;have xd:bF (bC (λj=>gt m j) k) [(k:Int)]=aa (bC (λj=>gt m j) k++[(k:Int)]):=cJ (by simp;omega);simp only[H8,ba (show k<m.length by omega),aH,aO (show k<m.length by omega),al,pd,xd,a_ (show k<1000000000000000000 by omega)];cases gt m k<;>simp
  ·have e1:ak ((n:Int)<len m)=ai:=dF (by unfold len;omega);simp only[H8,e1,aD,aC]
 unfold Nt;rw[hn,x_ (by omega)];have lY:(cR n ai).length=n:=by simp
 have hmr:=LY b p (lW n s) n;rw[DK]at hmr;simp only[al,PP,aO (show s<(cR n ai).length by omega),jy (show s<(cR n ai).length by omega),bU,l1,l3 _ hmr];have MP:=Bf (p:=p) hb (show s<b.aA.toNat by omega);show aa _=aa (bC (iM b p (gt (cq b p) ((s:Int)).toNat).toNat) b.aA.toNat);rw[AR,iE];congr 1;refine apL λi hi=>?_;have h4:=aqY (p:=p) hb (s:=s) (j:=i) (by omega);have h5:=aej (p:=p) hb (i:=i) (j:=s) (by omega) (by omega);rw[AR]at h4;have hsy:∀i j,jZ b p i j->jZ b p j i:=λ_ _ h=>h.symm;have h6:gt (tO b p (lW n s) n) i=ab↔iM b p (gt (cq b p) s).toNat i=ab:=by rw[h4];unfold iM;rw[xr,show(((gt (cq b p) s).toNat:Nat):Int)=gt (cq b p) s from by omega,h5];exact⟨λh=>h.symm hsy,λh=>h.symm hsy⟩
 exact Bool.eq_iff_iff.2 h6
end
end Rx
namespace Rx
open Classical
def arq{α:Type}[ad α](l:List α):(bV l.length).map (gt l)=l:=by
 apply jW
 ·simp
 ·intro k hk;have cT:k<l.length:=by simpa using hk
  rw[lC _ cT]
def aw'{α:Type}[ad α](l:List α)(P:α->Bool):l.find? P=((bV l.length).find? λq=>P (gt l q)).map (gt l):=by have h:=ik (List.find? P) (arq l);rw[List.find?_map]at h;exact h.symm
def aw_(F:Nat->Bool)(P:Int->Bool)(n:Nat):(bC F n).find? P=((bV n).find? λk=>F k&&P (k:Int)).map Int.ofNat:=by unfold bC;rw[List.find?_map,List.find?_filter];congr 2;funext k;simp
def R2{P:Nat->Bool}{m:Nat}(hP:P m=ab)(yv:∀i,i<m->P i=ai):∀n,m<n->0<(bC P n).length∧gt (bC P n) 0=(m:Int)
 |0,h=>by omega
 |n+1,h=>by
  rw[pd];by_cases TZ:m<n
  ·obtain⟨h1,h2⟩:=R2 hP yv n TZ;exact⟨by simp;omega,by rw[Na h1];exact h2⟩
  ·have:m=n:=by omega
   subst this;have h0:bC P m=[]:=List.length_eq_zero_iff.1 (GJ.2 yv);rw[h0,aG hP];exact⟨by simp,rfl⟩
section
variable {b:au} {p:aw}
def aei(hb:cD b){k:Nat}(hk:k<b.aA.toNat):∃m:Nat,gt (cq b p) k=(m:Int)∧m<=k∧gt (cq b p) m=(m:Int):=by obtain⟨m,h1,h2,h3⟩:=Nc (p:=p) hb hk;have vr:m<=k:=h3 k (.refl _);refine⟨m,h1,vr,?_⟩;rw[<-h1];exact((aej (p:=p) hb hk (by omega)).2 h2).symm
def ar2(hb:cD b){k:Nat}(hk:k<b.aA.toNat):0<(eJ b p (k:Int)).aA.length∧gt (eJ b p (k:Int)).aA 0=gt (cq b p) k:=by
 obtain⟨m,h1,h2,h3⟩:=aei (p:=p) hb hk;have he:eJ b p (k:Int)=dW b p m:=by unfold eJ;rw[iE,h1,iE]
 rw[he,h1];refine R2 (P:=iM b p m) (by unfold iM;rw[h3];simp) (λi hi=>?_) _ (by omega);unfold iM;have:=(Bf (p:=p) hb (show i<b.aA.toNat by omega)).2;exact dG (by omega)
def ar0(hb:cD b){k:Nat}(hk:k<b.aA.toNat):(dW b p k).aA.isEmpty=ai↔gt (cq b p) k=(k:Int):=by
 constructor
 ·intro h;cases hl:(dW b p k).aA with
  |nil=>rw[hl]at h;cases h
  |cons x l=>
   obtain⟨i,h1,h2,h3⟩:=GQ.1 (show x∈(dW b p k).aA by rw[hl];exact List.mem_cons_self);obtain⟨m,e1,e2,e3⟩:=aei (p:=p) hb h1;have:m=k:=by omega
   subst this;exact e3
 ·intro h;cases hl:(dW b p k).aA with
  |nil=>have:=GQ (f:=k) (x:=(k:Int))|>.2 ⟨k,hk,h,rfl⟩;rw[hl]at this;cases this
  |cons _ _=>rfl
def ar6:bj b p=((bV b.aA.toNat).filter λf=> !(dW b p f).aA.isEmpty).map (dW b p):=by unfold bj ee;rw[List.filter_map];rfl
def ao8(hb:fp b)(hp:dp p)(j:Int):NA b p j=aa (NZ b p j):=by
 unfold NA NZ;rw[GC hb hp];by_cases h:bi b p=0
 case neg=>
  have:(bi b p !=0)=ab:=by simpa using h
  simp only[al,this,aH,aK h]
 obtain⟨⟨hl,hg⟩,⟨s1,s2,s3⟩,_⟩:=ff.1 h;have mx:=hl.src;have h0:(bi b p !=0)=ai:=by simp[h]
 simp only[al,h0,aD,aC,aG h];unfold conn;by_cases h1:j<0
 ·have nG:¬(0<=j∧j<=(p.aj.length:Int)-1):=by omega
  rw[dT h1,aK nG];rfl
 rw[dF h1];by_cases h2:j>=(b.aj.length:Int)
 ·have nG:¬(0<=j∧j<=(p.aj.length:Int)-1):=by omega
  rw[dT (c:=j>=len b.aj) h2,aK nG];rfl
 have G8:0<=j∧j<=(p.aj.length:Int)-1:=by omega
 rw[dF (c:=j>=len b.aj) h2,aG G8];obtain⟨i,rfl⟩:=nr (show 0<=j by omega);simp only[PP,iE,aD,aC];rw[aO (show i<p.aj.length by omega)];simp only[al];by_cases h3:(gt p.aj i).State=2
 case neg=>rw[aK h3,W3 h3];rfl
 rw[aG h3,BG h3];simp only[aD,aC,xQ hb.1,al];have hlen:=(GD.1 hg.1).2.1 i (by omega);obtain⟨⟨k,hk,pA⟩,hu⟩:=Lm.1 hlen;have Tx:∀q,q<b.ae.length->eD b 2 (i:Int) q=ab->q=k:=λq hq lZ=>by
  rcases Nat.lt_trichotomy q k with aU|he|aU
  ·exact(hu q k aU hk lZ pA).elim
  ·exact he
  ·exact(hu k q aU hq pA lZ).elim
 have hd:=R2 (P:=eD b 2 (i:Int)) pA (λq hq=>by
  cases lZ:eD b 2 (i:Int) q with
  |false=>rfl
  |true=>have:=Tx q (by omega) lZ;omega) b.ae.length hk
 have e0:idx (bC (eD b 2 (i:Int)) b.ae.length) 0=aa (k:Int):=by have:=aO hd.1;rw[hd.2]at this;exact this
 rw[e0];simp only[al,aO (show k<p.aF.length by omega),aO hk];have AY:∀q,mT b p 2 (i:Int) q=(eD b 2 (i:Int) q&&gt p.aF q):=λq=>by unfold mT eD;simp
 unfold gb;cases hc:gt p.aF k with
 |false=>
  rw[aez (λq hq=>by
   rw[AY];cases lZ:eD b 2 (i:Int) q with
   |false=>rfl
   |true=>rw[Tx q hq lZ,hc];rfl)]
  rfl
 |true=>
  cases hf:(bV b.ae.length).find? (mT b p 2 (i:Int))with
  |none=>have:=tp.1 hf k (er.2 hk);rw[AY,pA,hc]at this;simp at this
  |some q=>have hq:=er.1 (v8 hf);have lZ:=B3 hf;rw[AY,bq]at lZ;rw[Tx q hq lZ.1];rfl
def ao6(hb:fp b)(hp:dp p){j:Int}(hj:0<=j∧j<b.ay.length):Ny b p j=aa (vJ b p j):=by
 unfold Ny vJ;rw[GC hb hp];by_cases h:bi b p=0
 case neg=>
  have:(bi b p !=0)=ab:=by simpa using h
  simp only[al,this,aH,aK h]
 obtain⟨⟨hl,hg⟩,⟨s1,s2,s3⟩,_⟩:=ff.1 h;have nM:=hl.cZ;have h0:(bi b p !=0)=ai:=by simp[h]
 simp only[al,h0,aD,aC,aG h];rw[dF (c:=j<0) (by omega),dF (c:=j>=len b.ay) (by unfold len;omega)];simp only[aD,aC,xQ hb.1,al];have atP:(bC (eD b 3 j) b.ae.length).length<=b.ae.length:=oi _ _;have w5:∀q,q<(bC (eD b 3 j) b.ae.length).length->∃i:Nat,gt (bC (eD b 3 j) b.ae.length) q=(i:Int)∧i<b.ae.length:=λq hq=>by obtain⟨i,hi,_,e⟩:=yc.1 (du hq);exact⟨i,e,hi⟩
 have vC:=aw' (bC (eD b 3 j) b.ae.length) (λx=>gt p.aF x.toNat);rw[aw_]at vC;generalize bC (eD b 3 j) b.ae.length=l at atP w5 vC⊢;have h1:=vc (step:=El b p l) (λq=>(q:Int)) l.length (λq=>gt p.aF (gt l q).toNat) (R:=λq=> .inr ((gt b.ae (gt l q).toNat).A,ab)) (e:= .inl ())
  (λq hq lZ=>by obtain⟨i,e,hi⟩:=w5 q hq;rw[e,iE]at lZ;simp only[El,ba hq,aH,aO hq,e,aO (show i<p.aF.length by omega),al,lZ,aD,aC,a_ (show q<1000000000000000000 by omega)])
  (λq hq lZ=>by obtain⟨i,e,hi⟩:=w5 q hq;rw[e,iE]at lZ;simp only[El,ba hq,aH,aO hq,e,iE,aO (show i<p.aF.length by omega),aO hi,al,lZ])
  (by simp only[El,bI,aD,aC])
 have m_:aI (El b p l) 0=_:=h1;rw[m_];have AY:mT b p 3 j=λk=>eD b 3 j k&&gt p.aF ((k:Int)).toNat:=by funext q;unfold mT eD;simp
 unfold gb;rw[AY];cases hf:(bV l.length).find? (λq=>gt p.aF (gt l q).toNat)with
 |none=>
  rw[hf]at vC;have:(bV b.ae.length).find? (λk=>eD b 3 j k&&gt p.aF ((k:Int)).toNat)=none:=by
   cases hx:(bV b.ae.length).find? (λk=>eD b 3 j k&&gt p.aF ((k:Int)).toNat)with
   |none=>rfl
   |some k=>rw[hx]at vC;cases vC
  rw[this];rfl
 |some q=>
  rw[hf]at vC;cases hx:(bV b.ae.length).find? (λk=>eD b 3 j k&&gt p.aF ((k:Int)).toNat)with
  |none=>rw[hx]at vC;cases vC
  |some k=>rw[hx]at vC;have e:(k:Int)=gt l q:=jM vC;simp only[al,bB];rw[<-e,iE]
def aaE{k:Int}(hb:cD b)(hl:gj b)(h0:0<=k)(h1:k<b.aA){a:Int}(ha:0<=a∧a<b.aA):En (eJ b p k).aA a=aa (gt (cq b p) a.toNat==(((gt (cq b p) k.toNat).toNat:Nat):Int)):=by
 have pC:=hl.jd;have rC:=(Du (b:=b) (p:=p) (gt (cq b p) k.toNat).toNat).1;rw[has_eq (show Sm (eJ b p k).aA by unfold Sm;show(dW b p _).aA.length<=_;omega)];congr 1;rw[Bool.eq_iff_iff,X6,xr];show a∈(dW b p (gt (cq b p) k.toNat).toNat).aA↔_;rw[GQ];constructor
 ·rintro⟨i,_,h,rfl⟩;rw[iE];exact h
 ·intro h;exact⟨a.toNat,by omega,h,by omega⟩
def LH(b:au)(p:aw)(k:Int):Bool×List Int×List Int×List Int:=((fO b p k).2,(fO b p k).1.aA,(fO b p k).1.aj,(fO b p k).1.ay)
def ao1(hb:fp b)(hp:dp p)(k:Int):Nw b p k=aa (LH b p k):=by
 unfold Nw LH fO;rw[GC hb hp];by_cases h:bi b p=0
 case neg=>
  have:(bi b p !=0)=ab:=by simpa using h
  simp only[al,this,aH,aK (λhh:bi b p=0∧_=>h hh.1)]
 obtain⟨⟨hl,hg⟩,⟨s1,s2,s3⟩,_⟩:=ff.1 h;have mx:=hl.src;have DT:=hl.iL;have h0:(bi b p !=0)=ai:=by simp[h]
 simp only[al,h0,aD,aC];by_cases h1:k<0
 ·have nG:¬(bi b p=0∧0<=k∧k<b.aA):=by omega
  rw[dT h1,aK nG];rfl
 rw[dF h1];by_cases h2:k>=b.aA
 ·have nG:¬(bi b p=0∧0<=k∧k<b.aA):=by omega
  rw[dT h2,aK nG];rfl
 have G8:bi b p=0∧0<=k∧k<b.aA:=⟨h,by omega,by omega⟩;rw[dF h2,aG G8];simp only[aD,aC];rw[apb hl hg.1 hb.1 s1 (by omega) (by omega)];simp only[al];have l1:aI (Ib b p (eJ b p k).aA) ((0:Int),[])=aa (eJ b p k).aj:=by
  refine dO (step:=Ib b p (eJ b p k).aA) (λi=>((i:Int),bC (gU b p (gt (cq b p) k.toNat).toNat) i)) b.aj.length (λi hi=>?_) (by simp only[Ib,bI,aD,aC];rfl);have lY:=oi (gU b p (gt (cq b p) k.toNat).toNat) i;have xd:bF (bC (gU b p (gt (cq b p) k.toNat).toNat) i) [(i:Int)]=aa (bC (gU b p (gt (cq b p) k.toNat).toNat) i++[(i:Int)]):=cJ (by simp;omega);have ec:NZ b p (i:Int)=conn b p (i:Int):=by unfold NZ;rw[aG h]
  simp only[Ib,ba hi,aH,ao8 hb hp,ec,al,pd,xd,a_ (show i<1000000000000000000 by omega)];cases hc:(conn b p (i:Int)).2 with
  |false=>
   have:gU b p (gt (cq b p) k.toNat).toNat i=ai:=by unfold gU;rw[hc];rfl
   simp[this]
  |true=>
   have sL:=VS hg.1 hc;have:gU b p (gt (cq b p) k.toNat).toNat i=(gt (cq b p) (conn b p (i:Int)).1.toNat==(((gt (cq b p) k.toNat).toNat:Nat):Int)):=by unfold gU;rw[hc];rfl
   simp only[aH,aaE hg.1 hl (show 0<=k by omega) (show k<b.aA by omega) sL,al,this];cases(gt (cq b p) (conn b p (i:Int)).1.toNat==(((gt (cq b p) k.toNat).toNat:Nat):Int))<;>simp
 have l2:aI (Ia b p (eJ b p k).aA) ((0:Int),[])=aa (eJ b p k).ay:=by
  refine dO (step:=Ia b p (eJ b p k).aA) (λi=>((i:Int),bC (gZ b p (gt (cq b p) k.toNat).toNat) i)) b.ay.length (λi hi=>?_) (by simp only[Ia,bI,aD,aC];rfl);have lY:=oi (gZ b p (gt (cq b p) k.toNat).toNat) i;have xd:bF (bC (gZ b p (gt (cq b p) k.toNat).toNat) i) [(i:Int)]=aa (bC (gZ b p (gt (cq b p) k.toNat).toNat) i++[(i:Int)]):=cJ (by simp;omega);have ec:vJ b p (i:Int)=gb b p 3 (i:Int):=by unfold vJ;rw[aG h]
  simp only[Ia,ba hi,aH,ao6 hb hp (j:=(i:Int)) ⟨by omega,by omega⟩,ec,al,pd,xd,a_ (show i<1000000000000000000 by omega)];cases hc:(gb b p 3 (i:Int)).2 with
  |false=>
   have:gZ b p (gt (cq b p) k.toNat).toNat i=ai:=by unfold gZ;rw[hc];rfl
   simp[this]
  |true=>
   have sL:=SV hg.1 hc;have:gZ b p (gt (cq b p) k.toNat).toNat i=(gt (cq b p) (gb b p 3 (i:Int)).1.toNat==(((gt (cq b p) k.toNat).toNat:Nat):Int)):=by unfold gZ;rw[hc];rfl
   simp only[aH,aaE hg.1 hl (show 0<=k by omega) (show k<b.aA by omega) sL,al,this];cases(gt (cq b p) (gb b p 3 (i:Int)).1.toNat==(((gt (cq b p) k.toNat).toNat:Nat):Int))<;>simp
 rw[l1,l2];rfl
def ao2(hb:fp b)(hp:dp p)(h:bi b p=0):Nx b p=aa (bj b p):=by
 obtain⟨⟨hl,hg⟩,⟨s1,s2,s3⟩,_⟩:=ff.1 h;have pC:=hl.jd;obtain⟨n,hn⟩:=nr (show 0<=b.aA by omega);have AR:b.aA.toNat=n:=by omega
 unfold Nx;rw[GC hb hp,h];simp only[al,me,aD,aC];have l1:aI (Ic b p) ((0:Int),[])=aa (((bV n).filter λf=> !(dW b p f).aA.isEmpty).map (dW b p)):=by
  refine dO (step:=Ic b p) (λk=>((k:Int),((bV k).filter λf=> !(dW b p f).aA.isEmpty).map (dW b p))) n (λk hk=>?_) ?_
  ·have e1:ak ((k:Int)<b.aA)=ab:=dT (by omega);have hof:LH b p (k:Int)=(ab,(eJ b p (k:Int)).aA,(eJ b p (k:Int)).aj,(eJ b p (k:Int)).ay):=by unfold LH fO;rw[aG ⟨h,by omega,by omega⟩]
   obtain⟨yC,ug⟩:=ar2 (p:=p) hg.1 (show k<b.aA.toNat by omega);have e2:idx (eJ b p (k:Int)).aA 0=aa (gt (cq b p) k):=by have:=aO yC;rw[ug]at this;exact this
   have hlen:(((bV k).filter λf=> !(dW b p f).aA.isEmpty).map (dW b p)).length<=k:=by rw[qX];refine lK (zi _ _) ?_;simp
   have xd:∀x:bt,bF (((bV k).filter λf=> !(dW b p f).aA.isEmpty).map (dW b p)) [x]=aa ((((bV k).filter λf=> !(dW b p f).aA.isEmpty).map (dW b p))++[x]):=λx=>cJ (by simp only[List.length_singleton];omega);simp only[Ic,e1,aH,ao1 hb hp,hof,al,e2,xd,a_ (show k<1000000000000000000 by omega),List.range_succ,uG,qW];have acY:=ar0 (p:=p) hg.1 (show k<b.aA.toNat by omega);by_cases hr:gt (cq b p) k=(k:Int)
   ·have e3:eJ b p (k:Int)=dW b p k:=by unfold eJ;rw[iE,hr,iE]
    have e4:([k].filter λf=> !(dW b p f).aA.isEmpty)=[k]:=by simp[List.filter_cons,acY.2 hr]
    rw[gh hr,e4,e3];rfl
   ·have e5:(dW b p k).aA.isEmpty=ab:=by
     cases hx:(dW b p k).aA.isEmpty with
     |true=>rfl
     |false=>exact(hr (acY.1 hx)).elim
    have e4:([k].filter λf=> !(dW b p f).aA.isEmpty)=[]:=by simp[List.filter_cons,e5]
    rw[dG hr,e4];simp
  ·have e1:ak ((n:Int)<b.aA)=ai:=dF (by omega);simp only[Ic,e1,aD,aC]
 rw[l1,ar6,AR];rfl
