import Derived.Test.YtgaghlbepnjhiaaGreatPg
import Derived.Test.YtgaghlbepnjhiaaGreatRz
set_option linter.all false
open Bool renaming and_eq_true->bt,false->ae,false_eq_true->aC,not_false->lj,not_true->dP,true->ab
open Classical renaming byContradiction->gD,not_not->si
open Decidable renaming decide->ak
open Eq renaming trans->uM
open Int renaming eq_ofNat_of_zero_le->nF,le_refl->oi,ofNat_eq_natCast->QH,toNat_natCast->iQ
open List renaming filter_append->uL,filter_cons_of_neg->p8,filter_cons_of_pos->lS,find?_eq_none->sh,find?_some->zE,getElem?_range->J3,length_append->cW,length_filter_le->zD,length_map->pZ,map_append->mS,map_congr_left->F4,mem_append->bg,mem_cons->cj,mem_filter->kH,mem_map->dk,mem_of_find?_eq_some->uJ,mem_range->ew,mem_singleton->cY,not_mem_nil->jT,range->bW,replicate->cR,take_length->oZ
open Nat renaming le_refl->bw,le_trans->lR,zero_add->ke
open Option renaming bind->pW,bind_fun_some->cV,bind_some->al,some->aa
open Option.some renaming inj->kb,injEq->fK
open Sum renaming elim_inl->bx,elim_inr->bE
noncomputable section
namespace Go.Proofs.YtgaghlbepnjhiaaGreat
open Go Go.RowKit Dp
namespace Rx
open Classical
def has_eq{l:List Int}{x:Int}(hl:Sm l):ER l x=aa (ak (x∈l)):=by
 unfold ER;have h:=oC (step:=EQ l x) (λk=>(k:Int)) l.length (λk=>gt l k=x) (r:= .inr ab) (e:= .inl ())
  (λk hk hp=>by simp only[EQ,aZ hk,aH,aM hk,al,bx,bE,bT,dL hp,aC,aB,aY (eT hl hk)])
  (λk hk hp=>by simp only[EQ,aZ hk,aH,aM hk,al,bx,bE,bT,gu hp])
  (by simp only[EQ,bC,aC,aB])
 have h':aG (EQ l x) 0=_:=h;rw[h'];by_cases he:x∈l
 ·rw[aI (acu.1 he)];simp[he]
 ·rw[aK (λhh=>he (acu.2 hh))];simp[he]
def atw{l:List Int}{x:Int}(hl:Sm l):∃j:Int,KK l x=aa j∧(0<=j↔x∈l):=by
 have h:=vw (step:=C9 l x) (λk=>(k:Int)) l.length (λk=>x==gt l k) (R:=λk=> .inr (k:Int)) (e:= .inl ())
  (λk hk hp=>by simp only[C9,aZ hk,aH,aM hk,al,bx,bE,bT,hp,aC,aB,aY (eT hl hk)])
  (λk hk hp=>by simp only[C9,aZ hk,aH,aM hk,al,bx,bE,bT,hp])
  (by simp only[C9,bC,aC,aB])
 have h':aG (C9 l x) 0=_:=h;unfold KK;rw[h'];cases hf:(bW l.length).find? (λk=>x==gt l k)with
 |none=>refine⟨-1,by simp,by omega,λhx=>?_⟩;obtain⟨k,hk,e⟩:=lC hx;have:=sh.1 hf k (ew.2 hk);simp[e]at this
 |some k=>
  have hk:=ew.1 (uJ hf);have hp:=zE hf;refine⟨k,by simp,λ_=>?_,λ_=>by omega⟩;have e:x=gt l k:=by simpa using hp
  rw[e];exact cX hk
def contains_eq{l:List Int}{x:Int}(hl:Sm l):yc l x=aa (ak (x∈l)):=by obtain⟨j,h1,h2⟩:=atw (x:=x) hl;unfold yc;rw[h1];simp only[al,fK,Ch];exact h2
def rB(a b c:Int):jQ a b c=aa (ak (b<=a∧a<=c)):=by unfold jQ;by_cases h:b<=a<;>simp[h]
def apc(x:Source):Jl x=aa (ak ((1<=x.iE∧x.iE<=50000)∧(0<=x.fa∧x.fa<=x.iE)∧0<=x.Start∧x.Start<=600)):=by unfold Jl;simp only[rB,al,bx,bE,bT];by_cases h1:1<=x.iE∧x.iE<=50000<;>by_cases h2:0<=x.fa∧x.fa<=x.iE<;>simp[h1,h2]
def ap1(x:bu):PF x=aa (ak ((0<=x.State∧x.State<=3)∧(0<=x.gX∧x.gX<=2147483648)∧(0<=x.a_∧x.a_<=6000)∧0<=x.bn∧x.bn<=3599)):=by unfold PF;simp only[rB,al,bx,bE,bT];by_cases h1:0<=x.State∧x.State<=3<;>by_cases h2:0<=x.gX∧x.gX<=2147483648<;>by_cases h3:0<=x.a_∧x.a_<=6000<;>simp[h1,h2,h3]
def YN(l:List Int)(k:Nat):Prop:=∀i,i<l.length->(0<=gt l i∧gt l i<=(k:Int)-1)∧(0<i->gt l (i-1)<gt l i)
def lQ(x:Consumer)(k:Nat):Prop:=YN x.ci k∧(0<=x.e_∧x.e_<=50000)∧(0<=x.fa∧x.fa<=x.e_)∧(0<=x.kE∧x.kE<=15)∧(-1<=x.b9∧x.b9<=7)∧x.ci.length<=4
def azb{x:Consumer}{k:Nat}(hl:Sm x.ci)(hk:k<=1000000):PH x (k:Int)=aa (ak (lQ x k)):=by
 have e0:W ((k:Int)-1)=(k:Int)-1:=bX (by omega) (by omega);have h:=oC (step:=Fi x (k:Int)) (λi=>(i:Int)) x.ci.length (λi=>¬((0<=gt x.ci i∧gt x.ci i<=(k:Int)-1)∧(0<i->gt x.ci (i-1)<gt x.ci i))) (r:= .inr ae) (e:= .inl ())
  (λi hi hp=>by
    obtain⟨h1,h2⟩:=si.1 hp;simp only[Fi,aZ hi,aH,aM hi,al,bx,bE,bT,rB,e0,dT h1,dP,aC,aB];by_cases nU:0<i
    ·have h3:=h2 nU;rw[dT (c:=(i:Int)>0) (by omega)];simp only[aH,nv (eT hl hi) nU,aM (show i-1<x.ci.length by omega),al,bx,bE,bT,dF (c:=gt x.ci (i-1)>=gt x.ci i) (by omega),aC,aB,aY (eT hl hi)]
    ·rw[dF (c:=(i:Int)>0) (by omega)];simp only[aC,aB,al,bx,bE,bT,aY (eT hl hi)])
  (λi hi hp=>by
    simp only[Fi,aZ hi,aH,aM hi,al,bx,bE,bT,rB,e0];by_cases h1:0<=gt x.ci i∧gt x.ci i<=(k:Int)-1
    ·have h2:0<i∧gt x.ci i<=gt x.ci (i-1):=by
      by_cases nU:0<i
      ·refine⟨nU,Int.not_lt.1 λh=>hp ⟨h1,λ_=>h⟩⟩
      ·exact(hp ⟨h1,λh=>(nU h).elim⟩).elim
     rw[dT h1,dT (c:=(i:Int)>0) (by omega)];simp only[dP,aC,aB,aH,nv (eT hl hi) h2.1,aM (show i-1<x.ci.length by omega),al,bx,bE,bT,dT (c:=gt x.ci (i-1)>=gt x.ci i) (by omega)]
    ·rw[dF h1];simp only[lj,aH,al,bx,bE,bT])
  (by simp only[Fi,bC,aC,aB])
 have h':aG (Fi x (k:Int)) 0=_:=h;unfold PH;rw[h'];by_cases hn:YN x.ci k
 ·rw[aK (by rintro⟨i,hi,hp⟩;exact hp (hn i hi))];simp only[al,bx,bE,bT,rB];have e5:ak (len x.ci<=4)=ak (x.ci.length<=4):=by rw[Ch];unfold len;omega
  rw[e5];unfold lQ;by_cases h1:0<=x.e_∧x.e_<=50000<;>by_cases h2:0<=x.fa∧x.fa<=x.e_<;>by_cases h3:0<=x.kE∧x.kE<=15<;>by_cases h4: -1<=x.b9∧x.b9<=7<;>simp[hn,h1,h2,h3,h4]
 ·have:∃i,i<x.ci.length∧¬((0<=gt x.ci i∧gt x.ci i<=(k:Int)-1)∧(0<i->gt x.ci (i-1)<gt x.ci i)):=by
   apply gD;intro hh;exact hn λi hi=>gD λh=>hh ⟨i,hi,h⟩
  rw[aI this];have hc:¬lQ x k:=λh=>hn h.1;simp[hc]
def oF(x:cL)(j:Nat):Prop:=x.Kind=2∧x.B=(j:Int)
def pD(x:cL)(j:Nat):Prop:=x.Kind=3∧x.B=(j:Int)
def Cb(b:au)(k:Nat):Prop:=
 (0<=(gt b.ah k).A∧(gt b.ah k).A<=b.aA-1)∧
 (((gt b.ah k).Kind=1∧(gt b.ah k).A+1<=(gt b.ah k).B∧(gt b.ah k).B<=b.aA-1)∨
  ((gt b.ah k).Kind=2∧(0<=(gt b.ah k).B∧(gt b.ah k).B<=(b.aj.length:Int)-1)∧∀i,i<k->¬((gt b.ah i).Kind=2∧(gt b.ah i).B=(gt b.ah k).B))∨
  ((gt b.ah k).Kind=3∧(0<=(gt b.ah k).B∧(gt b.ah k).B<=(b.ay.length:Int)-1)∧∀i,i<k->¬((gt b.ah i).Kind=3∧(gt b.ah i).B=(gt b.ah k).B∧(gt b.ah i).A=(gt b.ah k).A)))
def cI(b:au):Prop:=(∀k,k<b.ah.length->Cb b k)∧(∀j,j<b.aj.length->∃k,k<b.ah.length∧oF (gt b.ah k) j)∧(∀j,j<b.ay.length->∃k,k<b.ah.length∧pD (gt b.ah k) j)
def xv(b:au)(k j:Nat):Nat:=((b.ah.take k).filter λx=>decide (oF x j)).length
def nt(b:au)(k j:Nat):List Int:=((b.ah.take k).filter λx=>decide (pD x j)).map (·.A)
def fS(b:au)(k:Nat):List Int:=(bW b.aj.length).map λj=>(xv b k j:Int)
def fe(b:au)(k:Nat):List (List Int):=(bW b.ay.length).map λj=>nt b k j
def WT{b:au}{k j:Nat}(hk:k<b.ah.length):xv b (k+1) j=xv b k j+if oF (gt b.ah k) j then 1 else 0:=by unfold xv;rw[lr hk,uL,cW];by_cases h:oF (gt b.ah k) j<;>simp[h]
def XV{b:au}{k j:Nat}(hk:k<b.ah.length):nt b (k+1) j=nt b k j++if pD (gt b.ah k) j then [(gt b.ah k).A]else []:=by unfold nt;rw[lr hk,uL,mS];by_cases h:pD (gt b.ah k) j<;>simp[h]
def DO{α:Type}[ad α]{l:List α}{k:Nat}(hk:k<=l.length){x:α}:x∈l.take k↔∃i,i<k∧gt l i=x:=by
 constructor
 ·intro h;obtain⟨i,hi,e⟩:=List.getElem_of_mem h;have et:i<k:=by simp at hi;omega
  refine⟨i,et,?_⟩;rw[fQ (by omega),<-e];simp
 ·rintro⟨i,hi,rfl⟩;rw[fQ (by omega)];exact List.mem_take_iff_getElem.2 ⟨i,by omega,rfl⟩
def O1{b:au}{k j:Nat}(hk:k<=b.ah.length):xv b k j=0↔∀i,i<k->¬oF (gt b.ah i) j:=by
 unfold xv;rw[List.length_eq_zero_iff,List.filter_eq_nil_iff];constructor
 ·intro h i hi hs;exact h _ ((DO hk).2 ⟨i,hi,rfl⟩) (by simpa using hs)
 ·intro h x hx hs;obtain⟨i,hi,rfl⟩:=(DO hk).1 hx;exact h i hi (by simpa using hs)
def MM{b:au}{k j:Nat}(hk:k<=b.ah.length){a:Int}:a∈nt b k j↔∃i,i<k∧pD (gt b.ah i) j∧(gt b.ah i).A=a:=by
 unfold nt;rw[dk];constructor
 ·rintro⟨x,hx,rfl⟩;rw[kH]at hx;obtain⟨i,hi,rfl⟩:=(DO hk).1 hx.1;exact⟨i,hi,by simpa using hx.2,rfl⟩
 ·rintro⟨i,hi,hc,rfl⟩;exact⟨_,kH.2 ⟨(DO hk).2 ⟨i,hi,rfl⟩,by simpa using hc⟩,rfl⟩
def akq{b:au}{k j:Nat}(hk:k<=b.ah.length):(nt b k j).length<=k:=by unfold nt;rw[pZ];refine lR (zD _ _) ?_;simp;omega
structure gy(b:au):Prop where
 jp:1<=b.aA∧b.aA<=6
 di:b.ah.length<=24
 src:b.aj.length<=8
 iY:b.ay.length<=16
def aDx{b:au}(hl:gy b):aG (B3 b) ((0:Int),fS b 0,fe b 0)=aa (if ∃k,k<b.ah.length∧¬Cb b k then .inr ae else .inl (fS b b.ah.length,fe b b.ah.length)):=by
 have hb:=hl.jp;have nV:=hl.di;have mG:=hl.src;have Em:=hl.iY;have eB:W (b.aA-1)=b.aA-1:=bX (by omega) (by omega);have jO:=oC (step:=B3 b) (λk=>((k:Int),fS b k,fe b k)) b.ah.length (λk=>¬Cb b k) (r:= .inr ae) (e:= .inl (fS b b.ah.length,fe b b.ah.length)) ?nx ?ht (by simp only[B3,bC,aC,aB]);exact jO.trans (by congr)
 case nx=>
  intro k hk hp;obtain⟨hA,hB⟩:=si.1 hp;have hs:k<1000000000000000000:=by omega
  have eS:len (fS b k)=(b.aj.length:Int):=by simp[len,fS]
  have eC:len (fe b k)=(b.ay.length:Int):=by simp[len,fe]
  have Wd:W ((b.aj.length:Int)-1)=(b.aj.length:Int)-1:=bX (by omega) (by omega);have We:W ((b.ay.length:Int)-1)=(b.ay.length:Int)-1:=bX (by omega) (by omega);have BL:W ((gt b.ah k).A+1)=(gt b.ah k).A+1:=bX (by omega) (by omega);simp only[B3,aZ hk,aH,aM hk,al,bx,bE,bT,rB,eB,BL,eS,eC,Wd,We,dT hA,dP,aC,aB];rcases hB with⟨h1,h2⟩|⟨h1,h2,h3⟩|⟨h1,h2,h3⟩
  ·have n1:∀j,¬oF (gt b.ah k) j:=λj h=>by have:=h.1;omega
   have n2:∀j,¬pD (gt b.ah k) j:=λj h=>by have:=h.1;omega
   have f1:fS b (k+1)=fS b k:=F4 λj _=>by rw[WT hk,aK (n1 j)];rfl
   have f2:fe b (k+1)=fe b k:=F4 λj _=>by rw[XV hk,aK (n2 j)];simp
   simp only[gu h1,aH,dT h2,al,bx,bE,bT,aY hs,f1,f2]
  ·have hj:(gt b.ah k).B=((gt b.ah k).B.toNat:Int):=by omega
   generalize (gt b.ah k).B.toNat=j at hj;rw[hj]at h2 h3;have dt:j<b.aj.length:=by omega
   have hz:xv b k j=0:=(O1 (by omega)).2 λi hi h=>h3 i hi h;have hg:gt (fS b k) j=0:=by unfold fS;rw[lK _ dt,hz];rfl
   have lH:(fS b k).length=b.aj.length:=by simp[fS]
   have n2:∀j,¬pD (gt b.ah k) j:=λj h=>by have:=h.1;omega
   have f2:fe b (k+1)=fe b k:=F4 λj _=>by rw[XV hk,aK (n2 j)];simp
   have f1:(fS b k).set j (W (0+1))=fS b (k+1):=by
    apply jZ
    ·simp[fS]
    ·intro i hi;have et:i<b.aj.length:=by simpa[fS]using hi
     rw[gV (by omega)];unfold fS;rw[lK _ et,lK _ et,WT hk];by_cases iC:i=j
     ·subst iC;rw[aI rfl,aI ⟨h1,hj⟩,hz];rfl
     ·rw[aK iC,aK (λh=>iC (by have:=h.2;omega))];rfl
   have k1:((gt b.ah k).Kind==1)=ae:=dL (by omega);simp only[k1,gu h1,aH,aB,aC,al,bx,bE,bT,hj,dT h2,aM (show j<(fS b k).length by omega),hg,QG,jK (show j<(fS b k).length by omega),f1,f2,aY hs]
  ·have hj:(gt b.ah k).B=((gt b.ah k).B.toNat:Int):=by omega
   generalize (gt b.ah k).B.toNat=j at hj;rw[hj]at h2 h3;have dt:j<b.ay.length:=by omega
   have Bb:(gt b.ah k).A∉nt b k j:=λh=>by obtain⟨i,hi,hc,ha⟩:=(MM (by omega)).1 h;exact h3 i hi ⟨hc.1,hc.2,ha⟩
   have hg:gt (fe b k) j=nt b k j:=by unfold fe;rw[lK _ dt]
   have lH:(fe b k).length=b.ay.length:=by simp[fe]
   have aEL:(fe b (k+1)).length=b.ay.length:=by simp[fe]
   have um:=akq (b:=b) (k:=k) (j:=j) (by omega);have n1:∀j,¬oF (gt b.ah k) j:=λj h=>by have:=h.1;omega
   have f1:fS b (k+1)=fS b k:=F4 λj _=>by rw[WT hk,aK (n1 j)];rfl
   have f2:(fe b k).set j (nt b k j++[(gt b.ah k).A])=fe b (k+1):=by
    apply jZ
    ·simp[fe]
    ·intro i hi;have et:i<b.ay.length:=by simpa[fe]using hi
     rw[gV (by omega)];unfold fe;rw[lK _ et,lK _ et,XV hk];by_cases iC:i=j
     ·subst iC;rw[aI rfl,aI ⟨h1,hj⟩]
     ·rw[aK iC,aK (λh=>iC (by have:=h.2;omega))];simp
   have k1:((gt b.ah k).Kind==1)=ae:=dL (by omega);have k2:((gt b.ah k).Kind==2)=ae:=dL (by omega);have fO:Sm (nt b k j):=by unfold Sm;omega
   simp only[k1,k2,gu h1,aH,aB,aC,al,bx,bE,bT,hj,dT h2,aM (show j<(fe b k).length by omega),hg,contains_eq fO,dF Bb,aM (show j<(fe b (k+1)).length by omega),lj,cJ (show(nt b k j).length+[(gt b.ah k).A].length<=1073741824 by simp;omega),jK (show j<(fe b k).length by omega),f1,f2,aY hs]
 case ht=>
  intro k hk hp;have hs:k<1000000000000000000:=by omega
  have eS:len (fS b k)=(b.aj.length:Int):=by simp[len,fS]
  have eC:len (fe b k)=(b.ay.length:Int):=by simp[len,fe]
  have Wd:W ((b.aj.length:Int)-1)=(b.aj.length:Int)-1:=bX (by omega) (by omega);have We:W ((b.ay.length:Int)-1)=(b.ay.length:Int)-1:=bX (by omega) (by omega);by_cases hA:0<=(gt b.ah k).A∧(gt b.ah k).A<=b.aA-1
  ·have BL:W ((gt b.ah k).A+1)=(gt b.ah k).A+1:=bX (by omega) (by omega);simp only[B3,aZ hk,aH,aM hk,al,bx,bE,bT,rB,eB,BL,eS,eC,Wd,We,dT hA,dP,aC,aB];by_cases k1:(gt b.ah k).Kind=1
   ·have h2:¬((gt b.ah k).A+1<=(gt b.ah k).B∧(gt b.ah k).B<=b.aA-1):=λh=>hp ⟨hA,.inl ⟨k1,h⟩⟩;have k2:((gt b.ah k).Kind==2)=ae:=dL (by omega);have k3:((gt b.ah k).Kind==3)=ae:=dL (by omega);simp only[gu k1,k2,k3,aH,aB,aC,dF h2,al,bx,bE,bT]
   ·by_cases k2:(gt b.ah k).Kind=2
    ·have k3:((gt b.ah k).Kind==3)=ae:=dL (by omega);by_cases h2:0<=(gt b.ah k).B∧(gt b.ah k).B<=(b.aj.length:Int)-1
     ·have hj:(gt b.ah k).B=((gt b.ah k).B.toNat:Int):=by omega
      have dt:(gt b.ah k).B.toNat<b.aj.length:=by omega
      have bM:gt (fS b k) (gt b.ah k).B.toNat≠0:=by
       unfold fS;rw[lK _ dt];intro h0;have hz:xv b k (gt b.ah k).B.toNat=0:=by omega
       refine hp ⟨hA,.inr (.inl ⟨k2,h2,λi hi h=>(O1 (by omega)).1 hz i hi ⟨h.1,by rw[h.2];exact hj⟩⟩)⟩
      have lH:(fS b k).length=b.aj.length:=by simp[fS]
      simp only[dL k1,gu k2,k3,aH,aB,aC,dT h2,al,bx,bE,bT,iI h2.1 (show(gt b.ah k).B<((fS b k).length:Int) by omega),dL bM]
     ·simp only[dL k1,gu k2,k3,aH,aB,aC,dF h2,al,bx,bE,bT]
    ·by_cases k3:(gt b.ah k).Kind=3
     ·by_cases h2:0<=(gt b.ah k).B∧(gt b.ah k).B<=(b.ay.length:Int)-1
      ·have hj:(gt b.ah k).B=((gt b.ah k).B.toNat:Int):=by omega
       have dt:(gt b.ah k).B.toNat<b.ay.length:=by omega
       have hg:gt (fe b k) (gt b.ah k).B.toNat=nt b k (gt b.ah k).B.toNat:=by unfold fe;rw[lK _ dt]
       have iJ:(gt b.ah k).A∈nt b k (gt b.ah k).B.toNat:=by apply gD;intro hn;refine hp ⟨hA,.inr (.inr ⟨k3,h2,λi hi h=>hn ((MM (by omega)).2 ⟨i,hi,⟨h.1,by rw[h.2.1];exact hj⟩,h.2.2⟩)⟩)⟩
       have lH:(fe b k).length=b.ay.length:=by simp[fe]
       have um:=akq (b:=b) (k:=k) (j:=(gt b.ah k).B.toNat) (by omega);have fO:Sm (nt b k (gt b.ah k).B.toNat):=by unfold Sm;omega
       simp only[dL k1,dL k2,gu k3,aH,aB,aC,dT h2,al,bx,bE,bT,iI h2.1 (show(gt b.ah k).B<((fe b k).length:Int) by omega),hg,contains_eq fO,dT iJ,dP]
      ·simp only[dL k1,dL k2,gu k3,aH,aB,aC,dF h2,al,bx,bE,bT]
     ·simp only[dL k1,dL k2,dL k3,aB,aC,al,bx,bE,bT]
  ·simp only[B3,aZ hk,aH,aM hk,al,bx,bE,bT,rB,eB,dF hA,lj]
end Rx
namespace Rx
open Classical
def Y4{b:au}:(0:Int)∈fS b b.ah.length↔∃j,j<b.aj.length∧∀k,k<b.ah.length->¬oF (gt b.ah k) j:=by
 unfold fS;rw[dk];constructor
 ·rintro⟨j,hj,h⟩;exact⟨j,ew.1 hj,(O1 (bw _)).1 (by omega)⟩
 ·rintro⟨j,hj,h⟩;exact⟨j,ew.2 hj,by rw[(O1 (bw _)).2 h];rfl⟩
def aza{l:List (List Int)}(hl:Sm l):Ld l=aa (ak (∃k,k<l.length∧gt l k=[])):=by
 have h:=vw (step:=Da l) (λk=>(k:Int)) l.length (λk=>(len (gt l k)==0)) (R:=λk=> .inr (k:Int)) (e:= .inl ())
  (λk hk hp=>by simp only[Da,PK,aZ hk,aH,aM hk,al,cV,bx,bE,bT,hp,aC,aB,aY (eT hl hk)])
  (λk hk hp=>by simp only[Da,PK,aZ hk,aH,aM hk,al,cV,bx,bE,bT,hp])
  (by simp only[Da,bC,aC,aB])
 have h':aG (Da l) 0=_:=h;unfold Ld RU;rw[h'];have hz:∀k,(len (gt l k)==0)=ab↔gt l k=[]:=λk=>by simp[len]
 cases hf:(bW l.length).find? (λk=>(len (gt l k)==0))with
 |none=>
  have:¬∃k,k<l.length∧gt l k=[]:=λ⟨k,hk,e⟩=>by have:=sh.1 hf k (ew.2 hk);exact this ((hz k).2 e)
  simp[this]
 |some k=>have hk:=ew.1 (uJ hf);have hp:=(hz k).1 (zE (p:=λk=>(len (gt l k)==0)) hf);have:∃k,k<l.length∧gt l k=[]:=⟨k,hk,hp⟩;simp[this]
def aDy{b:au}(hl:gy b):PL b=aa (ak (cI b)):=by
 have nV:=hl.di;have mG:=hl.src;have Em:=hl.iY;have e1:mE (0:Int) (len b.aj)=aa (fS b 0):=by
  rw[acP,yw (by omega)];congr 1;apply jZ
  ·simp[fS]
  ·intro k hk;have da:k<b.aj.length:=by simpa using hk
   rw[BB da];unfold fS;rw[lK _ da];simp[xv]
 have e2:mE ([]:List Int) (len b.ay)=aa (fe b 0):=by
  rw[acP,yw (by omega)];congr 1;apply jZ
  ·simp[fe]
  ·intro k hk;have da:k<b.ay.length:=by simpa using hk
   rw[BB da];unfold fe;rw[lK _ da];simp[nt]
 have xe:=aDx hl;unfold PL;simp only[e1,e2,al,cV,bx,bE,bT,xe];by_cases gU:∀k,k<b.ah.length->Cb b k
 ·rw[aK (by rintro⟨k,hk,h⟩;exact h (gU k hk))];have s1:Sm (fS b b.ah.length):=by unfold Sm;simp[fS];omega
  have s2:Sm (fe b b.ah.length):=by unfold Sm;simp[fe];omega
  have dh:(fe b b.ah.length).length=b.ay.length:=by simp[fe]
  simp only[al,cV,bx,bE,bT,bx,contains_eq s1,aza s2];by_cases h0:(0:Int)∈fS b b.ah.length
  ·have:¬cI b:=λh=>by
    obtain⟨j,hj,hn⟩:=Y4.1 h0;obtain⟨k,hk,hs⟩:=h.2.1 j hj;exact hn k hk hs
   simp[h0,this]
  ·have hS:∀j,j<b.aj.length->∃k,k<b.ah.length∧oF (gt b.ah k) j:=λj hj=>by
    apply gD;intro hn;exact h0 (Y4.2 ⟨j,hj,λk hk hs=>hn ⟨k,hk,hs⟩⟩)
   by_cases hE:∃k,k<(fe b b.ah.length).length∧gt (fe b b.ah.length) k=[]
   ·have:¬cI b:=λh=>by
     obtain⟨j,hj,he⟩:=hE;rw[dh]at hj;obtain⟨k,hk,hc⟩:=h.2.2 j hj;unfold fe at he;rw[lK _ hj]at he;have:(gt b.ah k).A∈nt b b.ah.length j:=(MM (bw _)).2 ⟨k,hk,hc,rfl⟩;rw[he]at this;cases this
    simp[h0,hE,this]
   ·have:cI b:=⟨gU,hS,λj hj=>by
     apply gD;intro hn;refine hE ⟨j,by rw[dh];exact hj,?_⟩;unfold fe;rw[lK _ hj];apply List.eq_nil_iff_forall_not_mem.2;intro a ha;obtain⟨i,hi,hc,_⟩:=(MM (bw _)).1 ha;exact hn ⟨i,hi,hc⟩⟩
    simp[h0,hE,this]
 ·have:∃k,k<b.ah.length∧¬Cb b k:=by
   apply gD;intro hn;exact gU λk hk=>gD λh=>hn ⟨k,hk,h⟩
  rw[aI this];have:¬cI b:=λh=>gU h.1;simp[this]
def mM(x:Source):Prop:=(1<=x.iE∧x.iE<=50000)∧(0<=x.fa∧x.fa<=x.iE)∧0<=x.Start∧x.Start<=600
def q7(b:au):Prop:=cI b∧(0<=b.bn∧b.bn<=1800)∧(0<=b.a_∧b.a_<=6000)∧(∀k,k<b.aj.length->mM (gt b.aj k))∧∀k,k<b.ay.length->lQ (gt b.ay k) k
def nr(b:au):Int:=if gy b then(if q7 b then 0 else 14)else 2
def fw(b:au):Prop:=Sm b.ah∧Sm b.aj∧Sm b.ay∧∀x∈b.ay,Sm x.ci
def apb(x:Source):Jl x=aa (ak (mM x)):=by rw[apc];congr 1;rw[Ch];exact Iff.rfl
def Wz(p:Prop)[Decidable p]:ak p=dB p:=by
 by_cases h:p
 ·rw[dT h,fG h]
 ·rw[dF h,fH h]
def Wy(r:Bool){S:Prop}(h:S):r=dB (r=ab∧S):=by
 cases r
 ·rw[fH (λh=>by cases h.1)]
 ·rw[fG ⟨rfl,h⟩]
def N6{r:Bool}{S C G:Prop}(h:(r=ab∧S)∧C↔G):(if(!dB (dB (r=ab∧S)=ab∧C))=ab then aa (14:Int)else aa 0)=aa (if G then 0 else 14):=by
 by_cases hg:G
 ·obtain⟨h1,h2⟩:=h.2 hg;rw[fG h1,fG (p:=ab=ab∧C) ⟨rfl,h2⟩,aI hg];rfl
 ·by_cases h1:r=ab∧S
  ·rw[fG h1,fH (p:=ab=ab∧C) (λh2=>hg (h.1 ⟨h1,h2.2⟩)),aK hg];rfl
  ·rw[fH h1,fH (p:=ae=ab∧C) (λh2=>by cases h2.1),aK hg];rfl
def V2{r:Bool}{S G:Prop}(h:(r=ab∧S)↔G):(if(!dB (r=ab∧S))=ab then aa (11:Int)else aa 0)=aa (if G then 0 else 11):=by
 by_cases hg:G
 ·rw[fG (h.2 hg),aI hg];rfl
 ·rw[fH (λh1=>hg (h.1 h1)),aK hg];rfl
def KE{b:au}(hl:gy b)(r:Bool):aG (Fo b) (r,(0:Int))=aa (dB (r=ab∧∀k,k<b.aj.length->mM (gt b.aj k))):=by
 have mG:=hl.src;have h:=dR (step:=Fo b) (λk=>(dB (r=ab∧∀i,i<k->mM (gt b.aj i)),(k:Int))) b.aj.length (r:=dB (r=ab∧∀i,i<b.aj.length->mM (gt b.aj i)))
  (λk hk=>by
    simp only[Fo,aZ hk,aH,aM hk,al,cV,bx,bE,bT,apb,aY (show k<1000000000000000000 by omega)];by_cases h1:r=ab∧∀i,i<k->mM (gt b.aj i)
    ·have e:dB (r=ab∧∀i,i<k+1->mM (gt b.aj i))=ak (mM (gt b.aj k)):=by
      rw[Wz];apply WA;refine⟨λh=>h.2 k (by omega),λh=>⟨h1.1,λi hi=>?_⟩⟩;by_cases dV:i=k
      ·subst dV;exact h
      ·exact h1.2 i (by omega)
     rw[fG h1,e];rfl
    ·have h2:¬(r=ab∧∀i,i<k+1->mM (gt b.aj i)):=λh=>h1 ⟨h.1,λi hi=>h.2 i (by omega)⟩;rw[fH h1,fH h2];rfl)
  (by simp only[Fo,bC,aC,aB])
 have e0:r=dB (r=ab∧∀i,i<0->mM (gt b.aj i)):=Wy r (λi hi=>by omega);exact(iF (λq=>aG (Fo b) (q,(0:Int))) e0).trans h
def OZ{b:au}(hl:gy b)(hs:fw b)(r:Bool):aG (Fm b) (r,(0:Int))=aa (dB (r=ab∧∀k,k<b.ay.length->lQ (gt b.ay k) k)):=by
 have Em:=hl.iY;have h:=dR (step:=Fm b) (λk=>(dB (r=ab∧∀i,i<k->lQ (gt b.ay i) i),(k:Int))) b.ay.length (r:=dB (r=ab∧∀i,i<b.ay.length->lQ (gt b.ay i) i))
  (λk hk=>by
    simp only[Fm,aZ hk,aH,aM hk,al,cV,bx,bE,bT,azb (hs.2.2.2 _ (cX hk)) (show k<=1000000 by omega),aY (show k<1000000000000000000 by omega)];by_cases h1:r=ab∧∀i,i<k->lQ (gt b.ay i) i
    ·have e:dB (r=ab∧∀i,i<k+1->lQ (gt b.ay i) i)=ak (lQ (gt b.ay k) k):=by
      rw[Wz];apply WA;refine⟨λh=>h.2 k (by omega),λh=>⟨h1.1,λi hi=>?_⟩⟩;by_cases dV:i=k
      ·subst dV;exact h
      ·exact h1.2 i (by omega)
     rw[fG h1,e];rfl
    ·have h2:¬(r=ab∧∀i,i<k+1->lQ (gt b.ay i) i):=λh=>h1 ⟨h.1,λi hi=>h.2 i (by omega)⟩;rw[fH h1,fH h2];rfl)
  (by simp only[Fm,bC,aC,aB])
 have e0:r=dB (r=ab∧∀i,i<0->lQ (gt b.ay i) i):=Wy r (λi hi=>by omega);exact(iF (λq=>aG (Fm b) (q,(0:Int))) e0).trans h
def af7{b:au}(hs:fw b):JA b=aa (nr b):=by
 unfold JA nr;simp only[rB,al,cV,bx,bE,bT];by_cases h1:1<=b.aA∧b.aA<=6
 case neg=>have:¬gy b:=λh=>h1 h.jp;simp[h1,this]
 by_cases h2:b.ah.length<=24
 case neg=>have:¬gy b:=λh=>h2 h.di;have e:ak (len b.ah>24)=ab:=dT (by unfold len;omega);simp[h1,this,e]
 by_cases h3:b.aj.length<=8
 case neg=>have:¬gy b:=λh=>h3 h.src;have e1:ak (len b.ah>24)=ae:=dF (by unfold len;omega);have e:ak (len b.aj>8)=ab:=dT (by unfold len;omega);simp[h1,this,e,e1]
 by_cases h4:b.ay.length<=16
 case neg=>have:¬gy b:=λh=>h4 h.iY;have e1:ak (len b.ah>24)=ae:=dF (by unfold len;omega);have e2:ak (len b.aj>8)=ae:=dF (by unfold len;omega);have e:ak (len b.ay>16)=ab:=dT (by unfold len;omega);simp[h1,this,e,e1,e2]
 have hl:gy b:=⟨h1,h2,h3,h4⟩;have e1:ak (len b.ah>24)=ae:=dF (by unfold len;omega);have e2:ak (len b.aj>8)=ae:=dF (by unfold len;omega);have e3:ak (len b.ay>16)=ae:=dF (by unfold len;omega);simp only[dT h1,e1,e2,e3,dP,aC,aB,al,cV,bx,bE,bT,aDy hl,aI hl];by_cases g1:cI b
 case neg=>simp only[dF g1,aC,aB,al,cV,bx,bE,bT];rw[KE hl,al,OZ hl hs,al];exact N6 (r:=ae) ⟨(λh=>by cases h.1.1),λh=>(g1 h.1).elim⟩
 by_cases g2:0<=b.bn∧b.bn<=1800
 case neg=>simp only[dT g1,dF g2,aC,aB,aH,al,cV,bx,bE,bT];rw[KE hl,al,OZ hl hs,al];exact N6 (r:=ae) ⟨(λh=>by cases h.1.1),λh=>(g2 h.2.1).elim⟩
 by_cases g3:0<=b.a_∧b.a_<=6000
 case neg=>simp only[dT g1,dT g2,dF g3,aC,aB,aH,al,cV,bx,bE,bT];rw[KE hl,al,OZ hl hs,al];exact N6 (r:=ae) ⟨(λh=>by cases h.1.1),λh=>(g3 h.2.2.1).elim⟩
 rw[dT g1,dT g2,dT g3];simp only[aH,al,cV,bx,bE,bT];rw[KE hl,al,OZ hl hs,al];exact N6 (r:=ab) ⟨λh=>⟨g1,g2,g3,h.1.2,h.2⟩,λh=>⟨⟨rfl,h.2.2.2.1⟩,h.2.2.2.2⟩⟩
def WS(a b:Int):vZ a b=aa (if a<b then-1 else if b<a then 1 else 0):=by unfold vZ I4;by_cases h1:a<b<;>by_cases h2:b<a<;>simp[h1,h2]
def Mq(a b:Int):E0 [a,b]=aa (if a≠0 then a else b):=by
 have hl:len [a,b]=2:=rfl;have i0:idx [a,b] 0=aa a:=rfl;have i1:idx [a,b] 1=aa b:=rfl;have w1:W 1=1:=bX (by omega) (by omega);have w2:W 2=2:=bX (by omega) (by omega);unfold E0;by_cases ha:a=0
 ·subst ha;have s0:uB [0,b] 0=aa (.inl 1):=by simp[uB,hl,i0,w1]
  by_cases hb:b=0
  ·subst hb;have s1:uB [0,0] 1=aa (.inl 2):=by simp[uB,hl,i1,w2]
   have s2:uB [0,0] 2=aa (.inr (.inl ())):=by simp[uB,hl]
   rw[oD (.more s0 (.more s1 (.done s2))) (by omega)];rfl
  ·have s1:uB [0,b] 1=aa (.inr (.inr b)):=by simp[uB,hl,i1,hb]
   rw[oD (.more s0 (.done s1)) (by omega)];simp
 ·have s0:uB [a,b] 0=aa (.inr (.inr a)):=by simp[uB,hl,i0,ha]
  rw[oD (.done s0) (by omega)];simp[ha]
def bsize(b:au)(kind:Int):Int:=if kind=1 then b.aj.length else if kind=2 then b.ah.length else if kind=3 then b.aA else if kind=4 then b.ay.length else 0
def size_eq(b:au)(k:Int):PE b k=aa (bsize b k):=by unfold PE bsize;by_cases h1:k=1<;>by_cases h2:k=2<;>by_cases h3:k=3<;>by_cases h4:k=4<;>simp[h1,h2,h3,h4,len]
def before(x y:Part):Prop:=x.Kind<y.Kind∨x.Kind=y.Kind∧x.Number<y.Number
def oX(b:au)(l:List Part)(k:Nat):Prop:=(0<=(gt l k).Number∧(gt l k).Number<=bsize b (gt l k).Kind-1)∧(0<k->before (gt l (k-1)) (gt l k))
def af2(x y:Part):ak ((if(if x.Kind<y.Kind then(-1:Int)else if y.Kind<x.Kind then 1 else 0)≠0 then(if x.Kind<y.Kind then(-1:Int)else if y.Kind<x.Kind then 1 else 0)else(if x.Number<y.Number then(-1:Int)else if y.Number<x.Number then 1 else 0))>=0)=ak (¬before x y):=by
 rw[Ch];unfold before;by_cases h1:x.Kind<y.Kind
 ·simp[h1]
 ·by_cases h2:y.Kind<x.Kind
  ·simp[h1,h2];omega
  ·by_cases h3:x.Number<y.Number
   ·simp[h1,h2,h3];omega
   ·by_cases h4:y.Number<x.Number
    ·simp[h1,h2,h3,h4]
    ·simp[h1,h2,h3,h4]
def aDt{b:au}{l:List Part}(hb:gy b)(hl:Sm l):PJ b l=aa (ak ((∀k,k<l.length->oX b l k)∧l.length<=32)):=by
 have h1:=hb.jp;have h2:=hb.di;have h3:=hb.src;have h4:=hb.iY;have eW:∀k,W (bsize b k-1)=bsize b k-1:=λk=>by apply bX<;>unfold bsize<;>(repeat' split)<;>omega
 have h:=oC (step:=Fj b l) (λi=>(i:Int)) l.length (λi=>¬oX b l i) (r:= .inr ae) (e:= .inl ())
  (λi hi hp=>by
    obtain⟨p1,p2⟩:=si.1 hp;simp only[Fj,aZ hi,aH,aM hi,al,cV,bx,bE,bT,size_eq,rB,eW,dT p1,dP,aC,aB];by_cases nU:0<i
    ·have p3:=p2 nU;rw[dT (c:=(i:Int)>0) (by omega)];simp only[aH,nv (eT hl hi) nU,aM (show i-1<l.length by omega),al,cV,bx,bE,bT,WS,Mq,af2,dF (c:=¬before (gt l (i-1)) (gt l i)) (λh=>h p3),aC,aB,aY (eT hl hi)]
    ·rw[dF (c:=(i:Int)>0) (by omega)];simp only[aC,aB,al,cV,bx,bE,bT,aY (eT hl hi)])
  (λi hi hp=>by
    simp only[Fj,aZ hi,aH,aM hi,al,cV,bx,bE,bT,size_eq,rB,eW];by_cases p1:0<=(gt l i).Number∧(gt l i).Number<=bsize b (gt l i).Kind-1
    ·have p2:0<i∧¬before (gt l (i-1)) (gt l i):=by
      by_cases nU:0<i
      ·exact⟨nU,λh=>hp ⟨p1,λ_=>h⟩⟩
      ·exact(hp ⟨p1,λh=>(nU h).elim⟩).elim
     rw[dT p1,dT (c:=(i:Int)>0) (by omega)];simp only[dP,aC,aB,aH,nv (eT hl hi) p2.1,aM (show i-1<l.length by omega),al,cV,bx,bE,bT,WS,Mq,af2,dT p2.2]
    ·rw[dF p1];simp only[lj,aH,al,cV,bx,bE,bT])
  (by simp only[Fj,bC,aC,aB])
 have h':aG (Fj b l) 0=_:=h;unfold PJ;rw[h'];by_cases hn:∀k,k<l.length->oX b l k
 ·rw[aK (by rintro⟨i,hi,hp⟩;exact hp (hn i hi))];show aa (ak (len l<=32))=_;congr 1;rw[Ch];unfold len;exact⟨λh=>⟨hn,by omega⟩,λh=>by have:=h.2;omega⟩
 ·have:∃i,i<l.length∧¬oX b l i:=by
   apply gD;intro hh;exact hn λi hi=>gD λh=>hh ⟨i,hi,h⟩
  rw[aI this,dF (c:=(∀k,k<l.length->oX b l k)∧l.length<=32) (λh=>hn h.1)];rfl
def gY(x:bu):Prop:=(0<=x.State∧x.State<=3)∧(0<=x.gX∧x.gX<=2147483648)∧(0<=x.a_∧x.a_<=6000)∧0<=x.bn∧x.bn<=3599
def afZ{l:List bu}(hl:Sm l):Lh l=aa (ak (∃k,k<l.length∧¬gY (gt l k))):=by
 have e1:∀x,PM x=aa (ak (¬gY x)):=λx=>by
  unfold PM;rw[ap1];have:gY x↔((0<=x.State∧x.State<=3)∧(0<=x.gX∧x.gX<=2147483648)∧(0<=x.a_∧x.a_<=6000)∧0<=x.bn∧x.bn<=3599):=Iff.rfl;by_cases h:gY x
  ·rw[dT (this.1 h),dF (c:=¬gY x) (λhh=>hh h)];rfl
  ·rw[dF (λhh=>h (this.2 hh)),dT h];rfl
 have h:=vw (step:=Db l) (λk=>(k:Int)) l.length (λk=>decide (¬gY (gt l k))) (R:=λk=> .inr (k:Int)) (e:= .inl ())
  (λk hk hp=>by simp only[Db,e1,aZ hk,aH,aM hk,al,cV,bx,bE,bT,hp,aC,aB,aY (eT hl hk)])
  (λk hk hp=>by simp only[Db,e1,aZ hk,aH,aM hk,al,cV,bx,bE,bT,hp])
  (by simp only[Db,bC,aC,aB])
 have h':aG (Db l) 0=_:=h;unfold Lh RW;rw[h'];cases hf:(bW l.length).find? (λk=>decide (¬gY (gt l k)))with
 |none=>
  have:¬∃k,k<l.length∧¬gY (gt l k):=λ⟨k,hk,e⟩=>by have:=sh.1 hf k (ew.2 hk);exact this (dT e)
  rw[dF this];rfl
 |some k=>have hk:=ew.1 (uJ hf);have hp:=jJ (zE (p:=λk=>decide (¬gY (gt l k))) hf);have:∃k,k<l.length∧¬gY (gt l k):=⟨k,hk,hp⟩;rw[dT this];simp
def eZ(b:au)(p:aw)(j:Int):Nat->Nat
 |0=>0
 |k+1=>eZ b p j k+if(gt b.ah k).Kind=3∧(gt b.ah k).B=j∧gt p.aE k=ab then 1 else 0
def azq(b:au)(p:aw)(j:Int)(k:Nat):eZ b p j k<=k:=by
 induction k with
 |zero=>exact bw _
 |succ k ih=>unfold eZ;split<;>omega
def azp{b:au}{p:aw}(j:Int)(hl:Sm b.ah)(hc:p.aE.length=b.ah.length):PI b p j=aa (eZ b p j b.ah.length:Int):=by
 have h:=dR (step:=Jt b p j) (λk=>((eZ b p j k:Int),(k:Int))) b.ah.length (r:=(eZ b p j b.ah.length:Int))
  (λk hk=>by
    have:=azq b p j k;have hs:=eT hl hk;simp only[Jt,aZ hk,aH,aM hk,aM (l:=p.aE) (show k<p.aE.length by omega),al,cV,bx,bE,bT,aY hs,aY (show eZ b p j k<1000000000000000000 by omega)];by_cases h1:(gt b.ah k).Kind=3
    ·by_cases h2:(gt b.ah k).B=j
     ·cases h3:gt p.aE k with
      |true=>simp[eZ,h1,h2,h3]
      |false=>simp[eZ,h1,h2,h3]
     ·simp[eZ,h1,h2]
    ·simp[eZ,h1])
  (by simp only[Jt,bC,aC,aB])
 have h':aG (Jt b p j) (0,0)=_:=h;unfold PI;rw[h'];rfl
def Shape(b:au)(p:aw):Prop:=p.aE.length=b.ah.length∧p.aj.length=b.aj.length∧p.aT.length=b.ay.length
def uF(b:au)(p:aw)(k:Nat):Prop:=(0<=gt p.aT k∧gt p.aT k<=(gt b.ay k).e_)∧eZ b p (k:Int) b.ah.length<=1
def wb(b:au)(p:aw):Prop:=((∀k,k<p.aP.length->oX b p.aP k)∧p.aP.length<=32)∧(∀k,k<p.aj.length->gY (gt p.aj k))∧∀k,k<p.aT.length->uF b p k
def bo(b:au)(p:aw):Int:=if nr b=0 then(if Shape b p then(if wb b p then 0 else 11)else 8)else nr b
def dA(p:aw):Prop:=Sm p.aE∧Sm p.aj∧Sm p.aT∧Sm p.aP
def BS{b:au}:nr b=0↔gy b∧q7 b:=by unfold nr;by_cases h1:gy b<;>by_cases h2:q7 b<;>simp[h1,h2]
def TM{b:au}{p:aw}(hb:fw b)(hp:dA p)(nh:Shape b p)(r:Bool):aG (Fk b p) (r,(0:Int))=aa (dB (r=ab∧∀k,k<p.aT.length->uF b p k)):=by
 obtain⟨s1,s2,s3⟩:=nh;have D5:Sm p.aT:=hp.2.2.1;have h:=dR (step:=Fk b p) (λk=>(dB (r=ab∧∀i,i<k->uF b p i),(k:Int))) p.aT.length (r:=dB (r=ab∧∀i,i<p.aT.length->uF b p i))
  (λk hk=>by
    have qF:k<b.ay.length:=by omega
    simp only[Fk,aZ hk,aH,aM hk,aM qF,al,cV,bx,bE,bT,rB,azp (k:Int) hb.1 s1,aY (eT hp.2.2.1 hk)];have e5:ak ((eZ b p (k:Int) b.ah.length:Int)<=1)=ak (eZ b p (k:Int) b.ah.length<=1):=by rw[Ch];omega
    by_cases h1:r=ab∧∀i,i<k->uF b p i
    ·have e:dB (r=ab∧∀i,i<k+1->uF b p i)=ak (uF b p k):=by
      rw[Wz];apply WA;refine⟨λh=>h.2 k (by omega),λh=>⟨h1.1,λi hi=>?_⟩⟩;by_cases dV:i=k
      ·subst dV;exact h
      ·exact h1.2 i (by omega)
     rw[fG h1,e,e5];unfold uF;by_cases h2:0<=gt p.aT k∧gt p.aT k<=(gt b.ay k).e_<;>by_cases h3:eZ b p (k:Int) b.ah.length<=1<;>simp[h2,h3]
    ·have h2:¬(r=ab∧∀i,i<k+1->uF b p i):=λh=>h1 ⟨h.1,λi hi=>h.2 i (by omega)⟩;rw[fH h1,fH h2];rfl)
  (by simp only[Fk,bC,aC,aB])
 have e0:r=dB (r=ab∧∀i,i<0->uF b p i):=Wy r (λi hi=>by omega);exact(iF (λq=>aG (Fk b p) (q,(0:Int))) e0).trans h
def xZ{b:au}{p:aw}(hb:fw b)(hp:dA p):pS b p=aa (bo b p):=by
 unfold pS bo;rw[af7 hb];simp only[al,cV,bx,bE,bT];by_cases h0:nr b=0
 case neg=>simp[h0]
 have hL:=(BS.1 h0).1;have e0:(nr b !=0)=ae:=by simp[h0]
 simp only[e0,aC,aB,aI h0];by_cases h1:p.aE.length=b.ah.length
 case neg=>
  have:¬Shape b p:=λh=>h1 h.1;have e:(len p.aE !=len b.ah)=ab:=by simp[len];omega
  simp[e,this]
 by_cases h2:p.aj.length=b.aj.length
 case neg=>
  have:¬Shape b p:=λh=>h2 h.2.1;have e1:(len p.aE !=len b.ah)=ae:=by simp[len,h1]
  have e:(len p.aj !=len b.aj)=ab:=by simp[len];omega
  simp[e,e1,this]
 by_cases h3:p.aT.length=b.ay.length
 case neg=>
  have:¬Shape b p:=λh=>h3 h.2.2;have e1:(len p.aE !=len b.ah)=ae:=by simp[len,h1]
  have e2:(len p.aj !=len b.aj)=ae:=by simp[len,h2]
  have e:(len p.aT !=len b.ay)=ab:=by simp[len];omega
  simp[e,e1,e2,this]
 have nh:Shape b p:=⟨h1,h2,h3⟩;have e1:(len p.aE !=len b.ah)=ae:=by simp[len,h1]
 have e2:(len p.aj !=len b.aj)=ae:=by simp[len,h2]
 have e3:(len p.aT !=len b.ay)=ae:=by simp[len,h3]
 simp only[e1,e2,e3,aC,aB,al,cV,bx,bE,bT,aDt hL hp.2.2.2,aI nh];have hx:(∃k,k<p.aj.length∧¬gY (gt p.aj k))↔¬∀k,k<p.aj.length->gY (gt p.aj k):=by
  constructor
  ·rintro⟨k,hk,h⟩ hh;exact h (hh k hk)
  ·intro h;apply gD;intro hn;exact h λk hk=>gD λhr=>hn ⟨k,hk,hr⟩
 by_cases g1:(∀k,k<p.aP.length->oX b p.aP k)∧p.aP.length<=32
 case neg=>simp only[dF g1,aC,aB,al,cV,bx,bE,bT];rw[TM hb hp nh,al];exact V2 (r:=ae) ⟨(λh=>by cases h.1),λh=>(g1 h.1).elim⟩
 by_cases g2:∀k,k<p.aj.length->gY (gt p.aj k)
 case neg=>simp only[dT g1,aH,afZ hp.2.1,dT (c:=∃k,k<p.aj.length∧¬gY (gt p.aj k)) (hx.2 g2),dP,al,cV,bx,bE,bT];rw[TM hb hp nh,al];exact V2 (r:=ae) ⟨(λh=>by cases h.1),λh=>(g2 h.2.1).elim⟩
 simp only[dT g1,aH,afZ hp.2.1,dF (c:=∃k,k<p.aj.length∧¬gY (gt p.aj k)) (λh=>hx.1 h g2),lj,al,cV,bx,bE,bT];rw[TM hb hp nh,al];exact V2 (r:=ab) ⟨λh=>⟨g1,g2,h.2⟩,λh=>⟨rfl,h.2.2⟩⟩
end Rx
namespace Rx
def Wp.ite{α:Type}{c:Bool}{a b:Option α}{Q:α->Prop}(ha:c=ab->Wp a Q)(hb:c=ae->Wp b Q):Wp (if c=ab then a else b) Q:=by
 cases c with
 |true=>exact ha rfl
 |false=>exact hb rfl
def Sr(l:List Int)(a:Int):Prop:=0<=a∧l.length<=1000000∧a<=l.length
def mod_eq{x n:Int}(h1:1<=n)(h2:n<=1000000000000):ES x n=aa ((x.tmod n+n)% n):=by
 have hm1: -n<x.tmod n:=by have:=Int.lt_tmod_of_pos x (b:=n) (by omega);omega
 have UR:x.tmod n<n:=Int.tmod_lt_of_pos x (by omega);unfold ES;have e1:lA x n=aa (x.tmod n):=by unfold lA;rw[aK (by omega)]
 rw[dF (c:=n<1) (by omega)];simp only[aC,aB,e1,al,cV];rw[bX (by omega) (by omega),SN (by omega) (by omega)]
def ij{l:List Int}{a n:Int}(hs:Sr l a)(h1:1<=n)(h2:n<=1000000000000):Wp (f_ ⟨l,a⟩ n) λr=>(0<=r.1∧r.1<n)∧Sr r.2.1 r.2.2:=by
 obtain⟨s1,s2,s3⟩:=hs;unfold f_;try simp only
 refine Wp.ite (λh=>aq.2 ⟨⟨oi _,by simp only;omega⟩,s1,s2,s3⟩) λh=>?_;have h':a<l.length:=by have:=mR h;unfold len at this;omega
 have e1:W (W (a+1)-1)=a:=by rw[bX (x:=a+1) (by omega) (by omega),bX (by omega) (by omega)];omega
 rw[e1,iI s1 h'];simp only[al,mod_eq h1 h2,bX (x:=a+1) (by omega) (by omega)];exact aq.2 ⟨⟨Int.emod_nonneg _ (by omega),Int.emod_lt_of_pos _ (by omega)⟩,by simp only;omega,s2,by simp only;omega⟩
def amo{l:List Int}{a n:Int}(hs:Sr l a)(h1:0<=n)(h2:n<=1000000000000):Wp (f_ ⟨l,a⟩ n) λr=>(0<=r.1∧(r.1<n∨r.1=0))∧Sr r.2.1 r.2.2:=by
 by_cases h:1<=n
 ·exact(ij hs h h2).mono λr hr=>⟨⟨hr.1.1,.inl hr.1.2⟩,hr.2⟩
 ·obtain⟨s1,s2,s3⟩:=hs;unfold f_;try simp only
  refine Wp.ite (λh=>aq.2 ⟨⟨oi _,.inr rfl⟩,s1,s2,s3⟩) λh3=>?_;have h':a<l.length:=by have:=mR h3;unfold len at this;omega
  have e1:W (W (a+1)-1)=a:=by rw[bX (x:=a+1) (by omega) (by omega),bX (by omega) (by omega)];omega
  have e2:ES (gt l a.toNat) n=aa 0:=by unfold ES;rw[dT (c:=n<1) (by omega)];rfl
  rw[e1,iI s1 h'];simp only[al,e2,bX (x:=a+1) (by omega) (by omega)];exact aq.2 ⟨⟨oi _,.inr rfl⟩,by simp only;omega,s2,by simp only;omega⟩
def qf{l:List Int}{a lo hi:Int}(hs:Sr l a)(h:lo<=hi)(h1: -1000000000000<=lo)(h2:hi<=100000000000)(h3:hi-lo+1<=1000000000000):Wp (n9 ⟨l,a⟩ lo hi) λr=>(lo<=r.1∧r.1<=hi)∧Sr r.2.1 r.2.2:=by unfold n9;have e1:W (hi-lo)=hi-lo:=bX (by omega) (by omega);have e2:W (hi-lo+1)=hi-lo+1:=bX (by omega) (by omega);simp only[e1,e2];refine(ij hs (n:=hi-lo+1) (by omega) (by omega)).bind λy hy=>?_;obtain⟨y,l',a'⟩:=y;simp only at hy⊢;rw[bX (by omega) (by omega)];exact aq.2 ⟨⟨by simp only;omega,by simp only;omega⟩,hy.2⟩
def dU{l:List Int}{a:Int}{w:List Int}(hs:Sr l a)(h0:w≠[])(hl:w.length<=1000000):Wp (dM ⟨l,a⟩ w) λr=>r.1∈w∧Sr r.2.1 r.2.2.1:=by unfold dM;have hp:0<w.length:=List.length_pos_iff.2 h0;refine(ij hs (n:=len w) (by unfold len;omega) (by unfold len;omega)).bind λy hy=>?_;obtain⟨y,l',a'⟩:=y;simp only at hy⊢;unfold len at hy;rw[iI hy.1.1 hy.1.2];exact aq.2 ⟨cX (by omega),hy.2⟩
def amn(t:List Int):Wp (Ox t) λr=>Sr r.1 r.2:=by
 unfold Ox;have e:dH t 0 (eD (len t) 600)=aa (t.take (eD (len t) 600).toNat):=by unfold dH eD len;rw[aI (by split<;>omega)];simp
 rw[e];refine aq.2 ⟨oi _,?_,by simp only;omega⟩;simp only[List.length_take];unfold eD;split<;>omega
end Rx
end Go.Proofs.YtgaghlbepnjhiaaGreat
namespace Go.Proofs.YtgaghlbepnjhiaaGreat
open Go Go.RowKit
open Classical
namespace Dp
inductive ju(E:Nat->Nat->Prop):Nat->Nat->Prop
 |refl (i:Nat):ju E i i
 |step {i j k:Nat}:E i j->ju E j k->ju E i k
inductive iw(E:Nat->Nat->Prop):Nat->Nat->Nat->Prop
 |refl (r i:Nat):iw E r i i
 |step {r i j k:Nat}:E i j->iw E r j k->iw E (r+1) i k
section
variable {E E':Nat->Nat->Prop} {n:Nat}
def ju.trans{i j k:Nat}(h:ju E i j)(h':ju E j k):ju E i k:=by
 induction h with
 |refl=>exact h'
 |step e _ ih=>exact .step e (ih h')
def ju.one{i j:Nat}(h:E i j):ju E i j:= .step h (.refl _)
def ju.symm(hs:∀i j,E i j->E j i){i j:Nat}(h:ju E i j):ju E j i:=by
 induction h with
 |refl=>exact .refl _
 |step e _ ih=>exact ih.trans (.one (hs _ _ e))
def ju.mono(he:∀i j,E i j->E' i j){i j:Nat}(h:ju E i j):ju E' i j:=by
 induction h with
 |refl=>exact .refl _
 |step e _ ih=>exact .step (he _ _ e) ih
def iw.conn{r i j:Nat}(h:iw E r i j):ju E i j:=by
 induction h with
 |refl=>exact .refl _
 |step e _ ih=>exact .step e ih
def iw.more{r r' i j:Nat}(h:iw E r i j)(hr:r<=r'):iw E r' i j:=by
 induction h generalizing r' with
 |refl=>exact .refl _ _
 |step e _ ih=>
  cases r' with
  |zero=>omega
  |succ r'=>exact .step e (ih (by omega))
def iw.snoc{r i j k:Nat}(h:iw E r i j)(e:E j k):iw E (r+1) i k:=by
 induction h with
 |refl r i=>exact .step e (.refl _ _)
 |step e' _ ih=>exact .step e' (ih e)
def iw.zero{i j:Nat}(h:iw E 0 i j):i=j:=by cases h;rfl
def iw.last{r i k:Nat}(h:iw E (r+1) i k):iw E r i k∨∃j,iw E r i j∧E j k:=by
 generalize hm:r+1=m at h;induction h generalizing r with
 |refl=>exact .inl (.refl _ _)
 | @step r' i j k e w ih=>
   cases r' with
   |zero=>
    have:r=0:=by omega
    subst this;have:=w.zero;subst this;exact .inr ⟨i,.refl _ _,e⟩
   |succ r''=>
    have:r=r''+1:=by omega
    subst this;rcases ih rfl with h|⟨j',h1,h2⟩
    ·exact .inl (.step e h)
    ·exact .inr ⟨j',.step e h1,h2⟩
def sx(E:Nat->Nat->Prop)(n r i:Nat):Nat:=((bW n).filter λj=>decide (iw E r i j)).length
def V3{p q:Nat->Bool}(h:∀x,p x=ab->q x=ab):∀l:List Nat,(l.filter p).length<=(l.filter q).length
 |[]=>bw _
 |x::l=>by
  have ih:=V3 h l;by_cases hp:p x=ab
  ·rw[lS hp,lS (h x hp)];simpa using ih
  ·rw[p8 hp];by_cases hq:q x=ab
   ·rw[lS hq];simp;omega
   ·rw[p8 hq];exact ih
def V4{p q:Nat->Bool}(h:∀x,p x=ab->q x=ab):∀l:List Nat,(l.filter p).length=(l.filter q).length->∀x∈l,q x=ab->p x=ab
 |[],_,x,hx,_=>by cases hx
 |y::l,he,x,hx,hq=>by
  have hle:=V3 h l;by_cases hp:p y=ab
  ·rw[lS hp,lS (h y hp)]at he;rcases cj.1 hx with rfl|hx
   ·exact hp
   ·exact V4 h l (by simpa using he) x hx hq
  ·rw[p8 hp]at he;by_cases ua:q y=ab
   ·rw[lS ua]at he;simp at he;omega
   ·rw[p8 ua]at he;rcases cj.1 hx with rfl|hx
    ·exact(ua hq).elim
    ·exact V4 h l he x hx hq
def aqr(r i:Nat):sx E n r i<=n:=by unfold sx;refine lR (zD _ _) ?_;simp
def aoW(hE:∀i j,E i j->j<n){r i:Nat}(hi:i<n)(h:sx E n r i=sx E n (r+1) i):∀m j,iw E (r+m) i j->iw E r i j:=by
 have h1:∀j,j<n->iw E (r+1) i j->iw E r i j:=by intro j hj hw;have:=V4 (p:=λj=>decide (iw E r i j)) (q:=λj=>decide (iw E (r+1) i j)) (λx hx=>wh ((jJ hx).more (by omega))) (bW n) h j (ew.2 hj) (wh hw);exact jJ this
 intro m;induction m with
 |zero=>intro j h;exact h
 |succ m ih=>
  intro j hw;rcases iw.last (r:=r+m) hw with h2|⟨k,h2,h3⟩
  ·exact ih j h2
  ·exact h1 j (hE _ _ h3) ((ih k h2).snoc h3)
def ju.walk(hE:∀i j,E i j->j<n){i j:Nat}(hi:i<n)(h:ju E i j):iw E (n-1) i j:=by
 have aum:∃m,iw E m i j:=by
  induction h with
  |refl=>exact⟨0,.refl _ _⟩
  |step e _ ih=>obtain⟨m,hm⟩:=ih (hE _ _ e);exact⟨m+1,.step e hm⟩
 obtain⟨m,hm⟩:=aum;have:∃r,r<=n-1∧sx E n r i=sx E n (r+1) i:=by
  apply gD;intro hn;have avw:∀r,r<=n->r+1<=sx E n r i:=by
   intro r;induction r with
   |zero=>intro _;unfold sx;have:i∈(bW n).filter λj=>decide (iw E 0 i j):=kH.2 ⟨ew.2 hi,wh (.refl _ _)⟩;exact List.length_pos_of_mem this
   |succ r ih=>intro hr;have h1:=ih (by omega);have h2:sx E n r i<=sx E n (r+1) i:=V3 (λx hx=>wh ((jJ hx).more (by omega))) _;have h3:sx E n r i≠sx E n (r+1) i:=λe=>hn ⟨r,by omega,e⟩;omega
  have h4:=avw n (bw _);have h5:=aqr (E:=E) (n:=n) n i;omega
 obtain⟨r,hr,he⟩:=this;have h6:iw E r i j:=aoW hE hi he m j (hm.more (by omega));exact h6.more hr
end
end Dp
end Go.Proofs.YtgaghlbepnjhiaaGreat
namespace Go.Proofs.YtgaghlbepnjhiaaGreat
open Go Go.RowKit Dp
namespace Rx
open Classical
abbrev bd(nb:Int)(br:List cL)(S:List Source)(C:List Consumer):au:=⟨nb,br,S,C,0,0⟩
def cI.snoc{nb:Int}{br:List cL}{S S':List Source}{C C':List Consumer}{x:cL}(h:cI (bd nb br S C))(hS:S.length<=S'.length)(hC:C.length<=C'.length)
  (hA:0<=x.A∧x.A<=nb-1)
  (hx:(x.Kind=1∧x.A+1<=x.B∧x.B<=nb-1)∨(x.Kind=2∧(0<=x.B∧x.B<=(S'.length:Int)-1)∧∀i,i<br.length->¬((gt br i).Kind=2∧(gt br i).B=x.B))∨(x.Kind=3∧(0<=x.B∧x.B<=(C'.length:Int)-1)∧∀i,i<br.length->¬((gt br i).Kind=3∧(gt br i).B=x.B∧(gt br i).A=x.A)))
  (cS:∀j,S.length<=j->j<S'.length->oF x j) (cC:∀j,C.length<=j->j<C'.length->pD x j):cI (bd nb (br++[x]) S' C'):=by
 obtain⟨h1,h2,h3⟩:=h
 refine⟨λk hk=>?_,λj hj=>?_,λj hj=>?_⟩
 ·have da:k<br.length+1:=by simpa using hk
  by_cases sO:k<br.length
  ·have h4:=h1 k sO;unfold Cb at h4⊢;simp only at h4⊢;have e:∀i,i<=k->gt (br++[x]) i=gt br i:=λi hi=>by rw[oN (by omega),aI (by omega)]
   rw[e k (bw _)];refine⟨h4.1,?_⟩;rcases h4.2 with h5|⟨h5,h6,h7⟩|⟨h5,h6,h7⟩
   ·exact .inl h5
   ·exact .inr (.inl ⟨h5,by omega,λi hi=>by rw[e i (by omega)];exact h7 i hi⟩)
   ·exact .inr (.inr ⟨h5,by omega,λi hi=>by rw[e i (by omega)];exact h7 i hi⟩)
  ·have:k=br.length:=by omega
   subst this;unfold Cb;try simp only
   have e:∀i,i<br.length->gt (br++[x]) i=gt br i:=λi hi=>by rw[oN (by omega),aI hi]
   rw[NX];refine⟨hA,?_⟩;rcases hx with h5|⟨h5,h6,h7⟩|⟨h5,h6,h7⟩
   ·exact .inl h5
   ·exact .inr (.inl ⟨h5,h6,λi hi=>by rw[e i hi];exact h7 i hi⟩)
   ·exact .inr (.inr ⟨h5,h6,λi hi=>by rw[e i hi];exact h7 i hi⟩)
 ·by_cases dt:j<S.length
  ·obtain⟨k,hk,hs⟩:=h2 j dt;have da:k<br.length:=hk;exact⟨k,by simp;omega,by show oF (gt (br++[x]) k) j;rw[NW da];exact hs⟩
  ·exact⟨br.length,by simp,by show oF (gt (br++[x]) br.length) j;rw[NX];exact cS j (by omega) hj⟩
 ·by_cases dt:j<C.length
  ·obtain⟨k,hk,hs⟩:=h3 j dt;have da:k<br.length:=hk;exact⟨k,by simp;omega,by show pD (gt (br++[x]) k) j;rw[NW da];exact hs⟩
  ·exact⟨br.length,by simp,by show pD (gt (br++[x]) br.length) j;rw[NX];exact cC j (by omega) hj⟩
def cI.ao_{nb:Int}{br:List cL}{S:List Source}{C:List Consumer}(h:cI (bd nb br S C)){i:Nat}(hi:i<br.length)(hk:(gt br i).Kind=2):(gt br i).B<=(S.length:Int)-1:=by have:=(h.1 i hi).2;simp only at this;rcases this with h5|⟨h5,h6,h7⟩|⟨h5,h6,h7⟩<;>omega
def cI.azf{nb:Int}{br:List cL}{S:List Source}{C:List Consumer}(h:cI (bd nb br S C)){i:Nat}(hi:i<br.length)(hk:(gt br i).Kind=3):(gt br i).B<=(C.length:Int)-1:=by have:=(h.1 i hi).2;simp only at this;rcases this with h5|⟨h5,h6,h7⟩|⟨h5,h6,h7⟩<;>omega
def cI.tie{nb:Int}{br:List cL}{S:List Source}{C:List Consumer}(h:cI (bd nb br S C)){a c:Int}(h0:0<=a)(h1:a+1<=c)(h2:c<=nb-1):cI (bd nb (br++[⟨1,a,c⟩]) S C):=h.snoc (bw _) (bw _) ⟨h0,by simp only;omega⟩ (.inl ⟨rfl,h1,h2⟩) (λj _ _=>by omega) (λj _ _=>by omega)
def cI.src{nb:Int}{br:List cL}{S:List Source}{C:List Consumer}(h:cI (bd nb br S C)){a:Int}(h0:0<=a)(h1:a<=nb-1)(s:Source):cI (bd nb (br++[⟨2,a,len S⟩]) (S++[s]) C):=by refine h.snoc (by simp) (bw _) ⟨h0,h1⟩ (.inr (.inl ⟨rfl,by simp[len],λi hi hh=>?_⟩)) (λj h3 h4=>⟨rfl,by simp at h4;unfold len;simp only;omega⟩) (λj _ _=>by omega);have:=h.ao_ hi hh.1;have e:=hh.2;simp only[len]at e;omega
def cI.iY{nb:Int}{br:List cL}{S:List Source}{C:List Consumer}(h:cI (bd nb br S C)){a:Int}(h0:0<=a)(h1:a<=nb-1)(c:Consumer):cI (bd nb (br++[⟨3,a,len C⟩]) S (C++[c])):=by refine h.snoc (bw _) (by simp) ⟨h0,h1⟩ (.inr (.inr ⟨rfl,by simp[len],λi hi hh=>?_⟩)) (λj _ _=>by omega) (λj h3 h4=>⟨rfl,by simp at h4;unfold len;simp only;omega⟩);have:=h.azf hi hh.1;have e:=hh.2.1;simp only[len]at e;omega
structure rY(b:au):Prop where
 jp:1<=b.aA∧b.aA<=4
 di:b.ah.length<=18
 src:b.aj.length<=4
 iY:b.ay.length<=5
 IB:q7 b
 aEq:∀x∈b.aj,10<=x.iE∧x.iE<=100
 load:∀x∈b.ay,0<=x.e_∧x.e_<=40
def rY.gH{b:au}(h:rY b):gy b:=⟨⟨h.jp.1,by have:=h.jp.2;omega⟩,by have:=h.di;omega,by have:=h.src;omega,by have:=h.iY;omega⟩
def rY.sm{b:au}(h:rY b):fw b:=by refine⟨by have:=h.di;unfold Sm;omega,by have:=h.src;unfold Sm;omega,by have:=h.iY;unfold Sm;omega,λx hx=>?_⟩;obtain⟨k,hk,rfl⟩:=lC hx;have:=(h.IB.2.2.2.2 k hk).2.2.2.2.2;unfold Sm;omega
def rY.nr{b:au}(h:rY b):nr b=0:=BS.2 ⟨h.gH,h.IB⟩
end Rx
namespace Rx
open Classical
def I5{b:au}{p q:aw}{j:Int}{n:Nat}(h:∀i,i<n->(gt b.ah i).Kind=3->(gt b.ah i).B=j->gt p.aE i=gt q.aE i):eZ b p j n=eZ b q j n:=by
 induction n with
 |zero=>rfl
 |succ n ih=>
  unfold eZ;rw[ih λi hi=>h i (by omega)];congr 1;by_cases h1:(gt b.ah n).Kind=3
  ·by_cases h2:(gt b.ah n).B=j
   ·rw[h n (by omega) h1 h2]
   ·simp[h2]
  ·simp[h1]
abbrev pc(cl:List Bool):aw:=⟨cl,[],[],[]⟩
def qg(a b c:Int):j6 a b c=aa (ak (b<=a∧a<=c)):=by unfold j6;by_cases h:b<=a<;>simp[h]
def exists_eq{b:au}(hb:gy b)(x:Part):IR b x=aa (ak (0<=x.Number∧x.Number<=bsize b x.Kind-1)):=by
 have h1:=hb.jp;have h2:=hb.di;have h3:=hb.src;have h4:=hb.iY;have e1:W (len b.aj-1)=(b.aj.length:Int)-1:=by unfold len;exact bX (by omega) (by omega)
 have e2:W (len b.ah-1)=(b.ah.length:Int)-1:=by unfold len;exact bX (by omega) (by omega)
 have e3:W (b.aA-1)=b.aA-1:=bX (by omega) (by omega);have e4:W (len b.ay-1)=(b.ay.length:Int)-1:=by unfold len;exact bX (by omega) (by omega)
 unfold IR bsize;simp only[qg,e1,e2,e3,e4];by_cases k1:x.Kind=1
 ·simp[k1]
 by_cases k2:x.Kind=2
 ·simp[k2]
 by_cases k3:x.Kind=3
 ·simp[k3]
 by_cases k4:x.Kind=4
 ·simp[k4]
 have:¬(0<=x.Number∧x.Number<=(0:Int)-1):=by omega
 simp[k1,k2,k3,k4];omega
def arx{b:au}(hb:Sm b.ah)(i:Nat)(w:List Bool){cl:List Bool}(hl:cl.length=b.ah.length):
  Wp (aG (Qg b ((i:Int),w)) (ab,0,cl)) λr=>r.length=b.ah.length∧eZ b (pc r) (i:Int) b.ah.length<=1∧∀k,¬pD (gt b.ah k) i->gt r k=gt cl k:=by
 refine dy b.ah.length (λk s=>∃f c,s=(f,(k:Int),c)∧c.length=b.ah.length∧eZ b (pc c) (i:Int) k=(if f=ab then 0 else 1)∧∀j,(k<=j∨¬pD (gt b.ah j) i)->gt c j=gt cl j) ⟨_,_,rfl,hl,rfl,λ_ _=>rfl⟩ ?_ ?_
 ·rintro k s hk ⟨f,c,rfl,h1,h2,h3⟩;have hs:=eT hb hk;unfold Qg;simp only[aZ hk,aH,aM hk,aM (show k<c.length by omega),al,aY hs,jK (show k<c.length by omega)];by_cases hc:pD (gt b.ah k) i
  ·rw[gu hc.1,gu hc.2];simp only[aH,al];cases hv:gt c k with
   |true=>
    simp only[aH,al];refine aq.2 ⟨_,_,rfl,by simpa using h1,?_,λj hj=>?_⟩
    ·simp only[aC,aB];unfold eZ;have e1:eZ b (pc (c.set k f)) (i:Int) k=eZ b (pc c) (i:Int) k:=I5 λj hj _ _=>by show gt (c.set k f) j=gt c j;rw[gV (by omega),aK (by omega)]
     have e2:gt (c.set k f) k=f:=by rw[gV (by omega),aI rfl]
     rw[e1,h2];cases f with
     |true=>simp[hc.1,hc.2,e2]
     |false=>simp[e2]
    ·rw[gV (by omega)];by_cases mb:j=k
     ·subst mb;rcases hj with hj|hj
      ·omega
      ·exact(hj hc).elim
     ·rw[aK mb];exact h3 j (hj.imp (λh=>by omega) id)
   |false=>simp only[aC,aB,al];refine aq.2 ⟨_,_,rfl,h1,?_,λj hj=>h3 j (hj.imp (λh=>by omega) id)⟩;show eZ b (pc c) (i:Int) k+_=_;rw[h2];simp[hv]
  ·have:(if((gt b.ah k).Kind==3)=ab then(if((gt b.ah k).B==(i:Int))=ab then aa (gt c k)else aa ae)else aa ae:Option Bool)=aa ae:=by
    by_cases h4:(gt b.ah k).Kind=3
    ·have h5:(gt b.ah k).B≠(i:Int):=λh=>hc ⟨h4,h⟩;rw[gu h4,dL h5];rfl
    ·rw[dL h4];rfl
   rw[this];simp only[al,aC,aB];refine aq.2 ⟨_,_,rfl,h1,?_,λj hj=>h3 j (hj.imp (λh=>by omega) id)⟩;have hz:¬((gt b.ah k).Kind=3∧(gt b.ah k).B=(i:Int)∧gt c k=ab):=λh=>hc ⟨h.1,h.2.1⟩;show eZ b (pc c) (i:Int) k+(if(gt b.ah k).Kind=3∧(gt b.ah k).B=(i:Int)∧gt c k=ab then 1 else 0)=_;rw[h2,aK hz,Nat.add_zero]
 ·rintro s ⟨f,c,rfl,h1,h2,h3⟩;unfold Qg;simp only[bC,aC,aB];refine aq.2 ⟨h1,?_,λk hk=>h3 k (.inr hk)⟩;rw[h2];split<;>omega
structure JY(b:au)(p:aw):Prop where
 shape:Shape b p
 IB:wb b p
 aks:p.aP.length<=4
 aE1:∀x∈p.aj,4950<=x.a_∧x.a_<=5005
def JY.sm{b:au}{p:aw}(hb:rY b)(h:JY b p):dA p:=by obtain⟨h1,h2,h3⟩:=h.shape;have:=hb.di;have:=hb.src;have:=hb.iY;have:=h.aks;exact⟨by unfold Sm;omega,by unfold Sm;omega,by unfold Sm;omega,by unfold Sm;omega⟩
def JY.bo{b:au}{p:aw}(hb:rY b)(h:JY b p):bo b p=0:=by unfold Go.Proofs.YtgaghlbepnjhiaaGreat.Rx.bo;rw[aI hb.nr,aI h.shape,aI h.IB]
def aD9(b:au)(l:List Int)(a:Int)(cl:List Bool)(run:List bu)(gH:List Int)(di:List Part):Prop:=Sr l a∧JY b ⟨cl,run,gH,di⟩
def amh{l:List Int}{a:Int}(hs:Sr l a){b:au}(hb:rY b):Wp (Qh ⟨l,a⟩ b) λr=>∃l a cl run gH di,r=(l,a,b.ah,b.aj,b.ay,cl,run,gH,di)∧aD9 b l a cl run gH di:=by
 have nV:=hb.di;have mG:=hb.src;have Em:=hb.iY;have fO:=hb.sm;unfold Qh;refine Wp.bind (Q:=λx=>∃l a cl,x=(l,a,cl)∧Sr l a∧cl.length=b.ah.length) ?_ λx hx=>?_
 ·refine dy b.ah.length (λk s=>∃l a cl,s=((k:Int),l,a,cl)∧Sr l a∧cl.length=k) ⟨_,_,_,rfl,hs,rfl⟩ ?_ ?_
  ·rintro k s hk ⟨l,a,cl,rfl,hs,h1⟩;unfold YH;simp only[aZ hk,aH];refine(ij hs (n:=2) (by omega) (by omega)).bind λy hy=>?_;obtain⟨y,l,a⟩:=y;try simp only
   rw[cJ (by simp;omega)];exact aq.2 ⟨_,_,_,by rw[aY (by omega)],hy.2,by simp;omega⟩
  ·rintro s ⟨l,a,cl,rfl,hs,h1⟩;unfold YH;simp only[bC,aC,aB];exact aq.2 ⟨_,_,_,rfl,hs,h1⟩
 obtain⟨l,a,cl0,rfl,hs,hx⟩:=hx;try simp only
 refine Wp.bind (Q:=λc:List Bool=>c.length=b.ah.length∧∀j,j<b.ay.length->eZ b (pc c) (j:Int) b.ah.length<=1) ?_ λcl dh=>?_
 ·refine dy b.ay.length (λk s=>∃c,s=((k:Int),c)∧c.length=b.ah.length∧∀j,j<k->eZ b (pc c) (j:Int) b.ah.length<=1) ⟨_,rfl,hx,λj hj=>by omega⟩ ?_ ?_
  ·rintro k s hk ⟨c,rfl,h1,h2⟩;unfold YG;simp only[aZ hk,aH];refine(arx fO.1 k c h1).bind λr hr=>?_;refine aq.2 ⟨_,by rw[aY (by omega)],hr.1,λj hj=>?_⟩;by_cases mb:j=k
   ·subst mb;exact hr.2.1
   ·rw[I5 (q:=pc c) λi hi h3 h4=>hr.2.2 i λhh=>by have:=hh.2;omega];exact h2 j (by omega)
  ·rintro s ⟨c,rfl,h1,h2⟩;unfold YG;simp only[bC,aC,aB];exact aq.2 ⟨h1,h2⟩
 refine Wp.bind (Q:=λx=>∃l a run,x=(l,a,run)∧Sr l a∧run.length=b.aj.length∧∀r∈run,gY r∧4950<=r.a_∧r.a_<=5005) ?_ λx pE=>?_
 ·refine dy b.aj.length (λk s=>∃l a run,s=((k:Int),l,a,run)∧Sr l a∧run.length=k∧∀r∈run,gY r∧4950<=r.a_∧r.a_<=5005) ⟨_,_,_,rfl,hs,rfl,by simp⟩ ?_ ?_
  ·rintro k s hk ⟨l,a,run,rfl,hs,h1,h2⟩;unfold YF;simp only[aZ hk,aH];refine(dU hs (by simp) (by simp)).bind λy e1=>?_;obtain⟨y1,l,a,z⟩:=y;obtain⟨e1,hs⟩:=e1;simp only[cj,jT,kF]at e1 hs⊢;refine(ij hs (n:=5) (by omega) (by omega)).bind λy e2=>?_;obtain⟨y2,l,a⟩:=y;obtain⟨e2,hs⟩:=e2;simp only at e2 hs⊢;refine(dU hs (by simp) (by simp)).bind λy e3=>?_;obtain⟨y3,l,a,z⟩:=y;obtain⟨e3,hs⟩:=e3;simp only[cj,jT,kF]at e3 hs⊢;refine(dU hs (by simp) (by simp)).bind λy e4=>?_;obtain⟨y4,l,a,z⟩:=y;obtain⟨e4,hs⟩:=e4;simp only[cj,jT,kF]at e4 hs⊢;rw[cJ (by simp;omega)];simp only[al];refine aq.2 ⟨_,_,_,by rw[aY (by omega)],hs,by simp;omega,λr hr=>?_⟩;rcases bg.1 hr with hr|hr
   ·exact h2 r hr
   ·simp only[cY]at hr;subst hr;unfold gY;try simp only
    omega
  ·rintro s ⟨l,a,run,rfl,hs,h1,h2⟩;unfold YF;simp only[bC,aC,aB];exact aq.2 ⟨_,_,_,rfl,hs,h1,h2⟩
 obtain⟨l,a,run,rfl,hs,pE,adE⟩:=pE;try simp only
 refine Wp.bind (Q:=λx=>∃l a gH,x=(l,a,gH)∧Sr l a∧gH.length=b.ay.length∧∀k,k<b.ay.length->0<=gt gH k∧gt gH k<=(gt b.ay k).e_) ?_ λx AU=>?_
 ·refine dy b.ay.length (λk s=>∃l a gH,s=((k:Int),l,a,gH)∧Sr l a∧gH.length=k∧∀j,j<k->0<=gt gH j∧gt gH j<=(gt b.ay j).e_) ⟨_,_,_,rfl,hs,rfl,λj hj=>by omega⟩ ?_ ?_
  ·rintro k s hk ⟨l,a,gH,rfl,hs,h1,h2⟩;have qH:=hb.IB.2.2.2.2 k hk;unfold YE;have H3:=qH.2.1;have UT:=qH.2.2.1;simp only[aZ hk,aH,aM hk,al];rw[Ad H3.1 (by omega) (by omega)];simp only[al];refine(dU hs (by simp) (by simp)).bind λy e1=>?_;obtain⟨y1,l,a,z⟩:=y;obtain⟨e1,hs⟩:=e1;simp only[cj,jT,kF]at e1 hs⊢;rw[cJ (by simp;omega)];simp only[al];refine aq.2 ⟨_,_,_,by rw[aY (by omega)],hs,by simp;omega,λj hj=>?_⟩;rw[oN (by omega)];by_cases dt:j<gH.length
   ·rw[aI dt];exact h2 j (by omega)
   ·rw[aK dt];have:j=k:=by omega
    subst this;omega
  ·rintro s ⟨l,a,gH,rfl,hs,h1,h2⟩;unfold YE;simp only[bC,aC,aB];exact aq.2 ⟨_,_,_,rfl,hs,h1,h2⟩
 obtain⟨l,a,gH,rfl,hs,AU,at7⟩:=AU;try simp only
 refine Wp.bind (Q:=λx=>∃l a di,x=(l,a,di)∧Sr l a∧di.length<=4∧∀k,k<di.length->oX b di k) ?_ λx HK=>?_
 ·refine dy 4 (λk s=>∃l a di,s=((k:Int)+1,l,a,di)∧Sr l a∧di.length<=k∧(∀x∈di,x.Kind<=(k:Int))∧∀j,j<di.length->oX b di j) ⟨_,_,_,rfl,hs,bw _,by simp,λj hj=>absurd hj (by simp)⟩ ?_ ?_
  ·rintro k s hk ⟨l,a,di,rfl,hs,h1,h2,h3⟩;unfold YD;simp only[dT (c:=(k:Int)+1<=4) (by omega),aH];refine(ij hs (n:=5) (by omega) (by omega)).bind λy hy=>?_;obtain⟨y1,l,a⟩:=y;obtain⟨hy,hs⟩:=hy;simp only at hy hs⊢;refine Wp.bind (Q:=λx=>∃l a di,x=(l,a,di)∧Sr l a∧di.length<=k+1∧(∀q∈di,q.Kind<=(k:Int)+1)∧∀j,j<di.length->oX b di j) ?_ λx hx5=>?_
   ·refine Wp.ite (λ_=>?_) (λ_=>aq.2 ⟨_,_,_,rfl,hs,by omega,λq hq=>by have:=h2 q hq;omega,h3⟩);refine(ij hs (n:=4) (by omega) (by omega)).bind λy e1=>?_;obtain⟨y2,l,a⟩:=y;obtain⟨e1,hs⟩:=e1;simp only at e1 hs⊢;rw[exists_eq hb.gH];simp only[al,cV];refine Wp.bind (Q:=λx:List Part=>x.length<=k+1∧(∀q∈x,q.Kind<=(k:Int)+1)∧∀j,j<x.length->oX b x j) ?_ λx HJ=>aq.2 ⟨_,_,_,rfl,hs,HJ⟩;refine Wp.ite (λhe=>?_) (λ_=>aq.2 ⟨by omega,λq hq=>by have:=h2 q hq;omega,h3⟩);have nk:=jJ he;rw[cJ (by simp;omega)];refine aq.2 ⟨by simp;omega,λq hq=>?_,λj hj=>?_⟩
    ·rcases bg.1 hq with hq|hq
     ·have:=h2 q hq;omega
     ·simp only[cY]at hq;subst hq;exact oi _
    ·have nT:j<di.length+1:=by simpa using hj
     unfold oX;rw[oN nT];by_cases dt:j<di.length
     ·rw[aI dt,oN (by omega),aI (by omega)];exact h3 j dt
     ·rw[aK dt];refine⟨nk,λh0=> .inl ?_⟩;rw[oN (by omega),aI (by omega)];have:=h2 _ (cX (show j-1<di.length by omega));try simp only
      omega
   ·obtain⟨l,a,aDw,rfl,hs,q1,q2,q3⟩:=hx5;refine aq.2 ⟨l,a,aDw,?_,hs,q1,λq hq=>by have:=q2 q hq;omega,q3⟩;rw[bX (by omega) (by omega),show(k:Int)+1+1=((k+1:Nat):Int)+1 from by omega]
  ·rintro s ⟨l,a,di,rfl,hs,h1,h2,h3⟩;unfold YD;simp only[dF (c:=((4:Nat):Int)+1<=4) (by omega),aC,aB];exact aq.2 ⟨_,_,_,rfl,hs,h1,h3⟩
 obtain⟨l,a,di,rfl,hs,HK,at6⟩:=HK;try simp only
 refine aq.2 ⟨_,_,_,_,_,_,rfl,hs,⟨dh.1,pE,AU⟩,⟨⟨at6,by simp only;omega⟩,λk hk=>(adE _ (cX hk)).1,λk hk=>?_⟩,HK,λr hr=>(adE r hr).2⟩;simp only at hk;have da:k<b.ay.length:=by omega
 refine⟨at7 k da,?_⟩;exact lR (Nat.le_of_eq (I5 (b:=b) (p:=⟨cl,run,gH,di⟩) (q:=pc cl) (λ_ _ _ _=>rfl))) (dh.2 k da)
end Rx
namespace Rx
def m9(b:au)(p:aw)(kind j:Int)(k:Nat):Bool:=((gt b.ah k).Kind==kind&&(gt b.ah k).B==j)&&gt p.aE k
def gn(b:au)(p:aw)(kind j:Int):Int×Bool:=match(bW b.ah.length).find? (m9 b p kind j)with
 |some k=>((gt b.ah k).A,ab)
 |none=>(0,ae)
def acR{b:au}{p:aw}(hs:Sm b.ah)(hc:p.aE.length=b.ah.length)(kind j:Int):Jn b p kind j=aa (gn b p kind j):=by
 have h:=vw (step:=Fh b p kind j) (λk=>(k:Int)) b.ah.length (m9 b p kind j) (R:=λk=> .inr ((gt b.ah k).A,ab)) (e:= .inl ())
  (λk hk hp=>by
    simp only[Fh,aZ hk,aH,aM hk,aM (show k<p.aE.length by omega),al,cV,bx,bE,bT,aY (eT hs hk)];unfold m9 at hp;cases h1:(gt b.ah k).Kind==kind with
    |false=>simp
    |true=>
     cases h2:(gt b.ah k).B==j with
     |false=>simp
     |true=>rw[h1,h2]at hp;simp only[Bool.and_self,Bool.true_and]at hp;simp[hp])
  (λk hk hp=>by simp only[Fh,aZ hk,aH,aM hk,aM (show k<p.aE.length by omega),al,cV,bx,bE,bT];unfold m9 at hp;simp only[bt]at hp;simp[hp.1.1,hp.1.2,hp.2])
  (by simp only[Fh,bC,aC,aB])
 have h':aG (Fh b p kind j) 0=_:=h;unfold Jn gn;rw[h'];cases(bW b.ah.length).find? (m9 b p kind j)<;>rfl
def conn(b:au)(p:aw)(j:Int):Int×Bool:=if 0<=j∧j<=(p.aj.length:Int)-1 then(if(gt p.aj j.toNat).State=2 then gn b p 2 j else(0,ae))else(0,ae)
def azd{b:au}{p:aw}(hs:Sm b.ah)(hp:Sm p.aj)(hc:p.aE.length=b.ah.length)(j:Int):Js b p j=aa (conn b p j):=by
 unfold Sm at hp;have e1:W (len p.aj-1)=(p.aj.length:Int)-1:=by unfold len;exact bX (by omega) (by omega)
 unfold Js conn;simp only[e1,rB,al,cV,bx,bE,bT];by_cases h:0<=j∧j<=(p.aj.length:Int)-1
 ·rw[dT h,aI h];simp only[dP,aC,aB,iI h.1 (show j<(p.aj.length:Int) by omega),al,cV,bx,bE,bT,acR hs hc];by_cases h2:(gt p.aj j.toNat).State=2
  ·simp[h2]
  ·simp[h2]
 ·rw[dF h,aK h];rfl
def afw{b:au}{p:aw}(hs:Sm b.ah)(hc:p.aE.length=b.ah.length)(j:Int):Jr b p j=aa (gn b p 3 j):=by unfold Jr;rw[acR hs hc];rfl
def least(f:List Int)(x:cL):Int:=if gt f x.B.toNat<gt f x.A.toNat then gt f x.B.toNat else gt f x.A.toNat
def oy(b:au)(p:aw)(f:List Int)(k:Nat):List Int:=
 if(gt b.ah k).Kind=1∧gt p.aE k=ab then(f.set (gt b.ah k).A.toNat (least f (gt b.ah k))).set (gt b.ah k).B.toNat (least f (gt b.ah k))else f
def h_(b:au)(p:aw):Nat->List Int->List Int
 |0,f=>f
 |k+1,f=>oy b p (h_ b p k f) k
def rounds(b:au)(p:aw):Nat->List Int->List Int
 |0,f=>f
 |r+1,f=>h_ b p b.ah.length (rounds b p r f)
def own(n:Nat):List Int:=(bW n).map Int.ofNat
def cB(b:au)(p:aw):List Int:=rounds b p b.aA.toNat (own b.aA.toNat)
def aap(b:au)(p:aw)(f:List Int)(k:Nat):(oy b p f k).length=f.length:=by unfold oy;split<;>simp
def aaq(b:au)(p:aw)(k:Nat)(f:List Int):(h_ b p k f).length=f.length:=by
 induction k with
 |zero=>rfl
 |succ k ih=>unfold h_;rw[aap,ih]
def abj(b:au)(p:aw)(r:Nat)(f:List Int):(rounds b p r f).length=f.length:=by
 induction r with
 |zero=>rfl
 |succ r ih=>unfold rounds;rw[aaq,ih]
def VT(b:au)(p:aw):(cB b p).length=b.aA.toNat:=by unfold cB;rw[abj];simp[own]
def S8{n k:Nat}(h:k<n):gt (own n) k=(k:Int):=by unfold own;rw[lK _ h];rfl
def ap3{b:au}{p:aw}(hb:cI b)(hs:Sm b.ah)(hc:p.aE.length=b.ah.length){f:List Int}(hf:(f.length:Int)=b.aA):aG (Jo b p) ((0:Int),f)=aa (h_ b p b.ah.length f):=by
 refine dR (step:=Jo b p) (λk=>((k:Int),h_ b p k f)) b.ah.length (λk hk=>?_) (by simp only[Jo,bC,aC,aB]);have jB:=hb.1 k hk;have hl:=aaq b p k f;simp only[Jo,aZ hk,aH,aM hk,aM (show k<p.aE.length by omega),al,cV,bx,bE,bT,aY (eT hs hk)];by_cases h1:(gt b.ah k).Kind=1
 ·rw[gu h1];simp only[aH,al,cV,bx,bE,bT];cases h2:gt p.aE k with
  |false=>
   simp only[aC,aB,al,cV,bx,bE,bT];have e:h_ b p (k+1) f=h_ b p k f:=by show oy b p (h_ b p k f) k=_;unfold oy;rw[aK (λh=>by rw[h2]at h;exact absurd h.2 (by simp))]
   rw[e]
  |true=>
   have hA:=jB.1;have hB:(gt b.ah k).A+1<=(gt b.ah k).B∧(gt b.ah k).B<=b.aA-1:=by
    rcases jB.2 with h|h|h
    ·exact h.2
    ·have:=h.1;omega
    ·have:=h.1;omega
   simp only[aH,iI hA.1 (show(gt b.ah k).A<((h_ b p k f).length:Int) by omega),iI (show 0<=(gt b.ah k).B by omega) (show(gt b.ah k).B<((h_ b p k f).length:Int) by omega),al,cV,bx,bE,bT];have e:h_ b p (k+1) f=((h_ b p k f).set (gt b.ah k).A.toNat (least (h_ b p k f) (gt b.ah k))).set (gt b.ah k).B.toNat (least (h_ b p k f) (gt b.ah k)):=by show oy b p (h_ b p k f) k=_;unfold oy;rw[aI ⟨h1,h2⟩]
   rw[Dl hA.1 (by omega)];simp only[al,cV,bx,bE,bT];rw[Dl (by omega) (by simp;omega),e,iI (show 0<=(gt b.ah k).B by omega) (by simp;omega)];rfl
 ·rw[dL h1];simp only[aC,aB,al,cV,bx,bE,bT];have e:h_ b p (k+1) f=h_ b p k f:=by show oy b p (h_ b p k f) k=_;unfold oy;rw[aK (λh=>h1 h.1)]
  rw[e]
def axh{b:au}{p:aw}(hl:gy b)(hb:cI b)(hs:Sm b.ah)(hc:p.aE.length=b.ah.length):PG b p=aa (cB b p):=by
 have pM:=hl.jp;obtain⟨n,hn⟩:=nF (show 0<=b.aA by omega);have hn6:n<=6:=by omega
 unfold PG;rw[hn,yw (by omega)];simp only[al,cV,bx,bE,bT];have avp:aG (Jq (cR n (0:Int))) ((0:Int),cR n (0:Int))=aa (own n):=by
  have hlz:(cR n (0:Int)).length=n:=by simp
  have h:=dR (step:=Jq (cR n (0:Int))) (λk=>((k:Int),(bW n).map λi:Nat=>if i<k then(i:Int)else 0)) n (r:=own n)
   (λk hk=>by
     have hlen:((bW n).map λi:Nat=>if i<k then(i:Int)else 0).length=n:=by simp
     have e1:ak ((k:Int)<len (cR n (0:Int)))=ab:=dT (by unfold len;omega);simp only[Jq,e1,aH,aM (show k<((bW n).map λi:Nat=>if i<k then(i:Int)else 0).length by omega),al,cV,bx,bE,bT,jK (show k<((bW n).map λi:Nat=>if i<k then(i:Int)else 0).length by omega),aY (show k<1000000000000000000 by omega)];congr 3;apply jZ
     ·simp
     ·intro i hi;have et:i<n:=by simpa using hi
      rw[gV (by omega),lK _ et,lK _ et];by_cases dV:i=k
      ·subst dV;rw[aI rfl,aI (by omega)]
      ·rw[aK dV];by_cases h1:i<k
       ·rw[aI h1,aI (by omega)]
       ·rw[aK h1,aK (by omega)])
   (by
     have e1:ak ((n:Int)<len (cR n (0:Int)))=ae:=dF (by unfold len;omega);simp only[Jq,e1,aC,aB];congr 2;apply jZ
     ·simp[own]
     ·intro i hi;have et:i<n:=by simpa using hi
      rw[lK _ et,aI et,S8 et])
  have e0:((bW n).map λi:Nat=>if i<0 then(i:Int)else 0)=cR n (0:Int):=by
   apply jZ
   ·simp
   ·intro i hi;have et:i<n:=by simpa using hi
    rw[lK _ et,BB et];rfl
  rw[<-e0]at h⊢;exact h
 rw[avp];simp only[al,cV,bx,bE,bT];have A_:(own n).length=n:=by simp[own]
 have vD:aG (Jp b p (own n)) ((0:Int),own n)=aa (rounds b p n (own n)):=by
  refine dR (step:=Jp b p (own n)) (λk=>((k:Int),rounds b p k (own n))) n (λk hk=>?_) ?_
  ·have e1:ak ((k:Int)<len (own n))=ab:=dT (by unfold len;omega);have l_:=abj b p k (own n);simp only[Jp,e1,aH,ap3 hb hs hc (f:=rounds b p k (own n)) (by omega),al,cV,bx,bE,bT,aY (show k<1000000000000000000 by omega)];rfl
  ·have e1:ak ((n:Int)<len (own n))=ae:=dF (by unfold len;omega);simp only[Jp,e1,aC,aB]
 rw[vD];unfold cB;rw[hn];rfl
def j9(b:au)(p:aw)(i j:Nat):Prop:=∃k,k<b.ah.length∧(gt b.ah k).Kind=1∧gt p.aE k=ab∧(((gt b.ah k).A=(i:Int)∧(gt b.ah k).B=(j:Int))∨((gt b.ah k).A=(j:Int)∧(gt b.ah k).B=(i:Int)))
def j9.symm{b:au}{p:aw}{i j:Nat}(h:j9 b p i j):j9 b p j i:=by obtain⟨k,h1,h2,h3,h4⟩:=h;exact⟨k,h1,h2,h3,h4.symm⟩
def j9.lt{b:au}{p:aw}(hb:cI b){i j:Nat}(h:j9 b p i j):i<b.aA.toNat∧j<b.aA.toNat:=by
 obtain⟨k,h1,h2,h3,h4⟩:=h;have jB:=hb.1 k h1;have hA:=jB.1;have hB:(gt b.ah k).A+1<=(gt b.ah k).B∧(gt b.ah k).B<=b.aA-1:=by
  rcases jB.2 with h|h|h
  ·exact h.2
  ·have:=h.1;omega
  ·have:=h.1;omega
 rcases h4 with h4|h4<;>omega
structure zy(b:au)(p:aw)(f:List Int):Prop where
 len:f.length=b.aA.toNat
 sound:∀i,i<b.aA.toNat->∃m:Nat,gt f i=(m:Int)∧m<=i∧ju (j9 b p) i m
def as6(b:au)(p:aw):zy b p (own b.aA.toNat):=⟨by simp[own],λi hi=>⟨i,S8 hi,bw _,.refl _⟩⟩
def zT{b:au}(hb:cI b){k:Nat}(hk:k<b.ah.length)(h1:(gt b.ah k).Kind=1):(gt b.ah k).A.toNat<(gt b.ah k).B.toNat∧(gt b.ah k).B.toNat<b.aA.toNat∧(gt b.ah k).A=((gt b.ah k).A.toNat:Int)∧(gt b.ah k).B=((gt b.ah k).B.toNat:Int):=by
 have jB:=hb.1 k hk;have hA:=jB.1;have hB:(gt b.ah k).A+1<=(gt b.ah k).B∧(gt b.ah k).B<=b.aA-1:=by
  rcases jB.2 with h|h|h
  ·exact h.2
  ·have:=h.1;omega
  ·have:=h.1;omega
 omega
def RC{b:au}{p:aw}(hb:cI b){f:List Int}(hf:f.length=b.aA.toNat){k:Nat}(hk:k<b.ah.length)(i:Nat):
  gt (oy b p f k) i=if(gt b.ah k).Kind=1∧gt p.aE k=ab∧(i=(gt b.ah k).A.toNat∨i=(gt b.ah k).B.toNat)then least f (gt b.ah k)else gt f i:=by
 unfold oy
 by_cases h1:(gt b.ah k).Kind=1∧gt p.aE k=ab
 ·have he:=zT hb hk h1.1;rw[aI h1,gV (by simp;omega),gV (by omega)];by_cases hB:i=(gt b.ah k).B.toNat
  ·rw[aI hB,aI ⟨h1.1,h1.2,.inr hB⟩]
  ·rw[aK hB];by_cases hA:i=(gt b.ah k).A.toNat
   ·rw[aI hA,aI ⟨h1.1,h1.2,.inl hA⟩]
   ·rw[aK hA,aK (λh=>by rcases h.2.2 with h|h<;>contradiction)]
 ·rw[aK h1,aK (λh=>h1 ⟨h.1,h.2.1⟩)]
def least_le(f:List Int)(x:cL):least f x<=gt f x.A.toNat∧least f x<=gt f x.B.toNat:=by unfold least;split<;>omega
def aaF{b:au}{p:aw}(hb:cI b){f:List Int}(hf:zy b p f){k:Nat}(hk:k<b.ah.length):zy b p (oy b p f k)∧∀i,gt (oy b p f k) i<=gt f i:=by
 refine⟨⟨by rw[aap,hf.len],λi hi=>?_⟩,λi=>?_⟩
 ·rw[RC hb hf.len hk];split
  ·rename_i h;obtain⟨h1,h2,h3⟩:=h;have he:=zT hb hk h1;have hT:j9 b p (gt b.ah k).A.toNat (gt b.ah k).B.toNat:=⟨k,hk,h1,h2,.inl ⟨he.2.2.1,he.2.2.2⟩⟩;obtain⟨m1,e1,l1,c1⟩:=hf.sound (gt b.ah k).A.toNat (by omega);obtain⟨m2,e2,l2,c2⟩:=hf.sound (gt b.ah k).B.toNat he.2.1;unfold least;rw[e1,e2];by_cases aS:(m2:Int)<(m1:Int)
   ·rw[aI aS];refine⟨m2,rfl,?_,?_⟩
    ·rcases h3 with rfl|rfl<;>omega
    ·rcases h3 with rfl|rfl
     ·exact .step hT c2
     ·exact c2
   ·rw[aK aS];refine⟨m1,rfl,?_,?_⟩
    ·rcases h3 with rfl|rfl<;>omega
    ·rcases h3 with rfl|rfl
     ·exact c1
     ·exact .step hT.symm c1
  ·exact hf.sound i hi
 ·rw[RC hb hf.len hk];split
  ·rename_i h;have:=least_le f (gt b.ah k);rcases h.2.2 with rfl|rfl
   ·exact this.1
   ·exact this.2
  ·exact oi _
def LO{b:au}{p:aw}(hb:cI b){f:List Int}(hf:zy b p f):∀k,k<=b.ah.length->zy b p (h_ b p k f)∧∀i,gt (h_ b p k f) i<=gt f i
 |0,_=>⟨hf,λ_=>oi _⟩
 |k+1,hk=>by obtain⟨h1,h2⟩:=LO hb hf k (by omega);obtain⟨h3,h4⟩:=aaF hb h1 (k:=k) (by omega);exact⟨h3,λi=>Int.le_trans (h4 i) (h2 i)⟩
def abb{b:au}{p:aw}(hb:cI b){f:List Int}(hf:zy b p f){k:Nat}:∀m,k+m<=b.ah.length->∀i,gt (h_ b p (k+m) f) i<=gt (h_ b p k f) i
 |0,_=>λ_=>oi _
 |m+1,hm=>λi=>by have h1:=abb hb hf m (k:=k) (by omega) i;have h2:=(aaF hb (LO hb hf (k+m) (by omega)).1 (k:=k+m) (by omega)).2 i;exact Int.le_trans h2 h1
def ap6{b:au}{p:aw}(hb:cI b){f:List Int}(hf:zy b p f){i j:Nat}(h:j9 b p i j):gt (h_ b p b.ah.length f) i<=gt f j:=by
 obtain⟨k,hk,h1,h2,h3⟩:=h;have he:=zT hb hk h1;have hm:=abb hb hf (k:=k+1) (b.ah.length-(k+1)) (by omega) i;rw[show k+1+(b.ah.length-(k+1))=b.ah.length from by omega]at hm;refine Int.le_trans hm ?_;show gt (oy b p (h_ b p k f) k) i<=gt f j;have ue:=LO hb hf k (by omega);rw[RC hb ue.1.len hk];have hl:=least_le (h_ b p k f) (gt b.ah k);have hj:=ue.2 j;rw[aI ⟨h1,h2,by rcases h3 with h3|h3<;>omega⟩];rcases h3 with h3|h3
 ·have:(gt b.ah k).B.toNat=j:=by omega
  rw[this]at hl;omega
 ·have:(gt b.ah k).A.toNat=j:=by omega
  rw[this]at hl;omega
def SI{b:au}{p:aw}(hb:cI b)(r:Nat):zy b p (rounds b p r (own b.aA.toNat)):=by
 induction r with
 |zero=>exact as6 b p
 |succ r ih=>exact(LO hb ih _ (bw _)).1
def abi{b:au}{p:aw}(hb:cI b):∀(r:Nat) {i j:Nat},i<b.aA.toNat->iw (j9 b p) r i j->gt (rounds b p r (own b.aA.toNat)) i<=(j:Int)
 |0,i,j,hi,h=>by have:=h.zero;subst this;rw[show rounds b p 0 (own b.aA.toNat)=own b.aA.toNat from rfl,S8 hi];exact oi _
 |r+1,i,j,hi,h=>by
  have hk:=SI (p:=p) hb r;cases h with
  |refl=>obtain⟨m,h1,h2,_⟩:=(SI (p:=p) hb (r+1)).sound i hi;rw[h1];omega
  |step e w=>exact Int.le_trans (ap6 hb hk e) (abi hb r (e.lt hb).2 w)
def NY{b:au}{p:aw}(hb:cI b){i:Nat}(hi:i<b.aA.toNat):∃m:Nat,gt (cB b p) i=(m:Int)∧ju (j9 b p) i m∧∀j,ju (j9 b p) i j->m<=j:=by obtain⟨m,h1,h2,h3⟩:=(SI (p:=p) hb b.aA.toNat).sound i hi;refine⟨m,h1,h3,λj hj=>?_⟩;have hw:=(hj.walk (n:=b.aA.toNat) (λi j h=>(h.lt hb).2) hi).more (r':=b.aA.toNat) (by omega);have:=abi hb b.aA.toNat hi hw;have np:gt (rounds b p b.aA.toNat (own b.aA.toNat)) i=(m:Int):=h1;rw[np]at this;omega
def afd{b:au}{p:aw}(hb:cI b){i j:Nat}(hi:i<b.aA.toNat)(hj:j<b.aA.toNat):gt (cB b p) i=gt (cB b p) j↔ju (j9 b p) i j:=by
 obtain⟨m,h1,h2,h3⟩:=NY (p:=p) hb hi;obtain⟨m',np,BA,Ev⟩:=NY (p:=p) hb hj;rw[h1,np];have hs:∀i j,j9 b p i j->j9 b p j i:=λ_ _ h=>h.symm;constructor
 ·intro h;have:m=m':=by omega
  subst this;exact h2.trans (BA.symm hs)
 ·intro h;have e1:=h3 m' (h.trans BA);have e2:=Ev m ((h.symm hs).trans h2);omega
def BC{b:au}{p:aw}(hb:cI b){i:Nat}(hi:i<b.aA.toNat):0<=gt (cB b p) i∧gt (cB b p) i<=(i:Int):=by obtain⟨m,h1,h2,h3⟩:=NY (p:=p) hb hi;have:=h3 i (.refl _);omega
end Rx
namespace Rx
def bG(P:Nat->Bool)(k:Nat):List Int:=((bW k).filter P).map Int.ofNat
def py(P:Nat->Bool)(k:Nat):bG P (k+1)=bG P k++if P k=ab then [(k:Int)]else []:=by unfold bG;rw[List.range_succ,uL,mS];cases h:P k<;>simp[h]
def oz(P:Nat->Bool)(k:Nat):(bG P k).length<=k:=by unfold bG;rw[pZ];refine lR (zD _ _) ?_;simp
def yz{P:Nat->Bool}{k:Nat}{x:Int}:x∈bG P k↔∃i,i<k∧P i=ab∧x=(i:Int):=by
 unfold bG;rw[dk];constructor
 ·rintro⟨i,hi,rfl⟩;rw[kH,ew]at hi;exact⟨i,hi.1,hi.2,rfl⟩
 ·rintro⟨i,h1,h2,rfl⟩;exact⟨i,by rw[kH,ew];exact⟨h1,h2⟩,rfl⟩
def iZ(b:au)(p:aw)(f i:Nat):Bool:=gt (cB b p) i==(f:Int)
def ik(b:au)(p:aw)(f j:Nat):Bool:=(conn b p (j:Int)).2&&gt (cB b p) (conn b p (j:Int)).1.toNat==(f:Int)
def iu(b:au)(p:aw)(f j:Nat):Bool:=(gn b p 3 (j:Int)).2&&gt (cB b p) (gn b p 3 (j:Int)).1.toNat==(f:Int)
def ek(b:au)(p:aw)(i j k:Nat):List bz:=(bW b.aA.toNat).map λf=>⟨bG (iZ b p f) i,bG (ik b p f) j,bG (iu b p f) k⟩
def dZ(b:au)(p:aw)(f:Nat):bz:=⟨bG (iZ b p f) b.aA.toNat,bG (ik b p f) b.aj.length,bG (iu b p f) b.ay.length⟩
def bq(b:au)(p:aw):List bz:=(ek b p b.aA.toNat b.aj.length b.ay.length).filter λx=> !x.aA.isEmpty
def TP{b:au}{p:aw}(hb:cI b){kind j:Int}(h:(gn b p kind j).2=ab):0<=(gn b p kind j).1∧(gn b p kind j).1<b.aA:=by
 unfold gn at h⊢;cases hf:(bW b.ah.length).find? (m9 b p kind j)with
 |none=>rw[hf]at h;simp at h
 |some k=>
  have hk:=ew.1 (uJ hf);have:=(hb.1 k hk).1;try simp only
  omega
def WO{b:au}{p:aw}(hb:cI b){j:Int}(h:(conn b p j).2=ab):0<=(conn b p j).1∧(conn b p j).1<b.aA:=by
 unfold conn at h⊢;by_cases h1:0<=j∧j<=(p.aj.length:Int)-1
 ·rw[aI h1]at h⊢;by_cases h2:(gt p.aj j.toNat).State=2
  ·rw[aI h2]at h⊢;exact TP hb h
  ·rw[aK h2]at h;simp at h
 ·rw[aK h1]at h;simp at h
def yG(b:au)(p:aw)(i j k:Nat):(ek b p i j k).length=b.aA.toNat:=by simp[ek]
def vz{b:au}{p:aw}{i j k f:Nat}(h:f<b.aA.toNat):gt (ek b p i j k) f=⟨bG (iZ b p f) i,bG (ik b p f) j,bG (iu b p f) k⟩:=by unfold ek;rw[lK _ h]
section
variable {b:au} {p:aw}
def ayt(hl:gy b)(hb:cI b):aG (Jx (cB b p)) ((0:Int),ek b p 0 0 0)=aa (ek b p b.aA.toNat 0 0):=by
 have pM:=hl.jp;have Ei:=VT b p;refine dR (step:=Jx (cB b p)) (λk=>((k:Int),ek b p k 0 0)) b.aA.toNat (λk hk=>?_) ?_
 ·have e1:ak ((k:Int)<len (cB b p))=ab:=dT (by unfold len;omega);obtain⟨g0,g1⟩:=BC (p:=p) hb hk;have hlen:=yG b p k 0 0;obtain⟨m,hm⟩:=nF g0;have nR:m<b.aA.toNat:=by omega
  have l_:=oz (iZ b p m) k;have e2:(ek b p k 0 0).set m ⟨bG (iZ b p m) k++[(k:Int)],bG (ik b p m) 0,bG (iu b p m) 0⟩=ek b p (k+1) 0 0:=by
   apply jZ
   ·simp[ek]
   ·intro i hi;have et:i<b.aA.toNat:=by simpa[ek]using hi
    rw[gV (by omega),vz et,vz et,py];by_cases yS:i=m
    ·subst yS;have:iZ b p i k=ab:=by unfold iZ;rw[hm];simp
     rw[aI rfl,aI this]
    ·have:iZ b p i k=ae:=by unfold iZ;rw[hm];exact dL (by omega)
     rw[aK yS,this];simp
  have e3:(ek b p (k+1) 0 0).length=b.aA.toNat:=yG _ _ _ _ _;simp only[Jx,e1,aH,aM (show k<(cB b p).length by omega),al,cV,bx,bE,bT,hm,QH,aM (show m<(ek b p k 0 0).length by omega),vz nR,cJ (show(bG (iZ b p m) k).length+[(k:Int)].length<=1073741824 by simp;omega),jK (show m<(ek b p k 0 0).length by omega),e2,aM (show m<(ek b p (k+1) 0 0).length by omega),aY (show k<1000000000000000000 by omega)]
 ·have e1:ak ((b.aA.toNat:Int)<len (cB b p))=ae:=dF (by unfold len;omega);simp only[Jx,e1,aC,aB]
def ays(hl:gy b)(hb:cI b)(hs:Sm b.ah)(hp:Sm p.aj)(hc:p.aE.length=b.ah.length):aG (Jw b p (cB b p)) ((0:Int),ek b p b.aA.toNat 0 0)=aa (ek b p b.aA.toNat b.aj.length 0):=by
 have pM:=hl.jp;have Ei:=VT b p;have mG:=hl.src;refine dR (step:=Jw b p (cB b p)) (λk=>((k:Int),ek b p b.aA.toNat k 0)) b.aj.length (λk hk=>?_) (by simp only[Jw,bC,aC,aB]);have hlen:=yG b p b.aA.toNat k 0;simp only[Jw,aZ hk,aH,azd hs hp hc,al,cV,bx,bE,bT,aY (show k<1000000000000000000 by omega)];cases uk:(conn b p (k:Int)).2 with
 |false=>
  have e2:ek b p b.aA.toNat (k+1) 0=ek b p b.aA.toNat k 0:=by unfold ek;refine F4 λf _=>?_;rw[py,show ik b p f k=ae by unfold ik;rw[uk];rfl];simp
  simp only[aC,aB,al,cV,bx,bE,bT,e2]
 |true=>
  obtain⟨c0,c1⟩:=WO hb uk;have ht:(conn b p (k:Int)).1.toNat<b.aA.toNat:=by omega
  obtain⟨g0,g1⟩:=BC (p:=p) hb ht;obtain⟨m,hm⟩:=nF g0;have nR:m<b.aA.toNat:=by omega
  have l_:=oz (ik b p m) k;have e2:(ek b p b.aA.toNat k 0).set m ⟨bG (iZ b p m) b.aA.toNat,bG (ik b p m) k++[(k:Int)],bG (iu b p m) 0⟩=ek b p b.aA.toNat (k+1) 0:=by
   apply jZ
   ·simp[ek]
   ·intro i hi;have et:i<b.aA.toNat:=by simpa[ek]using hi
    rw[gV (by omega),vz et,vz et,py];by_cases yS:i=m
    ·subst yS;have:ik b p i k=ab:=by unfold ik;rw[uk,hm];simp
     rw[aI rfl,aI this]
    ·have:ik b p i k=ae:=by unfold ik;rw[uk,hm];simp;omega
     rw[aK yS,this];simp
  have e3:(ek b p b.aA.toNat (k+1) 0).length=b.aA.toNat:=yG _ _ _ _ _;simp only[aH,iI c0 (show(conn b p (k:Int)).1<((cB b p).length:Int) by omega),al,cV,bx,bE,bT,hm,QH,aM (show m<(ek b p b.aA.toNat k 0).length by omega),vz nR,cJ (show(bG (ik b p m) k).length+[(k:Int)].length<=1073741824 by simp;omega),jK (show m<(ek b p b.aA.toNat k 0).length by omega),e2,aM (show m<(ek b p b.aA.toNat (k+1) 0).length by omega)]
def ayr(hl:gy b)(hb:cI b)(hs:Sm b.ah)(hc:p.aE.length=b.ah.length):aG (Ju b p (cB b p)) ((0:Int),ek b p b.aA.toNat b.aj.length 0)=aa (ek b p b.aA.toNat b.aj.length b.ay.length):=by
 have pM:=hl.jp;have Ei:=VT b p;have mG:=hl.iY;refine dR (step:=Ju b p (cB b p)) (λk=>((k:Int),ek b p b.aA.toNat b.aj.length k)) b.ay.length (λk hk=>?_) (by simp only[Ju,bC,aC,aB]);have hlen:=yG b p b.aA.toNat b.aj.length k;simp only[Ju,aZ hk,aH,afw hs hc,al,cV,bx,bE,bT,aY (show k<1000000000000000000 by omega)];cases uk:(gn b p 3 (k:Int)).2 with
 |false=>
  have e2:ek b p b.aA.toNat b.aj.length (k+1)=ek b p b.aA.toNat b.aj.length k:=by unfold ek;refine F4 λf _=>?_;rw[py,show iu b p f k=ae by unfold iu;rw[uk];rfl];simp
  simp only[aC,aB,al,cV,bx,bE,bT,e2]
 |true=>
  obtain⟨c0,c1⟩:=TP hb uk;have ht:(gn b p 3 (k:Int)).1.toNat<b.aA.toNat:=by omega
  obtain⟨g0,g1⟩:=BC (p:=p) hb ht;obtain⟨m,hm⟩:=nF g0;have nR:m<b.aA.toNat:=by omega
  have l_:=oz (iu b p m) k;have e2:(ek b p b.aA.toNat b.aj.length k).set m ⟨bG (iZ b p m) b.aA.toNat,bG (ik b p m) b.aj.length,bG (iu b p m) k++[(k:Int)]⟩=ek b p b.aA.toNat b.aj.length (k+1):=by
   apply jZ
   ·simp[ek]
   ·intro i hi;have et:i<b.aA.toNat:=by simpa[ek]using hi
    rw[gV (by omega),vz et,vz et,py];by_cases yS:i=m
    ·subst yS;have:iu b p i k=ab:=by unfold iu;rw[uk,hm];simp
     rw[aI rfl,aI this]
    ·have:iu b p i k=ae:=by unfold iu;rw[uk,hm];simp;omega
     rw[aK yS,this];simp
  have e3:(ek b p b.aA.toNat b.aj.length (k+1)).length=b.aA.toNat:=yG _ _ _ _ _;simp only[aH,iI c0 (show(gn b p 3 (k:Int)).1<((cB b p).length:Int) by omega),al,cV,bx,bE,bT,hm,QH,aM (show m<(ek b p b.aA.toNat b.aj.length k).length by omega),vz nR,cJ (show(bG (iu b p m) k).length+[(k:Int)].length<=1073741824 by simp;omega),jK (show m<(ek b p b.aA.toNat b.aj.length k).length by omega),e2,aM (show m<(ek b p b.aA.toNat b.aj.length (k+1)).length by omega)]
end
def ay2{l:List bz}(hl:Sm l):K_ l=aa (l.filter λx=> !x.aA.isEmpty):=by
 have hE:∀x:bz,Jy x=aa (x.aA.isEmpty):=λx=>by
  unfold Jy;cases h:x.aA with
  |nil=>rfl
  |cons a l=>simp[len];omega
 have h:=vw (step:=Dc l) (λk=>(k:Int)) l.length (λk=>(gt l k).aA.isEmpty) (R:=λk=> .inr (k:Int)) (e:= .inl ())
  (λk hk hp=>by simp only[Dc,hE,aZ hk,aH,aM hk,al,cV,bx,bE,bT,hp,aC,aB,aY (eT hl hk)])
  (λk hk hp=>by simp only[Dc,hE,aZ hk,aH,aM hk,al,cV,bx,bE,bT,hp])
  (by simp only[Dc,bC,aC,aB])
 have h':aG (Dc l) 0=_:=h;have D_:∀m,m<=l.length->(∀k,k<m->(gt l k).aA.isEmpty=ae)->(l.take m).filter (λx=> !x.aA.isEmpty)=l.take m:=by intro m hm hk;rw[List.filter_eq_self];intro x hx;obtain⟨k,h1,rfl⟩:=(DO hm).1 hx;rw[hk k h1];rfl
 unfold K_ R4;rw[h'];cases hf:(bW l.length).find? (λk=>(gt l k).aA.isEmpty)with
 |none=>
  have gU:∀k,k<l.length->(gt l k).aA.isEmpty=ae:=λk hk=>by have:=sh.1 hf k (ew.2 hk);simpa using this
  have:=D_ l.length (bw _) gU;rw[oZ]at this;rw[this];rfl
 |some k0=>
  have mJ:=ew.1 (uJ hf);have UI:(gt l k0).aA.isEmpty=ab:=zE (p:=λk=>(gt l k).aA.isEmpty) hf;have awe:∀k,k<k0->(gt l k).aA.isEmpty=ae:=by
   obtain⟨_,la,lb,h2,h3⟩:=List.find?_eq_some_iff_append.1 hf;intro k hk;have hlen:la.length=k0:=by
    have h4:(bW l.length)[la.length]? =aa k0:=by rw[h2];simp
    rw[J3 (by have:=iF List.length h2;simp at this;omega)]at h4
    exact kb h4
   have iJ:k∈la:=by have h4:(bW l.length)[k]? =aa k:=J3 (by omega);rw[h2,List.getElem?_append_left (by omega)]at h4;exact List.mem_of_getElem? h4
   simpa using h3 k iJ
  have bM:((k0:Int)== -1)=ae:=dL (by omega);have D6:k0<1000000000000000000:=eT hl mJ;simp only[al,cV,bx,bE,bT,bE,bM,aC,aB,aY D6];have xe:Wp (aG KZ ((k0:Int),((k0+1:Nat):Int),l)) λr=>∃(i:Nat) (x:List bz),r=((i:Int),x)∧i<=l.length∧x.length=l.length∧x.take i=l.filter λx=> !x.aA.isEmpty:=by
   refine dy (l.length-(k0+1)) (λm s=>∃(i:Nat) (x:List bz),s=((i:Int),((k0+1+m:Nat):Int),x)∧i<k0+1+m∧x.length=l.length∧x.take i=(l.take (k0+1+m)).filter (λx=> !x.aA.isEmpty)∧∀q,k0+1+m<=q->gt x q=gt l q) ⟨k0,l,rfl,by omega,rfl,?_,λ_ _=>rfl⟩ ?_ ?_
   ·rw[Nat.add_zero,lr mJ,uL,D_ k0 (by omega) awe];simp[UI]
   ·rintro m s hm ⟨i,x,rfl,h1,h2,h3,h4⟩;have hj:k0+1+m<l.length:=by omega
    have hs:k0+1+m<1000000000000000000:=eT hl hj;have hg:=h4 (k0+1+m) (bw _);unfold KZ;simp only[aZ (show k0+1+m<x.length by omega),aH,aM (show k0+1+m<x.length by omega),aM (show i<x.length by omega),hg,hE,al,cV,bx,bE,bT,jK (show i<x.length by omega),aY (show i<1000000000000000000 by omega),aY hs];cases he:(gt l (k0+1+m)).aA.isEmpty with
    |true=>simp only[dP,aC,aB,al,cV,bx,bE,bT];refine aq.2 ⟨i,x,rfl,by omega,h2,?_,λq hq=>h4 q (by omega)⟩;rw[show k0+1+(m+1)=k0+1+m+1 from rfl,lr hj,uL,h3];simp[he]
    |false=>
     simp only[lj,aH,al,cV,bx,bE,bT];refine aq.2 ⟨i+1,_,rfl,by omega,by simpa using h2,?_,λq hq=>?_⟩
     ·rw[show k0+1+(m+1)=k0+1+m+1 from rfl,lr hj,uL,<-h3,lr (show i<(x.set i (gt l (k0+1+m))).length by simp;omega),gV (by omega),aI rfl,List.take_set_of_le (bw _)];simp[he]
     ·rw[gV (by omega),aK (by omega)];exact h4 q (by omega)
   ·rintro s ⟨i,x,rfl,h1,h2,h3,h4⟩;have e:k0+1+(l.length-(k0+1))=l.length:=by omega
    rw[e]at h1 h3⊢;rw[oZ]at h3;unfold KZ;have e1:ak ((l.length:Int)<len x)=ae:=dF (by unfold len;omega);simp only[e1,aC,aB];exact aq.2 ⟨i,x,rfl,by omega,h2,h3⟩
  obtain⟨r,hr,i,x,rfl,h2,h3,h4⟩:=xe;rw[hr];simp only[al,cV,bx,bE,bT];have s1:dH x (i:Int) (len x)=aa ((x.take (len x).toNat).drop (i:Int).toNat):=by unfold dH len;rw[aI ⟨by omega,by omega,by omega⟩]
  rw[s1];simp only[al,cV,bx,bE,bT,iQ];have ud:(x.take i).length=i:=by simp;omega
  unfold rT;rw[iQ,Dh (xs:=x.take i++cR (x.length-i) (⟨[],[],[]⟩:bz)) (n:=i) (by simp;omega)];rw[List.take_append_of_le_length (by omega),List.take_of_length_le (by omega),h4]
section
variable {b:au} {p:aw}
def fi:bo b p=0↔(gy b∧q7 b)∧Shape b p∧wb b p:=by
 unfold bo;by_cases h0:nr b=0
 ·rw[aI h0];have h1:=BS.1 h0;by_cases h2:Shape b p<;>by_cases h3:wb b p<;>simp[h1,h2,h3]
 ·rw[aK h0];exact⟨λh=>(h0 h).elim,λh=>(h0 (BS.2 h.1)).elim⟩
def TY(hb:fw b)(hp:dA p)(h:bo b p=0):zn b p=aa (bq b p):=by
 obtain⟨⟨hl,hg⟩,nh,_⟩:=fi.1 h;have pM:=hl.jp;obtain⟨n,hn⟩:=nF (show 0<=b.aA by omega);have vG:mE (⟨[],[],[]⟩:bz) b.aA=aa (ek b p 0 0 0):=by
  rw[hn,yw (by omega)];congr 1;apply jZ
  ·simp[ek,hn]
  ·intro k hk;have da:k<n:=by simpa using hk
   rw[BB da,vz (by omega)];rfl
 unfold zn;rw[xZ hb hp,h];simp only[al,cV,bx,bE,bT,kG,aC,aB,axh hl hg.1 hb.1 nh.1,vG,ayt hl hg.1,ays hl hg.1 hb.1 hp.2.1 nh.1,ayr hl hg.1 hb.1 nh.1];rw[ay2 (by unfold Sm;rw[yG];omega)];rfl
def atl(hb:fw b)(hp:dA p)(h:bo b p≠0):zn b p=aa []:=by
 unfold zn;rw[xZ hb hp];have:(bo b p !=0)=ab:=by simpa using h
 simp only[al,cV,bx,bE,bT,this,aH]
def AB{x:bz}:x∈bq b p↔∃f,f<b.aA.toNat∧x=dZ b p f∧(dZ b p f).aA≠[]:=by
 unfold bq ek;rw[kH,dk];constructor
 ·rintro⟨⟨f,hf,rfl⟩,h⟩;refine⟨f,ew.1 hf,rfl,λe=>?_⟩;have e':bG (iZ b p f) b.aA.toNat=[]:=e;rw[e']at h;cases h
 ·rintro⟨f,hf,rfl,h⟩;refine⟨⟨f,ew.2 hf,rfl⟩,?_⟩;cases he:(dZ b p f).aA with
  |nil=>exact(h he).elim
  |cons _ _=>rfl
def Hn{f:Nat}{x:Int}:x∈(dZ b p f).aA↔∃i,i<b.aA.toNat∧gt (cB b p) i=(f:Int)∧x=(i:Int):=by
 show x∈bG (iZ b p f) b.aA.toNat↔_;rw[yz];constructor
 ·rintro⟨i,h1,h2,h3⟩;exact⟨i,h1,by simpa[iZ]using h2,h3⟩
 ·rintro⟨i,h1,h2,h3⟩;exact⟨i,h1,by simp[iZ,h2],h3⟩
def ML{f:Nat}{x:Int}:x∈(dZ b p f).aj↔∃j,j<b.aj.length∧(conn b p (j:Int)).2=ab∧gt (cB b p) (conn b p (j:Int)).1.toNat=(f:Int)∧x=(j:Int):=by
 show x∈bG (ik b p f) b.aj.length↔_;rw[yz];constructor
 ·rintro⟨i,h1,h2,h3⟩;unfold ik at h2;simp only[bt,sf]at h2;exact⟨i,h1,h2.1,h2.2,h3⟩
 ·rintro⟨i,h1,h2,h3,h4⟩;exact⟨i,h1,by unfold ik;rw[h2,h3];simp,h4⟩
def acv{f:Nat}{x:Int}:x∈(dZ b p f).ay↔∃j,j<b.ay.length∧(gn b p 3 (j:Int)).2=ab∧gt (cB b p) (gn b p 3 (j:Int)).1.toNat=(f:Int)∧x=(j:Int):=by
 show x∈bG (iu b p f) b.ay.length↔_;rw[yz];constructor
 ·rintro⟨i,h1,h2,h3⟩;unfold iu at h2;simp only[bt,sf]at h2;exact⟨i,h1,h2.1,h2.2,h3⟩
 ·rintro⟨i,h1,h2,h3,h4⟩;exact⟨i,h1,by unfold iu;rw[h2,h3];simp,h4⟩
def eP(b:au)(p:aw)(k:Int):bz:=dZ b p (gt (cB b p) k.toNat).toNat
def ac7(hb:cI b){k:Int}(h0:0<=k)(h1:k<b.aA):eP b p k∈bq b p∧k∈(eP b p k).aA:=by obtain⟨g0,g1⟩:=BC (p:=p) hb (show k.toNat<b.aA.toNat by omega);have hm:k∈(eP b p k).aA:=Hn.2 ⟨k.toNat,by omega,by omega,by omega⟩;exact⟨AB.2 ⟨_,by omega,rfl,λe=>by rw[show dZ b p (gt (cB b p) k.toNat).toNat=eP b p k from rfl]at e;rw[e]at hm;cases hm⟩,hm⟩
def ac6{x:bz}(hx:x∈bq b p){k:Int}(hk:k∈x.aA):0<=k∧k<b.aA.toNat∧x=eP b p k:=by obtain⟨f,hf,rfl,_⟩:=AB.1 hx;obtain⟨i,hi,hg,rfl⟩:=Hn.1 hk;refine⟨by omega,by omega,?_⟩;unfold eP;rw[iQ,hg,iQ]
def Hy:(bq b p).length<=b.aA.toNat:=by unfold bq;refine lR (zD _ _) ?_;rw[yG];exact bw _
def DZ(f:Nat):(dZ b p f).aA.length<=b.aA.toNat∧(dZ b p f).aj.length<=b.aj.length∧(dZ b p f).ay.length<=b.ay.length:=⟨oz _ _,oz _ _,oz _ _⟩
def fV(b:au)(p:aw)(k:Int):bz×Bool:=if bo b p=0∧0<=k∧k<b.aA then(eP b p k,ab)else(⟨[],[],[]⟩,ae)
def pA(b:au)(p:aw)(k:Int):List Int×List Int×List Int×Bool:=((fV b p k).1.aA,(fV b p k).1.aj,(fV b p k).1.ay,(fV b p k).2)
def of_eq(hb:fw b)(hp:dA p)(k:Int):xB b p k=aa (pA b p k):=by
 unfold xB pA fV;by_cases h:bo b p=0
 case neg=>rw[atl hb hp h,aK (λhh=>h hh.1)];have:aG (zm k []) 0=aa (.inl ()):=oD (.done (by simp[zm,len])) (by omega);simp only[al,cV,bx,bE,bT,this,bx]
 obtain⟨⟨hl,hg⟩,nh,_⟩:=fi.1 h;have pM:=hl.jp;have lI:=Hy (b:=b) (p:=p);rw[TY hb hp h];simp only[al,cV,bx,bE,bT];have fO:∀q,q<(bq b p).length->Sm (gt (bq b p) q).aA:=λq hq=>by obtain⟨f,hf,e,_⟩:=AB.1 (cX hq);rw[e];have:=(DZ (b:=b) (p:=p) f).1;unfold Sm;omega
 have h1:=vw (step:=zm k (bq b p)) (λi=>(i:Int)) (bq b p).length (λi=>decide (k∈(gt (bq b p) i).aA)) (R:=λi=> .inr ((gt (bq b p) i).aA,(gt (bq b p) i).aj,(gt (bq b p) i).ay,ab)) (e:= .inl ())
  (λi hi hq=>by simp only[zm,aZ hi,aH,aM hi,al,cV,bx,bE,bT,contains_eq (fO i hi),hq,aC,aB,aY (show i<1000000000000000000 by omega)])
  (λi hi hq=>by simp only[zm,aZ hi,aH,aM hi,al,cV,bx,bE,bT,contains_eq (fO i hi),hq])
  (by simp only[zm,bC,aC,aB])
 have np:aG (zm k (bq b p)) 0=_:=h1;rw[np];cases hf:(bW (bq b p).length).find? (λi=>decide (k∈(gt (bq b p) i).aA))with
 |none=>
  have:¬(bo b p=0∧0<=k∧k<b.aA):=λhh=>by obtain⟨h2,h3⟩:=ac7 (p:=p) hg.1 hh.2.1 hh.2.2;obtain⟨q,hq,e⟩:=lC h2;have:=sh.1 hf q (ew.2 hq);rw[e]at this;simp[h3]at this
  rw[aK this];rfl
 |some q=>have hq:=ew.1 (uJ hf);have hk:k∈(gt (bq b p) q).aA:=jJ (zE (p:=λi=>decide (k∈(gt (bq b p) i).aA)) hf);obtain⟨k0,k1,e⟩:=ac6 (cX hq) hk;rw[aI ⟨h,k0,by omega⟩,<-e];rfl
def O0(b:au)(p:aw)(j:Int):Int×Bool:=if bo b p=0 then conn b p j else(0,ae)
def vS(b:au)(p:aw)(j:Int):Int×Bool:=if bo b p=0 then gn b p 3 j else(0,ae)
end
def eG(b:au)(kind j:Int)(k:Nat):Bool:=(gt b.ah k).Kind==kind&&((gt b.ah k).B==j||(kind==1&&(gt b.ah k).A==j))
end Rx
namespace Rx
section
variable {b:au} {p:aw}
def asH(hb:fw b)(hp:dA p)(k:Int):Fl b p k=aa (ak (0<(fV b p k).1.aj.length)):=by unfold Fl;rw[of_eq hb hp];simp only[al,cV,bx,bE,bT];congr 1;rw[Ch];simp only[pA,len];omega
end
end Rx
namespace Rx
section
variable {b:au} {p:aw}
def ayu(hb:fw b)(hp:dA p)(j:Int):Jz b p j=aa (vS b p j):=by
 unfold Jz vS;rw[xZ hb hp];by_cases h:bo b p=0
 ·rw[aI h,h];simp only[al,cV,bx,bE,bT,kG,aC,aB,afw hb.1 (fi.1 h).2.1.1]
 ·have:(bo b p !=0)=ab:=by simpa using h
  simp only[al,cV,bx,bE,bT,this,aH,aK h]
end
section
variable {b:au} {p:aw}
end
end Rx
namespace Rx
open Classical
def yk{b:au}(hs:Sm b.ah)(kind j:Int):y9 b kind j=aa (bG (eG b kind j) b.ah.length):=by
 have h1:=dR (step:=IM b kind j) (λk=>((k:Int),bG (eG b kind j) k)) b.ah.length (r:=bG (eG b kind j) b.ah.length)
  (λk hk=>by have l_:=oz (eG b kind j) k;have ue:=eT hs hk;have xo:bD (bG (eG b kind j) k) [(k:Int)]=aa (bG (eG b kind j) k++[(k:Int)]):=cJ (by unfold Sm at hs;simp;omega);simp only[IM,aZ hk,aH,aM hk,al,aY ue,py,xo];unfold eG;cases e1:(gt b.ah k).Kind==kind<;>cases e2:(gt b.ah k).B==j<;>cases e3:kind==1<;>cases e4:(gt b.ah k).A==j<;>simp)
  (by simp only[IM,bC,aC,aB])
 have np:aG (IM b kind j) (0,[])=_:=h1;unfold y9;rw[np];rfl
def abP(P:Nat->Bool)(k:Nat):(bG P (k+1)).length=(bG P k).length+if P k=ab then 1 else 0:=by rw[py,cW];split<;>rfl
def Hh{P:Nat->Bool}{n:Nat}:(bG P n).length=0↔∀k,k<n->P k=ae:=by
 induction n with
 |zero=>simp[bG]
 |succ n ih=>
  rw[abP];constructor
  ·intro h k hk;by_cases hp:P n=ab
   ·rw[aI hp]at h;omega
   ·by_cases H7:k=n
    ·subst H7;simpa using hp
    ·exact ih.1 (by omega) k (by omega)
  ·intro h;rw[ih.2 λk hk=>h k (by omega),h n (by omega)];rfl
def Me{P:Nat->Bool}{n:Nat}:(bG P n).length=1↔(∃k,k<n∧P k=ab)∧∀i j,i<j->j<n->P i=ab->P j=ab->False:=by
 induction n with
 |zero=>simp[bG]
 |succ n ih=>
  rw[abP];constructor
  ·intro h;by_cases hp:P n=ab
   ·rw[aI hp]at h;have h0:=Hh.1 (show(bG P n).length=0 by omega);refine⟨⟨n,by omega,hp⟩,λi j iC hj hi _=>?_⟩;rw[h0 i (by omega)]at hi;cases hi
   ·rw[aK hp]at h;obtain⟨⟨k,hk,pJ⟩,hu⟩:=ih.1 (by omega);refine⟨⟨k,by omega,pJ⟩,λi j iC hj hi hpj=>?_⟩;by_cases hjn:j=n
    ·subst hjn;exact hp hpj
    ·exact hu i j iC (by omega) hi hpj
  ·rintro⟨⟨k,hk,pJ⟩,hu⟩;by_cases hp:P n=ab
   ·rw[aI hp,Hh.2 λi hi=>by
     cases w9:P i with
     |false=>rfl
     |true=>exact(hu i n hi (by omega) w9 hp).elim]
   ·rw[aK hp];have H7:k≠n:=λe=>hp (e▸pJ);exact ih.2 ⟨⟨k,by omega,pJ⟩,λi j iC hj=>hu i j iC (by omega)⟩
def EA{b:au}{j k:Nat}:eG b 2 (j:Int) k=ab↔oF (gt b.ah k) j:=by unfold eG oF;by_cases h1:(gt b.ah k).Kind=2<;>by_cases h2:(gt b.ah k).B=(j:Int)<;>simp[h1,h2]
def N5{b:au}{j k:Nat}:eG b 3 (j:Int) k=ab↔pD (gt b.ah k) j:=by unfold eG pD;by_cases h1:(gt b.ah k).Kind=3<;>by_cases h2:(gt b.ah k).B=(j:Int)<;>simp[h1,h2]
def Qu(b:au)(k:Nat):Prop:=
 (0<=(gt b.ah k).A∧(gt b.ah k).A<=b.aA-1)∧
 (((gt b.ah k).Kind=1∧(gt b.ah k).A+1<=(gt b.ah k).B∧(gt b.ah k).B<=b.aA-1)∨
  ((gt b.ah k).Kind=2∧(0<=(gt b.ah k).B∧(gt b.ah k).B<=(b.aj.length:Int)-1))∨
  ((gt b.ah k).Kind=3∧(0<=(gt b.ah k).B∧(gt b.ah k).B<=(b.ay.length:Int)-1)∧∀i,i<k->¬((gt b.ah i).Kind=(gt b.ah k).Kind∧(gt b.ah i).A=(gt b.ah k).A∧(gt b.ah i).B=(gt b.ah k).B)))
def Hc{b:au}:cI b↔(∀k,k<b.ah.length->Qu b k)∧(∀j,j<b.aj.length->(bG (eG b 2 (j:Int)) b.ah.length).length=1)∧∀j,j<b.ay.length->(bG (eG b 3 (j:Int)) b.ah.length).length≠0:=by
 constructor
 ·rintro⟨h1,h2,h3⟩;refine⟨λk hk=>?_,λj hj=>Me.2 ⟨?_,λi k dV hk hi hp=>?_⟩,λj hj h0=>?_⟩
  ·obtain⟨hA,hB⟩:=h1 k hk;refine⟨hA,?_⟩;rcases hB with h|⟨h4,h5,_⟩|⟨h4,h5,h6⟩
   ·exact .inl h
   ·exact .inr (.inl ⟨h4,h5⟩)
   ·exact .inr (.inr ⟨h4,h5,λi hi hh=>h6 i hi ⟨by rw[hh.1];exact h4,hh.2.2,hh.2.1⟩⟩)
  ·obtain⟨k,hk,hs⟩:=h2 j hj;exact⟨k,hk,EA.2 hs⟩
  ·have et:=EA.1 hi;have qC:=EA.1 hp;rcases(h1 k hk).2 with h|⟨h4,h5,h6⟩|⟨h4,_⟩
   ·have:=h.1;have:=qC.1;omega
   ·exact h6 i dV ⟨et.1,by rw[et.2,qC.2]⟩
   ·have:=qC.1;omega
  ·obtain⟨k,hk,hs⟩:=h3 j hj;have:=Hh.1 h0 k hk;rw[N5.2 hs]at this;cases this
 ·rintro⟨h1,h2,h3⟩;refine⟨λk hk=>?_,λj hj=>?_,λj hj=>?_⟩
  ·obtain⟨hA,hB⟩:=h1 k hk;refine⟨hA,?_⟩;rcases hB with h|⟨h4,h5⟩|⟨h4,h5,h6⟩
   ·exact .inl h
   ·refine .inr (.inl ⟨h4,h5,λi hi hh=>?_⟩);have hj:(gt b.ah k).B=((gt b.ah k).B.toNat:Int):=by omega
    obtain⟨_,hu⟩:=Me.1 (h2 (gt b.ah k).B.toNat (by omega));exact hu i k hi hk (EA.2 ⟨hh.1,by rw[hh.2];exact hj⟩) (EA.2 ⟨h4,hj⟩)
   ·exact .inr (.inr ⟨h4,h5,λi hi hh=>h6 i hi ⟨by rw[hh.1,h4],hh.2.2,hh.2.1⟩⟩)
  ·obtain⟨⟨k,hk,hp⟩,_⟩:=Me.1 (h2 j hj);exact⟨k,hk,EA.1 hp⟩
  ·apply gD;intro hn;refine h3 j hj (Hh.2 λk hk=>?_);cases hp:eG b 3 (j:Int) k with
   |false=>rfl
   |true=>exact(hn ⟨k,hk,N5.1 hp⟩).elim
def aqo{b:au}(hl:gy b):Ol b=aa (ak (cI b)):=by
 have hb:=hl.jp;have nV:=hl.di;have mG:=hl.src;have Em:=hl.iY;have fO:Sm b.ah:=by unfold Sm;omega
 have eB:W (b.aA-1)=b.aA-1:=bX (by omega) (by omega);have eS:W (len b.aj-1)=(b.aj.length:Int)-1:=by unfold len;exact bX (by omega) (by omega)
 have eC:W (len b.ay-1)=(b.ay.length:Int)-1:=by unfold len;exact bX (by omega) (by omega)
 have gI:∀k,k<b.ah.length->aG (EJ (gt b.ah k) (b.ah.take k)) 0=aa (if ∃i,i<k∧((gt b.ah i).Kind=(gt b.ah k).Kind∧(gt b.ah i).A=(gt b.ah k).A∧(gt b.ah i).B=(gt b.ah k).B)then .inr (.inr (.inr (.inr (.inr ae))))else .inl ()):=by
  intro k hk;have hlen:(b.ah.take k).length=k:=by simp;omega
  have hg:∀i,i<k->gt (b.ah.take k) i=gt b.ah i:=λi hi=>by rw[fQ (by omega),fQ (by omega)];simp
  refine uM (oC (step:=EJ (gt b.ah k) (b.ah.take k)) (λi=>(i:Int)) k (λi=>(gt b.ah i).Kind=(gt b.ah k).Kind∧(gt b.ah i).A=(gt b.ah k).A∧(gt b.ah i).B=(gt b.ah k).B) (r:= .inr (.inr (.inr (.inr (.inr ae))))) (e:= .inl ())
   (λi hi hp=>by
     have e:((gt b.ah i).Kind==(gt b.ah k).Kind&&((gt b.ah i).A==(gt b.ah k).A&&(gt b.ah i).B==(gt b.ah k).B))=ae:=by
      by_cases h1:(gt b.ah i).Kind=(gt b.ah k).Kind
      ·by_cases h2:(gt b.ah i).A=(gt b.ah k).A
       ·rw[gu h1,gu h2,dL (λh3=>hp ⟨h1,h2,h3⟩)];rfl
       ·rw[gu h1,dL h2];rfl
      ·rw[dL h1];rfl
     simp only[EJ,aZ (show i<(b.ah.take k).length by omega),aH,aM (show i<(b.ah.take k).length by omega),hg i hi,al,e,aC,aB,aY (show i<1000000000000000000 by omega)])
   (λi hi hp=>by simp only[EJ,aZ (show i<(b.ah.take k).length by omega),aH,aM (show i<(b.ah.take k).length by omega),hg i hi,al,gu hp.1,gu hp.2.1,gu hp.2.2,Bool.and_self])
   (by have e1:ak ((k:Int)<len (b.ah.take k))=ae:=dF (by unfold len;omega);simp only[EJ,e1,aC,aB])) (by congr)
 have l1:aG (BN b) 0=aa (if ∃k,k<b.ah.length∧¬Qu b k then .inr ae else .inl ()):=by
  refine uM (oC (r:= .inr ae) (e:= .inl ()) (step:=BN b) (λk=>(k:Int)) b.ah.length (λk=>¬Qu b k) (λk hk hp=>?_) (λk hk hp=>?_) (by simp only[BN,bC,aC,aB])) (by congr)
  ·obtain⟨hA,hB⟩:=si.1 hp;have BL:W ((gt b.ah k).A+1)=(gt b.ah k).A+1:=bX (by omega) (by omega);simp only[BN,aZ hk,aH,aM hk,al,qg,eB,eS,eC,BL,dT hA,dP,aC,aB];rcases hB with⟨h1,h2⟩|⟨h1,h2⟩|⟨h1,h2,h3⟩
   ·simp only[gu h1,aH,dT h2,dP,aC,aB,al,bx,aY (show k<1000000000000000000 by omega)]
   ·simp only[dL (show(gt b.ah k).Kind≠1 by omega),gu h1,aH,dT h2,dP,aC,aB,al,bx,aY (show k<1000000000000000000 by omega)]
   ·have nQ:¬∃i,i<k∧((gt b.ah i).Kind=(gt b.ah k).Kind∧(gt b.ah i).A=(gt b.ah k).A∧(gt b.ah i).B=(gt b.ah k).B):=λ⟨i,hi,hh⟩=>h3 i hi hh;simp only[dL (show(gt b.ah k).Kind≠1 by omega),dL (show(gt b.ah k).Kind≠2 by omega),gu h1,aH,dT h2,dP,aC,aB,Dh (show k<=b.ah.length by omega),al,gI k hk,aK nQ,bx,aY (show k<1000000000000000000 by omega)]
  ·by_cases hA:0<=(gt b.ah k).A∧(gt b.ah k).A<=b.aA-1
   case neg=>simp only[BN,aZ hk,aH,aM hk,al,qg,eB,dF hA,lj]
   have BL:W ((gt b.ah k).A+1)=(gt b.ah k).A+1:=bX (by omega) (by omega);simp only[BN,aZ hk,aH,aM hk,al,qg,eB,eS,eC,BL,dT hA,dP,aC,aB];by_cases h1:(gt b.ah k).Kind=1
   ·have h2:¬((gt b.ah k).A+1<=(gt b.ah k).B∧(gt b.ah k).B<=b.aA-1):=λh=>hp ⟨hA,.inl ⟨h1,h⟩⟩;simp only[gu h1,aH,dF h2,lj,al,bE]
   by_cases h2:(gt b.ah k).Kind=2
   ·have h3:¬(0<=(gt b.ah k).B∧(gt b.ah k).B<=(b.aj.length:Int)-1):=λh=>hp ⟨hA,.inr (.inl ⟨h2,h⟩)⟩;simp only[dL h1,gu h2,aH,dF h3,lj,aC,aB,al,bE]
   by_cases h3:(gt b.ah k).Kind=3
   case neg=>simp only[dL h1,dL h2,dL h3,aC,aB,al,bE]
   by_cases h4:0<=(gt b.ah k).B∧(gt b.ah k).B<=(b.ay.length:Int)-1
   case neg=>simp only[dL h1,dL h2,gu h3,aH,dF h4,lj,aC,aB,al,bE]
   have HF:∃i,i<k∧((gt b.ah i).Kind=(gt b.ah k).Kind∧(gt b.ah i).A=(gt b.ah k).A∧(gt b.ah i).B=(gt b.ah k).B):=by apply gD;intro hn;exact hp ⟨hA,.inr (.inr ⟨h3,h4,λi hi hh=>hn ⟨i,hi,hh⟩⟩)⟩
   simp only[dL h1,dL h2,gu h3,aH,dT h4,dP,aC,aB,Dh (show k<=b.ah.length by omega),al,gI k hk,aI HF,bE]
 have l3:aG (EI b) 0=aa (if ∃j,j<b.aj.length∧¬(bG (eG b 2 (j:Int)) b.ah.length).length=1 then .inr ae else .inl ()):=by
  refine uM (oC (r:= .inr ae) (e:= .inl ()) (step:=EI b) (λk=>(k:Int)) b.aj.length (λj=>¬(bG (eG b 2 (j:Int)) b.ah.length).length=1) (λj hj hp=>?_) (λj hj hp=>?_) (by simp only[EI,bC,aC,aB])) (by congr)
  ·have e:(len (bG (eG b 2 (j:Int)) b.ah.length) !=1)=ae:=by have:=si.1 hp;simp[len,this]
   simp only[EI,aZ hj,aH,yk fO,al,e,aC,aB,aY (show j<1000000000000000000 by omega)]
  ·have e:(len (bG (eG b 2 (j:Int)) b.ah.length) !=1)=ab:=by simp[len];omega
   simp only[EI,aZ hj,aH,yk fO,al,e]
 have l4:aG (EH b) 0=aa (if ∃j,j<b.ay.length∧(bG (eG b 3 (j:Int)) b.ah.length).length=0 then .inr ae else .inl ()):=by
  refine uM (oC (r:= .inr ae) (e:= .inl ()) (step:=EH b) (λk=>(k:Int)) b.ay.length (λj=>(bG (eG b 3 (j:Int)) b.ah.length).length=0) (λj hj hp=>?_) (λj hj hp=>?_) (by simp only[EH,bC,aC,aB])) (by congr)
  ·have e:ak (len (bG (eG b 3 (j:Int)) b.ah.length)<1)=ae:=dF (by unfold len;omega);simp only[EH,aZ hj,aH,yk fO,al,e,aC,aB,aY (show j<1000000000000000000 by omega)]
  ·have e:ak (len (bG (eG b 3 (j:Int)) b.ah.length)<1)=ab:=dT (by unfold len;omega);simp only[EH,aZ hj,aH,yk fO,al,e]
 unfold Ol;rw[l1,al];by_cases g1:∃k,k<b.ah.length∧¬Qu b k
 ·rw[aI g1,dF (λh:cI b=>by obtain⟨k,hk,hn⟩:=g1;exact hn ((Hc.1 h).1 k hk))];rfl
 rw[aK g1,bx,l3,al];by_cases g2:∃j,j<b.aj.length∧¬(bG (eG b 2 (j:Int)) b.ah.length).length=1
 ·rw[aI g2,dF (λh:cI b=>by obtain⟨k,hk,hn⟩:=g2;exact hn ((Hc.1 h).2.1 k hk))];rfl
 rw[aK g2,bx,l4,al];by_cases g3:∃j,j<b.ay.length∧(bG (eG b 3 (j:Int)) b.ah.length).length=0
 ·rw[aI g3,dF (λh:cI b=>by obtain⟨k,hk,hn⟩:=g3;exact(Hc.1 h).2.2 k hk hn)];rfl
 rw[aK g3,dT (Hc.2 ⟨λk hk=>gD λh=>g1 ⟨k,hk,h⟩,λk hk=>gD λh=>g2 ⟨k,hk,h⟩,λk hk h=>g3 ⟨k,hk,h⟩⟩)];rfl
end Rx
namespace Rx
open Classical
def aqd{b:au}(hl:gy b):Oh b=aa (ak (∀k,k<b.aj.length->mM (gt b.aj k))):=by
 have mG:=hl.src;have h:aG (EE b) 0=aa (if ∃k,k<b.aj.length∧¬mM (gt b.aj k)then .inr ae else .inl ()):=by
  refine uM (oC (r:= .inr ae) (e:= .inl ()) (step:=EE b) (λk=>(k:Int)) b.aj.length (λk=>¬mM (gt b.aj k)) (λk hk hp=>?_) (λk hk hp=>?_) (by simp only[EE,bC,aC,aB])) (by congr)
  ·obtain⟨h1,h2,h3⟩:=si.1 hp;simp only[EE,aZ hk,aH,aM hk,al,qg,dT h1,dT h2,dT h3,dP,aC,aB,aY (show k<1000000000000000000 by omega)]
  ·simp only[EE,aZ hk,aH,aM hk,al,qg];by_cases h1:1<=(gt b.aj k).iE∧(gt b.aj k).iE<=50000
   case neg=>simp[h1]
   by_cases h2:0<=(gt b.aj k).fa∧(gt b.aj k).fa<=(gt b.aj k).iE
   case neg=>simp[h1,h2]
   have h3:¬(0<=(gt b.aj k).Start∧(gt b.aj k).Start<=600):=λh=>hp ⟨h1,h2,h⟩;simp[h1,h2,h3]
 unfold Oh;rw[h,al];by_cases g:∃k,k<b.aj.length∧¬mM (gt b.aj k)
 ·rw[aI g,dF (c:=∀k,k<b.aj.length->mM (gt b.aj k)) (λh=>by obtain⟨k,hk,hn⟩:=g;exact hn (h k hk))];rfl
 ·rw[aK g,dT (c:=∀k,k<b.aj.length->mM (gt b.aj k)) (λk hk=>gD λh=>g ⟨k,hk,h⟩)];rfl
def aqm{b:au}(hl:gy b)(hs:fw b):Oj b=aa (ak (∀k,k<b.ay.length->lQ (gt b.ay k) k)):=by
 have Em:=hl.iY;have gI:∀k,k<b.ay.length->aG (EF (k:Int) (gt b.ay k)) 0=aa (if ∃i,i<(gt b.ay k).ci.length∧¬((0<=gt (gt b.ay k).ci i∧gt (gt b.ay k).ci i<=(k:Int)-1)∧(0<i->gt (gt b.ay k).ci (i-1)<gt (gt b.ay k).ci i))then .inr (.inr (.inr ae))else .inl ()):=by
  intro k hk;generalize hx:gt b.ay k=x;have hl:Sm x.ci:=hx▸hs.2.2.2 _ (cX hk);have e0:W ((k:Int)-1)=(k:Int)-1:=bX (by omega) (by omega);refine uM (oC (step:=EF (k:Int) x) (λi=>(i:Int)) x.ci.length (λi=>¬((0<=gt x.ci i∧gt x.ci i<=(k:Int)-1)∧(0<i->gt x.ci (i-1)<gt x.ci i))) (r:= .inr (.inr (.inr ae))) (e:= .inl ()) (λi hi hp=>?_) (λi hi hp=>?_) (by simp only[EF,bC,aC,aB])) (by congr)
  ·obtain⟨h1,h2⟩:=si.1 hp;simp only[EF,aZ hi,aH,aM hi,al,qg,e0,dT h1,dP,aC,aB];by_cases nU:0<i
   ·have h3:=h2 nU;rw[dT (c:=(i:Int)>0) (by omega)];simp only[aH,nv (eT hl hi) nU,aM (show i-1<x.ci.length by omega),al,dF (c:=gt x.ci (i-1)>=gt x.ci i) (by omega),aC,aB,aY (eT hl hi)]
   ·rw[dF (c:=(i:Int)>0) (by omega)];simp only[aC,aB,al,aY (eT hl hi)]
  ·simp only[EF,aZ hi,aH,aM hi,al,qg,e0];by_cases h1:0<=gt x.ci i∧gt x.ci i<=(k:Int)-1
   ·have h2:0<i∧gt x.ci i<=gt x.ci (i-1):=by
     by_cases nU:0<i
     ·refine⟨nU,Int.not_lt.1 λh=>hp ⟨h1,λ_=>h⟩⟩
     ·exact(hp ⟨h1,λh=>(nU h).elim⟩).elim
    rw[dT h1,dT (c:=(i:Int)>0) (by omega)];simp only[dP,aC,aB,aH,nv (eT hl hi) h2.1,aM (show i-1<x.ci.length by omega),al,dT (c:=gt x.ci (i-1)>=gt x.ci i) (by omega)]
   ·rw[dF h1];simp only[lj,aH,al]
 have b6:∀x:Consumer,(pW (aa (ak (0<=x.e_∧x.e_<=50000))) λx3=>if(!x3)=ab then aa ab else pW (aa (ak (0<=x.fa∧x.fa<=x.e_))) λx4=>if(!x4)=ab then aa ab else pW (aa (ak (0<=x.kE∧x.kE<=15))) λx5=>if(!x5)=ab then aa ab else pW (aa (ak (-1<=x.b9∧x.b9<=7))) λx6=>if(!x6)=ab then aa ab else aa (ak (len x.ci>4)))=aa (ak (¬((0<=x.e_∧x.e_<=50000)∧(0<=x.fa∧x.fa<=x.e_)∧(0<=x.kE∧x.kE<=15)∧(-1<=x.b9∧x.b9<=7)∧x.ci.length<=4))):=by
  intro x;have e5:ak (len x.ci>4)=ak (¬x.ci.length<=4):=by rw[Ch];unfold len;omega
  rw[e5];simp only[al];by_cases h1:0<=x.e_∧x.e_<=50000
  case neg=>rw[dF h1,dT (c:=¬(_∧_)) (λh=>h1 h.1)];rfl
  by_cases h2:0<=x.fa∧x.fa<=x.e_
  case neg=>rw[dT h1,dF h2,dT (c:=¬(_∧_)) (λh=>h2 h.2.1)];rfl
  by_cases h3:0<=x.kE∧x.kE<=15
  case neg=>rw[dT h1,dT h2,dF h3,dT (c:=¬(_∧_)) (λh=>h3 h.2.2.1)];rfl
  by_cases h4: -1<=x.b9∧x.b9<=7
  case neg=>rw[dT h1,dT h2,dT h3,dF h4,dT (c:=¬(_∧_)) (λh=>h4 h.2.2.2.1)];rfl
  rw[dT h1,dT h2,dT h3,dT h4];by_cases h5:x.ci.length<=4
  ·rw[dF (c:=¬x.ci.length<=4) (λh=>h h5),dF (c:=¬(_∧_)) (λh=>h ⟨h1,h2,h3,h4,h5⟩)];rfl
  ·rw[dT (c:=¬x.ci.length<=4) h5,dT (c:=¬(_∧_)) (λh=>h5 h.2.2.2.2)];rfl
 have aep:∀k,YN (gt b.ay k).ci k↔¬∃i,i<(gt b.ay k).ci.length∧¬((0<=gt (gt b.ay k).ci i∧gt (gt b.ay k).ci i<=(k:Int)-1)∧(0<i->gt (gt b.ay k).ci (i-1)<gt (gt b.ay k).ci i)):=
  λk=>⟨λh ⟨i,hi,hn⟩=>hn (h i hi),λh i hi=>gD λhn=>h ⟨i,hi,hn⟩⟩
 have h:aG (EG b) 0=aa (if ∃k,k<b.ay.length∧¬lQ (gt b.ay k) k then .inr ae else .inl ()):=by
  refine uM (oC (r:= .inr ae) (e:= .inl ()) (step:=EG b) (λk=>(k:Int)) b.ay.length (λk=>¬lQ (gt b.ay k) k) (λk hk hp=>?_) (λk hk hp=>?_) (by simp only[EG,bC,aC,aB])) (by congr)
  ·obtain⟨h1,h2⟩:=si.1 hp;simp only[EG,aZ hk,aH,aM hk,al,qg];have:=b6 (gt b.ay k);simp only[al]at this;rw[this,dF (c:=¬(_∧_)) (λh=>h h2)];simp only[al,aC,aB];rw[gI k hk,aK ((aep k).1 h1)];simp only[al,bx,aY (show k<1000000000000000000 by omega)]
  ·simp only[EG,aZ hk,aH,aM hk,al,qg];have:=b6 (gt b.ay k);simp only[al]at this;rw[this];by_cases h2:(0<=(gt b.ay k).e_∧(gt b.ay k).e_<=50000)∧(0<=(gt b.ay k).fa∧(gt b.ay k).fa<=(gt b.ay k).e_)∧(0<=(gt b.ay k).kE∧(gt b.ay k).kE<=15)∧(-1<=(gt b.ay k).b9∧(gt b.ay k).b9<=7)∧(gt b.ay k).ci.length<=4
   ·rw[dF (c:=¬(_∧_)) (λh=>h h2)];simp only[al,aC,aB];rw[gI k hk,aI (gD λhn=>hp ⟨(aep k).2 hn,h2⟩)];rfl
   ·rw[dT (c:=¬(_∧_)) h2];rfl
 unfold Oj;rw[h,al];by_cases g:∃k,k<b.ay.length∧¬lQ (gt b.ay k) k
 ·rw[aI g,dF (c:=∀k,k<b.ay.length->lQ (gt b.ay k) k) (λh=>by obtain⟨k,hk,hn⟩:=g;exact hn (h k hk))];rfl
 ·rw[aK g,dT (c:=∀k,k<b.ay.length->lQ (gt b.ay k) k) (λk hk=>gD λh=>g ⟨k,hk,h⟩)];rfl
def aqn{b:au}(hs:fw b):Ou b=aa (nr b):=by
 unfold Ou nr;by_cases h1:1<=b.aA∧b.aA<=6
 case neg=>
  have hn:¬gy b:=λh=>h1 h.jp;by_cases h1a:b.aA<1
  ·simp[h1a,hn]
  ·have h1b:b.aA>6:=by omega
   simp[h1a,h1b,hn]
 have a1:ak (b.aA<1)=ae:=dF (by omega);have a2:ak (b.aA>6)=ae:=dF (by omega);by_cases h2:b.ah.length<=24
 case neg=>have:¬gy b:=λh=>h2 h.di;have e:ak (len b.ah>24)=ab:=dT (by unfold len;omega);simp[a1,a2,this,e]
 have a3:ak (len b.ah>24)=ae:=dF (by unfold len;omega);by_cases h3:b.aj.length<=8
 case neg=>have:¬gy b:=λh=>h3 h.src;have e:ak (len b.aj>8)=ab:=dT (by unfold len;omega);simp[a1,a2,a3,this,e]
 have a4:ak (len b.aj>8)=ae:=dF (by unfold len;omega);by_cases h4:b.ay.length<=16
 case neg=>have:¬gy b:=λh=>h4 h.iY;have e:ak (len b.ay>16)=ab:=dT (by unfold len;omega);simp[a1,a2,a3,a4,this,e]
 have a5:ak (len b.ay>16)=ae:=dF (by unfold len;omega);have hl:gy b:=⟨h1,h2,h3,h4⟩;simp only[a1,a2,a3,a4,a5,aC,aB,al,aqo hl,aqd hl,aqm hl hs,aI hl];by_cases g1:cI b
 case neg=>rw[dF g1,aK (λh:q7 b=>g1 h.1)];rfl
 by_cases g2:∀k,k<b.aj.length->mM (gt b.aj k)
 case neg=>rw[dT g1,dF g2,aK (λh:q7 b=>g2 h.2.2.2.1)];rfl
 by_cases g3:∀k,k<b.ay.length->lQ (gt b.ay k) k
 case neg=>rw[dT g1,dT g2,dF g3,aK (λh:q7 b=>g3 h.2.2.2.2)];rfl
 rw[dT g1,dT g2,dT g3];simp only[dP,aC,aB];by_cases g4:b.bn<0
 ·rw[dT g4,aK (λh:q7 b=>by have:=h.2.1;omega)];rfl
 by_cases g5:b.bn>1800
 ·rw[dF g4,dT g5,aK (λh:q7 b=>by have:=h.2.1;omega)];rfl
 by_cases g6:b.a_<0
 ·rw[dF g4,dF g5,dT g6,aK (λh:q7 b=>by have:=h.2.2.1;omega)];rfl
 by_cases g7:b.a_>6000
 ·rw[dF g4,dF g5,dF g6,dT g7,aK (λh:q7 b=>by have:=h.2.2.1;omega)];rfl
 rw[dF g4,dF g5,dF g6,dF g7,aI (show q7 b from⟨g1,by omega,by omega,g2,g3⟩)];rfl
end Rx
namespace Rx
open Classical
def aby(x y:Part):Ov x y=aa (ak (before x y)):=by
 unfold Ov before;by_cases h1:x.Kind<y.Kind
 ·simp[h1]
 ·by_cases h2:x.Kind=y.Kind
  ·by_cases h3:x.Number<y.Number<;>simp[h1,h2,h3]
  ·simp[h1,h2]
def qT(p:aw)(l:List Int):Nat:=(l.filter λk=>gt p.aE k.toNat).length
def af1(p:aw)(l m:List Int):qT p (l++m)=qT p l+qT p m:=by unfold qT;rw[uL,cW]
def azl(p:aw)(l:List Int):qT p l<=l.length:=zD _ _
def azm(b:au)(p:aw)(j:Nat)(n:Nat):qT p (bG (eG b 3 (j:Int)) n)=eZ b p (j:Int) n:=by
 induction n with
 |zero=>rfl
 |succ n ih=>
  rw[py,af1,ih];show eZ b p (j:Int) n+_=eZ b p (j:Int) n+_;congr 1;by_cases h:eG b 3 (j:Int) n=ab
  ·obtain⟨h1,h2⟩:=N5.1 h;rw[aI h];cases h3:gt p.aE n<;>simp[qT,h1,h2,h3]
  ·rw[aK h,aK (λhh=>h (N5.2 ⟨hh.1,hh.2.1⟩))];rfl
def abx{b:au}{p:aw}(hc:p.aE.length=b.ah.length)(hs:Sm b.ah)(j:Nat):aG (EK p (bG (eG b 3 (j:Int)) b.ah.length)) (0,0)=aa (eZ b p (j:Int) b.ah.length:Int):=by
 generalize hl:bG (eG b 3 (j:Int)) b.ah.length=l;have Nv:l.length<=b.ah.length:=hl▸oz _ _;have iJ:∀k,k<l.length->∃i:Nat,gt l k=(i:Int)∧i<p.aE.length:=λk hk=>by
  have h1:gt l k∈bG (eG b 3 (j:Int)) b.ah.length:=by rw[hl];exact cX hk
  obtain⟨i,hi,_,e⟩:=yz.1 h1;exact⟨i,e,by omega⟩
 have fO:Sm l:=by unfold Sm at hs⊢;omega
 have h:=dR (step:=EK p l) (λk=>((qT p (l.take k):Int),(k:Int))) l.length (r:=(qT p l:Int))
  (λk hk=>by
    obtain⟨i,e,hi⟩:=iJ k hk;have hle:=azl p (l.take k);have Nw:(l.take k).length<=k:=by simp;omega
    simp only[EK,aZ hk,aH,aM hk,e,aM hi,al,aY (eT fO hk),lr hk,af1];cases h3:gt p.aE i with
    |true=>
     have:qT p [(i:Int)]=1:=by simp[qT,h3]
     simp only[aH,al,this];rw[aY (show qT p (l.take k)<1000000000000000000 by have:=eT fO hk;omega)]
    |false=>
     have:qT p [(i:Int)]=0:=by simp[qT,h3]
     simp only[aC,aB,al,this,Nat.add_zero])
  (by simp only[EK,bC,aC,aB,oZ])
 have h':aG (EK p l) (0,0)=_:=h;rw[h',<-hl,azm]
def Hb{b:au}{p:aw}(hb:fw b)(hp:dA p):y_ b p=aa (bo b p):=by
 unfold y_ bo;rw[aqn hb];simp only[al];by_cases h0:nr b=0
 case neg=>simp[h0]
 have hL:=(BS.1 h0).1;have h3:=hL.iY;have e0:(nr b !=0)=ae:=by simp[h0]
 simp only[e0,aC,aB,aI h0];by_cases h1:p.aE.length=b.ah.length
 case neg=>
  have:¬Shape b p:=λh=>h1 h.1;have e:(len p.aE !=len b.ah)=ab:=by simp[len];omega
  simp[e,this]
 by_cases h2:p.aj.length=b.aj.length
 case neg=>
  have:¬Shape b p:=λh=>h2 h.2.1;have e1:(len p.aE !=len b.ah)=ae:=by simp[len,h1]
  have e:(len p.aj !=len b.aj)=ab:=by simp[len];omega
  simp[e,e1,this]
 by_cases h4:p.aT.length=b.ay.length
 case neg=>
  have:¬Shape b p:=λh=>h4 h.2.2;have e1:(len p.aE !=len b.ah)=ae:=by simp[len,h1]
  have e2:(len p.aj !=len b.aj)=ae:=by simp[len,h2]
  have e:(len p.aT !=len b.ay)=ab:=by simp[len];omega
  simp[e,e1,e2,this]
 have nh:Shape b p:=⟨h1,h2,h4⟩;have e1:(len p.aE !=len b.ah)=ae:=by simp[len,h1]
 have e2:(len p.aj !=len b.aj)=ae:=by simp[len,h2]
 have e3:(len p.aT !=len b.ay)=ae:=by simp[len,h4]
 have l1:aG (EO p) 0=aa (if ∃k,k<p.aj.length∧¬gY (gt p.aj k)then .inr 11 else .inl ()):=by
  have fO:=hp.2.1;refine uM (oC (r:= .inr 11) (e:= .inl ()) (step:=EO p) (λk=>(k:Int)) p.aj.length (λk=>¬gY (gt p.aj k)) (λk hk hq=>?_) (λk hk hq=>?_) (by simp only[EO,bC,aC,aB])) (by congr)
  ·obtain⟨q1,q2,q3,q4⟩:=si.1 hq;simp only[EO,aZ hk,aH,aM hk,al,qg,dT q1,dT q2,dT q3,dT q4,dP,aC,aB,aY (eT fO hk)]
  ·simp only[EO,aZ hk,aH,aM hk,al,qg];by_cases q1:0<=(gt p.aj k).State∧(gt p.aj k).State<=3
   case neg=>simp[q1]
   by_cases q2:0<=(gt p.aj k).gX∧(gt p.aj k).gX<=2147483648
   case neg=>simp[q1,q2]
   by_cases q3:0<=(gt p.aj k).a_∧(gt p.aj k).a_<=6000
   case neg=>simp[q1,q2,q3]
   have q4:¬(0<=(gt p.aj k).bn∧(gt p.aj k).bn<=3599):=λh=>hq ⟨q1,q2,q3,h⟩;simp[q1,q2,q3,q4]
 have l2:aG (EN b p) 0=aa (if ∃k,k<p.aT.length∧¬(0<=gt p.aT k∧gt p.aT k<=(gt b.ay k).e_)then .inr 11 else .inl ()):=by
  have fO:=hp.2.2.1;refine uM (oC (r:= .inr 11) (e:= .inl ()) (step:=EN b p) (λk=>(k:Int)) p.aT.length (λk=>¬(0<=gt p.aT k∧gt p.aT k<=(gt b.ay k).e_)) (λk hk hq=>?_) (λk hk hq=>?_) (by simp only[EN,bC,aC,aB])) (by congr)
  ·simp only[EN,aZ hk,aH,aM hk,aM (show k<b.ay.length by omega),al,qg,dT (si.1 hq),dP,aC,aB,aY (eT fO hk)]
  ·simp only[EN,aZ hk,aH,aM hk,aM (show k<b.ay.length by omega),al,qg,dF hq,lj]
 have l3:aG (EM b p) 0=aa (if ∃k,k<p.aP.length∧¬oX b p.aP k then .inr 11 else .inl ()):=by
  have fO:=hp.2.2.2;refine uM (oC (r:= .inr 11) (e:= .inl ()) (step:=EM b p) (λk=>(k:Int)) p.aP.length (λk=>¬oX b p.aP k) (λk hk hq=>?_) (λk hk hq=>?_) (by simp only[EM,bC,aC,aB])) (by congr)
  ·obtain⟨q1,q2⟩:=si.1 hq;simp only[EM,aZ hk,aH,aM hk,al,exists_eq hL,dT q1,dP,aC,aB];by_cases mJ:0<k
   ·rw[dT (c:=(k:Int)>0) (by omega)];simp only[aH,nv (eT fO hk) mJ,aM (show k-1<p.aP.length by omega),al,aby,dT (q2 mJ),dP,aC,aB,aY (eT fO hk)]
   ·rw[dF (c:=(k:Int)>0) (by omega)];simp only[aC,aB,al,aY (eT fO hk)]
  ·simp only[EM,aZ hk,aH,aM hk,al,exists_eq hL];by_cases q1:0<=(gt p.aP k).Number∧(gt p.aP k).Number<=bsize b (gt p.aP k).Kind-1
   ·have q2:0<k∧¬before (gt p.aP (k-1)) (gt p.aP k):=by
     by_cases mJ:0<k
     ·exact⟨mJ,λh=>hq ⟨q1,λ_=>h⟩⟩
     ·exact(hq ⟨q1,λh=>(mJ h).elim⟩).elim
    rw[dT q1,dT (c:=(k:Int)>0) (by omega)];simp only[dP,aC,aB,aH,nv (eT fO hk) q2.1,aM (show k-1<p.aP.length by omega),al,aby,dF q2.2,lj]
   ·rw[dF q1];simp only[lj,aH,al]
 have l4:aG (EL b p) 0=aa (if ∃k,k<b.ay.length∧¬eZ b p (k:Int) b.ah.length<=1 then .inr 11 else .inl ()):=by
  refine uM (oC (r:= .inr 11) (e:= .inl ()) (step:=EL b p) (λk=>(k:Int)) b.ay.length (λk=>¬eZ b p (k:Int) b.ah.length<=1) (λk hk hq=>?_) (λk hk hq=>?_) (by simp only[EL,bC,aC,aB])) (by congr)
  ·simp only[EL,aZ hk,aH,yk hb.1,al,abx h1 hb.1,dF (c:=(eZ b p (k:Int) b.ah.length:Int)>1) (by omega),aC,aB,aY (show k<1000000000000000000 by omega)]
  ·simp only[EL,aZ hk,aH,yk hb.1,al,abx h1 hb.1,dT (c:=(eZ b p (k:Int) b.ah.length:Int)>1) (by omega)]
 simp only[e1,e2,e3,aC,aB,al,aI nh,l1,l2,l3,l4];by_cases g1:∃k,k<p.aj.length∧¬gY (gt p.aj k)
 ·rw[aI g1,aK (λh:wb b p=>by obtain⟨k,hk,hn⟩:=g1;exact hn (h.2.1 k hk))];rfl
 rw[aK g1,bx];by_cases g2:∃k,k<p.aT.length∧¬(0<=gt p.aT k∧gt p.aT k<=(gt b.ay k).e_)
 ·rw[aI g2,aK (λh:wb b p=>by obtain⟨k,hk,hn⟩:=g2;exact hn (h.2.2 k hk).1)];rfl
 rw[aK g2,bx];by_cases g3:p.aP.length<=32
 case neg=>rw[dT (c:=len p.aP>32) (by unfold len;omega),aK (λh:wb b p=>g3 h.1.2)];rfl
 rw[dF (c:=len p.aP>32) (by unfold len;omega)];simp only[aC,aB];by_cases g4:∃k,k<p.aP.length∧¬oX b p.aP k
 ·rw[aI g4,aK (λh:wb b p=>by obtain⟨k,hk,hn⟩:=g4;exact hn (h.1.1 k hk))];rfl
 rw[aK g4,bx];by_cases g5:∃k,k<b.ay.length∧¬eZ b p (k:Int) b.ah.length<=1
 ·rw[aI g5,aK (λh:wb b p=>by obtain⟨k,hk,hn⟩:=g5;exact hn (h.2.2 k (by omega)).2)];rfl
 rw[aK g5,bx,aI (show wb b p from⟨⟨λk hk=>gD λh=>g4 ⟨k,hk,h⟩,g3⟩,λk hk=>gD λh=>g1 ⟨k,hk,h⟩,λk hk=>⟨gD λh=>g2 ⟨k,hk,h⟩,gD λh=>g5 ⟨k,by omega,h⟩⟩⟩)]
end Rx
namespace Rx
open Classical
def mF(b:au)(p:aw)(m:List Bool)(k:Nat):List Bool:=
 if(gt b.ah k).Kind=1∧gt p.aE k=ab∧(gt m (gt b.ah k).A.toNat=ab∨gt m (gt b.ah k).B.toNat=ab)then(m.set (gt b.ah k).A.toNat ab).set (gt b.ah k).B.toNat ab else m
def oB(b:au)(p:aw)(m:List Bool):Nat->List Bool
 |0=>m
 |k+1=>mF b p (oB b p m k) k
def tQ(b:au)(p:aw)(m:List Bool):Nat->List Bool
 |0=>m
 |r+1=>oB b p (tQ b p m r) b.ah.length
def asm(b:au)(p:aw)(m:List Bool)(k:Nat):(mF b p m k).length=m.length:=by unfold mF;split<;>simp
def Ho(b:au)(p:aw)(m:List Bool)(k:Nat):(oB b p m k).length=m.length:=by
 induction k with
 |zero=>rfl
 |succ k ih=>unfold oB;rw[asm,ih]
def MP(b:au)(p:aw)(m:List Bool)(r:Nat):(tQ b p m r).length=m.length:=by
 induction r with
 |zero=>rfl
 |succ r ih=>unfold tQ;rw[Ho,ih]
section
variable {b:au} {p:aw}
def Tu(hb:cI b){m:List Bool}(hm:m.length=b.aA.toNat){k:Nat}(hk:k<b.ah.length)(i:Nat):gt (mF b p m k) i=if(gt b.ah k).Kind=1∧gt p.aE k=ab∧(gt m (gt b.ah k).A.toNat=ab∨gt m (gt b.ah k).B.toNat=ab)∧(i=(gt b.ah k).A.toNat∨i=(gt b.ah k).B.toNat)then ab else gt m i:=by
 unfold mF;by_cases h:(gt b.ah k).Kind=1∧gt p.aE k=ab∧(gt m (gt b.ah k).A.toNat=ab∨gt m (gt b.ah k).B.toNat=ab)
 ·obtain⟨e1,e2,_,_⟩:=zT hb hk h.1;rw[aI h,gV (by simp;omega),gV (by omega)];by_cases hi:i=(gt b.ah k).B.toNat
  ·rw[aI hi,aI ⟨h.1,h.2.1,h.2.2,.inr hi⟩]
  ·rw[aK hi];by_cases eb:i=(gt b.ah k).A.toNat
   ·rw[aI eb,aI ⟨h.1,h.2.1,h.2.2,.inl eb⟩]
   ·rw[aK eb,aK (λhh=>hh.2.2.2.elim eb hi)]
 ·rw[aK h,aK (λhh=>h ⟨hh.1,hh.2.1,hh.2.2.1⟩)]
def asl(hb:cI b){m:List Bool}(hm:m.length=b.aA.toNat){k:Nat}(hk:k<b.ah.length){i:Nat}(h:gt m i=ab):gt (mF b p m k) i=ab:=by
 rw[Tu hb hm hk];split
 ·rfl
 ·exact h
def MN(hb:cI b){m:List Bool}(hm:m.length=b.aA.toNat){i:Nat}(k:Nat):∀d,k+d<=b.ah.length->gt (oB b p m k) i=ab->gt (oB b p m (k+d)) i=ab
 |0,_,h=>h
 |d+1,hd,h=>asl hb (by rw[Ho,hm]) (show k+d<b.ah.length by omega) (MN hb hm k d (by omega) h)
def asn(hb:cI b){m:List Bool}(hm:m.length=b.aA.toNat){i j:Nat}(h:gt m i=ab)(ht:j9 b p i j):gt (oB b p m b.ah.length) j=ab:=by
 obtain⟨k,hk,h1,h2,h3⟩:=ht;have e:=zT hb hk h1;have hi:=MN (p:=p) hb hm 0 k (by omega) h;rw[ke]at hi;have hj:gt (oB b p m (k+1)) j=ab:=by
  show gt (mF b p (oB b p m k) k) j=ab;rw[Tu hb (by rw[Ho,hm]) hk,aI];refine⟨h1,h2,?_,?_⟩
  ·rcases h3 with h3|h3
   ·exact .inl (by rw[show(gt b.ah k).A.toNat=i from by omega];exact hi)
   ·exact .inr (by rw[show(gt b.ah k).B.toNat=i from by omega];exact hi)
  ·omega
 have:=MN hb hm (k+1) (b.ah.length-(k+1)) (by omega) hj;rwa[show k+1+(b.ah.length-(k+1))=b.ah.length from by omega]at this
def acA(hb:cI b){m:List Bool}(hm:m.length=b.aA.toNat){s:Nat}(h:∀i,gt m i=ab->ju (j9 b p) s i):∀k,k<=b.ah.length->∀i,gt (oB b p m k) i=ab->ju (j9 b p) s i
 |0,_,i,hi=>h i hi
 |k+1,hk,i,hi=>by
  have ih:=acA hb hm h k (by omega);have et:gt (mF b p (oB b p m k) k) i=ab:=hi;rw[Tu hb (by rw[Ho,hm]) (by omega)]at et;split at et
  ·rename_i hc;obtain⟨h1,h2,h3,h4⟩:=hc;have e:=zT hb (show k<b.ah.length by omega) h1;have ht:j9 b p (gt b.ah k).A.toNat (gt b.ah k).B.toNat:=⟨k,by omega,h1,h2,.inl ⟨e.2.2.1,e.2.2.2⟩⟩;rcases h3 with h3|h3
   ·have c:=ih _ h3;rcases h4 with rfl|rfl
    ·exact c
    ·exact c.trans (.one ht)
   ·have c:=ih _ h3;rcases h4 with rfl|rfl
    ·exact c.trans (.one ht.symm)
    ·exact c
  ·exact ih i et
def acC(hb:cI b){m:List Bool}(hm:m.length=b.aA.toNat){s:Nat}(h:∀i,gt m i=ab->ju (j9 b p) s i):∀r i,gt (tQ b p m r) i=ab->ju (j9 b p) s i
 |0,i,hi=>h i hi
 |r+1,i,hi=>acA hb (by rw[MP,hm]) (acC hb hm h r) _ (bw _) i hi
def Tv(hb:cI b){m:List Bool}(hm:m.length=b.aA.toNat){s:Nat}(h:gt m s=ab):∀r j,iw (j9 b p) r s j->gt (tQ b p m r) j=ab
 |0,j,w=>by rw[<-w.zero];exact h
 |r+1,j,w=>by
  have hl:(tQ b p m r).length=b.aA.toNat:=by rw[MP,hm]
  rcases w.last with h1|⟨i,h1,h2⟩
  ·have:=MN (p:=p) hb hl 0 b.ah.length (by omega) (Tv hb hm h r j h1);rw[ke]at this;exact this
  ·exact asn hb hl (Tv hb hm h r i h1) h2
def lZ(n s:Nat):List Bool:=(cR n ae).set s ab
def asf(hb:cI b){s:Nat}(hs:s<b.aA.toNat){j:Nat}:gt (tQ b p (lZ b.aA.toNat s) b.aA.toNat) j=ab↔ju (j9 b p) s j:=by
 have hm:(lZ b.aA.toNat s).length=b.aA.toNat:=by simp[lZ]
 have h0:gt (lZ b.aA.toNat s) s=ab:=by unfold lZ;rw[gV (by simpa using hs),aI rfl]
 constructor
 ·refine acC hb hm (λi hi=>?_) _ j;unfold lZ at hi;rw[gV (by simpa using hs)]at hi;by_cases his:i=s
  ·subst his;exact .refl _
  ·rw[aK his]at hi;by_cases nj:i<b.aA.toNat
   ·rw[BB nj]at hi;cases hi
   ·unfold gt at hi;simp[List.getD_eq_getElem?_getD,nj]at hi
 ·intro h;have hw:=(h.walk (n:=b.aA.toNat) (λi j h=>(h.lt hb).2) hs).more (r':=b.aA.toNat) (by omega);exact Tv hb hm h0 _ _ hw
def aqZ{P Q:Nat->Bool}{n:Nat}(h:∀i,i<n->P i=Q i):bG P n=bG Q n:=by unfold bG;rw[List.filter_congr λx hx=>h x (ew.1 hx)]
def aqp(hb:cI b)(hs:Sm b.ah)(hc:p.aE.length=b.ah.length){m:List Bool}(hm:(m.length:Int)=b.aA):aG (IK b p) ((0:Int),m)=aa (oB b p m b.ah.length):=by
 refine dR (step:=IK b p) (λk=>((k:Int),oB b p m k)) b.ah.length (λk hk=>?_) (by simp only[IK,bC,aC,aB]);have jB:=hb.1 k hk;have hl:=Ho b p m k;have auj:oB b p m (k+1)=mF b p (oB b p m k) k:=rfl;simp only[IK,aZ hk,aH,aM hk,aM (show k<p.aE.length by omega),al,aY (eT hs hk),auj];generalize oB b p m k=q at hl⊢;by_cases h1:(gt b.ah k).Kind=1
 case neg=>
  have e0:mF b p q k=q:=by unfold mF;rw[aK (λh=>h1 h.1)]
  simp only[dL h1,e0,aC,aB,al]
 cases h2:gt p.aE k with
 |false=>
  have e0:mF b p q k=q:=by unfold mF;rw[aK (λh=>by rw[h2]at h;exact absurd h.2.1 (by simp))]
  simp only[gu h1,e0,aH,aC,aB,al]
 |true=>
  have e:=zT hb hk h1;have iA:∀x:List Bool,x.length=q.length->idx x (gt b.ah k).A=aa (gt x (gt b.ah k).A.toNat):=λx hx=>iI (by omega) (by omega);have iB:∀x:List Bool,x.length=q.length->idx x (gt b.ah k).B=aa (gt x (gt b.ah k).B.toNat):=λx hx=>iI (by omega) (by omega);have sA:∀x:List Bool,x.length=q.length->dq x (gt b.ah k).A ab=aa (x.set (gt b.ah k).A.toNat ab):=λx hx=>Dl (by omega) (by omega);have sB:∀x:List Bool,x.length=q.length->dq x (gt b.ah k).B ab=aa (x.set (gt b.ah k).B.toNat ab):=λx hx=>Dl (by omega) (by omega);simp only[gu h1,aH,al,iA q rfl,iB q rfl,sA q rfl,iB (q.set (gt b.ah k).A.toNat ab) (by simp),sB (q.set (gt b.ah k).A.toNat ab) (by simp)];cases h3:gt q (gt b.ah k).A.toNat with
  |true=>
   have e0:mF b p q k=(q.set (gt b.ah k).A.toNat ab).set (gt b.ah k).B.toNat ab:=by unfold mF;rw[aI ⟨h1,h2,.inl h3⟩]
   simp only[aH,al,e0]
  |false=>
   cases h4:gt q (gt b.ah k).B.toNat with
   |true=>
    have e0:mF b p q k=(q.set (gt b.ah k).A.toNat ab).set (gt b.ah k).B.toNat ab:=by unfold mF;rw[aI ⟨h1,h2,.inr h4⟩]
    simp only[aH,aC,aB,al,e0]
   |false=>
    have e0:mF b p q k=q:=by unfold mF;rw[aK (λh=>by rcases h.2.2 with h|h<;>simp[h3,h4]at h)]
    simp only[aC,aB,al,e0]
def aqq(hl:gy b)(hb:cI b)(hs:Sm b.ah)(hc:p.aE.length=b.ah.length){k:Int}(h0:0<=k)(h1:k<b.aA):Oi b p k=aa (eP b p k).aA:=by
 have pM:=hl.jp;obtain⟨n,hn⟩:=nF (show 0<=b.aA by omega);obtain⟨s,hk⟩:=nF h0;subst hk;have Us:s<n:=by omega
 have Bc:b.aA.toNat=n:=by omega
 have xd:(lZ n s).length=n:=by simp[lZ]
 have b6:(cR n ae).set s ab=lZ n s:=rfl;have l1:aG (IL b p (lZ n s)) ((0:Int),lZ n s)=aa (tQ b p (lZ n s) n):=by
  refine dR (step:=IL b p (lZ n s)) (λk=>((k:Int),tQ b p (lZ n s) k)) n (λk hk=>?_) ?_
  ·have e1:ak ((k:Int)<len (lZ n s))=ab:=dT (by unfold len;omega);have l_:=MP b p (lZ n s) k;simp only[IL,e1,aH,aqp hb hs hc (m:=tQ b p (lZ n s) k) (by omega),al,aY (show k<1000000000000000000 by omega)];rfl
  ·have e1:ak ((n:Int)<len (lZ n s))=ae:=dF (by unfold len;omega);simp only[IL,e1,aC,aB]
 have l3:∀m:List Bool,m.length=n->aG (IJ m) ((0:Int),[])=aa (bG (λj=>gt m j) n):=by
  intro m hm;refine dR (step:=IJ m) (λk=>((k:Int),bG (λj=>gt m j) k)) n (λk hk=>?_) ?_
  ·have l_:=oz (λj=>gt m j) k;have xo:bD (bG (λj=>gt m j) k) [(k:Int)]=aa (bG (λj=>gt m j) k++[(k:Int)]):=cJ (by simp;omega);simp only[IJ,aZ (show k<m.length by omega),aH,aM (show k<m.length by omega),al,py,xo,aY (show k<1000000000000000000 by omega)];cases gt m k<;>simp
  ·have e1:ak ((n:Int)<len m)=ae:=dF (by unfold len;omega);simp only[IJ,e1,aC,aB]
 unfold Oi;rw[hn,yw (by omega)];have l_:(cR n ae).length=n:=by simp
 have hmr:=MP b p (lZ n s) n;rw[xd]at hmr;simp only[al,QH,aM (show s<(cR n ae).length by omega),jK (show s<(cR n ae).length by omega),b6,l1,l3 _ hmr];have Nz:=BC (p:=p) hb (show s<b.aA.toNat by omega);show aa _=aa (bG (iZ b p (gt (cB b p) ((s:Int)).toNat).toNat) b.aA.toNat);rw[Bc,iQ];congr 1;refine aqZ λi hi=>?_;have h4:=asf (p:=p) hb (s:=s) (j:=i) (by omega);have h5:=afd (p:=p) hb (i:=i) (j:=s) (by omega) (by omega);rw[Bc]at h4;have hsy:∀i j,j9 b p i j->j9 b p j i:=λ_ _ h=>h.symm;have h6:gt (tQ b p (lZ n s) n) i=ab↔iZ b p (gt (cB b p) s).toNat i=ab:=by rw[h4];unfold iZ;rw[sf,show(((gt (cB b p) s).toNat:Nat):Int)=gt (cB b p) s from by omega,h5];exact⟨λh=>h.symm hsy,λh=>h.symm hsy⟩
 exact Bool.eq_iff_iff.2 h6
end
end Rx
namespace Rx
open Classical
def asI{α:Type}[ad α](l:List α):(bW l.length).map (gt l)=l:=by
 apply jZ
 ·simp
 ·intro k hk;have da:k<l.length:=by simpa using hk
  rw[lK _ da]
def ayp{α:Type}[ad α](l:List α)(P:α->Bool):l.find? P=((bW l.length).find? λq=>P (gt l q)).map (gt l):=by have h:=iF (List.find? P) (asI l);rw[List.find?_map]at h;exact h.symm
def ayo(F:Nat->Bool)(P:Int->Bool)(n:Nat):(bG F n).find? P=((bW n).find? λk=>F k&&P (k:Int)).map Int.ofNat:=by unfold bG;rw[List.find?_map,List.find?_filter];congr 2;funext k;simp
def SX{P:Nat->Bool}{m:Nat}(hP:P m=ab)(yP:∀i,i<m->P i=ae):∀n,m<n->0<(bG P n).length∧gt (bG P n) 0=(m:Int)
 |0,h=>by omega
 |n+1,h=>by
  rw[py];by_cases UQ:m<n
  ·obtain⟨h1,h2⟩:=SX hP yP n UQ;exact⟨by simp;omega,by rw[NW h1];exact h2⟩
  ·have:m=n:=by omega
   subst this;have h0:bG P m=[]:=List.length_eq_zero_iff.1 (Hh.2 yP);rw[h0,aI hP];exact⟨by simp,rfl⟩
section
variable {b:au} {p:aw}
def afc(hb:cI b){k:Nat}(hk:k<b.aA.toNat):∃m:Nat,gt (cB b p) k=(m:Int)∧m<=k∧gt (cB b p) m=(m:Int):=by obtain⟨m,h1,h2,h3⟩:=NY (p:=p) hb hk;have vG:m<=k:=h3 k (.refl _);refine⟨m,h1,vG,?_⟩;rw[<-h1];exact((afd (p:=p) hb hk (by omega)).2 h2).symm
def atj(hb:cI b){k:Nat}(hk:k<b.aA.toNat):0<(eP b p (k:Int)).aA.length∧gt (eP b p (k:Int)).aA 0=gt (cB b p) k:=by
 obtain⟨m,h1,h2,h3⟩:=afc (p:=p) hb hk;have he:eP b p (k:Int)=dZ b p m:=by unfold eP;rw[iQ,h1,iQ]
 rw[he,h1];refine SX (P:=iZ b p m) (by unfold iZ;rw[h3];simp) (λi hi=>?_) _ (by omega);unfold iZ;have:=(BC (p:=p) hb (show i<b.aA.toNat by omega)).2;exact dL (by omega)
def ath(hb:cI b){k:Nat}(hk:k<b.aA.toNat):(dZ b p k).aA.isEmpty=ae↔gt (cB b p) k=(k:Int):=by
 constructor
 ·intro h;cases hl:(dZ b p k).aA with
  |nil=>rw[hl]at h;cases h
  |cons x l=>
   obtain⟨i,h1,h2,h3⟩:=Hn.1 (show x∈(dZ b p k).aA by rw[hl];exact List.mem_cons_self);obtain⟨m,e1,e2,e3⟩:=afc (p:=p) hb h1;have:m=k:=by omega
   subst this;exact e3
 ·intro h;cases hl:(dZ b p k).aA with
  |nil=>have:=Hn (f:=k) (x:=(k:Int))|>.2 ⟨k,hk,h,rfl⟩;rw[hl]at this;cases this
  |cons _ _=>rfl
def atn:bq b p=((bW b.aA.toNat).filter λf=> !(dZ b p f).aA.isEmpty).map (dZ b p):=by unfold bq ek;rw[List.filter_map];rfl
def aql(hb:fw b)(hp:dA p)(j:Int):Ot b p j=aa (O0 b p j):=by
 unfold Ot O0;rw[Hb hb hp];by_cases h:bo b p=0
 case neg=>
  have:(bo b p !=0)=ab:=by simpa using h
  simp only[al,this,aH,aK h]
 obtain⟨⟨hl,hg⟩,⟨s1,s2,s3⟩,_⟩:=fi.1 h;have mG:=hl.src;have h0:(bo b p !=0)=ae:=by simp[h]
 simp only[al,h0,aC,aB,aI h];unfold conn;by_cases h1:j<0
 ·have nQ:¬(0<=j∧j<=(p.aj.length:Int)-1):=by omega
  rw[dT h1,aK nQ];rfl
 rw[dF h1];by_cases h2:j>=(b.aj.length:Int)
 ·have nQ:¬(0<=j∧j<=(p.aj.length:Int)-1):=by omega
  rw[dT (c:=j>=len b.aj) h2,aK nQ];rfl
 have HF:0<=j∧j<=(p.aj.length:Int)-1:=by omega
 rw[dF (c:=j>=len b.aj) h2,aI HF];obtain⟨i,rfl⟩:=nF (show 0<=j by omega);simp only[QH,iQ,aC,aB];rw[aM (show i<p.aj.length by omega)];simp only[al];by_cases h3:(gt p.aj i).State=2
 case neg=>rw[aK h3,XX h3];rfl
 rw[aI h3,B4 h3];simp only[aC,aB,yk hb.1,al];have hlen:=(Hc.1 hg.1).2.1 i (by omega);obtain⟨⟨k,hk,pJ⟩,hu⟩:=Me.1 hlen;have Un:∀q,q<b.ah.length->eG b 2 (i:Int) q=ab->q=k:=λq hq ma=>by
  rcases Nat.lt_trichotomy q k with aS|he|aS
  ·exact(hu q k aS hk ma pJ).elim
  ·exact he
  ·exact(hu k q aS hq pJ ma).elim
 have hd:=SX (P:=eG b 2 (i:Int)) pJ (λq hq=>by
  cases ma:eG b 2 (i:Int) q with
  |false=>rfl
  |true=>have:=Un q (by omega) ma;omega) b.ah.length hk
 have e0:idx (bG (eG b 2 (i:Int)) b.ah.length) 0=aa (k:Int):=by have:=aM hd.1;rw[hd.2]at this;exact this
 rw[e0];simp only[al,aM (show k<p.aE.length by omega),aM hk];have Bi:∀q,m9 b p 2 (i:Int) q=(eG b 2 (i:Int) q&&gt p.aE q):=λq=>by unfold m9 eG;simp
 unfold gn;cases hc:gt p.aE k with
 |false=>
  rw[afu (λq hq=>by
   rw[Bi];cases ma:eG b 2 (i:Int) q with
   |false=>rfl
   |true=>rw[Un q hq ma,hc];rfl)]
  rfl
 |true=>
  cases hf:(bW b.ah.length).find? (m9 b p 2 (i:Int))with
  |none=>have:=sh.1 hf k (ew.2 hk);rw[Bi,pJ,hc]at this;simp at this
  |some q=>have hq:=ew.1 (uJ hf);have ma:=zE hf;rw[Bi,bt]at ma;rw[Un q hq ma.1];rfl
def aqj(hb:fw b)(hp:dA p){j:Int}(hj:0<=j∧j<b.ay.length):Oo b p j=aa (vS b p j):=by
 unfold Oo vS;rw[Hb hb hp];by_cases h:bo b p=0
 case neg=>
  have:(bo b p !=0)=ab:=by simpa using h
  simp only[al,this,aH,aK h]
 obtain⟨⟨hl,hg⟩,⟨s1,s2,s3⟩,_⟩:=fi.1 h;have nV:=hl.di;have h0:(bo b p !=0)=ae:=by simp[h]
 simp only[al,h0,aC,aB,aI h];rw[dF (c:=j<0) (by omega),dF (c:=j>=len b.ay) (by unfold len;omega)];simp only[aC,aB,yk hb.1,al];have au9:(bG (eG b 3 j) b.ah.length).length<=b.ah.length:=oz _ _;have xh:∀q,q<(bG (eG b 3 j) b.ah.length).length->∃i:Nat,gt (bG (eG b 3 j) b.ah.length) q=(i:Int)∧i<b.ah.length:=λq hq=>by obtain⟨i,hi,_,e⟩:=yz.1 (cX hq);exact⟨i,e,hi⟩
 have vL:=ayp (bG (eG b 3 j) b.ah.length) (λx=>gt p.aE x.toNat);rw[ayo]at vL;generalize bG (eG b 3 j) b.ah.length=l at au9 xh vL⊢;have h1:=vw (step:=EP b p l) (λq=>(q:Int)) l.length (λq=>gt p.aE (gt l q).toNat) (R:=λq=> .inr ((gt b.ah (gt l q).toNat).A,ab)) (e:= .inl ())
  (λq hq ma=>by obtain⟨i,e,hi⟩:=xh q hq;rw[e,iQ]at ma;simp only[EP,aZ hq,aH,aM hq,e,aM (show i<p.aE.length by omega),al,ma,aC,aB,aY (show q<1000000000000000000 by omega)])
  (λq hq ma=>by obtain⟨i,e,hi⟩:=xh q hq;rw[e,iQ]at ma;simp only[EP,aZ hq,aH,aM hq,e,iQ,aM (show i<p.aE.length by omega),aM hi,al,ma])
  (by simp only[EP,bC,aC,aB])
 have np:aG (EP b p l) 0=_:=h1;rw[np];have Bi:m9 b p 3 j=λk=>eG b 3 j k&&gt p.aE ((k:Int)).toNat:=by funext q;unfold m9 eG;simp
 unfold gn;rw[Bi];cases hf:(bW l.length).find? (λq=>gt p.aE (gt l q).toNat)with
 |none=>
  rw[hf]at vL;have:(bW b.ah.length).find? (λk=>eG b 3 j k&&gt p.aE ((k:Int)).toNat)=none:=by
   cases hx:(bW b.ah.length).find? (λk=>eG b 3 j k&&gt p.aE ((k:Int)).toNat)with
   |none=>rfl
   |some k=>rw[hx]at vL;cases vL
  rw[this];rfl
 |some q=>
  rw[hf]at vL;cases hx:(bW b.ah.length).find? (λk=>eG b 3 j k&&gt p.aE ((k:Int)).toNat)with
  |none=>rw[hx]at vL;cases vL
  |some k=>rw[hx]at vL;have e:(k:Int)=gt l q:=kb vL;simp only[al,bE];rw[<-e,iQ]
def abw{k:Int}(hb:cI b)(hl:gy b)(h0:0<=k)(h1:k<b.aA){a:Int}(ha:0<=a∧a<b.aA):ER (eP b p k).aA a=aa (gt (cB b p) a.toNat==(((gt (cB b p) k.toNat).toNat:Nat):Int)):=by
 have pM:=hl.jp;have lH:=(DZ (b:=b) (p:=p) (gt (cB b p) k.toNat).toNat).1;rw[has_eq (show Sm (eP b p k).aA by unfold Sm;show(dZ b p _).aA.length<=_;omega)];congr 1;rw[Bool.eq_iff_iff,YX,sf];show a∈(dZ b p (gt (cB b p) k.toNat).toNat).aA↔_;rw[Hn];constructor
 ·rintro⟨i,_,h,rfl⟩;rw[iQ];exact h
 ·intro h;exact⟨a.toNat,by omega,h,by omega⟩
def My(b:au)(p:aw)(k:Int):Bool×List Int×List Int×List Int:=((fV b p k).2,(fV b p k).1.aA,(fV b p k).1.aj,(fV b p k).1.ay)
def aqe(hb:fw b)(hp:dA p)(k:Int):Om b p k=aa (My b p k):=by
 unfold Om My fV;rw[Hb hb hp];by_cases h:bo b p=0
 case neg=>
  have:(bo b p !=0)=ab:=by simpa using h
  simp only[al,this,aH,aK (λhh:bo b p=0∧_=>h hh.1)]
 obtain⟨⟨hl,hg⟩,⟨s1,s2,s3⟩,_⟩:=fi.1 h;have mG:=hl.src;have Em:=hl.iY;have h0:(bo b p !=0)=ae:=by simp[h]
 simp only[al,h0,aC,aB];by_cases h1:k<0
 ·have nQ:¬(bo b p=0∧0<=k∧k<b.aA):=by omega
  rw[dT h1,aK nQ];rfl
 rw[dF h1];by_cases h2:k>=b.aA
 ·have nQ:¬(bo b p=0∧0<=k∧k<b.aA):=by omega
  rw[dT h2,aK nQ];rfl
 have HF:bo b p=0∧0<=k∧k<b.aA:=⟨h,by omega,by omega⟩;rw[dF h2,aI HF];simp only[aC,aB];rw[aqq hl hg.1 hb.1 s1 (by omega) (by omega)];simp only[al];have l1:aG (IP b p (eP b p k).aA) ((0:Int),[])=aa (eP b p k).aj:=by
  refine dR (step:=IP b p (eP b p k).aA) (λi=>((i:Int),bG (ik b p (gt (cB b p) k.toNat).toNat) i)) b.aj.length (λi hi=>?_) (by simp only[IP,bC,aC,aB];rfl);have l_:=oz (ik b p (gt (cB b p) k.toNat).toNat) i;have xo:bD (bG (ik b p (gt (cB b p) k.toNat).toNat) i) [(i:Int)]=aa (bG (ik b p (gt (cB b p) k.toNat).toNat) i++[(i:Int)]):=cJ (by simp;omega);have ec:O0 b p (i:Int)=conn b p (i:Int):=by unfold O0;rw[aI h]
  simp only[IP,aZ hi,aH,aql hb hp,ec,al,py,xo,aY (show i<1000000000000000000 by omega)];cases hc:(conn b p (i:Int)).2 with
  |false=>
   have:ik b p (gt (cB b p) k.toNat).toNat i=ae:=by unfold ik;rw[hc];rfl
   simp[this]
  |true=>
   have sS:=WO hg.1 hc;have:ik b p (gt (cB b p) k.toNat).toNat i=(gt (cB b p) (conn b p (i:Int)).1.toNat==(((gt (cB b p) k.toNat).toNat:Nat):Int)):=by unfold ik;rw[hc];rfl
   simp only[aH,abw hg.1 hl (show 0<=k by omega) (show k<b.aA by omega) sS,al,this];cases(gt (cB b p) (conn b p (i:Int)).1.toNat==(((gt (cB b p) k.toNat).toNat:Nat):Int))<;>simp
 have l2:aG (IN b p (eP b p k).aA) ((0:Int),[])=aa (eP b p k).ay:=by
  refine dR (step:=IN b p (eP b p k).aA) (λi=>((i:Int),bG (iu b p (gt (cB b p) k.toNat).toNat) i)) b.ay.length (λi hi=>?_) (by simp only[IN,bC,aC,aB];rfl);have l_:=oz (iu b p (gt (cB b p) k.toNat).toNat) i;have xo:bD (bG (iu b p (gt (cB b p) k.toNat).toNat) i) [(i:Int)]=aa (bG (iu b p (gt (cB b p) k.toNat).toNat) i++[(i:Int)]):=cJ (by simp;omega);have ec:vS b p (i:Int)=gn b p 3 (i:Int):=by unfold vS;rw[aI h]
  simp only[IN,aZ hi,aH,aqj hb hp (j:=(i:Int)) ⟨by omega,by omega⟩,ec,al,py,xo,aY (show i<1000000000000000000 by omega)];cases hc:(gn b p 3 (i:Int)).2 with
  |false=>
   have:iu b p (gt (cB b p) k.toNat).toNat i=ae:=by unfold iu;rw[hc];rfl
   simp[this]
  |true=>
   have sS:=TP hg.1 hc;have:iu b p (gt (cB b p) k.toNat).toNat i=(gt (cB b p) (gn b p 3 (i:Int)).1.toNat==(((gt (cB b p) k.toNat).toNat:Nat):Int)):=by unfold iu;rw[hc];rfl
   simp only[aH,abw hg.1 hl (show 0<=k by omega) (show k<b.aA by omega) sS,al,this];cases(gt (cB b p) (gn b p 3 (i:Int)).1.toNat==(((gt (cB b p) k.toNat).toNat:Nat):Int))<;>simp
 rw[l1,l2];rfl
def aqf(hb:fw b)(hp:dA p)(h:bo b p=0):On b p=aa (bq b p):=by
 obtain⟨⟨hl,hg⟩,⟨s1,s2,s3⟩,_⟩:=fi.1 h;have pM:=hl.jp;obtain⟨n,hn⟩:=nF (show 0<=b.aA by omega);have Bc:b.aA.toNat=n:=by omega
 unfold On;rw[Hb hb hp,h];simp only[al,kG,aC,aB];have l1:aG (IQ b p) ((0:Int),[])=aa (((bW n).filter λf=> !(dZ b p f).aA.isEmpty).map (dZ b p)):=by
  refine dR (step:=IQ b p) (λk=>((k:Int),((bW k).filter λf=> !(dZ b p f).aA.isEmpty).map (dZ b p))) n (λk hk=>?_) ?_
  ·have e1:ak ((k:Int)<b.aA)=ab:=dT (by omega);have hof:My b p (k:Int)=(ab,(eP b p (k:Int)).aA,(eP b p (k:Int)).aj,(eP b p (k:Int)).ay):=by unfold My fV;rw[aI ⟨h,by omega,by omega⟩]
   obtain⟨yV,uj⟩:=atj (p:=p) hg.1 (show k<b.aA.toNat by omega);have e2:idx (eP b p (k:Int)).aA 0=aa (gt (cB b p) k):=by have:=aM yV;rw[uj]at this;exact this
   have hlen:(((bW k).filter λf=> !(dZ b p f).aA.isEmpty).map (dZ b p)).length<=k:=by rw[pZ];refine lR (zD _ _) ?_;simp
   have xo:∀x:bz,bD (((bW k).filter λf=> !(dZ b p f).aA.isEmpty).map (dZ b p)) [x]=aa ((((bW k).filter λf=> !(dZ b p f).aA.isEmpty).map (dZ b p))++[x]):=λx=>cJ (by simp only[List.length_singleton];omega);simp only[IQ,e1,aH,aqe hb hp,hof,al,e2,xo,aY (show k<1000000000000000000 by omega),List.range_succ,uL,mS];have adW:=ath (p:=p) hg.1 (show k<b.aA.toNat by omega);by_cases hr:gt (cB b p) k=(k:Int)
   ·have e3:eP b p (k:Int)=dZ b p k:=by unfold eP;rw[iQ,hr,iQ]
    have e4:([k].filter λf=> !(dZ b p f).aA.isEmpty)=[k]:=by simp[List.filter_cons,adW.2 hr]
    rw[gu hr,e4,e3];rfl
   ·have e5:(dZ b p k).aA.isEmpty=ab:=by
     cases hx:(dZ b p k).aA.isEmpty with
     |true=>rfl
     |false=>exact(hr (adW.1 hx)).elim
    have e4:([k].filter λf=> !(dZ b p f).aA.isEmpty)=[]:=by simp[List.filter_cons,e5]
    rw[dL hr,e4];simp
  ·have e1:ak ((n:Int)<b.aA)=ae:=dF (by omega);simp only[IQ,e1,aC,aB]
 rw[l1,atn,Bc];rfl
