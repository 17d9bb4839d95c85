import Derived.Test.YtgaghlbepnjhiaaGreatMc
set_option linter.all false
open Bool renaming false->ae,false_eq_true->aC,not_true->dP,true->ab
open Classical renaming byContradiction->gD,not_not->si
open Decidable renaming decide->ak
open Int renaming le_refl->oi,mul_le_mul->F7,mul_nonneg->QI
open List renaming getD_eq_getElem?_getD->uK,length_append->cW,length_cons->jd,length_singleton->xJ,mem_append->bg,mem_singleton->cY,pairwise_iff_getElem->Ck
open Nat renaming le_refl->bw
open Option renaming bind_none->YY,bind_some->al,some->aa
noncomputable section
namespace Go.Proofs.YtgaghlbepnjhiaaGreat
open Go Go.RowKit Dp
namespace Rx
open Classical
section
variable {b:au} {p:aw}
end
end Rx
namespace Rx
open Classical
section
variable {b:au} {p:aw}
def bk(b:au)(j:Nat):Nat:=if h:∃k,k<b.ah.length∧oF (gt b.ah k) j∧∀i,i<b.ah.length->oF (gt b.ah i) j->i=k then h.choose else 0
def ny(b:au)(q:aw):Prop:=dA q∧bo b q=0
def amV(v:ny b p){S:List bu}(hl:S.length=p.aj.length)(hr:∀k,k<S.length->gY (gt S k)):ny b ⟨p.aE,S,p.aT,p.aP⟩:=⟨⟨v.1.1,by have:=v.1.2.1;unfold Sm at*;simp only;omega,v.1.2.2.1,v.1.2.2.2⟩,aaC v.2 rfl hl rfl rfl hr⟩
def aai(v:ny b p){j:Nat}(hj:j<p.aj.length){x:bu}(hx:gY x):ny b ⟨p.aE,p.aj.set j x,p.aT,p.aP⟩:=by
 refine amV v (by simp) λk hk=>?_;rw[gV hj];split
 ·exact hx
 ·exact(fi.1 v.2).2.2.2.1 k (by simpa using hk)
def amW(v:ny b p){j:Nat}(hj:j<p.aj.length):gY (gt p.aj j):=(fi.1 v.2).2.2.2.1 j hj
abbrev WR:=Int×Int×List cL×List Source×List Consumer×Int×Int×Int×List Bool×List bu×List Int×List Part
def uV(r:WR):aw:=⟨r.2.2.2.2.2.2.2.2.1,r.2.2.2.2.2.2.2.2.2.1,r.2.2.2.2.2.2.2.2.2.2.1,r.2.2.2.2.2.2.2.2.2.2.2⟩
def qY(b:au)(x:Part):Prop:=0<=x.Number∧x.Number<=bsize b x.Kind-1
def abY(hl:gy b){x:Part}(h:qY b x):(1<=x.Kind∧x.Kind<=4)∧0<=x.Number∧x.Number<=24:=by have h1:=hl.src;have h2:=hl.di;have h3:=hl.iY;have h4:=hl.jp;obtain⟨h5,h6⟩:=h;unfold bsize at h6;repeat' split at h6;all_goals omega
def PQ{x y z:Part}(h:before x y)(h':before y z):before x z:=by unfold before at*;omega
def akt{l:List Part}:(∀k,k<l.length->oX b l k)↔(∀x∈l,qY b x)∧l.Pairwise before:=by
 constructor
 ·intro h;refine⟨λx hx=>?_,Ck.2 λi j hi hj iC=>?_⟩
  ·obtain⟨k,hk,rfl⟩:=lC hx;exact(h k hk).1
  ·rw[<-fQ hi,<-fQ hj];have key:∀m,i+1+m<l.length->before (gt l i) (gt l (i+1+m)):=λm=>by
    induction m with
    |zero=>exactλhm=>(h (i+1) hm).2 (by omega)
    |succ m ih=>exactλhm=>PQ (ih (by omega)) ((h (i+1+(m+1)) hm).2 (by omega))
   have:=key (j-i-1) (by omega);rwa[show i+1+(j-i-1)=j by omega]at this
 ·rintro⟨h1,h2⟩ k hk;refine⟨h1 _ (cX hk),λh0=>?_⟩;have:=Ck.1 h2 (k-1) k (by omega) hk (by omega);rwa[<-fQ,<-fQ]at this
def abN{x y:Part}(hx:(1<=x.Kind∧x.Kind<=4)∧0<=x.Number∧x.Number<=24)(hy:(1<=y.Kind∧y.Kind<=4)∧0<=y.Number∧y.Number<=24):∃c:Int,G5 x y=aa c∧(c<0↔before x y)∧(c=0↔x=y):=by
 unfold G5 before;obtain⟨k,n⟩:=x;obtain⟨k',n'⟩:=y;simp only[Part.mk.injEq]at*;by_cases h:k=k'
 ·rw[B4 h];simp only[aC,aB,bX (show-1000000000000000000<=n-n' by omega) (by omega)];exact⟨_,rfl,by omega,by omega⟩
 ·rw[XX h];simp only[aH,bX (show-1000000000000000000<=k-k' by omega) (by omega)];exact⟨_,rfl,by omega,by omega⟩
def awn{x:Int}(h0:0<=x)(h1:x<=1000000000):wI 64 (rA IntKind.u64 (W x)) 1=aa (x/2):=by
 have e1:W x=x:=bX (by omega) (by omega);have e2:IntKind.u64.wrap x=x:=by have hb:IntKind.u64.bits=64:=rfl;simp[IntKind.wrap,hb,IntKind.signed];omega
 show(if(1:Int)<0 then none else aa ((IntKind.u64.wrap (W x)).fdiv (2^min (1:Int).toNat 64)))=_;rw[e1,e2,aK (by omega)];congr 1;show x.fdiv (2^1)=x/2;rw[Int.fdiv_eq_ediv_of_nonneg _ (by decide)];rfl
def ama(hl:gy b){l:List Part}(h1:∀x∈l,qY b x)(h2:l.Pairwise before)(h3:l.length<=32){x:Part}(hx:qY b x):∃k:Nat,k<=l.length∧(∀i,i<k->before (gt l i) x)∧(∀i,k<=i->i<l.length->¬before (gt l i) x)∧Ls l x=aa ((k:Int),dB (k<l.length∧gt l k=x)):=by
 have vP:=abY hl hx;have um:∀q,q<l.length->(1<=(gt l q).Kind∧(gt l q).Kind<=4)∧0<=(gt l q).Number∧(gt l q).Number<=24:=λq hq=>abY hl (h1 _ (cX hq));have KD:∀i j,i<j->j<l.length->before (gt l i) (gt l j):=λi j iC hj=>by have:=Ck.1 h2 i j (by omega) hj iC;rwa[<-fQ,<-fQ]at this
 have xe:Wp (aG (Sd l x) (0,len l)) λr=>∃k:Nat,r=(k:Int)∧k<=l.length∧(∀i,i<k->before (gt l i) x)∧∀i,k<=i->i<l.length->¬before (gt l i) x:=by
  refine pn (λs=>(s.2-s.1).toNat) (λs=>∃i j:Nat,s=((i:Int),(j:Int))∧i<=j∧j<=l.length∧(∀q,q<i->before (gt l q) x)∧∀q,j<=q->q<l.length->¬before (gt l q) x) (λs hs=>?_) ⟨0,l.length,rfl,Nat.zero_le _,bw _,λp hp=>by omega,λp h1 h2=>by omega⟩ (by simp only[len];omega);obtain⟨i,j,rfl,iC,hj,h1,h2⟩:=hs;unfold Sd;try simp only
  by_cases aS:i<j
  ·obtain⟨q,hq⟩:∃q:Nat,((i:Int)+(j:Int))/2=(q:Int):=⟨(i+j)/2,by omega⟩;have hq1:i<=q∧q<j:=by omega
   have Ir:W (q:Int)=q:=bX (by omega) (by omega);obtain⟨c,c1,c2,_⟩:=abN (um q (by omega)) vP;simp only[dT (c:=(i:Int)<(j:Int)) (by omega),aH];rw[awn (by omega) (by omega),hq];simp only[al,Ir,aM (show q<l.length by omega),c1];by_cases hc:c<0
   ·simp only[dT hc,aH,al];rw[aY (by omega)];refine aq.2 ⟨⟨q+1,j,rfl,by omega,hj,λp hp=>?_,h2⟩,by simp only;omega⟩;by_cases ma:p=q
    ·rw[ma];exact c2.1 hc
    ·exact PQ (KD p q (by omega) (by omega)) (c2.1 hc)
   ·simp only[dF hc,aC,aB,al];refine aq.2 ⟨⟨i,q,rfl,by omega,by omega,h1,λp hp qA hb=>hc (c2.2 ?_)⟩,by simp only;omega⟩;by_cases ma:p=q
    ·rw[<-ma];exact hb
    ·exact PQ (KD q p (by omega) qA) hb
  ·have hje:j=i:=by omega
   subst hje;simp only[dF (c:=(j:Int)<(j:Int)) (by omega),aC,aB];exact aq.2 ⟨j,rfl,hj,h1,h2⟩
 obtain⟨r,hr,k,rfl,hk,k1,k2⟩:=xe;refine⟨k,hk,k1,k2,?_⟩;unfold Ls;simp only[hr,al];by_cases sO:k<l.length
 ·obtain⟨c,c1,_,c3⟩:=abN (um k sO) vP;simp only[aZ sO,aH,aM sO,c1,al];congr 2;refine ay4 ?_;rw[sf,c3];exact⟨λe=>⟨sO,e⟩,λe=>e.2⟩
 ·rw[dF (c:=(k:Int)<len l) (by unfold len;omega)];simp only[aC,aB,al];rw[fH (λhh=>sO hh.1)]
def aox{l:List Part}{k:Nat}{y:Part}(h:y∈l.take k)(hk:k<=l.length):∃i,i<k∧gt l i=y:=(DO hk).1 h
def ayU{l:List Part}{k:Nat}{y:Part}(h:y∈l.drop k):∃i,k<=i∧i<l.length∧gt l i=y:=by obtain⟨i,hi,e⟩:=lC h;rw[List.length_drop]at hi;refine⟨k+i,by omega,by omega,?_⟩;rw[<-e];unfold gt;rw[uK,uK,List.getElem?_drop]
def zl(l:List Part)(k:Nat)(x:Part):List Part:=l.take k++[x]++l.drop k
def Jk(l:List Part)(k:Nat):List Part:=l.take k++l.drop (k+1)
def aDv{l:List Part}(h1:∀x∈l,qY b x)(h2:l.Pairwise before){x:Part}(hx:qY b x){k:Nat}(hk:k<=l.length)(k1:∀i,i<k->before (gt l i) x)(k2:∀i,k<=i->i<l.length->¬before (gt l i) x)(k3:¬(k<l.length∧gt l k=x)):(∀y∈zl l k x,qY b y)∧(zl l k x).Pairwise before:=by
 have tot:∀y:Part,¬before y x->y≠x->before x y:=λy n1 n2=>by unfold before at*;obtain⟨a,c⟩:=y;obtain⟨a',c'⟩:=x;simp only[ne_eq,Part.mk.injEq]at*;omega
 have KD:∀i j,i<j->j<l.length->before (gt l i) (gt l j):=λi j iC hj=>by have:=Ck.1 h2 i j (by omega) hj iC;rwa[<-fQ,<-fQ]at this
 have qW:∀y∈l.drop k,before x y:=λy hy=>by
  obtain⟨i,i1,i2,rfl⟩:=ayU hy;refine tot _ (k2 i i1 i2) λe=>?_;by_cases dV:i=k
  ·subst dV;exact k3 ⟨i2,e⟩
  ·have:=KD k i (by omega) i2;rw[e]at this;exact k2 k (bw _) (by omega) this
 have fst:∀y∈l.take k,before y x:=λy hy=>by obtain⟨i,i1,rfl⟩:=aox hy hk;exact k1 i i1
 refine⟨λy hy=>?_,?_⟩
 ·unfold zl at hy;rw[bg,bg]at hy;rcases hy with(hy|hy)|hy
  ·exact h1 y (List.mem_of_mem_take hy)
  ·rw[cY.1 hy];exact hx
  ·exact h1 y (List.mem_of_mem_drop hy)
 ·unfold zl;rw[List.append_assoc,List.pairwise_append];refine⟨h2.sublist (List.take_sublist _ _),?_,λy hy z hz=>?_⟩
  ·rw[List.pairwise_append];refine⟨List.pairwise_singleton _ _,h2.sublist (List.drop_sublist _ _),λy hy z hz=>?_⟩;rw[cY.1 hy];exact qW z hz
  ·rw[bg]at hz;rcases hz with hz|hz
   ·rw[cY.1 hz];exact fst y hy
   ·exact PQ (fst y hy) (qW z hz)
def aDu{l:List Part}(h1:∀x∈l,qY b x)(h2:l.Pairwise before)(k:Nat):(∀y∈Jk l k,qY b y)∧(Jk l k).Pairwise before:=by
 have hs:(Jk l k).Sublist l:=by have h3:(l.take k++l.drop (k+1)).Sublist (l.take k++l.drop k):=List.Sublist.append (List.Sublist.refl _) (by rw[show k+1=k+1 from rfl,<-List.drop_drop];exact List.drop_sublist _ _);rwa[List.take_append_drop]at h3
 exact⟨λy hy=>h1 y (hs.subset hy),h2.sublist hs⟩
end
end Rx
namespace Rx
open Classical
section
variable {b:au} {p:aw}
def aaj(v:ny b p){l:List Part}(h:(∀x∈l,qY b x)∧l.Pairwise before)(hl:l.length<=32):ny b ⟨p.aE,p.aj,p.aT,l⟩:=by obtain⟨hp,h0⟩:=v;obtain⟨h2,hs,g1,g2,g3⟩:=fi.1 h0;refine⟨⟨hp.1,hp.2.1,hp.2.2.1,by unfold Sm;simp only;omega⟩,fi.2 ⟨h2,hs,⟨akt.2 h,hl⟩,g2,λk hk=>?_⟩⟩;obtain⟨f1,f2⟩:=g3 k hk;refine⟨f1,?_⟩;have e:eZ b ⟨p.aE,p.aj,p.aT,l⟩ (k:Int) b.ah.length=eZ b p (k:Int) b.ah.length:=I5 λi _ _ _=>rfl;rw[e];exact f2
def aly(x:Part)(q:aw):Prop:=x∈q.aP∧(x.Kind=1->(gt q.aj x.Number.toNat).State=3)
def amz(hb:fw b)(v:ny b p){t:Int}{x:Part}(hx:qY b x)(br:Bool):Wp (Ki ⟨b,p,t⟩ x br) λr=>r.1=0->ny b (uV r)∧(br=ab->aly x (uV r)):=by
 obtain⟨⟨hl,hg⟩,⟨s1,s2,s3⟩,⟨g1,g2⟩,g3,g4⟩:=fi.1 v.2;obtain⟨b1,b2⟩:=akt.1 g1;obtain⟨k,hk,k1,k2,hf⟩:=ama hl b1 b2 g2 hx;unfold Ki;simp only[hf,al];refine Wp.ite (λ_=>aq.2 λe=>by cases e) λh1=>?_;refine Wp.bind (Q:=λc=>c=ae->br=ab->p.aP.length<32) ?_ λc hc=>?_
 ·refine Wp.ite (λ_=>aq.2 λe _=>?_) λh=>aq.2 λ_ e=>by rw[e]at h;cases h
  have:=mR e;unfold len at this;omega
 refine Wp.ite (λ_=>aq.2 λe=>by cases e) λh2=>?_;have hc:=hc h2;refine Wp.bind (Q:=λy=>ny b ⟨p.aE,p.aj,p.aT,y.2.2.2.2.2.2.2⟩∧(br=ab->x∈y.2.2.2.2.2.2.2)) ?_ λy hy=>?_
 ·refine Wp.ite (λnV=>?_) λnV=>?_
  ·have nQ:¬(k<p.aP.length∧gt p.aP k=x):=λhn=>by
    rw[fG hn,nV]at h1;cases h1
   have avo:KJ p.aP (k:Int) [x]=aa (zl p.aP k x):=by unfold KJ HA;rw[cJ (by simp;omega)];simp[len,hk,zl]
   rw[avo];refine aq.2 ⟨aaj v (aDv b1 b2 hx hk k1 k2 nQ) ?_,λ_=>by unfold zl;simp⟩;have:=hc nV;unfold zl;simp;omega
  ·have sO:k<p.aP.length∧gt p.aP k=x:=by
    refine gD λhn=>?_;rw[fH hn,nV]at h1;cases h1
   have hd:KW p.aP (k:Int) (W ((k:Int)+1))=aa (Jk p.aP k):=by rw[aY (by omega)];unfold KW IW;rw[show ak ((0:Int)<=(k:Int))=ab from dT (by omega),show ak ((k:Int)<=((k+1:Nat):Int))=ab from dT (by omega),show ak (((k+1:Nat):Int)<=len p.aP)=ab from dT (by unfold len;omega)];rfl
   rw[hd];refine aq.2 ⟨aaj v (aDu b1 b2 k) ?_,λe=>by rw[nV]at e;cases e⟩;unfold Jk;simp;omega
 ·obtain⟨vy,my⟩:=hy;refine Wp.bind (Q:=λS=>ny b ⟨p.aE,S,p.aT,y.2.2.2.2.2.2.2⟩∧(br=ab->x.Kind=1->(gt S x.Number.toNat).State=3)) ?_ λS hS=>aq.2 λ_=>⟨hS.1,λe=>⟨my e,hS.2 e⟩⟩;refine Wp.ite (λeK=>?_) λeK=>aq.2 ⟨vy,λ_ e=>by rw[gu e]at eK;cases eK⟩;have eK:x.Kind=1:=by simpa using eK
  obtain⟨n0,n1⟩:=hx;unfold bsize at n1;rw[aI eK]at n1;obtain⟨j,hj⟩:=Int.eq_ofNat_of_zero_le n0;have hj:x.Number=(j:Int):=hj;have dt:j<p.aj.length:=by omega
  have vI:∀z,j<(p.aj.set j z).length:=λz=>by simpa using dt
  have hr:=amW v dt;simp only[hj,aM dt,jK dt,al,aM (vI _),jK (vI _),gV dt,aI,List.set_set,Int.toNat_natCast];refine Wp.bind (Q:=λS=>ny b ⟨p.aE,S,p.aT,y.2.2.2.2.2.2.2⟩∧(br=ab->(gt S j).State=3)) ?_ λS hS=>aq.2 ⟨hS.1,λe _=>hS.2 e⟩;refine Wp.ite (λnV=>aq.2 ⟨aai vy dt ?_,λ_=>by rw[gV dt,aI rfl]⟩) λnV=>aq.2 ⟨aai vy dt ?_,λe=>by rw[nV]at e;cases e⟩
  ·unfold gY at*;simp only;omega
  ·unfold gY at*;simp only;omega
def are(k n:Int):wL b k n=aa (ak (0<=n∧n<bsize b k)):=by
 have key:∀z:Int,(Option.bind (if ak (n>=0)=ab then aa (ak (n<z))else aa ae) λx5=>aa x5)=aa (ak (0<=n∧n<z)):=λz=>by
  by_cases h:0<=n
  ·simp[h]
  ·simp[h]
 unfold wL bsize;by_cases h1:k=1
 ·simp only[h1,QG,aH,al];exact key _
 by_cases h2:k=2
 ·subst h2;exact key _
 by_cases h3:k=3
 ·subst h3;exact key _
 by_cases h4:k=4
 ·subst h4;exact key _
 rw[dL h1,dL h2,dL h3,dL h4,aK h1,aK h2,aK h3,aK h4];exact key _
def amu{a:Act}(h:a.Kind=8):Wp (LS b a) λc=>c=ab->qY b ⟨a.Value,a.Unit⟩:=by unfold LS qY;have n:∀k:Int,k≠8->(a.Kind==k)=ae:=λk hk=>dL (by omega);simp only[are,n 1 (by omega),n 2 (by omega),n 3 (by omega),n 4 (by omega),n 5 (by omega),n 6 (by omega),gu h,aC,aB,aH,al];refine aq.2 λhc=>?_;have hc:=jJ hc;exact⟨hc.1,by have:=hc.2;(try simp only);omega⟩
def wg(b:au)(a:Act)(q:aw):Prop:=ny b q∧(a.Kind=8->aly ⟨a.Value,a.Unit⟩ q)
def al1(hb:fw b)(v:ny b p){t:Int}{a:Act}(h8:a.Kind=8)(hx:qY b ⟨a.Value,a.Unit⟩):Wp (Kj ⟨b,p,t⟩ a) λr=>r.1=0->wg b a (uV r):=by unfold Kj;have n:∀k:Int,k≠8->(a.Kind==k)=ae:=λk hk=>dL (by omega);simp only[n 1 (by omega),n 2 (by omega),n 3 (by omega),n 4 (by omega),n 5 (by omega),n 6 (by omega),n 7 (by omega),aC,aB];refine Wp.bind (Q:=λ(r:WR)=>r.1=0->wg b a (uV r)) ?_ λr h=>aq.2 h;refine Wp.bind (Q:=λ(r:WR)=>r.1=0->wg b a (uV r)) ?_ λr h=>aq.2 h;refine Wp.bind (Q:=λ(r:WR)=>r.1=0->wg b a (uV r)) ?_ λr h=>aq.2 h;refine Wp.bind (Q:=λ(r:WR)=>r.1=0->wg b a (uV r)) ?_ λr h=>aq.2 h;refine Wp.bind (Q:=λ(r:WR)=>r.1=0->wg b a (uV r)) ?_ λr h=>aq.2 h;refine Wp.bind (Q:=λ(r:WR)=>r.1=0->wg b a (uV r)) ?_ λr h=>aq.2 h;refine Wp.bind (Q:=λ(r:WR)=>r.1=0->wg b a (uV r)) ?_ λr h=>aq.2 h;exact(amz hb v hx _).bind λr hr=>aq.2 λe=>⟨(hr e).1,λh8=>(hr e).2 (gu h8)⟩
def amL(hb:fw b)(v:ny b p){t:Int}(t0:0<=t)(t1:t<=2147483648){a:Act}(h8:a.Kind=8):Wp (LU b p t a) λr=>r.1=0->wg b a ⟨r.2.1,r.2.2.1,r.2.2.2.1,r.2.2.2.2⟩:=by
 unfold LU;have e:(bo b p !=0)=ae:=by rw[v.2];rfl
 simp only[xZ hb v.1,al,e,aC,aB,dF (c:=t<0) (by omega),dF (c:=t>2147483648) (by omega),dF (c:=a.Kind<1) (by omega),dF (c:=a.Kind>9) (by omega),E3 v.1];refine(amu h8).bind λc hc=>?_;refine Wp.ite (λh=>aq.2 λe=>(by cases e)) λh=>?_;refine(al1 hb v h8 (hc (by simpa using h))).bind λr hr=>?_;refine Wp.ite (λh=>aq.2 λe=>?_) λh=>aq.2 λ_=>hr (by simpa using h);have h:r.1≠0:=by simpa using h
 exact(h e).elim
end
end Rx
namespace Rx
open Classical
section
variable {b:au} {p:aw}
def q8(b:au)(a:Act):Prop:=(a.Kind=2∧0<=a.Unit∧a.Unit<(b.ah.length:Int))∨(a.Kind=5∧0<=a.Unit∧a.Unit<(b.ay.length:Int))
def N2{α β:Type}{f:β->α->β}{P:β->Prop}:∀{l:List α},(∀s x,x∈l->P s->P (f s x))->∀s,P s->P (l.foldl f s)
 |[],_,s,h=>h
 |x::l,hf,s,h=>N2 (l:=l) (λs y hy=>hf s y (List.mem_cons_of_mem _ hy)) (f s x) (hf s x (List.mem_cons_self ..) h)
def Yf{C:List Bool}{P:Nat->Bool}(hc:C.length=b.ah.length):∀a∈(gJ C P).map qX,q8 b a:=λa ha=>by obtain⟨k,hk,rfl⟩:=List.mem_map.1 ha;have:=BE k hk;exact .inl ⟨rfl,this.1,by show k<_;omega⟩
def PX{l m:List Act}(h:∀a∈l,q8 b a)(h':∀a∈m,q8 b a):∀a∈l++m,q8 b a:=λa ha=>(bg.1 ha).elim (h a) (h' a)
def ast{x:bz}{T o:List Int}(ho:∀c∈o,0<=c∧c<(b.ay.length:Int))(s:List Int×List Act)(hs:∀a∈s.2,q8 b a):∀a∈(iW b x T o s).2,q8 b a:=
 N2 (P:=λ(s:List Int×List Act)=>∀a∈s.2,q8 b a) (λs c hc hs=>by
  unfold rz;split
  ·exact PX hs λa ha=>by rw[cY.1 ha];exact .inr ⟨rfl,ho c hc⟩
  ·exact hs) s hs
def aoj(h:bo b p=0){x:bz}{L o:List Int}(s:List Int×List Act)(hs:∀a∈s.2,q8 b a):∀a∈(lp b p x L o s).2,q8 b a:=
 N2 (P:=λ(s:List Int×List Act)=>∀a∈s.2,q8 b a) (λs c hc hs=>by
  unfold rf;split
  ·exact PX hs (Yf (by show(ic p.aE _).length=_;rw[kn];exact(lN h).1))
  ·exact hs) s hs
def apI(h:bo b p=0):∀a∈(yd b p).2.2,q8 b a:=
 N2 (P:=λ(s:List Int×List Int×List Act)=>∀a∈s.2.2,q8 b a) (λs x hx hs=>by
  unfold GY;split
  ·exact hs
  ·exact aoj h _ (ast (S9 h hx).2.1 _ hs)) _ (λa ha=>by cases ha)
def azo(h:bo b p=0):∀a∈xw b p,q8 b a:=by obtain⟨s1,_⟩:=lN h;unfold xw;exact PX (Yf s1) (Yf (by show(ic p.aE _).length=_;rw[kn];exact s1))
def aq7(h:bo b p=0):∀a∈yq b p,q8 b a:=PX (azo h) (apI (xY h))
def aq9(h:bo b p=0):(yq b p).length<=1000000:=by have h1:=af5 h;have h2:=(LD (xY h) (bq b (lM b p)).length (bw _)).2;rw[List.take_length]at h2;have lI:=Hy (b:=b) (p:=lM b p);have pM:=(fi.1 h).1.1.jp;unfold yq;rw[cW];have:(yd b (lM b p)).2.2.length<=20000*(bq b (lM b p)).length:=h2;omega
def aq8(h:bo b p=0):Clean b (lY b p):=azv (xY h) (azw h) (Su (xY h)) _
def Gd(b:au)(p:aw):Prop:=ny b p∧lL b p=p.aj
def axk(v:ny b p):Gd b (lY b p):=⟨⟨aph v.1 v.2,aoN v.2⟩,(aq8 v.2).kB⟩
def ayM{a b:List Bool}(ha:Sm a):KT a b=aa (dB (a=b)):=by
 unfold KT;by_cases hl:a.length=b.length
 ·have e1:(len a !=len b)=ae:=by simp[len,hl]
  have h:=MU (step:=De a b) (λk=>(k:Int)) a.length (λk=>gt a k≠gt b k) (r:= .inr ae) (e:= .inl ())
   (λk hk hp=>by
     have e2:(!gt a k==gt b k)=ae:=by simpa using hp
     simp only[De,aZ hk,aH,aM hk,aM (show k<b.length by omega),al,e2,aC,aB,aY (eT ha hk)])
   (λk hk hp=>by
     have e2:(!gt a k==gt b k)=ab:=by simpa using hp
     simp only[De,aZ hk,aH,aM hk,aM (show k<b.length by omega),al,e2])
   (by simp only[De,bC,aC,aB])
  have h':aG (De a b) 0=_:=h;simp only[e1,aC,aB,h',al];by_cases he:a=b
  ·subst he;rw[fH (p:=∃k,k<a.length∧gt a k≠gt a k) (by simp),fG rfl];rfl
  ·have:∃k,k<a.length∧gt a k≠gt b k:=by
    apply gD;intro hn;exact he (jZ hl λk hk=>gD λh=>hn ⟨k,hk,h⟩)
   rw[fG this,fH he];rfl
 ·have e1:(len a !=len b)=ab:=by simp[len];omega
  have he:a≠b:=λe=>hl (e▸rfl);rw[fH he];simp only[e1,aH]
def ayL{a b:List Int}(ha:Sm a):KS a b=aa (dB (a=b)):=by
 unfold KS;by_cases hl:a.length=b.length
 ·have e1:(len a !=len b)=ae:=by simp[len,hl]
  have h:=MU (step:=Dd a b) (λk=>(k:Int)) a.length (λk=>gt a k≠gt b k) (r:= .inr ae) (e:= .inl ())
   (λk hk hp=>by simp only[Dd,aZ hk,aH,aM hk,aM (show k<b.length by omega),al,B4 (si.1 hp),aC,aB,aY (eT ha hk)])
   (λk hk hp=>by simp only[Dd,aZ hk,aH,aM hk,aM (show k<b.length by omega),al,XX hp])
   (by simp only[Dd,bC,aC,aB])
  have h':aG (Dd a b) 0=_:=h;simp only[e1,aC,aB,h',al];by_cases he:a=b
  ·subst he;rw[fH (p:=∃k,k<a.length∧gt a k≠gt a k) (by simp),fG rfl];rfl
  ·have:∃k,k<a.length∧gt a k≠gt b k:=by
    apply gD;intro hn;exact he (jZ hl λk hk=>gD λh=>hn ⟨k,hk,h⟩)
   rw[fG this,fH he];rfl
 ·have e1:(len a !=len b)=ab:=by simp[len];omega
  have he:a≠b:=λe=>hl (e▸rfl);rw[fH he];simp only[e1,aH]
def ZU{q:aw}(hp:dA p):Wp (Gu p q) λc=>p=q->c=ab:=by
 obtain⟨h1,h2,h3,h4⟩:=hp;unfold Gu;simp only[ayM h1,ayL h3,ayJ h2,ayK h4,al];by_cases e:p=q
 ·subst e;simp only[fG];exact aq.2 λ_=>rfl
 ·refine Wp.bind (Q:=λ_=>True) ?_ λc _=>aq.2 λh=>(e h).elim;refine Wp.ite (λ_=>?_) λ_=>aq.2 trivial;refine Wp.ite (λ_=>?_) λ_=>aq.2 trivial;refine Wp.ite (λ_=>aq.2 trivial) λ_=>aq.2 trivial
section
variable {t:Int} {R:List eH} {E ev:List Event} {st:List aw}
def acd(h:ev.length<=1000000000)(a:Act)(e:Int):G3 ⟨⟨t,p,R,E⟩,b,ev,st⟩ a e=aa (t,p.aE,p.aj,p.aT,p.aP,b.aA,b.ah,b.aj,b.ay,b.bn,b.a_,R,E,st,ev++[⟨t,a,e⟩]):=by unfold G3;rw[cJ (by simp;omega)];rfl
def SL(h:st.length<=1000000000){q:aw}(hq:dA q):Du ⟨⟨t,p,R,E⟩,b,ev,st⟩ q=aa (t,p.aE,p.aj,p.aT,p.aP,b.aA,b.ah,b.aj,b.ay,b.bn,b.a_,R,E,ev,q.aE,q.aj,q.aT,q.aP,st++[q]):=by unfold Du;simp only[E3 hq,al];rw[cJ (by simp;omega)];rfl
def doT(b:au)(t:Int)(q:aw)(R:List eH)(E ev:List Event)(st:List aw):Int×List Bool×List bu×List Int×List Part×Int×List cL×List Source×List Consumer×Int×Int×List eH×List Event×List Event×List aw:=(t,q.aE,q.aj,q.aT,q.aP,b.aA,b.ah,b.aj,b.ay,b.bn,b.a_,R,E,ev,st)
def Did(b:au)(t:Int)(p:aw)(a:Act)(ev:List Event)(st:List aw)(q:aw)(nq:List Event)(C3:List aw):Prop:=(q=p∧C3=st∧∃e,e≠0∧nq=ev++[⟨t,a,e⟩])∨∃x S,wg b a x∧q=lY b x∧C3=st++x::S
def amA(hb:fw b)(g:Gd b p)(t0:0<=t)(t1:t<=2147483648)(b8:ev.length<=100000000)(b6:st.length<=100000000){a:Act}(h8:a.Kind=8):Wp (LN ⟨⟨t,p,R,E⟩,b,ev,st⟩ a) λr=>∃q nq C3,r=doT b t q R E nq C3∧Gd b q∧nq.length<=ev.length+1000001∧C3.length<=st.length+1000002∧Did b t p a ev st q nq C3:=by
 unfold LN;refine(amL hb g.1 t0 t1 h8).bind λr hr=>?_;refine Wp.bind (Q:=λe=>e=0->r.1=0) ?_ λe he=>?_
 ·refine Wp.ite (λ_=>aq.2 λh=>by cases h) λ_=>aq.2 λh=>h
 rw[acd (by omega)];simp only[al];refine Wp.ite (λh=>aq.2 ?_) λh=>?_
 ·exact⟨p,_,st,rfl,g,by simp,by omega,.inl ⟨rfl,rfl,e,by simpa using h,rfl⟩⟩
 have ha:=hr (he (by simpa using h));obtain⟨x,hx⟩:∃x:aw,x=⟨r.2.1,r.2.2.1,r.2.2.2.1,r.2.2.2.2⟩:=⟨_,rfl⟩;rw[<-hx]at ha;have xm:(⟨b.aA,b.ah,b.aj,b.ay,b.bn,b.a_⟩:au)=b:=rfl;have hxe:(⟨x.aE,x.aj,x.aT,x.aP⟩:aw)=x:=rfl;rw[<-hx,SL (by omega) ha.1.1];simp only[al,xm,hxe,aq6 hb ha.1.1 ha.1.2];have hA:=aq7 ha.1.2;have xq:=aq9 ha.1.2;obtain⟨l1,l2,_,_,l5,l6⟩:=lN ha.1.2;have gq:=axk ha.1;refine Wp.bind (Q:=λs=>∃C L nq S,s=(t,p.aE,p.aj,p.aT,p.aP,b.aA,b.ah,b.aj,b.ay,b.bn,b.a_,R,E,C,x.aj,L,x.aP,nq,st++x::S)∧dA ⟨C,x.aj,L,x.aP⟩∧nq.length=ev.length+1+(yq b x).length∧S.length=(yq b x).length) ?_ λs hs=>?_
 ·refine dy (yq b x).length (λk s=>∃C L nq S,s=((k:Int),t,p.aE,p.aj,p.aT,p.aP,b.aA,b.ah,b.aj,b.ay,b.bn,b.a_,R,E,C,x.aj,L,x.aP,nq,st++x::S)∧C.length=b.ah.length∧L.length=b.ay.length∧nq.length=ev.length+1+k∧S.length=k) ⟨x.aE,x.aT,_,[],rfl,l1,l6,by simp,rfl⟩ ?_ ?_
  ·rintro k s hk ⟨C,L,nq,S,rfl,c1,c2,c3,c4⟩;unfold SH;simp only[aZ hk,aH,aM hk,al];rw[acd (by omega)];simp only[al];have hai:=hA _ (cX hk);refine Wp.bind (Q:=λy=>y.1.length=b.ah.length∧y.2.length=b.ay.length) ?_ λy hy=>?_
   ·rcases hai with⟨a1,a2,a3⟩|⟨a1,a2,a3⟩
    ·rw[a1,aI (by decide),iI a2 (by omega),Sw a2 (by omega)];exact aq.2 ⟨by simpa using c1,c2⟩
    ·rw[a1,aK (by decide),iI a2 (by omega),Sw a2 (by omega)];exact aq.2 ⟨c1,by simpa using c2⟩
   have fO:dA ⟨y.1,x.aj,y.2,x.aP⟩:=⟨by show y.1.length<=_;omega,ha.1.1.2.1,by show y.2.length<=_;omega,ha.1.1.2.2.2⟩;rw[SL (by rw[cW,jd];omega) fO];refine aq.2 ⟨y.1,y.2,nq++[⟨t,gt (yq b x) k,0⟩],S++[⟨y.1,x.aj,y.2,x.aP⟩],?_,hy.1,hy.2,by rw[cW];simp only[xJ];omega,by rw[cW];simp only[xJ];omega⟩;rw[aY (by omega)];simp
  ·rintro s ⟨C,L,nq,S,rfl,c1,c2,c3,c4⟩;unfold SH;simp only[bC,aC,aB];exact aq.2 ⟨C,L,nq,S,rfl,⟨by show C.length<=_;omega,ha.1.1.2.1,by show L.length<=_;omega,ha.1.1.2.2.2⟩,c3,c4⟩
 obtain⟨C,L,nq,S,rfl,c1,c2,c3⟩:=hs;try simp only
 refine(ZU c1).bind λc _=>?_;have hqe:(⟨(lY b x).aE,(lY b x).aj,(lY b x).aT,(lY b x).aP⟩:aw)=lY b x:=rfl;refine Wp.bind (Q:=λs=>∃S',S'.length<=S.length+1∧s=(t,p.aE,p.aj,p.aT,p.aP,b.aA,b.ah,b.aj,b.ay,b.bn,b.a_,R,E,(lY b x).aE,(lY b x).aj,(lY b x).aT,(lY b x).aP,nq,st++x::S')) ?_ λs hs=>?_
 ·refine Wp.ite (λ_=>?_) λ_=>aq.2 ⟨S,by omega,rfl⟩;rw[hqe,SL (by rw[cW,jd];omega) gq.1.1];exact aq.2 ⟨S++[lY b x],by simp,by simp⟩
 ·obtain⟨S',h1,rfl⟩:=hs;exact aq.2 ⟨lY b x,nq,st++x::S',rfl,gq,by omega,by simp;omega,.inr ⟨x,S',ha,rfl,rfl⟩⟩
end
end
end Rx
namespace Rx
open Classical
section
variable {b:au} {p:aw}
def vT(t:gL):Prop:=(1<=t.Stop∧t.Stop<=99)∧(t.Stop<t.Start∧t.Start<=100)∧0<=t.oc∧t.oc<=600
def amT(t:gL):LR t=aa (ak (vT t)):=by
 unfold LR;by_cases h:vT t
 ·obtain⟨⟨h1,h2⟩,⟨h3,h4⟩,h5,h6⟩:=h;rw[dT (show vT t from⟨⟨h1,h2⟩,⟨h3,h4⟩,h5,h6⟩)];simp[h1,h2,h3,h4,h5,h6]
 ·rw[dF h];by_cases h1:t.Stop>=1
  case neg=>simp[h1]
  by_cases h2:t.Stop<=99
  case neg=>simp[h1,h2]
  by_cases h3:t.Start>t.Stop
  case neg=>simp[h1,h2,h3]
  by_cases h4:t.Start<=100
  case neg=>simp[h1,h2,h3,h4]
  by_cases h5:t.oc>=0
  case neg=>simp[h1,h2,h3,h4,h5]
  by_cases h6:t.oc<=600
  case neg=>simp[h1,h2,h3,h4,h5,h6]
  exact absurd ⟨⟨h1,h2⟩,⟨h3,h4⟩,h5,h6⟩ h
def al8{l:List Int}{a:Int}(hs:Sr l a):Wp (Qa ⟨l,a⟩) λr=>vT ⟨r.1,r.2.1,r.2.2.1⟩∧Sr r.2.2.2.1 r.2.2.2.2:=by unfold Qa;refine(dU hs (w:=[60,80,100]) (by simp) (by simp)).bind λr hr=>?_;refine(dU hr.2 (w:=[1,30,50]) (by simp) (by simp)).bind λr2 yN=>?_;refine(dU yN.2 (w:=[0,1,3]) (by simp) (by simp)).bind λr3 hr3=>?_;refine aq.2 ⟨?_,hr3.2⟩;have h1:=hr.1;have h2:=yN.1;have h3:=hr3.1;simp only[List.mem_cons,List.not_mem_nil,kF]at h1 h2 h3;unfold vT;dsimp only;omega
def yQ(b:au)(p:aw)(x:bz)(j:Nat):Prop:=(¬(⟨1,(j:Int)⟩:Part)∈p.aP∧¬(⟨2,(bk b j:Int)⟩:Part)∈p.aP∧¬(⟨3,(gt b.ah (bk b j)).A⟩:Part)∈p.aP)∧(gt b.ah (bk b j)).A∈x.aA∧¬(j:Int)∈x.aj∧(gt p.aj j).State≠3
def l3{i:Nat}(h:i<3):((i:Int)<len ([2,1,0]:List Nat))=True:=by have:len ([2,1,0]:List Nat)=3:=rfl;rw[this];simp;omega
def YP(tm:Int)(r:eH):Prop:=(-1<=r.i_∧r.i_<=tm)∧-1<=r.jH∧r.jH<=tm
end
end Rx
namespace Rx
open Classical
section
variable {b:au} {p:aw} {t:gL} {tm:Int} {R:List eH} {E ev:List Event} {st:List aw}
def JP(b:au)(tm:Int)(R:List eH):Prop:=(R.length:Int)=b.aA∧∀r∈R,YP tm r
def atA{r:eH}(hr:YP tm r)(a2:List Bool)(a3:List bu)(a4:List Int)(a5:List Part)(a6:List eH)(a7:List Event):Mk r tm a2 a3 a4 a5 a6 a7=aa (ae,tm,a2,a3,a4,a5,a6,a7):=by obtain⟨⟨h1,h2⟩,h3,h4⟩:=hr;unfold Mk Ml;simp only[dT (show r.i_>= -1 from h1),dT h2,dT (show r.jH>= -1 from h3),dT h4,aH,al,dP,aC,aB]
def arb(hb:fw b)(hv:vT t)(g:Gd b p)(t0:0<=tm)(t1:tm<=2147483648)(hR:JP b tm R):Mm b t ⟨tm,p,R,E⟩=aa 0:=by
 obtain⟨⟨hl,hg⟩,_⟩:=fi.1 g.1.2;have pM:=hl.jp;have hRl:=hR.1;unfold Mm;obtain⟨c,h1,h2⟩:=ZU (p:=p) (q:=p) g.1.1;have hc:=h2 rfl;subst hc;have rH:(⟨p.aE,p.aj,p.aT,p.aP⟩:aw)=p:=rfl;have qH:Li R tm p.aE p.aj p.aT p.aP R E=aa (ae,tm,p.aE,p.aj,p.aT,p.aP,R,E):=by
  have h:=dR (step:=GJ R) (r:= .inl (tm,p.aE,p.aj,p.aT,p.aP,R,E)) (λk=>((k:Int),tm,p.aE,p.aj,p.aT,p.aP,R,E)) R.length (λk hk=>by
   unfold GJ;simp only[aZ hk,aH,aM hk,al,atA (hR.2 _ (cX hk)),aC,aB];rw[aY (by omega)]) (by
   unfold GJ;simp only[bC,aC,aB]) (by omega)
  have h':aG (GJ R) (0,tm,p.aE,p.aj,p.aT,p.aP,R,E)=_:=h;unfold Li RX;rw[h'];rfl
 simp only[follow_eq hb g.1.1 g.1.2,g.2,al,kG,aC,aB,amT,dT hv,dP,dF (show ¬tm<0 by omega),dF (show ¬tm>2147483648 by omega),B4 (show len R=b.aA from hRl),rH,h1,qH]
def O2{α:Type}{l:List α}(h:l.length<=1000000000):bD [] l=aa l:=cJ (by simp;omega)
def aDJ(hp:dA p)(hR:R.length<=1000)(hE:E.length<=1000000000):Mi b ⟨tm,p,R,E⟩=aa (tm,b.aA,b.ah,b.aj,b.ay,b.bn,b.a_,p.aE,p.aj,p.aT,p.aP,R,E):=by unfold Mi GP GQ;simp only[E3 hp,al,O2 (show R.length<=1000000000 by omega),O2 hE]
def ay'(hp:dA p)(hR:R.length<=1000)(hE:E.length<=1000000000):OY ⟨tm,p,R,E⟩=aa (tm,p.aE,p.aj,p.aT,p.aP,R,E):=by unfold OY GP GQ;have h:=E3 hp;unfold rh at h;simp only[O2 (show R.length<=1000000000 by omega),O2 hE,al];revert h;cases GN p.aE<;>simp only[al,YY,reduceCtorEq,YW];cases GO p.aj<;>simp only[al,YY,reduceCtorEq,YW];cases u6 p.aT<;>simp only[al,YY,reduceCtorEq,YW];cases zY p.aP<;>simp only[al,YY,reduceCtorEq,YW];intro h;cases h;rfl
def amk(hb:fw b)(g:Gd b p)(t0:0<=tm)(t1:tm<=2147483648)(hR:R.length<=1000)(hE:E.length<=800000000){a:Act}(h8:a.Kind=8):Wp (Mj b ⟨tm,p,R,E⟩ a) λr=>∃q E' z,r=(tm,q.aE,q.aj,q.aT,q.aP,0,R,E',z)∧Gd b q∧E'.length<=E.length+1000001:=by unfold Mj;simp only[xZ hb g.1.1,g.1.2,al,kG,aC,aB,aDJ g.1.1 hR (show E.length<=1000000000 by omega)];refine(amA (R:=R) (E:=E) (ev:=[]) (st:=[]) hb g t0 t1 (by simp) (by simp) h8).bind λr hr=>?_;obtain⟨q,ev,st,rfl,g2,e1,e2,_⟩:=hr;simp only[doT];rw[cJ (by have:=e1;simp only[List.length_nil]at this;omega)];exact aq.2 ⟨q,E++ev,st,rfl,g2,by rw[cW];have:=e1;simp only[List.length_nil]at this;omega⟩
end
end Rx
namespace Rx
section
open Classical
variable {b:au} {p q:aw} {l:List Int} {a:Int}
def amy{l:List Int}{a:Int}(hs:Sr l a)(hb:rY b):Wp (Qn ⟨l,a⟩ b) λr=>∃l a q,r=(l,a,b.ah,b.aj,b.ay,q.aE,q.aj,q.aT,q.aP)∧Sr l a∧dA q∧bo b q=0∧lL b q=q.aj∧q.aP.length<=4:=by unfold Qn;refine(amh hs hb).bind λr hr=>?_;obtain⟨l,a,cl,run,gH,di,rfl,hs,hp⟩:=hr;have pI:=hp.sm hb;have h0:=hp.bo hb;have hf:=aqg hb.sm pI h0;obtain⟨nb,br,S,C,ph,fr⟩:=b;simp only at hf⊢;rw[hf];simp only[al];exact aq.2 ⟨_,_,rP ⟨nb,br,S,C,ph,fr⟩ ⟨cl,run,gH,di⟩,rfl,hs,aaR pI,aaD h0,afh h0,hp.aks⟩
def amj(hs:Sr l a)(hb:rY b):Wp (Qi ⟨l,a⟩ b) λr=>∃tm l a q R,r=(tm,l,a,b.ah,b.aj,b.ay,q.aE,q.aj,q.aT,q.aP,R)∧Sr l a∧Gd b q∧(5<=tm∧tm<=20)∧JP b tm R∧q.aP.length<=4:=by
 have pM:=hb.gH.jp;unfold Qi;refine(qf hs (by omega) (by omega) (by omega) (by omega)).bind λr1 h1=>?_;refine(amy h1.2 hb).bind λr2 h2=>?_;obtain⟨l2,a2,q,rfl,k1,k2,k3,k4,k5⟩:=h2;refine Wp.bind (Q:=λr=>∃l a R,r=(l,a,r1.1,R)∧Sr l a∧JP b r1.1 R) ?_ λr hr=>?_
 ·refine dy b.aA.toNat (λk s=>∃l a R,s=((k:Int),l,a,r1.1,R)∧Sr l a∧R.length=k∧∀r∈R,YP r1.1 r) ⟨l2,a2,[],rfl,k1,rfl,λr hr=>(by cases hr)⟩ ?_ ?_
  ·rintro k s hk ⟨l,a,R,rfl,e1,e2,e3⟩;unfold YI;simp only[dT (show(k:Int)<b.aA by omega),aH];refine(qf e1 (by omega) (by omega) (by omega) (by omega)).bind λr4 h4=>?_;refine(qf h4.2 (by omega) (by omega) (by omega) (by omega)).bind λr5 h5=>?_;rw[cJ (by simp;omega)];simp only[al];refine aq.2 ⟨_,_,R++[⟨r4.1,r5.1⟩],by rw[aY (by omega)],h5.2,by rw[cW,e2];rfl,λr hr=>?_⟩;rcases bg.1 hr with hr|hr
   ·exact e3 r hr
   ·rw[cY.1 hr];have:=h1.1;exact⟨⟨h4.1.1,by have:=h4.1.2;show r4.1<=_;omega⟩,h5.1.1,by have:=h5.1.2;show r5.1<=_;omega⟩
  ·rintro s ⟨l,a,R,rfl,e1,e2,e3⟩;unfold YI;simp only[dF (show ¬((b.aA.toNat:Nat):Int)<b.aA by omega),aC,aB];exact aq.2 ⟨l,a,R,rfl,e1,by omega,e3⟩
 ·obtain⟨l,a,R,rfl,e1,e2⟩:=hr;exact aq.2 ⟨r1.1,l,a,q,R,rfl,e1,⟨⟨k2,k3⟩,k4⟩,h1.1,e2,k5⟩
end
end Rx
namespace Rx
section
def V0(n d:Int)(h:0<d):(if n.tmod d<0 then n.tdiv d-1 else n.tdiv d)=n/d:=by
 rw[Int.tdiv_eq_ediv,Int.tmod_eq_emod];by_cases h0:0<=n∨d∣n
 ·simp[h0];have:=Int.emod_nonneg n (show d≠0 by omega);omega
 ·simp[h0];have:=Int.emod_lt_of_pos n h;have e:d.sign=1:=Int.sign_eq_one_of_pos h;have e2:(d.natAbs:Int)=d:=by omega
  rw[e,aI (by omega)];omega
def aas{n d:Int}(h:0<d)(h1: -1000000000000000000<=n)(h2:n<=1000000000000000000): -1000000000000000001<=n.tdiv d∧n.tdiv d<=1000000000000000001:=by
 have e:=V0 n d h;have a1:n/d<=1000000000000000000:=by refine Int.ediv_le_of_le_mul h ?_;have:=Int.mul_le_mul_of_nonneg_left (show 1<=d by omega) (show(0:Int)<=1000000000000000000 by decide);omega
 have a2: -1000000000000000000<=n/d:=by refine Int.le_ediv_of_mul_le h ?_;have:=Int.mul_le_mul_of_nonpos_left (show(-1000000000000000000:Int)<=0 by decide) (show 1<=d by omega);omega
 split at e<;>omega
def afo{n d:Int}(h:0<d)(h1: -1000000000000000000<=n)(h2:n<=1000000000000000000):zp n d=aa (n/d):=by
 obtain⟨b1,b2⟩:=aas h h1 h2;have e:=V0 n d h;unfold zp nJ lA;rw[aK (by omega),aK (by omega)];simp only[al];rw[zt (x:=n.tdiv d) (by omega) (by omega)];by_cases hm:n.tmod d<0
 ·rw[aI hm]at e;rw[dT hm,aI rfl,al,zt (by omega) (by omega),e]
 ·rw[aK hm]at e;rw[dF hm,aK (by decide),al,e]
def afn{n d:Int}(h:d≠0):Wp (zp n d) λ_=>True:=by unfold zp nJ lA;rw[aK h,aK h];simp only[al];refine Wp.bind (Q:=λ_=>True) ?_ λ_ _=>aq.2 trivial;exact Wp.ite (λ_=>aq.2 trivial) λ_=>aq.2 trivial
def afM{n d:Int}:Wp (if ak (n<(-1000000000000000000))=ab then aa ab else if ak (n>1000000000000000000)=ab then aa ab else if ak (d<1)=ab then aa ab else aa (ak (d>1000000000))) λc=>c=ae->(-1000000000000000000<=n∧n<=1000000000000000000)∧1<=d∧d<=1000000000:=by refine Wp.ite (λ_=>aq.2 λe=>by cases e) λh1=>?_;refine Wp.ite (λ_=>aq.2 λe=>by cases e) λh2=>?_;refine Wp.ite (λ_=>aq.2 λe=>by cases e) λh3=>aq.2 λh4=>?_;have h1:=mR h1;have h2:=mR h2;have h3:=mR h3;have h4:=mR h4;omega
def afN{n d:Int}(h1: -1000000000000000000<=n)(h2:n<=1000000000000000000)(h3:1<=d)(h4:d<=1000000000):(if ak (n<(-1000000000000000000))=ab then aa ab else if ak (n>1000000000000000000)=ab then aa ab else if ak (d<1)=ab then aa ab else aa (ak (d>1000000000)))=aa ae:=by rw[dF (show ¬n< -1000000000000000000 by omega),dF (show ¬n>1000000000000000000 by omega),dF (show ¬d<1 by omega),dF (show ¬d>1000000000 by omega)];rfl
def aD_(n d:Int):Wp (B8 n d) λ_=>True:=by unfold B8 PT;refine Wp.bind (Q:=λ_=>True) ?_ λ_ _=>aq.2 trivial;refine afM.bind λc hc=>Wp.ite (λ_=>aq.2 trivial) λh=>?_;exact(afn (by have:=hc h;omega)).bind λ_ _=>aq.2 trivial
def aD'{n d:Int}(h1: -1000000000000000000<=n)(h2:n<=1000000000000000000)(h3:1<=d)(h4:d<=1000000000):B8 n d=aa (n/d,0):=by unfold B8 PT;rw[afN h1 h2 h3 h4];simp only[al,aC,aB,afo (show 0<d by omega) h1 h2]
def alr(n d:Int):Wp (JF n d) λ_=>True:=by unfold JF X6;refine Wp.bind (Q:=λ_=>True) ?_ λ_ _=>aq.2 trivial;refine afM.bind λc hc=>Wp.ite (λ_=>aq.2 trivial) λh=>?_;obtain⟨_,d1,d2⟩:=hc h;unfold X9;rw[bX (x:=2*d) (by omega) (by omega)];refine Wp.bind (Q:=λ_=>True) ?_ λ_ _=>aq.2 trivial;exact(afn (by omega)).bind λ_ _=>aq.2 trivial
def aD4{n d:Int}(h1: -1000000000000000000<=n)(h2:n<=1000000000000000000)(h3:1<=d)(h4:d<=1000000000):PU n d=aa (-((-n)/d),0):=by
 unfold PU X7;rw[afN h1 h2 h3 h4];have hf:=afo (n:= -n) (d:=d) (by omega) (by omega) (by omega);have e:=V0 (-n) d (by omega);obtain⟨b1,b2⟩:=aas (n:= -n) (d:=d) (by omega) (by omega) (by omega);have hb: -1000000000000000002<=(-n)/d∧(-n)/d<=1000000000000000001:=by split at e<;>omega
 simp only[al,aC,aB,X8];rw[zt (x:= -n) (by omega) (by omega),hf];simp only[al];rw[zt (by omega) (by omega)]
def Tk(a:Int):Wp (v8 a) λx=>0<=x∧x<3600:=by
 unfold v8 lA;obtain⟨e,b1,b2⟩:=aoq a;rw[aK (by omega)];simp only[al];refine Wp.bind (Q:=λx=>0<=x∧x<3600) ?_ λx hx=>aq.2 hx;refine Wp.ite (λh=>aq.2 ?_) λh=>aq.2 ?_
 ·have h:=jJ h;rw[bX (by omega) (by omega)];omega
 ·have h:=mR h;omega
def Si(a:Int):Wp (Fv a) λ_=>True:=by unfold Fv;refine(Tk a).bind λx _=>?_;refine Wp.bind (Q:=λ_=>True) ?_ λy _=>(alr _ _).bind λ_ _=>aq.2 trivial;exact Wp.ite (λ_=>aq.2 trivial) λ_=>aq.2 trivial
def afX(a:Int):Wp (JJ a) λ_=>True:=by unfold JJ;refine(Tk a).bind λx _=>(Si _).bind λ_ _=>aq.2 trivial
def RH(a b:Int):Wp (Ft a b) λ_=>True:=by unfold Ft;refine Wp.bind (Q:=λ_=>True) ?_ λ_ _=>aq.2 trivial;exact Wp.ite (λ_=>aq.2 trivial) λ_=>aq.2 trivial
def afU(a x y:Int):Wp (JI a x y) λ_=>True:=by unfold JI;refine(RH x y).bind λc _=>Wp.ite (λ_=>aq.2 trivial) λ_=>?_;exact(afX a).bind λ_ _=>(Si a).bind λ_ _=>aq.2 trivial
def aah(a:Int):Wp (JH a) λc=>c=ab↔0<=a∧a<3600:=by
 unfold JH;by_cases h:a>=0
 ·rw[dT h];exact aq.2 (by rw[YX];omega)
 ·rw[dF h];exact aq.2 ⟨λe=>(by cases e),λe=>(by omega)⟩
def aDM(x:iP):Wp (Fu x) λ_=>True:=by unfold Fu;refine Wp.bind (Q:=λ_=>True) ?_ λ_ _=>aq.2 trivial;refine(aah _).bind λc _=>Wp.ite (λ_=>?_) λ_=>aq.2 trivial;refine(aah _).bind λc _=>Wp.ite (λ_=>?_) λ_=>aq.2 trivial;unfold X_;exact Wp.bind (Q:=λ_=>True) ((Tk _).bind λ_ _=>aq.2 trivial) λ_ _=>aq.2 trivial
def amQ(x:iP)(a b:Int):Wp (PZ x a b) λ_=>True:=by
 unfold PZ;refine Wp.bind (Q:=λ_=>True) ?_ λc _=>Wp.ite (λ_=>aq.2 trivial) λ_=>?_
 ·refine(aDM x).bind λc _=>Wp.ite (λ_=>aq.2 trivial) λ_=>?_;refine Wp.ite (λ_=>Wp.ite (λ_=>aq.2 trivial) λ_=>?_) λ_=>?_
  ·exact(RH a b).bind λ_ _=>aq.2 trivial
  ·exact(RH a b).bind λ_ _=>aq.2 trivial
 refine(afU _ _ _).bind λz _=>?_;refine Wp.bind (Q:=λ_=>True) ?_ λ_ _=>?_
 ·refine Wp.ite (λ_=>aq.2 trivial) λ_=>?_;exact(afX _).bind λ_ _=>(Si _).bind λ_ _=>aq.2 trivial
 refine Wp.bind (Q:=λ_=>True) ?_ λ_ _=>aq.2 trivial;refine Wp.ite (λ_=>?_) λ_=>aq.2 trivial;refine(afU _ _ _).bind λw _=>?_;exact Wp.ite (λ_=>aq.2 trivial) λ_=>aq.2 trivial
def aci{a b c:Int}:imax a b<=c↔a<=c∧b<=c:=by unfold imax;split<;>omega
def acq{a b c:Int}:c<=eD a b↔c<=a∧c<=b:=by unfold eD;split<;>omega
def lP(m x y:Int):Prop:=(-m<=x∧x<=m)∧(-m<=y∧y<=m)∧x*x+y*y<=m*m
def C5{x:Int}(h1: -10001<=x)(h2:x<=10001):0<=x*x∧x*x<=100020001:=by
 rcases Int.le_total 0 x with h|h
 ·refine⟨QI h h,?_⟩;have:=F7 h2 h2 h (by omega);omega
 ·have e:x*x=(-x)*(-x):=by rw[Int.neg_mul_neg]
  rw[e];refine⟨QI (by omega) (by omega),?_⟩;have:=F7 (show-x<=10001 by omega) (show-x<=10001 by omega) (show 0<= -x by omega) (by omega);omega
def Z6{t:b9}(m0:0<=t.Max)(m1:t.Max<=5000)(hf:t.n_.length<=1000){x y:Int}(x0: -10001<=x)(x1:x<=10001)(y0: -10001<=y)(y1:y<=10001):Wp (G0 t x y) λc=>c=ab->lP t.Max x y:=by
 obtain⟨q1,q2⟩:=C5 x0 x1;obtain⟨q3,q4⟩:=C5 y0 y1;obtain⟨q5,q6⟩:=C5 (x:=t.Max) (by omega) (by omega);unfold G0;rw[bX (x:= -t.Max) (by omega) (by omega),bX (x:=x*x) (by omega) (by omega),bX (x:=y*y) (by omega) (by omega),bX (x:=x*x+y*y) (by omega) (by omega),bX (x:=t.Max*t.Max) (by omega) (by omega)];refine Wp.bind (Q:=λc=>c=ae->lP t.Max x y) ?_ λc hc=>Wp.ite (λ_=>aq.2 λe=>by cases e) λh=>?_
 ·refine Wp.ite (λ_=>aq.2 λe=>by cases e) λh1=>?_;refine Wp.ite (λ_=>aq.2 λe=>by cases e) λh2=>?_;refine Wp.ite (λ_=>aq.2 λe=>by cases e) λh3=>?_;have h1:=aci.1 (Int.not_lt.1 (mR h1));have h2:=acq.1 (Int.not_lt.1 (mR h2));have h3:=Int.not_lt.1 (mR h3);have gI:lP t.Max x y:=⟨⟨h2.1,h1.1⟩,⟨h2.2,h1.2⟩,h3⟩;refine Wp.ite (λ_=>?_) λ_=>?_
  ·refine Wp.ite (λ_=>aq.2 λe=>by cases e) λ_=>?_;exact Wp.ite (λ_=>aq.2 λ_=>gI) λ_=>aq.2 λ_=>gI
  ·exact Wp.ite (λ_=>aq.2 λ_=>gI) λ_=>aq.2 λ_=>gI
 ·refine Wp.bind (Q:=λ_=>True) ?_ λ_ _=>aq.2 λ_=>hc h;unfold Sb R8;refine Wp.bind (Q:=λ_=>True) ?_ λ_ _=>aq.2 trivial;refine Wp.bind (Q:=λ_=>True) ?_ λr _=>by cases r<;>exact aq.2 trivial
  refine dy t.n_.length (λk s=>s=(k:Int)) rfl ?_ ?_
  ·rintro k s hk rfl;unfold R7 SC;simp only[aZ hk,aH,aM hk,al];refine Wp.bind (Q:=λ_=>True) ((amQ _ _ _).bind λ_ _=>aq.2 trivial) λc _=>?_;exact Wp.ite (λ_=>aq.2 trivial) λ_=>aq.2 (by show W _=_;rw[aY (by omega)])
  ·rintro s rfl;unfold R7;simp only[bC,aC,aB];exact aq.2 trivial
def zu(P:Int->Prop)(l h:Int):Prop:=(l<=0∧0<=h)∧((l=0∧h=0)∨∀z,l<=z->z<=h->P z)
def Z4{step:Int->Option (Int⊕Int)}{P:Int->Prop}{m:Int}(m0:0<=m)(m1:m<=5000)(hp:∀z,P z-> -m<=z)(h0:P 0)(hs:∀z,-5000<=z->z<=0->Wp (step z) λr=>(r= .inl (z-1)∧P (z-1))∨r= .inr z):Wp (aG step 0) λl=>l<=0∧∀z,l<=z->z<=0->P z:=by
 refine pn (λz=>(z+5000).toNat) (λz=>(-m<=z∧z<=0)∧∀w,z<=w->w<=0->P w) (λz hz=>?_) ⟨⟨by omega,by omega⟩,λw w1 w2=>by have:w=0:=(by omega);rw[this];exact h0⟩ (by omega);refine(hs z (by omega) hz.1.2).mono λr hr=>?_;rcases hr with⟨rfl,hP⟩|rfl
 ·have:=hp _ hP;refine⟨⟨⟨this,by omega⟩,λw w1 w2=>?_⟩,by omega⟩;by_cases hw:w=z-1
  ·rw[hw];exact hP
  ·exact hz.2 w (by omega) w2
 ·exact⟨hz.1.2,hz.2⟩
def ZS{step:Int->Option (Int⊕Int)}{P:Int->Prop}{m:Int}(m0:0<=m)(m1:m<=5000)(hp:∀z,P z->z<=m)(h0:P 0)(hs:∀z,0<=z->z<=5000->Wp (step z) λr=>(r= .inl (z+1)∧P (z+1))∨r= .inr z):Wp (aG step 0) λl=>0<=l∧∀z,0<=z->z<=l->P z:=by
 refine pn (λz=>(5000-z).toNat) (λz=>(0<=z∧z<=m)∧∀w,0<=w->w<=z->P w) (λz hz=>?_) ⟨⟨by omega,by omega⟩,λw w1 w2=>by have:w=0:=(by omega);rw[this];exact h0⟩ (by omega);refine(hs z hz.1.1 (by omega)).mono λr hr=>?_;rcases hr with⟨rfl,hP⟩|rfl
 ·have:=hp _ hP;refine⟨⟨⟨by omega,this⟩,λw w1 w2=>?_⟩,by omega⟩;by_cases hw:w=z+1
  ·rw[hw];exact hP
  ·exact hz.2 w w1 (by omega)
 ·exact⟨hz.1.1,hz.2⟩
def uD(t:b9):Prop:=(((1<=t.Kind∧t.Kind<=3)∧(0<=t.tv∧t.tv<=1)∧(0<=t.Max∧t.Max<=5000)∧(0<=t.wa∧t.wa<=5000)∧1<=t.fR∧t.fR<=100)∧t.n_.length<=4)∧∀x∈t.n_,Fu x=aa ab
def GR{a b c:Int}(h1:b<=a)(h2:a<=c):yf a b c=aa ab:=by unfold yf;rw[dT (show a>=b from h1),aI rfl,al,dT h2]
def Kr{t:b9}(h:uD t):Aa t=aa ab:=by
 obtain⟨⟨⟨⟨a1,a2⟩,⟨a3,a4⟩,⟨a5,a6⟩,⟨a7,a8⟩,a9,Fy⟩,hl⟩,hf⟩:=h;have hc:Lm t.n_=aa ae:=by
  have h:=dR (step:=GK t.n_) (r:= .inl ()) (λk=>(k:Int)) t.n_.length (λk hk=>by
   unfold GK SD;simp only[aZ hk,aH,aM hk,al,hf _ (cX hk),dP,aC,aB];rw[aY (by omega)]) (by
   unfold GK;simp only[bC,aC,aB]) (by omega)
  have h':aG (GK t.n_) 0=_:=h;unfold Lm R9;rw[h'];rfl
 unfold Aa;simp only[GR a1 a2,GR a3 a4,GR a5 a6,GR a7 a8,GR a9 Fy,al,aH,dT (show len t.n_<=4 by unfold len;omega),hc,Bool.not_false]
def amt{t:b9}(h:uD t):Wp (LJ t) λr=>zu (λy=>lP t.Max 0 y) r.1 r.2:=by
 have hm:=h.1.1.2.2.1;have ha:∀z,-10001<=z->z<=10001->Wp (Dq z t) λc=>c=ab->lP t.Max 0 z:=λz z0 z1=>by unfold Dq;exact(Z6 hm.1 hm.2 (by have:=h.1.2;omega) (by omega) (by omega) z0 z1).bind λc hc=>aq.2 hc
 unfold LJ SB;rw[Kr h];simp only[al,dP,aC,aB];refine Wp.bind (Q:=λr=>zu (λy=>lP t.Max 0 y) r.1 r.2) ?_ λr hr=>aq.2 hr;refine(ha 0 (by omega) (by omega)).bind λc hc=>Wp.ite (λ_=>aq.2 ⟨⟨oi _,oi _⟩,.inl ⟨rfl,rfl⟩⟩) λhn=>?_;have h0:=hc (by simpa using hn);refine(Z4 (P:=λy=>lP t.Max 0 y) (m:=t.Max) hm.1 hm.2 (λz hz=>hz.2.1.1) h0 λz z0 z1=>?_).bind λl hl=>?_
 ·unfold aa8;rw[bX (by omega) (by omega)];refine(ha _ (by omega) (by omega)).bind λc hc=>Wp.ite (λh=>aq.2 (.inl ⟨rfl,hc h⟩)) λ_=>aq.2 (.inr rfl)
 refine(ZS (P:=λy=>lP t.Max 0 y) (m:=t.Max) hm.1 hm.2 (λz hz=>hz.2.1.2) h0 λz z0 z1=>?_).bind λu hu=>?_
 ·unfold aa7;rw[bX (by omega) (by omega)];refine(ha _ (by omega) (by omega)).bind λc hc=>Wp.ite (λh=>aq.2 (.inl ⟨rfl,hc h⟩)) λ_=>aq.2 (.inr rfl)
 refine aq.2 ⟨⟨hl.1,hu.1⟩,.inr λz z1 z2=>?_⟩;by_cases hz:z<=0
 ·exact hl.2 z z1 hz
 ·exact hu.2 z (by omega) z2
def ams{t:b9}(h:uD t){y:Int}(y0: -10001<=y)(y1:y<=10001):Wp (LI t y) λr=>zu (λx=>lP t.Max x y) r.1 r.2:=by
 have hm:=h.1.1.2.2.1;have ha:∀z,-10001<=z->z<=10001->Wp (Dm z t y) λc=>c=ab->lP t.Max z y:=λz z0 z1=>by unfold Dm;exact(Z6 hm.1 hm.2 (by have:=h.1.2;omega) z0 z1 y0 y1).bind λc hc=>aq.2 hc
 unfold LI SA;rw[Kr h];simp only[al,dP,aC,aB];refine Wp.bind (Q:=λr=>zu (λx=>lP t.Max x y) r.1 r.2) ?_ λr hr=>aq.2 hr;refine(ha 0 (by omega) (by omega)).bind λc hc=>Wp.ite (λ_=>aq.2 ⟨⟨oi _,oi _⟩,.inl ⟨rfl,rfl⟩⟩) λhn=>?_;have h0:=hc (by simpa using hn);refine(Z4 (P:=λx=>lP t.Max x y) (m:=t.Max) hm.1 hm.2 (λz hz=>hz.1.1) h0 λz z0 z1=>?_).bind λl hl=>?_
 ·unfold aa6;rw[bX (by omega) (by omega)];refine(ha _ (by omega) (by omega)).bind λc hc=>Wp.ite (λh=>aq.2 (.inl ⟨rfl,hc h⟩)) λ_=>aq.2 (.inr rfl)
 refine(ZS (P:=λx=>lP t.Max x y) (m:=t.Max) hm.1 hm.2 (λz hz=>hz.1.2) h0 λz z0 z1=>?_).bind λu hu=>?_
 ·unfold aa5;rw[bX (by omega) (by omega)];refine(ha _ (by omega) (by omega)).bind λc hc=>Wp.ite (λh=>aq.2 (.inl ⟨rfl,hc h⟩)) λ_=>aq.2 (.inr rfl)
 refine aq.2 ⟨⟨hl.1,hu.1⟩,.inr λz z1 z2=>?_⟩;by_cases hz:z<=0
 ·exact hl.2 z z1 hz
 ·exact hu.2 z (by omega) z2
end
end Rx
namespace Rx
section
def Qs(s:fx):Prop:=((-5000<=s.jH∧s.jH<=s.i_)∧s.i_<=5000)∧1<=s.fR∧s.fR<=100
def P9(l:List fx):Prop:=l.length<=8∧∀i,i<l.length->Qs (gt l i)
def FP(l:List fx)(x:List Int):Prop:=x.length=l.length∧∀i,i<l.length->(gt l i).jH<=gt x i∧gt x i<=(gt l i).i_
def apJ{l:List fx}(h:P9 l):LB l=aa 0:=by
 have hl:=h.1;have hp:=dR (step:=GX l) (r:= .inl ()) (λk=>(k:Int)) l.length (λk hk=>by
  obtain⟨⟨⟨h1,h2⟩,h3⟩,h4,h5⟩:=h.2 k hk;unfold GX;simp only[aZ hk,aH,aM hk,al,dF (show ¬(gt l k).jH< -5000 by omega),dF (show ¬(gt l k).jH>(gt l k).i_ by omega),dF (show ¬(gt l k).i_>5000 by omega),dF (show ¬(gt l k).fR<1 by omega),dF (show ¬(gt l k).fR>100 by omega),aC,aB];rw[aY (by omega)]) (by
  unfold GX;simp only[bC,aC,aB]) (by omega)
 have h':aG (GX l) 0=_:=hp;unfold LB;rw[dF (show ¬len l>8 by unfold len;omega),aK (by decide),h'];rfl
def amf{l:List fx}(h:P9 l):Wp (LC l) λr=>r.2.2=0:=by
 have hl:=h.1;unfold LC;rw[apJ h];simp only[al,kG,aC,aB];refine Wp.bind (Q:=λ_=>True) ?_ λr _=>aq.2 rfl;refine dy l.length (λk s=>∃a c,s=(a,c,(k:Int))) ⟨0,0,rfl⟩ ?_ ?_
 ·rintro k s hk ⟨a,c,rfl⟩;unfold Ss;simp only[aZ hk,aH,aM hk,al];exact aq.2 ⟨_,_,by rw[aY (by omega)]⟩
 ·rintro s ⟨a,c,rfl⟩;unfold Ss;simp only[bC,aC,aB];exact aq.2 trivial
def azx{a lo hi:Int}(h:lo<=hi):lo<=imax lo (eD a hi)∧imax lo (eD a hi)<=hi:=by unfold imax eD;split<;>split<;>omega
def ZV{l:List fx}(h:P9 l)(aq_:Int):Wp (GW l aq_) λr=>FP l r.2:=by
 have hl:=h.1;unfold GW;refine Wp.bind (Q:=λ(r:Int×List Int)=>FP l r.2) ?_ λr hr=>aq.2 hr;refine dy l.length (λk s=>∃n x,s=(n,(k:Int),x)∧x.length=k∧∀i,i<k->(gt l i).jH<=gt x i∧gt x i<=(gt l i).i_) ⟨0,[],rfl,rfl,λi hi=>by omega⟩ ?_ ?_
 ·rintro k s hk ⟨n,x,rfl,e1,e2⟩;unfold Sp;simp only[aZ hk,aH,aM hk,al];refine(aD_ _ _).bind λf _=>?_;unfold JG;simp only[al];rw[cJ (by simp;omega)];simp only[al];have hc:=azx (a:=f.1) (h.2 k hk).1.1.2;refine aq.2 ⟨_,x++[imax (gt l k).jH (eD f.1 (gt l k).i_)],by rw[aY (by omega)],by rw[cW,e1];rfl,λi hi=>?_⟩;rw[oN (show i<x.length+1 by omega)];by_cases dV:i<x.length
  ·rw[aI dV];exact e2 i (by omega)
  ·rw[aK dV,show i=k by omega];exact hc
 ·rintro s ⟨n,x,rfl,e1,e2⟩;unfold Sp;simp only[bC,aC,aB];exact aq.2 ⟨e1,e2⟩
def Rg{l:List fx}(h:P9 l){total:Int}(t0: -500000<=total)(t1:total<=500000):Wp (Dk l total) λr=>FP l r.2.2:=by
 have hl:=h.1;unfold Dk;refine(amf h).bind λr hr=>?_;rw[hr];simp only[kG,aC,aB,dF (show ¬total< -500000 by omega),dF (show ¬total>500000 by omega),al,JG];refine Wp.bind (Q:=λ_=>True) ?_ λp _=>?_
 ·refine pn (λs=>(s.2-s.1).toNat) (λs=>(-1000200<=s.1∧s.1<=s.2)∧s.2<=1000200) (λs hs=>?_) ⟨⟨by decide,by decide⟩,by decide⟩ (by decide);obtain⟨a,c⟩:=s;simp only at hs;unfold aa0;by_cases aS:a<c
  ·simp only[dT aS,aH];rw[bX (x:=a+c) (by omega) (by omega),aD' (by omega) (by omega) (by omega) (by omega)];simp only[al];refine(ZV h _).bind λx _=>?_;refine Wp.bind (Q:=λs=>((-1000200<=s.1∧s.1<=s.2)∧s.2<=1000200)∧s.2-s.1<c-a) ?_ λs hs=>aq.2 ⟨hs.1,by(try simp only);omega⟩;refine Wp.ite (λ_=>aq.2 ⟨⟨⟨by simp only;omega,by simp only;omega⟩,by simp only;omega⟩,by simp only;omega⟩) λ_=>aq.2 ?_;rw[bX (by omega) (by omega)];exact⟨⟨⟨by simp only;omega,by simp only;omega⟩,by simp only;omega⟩,by simp only;omega⟩
  ·simp only[dF aS,aC,aB];exact aq.2 trivial
 refine(ZV h _).bind λx hx=>?_;refine Wp.bind (Q:=λx=>FP l x) ?_ λx hx=>aq.2 hx;refine dy l.length (λk s=>∃n x,s=(n,(k:Int),x)∧FP l x) ⟨_,x.2,rfl,hx⟩ ?_ ?_
 ·rintro k s hk ⟨n,x,rfl,e1,e2⟩;have H5:k<x.length:=by omega
  unfold St;simp only[aZ hk,aH,aM hk,aM H5,al,jK H5];refine Wp.bind (Q:=λc=>c=ab->gt x k<(gt l k).i_) ?_ λc hc=>?_
  ·refine Wp.ite (λ_=>?_) λ_=>aq.2 λe=>by cases e
   refine Wp.ite (λhh=>?_) λ_=>aq.2 λe=>by cases e
   unfold Sq;exact aq.2 λ_=>jJ hh
  refine Wp.bind (Q:=λs=>FP l s.2) ?_ λs hs=>aq.2 ⟨_,s.2,by rw[aY (by omega)],hs⟩;refine Wp.ite (λhh=>aq.2 ⟨by simpa using e1,λi hi=>?_⟩) λ_=>aq.2 ⟨e1,e2⟩;have h1:=hc hh;have h2:=e2 k hk;have h3:=h.2 k hk;show(gt l i).jH<=gt (x.set k (W (gt x k+1))) i∧gt (x.set k (W (gt x k+1))) i<=(gt l i).i_;rw[gV H5];by_cases dV:i=k
  ·rw[aI dV,dV,bX (by have:=h3.1;omega) (by have:=h3.1;omega)];omega
  ·rw[aK dV];exact e2 i hi
 ·rintro s ⟨n,x,rfl,e⟩;unfold St;simp only[bC,aC,aB];exact aq.2 e
def P7(M:List b9):Prop:=M.length<=8∧∀i,i<M.length->uD (gt M i)
def abk{t:b9}{P:Int->Prop}(h:uD t){l u:Int}(hr:zu P l u)(hp:∀z,P z-> -t.Max<=z∧z<=t.Max):Qs ⟨l,u,t.fR⟩:=by
 have hm:=h.1.1.2.2.1;have hc:=h.1.1.2.2.2.2;obtain⟨⟨h1,h2⟩,h3⟩:=hr;rcases h3 with⟨rfl,rfl⟩|h3
 ·exact⟨⟨⟨by show(-5000:Int)<=0;omega,by show(0:Int)<=0;omega⟩,by show(0:Int)<=5000;omega⟩,hc⟩
 ·have a1:=hp l (h3 l (oi _) (by omega));have a2:=hp u (h3 u (by omega) (oi _));exact⟨⟨⟨by show-5000<=l;omega,by show l<=u;omega⟩,by show u<=5000;omega⟩,hc⟩
def Qy(s:Int)(t:b9)(x:fx):Prop:=Qs x∧(if t.tv≠s then x.jH=0∧x.i_=0 else zu (λy=>lP t.Max 0 y) x.jH x.i_)
def ZY{M:List b9}(h:P7 M)(s:Int):Wp (Hm ⟨M,[]⟩ s) λl=>l.length=M.length∧∀i,i<M.length->Qy s (gt M i) (gt l i):=by
 have hl:=h.1;unfold Hm;refine Wp.bind (Q:=λ(l:List fx)=>l.length=M.length∧∀i,i<M.length->Qy s (gt M i) (gt l i)) ?_ λr hr=>aq.2 hr;refine dy M.length (λk st=>∃l,st=((k:Int),l)∧l.length=k∧∀i,i<k->Qy s (gt M i) (gt l i)) ⟨[],rfl,rfl,λi hi=>by omega⟩ ?_ ?_
 ·rintro k st hk ⟨l,rfl,e1,e2⟩;have ht:=h.2 k hk;unfold Ts;simp only[aZ hk,aH,aM hk,al];refine Wp.bind (Q:=λr=>∃x,r=l++[x]∧Qy s (gt M k) x) ?_ λr hr=>?_
  ·refine Wp.ite (λhs=>?_) λhs=>?_
   ·rw[cJ (by simp;omega)];refine aq.2 ⟨⟨0,0,(gt M k).fR⟩,rfl,⟨⟨⟨by show(-5000:Int)<=0;omega,by show(0:Int)<=0;omega⟩,by show(0:Int)<=5000;omega⟩,ht.1.1.2.2.2.2⟩,?_⟩;rw[aI (by simpa using hs)];exact⟨rfl,rfl⟩
   ·refine(amt ht).bind λr hr=>?_;unfold Tq;simp only[aM hk,al,show ak (len ([]:List fZ)>0)=ae from rfl,aC,aB];rw[cJ (by simp;omega)];refine aq.2 ⟨⟨r.1,r.2,(gt M k).fR⟩,rfl,abk ht hr λz hz=>hz.2.1,?_⟩;rw[aK (by simpa using hs)];exact hr
  ·obtain⟨x,rfl,hx⟩:=hr;refine aq.2 ⟨l++[x],by rw[aY (by omega)],by rw[cW,e1];rfl,λi hi=>?_⟩;rw[oN (show i<l.length+1 by omega)];by_cases dV:i<l.length
   ·rw[aI dV];exact e2 i (by omega)
   ·rw[aK dV,show i=k by omega];exact hx
 ·rintro st ⟨l,rfl,e1,e2⟩;unfold Ts;simp only[bC,aC,aB];exact aq.2 ⟨e1,e2⟩
def YO(t:b9)(y:Int)(x:fx):Prop:=Qs x∧zu (λz=>lP t.Max z y) x.jH x.i_
def amr{M:List b9}(h:P7 M){y:List Int}(hy:y.length=M.length)(hb:∀i,i<M.length-> -5000<=gt y i∧gt y i<=5000):Wp (MH ⟨M,[]⟩ y) λl=>l.length=M.length∧∀i,i<M.length->YO (gt M i) (gt y i) (gt l i):=by
 have hl:=h.1;unfold MH;refine Wp.bind (Q:=λ(l:List fx)=>l.length=M.length∧∀i,i<M.length->YO (gt M i) (gt y i) (gt l i)) ?_ λr hr=>aq.2 hr;refine dy M.length (λk st=>∃l,st=((k:Int),l)∧l.length=k∧∀i,i<k->YO (gt M i) (gt y i) (gt l i)) ⟨[],rfl,rfl,λi hi=>by omega⟩ ?_ ?_
 ·rintro k st hk ⟨l,rfl,e1,e2⟩;have ht:=h.2 k hk;unfold Tn;simp only[aZ hk,aH,aM hk,aM (show k<y.length by omega),al];refine(ams ht (by have:=hb k hk;omega) (by have:=hb k hk;omega)).bind λr hr=>?_;unfold Tp;simp only[aM hk,al,show ak (len ([]:List fZ)>0)=ae from rfl,aC,aB];rw[cJ (by simp;omega)];refine aq.2 ⟨l++[⟨r.1,r.2,(gt M k).fR⟩],by rw[aY (by omega)],by rw[cW,e1];rfl,λi hi=>?_⟩;rw[oN (show i<l.length+1 by omega)];by_cases dV:i<l.length
  ·rw[aI dV];exact e2 i (by omega)
  ·rw[aK dV,show i=k by omega];exact⟨abk ht hr λz hz=>hz.1,hr⟩
 ·rintro st ⟨l,rfl,e1,e2⟩;unfold Tn;simp only[bC,aC,aB];exact aq.2 ⟨e1,e2⟩
def xD(x:dG):Prop:=((0<=x.iO∧x.iO<=200)∧1<=x.ix∧x.ix<=200)∧P7 x.c_
def O3{x:dG}(h:xD x):u5 x=aa 0:=by
 obtain⟨⟨⟨h1,h2⟩,h3,h4⟩,hl,ht⟩:=h;have hc:Le x.c_=aa ae:=by
  have h:=dR (step:=GI x.c_) (r:= .inl ()) (λk=>(k:Int)) x.c_.length (λk hk=>by
   unfold GI Rt;simp only[aZ hk,aH,aM hk,al,Kr (ht k hk),dP,aC,aB];rw[aY (by omega)]) (by
   unfold GI;simp only[bC,aC,aB]) (by omega)
  have h':aG (GI x.c_) 0=_:=h;unfold Le RV;rw[h'];rfl
 unfold u5;rw[dF (show ¬len x.c_>8 by unfold len;omega),dF (show ¬eD x.iO x.ix<0 by unfold eD;split<;>omega),dF (show ¬imax x.iO x.ix>200 by unfold imax;split<;>omega)];simp only[aC,aB,dL (show x.ix≠0 by omega),ite_self,al,hc]
def al6{x:dG}(h:xD x){l:List fZ}(hl:l.length=x.c_.length):Wp (Kw x l) λ_=>True:=by
 have h8:=h.2.1;unfold Kw;rw[O3 h];simp only[al,kG,aC,aB,B4 (show len l=len x.c_ by unfold len;omega)];refine Wp.bind (Q:=λ_=>True) ?_ λr _=>by cases r<;>exact aq.2 trivial
 refine dy l.length (λk s=>∃z,s=((k:Int),z)) ⟨_,rfl⟩ ?_ ?_
 ·rintro k s hk ⟨z,rfl⟩;unfold Rs;simp only[aZ hk,aH,aM hk,al,aM (show k<x.c_.length by omega)];refine Wp.bind (Q:=λ_=>True) ?_ λc _=>Wp.ite (λ_=>aq.2 trivial) λ_=>?_
  ·unfold Gq;refine Wp.bind (Q:=λ_=>True) ?_ λ_ _=>aq.2 trivial;exact Wp.ite (λ_=>aq.2 trivial) λ_=>aq.2 trivial
  refine Wp.bind (Q:=λ_=>True) ?_ λc _=>aq.2 ⟨_,by rw[aY (by omega)]⟩;exact Wp.ite (λ_=>aq.2 trivial) λ_=>aq.2 trivial
 ·rintro s ⟨z,rfl⟩;unfold Rs;simp only[bC,aC,aB];exact aq.2 trivial
def Ri{l:List Int}{a c:Int}(hl:l.length<=1000)(h:∀i,i<l.length->a<=gt l i∧gt l i<=c):rV l a c=aa ab:=by
 have hp:=dR (step:=zX l a c) (r:= .inl ()) (λk=>(k:Int)) l.length (λk hk=>by
  have:=h k hk;unfold zX P2;simp only[aZ hk,aH,aM hk,al,dF (show ¬gt l k<a by omega),dF (show ¬gt l k>c by omega),aC,aB];rw[aY (by omega)]) (by
  unfold zX;simp only[bC,aC,aB]) (by omega)
 have h':aG (zX l a c) 0=_:=hp;unfold rV Lc KM;rw[h'];rfl
def AH(t:b9)(m:Int):b9:=⟨t.Kind,t.tv,eD t.Max (imax m 0),t.wa,t.fR,t.n_⟩
def asO{t:b9}(h:uD t){m:Int}(m0:0<=m):uD (AH t m)∧(AH t m).Max<=m:=by
 obtain⟨⟨⟨a1,a2,a3,a4⟩,hl⟩,hf⟩:=h;have e:0<=eD t.Max (imax m 0)∧eD t.Max (imax m 0)<=5000∧eD t.Max (imax m 0)<=m:=by unfold eD imax;split<;>split<;>omega
 exact⟨⟨⟨⟨a1,a2,⟨e.1,e.2.1⟩,a4⟩,hl⟩,hf⟩,e.2.2⟩
def amG{x:dG}(h:xD x){A:List Int}(hA:A.length=x.c_.length)(hb:∀i,i<A.length->0<=gt A i∧gt A i<=5000){Z:List Int}(hZ:Z.length=x.c_.length)(hz:∀i,i<Z.length-> -5000<=gt Z i∧gt Z i<=5000):Wp (P3 x A [] Z) λr=>(r.1=[]∧r.2.1=0)∧r.2.2.2.length=x.c_.length∧∀i,i<x.c_.length->gt r.2.2.2 i=AH (gt x.c_ i) (gt A i):=by
 have h8:=h.2.1;unfold P3;rw[O3 h];simp only[al,kG,aC,aB,B4 (show len A=len x.c_ by unfold len;omega),B4 (show len Z=len x.c_ by unfold len;omega),show ak (len ([]:List fZ)>0)=ae from rfl,Ri (show A.length<=1000 by omega) hb,Ri (show Z.length<=1000 by omega) hz,dP];refine Wp.bind (Q:=λr=>r.1=[]∧r.2.length=x.c_.length∧∀i,i<x.c_.length->gt r.2 i=AH (gt x.c_ i) (gt A i)) ?_ λr hr=>?_
 ·refine dy x.c_.length (λk s=>∃M,s=((k:Int),[],M)∧M.length=k∧∀i,i<k->gt M i=AH (gt x.c_ i) (gt A i)) ⟨[],rfl,rfl,λi hi=>by omega⟩ ?_ ?_
  ·rintro k s hk ⟨M,rfl,e1,e2⟩;unfold Yc Rr Sc;have eL:=(h.2.2 k hk).1.2;simp only[aZ hk,aH,aM hk,aM (show k<A.length by omega),al];rw[cJ (by simp;omega)];simp only[al];rw[cJ (by simp;omega)];refine aq.2 ⟨M++[AH (gt x.c_ k) (gt A k)],by rw[aY (by omega)];rfl,by rw[cW,e1];rfl,λi hi=>?_⟩;rw[oN (show i<M.length+1 by omega)];by_cases dV:i<M.length
   ·rw[aI dV];exact e2 i (by omega)
   ·rw[aK dV,show i=k by omega]
  ·rintro s ⟨M,rfl,e1,e2⟩;unfold Yc;simp only[bC,aC,aB];exact aq.2 ⟨rfl,e1,e2⟩
 ·have hL:aG (Yb [] Z) 0=aa (.inl ()):=oD (.done (by unfold Yb;rfl)) (by omega);rw[hL];exact aq.2 ⟨⟨hr.1,rfl⟩,hr.2⟩
def amK{x:dG}(h:xD x){A:List Int}(hA:A.length=x.c_.length)(hb:∀i,i<A.length->0<=gt A i∧gt A i<=5000){d:ml}(d1: -500000<=d.ee∧d.ee<=500000)(d2: -500000<=d.iO∧d.iO<=500000)(d3: -500000<=d.ix∧d.ix<=500000):Wp (P5 x A [] d) λ_=>True:=by
 have h8:=h.2.1;unfold P5;refine Wp.bind (Q:=λr=>(r.1=[]∧r.2.1=0)∧r.2.2.length=x.c_.length∧∀i,i<x.c_.length->gt r.2.2 i=AH (gt x.c_ i) (gt A i)) ?_ λr hr=>?_
 ·unfold X';rw[show len x.c_=((x.c_.length:Nat):Int)from rfl,yw (by omega)];simp only[al];refine(amG h hA hb (Z:=List.replicate x.c_.length 0) (by simp) λi hi=>by rw[BB (by simpa using hi)];omega).bind λr hr=>?_;rw[hr.1.2];have hw:rV [d.ee,d.iO,d.ix] (-500000) 500000=aa ab:=Ri (by simp) λi hi=>by
   match i,hi with
   |0,_=>exact d1
   |1,_=>exact d2
   |2,_=>exact d3
  simp only[QG,aH,hw,al,dP,aC,aB];exact aq.2 ⟨⟨hr.1.1,rfl⟩,hr.2⟩
 obtain⟨⟨e1,e2⟩,e3,e4⟩:=hr;obtain⟨r1,r2,M⟩:=r;simp only at e1 e2 e3 e4;subst e1 e2;have hM:P7 M:=⟨by omega,λi hi=>by rw[e4 i (by omega)];exact(asO (h.2.2 i (by omega)) (hb i (by omega)).1).1⟩;simp only[kG,aC,aB];refine(ZY hM 0).bind λl0 yR=>?_;refine(Rg ⟨by omega,λi hi=>(yR.2 i (by omega)).1⟩ d2.1 d2.2).bind λx3 h3=>?_;refine(ZY hM 1).bind λl1 ni=>?_;refine(Rg ⟨by omega,λi hi=>(ni.2 i (by omega)).1⟩ d3.1 d3.2).bind λx5 h5=>?_;have n3:=h3.1;have n5:=h5.1;have Ee:∀i,i<M.length->0<=(gt M i).Max∧(gt M i).Max<=5000:=λi hi=>(hM.2 i hi).1.1.2.2.1;have alU:∀i,i<M.length->lP (gt M i).Max 0 0:=λi hi=>by have:=Ee i hi;refine⟨⟨by omega,by omega⟩,⟨by omega,by omega⟩,?_⟩;have:=QI this.1 this.1;omega
 have hy:∀i,i<M.length->lP (gt M i).Max 0 (gt x5.2.2 i+gt x3.2.2 i):=λi hi=>by
  obtain⟨_,q0⟩:=yR.2 i hi;obtain⟨_,q1⟩:=ni.2 i hi;have b0:=h3.2 i (by omega);have b1:=h5.2 i (by omega);have b6:=(hM.2 i hi).1.1.2.1;have key:∀{l u z:Int},zu (λy=>lP (gt M i).Max 0 y) l u->l<=z->z<=u->lP (gt M i).Max 0 z:=λhr z1 z2=>by
   rcases hr.2 with⟨rfl,rfl⟩|hr
   ·rw[show _=(0:Int)from Int.le_antisymm z2 z1];exact alU i hi
   ·exact hr _ z1 z2
  by_cases hs:(gt M i).tv=0
  ·rw[aK (λhn=>hn hs)]at q0;rw[aI (by omega)]at q1;rw[show gt x5.2.2 i=0 by omega,Int.zero_add];exact key q0 b0.1 b0.2
  ·rw[aI hs]at q0;rw[aK (λhn=>hn (by omega))]at q1;rw[show gt x3.2.2 i=0 by omega,Int.add_zero];exact key q1 b1.1 b1.2
 refine Wp.bind (Q:=λy=>y.length=M.length∧∀i,i<M.length->lP (gt M i).Max 0 (gt y i)) ?_ λy Uf=>?_
 ·refine dy x5.2.2.length (λk s=>∃y,s=((k:Int),y)∧y.length=M.length∧(∀i,i<k->lP (gt M i).Max 0 (gt y i))∧∀i,k<=i->gt y i=gt x5.2.2 i) ⟨x5.2.2,rfl,by omega,λi hi=>by omega,λi _=>rfl⟩ ?_ ?_
  ·rintro k s hk ⟨y,rfl,f1,f2,f3⟩;have Ny:k<y.length:=by omega
   unfold Ye;simp only[aZ hk,aH,aM Ny,aM (show k<x3.2.2.length by omega),al,jK Ny];have gI:=hy k (by omega);have pN:=Ee k (by omega);rw[f3 k (bw _),bX (x:=gt x5.2.2 k+gt x3.2.2 k) (by have:=gI.2.1;omega) (by have:=gI.2.1;omega)];refine aq.2 ⟨y.set k (gt x5.2.2 k+gt x3.2.2 k),by rw[aY (by omega)],by simpa using f1,λi hi=>?_,λi hi=>?_⟩
   ·rw[gV Ny];by_cases dV:i=k
    ·rw[aI dV,dV];exact gI
    ·rw[aK dV];exact f2 i (by omega)
   ·rw[gV Ny,aK (by omega)];exact f3 i (by omega)
  ·rintro s ⟨y,rfl,f1,f2,f3⟩;unfold Ye;simp only[bC,aC,aB];exact aq.2 ⟨f1,λi hi=>f2 i (by omega)⟩
 have hyb:∀i,i<M.length-> -5000<=gt y i∧gt y i<=5000:=λi hi=>by have:=(Uf.2 i hi).2.1;have:=Ee i hi;omega
 refine(amr hM Uf.1 hyb).bind λl2 ud=>?_;refine(Rg ⟨by omega,λi hi=>(ud.2 i (by omega)).1⟩ d1.1 d1.2).bind λcF NU=>?_;have n14:=NU.1;have hy1:=Uf.1;refine Wp.bind (Q:=λs=>s.2.2.2.2.2.2.length=M.length) ?_ λs hs=>?_
 ·refine dy y.length (λk s=>∃z1 z2 z3 z4 z5 z6 T,s=((k:Int),z1,z2,z3,z4,z5,z6,T)∧T.length=k) ⟨0,0,0,0,0,0,[],rfl,rfl⟩ ?_ ?_
  ·rintro k s hk ⟨z1,z2,z3,z4,z5,z6,T,rfl,f1⟩;unfold Yd;simp only[aZ hk,aH,aM hk,aM (show k<cF.2.2.length by omega),al];rw[cJ (by simp;omega)];refine aq.2 ⟨z1,z2,z3,z4,z5,z6,T++[⟨gt cF.2.2 k,gt y k⟩],by rw[aY (by omega)],by rw[cW,f1];rfl⟩
  ·rintro s ⟨z1,z2,z3,z4,z5,z6,T,rfl,f1⟩;unfold Yd;simp only[bC,aC,aB];exact aq.2 (by(try simp only);omega)
 refine(al6 h (by rw[hs,e3])).bind λz _=>?_;unfold Ya;simp only[al];exact aq.2 trivial
end
end Rx
namespace Rx
section
variable {b:au} {p:aw} {l:List Int} {a:Int}
def pw(S c:Int):Int:= -((-(S*c))/1000)
def aq5{S c n:Int}(h:n<pw S c):1000*n<S*c:=by unfold pw at h;omega
def ami{t:b9}(h:uD t){x y:Int}(x0: -5000<=x)(x1:x<=5000)(y0: -5000<=y)(y1:y<=5000):Kx t ⟨x,y⟩=aa (pw (x*x+y*y) t.fR,0):=by obtain⟨q1,q2⟩:=C5 (x:=x) (by omega) (by omega);obtain⟨q3,q4⟩:=C5 (x:=y) (by omega) (by omega);obtain⟨c1,c2⟩:=h.1.1.2.2.2.2;have hm:0<=(x*x+y*y)*t.fR:=QI (by omega) (by omega);have UR:(x*x+y*y)*t.fR<=200040002*100:=F7 (by omega) c2 (by omega) (by decide);unfold Kx Gq;simp only[Kr h,al,dP,aC,aB];rw[dT (show imax x y<=5000 from aci.2 ⟨x1,y1⟩),aI rfl,dT (show eD x y>= -5000 from acq.2 ⟨x0,y0⟩)];simp only[al,dP,aC,aB];rw[bX (x:=x*x) (by omega) (by omega),bX (x:=y*y) (by omega) (by omega),bX (x:=x*x+y*y) (by omega) (by omega),bX (x:=(x*x+y*y)*t.fR) (by omega) (by omega),aD4 (by omega) (by omega) (by omega) (by omega)];rfl
def amc{n:Int}(h0:0<=n)(h1:n<=1000000000000000000):Wp (PV n) λr=>0<=r.1∧r.1*r.1<=n:=by
 unfold PV;rw[dF (show ¬n<0 by omega),aK (by decide),dF (show ¬n>1000000000000000000 by omega)];simp only[al,aC,aB];refine Wp.bind (Q:=λr=>0<=r∧r*r<=n) ?_ λr hr=>aq.2 hr;refine pn (λs=>(s.2-s.1).toNat) (λs=>((0<=s.1∧s.1<=s.2)∧s.2<=1000000000)∧s.1*s.1<=n) (λs hs=>?_) ⟨⟨⟨by decide,by decide⟩,by decide⟩,by simp;omega⟩ (by decide);obtain⟨c,d⟩:=s;simp only at hs;obtain⟨⟨⟨a0,a1⟩,a2⟩,a3⟩:=hs;unfold akH;by_cases aS:c<d
 ·simp only[dT aS,aH];rw[bX (x:=c+d) (by omega) (by omega),bX (x:=c+d+1) (by omega) (by omega),Ad (by omega) (by omega) (by omega)];obtain⟨m,hm⟩:∃m,(c+d+1)/2=m:=⟨_,rfl⟩;rw[hm];have m0:c<m∧m<=d:=by omega
  have mm:0<=m*m∧m*m<=1000000000*1000000000:=⟨QI (by omega) (by omega),F7 (by omega) (by omega) (by omega) (by decide)⟩;rw[al,bX (x:=m*m) (by omega) (by omega)];refine Wp.bind (Q:=λs=>(((0<=s.1∧s.1<=s.2)∧s.2<=1000000000)∧s.1*s.1<=n)∧s.2-s.1<d-c) ?_ λs hs=>aq.2 ⟨hs.1,by(try simp only);omega⟩;refine Wp.ite (λhh=>aq.2 ⟨⟨⟨⟨by simp only;omega,by simp only;omega⟩,by simp only;omega⟩,jJ hh⟩,by simp only;omega⟩) λ_=>aq.2 ?_;rw[bX (by omega) (by omega)];exact⟨⟨⟨⟨by simp only;omega,by simp only;omega⟩,by simp only;omega⟩,a3⟩,by simp only;omega⟩
 ·simp only[dF aS,aC,aB];exact aq.2 ⟨a0,a3⟩
def ao'{x y:Int}(hy:0<=y)(h:x*x<y*y):x<=y:=by apply gD;intro hn;have:=F7 (show y<=x by omega) (show y<=x by omega) hy (by omega);omega
def amp{t:b9}(h:uD t){gH:Int}(l0:0<=gH)(l1:gH<=100000):Wp (Ky t gH) λr=>0<=r∧r<=t.Max:=by obtain⟨m0,m1⟩:=h.1.1.2.2.1;obtain⟨c1,c2⟩:=h.1.1.2.2.2.2;unfold Ky;rw[ami h (by omega) (by omega) (by omega) (by omega)];simp only[al,kG,aC,aB,dF (show ¬gH<0 by omega)];refine Wp.ite (λhh=>aq.2 ⟨m0,oi _⟩) λhh=>?_;have hh:¬gH>=pw (t.Max*t.Max+0*0) t.fR:=mR hh;rw[show t.Max*t.Max+0*0=t.Max*t.Max by omega]at hh;have aS:=aq5 (Int.not_le.1 hh);rw[bX (x:=1000*gH) (by omega) (by omega),Ad (by omega) (by omega) (by omega)];simp only[al];have q1:1000*gH/t.fR<t.Max*t.Max:=Int.ediv_lt_of_lt_mul (by omega) aS;have q0:0<=1000*gH/t.fR:=Int.ediv_nonneg (by omega) (by omega);have q3:=(C5 (x:=t.Max) (by omega) (by omega)).2;exact(amc q0 (by omega)).bind λr hr=>aq.2 ⟨hr.1,ao' m0 (by omega)⟩
def atx(hb:Sm b.ay)(i:Nat):Wp (KQ b.ay (i:Int)) λr=>r<0∨∃c:Nat,r=(c:Int)∧c<b.ay.length:=by
 unfold KQ;refine Wp.bind (Q:=λr:Unit⊕Int=>r= .inl ()∨∃c:Nat,r= .inr (c:Int)∧c<b.ay.length) ?_ λr hr=>?_
 ·refine dy b.ay.length (λk s=>s=(k:Int)) rfl ?_ ?_
  ·rintro k s hk rfl;unfold R6 S4;simp only[aZ hk,aH,aM hk,al];exact Wp.ite (λhh=>aq.2 (.inr ⟨k,rfl,hk⟩)) λhh=>aq.2 (by rw[aY (eT hb hk)])
  ·rintro s rfl;unfold R6;simp only[bC,aC,aB];exact aq.2 (.inl rfl)
 ·rcases hr with rfl|⟨c,rfl,hc⟩
  ·exact aq.2 (.inl (by decide))
  ·exact aq.2 (.inr ⟨c,rfl,hc⟩)
def amM(hb:fw b)(v:ny b p){x:dG}(hx:xD x):Wp (Mn x b p) λr=>r.1=0∧r.2.length=x.c_.length∧∀i,i<x.c_.length->0<=gt r.2 i∧gt r.2 i<=5000:=by
 obtain⟨⟨hl,hg⟩,⟨s1,s2,s3⟩,_,_,g3⟩:=fi.1 v.2;have h8:=hx.2.1;unfold Mn;rw[O3 hx,xZ hb v.1,v.2,show len x.c_=((x.c_.length:Nat):Int)from rfl,yw (by omega)];simp only[al,kG,aC,aB];refine Wp.bind (Q:=λA=>A.length=x.c_.length∧∀i,i<x.c_.length->0<=gt A i∧gt A i<=5000) ?_ λA hA=>aq.2 ⟨rfl,hA⟩;refine dy x.c_.length (λk s=>∃A,s=((k:Int),A)∧A.length=x.c_.length∧∀i,i<x.c_.length->0<=gt A i∧gt A i<=5000) ⟨_,rfl,by simp,λi hi=>?_⟩ ?_ ?_
 ·rw[BB hi];exact⟨by decide,by decide⟩
 ·rintro k s hk ⟨A,rfl,hA⟩;have UZ:k<A.length:=by have:=hA.1;omega
  unfold S3;simp only[aZ hk,aH,aM hk,al];refine(atx hb.2.2.1 k).bind λc0 Il=>?_;refine Wp.bind (Q:=λs=>s=ab->0<=c0) ?_ λs hs=>?_
  ·refine Wp.ite (λh=>?_) λ_=>aq.2 λh=>by cases h
   have h:c0>=0:=jJ h;rcases Il with h'|⟨c,rfl,hc⟩
   ·omega
   ·rw[apO hb v.1 v.2 (c:=(c:Int)) (by omega)];exact aq.2 λ_=>h
  ·refine Wp.bind (Q:=λA=>A.length=x.c_.length∧∀i,i<x.c_.length->0<=gt A i∧gt A i<=5000) ?_ λA hA=>aq.2 ⟨A,by rw[aY (by omega)],hA⟩;refine Wp.ite (λh=>?_) λ_=>aq.2 hA;have h0:=hs h;rcases Il with h'|⟨c,rfl,hc⟩
   ·omega
   have UU:=(g3 c (by omega)).1;have jk:=(hg.2.2.2.2 c hc).2.1;rw[aM (show c<p.aT.length by omega)];refine(amp (hx.2.2 k hk) UU.1 (by omega)).bind λr hr=>?_;simp only[aM UZ,jK UZ,al];have hm:=(hx.2.2 k hk).1.1.2.2.1;refine aq.2 ⟨by simpa using hA.1,λi hi=>?_⟩;rw[gV UZ];split
   ·omega
   ·exact hA.2 i hi
 ·rintro s ⟨A,rfl,hA⟩;unfold S3;simp only[bC,aC,aB];exact aq.2 hA
