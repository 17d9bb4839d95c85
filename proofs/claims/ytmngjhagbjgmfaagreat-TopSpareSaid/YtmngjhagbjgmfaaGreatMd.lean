import Derived.Test.YtmngjhagbjgmfaaGreatMc
set_option linter.all false
open Bool renaming false->ai,false_eq_true->aE,not_true->ei,true->ab
open Classical renaming byContradiction->gC,not_not->r_
open Decidable renaming decide->al
open Int renaming le_refl->n_,mul_le_mul->FB,mul_nonneg->PU
open List renaming getD_eq_getElem?_getD->uJ,length_append->cW,length_cons->jR,length_singleton->Js,mem_append->bA,mem_singleton->eb,pairwise_iff_getElem->B6
open Nat renaming le_refl->bx
open Option renaming bind_none->Ya,bind_some->aq,some->aa
noncomputable section
namespace Go.Proofs.YtmngjhagbjgmfaaGreat
open Go Go.RowKit Dp
namespace Rx
open Classical
section
variable {b:aw} {p:ax}
end
end Rx
namespace Rx
open Classical
section
variable {b:aw} {p:ax}
def bk(b:aw)(j:Nat):Nat:=if h:∃k,k<b.ae.length∧oB (gt b.ae k) j∧∀i,i<b.ae.length->oB (gt b.ae i) j->i=k then h.choose else 0
def nl(b:aw)(q:ax):Prop:=dt q∧bj b q=0
def alL(v:nl b p){S:List bo}(hl:S.length=p.aj.length)(hr:∀k,k<S.length->gV (gt S k)):nl b ⟨p.aG,S,p.aX,p.aS⟩:=⟨⟨v.1.1,by have:=v.1.2.1;unfold Sm at*;simp only;omega,v.1.2.2.1,v.1.2.2.2⟩,ZM v.2 rfl hl rfl rfl hr⟩
def Zq(v:nl b p){j:Nat}(hj:j<p.aj.length){x:bo}(hx:gV x):nl b ⟨p.aG,p.aj.set j x,p.aX,p.aS⟩:=by
 refine alL v (by simp) λk hk=>?_;rw[gH hj];split
 ·exact hx
 ·exact(fh.1 v.2).2.2.2.1 k (by simpa using hk)
def alM(v:nl b p){j:Nat}(hj:j<p.aj.length):gV (gt p.aj j):=(fh.1 v.2).2.2.2.1 j hj
abbrev WR:=Int×Int×List cH×List Source×List Consumer×Int×Int×Int×List Bool×List bo×List Int×List Part
def uS(r:WR):ax:=⟨r.2.2.2.2.2.2.2.2.1,r.2.2.2.2.2.2.2.2.2.1,r.2.2.2.2.2.2.2.2.2.2.1,r.2.2.2.2.2.2.2.2.2.2.2⟩
def qT(b:aw)(x:Part):Prop:=0<=x.Number∧x.Number<=bsize b x.Kind-1
def aa9(hl:gn b){x:Part}(h:qT b x):(1<=x.Kind∧x.Kind<=4)∧0<=x.Number∧x.Number<=24:=by have h1:=hl.src;have h2:=hl.da;have h3:=hl.iO;have h4:=hl.jg;obtain⟨h5,h6⟩:=h;unfold bsize at h6;repeat' split at h6;all_goals omega
def O2{x y z:Part}(h:before x y)(h':before y z):before x z:=by unfold before at*;omega
def ajn{l:List Part}:(∀k,k<l.length->oS b l k)↔(∀x∈l,qT b x)∧l.Pairwise before:=by
 constructor
 ·intro h;refine⟨λx hx=>?_,B6.2 λi j hi hj iM=>?_⟩
  ·obtain⟨k,hk,rfl⟩:=ou hx;exact(h k hk).1
  ·rw[<-fJ hi,<-fJ hj];have key:∀m,i+1+m<l.length->before (gt l i) (gt l (i+1+m)):=λm=>by
    induction m with
    |zero=>exactλhm=>(h (i+1) hm).2 (by omega)
    |succ m ih=>exactλhm=>O2 (ih (by omega)) ((h (i+1+(m+1)) hm).2 (by omega))
   have:=key (j-i-1) (by omega);rwa[show i+1+(j-i-1)=j by omega]at this
 ·rintro⟨h1,h2⟩ k hk;refine⟨h1 _ (dx hk),λh0=>?_⟩;have:=B6.1 h2 (k-1) k (by omega) hk (by omega);rwa[<-fJ,<-fJ]at this
def aaZ{x y:Part}(hx:(1<=x.Kind∧x.Kind<=4)∧0<=x.Number∧x.Number<=24)(hy:(1<=y.Kind∧y.Kind<=4)∧0<=y.Number∧y.Number<=24):∃c:Int,Gy x y=aa c∧(c<0↔before x y)∧(c=0↔x=y):=by
 unfold Gy before;obtain⟨k,n⟩:=x;obtain⟨k',n'⟩:=y;simp only[Part.mk.injEq]at*;by_cases h:k=k'
 ·rw[BK h];simp only[aE,aD,bZ (show-1000000000000000000<=n-n' by omega) (by omega)];exact⟨_,rfl,by omega,by omega⟩
 ·rw[W9 h];simp only[aI,bZ (show-1000000000000000000<=k-k' by omega) (by omega)];exact⟨_,rfl,by omega,by omega⟩
def au'{x:Int}(h0:0<=x)(h1:x<=1000000000):wD 64 (ru IntKind.u64 (W x)) 1=aa (x/2):=by
 have e1:W x=x:=bZ (by omega) (by omega);have e2:IntKind.u64.wrap x=x:=by have hb:IntKind.u64.bits=64:=rfl;simp[IntKind.wrap,hb,IntKind.signed];omega
 show(if(1:Int)<0 then none else aa ((IntKind.u64.wrap (W x)).fdiv (2^min (1:Int).toNat 64)))=_;rw[e1,e2,aL (by omega)];cR 1;show x.fdiv (2^1)=x/2;rw[Int.fdiv_eq_ediv_of_nonneg _ (by decide)];rfl
def ak4(hl:gn b){l:List Part}(h1:∀x∈l,qT b x)(h2:l.Pairwise before)(h3:l.length<=32){x:Part}(hx:qT b x):∃k:Nat,k<=l.length∧(∀i,i<k->before (gt l i) x)∧(∀i,k<=i->i<l.length->¬before (gt l i) x)∧KC l x=aa ((k:Int),dB (k<l.length∧gt l k=x)):=by
 have vK:=aa9 hl hx;have uo:∀q,q<l.length->(1<=(gt l q).Kind∧(gt l q).Kind<=4)∧0<=(gt l q).Number∧(gt l q).Number<=24:=λq hq=>aa9 hl (h1 _ (dx hq));have JZ:∀i j,i<j->j<l.length->before (gt l i) (gt l j):=λi j iM hj=>by have:=B6.1 h2 i j (by omega) hj iM;rwa[<-fJ,<-fJ]at this
 have w7:Wp (aJ (Rl l x) (0,len l)) λr=>∃k:Nat,r=(k:Int)∧k<=l.length∧(∀i,i<k->before (gt l i) x)∧∀i,k<=i->i<l.length->¬before (gt l i) x:=by
  refine tH (λs=>(s.2-s.1).toNat) (λs=>∃i j:Nat,s=((i:Int),(j:Int))∧i<=j∧j<=l.length∧(∀q,q<i->before (gt l q) x)∧∀q,j<=q->q<l.length->¬before (gt l q) x) (λs hs=>?_) ⟨0,l.length,rfl,Nat.zero_le _,bx _,λp hp=>by omega,λp h1 h2=>by omega⟩ (by simp only[len];omega);obtain⟨i,j,rfl,iM,hj,h1,h2⟩:=hs;unfold Rl;try simp only
  by_cases aV:i<j
  ·obtain⟨q,hq⟩:∃q:Nat,((i:Int)+(j:Int))/2=(q:Int):=⟨(i+j)/2,by omega⟩;have hq1:i<=q∧q<j:=by omega
   have HW:W (q:Int)=q:=bZ (by omega) (by omega);obtain⟨c,c1,c2,_⟩:=aaZ (uo q (by omega)) vK;simp only[dT (c:=(i:Int)<(j:Int)) (by omega),aI];rw[au' (by omega) (by omega),hq];simp only[aq,HW,aP (show q<l.length by omega),c1];by_cases hc:c<0
   ·simp only[dT hc,aI,aq];rw[ba (by omega)];refine au.2 ⟨⟨q+1,j,rfl,by omega,hj,λp hp=>?_,h2⟩,by simp only;omega⟩;by_cases l_:p=q
    ·rw[l_];exact c2.1 hc
    ·exact O2 (JZ p q (by omega) (by omega)) (c2.1 hc)
   ·simp only[dF hc,aE,aD,aq];refine au.2 ⟨⟨i,q,rfl,by omega,by omega,h1,λp hp ql hb=>hc (c2.2 ?_)⟩,by simp only;omega⟩;by_cases l_:p=q
    ·rw[<-l_];exact hb
    ·exact O2 (JZ q p (by omega) ql) hb
  ·have hje:j=i:=by omega
   subst hje;simp only[dF (c:=(j:Int)<(j:Int)) (by omega),aE,aD];exact au.2 ⟨j,rfl,hj,h1,h2⟩
 obtain⟨r,hr,k,rfl,hk,k1,k2⟩:=w7;refine⟨k,hk,k1,k2,?_⟩;unfold KC;simp only[hr,aq];by_cases sK:k<l.length
 ·obtain⟨c,c1,_,c3⟩:=aaZ (uo k sK) vK;simp only[bb sK,aI,aP sK,c1,aq];cR 2;refine axQ ?_;rw[xw,c3];exact⟨λe=>⟨sK,e⟩,λe=>e.2⟩
 ·rw[dF (c:=(k:Int)<len l) (by unfold len;omega)];simp only[aE,aD,aq];rw[gU (λhh=>sK hh.1)]
def anm{l:List Part}{k:Nat}{y:Part}(h:y∈l.take k)(hk:k<=l.length):∃i,i<k∧gt l i=y:=(Dk hk).1 h
def axG{l:List Part}{k:Nat}{y:Part}(h:y∈l.drop k):∃i,k<=i∧i<l.length∧gt l i=y:=by obtain⟨i,hi,e⟩:=ou h;rw[List.length_drop]at hi;refine⟨k+i,by omega,by omega,?_⟩;rw[<-e];unfold gt;rw[uJ,uJ,List.getElem?_drop]
def y7(l:List Part)(k:Nat)(x:Part):List Part:=l.take k++[x]++l.drop k
def IM(l:List Part)(k:Nat):List Part:=l.take k++l.drop (k+1)
def aB6{l:List Part}(h1:∀x∈l,qT b x)(h2:l.Pairwise before){x:Part}(hx:qT b x){k:Nat}(hk:k<=l.length)(k1:∀i,i<k->before (gt l i) x)(k2:∀i,k<=i->i<l.length->¬before (gt l i) x)(k3:¬(k<l.length∧gt l k=x)):(∀y∈y7 l k x,qT b y)∧(y7 l k x).Pairwise before:=by
 have tot:∀y:Part,¬before y x->y≠x->before x y:=λy n1 n2=>by unfold before at*;obtain⟨a,c⟩:=y;obtain⟨a',c'⟩:=x;simp only[ne_eq,Part.mk.injEq]at*;omega
 have JZ:∀i j,i<j->j<l.length->before (gt l i) (gt l j):=λi j iM hj=>by have:=B6.1 h2 i j (by omega) hj iM;rwa[<-fJ,<-fJ]at this
 have qQ:∀y∈l.drop k,before x y:=λy hy=>by
  obtain⟨i,i1,i2,rfl⟩:=axG hy;refine tot _ (k2 i i1 i2) λe=>?_;by_cases eN:i=k
  ·subst eN;exact k3 ⟨i2,e⟩
  ·have:=JZ k i (by omega) i2;rw[e]at this;exact k2 k (bx _) (by omega) this
 have fst:∀y∈l.take k,before y x:=λy hy=>by obtain⟨i,i1,rfl⟩:=anm hy hk;exact k1 i i1
 refine⟨λy hy=>?_,?_⟩
 ·unfold y7 at hy;rw[bA,bA]at hy;rcases hy with(hy|hy)|hy
  ·exact h1 y (List.mem_of_mem_take hy)
  ·rw[eb.1 hy];exact hx
  ·exact h1 y (List.mem_of_mem_drop hy)
 ·unfold y7;rw[List.append_assoc,List.pairwise_append];refine⟨h2.sublist (List.take_sublist _ _),?_,λy hy z hz=>?_⟩
  ·rw[List.pairwise_append];refine⟨List.pairwise_singleton _ _,h2.sublist (List.drop_sublist _ _),λy hy z hz=>?_⟩;rw[eb.1 hy];exact qQ z hz
  ·rw[bA]at hz;rcases hz with hz|hz
   ·rw[eb.1 hz];exact fst y hy
   ·exact O2 (fst y hy) (qQ z hz)
def aB5{l:List Part}(h1:∀x∈l,qT b x)(h2:l.Pairwise before)(k:Nat):(∀y∈IM l k,qT b y)∧(IM l k).Pairwise before:=by
 have hs:(IM l k).Sublist l:=by have h3:(l.take k++l.drop (k+1)).Sublist (l.take k++l.drop k):=List.Sublist.append (List.Sublist.refl _) (by rw[show k+1=k+1 from rfl,<-List.drop_drop];exact List.drop_sublist _ _);rwa[List.take_append_drop]at h3
 exact⟨λy hy=>h1 y (hs.subset hy),h2.sublist hs⟩
end
end Rx
namespace Rx
open Classical
section
variable {b:aw} {p:ax}
def Zr(v:nl b p){l:List Part}(h:(∀x∈l,qT b x)∧l.Pairwise before)(hl:l.length<=32):nl b ⟨p.aG,p.aj,p.aX,l⟩:=by obtain⟨hp,h0⟩:=v;obtain⟨h2,hs,g1,g2,g3⟩:=fh.1 h0;refine⟨⟨hp.1,hp.2.1,hp.2.2.1,by unfold Sm;simp only;omega⟩,fh.2 ⟨h2,hs,⟨ajn.2 h,hl⟩,g2,λk hk=>?_⟩⟩;obtain⟨f1,f2⟩:=g3 k hk;refine⟨f1,?_⟩;have e:eU b ⟨p.aG,p.aj,p.aX,l⟩ (k:Int) b.ae.length=eU b p (k:Int) b.ae.length:=Iw λi _ _ _=>rfl;rw[e];exact f2
def ako(x:Part)(q:ax):Prop:=x∈q.aS∧(x.Kind=1->(gt q.aj x.Number.toNat).State=3)
def als(hb:fu b)(v:nl b p){t:Int}{x:Part}(hx:qT b x)(br:Bool):Wp (JG ⟨b,p,t⟩ x br) λr=>r.1=0->nl b (uS r)∧(br=ab->ako x (uS r)):=by
 obtain⟨⟨hl,hg⟩,⟨s1,s2,s3⟩,⟨g1,g2⟩,g3,g4⟩:=fh.1 v.2;obtain⟨b1,b2⟩:=ajn.1 g1;obtain⟨k,hk,k1,k2,hf⟩:=ak4 hl b1 b2 g2 hx;unfold JG;simp only[hf,aq];refine Wp.ite (λ_=>au.2 λe=>by cases e) λh1=>?_;refine Wp.bind (Q:=λc=>c=ai->br=ab->p.aS.length<32) ?_ λc hc=>?_
 ·refine Wp.ite (λ_=>au.2 λe _=>?_) λh=>au.2 λ_ e=>by rw[e]at h;cases h
  have:=pQ e;unfold len at this;omega
 refine Wp.ite (λ_=>au.2 λe=>by cases e) λh2=>?_;have hc:=hc h2;refine Wp.bind (Q:=λy=>nl b ⟨p.aG,p.aj,p.aX,y.2.2.2.2.2.2.2⟩∧(br=ab->x∈y.2.2.2.2.2.2.2)) ?_ λy hy=>?_
 ·refine Wp.ite (λnP=>?_) λnP=>?_
  ·have nJ:¬(k<p.aS.length∧gt p.aS k=x):=λhn=>by
    rw[iN hn,nP]at h1;cases h1
   have auc:J5 p.aS (k:Int) [x]=aa (y7 p.aS k x):=by unfold J5 G7;rw[cK (by simp;omega)];simp[len,hk,y7]
   rw[auc];refine au.2 ⟨Zr v (aB6 b1 b2 hx hk k1 k2 nJ) ?_,λ_=>by unfold y7;simp⟩;have:=hc nP;unfold y7;simp;omega
  ·have sK:k<p.aS.length∧gt p.aS k=x:=by
    refine gC λhn=>?_;rw[gU hn,nP]at h1;cases h1
   have hd:Ki p.aS (k:Int) (W ((k:Int)+1))=aa (IM p.aS k):=by rw[ba (by omega)];unfold Ki Io;rw[show al ((0:Int)<=(k:Int))=ab from dT (by omega),show al ((k:Int)<=((k+1:Nat):Int))=ab from dT (by omega),show al (((k+1:Nat):Int)<=len p.aS)=ab from dT (by unfold len;omega)];rfl
   rw[hd];refine au.2 ⟨Zr v (aB5 b1 b2 k) ?_,λe=>by rw[nP]at e;cases e⟩;unfold IM;simp;omega
 ·obtain⟨vy,my⟩:=hy;refine Wp.bind (Q:=λS=>nl b ⟨p.aG,S,p.aX,y.2.2.2.2.2.2.2⟩∧(br=ab->x.Kind=1->(gt S x.Number.toNat).State=3)) ?_ λS hS=>au.2 λ_=>⟨hS.1,λe=>⟨my e,hS.2 e⟩⟩;refine Wp.ite (λeI=>?_) λeI=>au.2 ⟨vy,λ_ e=>by rw[gm e]at eI;cases eI⟩;have eI:x.Kind=1:=by simpa using eI
  obtain⟨n0,n1⟩:=hx;unfold bsize at n1;rw[aH eI]at n1;obtain⟨j,hj⟩:=Int.eq_ofNat_of_zero_le n0;have hj:x.Number=(j:Int):=hj;have dj:j<p.aj.length:=by omega
  have vD:∀z,j<(p.aj.set j z).length:=λz=>by simpa using dj
  have hr:=alM v dj;simp only[hj,aP dj,jC dj,aq,aP (vD _),jC (vD _),gH dj,aH,List.set_set,Int.toNat_natCast];refine Wp.bind (Q:=λS=>nl b ⟨p.aG,S,p.aX,y.2.2.2.2.2.2.2⟩∧(br=ab->(gt S j).State=3)) ?_ λS hS=>au.2 ⟨hS.1,λe _=>hS.2 e⟩;refine Wp.ite (λnP=>au.2 ⟨Zq vy dj ?_,λ_=>by rw[gH dj,aH rfl]⟩) λnP=>au.2 ⟨Zq vy dj ?_,λe=>by rw[nP]at e;cases e⟩
  ·unfold gV at*;simp only;omega
  ·unfold gV at*;simp only;omega
def ap6(k n:Int):wG b k n=aa (al (0<=n∧n<bsize b k)):=by
 have key:∀z:Int,(Option.bind (if al (n>=0)=ab then aa (al (n<z))else aa ai) λx5=>aa x5)=aa (al (0<=n∧n<z)):=λz=>by
  by_cases h:0<=n
  ·simp[h]
  ·simp[h]
 unfold wG bsize;by_cases h1:k=1
 ·simp only[h1,X',aI,aq];exact key _
 by_cases h2:k=2
 ·subst h2;exact key _
 by_cases h3:k=3
 ·subst h3;exact key _
 by_cases h4:k=4
 ·subst h4;exact key _
 rw[dI h1,dI h2,dI h3,dI h4,aL h1,aL h2,aL h3,aL h4];exact key _
def alm{a:Act}(h:a.Kind=8):Wp (KZ b a) λc=>c=ab->qT b ⟨a.Value,a.Unit⟩:=by unfold KZ qT;have n:∀k:Int,k≠8->(a.Kind==k)=ai:=λk hk=>dI (by omega);simp only[ap6,n 1 (by omega),n 2 (by omega),n 3 (by omega),n 4 (by omega),n 5 (by omega),n 6 (by omega),gm h,aE,aD,aI,aq];refine au.2 λhc=>?_;have hc:=jA hc;exact⟨hc.1,by have:=hc.2;(try simp only);omega⟩
def v8(b:aw)(a:Act)(q:ax):Prop:=nl b q∧(a.Kind=8->ako ⟨a.Value,a.Unit⟩ q)
def akU(hb:fu b)(v:nl b p){t:Int}{a:Act}(h8:a.Kind=8)(hx:qT b ⟨a.Value,a.Unit⟩):Wp (JH ⟨b,p,t⟩ a) λr=>r.1=0->v8 b a (uS r):=by unfold JH;have n:∀k:Int,k≠8->(a.Kind==k)=ai:=λk hk=>dI (by omega);simp only[n 1 (by omega),n 2 (by omega),n 3 (by omega),n 4 (by omega),n 5 (by omega),n 6 (by omega),n 7 (by omega),aE,aD];refine Wp.bind (Q:=λ(r:WR)=>r.1=0->v8 b a (uS r)) ?_ λr h=>au.2 h;refine Wp.bind (Q:=λ(r:WR)=>r.1=0->v8 b a (uS r)) ?_ λr h=>au.2 h;refine Wp.bind (Q:=λ(r:WR)=>r.1=0->v8 b a (uS r)) ?_ λr h=>au.2 h;refine Wp.bind (Q:=λ(r:WR)=>r.1=0->v8 b a (uS r)) ?_ λr h=>au.2 h;refine Wp.bind (Q:=λ(r:WR)=>r.1=0->v8 b a (uS r)) ?_ λr h=>au.2 h;refine Wp.bind (Q:=λ(r:WR)=>r.1=0->v8 b a (uS r)) ?_ λr h=>au.2 h;refine Wp.bind (Q:=λ(r:WR)=>r.1=0->v8 b a (uS r)) ?_ λr h=>au.2 h;exact(als hb v hx _).bind λr hr=>au.2 λe=>⟨(hr e).1,λh8=>(hr e).2 (gm h8)⟩
def alB(hb:fu b)(v:nl b p){t:Int}(t0:0<=t)(t1:t<=2147483648){a:Act}(h8:a.Kind=8):Wp (K_ b p t a) λr=>r.1=0->v8 b a ⟨r.2.1,r.2.2.1,r.2.2.2.1,r.2.2.2.2⟩:=by
 unfold K_;have e:(bj b p !=0)=ai:=by rw[v.2];rfl
 simp only[xJ hb v.1,aq,e,aE,aD,dF (c:=t<0) (by omega),dF (c:=t>2147483648) (by omega),dF (c:=a.Kind<1) (by omega),dF (c:=a.Kind>9) (by omega),EC v.1];refine(alm h8).bind λc hc=>?_;refine Wp.ite (λh=>au.2 λe=>(by cases e)) λh=>?_;refine(akU hb v h8 (hc (by simpa using h))).bind λr hr=>?_;refine Wp.ite (λh=>au.2 λe=>?_) λh=>au.2 λ_=>hr (by simpa using h);have h:r.1≠0:=by simpa using h
 exact(h e).elim
end
end Rx
namespace Rx
open Classical
section
variable {b:aw} {p:ax}
def qV(b:aw)(a:Act):Prop:=(a.Kind=2∧0<=a.Unit∧a.Unit<(b.ae.length:Int))∨(a.Kind=5∧0<=a.Unit∧a.Unit<(b.az.length:Int))
def Nl{α β:Type}{f:β->α->β}{P:β->Prop}:∀{l:List α},(∀s x,x∈l->P s->P (f s x))->∀s,P s->P (l.foldl f s)
 |[],_,s,h=>h
 |x::l,hf,s,h=>Nl (l:=l) (λs y hy=>hf s y (List.mem_cons_of_mem _ hy)) (f s x) (hf s x (List.mem_cons_self ..) h)
def Xs{C:List Bool}{P:Nat->Bool}(hc:C.length=b.ae.length):∀a∈(gy C P).map qS,qV b a:=λa ha=>by obtain⟨k,hk,rfl⟩:=List.mem_map.1 ha;have:=Bl k hk;exact .inl ⟨rfl,this.1,by show k<_;omega⟩
def O9{l m:List Act}(h:∀a∈l,qV b a)(h':∀a∈m,qV b a):∀a∈l++m,qV b a:=λa ha=>(bA.1 ha).elim (h a) (h' a)
def ard{x:bu}{T o:List Int}(ho:∀c∈o,0<=c∧c<(b.az.length:Int))(s:List Int×List Act)(hs:∀a∈s.2,qV b a):∀a∈(iJ b x T o s).2,qV b a:=
 Nl (P:=λ(s:List Int×List Act)=>∀a∈s.2,qV b a) (λs c hc hs=>by
  unfold rq;split
  ·exact O9 hs λa ha=>by rw[eb.1 ha];exact .inr ⟨rfl,ho c hc⟩
  ·exact hs) s hs
def am6(h:bj b p=0){x:bu}{L o:List Int}(s:List Int×List Act)(hs:∀a∈s.2,qV b a):∀a∈(lj b p x L o s).2,qV b a:=
 Nl (P:=λ(s:List Int×List Act)=>∀a∈s.2,qV b a) (λs c hc hs=>by
  unfold re;split
  ·exact O9 hs (Xs (by show(gR p.aG _).length=_;rw[kj];exact(lI h).1))
  ·exact hs) s hs
def aow(h:bj b p=0):∀a∈(xO b p).2.2,qV b a:=
 Nl (P:=λ(s:List Int×List Int×List Act)=>∀a∈s.2.2,qV b a) (λs x hx hs=>by
  unfold Gr;split
  ·exact hs
  ·exact am6 h _ (ard (Sh h hx).2.1 _ hs)) _ (λa ha=>by cases ha)
def ax8(h:bj b p=0):∀a∈xm b p,qV b a:=by obtain⟨s1,_⟩:=lI h;unfold xm;exact O9 (Xs s1) (Xs (by show(gR p.aG _).length=_;rw[kj];exact s1))
def apX(h:bj b p=0):∀a∈xZ b p,qV b a:=O9 (ax8 h) (aow (xI h))
def apZ(h:bj b p=0):(xZ b p).length<=1000000:=by have h1:=afb h;have h2:=(KL (xI h) (bl b (lH b p)).length (bx _)).2;rw[List.take_length]at h2;have lD:=G5 (b:=b) (p:=lH b p);have pF:=(fh.1 h).1.1.jg;unfold xZ;rw[cW];have:(xO b (lH b p)).2.2.length<=20000*(bl b (lH b p)).length:=h2;omega
def apY(h:bj b p=0):Clean b (lY b p):=ayd (xI h) (aye h) (RC (xI h)) _
def Gd(b:aw)(p:ax):Prop:=nl b p∧lG b p=p.aj
def av_(v:nl b p):Gd b (lY b p):=⟨⟨an9 v.1 v.2,anD v.2⟩,(apY v.2).ky⟩
def axy{a b:List Bool}(ha:Sm a):Kf a b=aa (dB (a=b)):=by
 unfold Kf;by_cases hl:a.length=b.length
 ·have e1:(len a !=len b)=ai:=by simp[len,hl]
  have h:=Md (step:=CP a b) (λk=>(k:Int)) a.length (λk=>gt a k≠gt b k) (r:= .inr ai) (e:= .inl ())
   (λk hk hp=>by
     have e2:(!gt a k==gt b k)=ai:=by simpa using hp
     simp only[CP,bb hk,aI,aP hk,aP (show k<b.length by omega),aq,e2,aE,aD,ba (eP ha hk)])
   (λk hk hp=>by
     have e2:(!gt a k==gt b k)=ab:=by simpa using hp
     simp only[CP,bb hk,aI,aP hk,aP (show k<b.length by omega),aq,e2])
   (by simp only[CP,bJ,aE,aD])
  have h':aJ (CP a b) 0=_:=h;simp only[e1,aE,aD,h',aq];by_cases he:a=b
  ·subst he;rw[gU (p:=∃k,k<a.length∧gt a k≠gt a k) (by simp),iN rfl];rfl
  ·have:∃k,k<a.length∧gt a k≠gt b k:=by
    apply gC;intro hn;exact he (jZ hl λk hk=>gC λh=>hn ⟨k,hk,h⟩)
   rw[iN this,gU he];rfl
 ·have e1:(len a !=len b)=ab:=by simp[len];omega
  have he:a≠b:=λe=>hl (e▸rfl);rw[gU he];simp only[e1,aI]
def axx{a b:List Int}(ha:Sm a):Ke a b=aa (dB (a=b)):=by
 unfold Ke;by_cases hl:a.length=b.length
 ·have e1:(len a !=len b)=ai:=by simp[len,hl]
  have h:=Md (step:=CO a b) (λk=>(k:Int)) a.length (λk=>gt a k≠gt b k) (r:= .inr ai) (e:= .inl ())
   (λk hk hp=>by simp only[CO,bb hk,aI,aP hk,aP (show k<b.length by omega),aq,BK (r_.1 hp),aE,aD,ba (eP ha hk)])
   (λk hk hp=>by simp only[CO,bb hk,aI,aP hk,aP (show k<b.length by omega),aq,W9 hp])
   (by simp only[CO,bJ,aE,aD])
  have h':aJ (CO a b) 0=_:=h;simp only[e1,aE,aD,h',aq];by_cases he:a=b
  ·subst he;rw[gU (p:=∃k,k<a.length∧gt a k≠gt a k) (by simp),iN rfl];rfl
  ·have:∃k,k<a.length∧gt a k≠gt b k:=by
    apply gC;intro hn;exact he (jZ hl λk hk=>gC λh=>hn ⟨k,hk,h⟩)
   rw[iN this,gU he];rfl
 ·have e1:(len a !=len b)=ab:=by simp[len];omega
  have he:a≠b:=λe=>hl (e▸rfl);rw[gU he];simp only[e1,aI]
def Y4{q:ax}(hp:dt p):Wp (FY p q) λc=>p=q->c=ab:=by
 obtain⟨h1,h2,h3,h4⟩:=hp;unfold FY;simp only[axy h1,axx h3,axv h2,axw h4,aq];by_cases e:p=q
 ·subst e;simp only[iN];exact au.2 λ_=>rfl
 ·refine Wp.bind (Q:=λ_=>True) ?_ λc _=>au.2 λh=>(e h).elim;refine Wp.ite (λ_=>?_) λ_=>au.2 trivial;refine Wp.ite (λ_=>?_) λ_=>au.2 trivial;refine Wp.ite (λ_=>au.2 trivial) λ_=>au.2 trivial
section
variable {t:Int} {R:List eO} {E ev:List Event} {st:List ax}
def abn(h:ev.length<=1000000000)(a:Act)(e:Int):Gw ⟨⟨t,p,R,E⟩,b,ev,st⟩ a e=aa (t,p.aG,p.aj,p.aX,p.aS,b.aB,b.ae,b.aj,b.az,b.bi,b.aZ,R,E,st,ev++[⟨t,a,e⟩]):=by unfold Gw;rw[cK (by simp;omega)];rfl
def RU(h:st.length<=1000000000){q:ax}(hq:dt q):C2 ⟨⟨t,p,R,E⟩,b,ev,st⟩ q=aa (t,p.aG,p.aj,p.aX,p.aS,b.aB,b.ae,b.aj,b.az,b.bi,b.aZ,R,E,ev,q.aG,q.aj,q.aX,q.aS,st++[q]):=by unfold C2;simp only[EC hq,aq];rw[cK (by simp;omega)];rfl
def doT(b:aw)(t:Int)(q:ax)(R:List eO)(E ev:List Event)(st:List ax):Int×List Bool×List bo×List Int×List Part×Int×List cH×List Source×List Consumer×Int×Int×List eO×List Event×List Event×List ax:=(t,q.aG,q.aj,q.aX,q.aS,b.aB,b.ae,b.aj,b.az,b.bi,b.aZ,R,E,ev,st)
def Did(b:aw)(t:Int)(p:ax)(a:Act)(ev:List Event)(st:List ax)(q:ax)(nh:List Event)(CC:List ax):Prop:=(q=p∧CC=st∧∃e,e≠0∧nh=ev++[⟨t,a,e⟩])∨∃x S,v8 b a x∧q=lY b x∧CC=st++x::S
def alt(hb:fu b)(g:Gd b p)(t0:0<=t)(t1:t<=2147483648)(b7:ev.length<=100000000)(bV:st.length<=100000000){a:Act}(h8:a.Kind=8):Wp (KU ⟨⟨t,p,R,E⟩,b,ev,st⟩ a) λr=>∃q nh CC,r=doT b t q R E nh CC∧Gd b q∧nh.length<=ev.length+1000001∧CC.length<=st.length+1000002∧Did b t p a ev st q nh CC:=by
 unfold KU;refine(alB hb g.1 t0 t1 h8).bind λr hr=>?_;refine Wp.bind (Q:=λe=>e=0->r.1=0) ?_ λe he=>?_
 ·refine Wp.ite (λ_=>au.2 λh=>by cases h) λ_=>au.2 λh=>h
 rw[abn (by omega)];simp only[aq];refine Wp.ite (λh=>au.2 ?_) λh=>?_
 ·exact⟨p,_,st,rfl,g,by simp,by omega,.inl ⟨rfl,rfl,e,by simpa using h,rfl⟩⟩
 have ha:=hr (he (by simpa using h));obtain⟨x,hx⟩:∃x:ax,x=⟨r.2.1,r.2.2.1,r.2.2.2.1,r.2.2.2.2⟩:=⟨_,rfl⟩;rw[<-hx]at ha;have xf:(⟨b.aB,b.ae,b.aj,b.az,b.bi,b.aZ⟩:aw)=b:=rfl;have hxe:(⟨x.aG,x.aj,x.aX,x.aS⟩:ax)=x:=rfl;rw[<-hx,RU (by omega) ha.1.1];simp only[aq,xf,hxe,apW hb ha.1.1 ha.1.2];have hA:=apX ha.1.2;have xj:=apZ ha.1.2;obtain⟨l1,l2,_,_,l5,l6⟩:=lI ha.1.2;have gq:=av_ ha.1;refine Wp.bind (Q:=λs=>∃C L nh S,s=(t,p.aG,p.aj,p.aX,p.aS,b.aB,b.ae,b.aj,b.az,b.bi,b.aZ,R,E,C,x.aj,L,x.aS,nh,st++x::S)∧dt ⟨C,x.aj,L,x.aS⟩∧nh.length=ev.length+1+(xZ b x).length∧S.length=(xZ b x).length) ?_ λs hs=>?_
 ·refine dV (xZ b x).length (λk s=>∃C L nh S,s=((k:Int),t,p.aG,p.aj,p.aX,p.aS,b.aB,b.ae,b.aj,b.az,b.bi,b.aZ,R,E,C,x.aj,L,x.aS,nh,st++x::S)∧C.length=b.ae.length∧L.length=b.az.length∧nh.length=ev.length+1+k∧S.length=k) ⟨x.aG,x.aX,_,[],rfl,l1,l6,by simp,rfl⟩ ?_ ?_
  ·rintro k s hk ⟨C,L,nh,S,rfl,c1,c2,c3,c4⟩;unfold RP;simp only[bb hk,aI,aP hk,aq];rw[abn (by omega)];simp only[aq];have hai:=hA _ (dx hk);refine Wp.bind (Q:=λy=>y.1.length=b.ae.length∧y.2.length=b.az.length) ?_ λy hy=>?_
   ·rcases hai with⟨a1,a2,a3⟩|⟨a1,a2,a3⟩
    ·rw[a1,aH (by decide),iL a2 (by omega),RD a2 (by omega)];exact au.2 ⟨by simpa using c1,c2⟩
    ·rw[a1,aL (by decide),iL a2 (by omega),RD a2 (by omega)];exact au.2 ⟨c1,by simpa using c2⟩
   have fH:dt ⟨y.1,x.aj,y.2,x.aS⟩:=⟨by show y.1.length<=_;omega,ha.1.1.2.1,by show y.2.length<=_;omega,ha.1.1.2.2.2⟩;rw[RU (by rw[cW,jR];omega) fH];refine au.2 ⟨y.1,y.2,nh++[⟨t,gt (xZ b x) k,0⟩],S++[⟨y.1,x.aj,y.2,x.aS⟩],?_,hy.1,hy.2,by rw[cW];simp only[Js];omega,by rw[cW];simp only[Js];omega⟩;rw[ba (by omega)];simp
  ·rintro s ⟨C,L,nh,S,rfl,c1,c2,c3,c4⟩;unfold RP;simp only[bJ,aE,aD];exact au.2 ⟨C,L,nh,S,rfl,⟨by show C.length<=_;omega,ha.1.1.2.1,by show L.length<=_;omega,ha.1.1.2.2.2⟩,c3,c4⟩
 obtain⟨C,L,nh,S,rfl,c1,c2,c3⟩:=hs;try simp only
 refine(Y4 c1).bind λc _=>?_;have hqe:(⟨(lY b x).aG,(lY b x).aj,(lY b x).aX,(lY b x).aS⟩:ax)=lY b x:=rfl;refine Wp.bind (Q:=λs=>∃S',S'.length<=S.length+1∧s=(t,p.aG,p.aj,p.aX,p.aS,b.aB,b.ae,b.aj,b.az,b.bi,b.aZ,R,E,(lY b x).aG,(lY b x).aj,(lY b x).aX,(lY b x).aS,nh,st++x::S')) ?_ λs hs=>?_
 ·refine Wp.ite (λ_=>?_) λ_=>au.2 ⟨S,by omega,rfl⟩;rw[hqe,RU (by rw[cW,jR];omega) gq.1.1];exact au.2 ⟨S++[lY b x],by simp,by simp⟩
 ·obtain⟨S',h1,rfl⟩:=hs;exact au.2 ⟨lY b x,nh,st++x::S',rfl,gq,by omega,by simp;omega,.inr ⟨x,S',ha,rfl,rfl⟩⟩
end
end
end Rx
namespace Rx
open Classical
section
variable {b:aw} {p:ax}
def vT(t:ia):Prop:=(1<=t.Stop∧t.Stop<=99)∧(t.Stop<t.Start∧t.Start<=100)∧0<=t.nX∧t.nX<=600
def alJ(t:ia):KY t=aa (al (vT t)):=by
 unfold KY;by_cases h:vT t
 ·obtain⟨⟨h1,h2⟩,⟨h3,h4⟩,h5,h6⟩:=h;rw[dT (show vT t from⟨⟨h1,h2⟩,⟨h3,h4⟩,h5,h6⟩)];simp[h1,h2,h3,h4,h5,h6]
 ·rw[dF h];by_cases h1:t.Stop>=1
  case neg=>simp[h1]
  by_cases h2:t.Stop<=99
  case neg=>simp[h1,h2]
  by_cases h3:t.Start>t.Stop
  case neg=>simp[h1,h2,h3]
  by_cases h4:t.Start<=100
  case neg=>simp[h1,h2,h3,h4]
  by_cases h5:t.nX>=0
  case neg=>simp[h1,h2,h3,h4,h5]
  by_cases h6:t.nX<=600
  case neg=>simp[h1,h2,h3,h4,h5,h6]
  exact absurd ⟨⟨h1,h2⟩,⟨h3,h4⟩,h5,h6⟩ h
def ak0{l:List Int}{a:Int}(hs:Sr l a):Wp (Pm ⟨l,a⟩) λr=>vT ⟨r.1,r.2.1,r.2.2.1⟩∧Sr r.2.2.2.1 r.2.2.2.2:=by unfold Pm;refine(dW hs (w:=[60,80,100]) (by simp) (by simp)).bind λr hr=>?_;refine(dW hr.2 (w:=[1,30,50]) (by simp) (by simp)).bind λr2 yx=>?_;refine(dW yx.2 (w:=[0,1,3]) (by simp) (by simp)).bind λr3 hr3=>?_;refine au.2 ⟨?_,hr3.2⟩;have h1:=hr.1;have h2:=yx.1;have h3:=hr3.1;simp only[List.mem_cons,List.not_mem_nil,kE]at h1 h2 h3;unfold vT;dsimp only;omega
def yB(b:aw)(p:ax)(x:bu)(j:Nat):Prop:=(¬(⟨1,(j:Int)⟩:Part)∈p.aS∧¬(⟨2,(bk b j:Int)⟩:Part)∈p.aS∧¬(⟨3,(gt b.ae (bk b j)).A⟩:Part)∈p.aS)∧(gt b.ae (bk b j)).A∈x.aB∧¬(j:Int)∈x.aj∧(gt p.aj j).State≠3
def X1(tm:Int)(r:eO):Prop:=(-1<=r.iS∧r.iS<=tm)∧-1<=r.jx∧r.jx<=tm
end
end Rx
namespace Rx
open Classical
section
variable {b:aw} {p:ax} {t:ia} {tm:Int} {R:List eO} {E ev:List Event} {st:List ax}
def BT(b:aw)(tm:Int)(R:List eO):Prop:=(R.length:Int)=b.aB∧∀r∈R,X1 tm r
def asm{r:eO}(hr:X1 tm r)(a2:List Bool)(a3:List bo)(a4:List Int)(a5:List Part)(a6:List eO)(a7:List Event):Lw r tm a2 a3 a4 a5 a6 a7=aa (ai,tm,a2,a3,a4,a5,a6,a7):=by obtain⟨⟨h1,h2⟩,h3,h4⟩:=hr;unfold Lw Ly;simp only[dT (show r.iS>= -1 from h1),dT h2,dT (show r.jx>= -1 from h3),dT h4,aI,aq,ei,aE,aD]
def ap3(hb:fu b)(hv:vT t)(g:Gd b p)(t0:0<=tm)(t1:tm<=2147483648)(hR:BT b tm R):Lz b t ⟨tm,p,R,E⟩=aa 0:=by
 obtain⟨⟨hl,hg⟩,_⟩:=fh.1 g.1.2;have pF:=hl.jg;have hRl:=hR.1;unfold Lz;obtain⟨c,h1,h2⟩:=Y4 (p:=p) (q:=p) g.1.1;have hc:=h2 rfl;subst hc;have rD:(⟨p.aG,p.aj,p.aX,p.aS⟩:ax)=p:=rfl;have qA:Kt R tm p.aG p.aj p.aX p.aS R E=aa (ai,tm,p.aG,p.aj,p.aX,p.aS,R,E):=by
  have h:=dQ (step:=Ga R) (r:= .inl (tm,p.aG,p.aj,p.aX,p.aS,R,E)) (λk=>((k:Int),tm,p.aG,p.aj,p.aX,p.aS,R,E)) R.length (λk hk=>by
   unfold Ga;simp only[bb hk,aI,aP hk,aq,asm (hR.2 _ (dx hk)),aE,aD];rw[ba (by omega)]) (by
   unfold Ga;simp only[bJ,aE,aD]) (by omega)
  have h':aJ (Ga R) (0,tm,p.aG,p.aj,p.aX,p.aS,R,E)=_:=h;unfold Kt Q7;rw[h'];rfl
 simp only[follow_eq hb g.1.1 g.1.2,g.2,aq,mi,aE,aD,alJ,dT hv,ei,dF (show ¬tm<0 by omega),dF (show ¬tm>2147483648 by omega),BK (show len R=b.aB from hRl),rD,h1,qA]
def N5{α:Type}{l:List α}(h:l.length<=1000000000):bG [] l=aa l:=cK (by simp;omega)
def aCi(hp:dt p)(hR:R.length<=1000)(hE:E.length<=1000000000):Lu b ⟨tm,p,R,E⟩=aa (tm,b.aB,b.ae,b.aj,b.az,b.bi,b.aZ,p.aG,p.aj,p.aX,p.aS,R,E):=by unfold Lu Gi Gj;simp only[EC hp,aq,N5 (show R.length<=1000000000 by omega),N5 hE]
def axX(hp:dt p)(hR:R.length<=1000)(hE:E.length<=1000000000):N1 ⟨tm,p,R,E⟩=aa (tm,p.aG,p.aj,p.aX,p.aS,R,E):=by unfold N1 Gi Gj;have h:=EC hp;unfold rf at h;simp only[N5 (show R.length<=1000000000 by omega),N5 hE,aq];revert h;cases Gf p.aG<;>simp only[aq,Ya,reduceCtorEq,X9];cases Gg p.aj<;>simp only[aq,Ya,reduceCtorEq,X9];cases uY p.aX<;>simp only[aq,Ya,reduceCtorEq,X9];cases zJ p.aS<;>simp only[aq,Ya,reduceCtorEq,X9];intro h;cases h;rfl
def alc(hb:fu b)(g:Gd b p)(t0:0<=tm)(t1:tm<=2147483648)(hR:R.length<=1000)(hE:E.length<=800000000){a:Act}(h8:a.Kind=8):Wp (Lv b ⟨tm,p,R,E⟩ a) λr=>∃q E' z,r=(tm,q.aG,q.aj,q.aX,q.aS,0,R,E',z)∧Gd b q∧E'.length<=E.length+1000001:=by unfold Lv;simp only[xJ hb g.1.1,g.1.2,aq,mi,aE,aD,aCi g.1.1 hR (show E.length<=1000000000 by omega)];refine(alt (R:=R) (E:=E) (ev:=[]) (st:=[]) hb g t0 t1 (by simp) (by simp) h8).bind λr hr=>?_;obtain⟨q,ev,st,rfl,g2,e1,e2,_⟩:=hr;simp only[doT];rw[cK (by have:=e1;simp only[List.length_nil]at this;omega)];exact au.2 ⟨q,E++ev,st,rfl,g2,by rw[cW];have:=e1;simp only[List.length_nil]at this;omega⟩
end
end Rx
namespace Rx
section
open Classical
variable {b:aw} {p q:ax} {l:List Int} {a:Int}
def alq{l:List Int}{a:Int}(hs:Sr l a)(hb:rV b):Wp (Pz ⟨l,a⟩ b) λr=>∃l a q,r=(l,a,b.ae,b.aj,b.az,q.aG,q.aj,q.aX,q.aS)∧Sr l a∧dt q∧bj b q=0∧lG b q=q.aj∧q.aS.length<=4:=by unfold Pz;refine(ak' hs hb).bind λr hr=>?_;obtain⟨l,a,cl,run,gu,da,rfl,hs,hp⟩:=hr;have pC:=hp.sm hb;have h0:=hp.bj hb;have hf:=ao7 hb.sm pC h0;obtain⟨nb,br,S,C,ph,fr⟩:=b;simp only at hf⊢;rw[hf];simp only[aq];exact au.2 ⟨_,_,rL ⟨nb,br,S,C,ph,fr⟩ ⟨cl,run,gu,da⟩,rfl,hs,Z3 pC,ZN h0,aer h0,hp.ajm⟩
def alb(hs:Sr l a)(hb:rV b):Wp (Pu ⟨l,a⟩ b) λr=>∃tm l a q R,r=(tm,l,a,b.ae,b.aj,b.az,q.aG,q.aj,q.aX,q.aS,R)∧Sr l a∧Gd b q∧(5<=tm∧tm<=20)∧BT b tm R∧q.aS.length<=4:=by
 have pF:=hb.gu.jg;unfold Pu;refine(pZ hs (by omega) (by omega) (by omega) (by omega)).bind λr1 h1=>?_;refine(alq h1.2 hb).bind λr2 h2=>?_;obtain⟨l2,a2,q,rfl,k1,k2,k3,k4,k5⟩:=h2;refine Wp.bind (Q:=λr=>∃l a R,r=(l,a,r1.1,R)∧Sr l a∧BT b r1.1 R) ?_ λr hr=>?_
 ·refine dV b.aB.toNat (λk s=>∃l a R,s=((k:Int),l,a,r1.1,R)∧Sr l a∧R.length=k∧∀r∈R,X1 r1.1 r) ⟨l2,a2,[],rfl,k1,rfl,λr hr=>(by cases hr)⟩ ?_ ?_
  ·rintro k s hk ⟨l,a,R,rfl,e1,e2,e3⟩;unfold XU;simp only[dT (show(k:Int)<b.aB by omega),aI];refine(pZ e1 (by omega) (by omega) (by omega) (by omega)).bind λr4 h4=>?_;refine(pZ h4.2 (by omega) (by omega) (by omega) (by omega)).bind λr5 h5=>?_;rw[cK (by simp;omega)];simp only[aq];refine au.2 ⟨_,_,R++[⟨r4.1,r5.1⟩],by rw[ba (by omega)],h5.2,by rw[cW,e2];rfl,λr hr=>?_⟩;rcases bA.1 hr with hr|hr
   ·exact e3 r hr
   ·rw[eb.1 hr];have:=h1.1;exact⟨⟨h4.1.1,by have:=h4.1.2;show r4.1<=_;omega⟩,h5.1.1,by have:=h5.1.2;show r5.1<=_;omega⟩
  ·rintro s ⟨l,a,R,rfl,e1,e2,e3⟩;unfold XU;simp only[dF (show ¬((b.aB.toNat:Nat):Int)<b.aB by omega),aE,aD];exact au.2 ⟨l,a,R,rfl,e1,by omega,e3⟩
 ·obtain⟨l,a,R,rfl,e1,e2⟩:=hr;exact au.2 ⟨r1.1,l,a,q,R,rfl,e1,⟨⟨k2,k3⟩,k4⟩,h1.1,e2,k5⟩
end
end Rx
namespace Rx
section
def Vb(n d:Int)(h:0<d):(if n.tmod d<0 then n.tdiv d-1 else n.tdiv d)=n/d:=by
 rw[Int.tdiv_eq_ediv,Int.tmod_eq_emod];by_cases h0:0<=n∨d∣n
 ·simp[h0];have:=Int.emod_nonneg n (show d≠0 by omega);omega
 ·simp[h0];have:=Int.emod_lt_of_pos n h;have e:d.sign=1:=Int.sign_eq_one_of_pos h;have e2:(d.natAbs:Int)=d:=by omega
  rw[e,aH (by omega)];omega
def ZC{n d:Int}(h:0<d)(h1: -1000000000000000000<=n)(h2:n<=1000000000000000000): -1000000000000000001<=n.tdiv d∧n.tdiv d<=1000000000000000001:=by
 have e:=Vb n d h;have a1:n/d<=1000000000000000000:=by refine Int.ediv_le_of_le_mul h ?_;have:=Int.mul_le_mul_of_nonneg_left (show 1<=d by omega) (show(0:Int)<=1000000000000000000 by decide);omega
 have a2: -1000000000000000000<=n/d:=by refine Int.le_ediv_of_mul_le h ?_;have:=Int.mul_le_mul_of_nonpos_left (show(-1000000000000000000:Int)<=0 by decide) (show 1<=d by omega);omega
 split at e<;>omega
def aey{n d:Int}(h:0<d)(h1: -1000000000000000000<=n)(h2:n<=1000000000000000000):za n d=aa (n/d):=by
 obtain⟨b1,b2⟩:=ZC h h1 h2;have e:=Vb n d h;unfold za mT kO;rw[aL (by omega),aL (by omega)];simp only[aq];rw[ze (x:=n.tdiv d) (by omega) (by omega)];by_cases hm:n.tmod d<0
 ·rw[aH hm]at e;rw[dT hm,aH rfl,aq,ze (by omega) (by omega),e]
 ·rw[aL hm]at e;rw[dF hm,aL (by decide),aq,e]
def aex{n d:Int}(h:d≠0):Wp (za n d) λ_=>True:=by unfold za mT kO;rw[aL h,aL h];simp only[aq];refine Wp.bind (Q:=λ_=>True) ?_ λ_ _=>au.2 trivial;exact Wp.ite (λ_=>au.2 trivial) λ_=>au.2 trivial
def aeW{n d:Int}:Wp (if al (n<(-1000000000000000000))=ab then aa ab else if al (n>1000000000000000000)=ab then aa ab else if al (d<1)=ab then aa ab else aa (al (d>1000000000))) λc=>c=ai->(-1000000000000000000<=n∧n<=1000000000000000000)∧1<=d∧d<=1000000000:=by refine Wp.ite (λ_=>au.2 λe=>by cases e) λh1=>?_;refine Wp.ite (λ_=>au.2 λe=>by cases e) λh2=>?_;refine Wp.ite (λ_=>au.2 λe=>by cases e) λh3=>au.2 λh4=>?_;have h1:=pQ h1;have h2:=pQ h2;have h3:=pQ h3;have h4:=pQ h4;omega
def aeX{n d:Int}(h1: -1000000000000000000<=n)(h2:n<=1000000000000000000)(h3:1<=d)(h4:d<=1000000000):(if al (n<(-1000000000000000000))=ab then aa ab else if al (n>1000000000000000000)=ab then aa ab else if al (d<1)=ab then aa ab else aa (al (d>1000000000)))=aa ai:=by rw[dF (show ¬n< -1000000000000000000 by omega),dF (show ¬n>1000000000000000000 by omega),dF (show ¬d<1 by omega),dF (show ¬d>1000000000 by omega)];rfl
def aCI(n d:Int):Wp (BO n d) λ_=>True:=by unfold BO O5;refine Wp.bind (Q:=λ_=>True) ?_ λ_ _=>au.2 trivial;refine aeW.bind λc hc=>Wp.ite (λ_=>au.2 trivial) λh=>?_;exact(aex (by have:=hc h;omega)).bind λ_ _=>au.2 trivial
def aCJ{n d:Int}(h1: -1000000000000000000<=n)(h2:n<=1000000000000000000)(h3:1<=d)(h4:d<=1000000000):BO n d=aa (n/d,0):=by unfold BO O5;rw[aeX h1 h2 h3 h4];simp only[aq,aE,aD,aey (show 0<d by omega) h1 h2]
def aki(n d:Int):Wp (I6 n d) λ_=>True:=by unfold I6 Xh;refine Wp.bind (Q:=λ_=>True) ?_ λ_ _=>au.2 trivial;refine aeW.bind λc hc=>Wp.ite (λ_=>au.2 trivial) λh=>?_;obtain⟨_,d1,d2⟩:=hc h;unfold Xk;rw[bZ (x:=2*d) (by omega) (by omega)];refine Wp.bind (Q:=λ_=>True) ?_ λ_ _=>au.2 trivial;exact(aex (by omega)).bind λ_ _=>au.2 trivial
def aCC{n d:Int}(h1: -1000000000000000000<=n)(h2:n<=1000000000000000000)(h3:1<=d)(h4:d<=1000000000):O6 n d=aa (-((-n)/d),0):=by
 unfold O6 Xi;rw[aeX h1 h2 h3 h4];have hf:=aey (n:= -n) (d:=d) (by omega) (by omega) (by omega);have e:=Vb (-n) d (by omega);obtain⟨b1,b2⟩:=ZC (n:= -n) (d:=d) (by omega) (by omega) (by omega);have hb: -1000000000000000002<=(-n)/d∧(-n)/d<=1000000000000000001:=by split at e<;>omega
 simp only[aq,aE,aD,Xj];rw[ze (x:= -n) (by omega) (by omega),hf];simp only[aq];rw[ze (by omega) (by omega)]
def Su(a:Int):Wp (vV a) λx=>0<=x∧x<3600:=by
 unfold vV kO;obtain⟨e,b1,b2⟩:=anf a;rw[aL (by omega)];simp only[aq];refine Wp.bind (Q:=λx=>0<=x∧x<3600) ?_ λx hx=>au.2 hx;refine Wp.ite (λh=>au.2 ?_) λh=>au.2 ?_
 ·have h:=jA h;rw[bZ (by omega) (by omega)];omega
 ·have h:=pQ h;omega
def Rq(a:Int):Wp (E4 a) λ_=>True:=by unfold E4;refine(Su a).bind λx _=>?_;refine Wp.bind (Q:=λ_=>True) ?_ λy _=>(aki _ _).bind λ_ _=>au.2 trivial;exact Wp.ite (λ_=>au.2 trivial) λ_=>au.2 trivial
def ae5(a:Int):Wp (I_ a) λ_=>True:=by unfold I_;refine(Su a).bind λx _=>(Rq _).bind λ_ _=>au.2 trivial
def QU(a b:Int):Wp (E1 a b) λ_=>True:=by unfold E1;refine Wp.bind (Q:=λ_=>True) ?_ λ_ _=>au.2 trivial;exact Wp.ite (λ_=>au.2 trivial) λ_=>au.2 trivial
def ae2(a x y:Int):Wp (I9 a x y) λ_=>True:=by unfold I9;refine(QU x y).bind λc _=>Wp.ite (λ_=>au.2 trivial) λ_=>?_;exact(ae5 a).bind λ_ _=>(Rq a).bind λ_ _=>au.2 trivial
def Zp(a:Int):Wp (I8 a) λc=>c=ab↔0<=a∧a<3600:=by
 unfold I8;by_cases h:a>=0
 ·rw[dT h];exact au.2 (by rw[X_];omega)
 ·rw[dF h];exact au.2 ⟨λe=>(by cases e),λe=>(by omega)⟩
def aCk(x:iG):Wp (E3 x) λ_=>True:=by unfold E3;refine Wp.bind (Q:=λ_=>True) ?_ λ_ _=>au.2 trivial;refine(Zp _).bind λc _=>Wp.ite (λ_=>?_) λ_=>au.2 trivial;refine(Zp _).bind λc _=>Wp.ite (λ_=>?_) λ_=>au.2 trivial;unfold Xl;exact Wp.bind (Q:=λ_=>True) ((Su _).bind λ_ _=>au.2 trivial) λ_ _=>au.2 trivial
def alG(x:iG)(a b:Int):Wp (O' x a b) λ_=>True:=by
 unfold O';refine Wp.bind (Q:=λ_=>True) ?_ λc _=>Wp.ite (λ_=>au.2 trivial) λ_=>?_
 ·refine(aCk x).bind λc _=>Wp.ite (λ_=>au.2 trivial) λ_=>?_;refine Wp.ite (λ_=>Wp.ite (λ_=>au.2 trivial) λ_=>?_) λ_=>?_
  ·exact(QU a b).bind λ_ _=>au.2 trivial
  ·exact(QU a b).bind λ_ _=>au.2 trivial
 refine(ae2 _ _ _).bind λz _=>?_;refine Wp.bind (Q:=λ_=>True) ?_ λ_ _=>?_
 ·refine Wp.ite (λ_=>au.2 trivial) λ_=>?_;exact(ae5 _).bind λ_ _=>(Rq _).bind λ_ _=>au.2 trivial
 refine Wp.bind (Q:=λ_=>True) ?_ λ_ _=>au.2 trivial;refine Wp.ite (λ_=>?_) λ_=>au.2 trivial;refine(ae2 _ _ _).bind λw _=>?_;exact Wp.ite (λ_=>au.2 trivial) λ_=>au.2 trivial
def abr{a b c:Int}:imax a b<=c↔a<=c∧b<=c:=by unfold imax;split<;>omega
def aby{a b c:Int}:c<=eA a b↔c<=a∧c<=b:=by unfold eA;split<;>omega
def lK(m x y:Int):Prop:=(-m<=x∧x<=m)∧(-m<=y∧y<=m)∧x*x+y*y<=m*m
def CE{x:Int}(h1: -10001<=x)(h2:x<=10001):0<=x*x∧x*x<=100020001:=by
 rcases Int.le_total 0 x with h|h
 ·refine⟨PU h h,?_⟩;have:=FB h2 h2 h (by omega);omega
 ·have e:x*x=(-x)*(-x):=by rw[Int.neg_mul_neg]
  rw[e];refine⟨PU (by omega) (by omega),?_⟩;have:=FB (show-x<=10001 by omega) (show-x<=10001 by omega) (show 0<= -x by omega) (by omega);omega
def Y'{t:b9}(m0:0<=t.Max)(m1:t.Max<=5000)(hf:t.nW.length<=1000){x y:Int}(x0: -10001<=x)(x1:x<=10001)(y0: -10001<=y)(y1:y<=10001):Wp (Gt t x y) λc=>c=ab->lK t.Max x y:=by
 obtain⟨q1,q2⟩:=CE x0 x1;obtain⟨q3,q4⟩:=CE y0 y1;obtain⟨q5,q6⟩:=CE (x:=t.Max) (by omega) (by omega);unfold Gt;rw[bZ (x:= -t.Max) (by omega) (by omega),bZ (x:=x*x) (by omega) (by omega),bZ (x:=y*y) (by omega) (by omega),bZ (x:=x*x+y*y) (by omega) (by omega),bZ (x:=t.Max*t.Max) (by omega) (by omega)];refine Wp.bind (Q:=λc=>c=ai->lK t.Max x y) ?_ λc hc=>Wp.ite (λ_=>au.2 λe=>by cases e) λh=>?_
 ·refine Wp.ite (λ_=>au.2 λe=>by cases e) λh1=>?_;refine Wp.ite (λ_=>au.2 λe=>by cases e) λh2=>?_;refine Wp.ite (λ_=>au.2 λe=>by cases e) λh3=>?_;have h1:=abr.1 (Int.not_lt.1 (pQ h1));have h2:=aby.1 (Int.not_lt.1 (pQ h2));have h3:=Int.not_lt.1 (pQ h3);have ix:lK t.Max x y:=⟨⟨h2.1,h1.1⟩,⟨h2.2,h1.2⟩,h3⟩;refine Wp.ite (λ_=>?_) λ_=>?_
  ·refine Wp.ite (λ_=>au.2 λe=>by cases e) λ_=>?_;exact Wp.ite (λ_=>au.2 λ_=>ix) λ_=>au.2 λ_=>ix
  ·exact Wp.ite (λ_=>au.2 λ_=>ix) λ_=>au.2 λ_=>ix
 ·refine Wp.bind (Q:=λ_=>True) ?_ λ_ _=>au.2 λ_=>hc h;unfold Rj Rf;refine Wp.bind (Q:=λ_=>True) ?_ λ_ _=>au.2 trivial;refine Wp.bind (Q:=λ_=>True) ?_ λr _=>by cases r<;>exact au.2 trivial
  refine dV t.nW.length (λk s=>s=(k:Int)) rfl ?_ ?_
  ·rintro k s hk rfl;unfold Rc RK;simp only[bb hk,aI,aP hk,aq];refine Wp.bind (Q:=λ_=>True) ((alG _ _ _).bind λ_ _=>au.2 trivial) λc _=>?_;exact Wp.ite (λ_=>au.2 trivial) λ_=>au.2 (by show W _=_;rw[ba (by omega)])
  ·rintro s rfl;unfold Rc;simp only[bJ,aE,aD];exact au.2 trivial
def zf(P:Int->Prop)(l h:Int):Prop:=(l<=0∧0<=h)∧((l=0∧h=0)∨∀z,l<=z->z<=h->P z)
def Y_{step:Int->Option (Int⊕Int)}{P:Int->Prop}{m:Int}(m0:0<=m)(m1:m<=5000)(hp:∀z,P z-> -m<=z)(h0:P 0)(hs:∀z,-5000<=z->z<=0->Wp (step z) λr=>(r= .inl (z-1)∧P (z-1))∨r= .inr z):Wp (aJ step 0) λl=>l<=0∧∀z,l<=z->z<=0->P z:=by
 refine tH (λz=>(z+5000).toNat) (λz=>(-m<=z∧z<=0)∧∀w,z<=w->w<=0->P w) (λz hz=>?_) ⟨⟨by omega,by omega⟩,λw w1 w2=>by have:w=0:=(by omega);rw[this];exact h0⟩ (by omega);refine(hs z (by omega) hz.1.2).mono λr hr=>?_;rcases hr with⟨rfl,hP⟩|rfl
 ·have:=hp _ hP;refine⟨⟨⟨this,by omega⟩,λw w1 w2=>?_⟩,by omega⟩;by_cases hw:w=z-1
  ·rw[hw];exact hP
  ·exact hz.2 w (by omega) w2
 ·exact⟨hz.1.2,hz.2⟩
def Y2{step:Int->Option (Int⊕Int)}{P:Int->Prop}{m:Int}(m0:0<=m)(m1:m<=5000)(hp:∀z,P z->z<=m)(h0:P 0)(hs:∀z,0<=z->z<=5000->Wp (step z) λr=>(r= .inl (z+1)∧P (z+1))∨r= .inr z):Wp (aJ step 0) λl=>0<=l∧∀z,0<=z->z<=l->P z:=by
 refine tH (λz=>(5000-z).toNat) (λz=>(0<=z∧z<=m)∧∀w,0<=w->w<=z->P w) (λz hz=>?_) ⟨⟨by omega,by omega⟩,λw w1 w2=>by have:w=0:=(by omega);rw[this];exact h0⟩ (by omega);refine(hs z hz.1.1 (by omega)).mono λr hr=>?_;rcases hr with⟨rfl,hP⟩|rfl
 ·have:=hp _ hP;refine⟨⟨⟨by omega,this⟩,λw w1 w2=>?_⟩,by omega⟩;by_cases hw:w=z+1
  ·rw[hw];exact hP
  ·exact hz.2 w w1 (by omega)
 ·exact⟨hz.1.1,hz.2⟩
def uD(t:b9):Prop:=(((1<=t.Kind∧t.Kind<=3)∧(0<=t.tq∧t.tq<=1)∧(0<=t.Max∧t.Max<=5000)∧(0<=t.vZ∧t.vZ<=5000)∧1<=t.fL∧t.fL<=100)∧t.nW.length<=4)∧∀x∈t.nW,E3 x=aa ab
def Gk{a b c:Int}(h1:b<=a)(h2:a<=c):xQ a b c=aa ab:=by unfold xQ;rw[dT (show a>=b from h1),aH rfl,aq,dT h2]
def JO{t:b9}(h:uD t):zL t=aa ab:=by
 obtain⟨⟨⟨⟨a1,a2⟩,⟨a3,a4⟩,⟨a5,a6⟩,⟨a7,a8⟩,a9,E7⟩,hl⟩,hf⟩:=h;have hc:Kw t.nW=aa ai:=by
  have h:=dQ (step:=Gb t.nW) (r:= .inl ()) (λk=>(k:Int)) t.nW.length (λk hk=>by
   unfold Gb RL;simp only[bb hk,aI,aP hk,aq,hf _ (dx hk),ei,aE,aD];rw[ba (by omega)]) (by
   unfold Gb;simp only[bJ,aE,aD]) (by omega)
  have h':aJ (Gb t.nW) 0=_:=h;unfold Kw Rg;rw[h'];rfl
 unfold zL;simp only[Gk a1 a2,Gk a3 a4,Gk a5 a6,Gk a7 a8,Gk a9 E7,aq,aI,dT (show len t.nW<=4 by unfold len;omega),hc,Bool.not_false]
def alk{t:b9}(h:uD t):Wp (KQ t) λr=>zf (λy=>lK t.Max 0 y) r.1 r.2:=by
 have hm:=h.1.1.2.2.1;have ha:∀z,-10001<=z->z<=10001->Wp (CZ z t) λc=>c=ab->lK t.Max 0 z:=λz z0 z1=>by unfold CZ;exact(Y' hm.1 hm.2 (by have:=h.1.2;omega) (by omega) (by omega) z0 z1).bind λc hc=>au.2 hc
 unfold KQ RJ;rw[JO h];simp only[aq,ei,aE,aD];refine Wp.bind (Q:=λr=>zf (λy=>lK t.Max 0 y) r.1 r.2) ?_ λr hr=>au.2 hr;refine(ha 0 (by omega) (by omega)).bind λc hc=>Wp.ite (λ_=>au.2 ⟨⟨n_ _,n_ _⟩,.inl ⟨rfl,rfl⟩⟩) λhn=>?_;have h0:=hc (by simpa using hn);refine(Y_ (P:=λy=>lK t.Max 0 y) (m:=t.Max) hm.1 hm.2 (λz hz=>hz.2.1.1) h0 λz z0 z1=>?_).bind λl hl=>?_
 ·unfold aaj;rw[bZ (by omega) (by omega)];refine(ha _ (by omega) (by omega)).bind λc hc=>Wp.ite (λh=>au.2 (.inl ⟨rfl,hc h⟩)) λ_=>au.2 (.inr rfl)
 refine(Y2 (P:=λy=>lK t.Max 0 y) (m:=t.Max) hm.1 hm.2 (λz hz=>hz.2.1.2) h0 λz z0 z1=>?_).bind λu hu=>?_
 ·unfold aai;rw[bZ (by omega) (by omega)];refine(ha _ (by omega) (by omega)).bind λc hc=>Wp.ite (λh=>au.2 (.inl ⟨rfl,hc h⟩)) λ_=>au.2 (.inr rfl)
 refine au.2 ⟨⟨hl.1,hu.1⟩,.inr λz z1 z2=>?_⟩;by_cases hz:z<=0
 ·exact hl.2 z z1 hz
 ·exact hu.2 z (by omega) z2
def alj{t:b9}(h:uD t){y:Int}(y0: -10001<=y)(y1:y<=10001):Wp (KP t y) λr=>zf (λx=>lK t.Max x y) r.1 r.2:=by
 have hm:=h.1.1.2.2.1;have ha:∀z,-10001<=z->z<=10001->Wp (CY z t y) λc=>c=ab->lK t.Max z y:=λz z0 z1=>by unfold CY;exact(Y' hm.1 hm.2 (by have:=h.1.2;omega) z0 z1 y0 y1).bind λc hc=>au.2 hc
 unfold KP RI;rw[JO h];simp only[aq,ei,aE,aD];refine Wp.bind (Q:=λr=>zf (λx=>lK t.Max x y) r.1 r.2) ?_ λr hr=>au.2 hr;refine(ha 0 (by omega) (by omega)).bind λc hc=>Wp.ite (λ_=>au.2 ⟨⟨n_ _,n_ _⟩,.inl ⟨rfl,rfl⟩⟩) λhn=>?_;have h0:=hc (by simpa using hn);refine(Y_ (P:=λx=>lK t.Max x y) (m:=t.Max) hm.1 hm.2 (λz hz=>hz.1.1) h0 λz z0 z1=>?_).bind λl hl=>?_
 ·unfold aah;rw[bZ (by omega) (by omega)];refine(ha _ (by omega) (by omega)).bind λc hc=>Wp.ite (λh=>au.2 (.inl ⟨rfl,hc h⟩)) λ_=>au.2 (.inr rfl)
 refine(Y2 (P:=λx=>lK t.Max x y) (m:=t.Max) hm.1 hm.2 (λz hz=>hz.1.2) h0 λz z0 z1=>?_).bind λu hu=>?_
 ·unfold aag;rw[bZ (by omega) (by omega)];refine(ha _ (by omega) (by omega)).bind λc hc=>Wp.ite (λh=>au.2 (.inl ⟨rfl,hc h⟩)) λ_=>au.2 (.inr rfl)
 refine au.2 ⟨⟨hl.1,hu.1⟩,.inr λz z1 z2=>?_⟩;by_cases hz:z<=0
 ·exact hl.2 z z1 hz
 ·exact hu.2 z (by omega) z2
end
end Rx
namespace Rx
section
def PF(s:fw):Prop:=((-5000<=s.jx∧s.jx<=s.iS)∧s.iS<=5000)∧1<=s.fL∧s.fL<=100
def Pj(l:List fw):Prop:=l.length<=8∧∀i,i<l.length->PF (gt l i)
def Fl(l:List fw)(x:List Int):Prop:=x.length=l.length∧∀i,i<l.length->(gt l i).jx<=gt x i∧gt x i<=(gt l i).iS
def aox{l:List fw}(h:Pj l):KJ l=aa 0:=by
 have hl:=h.1;have hp:=dQ (step:=Gq l) (r:= .inl ()) (λk=>(k:Int)) l.length (λk hk=>by
  obtain⟨⟨⟨h1,h2⟩,h3⟩,h4,h5⟩:=h.2 k hk;unfold Gq;simp only[bb hk,aI,aP hk,aq,dF (show ¬(gt l k).jx< -5000 by omega),dF (show ¬(gt l k).jx>(gt l k).iS by omega),dF (show ¬(gt l k).iS>5000 by omega),dF (show ¬(gt l k).fL<1 by omega),dF (show ¬(gt l k).fL>100 by omega),aE,aD];rw[ba (by omega)]) (by
  unfold Gq;simp only[bJ,aE,aD]) (by omega)
 have h':aJ (Gq l) 0=_:=hp;unfold KJ;rw[dF (show ¬len l>8 by unfold len;omega),aL (by decide),h'];rfl
def ak9{l:List fw}(h:Pj l):Wp (KK l) λr=>r.2.2=0:=by
 have hl:=h.1;unfold KK;rw[aox h];simp only[aq,mi,aE,aD];refine Wp.bind (Q:=λ_=>True) ?_ λr _=>au.2 rfl;refine dV l.length (λk s=>∃a c,s=(a,c,(k:Int))) ⟨0,0,rfl⟩ ?_ ?_
 ·rintro k s hk ⟨a,c,rfl⟩;unfold RA;simp only[bb hk,aI,aP hk,aq];exact au.2 ⟨_,_,by rw[ba (by omega)]⟩
 ·rintro s ⟨a,c,rfl⟩;unfold RA;simp only[bJ,aE,aD];exact au.2 trivial
def ayf{a lo hi:Int}(h:lo<=hi):lo<=imax lo (eA a hi)∧imax lo (eA a hi)<=hi:=by unfold imax eA;split<;>split<;>omega
def Y5{l:List fw}(h:Pj l)(ap0:Int):Wp (Gp l ap0) λr=>Fl l r.2:=by
 have hl:=h.1;unfold Gp;refine Wp.bind (Q:=λ(r:Int×List Int)=>Fl l r.2) ?_ λr hr=>au.2 hr;refine dV l.length (λk s=>∃n x,s=(n,(k:Int),x)∧x.length=k∧∀i,i<k->(gt l i).jx<=gt x i∧gt x i<=(gt l i).iS) ⟨0,[],rfl,rfl,λi hi=>by omega⟩ ?_ ?_
 ·rintro k s hk ⟨n,x,rfl,e1,e2⟩;unfold Ry;simp only[bb hk,aI,aP hk,aq];refine(aCI _ _).bind λf _=>?_;unfold I7;simp only[aq];rw[cK (by simp;omega)];simp only[aq];have hc:=ayf (a:=f.1) (h.2 k hk).1.1.2;refine au.2 ⟨_,x++[imax (gt l k).jx (eA f.1 (gt l k).iS)],by rw[ba (by omega)],by rw[cW,e1];rfl,λi hi=>?_⟩;rw[sQ (show i<x.length+1 by omega)];by_cases eN:i<x.length
  ·rw[aH eN];exact e2 i (by omega)
  ·rw[aL eN,show i=k by omega];exact hc
 ·rintro s ⟨n,x,rfl,e1,e2⟩;unfold Ry;simp only[bJ,aE,aD];exact au.2 ⟨e1,e2⟩
def Qt{l:List fw}(h:Pj l){total:Int}(t0: -500000<=total)(t1:total<=500000):Wp (CV l total) λr=>Fl l r.2.2:=by
 have hl:=h.1;unfold CV;refine(ak9 h).bind λr hr=>?_;rw[hr];simp only[mi,aE,aD,dF (show ¬total< -500000 by omega),dF (show ¬total>500000 by omega),aq,I7];refine Wp.bind (Q:=λ_=>True) ?_ λp _=>?_
 ·refine tH (λs=>(s.2-s.1).toNat) (λs=>(-1000200<=s.1∧s.1<=s.2)∧s.2<=1000200) (λs hs=>?_) ⟨⟨by decide,by decide⟩,by decide⟩ (by decide);obtain⟨a,c⟩:=s;simp only at hs;unfold aab;by_cases aV:a<c
  ·simp only[dT aV,aI];rw[bZ (x:=a+c) (by omega) (by omega),aCJ (by omega) (by omega) (by omega) (by omega)];simp only[aq];refine(Y5 h _).bind λx _=>?_;refine Wp.bind (Q:=λs=>((-1000200<=s.1∧s.1<=s.2)∧s.2<=1000200)∧s.2-s.1<c-a) ?_ λs hs=>au.2 ⟨hs.1,by(try simp only);omega⟩;refine Wp.ite (λ_=>au.2 ⟨⟨⟨by simp only;omega,by simp only;omega⟩,by simp only;omega⟩,by simp only;omega⟩) λ_=>au.2 ?_;rw[bZ (by omega) (by omega)];exact⟨⟨⟨by simp only;omega,by simp only;omega⟩,by simp only;omega⟩,by simp only;omega⟩
  ·simp only[dF aV,aE,aD];exact au.2 trivial
 refine(Y5 h _).bind λx hx=>?_;refine Wp.bind (Q:=λx=>Fl l x) ?_ λx hx=>au.2 hx;refine dV l.length (λk s=>∃n x,s=(n,(k:Int),x)∧Fl l x) ⟨_,x.2,rfl,hx⟩ ?_ ?_
 ·rintro k s hk ⟨n,x,rfl,e1,e2⟩;have HA:k<x.length:=by omega
  unfold RB;simp only[bb hk,aI,aP hk,aP HA,aq,jC HA];refine Wp.bind (Q:=λc=>c=ab->gt x k<(gt l k).iS) ?_ λc hc=>?_
  ·refine Wp.ite (λ_=>?_) λ_=>au.2 λe=>by cases e
   refine Wp.ite (λhh=>?_) λ_=>au.2 λe=>by cases e
   unfold Rz;exact au.2 λ_=>jA hh
  refine Wp.bind (Q:=λs=>Fl l s.2) ?_ λs hs=>au.2 ⟨_,s.2,by rw[ba (by omega)],hs⟩;refine Wp.ite (λhh=>au.2 ⟨by simpa using e1,λi hi=>?_⟩) λ_=>au.2 ⟨e1,e2⟩;have h1:=hc hh;have h2:=e2 k hk;have h3:=h.2 k hk;show(gt l i).jx<=gt (x.set k (W (gt x k+1))) i∧gt (x.set k (W (gt x k+1))) i<=(gt l i).iS;rw[gH HA];by_cases eN:i=k
  ·rw[aH eN,eN,bZ (by have:=h3.1;omega) (by have:=h3.1;omega)];omega
  ·rw[aL eN];exact e2 i hi
 ·rintro s ⟨n,x,rfl,e⟩;unfold RB;simp only[bJ,aE,aD];exact au.2 e
def Pg(M:List b9):Prop:=M.length<=8∧∀i,i<M.length->uD (gt M i)
def aax{t:b9}{P:Int->Prop}(h:uD t){l u:Int}(hr:zf P l u)(hp:∀z,P z-> -t.Max<=z∧z<=t.Max):PF ⟨l,u,t.fL⟩:=by
 have hm:=h.1.1.2.2.1;have hc:=h.1.1.2.2.2.2;obtain⟨⟨h1,h2⟩,h3⟩:=hr;rcases h3 with⟨rfl,rfl⟩|h3
 ·exact⟨⟨⟨by show(-5000:Int)<=0;omega,by show(0:Int)<=0;omega⟩,by show(0:Int)<=5000;omega⟩,hc⟩
 ·have a1:=hp l (h3 l (n_ _) (by omega));have a2:=hp u (h3 u (by omega) (n_ _));exact⟨⟨⟨by show-5000<=l;omega,by show l<=u;omega⟩,by show u<=5000;omega⟩,hc⟩
def PL(s:Int)(t:b9)(x:fw):Prop:=PF x∧(if t.tq≠s then x.jx=0∧x.iS=0 else zf (λy=>lK t.Max 0 y) x.jx x.iS)
def Y7{M:List b9}(h:Pg M)(s:Int):Wp (GU ⟨M,[]⟩ s) λl=>l.length=M.length∧∀i,i<M.length->PL s (gt M i) (gt l i):=by
 have hl:=h.1;unfold GU;refine Wp.bind (Q:=λ(l:List fw)=>l.length=M.length∧∀i,i<M.length->PL s (gt M i) (gt l i)) ?_ λr hr=>au.2 hr;refine dV M.length (λk st=>∃l,st=((k:Int),l)∧l.length=k∧∀i,i<k->PL s (gt M i) (gt l i)) ⟨[],rfl,rfl,λi hi=>by omega⟩ ?_ ?_
 ·rintro k st hk ⟨l,rfl,e1,e2⟩;have ht:=h.2 k hk;unfold SB;simp only[bb hk,aI,aP hk,aq];refine Wp.bind (Q:=λr=>∃x,r=l++[x]∧PL s (gt M k) x) ?_ λr hr=>?_
  ·refine Wp.ite (λhs=>?_) λhs=>?_
   ·rw[cK (by simp;omega)];refine au.2 ⟨⟨0,0,(gt M k).fL⟩,rfl,⟨⟨⟨by show(-5000:Int)<=0;omega,by show(0:Int)<=0;omega⟩,by show(0:Int)<=5000;omega⟩,ht.1.1.2.2.2.2⟩,?_⟩;rw[aH (by simpa using hs)];exact⟨rfl,rfl⟩
   ·refine(alk ht).bind λr hr=>?_;unfold SA;simp only[aP hk,aq,show al (len ([]:List fU)>0)=ai from rfl,aE,aD];rw[cK (by simp;omega)];refine au.2 ⟨⟨r.1,r.2,(gt M k).fL⟩,rfl,aax ht hr λz hz=>hz.2.1,?_⟩;rw[aL (by simpa using hs)];exact hr
  ·obtain⟨x,rfl,hx⟩:=hr;refine au.2 ⟨l++[x],by rw[ba (by omega)],by rw[cW,e1];rfl,λi hi=>?_⟩;rw[sQ (show i<l.length+1 by omega)];by_cases eN:i<l.length
   ·rw[aH eN];exact e2 i (by omega)
   ·rw[aL eN,show i=k by omega];exact hx
 ·rintro st ⟨l,rfl,e1,e2⟩;unfold SB;simp only[bJ,aE,aD];exact au.2 ⟨e1,e2⟩
def X0(t:b9)(y:Int)(x:fw):Prop:=PF x∧zf (λz=>lK t.Max z y) x.jx x.iS
def ali{M:List b9}(h:Pg M){y:List Int}(hy:y.length=M.length)(hb:∀i,i<M.length-> -5000<=gt y i∧gt y i<=5000):Wp (LW ⟨M,[]⟩ y) λl=>l.length=M.length∧∀i,i<M.length->X0 (gt M i) (gt y i) (gt l i):=by
 have hl:=h.1;unfold LW;refine Wp.bind (Q:=λ(l:List fw)=>l.length=M.length∧∀i,i<M.length->X0 (gt M i) (gt y i) (gt l i)) ?_ λr hr=>au.2 hr;refine dV M.length (λk st=>∃l,st=((k:Int),l)∧l.length=k∧∀i,i<k->X0 (gt M i) (gt y i) (gt l i)) ⟨[],rfl,rfl,λi hi=>by omega⟩ ?_ ?_
 ·rintro k st hk ⟨l,rfl,e1,e2⟩;have ht:=h.2 k hk;unfold Sy;simp only[bb hk,aI,aP hk,aP (show k<y.length by omega),aq];refine(alj ht (by have:=hb k hk;omega) (by have:=hb k hk;omega)).bind λr hr=>?_;unfold Sz;simp only[aP hk,aq,show al (len ([]:List fU)>0)=ai from rfl,aE,aD];rw[cK (by simp;omega)];refine au.2 ⟨l++[⟨r.1,r.2,(gt M k).fL⟩],by rw[ba (by omega)],by rw[cW,e1];rfl,λi hi=>?_⟩;rw[sQ (show i<l.length+1 by omega)];by_cases eN:i<l.length
  ·rw[aH eN];exact e2 i (by omega)
  ·rw[aL eN,show i=k by omega];exact⟨aax ht hr λz hz=>hz.1,hr⟩
 ·rintro st ⟨l,rfl,e1,e2⟩;unfold Sy;simp only[bJ,aE,aD];exact au.2 ⟨e1,e2⟩
def vY(x:dk):Prop:=((0<=x.iF∧x.iF<=200)∧1<=x.ib∧x.ib<=200)∧Pg x.cT
def N6{x:dk}(h:vY x):uX x=aa 0:=by
 obtain⟨⟨⟨h1,h2⟩,h3,h4⟩,hl,ht⟩:=h;have hc:Kr x.cT=aa ai:=by
  have h:=dQ (step:=F' x.cT) (r:= .inl ()) (λk=>(k:Int)) x.cT.length (λk hk=>by
   unfold F' QI;simp only[bb hk,aI,aP hk,aq,JO (ht k hk),ei,aE,aD];rw[ba (by omega)]) (by
   unfold F';simp only[bJ,aE,aD]) (by omega)
  have h':aJ (F' x.cT) 0=_:=h;unfold Kr Q5;rw[h'];rfl
 unfold uX;rw[dF (show ¬len x.cT>8 by unfold len;omega),dF (show ¬eA x.iF x.ib<0 by unfold eA;split<;>omega),dF (show ¬imax x.iF x.ib>200 by unfold imax;split<;>omega)];simp only[aE,aD,dI (show x.ib≠0 by omega),ite_self,aq,hc]
def akY{x:dk}(h:vY x){l:List fU}(hl:l.length=x.cT.length):Wp (JS x l) λ_=>True:=by
 have h8:=h.2.1;unfold JS;rw[N6 h];simp only[aq,mi,aE,aD,BK (show len l=len x.cT by unfold len;omega)];refine Wp.bind (Q:=λ_=>True) ?_ λr _=>by cases r<;>exact au.2 trivial
 refine dV l.length (λk s=>∃z,s=((k:Int),z)) ⟨_,rfl⟩ ?_ ?_
 ·rintro k s hk ⟨z,rfl⟩;unfold QH;simp only[bb hk,aI,aP hk,aq,aP (show k<x.cT.length by omega)];refine Wp.bind (Q:=λ_=>True) ?_ λc _=>Wp.ite (λ_=>au.2 trivial) λ_=>?_
  ·unfold FU;refine Wp.bind (Q:=λ_=>True) ?_ λ_ _=>au.2 trivial;exact Wp.ite (λ_=>au.2 trivial) λ_=>au.2 trivial
  refine Wp.bind (Q:=λ_=>True) ?_ λc _=>au.2 ⟨_,by rw[ba (by omega)]⟩;exact Wp.ite (λ_=>au.2 trivial) λ_=>au.2 trivial
 ·rintro s ⟨z,rfl⟩;unfold QH;simp only[bJ,aE,aD];exact au.2 trivial
def Qv{l:List Int}{a c:Int}(hl:l.length<=1000)(h:∀i,i<l.length->a<=gt l i∧gt l i<=c):rS l a c=aa ab:=by
 have hp:=dQ (step:=zI l a c) (r:= .inl ()) (λk=>(k:Int)) l.length (λk hk=>by
  have:=h k hk;unfold zI Pa;simp only[bb hk,aI,aP hk,aq,dF (show ¬gt l k<a by omega),dF (show ¬gt l k>c by omega),aE,aD];rw[ba (by omega)]) (by
  unfold zI;simp only[bJ,aE,aD]) (by omega)
 have h':aJ (zI l a c) 0=_:=hp;unfold rS Ko J8;rw[h'];rfl
def Ap(t:b9)(m:Int):b9:=⟨t.Kind,t.tq,eA t.Max (imax m 0),t.vZ,t.fL,t.nW⟩
def arC{t:b9}(h:uD t){m:Int}(m0:0<=m):uD (Ap t m)∧(Ap t m).Max<=m:=by
 obtain⟨⟨⟨a1,a2,a3,a4⟩,hl⟩,hf⟩:=h;have e:0<=eA t.Max (imax m 0)∧eA t.Max (imax m 0)<=5000∧eA t.Max (imax m 0)<=m:=by unfold eA imax;split<;>split<;>omega
 exact⟨⟨⟨⟨a1,a2,⟨e.1,e.2.1⟩,a4⟩,hl⟩,hf⟩,e.2.2⟩
def alw{x:dk}(h:vY x){A:List Int}(hA:A.length=x.cT.length)(hb:∀i,i<A.length->0<=gt A i∧gt A i<=5000){Z:List Int}(hZ:Z.length=x.cT.length)(hz:∀i,i<Z.length-> -5000<=gt Z i∧gt Z i<=5000):Wp (Pb x A [] Z) λr=>(r.1=[]∧r.2.1=0)∧r.2.2.2.length=x.cT.length∧∀i,i<x.cT.length->gt r.2.2.2 i=Ap (gt x.cT i) (gt A i):=by
 have h8:=h.2.1;unfold Pb;rw[N6 h];simp only[aq,mi,aE,aD,BK (show len A=len x.cT by unfold len;omega),BK (show len Z=len x.cT by unfold len;omega),show al (len ([]:List fU)>0)=ai from rfl,Qv (show A.length<=1000 by omega) hb,Qv (show Z.length<=1000 by omega) hz,ei];refine Wp.bind (Q:=λr=>r.1=[]∧r.2.length=x.cT.length∧∀i,i<x.cT.length->gt r.2 i=Ap (gt x.cT i) (gt A i)) ?_ λr hr=>?_
 ·refine dV x.cT.length (λk s=>∃M,s=((k:Int),[],M)∧M.length=k∧∀i,i<k->gt M i=Ap (gt x.cT i) (gt A i)) ⟨[],rfl,rfl,λi hi=>by omega⟩ ?_ ?_
  ·rintro k s hk ⟨M,rfl,e1,e2⟩;unfold Xp QG Rk;have eJ:=(h.2.2 k hk).1.2;simp only[bb hk,aI,aP hk,aP (show k<A.length by omega),aq];rw[cK (by simp;omega)];simp only[aq];rw[cK (by simp;omega)];refine au.2 ⟨M++[Ap (gt x.cT k) (gt A k)],by rw[ba (by omega)];rfl,by rw[cW,e1];rfl,λi hi=>?_⟩;rw[sQ (show i<M.length+1 by omega)];by_cases eN:i<M.length
   ·rw[aH eN];exact e2 i (by omega)
   ·rw[aL eN,show i=k by omega]
  ·rintro s ⟨M,rfl,e1,e2⟩;unfold Xp;simp only[bJ,aE,aD];exact au.2 ⟨rfl,e1,e2⟩
 ·have hL:aJ (Xo [] Z) 0=aa (.inl ()):=oz (.done (by unfold Xo;rfl)) (by omega);rw[hL];exact au.2 ⟨⟨hr.1,rfl⟩,hr.2⟩
def alA{x:dk}(h:vY x){A:List Int}(hA:A.length=x.cT.length)(hb:∀i,i<A.length->0<=gt A i∧gt A i<=5000){d:mh}(d1: -500000<=d.dC∧d.dC<=500000)(d2: -500000<=d.iF∧d.iF<=500000)(d3: -500000<=d.ib∧d.ib<=500000):Wp (Pd x A [] d) λ_=>True:=by
 have h8:=h.2.1;unfold Pd;refine Wp.bind (Q:=λr=>(r.1=[]∧r.2.1=0)∧r.2.2.length=x.cT.length∧∀i,i<x.cT.length->gt r.2.2 i=Ap (gt x.cT i) (gt A i)) ?_ λr hr=>?_
 ·unfold Xm;rw[show len x.cT=((x.cT.length:Nat):Int)from rfl,yd (by omega)];simp only[aq];refine(alw h hA hb (Z:=List.replicate x.cT.length 0) (by simp) λi hi=>by rw[Bi (by simpa using hi)];omega).bind λr hr=>?_;rw[hr.1.2];have hw:rS [d.dC,d.iF,d.ib] (-500000) 500000=aa ab:=Qv (by simp) λi hi=>by
   match i,hi with
   |0,_=>exact d1
   |1,_=>exact d2
   |2,_=>exact d3
  simp only[X',aI,hw,aq,ei,aE,aD];exact au.2 ⟨⟨hr.1.1,rfl⟩,hr.2⟩
 obtain⟨⟨e1,e2⟩,e3,e4⟩:=hr;obtain⟨r1,r2,M⟩:=r;simp only at e1 e2 e3 e4;subst e1 e2;have hM:Pg M:=⟨by omega,λi hi=>by rw[e4 i (by omega)];exact(arC (h.2.2 i (by omega)) (hb i (by omega)).1).1⟩;simp only[mi,aE,aD];refine(Y7 hM 0).bind λl0 yC=>?_;refine(Qt ⟨by omega,λi hi=>(yC.2 i (by omega)).1⟩ d2.1 d2.2).bind λx3 h3=>?_;refine(Y7 hM 1).bind λl1 nM=>?_;refine(Qt ⟨by omega,λi hi=>(nM.2 i (by omega)).1⟩ d3.1 d3.2).bind λx5 h5=>?_;have n3:=h3.1;have n5:=h5.1;have DP:∀i,i<M.length->0<=(gt M i).Max∧(gt M i).Max<=5000:=λi hi=>(hM.2 i hi).1.1.2.2.1;have akM:∀i,i<M.length->lK (gt M i).Max 0 0:=λi hi=>by have:=DP i hi;refine⟨⟨by omega,by omega⟩,⟨by omega,by omega⟩,?_⟩;have:=PU this.1 this.1;omega
 have hy:∀i,i<M.length->lK (gt M i).Max 0 (gt x5.2.2 i+gt x3.2.2 i):=λi hi=>by
  obtain⟨_,q0⟩:=yC.2 i hi;obtain⟨_,q1⟩:=nM.2 i hi;have b0:=h3.2 i (by omega);have b1:=h5.2 i (by omega);have bV:=(hM.2 i hi).1.1.2.1;have key:∀{l u z:Int},zf (λy=>lK (gt M i).Max 0 y) l u->l<=z->z<=u->lK (gt M i).Max 0 z:=λhr z1 z2=>by
   rcases hr.2 with⟨rfl,rfl⟩|hr
   ·rw[show _=(0:Int)from Int.le_antisymm z2 z1];exact akM i hi
   ·exact hr _ z1 z2
  by_cases hs:(gt M i).tq=0
  ·rw[aL (λhn=>hn hs)]at q0;rw[aH (by omega)]at q1;rw[show gt x5.2.2 i=0 by omega,Int.zero_add];exact key q0 b0.1 b0.2
  ·rw[aH hs]at q0;rw[aL (λhn=>hn (by omega))]at q1;rw[show gt x3.2.2 i=0 by omega,Int.add_zero];exact key q1 b1.1 b1.2
 refine Wp.bind (Q:=λy=>y.length=M.length∧∀i,i<M.length->lK (gt M i).Max 0 (gt y i)) ?_ λy Tt=>?_
 ·refine dV x5.2.2.length (λk s=>∃y,s=((k:Int),y)∧y.length=M.length∧(∀i,i<k->lK (gt M i).Max 0 (gt y i))∧∀i,k<=i->gt y i=gt x5.2.2 i) ⟨x5.2.2,rfl,by omega,λi hi=>by omega,λi _=>rfl⟩ ?_ ?_
  ·rintro k s hk ⟨y,rfl,f1,f2,f3⟩;have MS:k<y.length:=by omega
   unfold Xr;simp only[bb hk,aI,aP MS,aP (show k<x3.2.2.length by omega),aq,jC MS];have ix:=hy k (by omega);have pG:=DP k (by omega);rw[f3 k (bx _),bZ (x:=gt x5.2.2 k+gt x3.2.2 k) (by have:=ix.2.1;omega) (by have:=ix.2.1;omega)];refine au.2 ⟨y.set k (gt x5.2.2 k+gt x3.2.2 k),by rw[ba (by omega)],by simpa using f1,λi hi=>?_,λi hi=>?_⟩
   ·rw[gH MS];by_cases eN:i=k
    ·rw[aH eN,eN];exact ix
    ·rw[aL eN];exact f2 i (by omega)
   ·rw[gH MS,aL (by omega)];exact f3 i (by omega)
  ·rintro s ⟨y,rfl,f1,f2,f3⟩;unfold Xr;simp only[bJ,aE,aD];exact au.2 ⟨f1,λi hi=>f2 i (by omega)⟩
 have hyb:∀i,i<M.length-> -5000<=gt y i∧gt y i<=5000:=λi hi=>by have:=(Tt.2 i hi).2.1;have:=DP i hi;omega
 refine(ali hM Tt.1 hyb).bind λl2 vB=>?_;refine(Qt ⟨by omega,λi hi=>(vB.2 i (by omega)).1⟩ d1.1 d1.2).bind λcG D7=>?_;have n14:=D7.1;have hy1:=Tt.1;refine Wp.bind (Q:=λs=>s.2.2.2.2.2.2.length=M.length) ?_ λs hs=>?_
 ·refine dV y.length (λk s=>∃z1 z2 z3 z4 z5 z6 T,s=((k:Int),z1,z2,z3,z4,z5,z6,T)∧T.length=k) ⟨0,0,0,0,0,0,[],rfl,rfl⟩ ?_ ?_
  ·rintro k s hk ⟨z1,z2,z3,z4,z5,z6,T,rfl,f1⟩;unfold Xq;simp only[bb hk,aI,aP hk,aP (show k<cG.2.2.length by omega),aq];rw[cK (by simp;omega)];refine au.2 ⟨z1,z2,z3,z4,z5,z6,T++[⟨gt cG.2.2 k,gt y k⟩],by rw[ba (by omega)],by rw[cW,f1];rfl⟩
  ·rintro s ⟨z1,z2,z3,z4,z5,z6,T,rfl,f1⟩;unfold Xq;simp only[bJ,aE,aD];exact au.2 (by(try simp only);omega)
 refine(akY h (by rw[hs,e3])).bind λz _=>?_;unfold Xn;simp only[aq];exact au.2 trivial
end
end Rx
namespace Rx
section
variable {b:aw} {p:ax} {l:List Int} {a:Int}
def pw(S c:Int):Int:= -((-(S*c))/1000)
def apV{S c n:Int}(h:n<pw S c):1000*n<S*c:=by unfold pw at h;omega
def ala{t:b9}(h:uD t){x y:Int}(x0: -5000<=x)(x1:x<=5000)(y0: -5000<=y)(y1:y<=5000):JT t ⟨x,y⟩=aa (pw (x*x+y*y) t.fL,0):=by obtain⟨q1,q2⟩:=CE (x:=x) (by omega) (by omega);obtain⟨q3,q4⟩:=CE (x:=y) (by omega) (by omega);obtain⟨c1,c2⟩:=h.1.1.2.2.2.2;have hm:0<=(x*x+y*y)*t.fL:=PU (by omega) (by omega);have T5:(x*x+y*y)*t.fL<=200040002*100:=FB (by omega) c2 (by omega) (by decide);unfold JT FU;simp only[JO h,aq,ei,aE,aD];rw[dT (show imax x y<=5000 from abr.2 ⟨x1,y1⟩),aH rfl,dT (show eA x y>= -5000 from aby.2 ⟨x0,y0⟩)];simp only[aq,ei,aE,aD];rw[bZ (x:=x*x) (by omega) (by omega),bZ (x:=y*y) (by omega) (by omega),bZ (x:=x*x+y*y) (by omega) (by omega),bZ (x:=(x*x+y*y)*t.fL) (by omega) (by omega),aCC (by omega) (by omega) (by omega) (by omega)];rfl
def ak5{n:Int}(h0:0<=n)(h1:n<=1000000000000000000):Wp (O7 n) λr=>0<=r.1∧r.1*r.1<=n:=by
 unfold O7;rw[dF (show ¬n<0 by omega),aL (by decide),dF (show ¬n>1000000000000000000 by omega)];simp only[aq,aE,aD];refine Wp.bind (Q:=λr=>0<=r∧r*r<=n) ?_ λr hr=>au.2 hr;refine tH (λs=>(s.2-s.1).toNat) (λs=>((0<=s.1∧s.1<=s.2)∧s.2<=1000000000)∧s.1*s.1<=n) (λs hs=>?_) ⟨⟨⟨by decide,by decide⟩,by decide⟩,by simp;omega⟩ (by decide);obtain⟨c,d⟩:=s;simp only at hs;obtain⟨⟨⟨a0,a1⟩,a2⟩,a3⟩:=hs;unfold ajB;by_cases aV:c<d
 ·simp only[dT aV,aI];rw[bZ (x:=c+d) (by omega) (by omega),bZ (x:=c+d+1) (by omega) (by omega),zO (by omega) (by omega) (by omega)];obtain⟨m,hm⟩:∃m,(c+d+1)/2=m:=⟨_,rfl⟩;rw[hm];have m0:c<m∧m<=d:=by omega
  have mm:0<=m*m∧m*m<=1000000000*1000000000:=⟨PU (by omega) (by omega),FB (by omega) (by omega) (by omega) (by decide)⟩;rw[aq,bZ (x:=m*m) (by omega) (by omega)];refine Wp.bind (Q:=λs=>(((0<=s.1∧s.1<=s.2)∧s.2<=1000000000)∧s.1*s.1<=n)∧s.2-s.1<d-c) ?_ λs hs=>au.2 ⟨hs.1,by(try simp only);omega⟩;refine Wp.ite (λhh=>au.2 ⟨⟨⟨⟨by simp only;omega,by simp only;omega⟩,by simp only;omega⟩,jA hh⟩,by simp only;omega⟩) λ_=>au.2 ?_;rw[bZ (by omega) (by omega)];exact⟨⟨⟨⟨by simp only;omega,by simp only;omega⟩,by simp only;omega⟩,a3⟩,by simp only;omega⟩
 ·simp only[dF aV,aE,aD];exact au.2 ⟨a0,a3⟩
def an1{x y:Int}(hy:0<=y)(h:x*x<y*y):x<=y:=by apply gC;intro hn;have:=FB (show y<=x by omega) (show y<=x by omega) hy (by omega);omega
def alg{t:b9}(h:uD t){gu:Int}(l0:0<=gu)(l1:gu<=100000):Wp (JU t gu) λr=>0<=r∧r<=t.Max:=by obtain⟨m0,m1⟩:=h.1.1.2.2.1;obtain⟨c1,c2⟩:=h.1.1.2.2.2.2;unfold JU;rw[ala h (by omega) (by omega) (by omega) (by omega)];simp only[aq,mi,aE,aD,dF (show ¬gu<0 by omega)];refine Wp.ite (λhh=>au.2 ⟨m0,n_ _⟩) λhh=>?_;have hh:¬gu>=pw (t.Max*t.Max+0*0) t.fL:=pQ hh;rw[show t.Max*t.Max+0*0=t.Max*t.Max by omega]at hh;have aV:=apV (Int.not_le.1 hh);rw[bZ (x:=1000*gu) (by omega) (by omega),zO (by omega) (by omega) (by omega)];simp only[aq];have q1:1000*gu/t.fL<t.Max*t.Max:=Int.ediv_lt_of_lt_mul (by omega) aV;have q0:0<=1000*gu/t.fL:=Int.ediv_nonneg (by omega) (by omega);have q3:=(CE (x:=t.Max) (by omega) (by omega)).2;exact(ak5 q0 (by omega)).bind λr hr=>au.2 ⟨hr.1,an1 m0 (by omega)⟩
def asi(hb:Sm b.az)(i:Nat):Wp (Kc b.az (i:Int)) λr=>r<0∨∃c:Nat,r=(c:Int)∧c<b.az.length:=by
 unfold Kc;refine Wp.bind (Q:=λr:Unit⊕Int=>r= .inl ()∨∃c:Nat,r= .inr (c:Int)∧c<b.az.length) ?_ λr hr=>?_
 ·refine dV b.az.length (λk s=>s=(k:Int)) rfl ?_ ?_
  ·rintro k s hk rfl;unfold Rb R_;simp only[bb hk,aI,aP hk,aq];exact Wp.ite (λhh=>au.2 (.inr ⟨k,rfl,hk⟩)) λhh=>au.2 (by rw[ba (eP hb hk)])
  ·rintro s rfl;unfold Rb;simp only[bJ,aE,aD];exact au.2 (.inl rfl)
 ·rcases hr with rfl|⟨c,rfl,hc⟩
  ·exact au.2 (.inl (by decide))
  ·exact au.2 (.inr ⟨c,rfl,hc⟩)
def alC(hb:fu b)(v:nl b p){x:dk}(hx:vY x):Wp (LA x b p) λr=>r.1=0∧r.2.length=x.cT.length∧∀i,i<x.cT.length->0<=gt r.2 i∧gt r.2 i<=5000:=by
 obtain⟨⟨hl,hg⟩,⟨s1,s2,s3⟩,_,_,g3⟩:=fh.1 v.2;have h8:=hx.2.1;unfold LA;rw[N6 hx,xJ hb v.1,v.2,show len x.cT=((x.cT.length:Nat):Int)from rfl,yd (by omega)];simp only[aq,mi,aE,aD];refine Wp.bind (Q:=λA=>A.length=x.cT.length∧∀i,i<x.cT.length->0<=gt A i∧gt A i<=5000) ?_ λA hA=>au.2 ⟨rfl,hA⟩;refine dV x.cT.length (λk s=>∃A,s=((k:Int),A)∧A.length=x.cT.length∧∀i,i<x.cT.length->0<=gt A i∧gt A i<=5000) ⟨_,rfl,by simp,λi hi=>?_⟩ ?_ ?_
 ·rw[Bi hi];exact⟨by decide,by decide⟩
 ·rintro k s hk ⟨A,rfl,hA⟩;have Ua:k<A.length:=by have:=hA.1;omega
  unfold R9;simp only[bb hk,aI,aP hk,aq];refine(asi hb.2.2.1 k).bind λc0 hc0=>?_;refine Wp.bind (Q:=λs=>s=ab->0<=c0) ?_ λs hs=>?_
  ·refine Wp.ite (λh=>?_) λ_=>au.2 λh=>by cases h
   have h:c0>=0:=jA h;rcases hc0 with h'|⟨c,rfl,hc⟩
   ·omega
   ·rw[aoC hb v.1 v.2 (c:=(c:Int)) (by omega)];exact au.2 λ_=>h
  ·refine Wp.bind (Q:=λA=>A.length=x.cT.length∧∀i,i<x.cT.length->0<=gt A i∧gt A i<=5000) ?_ λA hA=>au.2 ⟨A,by rw[ba (by omega)],hA⟩;refine Wp.ite (λh=>?_) λ_=>au.2 hA;have h0:=hs h;rcases hc0 with h'|⟨c,rfl,hc⟩
   ·omega
   have T7:=(g3 c (by omega)).1;have ja:=(hg.2.2.2.2 c hc).2.1;rw[aP (show c<p.aX.length by omega)];refine(alg (hx.2.2 k hk) T7.1 (by omega)).bind λr hr=>?_;simp only[aP Ua,jC Ua,aq];have hm:=(hx.2.2 k hk).1.1.2.2.1;refine au.2 ⟨by simpa using hA.1,λi hi=>?_⟩;rw[gH Ua];split
   ·omega
   ·exact hA.2 i hi
 ·rintro s ⟨A,rfl,hA⟩;unfold R9;simp only[bJ,aE,aD];exact au.2 hA
