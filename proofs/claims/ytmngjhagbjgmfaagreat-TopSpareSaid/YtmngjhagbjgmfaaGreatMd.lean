import Derived.Test.YtmngjhagbjgmfaaGreatMc
set_option linter.all false
open Bool renaming false->ai,false_eq_true->aD,not_true->eg,true->ab
open Classical renaming byContradiction->gw,not_not->rW
open Decidable renaming decide->ak
open Int renaming le_refl->nY,mul_le_mul->Fx,mul_nonneg->PQ
open List renaming getD_eq_getElem?_getD->uF,length_append->cU,length_cons->jO,length_singleton->Jo,mem_append->bz,mem_singleton->dZ,pairwise_iff_getElem->B1
open Nat renaming le_refl->bw
open Option renaming bind_none->X8,bind_some->al,some->aa
noncomputable section
namespace Go.Proofs.YtmngjhagbjgmfaaGreat
open Go Go.RowKit Dp
namespace Rx
open Classical
section
variable {b:au} {p:aw}
end
end Rx
namespace Rx
open Classical
section
variable {b:au} {p:aw}
def bk(b:au)(j:Nat):Nat:=if h:∃k,k<b.ae.length∧oy (gt b.ae k) j∧∀i,i<b.ae.length->oy (gt b.ae i) j->i=k then h.choose else 0
def ni(b:au)(q:aw):Prop:=dp q∧bi b q=0
def alH(v:ni b p){S:List bn}(hl:S.length=p.aj.length)(hr:∀k,k<S.length->gR (gt S k)):ni b ⟨p.aF,S,p.aW,p.aR⟩:=⟨⟨v.1.1,by have:=v.1.2.1;unfold Sm at*;simp only;omega,v.1.2.2.1,v.1.2.2.2⟩,ZI v.2 rfl hl rfl rfl hr⟩
def Zk(v:ni b p){j:Nat}(hj:j<p.aj.length){x:bn}(hx:gR x):ni b ⟨p.aF,p.aj.set j x,p.aW,p.aR⟩:=by
 refine alH v (by simp) λk hk=>?_;rw[gE hj];split
 ·exact hx
 ·exact(ff.1 v.2).2.2.2.1 k (by simpa using hk)
def alI(v:ni b p){j:Nat}(hj:j<p.aj.length):gR (gt p.aj j):=(ff.1 v.2).2.2.2.1 j hj
abbrev WR:=Int×Int×List cG×List Source×List Consumer×Int×Int×Int×List Bool×List bn×List Int×List Part
def uO(r:WR):aw:=⟨r.2.2.2.2.2.2.2.2.1,r.2.2.2.2.2.2.2.2.2.1,r.2.2.2.2.2.2.2.2.2.2.1,r.2.2.2.2.2.2.2.2.2.2.2⟩
def qO(b:au)(x:Part):Prop:=0<=x.Number∧x.Number<=bsize b x.Kind-1
def aa5(hl:gj b){x:Part}(h:qO b x):(1<=x.Kind∧x.Kind<=4)∧0<=x.Number∧x.Number<=24:=by have h1:=hl.src;have h2:=hl.cZ;have h3:=hl.iL;have h4:=hl.jd;obtain⟨h5,h6⟩:=h;unfold bsize at h6;repeat' split at h6;all_goals omega
def OY{x y z:Part}(h:before x y)(h':before y z):before x z:=by unfold before at*;omega
def ajj{l:List Part}:(∀k,k<l.length->oP b l k)↔(∀x∈l,qO b x)∧l.Pairwise before:=by
 constructor
 ·intro h;refine⟨λx hx=>?_,B1.2 λi j hi hj iJ=>?_⟩
  ·obtain⟨k,hk,rfl⟩:=om hx;exact(h k hk).1
  ·rw[<-fH hi,<-fH hj];have key:∀m,i+1+m<l.length->before (gt l i) (gt l (i+1+m)):=λm=>by
    induction m with
    |zero=>exactλhm=>(h (i+1) hm).2 (by omega)
    |succ m ih=>exactλhm=>OY (ih (by omega)) ((h (i+1+(m+1)) hm).2 (by omega))
   have:=key (j-i-1) (by omega);rwa[show i+1+(j-i-1)=j by omega]at this
 ·rintro⟨h1,h2⟩ k hk;refine⟨h1 _ (du hk),λh0=>?_⟩;have:=B1.1 h2 (k-1) k (by omega) hk (by omega);rwa[<-fH,<-fH]at this
def aaV{x y:Part}(hx:(1<=x.Kind∧x.Kind<=4)∧0<=x.Number∧x.Number<=24)(hy:(1<=y.Kind∧y.Kind<=4)∧0<=y.Number∧y.Number<=24):∃c:Int,Gu x y=aa c∧(c<0↔before x y)∧(c=0↔x=y):=by
 unfold Gu before;obtain⟨k,n⟩:=x;obtain⟨k',n'⟩:=y;simp only[Part.mk.injEq]at*;by_cases h:k=k'
 ·rw[BG h];simp only[aD,aC,bY (show-1000000000000000000<=n-n' by omega) (by omega)];exact⟨_,rfl,by omega,by omega⟩
 ·rw[W3 h];simp only[aH,bY (show-1000000000000000000<=k-k' by omega) (by omega)];exact⟨_,rfl,by omega,by omega⟩
def au7{x:Int}(h0:0<=x)(h1:x<=1000000000):wy 64 (rm IntKind.u64 (W x)) 1=aa (x/2):=by
 have e1:W x=x:=bY (by omega) (by omega);have e2:IntKind.u64.wrap x=x:=by have hb:IntKind.u64.bits=64:=rfl;simp[IntKind.wrap,hb,IntKind.signed];omega
 show(if(1:Int)<0 then none else aa ((IntKind.u64.wrap (W x)).fdiv (2^min (1:Int).toNat 64)))=_;rw[e1,e2,aK (by omega)];congr 1;show x.fdiv (2^1)=x/2;rw[Int.fdiv_eq_ediv_of_nonneg _ (by decide)];rfl
def ak0(hl:gj b){l:List Part}(h1:∀x∈l,qO b x)(h2:l.Pairwise before)(h3:l.length<=32){x:Part}(hx:qO b x):∃k:Nat,k<=l.length∧(∀i,i<k->before (gt l i) x)∧(∀i,k<=i->i<l.length->¬before (gt l i) x)∧Ky l x=aa ((k:Int),dB (k<l.length∧gt l k=x)):=by
 have vG:=aa5 hl hx;have uj:∀q,q<l.length->(1<=(gt l q).Kind∧(gt l q).Kind<=4)∧0<=(gt l q).Number∧(gt l q).Number<=24:=λq hq=>aa5 hl (h1 _ (du hq));have JV:∀i j,i<j->j<l.length->before (gt l i) (gt l j):=λi j iJ hj=>by have:=B1.1 h2 i j (by omega) hj iJ;rwa[<-fH,<-fH]at this
 have wX:Wp (aI (Rh l x) (0,len l)) λr=>∃k:Nat,r=(k:Int)∧k<=l.length∧(∀i,i<k->before (gt l i) x)∧∀i,k<=i->i<l.length->¬before (gt l i) x:=by
  refine tD (λs=>(s.2-s.1).toNat) (λs=>∃i j:Nat,s=((i:Int),(j:Int))∧i<=j∧j<=l.length∧(∀q,q<i->before (gt l q) x)∧∀q,j<=q->q<l.length->¬before (gt l q) x) (λs hs=>?_) ⟨0,l.length,rfl,Nat.zero_le _,bw _,λp hp=>by omega,λp h1 h2=>by omega⟩ (by simp only[len];omega);obtain⟨i,j,rfl,iJ,hj,h1,h2⟩:=hs;unfold Rh;try simp only
  by_cases aU:i<j
  ·obtain⟨q,hq⟩:∃q:Nat,((i:Int)+(j:Int))/2=(q:Int):=⟨(i+j)/2,by omega⟩;have hq1:i<=q∧q<j:=by omega
   have HS:W (q:Int)=q:=bY (by omega) (by omega);obtain⟨c,c1,c2,_⟩:=aaV (uj q (by omega)) vG;simp only[dT (c:=(i:Int)<(j:Int)) (by omega),aH];rw[au7 (by omega) (by omega),hq];simp only[al,HS,aO (show q<l.length by omega),c1];by_cases hc:c<0
   ·simp only[dT hc,aH,al];rw[a_ (by omega)];refine ar.2 ⟨⟨q+1,j,rfl,by omega,hj,λp hp=>?_,h2⟩,by simp only;omega⟩;by_cases lZ:p=q
    ·rw[lZ];exact c2.1 hc
    ·exact OY (JV p q (by omega) (by omega)) (c2.1 hc)
   ·simp only[dF hc,aD,aC,al];refine ar.2 ⟨⟨i,q,rfl,by omega,by omega,h1,λp hp qh hb=>hc (c2.2 ?_)⟩,by simp only;omega⟩;by_cases lZ:p=q
    ·rw[<-lZ];exact hb
    ·exact OY (JV q p (by omega) qh) hb
  ·have hje:j=i:=by omega
   subst hje;simp only[dF (c:=(j:Int)<(j:Int)) (by omega),aD,aC];exact ar.2 ⟨j,rfl,hj,h1,h2⟩
 obtain⟨r,hr,k,rfl,hk,k1,k2⟩:=wX;refine⟨k,hk,k1,k2,?_⟩;unfold Ky;simp only[hr,al];by_cases sG:k<l.length
 ·obtain⟨c,c1,_,c3⟩:=aaV (uj k sG) vG;simp only[ba sG,aH,aO sG,c1,al];congr 2;refine axM ?_;rw[xr,c3];exact⟨λe=>⟨sG,e⟩,λe=>e.2⟩
 ·rw[dF (c:=(k:Int)<len l) (by unfold len;omega)];simp only[aD,aC,al];rw[gQ (λhh=>sG hh.1)]
def ani{l:List Part}{k:Nat}{y:Part}(h:y∈l.take k)(hk:k<=l.length):∃i,i<k∧gt l i=y:=(Dg hk).1 h
def axC{l:List Part}{k:Nat}{y:Part}(h:y∈l.drop k):∃i,k<=i∧i<l.length∧gt l i=y:=by obtain⟨i,hi,e⟩:=om h;rw[List.length_drop]at hi;refine⟨k+i,by omega,by omega,?_⟩;rw[<-e];unfold gt;rw[uF,uF,List.getElem?_drop]
def yY(l:List Part)(k:Nat)(x:Part):List Part:=l.take k++[x]++l.drop k
def II(l:List Part)(k:Nat):List Part:=l.take k++l.drop (k+1)
def aB2{l:List Part}(h1:∀x∈l,qO b x)(h2:l.Pairwise before){x:Part}(hx:qO b x){k:Nat}(hk:k<=l.length)(k1:∀i,i<k->before (gt l i) x)(k2:∀i,k<=i->i<l.length->¬before (gt l i) x)(k3:¬(k<l.length∧gt l k=x)):(∀y∈yY l k x,qO b y)∧(yY l k x).Pairwise before:=by
 have tot:∀y:Part,¬before y x->y≠x->before x y:=λy n1 n2=>by unfold before at*;obtain⟨a,c⟩:=y;obtain⟨a',c'⟩:=x;simp only[ne_eq,Part.mk.injEq]at*;omega
 have JV:∀i j,i<j->j<l.length->before (gt l i) (gt l j):=λi j iJ hj=>by have:=B1.1 h2 i j (by omega) hj iJ;rwa[<-fH,<-fH]at this
 have qM:∀y∈l.drop k,before x y:=λy hy=>by
  obtain⟨i,i1,i2,rfl⟩:=axC hy;refine tot _ (k2 i i1 i2) λe=>?_;by_cases eL:i=k
  ·subst eL;exact k3 ⟨i2,e⟩
  ·have:=JV k i (by omega) i2;rw[e]at this;exact k2 k (bw _) (by omega) this
 have fst:∀y∈l.take k,before y x:=λy hy=>by obtain⟨i,i1,rfl⟩:=ani hy hk;exact k1 i i1
 refine⟨λy hy=>?_,?_⟩
 ·unfold yY at hy;rw[bz,bz]at hy;rcases hy with(hy|hy)|hy
  ·exact h1 y (List.mem_of_mem_take hy)
  ·rw[dZ.1 hy];exact hx
  ·exact h1 y (List.mem_of_mem_drop hy)
 ·unfold yY;rw[List.append_assoc,List.pairwise_append];refine⟨h2.sublist (List.take_sublist _ _),?_,λy hy z hz=>?_⟩
  ·rw[List.pairwise_append];refine⟨List.pairwise_singleton _ _,h2.sublist (List.drop_sublist _ _),λy hy z hz=>?_⟩;rw[dZ.1 hy];exact qM z hz
  ·rw[bz]at hz;rcases hz with hz|hz
   ·rw[dZ.1 hz];exact fst y hy
   ·exact OY (fst y hy) (qM z hz)
def aB1{l:List Part}(h1:∀x∈l,qO b x)(h2:l.Pairwise before)(k:Nat):(∀y∈II l k,qO b y)∧(II l k).Pairwise before:=by
 have hs:(II l k).Sublist l:=by have h3:(l.take k++l.drop (k+1)).Sublist (l.take k++l.drop k):=List.Sublist.append (List.Sublist.refl _) (by rw[show k+1=k+1 from rfl,<-List.drop_drop];exact List.drop_sublist _ _);rwa[List.take_append_drop]at h3
 exact⟨λy hy=>h1 y (hs.subset hy),h2.sublist hs⟩
end
end Rx
namespace Rx
open Classical
section
variable {b:au} {p:aw}
def Zl(v:ni b p){l:List Part}(h:(∀x∈l,qO b x)∧l.Pairwise before)(hl:l.length<=32):ni b ⟨p.aF,p.aj,p.aW,l⟩:=by obtain⟨hp,h0⟩:=v;obtain⟨h2,hs,g1,g2,g3⟩:=ff.1 h0;refine⟨⟨hp.1,hp.2.1,hp.2.2.1,by unfold Sm;simp only;omega⟩,ff.2 ⟨h2,hs,⟨ajj.2 h,hl⟩,g2,λk hk=>?_⟩⟩;obtain⟨f1,f2⟩:=g3 k hk;refine⟨f1,?_⟩;have e:eR b ⟨p.aF,p.aj,p.aW,l⟩ (k:Int) b.ae.length=eR b p (k:Int) b.ae.length:=Ir λi _ _ _=>rfl;rw[e];exact f2
def akk(x:Part)(q:aw):Prop:=x∈q.aR∧(x.Kind=1->(gt q.aj x.Number.toNat).State=3)
def alo(hb:fp b)(v:ni b p){t:Int}{x:Part}(hx:qO b x)(br:Bool):Wp (JC ⟨b,p,t⟩ x br) λr=>r.1=0->ni b (uO r)∧(br=ab->akk x (uO r)):=by
 obtain⟨⟨hl,hg⟩,⟨s1,s2,s3⟩,⟨g1,g2⟩,g3,g4⟩:=ff.1 v.2;obtain⟨b1,b2⟩:=ajj.1 g1;obtain⟨k,hk,k1,k2,hf⟩:=ak0 hl b1 b2 g2 hx;unfold JC;simp only[hf,al];refine Wp.ite (λ_=>ar.2 λe=>by cases e) λh1=>?_;refine Wp.bind (Q:=λc=>c=ai->br=ab->p.aR.length<32) ?_ λc hc=>?_
 ·refine Wp.ite (λ_=>ar.2 λe _=>?_) λh=>ar.2 λ_ e=>by rw[e]at h;cases h
  have:=pN e;unfold len at this;omega
 refine Wp.ite (λ_=>ar.2 λe=>by cases e) λh2=>?_;have hc:=hc h2;refine Wp.bind (Q:=λy=>ni b ⟨p.aF,p.aj,p.aW,y.2.2.2.2.2.2.2⟩∧(br=ab->x∈y.2.2.2.2.2.2.2)) ?_ λy hy=>?_
 ·refine Wp.ite (λnM=>?_) λnM=>?_
  ·have nG:¬(k<p.aR.length∧gt p.aR k=x):=λhn=>by
    rw[iK hn,nM]at h1;cases h1
   have at9:J1 p.aR (k:Int) [x]=aa (yY p.aR k x):=by unfold J1 G3;rw[cJ (by simp;omega)];simp[len,hk,yY]
   rw[at9];refine ar.2 ⟨Zl v (aB2 b1 b2 hx hk k1 k2 nG) ?_,λ_=>by unfold yY;simp⟩;have:=hc nM;unfold yY;simp;omega
  ·have sG:k<p.aR.length∧gt p.aR k=x:=by
    refine gw λhn=>?_;rw[gQ hn,nM]at h1;cases h1
   have hd:Ke p.aR (k:Int) (W ((k:Int)+1))=aa (II p.aR k):=by rw[a_ (by omega)];unfold Ke Ij;rw[show ak ((0:Int)<=(k:Int))=ab from dT (by omega),show ak ((k:Int)<=((k+1:Nat):Int))=ab from dT (by omega),show ak (((k+1:Nat):Int)<=len p.aR)=ab from dT (by unfold len;omega)];rfl
   rw[hd];refine ar.2 ⟨Zl v (aB1 b1 b2 k) ?_,λe=>by rw[nM]at e;cases e⟩;unfold II;simp;omega
 ·obtain⟨vy,my⟩:=hy;refine Wp.bind (Q:=λS=>ni b ⟨p.aF,S,p.aW,y.2.2.2.2.2.2.2⟩∧(br=ab->x.Kind=1->(gt S x.Number.toNat).State=3)) ?_ λS hS=>ar.2 λ_=>⟨hS.1,λe=>⟨my e,hS.2 e⟩⟩;refine Wp.ite (λeG=>?_) λeG=>ar.2 ⟨vy,λ_ e=>by rw[gh e]at eG;cases eG⟩;have eG:x.Kind=1:=by simpa using eG
  obtain⟨n0,n1⟩:=hx;unfold bsize at n1;rw[aG eG]at n1;obtain⟨j,hj⟩:=Int.eq_ofNat_of_zero_le n0;have hj:x.Number=(j:Int):=hj;have dh:j<p.aj.length:=by omega
  have vz:∀z,j<(p.aj.set j z).length:=λz=>by simpa using dh
  have hr:=alI v dh;simp only[hj,aO dh,jy dh,al,aO (vz _),jy (vz _),gE dh,aG,List.set_set,Int.toNat_natCast];refine Wp.bind (Q:=λS=>ni b ⟨p.aF,S,p.aW,y.2.2.2.2.2.2.2⟩∧(br=ab->(gt S j).State=3)) ?_ λS hS=>ar.2 ⟨hS.1,λe _=>hS.2 e⟩;refine Wp.ite (λnM=>ar.2 ⟨Zk vy dh ?_,λ_=>by rw[gE dh,aG rfl]⟩) λnM=>ar.2 ⟨Zk vy dh ?_,λe=>by rw[nM]at e;cases e⟩
  ·unfold gR at*;simp only;omega
  ·unfold gR at*;simp only;omega
def ap2(k n:Int):wC b k n=aa (ak (0<=n∧n<bsize b k)):=by
 have key:∀z:Int,(Option.bind (if ak (n>=0)=ab then aa (ak (n<z))else aa ai) λx5=>aa x5)=aa (ak (0<=n∧n<z)):=λz=>by
  by_cases h:0<=n
  ·simp[h]
  ·simp[h]
 unfold wC bsize;by_cases h1:k=1
 ·simp only[h1,X7,aH,al];exact key _
 by_cases h2:k=2
 ·subst h2;exact key _
 by_cases h3:k=3
 ·subst h3;exact key _
 by_cases h4:k=4
 ·subst h4;exact key _
 rw[dG h1,dG h2,dG h3,dG h4,aK h1,aK h2,aK h3,aK h4];exact key _
def alh{a:Act}(h:a.Kind=8):Wp (KV b a) λc=>c=ab->qO b ⟨a.Value,a.Unit⟩:=by unfold KV qO;have n:∀k:Int,k≠8->(a.Kind==k)=ai:=λk hk=>dG (by omega);simp only[ap2,n 1 (by omega),n 2 (by omega),n 3 (by omega),n 4 (by omega),n 5 (by omega),n 6 (by omega),gh h,aD,aC,aH,al];refine ar.2 λhc=>?_;have hc:=jw hc;exact⟨hc.1,by have:=hc.2;(try simp only);omega⟩
def vY(b:au)(a:Act)(q:aw):Prop:=ni b q∧(a.Kind=8->akk ⟨a.Value,a.Unit⟩ q)
def akQ(hb:fp b)(v:ni b p){t:Int}{a:Act}(h8:a.Kind=8)(hx:qO b ⟨a.Value,a.Unit⟩):Wp (JD ⟨b,p,t⟩ a) λr=>r.1=0->vY b a (uO r):=by unfold JD;have n:∀k:Int,k≠8->(a.Kind==k)=ai:=λk hk=>dG (by omega);simp only[n 1 (by omega),n 2 (by omega),n 3 (by omega),n 4 (by omega),n 5 (by omega),n 6 (by omega),n 7 (by omega),aD,aC];refine Wp.bind (Q:=λ(r:WR)=>r.1=0->vY b a (uO r)) ?_ λr h=>ar.2 h;refine Wp.bind (Q:=λ(r:WR)=>r.1=0->vY b a (uO r)) ?_ λr h=>ar.2 h;refine Wp.bind (Q:=λ(r:WR)=>r.1=0->vY b a (uO r)) ?_ λr h=>ar.2 h;refine Wp.bind (Q:=λ(r:WR)=>r.1=0->vY b a (uO r)) ?_ λr h=>ar.2 h;refine Wp.bind (Q:=λ(r:WR)=>r.1=0->vY b a (uO r)) ?_ λr h=>ar.2 h;refine Wp.bind (Q:=λ(r:WR)=>r.1=0->vY b a (uO r)) ?_ λr h=>ar.2 h;refine Wp.bind (Q:=λ(r:WR)=>r.1=0->vY b a (uO r)) ?_ λr h=>ar.2 h;exact(alo hb v hx _).bind λr hr=>ar.2 λe=>⟨(hr e).1,λh8=>(hr e).2 (gh h8)⟩
def alx(hb:fp b)(v:ni b p){t:Int}(t0:0<=t)(t1:t<=2147483648){a:Act}(h8:a.Kind=8):Wp (KW b p t a) λr=>r.1=0->vY b a ⟨r.2.1,r.2.2.1,r.2.2.2.1,r.2.2.2.2⟩:=by
 unfold KW;have e:(bi b p !=0)=ai:=by rw[v.2];rfl
 simp only[xF hb v.1,al,e,aD,aC,dF (c:=t<0) (by omega),dF (c:=t>2147483648) (by omega),dF (c:=a.Kind<1) (by omega),dF (c:=a.Kind>9) (by omega),Ey v.1];refine(alh h8).bind λc hc=>?_;refine Wp.ite (λh=>ar.2 λe=>(by cases e)) λh=>?_;refine(akQ hb v h8 (hc (by simpa using h))).bind λr hr=>?_;refine Wp.ite (λh=>ar.2 λe=>?_) λh=>ar.2 λ_=>hr (by simpa using h);have h:r.1≠0:=by simpa using h
 exact(h e).elim
end
end Rx
namespace Rx
open Classical
section
variable {b:au} {p:aw}
def qS(b:au)(a:Act):Prop:=(a.Kind=2∧0<=a.Unit∧a.Unit<(b.ae.length:Int))∨(a.Kind=5∧0<=a.Unit∧a.Unit<(b.ay.length:Int))
def Nh{α β:Type}{f:β->α->β}{P:β->Prop}:∀{l:List α},(∀s x,x∈l->P s->P (f s x))->∀s,P s->P (l.foldl f s)
 |[],_,s,h=>h
 |x::l,hf,s,h=>Nh (l:=l) (λs y hy=>hf s y (List.mem_cons_of_mem _ hy)) (f s x) (hf s x (List.mem_cons_self ..) h)
def Xo{C:List Bool}{P:Nat->Bool}(hc:C.length=b.ae.length):∀a∈(gr C P).map qN,qS b a:=λa ha=>by obtain⟨k,hk,rfl⟩:=List.mem_map.1 ha;have:=Bh k hk;exact .inl ⟨rfl,this.1,by show k<_;omega⟩
def O5{l m:List Act}(h:∀a∈l,qS b a)(h':∀a∈m,qS b a):∀a∈l++m,qS b a:=λa ha=>(bz.1 ha).elim (h a) (h' a)
def aq'{x:bt}{T o:List Int}(ho:∀c∈o,0<=c∧c<(b.ay.length:Int))(s:List Int×List Act)(hs:∀a∈s.2,qS b a):∀a∈(iG b x T o s).2,qS b a:=
 Nh (P:=λ(s:List Int×List Act)=>∀a∈s.2,qS b a) (λs c hc hs=>by
  unfold rl;split
  ·exact O5 hs λa ha=>by rw[dZ.1 ha];exact .inr ⟨rfl,ho c hc⟩
  ·exact hs) s hs
def am2(h:bi b p=0){x:bt}{L o:List Int}(s:List Int×List Act)(hs:∀a∈s.2,qS b a):∀a∈(ld b p x L o s).2,qS b a:=
 Nh (P:=λ(s:List Int×List Act)=>∀a∈s.2,qS b a) (λs c hc hs=>by
  unfold q_;split
  ·exact O5 hs (Xo (by show(gN p.aF _).length=_;rw[kb];exact(lF h).1))
  ·exact hs) s hs
def aos(h:bi b p=0):∀a∈(xK b p).2.2,qS b a:=
 Nh (P:=λ(s:List Int×List Int×List Act)=>∀a∈s.2.2,qS b a) (λs x hx hs=>by
  unfold Gm;split
  ·exact hs
  ·exact am2 h _ (aq' (Sc h hx).2.1 _ hs)) _ (λa ha=>by cases ha)
def ax4(h:bi b p=0):∀a∈xi b p,qS b a:=by obtain⟨s1,_⟩:=lF h;unfold xi;exact O5 (Xo s1) (Xo (by show(gN p.aF _).length=_;rw[kb];exact s1))
def apT(h:bi b p=0):∀a∈xV b p,qS b a:=O5 (ax4 h) (aos (xE h))
def apV(h:bi b p=0):(xV b p).length<=1000000:=by have h1:=ae9 h;have h2:=(KH (xE h) (bj b (lE b p)).length (bw _)).2;rw[List.take_length]at h2;have lA:=G1 (b:=b) (p:=lE b p);have pC:=(ff.1 h).1.1.jd;unfold xV;rw[cU];have:(xK b (lE b p)).2.2.length<=20000*(bj b (lE b p)).length:=h2;omega
def apU(h:bi b p=0):Clean b (lV b p):=ax' (xE h) (aya h) (Ry (xE h)) _
def Gd(b:au)(p:aw):Prop:=ni b p∧lD b p=p.aj
def av6(v:ni b p):Gd b (lV b p):=⟨⟨an5 v.1 v.2,anz v.2⟩,(apU v.2).ko⟩
def axu{a b:List Bool}(ha:Sm a):J' a b=aa (dB (a=b)):=by
 unfold J';by_cases hl:a.length=b.length
 ·have e1:(len a !=len b)=ai:=by simp[len,hl]
  have h:=L_ (step:=CL a b) (λk=>(k:Int)) a.length (λk=>gt a k≠gt b k) (r:= .inr ai) (e:= .inl ())
   (λk hk hp=>by
     have e2:(!gt a k==gt b k)=ai:=by simpa using hp
     simp only[CL,ba hk,aH,aO hk,aO (show k<b.length by omega),al,e2,aD,aC,a_ (eN ha hk)])
   (λk hk hp=>by
     have e2:(!gt a k==gt b k)=ab:=by simpa using hp
     simp only[CL,ba hk,aH,aO hk,aO (show k<b.length by omega),al,e2])
   (by simp only[CL,bI,aD,aC])
  have h':aI (CL a b) 0=_:=h;simp only[e1,aD,aC,h',al];by_cases he:a=b
  ·subst he;rw[gQ (p:=∃k,k<a.length∧gt a k≠gt a k) (by simp),iK rfl];rfl
  ·have:∃k,k<a.length∧gt a k≠gt b k:=by
    apply gw;intro hn;exact he (jW hl λk hk=>gw λh=>hn ⟨k,hk,h⟩)
   rw[iK this,gQ he];rfl
 ·have e1:(len a !=len b)=ab:=by simp[len];omega
  have he:a≠b:=λe=>hl (e▸rfl);rw[gQ he];simp only[e1,aH]
def axt{a b:List Int}(ha:Sm a):J_ a b=aa (dB (a=b)):=by
 unfold J_;by_cases hl:a.length=b.length
 ·have e1:(len a !=len b)=ai:=by simp[len,hl]
  have h:=L_ (step:=CJ a b) (λk=>(k:Int)) a.length (λk=>gt a k≠gt b k) (r:= .inr ai) (e:= .inl ())
   (λk hk hp=>by simp only[CJ,ba hk,aH,aO hk,aO (show k<b.length by omega),al,BG (rW.1 hp),aD,aC,a_ (eN ha hk)])
   (λk hk hp=>by simp only[CJ,ba hk,aH,aO hk,aO (show k<b.length by omega),al,W3 hp])
   (by simp only[CJ,bI,aD,aC])
  have h':aI (CJ a b) 0=_:=h;simp only[e1,aD,aC,h',al];by_cases he:a=b
  ·subst he;rw[gQ (p:=∃k,k<a.length∧gt a k≠gt a k) (by simp),iK rfl];rfl
  ·have:∃k,k<a.length∧gt a k≠gt b k:=by
    apply gw;intro hn;exact he (jW hl λk hk=>gw λh=>hn ⟨k,hk,h⟩)
   rw[iK this,gQ he];rfl
 ·have e1:(len a !=len b)=ab:=by simp[len];omega
  have he:a≠b:=λe=>hl (e▸rfl);rw[gQ he];simp only[e1,aH]
def Y0{q:aw}(hp:dp p):Wp (FU p q) λc=>p=q->c=ab:=by
 obtain⟨h1,h2,h3,h4⟩:=hp;unfold FU;simp only[axu h1,axt h3,axr h2,axs h4,al];by_cases e:p=q
 ·subst e;simp only[iK];exact ar.2 λ_=>rfl
 ·refine Wp.bind (Q:=λ_=>True) ?_ λc _=>ar.2 λh=>(e h).elim;refine Wp.ite (λ_=>?_) λ_=>ar.2 trivial;refine Wp.ite (λ_=>?_) λ_=>ar.2 trivial;refine Wp.ite (λ_=>ar.2 trivial) λ_=>ar.2 trivial
section
variable {t:Int} {R:List eM} {E ev:List Event} {st:List aw}
def abj(h:ev.length<=1000000000)(a:Act)(e:Int):Gs ⟨⟨t,p,R,E⟩,b,ev,st⟩ a e=aa (t,p.aF,p.aj,p.aW,p.aR,b.aA,b.ae,b.aj,b.ay,b.bh,b.aY,R,E,st,ev++[⟨t,a,e⟩]):=by unfold Gs;rw[cJ (by simp;omega)];rfl
def RP(h:st.length<=1000000000){q:aw}(hq:dp q):CY ⟨⟨t,p,R,E⟩,b,ev,st⟩ q=aa (t,p.aF,p.aj,p.aW,p.aR,b.aA,b.ae,b.aj,b.ay,b.bh,b.aY,R,E,ev,q.aF,q.aj,q.aW,q.aR,st++[q]):=by unfold CY;simp only[Ey hq,al];rw[cJ (by simp;omega)];rfl
def doT(b:au)(t:Int)(q:aw)(R:List eM)(E ev:List Event)(st:List aw):Int×List Bool×List bn×List Int×List Part×Int×List cG×List Source×List Consumer×Int×Int×List eM×List Event×List Event×List aw:=(t,q.aF,q.aj,q.aW,q.aR,b.aA,b.ae,b.aj,b.ay,b.bh,b.aY,R,E,ev,st)
def Did(b:au)(t:Int)(p:aw)(a:Act)(ev:List Event)(st:List aw)(q:aw)(na:List Event)(Cy:List aw):Prop:=(q=p∧Cy=st∧∃e,e≠0∧na=ev++[⟨t,a,e⟩])∨∃x S,vY b a x∧q=lV b x∧Cy=st++x::S
def alp(hb:fp b)(g:Gd b p)(t0:0<=t)(t1:t<=2147483648)(b6:ev.length<=100000000)(bU:st.length<=100000000){a:Act}(h8:a.Kind=8):Wp (KQ ⟨⟨t,p,R,E⟩,b,ev,st⟩ a) λr=>∃q na Cy,r=doT b t q R E na Cy∧Gd b q∧na.length<=ev.length+1000001∧Cy.length<=st.length+1000002∧Did b t p a ev st q na Cy:=by
 unfold KQ;refine(alx hb g.1 t0 t1 h8).bind λr hr=>?_;refine Wp.bind (Q:=λe=>e=0->r.1=0) ?_ λe he=>?_
 ·refine Wp.ite (λ_=>ar.2 λh=>by cases h) λ_=>ar.2 λh=>h
 rw[abj (by omega)];simp only[al];refine Wp.ite (λh=>ar.2 ?_) λh=>?_
 ·exact⟨p,_,st,rfl,g,by simp,by omega,.inl ⟨rfl,rfl,e,by simpa using h,rfl⟩⟩
 have ha:=hr (he (by simpa using h));obtain⟨x,hx⟩:∃x:aw,x=⟨r.2.1,r.2.2.1,r.2.2.2.1,r.2.2.2.2⟩:=⟨_,rfl⟩;rw[<-hx]at ha;have xa:(⟨b.aA,b.ae,b.aj,b.ay,b.bh,b.aY⟩:au)=b:=rfl;have hxe:(⟨x.aF,x.aj,x.aW,x.aR⟩:aw)=x:=rfl;rw[<-hx,RP (by omega) ha.1.1];simp only[al,xa,hxe,apS hb ha.1.1 ha.1.2];have hA:=apT ha.1.2;have xf:=apV ha.1.2;obtain⟨l1,l2,_,_,l5,l6⟩:=lF ha.1.2;have gq:=av6 ha.1;refine Wp.bind (Q:=λs=>∃C L na S,s=(t,p.aF,p.aj,p.aW,p.aR,b.aA,b.ae,b.aj,b.ay,b.bh,b.aY,R,E,C,x.aj,L,x.aR,na,st++x::S)∧dp ⟨C,x.aj,L,x.aR⟩∧na.length=ev.length+1+(xV b x).length∧S.length=(xV b x).length) ?_ λs hs=>?_
 ·refine dS (xV b x).length (λk s=>∃C L na S,s=((k:Int),t,p.aF,p.aj,p.aW,p.aR,b.aA,b.ae,b.aj,b.ay,b.bh,b.aY,R,E,C,x.aj,L,x.aR,na,st++x::S)∧C.length=b.ae.length∧L.length=b.ay.length∧na.length=ev.length+1+k∧S.length=k) ⟨x.aF,x.aW,_,[],rfl,l1,l6,by simp,rfl⟩ ?_ ?_
  ·rintro k s hk ⟨C,L,na,S,rfl,c1,c2,c3,c4⟩;unfold RL;simp only[ba hk,aH,aO hk,al];rw[abj (by omega)];simp only[al];have hai:=hA _ (du hk);refine Wp.bind (Q:=λy=>y.1.length=b.ae.length∧y.2.length=b.ay.length) ?_ λy hy=>?_
   ·rcases hai with⟨a1,a2,a3⟩|⟨a1,a2,a3⟩
    ·rw[a1,aG (by decide),iI a2 (by omega),Rz a2 (by omega)];exact ar.2 ⟨by simpa using c1,c2⟩
    ·rw[a1,aK (by decide),iI a2 (by omega),Rz a2 (by omega)];exact ar.2 ⟨c1,by simpa using c2⟩
   have fF:dp ⟨y.1,x.aj,y.2,x.aR⟩:=⟨by show y.1.length<=_;omega,ha.1.1.2.1,by show y.2.length<=_;omega,ha.1.1.2.2.2⟩;rw[RP (by rw[cU,jO];omega) fF];refine ar.2 ⟨y.1,y.2,na++[⟨t,gt (xV b x) k,0⟩],S++[⟨y.1,x.aj,y.2,x.aR⟩],?_,hy.1,hy.2,by rw[cU];simp only[Jo];omega,by rw[cU];simp only[Jo];omega⟩;rw[a_ (by omega)];simp
  ·rintro s ⟨C,L,na,S,rfl,c1,c2,c3,c4⟩;unfold RL;simp only[bI,aD,aC];exact ar.2 ⟨C,L,na,S,rfl,⟨by show C.length<=_;omega,ha.1.1.2.1,by show L.length<=_;omega,ha.1.1.2.2.2⟩,c3,c4⟩
 obtain⟨C,L,na,S,rfl,c1,c2,c3⟩:=hs;try simp only
 refine(Y0 c1).bind λc _=>?_;have hqe:(⟨(lV b x).aF,(lV b x).aj,(lV b x).aW,(lV b x).aR⟩:aw)=lV b x:=rfl;refine Wp.bind (Q:=λs=>∃S',S'.length<=S.length+1∧s=(t,p.aF,p.aj,p.aW,p.aR,b.aA,b.ae,b.aj,b.ay,b.bh,b.aY,R,E,(lV b x).aF,(lV b x).aj,(lV b x).aW,(lV b x).aR,na,st++x::S')) ?_ λs hs=>?_
 ·refine Wp.ite (λ_=>?_) λ_=>ar.2 ⟨S,by omega,rfl⟩;rw[hqe,RP (by rw[cU,jO];omega) gq.1.1];exact ar.2 ⟨S++[lV b x],by simp,by simp⟩
 ·obtain⟨S',h1,rfl⟩:=hs;exact ar.2 ⟨lV b x,na,st++x::S',rfl,gq,by omega,by simp;omega,.inr ⟨x,S',ha,rfl,rfl⟩⟩
end
end
end Rx
namespace Rx
open Classical
section
variable {b:au} {p:aw}
def vT(t:g9):Prop:=(1<=t.Stop∧t.Stop<=99)∧(t.Stop<t.Start∧t.Start<=100)∧0<=t.nU∧t.nU<=600
def alF(t:g9):KU t=aa (ak (vT t)):=by
 unfold KU;by_cases h:vT t
 ·obtain⟨⟨h1,h2⟩,⟨h3,h4⟩,h5,h6⟩:=h;rw[dT (show vT t from⟨⟨h1,h2⟩,⟨h3,h4⟩,h5,h6⟩)];simp[h1,h2,h3,h4,h5,h6]
 ·rw[dF h];by_cases h1:t.Stop>=1
  case neg=>simp[h1]
  by_cases h2:t.Stop<=99
  case neg=>simp[h1,h2]
  by_cases h3:t.Start>t.Stop
  case neg=>simp[h1,h2,h3]
  by_cases h4:t.Start<=100
  case neg=>simp[h1,h2,h3,h4]
  by_cases h5:t.nU>=0
  case neg=>simp[h1,h2,h3,h4,h5]
  by_cases h6:t.nU<=600
  case neg=>simp[h1,h2,h3,h4,h5,h6]
  exact absurd ⟨⟨h1,h2⟩,⟨h3,h4⟩,h5,h6⟩ h
def akW{l:List Int}{a:Int}(hs:Sr l a):Wp (Ph ⟨l,a⟩) λr=>vT ⟨r.1,r.2.1,r.2.2.1⟩∧Sr r.2.2.2.1 r.2.2.2.2:=by unfold Ph;refine(dU hs (w:=[60,80,100]) (by simp) (by simp)).bind λr hr=>?_;refine(dU hr.2 (w:=[1,30,50]) (by simp) (by simp)).bind λr2 yt=>?_;refine(dU yt.2 (w:=[0,1,3]) (by simp) (by simp)).bind λr3 hr3=>?_;refine ar.2 ⟨?_,hr3.2⟩;have h1:=hr.1;have h2:=yt.1;have h3:=hr3.1;simp only[List.mem_cons,List.not_mem_nil,kB]at h1 h2 h3;unfold vT;dsimp only;omega
def yw(b:au)(p:aw)(x:bt)(j:Nat):Prop:=(¬(⟨1,(j:Int)⟩:Part)∈p.aR∧¬(⟨2,(bk b j:Int)⟩:Part)∈p.aR∧¬(⟨3,(gt b.ae (bk b j)).A⟩:Part)∈p.aR)∧(gt b.ae (bk b j)).A∈x.aA∧¬(j:Int)∈x.aj∧(gt p.aj j).State≠3
def XX(tm:Int)(r:eM):Prop:=(-1<=r.iP∧r.iP<=tm)∧-1<=r.ju∧r.ju<=tm
end
end Rx
namespace Rx
open Classical
section
variable {b:au} {p:aw} {t:g9} {tm:Int} {R:List eM} {E ev:List Event} {st:List aw}
def BP(b:au)(tm:Int)(R:List eM):Prop:=(R.length:Int)=b.aA∧∀r∈R,XX tm r
def ash{r:eM}(hr:XX tm r)(a2:List Bool)(a3:List bn)(a4:List Int)(a5:List Part)(a6:List eM)(a7:List Event):Ls r tm a2 a3 a4 a5 a6 a7=aa (ai,tm,a2,a3,a4,a5,a6,a7):=by obtain⟨⟨h1,h2⟩,h3,h4⟩:=hr;unfold Ls Lt;simp only[dT (show r.iP>= -1 from h1),dT h2,dT (show r.ju>= -1 from h3),dT h4,aH,al,eg,aD,aC]
def apZ(hb:fp b)(hv:vT t)(g:Gd b p)(t0:0<=tm)(t1:tm<=2147483648)(hR:BP b tm R):Lu b t ⟨tm,p,R,E⟩=aa 0:=by
 obtain⟨⟨hl,hg⟩,_⟩:=ff.1 g.1.2;have pC:=hl.jd;have hRl:=hR.1;unfold Lu;obtain⟨c,h1,h2⟩:=Y0 (p:=p) (q:=p) g.1.1;have hc:=h2 rfl;subst hc;have rA:(⟨p.aF,p.aj,p.aW,p.aR⟩:aw)=p:=rfl;have qx:Ko R tm p.aF p.aj p.aW p.aR R E=aa (ai,tm,p.aF,p.aj,p.aW,p.aR,R,E):=by
  have h:=dO (step:=F8 R) (r:= .inl (tm,p.aF,p.aj,p.aW,p.aR,R,E)) (λk=>((k:Int),tm,p.aF,p.aj,p.aW,p.aR,R,E)) R.length (λk hk=>by
   unfold F8;simp only[ba hk,aH,aO hk,al,ash (hR.2 _ (du hk)),aD,aC];rw[a_ (by omega)]) (by
   unfold F8;simp only[bI,aD,aC]) (by omega)
  have h':aI (F8 R) (0,tm,p.aF,p.aj,p.aW,p.aR,R,E)=_:=h;unfold Ko Q3;rw[h'];rfl
 simp only[follow_eq hb g.1.1 g.1.2,g.2,al,me,aD,aC,alF,dT hv,eg,dF (show ¬tm<0 by omega),dF (show ¬tm>2147483648 by omega),BG (show len R=b.aA from hRl),rA,h1,qx]
def N1{α:Type}{l:List α}(h:l.length<=1000000000):bF [] l=aa l:=cJ (by simp;omega)
def aCe(hp:dp p)(hR:R.length<=1000)(hE:E.length<=1000000000):Lq b ⟨tm,p,R,E⟩=aa (tm,b.aA,b.ae,b.aj,b.ay,b.bh,b.aY,p.aF,p.aj,p.aW,p.aR,R,E):=by unfold Lq Gc Ge;simp only[Ey hp,al,N1 (show R.length<=1000000000 by omega),N1 hE]
def axT(hp:dp p)(hR:R.length<=1000)(hE:E.length<=1000000000):NX ⟨tm,p,R,E⟩=aa (tm,p.aF,p.aj,p.aW,p.aR,R,E):=by unfold NX Gc Ge;have h:=Ey hp;unfold ra at h;simp only[N1 (show R.length<=1000000000 by omega),N1 hE,al];revert h;cases Ga p.aF<;>simp only[al,X8,reduceCtorEq,X5];cases Gb p.aj<;>simp only[al,X8,reduceCtorEq,X5];cases uU p.aW<;>simp only[al,X8,reduceCtorEq,X5];cases zF p.aR<;>simp only[al,X8,reduceCtorEq,X5];intro h;cases h;rfl
def ak_(hb:fp b)(g:Gd b p)(t0:0<=tm)(t1:tm<=2147483648)(hR:R.length<=1000)(hE:E.length<=800000000){a:Act}(h8:a.Kind=8):Wp (Lr b ⟨tm,p,R,E⟩ a) λr=>∃q E' z,r=(tm,q.aF,q.aj,q.aW,q.aR,0,R,E',z)∧Gd b q∧E'.length<=E.length+1000001:=by unfold Lr;simp only[xF hb g.1.1,g.1.2,al,me,aD,aC,aCe g.1.1 hR (show E.length<=1000000000 by omega)];refine(alp (R:=R) (E:=E) (ev:=[]) (st:=[]) hb g t0 t1 (by simp) (by simp) h8).bind λr hr=>?_;obtain⟨q,ev,st,rfl,g2,e1,e2,_⟩:=hr;simp only[doT];rw[cJ (by have:=e1;simp only[List.length_nil]at this;omega)];exact ar.2 ⟨q,E++ev,st,rfl,g2,by rw[cU];have:=e1;simp only[List.length_nil]at this;omega⟩
end
end Rx
namespace Rx
section
open Classical
variable {b:au} {p q:aw} {l:List Int} {a:Int}
def alm{l:List Int}{a:Int}(hs:Sr l a)(hb:rS b):Wp (Pv ⟨l,a⟩ b) λr=>∃l a q,r=(l,a,b.ae,b.aj,b.ay,q.aF,q.aj,q.aW,q.aR)∧Sr l a∧dp q∧bi b q=0∧lD b q=q.aj∧q.aR.length<=4:=by unfold Pv;refine(ak7 hs hb).bind λr hr=>?_;obtain⟨l,a,cl,run,gn,cZ,rfl,hs,hp⟩:=hr;have pz:=hp.sm hb;have h0:=hp.bi hb;have hf:=ao3 hb.sm pz h0;obtain⟨nb,br,S,C,ph,fr⟩:=b;simp only at hf⊢;rw[hf];simp only[al];exact ar.2 ⟨_,_,rH ⟨nb,br,S,C,ph,fr⟩ ⟨cl,run,gn,cZ⟩,rfl,hs,ZX pz,ZJ h0,aen h0,hp.aji⟩
def ak9(hs:Sr l a)(hb:rS b):Wp (Pq ⟨l,a⟩ b) λr=>∃tm l a q R,r=(tm,l,a,b.ae,b.aj,b.ay,q.aF,q.aj,q.aW,q.aR,R)∧Sr l a∧Gd b q∧(5<=tm∧tm<=20)∧BP b tm R∧q.aR.length<=4:=by
 have pC:=hb.gn.jd;unfold Pq;refine(pW hs (by omega) (by omega) (by omega) (by omega)).bind λr1 h1=>?_;refine(alm h1.2 hb).bind λr2 h2=>?_;obtain⟨l2,a2,q,rfl,k1,k2,k3,k4,k5⟩:=h2;refine Wp.bind (Q:=λr=>∃l a R,r=(l,a,r1.1,R)∧Sr l a∧BP b r1.1 R) ?_ λr hr=>?_
 ·refine dS b.aA.toNat (λk s=>∃l a R,s=((k:Int),l,a,r1.1,R)∧Sr l a∧R.length=k∧∀r∈R,XX r1.1 r) ⟨l2,a2,[],rfl,k1,rfl,λr hr=>(by cases hr)⟩ ?_ ?_
  ·rintro k s hk ⟨l,a,R,rfl,e1,e2,e3⟩;unfold XQ;simp only[dT (show(k:Int)<b.aA by omega),aH];refine(pW e1 (by omega) (by omega) (by omega) (by omega)).bind λr4 h4=>?_;refine(pW h4.2 (by omega) (by omega) (by omega) (by omega)).bind λr5 h5=>?_;rw[cJ (by simp;omega)];simp only[al];refine ar.2 ⟨_,_,R++[⟨r4.1,r5.1⟩],by rw[a_ (by omega)],h5.2,by rw[cU,e2];rfl,λr hr=>?_⟩;rcases bz.1 hr with hr|hr
   ·exact e3 r hr
   ·rw[dZ.1 hr];have:=h1.1;exact⟨⟨h4.1.1,by have:=h4.1.2;show r4.1<=_;omega⟩,h5.1.1,by have:=h5.1.2;show r5.1<=_;omega⟩
  ·rintro s ⟨l,a,R,rfl,e1,e2,e3⟩;unfold XQ;simp only[dF (show ¬((b.aA.toNat:Nat):Int)<b.aA by omega),aD,aC];exact ar.2 ⟨l,a,R,rfl,e1,by omega,e3⟩
 ·obtain⟨l,a,R,rfl,e1,e2⟩:=hr;exact ar.2 ⟨r1.1,l,a,q,R,rfl,e1,⟨⟨k2,k3⟩,k4⟩,h1.1,e2,k5⟩
end
end Rx
namespace Rx
section
def U7(n d:Int)(h:0<d):(if n.tmod d<0 then n.tdiv d-1 else n.tdiv d)=n/d:=by
 rw[Int.tdiv_eq_ediv,Int.tmod_eq_emod];by_cases h0:0<=n∨d∣n
 ·simp[h0];have:=Int.emod_nonneg n (show d≠0 by omega);omega
 ·simp[h0];have:=Int.emod_lt_of_pos n h;have e:d.sign=1:=Int.sign_eq_one_of_pos h;have e2:(d.natAbs:Int)=d:=by omega
  rw[e,aG (by omega)];omega
def Zx{n d:Int}(h:0<d)(h1: -1000000000000000000<=n)(h2:n<=1000000000000000000): -1000000000000000001<=n.tdiv d∧n.tdiv d<=1000000000000000001:=by
 have e:=U7 n d h;have a1:n/d<=1000000000000000000:=by refine Int.ediv_le_of_le_mul h ?_;have:=Int.mul_le_mul_of_nonneg_left (show 1<=d by omega) (show(0:Int)<=1000000000000000000 by decide);omega
 have a2: -1000000000000000000<=n/d:=by refine Int.le_ediv_of_mul_le h ?_;have:=Int.mul_le_mul_of_nonpos_left (show(-1000000000000000000:Int)<=0 by decide) (show 1<=d by omega);omega
 split at e<;>omega
def aeu{n d:Int}(h:0<d)(h1: -1000000000000000000<=n)(h2:n<=1000000000000000000):y7 n d=aa (n/d):=by
 obtain⟨b1,b2⟩:=Zx h h1 h2;have e:=U7 n d h;unfold y7 mQ kL;rw[aK (by omega),aK (by omega)];simp only[al];rw[y_ (x:=n.tdiv d) (by omega) (by omega)];by_cases hm:n.tmod d<0
 ·rw[aG hm]at e;rw[dT hm,aG rfl,al,y_ (by omega) (by omega),e]
 ·rw[aK hm]at e;rw[dF hm,aK (by decide),al,e]
def aet{n d:Int}(h:d≠0):Wp (y7 n d) λ_=>True:=by unfold y7 mQ kL;rw[aK h,aK h];simp only[al];refine Wp.bind (Q:=λ_=>True) ?_ λ_ _=>ar.2 trivial;exact Wp.ite (λ_=>ar.2 trivial) λ_=>ar.2 trivial
def aeS{n d:Int}:Wp (if ak (n<(-1000000000000000000))=ab then aa ab else if ak (n>1000000000000000000)=ab then aa ab else if ak (d<1)=ab then aa ab else aa (ak (d>1000000000))) λc=>c=ai->(-1000000000000000000<=n∧n<=1000000000000000000)∧1<=d∧d<=1000000000:=by refine Wp.ite (λ_=>ar.2 λe=>by cases e) λh1=>?_;refine Wp.ite (λ_=>ar.2 λe=>by cases e) λh2=>?_;refine Wp.ite (λ_=>ar.2 λe=>by cases e) λh3=>ar.2 λh4=>?_;have h1:=pN h1;have h2:=pN h2;have h3:=pN h3;have h4:=pN h4;omega
def aeT{n d:Int}(h1: -1000000000000000000<=n)(h2:n<=1000000000000000000)(h3:1<=d)(h4:d<=1000000000):(if ak (n<(-1000000000000000000))=ab then aa ab else if ak (n>1000000000000000000)=ab then aa ab else if ak (d<1)=ab then aa ab else aa (ak (d>1000000000)))=aa ai:=by rw[dF (show ¬n< -1000000000000000000 by omega),dF (show ¬n>1000000000000000000 by omega),dF (show ¬d<1 by omega),dF (show ¬d>1000000000 by omega)];rfl
def aCE(n d:Int):Wp (BK n d) λ_=>True:=by unfold BK O1;refine Wp.bind (Q:=λ_=>True) ?_ λ_ _=>ar.2 trivial;refine aeS.bind λc hc=>Wp.ite (λ_=>ar.2 trivial) λh=>?_;exact(aet (by have:=hc h;omega)).bind λ_ _=>ar.2 trivial
def aCF{n d:Int}(h1: -1000000000000000000<=n)(h2:n<=1000000000000000000)(h3:1<=d)(h4:d<=1000000000):BK n d=aa (n/d,0):=by unfold BK O1;rw[aeT h1 h2 h3 h4];simp only[al,aD,aC,aeu (show 0<d by omega) h1 h2]
def ake(n d:Int):Wp (I2 n d) λ_=>True:=by unfold I2 Xd;refine Wp.bind (Q:=λ_=>True) ?_ λ_ _=>ar.2 trivial;refine aeS.bind λc hc=>Wp.ite (λ_=>ar.2 trivial) λh=>?_;obtain⟨_,d1,d2⟩:=hc h;unfold Xg;rw[bY (x:=2*d) (by omega) (by omega)];refine Wp.bind (Q:=λ_=>True) ?_ λ_ _=>ar.2 trivial;exact(aet (by omega)).bind λ_ _=>ar.2 trivial
def aCy{n d:Int}(h1: -1000000000000000000<=n)(h2:n<=1000000000000000000)(h3:1<=d)(h4:d<=1000000000):O2 n d=aa (-((-n)/d),0):=by
 unfold O2 Xe;rw[aeT h1 h2 h3 h4];have hf:=aeu (n:= -n) (d:=d) (by omega) (by omega) (by omega);have e:=U7 (-n) d (by omega);obtain⟨b1,b2⟩:=Zx (n:= -n) (d:=d) (by omega) (by omega) (by omega);have hb: -1000000000000000002<=(-n)/d∧(-n)/d<=1000000000000000001:=by split at e<;>omega
 simp only[al,aD,aC,Xf];rw[y_ (x:= -n) (by omega) (by omega),hf];simp only[al];rw[y_ (by omega) (by omega)]
def Sp(a:Int):Wp (vQ a) λx=>0<=x∧x<3600:=by
 unfold vQ kL;obtain⟨e,b1,b2⟩:=am9 a;rw[aK (by omega)];simp only[al];refine Wp.bind (Q:=λx=>0<=x∧x<3600) ?_ λx hx=>ar.2 hx;refine Wp.ite (λh=>ar.2 ?_) λh=>ar.2 ?_
 ·have h:=jw h;rw[bY (by omega) (by omega)];omega
 ·have h:=pN h;omega
def Rm(a:Int):Wp (EZ a) λ_=>True:=by unfold EZ;refine(Sp a).bind λx _=>?_;refine Wp.bind (Q:=λ_=>True) ?_ λy _=>(ake _ _).bind λ_ _=>ar.2 trivial;exact Wp.ite (λ_=>ar.2 trivial) λ_=>ar.2 trivial
def ae1(a:Int):Wp (I6 a) λ_=>True:=by unfold I6;refine(Sp a).bind λx _=>(Rm _).bind λ_ _=>ar.2 trivial
def QQ(a b:Int):Wp (EX a b) λ_=>True:=by unfold EX;refine Wp.bind (Q:=λ_=>True) ?_ λ_ _=>ar.2 trivial;exact Wp.ite (λ_=>ar.2 trivial) λ_=>ar.2 trivial
def aeY(a x y:Int):Wp (I5 a x y) λ_=>True:=by unfold I5;refine(QQ x y).bind λc _=>Wp.ite (λ_=>ar.2 trivial) λ_=>?_;exact(ae1 a).bind λ_ _=>(Rm a).bind λ_ _=>ar.2 trivial
def Zj(a:Int):Wp (I4 a) λc=>c=ab↔0<=a∧a<3600:=by
 unfold I4;by_cases h:a>=0
 ·rw[dT h];exact ar.2 (by rw[X6];omega)
 ·rw[dF h];exact ar.2 ⟨λe=>(by cases e),λe=>(by omega)⟩
def aCg(x:iD):Wp (EY x) λ_=>True:=by unfold EY;refine Wp.bind (Q:=λ_=>True) ?_ λ_ _=>ar.2 trivial;refine(Zj _).bind λc _=>Wp.ite (λ_=>?_) λ_=>ar.2 trivial;refine(Zj _).bind λc _=>Wp.ite (λ_=>?_) λ_=>ar.2 trivial;unfold Xh;exact Wp.bind (Q:=λ_=>True) ((Sp _).bind λ_ _=>ar.2 trivial) λ_ _=>ar.2 trivial
def alC(x:iD)(a b:Int):Wp (O7 x a b) λ_=>True:=by
 unfold O7;refine Wp.bind (Q:=λ_=>True) ?_ λc _=>Wp.ite (λ_=>ar.2 trivial) λ_=>?_
 ·refine(aCg x).bind λc _=>Wp.ite (λ_=>ar.2 trivial) λ_=>?_;refine Wp.ite (λ_=>Wp.ite (λ_=>ar.2 trivial) λ_=>?_) λ_=>?_
  ·exact(QQ a b).bind λ_ _=>ar.2 trivial
  ·exact(QQ a b).bind λ_ _=>ar.2 trivial
 refine(aeY _ _ _).bind λz _=>?_;refine Wp.bind (Q:=λ_=>True) ?_ λ_ _=>?_
 ·refine Wp.ite (λ_=>ar.2 trivial) λ_=>?_;exact(ae1 _).bind λ_ _=>(Rm _).bind λ_ _=>ar.2 trivial
 refine Wp.bind (Q:=λ_=>True) ?_ λ_ _=>ar.2 trivial;refine Wp.ite (λ_=>?_) λ_=>ar.2 trivial;refine(aeY _ _ _).bind λw _=>?_;exact Wp.ite (λ_=>ar.2 trivial) λ_=>ar.2 trivial
def abn{a b c:Int}:imax a b<=c↔a<=c∧b<=c:=by unfold imax;split<;>omega
def abu{a b c:Int}:c<=eu a b↔c<=a∧c<=b:=by unfold eu;split<;>omega
def lH(m x y:Int):Prop:=(-m<=x∧x<=m)∧(-m<=y∧y<=m)∧x*x+y*y<=m*m
def CA{x:Int}(h1: -10001<=x)(h2:x<=10001):0<=x*x∧x*x<=100020001:=by
 rcases Int.le_total 0 x with h|h
 ·refine⟨PQ h h,?_⟩;have:=Fx h2 h2 h (by omega);omega
 ·have e:x*x=(-x)*(-x):=by rw[Int.neg_mul_neg]
  rw[e];refine⟨PQ (by omega) (by omega),?_⟩;have:=Fx (show-x<=10001 by omega) (show-x<=10001 by omega) (show 0<= -x by omega) (by omega);omega
def Y7{t:b8}(m0:0<=t.Max)(m1:t.Max<=5000)(hf:t.nT.length<=1000){x y:Int}(x0: -10001<=x)(x1:x<=10001)(y0: -10001<=y)(y1:y<=10001):Wp (Gp t x y) λc=>c=ab->lH t.Max x y:=by
 obtain⟨q1,q2⟩:=CA x0 x1;obtain⟨q3,q4⟩:=CA y0 y1;obtain⟨q5,q6⟩:=CA (x:=t.Max) (by omega) (by omega);unfold Gp;rw[bY (x:= -t.Max) (by omega) (by omega),bY (x:=x*x) (by omega) (by omega),bY (x:=y*y) (by omega) (by omega),bY (x:=x*x+y*y) (by omega) (by omega),bY (x:=t.Max*t.Max) (by omega) (by omega)];refine Wp.bind (Q:=λc=>c=ai->lH t.Max x y) ?_ λc hc=>Wp.ite (λ_=>ar.2 λe=>by cases e) λh=>?_
 ·refine Wp.ite (λ_=>ar.2 λe=>by cases e) λh1=>?_;refine Wp.ite (λ_=>ar.2 λe=>by cases e) λh2=>?_;refine Wp.ite (λ_=>ar.2 λe=>by cases e) λh3=>?_;have h1:=abn.1 (Int.not_lt.1 (pN h1));have h2:=abu.1 (Int.not_lt.1 (pN h2));have h3:=Int.not_lt.1 (pN h3);have ir:lH t.Max x y:=⟨⟨h2.1,h1.1⟩,⟨h2.2,h1.2⟩,h3⟩;refine Wp.ite (λ_=>?_) λ_=>?_
  ·refine Wp.ite (λ_=>ar.2 λe=>by cases e) λ_=>?_;exact Wp.ite (λ_=>ar.2 λ_=>ir) λ_=>ar.2 λ_=>ir
  ·exact Wp.ite (λ_=>ar.2 λ_=>ir) λ_=>ar.2 λ_=>ir
 ·refine Wp.bind (Q:=λ_=>True) ?_ λ_ _=>ar.2 λ_=>hc h;unfold Rf Q_;refine Wp.bind (Q:=λ_=>True) ?_ λ_ _=>ar.2 trivial;refine Wp.bind (Q:=λ_=>True) ?_ λr _=>by cases r<;>exact ar.2 trivial
  refine dS t.nT.length (λk s=>s=(k:Int)) rfl ?_ ?_
  ·rintro k s hk rfl;unfold Q9 RG;simp only[ba hk,aH,aO hk,al];refine Wp.bind (Q:=λ_=>True) ((alC _ _ _).bind λ_ _=>ar.2 trivial) λc _=>?_;exact Wp.ite (λ_=>ar.2 trivial) λ_=>ar.2 (by show W _=_;rw[a_ (by omega)])
  ·rintro s rfl;unfold Q9;simp only[bI,aD,aC];exact ar.2 trivial
def za(P:Int->Prop)(l h:Int):Prop:=(l<=0∧0<=h)∧((l=0∧h=0)∨∀z,l<=z->z<=h->P z)
def Y6{step:Int->Option (Int⊕Int)}{P:Int->Prop}{m:Int}(m0:0<=m)(m1:m<=5000)(hp:∀z,P z-> -m<=z)(h0:P 0)(hs:∀z,-5000<=z->z<=0->Wp (step z) λr=>(r= .inl (z-1)∧P (z-1))∨r= .inr z):Wp (aI step 0) λl=>l<=0∧∀z,l<=z->z<=0->P z:=by
 refine tD (λz=>(z+5000).toNat) (λz=>(-m<=z∧z<=0)∧∀w,z<=w->w<=0->P w) (λz hz=>?_) ⟨⟨by omega,by omega⟩,λw w1 w2=>by have:w=0:=(by omega);rw[this];exact h0⟩ (by omega);refine(hs z (by omega) hz.1.2).mono λr hr=>?_;rcases hr with⟨rfl,hP⟩|rfl
 ·have:=hp _ hP;refine⟨⟨⟨this,by omega⟩,λw w1 w2=>?_⟩,by omega⟩;by_cases hw:w=z-1
  ·rw[hw];exact hP
  ·exact hz.2 w (by omega) w2
 ·exact⟨hz.1.2,hz.2⟩
def YY{step:Int->Option (Int⊕Int)}{P:Int->Prop}{m:Int}(m0:0<=m)(m1:m<=5000)(hp:∀z,P z->z<=m)(h0:P 0)(hs:∀z,0<=z->z<=5000->Wp (step z) λr=>(r= .inl (z+1)∧P (z+1))∨r= .inr z):Wp (aI step 0) λl=>0<=l∧∀z,0<=z->z<=l->P z:=by
 refine tD (λz=>(5000-z).toNat) (λz=>(0<=z∧z<=m)∧∀w,0<=w->w<=z->P w) (λz hz=>?_) ⟨⟨by omega,by omega⟩,λw w1 w2=>by have:w=0:=(by omega);rw[this];exact h0⟩ (by omega);refine(hs z hz.1.1 (by omega)).mono λr hr=>?_;rcases hr with⟨rfl,hP⟩|rfl
 ·have:=hp _ hP;refine⟨⟨⟨by omega,this⟩,λw w1 w2=>?_⟩,by omega⟩;by_cases hw:w=z+1
  ·rw[hw];exact hP
  ·exact hz.2 w w1 (by omega)
 ·exact⟨hz.1.1,hz.2⟩
def uz(t:b8):Prop:=(((1<=t.Kind∧t.Kind<=3)∧(0<=t.s_∧t.s_<=1)∧(0<=t.Max∧t.Max<=5000)∧(0<=t.vV∧t.vV<=5000)∧1<=t.fJ∧t.fJ<=100)∧t.nT.length<=4)∧∀x∈t.nT,EY x=aa ab
def Gf{a b c:Int}(h1:b<=a)(h2:a<=c):xM a b c=aa ab:=by unfold xM;rw[dT (show a>=b from h1),aG rfl,al,dT h2]
def JK{t:b8}(h:uz t):zH t=aa ab:=by
 obtain⟨⟨⟨⟨a1,a2⟩,⟨a3,a4⟩,⟨a5,a6⟩,⟨a7,a8⟩,a9,E3⟩,hl⟩,hf⟩:=h;have hc:Ks t.nT=aa ai:=by
  have h:=dO (step:=F9 t.nT) (r:= .inl ()) (λk=>(k:Int)) t.nT.length (λk hk=>by
   unfold F9 RH;simp only[ba hk,aH,aO hk,al,hf _ (du hk),eg,aD,aC];rw[a_ (by omega)]) (by
   unfold F9;simp only[bI,aD,aC]) (by omega)
  have h':aI (F9 t.nT) 0=_:=h;unfold Ks Ra;rw[h'];rfl
 unfold zH;simp only[Gf a1 a2,Gf a3 a4,Gf a5 a6,Gf a7 a8,Gf a9 E3,al,aH,dT (show len t.nT<=4 by unfold len;omega),hc,Bool.not_false]
def alg{t:b8}(h:uz t):Wp (KM t) λr=>za (λy=>lH t.Max 0 y) r.1 r.2:=by
 have hm:=h.1.1.2.2.1;have ha:∀z,-10001<=z->z<=10001->Wp (CU z t) λc=>c=ab->lH t.Max 0 z:=λz z0 z1=>by unfold CU;exact(Y7 hm.1 hm.2 (by have:=h.1.2;omega) (by omega) (by omega) z0 z1).bind λc hc=>ar.2 hc
 unfold KM RF;rw[JK h];simp only[al,eg,aD,aC];refine Wp.bind (Q:=λr=>za (λy=>lH t.Max 0 y) r.1 r.2) ?_ λr hr=>ar.2 hr;refine(ha 0 (by omega) (by omega)).bind λc hc=>Wp.ite (λ_=>ar.2 ⟨⟨nY _,nY _⟩,.inl ⟨rfl,rfl⟩⟩) λhn=>?_;have h0:=hc (by simpa using hn);refine(Y6 (P:=λy=>lH t.Max 0 y) (m:=t.Max) hm.1 hm.2 (λz hz=>hz.2.1.1) h0 λz z0 z1=>?_).bind λl hl=>?_
 ·unfold aaf;rw[bY (by omega) (by omega)];refine(ha _ (by omega) (by omega)).bind λc hc=>Wp.ite (λh=>ar.2 (.inl ⟨rfl,hc h⟩)) λ_=>ar.2 (.inr rfl)
 refine(YY (P:=λy=>lH t.Max 0 y) (m:=t.Max) hm.1 hm.2 (λz hz=>hz.2.1.2) h0 λz z0 z1=>?_).bind λu hu=>?_
 ·unfold aae;rw[bY (by omega) (by omega)];refine(ha _ (by omega) (by omega)).bind λc hc=>Wp.ite (λh=>ar.2 (.inl ⟨rfl,hc h⟩)) λ_=>ar.2 (.inr rfl)
 refine ar.2 ⟨⟨hl.1,hu.1⟩,.inr λz z1 z2=>?_⟩;by_cases hz:z<=0
 ·exact hl.2 z z1 hz
 ·exact hu.2 z (by omega) z2
def alf{t:b8}(h:uz t){y:Int}(y0: -10001<=y)(y1:y<=10001):Wp (KL t y) λr=>za (λx=>lH t.Max x y) r.1 r.2:=by
 have hm:=h.1.1.2.2.1;have ha:∀z,-10001<=z->z<=10001->Wp (CT z t y) λc=>c=ab->lH t.Max z y:=λz z0 z1=>by unfold CT;exact(Y7 hm.1 hm.2 (by have:=h.1.2;omega) z0 z1 y0 y1).bind λc hc=>ar.2 hc
 unfold KL RE;rw[JK h];simp only[al,eg,aD,aC];refine Wp.bind (Q:=λr=>za (λx=>lH t.Max x y) r.1 r.2) ?_ λr hr=>ar.2 hr;refine(ha 0 (by omega) (by omega)).bind λc hc=>Wp.ite (λ_=>ar.2 ⟨⟨nY _,nY _⟩,.inl ⟨rfl,rfl⟩⟩) λhn=>?_;have h0:=hc (by simpa using hn);refine(Y6 (P:=λx=>lH t.Max x y) (m:=t.Max) hm.1 hm.2 (λz hz=>hz.1.1) h0 λz z0 z1=>?_).bind λl hl=>?_
 ·unfold aad;rw[bY (by omega) (by omega)];refine(ha _ (by omega) (by omega)).bind λc hc=>Wp.ite (λh=>ar.2 (.inl ⟨rfl,hc h⟩)) λ_=>ar.2 (.inr rfl)
 refine(YY (P:=λx=>lH t.Max x y) (m:=t.Max) hm.1 hm.2 (λz hz=>hz.1.2) h0 λz z0 z1=>?_).bind λu hu=>?_
 ·unfold aac;rw[bY (by omega) (by omega)];refine(ha _ (by omega) (by omega)).bind λc hc=>Wp.ite (λh=>ar.2 (.inl ⟨rfl,hc h⟩)) λ_=>ar.2 (.inr rfl)
 refine ar.2 ⟨⟨hl.1,hu.1⟩,.inr λz z1 z2=>?_⟩;by_cases hz:z<=0
 ·exact hl.2 z z1 hz
 ·exact hu.2 z (by omega) z2
end
end Rx
namespace Rx
section
def PA(s:ft):Prop:=((-5000<=s.ju∧s.ju<=s.iP)∧s.iP<=5000)∧1<=s.fJ∧s.fJ<=100
def Pe(l:List ft):Prop:=l.length<=8∧∀i,i<l.length->PA (gt l i)
def Fh(l:List ft)(x:List Int):Prop:=x.length=l.length∧∀i,i<l.length->(gt l i).ju<=gt x i∧gt x i<=(gt l i).iP
def aot{l:List ft}(h:Pe l):KF l=aa 0:=by
 have hl:=h.1;have hp:=dO (step:=Gl l) (r:= .inl ()) (λk=>(k:Int)) l.length (λk hk=>by
  obtain⟨⟨⟨h1,h2⟩,h3⟩,h4,h5⟩:=h.2 k hk;unfold Gl;simp only[ba hk,aH,aO hk,al,dF (show ¬(gt l k).ju< -5000 by omega),dF (show ¬(gt l k).ju>(gt l k).iP by omega),dF (show ¬(gt l k).iP>5000 by omega),dF (show ¬(gt l k).fJ<1 by omega),dF (show ¬(gt l k).fJ>100 by omega),aD,aC];rw[a_ (by omega)]) (by
  unfold Gl;simp only[bI,aD,aC]) (by omega)
 have h':aI (Gl l) 0=_:=hp;unfold KF;rw[dF (show ¬len l>8 by unfold len;omega),aK (by decide),h'];rfl
def ak5{l:List ft}(h:Pe l):Wp (KG l) λr=>r.2.2=0:=by
 have hl:=h.1;unfold KG;rw[aot h];simp only[al,me,aD,aC];refine Wp.bind (Q:=λ_=>True) ?_ λr _=>ar.2 rfl;refine dS l.length (λk s=>∃a c,s=(a,c,(k:Int))) ⟨0,0,rfl⟩ ?_ ?_
 ·rintro k s hk ⟨a,c,rfl⟩;unfold Ru;simp only[ba hk,aH,aO hk,al];exact ar.2 ⟨_,_,by rw[a_ (by omega)]⟩
 ·rintro s ⟨a,c,rfl⟩;unfold Ru;simp only[bI,aD,aC];exact ar.2 trivial
def ayb{a lo hi:Int}(h:lo<=hi):lo<=imax lo (eu a hi)∧imax lo (eu a hi)<=hi:=by unfold imax eu;split<;>split<;>omega
def Y1{l:List ft}(h:Pe l)(apW:Int):Wp (Gk l apW) λr=>Fh l r.2:=by
 have hl:=h.1;unfold Gk;refine Wp.bind (Q:=λ(r:Int×List Int)=>Fh l r.2) ?_ λr hr=>ar.2 hr;refine dS l.length (λk s=>∃n x,s=(n,(k:Int),x)∧x.length=k∧∀i,i<k->(gt l i).ju<=gt x i∧gt x i<=(gt l i).iP) ⟨0,[],rfl,rfl,λi hi=>by omega⟩ ?_ ?_
 ·rintro k s hk ⟨n,x,rfl,e1,e2⟩;unfold Rs;simp only[ba hk,aH,aO hk,al];refine(aCE _ _).bind λf _=>?_;unfold I3;simp only[al];rw[cJ (by simp;omega)];simp only[al];have hc:=ayb (a:=f.1) (h.2 k hk).1.1.2;refine ar.2 ⟨_,x++[imax (gt l k).ju (eu f.1 (gt l k).iP)],by rw[a_ (by omega)],by rw[cU,e1];rfl,λi hi=>?_⟩;rw[sM (show i<x.length+1 by omega)];by_cases eL:i<x.length
  ·rw[aG eL];exact e2 i (by omega)
  ·rw[aK eL,show i=k by omega];exact hc
 ·rintro s ⟨n,x,rfl,e1,e2⟩;unfold Rs;simp only[bI,aD,aC];exact ar.2 ⟨e1,e2⟩
def Qp{l:List ft}(h:Pe l){total:Int}(t0: -500000<=total)(t1:total<=500000):Wp (CR l total) λr=>Fh l r.2.2:=by
 have hl:=h.1;unfold CR;refine(ak5 h).bind λr hr=>?_;rw[hr];simp only[me,aD,aC,dF (show ¬total< -500000 by omega),dF (show ¬total>500000 by omega),al,I3];refine Wp.bind (Q:=λ_=>True) ?_ λp _=>?_
 ·refine tD (λs=>(s.2-s.1).toNat) (λs=>(-1000200<=s.1∧s.1<=s.2)∧s.2<=1000200) (λs hs=>?_) ⟨⟨by decide,by decide⟩,by decide⟩ (by decide);obtain⟨a,c⟩:=s;simp only at hs;unfold Z8;by_cases aU:a<c
  ·simp only[dT aU,aH];rw[bY (x:=a+c) (by omega) (by omega),aCF (by omega) (by omega) (by omega) (by omega)];simp only[al];refine(Y1 h _).bind λx _=>?_;refine Wp.bind (Q:=λs=>((-1000200<=s.1∧s.1<=s.2)∧s.2<=1000200)∧s.2-s.1<c-a) ?_ λs hs=>ar.2 ⟨hs.1,by(try simp only);omega⟩;refine Wp.ite (λ_=>ar.2 ⟨⟨⟨by simp only;omega,by simp only;omega⟩,by simp only;omega⟩,by simp only;omega⟩) λ_=>ar.2 ?_;rw[bY (by omega) (by omega)];exact⟨⟨⟨by simp only;omega,by simp only;omega⟩,by simp only;omega⟩,by simp only;omega⟩
  ·simp only[dF aU,aD,aC];exact ar.2 trivial
 refine(Y1 h _).bind λx hx=>?_;refine Wp.bind (Q:=λx=>Fh l x) ?_ λx hx=>ar.2 hx;refine dS l.length (λk s=>∃n x,s=(n,(k:Int),x)∧Fh l x) ⟨_,x.2,rfl,hx⟩ ?_ ?_
 ·rintro k s hk ⟨n,x,rfl,e1,e2⟩;have Hw:k<x.length:=by omega
  unfold Rw;simp only[ba hk,aH,aO hk,aO Hw,al,jy Hw];refine Wp.bind (Q:=λc=>c=ab->gt x k<(gt l k).iP) ?_ λc hc=>?_
  ·refine Wp.ite (λ_=>?_) λ_=>ar.2 λe=>by cases e
   refine Wp.ite (λhh=>?_) λ_=>ar.2 λe=>by cases e
   unfold Rt;exact ar.2 λ_=>jw hh
  refine Wp.bind (Q:=λs=>Fh l s.2) ?_ λs hs=>ar.2 ⟨_,s.2,by rw[a_ (by omega)],hs⟩;refine Wp.ite (λhh=>ar.2 ⟨by simpa using e1,λi hi=>?_⟩) λ_=>ar.2 ⟨e1,e2⟩;have h1:=hc hh;have h2:=e2 k hk;have h3:=h.2 k hk;show(gt l i).ju<=gt (x.set k (W (gt x k+1))) i∧gt (x.set k (W (gt x k+1))) i<=(gt l i).iP;rw[gE Hw];by_cases eL:i=k
  ·rw[aG eL,eL,bY (by have:=h3.1;omega) (by have:=h3.1;omega)];omega
  ·rw[aK eL];exact e2 i hi
 ·rintro s ⟨n,x,rfl,e⟩;unfold Rw;simp only[bI,aD,aC];exact ar.2 e
def Pc(M:List b8):Prop:=M.length<=8∧∀i,i<M.length->uz (gt M i)
def aat{t:b8}{P:Int->Prop}(h:uz t){l u:Int}(hr:za P l u)(hp:∀z,P z-> -t.Max<=z∧z<=t.Max):PA ⟨l,u,t.fJ⟩:=by
 have hm:=h.1.1.2.2.1;have hc:=h.1.1.2.2.2.2;obtain⟨⟨h1,h2⟩,h3⟩:=hr;rcases h3 with⟨rfl,rfl⟩|h3
 ·exact⟨⟨⟨by show(-5000:Int)<=0;omega,by show(0:Int)<=0;omega⟩,by show(0:Int)<=5000;omega⟩,hc⟩
 ·have a1:=hp l (h3 l (nY _) (by omega));have a2:=hp u (h3 u (by omega) (nY _));exact⟨⟨⟨by show-5000<=l;omega,by show l<=u;omega⟩,by show u<=5000;omega⟩,hc⟩
def PH(s:Int)(t:b8)(x:ft):Prop:=PA x∧(if t.s_≠s then x.ju=0∧x.iP=0 else za (λy=>lH t.Max 0 y) x.ju x.iP)
def Y3{M:List b8}(h:Pc M)(s:Int):Wp (GP ⟨M,[]⟩ s) λl=>l.length=M.length∧∀i,i<M.length->PH s (gt M i) (gt l i):=by
 have hl:=h.1;unfold GP;refine Wp.bind (Q:=λ(l:List ft)=>l.length=M.length∧∀i,i<M.length->PH s (gt M i) (gt l i)) ?_ λr hr=>ar.2 hr;refine dS M.length (λk st=>∃l,st=((k:Int),l)∧l.length=k∧∀i,i<k->PH s (gt M i) (gt l i)) ⟨[],rfl,rfl,λi hi=>by omega⟩ ?_ ?_
 ·rintro k st hk ⟨l,rfl,e1,e2⟩;have ht:=h.2 k hk;unfold Sx;simp only[ba hk,aH,aO hk,al];refine Wp.bind (Q:=λr=>∃x,r=l++[x]∧PH s (gt M k) x) ?_ λr hr=>?_
  ·refine Wp.ite (λhs=>?_) λhs=>?_
   ·rw[cJ (by simp;omega)];refine ar.2 ⟨⟨0,0,(gt M k).fJ⟩,rfl,⟨⟨⟨by show(-5000:Int)<=0;omega,by show(0:Int)<=0;omega⟩,by show(0:Int)<=5000;omega⟩,ht.1.1.2.2.2.2⟩,?_⟩;rw[aG (by simpa using hs)];exact⟨rfl,rfl⟩
   ·refine(alg ht).bind λr hr=>?_;unfold Sw;simp only[aO hk,al,show ak (len ([]:List fS)>0)=ai from rfl,aD,aC];rw[cJ (by simp;omega)];refine ar.2 ⟨⟨r.1,r.2,(gt M k).fJ⟩,rfl,aat ht hr λz hz=>hz.2.1,?_⟩;rw[aK (by simpa using hs)];exact hr
  ·obtain⟨x,rfl,hx⟩:=hr;refine ar.2 ⟨l++[x],by rw[a_ (by omega)],by rw[cU,e1];rfl,λi hi=>?_⟩;rw[sM (show i<l.length+1 by omega)];by_cases eL:i<l.length
   ·rw[aG eL];exact e2 i (by omega)
   ·rw[aK eL,show i=k by omega];exact hx
 ·rintro st ⟨l,rfl,e1,e2⟩;unfold Sx;simp only[bI,aD,aC];exact ar.2 ⟨e1,e2⟩
def XW(t:b8)(y:Int)(x:ft):Prop:=PA x∧za (λz=>lH t.Max z y) x.ju x.iP
def ale{M:List b8}(h:Pc M){y:List Int}(hy:y.length=M.length)(hb:∀i,i<M.length-> -5000<=gt y i∧gt y i<=5000):Wp (LR ⟨M,[]⟩ y) λl=>l.length=M.length∧∀i,i<M.length->XW (gt M i) (gt y i) (gt l i):=by
 have hl:=h.1;unfold LR;refine Wp.bind (Q:=λ(l:List ft)=>l.length=M.length∧∀i,i<M.length->XW (gt M i) (gt y i) (gt l i)) ?_ λr hr=>ar.2 hr;refine dS M.length (λk st=>∃l,st=((k:Int),l)∧l.length=k∧∀i,i<k->XW (gt M i) (gt y i) (gt l i)) ⟨[],rfl,rfl,λi hi=>by omega⟩ ?_ ?_
 ·rintro k st hk ⟨l,rfl,e1,e2⟩;have ht:=h.2 k hk;unfold St;simp only[ba hk,aH,aO hk,aO (show k<y.length by omega),al];refine(alf ht (by have:=hb k hk;omega) (by have:=hb k hk;omega)).bind λr hr=>?_;unfold Su;simp only[aO hk,al,show ak (len ([]:List fS)>0)=ai from rfl,aD,aC];rw[cJ (by simp;omega)];refine ar.2 ⟨l++[⟨r.1,r.2,(gt M k).fJ⟩],by rw[a_ (by omega)],by rw[cU,e1];rfl,λi hi=>?_⟩;rw[sM (show i<l.length+1 by omega)];by_cases eL:i<l.length
  ·rw[aG eL];exact e2 i (by omega)
  ·rw[aK eL,show i=k by omega];exact⟨aat ht hr λz hz=>hz.1,hr⟩
 ·rintro st ⟨l,rfl,e1,e2⟩;unfold St;simp only[bI,aD,aC];exact ar.2 ⟨e1,e2⟩
def vU(x:di):Prop:=((0<=x.iC∧x.iC<=200)∧1<=x.g_∧x.g_<=200)∧Pc x.cQ
def N2{x:di}(h:vU x):uT x=aa 0:=by
 obtain⟨⟨⟨h1,h2⟩,h3,h4⟩,hl,ht⟩:=h;have hc:Kl x.cQ=aa ai:=by
  have h:=dO (step:=F7 x.cQ) (r:= .inl ()) (λk=>(k:Int)) x.cQ.length (λk hk=>by
   unfold F7 QE;simp only[ba hk,aH,aO hk,al,JK (ht k hk),eg,aD,aC];rw[a_ (by omega)]) (by
   unfold F7;simp only[bI,aD,aC]) (by omega)
  have h':aI (F7 x.cQ) 0=_:=h;unfold Kl Q1;rw[h'];rfl
 unfold uT;rw[dF (show ¬len x.cQ>8 by unfold len;omega),dF (show ¬eu x.iC x.g_<0 by unfold eu;split<;>omega),dF (show ¬imax x.iC x.g_>200 by unfold imax;split<;>omega)];simp only[aD,aC,dG (show x.g_≠0 by omega),ite_self,al,hc]
def akU{x:di}(h:vU x){l:List fS}(hl:l.length=x.cQ.length):Wp (JO x l) λ_=>True:=by
 have h8:=h.2.1;unfold JO;rw[N2 h];simp only[al,me,aD,aC,BG (show len l=len x.cQ by unfold len;omega)];refine Wp.bind (Q:=λ_=>True) ?_ λr _=>by cases r<;>exact ar.2 trivial
 refine dS l.length (λk s=>∃z,s=((k:Int),z)) ⟨_,rfl⟩ ?_ ?_
 ·rintro k s hk ⟨z,rfl⟩;unfold QD;simp only[ba hk,aH,aO hk,al,aO (show k<x.cQ.length by omega)];refine Wp.bind (Q:=λ_=>True) ?_ λc _=>Wp.ite (λ_=>ar.2 trivial) λ_=>?_
  ·unfold FP;refine Wp.bind (Q:=λ_=>True) ?_ λ_ _=>ar.2 trivial;exact Wp.ite (λ_=>ar.2 trivial) λ_=>ar.2 trivial
  refine Wp.bind (Q:=λ_=>True) ?_ λc _=>ar.2 ⟨_,by rw[a_ (by omega)]⟩;exact Wp.ite (λ_=>ar.2 trivial) λ_=>ar.2 trivial
 ·rintro s ⟨z,rfl⟩;unfold QD;simp only[bI,aD,aC];exact ar.2 trivial
def Qr{l:List Int}{a c:Int}(hl:l.length<=1000)(h:∀i,i<l.length->a<=gt l i∧gt l i<=c):rP l a c=aa ab:=by
 have hp:=dO (step:=zE l a c) (r:= .inl ()) (λk=>(k:Int)) l.length (λk hk=>by
  have:=h k hk;unfold zE O8;simp only[ba hk,aH,aO hk,al,dF (show ¬gt l k<a by omega),dF (show ¬gt l k>c by omega),aD,aC];rw[a_ (by omega)]) (by
  unfold zE;simp only[bI,aD,aC]) (by omega)
 have h':aI (zE l a c) 0=_:=hp;unfold rP Kj J4;rw[h'];rfl
def Ak(t:b8)(m:Int):b8:=⟨t.Kind,t.s_,eu t.Max (imax m 0),t.vV,t.fJ,t.nT⟩
def ary{t:b8}(h:uz t){m:Int}(m0:0<=m):uz (Ak t m)∧(Ak t m).Max<=m:=by
 obtain⟨⟨⟨a1,a2,a3,a4⟩,hl⟩,hf⟩:=h;have e:0<=eu t.Max (imax m 0)∧eu t.Max (imax m 0)<=5000∧eu t.Max (imax m 0)<=m:=by unfold eu imax;split<;>split<;>omega
 exact⟨⟨⟨⟨a1,a2,⟨e.1,e.2.1⟩,a4⟩,hl⟩,hf⟩,e.2.2⟩
def als{x:di}(h:vU x){A:List Int}(hA:A.length=x.cQ.length)(hb:∀i,i<A.length->0<=gt A i∧gt A i<=5000){Z:List Int}(hZ:Z.length=x.cQ.length)(hz:∀i,i<Z.length-> -5000<=gt Z i∧gt Z i<=5000):Wp (O9 x A [] Z) λr=>(r.1=[]∧r.2.1=0)∧r.2.2.2.length=x.cQ.length∧∀i,i<x.cQ.length->gt r.2.2.2 i=Ak (gt x.cQ i) (gt A i):=by
 have h8:=h.2.1;unfold O9;rw[N2 h];simp only[al,me,aD,aC,BG (show len A=len x.cQ by unfold len;omega),BG (show len Z=len x.cQ by unfold len;omega),show ak (len ([]:List fS)>0)=ai from rfl,Qr (show A.length<=1000 by omega) hb,Qr (show Z.length<=1000 by omega) hz,eg];refine Wp.bind (Q:=λr=>r.1=[]∧r.2.length=x.cQ.length∧∀i,i<x.cQ.length->gt r.2 i=Ak (gt x.cQ i) (gt A i)) ?_ λr hr=>?_
 ·refine dS x.cQ.length (λk s=>∃M,s=((k:Int),[],M)∧M.length=k∧∀i,i<k->gt M i=Ak (gt x.cQ i) (gt A i)) ⟨[],rfl,rfl,λi hi=>by omega⟩ ?_ ?_
  ·rintro k s hk ⟨M,rfl,e1,e2⟩;unfold Xl QC Rg;have eH:=(h.2.2 k hk).1.2;simp only[ba hk,aH,aO hk,aO (show k<A.length by omega),al];rw[cJ (by simp;omega)];simp only[al];rw[cJ (by simp;omega)];refine ar.2 ⟨M++[Ak (gt x.cQ k) (gt A k)],by rw[a_ (by omega)];rfl,by rw[cU,e1];rfl,λi hi=>?_⟩;rw[sM (show i<M.length+1 by omega)];by_cases eL:i<M.length
   ·rw[aG eL];exact e2 i (by omega)
   ·rw[aK eL,show i=k by omega]
  ·rintro s ⟨M,rfl,e1,e2⟩;unfold Xl;simp only[bI,aD,aC];exact ar.2 ⟨rfl,e1,e2⟩
 ·have hL:aI (Xk [] Z) 0=aa (.inl ()):=ou (.done (by unfold Xk;rfl)) (by omega);rw[hL];exact ar.2 ⟨⟨hr.1,rfl⟩,hr.2⟩
def alw{x:di}(h:vU x){A:List Int}(hA:A.length=x.cQ.length)(hb:∀i,i<A.length->0<=gt A i∧gt A i<=5000){d:mc}(d1: -500000<=d.dz∧d.dz<=500000)(d2: -500000<=d.iC∧d.iC<=500000)(d3: -500000<=d.g_∧d.g_<=500000):Wp (O' x A [] d) λ_=>True:=by
 have h8:=h.2.1;unfold O';refine Wp.bind (Q:=λr=>(r.1=[]∧r.2.1=0)∧r.2.2.length=x.cQ.length∧∀i,i<x.cQ.length->gt r.2.2 i=Ak (gt x.cQ i) (gt A i)) ?_ λr hr=>?_
 ·unfold Xi;rw[show len x.cQ=((x.cQ.length:Nat):Int)from rfl,x_ (by omega)];simp only[al];refine(als h hA hb (Z:=List.replicate x.cQ.length 0) (by simp) λi hi=>by rw[Be (by simpa using hi)];omega).bind λr hr=>?_;rw[hr.1.2];have hw:rP [d.dz,d.iC,d.g_] (-500000) 500000=aa ab:=Qr (by simp) λi hi=>by
   match i,hi with
   |0,_=>exact d1
   |1,_=>exact d2
   |2,_=>exact d3
  simp only[X7,aH,hw,al,eg,aD,aC];exact ar.2 ⟨⟨hr.1.1,rfl⟩,hr.2⟩
 obtain⟨⟨e1,e2⟩,e3,e4⟩:=hr;obtain⟨r1,r2,M⟩:=r;simp only at e1 e2 e3 e4;subst e1 e2;have hM:Pc M:=⟨by omega,λi hi=>by rw[e4 i (by omega)];exact(ary (h.2.2 i (by omega)) (hb i (by omega)).1).1⟩;simp only[me,aD,aC];refine(Y3 hM 0).bind λl0 yx=>?_;refine(Qp ⟨by omega,λi hi=>(yx.2 i (by omega)).1⟩ d2.1 d2.2).bind λx3 h3=>?_;refine(Y3 hM 1).bind λl1 nJ=>?_;refine(Qp ⟨by omega,λi hi=>(nJ.2 i (by omega)).1⟩ d3.1 d3.2).bind λx5 h5=>?_;have n3:=h3.1;have n5:=h5.1;have DL:∀i,i<M.length->0<=(gt M i).Max∧(gt M i).Max<=5000:=λi hi=>(hM.2 i hi).1.1.2.2.1;have akI:∀i,i<M.length->lH (gt M i).Max 0 0:=λi hi=>by have:=DL i hi;refine⟨⟨by omega,by omega⟩,⟨by omega,by omega⟩,?_⟩;have:=PQ this.1 this.1;omega
 have hy:∀i,i<M.length->lH (gt M i).Max 0 (gt x5.2.2 i+gt x3.2.2 i):=λi hi=>by
  obtain⟨_,q0⟩:=yx.2 i hi;obtain⟨_,q1⟩:=nJ.2 i hi;have b0:=h3.2 i (by omega);have b1:=h5.2 i (by omega);have bU:=(hM.2 i hi).1.1.2.1;have key:∀{l u z:Int},za (λy=>lH (gt M i).Max 0 y) l u->l<=z->z<=u->lH (gt M i).Max 0 z:=λhr z1 z2=>by
   rcases hr.2 with⟨rfl,rfl⟩|hr
   ·rw[show _=(0:Int)from Int.le_antisymm z2 z1];exact akI i hi
   ·exact hr _ z1 z2
  by_cases hs:(gt M i).s_=0
  ·rw[aK (λhn=>hn hs)]at q0;rw[aG (by omega)]at q1;rw[show gt x5.2.2 i=0 by omega,Int.zero_add];exact key q0 b0.1 b0.2
  ·rw[aG hs]at q0;rw[aK (λhn=>hn (by omega))]at q1;rw[show gt x3.2.2 i=0 by omega,Int.add_zero];exact key q1 b1.1 b1.2
 refine Wp.bind (Q:=λy=>y.length=M.length∧∀i,i<M.length->lH (gt M i).Max 0 (gt y i)) ?_ λy Tn=>?_
 ·refine dS x5.2.2.length (λk s=>∃y,s=((k:Int),y)∧y.length=M.length∧(∀i,i<k->lH (gt M i).Max 0 (gt y i))∧∀i,k<=i->gt y i=gt x5.2.2 i) ⟨x5.2.2,rfl,by omega,λi hi=>by omega,λi _=>rfl⟩ ?_ ?_
  ·rintro k s hk ⟨y,rfl,f1,f2,f3⟩;have MO:k<y.length:=by omega
   unfold Xn;simp only[ba hk,aH,aO MO,aO (show k<x3.2.2.length by omega),al,jy MO];have ir:=hy k (by omega);have pD:=DL k (by omega);rw[f3 k (bw _),bY (x:=gt x5.2.2 k+gt x3.2.2 k) (by have:=ir.2.1;omega) (by have:=ir.2.1;omega)];refine ar.2 ⟨y.set k (gt x5.2.2 k+gt x3.2.2 k),by rw[a_ (by omega)],by simpa using f1,λi hi=>?_,λi hi=>?_⟩
   ·rw[gE MO];by_cases eL:i=k
    ·rw[aG eL,eL];exact ir
    ·rw[aK eL];exact f2 i (by omega)
   ·rw[gE MO,aK (by omega)];exact f3 i (by omega)
  ·rintro s ⟨y,rfl,f1,f2,f3⟩;unfold Xn;simp only[bI,aD,aC];exact ar.2 ⟨f1,λi hi=>f2 i (by omega)⟩
 have hyb:∀i,i<M.length-> -5000<=gt y i∧gt y i<=5000:=λi hi=>by have:=(Tn.2 i hi).2.1;have:=DL i hi;omega
 refine(ale hM Tn.1 hyb).bind λl2 vv=>?_;refine(Qp ⟨by omega,λi hi=>(vv.2 i (by omega)).1⟩ d1.1 d1.2).bind λcF D3=>?_;have n14:=D3.1;have hy1:=Tn.1;refine Wp.bind (Q:=λs=>s.2.2.2.2.2.2.length=M.length) ?_ λs hs=>?_
 ·refine dS y.length (λk s=>∃z1 z2 z3 z4 z5 z6 T,s=((k:Int),z1,z2,z3,z4,z5,z6,T)∧T.length=k) ⟨0,0,0,0,0,0,[],rfl,rfl⟩ ?_ ?_
  ·rintro k s hk ⟨z1,z2,z3,z4,z5,z6,T,rfl,f1⟩;unfold Xm;simp only[ba hk,aH,aO hk,aO (show k<cF.2.2.length by omega),al];rw[cJ (by simp;omega)];refine ar.2 ⟨z1,z2,z3,z4,z5,z6,T++[⟨gt cF.2.2 k,gt y k⟩],by rw[a_ (by omega)],by rw[cU,f1];rfl⟩
  ·rintro s ⟨z1,z2,z3,z4,z5,z6,T,rfl,f1⟩;unfold Xm;simp only[bI,aD,aC];exact ar.2 (by(try simp only);omega)
 refine(akU h (by rw[hs,e3])).bind λz _=>?_;unfold Xj;simp only[al];exact ar.2 trivial
end
end Rx
namespace Rx
section
variable {b:au} {p:aw} {l:List Int} {a:Int}
def pw(S c:Int):Int:= -((-(S*c))/1000)
def apR{S c n:Int}(h:n<pw S c):1000*n<S*c:=by unfold pw at h;omega
def ak8{t:b8}(h:uz t){x y:Int}(x0: -5000<=x)(x1:x<=5000)(y0: -5000<=y)(y1:y<=5000):JP t ⟨x,y⟩=aa (pw (x*x+y*y) t.fJ,0):=by obtain⟨q1,q2⟩:=CA (x:=x) (by omega) (by omega);obtain⟨q3,q4⟩:=CA (x:=y) (by omega) (by omega);obtain⟨c1,c2⟩:=h.1.1.2.2.2.2;have hm:0<=(x*x+y*y)*t.fJ:=PQ (by omega) (by omega);have T0:(x*x+y*y)*t.fJ<=200040002*100:=Fx (by omega) c2 (by omega) (by decide);unfold JP FP;simp only[JK h,al,eg,aD,aC];rw[dT (show imax x y<=5000 from abn.2 ⟨x1,y1⟩),aG rfl,dT (show eu x y>= -5000 from abu.2 ⟨x0,y0⟩)];simp only[al,eg,aD,aC];rw[bY (x:=x*x) (by omega) (by omega),bY (x:=y*y) (by omega) (by omega),bY (x:=x*x+y*y) (by omega) (by omega),bY (x:=(x*x+y*y)*t.fJ) (by omega) (by omega),aCy (by omega) (by omega) (by omega) (by omega)];rfl
def ak1{n:Int}(h0:0<=n)(h1:n<=1000000000000000000):Wp (O3 n) λr=>0<=r.1∧r.1*r.1<=n:=by
 unfold O3;rw[dF (show ¬n<0 by omega),aK (by decide),dF (show ¬n>1000000000000000000 by omega)];simp only[al,aD,aC];refine Wp.bind (Q:=λr=>0<=r∧r*r<=n) ?_ λr hr=>ar.2 hr;refine tD (λs=>(s.2-s.1).toNat) (λs=>((0<=s.1∧s.1<=s.2)∧s.2<=1000000000)∧s.1*s.1<=n) (λs hs=>?_) ⟨⟨⟨by decide,by decide⟩,by decide⟩,by simp;omega⟩ (by decide);obtain⟨c,d⟩:=s;simp only at hs;obtain⟨⟨⟨a0,a1⟩,a2⟩,a3⟩:=hs;unfold ajx;by_cases aU:c<d
 ·simp only[dT aU,aH];rw[bY (x:=c+d) (by omega) (by omega),bY (x:=c+d+1) (by omega) (by omega),zK (by omega) (by omega) (by omega)];obtain⟨m,hm⟩:∃m,(c+d+1)/2=m:=⟨_,rfl⟩;rw[hm];have m0:c<m∧m<=d:=by omega
  have mm:0<=m*m∧m*m<=1000000000*1000000000:=⟨PQ (by omega) (by omega),Fx (by omega) (by omega) (by omega) (by decide)⟩;rw[al,bY (x:=m*m) (by omega) (by omega)];refine Wp.bind (Q:=λs=>(((0<=s.1∧s.1<=s.2)∧s.2<=1000000000)∧s.1*s.1<=n)∧s.2-s.1<d-c) ?_ λs hs=>ar.2 ⟨hs.1,by(try simp only);omega⟩;refine Wp.ite (λhh=>ar.2 ⟨⟨⟨⟨by simp only;omega,by simp only;omega⟩,by simp only;omega⟩,jw hh⟩,by simp only;omega⟩) λ_=>ar.2 ?_;rw[bY (by omega) (by omega)];exact⟨⟨⟨⟨by simp only;omega,by simp only;omega⟩,by simp only;omega⟩,a3⟩,by simp only;omega⟩
 ·simp only[dF aU,aD,aC];exact ar.2 ⟨a0,a3⟩
def anX{x y:Int}(hy:0<=y)(h:x*x<y*y):x<=y:=by apply gw;intro hn;have:=Fx (show y<=x by omega) (show y<=x by omega) hy (by omega);omega
def alc{t:b8}(h:uz t){gn:Int}(l0:0<=gn)(l1:gn<=100000):Wp (JQ t gn) λr=>0<=r∧r<=t.Max:=by obtain⟨m0,m1⟩:=h.1.1.2.2.1;obtain⟨c1,c2⟩:=h.1.1.2.2.2.2;unfold JQ;rw[ak8 h (by omega) (by omega) (by omega) (by omega)];simp only[al,me,aD,aC,dF (show ¬gn<0 by omega)];refine Wp.ite (λhh=>ar.2 ⟨m0,nY _⟩) λhh=>?_;have hh:¬gn>=pw (t.Max*t.Max+0*0) t.fJ:=pN hh;rw[show t.Max*t.Max+0*0=t.Max*t.Max by omega]at hh;have aU:=apR (Int.not_le.1 hh);rw[bY (x:=1000*gn) (by omega) (by omega),zK (by omega) (by omega) (by omega)];simp only[al];have q1:1000*gn/t.fJ<t.Max*t.Max:=Int.ediv_lt_of_lt_mul (by omega) aU;have q0:0<=1000*gn/t.fJ:=Int.ediv_nonneg (by omega) (by omega);have q3:=(CA (x:=t.Max) (by omega) (by omega)).2;exact(ak1 q0 (by omega)).bind λr hr=>ar.2 ⟨hr.1,anX m0 (by omega)⟩
def ase(hb:Sm b.ay)(i:Nat):Wp (J8 b.ay (i:Int)) λr=>r<0∨∃c:Nat,r=(c:Int)∧c<b.ay.length:=by
 unfold J8;refine Wp.bind (Q:=λr:Unit⊕Int=>r= .inl ()∨∃c:Nat,r= .inr (c:Int)∧c<b.ay.length) ?_ λr hr=>?_
 ·refine dS b.ay.length (λk s=>s=(k:Int)) rfl ?_ ?_
  ·rintro k s hk rfl;unfold Q8 R6;simp only[ba hk,aH,aO hk,al];exact Wp.ite (λhh=>ar.2 (.inr ⟨k,rfl,hk⟩)) λhh=>ar.2 (by rw[a_ (eN hb hk)])
  ·rintro s rfl;unfold Q8;simp only[bI,aD,aC];exact ar.2 (.inl rfl)
 ·rcases hr with rfl|⟨c,rfl,hc⟩
  ·exact ar.2 (.inl (by decide))
  ·exact ar.2 (.inr ⟨c,rfl,hc⟩)
def aly(hb:fp b)(v:ni b p){x:di}(hx:vU x):Wp (Lv x b p) λr=>r.1=0∧r.2.length=x.cQ.length∧∀i,i<x.cQ.length->0<=gt r.2 i∧gt r.2 i<=5000:=by
 obtain⟨⟨hl,hg⟩,⟨s1,s2,s3⟩,_,_,g3⟩:=ff.1 v.2;have h8:=hx.2.1;unfold Lv;rw[N2 hx,xF hb v.1,v.2,show len x.cQ=((x.cQ.length:Nat):Int)from rfl,x_ (by omega)];simp only[al,me,aD,aC];refine Wp.bind (Q:=λA=>A.length=x.cQ.length∧∀i,i<x.cQ.length->0<=gt A i∧gt A i<=5000) ?_ λA hA=>ar.2 ⟨rfl,hA⟩;refine dS x.cQ.length (λk s=>∃A,s=((k:Int),A)∧A.length=x.cQ.length∧∀i,i<x.cQ.length->0<=gt A i∧gt A i<=5000) ⟨_,rfl,by simp,λi hi=>?_⟩ ?_ ?_
 ·rw[Be hi];exact⟨by decide,by decide⟩
 ·rintro k s hk ⟨A,rfl,hA⟩;have T7:k<A.length:=by have:=hA.1;omega
  unfold R5;simp only[ba hk,aH,aO hk,al];refine(ase hb.2.2.1 k).bind λc0 hc0=>?_;refine Wp.bind (Q:=λs=>s=ab->0<=c0) ?_ λs hs=>?_
  ·refine Wp.ite (λh=>?_) λ_=>ar.2 λh=>by cases h
   have h:c0>=0:=jw h;rcases hc0 with h'|⟨c,rfl,hc⟩
   ·omega
   ·rw[aoy hb v.1 v.2 (c:=(c:Int)) (by omega)];exact ar.2 λ_=>h
  ·refine Wp.bind (Q:=λA=>A.length=x.cQ.length∧∀i,i<x.cQ.length->0<=gt A i∧gt A i<=5000) ?_ λA hA=>ar.2 ⟨A,by rw[a_ (by omega)],hA⟩;refine Wp.ite (λh=>?_) λ_=>ar.2 hA;have h0:=hs h;rcases hc0 with h'|⟨c,rfl,hc⟩
   ·omega
   have T3:=(g3 c (by omega)).1;have iY:=(hg.2.2.2.2 c hc).2.1;rw[aO (show c<p.aW.length by omega)];refine(alc (hx.2.2 k hk) T3.1 (by omega)).bind λr hr=>?_;simp only[aO T7,jy T7,al];have hm:=(hx.2.2 k hk).1.1.2.2.1;refine ar.2 ⟨by simpa using hA.1,λi hi=>?_⟩;rw[gE T7];split
   ·omega
   ·exact hA.2 i hi
 ·rintro s ⟨A,rfl,hA⟩;unfold R5;simp only[bI,aD,aC];exact ar.2 hA
