import Derived.Test.YtgaghlbepnjhiaaGreatMb
set_option linter.all false
open Bool renaming false->ae,false_eq_true->aC,not_false->lj,not_true->dP,true->ab,true_and->Cl
open Classical renaming byContradiction->gD,not_not->si
open Decidable renaming decide->ak
open Int renaming toNat_natCast->iQ
open List renaming find?_eq_none->sh,length_append->cW,length_cons->jd,length_map->pZ,length_take->o9,mem_range->ew,range->bW,take_length->oZ
open Nat renaming le_refl->bw
open Option renaming bind_some->al,some->aa
noncomputable section
namespace Go.Proofs.YtgaghlbepnjhiaaGreat
open Go Go.RowKit Dp
namespace Rx
section
variable {b:au} {p:aw} {L T:List Int}
def re(b:au)(T:List Int)(i:Nat):Bool:=(gt b.ah i).Kind==3&&ak ((gt b.ah i).B∈T)
def cg(b:au)(p:aw)(L T:List Int):aw:=⟨ic p.aE (re b T),p.aj,L,p.aP⟩
structure mP(p:aw)(L:List Int):Prop where
 len:L.length=p.aT.length
 le:∀k,k<L.length->0<=gt L k∧gt L k<=gt p.aT k
def asL(h:bo b p=0):mP p p.aT:=⟨rfl,λk hk=>by obtain⟨_,_,_,_,_,h6⟩:=lN h;have:=M0 h (k:=k) (by omega);omega⟩
def TQ(h:bo b p=0){k:Nat}(hk:k<b.ay.length):0<=(gt b.ay k).fa∧(gt b.ay k).fa<=50000:=by obtain⟨⟨hl,hg⟩,_⟩:=fi.1 h;have h1:=(hg.2.2.2.2 k hk).2;omega
def Ry(h:bo b p=0)(hL:mP p L)(T:List Int):bo b (cg b p L T)=0:=by
 have hx:bo b {p with aE:=ic p.aE (re b T)}=0:=Rz h (kn _ _) rfl rfl rfl λk hk=>Hk hk;obtain⟨h1,⟨s1,s2,s3⟩,⟨g1,g2⟩,g3,g4⟩:=fi.1 hx;refine fi.2 ⟨h1,⟨s1,s2,by show L.length=_;rw[hL.len];exact s3⟩,⟨g1,g2⟩,g3,λk hk=>?_⟩;have da:k<p.aT.length:=by rw[<-hL.len];exact hk
 obtain⟨a,c⟩:=g4 k da;have h2:=hL.le k hk;refine⟨⟨h2.1,Int.le_trans h2.2 a.2⟩,?_⟩;refine Nat.le_trans (af6 (b:=b) (p:={p with aE:=ic p.aE (re b T)}) (q:=cg b p L T) (λj hj=>hj) b.ah.length) c
def RI(hp:dA p)(hL:mP p L)(T:List Int):dA (cg b p L T):=by
 obtain⟨h1,h2,h3,h4⟩:=hp;refine⟨?_,h2,?_,h4⟩
 ·show Sm (ic p.aE _);unfold Sm at h1⊢;rw[kn];exact h1
 ·show Sm L;unfold Sm at h3⊢;rw[hL.len];exact h3
def SF(h:bo b p=0)(L T:List Int):mN b p (cg b p L T):=by obtain⟨s1,_⟩:=lN h;refine⟨rfl,λ_ _=>rfl,λk hk h3=>?_⟩;show gt (ic p.aE _) k=_;rw[ql (by omega)];unfold re;rw[dL h3];simp
def arp(C:List Bool)(P Q:Nat->Bool):ic (ic C P) Q=ic C λi=>P i||Q i:=by refine jZ (by simp[kn]) λi hi=>?_;rw[kn,kn]at hi;rw[ql (by rw[kn];exact hi),ql hi,ql hi];cases gt C i<;>cases P i<;>rfl
def aru{C:List Bool}{P Q:Nat->Bool}(h:∀i,i<C.length->P i=Q i):ic C P=ic C Q:=by refine jZ (by simp[kn]) λi hi=>?_;rw[kn]at hi;rw[ql hi,ql hi,h i hi]
def arq(C:List Bool){P:Nat->Bool}(h:∀i,P i=ae):ic C P=C:=by refine jZ (by simp[kn]) λi hi=>?_;rw[kn]at hi;rw[ql hi,h i];simp
def aoQ(p:aw):cg b p p.aT []=p:=by unfold cg;rw[arq p.aE λi=>by unfold re;simp]
def aoh(T:List Int)(c:Int)(i:Nat):re b (T++[c]) i=(re b T i||((gt b.ah i).Kind==3&&(gt b.ah i).B==c)):=by
 unfold re;cases(gt b.ah i).Kind==3 with
 |false=>rfl
 |true=>simp only[Cl,List.mem_append,List.mem_singleton,Bool.decide_or];rw[show ak ((gt b.ah i).B=c)=((gt b.ah i).B==c)from rfl]
def asV(h:bo b p=0)(L:List Int){T:List Int}{c:Int}(hc:c∉T):gn b (cg b p L T) 3 c=gn b p 3 c:=by obtain⟨s1,_⟩:=lN h;refine acQ λk hk h3 hB=>?_;show gt (ic p.aE _) k=_;rw[ql (by omega)];unfold re;rw[hB,J1 hc];simp
def asU(h:bo b p=0)(L:List Int){T:List Int}{c:Int}(hc:c∈T):(gn b (cg b p L T) 3 c).2=ae:=by
 obtain⟨s1,_⟩:=lN h;unfold gn;have:(bW b.ah.length).find? (m9 b (cg b p L T) 3 c)=none:=by rw[sh];intro k hk he;have hk:=ew.1 hk;unfold m9 at he;simp only[Bool.and_eq_true,sf]at he;obtain⟨⟨h3,hB⟩,dh⟩:=he;have dh:gt (ic p.aE (re b T)) k=ab:=dh;rw[ql (by omega)]at dh;unfold re at dh;rw[h3,hB,wh hc]at dh;simp at dh
 rw[this]
def aqY(P:Nat->Bool)(Q:Int->Bool)(n:Nat):(bG P n).filter Q=bG (λi=>P i&&Q (i:Int)) n:=by unfold bG;rw[List.filter_map,List.filter_filter];congr 1;refine List.filter_congr λi _=>?_;simp[Bool.and_comm]
def left(T l:List Int):List Int:=l.filter λc=> !ak (c∈T)
def ati(h:bo b p=0)(L T:List Int)(f:Nat):dZ b (cg b p L T) f=⟨(dZ b p f).aA,(dZ b p f).aj,left T (dZ b p f).ay⟩:=by
 have hS:=SF h L T;obtain⟨e1,e2⟩:=hS.RE f;have e3:(dZ b (cg b p L T) f).ay=left T (dZ b p f).ay:=by
  show bG (iu b (cg b p L T) f) _=left T (bG (iu b p f) _);unfold left;rw[aqY];congr 1;funext j;unfold iu;rw[hS.cB];by_cases hc:(j:Int)∈T
  ·rw[asU h L hc,wh hc];simp
  ·rw[asV h L hc,J1 hc];simp
 rw[<-e1,<-e2,<-e3]
def arB(h:bo b p=0)(hL:mP p L)(T:List Int)(k:Int):(fV b (cg b p L T) k).1=⟨(fV b p k).1.aA,(fV b p k).1.aj,left T (fV b p k).1.ay⟩:=by
 unfold fV;by_cases c:0<=k∧k<b.aA
 ·rw[aI ⟨Ry h hL T,c⟩,aI ⟨h,c⟩];try simp only
  unfold eP;rw[(SF h L T).cB];exact ati h L T _
 ·rw[aK λx=>c x.2,aK λx=>c x.2];rfl
def vU(b:au)(x:bz)(T L:List Int):Int:=imax 0 (nI (gt L) (left T x.ay)-yn b x)
def asR{T l:List Int}{c:Int}(h:c∈left T l):c∈l∧c∉T:=by unfold left at h;rw[List.mem_filter]at h;exact⟨h.1,by simpa using h.2⟩
def asS(T l:List Int):(left T l).length<=l.length:=List.length_filter_le _ _
def TL(h:bo b p=0)(hL:mP p L){k:Nat}(hk:k<b.ay.length):0<=gt L k∧gt L k<=50000:=by obtain⟨_,_,_,_,_,h6⟩:=lN h;have h1:=hL.le k (by rw[hL.len];omega);have h2:=M0 h hk;omega
def aqW(h:bo b p=0){x:bz}(hx:x∈bq b p):0<=yn b x∧yn b x<=400000:=by
 obtain⟨⟨hl,hg⟩,_⟩:=fi.1 h;obtain⟨h1,h2,h3,h4,_⟩:=Hx hg.1 hx;have h8:=hl.src;have:=KB (f:=λk=>(gt b.aj k).iE) (l:=x.aj) (B:=50000) (λc hc=>by have:=h2 c hc;have:=SV h (k:=c.toNat) (by omega);exact⟨by omega,this.2⟩)
 unfold yn;omega
def aoI(h:bo b p=0)(hL:mP p L){x:bz}(hx:x∈bq b p)(T:List Int):0<=nI (gt L) (left T x.ay)∧nI (gt L) (left T x.ay)<=800000:=by
 obtain⟨⟨hl,hg⟩,_⟩:=fi.1 h;obtain⟨h1,h2,h3,h4,_⟩:=Hx hg.1 hx;have h8:=hl.iY;have h9:=asS T x.ay;have:=KB (f:=gt L) (l:=left T x.ay) (B:=50000) (λc hc=>by have:=h1 c (asR hc).1;exact TL h hL (by omega))
 omega
def afx(hb:fw b)(hp:dA p)(h:bo b p=0)(hL:mP p L)(T:List Int){x:bz}(hx:x∈bq b p)(hs:x.aj≠[])(a:List Act):G' ⟨b,cg b p L T,a⟩ (gt x.aA 0)=aa (vU b x T L):=by
 unfold G';simp only[asD hb (RI (b:=b) hp hL T),aqV hb (RI (b:=b) hp hL T),al];rw[arB h hL T,atm h hx];have h1:=aoI h hL hx T;have h2:=aqW h hx;have e1:MZ (cg b p L T) ⟨x.aA,x.aj,left T x.ay⟩=nI (gt L) (left T x.ay):=by unfold MZ;rw[aK hs];rfl
 have e2:yn b ⟨x.aA,x.aj,left T x.ay⟩=yn b x:=rfl;rw[e1,e2,bX (by omega) (by omega)];rfl
def td(b:au)(x:bz)(T L:List Int)(c:Int):Int:=eD (vU b x T L) (gt L c.toNat-(gt b.ay c.toNat).fa)
def rz(b:au)(x:bz)(T:List Int)(s:List Int×List Act)(c:Int):List Int×List Act:=
 if 0<td b x T s.1 c then(s.1.set c.toNat (gt s.1 c.toNat-td b x T s.1 c),s.2++[⟨5,c,gt s.1 c.toNat-td b x T s.1 c⟩])else s
def iW(b:au)(x:bz)(T o:List Int)(s:List Int×List Act):List Int×List Act:=o.foldl (rz b x T) s
def afS{x:bz}{c:Int}:td b x T L c<=gt L c.toNat-(gt b.ay c.toNat).fa∧td b x T L c<=vU b x T L:=by unfold td eD;split<;>omega
def asu(h:bo b p=0){x:bz}{T:List Int}{s:List Int×List Act}(hL:mP p s.1){c:Int}(hc:0<=c∧c<(b.ay.length:Int)):mP p (rz b x T s c).1∧(rz b x T s c).2.length<=s.2.length+1:=by
 obtain⟨_,_,_,_,_,h6⟩:=lN h;have hlen:=hL.len;unfold rz;by_cases h0:0<td b x T s.1 c
 ·rw[aI h0];have h1:=afS (b:=b) (x:=x) (T:=T) (L:=s.1) (c:=c);have h2:=TQ h (k:=c.toNat) (by omega);refine⟨⟨by simp[hlen],λk hk=>?_⟩,by simp⟩;rw[List.length_set]at hk;try simp only
  rw[gV (by omega)];have h3:=hL.le k hk;by_cases e:k=c.toNat
  ·subst e;rw[aI rfl];omega
  ·rw[aK e];exact h3
 ·rw[aK h0];exact⟨hL,by omega⟩
def MT(h:bo b p=0){x:bz}{T:List Int}:∀{o:List Int} {s:List Int×List Act},mP p s.1->(∀c∈o,0<=c∧c<(b.ay.length:Int))->mP p (iW b x T o s).1∧(iW b x T o s).2.length<=s.2.length+o.length
 |[],s,hL,ho=>⟨hL,bw _⟩
 |c::o,s,hL,ho=>by obtain⟨h1,h2⟩:=asu (T:=T) (x:=x) h hL (ho c (by simp));obtain⟨h3,h4⟩:=MT (x:=x) (T:=T) h (o:=o) h1 (λd hd=>ho d (by simp[hd]));have e:iW b x T (c::o) s=iW b x T o (rz b x T s c):=rfl;rw[e];exact⟨h3,by simp only[jd];omega⟩
def asw{x:bz}{o:List Int}{c:Int}{s:List Int×List Act}:iW b x T (o++[c]) s=rz b x T (iW b x T o s) c:=by unfold iW;rw[List.foldl_append];rfl
def rf(b:au)(p:aw)(x:bz)(L:List Int)(s:List Int×List Act)(c:Int):List Int×List Act:=
 if 0<gt L c.toNat∧0<vU b x s.1 L then(s.1++[c],s.2++(gJ (cg b p L s.1).aE λi=>(gt b.ah i).Kind==3&&(gt b.ah i).B==c).map qX)else s
def lp(b:au)(p:aw)(x:bz)(L o:List Int)(s:List Int×List Act):List Int×List Act:=o.foldl (rf b p x L) s
def aom{x:bz}{o:List Int}{c:Int}{s:List Int×List Act}:lp b p x L (o++[c]) s=rf b p x L (lp b p x L o s) c:=by unfold lp;rw[List.foldl_append];rfl
def aok{x:bz}{s:List Int×List Act}{c:Int}(h:p.aE.length<=1000):(rf b p x L s c).2.length<=s.2.length+1000:=by
 unfold rf;split
 ·have:=BF (cg b p L s.1).aE λi=>(gt b.ah i).Kind==3&&(gt b.ah i).B==c;have e:(cg b p L s.1).aE.length=p.aE.length:=kn _ _;simp only[cW,pZ];omega
 ·omega
def Rq{x:bz}(h:p.aE.length<=1000):∀{o:List Int} {s:List Int×List Act},(lp b p x L o s).2.length<=s.2.length+1000*o.length
 |[],s=>bw _
 |c::o,s=>by have h1:=aok (b:=b) (p:=p) (L:=L) (x:=x) (s:=s) (c:=c) h;have h2:=Rq (x:=x) h (o:=o) (s:=rf b p x L s c);have e:lp b p x L (c::o) s=lp b p x L o (rf b p x L s c):=rfl;rw[e];simp only[jd];omega
def GY(b:au)(p:aw)(s:List Int×List Int×List Act)(x:bz):List Int×List Int×List Act:=
 if x.aj=[]then s else
  ((iW b x s.2.1 (qk b x) (s.1,s.2.2)).1,lp b p x (iW b x s.2.1 (qk b x) (s.1,s.2.2)).1 (qk b x) (s.2.1,(iW b x s.2.1 (qk b x) (s.1,s.2.2)).2))
def lX(b:au)(p:aw)(l:List bz):List Int×List Int×List Act:=l.foldl (GY b p) (p.aT,[],[])
def aa2(l:List bz)(x:bz):lX b p (l++[x])=GY b p (lX b p l) x:=by unfold lX;rw[List.foldl_append];rfl
def S9(h:bo b p=0){x:bz}(hx:x∈bq b p):(∀c∈x.ay,0<=c∧c<(b.ay.length:Int))∧(∀c∈qk b x,0<=c∧c<(b.ay.length:Int))∧(qk b x).length<=16:=by
 obtain⟨⟨hl,hg⟩,_⟩:=fi.1 h;obtain⟨h1,_⟩:=Hx hg.1 hx;have h2:∀c∈x.ay,0<=c∧c<(b.ay.length:Int):=λc hc=>by have:=h1 c hc;omega
 refine⟨h2,λc hc=>h2 c ((arf h2).1 hc),?_⟩;have:=arh b x;have:=hl.iY;omega
def LD(h:bo b p=0):∀k,k<=(bq b p).length->mP p (lX b p ((bq b p).take k)).1∧(lX b p ((bq b p).take k)).2.2.length<=20000*k
 |0,_=>⟨asL h,bw _⟩
 |k+1,hk=>by
  obtain⟨h1,h2⟩:=LD h k (by omega);obtain⟨s1,_,s3,_⟩:=lN h;rw[lr (by omega),aa2];have hx:=cX (l:=bq b p) (k:=k) (by omega);obtain⟨_,o1,o2⟩:=S9 h hx;unfold GY;split
  ·exact⟨h1,by omega⟩
  ·obtain⟨l1,l2⟩:=MT (x:=gt (bq b p) k) (T:=(lX b p ((bq b p).take k)).2.1) (s:=((lX b p ((bq b p).take k)).1,(lX b p ((bq b p).take k)).2.2)) h h1 o1;refine⟨l1,?_⟩;have:=Rq (b:=b) (p:=p) (L:=(iW b (gt (bq b p) k) (lX b p ((bq b p).take k)).2.1 (qk b (gt (bq b p) k)) ((lX b p ((bq b p).take k)).1,(lX b p ((bq b p).take k)).2.2)).1) (x:=gt (bq b p) k) (by omega) (o:=qk b (gt (bq b p) k)) (s:=((lX b p ((bq b p).take k)).2.1,(iW b (gt (bq b p) k) (lX b p ((bq b p).take k)).2.1 (qk b (gt (bq b p) k)) ((lX b p ((bq b p).take k)).1,(lX b p ((bq b p).take k)).2.2)).2));simp only at this l2⊢;omega
end
end Rx
namespace Rx
section
variable {b:au} {p:aw} {L T:List Int}
def ay5(h:bo b p=0)(hL:mP p L)(T:List Int){x:bz}(hx:x∈bq b p){c:Int}(hc:0<=c∧c<(b.ay.length:Int)):eD (vU b x T L) (W (gt L c.toNat-(gt b.ay c.toNat).fa))=td b x T L c:=by have h1:=TL h hL (k:=c.toNat) (by omega);have h2:=TQ h (k:=c.toNat) (by omega);rw[bX (by omega) (by omega)];rfl
def ass(hb:fw b)(hp:dA p)(h:bo b p=0)(hL:mP p L)(T:List Int){x:bz}(hx:x∈bq b p)(hs:x.aj≠[]){o:List Int}(ho:∀c∈o,0<=c∧c<(b.ay.length:Int))(A_:o.length<=1000){a:List Act}(ha:a.length<=10000000):
  L7 ⟨b,cg b p L T,a⟩ o (gt x.aA 0)=aa (b.aA,b.ah,b.aj,b.ay,b.bn,b.a_,(cg b p L T).aE,(cg b p L T).aj,(iW b x T o (L,a)).1,(cg b p L T).aP,o,(iW b x T o (L,a)).2):=by
 have jB:∀k,mP p (iW b x T (o.take k) (L,a)).1∧(iW b x T (o.take k) (L,a)).2.length<=a.length+(o.take k).length:=λk=>MT h (s:=(L,a)) hL λc hc=>ho c (List.mem_of_mem_take hc)
 obtain⟨_,_,_,_,_,h6⟩:=lN h
 have fD:=dR (step:=G_ ⟨b,cg b p L T,a⟩ o (gt x.aA 0)) (r:=(b.aA,b.ah,b.aj,b.ay,b.bn,b.a_,(iW b x T o (L,a)).1,(iW b x T o (L,a)).2)) (λk=>((k:Int),b.aA,b.ah,b.aj,b.ay,b.bn,b.a_,(iW b x T (o.take k) (L,a)).1,(iW b x T (o.take k) (L,a)).2)) o.length (λk hk=>by
  obtain⟨eK,oL⟩:=jB k;have hc:=ho _ (cX hk);rw[o9]at oL;rw[lr hk,asw];generalize iW b x T (o.take k) (L,a)=s at eK oL⊢;obtain⟨L1,a1⟩:=s;simp only at eK oL⊢;have hlen:=eK.len;unfold G_;have hex:=afx hb hp h eK T hx hs a1;have xm:(⟨b.aA,b.ah,b.aj,b.ay,b.bn,b.a_⟩:au)=b:=rfl;have rH:(⟨(cg b p L T).aE,(cg b p L T).aj,L1,(cg b p L T).aP⟩:aw)=cg b p L1 T:=rfl;simp only[aZ hk,aH,aM hk,al,xm,rH,hex];rw[iI (l:=L1) hc.1 (by omega),iI (l:=b.ay) hc.1 hc.2];simp only[al,ay5 h eK T hx hc];rw[aY (by omega)];have h1:=TL h eK (k:=(gt o k).toNat) (by omega);have h2:=TQ h (k:=(gt o k).toNat) (by omega);have h3:=afS (b:=b) (x:=x) (T:=T) (L:=L1) (c:=gt o k);unfold rz;by_cases h0:0<td b x T L1 (gt o k)
  ·rw[dT (c:=td b x T L1 (gt o k)>0) h0,aI h0,bX (by omega) (by omega),Dl hc.1 (by omega)];simp only[aH,al];rw[iI (l:=L1.set (gt o k).toNat _) hc.1 (by rw[List.length_set];omega)];simp only[al];rw[gV (by omega),aI rfl,cJ (by simp;omega)];rfl
  ·rw[dF (c:=td b x T L1 (gt o k)>0) h0,aK h0];simp only[aC,aB,al]) (by
  unfold G_;simp only[bC,aC,aB,oZ]) (by omega)
 unfold L7
 have D7:aG (G_ ⟨b,cg b p L T,a⟩ o (gt x.aA 0)) (0,b.aA,b.ah,b.aj,b.ay,b.bn,b.a_,L,a)=_:=fD
 try simp only
 rw[show(cg b p L T).aT=L from rfl,D7]
 rfl
def arn(hl:p.aE.length<=b.ah.length)(T:List Int)(c:Int):ic (cg b p L T).aE (λi=>(gt b.ah i).Kind==3&&(gt b.ah i).B==c)=(cg b p L (T++[c])).aE:=by show ic (ic p.aE (re b T)) _=ic p.aE (re b (T++[c]));rw[arp];exact aru λi _=>(aoh T c i).symm
def aoF(hp:dA p)(h:bo b p=0)(hL:mP p L)(T:List Int){a:List Act}(ha:a.length<=1000000)(c:Int):
  LY ⟨b,cg b p L T,a⟩ c=aa (b.aA,b.ah,b.aj,b.ay,b.bn,b.a_,(cg b p L (T++[c])).aE,p.aj,L,p.aP,c,a++(gJ (cg b p L T).aE λi=>(gt b.ah i).Kind==3&&(gt b.ah i).B==c).map qX):=by
 obtain⟨s1,s2,s3,_⟩:=lN h
 have dh:(cg b p L T).aE.length=p.aE.length:=kn _ _
 unfold LY
 have e1:aG (G8 ⟨b,cg b p L T,a⟩ c) (0,[])=aa (gJ (cg b p L T).aE λi=>(gt b.ah i).Kind==3&&(gt b.ah i).B==c):=by
  have:=dR (step:=G8 ⟨b,cg b p L T,a⟩ c) (r:=gJ (cg b p L T).aE λi=>(gt b.ah i).Kind==3&&(gt b.ah i).B==c) (λk=>((k:Int),bG (λi=>gt (cg b p L T).aE i&&((gt b.ah i).Kind==3&&(gt b.ah i).B==c)) k)) b.ah.length (λk hk=>by
   have l_:=oz (λi=>gt (cg b p L T).aE i&&((gt b.ah i).Kind==3&&(gt b.ah i).B==c)) k;unfold G8 Sk;simp only[aZ hk,aH,aM hk,al,aM (l:=(cg b p L T).aE) (k:=k) (by omega)];rw[aY (by omega),py];generalize bG (λi=>gt (cg b p L T).aE i&&((gt b.ah i).Kind==3&&(gt b.ah i).B==c)) k=R at l_⊢;cases gt (cg b p L T).aE k with
   |false=>simp
   |true=>
    cases(gt b.ah k).Kind==3 with
    |false=>simp
    |true=>
     cases(gt b.ah k).B==c with
     |false=>simp
     |true=>simp only[aH,al,Bool.and_self];rw[cJ (by simp;omega)];rfl) (by
   unfold G8;simp only[bC,aC,aB];unfold gJ;rw[dh,s1]) (by omega)
  simpa[bG]using this
 rw[e1]
 have eL:=BF (cg b p L T).aE λi=>(gt b.ah i).Kind==3&&(gt b.ah i).B==c
 have e2:=Tb (b:=b) (p:=cg b p L T) (a:=a) (l:=gJ (cg b p L T).aE λi=>(gt b.ah i).Kind==3&&(gt b.ah i).B==c) (by omega) (by omega) (by omega) BE
 rw[VX,arn (by omega)]at e2
 simp only[al]
 rw[show aG (abv (gJ (cg b p L T).aE λi=>(gt b.ah i).Kind==3&&(gt b.ah i).B==c)) (0,b.aA,b.ah,b.aj,b.ay,b.bn,b.a_,(cg b p L T).aE,(cg b p L T).aj,(cg b p L T).aT,(cg b p L T).aP,a)=_ from e2]
 rfl
def aoi(hb:fw b)(hp:dA p)(h:bo b p=0)(hL:mP p L)(T:List Int){x:bz}(hx:x∈bq b p)(hs:x.aj≠[]){o:List Int}(ho:∀c∈o,0<=c∧c<(b.ay.length:Int))(A_:o.length<=100){a:List Act}(ha:a.length<=500000):
  LV ⟨b,cg b p L T,a⟩ o (gt x.aA 0)=aa (b.aA,b.ah,b.aj,b.ay,b.bn,b.a_,(cg b p L (lp b p x L o (T,a)).1).aE,p.aj,L,p.aP,o,(lp b p x L o (T,a)).2):=by
 obtain⟨s1,_,s3,_,_,h6⟩:=lN h
 have hlen:=hL.len
 have jB:∀k,(lp b p x L (o.take k) (T,a)).2.length<=a.length+1000*(o.take k).length:=λk=>Rq (by omega)
 have fD:=dR (step:=G6 o (gt x.aA 0)) (r:=dY b (cg b p L (lp b p x L o (T,a)).1) (lp b p x L o (T,a)).2) (λk=>((k:Int),dY b (cg b p L (lp b p x L (o.take k) (T,a)).1) (lp b p x L (o.take k) (T,a)).2)) o.length (λk hk=>by
  have oL:=jB k;have hc:=ho _ (cX hk);rw[o9]at oL;rw[lr hk,aom];generalize lp b p x L (o.take k) (T,a)=s at oL⊢;obtain⟨T1,a1⟩:=s;simp only at oL⊢;have hex:=afx hb hp h hL T1 hx hs a1;have xm:(⟨b.aA,b.ah,b.aj,b.ay,b.bn,b.a_⟩:au)=b:=rfl;have rH:(⟨(cg b p L T1).aE,(cg b p L T1).aj,(cg b p L T1).aT,(cg b p L T1).aP⟩:aw)=cg b p L T1:=rfl;unfold G6;simp only[dY,aZ hk,aH,aM hk,al,xm,rH,hex];rw[iI (l:=(cg b p L T1).aT) hc.1 (by show _<(L.length:Int);omega)];simp only[al];rw[aY (by omega)];have hT:rf b p x L (T1,a1) (gt o k)=if 0<gt L (gt o k).toNat∧0<vU b x T1 L then(T1++[gt o k],a1++(gJ (cg b p L T1).aE λi=>(gt b.ah i).Kind==3&&(gt b.ah i).B==gt o k).map qX)else(T1,a1):=rfl
  by_cases h1:0<gt L (gt o k).toNat
  ·rw[dT (c:=gt (cg b p L T1).aT (gt o k).toNat>0) h1];by_cases h2:0<vU b x T1 L
   ·rw[aI ⟨h1,h2⟩]at hT;rw[hT,dT (c:=vU b x T1 L>0) h2];simp only[aH,al,aoF hp h hL T1 (a:=a1) (by omega) (gt o k)];rfl
   ·rw[aK λc=>h2 c.2]at hT;rw[hT,dF (c:=vU b x T1 L>0) h2];simp only[aH,aC,aB,al]
  ·rw[aK λc=>h1 c.1]at hT;rw[hT,dF (c:=gt (cg b p L T1).aT (gt o k).toNat>0) h1];simp only[aC,aB,al]) (by
  unfold G6;simp only[dY,bC,aC,aB,oZ]) (by omega)
 unfold LV
 have D7:aG (G6 o (gt x.aA 0)) (0,b.aA,b.ah,b.aj,b.ay,b.bn,b.a_,(cg b p L T).aE,(cg b p L T).aj,(cg b p L T).aT,(cg b p L T).aP,a)=_:=fD
 try simp only
 rw[D7]
 rfl
def asv{a0 a:List Act}{x:bz}{c:Int}:rz b x T (L,a0++a) c=((rz b x T (L,a) c).1,a0++(rz b x T (L,a) c).2):=by
 unfold rz;by_cases h:0<td b x T L c
 ·rw[aI h,aI h];simp
 ·rw[aK h,aK h]
def acG{a0:List Act}{x:bz}:∀{o:List Int} {L:List Int} {a:List Act},iW b x T o (L,a0++a)=((iW b x T o (L,a)).1,a0++(iW b x T o (L,a)).2)
 |[],L,a=>rfl
 |c::o,L,a=>by have e:∀s,iW b x T (c::o) s=iW b x T o (rz b x T s c):=λ_=>rfl;rw[e,e,asv,acG]
def aol{a0 a:List Act}{x:bz}{c:Int}:rf b p x L (T,a0++a) c=((rf b p x L (T,a) c).1,a0++(rf b p x L (T,a) c).2):=by
 unfold rf;by_cases h:0<gt L c.toNat∧0<vU b x T L
 ·rw[aI h,aI h];simp
 ·rw[aK h,aK h]
def aan{a0:List Act}{x:bz}:∀{o:List Int} {T:List Int} {a:List Act},lp b p x L o (T,a0++a)=((lp b p x L o (T,a)).1,a0++(lp b p x L o (T,a)).2)
 |[],T,a=>rfl
 |c::o,T,a=>by have e:∀s,lp b p x L (c::o) s=lp b p x L o (rf b p x L s c):=λ_=>rfl;rw[e,e,aol,aan]
def atL{l:List Int}(h:l.length<=1000000):u6 l=aa l:=by unfold u6;rw[cJ (by simp;omega)];simp
def yd(b:au)(p:aw):List Int×List Int×List Act:=lX b p (bq b p)
def GV(b:au)(p:aw):aw:=cg b p (yd b p).1 (yd b p).2.1
def apH(hb:fw b)(hp:dA p)(h:bo b p=0){a:List Act}(ha:a.length<=1000):LZ ⟨b,p,a⟩=aa (dY b (GV b p) (a++(yd b p).2.2)):=by
 obtain⟨⟨hl,hg⟩,_⟩:=fi.1 h;have Vx:nr b=0:=BS.2 ⟨hl,hg⟩;have lI:=Hy (b:=b) (p:=p);have pM:=hl.jp;have qH:=hl.iY;have A_:(kT b).length<=16:=by rw[ab5];exact qH
 unfold LZ;simp only[arj hb Vx,TY hb hp h,al];have fD:=dR (step:=DA (kT b) (bq b p)) (r:=dY b (GV b p) (a++(yd b p).2.2)) (λk=>((k:Int),dY b (cg b p (lX b p ((bq b p).take k)).1 (lX b p ((bq b p).take k)).2.1) (a++(lX b p ((bq b p).take k)).2.2))) (bq b p).length (λk hk=>by
  obtain⟨eK,oL⟩:=LD h k (by omega);have hx:=cX hk;obtain⟨p1,p2,p3,p4,p5⟩:=Hx hg.1 hx;obtain⟨_,o1,o2⟩:=S9 h hx;rw[lr hk,aa2];generalize lX b p ((bq b p).take k)=s at eK oL⊢;obtain⟨L1,T1,a1⟩:=s;simp only at eK oL⊢;have fO:Sm (gt (bq b p) k).ay:=by unfold Sm;omega
  unfold DA;simp only[dY,aZ hk,aH,aM hk,al,atL (l:=kT b) (by omega),ay1 fO (l:=kT b) (by omega)];have avW:(kT b).filter (λc=>decide (c∈(gt (bq b p) k).ay))=qk b (gt (bq b p) k):=rfl;rw[avW,aY (by omega)];unfold GY;by_cases hs:(gt (bq b p) k).aj=[]
  ·rw[aI hs,dF (c:=len (gt (bq b p) k).aj>0) (by rw[hs];decide)];simp only[aC,aB,al]
  ·have oI:len (gt (bq b p) k).aj>0:=by have:=List.length_pos_iff.2 hs;unfold len;omega
   have xm:(⟨b.aA,b.ah,b.aj,b.ay,b.bn,b.a_⟩:au)=b:=rfl;have rH:(⟨(cg b p L1 T1).aE,(cg b p L1 T1).aj,(cg b p L1 T1).aT,(cg b p L1 T1).aP⟩:aw)=cg b p L1 T1:=rfl;rw[aK hs,dT oI];simp only[aH,al,xm,rH,show idx (gt (bq b p) k).aA 0=aa (gt (gt (bq b p) k).aA 0)from aM p5,ass hb hp h eK T1 hx hs o1 (by omega) (a:=a++a1) (by rw[cW];omega),acG];obtain⟨l1,l2⟩:=MT (x:=gt (bq b p) k) (T:=T1) (s:=(L1,a1)) h eK o1;generalize iW b (gt (bq b p) k) T1 (qk b (gt (bq b p) k)) (L1,a1)=s at l1 l2⊢;obtain⟨L2,a2⟩:=s;simp only at l1 l2⊢;have auM:(⟨(cg b p L1 T1).aE,(cg b p L1 T1).aj,L2,(cg b p L1 T1).aP⟩:aw)=cg b p L2 T1:=rfl;rw[auM,aoi hb hp h l1 T1 hx hs o1 (by omega) (a:=a++a2) (by rw[cW];omega),aan];rfl) (by
  unfold DA;simp only[dY,bC,aC,aB,oZ];rfl) (by omega)
 have D7:aG (DA (kT b) (bq b p)) (0,dY b (cg b p p.aT []) (a++[]))=_:=fD;rw[aoQ,List.append_nil]at D7;rw[show aG (DA (kT b) (bq b p)) (0,b.aA,b.ah,b.aj,b.ay,b.bn,b.a_,p.aE,p.aj,p.aT,p.aP,a)=_ from D7];rfl
end
end Rx
namespace Rx
section
variable {b:au} {p:aw} {L T:List Int} {x:bz}
structure Row(b:au)(x:bz)(o:List Int):Prop where
 nd:x.ay.Nodup
 ond:o.Nodup
 mem:∀c,c∈o↔c∈x.ay
 bd:∀c∈x.ay,0<=c∧c<(b.ay.length:Int)
def Row.at{o:List Int}(h:Row b x o){i:Nat}(hi:i<o.length):gt o i∈x.ay∧0<=gt o i∧gt o i<(b.ay.length:Int):=by have:=(h.mem _).1 (cX hi);exact⟨this,h.bd _ this⟩
end
end Rx
namespace Rx
section
variable {b:au} {p:aw} {L T:List Int} {x:bz}
def Su(h:bo b p=0):mP p (yd b p).1:=by have:=(LD h (bq b p).length (bw _)).1;rw[oZ]at this;exact this
def aoM(h:bo b p=0):bo b (GV b p)=0:=Ry h (Su h) _
def apg(hp:dA p)(h:bo b p=0):dA (GV b p):=RI hp (Su h) _
end
end Rx
namespace Rx
section
variable {b:au} {p:aw} {L T:List Int} {x:bz}
end
end Rx
namespace Rx
section
variable {b:au} {p:aw}
def afL{q:aw}(hb:q.aP=p.aP)(hs:∀j,j<p.aj.length->(gt q.aj j).State=(gt p.aj j).State){x:cL}(hx:x.Kind=2->0<=x.B∧x.B<p.aj.length):jl q x=jl p x:=by
 unfold jl di;rw[hb];by_cases h2:x.Kind=2
 ·have:=hx h2;rw[hs x.B.toNat (by omega)]
 ·by_cases h1:x.Kind=1
  ·rw[aI h1,aI h1]
  ·rw[aK h1,aK h2,aK h1,aK h2]
def af4(h:bo b p=0){i:Nat}(hi:i<b.ah.length):gt (lM b p).aE i=(gt p.aE i&& !jl p (gt b.ah i)&& !dead b (jF b p) (gt b.ah i)):=by obtain⟨s1,_⟩:=lN h;show gt (ic (ic p.aE _) _) i=_;rw[ql (by rw[kn];omega),ql (by omega)]
def aa9(h:bo b p=0):mN b (jF b p) (lM b p):=(apT h).trans (apS (KC h))
def xY(h:bo b p=0):bo b (lM b p)=0:=aaD (KC h)
def aaS(hp:dA p):dA (lM b p):=aaR (aaT hp)
def aqi{x1:aw}{x:bz}{out:List bu}{i:Nat}(fO:Sm x.aj)(hi:idx x.aj 0=aa (i:Int))(eb:i<x1.aj.length)(h:∀k∈x.aj,0<=k∧k<out.length):
  aG (BM x1 x) ((0:Int),out)=aa (kO out (gt x1.aj i) x.aj):=by
 refine dR (step:=BM x1 x) (λk=>((k:Int),kO out (gt x1.aj i) (x.aj.take k))) x.aj.length (λk hk=>?_) (by simp only[BM,bC,aC,aB,oZ])
 obtain⟨k0,k1⟩:=h _ (cX hk)
 obtain⟨j,hj⟩:=Int.eq_ofNat_of_zero_le k0
 have hj:gt x.aj k=(j:Int):=hj
 have dt:j<(kO out (gt x1.aj i) (x.aj.take k)).length:=by rw[GZ];omega
 have vI:j<((kO out (gt x1.aj i) (x.aj.take k)).set j {gt (kO out (gt x1.aj i) (x.aj.take k)) j with a_:=(gt x1.aj i).a_}).length:=by simpa using dt
 simp only[BM,aZ hk,aH,aM hk,hi,aM eb,al,hj,aM dt,jK dt,aM vI,jK vI,aY (eT fO hk),gV dt,lr hk,Sx,iQ,List.set_set]
 rfl
def aqh(hb:cI b)(hl:gy b)(D5:p.aj.length=b.aj.length){x1:aw}(rC:x1.aj=p.aj):aG (Of x1 (bq b p)) ((0:Int),p.aj)=aa (lL b p):=by
 have pM:=hl.jp;have mG:=hl.src;have lI:=Hy (b:=b) (p:=p);refine xT.1 ?_;refine dy (bq b p).length (λk s=>∃out,s=((k:Int),out)∧out.length=p.aj.length∧∀j,j<p.aj.length->gt out j=if ∃q,q<k∧(j:Int)∈(gt (bq b p) q).aj then kB b p j else gt p.aj j) ⟨_,rfl,rfl,λj hj=>by rw[aK (by rintro⟨q,hq,_⟩;omega)]⟩ ?_ ?_
 ·rintro k s hk ⟨out,rfl,h1,h2⟩;have hx:=cX hk;have yJ:∀s∈(gt (bq b p) k).aj,0<=s∧s<(p.aj.length:Int):=λs hs=>by obtain⟨j,rfl,h,_⟩:=AN hx hs;omega
  unfold Of;simp only[aZ hk,aH,aM hk,al];have pG:∀j:Nat,(∃q,q<k+1∧(j:Int)∈(gt (bq b p) q).aj)↔(∃q,q<k∧(j:Int)∈(gt (bq b p) q).aj)∨(j:Int)∈(gt (bq b p) k).aj:=λj=>by
   constructor
   ·rintro⟨q,hq,h⟩;by_cases UC:q=k
    ·subst UC;exact .inr h
    ·exact .inl ⟨q,by omega,h⟩
   ·rintro(⟨q,hq,h⟩|h)
    ·exact⟨q,by omega,h⟩
    ·exact⟨k,by omega,h⟩
  by_cases h0:(gt (bq b p) k).aj.length=0
  ·have e2:(gt (bq b p) k).aj=[]:=List.length_eq_zero_iff.1 h0;have e3:aG (BM x1 (gt (bq b p) k)) ((0:Int),out)=aa out:=oD (.done (by simp[BM,e2,len])) (by omega);rw[e3];simp only[al];refine aq.2 ⟨out,by rw[aY (by omega)],h1,λj hj=>?_⟩;rw[h2 j hj];have hi:(∃q,q<k+1∧(j:Int)∈(gt (bq b p) q).aj)↔(∃q,q<k∧(j:Int)∈(gt (bq b p) q).aj):=by rw[pG,e2];simp
   by_cases hh:∃q,q<k∧(j:Int)∈(gt (bq b p) q).aj
   ·rw[aI hh,aI (hi.2 hh)]
   ·rw[aK hh,aK (λh=>hh (hi.1 h))]
  ·have hlen:0<(gt (bq b p) k).aj.length:=by omega
   obtain⟨i,f1,f2,f3,f4⟩:=AN hx (cX hlen);have e0:idx (gt (bq b p) k).aj 0=aa (i:Int):=by have:=aM hlen;rw[f1]at this;exact this
   have fO:Sm (gt (bq b p) k).aj:=by obtain⟨f,_,e,_⟩:=AB.1 hx;rw[e];have:=(DZ (b:=b) (p:=p) f).2.1;unfold Sm;omega
   rw[aqi fO e0 (by rw[rC];omega) (λs hs=>by have:=yJ s hs;omega),rC];simp only[al];refine aq.2 ⟨_,by rw[aY (by omega)],by rw[GZ];exact h1,λj hj=>?_⟩;rw[Sy _ _ _ _ (λs hs=>by have:=yJ s hs;omega),h2 j hj];by_cases uf:(j:Int)∈(gt (bq b p) k).aj
   ·rw[aI uf,aI ((pG j).2 (.inr uf))];obtain⟨j',g1,g2,g3,g4⟩:=AN hx uf;have:j'=j:=by omega
    subst this;have H3:lD b p j'=i:=by unfold lD;rw[<-g4,f1,iQ]
    have hf:kB b p j'=wT (gt p.aj j') (gt p.aj i):=by unfold kB;rw[aI g3,H3]
    rw[hf];split<;>rfl
   ·rw[aK uf];by_cases hh:∃q,q<k∧(j:Int)∈(gt (bq b p) q).aj
    ·rw[aI hh,aI ((pG j).2 (.inl hh))]
    ·rw[aK hh,aK (λh=>((pG j).1 h).elim hh uf)]
 ·rintro s ⟨out,rfl,h1,h2⟩;unfold Of;simp only[bC,aC,aB];refine aq.2 ?_;apply jZ
  ·rw[vQ,h1]
  ·intro j hj;rw[h2 j (by omega),y5 (by omega)];by_cases hc:(conn b p (j:Int)).2=ab
   ·obtain⟨g1,g2⟩:=RF hb (show j<b.aj.length by omega) hc;obtain⟨q,hq,e⟩:=lC g1;rw[aI ⟨q,hq,by rw[e];exact g2⟩]
   ·have hf:kB b p j=gt p.aj j:=by unfold kB;rw[aK hc]
    rw[hf];split<;>rfl
def aqk(h:dA p):Oq p=aa (p.aE,p.aj,p.aT,p.aP):=by obtain⟨h1,h2,h3,h4⟩:=h;unfold Sm at*;unfold Oq;rw[cJ (by simp;omega),cJ (by simp;omega),cJ (by simp;omega),cJ (by simp;omega)];rfl
def aqg(hb:fw b)(hp:dA p)(h:bo b p=0):Og b p=aa (0,p.aE,lL b p,p.aT,p.aP):=by
 obtain⟨⟨hl,hg⟩,⟨s1,s2,s3⟩,_⟩:=fi.1 h;unfold Og Wk;have e:(bo b p !=0)=ae:=by rw[h];rfl
 simp only[Hb hb hp,al,e,aC,aB,aqk hp,aqf hb hp h,aqh hg.1 hl s2 (x1:=p) rfl]
end
end Rx
namespace Rx
section
variable {b:au} {p:aw} {L T:List Int} {x:bz}
end
end Rx
namespace Rx
section
variable {b:au} {p q:aw} {L T:List Int} {x:bz}
structure Clean(b:au)(p:aw):Prop where
 jl:∀i,i<b.ah.length->gt p.aE i=ab->jl p (gt b.ah i)=ae
 dead:∀i,i<b.ah.length->gt p.aE i=ab->dead b p (gt b.ah i)=ae
 kB:lL b p=p.aj
def azw(h:bo b p=0):Clean b (lM b p):=by
 obtain⟨s1,s2,_⟩:=lN h;refine⟨λi hi hc=>?_,λi hi hc=>?_,afh (KC h)⟩
 ·rw[af4 h hi]at hc;rw[afL (q:=lM b p) (p:=p) rfl (λj hj=>(aa9 h).st j hj) (RG h hi)];cases Vp:Rx.jl p (gt b.ah i)with
  |false=>rfl
  |true=>rw[Vp]at hc;simp at hc
 ·rw[af4 h hi]at hc;unfold Rx.dead at hc⊢;rw[(aa9 h).sI (RA h) (xY h)];cases Vp:((gt b.ah i).Kind==3&& !sI b (jF b p) (gt b.ah i).A)with
  |false=>rfl
  |true=>rw[Vp]at hc;simp at hc
def axx(hS:mN b p q)(hs:q.aj=p.aj):lL b q=lL b p:=by unfold lL;rw[hs];refine List.map_congr_left λj _=>?_;unfold Rx.kB lD eP;rw[hS.conn,hS.cB,(hS.RE _).1,hs]
def azv(h:bo b p=0)(hC:Clean b p)(hL:mP p L)(T:List Int):Clean b (cg b p L T):=by
 have hS:=SF h L T;refine⟨λi hi hc=>?_,λi hi hc=>?_,?_⟩
 ·rw[afL (q:=cg b p L T) (p:=p) rfl (λ_ _=>rfl) (RG h hi)];exact hC.jl i hi (Hk hc)
 ·have:=hC.dead i hi (Hk hc);unfold Rx.dead at this⊢;rw[hS.sI h (Ry h hL T)];exact this
 ·rw[axx hS rfl];exact hC.kB
def lY(b:au)(p:aw):aw:=GV b (lM b p)
def yq(b:au)(p:aw):List Act:=xw b p++(yd b (lM b p)).2.2
def af5(h:bo b p=0):(xw b p).length<=48:=by obtain⟨s1,_,s3,_⟩:=lN h;have h1:=BF p.aE λi=>Rx.jl p (gt b.ah i);have h2:=BF (jF b p).aE λi=>Rx.dead b (jF b p) (gt b.ah i);have h3:(jF b p).aE.length=p.aE.length:=kn _ _;unfold xw;simp only[cW,pZ];omega
def aoN(h:bo b p=0):bo b (lY b p)=0:=aoM (xY h)
def aph(hp:dA p)(h:bo b p=0):dA (lY b p):=apg (aaS hp) (xY h)
def aq6(hb:fw b)(hp:dA p)(h:bo b p=0):Ly b p=aa (0,(lY b p).aE,(lY b p).aj,(lY b p).aT,(lY b p).aP,yq b p):=by unfold Ly Sj So;rw[xZ hb hp,h];simp only[al,kG,aC,aB,E3 hp];rw[show(⟨b,⟨p.aE,p.aj,p.aT,p.aP⟩,[]⟩:fM)=⟨b,p,[]⟩from rfl,azr hb hp h];simp only[al];have e:=apH hb (aaS (b:=b) hp) (xY h) (a:=xw b p) (by have:=af5 h;omega);rw[show(⟨⟨b.aA,b.ah,b.aj,b.ay,b.bn,b.a_⟩,⟨(lM b p).aE,(lM b p).aj,(lM b p).aT,(lM b p).aP⟩,xw b p⟩:fM)=⟨b,lM b p,xw b p⟩from rfl,e];rfl
end
end Rx
namespace Rx
section
variable {b:au} {p q:aw} {L T:List Int} {x:bz}
def ayJ{a b:List bu}(ha:Sm a):KU a b=aa (dB (a=b)):=by
 unfold KU;by_cases hl:a.length=b.length
 ·have e1:(len a !=len b)=ae:=by simp[len,hl]
  have h:=MU (step:=Df a b) (λk=>(k:Int)) a.length (λk=>gt a k≠gt b k) (r:= .inr ae) (e:= .inl ())
   (λk hk hp=>by have e2:=(abg (gt a k) (gt b k)).2 (si.1 hp);simp only[Df,aZ hk,aH,aM hk,aM (show k<b.length by omega),al,e2,dP,aC,aB,aY (eT ha hk)])
   (λk hk hp=>by
     have e2:((gt a k).State==(gt b k).State&&((gt a k).gX==(gt b k).gX&&((gt a k).a_==(gt b k).a_&&(gt a k).bn==(gt b k).bn)))=ae:=by
      cases hh:((gt a k).State==(gt b k).State&&((gt a k).gX==(gt b k).gX&&((gt a k).a_==(gt b k).a_&&(gt a k).bn==(gt b k).bn)))with
      |false=>rfl
      |true=>exact(hp ((abg _ _).1 hh)).elim
     simp only[Df,aZ hk,aH,aM hk,aM (show k<b.length by omega),al,e2,lj])
   (by simp only[Df,bC,aC,aB])
  have h':aG (Df a b) 0=_:=h;simp only[e1,aC,aB,h',al];by_cases he:a=b
  ·subst he;rw[fH (p:=∃k,k<a.length∧gt a k≠gt a k) (by simp),fG rfl];rfl
  ·have:∃k,k<a.length∧gt a k≠gt b k:=by
    apply gD;intro hn;exact he (jZ hl λk hk=>gD λh=>hn ⟨k,hk,h⟩)
   rw[fG this,fH he];rfl
 ·have e1:(len a !=len b)=ab:=by simp[len];omega
  have he:a≠b:=λe=>hl (e▸rfl);rw[fH he];simp only[e1,aH]
def ayK{a b:List Part}(ha:Sm a):KV a b=aa (dB (a=b)):=by
 unfold KV;by_cases hl:a.length=b.length
 ·have e1:(len a !=len b)=ae:=by simp[len,hl]
  have h:=MU (step:=Dg a b) (λk=>(k:Int)) a.length (λk=>gt a k≠gt b k) (r:= .inr ae) (e:= .inl ())
   (λk hk hp=>by have e2:=(abZ (gt a k) (gt b k)).2 (si.1 hp);simp only[Dg,aZ hk,aH,aM hk,aM (show k<b.length by omega),al,e2,dP,aC,aB,aY (eT ha hk)])
   (λk hk hp=>by
     have e2:((gt a k).Kind==(gt b k).Kind&&(gt a k).Number==(gt b k).Number)=ae:=by
      cases hh:((gt a k).Kind==(gt b k).Kind&&(gt a k).Number==(gt b k).Number)with
      |false=>rfl
      |true=>exact(hp ((abZ _ _).1 hh)).elim
     simp only[Dg,aZ hk,aH,aM hk,aM (show k<b.length by omega),al,e2,lj])
   (by simp only[Dg,bC,aC,aB])
  have h':aG (Dg a b) 0=_:=h;simp only[e1,aC,aB,h',al];by_cases he:a=b
  ·subst he;rw[fH (p:=∃k,k<a.length∧gt a k≠gt a k) (by simp),fG rfl];rfl
  ·have:∃k,k<a.length∧gt a k≠gt b k:=by
    apply gD;intro hn;exact he (jZ hl λk hk=>gD λh=>hn ⟨k,hk,h⟩)
   rw[fG this,fH he];rfl
 ·have e1:(len a !=len b)=ab:=by simp[len];omega
  have he:a≠b:=λe=>hl (e▸rfl);rw[fH he];simp only[e1,aH]
end
end Rx
namespace Rx
section
variable {b:au} {p q:aw}
def akA(b:au)(p:aw)(c:Int):Bool:=(vS b p c).2&&(sI b p (vS b p c).1&&(!di p 4 c&& !ak (gt p.aT c.toNat<(gt b.ay c.toNat).fa)))
def C4(b:au)(p:aw):Nat->Int->Bool
 |0,_=>ae
 |n+1,c=>akA b p c&&(gt b.ay c.toNat).ci.all (C4 b p n)
def ar0(hg:q7 b){c:Int}(hc:0<=c∧c<(b.ay.length:Int)):(gt b.ay c.toNat).ci.length<=4∧∀d∈(gt b.ay c.toNat).ci,0<=d∧d<c:=by have h:=hg.2.2.2.2 c.toNat (by omega);refine⟨h.2.2.2.2.2,λd hd=>?_⟩;obtain⟨i,hi,rfl⟩:=lC hd;have:=(h.1 i hi).1;omega
def ayq{P:Int->Bool}{l:List Int}:l.all P=match(bW l.length).find? (λk=> !P (gt l k))with
  |some _=>ae
  |none=>ab:=by
 cases hf:(bW l.length).find? (λk=> !P (gt l k))with
 |some k=>
  have hk:=ew.1 (List.mem_of_find?_eq_some hf)
  have hp:=List.find?_some hf
  refine List.all_eq_false.2 ⟨_,cX hk,?_⟩
  simpa using hp
 |none=>
  refine List.all_eq_true.2 λc hc=>?_
  obtain⟨k,hk,rfl⟩:=lC hc
  have:=sh.1 hf k (ew.2 hk)
  simpa using this
def aa3(hb:fw b)(hp:dA p)(h:bo b p=0):∀(n:Nat) (c:Int),0<=c->c<(b.ay.length:Int)->c<(n:Int)->wJ n b p c=aa (C4 b p n c)
 |0,c,h0,h1,h2=>by omega
 |n+1,c,h0,h1,h2=>by
  obtain⟨⟨hl,hg⟩,⟨s1,s2,s3⟩,_⟩:=fi.1 h;obtain⟨n1,n2⟩:=ar0 hg ⟨h0,h1⟩;have ih:=aa3 hb hp h n;show Sn (wJ n) b p c=_;unfold Sn C4 akA;rw[ayu hb hp];simp only[al];cases hf:(vS b p c).2 with
  |false=>simp only[lj,aH,al,Bool.false_and]
  |true=>
   simp only[dP,aC,aB,acO hb hp,al,Cl];cases hv:sI b p (vS b p c).1 with
   |false=>simp only[lj,aH,al,Bool.false_and]
   |true=>
    simp only[dP,aC,aB,akv hp,al,Cl];cases hk:di p 4 c with
    |true=>simp only[aH,al,dP,Bool.false_and]
    |false=>
     simp only[aC,aB,lj,Cl];rw[iI (l:=p.aT) h0 (by omega),iI (l:=b.ay) h0 h1];simp only[al];cases hle:ak (gt p.aT c.toNat<(gt b.ay c.toNat).fa)with
     |true=>simp only[aH,dP,Bool.false_and]
     |false=>
      simp only[aC,aB,lj,Cl];generalize (gt b.ay c.toNat).ci=l at n1 n2⊢;unfold R_ RR;have ni:=vw (step:=C_ (wJ n) l b p) (λk=>(k:Int)) l.length (λk=> !C4 b p n (gt l k)) (R:=λk=> .inr (k:Int)) (e:= .inl ()) (λk hk hp=>by
       have hd:=n2 _ (cX hk);unfold C_ Lw;simp only[aZ hk,aH,aM hk,al,ih (gt l k) hd.1 (by omega) (by omega),hp,aC,aB];rw[aY (by omega)]) (λk hk hp=>by
       have hd:=n2 _ (cX hk);unfold C_ Lw;simp only[aZ hk,aH,aM hk,al,ih (gt l k) hd.1 (by omega) (by omega),hp]) (by
       unfold C_;simp only[bC,aC,aB]) (by omega)
      have ava:aG (C_ (wJ n) l b p) 0=_:=ni;rw[ava,ayq];cases(bW l.length).find? (λk=> !C4 b p n (gt l k))with
      |none=>rfl
      |some k=>simp only[al,Sum.elim_inr];rw[dT (by omega)];rfl
def apO(hb:fw b)(hp:dA p)(h:bo b p=0){c:Int}(hc:0<=c∧c<(b.ay.length:Int)):aaZ b p c=aa (C4 b p 64 c):=by have qH:=(fi.1 h).1.1.iY;exact aa3 hb hp h 64 c hc.1 hc.2 (by omega)
