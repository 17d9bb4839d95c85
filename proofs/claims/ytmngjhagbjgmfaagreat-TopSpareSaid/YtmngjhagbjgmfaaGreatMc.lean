import Derived.Test.YtmngjhagbjgmfaaGreatMb
set_option linter.all false
open Bool renaming false->ai,false_eq_true->aE,not_false->lP,not_true->ei,true->ab,true_and->B8
open Classical renaming byContradiction->gC,not_not->r_
open Decidable renaming decide->al
open Int renaming toNat_natCast->iH
open List renaming find?_eq_none->tu,length_append->cW,length_cons->jR,length_map->q8,length_take->oX,mem_range->eu,range->bW,take_length->oU
open Nat renaming le_refl->bx
open Option renaming bind_some->aq,some->aa
noncomputable section
namespace Go.Proofs.YtmngjhagbjgmfaaGreat
open Go Go.RowKit Dp
namespace Rx
section
variable {b:aw} {p:ax} {L T:List Int}
def rc(b:aw)(T:List Int)(i:Nat):Bool:=(gt b.ae i).Kind==3&&al ((gt b.ae i).B∈T)
def b_(b:aw)(p:ax)(L T:List Int):ax:=⟨gR p.aG (rc b T),p.aj,L,p.aS⟩
structure mL(p:ax)(L:List Int):Prop where
 len:L.length=p.aX.length
 le:∀k,k<L.length->0<=gt L k∧gt L k<=gt p.aX k
def arz(h:bj b p=0):mL p p.aX:=⟨rfl,λk hk=>by obtain⟨_,_,_,_,_,h6⟩:=lI h;have:=Mj h (k:=k) (by omega);omega⟩
def S1(h:bj b p=0){k:Nat}(hk:k<b.az.length):0<=(gt b.az k).eX∧(gt b.az k).eX<=50000:=by obtain⟨⟨hl,hg⟩,_⟩:=fh.1 h;have h1:=(hg.2.2.2.2 k hk).2;omega
def QL(h:bj b p=0)(hL:mL p L)(T:List Int):bj b (b_ b p L T)=0:=by
 have hx:bj b {p with aG:=gR p.aG (rc b T)}=0:=QM h (kj _ _) rfl rfl rfl λk hk=>GR hk;obtain⟨h1,⟨s1,s2,s3⟩,⟨g1,g2⟩,g3,g4⟩:=fh.1 hx;refine fh.2 ⟨h1,⟨s1,s2,by show L.length=_;rw[hL.len];exact s3⟩,⟨g1,g2⟩,g3,λk hk=>?_⟩;have cV:k<p.aX.length:=by rw[<-hL.len];exact hk
 obtain⟨a,c⟩:=g4 k cV;have h2:=hL.le k hk;refine⟨⟨h2.1,Int.le_trans h2.2 a.2⟩,?_⟩;refine Nat.le_trans (afc (b:=b) (p:={p with aG:=gR p.aG (rc b T)}) (q:=b_ b p L T) (λj hj=>hj) b.ae.length) c
def QV(hp:dt p)(hL:mL p L)(T:List Int):dt (b_ b p L T):=by
 obtain⟨h1,h2,h3,h4⟩:=hp;refine⟨?_,h2,?_,h4⟩
 ·show Sm (gR p.aG _);unfold Sm at h1⊢;rw[kj];exact h1
 ·show Sm L;unfold Sm at h3⊢;rw[hL.len];exact h3
def RN(h:bj b p=0)(L T:List Int):mK b p (b_ b p L T):=by obtain⟨s1,_⟩:=lI h;refine⟨rfl,λ_ _=>rfl,λk hk h3=>?_⟩;show gt (gR p.aG _) k=_;rw[qe (by omega)];unfold rc;rw[dI h3];simp
def aqf(C:List Bool)(P Q:Nat->Bool):gR (gR C P) Q=gR C λi=>P i||Q i:=by refine jZ (by simp[kj]) λi hi=>?_;rw[kj,kj]at hi;rw[qe (by rw[kj];exact hi),qe hi,qe hi];cases gt C i<;>cases P i<;>rfl
def aqi{C:List Bool}{P Q:Nat->Bool}(h:∀i,i<C.length->P i=Q i):gR C P=gR C Q:=by refine jZ (by simp[kj]) λi hi=>?_;rw[kj]at hi;rw[qe hi,qe hi,h i hi]
def aqg(C:List Bool){P:Nat->Bool}(h:∀i,P i=ai):gR C P=C:=by refine jZ (by simp[kj]) λi hi=>?_;rw[kj]at hi;rw[qe hi,h i];simp
def anG(p:ax):b_ b p p.aX []=p:=by unfold b_;rw[aqg p.aG λi=>by unfold rc;simp]
def am4(T:List Int)(c:Int)(i:Nat):rc b (T++[c]) i=(rc b T i||((gt b.ae i).Kind==3&&(gt b.ae i).B==c)):=by
 unfold rc;cases(gt b.ae i).Kind==3 with
 |false=>rfl
 |true=>simp only[B8,List.mem_append,List.mem_singleton,Bool.decide_or];rw[show al ((gt b.ae i).B=c)=((gt b.ae i).B==c)from rfl]
def arJ(h:bj b p=0)(L:List Int){T:List Int}{c:Int}(hc:c∉T):gj b (b_ b p L T) 3 c=gj b p 3 c:=by obtain⟨s1,_⟩:=lI h;refine abX λk hk h3 hB=>?_;show gt (gR p.aG _) k=_;rw[qe (by omega)];unfold rc;rw[hB,Jq hc];simp
def arI(h:bj b p=0)(L:List Int){T:List Int}{c:Int}(hc:c∈T):(gj b (b_ b p L T) 3 c).2=ai:=by
 obtain⟨s1,_⟩:=lI h;unfold gj;have:(bW b.ae.length).find? (mW b (b_ b p L T) 3 c)=none:=by rw[tu];intro k hk he;have hk:=eu.1 hk;unfold mW at he;simp only[Bool.and_eq_true,xw]at he;obtain⟨⟨h3,hB⟩,c_⟩:=he;have c_:gt (gR p.aG (rc b T)) k=ab:=c_;rw[qe (by omega)]at c_;unfold rc at c_;rw[h3,hB,v9 hc]at c_;simp at c_
 rw[this]
def apO(P:Nat->Bool)(Q:Int->Bool)(n:Nat):(bD P n).filter Q=bD (λi=>P i&&Q (i:Int)) n:=by unfold bD;rw[List.filter_map,List.filter_filter];cR 1;refine List.filter_congr λi _=>?_;simp[Bool.and_comm]
def left(T l:List Int):List Int:=l.filter λc=> !al (c∈T)
def ar5(h:bj b p=0)(L T:List Int)(f:Nat):dY b (b_ b p L T) f=⟨(dY b p f).aB,(dY b p f).aj,left T (dY b p f).az⟩:=by
 have hS:=RN h L T;obtain⟨e1,e2⟩:=hS.QR f;have e3:(dY b (b_ b p L T) f).az=left T (dY b p f).az:=by
  show bD (h_ b (b_ b p L T) f) _=left T (bD (h_ b p f) _);unfold left;rw[apO];cR 1;rY j;unfold h_;rw[hS.cr];by_cases hc:(j:Int)∈T
  ·rw[arI h L hc,v9 hc];simp
  ·rw[arJ h L hc,Jq hc];simp
 rw[<-e1,<-e2,<-e3]
def aqp(h:bj b p=0)(hL:mL p L)(T:List Int)(k:Int):(fQ b (b_ b p L T) k).1=⟨(fQ b p k).1.aB,(fQ b p k).1.aj,left T (fQ b p k).1.az⟩:=by
 unfold fQ;by_cases c:0<=k∧k<b.aB
 ·rw[aH ⟨QL h hL T,c⟩,aH ⟨h,c⟩];try simp only
  unfold eL;rw[(RN h L T).cr];exact ar5 h L T _
 ·rw[aL λx=>c x.2,aL λx=>c x.2];rfl
def vO(b:aw)(x:bu)(T L:List Int):Int:=imax 0 (nB (gt L) (left T x.az)-xW b x)
def arF{T l:List Int}{c:Int}(h:c∈left T l):c∈l∧c∉T:=by unfold left at h;rw[List.mem_filter]at h;exact⟨h.1,by simpa using h.2⟩
def arG(T l:List Int):(left T l).length<=l.length:=List.length_filter_le _ _
def SV(h:bj b p=0)(hL:mL p L){k:Nat}(hk:k<b.az.length):0<=gt L k∧gt L k<=50000:=by obtain⟨_,_,_,_,_,h6⟩:=lI h;have h1:=hL.le k (by rw[hL.len];omega);have h2:=Mj h hk;omega
def apM(h:bj b p=0){x:bu}(hx:x∈bl b p):0<=xW b x∧xW b x<=400000:=by
 obtain⟨⟨hl,hg⟩,_⟩:=fh.1 h;obtain⟨h1,h2,h3,h4,_⟩:=G4 hg.1 hx;have h8:=hl.src;have:=JX (f:=λk=>(gt b.aj k).ik) (l:=x.aj) (B:=50000) (λc hc=>by have:=h2 c hc;have:=R4 h (k:=c.toNat) (by omega);exact⟨by omega,this.2⟩)
 unfold xW;omega
def anx(h:bj b p=0)(hL:mL p L){x:bu}(hx:x∈bl b p)(T:List Int):0<=nB (gt L) (left T x.az)∧nB (gt L) (left T x.az)<=800000:=by
 obtain⟨⟨hl,hg⟩,_⟩:=fh.1 h;obtain⟨h1,h2,h3,h4,_⟩:=G4 hg.1 hx;have h8:=hl.iO;have h9:=arG T x.az;have:=JX (f:=gt L) (l:=left T x.az) (B:=50000) (λc hc=>by have:=h1 c (arF hc).1;exact SV h hL (by omega))
 omega
def aeG(hb:fu b)(hp:dt p)(h:bj b p=0)(hL:mL p L)(T:List Int){x:bu}(hx:x∈bl b p)(hs:x.aj≠[])(a:List Act):GF ⟨b,b_ b p L T,a⟩ (gt x.aB 0)=aa (vO b x T L):=by
 unfold GF;simp only[aro hb (QV (b:=b) hp hL T),apL hb (QV (b:=b) hp hL T),aq];rw[aqp h hL T,ar9 h hx];have h1:=anx h hL hx T;have h2:=apM h hx;have e1:Mi (b_ b p L T) ⟨x.aB,x.aj,left T x.az⟩=nB (gt L) (left T x.az):=by unfold Mi;rw[aL hs];rfl
 have e2:xW b ⟨x.aB,x.aj,left T x.az⟩=xW b x:=rfl;rw[e1,e2,bZ (by omega) (by omega)];rfl
def sY(b:aw)(x:bu)(T L:List Int)(c:Int):Int:=eA (vO b x T L) (gt L c.toNat-(gt b.az c.toNat).eX)
def rq(b:aw)(x:bu)(T:List Int)(s:List Int×List Act)(c:Int):List Int×List Act:=
 if 0<sY b x T s.1 c then(s.1.set c.toNat (gt s.1 c.toNat-sY b x T s.1 c),s.2++[⟨5,c,gt s.1 c.toNat-sY b x T s.1 c⟩])else s
def iJ(b:aw)(x:bu)(T o:List Int)(s:List Int×List Act):List Int×List Act:=o.foldl (rq b x T) s
def ae0{x:bu}{c:Int}:sY b x T L c<=gt L c.toNat-(gt b.az c.toNat).eX∧sY b x T L c<=vO b x T L:=by unfold sY eA;split<;>omega
def are(h:bj b p=0){x:bu}{T:List Int}{s:List Int×List Act}(hL:mL p s.1){c:Int}(hc:0<=c∧c<(b.az.length:Int)):mL p (rq b x T s c).1∧(rq b x T s c).2.length<=s.2.length+1:=by
 obtain⟨_,_,_,_,_,h6⟩:=lI h;have hlen:=hL.len;unfold rq;by_cases h0:0<sY b x T s.1 c
 ·rw[aH h0];have h1:=ae0 (b:=b) (x:=x) (T:=T) (L:=s.1) (c:=c);have h2:=S1 h (k:=c.toNat) (by omega);refine⟨⟨by simp[hlen],λk hk=>?_⟩,by simp⟩;rw[List.length_set]at hk;try simp only
  rw[gH (by omega)];have h3:=hL.le k hk;by_cases e:k=c.toNat
  ·subst e;rw[aH rfl];omega
  ·rw[aL e];exact h3
 ·rw[aL h0];exact⟨hL,by omega⟩
def Mc(h:bj b p=0){x:bu}{T:List Int}:∀{o:List Int} {s:List Int×List Act},mL p s.1->(∀c∈o,0<=c∧c<(b.az.length:Int))->mL p (iJ b x T o s).1∧(iJ b x T o s).2.length<=s.2.length+o.length
 |[],s,hL,ho=>⟨hL,bx _⟩
 |c::o,s,hL,ho=>by obtain⟨h1,h2⟩:=are (T:=T) (x:=x) h hL (ho c (by simp));obtain⟨h3,h4⟩:=Mc (x:=x) (T:=T) h (o:=o) h1 (λd hd=>ho d (by simp[hd]));have e:iJ b x T (c::o) s=iJ b x T o (rq b x T s c):=rfl;rw[e];exact⟨h3,by simp only[jR];omega⟩
def arh{x:bu}{o:List Int}{c:Int}{s:List Int×List Act}:iJ b x T (o++[c]) s=rq b x T (iJ b x T o s) c:=by unfold iJ;rw[List.foldl_append];rfl
def re(b:aw)(p:ax)(x:bu)(L:List Int)(s:List Int×List Act)(c:Int):List Int×List Act:=
 if 0<gt L c.toNat∧0<vO b x s.1 L then(s.1++[c],s.2++(gy (b_ b p L s.1).aG λi=>(gt b.ae i).Kind==3&&(gt b.ae i).B==c).map qS)else s
def lj(b:aw)(p:ax)(x:bu)(L o:List Int)(s:List Int×List Act):List Int×List Act:=o.foldl (re b p x L) s
def am9{x:bu}{o:List Int}{c:Int}{s:List Int×List Act}:lj b p x L (o++[c]) s=re b p x L (lj b p x L o s) c:=by unfold lj;rw[List.foldl_append];rfl
def am7{x:bu}{s:List Int×List Act}{c:Int}(h:p.aG.length<=1000):(re b p x L s c).2.length<=s.2.length+1000:=by
 unfold re;split
 ·have:=Bm (b_ b p L s.1).aG λi=>(gt b.ae i).Kind==3&&(gt b.ae i).B==c;have e:(b_ b p L s.1).aG.length=p.aG.length:=kj _ _;simp only[cW,q8];omega
 ·omega
def QF{x:bu}(h:p.aG.length<=1000):∀{o:List Int} {s:List Int×List Act},(lj b p x L o s).2.length<=s.2.length+1000*o.length
 |[],s=>bx _
 |c::o,s=>by have h1:=am7 (b:=b) (p:=p) (L:=L) (x:=x) (s:=s) (c:=c) h;have h2:=QF (x:=x) h (o:=o) (s:=re b p x L s c);have e:lj b p x L (c::o) s=lj b p x L o (re b p x L s c):=rfl;rw[e];simp only[jR];omega
def Gr(b:aw)(p:ax)(s:List Int×List Int×List Act)(x:bu):List Int×List Int×List Act:=
 if x.aj=[]then s else
  ((iJ b x s.2.1 (qd b x) (s.1,s.2.2)).1,lj b p x (iJ b x s.2.1 (qd b x) (s.1,s.2.2)).1 (qd b x) (s.2.1,(iJ b x s.2.1 (qd b x) (s.1,s.2.2)).2))
def lX(b:aw)(p:ax)(l:List bu):List Int×List Int×List Act:=l.foldl (Gr b p) (p.aX,[],[])
def aad(l:List bu)(x:bu):lX b p (l++[x])=Gr b p (lX b p l) x:=by unfold lX;rw[List.foldl_append];rfl
def Sh(h:bj b p=0){x:bu}(hx:x∈bl b p):(∀c∈x.az,0<=c∧c<(b.az.length:Int))∧(∀c∈qd b x,0<=c∧c<(b.az.length:Int))∧(qd b x).length<=16:=by
 obtain⟨⟨hl,hg⟩,_⟩:=fh.1 h;obtain⟨h1,_⟩:=G4 hg.1 hx;have h2:∀c∈x.az,0<=c∧c<(b.az.length:Int):=λc hc=>by have:=h1 c hc;omega
 refine⟨h2,λc hc=>h2 c ((ap8 h2).1 hc),?_⟩;have:=ap9 b x;have:=hl.iO;omega
def KL(h:bj b p=0):∀k,k<=(bl b p).length->mL p (lX b p ((bl b p).take k)).1∧(lX b p ((bl b p).take k)).2.2.length<=20000*k
 |0,_=>⟨arz h,bx _⟩
 |k+1,hk=>by
  obtain⟨h1,h2⟩:=KL h k (by omega);obtain⟨s1,_,s3,_⟩:=lI h;rw[lm (by omega),aad];have hx:=dx (l:=bl b p) (k:=k) (by omega);obtain⟨_,o1,o2⟩:=Sh h hx;unfold Gr;split
  ·exact⟨h1,by omega⟩
  ·obtain⟨l1,l2⟩:=Mc (x:=gt (bl b p) k) (T:=(lX b p ((bl b p).take k)).2.1) (s:=((lX b p ((bl b p).take k)).1,(lX b p ((bl b p).take k)).2.2)) h h1 o1;refine⟨l1,?_⟩;have:=QF (b:=b) (p:=p) (L:=(iJ b (gt (bl b p) k) (lX b p ((bl b p).take k)).2.1 (qd b (gt (bl b p) k)) ((lX b p ((bl b p).take k)).1,(lX b p ((bl b p).take k)).2.2)).1) (x:=gt (bl b p) k) (by omega) (o:=qd b (gt (bl b p) k)) (s:=((lX b p ((bl b p).take k)).2.1,(iJ b (gt (bl b p) k) (lX b p ((bl b p).take k)).2.1 (qd b (gt (bl b p) k)) ((lX b p ((bl b p).take k)).1,(lX b p ((bl b p).take k)).2.2)).2));simp only at this l2⊢;omega
end
end Rx
namespace Rx
section
variable {b:aw} {p:ax} {L T:List Int}
def axR(h:bj b p=0)(hL:mL p L)(T:List Int){x:bu}(hx:x∈bl b p){c:Int}(hc:0<=c∧c<(b.az.length:Int)):eA (vO b x T L) (W (gt L c.toNat-(gt b.az c.toNat).eX))=sY b x T L c:=by have h1:=SV h hL (k:=c.toNat) (by omega);have h2:=S1 h (k:=c.toNat) (by omega);rw[bZ (by omega) (by omega)];rfl
def arc(hb:fu b)(hp:dt p)(h:bj b p=0)(hL:mL p L)(T:List Int){x:bu}(hx:x∈bl b p)(hs:x.aj≠[]){o:List Int}(ho:∀c∈o,0<=c∧c<(b.az.length:Int))(AR:o.length<=1000){a:List Act}(ha:a.length<=10000000):
  Li ⟨b,b_ b p L T,a⟩ o (gt x.aB 0)=aa (b.aB,b.ae,b.aj,b.az,b.bi,b.aZ,(b_ b p L T).aG,(b_ b p L T).aj,(iJ b x T o (L,a)).1,(b_ b p L T).aS,o,(iJ b x T o (L,a)).2):=by
 have jt:∀k,mL p (iJ b x T (o.take k) (L,a)).1∧(iJ b x T (o.take k) (L,a)).2.length<=a.length+(o.take k).length:=λk=>Mc h (s:=(L,a)) hL λc hc=>ho c (List.mem_of_mem_take hc)
 obtain⟨_,_,_,_,_,h6⟩:=lI h
 have fy:=dQ (step:=GD ⟨b,b_ b p L T,a⟩ o (gt x.aB 0)) (r:=(b.aB,b.ae,b.aj,b.az,b.bi,b.aZ,(iJ b x T o (L,a)).1,(iJ b x T o (L,a)).2)) (λk=>((k:Int),b.aB,b.ae,b.aj,b.az,b.bi,b.aZ,(iJ b x T (o.take k) (L,a)).1,(iJ b x T (o.take k) (L,a)).2)) o.length (λk hk=>by
  obtain⟨eI,qz⟩:=jt k;have hc:=ho _ (dx hk);rw[oX]at qz;rw[lm hk,arh];generalize iJ b x T (o.take k) (L,a)=s at eI qz⊢;obtain⟨L1,a1⟩:=s;simp only at eI qz⊢;have hlen:=eI.len;unfold GD;have hex:=aeG hb hp h eI T hx hs a1;have xf:(⟨b.aB,b.ae,b.aj,b.az,b.bi,b.aZ⟩:aw)=b:=rfl;have rD:(⟨(b_ b p L T).aG,(b_ b p L T).aj,L1,(b_ b p L T).aS⟩:ax)=b_ b p L1 T:=rfl;simp only[bb hk,aI,aP hk,aq,xf,rD,hex];rw[iL (l:=L1) hc.1 (by omega),iL (l:=b.az) hc.1 hc.2];simp only[aq,axR h eI T hx hc];rw[ba (by omega)];have h1:=SV h eI (k:=(gt o k).toNat) (by omega);have h2:=S1 h (k:=(gt o k).toNat) (by omega);have h3:=ae0 (b:=b) (x:=x) (T:=T) (L:=L1) (c:=gt o k);unfold rq;by_cases h0:0<sY b x T L1 (gt o k)
  ·rw[dT (c:=sY b x T L1 (gt o k)>0) h0,aH h0,bZ (by omega) (by omega),CX hc.1 (by omega)];simp only[aI,aq];rw[iL (l:=L1.set (gt o k).toNat _) hc.1 (by rw[List.length_set];omega)];simp only[aq];rw[gH (by omega),aH rfl,cK (by simp;omega)];rfl
  ·rw[dF (c:=sY b x T L1 (gt o k)>0) h0,aL h0];simp only[aE,aD,aq]) (by
  unfold GD;simp only[bJ,aE,aD,oU]) (by omega)
 unfold Li
 have DF:aJ (GD ⟨b,b_ b p L T,a⟩ o (gt x.aB 0)) (0,b.aB,b.ae,b.aj,b.az,b.bi,b.aZ,L,a)=_:=fy
 try simp only
 rw[show(b_ b p L T).aX=L from rfl,DF]
 rfl
def aqd(hl:p.aG.length<=b.ae.length)(T:List Int)(c:Int):gR (b_ b p L T).aG (λi=>(gt b.ae i).Kind==3&&(gt b.ae i).B==c)=(b_ b p L (T++[c])).aG:=by show gR (gR p.aG (rc b T)) _=gR p.aG (rc b (T++[c]));rw[aqf];exact aqi λi _=>(am4 T c i).symm
def anu(hp:dt p)(h:bj b p=0)(hL:mL p L)(T:List Int){a:List Act}(ha:a.length<=1000000)(c:Int):
  Le ⟨b,b_ b p L T,a⟩ c=aa (b.aB,b.ae,b.aj,b.az,b.bi,b.aZ,(b_ b p L (T++[c])).aG,p.aj,L,p.aS,c,a++(gy (b_ b p L T).aG λi=>(gt b.ae i).Kind==3&&(gt b.ae i).B==c).map qS):=by
 obtain⟨s1,s2,s3,_⟩:=lI h
 have c_:(b_ b p L T).aG.length=p.aG.length:=kj _ _
 unfold Le
 have e1:aJ (GB ⟨b,b_ b p L T,a⟩ c) (0,[])=aa (gy (b_ b p L T).aG λi=>(gt b.ae i).Kind==3&&(gt b.ae i).B==c):=by
  have:=dQ (step:=GB ⟨b,b_ b p L T,a⟩ c) (r:=gy (b_ b p L T).aG λi=>(gt b.ae i).Kind==3&&(gt b.ae i).B==c) (λk=>((k:Int),bD (λi=>gt (b_ b p L T).aG i&&((gt b.ae i).Kind==3&&(gt b.ae i).B==c)) k)) b.ae.length (λk hk=>by
   have l8:=om (λi=>gt (b_ b p L T).aG i&&((gt b.ae i).Kind==3&&(gt b.ae i).B==c)) k;unfold GB Rs;simp only[bb hk,aI,aP hk,aq,aP (l:=(b_ b p L T).aG) (k:=k) (by omega)];rw[ba (by omega),pi];generalize bD (λi=>gt (b_ b p L T).aG i&&((gt b.ae i).Kind==3&&(gt b.ae i).B==c)) k=R at l8⊢;cases gt (b_ b p L T).aG k with
   |false=>simp
   |true=>
    cases(gt b.ae k).Kind==3 with
    |false=>simp
    |true=>
     cases(gt b.ae k).B==c with
     |false=>simp
     |true=>simp only[aI,aq,Bool.and_self];rw[cK (by simp;omega)];rfl) (by
   unfold GB;simp only[bJ,aE,aD];unfold gy;rw[c_,s1]) (by omega)
  simpa[bD]using this
 rw[e1]
 have eJ:=Bm (b_ b p L T).aG λi=>(gt b.ae i).Kind==3&&(gt b.ae i).B==c
 have e2:=Sk (b:=b) (p:=b_ b p L T) (a:=a) (l:=gy (b_ b p L T).aG λi=>(gt b.ae i).Kind==3&&(gt b.ae i).B==c) (by omega) (by omega) (by omega) Bl
 rw[U9,aqd (by omega)]at e2
 simp only[aq]
 rw[show aJ (aaH (gy (b_ b p L T).aG λi=>(gt b.ae i).Kind==3&&(gt b.ae i).B==c)) (0,b.aB,b.ae,b.aj,b.az,b.bi,b.aZ,(b_ b p L T).aG,(b_ b p L T).aj,(b_ b p L T).aX,(b_ b p L T).aS,a)=_ from e2]
 rfl
def am5(hb:fu b)(hp:dt p)(h:bj b p=0)(hL:mL p L)(T:List Int){x:bu}(hx:x∈bl b p)(hs:x.aj≠[]){o:List Int}(ho:∀c∈o,0<=c∧c<(b.az.length:Int))(AR:o.length<=100){a:List Act}(ha:a.length<=500000):
  La ⟨b,b_ b p L T,a⟩ o (gt x.aB 0)=aa (b.aB,b.ae,b.aj,b.az,b.bi,b.aZ,(b_ b p L (lj b p x L o (T,a)).1).aG,p.aj,L,p.aS,o,(lj b p x L o (T,a)).2):=by
 obtain⟨s1,_,s3,_,_,h6⟩:=lI h
 have hlen:=hL.len
 have jt:∀k,(lj b p x L (o.take k) (T,a)).2.length<=a.length+1000*(o.take k).length:=λk=>QF (by omega)
 have fy:=dQ (step:=Gz o (gt x.aB 0)) (r:=dX b (b_ b p L (lj b p x L o (T,a)).1) (lj b p x L o (T,a)).2) (λk=>((k:Int),dX b (b_ b p L (lj b p x L (o.take k) (T,a)).1) (lj b p x L (o.take k) (T,a)).2)) o.length (λk hk=>by
  have qz:=jt k;have hc:=ho _ (dx hk);rw[oX]at qz;rw[lm hk,am9];generalize lj b p x L (o.take k) (T,a)=s at qz⊢;obtain⟨T1,a1⟩:=s;simp only at qz⊢;have hex:=aeG hb hp h hL T1 hx hs a1;have xf:(⟨b.aB,b.ae,b.aj,b.az,b.bi,b.aZ⟩:aw)=b:=rfl;have rD:(⟨(b_ b p L T1).aG,(b_ b p L T1).aj,(b_ b p L T1).aX,(b_ b p L T1).aS⟩:ax)=b_ b p L T1:=rfl;unfold Gz;simp only[dX,bb hk,aI,aP hk,aq,xf,rD,hex];rw[iL (l:=(b_ b p L T1).aX) hc.1 (by show _<(L.length:Int);omega)];simp only[aq];rw[ba (by omega)];have hT:re b p x L (T1,a1) (gt o k)=if 0<gt L (gt o k).toNat∧0<vO b x T1 L then(T1++[gt o k],a1++(gy (b_ b p L T1).aG λi=>(gt b.ae i).Kind==3&&(gt b.ae i).B==gt o k).map qS)else(T1,a1):=rfl
  by_cases h1:0<gt L (gt o k).toNat
  ·rw[dT (c:=gt (b_ b p L T1).aX (gt o k).toNat>0) h1];by_cases h2:0<vO b x T1 L
   ·rw[aH ⟨h1,h2⟩]at hT;rw[hT,dT (c:=vO b x T1 L>0) h2];simp only[aI,aq,anu hp h hL T1 (a:=a1) (by omega) (gt o k)];rfl
   ·rw[aL λc=>h2 c.2]at hT;rw[hT,dF (c:=vO b x T1 L>0) h2];simp only[aI,aE,aD,aq]
  ·rw[aL λc=>h1 c.1]at hT;rw[hT,dF (c:=gt (b_ b p L T1).aX (gt o k).toNat>0) h1];simp only[aE,aD,aq]) (by
  unfold Gz;simp only[dX,bJ,aE,aD,oU]) (by omega)
 unfold La
 have DF:aJ (Gz o (gt x.aB 0)) (0,b.aB,b.ae,b.aj,b.az,b.bi,b.aZ,(b_ b p L T).aG,(b_ b p L T).aj,(b_ b p L T).aX,(b_ b p L T).aS,a)=_:=fy
 try simp only
 rw[DF]
 rfl
def arf{a0 a:List Act}{x:bu}{c:Int}:rq b x T (L,a0++a) c=((rq b x T (L,a) c).1,a0++(rq b x T (L,a) c).2):=by
 unfold rq;by_cases h:0<sY b x T L c
 ·rw[aH h,aH h];simp
 ·rw[aL h,aL h]
def abN{a0:List Act}{x:bu}:∀{o:List Int} {L:List Int} {a:List Act},iJ b x T o (L,a0++a)=((iJ b x T o (L,a)).1,a0++(iJ b x T o (L,a)).2)
 |[],L,a=>rfl
 |c::o,L,a=>by have e:∀s,iJ b x T (c::o) s=iJ b x T o (rq b x T s c):=λ_=>rfl;rw[e,e,arf,abN]
def am8{a0 a:List Act}{x:bu}{c:Int}:re b p x L (T,a0++a) c=((re b p x L (T,a) c).1,a0++(re b p x L (T,a) c).2):=by
 unfold re;by_cases h:0<gt L c.toNat∧0<vO b x T L
 ·rw[aH h,aH h];simp
 ·rw[aL h,aL h]
def Zw{a0:List Act}{x:bu}:∀{o:List Int} {T:List Int} {a:List Act},lj b p x L o (T,a0++a)=((lj b p x L o (T,a)).1,a0++(lj b p x L o (T,a)).2)
 |[],T,a=>rfl
 |c::o,T,a=>by have e:∀s,lj b p x L (c::o) s=lj b p x L o (re b p x L s c):=λ_=>rfl;rw[e,e,am8,Zw]
def asx{l:List Int}(h:l.length<=1000000):uY l=aa l:=by unfold uY;rw[cK (by simp;omega)];simp
def xO(b:aw)(p:ax):List Int×List Int×List Act:=lX b p (bl b p)
def Gn(b:aw)(p:ax):ax:=b_ b p (xO b p).1 (xO b p).2.1
def aov(hb:fu b)(hp:dt p)(h:bj b p=0){a:List Act}(ha:a.length<=1000):Lh ⟨b,p,a⟩=aa (dX b (Gn b p) (a++(xO b p).2.2)):=by
 obtain⟨⟨hl,hg⟩,_⟩:=fh.1 h;have UG:nj b=0:=BB.2 ⟨hl,hg⟩;have lD:=G5 (b:=b) (p:=p);have pF:=hl.jg;have qA:=hl.iO;have AR:(kR b).length<=16:=by rw[abe];exact qA
 unfold Lh;simp only[ap' hb UG,S_ hb hp h,aq];have fy:=dQ (step:=C8 (kR b) (bl b p)) (r:=dX b (Gn b p) (a++(xO b p).2.2)) (λk=>((k:Int),dX b (b_ b p (lX b p ((bl b p).take k)).1 (lX b p ((bl b p).take k)).2.1) (a++(lX b p ((bl b p).take k)).2.2))) (bl b p).length (λk hk=>by
  obtain⟨eI,qz⟩:=KL h k (by omega);have hx:=dx hk;obtain⟨p1,p2,p3,p4,p5⟩:=G4 hg.1 hx;obtain⟨_,o1,o2⟩:=Sh h hx;rw[lm hk,aad];generalize lX b p ((bl b p).take k)=s at eI qz⊢;obtain⟨L1,T1,a1⟩:=s;simp only at eI qz⊢;have fH:Sm (gt (bl b p) k).az:=by unfold Sm;omega
  unfold C8;simp only[dX,bb hk,aI,aP hk,aq,asx (l:=kR b) (by omega),axN fH (l:=kR b) (by omega)];have auK:(kR b).filter (λc=>decide (c∈(gt (bl b p) k).az))=qd b (gt (bl b p) k):=rfl;rw[auK,ba (by omega)];unfold Gr;by_cases hs:(gt (bl b p) k).aj=[]
  ·rw[aH hs,dF (c:=len (gt (bl b p) k).aj>0) (by rw[hs];decide)];simp only[aE,aD,aq]
  ·have sH:len (gt (bl b p) k).aj>0:=by have:=List.length_pos_iff.2 hs;unfold len;omega
   have xf:(⟨b.aB,b.ae,b.aj,b.az,b.bi,b.aZ⟩:aw)=b:=rfl;have rD:(⟨(b_ b p L1 T1).aG,(b_ b p L1 T1).aj,(b_ b p L1 T1).aX,(b_ b p L1 T1).aS⟩:ax)=b_ b p L1 T1:=rfl;rw[aL hs,dT sH];simp only[aI,aq,xf,rD,show idx (gt (bl b p) k).aB 0=aa (gt (gt (bl b p) k).aB 0)from aP p5,arc hb hp h eI T1 hx hs o1 (by omega) (a:=a++a1) (by rw[cW];omega),abN];obtain⟨l1,l2⟩:=Mc (x:=gt (bl b p) k) (T:=T1) (s:=(L1,a1)) h eI o1;generalize iJ b (gt (bl b p) k) T1 (qd b (gt (bl b p) k)) (L1,a1)=s at l1 l2⊢;obtain⟨L2,a2⟩:=s;simp only at l1 l2⊢;have atx:(⟨(b_ b p L1 T1).aG,(b_ b p L1 T1).aj,L2,(b_ b p L1 T1).aS⟩:ax)=b_ b p L2 T1:=rfl;rw[atx,am5 hb hp h l1 T1 hx hs o1 (by omega) (a:=a++a2) (by rw[cW];omega),Zw];rfl) (by
  unfold C8;simp only[dX,bJ,aE,aD,oU];rfl) (by omega)
 have DF:aJ (C8 (kR b) (bl b p)) (0,dX b (b_ b p p.aX []) (a++[]))=_:=fy;rw[anG,List.append_nil]at DF;rw[show aJ (C8 (kR b) (bl b p)) (0,b.aB,b.ae,b.aj,b.az,b.bi,b.aZ,p.aG,p.aj,p.aX,p.aS,a)=_ from DF];rfl
end
end Rx
namespace Rx
section
variable {b:aw} {p:ax} {L T:List Int} {x:bu}
structure Row(b:aw)(x:bu)(o:List Int):Prop where
 nd:x.az.Nodup
 ond:o.Nodup
 mem:∀c,c∈o↔c∈x.az
 bd:∀c∈x.az,0<=c∧c<(b.az.length:Int)
end
end Rx
namespace Rx
section
variable {b:aw} {p:ax} {L T:List Int} {x:bu}
def RC(h:bj b p=0):mL p (xO b p).1:=by have:=(KL h (bl b p).length (bx _)).1;rw[oU]at this;exact this
def anC(h:bj b p=0):bj b (Gn b p)=0:=QL h (RC h) _
def an8(hp:dt p)(h:bj b p=0):dt (Gn b p):=QV hp (RC h) _
end
end Rx
namespace Rx
section
variable {b:aw} {p:ax} {L T:List Int} {x:bu}
end
end Rx
namespace Rx
section
variable {b:aw} {p:ax}
def aeV{q:ax}(hb:q.aS=p.aS)(hs:∀j,j<p.aj.length->(gt q.aj j).State=(gt p.aj j).State){x:cH}(hx:x.Kind=2->0<=x.B∧x.B<p.aj.length):jc q x=jc p x:=by
 unfold jc da;rw[hb];by_cases h2:x.Kind=2
 ·have:=hx h2;rw[hs x.B.toNat (by omega)]
 ·by_cases h1:x.Kind=1
  ·rw[aH h1,aH h1]
  ·rw[aL h1,aL h2,aL h1,aL h2]
def afa(h:bj b p=0){i:Nat}(hi:i<b.ae.length):gt (lH b p).aG i=(gt p.aG i&& !jc p (gt b.ae i)&& !dead b (jv b p) (gt b.ae i)):=by obtain⟨s1,_⟩:=lI h;show gt (gR (gR p.aG _) _) i=_;rw[qe (by rw[kj];omega),qe (by omega)]
def aak(h:bj b p=0):mK b (jv b p) (lH b p):=(aoI h).trans (aoH (JY h))
def xI(h:bj b p=0):bj b (lH b p)=0:=ZN (JY h)
def Z4(hp:dt p):dt (lH b p):=Z3 (Z5 hp)
def ao9{x1:ax}{x:bu}{out:List bo}{i:Nat}(fH:Sm x.aj)(hi:idx x.aj 0=aa (i:Int))(ep:i<x1.aj.length)(h:∀k∈x.aj,0<=k∧k<out.length):
  aJ (Bu x1 x) ((0:Int),out)=aa (kM out (gt x1.aj i) x.aj):=by
 refine dQ (step:=Bu x1 x) (λk=>((k:Int),kM out (gt x1.aj i) (x.aj.take k))) x.aj.length (λk hk=>?_) (by simp only[Bu,bJ,aE,aD,oU])
 obtain⟨k0,k1⟩:=h _ (dx hk)
 obtain⟨j,hj⟩:=Int.eq_ofNat_of_zero_le k0
 have hj:gt x.aj k=(j:Int):=hj
 have dj:j<(kM out (gt x1.aj i) (x.aj.take k)).length:=by rw[Gs];omega
 have vD:j<((kM out (gt x1.aj i) (x.aj.take k)).set j {gt (kM out (gt x1.aj i) (x.aj.take k)) j with aZ:=(gt x1.aj i).aZ}).length:=by simpa using dj
 simp only[Bu,bb hk,aI,aP hk,hi,aP ep,aq,hj,aP dj,jC dj,aP vD,jC vD,ba (eP fH hk),gH dj,lm hk,RE,iH,List.set_set]
 rfl
def ao8(hb:cE b)(hl:gn b)(DD:p.aj.length=b.aj.length){x1:ax}(rz:x1.aj=p.aj):aJ (Nu x1 (bl b p)) ((0:Int),p.aj)=aa (lG b p):=by
 have pF:=hl.jg;have mB:=hl.src;have lD:=G5 (b:=b) (p:=p);refine Qp.1 ?_;refine dV (bl b p).length (λk s=>∃out,s=((k:Int),out)∧out.length=p.aj.length∧∀j,j<p.aj.length->gt out j=if ∃q,q<k∧(j:Int)∈(gt (bl b p) q).aj then ky b p j else gt p.aj j) ⟨_,rfl,rfl,λj hj=>by rw[aL (by rintro⟨q,hq,_⟩;omega)]⟩ ?_ ?_
 ·rintro k s hk ⟨out,rfl,h1,h2⟩;have hx:=dx hk;have yt:∀s∈(gt (bl b p) k).aj,0<=s∧s<(p.aj.length:Int):=λs hs=>by obtain⟨j,rfl,h,_⟩:=Aw hx hs;omega
  unfold Nu;simp only[bb hk,aI,aP hk,aq];have pA:∀j:Nat,(∃q,q<k+1∧(j:Int)∈(gt (bl b p) q).aj)↔(∃q,q<k∧(j:Int)∈(gt (bl b p) q).aj)∨(j:Int)∈(gt (bl b p) k).aj:=λj=>by
   constructor
   ·rintro⟨q,hq,h⟩;by_cases TQ:q=k
    ·subst TQ;exact .inr h
    ·exact .inl ⟨q,by omega,h⟩
   ·rintro(⟨q,hq,h⟩|h)
    ·exact⟨q,by omega,h⟩
    ·exact⟨k,by omega,h⟩
  by_cases h0:(gt (bl b p) k).aj.length=0
  ·have e2:(gt (bl b p) k).aj=[]:=List.length_eq_zero_iff.1 h0;have e3:aJ (Bu x1 (gt (bl b p) k)) ((0:Int),out)=aa out:=oz (.done (by simp[Bu,e2,len])) (by omega);rw[e3];simp only[aq];refine au.2 ⟨out,by rw[ba (by omega)],h1,λj hj=>?_⟩;rw[h2 j hj];have hi:(∃q,q<k+1∧(j:Int)∈(gt (bl b p) q).aj)↔(∃q,q<k∧(j:Int)∈(gt (bl b p) q).aj):=by rw[pA,e2];simp
   by_cases hh:∃q,q<k∧(j:Int)∈(gt (bl b p) q).aj
   ·rw[aH hh,aH (hi.2 hh)]
   ·rw[aL hh,aL (λh=>hh (hi.1 h))]
  ·have hlen:0<(gt (bl b p) k).aj.length:=by omega
   obtain⟨i,f1,f2,f3,f4⟩:=Aw hx (dx hlen);have e0:idx (gt (bl b p) k).aj 0=aa (i:Int):=by have:=aP hlen;rw[f1]at this;exact this
   have fH:Sm (gt (bl b p) k).aj:=by obtain⟨f,_,e,_⟩:=Aj.1 hx;rw[e];have:=(Dy (b:=b) (p:=p) f).2.1;unfold Sm;omega
   rw[ao9 fH e0 (by rw[rz];omega) (λs hs=>by have:=yt s hs;omega),rz];simp only[aq];refine au.2 ⟨_,by rw[ba (by omega)],by rw[Gs];exact h1,λj hj=>?_⟩;rw[RF _ _ _ _ (λs hs=>by have:=yt s hs;omega),h2 j hj];by_cases ug:(j:Int)∈(gt (bl b p) k).aj
   ·rw[aH ug,aH ((pA j).2 (.inr ug))];obtain⟨j',g1,g2,g3,g4⟩:=Aw hx ug;have:j'=j:=by omega
    subst this;have Hy:lz b p j'=i:=by unfold lz;rw[<-g4,f1,iH]
    have hf:ky b p j'=wO (gt p.aj j') (gt p.aj i):=by unfold ky;rw[aH g3,Hy]
    rw[hf];split<;>rfl
   ·rw[aL ug];by_cases hh:∃q,q<k∧(j:Int)∈(gt (bl b p) q).aj
    ·rw[aH hh,aH ((pA j).2 (.inl hh))]
    ·rw[aL hh,aL (λh=>((pA j).1 h).elim hh ug)]
 ·rintro s ⟨out,rfl,h1,h2⟩;unfold Nu;simp only[bJ,aE,aD];refine au.2 ?_;apply jZ
  ·rw[vL,h1]
  ·intro j hj;rw[h2 j (by omega),yM (by omega)];by_cases hc:(conn b p (j:Int)).2=ab
   ·obtain⟨g1,g2⟩:=QS hb (show j<b.aj.length by omega) hc;obtain⟨q,hq,e⟩:=ou g1;rw[aH ⟨q,hq,by rw[e];exact g2⟩]
   ·have hf:ky b p j=gt p.aj j:=by unfold ky;rw[aL hc]
    rw[hf];split<;>rfl
def ao'(h:dt p):ND p=aa (p.aG,p.aj,p.aX,p.aS):=by obtain⟨h1,h2,h3,h4⟩:=h;unfold Sm at*;unfold ND;rw[cK (by simp;omega),cK (by simp;omega),cK (by simp;omega),cK (by simp;omega)];rfl
def ao7(hb:fu b)(hp:dt p)(h:bj b p=0):Nv b p=aa (0,p.aG,lG b p,p.aX,p.aS):=by
 obtain⟨⟨hl,hg⟩,⟨s1,s2,s3⟩,_⟩:=fh.1 h;unfold Nv Vx;have e:(bj b p !=0)=ai:=by rw[h];rfl
 simp only[GH hb hp,aq,e,aE,aD,ao' hp,ao6 hb hp h,ao8 hg.1 hl s2 (x1:=p) rfl]
end
end Rx
namespace Rx
section
variable {b:aw} {p:ax} {L T:List Int} {x:bu}
end
end Rx
namespace Rx
section
variable {b:aw} {p q:ax} {L T:List Int} {x:bu}
structure Clean(b:aw)(p:ax):Prop where
 jc:∀i,i<b.ae.length->gt p.aG i=ab->jc p (gt b.ae i)=ai
 dead:∀i,i<b.ae.length->gt p.aG i=ab->dead b p (gt b.ae i)=ai
 ky:lG b p=p.aj
def aye(h:bj b p=0):Clean b (lH b p):=by
 obtain⟨s1,s2,_⟩:=lI h;refine⟨λi hi hc=>?_,λi hi hc=>?_,aer (JY h)⟩
 ·rw[afa h hi]at hc;rw[aeV (q:=lH b p) (p:=p) rfl (λj hj=>(aak h).st j hj) (QT h hi)];cases Ux:Rx.jc p (gt b.ae i)with
  |false=>rfl
  |true=>rw[Ux]at hc;simp at hc
 ·rw[afa h hi]at hc;unfold Rx.dead at hc⊢;rw[(aak h).sC (QN h) (xI h)];cases Ux:((gt b.ae i).Kind==3&& !sC b (jv b p) (gt b.ae i).A)with
  |false=>rfl
  |true=>rw[Ux]at hc;simp at hc
def awl(hS:mK b p q)(hs:q.aj=p.aj):lG b q=lG b p:=by unfold lG;rw[hs];refine List.map_congr_left λj _=>?_;unfold Rx.ky lz eL;rw[hS.conn,hS.cr,(hS.QR _).1,hs]
def ayd(h:bj b p=0)(hC:Clean b p)(hL:mL p L)(T:List Int):Clean b (b_ b p L T):=by
 have hS:=RN h L T;refine⟨λi hi hc=>?_,λi hi hc=>?_,?_⟩
 ·rw[aeV (q:=b_ b p L T) (p:=p) rfl (λ_ _=>rfl) (QT h hi)];exact hC.jc i hi (GR hc)
 ·have:=hC.dead i hi (GR hc);unfold Rx.dead at this⊢;rw[hS.sC h (QL h hL T)];exact this
 ·rw[awl hS rfl];exact hC.ky
def lY(b:aw)(p:ax):ax:=Gn b (lH b p)
def xZ(b:aw)(p:ax):List Act:=xm b p++(xO b (lH b p)).2.2
def afb(h:bj b p=0):(xm b p).length<=48:=by obtain⟨s1,_,s3,_⟩:=lI h;have h1:=Bm p.aG λi=>Rx.jc p (gt b.ae i);have h2:=Bm (jv b p).aG λi=>Rx.dead b (jv b p) (gt b.ae i);have h3:(jv b p).aG.length=p.aG.length:=kj _ _;unfold xm;simp only[cW,q8];omega
def anD(h:bj b p=0):bj b (lY b p)=0:=anC (xI h)
def an9(hp:dt p)(h:bj b p=0):dt (lY b p):=an8 (Z4 hp) (xI h)
def apW(hb:fu b)(hp:dt p)(h:bj b p=0):KG b p=aa (0,(lY b p).aG,(lY b p).aj,(lY b p).aX,(lY b p).aS,xZ b p):=by unfold KG Rr Rw;rw[xJ hb hp,h];simp only[aq,mi,aE,aD,EC hp];rw[show(⟨b,⟨p.aG,p.aj,p.aX,p.aS⟩,[]⟩:fF)=⟨b,p,[]⟩from rfl,ax' hb hp h];simp only[aq];have e:=aov hb (Z4 (b:=b) hp) (xI h) (a:=xm b p) (by have:=afb h;omega);rw[show(⟨⟨b.aB,b.ae,b.aj,b.az,b.bi,b.aZ⟩,⟨(lH b p).aG,(lH b p).aj,(lH b p).aX,(lH b p).aS⟩,xm b p⟩:fF)=⟨b,lH b p,xm b p⟩from rfl,e];rfl
end
end Rx
namespace Rx
section
variable {b:aw} {p q:ax} {L T:List Int} {x:bu}
def axv{a b:List bo}(ha:Sm a):Kg a b=aa (dB (a=b)):=by
 unfold Kg;by_cases hl:a.length=b.length
 ·have e1:(len a !=len b)=ai:=by simp[len,hl]
  have h:=Md (step:=CQ a b) (λk=>(k:Int)) a.length (λk=>gt a k≠gt b k) (r:= .inr ai) (e:= .inl ())
   (λk hk hp=>by have e2:=(aat (gt a k) (gt b k)).2 (r_.1 hp);simp only[CQ,bb hk,aI,aP hk,aP (show k<b.length by omega),aq,e2,ei,aE,aD,ba (eP ha hk)])
   (λk hk hp=>by
     have e2:((gt a k).State==(gt b k).State&&((gt a k).gJ==(gt b k).gJ&&((gt a k).aZ==(gt b k).aZ&&(gt a k).bi==(gt b k).bi)))=ai:=by
      cases hh:((gt a k).State==(gt b k).State&&((gt a k).gJ==(gt b k).gJ&&((gt a k).aZ==(gt b k).aZ&&(gt a k).bi==(gt b k).bi)))with
      |false=>rfl
      |true=>exact(hp ((aat _ _).1 hh)).elim
     simp only[CQ,bb hk,aI,aP hk,aP (show k<b.length by omega),aq,e2,lP])
   (by simp only[CQ,bJ,aE,aD])
  have h':aJ (CQ a b) 0=_:=h;simp only[e1,aE,aD,h',aq];by_cases he:a=b
  ·subst he;rw[gU (p:=∃k,k<a.length∧gt a k≠gt a k) (by simp),iN rfl];rfl
  ·have:∃k,k<a.length∧gt a k≠gt b k:=by
    apply gC;intro hn;exact he (jZ hl λk hk=>gC λh=>hn ⟨k,hk,h⟩)
   rw[iN this,gU he];rfl
 ·have e1:(len a !=len b)=ab:=by simp[len];omega
  have he:a≠b:=λe=>hl (e▸rfl);rw[gU he];simp only[e1,aI]
def axw{a b:List Part}(ha:Sm a):Kh a b=aa (dB (a=b)):=by
 unfold Kh;by_cases hl:a.length=b.length
 ·have e1:(len a !=len b)=ai:=by simp[len,hl]
  have h:=Md (step:=CR a b) (λk=>(k:Int)) a.length (λk=>gt a k≠gt b k) (r:= .inr ai) (e:= .inl ())
   (λk hk hp=>by have e2:=(aa_ (gt a k) (gt b k)).2 (r_.1 hp);simp only[CR,bb hk,aI,aP hk,aP (show k<b.length by omega),aq,e2,ei,aE,aD,ba (eP ha hk)])
   (λk hk hp=>by
     have e2:((gt a k).Kind==(gt b k).Kind&&(gt a k).Number==(gt b k).Number)=ai:=by
      cases hh:((gt a k).Kind==(gt b k).Kind&&(gt a k).Number==(gt b k).Number)with
      |false=>rfl
      |true=>exact(hp ((aa_ _ _).1 hh)).elim
     simp only[CR,bb hk,aI,aP hk,aP (show k<b.length by omega),aq,e2,lP])
   (by simp only[CR,bJ,aE,aD])
  have h':aJ (CR a b) 0=_:=h;simp only[e1,aE,aD,h',aq];by_cases he:a=b
  ·subst he;rw[gU (p:=∃k,k<a.length∧gt a k≠gt a k) (by simp),iN rfl];rfl
  ·have:∃k,k<a.length∧gt a k≠gt b k:=by
    apply gC;intro hn;exact he (jZ hl λk hk=>gC λh=>hn ⟨k,hk,h⟩)
   rw[iN this,gU he];rfl
 ·have e1:(len a !=len b)=ab:=by simp[len];omega
  have he:a≠b:=λe=>hl (e▸rfl);rw[gU he];simp only[e1,aI]
end
end Rx
namespace Rx
section
variable {b:aw} {p q:ax}
def aju(b:aw)(p:ax)(c:Int):Bool:=(vN b p c).2&&(sC b p (vN b p c).1&&(!da p 4 c&& !al (gt p.aX c.toNat<(gt b.az c.toNat).eX)))
def CD(b:aw)(p:ax):Nat->Int->Bool
 |0,_=>ai
 |n+1,c=>aju b p c&&(gt b.az c.toNat).cf.all (CD b p n)
def aqO(hg:qU b){c:Int}(hc:0<=c∧c<(b.az.length:Int)):(gt b.az c.toNat).cf.length<=4∧∀d∈(gt b.az c.toNat).cf,0<=d∧d<c:=by have h:=hg.2.2.2.2 c.toNat (by omega);refine⟨h.2.2.2.2.2,λd hd=>?_⟩;obtain⟨i,hi,rfl⟩:=ou hd;have:=(h.1 i hi).1;omega
def axe{P:Int->Bool}{l:List Int}:l.all P=match(bW l.length).find? (λk=> !P (gt l k))with
  |some _=>ai
  |none=>ab:=by
 cases hf:(bW l.length).find? (λk=> !P (gt l k))with
 |some k=>
  have hk:=eu.1 (List.mem_of_find?_eq_some hf)
  have hp:=List.find?_some hf
  refine List.all_eq_false.2 ⟨_,dx hk,?_⟩
  simpa using hp
 |none=>
  refine List.all_eq_true.2 λc hc=>?_
  obtain⟨k,hk,rfl⟩:=ou hc
  have:=tu.1 hf k (eu.2 hk)
  simpa using this
def aae(hb:fu b)(hp:dt p)(h:bj b p=0):∀(n:Nat) (c:Int),0<=c->c<(b.az.length:Int)->c<(n:Int)->wE n b p c=aa (CD b p n c)
 |0,c,h0,h1,h2=>by omega
 |n+1,c,h0,h1,h2=>by
  obtain⟨⟨hl,hg⟩,⟨s1,s2,s3⟩,_⟩:=fh.1 h;obtain⟨n1,n2⟩:=aqO hg ⟨h0,h1⟩;have ih:=aae hb hp h n;show Ru (wE n) b p c=_;unfold Ru CD aju;rw[axi hb hp];simp only[aq];cases hf:(vN b p c).2 with
  |false=>simp only[lP,aI,aq,Bool.false_and]
  |true=>
   simp only[ei,aE,aD,abV hb hp,aq,B8];cases hv:sC b p (vN b p c).1 with
   |false=>simp only[lP,aI,aq,Bool.false_and]
   |true=>
    simp only[ei,aE,aD,ajp hp,aq,B8];cases hk:da p 4 c with
    |true=>simp only[aI,aq,ei,Bool.false_and]
    |false=>
     simp only[aE,aD,lP,B8];rw[iL (l:=p.aX) h0 (by omega),iL (l:=b.az) h0 h1];simp only[aq];cases hle:al (gt p.aX c.toNat<(gt b.az c.toNat).eX)with
     |true=>simp only[aI,ei,Bool.false_and]
     |false=>
      simp only[aE,aD,lP,B8];generalize (gt b.az c.toNat).cf=l at n1 n2⊢;unfold Rh Q2;have nM:=vm (step:=CJ (wE n) l b p) (λk=>(k:Int)) l.length (λk=> !CD b p n (gt l k)) (R:=λk=> .inr (k:Int)) (e:= .inl ()) (λk hk hp=>by
       have hd:=n2 _ (dx hk);unfold CJ KF;simp only[bb hk,aI,aP hk,aq,ih (gt l k) hd.1 (by omega) (by omega),hp,aE,aD];rw[ba (by omega)]) (λk hk hp=>by
       have hd:=n2 _ (dx hk);unfold CJ KF;simp only[bb hk,aI,aP hk,aq,ih (gt l k) hd.1 (by omega) (by omega),hp]) (by
       unfold CJ;simp only[bJ,aE,aD]) (by omega)
      have atX:aJ (CJ (wE n) l b p) 0=_:=nM;rw[atX,axe];cases(bW l.length).find? (λk=> !CD b p n (gt l k))with
      |none=>rfl
      |some k=>simp only[aq,Sum.elim_inr];rw[dT (by omega)];rfl
def aoC(hb:fu b)(hp:dt p)(h:bj b p=0){c:Int}(hc:0<=c∧c<(b.az.length:Int)):aaa b p c=aa (CD b p 64 c):=by have qA:=(fh.1 h).1.1.iO;exact aae hb hp h 64 c hc.1 hc.2 (by omega)
