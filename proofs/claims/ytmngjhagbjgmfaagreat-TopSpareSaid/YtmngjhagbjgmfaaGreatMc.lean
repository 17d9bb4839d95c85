import Derived.Test.YtmngjhagbjgmfaaGreatMb
set_option linter.all false
open Bool renaming false->ai,false_eq_true->aD,not_false->lM,not_true->eg,true->ab,true_and->B4
open Classical renaming byContradiction->gw,not_not->rW
open Decidable renaming decide->ak
open Int renaming toNat_natCast->iE
open List renaming find?_eq_none->tp,length_append->cU,length_cons->jO,length_map->qX,length_take->oU,mem_range->er,range->bV,take_length->oR
open Nat renaming le_refl->bw
open Option renaming bind_some->al,some->aa
noncomputable section
namespace Go.Proofs.YtmngjhagbjgmfaaGreat
open Go Go.RowKit Dp
namespace Rx
section
variable {b:au} {p:aw} {L T:List Int}
def q9(b:au)(T:List Int)(i:Nat):Bool:=(gt b.ae i).Kind==3&&ak ((gt b.ae i).B∈T)
def b9(b:au)(p:aw)(L T:List Int):aw:=⟨gN p.aF (q9 b T),p.aj,L,p.aR⟩
structure mI(p:aw)(L:List Int):Prop where
 len:L.length=p.aW.length
 le:∀k,k<L.length->0<=gt L k∧gt L k<=gt p.aW k
def arv(h:bi b p=0):mI p p.aW:=⟨rfl,λk hk=>by obtain⟨_,_,_,_,_,h6⟩:=lF h;have:=Mf h (k:=k) (by omega);omega⟩
def SW(h:bi b p=0){k:Nat}(hk:k<b.ay.length):0<=(gt b.ay k).eU∧(gt b.ay k).eU<=50000:=by obtain⟨⟨hl,hg⟩,_⟩:=ff.1 h;have h1:=(hg.2.2.2.2 k hk).2;omega
def QH(h:bi b p=0)(hL:mI p L)(T:List Int):bi b (b9 b p L T)=0:=by
 have hx:bi b {p with aF:=gN p.aF (q9 b T)}=0:=QI h (kb _ _) rfl rfl rfl λk hk=>GN hk;obtain⟨h1,⟨s1,s2,s3⟩,⟨g1,g2⟩,g3,g4⟩:=ff.1 hx;refine ff.2 ⟨h1,⟨s1,s2,by show L.length=_;rw[hL.len];exact s3⟩,⟨g1,g2⟩,g3,λk hk=>?_⟩;have cT:k<p.aW.length:=by rw[<-hL.len];exact hk
 obtain⟨a,c⟩:=g4 k cT;have h2:=hL.le k hk;refine⟨⟨h2.1,Int.le_trans h2.2 a.2⟩,?_⟩;refine Nat.le_trans (ae_ (b:=b) (p:={p with aF:=gN p.aF (q9 b T)}) (q:=b9 b p L T) (λj hj=>hj) b.ae.length) c
def QR(hp:dp p)(hL:mI p L)(T:List Int):dp (b9 b p L T):=by
 obtain⟨h1,h2,h3,h4⟩:=hp;refine⟨?_,h2,?_,h4⟩
 ·show Sm (gN p.aF _);unfold Sm at h1⊢;rw[kb];exact h1
 ·show Sm L;unfold Sm at h3⊢;rw[hL.len];exact h3
def RJ(h:bi b p=0)(L T:List Int):mH b p (b9 b p L T):=by obtain⟨s1,_⟩:=lF h;refine⟨rfl,λ_ _=>rfl,λk hk h3=>?_⟩;show gt (gN p.aF _) k=_;rw[p_ (by omega)];unfold q9;rw[dG h3];simp
def aqb(C:List Bool)(P Q:Nat->Bool):gN (gN C P) Q=gN C λi=>P i||Q i:=by refine jW (by simp[kb]) λi hi=>?_;rw[kb,kb]at hi;rw[p_ (by rw[kb];exact hi),p_ hi,p_ hi];cases gt C i<;>cases P i<;>rfl
def aqe{C:List Bool}{P Q:Nat->Bool}(h:∀i,i<C.length->P i=Q i):gN C P=gN C Q:=by refine jW (by simp[kb]) λi hi=>?_;rw[kb]at hi;rw[p_ hi,p_ hi,h i hi]
def aqc(C:List Bool){P:Nat->Bool}(h:∀i,P i=ai):gN C P=C:=by refine jW (by simp[kb]) λi hi=>?_;rw[kb]at hi;rw[p_ hi,h i];simp
def anC(p:aw):b9 b p p.aW []=p:=by unfold b9;rw[aqc p.aF λi=>by unfold q9;simp]
def am0(T:List Int)(c:Int)(i:Nat):q9 b (T++[c]) i=(q9 b T i||((gt b.ae i).Kind==3&&(gt b.ae i).B==c)):=by
 unfold q9;cases(gt b.ae i).Kind==3 with
 |false=>rfl
 |true=>simp only[B4,List.mem_append,List.mem_singleton,Bool.decide_or];rw[show ak ((gt b.ae i).B=c)=((gt b.ae i).B==c)from rfl]
def arF(h:bi b p=0)(L:List Int){T:List Int}{c:Int}(hc:c∉T):gb b (b9 b p L T) 3 c=gb b p 3 c:=by obtain⟨s1,_⟩:=lF h;refine abT λk hk h3 hB=>?_;show gt (gN p.aF _) k=_;rw[p_ (by omega)];unfold q9;rw[hB,Jl hc];simp
def arE(h:bi b p=0)(L:List Int){T:List Int}{c:Int}(hc:c∈T):(gb b (b9 b p L T) 3 c).2=ai:=by
 obtain⟨s1,_⟩:=lF h;unfold gb;have:(bV b.ae.length).find? (mT b (b9 b p L T) 3 c)=none:=by rw[tp];intro k hk he;have hk:=er.1 hk;unfold mT at he;simp only[Bool.and_eq_true,xr]at he;obtain⟨⟨h3,hB⟩,cY⟩:=he;have cY:gt (gN p.aF (q9 b T)) k=ab:=cY;rw[p_ (by omega)]at cY;unfold q9 at cY;rw[h3,hB,vZ hc]at cY;simp at cY
 rw[this]
def apK(P:Nat->Bool)(Q:Int->Bool)(n:Nat):(bC P n).filter Q=bC (λi=>P i&&Q (i:Int)) n:=by unfold bC;rw[List.filter_map,List.filter_filter];congr 1;refine List.filter_congr λi _=>?_;simp[Bool.and_comm]
def left(T l:List Int):List Int:=l.filter λc=> !ak (c∈T)
def ar1(h:bi b p=0)(L T:List Int)(f:Nat):dW b (b9 b p L T) f=⟨(dW b p f).aA,(dW b p f).aj,left T (dW b p f).ay⟩:=by
 have hS:=RJ h L T;obtain⟨e1,e2⟩:=hS.QN f;have e3:(dW b (b9 b p L T) f).ay=left T (dW b p f).ay:=by
  show bC (gZ b (b9 b p L T) f) _=left T (bC (gZ b p f) _);unfold left;rw[apK];congr 1;funext j;unfold gZ;rw[hS.cq];by_cases hc:(j:Int)∈T
  ·rw[arE h L hc,vZ hc];simp
  ·rw[arF h L hc,Jl hc];simp
 rw[<-e1,<-e2,<-e3]
def aql(h:bi b p=0)(hL:mI p L)(T:List Int)(k:Int):(fO b (b9 b p L T) k).1=⟨(fO b p k).1.aA,(fO b p k).1.aj,left T (fO b p k).1.ay⟩:=by
 unfold fO;by_cases c:0<=k∧k<b.aA
 ·rw[aG ⟨QH h hL T,c⟩,aG ⟨h,c⟩];try simp only
  unfold eJ;rw[(RJ h L T).cq];exact ar1 h L T _
 ·rw[aK λx=>c x.2,aK λx=>c x.2];rfl
def vK(b:au)(x:bt)(T L:List Int):Int:=imax 0 (ny (gt L) (left T x.ay)-xS b x)
def arB{T l:List Int}{c:Int}(h:c∈left T l):c∈l∧c∉T:=by unfold left at h;rw[List.mem_filter]at h;exact⟨h.1,by simpa using h.2⟩
def arC(T l:List Int):(left T l).length<=l.length:=List.length_filter_le _ _
def SP(h:bi b p=0)(hL:mI p L){k:Nat}(hk:k<b.ay.length):0<=gt L k∧gt L k<=50000:=by obtain⟨_,_,_,_,_,h6⟩:=lF h;have h1:=hL.le k (by rw[hL.len];omega);have h2:=Mf h hk;omega
def apI(h:bi b p=0){x:bt}(hx:x∈bj b p):0<=xS b x∧xS b x<=400000:=by
 obtain⟨⟨hl,hg⟩,_⟩:=ff.1 h;obtain⟨h1,h2,h3,h4,_⟩:=G0 hg.1 hx;have h8:=hl.src;have:=JT (f:=λk=>(gt b.aj k).ig) (l:=x.aj) (B:=50000) (λc hc=>by have:=h2 c hc;have:=RY h (k:=c.toNat) (by omega);exact⟨by omega,this.2⟩)
 unfold xS;omega
def ant(h:bi b p=0)(hL:mI p L){x:bt}(hx:x∈bj b p)(T:List Int):0<=ny (gt L) (left T x.ay)∧ny (gt L) (left T x.ay)<=800000:=by
 obtain⟨⟨hl,hg⟩,_⟩:=ff.1 h;obtain⟨h1,h2,h3,h4,_⟩:=G0 hg.1 hx;have h8:=hl.iL;have h9:=arC T x.ay;have:=JT (f:=gt L) (l:=left T x.ay) (B:=50000) (λc hc=>by have:=h1 c (arB hc).1;exact SP h hL (by omega))
 omega
def aeC(hb:fp b)(hp:dp p)(h:bi b p=0)(hL:mI p L)(T:List Int){x:bt}(hx:x∈bj b p)(hs:x.aj≠[])(a:List Act):GA ⟨b,b9 b p L T,a⟩ (gt x.aA 0)=aa (vK b x T L):=by
 unfold GA;simp only[ark hb (QR (b:=b) hp hL T),apH hb (QR (b:=b) hp hL T),al];rw[aql h hL T,ar5 h hx];have h1:=ant h hL hx T;have h2:=apI h hx;have e1:Me (b9 b p L T) ⟨x.aA,x.aj,left T x.ay⟩=ny (gt L) (left T x.ay):=by unfold Me;rw[aK hs];rfl
 have e2:xS b ⟨x.aA,x.aj,left T x.ay⟩=xS b x:=rfl;rw[e1,e2,bY (by omega) (by omega)];rfl
def sU(b:au)(x:bt)(T L:List Int)(c:Int):Int:=eu (vK b x T L) (gt L c.toNat-(gt b.ay c.toNat).eU)
def rl(b:au)(x:bt)(T:List Int)(s:List Int×List Act)(c:Int):List Int×List Act:=
 if 0<sU b x T s.1 c then(s.1.set c.toNat (gt s.1 c.toNat-sU b x T s.1 c),s.2++[⟨5,c,gt s.1 c.toNat-sU b x T s.1 c⟩])else s
def iG(b:au)(x:bt)(T o:List Int)(s:List Int×List Act):List Int×List Act:=o.foldl (rl b x T) s
def aeW{x:bt}{c:Int}:sU b x T L c<=gt L c.toNat-(gt b.ay c.toNat).eU∧sU b x T L c<=vK b x T L:=by unfold sU eu;split<;>omega
def ara(h:bi b p=0){x:bt}{T:List Int}{s:List Int×List Act}(hL:mI p s.1){c:Int}(hc:0<=c∧c<(b.ay.length:Int)):mI p (rl b x T s c).1∧(rl b x T s c).2.length<=s.2.length+1:=by
 obtain⟨_,_,_,_,_,h6⟩:=lF h;have hlen:=hL.len;unfold rl;by_cases h0:0<sU b x T s.1 c
 ·rw[aG h0];have h1:=aeW (b:=b) (x:=x) (T:=T) (L:=s.1) (c:=c);have h2:=SW h (k:=c.toNat) (by omega);refine⟨⟨by simp[hlen],λk hk=>?_⟩,by simp⟩;rw[List.length_set]at hk;try simp only
  rw[gE (by omega)];have h3:=hL.le k hk;by_cases e:k=c.toNat
  ·subst e;rw[aG rfl];omega
  ·rw[aK e];exact h3
 ·rw[aK h0];exact⟨hL,by omega⟩
def L9(h:bi b p=0){x:bt}{T:List Int}:∀{o:List Int} {s:List Int×List Act},mI p s.1->(∀c∈o,0<=c∧c<(b.ay.length:Int))->mI p (iG b x T o s).1∧(iG b x T o s).2.length<=s.2.length+o.length
 |[],s,hL,ho=>⟨hL,bw _⟩
 |c::o,s,hL,ho=>by obtain⟨h1,h2⟩:=ara (T:=T) (x:=x) h hL (ho c (by simp));obtain⟨h3,h4⟩:=L9 (x:=x) (T:=T) h (o:=o) h1 (λd hd=>ho d (by simp[hd]));have e:iG b x T (c::o) s=iG b x T o (rl b x T s c):=rfl;rw[e];exact⟨h3,by simp only[jO];omega⟩
def arc{x:bt}{o:List Int}{c:Int}{s:List Int×List Act}:iG b x T (o++[c]) s=rl b x T (iG b x T o s) c:=by unfold iG;rw[List.foldl_append];rfl
def q_(b:au)(p:aw)(x:bt)(L:List Int)(s:List Int×List Act)(c:Int):List Int×List Act:=
 if 0<gt L c.toNat∧0<vK b x s.1 L then(s.1++[c],s.2++(gr (b9 b p L s.1).aF λi=>(gt b.ae i).Kind==3&&(gt b.ae i).B==c).map qN)else s
def ld(b:au)(p:aw)(x:bt)(L o:List Int)(s:List Int×List Act):List Int×List Act:=o.foldl (q_ b p x L) s
def am5{x:bt}{o:List Int}{c:Int}{s:List Int×List Act}:ld b p x L (o++[c]) s=q_ b p x L (ld b p x L o s) c:=by unfold ld;rw[List.foldl_append];rfl
def am3{x:bt}{s:List Int×List Act}{c:Int}(h:p.aF.length<=1000):(q_ b p x L s c).2.length<=s.2.length+1000:=by
 unfold q_;split
 ·have:=Bi (b9 b p L s.1).aF λi=>(gt b.ae i).Kind==3&&(gt b.ae i).B==c;have e:(b9 b p L s.1).aF.length=p.aF.length:=kb _ _;simp only[cU,qX];omega
 ·omega
def QB{x:bt}(h:p.aF.length<=1000):∀{o:List Int} {s:List Int×List Act},(ld b p x L o s).2.length<=s.2.length+1000*o.length
 |[],s=>bw _
 |c::o,s=>by have h1:=am3 (b:=b) (p:=p) (L:=L) (x:=x) (s:=s) (c:=c) h;have h2:=QB (x:=x) h (o:=o) (s:=q_ b p x L s c);have e:ld b p x L (c::o) s=ld b p x L o (q_ b p x L s c):=rfl;rw[e];simp only[jO];omega
def Gm(b:au)(p:aw)(s:List Int×List Int×List Act)(x:bt):List Int×List Int×List Act:=
 if x.aj=[]then s else
  ((iG b x s.2.1 (p9 b x) (s.1,s.2.2)).1,ld b p x (iG b x s.2.1 (p9 b x) (s.1,s.2.2)).1 (p9 b x) (s.2.1,(iG b x s.2.1 (p9 b x) (s.1,s.2.2)).2))
def lU(b:au)(p:aw)(l:List bt):List Int×List Int×List Act:=l.foldl (Gm b p) (p.aW,[],[])
def Z_(l:List bt)(x:bt):lU b p (l++[x])=Gm b p (lU b p l) x:=by unfold lU;rw[List.foldl_append];rfl
def Sc(h:bi b p=0){x:bt}(hx:x∈bj b p):(∀c∈x.ay,0<=c∧c<(b.ay.length:Int))∧(∀c∈p9 b x,0<=c∧c<(b.ay.length:Int))∧(p9 b x).length<=16:=by
 obtain⟨⟨hl,hg⟩,_⟩:=ff.1 h;obtain⟨h1,_⟩:=G0 hg.1 hx;have h2:∀c∈x.ay,0<=c∧c<(b.ay.length:Int):=λc hc=>by have:=h1 c hc;omega
 refine⟨h2,λc hc=>h2 c ((ap4 h2).1 hc),?_⟩;have:=ap5 b x;have:=hl.iL;omega
def KH(h:bi b p=0):∀k,k<=(bj b p).length->mI p (lU b p ((bj b p).take k)).1∧(lU b p ((bj b p).take k)).2.2.length<=20000*k
 |0,_=>⟨arv h,bw _⟩
 |k+1,hk=>by
  obtain⟨h1,h2⟩:=KH h k (by omega);obtain⟨s1,_,s3,_⟩:=lF h;rw[lh (by omega),Z_];have hx:=du (l:=bj b p) (k:=k) (by omega);obtain⟨_,o1,o2⟩:=Sc h hx;unfold Gm;split
  ·exact⟨h1,by omega⟩
  ·obtain⟨l1,l2⟩:=L9 (x:=gt (bj b p) k) (T:=(lU b p ((bj b p).take k)).2.1) (s:=((lU b p ((bj b p).take k)).1,(lU b p ((bj b p).take k)).2.2)) h h1 o1;refine⟨l1,?_⟩;have:=QB (b:=b) (p:=p) (L:=(iG b (gt (bj b p) k) (lU b p ((bj b p).take k)).2.1 (p9 b (gt (bj b p) k)) ((lU b p ((bj b p).take k)).1,(lU b p ((bj b p).take k)).2.2)).1) (x:=gt (bj b p) k) (by omega) (o:=p9 b (gt (bj b p) k)) (s:=((lU b p ((bj b p).take k)).2.1,(iG b (gt (bj b p) k) (lU b p ((bj b p).take k)).2.1 (p9 b (gt (bj b p) k)) ((lU b p ((bj b p).take k)).1,(lU b p ((bj b p).take k)).2.2)).2));simp only at this l2⊢;omega
end
end Rx
namespace Rx
section
variable {b:au} {p:aw} {L T:List Int}
def axN(h:bi b p=0)(hL:mI p L)(T:List Int){x:bt}(hx:x∈bj b p){c:Int}(hc:0<=c∧c<(b.ay.length:Int)):eu (vK b x T L) (W (gt L c.toNat-(gt b.ay c.toNat).eU))=sU b x T L c:=by have h1:=SP h hL (k:=c.toNat) (by omega);have h2:=SW h (k:=c.toNat) (by omega);rw[bY (by omega) (by omega)];rfl
def aq_(hb:fp b)(hp:dp p)(h:bi b p=0)(hL:mI p L)(T:List Int){x:bt}(hx:x∈bj b p)(hs:x.aj≠[]){o:List Int}(ho:∀c∈o,0<=c∧c<(b.ay.length:Int))(AM:o.length<=1000){a:List Act}(ha:a.length<=10000000):
  Lc ⟨b,b9 b p L T,a⟩ o (gt x.aA 0)=aa (b.aA,b.ae,b.aj,b.ay,b.bh,b.aY,(b9 b p L T).aF,(b9 b p L T).aj,(iG b x T o (L,a)).1,(b9 b p L T).aR,o,(iG b x T o (L,a)).2):=by
 have jp:∀k,mI p (iG b x T (o.take k) (L,a)).1∧(iG b x T (o.take k) (L,a)).2.length<=a.length+(o.take k).length:=λk=>L9 h (s:=(L,a)) hL λc hc=>ho c (List.mem_of_mem_take hc)
 obtain⟨_,_,_,_,_,h6⟩:=lF h
 have fw:=dO (step:=Gz ⟨b,b9 b p L T,a⟩ o (gt x.aA 0)) (r:=(b.aA,b.ae,b.aj,b.ay,b.bh,b.aY,(iG b x T o (L,a)).1,(iG b x T o (L,a)).2)) (λk=>((k:Int),b.aA,b.ae,b.aj,b.ay,b.bh,b.aY,(iG b x T (o.take k) (L,a)).1,(iG b x T (o.take k) (L,a)).2)) o.length (λk hk=>by
  obtain⟨eG,qq⟩:=jp k;have hc:=ho _ (du hk);rw[oU]at qq;rw[lh hk,arc];generalize iG b x T (o.take k) (L,a)=s at eG qq⊢;obtain⟨L1,a1⟩:=s;simp only at eG qq⊢;have hlen:=eG.len;unfold Gz;have hex:=aeC hb hp h eG T hx hs a1;have xa:(⟨b.aA,b.ae,b.aj,b.ay,b.bh,b.aY⟩:au)=b:=rfl;have rA:(⟨(b9 b p L T).aF,(b9 b p L T).aj,L1,(b9 b p L T).aR⟩:aw)=b9 b p L1 T:=rfl;simp only[ba hk,aH,aO hk,al,xa,rA,hex];rw[iI (l:=L1) hc.1 (by omega),iI (l:=b.ay) hc.1 hc.2];simp only[al,axN h eG T hx hc];rw[a_ (by omega)];have h1:=SP h eG (k:=(gt o k).toNat) (by omega);have h2:=SW h (k:=(gt o k).toNat) (by omega);have h3:=aeW (b:=b) (x:=x) (T:=T) (L:=L1) (c:=gt o k);unfold rl;by_cases h0:0<sU b x T L1 (gt o k)
  ·rw[dT (c:=sU b x T L1 (gt o k)>0) h0,aG h0,bY (by omega) (by omega),CS hc.1 (by omega)];simp only[aH,al];rw[iI (l:=L1.set (gt o k).toNat _) hc.1 (by rw[List.length_set];omega)];simp only[al];rw[gE (by omega),aG rfl,cJ (by simp;omega)];rfl
  ·rw[dF (c:=sU b x T L1 (gt o k)>0) h0,aK h0];simp only[aD,aC,al]) (by
  unfold Gz;simp only[bI,aD,aC,oR]) (by omega)
 unfold Lc
 have DB:aI (Gz ⟨b,b9 b p L T,a⟩ o (gt x.aA 0)) (0,b.aA,b.ae,b.aj,b.ay,b.bh,b.aY,L,a)=_:=fw
 try simp only
 rw[show(b9 b p L T).aW=L from rfl,DB]
 rfl
def ap'(hl:p.aF.length<=b.ae.length)(T:List Int)(c:Int):gN (b9 b p L T).aF (λi=>(gt b.ae i).Kind==3&&(gt b.ae i).B==c)=(b9 b p L (T++[c])).aF:=by show gN (gN p.aF (q9 b T)) _=gN p.aF (q9 b (T++[c]));rw[aqb];exact aqe λi _=>(am0 T c i).symm
def anq(hp:dp p)(h:bi b p=0)(hL:mI p L)(T:List Int){a:List Act}(ha:a.length<=1000000)(c:Int):
  K_ ⟨b,b9 b p L T,a⟩ c=aa (b.aA,b.ae,b.aj,b.ay,b.bh,b.aY,(b9 b p L (T++[c])).aF,p.aj,L,p.aR,c,a++(gr (b9 b p L T).aF λi=>(gt b.ae i).Kind==3&&(gt b.ae i).B==c).map qN):=by
 obtain⟨s1,s2,s3,_⟩:=lF h
 have cY:(b9 b p L T).aF.length=p.aF.length:=kb _ _
 unfold K_
 have e1:aI (Gx ⟨b,b9 b p L T,a⟩ c) (0,[])=aa (gr (b9 b p L T).aF λi=>(gt b.ae i).Kind==3&&(gt b.ae i).B==c):=by
  have:=dO (step:=Gx ⟨b,b9 b p L T,a⟩ c) (r:=gr (b9 b p L T).aF λi=>(gt b.ae i).Kind==3&&(gt b.ae i).B==c) (λk=>((k:Int),bC (λi=>gt (b9 b p L T).aF i&&((gt b.ae i).Kind==3&&(gt b.ae i).B==c)) k)) b.ae.length (λk hk=>by
   have lY:=oi (λi=>gt (b9 b p L T).aF i&&((gt b.ae i).Kind==3&&(gt b.ae i).B==c)) k;unfold Gx Ro;simp only[ba hk,aH,aO hk,al,aO (l:=(b9 b p L T).aF) (k:=k) (by omega)];rw[a_ (by omega),pd];generalize bC (λi=>gt (b9 b p L T).aF i&&((gt b.ae i).Kind==3&&(gt b.ae i).B==c)) k=R at lY⊢;cases gt (b9 b p L T).aF k with
   |false=>simp
   |true=>
    cases(gt b.ae k).Kind==3 with
    |false=>simp
    |true=>
     cases(gt b.ae k).B==c with
     |false=>simp
     |true=>simp only[aH,al,Bool.and_self];rw[cJ (by simp;omega)];rfl) (by
   unfold Gx;simp only[bI,aD,aC];unfold gr;rw[cY,s1]) (by omega)
  simpa[bC]using this
 rw[e1]
 have eH:=Bi (b9 b p L T).aF λi=>(gt b.ae i).Kind==3&&(gt b.ae i).B==c
 have e2:=Sf (b:=b) (p:=b9 b p L T) (a:=a) (l:=gr (b9 b p L T).aF λi=>(gt b.ae i).Kind==3&&(gt b.ae i).B==c) (by omega) (by omega) (by omega) Bh
 rw[U4,ap' (by omega)]at e2
 simp only[al]
 rw[show aI (aaD (gr (b9 b p L T).aF λi=>(gt b.ae i).Kind==3&&(gt b.ae i).B==c)) (0,b.aA,b.ae,b.aj,b.ay,b.bh,b.aY,(b9 b p L T).aF,(b9 b p L T).aj,(b9 b p L T).aW,(b9 b p L T).aR,a)=_ from e2]
 rfl
def am1(hb:fp b)(hp:dp p)(h:bi b p=0)(hL:mI p L)(T:List Int){x:bt}(hx:x∈bj b p)(hs:x.aj≠[]){o:List Int}(ho:∀c∈o,0<=c∧c<(b.ay.length:Int))(AM:o.length<=100){a:List Act}(ha:a.length<=500000):
  KX ⟨b,b9 b p L T,a⟩ o (gt x.aA 0)=aa (b.aA,b.ae,b.aj,b.ay,b.bh,b.aY,(b9 b p L (ld b p x L o (T,a)).1).aF,p.aj,L,p.aR,o,(ld b p x L o (T,a)).2):=by
 obtain⟨s1,_,s3,_,_,h6⟩:=lF h
 have hlen:=hL.len
 have jp:∀k,(ld b p x L (o.take k) (T,a)).2.length<=a.length+1000*(o.take k).length:=λk=>QB (by omega)
 have fw:=dO (step:=Gv o (gt x.aA 0)) (r:=dV b (b9 b p L (ld b p x L o (T,a)).1) (ld b p x L o (T,a)).2) (λk=>((k:Int),dV b (b9 b p L (ld b p x L (o.take k) (T,a)).1) (ld b p x L (o.take k) (T,a)).2)) o.length (λk hk=>by
  have qq:=jp k;have hc:=ho _ (du hk);rw[oU]at qq;rw[lh hk,am5];generalize ld b p x L (o.take k) (T,a)=s at qq⊢;obtain⟨T1,a1⟩:=s;simp only at qq⊢;have hex:=aeC hb hp h hL T1 hx hs a1;have xa:(⟨b.aA,b.ae,b.aj,b.ay,b.bh,b.aY⟩:au)=b:=rfl;have rA:(⟨(b9 b p L T1).aF,(b9 b p L T1).aj,(b9 b p L T1).aW,(b9 b p L T1).aR⟩:aw)=b9 b p L T1:=rfl;unfold Gv;simp only[dV,ba hk,aH,aO hk,al,xa,rA,hex];rw[iI (l:=(b9 b p L T1).aW) hc.1 (by show _<(L.length:Int);omega)];simp only[al];rw[a_ (by omega)];have hT:q_ b p x L (T1,a1) (gt o k)=if 0<gt L (gt o k).toNat∧0<vK b x T1 L then(T1++[gt o k],a1++(gr (b9 b p L T1).aF λi=>(gt b.ae i).Kind==3&&(gt b.ae i).B==gt o k).map qN)else(T1,a1):=rfl
  by_cases h1:0<gt L (gt o k).toNat
  ·rw[dT (c:=gt (b9 b p L T1).aW (gt o k).toNat>0) h1];by_cases h2:0<vK b x T1 L
   ·rw[aG ⟨h1,h2⟩]at hT;rw[hT,dT (c:=vK b x T1 L>0) h2];simp only[aH,al,anq hp h hL T1 (a:=a1) (by omega) (gt o k)];rfl
   ·rw[aK λc=>h2 c.2]at hT;rw[hT,dF (c:=vK b x T1 L>0) h2];simp only[aH,aD,aC,al]
  ·rw[aK λc=>h1 c.1]at hT;rw[hT,dF (c:=gt (b9 b p L T1).aW (gt o k).toNat>0) h1];simp only[aD,aC,al]) (by
  unfold Gv;simp only[dV,bI,aD,aC,oR]) (by omega)
 unfold KX
 have DB:aI (Gv o (gt x.aA 0)) (0,b.aA,b.ae,b.aj,b.ay,b.bh,b.aY,(b9 b p L T).aF,(b9 b p L T).aj,(b9 b p L T).aW,(b9 b p L T).aR,a)=_:=fw
 try simp only
 rw[DB]
 rfl
def arb{a0 a:List Act}{x:bt}{c:Int}:rl b x T (L,a0++a) c=((rl b x T (L,a) c).1,a0++(rl b x T (L,a) c).2):=by
 unfold rl;by_cases h:0<sU b x T L c
 ·rw[aG h,aG h];simp
 ·rw[aK h,aK h]
def abJ{a0:List Act}{x:bt}:∀{o:List Int} {L:List Int} {a:List Act},iG b x T o (L,a0++a)=((iG b x T o (L,a)).1,a0++(iG b x T o (L,a)).2)
 |[],L,a=>rfl
 |c::o,L,a=>by have e:∀s,iG b x T (c::o) s=iG b x T o (rl b x T s c):=λ_=>rfl;rw[e,e,arb,abJ]
def am4{a0 a:List Act}{x:bt}{c:Int}:q_ b p x L (T,a0++a) c=((q_ b p x L (T,a) c).1,a0++(q_ b p x L (T,a) c).2):=by
 unfold q_;by_cases h:0<gt L c.toNat∧0<vK b x T L
 ·rw[aG h,aG h];simp
 ·rw[aK h,aK h]
def Zs{a0:List Act}{x:bt}:∀{o:List Int} {T:List Int} {a:List Act},ld b p x L o (T,a0++a)=((ld b p x L o (T,a)).1,a0++(ld b p x L o (T,a)).2)
 |[],T,a=>rfl
 |c::o,T,a=>by have e:∀s,ld b p x L (c::o) s=ld b p x L o (q_ b p x L s c):=λ_=>rfl;rw[e,e,am4,Zs]
def ast{l:List Int}(h:l.length<=1000000):uU l=aa l:=by unfold uU;rw[cJ (by simp;omega)];simp
def xK(b:au)(p:aw):List Int×List Int×List Act:=lU b p (bj b p)
def Gj(b:au)(p:aw):aw:=b9 b p (xK b p).1 (xK b p).2.1
def aor(hb:fp b)(hp:dp p)(h:bi b p=0){a:List Act}(ha:a.length<=1000):La ⟨b,p,a⟩=aa (dV b (Gj b p) (a++(xK b p).2.2)):=by
 obtain⟨⟨hl,hg⟩,_⟩:=ff.1 h;have UB:ng b=0:=Bw.2 ⟨hl,hg⟩;have lA:=G1 (b:=b) (p:=p);have pC:=hl.jd;have qx:=hl.iL;have AM:(kO b).length<=16:=by rw[aba];exact qx
 unfold La;simp only[ap7 hb UB,S6 hb hp h,al];have fw:=dO (step:=C4 (kO b) (bj b p)) (r:=dV b (Gj b p) (a++(xK b p).2.2)) (λk=>((k:Int),dV b (b9 b p (lU b p ((bj b p).take k)).1 (lU b p ((bj b p).take k)).2.1) (a++(lU b p ((bj b p).take k)).2.2))) (bj b p).length (λk hk=>by
  obtain⟨eG,qq⟩:=KH h k (by omega);have hx:=du hk;obtain⟨p1,p2,p3,p4,p5⟩:=G0 hg.1 hx;obtain⟨_,o1,o2⟩:=Sc h hx;rw[lh hk,Z_];generalize lU b p ((bj b p).take k)=s at eG qq⊢;obtain⟨L1,T1,a1⟩:=s;simp only at eG qq⊢;have fF:Sm (gt (bj b p) k).ay:=by unfold Sm;omega
  unfold C4;simp only[dV,ba hk,aH,aO hk,al,ast (l:=kO b) (by omega),axJ fF (l:=kO b) (by omega)];have auG:(kO b).filter (λc=>decide (c∈(gt (bj b p) k).ay))=p9 b (gt (bj b p) k):=rfl;rw[auG,a_ (by omega)];unfold Gm;by_cases hs:(gt (bj b p) k).aj=[]
  ·rw[aG hs,dF (c:=len (gt (bj b p) k).aj>0) (by rw[hs];decide)];simp only[aD,aC,al]
  ·have sD:len (gt (bj b p) k).aj>0:=by have:=List.length_pos_iff.2 hs;unfold len;omega
   have xa:(⟨b.aA,b.ae,b.aj,b.ay,b.bh,b.aY⟩:au)=b:=rfl;have rA:(⟨(b9 b p L1 T1).aF,(b9 b p L1 T1).aj,(b9 b p L1 T1).aW,(b9 b p L1 T1).aR⟩:aw)=b9 b p L1 T1:=rfl;rw[aK hs,dT sD];simp only[aH,al,xa,rA,show idx (gt (bj b p) k).aA 0=aa (gt (gt (bj b p) k).aA 0)from aO p5,aq_ hb hp h eG T1 hx hs o1 (by omega) (a:=a++a1) (by rw[cU];omega),abJ];obtain⟨l1,l2⟩:=L9 (x:=gt (bj b p) k) (T:=T1) (s:=(L1,a1)) h eG o1;generalize iG b (gt (bj b p) k) T1 (p9 b (gt (bj b p) k)) (L1,a1)=s at l1 l2⊢;obtain⟨L2,a2⟩:=s;simp only at l1 l2⊢;have att:(⟨(b9 b p L1 T1).aF,(b9 b p L1 T1).aj,L2,(b9 b p L1 T1).aR⟩:aw)=b9 b p L2 T1:=rfl;rw[att,am1 hb hp h l1 T1 hx hs o1 (by omega) (a:=a++a2) (by rw[cU];omega),Zs];rfl) (by
  unfold C4;simp only[dV,bI,aD,aC,oR];rfl) (by omega)
 have DB:aI (C4 (kO b) (bj b p)) (0,dV b (b9 b p p.aW []) (a++[]))=_:=fw;rw[anC,List.append_nil]at DB;rw[show aI (C4 (kO b) (bj b p)) (0,b.aA,b.ae,b.aj,b.ay,b.bh,b.aY,p.aF,p.aj,p.aW,p.aR,a)=_ from DB];rfl
end
end Rx
namespace Rx
section
variable {b:au} {p:aw} {L T:List Int} {x:bt}
structure Row(b:au)(x:bt)(o:List Int):Prop where
 nd:x.ay.Nodup
 ond:o.Nodup
 mem:∀c,c∈o↔c∈x.ay
 bd:∀c∈x.ay,0<=c∧c<(b.ay.length:Int)
end
end Rx
namespace Rx
section
variable {b:au} {p:aw} {L T:List Int} {x:bt}
def Ry(h:bi b p=0):mI p (xK b p).1:=by have:=(KH h (bj b p).length (bw _)).1;rw[oR]at this;exact this
def anx(h:bi b p=0):bi b (Gj b p)=0:=QH h (Ry h) _
def an4(hp:dp p)(h:bi b p=0):dp (Gj b p):=QR hp (Ry h) _
end
end Rx
namespace Rx
section
variable {b:au} {p:aw} {L T:List Int} {x:bt}
end
end Rx
namespace Rx
section
variable {b:au} {p:aw}
def aeR{q:aw}(hb:q.aR=p.aR)(hs:∀j,j<p.aj.length->(gt q.aj j).State=(gt p.aj j).State){x:cG}(hx:x.Kind=2->0<=x.B∧x.B<p.aj.length):iZ q x=iZ p x:=by
 unfold iZ cZ;rw[hb];by_cases h2:x.Kind=2
 ·have:=hx h2;rw[hs x.B.toNat (by omega)]
 ·by_cases h1:x.Kind=1
  ·rw[aG h1,aG h1]
  ·rw[aK h1,aK h2,aK h1,aK h2]
def ae8(h:bi b p=0){i:Nat}(hi:i<b.ae.length):gt (lE b p).aF i=(gt p.aF i&& !iZ p (gt b.ae i)&& !dead b (jr b p) (gt b.ae i)):=by obtain⟨s1,_⟩:=lF h;show gt (gN (gN p.aF _) _) i=_;rw[p_ (by rw[kb];omega),p_ (by omega)]
def aag(h:bi b p=0):mH b (jr b p) (lE b p):=(aoE h).trans (aoD (JU h))
def xE(h:bi b p=0):bi b (lE b p)=0:=ZJ (JU h)
def ZY(hp:dp p):dp (lE b p):=ZX (ZZ hp)
def ao5{x1:aw}{x:bt}{out:List bn}{i:Nat}(fF:Sm x.aj)(hi:idx x.aj 0=aa (i:Int))(ek:i<x1.aj.length)(h:∀k∈x.aj,0<=k∧k<out.length):
  aI (Bq x1 x) ((0:Int),out)=aa (kJ out (gt x1.aj i) x.aj):=by
 refine dO (step:=Bq x1 x) (λk=>((k:Int),kJ out (gt x1.aj i) (x.aj.take k))) x.aj.length (λk hk=>?_) (by simp only[Bq,bI,aD,aC,oR])
 obtain⟨k0,k1⟩:=h _ (du hk)
 obtain⟨j,hj⟩:=Int.eq_ofNat_of_zero_le k0
 have hj:gt x.aj k=(j:Int):=hj
 have dh:j<(kJ out (gt x1.aj i) (x.aj.take k)).length:=by rw[Gn];omega
 have vz:j<((kJ out (gt x1.aj i) (x.aj.take k)).set j {gt (kJ out (gt x1.aj i) (x.aj.take k)) j with aY:=(gt x1.aj i).aY}).length:=by simpa using dh
 simp only[Bq,ba hk,aH,aO hk,hi,aO ek,al,hj,aO dh,jy dh,aO vz,jy vz,a_ (eN fF hk),gE dh,lh hk,RA,iE,List.set_set]
 rfl
def ao4(hb:cD b)(hl:gj b)(Dz:p.aj.length=b.aj.length){x1:aw}(rq:x1.aj=p.aj):aI (Nq x1 (bj b p)) ((0:Int),p.aj)=aa (lD b p):=by
 have pC:=hl.jd;have mx:=hl.src;have lA:=G1 (b:=b) (p:=p);refine Ql.1 ?_;refine dS (bj b p).length (λk s=>∃out,s=((k:Int),out)∧out.length=p.aj.length∧∀j,j<p.aj.length->gt out j=if ∃q,q<k∧(j:Int)∈(gt (bj b p) q).aj then ko b p j else gt p.aj j) ⟨_,rfl,rfl,λj hj=>by rw[aK (by rintro⟨q,hq,_⟩;omega)]⟩ ?_ ?_
 ·rintro k s hk ⟨out,rfl,h1,h2⟩;have hx:=du hk;have yo:∀s∈(gt (bj b p) k).aj,0<=s∧s<(p.aj.length:Int):=λs hs=>by obtain⟨j,rfl,h,_⟩:=Ar hx hs;omega
  unfold Nq;simp only[ba hk,aH,aO hk,al];have px:∀j:Nat,(∃q,q<k+1∧(j:Int)∈(gt (bj b p) q).aj)↔(∃q,q<k∧(j:Int)∈(gt (bj b p) q).aj)∨(j:Int)∈(gt (bj b p) k).aj:=λj=>by
   constructor
   ·rintro⟨q,hq,h⟩;by_cases TM:q=k
    ·subst TM;exact .inr h
    ·exact .inl ⟨q,by omega,h⟩
   ·rintro(⟨q,hq,h⟩|h)
    ·exact⟨q,by omega,h⟩
    ·exact⟨k,by omega,h⟩
  by_cases h0:(gt (bj b p) k).aj.length=0
  ·have e2:(gt (bj b p) k).aj=[]:=List.length_eq_zero_iff.1 h0;have e3:aI (Bq x1 (gt (bj b p) k)) ((0:Int),out)=aa out:=ou (.done (by simp[Bq,e2,len])) (by omega);rw[e3];simp only[al];refine ar.2 ⟨out,by rw[a_ (by omega)],h1,λj hj=>?_⟩;rw[h2 j hj];have hi:(∃q,q<k+1∧(j:Int)∈(gt (bj b p) q).aj)↔(∃q,q<k∧(j:Int)∈(gt (bj b p) q).aj):=by rw[px,e2];simp
   by_cases hh:∃q,q<k∧(j:Int)∈(gt (bj b p) q).aj
   ·rw[aG hh,aG (hi.2 hh)]
   ·rw[aK hh,aK (λh=>hh (hi.1 h))]
  ·have hlen:0<(gt (bj b p) k).aj.length:=by omega
   obtain⟨i,f1,f2,f3,f4⟩:=Ar hx (du hlen);have e0:idx (gt (bj b p) k).aj 0=aa (i:Int):=by have:=aO hlen;rw[f1]at this;exact this
   have fF:Sm (gt (bj b p) k).aj:=by obtain⟨f,_,e,_⟩:=Af.1 hx;rw[e];have:=(Du (b:=b) (p:=p) f).2.1;unfold Sm;omega
   rw[ao5 fF e0 (by rw[rq];omega) (λs hs=>by have:=yo s hs;omega),rq];simp only[al];refine ar.2 ⟨_,by rw[a_ (by omega)],by rw[Gn];exact h1,λj hj=>?_⟩;rw[RB _ _ _ _ (λs hs=>by have:=yo s hs;omega),h2 j hj];by_cases uc:(j:Int)∈(gt (bj b p) k).aj
   ·rw[aG uc,aG ((px j).2 (.inr uc))];obtain⟨j',g1,g2,g3,g4⟩:=Ar hx uc;have:j'=j:=by omega
    subst this;have Hu:lp b p j'=i:=by unfold lp;rw[<-g4,f1,iE]
    have hf:ko b p j'=wK (gt p.aj j') (gt p.aj i):=by unfold ko;rw[aG g3,Hu]
    rw[hf];split<;>rfl
   ·rw[aK uc];by_cases hh:∃q,q<k∧(j:Int)∈(gt (bj b p) q).aj
    ·rw[aG hh,aG ((px j).2 (.inl hh))]
    ·rw[aK hh,aK (λh=>((px j).1 h).elim hh uc)]
 ·rintro s ⟨out,rfl,h1,h2⟩;unfold Nq;simp only[bI,aD,aC];refine ar.2 ?_;apply jW
  ·rw[vH,h1]
  ·intro j hj;rw[h2 j (by omega),yI (by omega)];by_cases hc:(conn b p (j:Int)).2=ab
   ·obtain⟨g1,g2⟩:=QO hb (show j<b.aj.length by omega) hc;obtain⟨q,hq,e⟩:=om g1;rw[aG ⟨q,hq,by rw[e];exact g2⟩]
   ·have hf:ko b p j=gt p.aj j:=by unfold ko;rw[aK hc]
    rw[hf];split<;>rfl
def ao7(h:dp p):Nz p=aa (p.aF,p.aj,p.aW,p.aR):=by obtain⟨h1,h2,h3,h4⟩:=h;unfold Sm at*;unfold Nz;rw[cJ (by simp;omega),cJ (by simp;omega),cJ (by simp;omega),cJ (by simp;omega)];rfl
def ao3(hb:fp b)(hp:dp p)(h:bi b p=0):Nr b p=aa (0,p.aF,lD b p,p.aW,p.aR):=by
 obtain⟨⟨hl,hg⟩,⟨s1,s2,s3⟩,_⟩:=ff.1 h;unfold Nr Vt;have e:(bi b p !=0)=ai:=by rw[h];rfl
 simp only[GC hb hp,al,e,aD,aC,ao7 hp,ao2 hb hp h,ao4 hg.1 hl s2 (x1:=p) rfl]
end
end Rx
namespace Rx
section
variable {b:au} {p:aw} {L T:List Int} {x:bt}
end
end Rx
namespace Rx
section
variable {b:au} {p q:aw} {L T:List Int} {x:bt}
structure Clean(b:au)(p:aw):Prop where
 iZ:∀i,i<b.ae.length->gt p.aF i=ab->iZ p (gt b.ae i)=ai
 dead:∀i,i<b.ae.length->gt p.aF i=ab->dead b p (gt b.ae i)=ai
 ko:lD b p=p.aj
def aya(h:bi b p=0):Clean b (lE b p):=by
 obtain⟨s1,s2,_⟩:=lF h;refine⟨λi hi hc=>?_,λi hi hc=>?_,aen (JU h)⟩
 ·rw[ae8 h hi]at hc;rw[aeR (q:=lE b p) (p:=p) rfl (λj hj=>(aag h).st j hj) (QP h hi)];cases Ut:Rx.iZ p (gt b.ae i)with
  |false=>rfl
  |true=>rw[Ut]at hc;simp at hc
 ·rw[ae8 h hi]at hc;unfold Rx.dead at hc⊢;rw[(aag h).sv (QJ h) (xE h)];cases Ut:((gt b.ae i).Kind==3&& !sv b (jr b p) (gt b.ae i).A)with
  |false=>rfl
  |true=>rw[Ut]at hc;simp at hc
def awh(hS:mH b p q)(hs:q.aj=p.aj):lD b q=lD b p:=by unfold lD;rw[hs];refine List.map_congr_left λj _=>?_;unfold Rx.ko lp eJ;rw[hS.conn,hS.cq,(hS.QN _).1,hs]
def ax'(h:bi b p=0)(hC:Clean b p)(hL:mI p L)(T:List Int):Clean b (b9 b p L T):=by
 have hS:=RJ h L T;refine⟨λi hi hc=>?_,λi hi hc=>?_,?_⟩
 ·rw[aeR (q:=b9 b p L T) (p:=p) rfl (λ_ _=>rfl) (QP h hi)];exact hC.iZ i hi (GN hc)
 ·have:=hC.dead i hi (GN hc);unfold Rx.dead at this⊢;rw[hS.sv h (QH h hL T)];exact this
 ·rw[awh hS rfl];exact hC.ko
def lV(b:au)(p:aw):aw:=Gj b (lE b p)
def xV(b:au)(p:aw):List Act:=xi b p++(xK b (lE b p)).2.2
def ae9(h:bi b p=0):(xi b p).length<=48:=by obtain⟨s1,_,s3,_⟩:=lF h;have h1:=Bi p.aF λi=>Rx.iZ p (gt b.ae i);have h2:=Bi (jr b p).aF λi=>Rx.dead b (jr b p) (gt b.ae i);have h3:(jr b p).aF.length=p.aF.length:=kb _ _;unfold xi;simp only[cU,qX];omega
def anz(h:bi b p=0):bi b (lV b p)=0:=anx (xE h)
def an5(hp:dp p)(h:bi b p=0):dp (lV b p):=an4 (ZY hp) (xE h)
def apS(hb:fp b)(hp:dp p)(h:bi b p=0):KC b p=aa (0,(lV b p).aF,(lV b p).aj,(lV b p).aW,(lV b p).aR,xV b p):=by unfold KC Rn Rr;rw[xF hb hp,h];simp only[al,me,aD,aC,Ey hp];rw[show(⟨b,⟨p.aF,p.aj,p.aW,p.aR⟩,[]⟩:fD)=⟨b,p,[]⟩from rfl,ax7 hb hp h];simp only[al];have e:=aor hb (ZY (b:=b) hp) (xE h) (a:=xi b p) (by have:=ae9 h;omega);rw[show(⟨⟨b.aA,b.ae,b.aj,b.ay,b.bh,b.aY⟩,⟨(lE b p).aF,(lE b p).aj,(lE b p).aW,(lE b p).aR⟩,xi b p⟩:fD)=⟨b,lE b p,xi b p⟩from rfl,e];rfl
end
end Rx
namespace Rx
section
variable {b:au} {p q:aw} {L T:List Int} {x:bt}
def axr{a b:List bn}(ha:Sm a):Kc a b=aa (dB (a=b)):=by
 unfold Kc;by_cases hl:a.length=b.length
 ·have e1:(len a !=len b)=ai:=by simp[len,hl]
  have h:=L_ (step:=CM a b) (λk=>(k:Int)) a.length (λk=>gt a k≠gt b k) (r:= .inr ai) (e:= .inl ())
   (λk hk hp=>by have e2:=(aap (gt a k) (gt b k)).2 (rW.1 hp);simp only[CM,ba hk,aH,aO hk,aO (show k<b.length by omega),al,e2,eg,aD,aC,a_ (eN ha hk)])
   (λk hk hp=>by
     have e2:((gt a k).State==(gt b k).State&&((gt a k).gG==(gt b k).gG&&((gt a k).aY==(gt b k).aY&&(gt a k).bh==(gt b k).bh)))=ai:=by
      cases hh:((gt a k).State==(gt b k).State&&((gt a k).gG==(gt b k).gG&&((gt a k).aY==(gt b k).aY&&(gt a k).bh==(gt b k).bh)))with
      |false=>rfl
      |true=>exact(hp ((aap _ _).1 hh)).elim
     simp only[CM,ba hk,aH,aO hk,aO (show k<b.length by omega),al,e2,lM])
   (by simp only[CM,bI,aD,aC])
  have h':aI (CM a b) 0=_:=h;simp only[e1,aD,aC,h',al];by_cases he:a=b
  ·subst he;rw[gQ (p:=∃k,k<a.length∧gt a k≠gt a k) (by simp),iK rfl];rfl
  ·have:∃k,k<a.length∧gt a k≠gt b k:=by
    apply gw;intro hn;exact he (jW hl λk hk=>gw λh=>hn ⟨k,hk,h⟩)
   rw[iK this,gQ he];rfl
 ·have e1:(len a !=len b)=ab:=by simp[len];omega
  have he:a≠b:=λe=>hl (e▸rfl);rw[gQ he];simp only[e1,aH]
def axs{a b:List Part}(ha:Sm a):Kd a b=aa (dB (a=b)):=by
 unfold Kd;by_cases hl:a.length=b.length
 ·have e1:(len a !=len b)=ai:=by simp[len,hl]
  have h:=L_ (step:=CN a b) (λk=>(k:Int)) a.length (λk=>gt a k≠gt b k) (r:= .inr ai) (e:= .inl ())
   (λk hk hp=>by have e2:=(aa6 (gt a k) (gt b k)).2 (rW.1 hp);simp only[CN,ba hk,aH,aO hk,aO (show k<b.length by omega),al,e2,eg,aD,aC,a_ (eN ha hk)])
   (λk hk hp=>by
     have e2:((gt a k).Kind==(gt b k).Kind&&(gt a k).Number==(gt b k).Number)=ai:=by
      cases hh:((gt a k).Kind==(gt b k).Kind&&(gt a k).Number==(gt b k).Number)with
      |false=>rfl
      |true=>exact(hp ((aa6 _ _).1 hh)).elim
     simp only[CN,ba hk,aH,aO hk,aO (show k<b.length by omega),al,e2,lM])
   (by simp only[CN,bI,aD,aC])
  have h':aI (CN a b) 0=_:=h;simp only[e1,aD,aC,h',al];by_cases he:a=b
  ·subst he;rw[gQ (p:=∃k,k<a.length∧gt a k≠gt a k) (by simp),iK rfl];rfl
  ·have:∃k,k<a.length∧gt a k≠gt b k:=by
    apply gw;intro hn;exact he (jW hl λk hk=>gw λh=>hn ⟨k,hk,h⟩)
   rw[iK this,gQ he];rfl
 ·have e1:(len a !=len b)=ab:=by simp[len];omega
  have he:a≠b:=λe=>hl (e▸rfl);rw[gQ he];simp only[e1,aH]
end
end Rx
namespace Rx
section
variable {b:au} {p q:aw}
def ajq(b:au)(p:aw)(c:Int):Bool:=(vJ b p c).2&&(sv b p (vJ b p c).1&&(!cZ p 4 c&& !ak (gt p.aW c.toNat<(gt b.ay c.toNat).eU)))
def Cz(b:au)(p:aw):Nat->Int->Bool
 |0,_=>ai
 |n+1,c=>ajq b p c&&(gt b.ay c.toNat).b_.all (Cz b p n)
def aqK(hg:qQ b){c:Int}(hc:0<=c∧c<(b.ay.length:Int)):(gt b.ay c.toNat).b_.length<=4∧∀d∈(gt b.ay c.toNat).b_,0<=d∧d<c:=by have h:=hg.2.2.2.2 c.toNat (by omega);refine⟨h.2.2.2.2.2,λd hd=>?_⟩;obtain⟨i,hi,rfl⟩:=om hd;have:=(h.1 i hi).1;omega
def axa{P:Int->Bool}{l:List Int}:l.all P=match(bV l.length).find? (λk=> !P (gt l k))with
  |some _=>ai
  |none=>ab:=by
 cases hf:(bV l.length).find? (λk=> !P (gt l k))with
 |some k=>
  have hk:=er.1 (List.mem_of_find?_eq_some hf)
  have hp:=List.find?_some hf
  refine List.all_eq_false.2 ⟨_,du hk,?_⟩
  simpa using hp
 |none=>
  refine List.all_eq_true.2 λc hc=>?_
  obtain⟨k,hk,rfl⟩:=om hc
  have:=tp.1 hf k (er.2 hk)
  simpa using this
def aaa(hb:fp b)(hp:dp p)(h:bi b p=0):∀(n:Nat) (c:Int),0<=c->c<(b.ay.length:Int)->c<(n:Int)->wA n b p c=aa (Cz b p n c)
 |0,c,h0,h1,h2=>by omega
 |n+1,c,h0,h1,h2=>by
  obtain⟨⟨hl,hg⟩,⟨s1,s2,s3⟩,_⟩:=ff.1 h;obtain⟨n1,n2⟩:=aqK hg ⟨h0,h1⟩;have ih:=aaa hb hp h n;show Rq (wA n) b p c=_;unfold Rq Cz ajq;rw[axe hb hp];simp only[al];cases hf:(vJ b p c).2 with
  |false=>simp only[lM,aH,al,Bool.false_and]
  |true=>
   simp only[eg,aD,aC,abR hb hp,al,B4];cases hv:sv b p (vJ b p c).1 with
   |false=>simp only[lM,aH,al,Bool.false_and]
   |true=>
    simp only[eg,aD,aC,ajl hp,al,B4];cases hk:cZ p 4 c with
    |true=>simp only[aH,al,eg,Bool.false_and]
    |false=>
     simp only[aD,aC,lM,B4];rw[iI (l:=p.aW) h0 (by omega),iI (l:=b.ay) h0 h1];simp only[al];cases hle:ak (gt p.aW c.toNat<(gt b.ay c.toNat).eU)with
     |true=>simp only[aH,eg,Bool.false_and]
     |false=>
      simp only[aD,aC,lM,B4];generalize (gt b.ay c.toNat).b_=l at n1 n2⊢;unfold Rb QY;have nJ:=vc (step:=CF (wA n) l b p) (λk=>(k:Int)) l.length (λk=> !Cz b p n (gt l k)) (R:=λk=> .inr (k:Int)) (e:= .inl ()) (λk hk hp=>by
       have hd:=n2 _ (du hk);unfold CF KB;simp only[ba hk,aH,aO hk,al,ih (gt l k) hd.1 (by omega) (by omega),hp,aD,aC];rw[a_ (by omega)]) (λk hk hp=>by
       have hd:=n2 _ (du hk);unfold CF KB;simp only[ba hk,aH,aO hk,al,ih (gt l k) hd.1 (by omega) (by omega),hp]) (by
       unfold CF;simp only[bI,aD,aC]) (by omega)
      have atT:aI (CF (wA n) l b p) 0=_:=nJ;rw[atT,axa];cases(bV l.length).find? (λk=> !Cz b p n (gt l k))with
      |none=>rfl
      |some k=>simp only[al,Sum.elim_inr];rw[dT (by omega)];rfl
def aoy(hb:fp b)(hp:dp p)(h:bi b p=0){c:Int}(hc:0<=c∧c<(b.ay.length:Int)):Z7 b p c=aa (Cz b p 64 c):=by have qx:=(ff.1 h).1.1.iL;exact aaa hb hp h 64 c hc.1 hc.2 (by omega)
